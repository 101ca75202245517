/- Certificates, library. -/
import Derived.JoinedCond
import Derived.ReadAgain
import Derived.WalkKit
import Derived.ProofKit
import Derived.OpenShut
import Derived.ChangeSame
import Derived.RowKit3
import Derived.Lib.LaidTab
import Derived.Test.YtbglidfgdmhlnaaGreatDoorV2
import Derived.Test.YtbglidfgdmhlnaaGreatDoorN2
import Derived.Test.YtbglidfgdmhlnaaGreatDoorS1
set_option linter.all false
noncomputable section
open Nat(beq ble le_refl zero_add zero_le)
open Option(getD_some map_some pure_def)
open List(all_cons all_eq_true append_assoc append_nil drop_zero getElem?_append_left getElem?_append_right getElem?_drop getElem?_map getElem?_of_mem getElem?_set_ne getElem?_set_self getElem?_take getElem_mem length_cons length_map length_range length_singleton map_cons map_nil mem_append mem_map mem_of_getElem? mem_range nil_append range range' replicate set_set take_of_length_le)
open Classical(choose_spec)
open Bool(false_eq_true)
open Go.IntKind(i64 signed wrap)
open Go.DataW(Trod TrodAll trod)
open Go.Value(okWide)
open Go.World(cell? sameAt)
namespace Go.VE
variable[bX]
abbrev Cf:=Fo×aX Fm×St
section
variable(S:Sys)(c:cn){β:Type}(Q:Out×St->aY β)
abbrev b7(cf:Cf):aY β:=rn S c Q cf.1 cf.2.1 cf.2.2
def kj(n:Nat)(cf:Cf):Cf:=(jg S c n cf.1 cf.2.1 cf.2.2).getD cf
structure Il where
 dr:Bool
 fr:List Nat
 d:Option Nat
 gd:Option (Nat×Bool)
 now:Bool
 k:K
 az:List Arg
 dd:List Nat
 l:List RO
 fs:List Fm
 st:St
def gA(n:Nat)(cf:Cf):aY Il:=match jg S c n cf.1 cf.2.1 cf.2.2 with
 |some (.ops dr fr (⟨d,gd,now,k,az,dd,[]⟩::l),fs,st)=>match wanted st.g gd with
  |some true=>some ⟨dr,fr,d,gd,now,k,az,dd,l,fs,st⟩|_=>none
 |_=>none
def nx(n:Nat)(cf:Cf)(φ:Il->St):Cf:=match gA S c n cf with
 |some p=>(.ops p.dr (if p.dr then(match p.k with|.p _|.r _=>p.fr|_=>match p.d with|some d=>d::p.fr|none=>p.fr)else p.fr) p.l,p.fs,rZ p.dd (φ p))|none=>cf
end
def xK(s:Nat)(b:X')(cf:Cf):Cf:=(cf.1,cf.2.1,{cf.2.2 with g:=bN cf.2.2.g s (.v (.bool b))})
def jmp(k:Nat)(fr:ST)(cf:Cf)(st:St):Cf:=match cf with
 |(.ops dr _ l,fs,_)=>(.ops dr fr (l.drop k),fs,st)|_=>(.rt,[],st)
def rM:RC->ST->QQ->St->Cf
 |c,[],fs,st=>(.rc c,fs,st)|.seq a b,i::p,fs,st=>if i=0 then rM a p (.seq b::fs) st else rM b p fs st|.cond _ a b,i::p,fs,st=>if i=0 then rM a p fs st else rM b p fs st|.block id c,_::p,fs,st=>rM c p (.blk id::fs) st|.gh _ c,_::p,fs,st=>rM c p fs st|.hg c g,_::p,fs,st=>rM c p (.gst g::fs) st|.loop c,_::p,_,st=>rM c p [] st|.each _ _ _ b,_::p,_,st=>rM b p [] st|c,_,fs,st=>(.rc c,fs,st)
section
variable{S:Sys}{c:cn}{β γ δ α:Type}{Q:Out×St->aY β}{e:γ->aY β}{cf:Cf}
theorem kX{n:Nat}{p:Il}(h:gA S c n cf=some p):jg S c n cf.1 cf.2.1 cf.2.2=some (.ops p.dr p.fr (⟨p.d,p.gd,p.now,p.k,p.az,p.dd,[]⟩::p.l),p.fs,p.st)/\wanted p.st.g p.gd=some true:=by unfold gA at h;grind
theorem rR{n:Nat}{m:aY δ}{φ:δ->Il->St}{f:δ->aY γ}{p:Il}(hp:gA S c n cf=some p)(B:Le (m.bind λx=>some (φ x p)) (gz S c p.dr p.fr ⟨p.d,none,p.now,p.k,p.az,[],[]⟩ p.st))
 (h:∀x,m=some x->Le ((f x).bind e) (b7 S c Q (nx S c n cf (φ x)))):Le ((m.bind f).bind e) (b7 S c Q cf):=by
 have⟨a,u⟩:=kX hp;refine E8 a rfl u B λx w=>?_
 have:=h x w;simp[nx,hp]at this;omega
theorem xO{n:Nat}{m:aY β}{φ:Il->St}{p:Il}(hp:gA S c n cf=some p)(B:gz S c p.dr p.fr ⟨p.d,none,p.now,p.k,p.az,[],[]⟩ p.st=some (φ p))
 (h:Le m (b7 S c Q (nx S c n cf φ))):Le m (b7 S c Q cf):=by
 have⟨a,u⟩:=kX hp;refine uf a rfl u B ?_;simp[nx,hp]at h;omega
theorem e_{α β:Type}{o:aY α}{f:α->β}{b:β}(h:o.map f=some b):∃a,o=some a/\f a=b:=ζf.1 h
theorem nL(n:Nat){m:aY β}{B:Cf}(h:Le m (b7 S c Q B))(D:jg S c n cf.1 cf.2.1 cf.2.2=some B:=by kernel_rfl):Le m (b7 S c Q cf):=CU D h
theorem bp(n s:Nat){t:X'}{x y:aY γ}(B:Le (x.bind e) (b7 S c Q (xK s true (kj S c n cf))))(D:Le (y.bind e) (b7 S c Q (xK s false (kj S c n cf))))
 (G:(jg S c n cf.1 cf.2.1 cf.2.2).map (λp=>bl p.2.2.g s)=some (some (.v (.bool t))):=by kernel_rfl):Le ((bg t x y).bind e) (b7 S c Q cf):=by
 have⟨p,u,a⟩:=e_ G;have b:kj S c n cf=p:=by unfold kj;grind
 rw[b]at B D;refine CU u ?_;cases t
 .have:xK s false p=p:=by unfold xK;rw[sH a]
  rw[this]at D;exact D
 have:xK s true p=p:=by unfold xK;rw[sH a]
 rw[this]at B;exact B
theorem cz(n s:Nat){t:X'}{x y:aY γ}(B:Le (x.bind e) (b7 S c Q (xK s false (kj S c n cf))))(D:Le (y.bind e) (b7 S c Q (xK s true (kj S c n cf))))
 (G:(jg S c n cf.1 cf.2.1 cf.2.2).map (λp=>bl p.2.2.g s)=some (some (.v (.bool (!t)))):=by kernel_rfl):Le ((bg t x y).bind e) (b7 S c Q cf):=by
 have⟨p,u,a⟩:=e_ G;have b:kj S c n cf=p:=by unfold kj;grind
 rw[b]at B D;refine CU u ?_;cases t
 .have:xK s true p=p:=by unfold xK;rw[show V.bool true=V.bool (!false)from rfl,sH a]
  rw[this]at D;exact D
 have:xK s false p=p:=by unfold xK;rw[show V.bool false=V.bool (!true)from rfl,sH a]
 rw[this]at B;exact B
theorem wM(n k:Nat)(fr:ST)(st:δ->St){m:aY δ}{f:δ->aY γ}(B:Le (m.bind λr=>b7 S c Q (jmp k fr (kj S c n cf) (st r))) (b7 S c Q cf))(a:∀r,Le ((f r).bind e) (b7 S c Q (jmp k fr (kj S c n cf) (st r)))):Le ((m.bind f).bind e) (b7 S c Q cf):=W8 _ B a
theorem bq(n:Nat){r:δ}{k:δ->Cf}(B:jg S c n cf.1 cf.2.1 cf.2.2=some (k r):=by kernel_rfl):Le ((some r).bind λr=>b7 S c Q (k r)) (b7 S c Q cf):=adf B rfl
theorem aZ{r:γ}{L:aY β}(h:L=e r:=by kernel_rfl):Le ((some r).bind e) L:=Le.of_eq h
theorem Ay(n:Nat){b:RC}{m:aY (Out×Tb bH)}(h:Le m (b7 S c zm (.rc b,[],(kj S c n cf).2.2)))(B:jg S c n cf.1 cf.2.1 cf.2.2=some (.nx,[],(kj S c n cf).2.2):=by kernel_rfl):Le m (b7 S c (Bt S c b) cf):=aaC B h
theorem KP(n:Nat){o:aY α}(A:aY α->St){f:α->aY γ}(B:∀x,o=some x->Le ((f x).bind e) (b7 S c Q ((kj S c n cf).1,(kj S c n cf).2.1,A (some x))))
 (D:jg S c n cf.1 cf.2.1 cf.2.2=some ((kj S c n cf).1,(kj S c n cf).2.1,A o):=by kernel_rfl):Le ((o.bind f).bind e) (b7 S c Q cf):=ab8 D B
theorem eV.aaj{S:Sys}{T:sQ}[bD δ]{f:Y'}{A:α->So}{p:α->aY δ}(B:T f=none)(a:S.E.keep f=false)(D:∀z r,p z=some r->S.zu f (A z)=some (enc r))
 :eV S (dm S T) f A (λr=>[enc r]) p false where
 k:=a
 h z:=by intro y u;have⟨r,b,w⟩:=ζg.1 u;cases w;have h:=H7 B a (D z r b);unfold gZ;rw[h];exact xG 8 [enc r]
 s h:=by cases h
def Qf:K->aY BinOp
 |.p (.bin _ _ o)=>some o|_=>none
theorem Yg{k:K}{o:BinOp}(h:Qf k=some o):∃t u,k=.p (.bin t u o):=by cases k with|p p=>cases p<;>simp[Qf]at h;simp_all|_=>simp[Qf]at h
def OZ:K->aY BinOp
 |.p (.bin (some .slice) _ o)=>some o|_=>none
theorem NK{k:K}{o:BinOp}(h:OZ k=some o):∃u,k=.p (.bin (some .slice) u o):=by unfold OZ at h;grind
def kbs:K->aY (Nat×Nat×ST)
 |.a (.buildSl sz ln _ ix)=>some (sz,ln,ix)|_=>none
theorem abh{k:K}{r:Nat×Nat×ST}(h:kbs k=some r):∃z,k=.a (.buildSl r.1 r.2.1 z r.2.2):=by unfold kbs at h;grind
def ZV:K->aY So
 |.a (.alloc _ zero)=>some zero|_=>none
theorem ZX{k:K}{z:So}(h:ZV k=some z):∃n,k=.a (.alloc n z):=by unfold ZV at h;grind
section
variable[bD α]
theorem abG(k:T2)(n:Nat){s:Sl α}{i:Int}{f:α->aY γ}(h:∀x,idx s i=some x->Le ((f x).bind e) (b7 S c Q (nx S c n cf λp=>cV p.st p.d (cp x))))
 (B:(gA S c n cf).map (λp=>(p.k,bW S.N p.st.g p.az))=some (.p (.idxS (bD.size α)),some [.v (cm s),.v (.int k i)]):=by kernel_rfl):Le (((idx s i).bind f).bind e) (b7 S c Q cf):=by
 have⟨p,u,a⟩:=e_ B;simp at a;refine rR u ?_ h;rw[a.1];exact Le.of_eq (Wx a.2 rfl)
theorem bB(n:Nat){s:Sl α}{i:Int}{f:α->aY γ}(h:∀x,idx s i=some x->Le ((f x).bind e) (b7 S c Q (nx S c n cf λp=>cV p.st p.d (cp x))))
 (B:(gA S c n cf).map (λp=>(p.k,bW S.N p.st.g p.az))=some (.p (.idxS (bD.size α)),some [.v (cm s),.v (.int .i64 i)]):=by kernel_rfl):Le (((idx s i).bind f).bind e) (b7 S c Q cf):=abG .i64 n h B
theorem jt(k:T2)(n u:Nat){s:Sl α}{i:Int}{f:Nat->aY γ}(h:∀x,s.jP i=some x->Le ((f x).bind e) (b7 S c Q (nx S c n cf λp=>cV p.st p.d (.el u x 0))))
 (B:(gA S c n cf).map (λp=>(p.k,bW S.N p.st.g p.az,bl p.st.m u))=some (.p (.idxS (bD.size α)),some [.own u,.v (.int k i)],some (cI s)):=by kernel_rfl):Le (((s.jP i).bind f).bind e) (b7 S c Q cf):=by
 have⟨p,w,a⟩:=e_ B;simp at a;refine rR w ?_ h;rw[a.1];exact Le.of_eq (acd a.2.1 a.2.2 rfl)
theorem pT(n u o sz:Nat)(a:X')(v:α->V){s:Sl α}{i:Nat}{f:α->aY γ}(h:∀x,s.get i=some x->Le ((f x).bind e) (b7 S c Q (nx S c n cf λp=>cV p.st p.d (.v (v x)))))
 (B:(gA S c n cf).map (λp=>(p.k,bW S.N p.st.g p.az,bl p.st.m u,(!p.dr||p.now||fS p.fr [.el u i o])))=some (.r (.load sz a),some [.el u i o],some (cI s),true):=by kernel_rfl)(b:∀x:α,(cut (cells x) o sz).bind (mk a)=some (v x):=by intro _;rfl):Le (((s.get i).bind f).bind e) (b7 S c Q cf):=by
 have⟨p,z,w⟩:=e_ B;simp only[ζc]at w;refine rR z ?_ h;rw[w.1];exact Le.of_eq (aar w.2.1 w.2.2.2 w.2.2.1 b)
theorem Fu(n u:Nat)(x:V){s:Sl α}{i:Nat}{a:α}{f:Sl α->aY γ}(h:∀B,s.put i a=some B->Le ((f B).bind e) (b7 S c Q (nx S c n cf λp=>cV {p.st with m:=bN p.st.m u (cI B)} p.d (.v .undef))))
 (D:(gA S c n cf).map (λp=>(p.k,bW S.N p.st.g p.az,bl p.st.m u,(!p.dr||p.now),x.cells))=some (.l (.store (bD.size α)),some [.el u i 0,.v x],some (cI s),true,cells a):=by kernel_rfl):Le (((s.put i a).bind f).bind e) (b7 S c Q cf):=by
 have⟨p,w,b⟩:=e_ D;simp only[ζc]at b;refine rR w ?_ h;rw[b.1];exact Le.of_eq (NP b.2.1 b.2.2.2.1 b.2.2.1 b.2.2.2.2 rfl)
theorem RX(n u:Nat){i:Int}{z:α}{f:Sl α->aY γ}(h:∀B,nR i z=some B->Le ((f B).bind e) (b7 S c Q (nx S c n cf λp=>{p.st with g:=bN p.st.g u (.own u),m:=bN p.st.m u (cI B)})))
 (D:(gA S c n cf).map (λp=>(p.d,p.k,bW S.N p.st.g p.az,p.st.new u))=some (some u,.a (.makeSl (bD.size α) (cells z)),some [.v (.int .i64 i),.v (.int .i64 i)],true):=by kernel_rfl):Le (((nR i z).bind f).bind e) (b7 S c Q cf):=by
 have⟨p,w,a⟩:=e_ D;simp at a;refine rR w ?_ h;rw[a.1,a.2.1];exact Le.of_eq (aad a.2.2.1 rfl rfl a.2.2.2)
theorem ads(n u:Nat){i:Int}{z:α}{zero:So}{f:Sl α->aY γ}(h:∀B,tJ i z=some B->Le ((f B).bind e) (b7 S c Q (nx S c n cf λp=>{p.st with g:=bN p.st.g u (.own u),m:=bN p.st.m u (cI B)})))
 (D:(gA S c n cf).map (λp=>(p.d,p.k,bW S.N p.st.g p.az,p.st.new u))=some (some u,.a (.makeSl (bD.size α) (cells z)),some [.v (.int .i64 0),.v (.int .i64 i)],true):=by kernel_rfl):Le (((tJ i z).bind f).bind e) (b7 S c Q cf):=by
 have⟨p,w,a⟩:=e_ D;simp at a;have⟨b,I⟩:=kX w;have⟨dr,fr,d,gd,now,k,az,dd,l,fs,st⟩:=p;obtain⟨rfl,rfl,J,C⟩:=a;exact ado n dr fr (⟨some u,gd,now,.a (.makeSl (bD.size α) (cells z)),az,dd,[]⟩::l) fs st rfl C Zac λB G=>by have:=h B G;simp[nx,w]at this;simp_all
theorem ny(n o w u:Nat){s:Sl α}{x:α}{f:Sl α->aY γ}(h:∀B,fF s x=some B->Le ((f B).bind e) (b7 S c Q (nx S c n cf λp=>{p.st with g:=bN p.st.g u (.own u),m:=bN (eO o p.st.m) u (cI B)})))
 (D:(gA S c n cf).map (λp=>(p.d,p.k,bW S.N p.st.g p.az,(!p.dr||p.now),bl p.st.m o,bl p.st.m w,St.new {p.st with m:=eO o p.st.m} u))=some (some u,.l (.append (bD.size α)),some [.own o,.own w],true,some (cI s),some (cI (.row [x])),true):=by kernel_rfl):Le (((fF s x).bind f).bind e) (b7 S c Q cf):=by
 have⟨p,z,a⟩:=e_ D;simp only[ζc]at a;refine rR z ?_ h;rw[a.1,a.2.1];exact Le.of_eq (acf a.2.2.1 a.2.2.2.1 a.2.2.2.2.1 a.2.2.2.2.2.1 rfl a.2.2.2.2.2.2)
theorem Wm(n w u:Nat)(v:V)(x:α){m:aY β}(h:Le m (b7 S c Q (nx S c n cf λp=>{p.st with g:=bN p.st.g u (.own u),m:=bN p.st.m u (cI (.row [x]))})))(a:v=.bO\/v=.dY:=by first|exact .inl rfl|exact .inr rfl)
 (B:(gA S c n cf).map (λp=>(p.d,p.k,bW S.N p.st.g p.az,(!p.dr||p.now),bl p.st.m w,p.st.new u))=some (some u,.l (.append (bD.size α)),some [.v v,.own w],true,some (cI (.row [x])),true):=by kernel_rfl):Le m (b7 S c Q cf):=by
 have⟨p,C,z⟩:=e_ B;simp only[ζc]at z;refine xO C ?_ h;rw[z.1,z.2.1];exact aaz a z.2.2.1 z.2.2.2.1 z.2.2.2.2.1 rfl z.2.2.2.2.2
theorem bP(n:Nat)(s:Sl α){m:aY β}(h:Le m (b7 S c Q (nx S c n cf λp=>cV p.st p.d (.v (.int .i64 s.l.length)))))
 (B:(gA S c n cf).map (λp=>(p.k,bW S.N p.st.g p.az))=some (.p .lenSl,some [.v (cm s)]):=by kernel_rfl):Le m (b7 S c Q cf):=by
 have⟨p,u,a⟩:=e_ B;simp at a;refine xO u ?_ h;rw[a.1];exact WC a.2
theorem GL(n u:Nat)(s:Sl α){m:aY β}(h:Le m (b7 S c Q (nx S c n cf λp=>cV p.st p.d (.v (.int .i64 s.l.length)))))
 (B:(gA S c n cf).map (λp=>(p.k,bW S.N p.st.g p.az,bl p.st.m u))=some (.p .lenSl,some [.own u],some (cI s)):=by kernel_rfl):Le m (b7 S c Q cf):=by
 have⟨p,w,a⟩:=e_ B;simp at a;refine xO w ?_ h;rw[a.1];exact abg a.2.1 a.2.2
theorem ED(n:Nat){s:Sl α}{f:X'->aY γ}(h:∀t,s.isNil=some t->Le ((f t).bind e) (b7 S c Q (nx S c n cf λp=>cV p.st p.d (.v (.bool t)))))
 (B:(gA S c n cf).map (λp=>(OZ p.k,bW S.N p.st.g p.az))=some (some .eql,some [.v (cm s),.v .bO]):=by kernel_rfl):Le ((s.isNil.bind f).bind e) (b7 S c Q cf):=by
 have⟨p,w,a⟩:=e_ B;simp at a;have⟨u,b⟩:=NK a.1;refine rR w ?_ h;rw[b];exact Le.of_eq (Yp a.2)
theorem abz(n:Nat){s:Sl α}{f:X'->aY γ}(h:∀t,s.isNil=some t->Le ((f t).bind e) (b7 S c Q (nx S c n cf λp=>cV p.st p.d (.v (.bool !t)))))
 (B:(gA S c n cf).map (λp=>(OZ p.k,bW S.N p.st.g p.az))=some (some .neq,some [.v (cm s),.v .bO]):=by kernel_rfl):Le ((s.isNil.bind f).bind e) (b7 S c Q cf):=by
 have⟨p,w,a⟩:=e_ B;simp at a;have⟨u,b⟩:=NK a.1;refine rR w ?_ h;rw[b];exact Le.of_eq (Uc a.2)
theorem B6(n:Nat)(g i:X')(B:So){s:Sl α}{a b:Ps}{f:Sl α->aY γ}(h:∀x,gB s a b=some x->Le ((f x).bind e) (b7 S c Q (nx S c n cf λp=>cV p.st p.d (.v (cm x)))))
 (D:(gA S c n cf).map (λp=>(p.k,bW S.N p.st.g p.az,oC g i B))=some (.p (.slice (bD.size α) g i),some (.v (cm s)::B.map .v),some (a,b)):=by kernel_rfl):Le (((gB s a b).bind f).bind e) (b7 S c Q cf):=by
 have⟨p,u,j⟩:=e_ D;simp at j;have⟨m,C⟩:=kX u;have⟨dr,fr,d,gd,now,k,az,dd,l,fs,st⟩:=p;obtain⟨rfl,G,I⟩:=j;exact ade n dr fr (⟨d,gd,now,.p (.slice (bD.size α) g i),az,dd,[]⟩::l) fs st g i B rfl Zac λw z=>by have:=h w z;simp only[nx,u]at this;omega
theorem abY(n:Nat)(i j:X')(u t:Nat)(B:So){s:Sl α}{a b:Ps}{f:Sl α->aY γ}(h:∀x,ri s a b=some x->Le ((f x).bind e) (b7 S c Q (nx S c n cf λp=>{p.st with g:=bN p.st.g t (.own t),m:=bN (eO u p.st.m) t (cI x)})))
 (D:(gA S c n cf).map (λp=>(p.d,p.k,p.dr,bW S.N p.st.g p.az,oC i j B,bl p.st.m u,St.new {p.st with m:=eO u p.st.m} t))=some (some t,.p (.slice (bD.size α) i j),false,some (.own u::B.map .v),some (a,b),some (cI s),true):=by kernel_rfl):Le (((ri s a b).bind f).bind e) (b7 S c Q cf):=by
 have⟨p,w,o⟩:=e_ D;simp at o;have⟨q,I⟩:=kX w;have⟨dr,fr,d,gd,now,k,az,dd,l,fs,st⟩:=p;obtain⟨rfl,rfl,rfl,J,L,O,z⟩:=o;exact ab0 n fr (⟨some t,gd,now,.p (.slice (bD.size α) i j),az,dd,[]⟩::l) fs st i j u B rfl z Zac λC G=>by have:=h C G;simp only[nx,w]at this;omega
theorem bT(n u:Nat)(x:α){m:aY β}(h:Le m (b7 S c Q (nx S c n cf λp=>{p.st with g:=bN p.st.g u (.ptr u 0),m:=bN p.st.m u (bx x)})))
 (B:(gA S c n cf).map (λp=>(p.d,p.k,bW S.N p.st.g p.az,p.st.new u))=some (some u,.a .box,some [cv x],true):=by kernel_rfl):Le m (b7 S c Q cf):=by
 have⟨p,w,a⟩:=e_ B;simp at a;refine xO w ?_ h;rw[a.1,a.2.1,AY,a.2.2.1];simp only[ζb,a.2.2.2,if_true,qp,mX,tC]
def stB(u o sz:Nat)(xs:SW)(p:Il):St:=match bl p.st.m u with
 |some (.box cs)=>cV {p.st with m:=bN p.st.m u (.box (cs.take o++xs++cs.drop (o+sz)))} p.d (.v .undef)|_=>p.st
theorem pz(n u o:Nat)(x:α){m:aY β}(h:Le m (b7 S c Q (nx S c n cf (stB u o (bD.size α) ((cells x).map .v)))))
 (B:(gA S c n cf).map (λp=>(p.k,bW S.N p.st.g p.az,(!p.dr||p.now),match bl p.st.m u with|some (.box cs)=>ble (o+bD.size α) cs.length|_=>false))=some (.l (.store (bD.size α)),some [.ptr u o,cv x],true,true):=by kernel_rfl):Le m (b7 S c Q cf):=by
 have⟨p,C,a⟩:=e_ B;simp only[ζc]at a;refine xO C ?_ h;have⟨b,D,G,z⟩:=a;split at z
 next cs w=>have I:=Nat.le_of_ble_eq_true z;rw[b,zC,D];simp only[ζb,G,if_true,pK,w,putCells,mX,h_,tC,I,and_self,map_some,stB]
 simp_all
theorem zH(n u:Nat)(xs:aX α){m:aY β}(h:Le m (b7 S c Q (nx S c n cf λp=>{p.st with g:=bN p.st.g u (.own u),m:=bN p.st.m u (cI (.row xs))})))
 (B:(gA S c n cf).map (λp=>(p.d,kbs p.k,bW S.N p.st.g p.az,p.st.new u))=some (some u,some (bD.size α,xs.length,range' 0 xs.length),some ((xs.map enc).map .v),true):=by kernel_rfl):Le m (b7 S c Q cf):=by
 have⟨p,w,a⟩:=e_ B;simp at a;have⟨b,G⟩:=kX w;have⟨dr,fr,d,gd,now,k,az,dd,l,fs,st⟩:=p;obtain⟨rfl,C,I,D⟩:=a;obtain⟨z,rfl⟩:=abh C;exact Abs n dr fr (⟨some u,gd,now,.a (.buildSl (bD.size α) xs.length z (range' 0 xs.length)),az,dd,[]⟩::l) fs st xs rfl D Zac (by
  simp[nx,w]at h;omega)
theorem adn(n:Nat)(x:α)(vs z:So)(pl:aX (Nat×Nat)){m:aY β}(B:mL z pl vs=some (cells x))(D:bD.agg α=true)(h:Le m (b7 S c Q (nx S c n cf λp=>cV p.st p.d (cv x))))
 (G:(gA S c n cf).map (λp=>(p.k,bW S.N p.st.g p.az))=some (.p (.build z pl),some (vs.map .v)):=by kernel_rfl):Le m (b7 S c Q cf):=by
 have⟨p,u,a⟩:=e_ G;simp at a;have⟨b,w⟩:=kX u;have⟨dr,fr,d,gd,now,k,az,dd,l,fs,st⟩:=p;obtain⟨rfl,C⟩:=a;exact adg n dr fr (⟨d,gd,now,.p (.build z pl),az,dd,[]⟩::l) fs st x vs rfl B D Zac (by
  simp only[nx,u]at h;omega)
end
theorem abb(n:Nat){k:T2}{a b:Int}{f:Int->aY γ}(h:∀x,BC k a b=some x->Le ((f x).bind e) (b7 S c Q (nx S c n cf λp=>cV p.st p.d (.v (.int k x)))))
 (B:(gA S c n cf).map (λp=>(Qf p.k,bW S.N p.st.g p.az))=some (some .quo,some [.v (.int k a),.v (.int k b)]):=by kernel_rfl):Le (((BC k a b).bind f).bind e) (b7 S c Q cf):=by
 have⟨p,w,d⟩:=e_ B;simp at d;have⟨t,u,g⟩:=Yg d.1;refine rR w ?_ h;rw[g];exact Le.of_eq (abO d.2)
theorem C7(n:Nat)(k:T2){a:U'}{b:Int}{f:Int->aY γ}(h:∀x,mY a b=some x->Le ((f x).bind e) (b7 S c Q (nx S c n cf λp=>cV p.st p.d (.v (.int .u8 x)))))
 (B:(gA S c n cf).map (λp=>(p.k,bW S.N p.st.g p.az))=some (.p .idxStr,some [.v (.str a),.v (.int k b)]):=by kernel_rfl):Le (((mY a b).bind f).bind e) (b7 S c Q cf):=by
 have⟨p,u,d⟩:=e_ B;simp at d;refine rR u ?_ h;rw[d.1];exact Le.of_eq (Uf d.2)
section
variable{A:α->So}{E:δ->So}{pl:α->aY δ}{fn:Y'}{sc:X'}
theorem zA(n:Nat)(F:eV S c fn A E pl sc)(z:α){f:δ->aY γ}(h:∀x,pl z=some x->Le ((f x).bind e) (b7 S c Q (nx S c n cf λp=>cV p.st p.d (.v (result (E x))))))
 (B:(gA S c n cf).map (λp=>(p.k,(bW S.N p.st.g p.az).bind mE,(!p.dr||p.now||gJ p.st.m p.fr [])))=some (.c,some (fn,(A z).map .v),true):=by kernel_rfl):Le (((pl z).bind f).bind e) (b7 S c Q cf):=by
 have⟨p,C,b⟩:=e_ B;simp at b;have⟨D,G,O⟩:=b;have⟨I,g1,g2⟩:=ζg.1 G;have u:∀d(w:So),SV.dR d (w.map .v)=false:=λd w=>by induction w with|nil=>rfl|cons a l J=>simp[SV.dR,SV.c8,J]
 have L:(!p.dr||p.now||gJ p.st.m p.fr ((A z).map .v))=true:=by have:gJ p.st.m p.fr ((A z).map .v)=gJ p.st.m p.fr []:=(by unfold gJ;simp[u];rfl);grind
 refine rR C ?_ h;rw[D];exact La (F.h z) F.k g1 g2 (Lg _ _ _) L (λr=>by rw[oH];simp)
theorem abf(n:Nat)(F:eV S c fn A E pl true)(z:α){f:δ->aY γ}(h:∀x,pl z=some x->Le ((f x).bind e) (b7 S c Q (nx S c n cf λp=>cV p.st p.d (.v (result (E x))))))
 (B:(gA S c n cf).map (λp=>(p.k,((bW S.N p.st.g p.az).bind mE).bind λq=>(oQ (jx p.st.m 8) q.2).map λvs=>(q.1,vs,((!p.dr||p.now)||gJ p.st.m p.fr q.2))))=some (.c,some (fn,A z,true)):=by kernel_rfl):Le (((pl z).bind f).bind e) (b7 S c Q cf):=by
 have⟨p,u,a⟩:=e_ B;simp at a;have⟨w,C⟩:=a;have⟨q,g1,g2⟩:=ζg.1 C;have⟨D,g3,g4⟩:=ζg.1 g1;have⟨vs,g5,g6⟩:=ζf.1 g2;simp only[ζc]at g6;obtain⟨e1,rfl,e3⟩:=g6;refine rR u ?_ h;rw[w];exact La (F.h z) F.k g3 Zac g5 e3 (λr=>by rw[F.s rfl];rfl)
end
section
variable{N:Nat}[bD α]
theorem PV(n:Nat)(k:T2){a:cg N α}{i:Int}{f:α->aY γ}(h:∀x,a.at i=some x->Le ((f x).bind e) (b7 S c Q (nx S c n cf λp=>cV p.st p.d (.v (.fptr (pa a i))))))
 (B:(gA S c n cf).map (λp=>(p.k,bW S.N p.st.g p.az))=some (.p (.idxA N (bD.size α)),some [cp a,.v (.int k i)]):=by kernel_rfl):Le (((a.at i).bind f).bind e) (b7 S c Q cf):=by
 have⟨p,u,b⟩:=e_ B;simp at b;have⟨g,z⟩:=kX u;have⟨dr,fr,d,gd,now,C,az,dd,l,fs,st⟩:=p;obtain⟨rfl,D⟩:=b;exact acg n dr fr (⟨d,gd,now,.p (.idxA N (bD.size α)),az,dd,[]⟩::l) fs st k rfl Zac λx w=>by have:=h x w;simp only[nx,u]at this;omega
theorem VO(n k:Nat)(a:cg N α)(i:Int)(o:Nat)(x:α)(B:a.at i=some x){m:aY β}(h:Le m (b7 S c Q (nx S c n cf λp=>cV p.st p.d (.v (.fptr ((pa a i).drop (o+k)))))))
 (D:(gA S c n cf).map (λp=>(p.k,bW S.N p.st.g p.az,ble (o+k) (bD.size α)))=some (.p (.fieldAddr k),some [.v (.fptr ((pa a i).drop o))],true):=by kernel_rfl):Le m (b7 S c Q cf):=by
 have⟨p,u,b⟩:=e_ D;simp at b;have⟨e,w⟩:=kX u;have⟨dr,fr,d,gd,now,z,az,dd,l,fs,st⟩:=p;obtain⟨rfl,C,G⟩:=b;exact adp n dr fr (⟨d,gd,now,.p (.fieldAddr k),az,dd,[]⟩::l) fs st a i o x B rfl Zac (by
  simp only[nx,u]at h;omega)
theorem PE(n sz:Nat)(ag:X')(a:cg N α)(i:Int)(o:Nat)(x:α)(B:a.at i=some x)(v:V)(b:(cut (cells x) o sz).bind (mk ag)=some v){m:aY β}(h:Le m (b7 S c Q (nx S c n cf λp=>cV p.st p.d (.v v))))
 (D:(gA S c n cf).map (λp=>(p.k,bW S.N p.st.g p.az))=some (.r (.load sz ag),some [.v (.fptr ((pa a i).drop o))]):=by kernel_rfl):Le m (b7 S c Q cf):=by
 have⟨p,w,u⟩:=e_ D;simp at u;have⟨e,z⟩:=kX w;have⟨dr,fr,d,gd,now,C,az,dd,l,fs,st⟩:=p;obtain⟨rfl,G⟩:=u;exact ab1 n dr fr (⟨d,gd,now,.r (.load sz ag),az,dd,[]⟩::l) fs st a i o x B b v rfl Zac (by
  simp only[nx,w]at h;omega)
theorem Bal(n u:Nat)(st:St)(cs:SW){m:aY β}(B:st.new u=true)(h:Le m (b7 S c Q (nx S c n cf λ_=>{st with g:=bN st.g u (.ptr u 0),m:=bN st.m u (.box cs)})))
 (D:(gA S c n cf).map (λp=>(p.d,(ZV p.k).map (λz=>z.map SV.v),bW S.N p.st.g p.az,p.st))=some (some u,some cs,some [],st):=by kernel_rfl):Le m (b7 S c Q cf):=by
 have⟨p,C,a⟩:=e_ D;simp only[ζc]at a;have⟨z,G,w⟩:=e_ a.2.1;have⟨k,b⟩:=ZX G;refine xO C ?_ h;rw[a.1,b,AY,a.2.2.1,a.2.2.2];simp[B,qp,w]
theorem J5(n:Nat)(k:T2)(u:Nat){a:cg N α}{i:Int}{f:α->aY γ}(h:∀x,a.at i=some x->Le ((f x).bind e) (b7 S c Q (nx S c n cf λp=>cV p.st p.d (.ptr u (i.toNat*bD.size α+0)))))
 (B:(gA S c n cf).map (λp=>(p.k,bW S.N p.st.g p.az,bl p.st.m u))=some (.p (.idxA N (bD.size α)),some [.ptr u 0,.v (.int k i)],some (bx a)):=by kernel_rfl):Le (((a.at i).bind f).bind e) (b7 S c Q cf):=by
 have⟨p,w,b⟩:=e_ B;simp at b;have⟨g,C⟩:=kX w;have⟨dr,fr,d,gd,now,D,az,dd,l,fs,st⟩:=p;obtain⟨rfl,G,I⟩:=b;exact abC n dr fr (⟨d,gd,now,.p (.idxA N (bD.size α)),az,dd,[]⟩::l) fs st k u rfl Zac λx z=>by have:=h x z;simp only[nx,w]at this;omega
theorem V6(n sz:Nat)(ag:X')(u:Nat)(a:cg N α)(i:Int)(o:Nat)(x:α)(B:a.at i=some x)(v:V)(b:(cut (cells x) o sz).bind (mk ag)=some v){m:aY β}(h:Le m (b7 S c Q (nx S c n cf λp=>cV p.st p.d (.v v))))
 (D:(gA S c n cf).map (λp=>(p.k,bW S.N p.st.g p.az,bl p.st.m u,(!p.dr||p.now||fS p.fr [.ptr u 0])))=some (.r (.load sz ag),some [.ptr u (i.toNat*bD.size α+o)],some (bx a),true):=by kernel_rfl):Le m (b7 S c Q cf):=by
 have⟨p,z,w⟩:=e_ D;simp at w;have⟨e,C⟩:=kX z;have⟨dr,fr,d,gd,now,G,az,dd,l,fs,st⟩:=p;obtain⟨rfl,I,J,L⟩:=w;exact acm n dr fr (⟨d,gd,now,.r (.load sz ag),az,dd,[]⟩::l) fs st u a i o x B b v rfl Zac (by
  simp only[nx,z]at h;omega)
end
section
variable{κ ν:Type}[bD κ][DecidableEq κ][Key κ][bD ν]
theorem ach(n u:Nat)(mp:Mo κ ν)(k:κ)(z:ν){m:aY β}(h:Le m (b7 S c Q (nx S c n cf λp=>cV p.st p.d (cv (pM mp k z)))))
 (B:(gA S c n cf).map (λp=>(p.k,bW S.N p.st.g p.az,bl p.st.m u,(!p.dr||p.now||fS p.fr [.mp u,cv k])))=some (.r (.lookup (Key.kk κ) (enc z) false),some [.mp u,cv k],some (vR mp),true):=by kernel_rfl):Le m (b7 S c Q cf):=by
 have⟨p,w,a⟩:=e_ B;simp at a;have⟨b,C⟩:=kX w;have⟨dr,fr,d,gd,now,D,az,dd,l,fs,st⟩:=p;obtain⟨rfl,G,I,J⟩:=a;exact abB n dr fr (⟨d,gd,now,.r (.lookup (Key.kk κ) (enc z) false),az,dd,[]⟩::l) fs st u mp k z rfl Zac (by
  simp only[nx,w]at h;omega)
theorem aas(n u:Nat)(mp:Mo κ ν)(k:κ)(v:ν){m:aY β}(h:Le m (b7 S c Q (nx S c n cf λp=>cV {p.st with m:=bN p.st.m u (vR (nP mp k v))} p.d (.v .undef))))
 (B:(gA S c n cf).map (λp=>(p.k,bW S.N p.st.g p.az,bl p.st.m u,(!p.dr||p.now)))=some (.l (.mapUp (Key.kk κ)),some [.mp u,cv k,cv v],some (vR mp),true):=by kernel_rfl):Le m (b7 S c Q cf):=by
 have⟨p,z,w⟩:=e_ B;simp at w;have⟨a,C⟩:=kX z;have⟨dr,fr,d,gd,now,D,az,dd,l,fs,st⟩:=p;obtain⟨rfl,G,I,J⟩:=w;exact adl n dr fr (⟨d,gd,now,.l (.mapUp (Key.kk κ)),az,dd,[]⟩::l) fs st u mp k v rfl Zac (by
  simp[nx,z]at h;omega)
end
theorem abR(n:Nat)(st:St){rs:aX RV}{e:γ->aY So}{r:γ}(svs:SW){ys:So}(B:oQ (jx st.m 8) svs=some ys)(D:e r=some ys)
 (h:(jg S c n cf.1 cf.2.1 cf.2.2).map (λq=>(q.1,q.2.2,mh q.2.2 rs))=some (.rt,st,some svs):=by kernel_rfl):Le ((some r).bind e) (b7 S c (p8 rs) cf):=by
 have⟨⟨fo,fs,st'⟩,u,a⟩:=e_ h;simp at a;obtain⟨rfl,rfl,w⟩:=a;exact acn n svs B (by rw[u,w]) D
end
end Go.VE
namespace Go.VE
variable[bX]
section
variable{S:Sys}{c:cn}{β γ δ α:Type}[bD α]{Q:Out×St->aY β}{e:γ->aY β}{cf:Cf}
def pO(s x:Sl α):aY (Sl α):=if x.l=[]then some s else if s.l.length+x.l.length<=2147483648 then some (.row (s.l++x.l))else none
theorem XO(m:Tb bH)(n w:Nat)(x:Sl α)(B:n=bD.size α)(D:bl m w=some (cI x)):kD m n (.own w)=some (rows x.l):=by rw[Ht,D,DD n x B]
theorem K3(l:aX α):rows l=[]↔l=[]:=by unfold rows;simp
theorem TH(a b:aX α):rows a++rows b=rows (a++b):=by unfold rows;simp
theorem Lp(a:aX α):(rows a).length=a.length:=by unfold rows;simp
theorem ZS{st:St}{dr now:X'}{fr:ST}{az:QR}{d n o:Nat}{s x:Sl α}{B:SV}(U:bW S.N st.g az=some [.own o,B])(hd:(!dr||now)=true)(D:bl st.m o=some (cI s))(W:kD st.m n B=some (rows x.l))(G:n=bD.size α)(J:St.new {st with m:=eO o st.m} d=true):
 gz S c dr fr ⟨some d,none,now,.l (.append n),az,[],[]⟩ st=(pO s x).bind λY=>some {st with g:=bN st.g d (.own d),m:=bN (eO o st.m) d (cI Y)}:=by
 rw[zC,U];simp only[ζb,hd,if_true,Cx,XO st.m n o s G D,W];unfold pO
 by_cases h:x.l=[]
 .rw[if_pos h,(K3 x.l).2 h];simp only[Bi,D,if_pos J,ζb];rfl
 rw[if_neg h];have a:rows x.l≠[]:=λe=>h ((K3 _).1 e)
 have w:Bi st d n (.own o) (some (rows s.l)) (some (rows x.l))=if(rows s.l).length+(rows x.l).length<=2147483648/\LY (.own o)=true then(if St.new {st with m:=giveUp st.m (.own o)} d then some (.own d,{st with m:=bN (giveUp st.m (.own o)) d (.sl .row n (rows s.l++rows x.l))})else none)else none:=by unfold Bi;generalize rows x.l=r at *;cases r with|nil=>exact absurd rfl a|cons y r=>rfl
 rw[w,Lp,Lp,TH]
 by_cases u:s.l.length+x.l.length<=2147483648
 .rw[if_pos ⟨u,rfl⟩,if_pos (show St.new {st with m:=giveUp st.m (.own o)} d=true from J),if_pos u];rw[ζb,ζb,G];rfl
 rw[if_neg (λk=>u k.1),if_neg u];rfl
theorem abI(n o u:Nat)(D:SV){s x:Sl α}{f:Sl α->aY γ}(G:∀p,gA S c n cf=some p->kD p.st.m (bD.size α) D=some (rows x.l))
 (h:∀B,pO s x=some B->Le ((f B).bind e) (b7 S c Q (nx S c n cf λp=>{p.st with g:=bN p.st.g u (.own u),m:=bN (eO o p.st.m) u (cI B)})))
 (J:(gA S c n cf).map (λp=>(p.d,p.k,bW S.N p.st.g p.az,(!p.dr||p.now),bl p.st.m o,St.new {p.st with m:=eO o p.st.m} u))=some (some u,.l (.append (bD.size α)),some [.own o,D],true,some (cI s),true):=by kernel_rfl):Le (((pO s x).bind f).bind e) (b7 S c Q cf):=by
 have⟨p,w,a⟩:=e_ J;simp only[ζc]at a;refine rR w ?_ h;rw[a.1,a.2.1];exact Le.of_eq (ZS a.2.2.1 a.2.2.2.1 a.2.2.2.2.1 (G p w) rfl a.2.2.2.2.2)
theorem Py(m:Tb bH)(x:Sl α):kD m (bD.size α) (.v (cm x))=some (rows x.l):=by cases x<;>simp[cm,Sl.k,Sl.l,qG,kD,rows]
theorem AS(n o u:Nat){s x:Sl α}{f:Sl α->aY γ}
 (h:∀B,pO s x=some B->Le ((f B).bind e) (b7 S c Q (nx S c n cf λp=>{p.st with g:=bN p.st.g u (.own u),m:=bN (eO o p.st.m) u (cI B)})))
 (D:(gA S c n cf).map (λp=>(p.d,p.k,bW S.N p.st.g p.az,(!p.dr||p.now),bl p.st.m o,St.new {p.st with m:=eO o p.st.m} u))=some (some u,.l (.append (bD.size α)),some [.own o,.v (cm x)],true,some (cI s),true):=by kernel_rfl):Le (((pO s x).bind f).bind e) (b7 S c Q cf):=
 abI n o u _ (λp _=>Py p.st.m x) h D
end
theorem tX{α:Type}{l:aX α}{i:Nat}{x:α}(h:l[i]?=some x):l.set i x=l:=by obtain⟨a,rfl⟩:=ζe.1 h;exact List.set_getElem_self a
open Classical in
def E0(E:Env)(g:Y')(cb:So)(a b:V):aY V:=if h:∃n y,ck (run E n) g (a::b::cb) []=some y then some (Classical.choose (choose_spec h))else none
theorem HH{E:Env}{g:Y'}{cb:So}{a b y:V}(h:E0 E g cb a b=some y):∃n,∀k,n<=k->ck (run E k) g (a::b::cb) []=some y:=by
 unfold E0 at h;split at h;next c=>cases h;exact⟨_,λk d=>qm (qF E d) (choose_spec (choose_spec c))⟩
 cases h
theorem NI{E:Env}{g:Y'}{cb:So}{a b y:V}{n:Nat}(h:ck (run E n) g (a::b::cb) []=some y):E0 E g cb a b=some y:=by have d:∃n y,ck (run E n) g (a::b::cb) []=some y:=⟨n,y,h⟩;cases c:E0 E g cb a b with|none=>unfold E0 at c;rw[dif_pos d]at c;cases c|some z=>have⟨m,u⟩:=HH c;have:=u _ (Nat.le_max_right n m);rw[qm (qF E (Nat.le_max_left n m)) h]at this;cases this;rfl
theorem Hs{n:Nat}{p:_root_.Fin n->Nat->Prop}(h:∀i,∃N,∀k,N<=k->p i k):∃N,∀i k,N<=k->p i k:=by induction n with|zero=>exact⟨0,λi=>i.elim0⟩|succ n u=>have⟨N,w⟩:=u (p:=λi=>p i.succ) λi=>h i.succ;have⟨M,a⟩:=h 0;refine⟨max N M,λi k b=>?_⟩;refine _root_.Fin.cases (a k Zaa) (λj=>w j k Zaa) i
def kO(x:So):V:=x.headD .undef
def wU(es:Nat)(xs:S'):X':=es==1&&xs.all (λx=>x.length==1&&x.all V.one)&&decide (xs.length<=2147483648)
theorem BE{es:Nat}{xs:S'}(h:wU es xs=true):es=1/\xs.length<=2147483648/\∀(i:Nat)x,xs[i]?=some x->x=[kO x]/\(kO x).one=true:=by unfold wU at h;simp only[ζh,beq_iff_eq,all_eq_true,decide_eq_true_eq]at h;refine⟨h.1.1,h.2,λi x w=>?_⟩;have⟨a,z⟩:=h.1.2 x (mem_of_getElem? w);obtain⟨u,rfl⟩:=List.length_eq_one_iff.1 a;exact⟨rfl,z u Zab⟩
section
variable{H:bn}{Z:Nat->Prop}
theorem dJ.N0{k:Nat}{xs ys:So}(h:dJ H Z xs ys)(B:V.nE k xs=true):borrows k H ys=some xs:=mF h.1 λj u v a b=>(h.2 j u v a b).borrow k (oI.1 B j u a)
theorem dJ.borrows{xs ys:So}(h:dJ H Z xs ys):∃n,∀k,n<=k->borrows k H ys=some xs:=by have⟨n,u⟩:=ot xs;exact⟨n,λk a=>h.N0 (rF a u)⟩
theorem Sp{es:Nat}{xs:S'}(h:wU es xs=true){rs:S'}(B:iy H Z xs rs):dJ H Z (xs.map kO) rs.flatten:=by induction xs generalizing rs with|nil=>have:=B.1;simp at this;have:rs=[]:=List.eq_nil_of_length_eq_zero (by simpa using this.symm);subst this;exact .nil|cons x xs D=>have⟨d,L,G⟩:=BE h;cases rs with|nil=>have:=B.1;simp at this|cons r rs=>have⟨e,_⟩:=G 0 x rfl;have C:=B.2 0 x r rfl rfl;rw[e]at C;obtain⟨u,O,rfl,c,w⟩:=C.inv;rw[w.dh];have z:wU es xs=true:=(by unfold wU at h⊢;simp only[all_cons,ζh,length_cons,decide_eq_true_eq]at h⊢;exact⟨⟨h.1.1,h.1.2.2⟩,Zaa⟩);exact .cons c (D z (rs:=rs) ⟨by have:=B.1;simpa using this,λj a b I J=>B.2 (j+1) a b I J⟩)
end
def vG(E:Env)(g:Y')(cb:So)(a b:V):Ps:=match E0 E g cb a b with|some (.int .i64 c)=>some c|_=>none
theorem UA{E:Env}{g:Y'}{cb:So}{a b:V}{c:Int}(h:vG E g cb a b=some c):∃n,∀k,n<=k->ck (run E k) g (a::b::cb) []=some (.int .i64 c):=by
 unfold vG at h;split at h;next c' d=>cases h;exact HH d
 cases h
def Da(E:Env)(es:Nat)(xs:S'):So->aY S'
 |[.clo g [] cb]=>match xs with
  |[]=>some []|x::l=>if wU es (x::l)&& !E.keep g then
   let t:_root_.Fin (l.length+1)->_root_.Fin (l.length+1)->Ps:=λi j=>vG E g cb (kO (((x::l)[i.1]?).getD [])) (kO (((x::l)[j.1]?).getD []))
   if Dp t then some ((tE l.length (rS t)).toList.map λi=>((x::l)[i.1]?).getD [])else none
   else none
 |_=>none
def vk(E:Env):IW:=⟨false,Da E⟩
theorem Gt{n:Nat}{lt:_root_.Fin (n+1)->_root_.Fin (n+1)->X'}(h:Sort.SWO lt):(tE n lt).size=n+1:=by rw[E6];have:=(Sort.pdq_sorts lt h (List.finRange (n+1)).toArray 0 (n+1) (Lib.bitLen (n+1)) true true (zero_le _) Zab (Or.inl rfl)).1.1;simpa using this
theorem TJ{E:Env}{f:Y'}(m:E.keep f=true)(ho:E.own f=false)(F:E.sort f=true)(K:E.ft f=none):pV E f (vk E)where
 keep:=m
 own:=ho
 le:=by intro es xs vs ys h;simp only[vk,Da]at h;split at h;split at h;cases h;exact⟨le_refl _,λ_=>rfl⟩;split at h;split at h;(next q=>cases h;have:=Gt (tc q).2;simp only[length_map,Array.length_toList,length_cons,this];exact⟨le_refl _,λ_=>trivial⟩);cases h;cases h;cases h
 none:=by intro es vs ys h H Z ws w M he;simp only[vk,Da]at h;split at h;obtain⟨V,r,rfl,h1,P⟩:=M.inv;rw[P.dh];refine⟨1,[],λk m=>?_⟩;(cases k with|zero=>omega|succ k=>rcases he with rfl|rfl<;>simp[run,lN,K,F,tB,vk]);cases h
 row:=by
  intro es xs vs ys h H Z ws id off rs M O C I z hz;simp only[vk,Da]at h;split at h;rename_i g cb;obtain⟨V,r,rfl,h1,P⟩:=M.inv;rw[P.dh];obtain⟨a',J,rfl,s,aa⟩:∃a' J,V=.clo g a' J/\dJ H Z [] a'/\dJ H Z cb J:=h1.l_;rw[s.dh]at *;split at h;cases h;refine⟨1,rs,[],λk m=>?_,rfl,⟨rfl,λj u v o=>by simp at o⟩,z⟩;cases k with|zero=>omega|succ k=>have:H.set id (.row es rs)=H:=tX O;simp[run,lN,K,F,tB,vk,this]
  rename_i x l;split at h;rename_i D;simp only[ζh,Bool.not_eq_true']at D;obtain⟨c1,c3⟩:=D;obtain⟨rfl,Q,ae⟩:=BE c1;split at h;rename_i q;cases h;obtain⟨G,S⟩:=tc q;have B:∀i,Z i->Z i/\bu (H.set id .dead) i=bu H i:=λi t=>⟨t,by unfold bu;rw[getElem?_set_ne];rintro rfl;exact hz t⟩;have T:=I.mono B;obtain⟨M1,U⟩:=(Sp c1 T).borrows;simp only[length_cons]at U;obtain⟨M2,W⟩:=(aa.mono B).borrows;obtain⟨N,R⟩:=Hs (p:=λi k=>∀j:_root_.Fin (l.length+1),ck (run E k) g (kO (((x::l)[i.1]?).getD [])::kO (((x::l)[j.1]?).getD [])::cb) []=some (.int .i64 ((vG E g cb (kO (((x::l)[i.1]?).getD [])) (kO (((x::l)[j.1]?).getD []))).getD 0))) (λi=>by
   obtain⟨N,R⟩:=Hs (p:=λ(j:_root_.Fin (l.length+1))k=>ck (run E k) g (kO (((x::l)[i.1]?).getD [])::kO (((x::l)[j.1]?).getD [])::cb) []=some (.int .i64 ((vG E g cb (kO (((x::l)[i.1]?).getD [])) (kO (((x::l)[j.1]?).getD []))).getD 0))) (λj=>by
    obtain⟨c,d⟩:=G i j;obtain⟨n,hn⟩:=UA d;exact⟨n,λk m=>by rw[hn k m,d];rfl⟩)
   exact⟨N,λk m j=>R j k m⟩)
  have X:∀k,N<=k->ku (run E k) g ((x::l).map kO) cb l.length=λi j=>vG E g cb (kO (((x::l)[i.1]?).getD [])) (kO (((x::l)[j.1]?).getD [])):=λk m=>by funext i j;obtain⟨c,d⟩:=G i j;have e1:∀i:_root_.Fin (l.length+1),((x::l).map kO)[i.1]?=some (kO (((x::l)[i.1]?).getD [])):=λi=>(by have:i.1<(x::l).length:=i.2;rw[getElem?_map,ζd this];rfl);unfold ku;rw[e1 i,e1 j];simp only[R i k m j];rw[d];rfl
  have ab:=Gt S;generalize hL:(tE l.length (rS λi j:_root_.Fin (l.length+1)=>vG E g cb (kO (((x::l)[i.1]?).getD [])) (kO (((x::l)[j.1]?).getD [])))).toList=L at *;have ad:L.length=l.length+1:=by rw[<-hL];simpa using ab
  simp only[length_cons]at C I Q;refine⟨max N (max M1 M2)+1,tU rs off l.length L,[],λk m=>?_,?_,?_,?_⟩;cases k with|zero=>omega|succ k=>simp only[run,lN,K,F,if_true,tB,O,vk,false_eq_true,if_false,length_cons];rw[if_pos ⟨trivial,trivial,C,Zaa,c3⟩,show(run E k).lv=k from qB E k,U k Zaa,W k Zaa];simp only[X k Zaa,q,if_true,hL,append_nil]
  simp[tU,ad];omega;have e:((tU rs off l.length L).drop off).take (L.map λi=>((x::l)[i.1]?).getD []).length=L.map λi=>(rs[off+i.1]?).getD []:=by unfold tU;have h0:(rs.take off).length=off:=(by simp;omega);rw[append_assoc,List.drop_append_of_le_length Zaa,List.drop_eq_nil_of_le Zaa,nil_append,length_map,List.take_append_of_le_length Zab,take_of_length_le Zab]
  rw[e];refine⟨Zab,λj a b s y=>?_⟩;rw[getElem?_map]at s y;obtain⟨i,t,rfl⟩:=ζf.1 s;rw[t]at y;simp only[map_some,ζa]at y;subst y;have Y:i.1<(x::l).length:=i.2;have A:off+i.1<rs.length:=by have:=i.2;omega
  refine I.2 i.1 _ _ (by rw[ζd Y];rfl) ?_;rw[getElem?_take,if_pos i.2,getElem?_drop,ζd A];rfl;intro c d u o;unfold tU at d;rcases mem_append.1 d with d|d;rcases mem_append.1 d with d|d;exact z c (List.mem_of_mem_take d) u o;obtain⟨i,_,rfl⟩:=mem_map.1 d;have A:off+i.1<rs.length:=by have:=i.2;omega
  rw[ζd A]at o;exact z _ (getElem_mem A) u o;exact z c (List.mem_of_mem_drop d) u o;cases h;cases h;cases h
def eG(N:Nat->Y')(F:WP):Arg->V
 |.s n=>get F n|.k c=>c|.f s=>.clo (N s) [] []
def iK(E:Env)(N:Nat->Y')(call:dO)(b:aY Nat)(now:X')(k:K)(vs:So)(H:bn):aY (V×bn):=
 match k,b with
 |.p p,_=>(bM N p vs).map λv=>(v,H)|.r r,none=>(eE H r vs).map λv=>(v,H)|.r r,some b=>(eE (H.take b) r vs).map λv=>(v,H)|.a a,none=>(kT a vs).map λx=>(x.2.val H.length,H++[x.1])|.l l,none=>gb H l vs|.l (.store n),some _=>if now then gb H (.store n) vs else none|.c,none=>match vs with
  |.clo g a c::u=>if E.keep g then gx E call g (a++u++c) H else match ck call g (a++u++c) H with
   |some y=>if y.scalar then some (y,H)else none|none=>none
  |_=>none
 |.c,some b=>match vs with
  |.clo g a c::u=>if E.keep g then none else match ck call g (a++u++c) (H.take b)with
   |some y=>if y.scalar then some (y,H)else none|none=>none
  |_=>none
 |_,_=>none
def iP(F:WP):aY Nat->V->WP
 |none,_=>F|some d,v=>set F d v
def cE(E:Env)(N:Nat->Y')(call:dO)(b:aY Nat):R0->WP->bn->aY (WP×bn)
 |[],F,H=>some (F,H)|o::r,F,H=>match o.gd with
  |none=>match iK E N call b o.now o.k (o.az.map (eG N F)) H with
   |some (v,H')=>cE E N call b r (iP F o.dst v) H'|none=>none
  |some _=>none
section
variable{X:CX}{N:Nat->Y'}{call:dO}{F F':WP}{H H':bn}
theorem Oh(B:∀f s,X.nm f=some s->N s=f){o:UV}{x:Arg}(h:rO X.nm o=some x):ev F o=some (eG N F x):=by cases o with|tmp t=>simp[rO]at h;subst h;rfl|const w=>simp[rO]at h;split at h;rename_i c a;split at h;simp at h;subst h;exact a;grind;grind|func f=>obtain⟨s,u,rfl⟩:=ζf.1 h;show some (V.clo f [] [])=some (.clo (N s) [] []);grind|global i=>simp[rO]at h;split at h;rename_i c a;split at h;simp at h;subst h;simp[ev,a];rfl;grind;grind
theorem zf(G:∀f s,X.nm f=some s->N s=f):∀{os:aX UV}{B:QR},os.mapM (rO X.nm)=some B->gm F os=some (B.map (eG N F))
 |[],B,h=>by simp at h;subst h;rfl|o::os,B,h=>by simp[ζg]at h;obtain⟨x,J,xs,D,rfl⟩:=h;simp[gm,Oh G J,zf G D]
theorem BY(D:∀f s,X.nm f=some s->N s=f){B:X'}{ops:QP}{i:Nat}{o:Oper}{ro:RO}(h:oL X B ops i o=some ro)(g:ro.gd=none):
 o.dst=ro.dst/\Bm X.nt o.dst=true/\g_ ops F o=true/\((DP X.E N F o.op (ro.az.map (eG N F)) ro.k/\ro.now=(B&&dW ops i)/\(B=true->dW ops i=false->∀a',sn ops i a'=[]\/∀t,o.op≠.load t (.tmp a')))\/(∃n,ro.k=.l (.storeF n))\/(∃n a,ro.k=.r (.loadF n a))\/(B=true/\FP X.E ops i=true/\cQ o.op=.alloc/\(∃p,ro.k=.p p/\(p=.emptyC\/(∃a b,p=.makeC a b)\/∃a b c d,p=.buildC a b c d)/\∀y,bM N p (ro.az.map (eG N F))=some y->rX X.E F o.op=some y))\/∃n,ro.k=.e n):=by
 unfold oL at h;split at h
 .rename_i hd;have hd:=(Bool.and_eq_true_iff.1 hd).1;split at h
  .rename_i gd k os u hr;split at h
   .split at h
    .rename_i z;simp only[ζh]at z;have L:∀{gd:aY (Nat×X')},Fj ops o=some gd->gd=none->g_ ops F o=true:=λ{gd}u g=>by
      subst g;unfold g_;unfold Fj at u
      cases G:o.guard with
      |none=>rfl|some O=>rw[G]at u;have⟨j,b⟩:=O;have⟨d,_,e⟩:=ζf.1 u;cases e
     split at h
     next Q=>obtain⟨S,C,rfl⟩:=ζf.1 h;have w:=kR D hr (zf (F:=F) D C);exact⟨rfl,hd,L u g,.inr (.inr (.inr (.inl ⟨z.1,z.2,w.1,_,rfl,.inr (.inl ⟨_,_,rfl⟩),λy I=>Ge ⟨_,_,_,by assumption⟩ w I⟩)))⟩
     .rename_i Q;split at h
      next T=>obtain⟨U,rfl,rfl⟩:=T;obtain⟨S,C,rfl⟩:=ζf.1 h;have w:=kR D hr (zf (F:=F) D C);exact⟨rfl,hd,L u g,.inr (.inr (.inr (.inl ⟨z.1,z.2,w.1,_,rfl,.inl rfl,λy I=>FD ⟨_,_,_,by assumption⟩ w U I⟩)))⟩
      obtain⟨S,C,rfl⟩:=ζf.1 h;have w:=kR D hr (zf (F:=F) D C);exact⟨rfl,hd,L u g,.inr (.inr (.inr (.inl ⟨z.1,z.2,w.1,_,rfl,.inr (.inr ⟨_,_,_,_,rfl⟩),λy I=>G_ ⟨_,_,_,by assumption⟩ w I⟩)))⟩
     cases h
    obtain⟨S,C,rfl⟩:=ζf.1 h;simp only at g;subst g;refine⟨rfl,hd,?_,?_⟩
    .unfold g_;unfold Fj at u
     cases G:o.guard with
     |none=>rfl|some O=>rw[G]at u;have⟨j,b⟩:=O;have⟨d,_,e⟩:=ζf.1 u;cases e
    rcases FQ B ops i k os with⟨e,W⟩|⟨_,_,n,a,l,Y,_,_,_,e⟩|⟨_,_,n,ag,a,_,_,e⟩|⟨_,_,_,n,_,e⟩
    .rw[e]at C⊢;refine .inl ⟨kR D hr (zf D C),rfl,λhd Z a'=>?_⟩
     by_cases J:∃t,o.op=.load t (.tmp a')
     .have⟨t,J⟩:=J;rw[J]at hr;simp only[resolve]at hr;have⟨d,_,e⟩:=ζf.1 hr;simp only[ζc]at e;exact .inl (W _ _ a' hd Z e.1.symm e.2.symm)
     exact .inr λt h=>J ⟨t,h⟩
    .rw[e];exact .inr (.inl ⟨n,rfl⟩)
    .rw[e];exact .inr (.inr (.inl ⟨n,ag,rfl⟩))
    rw[e];exact .inr (.inr (.inr (.inr ⟨n,rfl⟩)))
   simp at h
  simp at h
 simp at h
theorem LQ{a:Nat}{dst:aY Nat}(h:Bm a dst=true)(v:V):lV a F dst v=some (iP F dst v):=by cases dst with|none=>rfl|some d=>simp[Bm]at h;simp[lV,if_pos h,iP]
theorem aag(J:∀f s,X.nm f=some s->N s=f){ops:QP}{i:Nat}{o:Oper}{ro:RO}(h:oL X false ops i o=some ro)(q:ro.gd=none){v:V}(d:iK X.E N call none ro.now ro.k (ro.az.map (eG N F)) H=some (v,H')):
 iJ X.E call X.nt ops none o F H=some (iP F ro.dst v,H'):=by
 have⟨j,I,L,u⟩:=BY (F:=F) J h q;have hd:c6 X.E call ops none F H o.op=some (v,H'):=by
  rcases u with⟨u,_⟩|⟨n,u⟩|⟨n,a,u⟩|⟨u,_⟩|⟨n,u⟩;generalize t:ro.k=k at d u;generalize ro.az.map (eG N F)=U at d u;unfold c6;cases k with|p p=>have⟨c,e⟩:=u;have⟨w,B,C⟩:=ζf.1 d;rw[c];simp only[A3 (e w B),map_some];rw[C]|r r=>have⟨c,e⟩:=u;have⟨w,B,C⟩:=ζf.1 d;rw[c];simp only[e H w B,map_some];rw[C]|a a=>have⟨c,e⟩:=u;have⟨⟨ob,m⟩,B,C⟩:=ζf.1 d;rw[c];simp only[qa,false_eq_true,if_false,e _ B];exact congrArg some C|l l=>have⟨c,e⟩:=u;rw[c];exact e H _ d|e n=>exact u.elim|b=>simp[iK]at d|c=>obtain⟨c,f,O,rfl,e⟩:=u;rw[c];simp only[iK]at d;split at d;rename_i g a b Q D;simp only[List.cons.injEq]at D;obtain⟨rfl,rfl⟩:=D;split at d;(next z=>simp only[e,yS,eF,mU,z,Bool.and_self,if_true];exact d);rename_i z;split at d;rename_i y S;split at d;(next G=>simp only[e,yS,eF,mU,z,Bool.false_and,false_eq_true,if_false,S,G,if_true];exact d);simp at d;simp at d;simp at d
  .rw[u]at d;exfalso;have:∀ops i k os,(Ab false ops i k os).1=k:=λ_ _ _ _=>rfl;unfold oL at h;simp only[Bool.false_and,false_eq_true,if_false,Bool.not_false,Bool.and_true]at h;split at h
   .split at h
    .rename_i gd k os T hr;split at h
     .obtain⟨O,W,rfl⟩:=ζf.1 h;simp only[this]at u;subst u;unfold resolve at hr;(repeat' split at hr)<;>first|(simp at hr;done)|(have⟨_,_,e⟩:=ζf.1 hr;simp at e;done)
     simp at h
    simp at h
   first|(simp at h;done)|contradiction
  rw[u]at d;simp[iK,eE]at d;cases u;rw[u]at d;simp[iK]at d
 unfold iJ;rw[L,if_pos rfl,hd];simp only[j,LQ (j▸I),map_some]
theorem LH(D:∀f s,X.nm f=some s->N s=f){ops:QP}:∀(rest:QP){i:Nat}{B:R0}{F:WP}{H:bn},ng X false ops i rest=some B->cE X.E N call none B F H=some (F',H')->oD X.E call X.nt ops rest F H=some (F',H')
 |[],i,B,F,H,hc,h=>by simp[ng]at hc;subst hc;exact h|o::rest,i,B,F,H,hc,h=>by simp[ng]at hc;split at hc;rename_i ro rs a G;simp at hc;subst hc;simp[cE]at h;split at h;rename_i b;split at h;(next v H1 c=>simp[oD,aag D a b c];exact LH D rest G h);grind;grind;grind
theorem Y8{ops:QP}{i:Nat}{op:Op}(h:∀t a',op=.load t (.tmp a')->sn ops i a'=[]):qw ops i F op=true:=by unfold qw;grind
theorem aaa(Y:∀f s,X.nm f=some s->N s=f){ops:QP}{b i:Nat}{o:Oper}(m:ops[i]?=some o){ro:RO}(h:oL X true ops i o=some ro)(q:ro.gd=none){v:V}(d:iK X.E N call (some b) ro.now ro.k (ro.az.map (eG N F)) H=some (v,H')):
 iJ X.E call X.nt ops (some (b,i)) o F H=some (iP F ro.dst v,H'):=by
 have⟨j,Z,x,u⟩:=BY (F:=F) Y h q;have hd:c6 X.E call ops (some (b,i)) F H o.op=some (v,H'):=by
  rcases u with⟨u,z,B⟩|⟨n,u⟩|⟨n,a,u⟩|⟨_,I,J,p,u,_,L⟩|⟨n,u⟩;generalize E:ro.k=k at d u;generalize ro.az.map (eG N F)=vs at d u;unfold c6
  cases k with
  |p p=>have⟨c,e⟩:=u;have⟨w,C,D⟩:=ζf.1 d;rw[c];simp only[A3 (e w C),map_some];rw[D]|r r=>have⟨c,e⟩:=u;have⟨w,C,D⟩:=ζf.1 d;have O:qw ops i F o.op=true:=Y8 λt a' e=>(by by_cases U:dW ops i=true;exact GV m e U;rcases B rfl (by simpa using U) a' with h|h;exact h;exact absurd e (h t));rw[c];simp only[e _ w C,O,if_true];rw[D]|a a=>simp[iK]at d|l l=>have⟨c,e⟩:=u;cases l with|store n=>simp only[iK]at d;split at d;(next W=>rw[z,Bool.true_and]at W;rw[c];simp only[W,Bool.true_or,if_true];exact e H _ d);simp at d|_=>simp[iK]at d
  |e n=>exact u.elim|b=>simp[iK]at d|c=>obtain⟨c,f,K,rfl,e⟩:=u;rw[c];simp only[iK]at d;split at d;rename_i g a b M G;simp only[List.cons.injEq]at G;obtain⟨rfl,rfl⟩:=G;split at d;simp at d;rename_i Q;split at d;rename_i y A;split at d;(next S=>simp only[e,yS,Jm h rfl c,Bool.not_false,Bool.true_or,eF,mU,Q,Bool.false_and,false_eq_true,if_false,A,S,if_true];exact d);simp at d;simp at d;simp at d
  rw[u]at d;simp[iK]at d;rw[u]at d;simp[iK,eE]at d;rw[u]at d;have⟨w,C,D⟩:=ζf.1 d;have T:=L w C;unfold c6;rw[J];simp only[qa,I,if_true,T,map_some];exact congrArg some D;rw[u]at d;simp[iK]at d
 unfold iJ;rw[x,if_pos rfl,hd];simp only[j,LQ (j▸Z),map_some]
theorem KI(D:∀f s,X.nm f=some s->N s=f){ops:QP}{b:Nat}:∀(rest:QP){i:Nat}{B:R0}{F:WP}{H:bn},ops.drop i=rest->ng X true ops i rest=some B->cE X.E N call (some b) B F H=some (F',H')->
 lM X.E call X.nt ops b (range' i rest.length) F H=some (F',H')
 |[],i,B,F,H,_,hc,h=>by simp[ng]at hc;subst hc;exact h|o::rest,i,B,F,H,hd,hc,h=>by simp[ng]at hc;split at hc;rename_i ro rs a J;simp at hc;subst hc;simp[cE]at h;split at h;rename_i c;split at h;rename_i v H1 d;have G:ops[i]?=some o:=(by have:(ops.drop i)[0]?=some o:=Zac;grind);have u:ops.drop (i+1)=rest:=(by rw[<-List.drop_drop,hd];rfl);simp[List.range'_succ,lM,G,aaa D G a c d];exact KI D rest u J h;grind;grind;grind
def AJ(l:R0):X':=l.all λo=>(match o.k with|.a _|.l (.storeF _)|.r (.loadF ..)|.p (.makeC ..)|.p (.buildC ..)|.p .emptyC|.e _=>false|_=>true)&&o.gd.isNone
theorem FC(J:∀f s,X.nm f=some s->N s=f){ops:QP}:∀(rest:QP){i:Nat}{G:R0},ng X true ops i rest=some G->AJ G=true->rest.any (λo=>cQ o.op==.alloc)=false
 |[],_,_,_,_=>rfl|o::rest,i,G,hc,D=>by simp only[ng]at hc;split at hc;rename_i ro rs c U;simp only[ζa]at hc;subst hc;simp only[AJ,all_cons,ζh,Option.isNone_iff_eq_none]at D;have⟨_,_,_,B⟩:=BY (F:=[]) J c D.1.2;rw[List.any_cons,FC J rest U D.2,Bool.or_false];rcases B with⟨B,_⟩|⟨n,B⟩|⟨n,a,B⟩|⟨_,_,_,p,B,u,_⟩|⟨n,B⟩;(cases b:ro.k with|a p=>have:=D.1.1;rw[b]at this;cases this|e p=>have:=D.1.1;rw[b]at this;cases this|_=>rw[b]at B;rw[B.1];rfl);have:=D.1.1;rw[B]at this;cases this;have:=D.1.1;rw[B]at this;cases this;have:=D.1.1;rw[B]at this;rcases u with rfl|⟨_,_,rfl⟩|⟨_,_,_,_,rfl⟩<;>cases this;have:=D.1.1;rw[B]at this;cases this;simp at hc
def jo(E:Env)(N:Nat->Y')(call:dO)(lf:Nat):RC->WP->bn->aY (Out×WP×bn)
 |.skip,F,H=>some (.norm,F,H)|.ops l,F,H=>(cE E N call none l F H).map λx=>(.norm,x.1,x.2)|.sq l,F,H=>if AJ l then(cE E N call (some H.length) l F H).map λx=>(.norm,x.1,x.2)else none|.seq a b,F,H=>match jo E N call lf a F H with
  |some (.norm,F',H')=>jo E N call lf b F' H'|r=>r
 |.cond x a b,F,H=>match eG N F x with
  |.bool t=>if t then jo E N call lf a F H else jo E N call lf b F H|_=>none
 |.block id c,F,H=>match jo E N call lf c F H with
  |some (.exit B,F',H')=>if B=id then some (.norm,F',H')else some (.exit B,F',H')|r=>r
 |.loop c,F,H=>mK (jo E N call lf c) lf F H|.exit id,F,H=>some (.exit id,F,H)|.ret,F,H=>some (.ret,F,H)|_,_,_=>none
theorem Lz{f g:WP->bn->aY (Out×WP×bn)}(h:∀F H r,f F H=some r->g F H=some r):∀(k:Nat)(F:WP)(H:bn)(r:Out×WP×bn),mK f k F H=some r->mK g k F H=some r
 |0,F,H,r,hr=>by simp[mK]at hr|k+1,F,H,r,hr=>by simp only[mK]at hr⊢;cases B:f F H with|none=>rw[B]at hr;simp at hr|some q=>rw[B]at hr;rw[h F H q B];have⟨o,F1,H1⟩:=q;cases o with|norm=>exact Lz h k F1 H1 r hr|exit _=>exact hr|ret=>exact hr
theorem UR(D:∀f s,X.nm f=some s->N s=f){lf:Nat}:∀(j:RC)(code:Code)(F:WP)(H:bn)(r:Out×WP×bn),bR X false code=some j->jo X.E N call lf j F H=some r->exec X.E call lf false X.nt code F H=some r:=by
 intro j
 induction j with
 |skip=>
  intro code F H r d h;simp only[jo,ζa]at h;subst h
  cases code with
  |skip=>rfl|label _=>rfl|region id ops u=>simp only[bR]at d;(repeat' split at d)<;>first|(simp at d;done)|(have⟨_,_,e⟩:=ζf.1 d;cases e)
  |_=>simp only[bR]at d;(repeat' split at d)<;>first|(simp at d;done)|(have⟨_,_,e⟩:=ζf.1 d;cases e)|cases d
 |ops l=>intro code F H r d h;cases code with|region id ops u=>simp only[bR]at d;split at d;split at d;have⟨_,_,e⟩:=ζf.1 d;cases e;simp at d;rename_i hd;have⟨T,G,e⟩:=ζf.1 d;cases e;simp only[jo]at h;obtain⟨⟨F',H'⟩,k,rfl⟩:=ζf.1 h;simp only[exec,lB,hd];rw[if_neg Zab,LH D _ G k];rfl|_=>simp only[bR]at d;(repeat' split at d)<;>first|(simp at d;done)|(have⟨_,_,e⟩:=ζf.1 d;cases e)|cases d
 |sq l=>intro code F H r d h;cases code with|region id ops u=>simp only[bR]at d;split at d;rename_i hd;split at d;rename_i I;have⟨T,G,e⟩:=ζf.1 d;cases e;simp only[jo]at h;split at h;(next U=>obtain⟨⟨F',H'⟩,k,rfl⟩:=ζf.1 h;have W:ug ops.toList=false:=FC D _ G U;have:=KI D ops.toList (i:=0) rfl G k;rw[<-List.range_eq_range']at this;simp only[exec,lB,hd,I,if_true,W,false_eq_true,if_false,this];rfl);simp at h;simp at d;have⟨_,_,e⟩:=ζf.1 d;cases e|_=>simp only[bR]at d;(repeat' split at d)<;>first|(simp at d;done)|(have⟨_,_,e⟩:=ζf.1 d;cases e)|cases d
 |seq a b w B=>
  intro code F H r d h
  cases code with
  |seq J L=>simp only[bR]at d;split at d;rename_i x y C O;cases d;simp only[jo]at h;simp only[exec];(cases g:jo X.E N call lf a F H with|none=>rw[g]at h;simp at h|some q=>rw[g]at h;rw[w J F H q C g];have⟨o,F1,H1⟩:=q;cases o with|norm=>exact B L F1 H1 r O h|exit _=>exact h|ret=>exact h);simp at d
  |region id ops u=>simp only[bR]at d;(repeat' split at d)<;>first|(simp at d;done)|(have⟨_,_,e⟩:=ζf.1 d;cases e)
  |_=>simp only[bR]at d;(repeat' split at d)<;>first|(simp at d;done)|(have⟨_,_,e⟩:=ζf.1 d;cases e)|cases d
 |cond x a b w B=>
  intro code F H r d h
  cases code with
  |cond c J L=>simp only[bR]at d;split at d;rename_i n y z C O Y;cases d;simp only[jo]at h;simp only[exec,Oh (F:=F) D C];split at h;rename_i t Z;rw[Z];(cases t with|true=>simp only[if_true]at h⊢;exact w J F H r O h|false=>simp only[false_eq_true,if_false]at h⊢;exact B L F H r Y h);simp at h;simp at d
  |region id ops u=>simp only[bR]at d;(repeat' split at d)<;>first|(simp at d;done)|(have⟨_,_,e⟩:=ζf.1 d;cases e)
  |_=>simp only[bR]at d;(repeat' split at d)<;>first|(simp at d;done)|(have⟨_,_,e⟩:=ζf.1 d;cases e)|cases d
 |block id c Q=>
  intro code F H r d h
  cases code with
  |block S c'=>simp only[bR]at d;have⟨x,C,e⟩:=ζf.1 d;cases e;simp only[jo]at h;simp only[exec];cases g:jo X.E N call lf c F H with|none=>rw[g]at h;simp at h|some q=>rw[g]at h;rw[Q c' F H q C g];exact h
  |region id ops u=>simp only[bR]at d;(repeat' split at d)<;>first|(simp at d;done)|(have⟨_,_,e⟩:=ζf.1 d;cases e)
  |_=>simp only[bR]at d;(repeat' split at d)<;>first|(simp at d;done)|(have⟨_,_,e⟩:=ζf.1 d;cases e)|cases d
 |loop c Q=>
  intro code F H r d h
  cases code with
  |loop c'=>simp only[bR]at d;have⟨x,C,e⟩:=ζf.1 d;cases e;simp only[jo]at h;simp only[exec];exact Lz (λF H r m=>Q c' F H r C m) lf F H r h|region id ops u=>simp only[bR]at d;(repeat' split at d)<;>first|(simp at d;done)|(have⟨_,_,e⟩:=ζf.1 d;cases e)
  |_=>simp only[bR]at d;(repeat' split at d)<;>first|(simp at d;done)|(have⟨_,_,e⟩:=ζf.1 d;cases e)|cases d
 |exit id=>
  intro code F H r d h
  cases code with
  |exit S=>simp only[bR,ζa,RC.exit.injEq]at d;subst d;exact h|region id ops u=>simp only[bR]at d;(repeat' split at d)<;>first|(simp at d;done)|(have⟨_,_,e⟩:=ζf.1 d;cases e)
  |_=>simp only[bR]at d;(repeat' split at d)<;>first|(simp at d;done)|(have⟨_,_,e⟩:=ζf.1 d;cases e)|cases d
 |ret=>
  intro code F H r d h
  cases code with
  |ret=>exact h|region id ops u=>simp only[bR]at d;(repeat' split at d)<;>first|(simp at d;done)|(have⟨_,_,e⟩:=ζf.1 d;cases e)
  |_=>simp only[bR]at d;(repeat' split at d)<;>first|(simp at d;done)|(have⟨_,_,e⟩:=ζf.1 d;cases e)|cases d
 |_=>intro code F H r d h;simp[jo]at h
end
def Ex(E:Env)(N:Nat->Y')(a:RC)(F:WP)(H:bn)(o:Out)(F':WP)(H':bn):Prop:=∃n,∀k,n<=k->jo E N (run E k) k a F H=some (o,F',H')
def od(E:Env)(N:Nat->Y')(a:RC)(F:WP)(H:bn)(o:Out)(F':WP)(H':bn):Prop:=∃n,∀k,n<=k->∀u,n<=u->mK (jo E N (run E k) k a) u F H=some (o,F',H')
section
variable{E:Env}{N:Nat->Y'}{a b c:RC}{F F1 F':WP}{H H1 H':bn}{o:Out}{x:Arg}{id:Nat}
theorem Ex.ops{l:R0}(h:∃n,∀k,n<=k->cE E N (run E k) none l F H=some (F',H')):Ex E N (.ops l) F H .norm F' H':=let⟨n,h⟩:=h;⟨n,λk a=>by simp only[jo,h k a,map_some]⟩
theorem Ex.dw{l:R0}(h:∀call,cE E N call none l F H=some (F',H')):Ex E N (.ops l) F H .norm F' H':=Ex.ops ⟨0,λk _=>h _⟩
theorem Ex.sq{l:R0}(B:AJ l=true)(h:∀call,cE E N call (some H.length) l F H=some (F',H')):Ex E N (.sq l) F H .norm F' H':=⟨0,λk _=>by simp only[jo,B,if_true,h,map_some]⟩
theorem Ex.P4{l:R0}(B:AJ l=true)(h:∃n,∀k,n<=k->cE E N (run E k) (some H.length) l F H=some (F',H')):Ex E N (.sq l) F H .norm F' H':=let⟨n,h⟩:=h;⟨n,λk a=>by simp only[jo,B,if_true,h k a,map_some]⟩
theorem Ex.skip:Ex E N .skip F H .norm F H:=⟨0,λ_ _=>rfl⟩
theorem Ex.exit:Ex E N (.exit id) F H (.exit id) F H:=⟨0,λ_ _=>rfl⟩
theorem Ex.ret:Ex E N .ret F H .ret F H:=⟨0,λ_ _=>rfl⟩
theorem Ex.seq(c:Ex E N a F H .norm F1 H1)(B:Ex E N b F1 H1 o F' H'):Ex E N (.seq a b) F H o F' H':=by have⟨n,c⟩:=c;have⟨m,B⟩:=B;exact⟨max n m,λk d=>by simp only[jo,c k Zaa];exact B k Zaa⟩
theorem Ex.vO(c:Ex E N a F H o F' H')(B:o≠.norm):Ex E N (.seq a b) F H o F' H':=by have⟨n,c⟩:=c;refine⟨n,λk d=>?_⟩;simp only[jo,c k d];cases o<;>first|exact absurd rfl B|rfl
theorem Ex.pq(B:eG N F x=.bool true)(h:Ex E N a F H o F' H'):Ex E N (.cond x a b) F H o F' H':=by have⟨n,h⟩:=h;exact⟨n,λk c=>by simp only[jo,B,if_true,h k c]⟩
theorem Ex.rU(B:eG N F x=.bool false)(h:Ex E N b F H o F' H'):Ex E N (.cond x a b) F H o F' H':=by have⟨n,h⟩:=h;exact⟨n,λk c=>by simp only[jo,B,false_eq_true,if_false,h k c]⟩
theorem Ex.block(h:Ex E N c F H .norm F' H'):Ex E N (.block id c) F H .norm F' H':=by have⟨n,h⟩:=h;exact⟨n,λk a=>by simp only[jo,h k a]⟩
theorem Ex.wZ(h:Ex E N c F H (.exit id) F' H'):Ex E N (.block id c) F H .norm F' H':=by have⟨n,h⟩:=h;exact⟨n,λk a=>by simp only[jo,h k a,if_true]⟩
theorem Ex.QZ(h:Ex E N c F H .ret F' H'):Ex E N (.block id c) F H .ret F' H':=by have⟨n,h⟩:=h;exact⟨n,λk a=>by simp only[jo,h k a]⟩
theorem Ex.loop(h:od E N c F H o F' H'):Ex E N (.loop c) F H o F' H':=by have⟨n,h⟩:=h;exact⟨n,λk a=>h k a k a⟩
theorem od.step(a:Ex E N c F H .norm F1 H1)(B:od E N c F1 H1 o F' H'):od E N c F H o F' H':=by have⟨n,a⟩:=a;have⟨m,B⟩:=B;refine⟨max n m+1,λk b u w=>?_⟩;cases u with|zero=>omega|succ u=>simp only[mK,a k Zaa];exact B k Zaa u Zaa
theorem od.stop(a:Ex E N c F H o F' H')(B:o≠.norm):od E N c F H o F' H':=by have⟨n,a⟩:=a;refine⟨n+1,λk b u w=>?_⟩;cases u with|zero=>omega|succ u=>simp only[mK,a k Zaa];cases o<;>first|exact absurd rfl B|rfl
end
theorem Ex.run{E:Env}{nm:Y'->aY Nat}{N:Nat->Y'}(B:∀f s,nm f=some s->N s=f){f:Y'}{fi:FI}{a:RC}(D:E.ft f=some fi)(b:bR ⟨E,nm,fi.ntmps⟩ false fi.body=some a){args:So}(G:args.length<=fi.ntmps){H H':bn}{F':WP}
 (h:Ex E N a args H .ret F' H'){vs:So}(c:jJ E F' H' fi.results=some vs):∃n,run E n (.fn f) args H=some (result vs,H'):=by
 have⟨n,h⟩:=h;refine⟨n+1,?_⟩;have:=UR (X:=⟨E,nm,fi.ntmps⟩) (call:=Go.VE.run E n) B (lf:=n) a fi.body args H _ b (h n (le_refl _));simp only[Go.VE.run,lN,D,if_pos G,this,c,map_some]
@[simp] theorem nu(F:WP)(i j:Nat)(v:V):get (set F i v) j=if i=j then v else get F j:=by
 split;next h=>subst h;exact vA F i v
 rename_i h;exact kS F v h
def refs:ST->S'->S'
 |id::ids,r::rs=>[V.hsl id 1 0 r.length]::refs ids rs|_,_=>[]
def lq(r:So):S':=r.map λu=>[u]
structure oJ(H:bn)(w:V)(o:Nat)(ids:List Nat)(rows:List (List V)):Prop where
 v:w=if rows=[]then .bO else .hsl o 1 0 rows.length
 ob:rows≠[]->H[o]?=some (.row 1 (refs ids rows))
 len:ids.length=rows.length
 r:∀(i id:Nat)(r:List V),ids[i]?=some id->rows[i]?=some r->H[id]?=some (.row 1 (lq r))
 nd:ids.Nodup
 ne:rows≠[]->o∉ids
theorem wq:∀{ids:ST}{rows:S'},ids.length=rows.length->(refs ids rows).length=rows.length
 |[],[],_=>rfl|_::ids,_::rows,h=>by simp only[refs,length_cons,wq (ids:=ids) (rows:=rows) (by simpa using h)]
theorem MA:∀{ids:ST}{rows:S'}(id:Nat)(r:So),ids.length=rows.length->refs (ids++[id]) (rows++[r])=refs ids rows++[[V.hsl id 1 0 r.length]]
 |[],[],_,_,_=>rfl|_::ids,_::rows,id,r,h=>by simp only[refs,List.cons_append,MA (ids:=ids) (rows:=rows) id r (by simpa using h)]
theorem EG:∀{ids:ST}{rows:S'}{i id:Nat}{r:So},ids[i]?=some id->rows[i]?=some r->(refs ids rows)[i]?=some [V.hsl id 1 0 r.length]
 |[],_,_,_,_,h,_=>by simp at h|_::_,[],_,_,_,_,h=>by simp at h|a::ids,b::rows,0,id,r,h1,B=>by simp at h1 B;subst h1 B;rfl|a::ids,b::rows,i+1,id,r,h1,B=>by simpa[refs]using EG (ids:=ids) (rows:=rows) (i:=i) (by simpa using h1) (by simpa using B)
theorem Ks:∀{ids:ST}{rows:S'}{i:Nat}{r B:So},rows[i]?=some r->B.length=r.length->refs ids (rows.set i B)=refs ids rows
 |[],_,_,_,_,_,_=>by simp[refs]|_::_,[],_,_,_,_,_=>by simp[refs]|a::ids,b::rows,0,r,B,h,D=>by simp at h;subst h;simp only[List.set_cons_zero,refs,D]|a::ids,b::rows,i+1,r,B,h,D=>by simp only[List.set_cons_succ,refs,Ks (ids:=ids) (rows:=rows) (i:=i) (by simpa using h) D]
section
variable{H H':bn}{v:V}{o:Nat}{ids:ST}{rows:S'}
theorem oJ.nil(H:bn)(o:Nat):oJ H .bO o [] []:=⟨rfl,λh=>absurd rfl h,rfl,λi id r h=>by simp at h,.nil,λh=>absurd rfl h⟩
theorem oJ.heap(n:oJ H v o ids rows)(B:rows≠[]->H'[o]?=H[o]?)(a:∀id∈ids,H'[id]?=H[id]?):oJ H' v o ids rows:=⟨n.v,λh=>by rw[B h];exact n.ob h,n.len,λi id r h1 u=>by rw[a id (mem_of_getElem? h1)];exact n.r i id r h1 u,n.nd,n.ne⟩
theorem oJ.lt(n:oJ H v o ids rows):(rows≠[]->o<H.length)/\∀id∈ids,id<H.length:=by refine⟨λh=>(ζe.1 (n.ob h)).1,λid u=>?_⟩;have⟨i,a⟩:=getElem?_of_mem u;have w:=(ζe.1 a).1;have:=n.r i id _ a (ζd (show i<rows.length from n.len▸w));exact(ζe.1 this).1
theorem oJ.more(n:oJ H v o ids rows)(X:bn):oJ (H++X) v o ids rows:=n.heap (λh=>getElem?_append_left (n.lt.1 h)) λid u=>getElem?_append_left (n.lt.2 id u)
theorem oJ.push(n:oJ H v o ids rows)(r:So)(U:rows.length+1<=2147483648):
 ∃H',gb (H++[.row 1 (lq r)]++[.row 1 [[.hsl H.length 1 0 r.length]]]) (.append 1) [v,.hsl (H.length+1) 1 0 1]=some (.hsl (H.length+2) 1 0 (rows.length+1),H')/\
  oJ H' (.hsl (H.length+2) 1 0 (rows.length+1)) (H.length+2) (ids++[H.length]) (rows++[r])/\H.length<=H'.length/\(∀id,id<H.length->id≠o\/rows=[]->H'[id]?=H[id]?):=by
 generalize C:H++[.row 1 (lq r)]++[.row 1 [[.hsl H.length 1 0 r.length]]]=H2;have u:H2.length=H.length+2:=by subst C;simp
 have z:∀id,id<H.length->H2[id]?=H[id]?:=λid h=>by subst C;rw[append_assoc,getElem?_append_left h]
 have g:H2[H.length]?=some (.row 1 (lq r)):=by subst C;simp
 have T:H2[H.length+1]?=some (.row 1 [[.hsl H.length 1 0 r.length]]):=by subst C;simp
 have f:=n.v;have e2:dZ H2 1 (.hsl (H.length+1) 1 0 1)=some [[.hsl H.length 1 0 r.length]]:=by simp[dZ,T,Ob.rows]
 by_cases c:rows=[]
 .subst c;rw[if_pos rfl]at f;subst f;have:ids=[]:=List.eq_nil_of_length_eq_zero n.len;subst this;refine⟨H2++[.row 1 [[.hsl H.length 1 0 r.length]]],?_,⟨Zab,λ_=>by rw[<-u];simp[refs],rfl,λi id O hi w=>?_,Zab,λ_=>Zab⟩,by simp[u];omega,λid D _=>?_⟩
  .have e1:dZ H2 1 .bO=some []:=rfl;simp only[gb,e1,e2,jf,List.length_nil,length_singleton,map_some,u];simp
  .cases i with
   |zero=>simp at hi w;subst hi w;rw[getElem?_append_left Zaa];exact g|succ i=>simp at hi
  rw[getElem?_append_left Zaa];exact z id D
 rw[if_neg c]at f;subst f;have Q:=n.ob c;have I:=n.lt.1 c;have e1:dZ H2 1 (.hsl o 1 0 rows.length)=some (refs ids rows):=by simp only[dZ,if_true,z o I,Q,ζb,Ob.rows,wq n.len,zero_add,le_refl,drop_zero];rw[take_of_length_le (by rw[wq n.len];exact le_refl _)]
 have W:jf H2 (.hsl o 1 0 rows.length)=some (H2.set o .dead):=by simp only[jf,z o I,Q]
 have B:∀id,id≠o->(H2.set o Ob.dead++[Ob.row 1 (refs ids rows++[[.hsl H.length 1 0 r.length]])])[id]?=if id<H2.length then H2[id]?else(H2.set o Ob.dead++[Ob.row 1 (refs ids rows++[[.hsl H.length 1 0 r.length]])])[id]?:=λid G=>by split;(next h=>rw[getElem?_append_left (by simpa using h),getElem?_set_ne (Ne.symm G)]);rfl
 refine⟨H2.set o .dead++[.row 1 (refs ids rows++[[.hsl H.length 1 0 r.length]])],?_,⟨Zab,λ_=>?_,by simp[n.len],λi id O hi w=>?_,?_,λ_ d=>?_⟩,by simp[u];omega,λid D G=>?_⟩
 .simp only[gb,e1,e2,W,wq n.len,length_singleton,U,if_true,map_some,u]
 .rw[MA _ _ n.len,<-u];simp
 .have J:id≠o:=by
   rcases Nat.lt_or_ge i ids.length with h|h
   .rw[getElem?_append_left h]at hi;intro e;subst e;exact n.ne c (mem_of_getElem? hi)
   have:i=ids.length:=by have:=(ζe.1 hi).1;simp at this;omega
   subst this;simp at hi;subst hi;omega
  rcases Nat.lt_or_ge i ids.length with h|h
  .rw[getElem?_append_left h]at hi;rw[getElem?_append_left (by rw[<-n.len];exact h)]at w
   have L:=n.lt.2 id (mem_of_getElem? hi);rw[B id J,if_pos Zaa,z id L]
   exact n.r i id O hi w
  have:i=ids.length:=by have:=(ζe.1 hi).1;simp at this;omega
  subst this;simp at hi;subst hi;rw[n.len]at w;simp at w;subst w;rw[B _ J,if_pos Zaa];exact g
 .rw[List.nodup_append];exact⟨n.nd,Zab,λa X b S=>by simp at S;subst S;exact Nat.ne_of_lt (n.lt.2 a X)⟩
 .rcases mem_append.1 d with d|d
  .have:=n.lt.2 _ d;omega
  simp at d
 rw[B id (G.resolve_right c),if_pos Zaa];exact z id D
end
theorem DB{E:Env}{N:Nat->Y'}{F:WP}{H H1:bn}{call:dO}{b:aY Nat}{o:RO}{l:R0}{v:V}{r:WP×bn}(a:o.gd=none)(c:iK E N call b o.now o.k (o.az.map (eG N F)) H=some (v,H1))(h:cE E N call b l (iP F o.dst v) H1=some r):cE E N call b (o::l) F H=some r:=by simp only[cE,a,c];exact h
theorem vp{E:Env}{N:Nat->Y'}{F:WP}{H:bn}{call:dO}{b:aY Nat}{o:RO}{l:R0}{v:V}{r:WP×bn}(a:o.gd=none)(c:iK E N call b o.now o.k (o.az.map (eG N F)) H=some (v,H))(h:cE E N call b l (iP F o.dst v) H=some r):cE E N call b (o::l) F H=some r:=DB a c h
theorem uH{E:Env}{N:Nat->Y'}{F:WP}{H:bn}{call:dO}{b:aY Nat}:cE E N call b [] F H=some (F,H):=rfl
theorem Az{n:Nat}(h:n<=2147483648):wrap .i64 ((n:Int)+1)=((n+1:Nat):Int):=by simp[wrap,IntKind.bits,signed];omega
theorem abF{n:Nat}(h:n<=2147483648):wrap .i64 (((n+1:Nat):Int)-1)=(n:Int):=by simp[wrap,IntKind.bits,signed];omega
theorem EM(H:bn):H.take H.length=H:=List.take_length
theorem Fs{E:Env}{nm:Y'->aY Nat}{f:Y'}{a:RC}{n:Nat}{rs:aX ResultVar}(h:((E.ft f).map λfi=>(bR ⟨E,nm,fi.ntmps⟩ false fi.body,ble n fi.ntmps,fi.results))=some (some a,true,rs)):
 ∃fi,E.ft f=some fi/\bR ⟨E,nm,fi.ntmps⟩ false fi.body=some a/\n<=fi.ntmps/\fi.results=rs:=by
 have⟨fi,b,u⟩:=ζf.1 h;simp only[ζc]at u;exact⟨fi,b,u.1,Nat.le_of_ble_eq_true u.2.1,u.2.2⟩
theorem Im{x:V}(h:x.one=true):x.cells=[x]:=by cases x<;>first|rfl|(simp[V.one]at h)
theorem aak{call:dO}{f:Y'}{args az:So}{H:bn}(h:borrows call.lv H args=some az)(a:∀x∈az,x.closed=true):ck call f args H=ck call f az []:=by
 have:borrows call.lv [] az=some az:=by clear h;unfold borrows;induction az with|nil=>rfl|cons x l u=>simp only[jr,eT call.lv [] (a x Zab),u λy w=>a y (List.mem_cons_of_mem _ w)]
 unfold ck;rw[h,this]
def kept(t:Nat->X')(n:Nat):ST:=(range n).filter λi=>i==0|| !t i
theorem zW(t:Nat->X')(n:Nat):kept t (n+1)=kept t n++if n==0|| !t n then[n]else[]:=by unfold kept;rw[List.range_succ,List.filter_append,List.filter_cons];rfl
theorem DM(t:Nat->X'):∀n,(kept t n).length<=n:=λn=>by unfold kept;exact Nat.le_trans (List.length_filter_le ..) Zab
theorem NH{t:Nat->X'}{n i:Nat}(h:i∈kept t n):i<n:=by unfold kept at h;exact mem_range.1 (List.mem_filter.1 h).1
theorem Fz{t:Nat->X'}:∀n,(∀i,0<i->i<n->t i=false)->kept t n=range n
 |0,_=>rfl|n+1,h=>by rw[zW,Fz n λi a B=>h i a Zaa,List.range_succ];congr 1;cases n with|zero=>rfl|succ n=>rw[h (n+1) Zaa Zaa];simp
theorem CY{t:Nat->X'}{k:Nat}(b:0<k)(a:t k=true):∀n,k<n->(kept t n).length+1<=n
 |0,h=>Zaa|n+1,h=>by rw[zW];by_cases e:n=k;subst e;have:(n==0|| !t n)=false:=(by simp[a];omega);rw[this];have:=DM t n;simp;omega;have:=CY b a n Zaa;split<;>simp<;>omega
namespace cmpX
instance{n:Nat}:OfNat Arg n:=⟨.s n⟩
def r1:R0:=[o1 4 (.k (.bO)) []]
def r2:R0:=[o1 8 0 [],o2 9 (.p .lenSl) [8] [],o2 10 (.p (.bin (some .int) none .lss)) [9,.k (.int .i64 2)] []]
def r3:R0:=[o1 11 0 [],o1 4 11 []]
def r4:R0:=[o1 5 (.k (.int .i64 1)) []]
def r5:R0:=[o1 12 5 [],o1 13 0 [],o2 14 (.p .lenSl) [13] [],o2 15 (.p (.bin (some .int) none .lss)) [12,14] []]
def on(d:Nat)(k:K)(az:QR):RO:=⟨some d,none,true,k,az,[],[]⟩
def r6:R0:=[o1 18 1 [],o1 19 0 [],o1 20 5 [],o2 21 (.p (.idxS 1)) [19,20] [],o2 22 (.r (.load 1 false)) [21] [],o1 23 0 [],o1 24 5 [],o2 25 (.p (.bin (some .int) none .sub)) [24,.k (.int .i64 1)] [],o2 26 (.p (.idxS 1)) [23,25] [],o2 27 (.r (.load 1 false)) [26] [],on 28 .c [18,22,27]]
def r7:R0:=[o1 29 0 [],o1 30 5 [],o2 31 (.p (.slice 1 true false)) [29,30] [],o1 6 31 []]
def r8:R0:=[o1 7 (.k (.int .i64 1)) []]
def r9:R0:=[o1 32 7 [],o1 33 6 [],o2 34 (.p .lenSl) [33] [],o2 35 (.p (.bin (some .int) none .lss)) [32,34] []]
def Ca:R0:=[o1 38 1 [],o1 39 6 [],o1 40 7 [],o2 41 (.p (.idxS 1)) [39,40] [],o2 42 (.r (.load 1 false)) [41] [],o1 43 6 [],o1 44 7 [],o2 45 (.p (.bin (some .int) none .sub)) [44,.k (.int .i64 1)] [],o2 46 (.p (.idxS 1)) [43,45] [],o2 47 (.r (.load 1 false)) [46] [],on 48 .c [38,42,47],on 49 (.p (.not)) [48]]
def Dj:R0:=[o1 50 0 [],o1 51 5 [],o1 52 6 [],o1 53 7 [],o2 54 (.p (.idxS 1)) [52,53] [],o2 55 (.r (.load 1 false)) [54] [],o2 56 (.p (.idxS 1)) [50,51] [],⟨none,none,false,.l (.store 1),[56,55],[],[]⟩]
def Cg:R0:=[o1 57 5 [],o2 58 (.p (.bin (some .int) none .add)) [57,.k (.int .i64 1)] [],o1 5 58 []]
def Ci:R0:=[o1 36 7 [],o2 37 (.p (.bin (some .int) none .add)) [36,.k (.int .i64 1)] [],o1 7 37 []]
def L13:RC:=.seq (.seq (.ops r9) (.cond (.s 35) (.skip) (.exit 2))) (.seq (.block 3 (.seq (.sq Ca) (.cond (.s 49) (.seq (.ops Dj) (.ops Cg)) (.skip)))) (.ops Ci))
def Db:R0:=[o1 59 0 [],o1 60 5 [],o2 61 (.p (.slice 1 true false)) [59,60] [],⟨none,none,false,.l (.clear 1 [.bO]),[61],[],[]⟩]
def Co:R0:=[o1 62 0 [],o1 63 5 [],o2 64 (.p (.slice 1 false true)) [62,63] [],o1 4 64 []]
def r16:R0:=[o1 16 5 [],o2 17 (.p (.bin (some .int) none .add)) [16,.k (.int .i64 1)] [],o1 5 17 []]
def Wf:RC:=.seq (.seq (.ops r5) (.cond (.s 15) (.skip) (.exit 0))) (.seq (.block 1 (.seq (.sq r6) (.cond (.s 28) (.seq (.ops r7) (.seq (.seq (.ops r8) (.block 2 (.loop L13))) (.seq (.ops Db) (.seq (.ops Co) (.ret))))) (.skip)))) (.ops r16))
def Kj:R0:=[o1 65 0 [],o1 4 65 []]
def code:RC:=.seq (.ops r1) (.seq (.seq (.ops r2) (.cond (.s 10) (.seq (.ops r3) (.ret)) (.skip))) (.seq (.seq (.ops r4) (.block 0 (.loop Wf))) (.seq (.ops Kj) (.ret))))
section
variable{E:Env}{N:Nat->Y'}{F:WP}{H:bn}{call:dO}{id off L k:Nat}
theorem ld{B:S'}{el:Nat}{v:V}(h:H[id]?=some (.row 1 B))(a:B[el]?=some [v]):eE H (.load 1 false) [.hptr id el 0]=some v:=by simp[eE,eN,h,Ob.rows,a,cut,mk]
theorem WT{i:Nat}(h:i<L):nQ 1 (.hsl id 1 off L) (i:Int)=some (.hptr id (off+i) 0):=by unfold nQ;rw[if_neg Zaa];simp[h]
attribute [local simp] cE iK eG bM iP nu nq rN eE
theorem x2(a:get F 0=.hsl id 1 off L):∃F',(∀call,cE E N call none r2 F H=some (F',H))/\get F' 10=.bool (decide ((L:Int)<2))/\(∀s,s<8->get F' s=get F s):=by refine⟨_,λcall=>by simp[r2,a,o5];rfl,Zab,?_⟩;simp;grind
theorem x5(a:get F 0=.hsl id 1 off L)(b:get F 5=.int .i64 k):∃F',(∀call,cE E N call none r5 F H=some (F',H))/\get F' 15=.bool (decide (k<L))/\(∀s,s<8->get F' s=get F s):=by refine⟨_,λcall=>by simp[r5,a,b,o5];rfl,Zab,?_⟩;simp;grind
theorem aat{g:Y'}{cb:So}{B:S'}{o2 L2 i:Nat}{a b:V}{t:X'}(h:H[id]?=some (.row 1 B))(f:i+1<L2)(D:i<=2147483648)(G:B[o2+(i+1)]?=some [a])(J:B[o2+i]?=some [b])(d:E.keep g=false)(e:get F 1=.clo g [] cb):
 (get F 0=.hsl id 1 o2 L2->get F 5=.int .i64 ((i+1:Nat):Int)->∃F',(∀call,ck call g (a::b::cb) H=some (.bool t)->cE E N call (some H.length) r6 F H=some (F',H))/\get F' 28=.bool t/\(∀s,s<8->get F' s=get F s))/\
 (get F 6=.hsl id 1 o2 L2->get F 7=.int .i64 ((i+1:Nat):Int)->∃F',(∀call,ck call g (a::b::cb) H=some (.bool t)->cE E N call (some H.length) Ca F H=some (F',H))/\get F' 49=.bool (!t)/\(∀s,s<8->get F' s=get F s)):=by
 have hd:=abF D;have e1:=ld h G;have e2:=ld h J;have i1:=WT (id:=id) (off:=o2) (L:=L2) f;have i2:=WT (id:=id) (off:=o2) (L:=L2) (show i<L2 by omega)
 simp at i1 hd;refine⟨λj k=>⟨_,λcall c=>by simp[-eE,r6,on,j,e,k,i1,i2,e1,e2,hd,d,c,V.scalar,EM];rfl,Zab,?_⟩,λf6 l=>⟨_,λcall c=>by simp[-eE,Ca,on,e,f6,l,i1,i2,e1,e2,hd,d,c,V.scalar,EM];rfl,Zab,?_⟩⟩<;>exactλs u=>by simp;repeat (rw[if_neg Zaa])
end
end cmpX
namespace cmpX
section
variable{E:Env}{N:Nat->Y'}{F:WP}{H:bn}{call:dO}{id off L k:Nat}
attribute [local simp] cE iK eG bM iP nu nq rN eE
theorem x7(a:get F 0=.hsl id 1 off L)(b:get F 5=.int .i64 k)(c:k<=L):∃F',(∀call,cE E N call none r7 F H=some (F',H))/\get F' 6=.hsl id 1 (off+k) (L-k)/\(∀s,s<8->s≠6->get F' s=get F s):=by
 have e:jE 1 (.hsl id 1 off L) (some k) none=some (.hsl id 1 (off+k) (L-k)):=by unfold jE eD;grind
 refine⟨_,λcall=>by simp[r7,a,b,oC,e];rfl,Zab,?_⟩;simp;grind
theorem x9{o2 L2 m:Nat}(f6:get F 6=.hsl id 1 o2 L2)(a:get F 7=.int .i64 m):∃F',(∀call,cE E N call none r9 F H=some (F',H))/\get F' 35=.bool (decide (m<L2))/\(∀s,s<8->get F' s=get F s):=by refine⟨_,λcall=>by simp[r9,f6,a,o5];rfl,Zab,?_⟩;simp;grind
theorem x11{B:S'}{o2 L2 m p:Nat}{a z:V}(h:H[id]?=some (.row 1 B))(c:get F 0=.hsl id 1 off L)(d:get F 5=.int .i64 p)(f6:get F 6=.hsl id 1 o2 L2)(e:get F 7=.int .i64 m)(D:m<L2)(hp:p<L)
 (G:B[o2+m]?=some [a])(J:B[off+p]?=some [z])(b:a.one=true):
 ∃F',(∀call,cE E N call none Dj F H=some (F',H.set id (.row 1 (B.set (off+p) [a]))))/\(∀s,s<8->get F' s=get F s):=by
 have i1:=WT (id:=id) (off:=o2) D;have i2:=WT (id:=id) (off:=off) hp;have e1:=ld h G;have u:gb H (.store 1) [.hptr id (off+p) 0,a]=some (.undef,H.set id (.row 1 (B.set (off+p) [a]))):=by simp[gb,h,J,Im b,b]
 refine⟨_,λcall=>by simp[-eE,Dj,c,d,f6,e,i1,i2,e1,u];rfl,?_⟩
 simp;grind
theorem PG{p:Nat}(hp:p<=2147483648):(get F 5=.int .i64 p->∃F',(∀call,cE E N call none Cg F H=some (F',H))/\get F' 5=.int .i64 ((p+1:Nat):Int)/\(∀s,s<8->s≠5->get F' s=get F s))/\
 (get F 7=.int .i64 p->∃F',(∀call,cE E N call none Ci F H=some (F',H))/\get F' 7=.int .i64 ((p+1:Nat):Int)/\(∀s,s<8->s≠7->get F' s=get F s))/\
 (get F 5=.int .i64 p->∃F',(∀call,cE E N call none r16 F H=some (F',H))/\get F' 5=.int .i64 ((p+1:Nat):Int)/\(∀s,s<8->s≠5->get F' s=get F s)):=by
 have u:=Az hp;refine⟨λf=>⟨_,λcall=>by simp[Cg,f,u];rfl,Zab,?_⟩,λf=>⟨_,λcall=>by simp[Ci,f,u];rfl,Zab,?_⟩,λf=>⟨_,λcall=>by simp[r16,f,u];rfl,Zab,?_⟩⟩<;>
  (simp;grind)
theorem x14{B:S'}{p:Nat}(h:H[id]?=some (.row 1 B))(a:get F 0=.hsl id 1 off L)(b:get F 5=.int .i64 p)(hp:p<L)(D:off+L<=B.length):
 ∃F',(∀call,cE E N call none Db F H=some (F',H.set id (.row 1 (B.take (off+p)++replicate (L-p) [.bO]++B.drop (off+L)))))/\(∀s,s<8->get F' s=get F s):=by
 have e:jE 1 (.hsl id 1 off L) (some p) none=some (.hsl id 1 (off+p) (L-p)):=by unfold jE eD;grind
 obtain⟨q,u⟩:∃q,L-p=q+1:=⟨L-p-1,Zaa⟩
 have c:gb H (.clear 1 [.bO]) [.hsl id 1 (off+p) (L-p)]=some (.undef,H.set id (.row 1 (B.take (off+p)++replicate (L-p) [.bO]++B.drop (off+L)))):=by simp[gb,GH,u,h];grind
 refine⟨_,λcall=>by simp[Db,a,b,oC,e,c];rfl,?_⟩
 simp;grind
theorem WU{p:Nat}(a:get F 0=.hsl id 1 off L)(b:get F 5=.int .i64 p)(hp:p<=L):∃F',(∀call,cE E N call none Co F H=some (F',H))/\get F' 4=.hsl id 1 off p:=by
 have e:jE 1 (.hsl id 1 off L) none (some p)=some (.hsl id 1 off p):=by unfold jE eD;grind
 exact⟨_,λcall=>by simp[Co,a,b,oC,e];rfl,Zab⟩
theorem xmv:∃F',(∀call,cE E N call none Kj F H=some (F',H))/\get F' 4=get F 0:=⟨_,λcall=>by simp[Kj];rfl,Zab⟩
theorem TB:∃F',(∀call,cE E N call none r3 F H=some (F',H))/\get F' 4=get F 0:=⟨_,λcall=>by simp[r3];rfl,Zab⟩
end
structure J_(E:Env)(g:FuncId)(cb:List V)(H:bn)(id off L:Nat)(rs:List (List V))(A:Nat->V)(t:Nat->Bool):Prop where
 row:H[id]?=some (.row 1 rs)
 len:off+L<=rs.length
 small:L<=2147483648
 at_:∀i,i<L->rs[off+i]?=some [A i]
 one:∀i,i<L->(A i).one=true
 keep:E.keep g=false
 cmp:∃n,∀k,n<=k->∀i,i+1<L->∀cur,ck (run E k) g (A (i+1)::A i::cb) (H.set id (.row 1 cur))=some (.bool (t (i+1)))
structure Head(g:FuncId)(cb:List V)(id off L kk m:Nat)(rs:List (List V))(A:Nat->V)(t:Nat->Bool)(F:Frame)(cur:List (List V)):Prop where
 f0:get F 0=.hsl id 1 off L
 f1:get F 1=.clo g [] cb
 f5:get F 5=.int .i64 ((kept t (kk+m)).length:Nat)
 f6:get F 6=.hsl id 1 (off+kk) (L-kk)
 f7:get F 7=.int .i64 m
 len:cur.length=rs.length
 pre:∀p i,(kept t (kk+m))[p]?=some i->cur[off+p]?=some [A i]
 post:∀i,kk+m<=i+1->i<L->cur[off+i]?=some [A i]
 out:∀j,j<off\/off+L<=j->cur[j]?=rs[j]?
 cell:∀i,i<L->∃j,j<L/\cur[off+i]?=some [A j]
section
variable{E:Env}{N:Nat->Y'}{g:Y'}{cb:So}{H:bn}{id off L kk:Nat}{rs:S'}{A:Nat->V}{t:Nat->X'}
theorem PL(X:J_ E g cb H id off L rs A t)(x:0<kk)(ah:kk<L)(y:t kk=true):∀(d m:Nat)(F:WP)(B:S'),kk+m+d=L->0<m->Head g cb id off L kk m rs A t F B->
 ∃F' D,od E N L13 F (H.set id (.row 1 B)) (.exit 2) F' (H.set id (.row 1 D))/\Head g cb id off L kk (L-kk) rs A t F' D:=by
 have O:=(ζe.1 X.row).1;have G:∀B,(H.set id (.row 1 B))[id]?=some (.row 1 B):=λB=>getElem?_set_self O
 have ai:=X.small;have af:=X.len;intro d
 induction d with
 |zero=>
  intro m F B M P h;have R:m=L-kk:=Zaa
  subst R;obtain⟨F1,e1,e2,e3⟩:=x9 h.f6 h.f7;refine⟨F1,B,od.stop (Ex.vO (Ex.seq (Ex.dw e1) (Ex.rU (by simp[eG,e2]) Ex.exit)) Zab) Zab,?_⟩
  exact⟨by rw[e3 0 Zaa];exact h.f0,by rw[e3 1 Zaa];exact h.f1,by rw[e3 5 Zaa];exact h.f5,by rw[e3 6 Zaa];exact h.f6,by rw[e3 7 Zaa];exact h.f7,h.len,h.pre,h.post,h.out,h.cell⟩
 |succ d ih=>
  intro m F B M P h;obtain⟨F1,a1,a2,a3⟩:=x9 h.f6 h.f7;have T:eG N F1 35=.bool true:=by show get F1 35=_;rw[a2,decide_eq_true Zaa]
  obtain⟨m',rfl⟩:∃m',m=m'+1:=⟨m-1,Zaa⟩
  obtain⟨n0,ab⟩:=X.cmp;have q:B[off+kk+(m'+1)]?=some [A (kk+m'+1)]:=by have:=h.post (kk+m'+1) Zaa Zaa;grind
  have c2:B[off+kk+m']?=some [A (kk+m')]:=by have:=h.post (kk+m') Zaa Zaa;grind
  obtain⟨F2,b1,b,b3⟩:=(aat (L2:=L-kk) (G B) Zaa Zaa q c2 X.keep (by rw[a3 1 Zaa];exact h.f1)).2 (by rw[a3 6 Zaa];exact h.f6) (by rw[a3 7 Zaa];exact h.f7)
  have U:∃n,∀k,n<=k->cE E N (run E k) (some (H.set id (.row 1 B)).length) Ca F1 (H.set id (.row 1 B))=some (F2,H.set id (.row 1 B)):=⟨n0,λk hk=>b1 _ (ab k hk (kk+m') Zaa B)⟩
  have w:=λs r=>(b3 s r).trans (a3 s r)
  have ad:(kept t (kk+(m'+1))).length+1<=kk+(m'+1):=CY x y _ Zaa
  have u:kept t (kk+(m'+1)+1)=kept t (kk+(m'+1))++if t (kk+m'+1)then[]else[kk+m'+1]:=by rw[zW];grind
  have z:kk+(m'+1+1)=kk+(m'+1)+1:=Zaa
  cases W:t (kk+m'+1)with
  |true=>
   rw[W]at b u;simp at u;obtain⟨v,Y,c,Q⟩:=(PG (p:=m'+1) Zaa).2.1 (by rw[w 7 Zaa];exact h.f7)
   obtain⟨F',D,i1,i2⟩:=ih (m'+1+1) v B Zaa Zaa ⟨by rw[Q 0 Zaa Zaa,w 0 Zaa];exact h.f0,by rw[Q 1 Zaa Zaa,w 1 Zaa];exact h.f1,
    by rw[Q 5 Zaa Zaa,w 5 Zaa,z,u];exact h.f5,by rw[Q 6 Zaa Zaa,w 6 Zaa];exact h.f6,c,h.len,by rw[z,u];exact h.pre,λi a Z=>h.post i Zaa Z,h.out,h.cell⟩
   exact⟨F',D,od.step (Ex.seq (Ex.seq (Ex.dw a1) (Ex.pq T Ex.skip)) (Ex.seq (Ex.block (Ex.seq (Ex.P4 (by decide) U) (Ex.rU (by simp[eG,b]) Ex.skip))) (Ex.dw Y))) i1,i2⟩
  |false=>
   rw[W]at b u;generalize f:(kept t (kk+(m'+1))).length=K at *;obtain⟨_,_,hz⟩:=h.cell K Zaa
   obtain⟨v,Y,c⟩:=x11 (G B) (by rw[w 0 Zaa];exact h.f0) (by rw[w 5 Zaa,h.f5,f]) (by rw[w 6 Zaa];exact h.f6) (by rw[w 7 Zaa];exact h.f7) Zaa Zaa q hz (X.one _ Zaa)
   rw[set_set]at Y;generalize I:B.set (off+K) [A (kk+m'+1)]=J at Y;have l:∀j,J[j]?=if j=off+K then some [A (kk+m'+1)]else B[j]?:=λj=>by rw[<-I,List.getElem?_set];by_cases e:off+K=j;rw[if_pos e,if_pos e.symm,if_pos (by rw[h.len];omega)];rw[if_neg e,if_neg (Ne.symm e)]
   obtain⟨F4,Q,q4,q5⟩:=(PG (p:=K) Zaa).1 (by rw[c 5 Zaa,w 5 Zaa,h.f5,f])
   have C:∀s,s<8->s≠5->get F4 s=get F s:=λs a Z=>by rw[q5 s a Z,c s a,w s a]
   obtain⟨F5,q6,q7,o⟩:=(PG (p:=m'+1) Zaa).2.1 (by rw[C 7 Zaa Zaa];exact h.f7)
   obtain⟨F',D,i1,i2⟩:=ih (m'+1+1) F5 J Zaa Zaa ⟨by rw[o 0 Zaa Zaa,C 0 Zaa Zaa];exact h.f0,by rw[o 1 Zaa Zaa,C 1 Zaa Zaa];exact h.f1,
    by rw[o 5 Zaa Zaa,q4,z,u,ζi,f];rfl,by rw[o 6 Zaa Zaa,C 6 Zaa Zaa];exact h.f6,q7,by rw[<-I,List.length_set];exact h.len,
    λp i S=>by rw[z,u]at S;rw[l];by_cases e:p=K;subst e;rw[<-f,getElem?_append_right (le_refl _),Nat.sub_self]at S;cases S;rw[if_pos rfl];have ae:p<(kept t (kk+(m'+1))).length:=(by have:=(ζe.1 S).1;simp at this;omega);rw[getElem?_append_left ae]at S;rw[if_neg Zaa];exact h.pre p i S,
    λi a Z=>by rw[l,if_neg Zaa];exact h.post i Zaa Z,λj hj=>by rw[l,if_neg Zaa];exact h.out j hj,
    λi hi=>by rw[l];by_cases e:off+i=off+K;rw[if_pos e];exact⟨_,Zaa,rfl⟩;rw[if_neg e];exact h.cell i hi⟩
   exact⟨F',D,od.step (Ex.seq (Ex.seq (Ex.dw a1) (Ex.pq T Ex.skip)) (Ex.seq (Ex.block (Ex.seq (Ex.P4 (by decide) U) (Ex.pq (by simp[eG,b]) (Ex.seq (Ex.dw Y) (Ex.dw Q))))) (Ex.dw q6))) i1,i2⟩
structure U7(off L:Nat)(rs:List (List V))(A:Nat->V)(t:Nat->Bool)(rs':List (List V)):Prop where
 len:rs'.length=rs.length
 pre:∀p i,(kept t L)[p]?=some i->rs'[off+p]?=some [A i]
 all:∀c∈rs',c∈rs\/c=[.bO]
theorem O2(X:J_ E g cb H id off L rs A t):∀(d k:Nat)(F:WP),k+d=L->0<k->(∀i,0<i->i<k->t i=false)->get F 0=.hsl id 1 off L->get F 1=.clo g [] cb->get F 5=.int .i64 k->
 (∃F',od E N Wf F H (.exit 0) F' H/\get F' 0=.hsl id 1 off L/\∀i,0<i->i<L->t i=false)\/
 (∃F' D,od E N Wf F H .ret F' (H.set id (.row 1 D))/\get F' 4=.hsl id 1 off (kept t L).length/\U7 off L rs A t D):=by
 have Q:=(ζe.1 X.row).1;have S:=tX X.row;have ah:=X.small;have af:=X.len;intro d
 induction d with
 |zero=>
  intro k F he r hp b v e;have ek:k=L:=Zaa
  subst ek;obtain⟨F1,e1,e2,e3⟩:=x5 (N:=N) b e;exact .inl ⟨F1,od.stop (Ex.vO (Ex.seq (Ex.dw e1) (Ex.rU (by simp[eG,e2]) Ex.exit)) Zab) Zab,Zac,hp⟩
 |succ d ih=>
  intro k F he r hp b v e;obtain⟨F1,a1,a2,a3⟩:=x5 b e;have U:eG N F1 15=.bool true:=by show get F1 15=_;rw[a2,decide_eq_true Zaa]
  obtain⟨u,rfl⟩:∃u,k=u+1:=⟨k-1,Zaa⟩
  obtain⟨n0,ai⟩:=X.cmp;obtain⟨y,b1,f,b3⟩:=(aat (N:=N) (cb:=cb) (g:=g) (i:=u) (L2:=L) (t:=t (u+1)) X.row Zaa Zaa (X.at_ _ Zaa) (X.at_ _ Zaa) X.keep (by rw[a3 1 Zaa];omega)).1 Zac Zac
  have W:∃n,∀k,n<=k->cE E N (run E k) (some H.length) r6 F1 H=some (y,H):=⟨n0,λk r=>b1 _ (by
   grind)⟩
  have Y:=λs M=>(b3 s M).trans (a3 s M)
  cases w:t (u+1)with
  |false=>
   rw[w]at f;obtain⟨T,l,m,h⟩:=(PG (E:=E) (F:=y) (p:=u+1) Zaa).2.2 Zac
   have z:Ex E N Wf F H .norm T H:=Ex.seq (Ex.seq (Ex.dw a1) (Ex.pq U Ex.skip)) (Ex.seq (Ex.block (Ex.seq (Ex.P4 (by decide) W) (Ex.rU (by simp[eG,f]) Ex.skip))) (Ex.dw l))
   rcases ih (u+1+1) T Zaa Zaa (λi P Z=>by
    grind) Zac Zad m with⟨F',i1,i2⟩|⟨F',D,i1,i2⟩
   .exact .inl ⟨F',od.step z i1,i2⟩
   exact .inr ⟨F',D,od.step z i1,i2⟩
  |true=>
   rw[w]at f;refine .inr ?_;obtain⟨T,l,m,h⟩:=x7 (E:=E) (N:=N) (H:=H) (k:=u+1) (by rw[Y 0 Zaa];exact b) (by rw[Y 5 Zaa];exact e) Zaa
   have G:kept t (u+1)=range (u+1):=Fz _ hp;have R:kept t (u+1+1)=range (u+1):=by rw[zW,G,w];simp
   have q4:∀call,cE E N call none r8 T H=some (set T 7 (.int .i64 1),H):=λcall=>vp rfl (by simp[iK,eG,bM]) uH
   have h0:Head g cb id off L (u+1) 1 rs A t (set T 7 (.int .i64 1)) rs:=⟨by rw[kS _ _ Zaa,h 0 Zaa Zaa,Y 0 Zaa];exact b,by rw[kS _ _ Zaa,h 1 Zaa Zaa,Y 1 Zaa];exact v,
    by rw[kS _ _ Zaa,h 5 Zaa Zaa,Y 5 Zaa,R,length_range];exact e,by rw[kS _ _ Zaa];exact m,by rw[vA];rfl,rfl,
    λp i B=>by rw[R]at B;obtain⟨P,Z⟩:=ζe.1 B;simp at P Z;subst Z;exact X.at_ p Zaa,λi _ Z=>X.at_ i Z,λ_ _=>rfl,λi V=>⟨i,V,X.at_ i V⟩⟩
   obtain⟨F5,C,l1,I⟩:=PL (N:=N) X Zaa Zaa w (L-(u+1)-1) 1 _ rs Zaa Zaa h0
   rw[S]at l1;have eL:u+1+(L-(u+1))=L:=Zaa
   have ae:=CY (t:=t) (k:=u+1) Zaa w L Zaa
   have o:=I.f5;have J:=I.pre;rw[eL]at o J;generalize hK:(kept t L).length=K at *;have ab:(H.set id (.row 1 C))[id]?=some (.row 1 C):=getElem?_set_self Q;obtain⟨F6,w1,w2⟩:=x14 (E:=E) (N:=N) (p:=K) ab I.f0 o Zaa (by rw[I.len];omega)
   rw[set_set]at w1;obtain⟨F7,w3,w4⟩:=WU (E:=E) (by rw[w2 0 Zaa];exact I.f0) (by rw[w2 5 Zaa];exact o) Zaa
   have aj:=I.len;refine⟨F7,C.take (off+K)++replicate (L-K) [.bO]++C.drop (off+L),od.stop (Ex.seq (Ex.seq (Ex.dw a1) (Ex.pq U Ex.skip)) (Ex.vO (Ex.QZ (Ex.seq (Ex.P4 (by decide) W) (Ex.pq (by simp[eG,f]) (Ex.seq (Ex.dw l) (Ex.seq (Ex.seq (Ex.dw q4) (Ex.wZ (Ex.loop l1))) (Ex.seq (Ex.dw w1) (Ex.seq (Ex.dw w3) Ex.ret))))))) Zab)) Zab,w4,?_,λp i B=>?_,λc a=>?_⟩
   .simp;omega
   .have ak:p<K:=by rw[<-hK];exact(ζe.1 B).1
    rw[append_assoc,getElem?_append_left (by simp;omega),getElem?_take,if_pos Zaa]
    exact J p i B
   have ad:∀j x,C[j]?=some x->x∈rs:=λj x O=>by by_cases ho:j<off\/off+L<=j;rw[I.out j ho]at O;exact mem_of_getElem? O;obtain⟨i,rfl⟩:∃i,j=off+i:=⟨j-off,Zaa⟩;obtain⟨q,hq,a⟩:=I.cell i Zaa;rw[a]at O;cases O;exact mem_of_getElem? (X.at_ q hq)
   rcases mem_append.1 a with a|a
   .rcases mem_append.1 a with a|a
    .obtain⟨j,O⟩:=getElem?_of_mem (List.mem_of_mem_take a);exact .inl (ad j c O)
    exact .inr (List.eq_of_mem_replicate a)
   obtain⟨j,O⟩:=getElem?_of_mem (List.mem_of_mem_drop a);exact .inl (ad j c O)
end
end cmpX
def BO(E:Env)(g:Y')(cb:So)(a b:V):aY X':=match E0 E g cb a b with|some (.bool c)=>some c|_=>none
theorem aaU{E:Env}{g:Y'}{cb:So}{a b:V}{c:X'}(h:BO E g cb a b=some c):∃n,∀k,n<=k->ck (run E k) g (a::b::cb) []=some (.bool c):=by
 unfold BO at h;split at h;next c' d=>cases h;exact HH d
 cases h
def oe(xs:S')(i:Nat):V:=kO ((xs[i]?).getD [])
def AA(E:Env)(es:Nat)(xs:S'):So->aY S'
 |[.clo g [] cb]=>if xs.isEmpty then some []else if wU es xs&& !E.keep g then
  if(range xs.length).all λi=>i==0||(BO E g cb (oe xs i) (oe xs (i-1))).isSome then
   some ((kept (λi=>(BO E g cb (oe xs i) (oe xs (i-1))).getD false) xs.length).map λi=>(xs[i]?).getD [])
  else none
  else none
 |_=>none
def vD(E:Env):IW:=⟨true,AA E⟩
namespace cmpX
section
variable{E:Env}{N:Nat->Y'}{g:Y'}{cb:So}{H:bn}{id off L:Nat}{rs:S'}{A:Nat->V}{t:Nat->X'}
theorem whole(X:J_ E g cb H id off L rs A t):∃F' B,Ex E N code [.hsl id 1 off L,.clo g [] cb] H .ret F' (H.set id (.row 1 B))/\get F' 4=.hsl id 1 off (kept t L).length/\U7 off L rs A t B:=by
 have u:H.set id (.row 1 rs)=H:=tX X.row;have same:(∀i,0<i->i<L->t i=false)->(kept t L).length=L/\U7 off L rs A t rs:=λh=>by have d:=Fz L h;rw[d,length_range];exact⟨rfl,rfl,λp i O=>by rw[d]at O;have⟨a,w⟩:=ζe.1 O;simp at a w;subst w;exact X.at_ p a,λc b=>.inl b⟩
 have g1:∀call,cE E N call none r1 [.hsl id 1 off L,.clo g [] cb] H=some (set [.hsl id 1 off L,.clo g [] cb] 4 .bO,H):=λcall=>vp (v:=.bO) rfl (by simp[iK,eG,bM]) uH;have k0:get (set [V.hsl id 1 off L,.clo g [] cb] 4 .bO) 0=.hsl id 1 off L:=rfl;have k1:get (set [V.hsl id 1 off L,.clo g [] cb] 4 .bO) 1=.clo g [] cb:=rfl;generalize set [V.hsl id 1 off L,.clo g [] cb] 4 .bO=Q at *;have⟨F1,a1,a2,a3⟩:=x2 (E:=E) (N:=N) (H:=H) k0;by_cases S:L<2;have⟨z,C,D⟩:=TB (E:=E) (N:=N) (F:=F1) (H:=H);have⟨e1,e2⟩:=same λi a w=>by omega
 refine⟨z,rs,?_,by rw[e1,D,a3 0 Zaa];exact k0,e2⟩;rw[u];exact Ex.seq (Ex.dw g1) (Ex.vO (Ex.seq (Ex.dw a1) (Ex.pq (by show get F1 10=_;rw[a2,decide_eq_true Zaa]) (Ex.seq (Ex.dw C) Ex.ret))) Zab);have g4:∀call,cE E N call none r4 F1 H=some (set F1 5 (.int .i64 1),H):=λcall=>vp (v:=.int .i64 1) rfl (by simp[iK,eG,bM]) uH;have b:Ex E N (.seq (.ops r2) (.cond (.s 10) (.seq (.ops r3) (.ret)) (.skip))) Q H .norm F1 H:=Ex.seq (Ex.dw a1) (Ex.rU (by show get F1 10=_;rw[a2,decide_eq_false Zaa]) Ex.skip);rcases O2 (N:=N) X (L-1) 1 (set F1 5 (.int .i64 1)) Zaa Zaa (λi a w=>Zaa) (by rw[kS _ _ Zaa,a3 0 Zaa];exact k0) (by rw[kS _ _ Zaa,a3 1 Zaa];exact k1) (by rw[vA];rfl)with⟨F',G,I,J⟩|⟨F',B,G,I,J⟩;have⟨z,C,D⟩:=xmv (E:=E) (N:=N) (F:=F') (H:=H);have⟨e1,e2⟩:=same J;refine⟨z,rs,?_,by rw[e1,D];exact I,e2⟩;rw[u];exact Ex.seq (Ex.dw g1) (Ex.seq b (Ex.seq (Ex.seq (Ex.dw g4) (Ex.wZ (Ex.loop G))) (Ex.seq (Ex.dw C) Ex.ret)));exact⟨F',B,Ex.seq (Ex.dw g1) (Ex.seq b (Ex.vO (Ex.seq (Ex.dw g4) (Ex.QZ (Ex.loop G))) Zab)),I,J⟩
theorem empty{w:V}(c:V)(B:w=.bO\/w=.dY):∃F',Ex E N code [w,c] H .ret F' H/\get F' 4=w:=by
 have g1:∀call,cE E N call none r1 [w,c] H=some (set [w,c] 4 .bO,H):=λcall=>vp (v:=.bO) rfl (by simp[iK,eG,bM]) uH;have k0:get (set [w,c] 4 .bO) 0=w:=rfl;generalize set [w,c] 4 .bO=u at *;have z:o5 w=some (.int .i64 0):=by rcases B with rfl|rfl<;>rfl
 have a1:∃F1,(∀call,cE E N call none r2 u H=some (F1,H))/\get F1 10=.bool true/\get F1 0=w:=by refine⟨_,λcall=>vp (v:=w) rfl ?_<|vp (v:=.int .i64 0) rfl ?_<|vp (v:=.bool true) rfl ?_ uH,?_,?_⟩;simp[iK,eG,bM,k0];simp[iK,eG,bM,iP,z];simp[iK,eG,bM,iP,nq,rN];simp[iP];simp[iP,k0]
 have⟨F1,a1,a2,a3⟩:=a1;have⟨C,D,G⟩:=TB (E:=E) (N:=N) (F:=F1) (H:=H);exact⟨C,Ex.seq (Ex.dw g1) (Ex.vO (Ex.seq (Ex.dw a1) (Ex.pq a2 (Ex.seq (Ex.dw D) Ex.ret))) Zab),by rw[G,a3]⟩
end
end cmpX
theorem TE{E:Env}{f:Y'}{nm:Y'->aY Nat}{N:Nat->Y'}(hN:∀f s,nm f=some s->N s=f)(l:E.keep f=true)(ho:E.own f=false)
 (hf:∃fi,E.ft f=some fi/\bR ⟨E,nm,fi.ntmps⟩ false fi.body=some cmpX.code/\2<=fi.ntmps/\fi.results=[.tmp 4]):pV E f (vD E):=by
 have⟨fi,h1,h2,h3,h4⟩:=hf;have D:∀{w c:V}{H H':bn}{F':WP}{r:V},Ex E N cmpX.code [w,c] H .ret F' H'->get F' 4=r->∃n,∀k,n<=k->run E k (.fn f) [w,c] H=some (r,H'):=λ{w c H H' F' r}P R=>by have⟨n,G⟩:=Ex.run hN h1 h2 (args:=[w,c]) (by simpa using h3) P (vs:=[r]) (by rw[h4];simp[jJ,R]);exact⟨n,λk l=>(qF E l).go _ _ _ _ G⟩
 refine⟨l,ho,?_,?_,?_⟩
 .intro es z vs ys h;simp only[vD,AA]at h;refine⟨?_,λe=>by simp[vD]at e⟩
  split at h
  .split at h
   .cases h;simp
   split at h
   .split at h
    .cases h;simpa using DM _ _
    cases h
   cases h
  cases h
 .intro es vs ys h H Z ws w hw he;simp only[vD,AA]at h;split at h
  .obtain⟨t,r,rfl,q1,K⟩:=hw.inv;rw[K.dh];have⟨F',e1,e2⟩:=cmpX.empty (E:=E) (N:=N) (H:=H) t he;have⟨n,G⟩:=D e1 e2;exact⟨n,[],λk l=>by rw[append_nil];exact G k l⟩
  cases h
 intro es z vs ys h H Z ws id off rs hw S T ae J hz;simp only[vD,AA]at h;split at h
 .rename_i g cb;obtain⟨t,r,rfl,q1,K⟩:=hw.inv;rw[K.dh];obtain⟨a',B,rfl,ha,af⟩:∃a' B,t=.clo g a' B/\dJ H Z [] a'/\dJ H Z cb B:=q1.l_;rw[ha.dh]at *;split at h
  .rename_i he;cases h;have:z=[]:=by simpa using he
   subst this;have e2:∃F',Ex E N cmpX.code [.hsl id es off 0,.clo g [] B] H .ret F' H/\get F' 4=.hsl id es off 0:=by have g1:∀call,cE E N call none cmpX.r1 [.hsl id es off 0,.clo g [] B] H=some (set [.hsl id es off 0,.clo g [] B] 4 .bO,H):=λcall=>vp (v:=.bO) rfl (by simp[iK,eG,bM]) uH;have k0:get (set [V.hsl id es off 0,.clo g [] B] 4 .bO) 0=.hsl id es off 0:=rfl;generalize set [V.hsl id es off 0,.clo g [] B] 4 .bO=F0 at *;have a1:∃F1,(∀call,cE E N call none cmpX.r2 F0 H=some (F1,H))/\get F1 10=.bool true/\get F1 0=.hsl id es off 0:=(by refine⟨_,λcall=>vp (v:=.hsl id es off 0) rfl ?_<|vp (v:=.int .i64 0) rfl ?_<|vp (v:=.bool true) rfl ?_ uH,?_,?_⟩;simp[iK,eG,bM,k0];simp[iK,eG,bM,iP,o5];simp[iK,eG,bM,iP,nq,rN];simp[iP];simp[iP,k0]);have⟨F1,a1,a2,a3⟩:=a1;have⟨F2,b1,b2⟩:=cmpX.TB (E:=E) (N:=N) (F:=F1) (H:=H);exact⟨F2,Ex.seq (Ex.dw g1) (Ex.vO (Ex.seq (Ex.dw a1) (Ex.pq a2 (Ex.seq (Ex.dw b1) Ex.ret))) Zab),by rw[b2,a3]⟩
   have⟨F',e1,e3⟩:=e2;have⟨n,G⟩:=D e1 e3;refine⟨n,rs,[],λk l=>?_,rfl,⟨rfl,λj u v m=>by simp at m⟩,J⟩
   rw[append_nil,tX S];exact G k l
  rename_i al;split at h
  .rename_i L;simp only[ζh,Bool.not_eq_true']at L;have⟨c1,c3⟩:=L;obtain⟨rfl,U,W⟩:=BE c1;split at h
   .rename_i Y;cases h;have O:∀i,i<z.length->∃a,rs[off+i]?=some [a]/\FR H Z (oe z i) a/\a.one=true:=λi d=>by
     have⟨e,p2⟩:=W i z[i] (ζd d);have Q:off+i<rs.length:=Zaa
     have:=ae.2 i z[i] rs[off+i] (ζd d) (by rw[getElem?_take,if_pos d,getElem?_drop,ζd Q])
     rw[e]at this;have⟨y,ys,e2,r1,r2⟩:=this.inv;rw[r2.dh]at e2;have e3:oe z i=kO z[i]:=by unfold oe;rw[ζd d];rfl
     exact⟨y,by rw[ζd Q,e2],by rw[e3];exact r1,by rw[r1.one];exact p2⟩
    let A:Nat->V:=λi=>match rs[off+i]?with|some (a::_)=>a|_=>.undef
    have o:∀i,i<z.length->rs[off+i]?=some [A i]/\FR H Z (oe z i) (A i)/\(A i).one=true:=λi d=>by have⟨a,p1,p2,p4⟩:=O i d;have:A i=a:=(by show(match rs[off+i]?with|some (a::_)=>a|_=>V.undef)=a;rw[p1]);rw[this];exact⟨p1,p2,p4⟩
    have aa:∀i,i+1<z.length->∃b,BO E g cb (oe z (i+1)) (oe z i)=some b:=λi d=>by have:=all_eq_true.1 Y (i+1) (mem_range.2 d);simp only[Nat.add_sub_cancel,Bool.or_eq_true]at this;rcases this with h|h;simp at h;exact Option.isSome_iff_exists.1 h
    have X:cmpX.J_ E g B H id off z.length rs A (λi=>(BO E g cb (oe z i) (oe z (i-1))).getD false):=by refine⟨S,T,U,λi d=>(o i d).1,λi d=>(o i d).2.2,c3,?_⟩;have⟨M,hM⟩:=Hs (n:=z.length-1) (p:=λi k=>ck (run E k) g (oe z (i.1+1)::oe z i.1::cb) []=some (.bool ((BO E g cb (oe z (i.1+1)) (oe z i.1)).getD false))) (λi=>by have⟨b,Q⟩:=aa i.1 (by have:=i.2;omega);have⟨n,G⟩:=aaU Q;exact⟨n,λk l=>by rw[G k l,Q];rfl⟩);have⟨L1,ah⟩:=ot ((range z.length).map (oe z));have⟨L2,ai⟩:=ot cb;have ab:∀i k,i<z.length->L1<=k->(oe z i).lvl k=true:=λi k d l=>AE l (oI.1 ah i _ (by simp[d]));refine⟨max M (max L1 L2),λk l i d ad=>?_⟩;have C:∀j,Z j->Z j/\bu (H.set id (.row 1 ad)) j=bu H j:=λj q=>⟨q,by unfold bu;rw[getElem?_set_ne];rintro rfl;exact hz q⟩;have hl:dJ (H.set id (.row 1 ad)) Z (oe z (i+1)::oe z i::cb) (A (i+1)::A i::B):=.cons ((o _ d).2.1.mono C) (.cons ((o i Zaa).2.1.mono C) (af.mono C));have Q:=hl.N0 (k:=k) (by simp only[V.nE,ab _ k d Zaa,ab i k Zaa Zaa,rF (by omega:L2<=k) ai,Bool.and_self]);rw[aak (by rw[qB];exact Q) (λx P=>?_)];exact hM ⟨i,Zaa⟩ k Zaa;have⟨j,q⟩:=getElem?_of_mem P;have⟨y,hy,R⟩:=hl.get q;exact V.mM R.good
    have⟨F',aj,e1,e2,e3⟩:=cmpX.whole (N:=N) X;have⟨n,G⟩:=D e1 e2;refine⟨n,aj,[],λk l=>?_,e3.len,?_,?_⟩
    .simp only[vD,if_true,length_map,append_nil];exact G k l
    .refine⟨by simp[e3.len];have:=DM (λi=>(BO E g cb (oe z i) (oe z (i-1))).getD false) z.length;omega,λp a b hp hq=>?_⟩
     rw[getElem?_map]at hp;obtain⟨i,d,rfl⟩:=ζf.1 hp;have I:=NH (mem_of_getElem? d);have ak:=(ζe.1 d).1;rw[getElem?_take,if_pos (by simpa using ak),getElem?_drop,e3.pre p i d]at hq
     cases hq;rw[ζd I,getD_some];have e4:=(W i z[i] (ζd I)).1;have e5:oe z i=kO z[i]:=by unfold oe;rw[ζd I];rfl
     rw[e4,<-e5];exact .cons (o i I).2.1 .nil
    intro c hc u m;rcases e3.all c hc with h|rfl
    .exact J c h u m
    simp at m;subst m;exact⟨.bO,.same _ rfl⟩
   cases h
  cases h
 cases h
def Sl.re{α:Type}(s:Sl α)(l:aX α):Sl α:=match s with|.nil=>.nil|.emp=>.emp|.row _=>.row l|.part _=>.part l
def Sl.vn{α:Type}(s:Sl α)(l:aX α):Sl α:=match s with|.nil=>.nil|.emp=>.emp|.row _|.part _=>.part l
def A7{α:Type}(s:Sl α)(p:α->α->Ps):aY (Sl α):=
 match s.l with
 |[]=>some s|x::l=>if l.length<2147483648 then
  let t:_root_.Fin (l.length+1)->_root_.Fin (l.length+1)->Ps:=λi j=>p (x::l)[i.1] (x::l)[j.1]
  if Dp t then some (s.re ((tE l.length (rS t)).toList.map λi=>(x::l)[i.1]))else none
  else none
def vJ{α:Type}(l:aX α)(p:α->α->aY X')(i:Nat):aY X':=match l[i]?,l[i-1]?with|some a,some b=>p a b|_,_=>none
def An{α:Type}(s:Sl α)(p:α->α->aY X'):aY (Sl α):=
 if s.l.length<=2147483648/\((range s.l.length).all λi=>i==0||(vJ s.l p i).isSome)=true then
  some (s.vn ((kept (λi=>(vJ s.l p i).getD false) s.l.length).filterMap (s.l[·]?)))
 else none
section
variable{S:Sys}{T:sQ}{β γ δ α:Type}{Q:Out×St->aY β}{e:γ->aY β}{cf:Cf}
theorem eV.SO(B:s_ S T)(D:∀f a b xs,S.items f a b=some xs->eW S f a b xs){fn:Y'}{A:δ->So}{E:α->So}{p:δ->aY α}{sc:X'}(F:eV S (dm S T) fn A E p sc){z:δ}{r:α}(h:p z=some r)(d:V.cG (A z)=true):
 ∃n,ck (run S.E n) fn (A z) []=some (result (E r)):=by
 have e:=F.h z (E r) Zad
 have⟨⟨rs,m'⟩,u,w⟩:=ζg.1 e;have⟨n,y,H2,e1,e2,e3⟩:=EV (wP B D) d u w;refine⟨n,?_⟩;have C:borrows n [] (A z)=some (A z):=by have c:=V.qA d;generalize A z=l at c;unfold borrows;induction l with|nil=>rfl|cons x l G=>simp[V.jw]at c;simp[jr,eT n [] c.1,G c.2]
 unfold ck;rw[qB,C];simp[e1 n (le_refl _),e2 n (le_refl _),V.mM e3]
section
variable[bD α]
theorem GJ(b:bD.size α=1){l:aX α}(B:l.length<=2147483648):wU (bD.size α) (rows l)=true:=by unfold wU;simp;refine⟨⟨b,λx u=>?_⟩,by simpa[rows]using B⟩;obtain⟨a,_,rfl⟩:=mem_map.1 u;exact⟨by rw[h_,b],all_eq_true.1 (bD.one a)⟩
theorem I_(b:bD.agg α=false)(a:α):kO (cells a)=enc a:=by unfold enc;rw[if_neg Zac];rfl
theorem Fa(l:aX α)(i:Nat)(h:i<l.length):(rows l)[i]?=some (cells l[i]):=by unfold rows;grind
theorem Y0(U:s_ S T)(W:∀f a b xs,S.items f a b=some xs->eW S f a b xs){g:Y'}{p:α->α->Ps}(F:eV S (dm S T) g (λz:α×α=>[enc z.1,enc z.2]) (λr:Int=>[.int .i64 r]) (λz=>p z.1 z.2) true)
 (c:bD.size α=1)(Y:bD.agg α=false){s D:Sl α}(h:A7 s p=some D):Da S.E (bD.size α) (rows s.l) [.clo g [] []]=some (rows D.l)/\D.k=s.k:=by
 unfold A7 at h;split at h
 next B=>cases h;rw[B];exact⟨rfl,rfl⟩
 rename_i x l B;split at h
 .dsimp only at h;split at h
  .rename_i I;cases h;rw[B];have⟨u,J⟩:=tc I;have C:=GJ c (l:=x::l) Zac
   have key:∀m,m=l.length->(if Dp (λi j:_root_.Fin (m+1)=>vG S.E g [] (kO (((rows (x::l))[i.1]?).getD [])) (kO (((rows (x::l))[j.1]?).getD [])))then
    some ((tE m (rS (λi j:_root_.Fin (m+1)=>vG S.E g [] (kO (((rows (x::l))[i.1]?).getD [])) (kO (((rows (x::l))[j.1]?).getD []))))).toList.map λi=>((rows (x::l))[i.1]?).getD [])else none)=
    some (rows ((tE l.length (rS λi j:_root_.Fin (l.length+1)=>p (x::l)[i.1] (x::l)[j.1])).toList.map λi=>(x::l)[i.1])):=by
    rintro m rfl;have e1:∀i:_root_.Fin (l.length+1),kO (((rows (x::l))[i.1]?).getD [])=enc (x::l)[i.1]:=λi=>by rw[Fa (x::l) i.1 i.2,getD_some,I_ Y]
    have e2:(λi j:_root_.Fin (l.length+1)=>vG S.E g [] (kO (((rows (x::l))[i.1]?).getD [])) (kO (((rows (x::l))[j.1]?).getD [])))=λi j=>p (x::l)[i.1] (x::l)[j.1]:=by funext i j;have⟨z,L⟩:=u i j;rw[e1 i,e1 j,L];have⟨n,O⟩:=F.SO U W (z:=((x::l)[i.1],(x::l)[j.1])) L (by simp[V.cG,k_]);unfold vG;rw[NI O];rfl
    rw[e2,if_pos I]
    congr 1
    unfold rows;rw[List.map_map];refine List.map_congr_left λi _=>?_
    grind
   have w:(s.re ((tE l.length (rS λi j:_root_.Fin (l.length+1)=>p (x::l)[i.1] (x::l)[j.1])).toList.map λi=>(x::l)[i.1])).l=(tE l.length (rS λi j:_root_.Fin (l.length+1)=>p (x::l)[i.1] (x::l)[j.1])).toList.map (λi=>(x::l)[i.1])/\(s.re ((tE l.length (rS λi j:_root_.Fin (l.length+1)=>p (x::l)[i.1] (x::l)[j.1])).toList.map λi=>(x::l)[i.1])).k=s.k:=by cases s<;>simp[Sl.l]at B<;>exact⟨rfl,rfl⟩
   refine⟨?_,w.2⟩;rw[w.1,<-key (rows l).length (iY l)];have d:(wU (bD.size α) (rows (x::l))&& !S.E.keep g)=true:=by rw[C,F.k];rfl
   have G:=d;exact(if_pos G).trans rfl
  simp_all
 simp_all
theorem XX(W:s_ S T)(Y:∀f a b xs,S.items f a b=some xs->eW S f a b xs){g:Y'}{p:α->α->aY X'}(F:eV S (dm S T) g (λz:α×α=>[enc z.1,enc z.2]) (λr:X'=>[.bool r]) (λz=>p z.1 z.2) true)
 (e:bD.size α=1)(k:bD.agg α=false){s D:Sl α}(h:An s p=some D):AA S.E (bD.size α) (rows s.l) [.clo g [] []]=some (rows D.l)/\D=s.vn D.l:=by
 have Q:∀l:aX α,(s.vn l)=s.vn (s.vn l).l:=λl=>by cases s<;>rfl
 refine⟨?_,by
  unfold An at h;grind⟩
 unfold An at h;split at h
 .rename_i hc;cases h;have⟨X,u⟩:=hc;have I:=GJ e X;simp only[AA]
  by_cases J:s.l=[]
  .have:(s.vn ((kept (λi=>(vJ s.l p i).getD false) s.l.length).filterMap (s.l[·]?))).l=[]:=by
    cases s<;>simp[Sl.l]at J<;>simp[Sl.vn,Sl.l,J,kept]
   rw[this,J];rfl
  have L:(rows s.l).isEmpty=false:=by cases o:s.l with|nil=>grind|cons a l=>rfl
  rw[L,if_neg Zab,I,F.k,if_pos (by rfl),iY]
  have e1:∀i,0<i->i<s.l.length->∃b,vJ s.l p i=some b/\BO S.E g [] (oe (rows s.l) i) (oe (rows s.l) (i-1))=some b:=λi m c=>by have:=all_eq_true.1 u i (mem_range.2 c);simp at this;have⟨b,C⟩:=Option.isSome_iff_exists.1 (this.resolve_left Zaa);refine⟨b,C,?_⟩;have w:i-1<s.l.length:=Zaa;unfold vJ at C;rw[ζd c,ζd w]at C;have U:∀j(G:j<s.l.length),oe (rows s.l) j=enc s.l[j]:=λj G=>(by unfold oe;rw[Fa _ _ G,getD_some,I_ k]);rw[U i c,U (i-1) w];have⟨n,Z⟩:=F.SO W Y (z:=(s.l[i],s.l[i-1])) C (by simp only[V.cG,k_,Bool.and_self]);unfold BO;rw[NI Z];rfl
  have e2:((range s.l.length).all λi=>i==0||(BO S.E g [] (oe (rows s.l) i) (oe (rows s.l) (i-1))).isSome)=true:=by grind
  rw[if_pos e2];have e3:kept (λi=>(BO S.E g [] (oe (rows s.l) i) (oe (rows s.l) (i-1))).getD false) s.l.length=kept (λi=>(vJ s.l p i).getD false) s.l.length:=by refine List.filter_congr λi c=>?_;by_cases m:i=0;grind;have⟨b,q,t⟩:=e1 i Zaa (mem_range.1 c);simp_all
  rw[e3];have e4:(s.vn ((kept (λi=>(vJ s.l p i).getD false) s.l.length).filterMap (s.l[·]?))).l=(kept (λi=>(vJ s.l p i).getD false) s.l.length).filterMap (s.l[·]?):=by cases s<;>first|rfl|grind
  rw[e4]
  congr 1
  generalize d:kept (λi=>(vJ s.l p i).getD false) s.l.length=O
  have B:∀i∈O,i<s.l.length:=λi c=>NH (d▸c)
  clear d e3 e4
  induction O with
  |nil=>rfl|cons i O ih=>
   have c:=B i Zab
   rw[map_cons,ih λj G=>B j (List.mem_cons_of_mem _ G),Fa _ _ c,List.filterMap_cons,ζd c]
   rfl
 simp_all
theorem Vj{s B:Sl α}{p:α->α->Ps}(h:A7 s p=some B)(a:cO s.k=false):B=s:=by cases s<;>simp[Sl.k,cO]at a<;>simpa[A7,Sl.l]using h.symm
theorem aby(n d:Nat)(D:s_ S T)(G:∀f a b xs,S.items f a b=some xs->eW S f a b xs){fn g:Y'}(hp:S.prm fn=some (vk S.E)){p:α->α->Ps}
 (F:eV S (dm S T) g (λz:α×α=>[enc z.1,enc z.2]) (λr:Int=>[.int .i64 r]) (λz=>p z.1 z.2) true){s:Sl α}{f:Sl α->aY γ}
 (h:∀B,A7 s p=some B->Le ((f B).bind e) (b7 S (dm S T) Q (nx S (dm S T) n cf λq=>cV {q.st with m:=bN q.st.m d (cI B)} q.d (.v .undef))))
 (i:bD.size α=1:=by rfl)(J:bD.agg α=false:=by rfl)
 (U:(gA S (dm S T) n cf).map (λq=>(q.k,bW S.N q.st.g q.az,bl q.st.m d,q.dr))=some (.c,some [.v (.clo fn [] []),.own d,.v (.clo g [] [])],some (cI s),false):=by kernel_rfl):Le (((A7 s p).bind f).bind e) (b7 S (dm S T) Q cf):=by
 have⟨q,C,c⟩:=e_ U;simp at c;have⟨I,L,O,W⟩:=c;refine rR C ?_ h;rw[I,W];intro y w;have⟨B,u,w⟩:=ζg.1 w;have⟨e1,e2⟩:=Y0 D G F i J u;have j:=(D.prm fn _ hp).keep;have X:=(D.prm fn _ hp).own;rw[yx false _ _ _ _ _ _ fn [.own d,.v (.clo g [] [])] L rfl];have l:fT S (dm S T) q.d false (!false||q.now) (gJ q.st.m q.fr) fn [.own d,.v (.clo g [] [])] q.st=some (.v .undef,{q.st with m:=bN q.st.m d (cI B)}):=by unfold fT;simp[j,X,hp,ET,O,cI,dA];have e3:=e1;simp[vk];cases k:cO s.k with|true=>grind|false=>have:=Vj u k;grind
 grind
theorem acs(n d t:Nat)(D:s_ S T)(G:∀f a b xs,S.items f a b=some xs->eW S f a b xs){fn g:Y'}(hp:S.prm fn=some (vD S.E)){p:α->α->aY X'}
 (F:eV S (dm S T) g (λz:α×α=>[enc z.1,enc z.2]) (λr:X'=>[.bool r]) (λz=>p z.1 z.2) true){s:Sl α}{f:Sl α->aY γ}
 (h:∀B,An s p=some B->Le ((f B).bind e) (b7 S (dm S T) Q (nx S (dm S T) n cf λq=>{q.st with g:=bN q.st.g t (.own t),m:=bN (eO d q.st.m) t (cI B)})))
 (i:bD.size α=1:=by rfl)(J:bD.agg α=false:=by rfl)
 (U:(gA S (dm S T) n cf).map (λq=>(q.k,bW S.N q.st.g q.az,bl q.st.m d,q.dr,q.d,St.new {q.st with m:=eO d q.st.m} t))=some (.c,some [.v (.clo fn [] []),.own d,.v (.clo g [] [])],some (cI s),false,some t,true):=by kernel_rfl):Le (((An s p).bind f).bind e) (b7 S (dm S T) Q cf):=by
 have⟨q,C,c⟩:=e_ U;simp at c;have⟨I,L,O,W,X,Y⟩:=c;refine rR C ?_ h;rw[I,W,X];intro y u;have⟨B,w,u⟩:=ζg.1 u;cases u;have⟨e1,e2⟩:=XX D G F i J w;have j:=(D.prm fn _ hp).keep;have Z:=(D.prm fn _ hp).own;rw[yx false _ _ _ _ _ _ fn [.own d,.v (.clo g [] [])] L rfl];have k:fT S (dm S T) (some t) false (!false||q.now) (gJ q.st.m q.fr) fn [.own d,.v (.clo g [] [])] q.st=some (.own t,{q.st with m:=bN (eO d q.st.m) t (cI B)}):=by unfold fT;simp[j,Z,hp,ET,O,cI,dA];have e3:(vD S.E).go (bD.size α) (rows s.l) [.clo g [] []]=some (rows B.l):=e1;rw[e3];simp[vD,Y];have e4:(if cO s.k=true then bH.sl .part (bD.size α) (rows B.l)else .sl s.k (bD.size α) (rows s.l))=.sl B.k (bD.size α) (rows B.l):=(by rw[e2];cases s<;>rfl);rw[e4]
 rw[k];rfl
end
end
section
variable{H H':bn}{w:V}{o:Nat}{ids:ST}{rows:S'}
theorem oJ.cell(n:oJ H w o ids rows){p j:Nat}{r:So}{u:V}(a:rows[p]?=some r)(c:r[j]?=some u):
 ∃id,ids[p]?=some id/\nQ 1 w (p:Int)=some (.hptr o p 0)/\eE H (.load 1 false) [.hptr o p 0]=some (.hsl id 1 0 r.length)/\nQ 1 (.hsl id 1 0 r.length) (j:Int)=some (.hptr id j 0)/\eE H (.load 1 false) [.hptr id j 0]=some u:=by
 have D:=(ζe.1 a).1;have G:=(ζe.1 c).1;have B:rows≠[]:=by intro e;subst e;simp at a
 have C:p<ids.length:=by rw[n.len];exact D
 have z:=ζd C;refine⟨ids[p],z,?_,?_,?_,?_⟩
 .have:=n.v;rw[if_neg B]at this;subst this;simp[nQ,D]
 .have b:=n.ob B;have I:=EG z a;simp[eE,eN,b,Ob.rows,I,cut];rfl
 .simp[nQ,G]
 have b:=n.r p _ r z a;simp[eE,eN,b,Ob.rows,lq,c,cut];rfl
theorem SD{ids:ST}(h:ids.Nodup){i j:Nat}{a:Nat}(c:ids[i]?=some a)(B:ids[j]?=some a):i=j:=by have b:=(ζe.1 c);have u:=(ζe.1 B);have⟨b,e1⟩:=b;have⟨u,e2⟩:=u;exact(List.getElem_inj h).1 (e1.trans e2.symm)
theorem oJ.set(n:oJ H w o ids rows){p j id:Nat}{r:So}{u:V}(b:rows[p]?=some r)(U:j<r.length)(B:ids[p]?=some id)(d:V.one u=true)(f:u.cells=[u]):
 ∃H',gb H (.store 1) [.hptr id j 0,u]=some (.undef,H')/\oJ H' w o ids (rows.set p (r.set j u))/\H'.length=H.length/\(∀i,i≠id->H'[i]?=H[i]?):=by
 have L:=(ζe.1 b).1;have z:rows≠[]:=by intro e;subst e;simp at b
 have c:=n.r p id r B b;have O:id<H.length:=(ζe.1 c).1;have D:(lq r).set j [u]=lq (r.set j u):=by simp[lq,List.map_set]
 have G:o≠id:=λe=>n.ne z (e▸mem_of_getElem? B)
 refine⟨H.set id (.row 1 (lq (r.set j u))),?_,⟨?_,λ_=>?_,by simp[n.len],λi I Q a C=>?_,n.nd,λ_=>n.ne z⟩,Zab,λi a=>getElem?_set_ne (Ne.symm a)⟩
 .have S:(lq r)[j]?=some [r[j]]:=by simp[lq,U]
  simp only[gb,c,S,f,length_singleton,zero_add,le_refl,all_cons,d,List.all_nil,Bool.and_self,and_self,if_true,List.take_zero,nil_append];rw[<-D];simp
 .rw[n.v];have:rows.set p (r.set j u)≠[]:=by intro e;apply z;simpa using e
  rw[if_neg z,if_neg this,List.length_set]
 .rw[getElem?_set_ne (Ne.symm G),Ks b Zab];exact n.ob z
 by_cases e:i=p
 .subst e;rw[B]at a;cases a;rw[getElem?_set_self L]at C;cases C;rw[getElem?_set_self O]
 rw[getElem?_set_ne (Ne.symm e)]at C;have J:id≠I:=λT=>e (SD n.nd (T▸a) B)
 rw[getElem?_set_ne J];exact n.r i I Q a C
end
structure mc(H:bn)(w:V)(l:List (List V))(id:Nat):Prop where
 c:∀c∈l,c.length=2/\c.all V.one=true
 v:(w=.bO/\l=[])\/∃off xs,w=.hsl id 2 off l.length/\H[id]?=some (.row 2 xs)/\off+l.length<=xs.length/\(xs.drop off).take l.length=l
section
variable{H H':bn}{w:V}{l:S'}{id:Nat}
theorem mc.heap(n:mc H w l id)(h:∀off n,w=.hsl id 2 off n->H'[id]?=H[id]?):mc H' w l id:=⟨n.c,n.v.imp (λh=>h) λ⟨off,u,e1,e2,e3,e4⟩=>⟨off,u,e1,by rw[h _ _ e1];exact e2,e3,e4⟩⟩
theorem mc.lt(n:mc H w l id){off m:Nat}(h:w=.hsl id 2 off m):id<H.length:=by rcases n.v with⟨e,_⟩|⟨_,u,_,e2,_⟩;rw[e]at h;cases h;exact(ζe.1 e2).1
theorem mc.more(n:mc H w l id)(X:bn):mc (H++X) w l id:=n.heap λ_ _ e=>getElem?_append_left (n.lt e)
theorem mc.len(n:mc H w l id):o5 w=some (.int .i64 l.length):=by rcases n.v with⟨rfl,rfl⟩|⟨off,u,rfl,_⟩<;>rfl
theorem mc.get(n:mc H w l id){i:Nat}{c:So}(a:l[i]?=some c):∃p,nQ 2 w (i:Int)=some p/\eE H (.load 2 true) [p]=some (.agg c):=by
 have b:=(ζe.1 a).1;have u:=(n.c c (mem_of_getElem? a)).1;rcases n.v with⟨_,rfl⟩|⟨off,z,rfl,e2,e3,e4⟩;simp at a;refine⟨.hptr id (off+i) 0,by simp[nQ,b],?_⟩;have:z[off+i]?=some c:=by rw[<-e4,getElem?_take,if_pos b,getElem?_drop]at a;exact a
 simp[eE,eN,e2,Ob.rows,this,cut,<-u];rfl
theorem mc.tail{c:So}(n:mc H w (c::l) id):∃w',jE 2 w (some 1) none=some w'/\mc H w' l id/\∃off m B,w=.hsl id 2 off m/\w'=.hsl id 2 B l.length:=by
 rcases n.v with⟨_,e⟩|⟨off,u,rfl,e2,e3,e4⟩;cases e;refine⟨.hsl id 2 (off+1) l.length,?_,⟨λc a=>n.c c (List.mem_cons_of_mem _ a),.inr ⟨off+1,u,rfl,e2,by simp at e3;omega,?_⟩⟩,⟨_,_,_,rfl,rfl⟩⟩;simp[jE,eD];omega;have hd:(u.drop off).drop 1=u.drop (off+1):=by rw[List.drop_drop]
 rw[<-hd];have:=congrArg (List.drop 1) e4;rw[List.drop_take]at this;simpa using this
theorem mc.push(n:mc H w l id){c:So}(b:c.length=2/\c.all V.one=true)(B:l.length+1<=2147483648):
 ∃H',gb (H++[.row 2 [c]]) (.append 2) [w,.hsl H.length 2 0 1]=some (.hsl (H.length+1) 2 0 (l.length+1),H')/\mc H' (.hsl (H.length+1) 2 0 (l.length+1)) (l++[c]) (H.length+1)/\H'.length=H.length+2/\(∀i,i<H.length->(∀off m,w=.hsl id 2 off m->i≠id)->H'[i]?=H[i]?):=by
 have e2:dZ (H++[.row 2 [c]]) 2 (.hsl H.length 2 0 1)=some [c]:=by simp[dZ,Ob.rows]
 have u:∀c'∈l++[c],c'.length=2/\c'.all V.one=true:=λc' h=>by rcases mem_append.1 h with h|h;exact n.c c' h;simp at h;subst h;exact b
 rcases n.v with⟨rfl,rfl⟩|⟨off,D,rfl,g2,g3,g4⟩
 .have e1:dZ (H++[.row 2 [c]]) 2 .bO=some []:=rfl;refine⟨H++[.row 2 [c]]++[.row 2 [c]],?_,⟨u,.inr ⟨0,[c],rfl,Zab,Zab,rfl⟩⟩,Zab,λi a _=>by rw[append_assoc,getElem?_append_left a]⟩
  simp only[gb,e1,e2,jf,List.length_nil,length_singleton,map_some];simp
 have z:=(ζe.1 g2).1;have e1:dZ (H++[.row 2 [c]]) 2 (.hsl id 2 off l.length)=some l:=by simp only[dZ,if_true,getElem?_append_left z,g2,ζb,Ob.rows,g3,g4]
 have C:jf (H++[.row 2 [c]]) (.hsl id 2 off l.length)=some (List.set (H++[Ob.row 2 [c]]) id Ob.dead):=by simp only[jf,getElem?_append_left z,g2]
 refine⟨List.set (H++[Ob.row 2 [c]]) id Ob.dead++[Ob.row 2 (l++[c])],?_,⟨u,.inr ⟨0,l++[c],Zab,Zab,Zab,take_of_length_le Zab⟩⟩,Zab,λi a h=>?_⟩
 .simp only[gb,e1,e2,C,length_singleton,B,if_true,map_some,ζi]
 rw[getElem?_append_left (by simp;omega),getElem?_set_ne (Ne.symm (h _ _ rfl)),getElem?_append_left a]
end
def Cm(rs:aX RV):Out×St->aY bH
 |(.exit _,_)=>none|(_,st)=>(mh st rs).bind λl=>match l with
  |[.own d]=>bl st.m d|_=>none
theorem goO{S:Sys}{c:cn}{rs:aX RV}{a:RC}{st:St}{ob:bH}(h:mz S c (Cm rs) a [] st=some ob):∃o st' d,cN S c a st=some (o,st')/\(∀id,o≠.exit id)/\mh st' rs=some [.own d]/\bl st'.m d=some ob:=by
 rw[rA]at h;have⟨⟨o,st'⟩,b,u⟩:=ζg.1 h;have z:∀id,o≠.exit id:=by rintro id rfl;simp[Cm]at u
 have B:(mh st' rs).bind (λl=>match l with|[.own d]=>bl st'.m d|_=>none)=some ob:=by cases o with|exit id=>exact absurd rfl (z id)|norm=>exact u|ret=>exact u
 have⟨l,C,w⟩:=ζg.1 B;split at w;exact⟨o,st',_,b,z,C,w⟩;cases w
theorem Z_{S:Sys}{T:sQ}(U:s_ S T)(W:∀f a b xs,S.items f a b=some xs->eW S f a b xs){f:Y'}{rf:RF}(Y:T f=some rf){B:So}(g:V.cG B=true)(l:B.length<=rf.na){k:Fl}{es:Nat}{xs:S'}
 (m:∀x∈xs,x.all V.scalar=true)(r:k=.row\/k=.nil/\xs=[])(h:mz S (dm S T) (Cm rf.rs) rf.body [] (start (B.map .v) [])=some (.sl k es xs)):
 ∃n y H',run S.E n (.fn f) B []=some (y,H')/\((k=.nil/\y=.bO)\/(∃id,y=.hsl id es 0 xs.length/\H'[id]?=some (.row es xs))):=by
 have⟨o,st',d,s,O,G,I⟩:=goO h;have t:dm S T f (B.map .v) []=some ([.own d],st'.m):=by rw[uA Y];unfold o8;rw[if_pos (by simpa using l),s];cases o with|exit id=>exact absurd rfl (O id)|norm=>simp only[G,map_some]|ret=>simp only[G,map_some]
 have⟨Q,r1⟩:=zT g;obtain⟨n,y,H2,ν',Z',st2,F',J,g1,rfl,g3,g4,g5,_⟩:=wP U W f _ _ _ _ t _ _ B [] (.inr rfl) Q r1;obtain⟨z,H,rfl,e1,e2⟩:=g4.inv;have:=e2.dh;subst this;refine⟨n,_,H2,g1,?_⟩
 cases e1 with
 |own d y X=>
  have⟨K,Z,M,e,u⟩:=X _ I;cases e;have w:=g5.obj d _ (by rw[g3];exact I)
  rcases r with rfl|⟨rfl,rfl⟩
  .right;simp only[eH,cO,if_true]at w;have⟨J,v,N,D,P,C⟩:=w;have⟨C,A⟩:=C trivial;rw[C,drop_zero,<-A,take_of_length_le (le_refl _)]at D;have:xs=J:=by
    refine List.ext_getElem D.1 λi p q=>?_
    have c:=D.2 i _ _ (ζd p) (ζd q);refine List.ext_getElem c.1 λj L E=>?_
    have F:=c.2 j _ _ (ζd L) (ζd E);exact((F.scalar).1 (all_eq_true.1 (m _ (getElem_mem p)) _ (getElem_mem L))).symm
   subst this;refine⟨(ν' d).1,?_,v⟩;show result [_]=_;rw[u];simp[result,uT,C]
  left;exact⟨rfl,by show result [_]=_;rw[u];rfl⟩
theorem Lo{E:Env}{f:Y'}{B:So}{l:S'}{y:V}{H1:bn}(d:E.own f=true)(e:V.cG B=true)(D:∀c∈l,c.length=2/\c.all V.one=true/\c.all V.scalar=true)
 (b:∃n,∀k,n<=k->run E k (.fn f) B []=some (y,H1))(G:(l=[]/\y=.bO)\/(∃id,y=.hsl id 2 0 l.length/\H1[id]?=some (.row 2 l)))(H:bn):
 ∃w X id,(∃n,∀k,n<=k->gx E (run E k) f B H=some (w,H++X))/\mc (H++X) w l id/\(∀off m,w=.hsl id 2 off m->id=H.length):=by
 have⟨n,b⟩:=b;have C:∀{k:Nat}{l:So},V.cG l=true->borrows k H l=some l:=by intro k l;unfold borrows;induction l with|nil=>intro _;rfl|cons a l I=>intro h;have g:V.good a=true/\V.cG l=true:=(by simpa[V.cG]using h);simp only[jr,eT k H (V.mM g.1),I g.2]
 rcases G with⟨rfl,rfl⟩|⟨id,rfl,z⟩
 .refine⟨.bO,[],0,⟨n,λk u=>?_⟩,⟨λc h=>by simp at h,.inl ⟨rfl,rfl⟩⟩,λoff m h=>by cases h⟩
  simp only[gx,d,if_true,mH,C e,b k u,V.scalar,append_nil]
 refine⟨.hsl H.length 2 0 l.length,[.row 2 l],H.length,⟨n,λk u=>?_⟩,⟨λc h=>⟨(D c h).1,(D c h).2.1⟩,.inr ⟨0,l,rfl,Zab,Zab,Zab⟩⟩,λoff m h=>rfl⟩
 have J:(l.all λx=>x.all V.scalar)=true:=all_eq_true.2 λc h=>(D c h).2.2
 simp only[gx,d,if_true,mH,C e,b k u,V.scalar,false_eq_true,if_false,tO,z,J,and_self,map_some]
def Sl.whole{α:Type}(s:Sl α):aY (Sl α):=match s with|.part _=>none|s=>some s
structure C6(S:Sys)(c:cn){α δ:Type}[bD δ](fn:FuncId)(A:α->List V)(p:α->Option (Sl δ)):Prop where
 k:S.E.keep fn=true
 o:S.E.own fn=true
 h:∀z s,p z=some s->∃e m',c fn ((A z).map .v) []=some ([.own e],m')/\bl m' e=some (cI s)
 sc:∀x:δ,(cells x).all V.scalar=true
theorem C6.mk'{S:Sys}{T:sQ}{α δ:Type}[bD δ](rf:RF){fn:Y'}{A:α->So}{p:α->aY (Sl δ)}(h:∀z,Le ((p z).bind λr=>some (cI r)) (b7 S (dm S T) (Cm rf.rs) (.rc rf.body,[],start ((A z).map .v) [])))
 (B:T fn=some rf:=by kernel_rfl)(b:S.E.keep fn=true:=by kernel_rfl)(D:S.E.own fn=true:=by kernel_rfl)(G:∀z,(A z).length<=rf.na:=by intro z;exact Nat.le_of_ble_eq_true (by kernel_rfl))
 (sc:∀x:δ,(cells x).all V.scalar=true:=by intro x;rfl):C6 S (dm S T) fn A p where
 k:=b
 o:=D
 sc:=sc
 h z s u:=by have a:=h z (cI s) (by rw[u];rfl);change mz S (dm S T) (Cm rf.rs) rf.body [] (start ((A z).map .v) [])=some (cI s)at a;have⟨o,st',d,g1,g2,g3,g4⟩:=goO a;refine⟨d,st'.m,?_,g4⟩;rw[uA B];unfold o8;rw[if_pos (by simpa using G z),g1];cases o with|exit id=>exact absurd rfl (g2 id)|norm=>simp only[g3,map_some]|ret=>simp only[g3,map_some]
section
variable{S:Sys}{c:cn}{β γ δ α:Type}[bD δ]{Q:Out×St->aY β}{e:γ->aY β}{cf:Cf}
theorem OY(n u:Nat){fn:Y'}{A:α->So}{p:α->aY (Sl δ)}(F:C6 S c fn A p)(z:α){f:Sl δ->aY γ}
 (h:∀x,(p z).bind Sl.whole=some x->Le ((f x).bind e) (b7 S c Q (nx S c n cf λq=>{q.st with g:=bN q.st.g u (.own u),m:=bN q.st.m u (cI x)})))
 (J:(gA S c n cf).map (λq=>(q.d,q.k,(bW S.N q.st.g q.az).bind mE,(!q.dr||q.now),q.st.new u))=some (some u,.c,some (fn,(A z).map .v),true,true):=by kernel_rfl):Le ((((p z).bind Sl.whole).bind f).bind e) (b7 S c Q cf):=by
 have⟨q,L,b⟩:=e_ J;simp only[ζc]at b;have⟨O,T,U,W,I⟩:=b;have⟨C,g1,g2⟩:=ζg.1 U;refine rR L ?_ h;rw[O,T];intro y D;have⟨X,G,D⟩:=ζg.1 D;cases D;have⟨s,Y,B⟩:=ζg.1 G;have⟨e0,m',d,Z⟩:=F.h z s Y;rw[yx q.dr _ _ _ _ _ C fn ((A z).map .v) g1 g2];have w:fT S c (some u) q.dr (!q.dr||q.now) (gJ q.st.m q.fr) fn ((A z).map .v) q.st=some (.own u,{q.st with m:=bN q.st.m u (cI X)}):=by unfold fT;simp only[F.k,F.o,if_true,W,xG,d,dA,Z,cI,I];cases s with|nil=>cases B;rfl|emp=>cases B;rfl|row l=>cases B;have:nT (rows l)=true:=(by unfold nT;rw[all_eq_true];intro x i;obtain⟨a,_,rfl⟩:=mem_map.1 i;exact F.sc a);simp only[Sl.k,Sl.l,dA,V.c_,this,Bool.and_self,I,if_true];rfl|part l=>cases B
 rw[w];rfl
end
structure GD where
 m:Nat
 pre:List (Nat×List Gh)
 nd:List (Nat×List Gh×List Gh)
structure GI where
 m:Nat
 i:Nat
 j:Nat
def lkL{α:Type}(l:aX (Nat×aX α))(i:Nat):aX α:=match l with
 |[]=>[]|(k,x)::r=>bif beq k i then x else lkL r i
def Cd(l:aX (Nat×Pi×Pi))(i:Nat):Pi×Pi:=match l with
 |[]=>([],[])|(k,x)::r=>bif beq k i then x else Cd r i
def Pn(m:Nat):ST->ST
 |[]=>[]|x::l=>bif beq (m % 2) 1 then x::Pn (m / 2) l else Pn (m / 2) l
def VI:QR->ST
 |[]=>[]|.s n::r=>n::VI r|_::r=>VI r
def abH(o:RO):ST:=(match o.dst with|some d=>[d]|none=>[])++(match o.gd with|some g=>[g.1]|none=>[])++VI o.az
def adh(G:GD)(s:GI)(o:RO):RO:={o with dead:=Pn (bif beq (s.m % 16) 15 then s.m / 16 % 65536 else s.m % 16) (abH o),pre:=lkL G.pre s.i}
def GI.op(s:GI):GI:=⟨bif beq (s.m % 16) 15 then s.m / 1048576 else s.m / 16,s.i+1,s.j⟩
def B0(G:GD):R0->GI->R0×GI
 |[],s=>([],s)|o::r,s=>(adh G s o::(B0 G r s.op).1,(B0 G r s.op).2)
def Dh:Pi->RC->RC
 |[],c=>c|g::l,c=>.gh g (Dh l c)
def SU:Pi->RC->RC
 |[],c=>c|g::l,c=>SU l (.hg c g)
def GI.nd(s:GI):GI:=⟨s.m,s.i,s.j+1⟩
def lg(G:GD):RC->GI->RC×GI
 |.seq a b,s=>(Dh (Cd G.nd s.j).1 (.seq (lg G a s.nd).1 (lg G b (lg G a s.nd).2).1),(lg G b (lg G a s.nd).2).2)|.cond x a b,s=>(Dh (Cd G.nd s.j).1 (.cond x (lg G a s.nd).1 (lg G b (lg G a s.nd).2).1),(lg G b (lg G a s.nd).2).2)|.block id a,s=>(Dh (Cd G.nd s.j).1 (.block id (lg G a s.nd).1),(lg G a s.nd).2)|.loop a,s=>(Dh (Cd G.nd s.j).1 (.loop (SU (Cd G.nd s.j).2 (lg G a s.nd).1)),(lg G a s.nd).2)|.each g ps a b,s=>(Dh (Cd G.nd s.j).1 (.each g ps (lg G a s.nd).1 (SU (Cd G.nd s.j).2 (lg G b (lg G a s.nd).2).1)),(lg G b (lg G a s.nd).2).2)|.ops l,s=>(Dh (Cd G.nd s.j).1 (.ops (B0 G l s.nd).1),(B0 G l s.nd).2)|.sq l,s=>(Dh (Cd G.nd s.j).1 (.sq (B0 G l s.nd).1),(B0 G l s.nd).2)|.gh g c,s=>(.gh g c,s)|.hg c g,s=>(.hg c g,s)|c,s=>(Dh (Cd G.nd s.j).1 c,s.nd)
theorem mP(c:RC):∀l,erase (Dh l c)=erase c
 |[]=>rfl|g::l=>by simp only[Dh,erase,mP c l]
theorem De:∀l(c:RC),erase (SU l c)=erase c
 |[],c=>rfl|g::l,c=>by simp only[SU,De l,erase]
theorem A6(G:GD):∀(l:R0)s,((B0 G l s).1).map RO.strip=l.map RO.strip
 |[],s=>rfl|o::r,s=>by simp only[B0,map_cons,A6 G r];rfl
theorem nW(G:GD):∀(c:RC)s,erase (lg G c s).1=erase c
 |.seq a b,s=>by simp only[lg,mP,erase,nW G a,nW G b]|.cond x a b,s=>by simp only[lg,mP,erase,nW G a,nW G b]|.block id a,s=>by simp only[lg,mP,erase,nW G a]|.loop a,s=>by simp only[lg,mP,erase,De,nW G a]|.each g ps a b,s=>by simp only[lg,mP,erase,De,nW G a,nW G b]|.ops l,s=>by simp only[lg,mP,erase,A6]|.sq l,s=>by simp only[lg,mP,erase,A6]|.gh g c,s=>rfl|.hg c g,s=>rfl|.skip,s=>by simp only[lg,mP]|.ret,s=>by simp only[lg,mP]|.exit _,s=>by simp only[lg,mP]
theorem MZ{X:CX}{dr:X'}{ops:QP}{i:Nat}{o:Oper}{r:RO}(h:oL X dr ops i o=some r):r.strip=r:=by obtain⟨_,_,_,_,_,_,rfl⟩:=F9 h;rfl
theorem Ac{X:CX}{dr:X'}{ops:QP}:∀{l:QP}{i:Nat}{r:R0},ng X dr ops i l=some r->r.map RO.strip=r
 |[],i,r,h=>by cases h;rfl|o::l,i,r,h=>by simp only[ng]at h;split at h;(next a b B D=>cases h;simp only[map_cons,MZ B,Ac D]);cases h
theorem MV{X:CX}:∀{c:Code}{ro:X'}{r:RC},bR X ro c=some r->erase r=r:=by intro c;induction c with|region _ ops dr=>intro ro r h;simp only[bR]at h;split at h;split at h;obtain⟨l,d,rfl⟩:=ζf.1 h;simp only[erase,Ac d];cases h;obtain⟨l,d,rfl⟩:=ζf.1 h;simp only[erase,Ac d]|seq a b u w=>intro ro r h;simp only[bR]at h;split at h;(next d z=>cases h;simp only[erase,u d,w z]);cases h|cond c a b u w=>intro ro r h;simp only[bR]at h;split at h;(next d z=>cases h;simp only[erase,u d,w z]);cases h|block id a u=>intro ro r h;simp only[bR]at h;obtain⟨l,d,rfl⟩:=ζf.1 h;simp only[erase,u d]|loop a u=>intro ro r h;simp only[bR]at h;obtain⟨l,d,rfl⟩:=ζf.1 h;simp only[erase,u d]|rangeFunc g ps a b u w=>intro ro r h;simp only[bR]at h;split at h;cases h;split at h;(next d z=>cases h;simp only[erase,u d,w z]);cases h|_=>intro ro r h;first|cases h;rfl|(simp only[bR]at h;cases h;rfl)|(simp only[bR]at h;cases h)
def Vx(E:Env)(nm:Y'->aY Nat)(G:Y'->aY GD):sQ:=λf=>(G f).bind λg=>(E.ft f).bind λu=>(bR ⟨E,nm,u.ntmps⟩ false u.body).bind λc=>(u.results.mapM (DF E)).bind λrs=>some ⟨u.ntmps,rs,(lg g c ⟨g.m,0,0⟩).1⟩
theorem EW{E:Env}{nm:Y'->aY Nat}{G:Y'->aY GD}{f:Y'}{rf:RF}(h:Vx E nm G f=some rf):∃fi,E.ft f=some fi/\zL E nm fi rf:=by unfold Vx at h;have⟨g,_,h⟩:=ζg.1 h;have⟨fi,a,h⟩:=ζg.1 h;have⟨c,u,h⟩:=ζg.1 h;have⟨rs,w,h⟩:=ζg.1 h;cases h;exact⟨fi,a,by rw[u,nW,MV u],w,rfl⟩
theorem yD:∀(g:Y')(s:Nat),some g=some s->(λn=>n) s=g:=λ_ _ h=>(Option.some.inj h).symm
def tF(o:aY RF):RF:=o.getD ⟨0,[],.skip⟩
def tb(T:sQ)(f:Y'):RC:=(tF (T f)).body
def tr(T:sQ)(f:Y'):aX RV:=(tF (T f)).rs
theorem CI{o:aY RF}(h:o.isSome=true):o=some (tF o):=by cases o with
 |none=>cases h|some r=>rfl
class kW(δ:Type)where
 e:δ->List V
instance adX{α:Type}[bD α]:kW α:=⟨λx=>[enc x]⟩
instance adW:kW Unit:=⟨λ_=>[]⟩
instance adY{α β:Type}[bD α][kW β]:kW (α×β):=⟨λx=>enc x.1::kW.e x.2⟩
@[simp] theorem adA{α:Type}[bD α](x:α):kW.e x=[enc x]:=rfl
@[simp] theorem ady(x:Unit):kW.e x=[]:=rfl
@[simp] theorem adz{α β:Type}[bD α][kW β](x:α×β):kW.e x=enc x.1::kW.e x.2:=rfl
class Fc(S:Sys)(c:cn){δ:Type}(m:Option δ)where
 n:FuncId
 az:List V
 E:δ->List V
 sc:Bool
 F:eV S c n (λ_:Unit=>az) E (λ_=>m) sc
section
variable{S:Sys}{T:sQ}{δ:Type}{m:aY δ}
theorem eV.TY{E:δ->So}(fn:Y')(az:So)(h:Le (m.bind λr=>some (E r)) (b7 S (dm S T) (p8 (tr T fn)) (.rc (tb T fn),[],start (az.map .v) [])))
 (B:(T fn).isSome=true)(a:S.E.keep fn=false)(D:ble az.length (tF (T fn)).na=true)
 {sc:X'}(s:sc=true->∀r,(result (E r)).scalar=true):eV S (dm S T) fn (λ_:Unit=>az) E (λ_=>m) sc where
 k:=a
 h z:=adq (CI B) (Nat.le_of_ble_eq_true D) h
 s:=s
abbrev Fc.NE(E:δ->aX V)(fn:FuncId)(az:aX V)(h:Le (m.bind λr=>some (E r)) (b7 S (dm S T) (p8 (tr T fn)) (.rc (tb T fn),[],start (az.map .v) [])))
 (B:(T fn).isSome=true:=by kernel_rfl)(a:S.E.keep fn=false:=by kernel_rfl)(D:ble az.length (tF (T fn)).na=true:=by kernel_rfl)
 :Fc S (dm S T) m:=
 ⟨fn,az,E,false,eV.TY fn az h B a D λh=>nomatch h⟩
abbrev Fc.M[kW δ](fn:FuncId)(az:aX V)(h:Le (m.bind λr=>some (kW.e r)) (b7 S (dm S T) (p8 (tr T fn)) (.rc (tb T fn),[],start (az.map .v) [])))
 (B:(T fn).isSome=true:=by kernel_rfl)(a:S.E.keep fn=false:=by kernel_rfl)(D:ble az.length (tF (T fn)).na=true:=by kernel_rfl)
 (s:∀r:δ,(result (kW.e r)).scalar=true:=by intro r;kernel_rfl):Fc S (dm S T) m:=
 ⟨fn,az,kW.e,true,eV.TY fn az h B a D λ_=>s⟩
abbrev Fc.N[kW δ](fn:FuncId)(az:aX V)(h:Le (m.bind λr=>some (kW.e r)) (b7 S (dm S T) (p8 (tr T fn)) (.rc (tb T fn),[],start (az.map .v) [])))
 (B:(T fn).isSome=true:=by kernel_rfl)(a:S.E.keep fn=false:=by kernel_rfl)(D:ble az.length (tF (T fn)).na=true:=by kernel_rfl)
 :Fc S (dm S T) m:=
 ⟨fn,az,kW.e,false,eV.TY fn az h B a D λh=>nomatch h⟩
end
abbrev Fc.of{S:Sys}{c:cn}{α δ:Type}{p:α->aY δ}{n:FuncId}{A:α->aX V}{E:δ->aX V}{b:Bool}(z:α)(F:eV S c n A E p b):Fc S c (p z):=⟨n,A z,E,b,⟨F.k,λ_=>F.h z,F.s⟩⟩
theorem eV.sY{S:Sys}{c:cn}{α δ:Type}{p:α->aY δ}{n:Y'}{A:α->So}{E:δ->So}{b:X'}(F:∀z,Fc S c (p z))(i:α)(B:∀z,(F z).n=n)(G:∀z,(F z).az=A z)(D:∀z,(F z).E=E)(J:∀z,(F z).sc=b):eV S c n A E p b where
 k:=by rw[<-B i];exact(F i).F.k
 h z:=by rw[<-B z,<-G z,<-D z];exact(F z).F.h ()
 s:=by rw[<-J i,<-D i];exact(F i).F.s
theorem mI.sY{S:Sys}{c:cn}{α δ:Type}{p:α->aY δ}{g:Y'}{w e:So}{A:α->So}{R:δ->So}{b:X'}[i:Inhabited α][F:∀z,Fc S c (p z)](B:∀z,(F z).n=g:=by intro _;kernel_rfl)(D:∀z,(F z).az=w++A z++e:=by intro _;kernel_rfl)
 (G:∀z,(F z).E=R:=by intro _;kernel_rfl)(J:∀z,(F z).sc=b:=by intro _;kernel_rfl):mI S c g w e A R p b:=
 ⟨eV.sY F default B D G J⟩
section
variable{S:Sys}{c:cn}{β γ δ α:Type}{Q:Out×St->aY β}{e:γ->aY β}{cf:Cf}
theorem qD(n:Nat){m:aY β}(h:Le m (b7 S c Q (kj S c n cf)))(B:jg S c n cf.1 cf.2.1 cf.2.2=some (kj S c n cf):=by kernel_rfl):Le m (b7 S c Q cf):=CU B h
theorem bt(n:Nat){m:aY δ}[F:Fc S c m]{f:δ->aY γ}(h:∀x,m=some x->Le ((f x).bind e) (b7 S c Q (nx S c n cf λp=>cV p.st p.d (.v (result (F.E x))))))
 (B:(gA S c n cf).map (λp=>(p.k,(bW S.N p.st.g p.az).bind mE,(!p.dr||p.now||gJ p.st.m p.fr [])))=some (.c,some (F.n,F.az.map .v),true):=by kernel_rfl):Le ((m.bind f).bind e) (b7 S c Q cf):=zA n F.F () h B
theorem b9(n:Nat){m:aY δ}[F:Fc S c m]{f:δ->aY γ}(h:∀x,m=some x->Le ((f x).bind e) (b7 S c Q (nx S c n cf λp=>cV p.st p.d (.v (result (F.E x))))))
 (B:(gA S c n cf).map (λp=>(p.k,((bW S.N p.st.g p.az).bind mE).bind λq=>(oQ (jx p.st.m 8) q.2).map λvs=>(q.1,vs,((!p.dr||p.now)||gJ p.st.m p.fr q.2))))=some (.c,some (F.n,F.az,true)):=by kernel_rfl)(D:F.sc=true:=by kernel_rfl):Le ((m.bind f).bind e) (b7 S c Q cf):=
 abf n (u D F.F) () h B
where
 u {b:X'} {fn:Y'} {az:So} {E:δ->So} {m:aY δ} (h:b=true) (F:eV S c fn (λ_:Unit=>az) E (λ_=>m) b):eV S c fn (λ_:Unit=>az) E (λ_=>m) true:=h▸F
def Wj(cf:Cf):RC:=match cf.1 with|.rc (.loop c)=>c|_=>.skip
def GB(cf:Cf):Arg×ST×RC×RC:=match cf.1 with|.rc (.each g ps a b)=>(g,ps,a,b)|_=>(.s 0,[],.skip,.skip)
theorem dx{σ ε ρ:Type}{step:σ->aY (Fw σ ε ρ)}(n:Nat)(eσ:σ->St)(eε:ε->Nat×St)(eρ:ρ->St){s:σ}{B:ε->aY γ}{fr:ρ->aY γ}
 (h:∀s,Le ((step s).bind λw=>some (Fw.out eσ eε eρ w)) (b7 S c some (.rc (Wj (kj S c n cf)),[],eσ s)))
 (D:∀x,Le ((B x).bind e) (b7 S c Q (.ex (eε x).1,(kj S c n cf).2.1,(eε x).2)))(a:∀b,Le ((fr b).bind e) (Q (.ret,eρ b)))
 (G:jg S c n cf.1 cf.2.1 cf.2.2=some (.rc (.loop (Wj (kj S c n cf))),(kj S c n cf).2.1,eσ s):=by kernel_rfl):Le (((bG step s).bind (Fw.elim B fr)).bind e) (b7 S c Q cf):=
 QY G h D a
theorem eo{σ ε:Type}{step:σ->aY (Fw σ ε Empty)}(n:Nat)(eσ:σ->St)(eε:ε->Nat×St){s:σ}{B:ε->aY γ}{fr:Empty->aY γ}
 (h:∀s,Le ((step s).bind λw=>some (Fw.out eσ eε (λe=>Empty.elim e) w)) (b7 S c some (.rc (Wj (kj S c n cf)),[],eσ s)))
 (D:∀x,Le ((B x).bind e) (b7 S c Q (.ex (eε x).1,(kj S c n cf).2.1,(eε x).2)))
 (G:jg S c n cf.1 cf.2.1 cf.2.2=some (.rc (.loop (Wj (kj S c n cf))),(kj S c n cf).2.1,eσ s):=by kernel_rfl):Le (((bG step s).bind (Fw.elim B fr)).bind e) (b7 S c Q cf):=
 QY G h D λb=>Empty.elim b
theorem DW{σ ε ρ:Type}{f:Y'}{x y:So}{a:aX α}{eI:α->So}{step:α->σ->aY (Fw σ ε ρ)}(n:Nat)(d:Tb SV)(eσ:σ->Tb bH)(eε:ε->Nat×Tb bH)(eρ:ρ->Tb bH){s:σ}{fn:σ->aY γ}{B:ε->aY γ}{fr:ρ->aY γ}
 (g:S.items f x y=some (a.map eI))
 (h:∀x s,Le ((step x s).bind λw=>some (Fw.zm eσ eε eρ w)) (b7 S c (Bt S c (GB (kj S c n cf)).2.2.2) (.rc (GB (kj S c n cf)).2.2.1,[],⟨zS d (GB (kj S c n cf)).2.1 ((eI x).map .v),eσ s,sL d,[],true,0⟩)))
 (D:∀s,Le ((fn s).bind e) (b7 S c Q (.nx,(kj S c n cf).2.1,bE d (eσ s))))(G:∀x,Le ((B x).bind e) (b7 S c Q (.ex (eε x).1,(kj S c n cf).2.1,bE d (eε x).2)))(i:∀b,Le ((fr b).bind e) (Q (.ret,bE d (eρ b))))
 (J:∀x,(eI x).length=(GB (kj S c n cf)).2.1.length:=by intro _;kernel_rfl)(j:tH S.N d (GB (kj S c n cf)).1=some (.v (.clo f x y)):=by kernel_rfl)
 (U:jg S c n cf.1 cf.2.1 cf.2.2=some (.rc (.each (GB (kj S c n cf)).1 (GB (kj S c n cf)).2.1 (GB (kj S c n cf)).2.2.1 (GB (kj S c n cf)).2.2.2),(kj S c n cf).2.1,bE d (eσ s)):=by kernel_rfl):Le (((mm step a s).bind (Fw.tj fn B fr)).bind e) (b7 S c Q cf):=
 ZU U j g J h D G i
def aaP(n k:Nat)(B:ST)(d:Nat)(S:Sys)(c:cn)(cf:Cf)(v:SV):Cf:=jmp k [] (kj S c n cf) {(kj S c n cf).2.2 with g:=bN (qi B (kj S c n cf).2.2.g) d v}
theorem bJ[bD δ](n k:Nat)(B:ST)(d:Nat){m:aY δ}{f:δ->aY γ}(D:Le (m.bind λr=>b7 S c Q (aaP n k B d S c cf (cv r))) (b7 S c Q cf))(a:∀r,Le ((f r).bind e) (b7 S c Q (aaP n k B d S c cf (cv r)))):Le ((m.bind f).bind e) (b7 S c Q cf):=W8 _ D a
end
theorem Pa{α β:Type}{P:α ⊕ β->Prop}(c:∀a,P (.inl a))(B:∀b,P (.inr b)):∀x,P x
 |.inl a=>c a|.inr b=>B b
instance{n:Nat}:DecidableEq (cg n Int):=λa b=>if h:a.l=b.l then .isTrue (by cases a;cases b;cases h;rfl)else .isFalse λe=>h (by rw[e])
theorem ym:∀l:Rd,jC ((l.map (cells (α:=Int))).flatten)=some l
 |[]=>rfl|a::l=>by show jC (.int .i64 a::(l.map (cells (α:=Int))).flatten)=_;simp only[jC,ym l,map_some]
theorem Se(l:Rd):(l.map (cells (α:=Int))).flatten=l.map (V.int .i64):=by induction l with|nil=>rfl|cons a l u=>simp only[map_cons,List.flatten_cons,u];rfl
instance{n:Nat}:Key (cg n Int)where
 kk:=.ints n
 ok a:=by show((a.l.map (cells (α:=Int))).flatten.length==n&&(jC (a.l.map (cells (α:=Int))).flatten).isSome)=true;rw[ym,Se,length_map,a.len];simp
 eq a b:=by show mT (a.l.map (cells (α:=Int))).flatten (b.l.map (cells (α:=Int))).flatten=_;unfold mT;rw[ym,ym];simp only[a.len,b.len,if_true];congr 1;rw[Bool.eq_iff_iff,beq_iff_eq,decide_eq_true_iff];exact⟨λh=>by cases a;cases b;cases h;rfl,λh=>by rw[h]⟩
def Dw(m:Tb bH):SV->X'
 |.v _|.agg _=>true|x=>ni m x
def ql:SV->SW
 |.v x=>x.cells.map .v|.agg l=>l|x=>[x]
def Dn(cells:SW):aX (Nat×Nat)->SW->aY SW
 |[],[]=>some cells|(off,size)::pl,v::vs=>if(ql v).length=size/\off+(ql v).length<=cells.length then Dn (cells.take off++ql v++cells.drop (off+(ql v).length)) pl vs else none|_,_=>none
theorem S4(cells:SW):Dn cells [] []=some cells:=rfl
theorem FG(cells:SW)(off size:Nat)(pl:aX (Nat×Nat))(v:SV)(vs:SW):Dn cells ((off,size)::pl) (v::vs)=if(ql v).length=size/\off+(ql v).length<=cells.length then Dn (cells.take off++ql v++cells.drop (off+(ql v).length)) pl vs else none:=rfl
theorem TF(x:V):ql (.v x)=x.cells.map .v:=rfl
theorem PN(d:Nat):ql (.own d)=[.own d]:=rfl
theorem S8(d:Nat):ql (.mp d)=[.mp d]:=rfl
theorem Qr(d o:Nat):ql (.ptr d o)=[.ptr d o]:=rfl
theorem UX{m:Tb bH}{v:SV}(h:Dw m v=true):AD m v=some (ql v):=by cases v<;>first|rfl|(unfold AD;exact if_pos h)|(simp[Dw,ni]at h)
theorem N9{m:Tb bH}:∀{pl:aX (Nat×Nat)}{vs cells l:SW},vs.all (Dw m)=true->Dn cells pl vs=some l->vz m cells pl vs=some l
 |[],[],_,_,_,h=>h|[],_::_,_,_,_,h=>by cases h|_::_,[],_,_,_,h=>by cases h|(off,size)::pl,v::vs,cells,l,B,h=>by rw[all_cons,ζh]at B;rw[FG]at h;show(match AD m v with|some c=>if c.length=size/\off+c.length<=cells.length then vz m (cells.take off++c++cells.drop (off+c.length)) pl vs else none|none=>none)=some l;rw[UX B.1];simp only;split at h;(next a=>rw[if_pos a];exact N9 B.2 h);cases h
def HV:SV->X'
 |.v x=>x.one|.agg _=>false|_=>true
theorem aa2(x:V):HV (.v x)=x.one:=rfl
theorem T7(d:Nat):HV (.own d)=true:=rfl
theorem XG(d:Nat):HV (.mp d)=true:=rfl
theorem Vh(d o:Nat):HV (.ptr d o)=true:=rfl
theorem NN{m:Tb bH}:∀{l:SW},l.all HV=true->l.all (Dw m)=true->l.all (zM m)=true
 |[],_,_=>rfl|x::l,h,k=>by rw[all_cons,ζh]at h k⊢;refine⟨?_,NN h.2 k.2⟩;cases x<;>first|exact h.1|exact k.1|(have:=h.1;cases this)
section
variable{S:Sys}{c:cn}{β γ δ α:Type}{Q:Out×St->aY β}{e:γ->aY β}{cf:Cf}
theorem RQ{N:Nat->Y'}{m:Tb bH}{z:So}{pl:aX (Nat×Nat)}{svs l:SW}(B:(dA svs).isNone=true)(h:vz m (z.map .v) pl svs=some l):ki N m (.build z pl) svs=some (.agg l):=by unfold ki;cases a:dA svs with|some x=>rw[a]at B;cases B|none=>have:zQ N m (.build z pl) svs=(vz m (z.map .v) pl svs).map .agg:=(by unfold zQ;split<;>first|contradiction|(rename_i e _;cases e;rfl)|simp_all);simp only[this,h,map_some]
theorem ab4(n:Nat)(svs l:SW)(z:So)(pl:aX (Nat×Nat)){m:aY β}(B:Dn (z.map .v) pl svs=some l)(h:Le m (b7 S c Q (nx S c n cf λp=>cV p.st p.d (.agg l))))
 (D:(gA S c n cf).map (λp=>(p.k,bW S.N p.st.g p.az,(dA svs).isNone,svs.all (Dw p.st.m)))=some (.p (.build z pl),some svs,true,true):=by kernel_rfl):Le m (b7 S c Q cf):=by
 have⟨p,u,a⟩:=e_ D;simp only[ζc]at a;refine xO u ?_ h;rw[a.1];exact C8 a.2.1 rfl (RQ a.2.2.1 (N9 a.2.2.2 B))
theorem abQ(n u:Nat)(l:SW){m:aY β}(B:l.all HV=true)(h:Le m (b7 S c Q (nx S c n cf λp=>{p.st with g:=bN p.st.g u (.ptr u 0),m:=bN p.st.m u (.box l)})))
 (D:(gA S c n cf).map (λp=>(p.d,p.k,bW S.N p.st.g p.az,p.st.new u,l.all (Dw p.st.m)))=some (some u,.a .box,some [.agg l],true,true):=by kernel_rfl):Le m (b7 S c Q cf):=by
 have⟨p,w,a⟩:=e_ D;simp only[ζc]at a;refine xO w ?_ h;rw[a.1,a.2.1,AY,a.2.2.1];simp only[ζb,a.2.2.2.1,if_true,qp,NN B a.2.2.2.2]
end
section
variable{S:Sys}{c:cn}{β γ δ:Type}{Q:Out×St->aY β}{e:γ->aY β}{cf:Cf}{κ ν:Type}[bD κ][DecidableEq κ][Key κ][bD ν]
structure FX(κ ν:Type)where
 o:Option (Mo κ ν)
 deriving Inhabited
def mpV(m:FX κ ν):V:=match m.o with|none=>.iA|some l=>.fmap (p9 l)
theorem Ro(m:Mo κ ν):V.vv (p9 m)=true:=by induction m with|nil=>rfl|cons x r u=>show V.vv ((enc x.1,enc x.2)::p9 r)=true;simp only[V.vv,k_,u,Bool.and_self]
instance:bD (FX κ ν)where
 cells m:=[mpV m]
 agg:=false
 size:=1
 len _:=rfl
 good m:=by unfold mpV;split;rfl;simp only[V.cG,V.good,Ro,Bool.and_self]
 one m:=by unfold mpV;split<;>rfl
 plain _:=rfl
theorem NW(m:FX κ ν):V.one (enc m)=true:=by have⟨o⟩:=m;cases o<;>rfl
def mj(m:FX κ ν):Mo κ ν:=m.o.getD []
theorem V1(m:FX κ ν):oN [] (enc m)=some (p9 (mj m)):=by have⟨o⟩:=m;cases o<;>rfl
theorem Lh(m:FX κ ν)(k:κ)(z:ν)(ok:X'):eE [] (.lookup (Key.kk κ) (enc z) ok) [enc m,enc k]=some (if ok then .tup [enc (pM (mj m) k z),.bool (uF (mj m) k)]else enc (pM (mj m) k z)):=by
 simp only[eE,V1,Key.ok,if_true];have:=HA k (mj m) 0;simp only[pM,uF]
 cases B:jy (enc k) (p9 (mj m)) 0 with
 |none=>rw[B]at this;cases this|some r=>
  rw[B]at this;simp only[map_some,ζa]at this
  cases r with
  |none=>cases u:mo k (mj m)with|none=>rfl|some w=>rw[u]at this;cases this
  |some w=>cases u:mo k (mj m)with|none=>rw[u]at this;cases this|some C=>rw[u]at this;simp only[map_some,ζa]at this;simp only[this];rfl
theorem ZY(n:Nat)(mp:FX κ ν)(k:κ)(z:ν){m:aY β}(h:Le m (b7 S c Q (nx S c n cf λp=>cV p.st p.d (cv (pM (mj mp) k z)))))
 (B:(gA S c n cf).map (λp=>(p.k,bW S.N p.st.g p.az))=some (.r (.lookup (Key.kk κ) (enc z) false),some [cv mp,cv k]):=by kernel_rfl):Le m (b7 S c Q cf):=by
 have⟨p,u,a⟩:=e_ B;simp only[ζc]at a;refine xO u ?_ h;rw[a.1,Dy,a.2];simp only[ζb,fS,Bool.or_true,if_true,qe,Lh,map_some];rfl
theorem Y7(n:Nat)(mp:FX κ ν)(k:κ)(z:ν){m:aY β}(h:Le m (b7 S c Q (nx S c n cf λp=>cV p.st p.d (.v (.tup [enc (pM (mj mp) k z),.bool (uF (mj mp) k)])))))
 (B:(gA S c n cf).map (λp=>(p.k,bW S.N p.st.g p.az))=some (.r (.lookup (Key.kk κ) (enc z) true),some [cv mp,cv k]):=by kernel_rfl):Le m (b7 S c Q cf):=by
 have⟨p,u,a⟩:=e_ B;simp only[ζc]at a;refine xO u ?_ h;rw[a.1,Dy,a.2];simp only[ζb,fS,Bool.or_true,if_true,qe,Lh,map_some]
end
theorem eV.scalar{S:Sys}{c:cn}{α δ:Type}{fn:Y'}{A:α->So}{E:δ->So}{p:α->aY δ}{b:X'}(F:eV S c fn A E p b)(h:∀r,(result (E r)).scalar=true):eV S c fn A E p true:=⟨F.k,F.h,λ_=>h⟩
section
variable{S:Sys}{c:cn}{β γ δ α:Type}[bD α]{Q:Out×St->aY β}{e:γ->aY β}{cf:Cf}
theorem WH{ω:Type}[bD ω](n u:Nat){N:Nat}(a:cg N α)(i:Int)(o:Nat)(x:α)(D:a.at i=some x)(y:α)(w:ω)(G:cells y=(cells x).take o++cells w++(cells x).drop (o+bD.size ω)){m:aY β}(h:Le m (b7 S c Q (nx S c n cf λp=>cV {p.st with m:=bN p.st.m u (bx (a.set i y))} p.d (.v .undef))))
 (J:(gA S c n cf).map (λp=>(p.k,bW S.N p.st.g p.az,bl p.st.m u,(!p.dr||p.now),ble (o+bD.size ω) (bD.size α)))=some (.l (.store (bD.size ω)),some [.ptr u (i.toNat*bD.size α+o),cv w],some (bx a),true,true):=by kernel_rfl):Le m (b7 S c Q cf):=by
 have⟨p,B,z⟩:=e_ J;simp only[ζc]at z;have⟨b,C⟩:=kX B;have⟨dr,fr,d,gd,now,U,az,dd,l,fs,st⟩:=p;obtain⟨rfl,I,L,O,T⟩:=z;exact acB n dr fr (⟨d,gd,now,.l (.store (bD.size ω)),az,dd,[]⟩::l) fs st u a i o x D y (enc w) (by rw[mX];exact G) rfl (by(try dsimp only at *);simp only[b,C,I,L,O,T,mX,h_,tC]) (by
  simp only[nx,B]at h;exact h)
end
def J7(rs:aX RV):Out×St->aY (bH×So)
 |(.exit _,_)=>none|(_,st)=>(mh st rs).bind λl=>match l with
  |.own d::r=>(bl st.m d).bind λob=>(dA r).map λys=>(ob,ys)|_=>none
theorem Dz:∀{l:SW}{ys:So},dA l=some ys->l=ys.map .v
 |[],ys,h=>by cases h;rfl|.v x::r,ys,h=>by simp only[dA]at h;obtain⟨B,a,rfl⟩:=ζf.1 h;rw[Dz a];rfl|.own _::_,_,h|.ptr ..::_,_,h|.el ..::_,_,h|.mp _::_,_,h|.clo ..::_,_,h|.tup _::_,_,h|.agg _::_,_,h|.yl _::_,_,h=>by cases h
theorem adi{S:Sys}{c:cn}{rs:aX RV}{a:RC}{st:St}{ob:bH}{ys:So}(h:mz S c (J7 rs) a [] st=some (ob,ys)):∃o st' d,cN S c a st=some (o,st')/\(∀id,o≠.exit id)/\mh st' rs=some (.own d::ys.map .v)/\bl st'.m d=some ob:=by
 rw[rA]at h;have⟨⟨o,st'⟩,b,u⟩:=ζg.1 h;have z:∀id,o≠.exit id:=by rintro id rfl;simp[J7]at u
 have B:(mh st' rs).bind (λl=>match l with|.own d::r=>(bl st'.m d).bind λob=>(dA r).map λys=>(ob,ys)|_=>none)=some (ob,ys):=by cases o with|exit id=>exact absurd rfl (z id)|norm=>exact u|ret=>exact u
 have⟨l,C,w⟩:=ζg.1 B;split at w;have⟨D,G,I⟩:=ζg.1 w;have⟨O,J,L⟩:=ζf.1 I;cases L;exact⟨o,st',_,b,z,by rw[C,Dz J],G⟩;cases w
structure FcO(S:Sys)(c:cn){δ ε:Type}[bD δ][kW ε](m:Option (Sl δ×ε))where
 n:FuncId
 az:List V
 k:S.E.keep n=true
 o:S.E.own n=true
 h:∀s r,m=some (s,r)->∃e m',c n (az.map .v) []=some (.own e::(kW.e r).map .v,m')/\bl m' e=some (cI s)
 sc:∀x:δ,(cells x).all V.scalar=true
 sr:∀r:ε,V.c_ (kW.e r)=true
abbrev FcO.mk'{S:Sys}{T:sQ}{δ ε:Type}[bD δ][kW ε]{m:aY (Sl δ×ε)}(fn:FuncId)(az:aX V)(h:Le (m.bind λr=>some (cI r.1,kW.e r.2)) (b7 S (dm S T) (J7 (tr T fn)) (.rc (tb T fn),[],start (az.map .v) [])))
 (B:(T fn).isSome=true:=by kernel_rfl)(b:S.E.keep fn=true:=by kernel_rfl)(D:S.E.own fn=true:=by kernel_rfl)(G:ble az.length (tF (T fn)).na=true:=by kernel_rfl)
 (sc:∀x:δ,(cells x).all V.scalar=true:=by intro x;rfl)(sr:∀r:ε,V.c_ (kW.e r)=true:=by intro r;rfl):FcO S (dm S T) m where
 n:=fn
 az:=az
 k:=b
 o:=D
 sc:=sc
 sr:=sr
 h s r w:=by have u:=CI B;have a:=h (cI s,kW.e r) (by rw[w];rfl);change mz S (dm S T) (J7 (tF (T fn)).rs) (tF (T fn)).body [] (start (az.map .v) [])=some (cI s,kW.e r)at a;have⟨o,st',d,g1,g2,g3,g4⟩:=adi a;refine⟨d,st'.m,?_,g4⟩;rw[uA u];unfold o8;rw[if_pos (by simpa using Nat.le_of_ble_eq_true G),g1];cases o with|exit id=>exact absurd rfl (g2 id)|norm=>simp only[g3,map_some]|ret=>simp only[g3,map_some]
section
variable{S:Sys}{c:cn}{β γ δ α:Type}{Q:Out×St->aY β}{e:γ->aY β}{cf:Cf}
theorem aba[bD α]{N:Nat->Y'}{m:Tb bH}{i:Int}{z:α}(B:(cells z).all V.scalar=true):ki N m (.makeC (bD.size α) (cells z)) [.v (.int .i64 i),.v (.int .i64 i)]=(nR i z).bind λs=>some (cv s):=by show(if i64=.i64/\i64=.i64/\0<=i/\i=i/\i<=2147483648/\(cells z).all V.scalar=true then some (V.fsl (bD.size α) (replicate i.toNat (cells z)))else none).map SV.v=_;unfold nR;by_cases h:0<=i/\i<=2147483648;rw[if_pos h,if_pos ⟨rfl,rfl,h.1,rfl,h.2,B⟩];show some (SV.v (.fsl _ (replicate _ (cells z))))=some (SV.v (.fsl _ (rows (replicate i.toNat z))));simp[rows];rw[if_neg h,if_neg λk=>h ⟨k.2.2.1,k.2.2.2.2.1⟩];rfl
theorem adb[bD α](n:Nat){i:Int}{z:α}{f:Sl α->aY γ}(h:∀B,nR i z=some B->Le ((f B).bind e) (b7 S c Q (nx S c n cf λp=>cV p.st p.d (cv B))))
 (D:(gA S c n cf).map (λp=>(p.k,bW S.N p.st.g p.az))=some (.p (.makeC (bD.size α) (cells z)),some [.v (.int .i64 i),.v (.int .i64 i)]):=by kernel_rfl)(G:(cells z).all V.scalar=true:=by rfl):Le (((nR i z).bind f).bind e) (b7 S c Q cf):=by
 have⟨p,u,a⟩:=e_ D;simp only[ζc]at a;refine rR u ?_ h;rw[a.1];exact Le.of_eq (K9 a.2 rfl (aba G))
theorem aa4(n:Nat)(ds:ST){m:aY δ}[F:Fc S c m]{f:δ->aY γ}(h:∀x,m=some x->Le ((f x).bind e) (b7 S c Q (nx S c n cf λp=>cV {p.st with m:=if(result (F.E x)).scalar then p.st.m else qi ds p.st.m} p.d (.v (result (F.E x))))))
 (B:(gA S c n cf).map (λp=>(p.k,((bW S.N p.st.g p.az).bind mE).bind λq=>(oQ (jx p.st.m 8) q.2).map λvs=>(q.1,vs,!p.dr||p.now,(dA q.2).isSome,rowsOf q.2)))=some (.c,some (F.n,F.az,true,false,some ds)):=by kernel_rfl):Le ((m.bind f).bind e) (b7 S c Q cf):=by
 have⟨p,z,a⟩:=e_ B;simp only[ζc]at a;have⟨C,D⟩:=a;have⟨q,g1,g2⟩:=ζg.1 D;have⟨u,g3,g4⟩:=ζg.1 g1;have⟨vs,g5,g6⟩:=ζf.1 g2;simp only[ζc]at g6;obtain⟨e1,rfl,e3,e4,e5⟩:=g6;refine rR z ?_ h;rw[C,yx _ _ _ _ _ _ u q.1 q.2 g3 g4,NY _ _ _ _ _ _ _ (by rw[e1];exact F.F.k),(yF p.st.m 8).2,g5]
 simp only[ζb,e3,Bool.true_or,Bool.and_self,if_true];intro y w;have⟨r,b,w⟩:=ζg.1 w;cases w;have:=F.F.h () (F.E r) (ζg.2 ⟨r,b,rfl⟩);rw[e1,this];simp only[ζb,Md,e4,Bool.or_false]
 cases(result (F.E r)).scalar with
 |true=>rfl|false=>simp only[false_eq_true,if_false,if_true,e5,map_some,ζb]
theorem NQ(n:Nat)(ds:ST){m:aY δ}[F:Fc S c m]{f:δ->aY γ}
 (h:∀x,m=some x->Le ((f x).bind e) (b7 S c Q (nx S c n cf λp=>cV p.st p.d (.v (result (F.E x)))))/\Le ((f x).bind e) (b7 S c Q (nx S c n cf λp=>cV {p.st with m:=qi ds p.st.m} p.d (.v (result (F.E x))))))
 (B:(gA S c n cf).map (λp=>(p.k,((bW S.N p.st.g p.az).bind mE).bind λq=>(oQ (jx p.st.m 8) q.2).map λvs=>(q.1,vs,!p.dr||p.now,(dA q.2).isSome,rowsOf q.2)))=some (.c,some (F.n,F.az,true,false,some ds)):=by kernel_rfl):Le ((m.bind f).bind e) (b7 S c Q cf):=
 aa4 n ds (λx u=>by
  cases(result (F.E x)).scalar with
  |true=>exact(h x u).1|false=>exact(h x u).2) B
end
def HK(rs:aX RV)(B:ST):Out×St->aY (So×dM)
 |(.exit _,_)=>none|(_,st)=>(mh st rs).bind λl=>(dA l).bind λys=>(lU st.m B).map λos=>(ys,os)
theorem goK{S:Sys}{c:cn}{rs:aX RV}{B:ST}{a:RC}{st:St}{os:dM}{ys:So}(h:mz S c (HK rs B) a [] st=some (ys,os)):∃o st',cN S c a st=some (o,st')/\(∀id,o≠.exit id)/\mh st' rs=some (ys.map .v)/\lU st'.m B=some os:=by
 rw[rA]at h;have⟨⟨o,st'⟩,b,u⟩:=ζg.1 h;have w:∀id,o≠.exit id:=by rintro id rfl;simp[HK]at u
 have z:(mh st' rs).bind (λl=>(dA l).bind λys=>(lU st'.m B).map λos=>(ys,os))=some (ys,os):=by cases o with|exit id=>exact absurd rfl (w id)|norm=>exact u|ret=>exact u
 have⟨l,C,D⟩:=ζg.1 z;have⟨O,G,I⟩:=ζg.1 D;have⟨q,J,L⟩:=ζf.1 I;cases L;exact⟨o,st',b,w,by rw[C,Dz G],J⟩
def qW:Tb bH->dM->Tb bH
 |m,[]=>m|m,(d,ob)::r=>qW (bN m d ob) r
theorem Lc{m':dM}{D:ST}:∀{B:ST}{os m:dM},lU m' B=some os->(os.all λx=>within D x.2)=true->AV D m' B m=some (qW m os)
 |[],os,m,h,_=>by cases h;rfl|k::B,os,m,h,hp=>by simp only[lU]at h;split at h;(next v t a G=>cases h;simp only[all_cons,ζh]at hp;simp only[AV,a,hp.1,if_true,qW];exact Lc G hp.2);cases h
theorem back_eq{m':dM}{B:ST}{os m:dM}(h:lU m' B=some os)(hp:(os.all λx=>within B x.2)=true):mD m' B m=some (qW m os):=Lc h hp
structure pG(S:Sys)(c:cn){δ:Type}(m:Option δ)where
 n:FuncId
 az:List SV
 os:dM
 E:δ->List V
 M:δ->dM
 k:S.E.keep n=true
 o:S.E.own n=false
 q:(S.prm n).isNone=true
 h:∀r,m=some r->∃m',c n az os=some ((E r).map .v,m')/\∀m0,mD m' (os.map (·.1)) m0=some (qW m0 (M r))
abbrev pG.mk'{S:Sys}{T:sQ}{δ:Type}{m:aY δ}(fn:FuncId)(az:aX SV)(os:dM)(E:δ->aX V)(M:δ->dM)(h:Le (m.bind λr=>some (E r,M r)) (b7 S (dm S T) (HK (tr T fn) (os.map (·.1))) (.rc (tb T fn),[],start az os)))
 (B:(T fn).isSome=true:=by kernel_rfl)(b:S.E.keep fn=true:=by kernel_rfl)(D:S.E.own fn=false:=by kernel_rfl)(G:(S.prm fn).isNone=true:=by kernel_rfl)(J:ble az.length (tF (T fn)).na=true:=by kernel_rfl)
 (hp:∀r,((M r).all λx=>within (os.map (·.1)) x.2)=true:=by intro r;kernel_rfl):pG S (dm S T) m where
 n:=fn
 az:=az
 os:=os
 E:=E
 M:=M
 k:=b
 o:=D
 q:=G
 h r hr:=by have u:=CI B;have a:=h (E r,M r) (by rw[hr];rfl);change mz S (dm S T) (HK (tF (T fn)).rs (os.map (·.1))) (tF (T fn)).body [] (start az os)=some (E r,M r)at a;have⟨o,st',g1,g2,g3,g4⟩:=goK a;refine⟨st'.m,?_,λw=>back_eq g4 (hp r)⟩;rw[uA u];unfold o8;rw[if_pos (Nat.le_of_ble_eq_true J),g1];cases o with|exit id=>exact absurd rfl (g2 id)|norm=>simp only[g3,map_some]|ret=>simp only[g3,map_some]
section
variable{S:Sys}{c:cn}{β γ δ:Type}{Q:Out×St->aY β}{e:γ->aY β}{cf:Cf}
theorem vg(n:Nat){m:aY δ}(F:pG S c m){f:δ->aY γ}(h:∀x,m=some x->Le ((f x).bind e) (b7 S c Q (nx S c n cf λp=>cV {p.st with m:=qW p.st.m (F.M x)} p.d (.v (result (F.E x))))))
 (B:(gA S c n cf).map (λp=>(p.k,((bW S.N p.st.g p.az).bind mE).bind λq=>(handed p.st.m q.2).map λos=>(q.1,q.2,os),p.dr))=some (.c,some (F.n,F.az,F.os),false):=by kernel_rfl):Le ((m.bind f).bind e) (b7 S c Q cf):=by
 have⟨p,z,a⟩:=e_ B;simp only[ζc]at a;have⟨C,D,G⟩:=a;have⟨q,g1,g2⟩:=ζg.1 D;have⟨u,g3,g4⟩:=ζg.1 g1;have⟨os,g5,g6⟩:=ζf.1 g2;simp only[ζc]at g6;obtain⟨e1,e2,rfl⟩:=g6;refine rR z ?_ h;rw[C,G,yx _ _ _ _ _ _ u q.1 q.2 g3 g4];intro y w;have⟨r,b,w⟩:=ζg.1 w;cases w;have⟨m',k1,k2⟩:=F.h r b;have I:S.prm F.n=none:=by have:=F.q;cases J:S.prm F.n with|none=>rfl|some _=>rw[J]at this;cases this
 have:fT S c p.d false (!false||p.now) (gJ p.st.m p.fr) q.1 q.2 p.st=some (.v (result (F.E r)),{p.st with m:=qW p.st.m (F.M r)}):=by unfold fT;rw[e1,e2]at *;simp only[F.k,F.o,I,g5,k1,oH,k2,if_true,Bool.not_false,Bool.true_or,Bool.false_and,false_eq_true,if_false]
 rw[this];rfl
instance:Key U' where
 kk:=.str
 ok _:=rfl
 eq a b:=by show some (a==b)=some (decide (a=b));rw[show(a==b)=decide (a=b)from Bool.eq_iff_iff.2 (by cases a;cases b;rename_i x y;show(x==y)=true↔_;simp)]
def L8(s:Sl U8):U':=mA (s.l.map U8.v)
theorem ML:∀l:aX U8,nJ (rows l)=some (l.map U8.v)
 |[]=>rfl|a::l=>by show(nJ (rows l)).map (a.v::·)=_;rw[ML l];rfl
theorem acC(n u:Nat)(s:Sl U8){m:aY β}(h:Le m (b7 S c Q (nx S c n cf λp=>cV p.st p.d (.v (.str (L8 s))))))
 (B:(gA S c n cf).map (λp=>(p.k,bW S.N p.st.g p.az,bl p.st.m u,p.dr))=some (.b,some [.own u],some (cI s),false):=by kernel_rfl):Le m (b7 S c Q cf):=by
 have⟨p,z,a⟩:=e_ B;simp only[ζc]at a;have⟨C,D,G,I⟩:=a;refine xO z ?_ h;rw[C,I];have J:(kD p.st.m 1 (.own u)).bind (λL=>(nJ L).map λl=>((SV.v (.str (mA l)),p.st):SV×St))=some (.v (.str (L8 s)),p.st):=by have O:nJ (rows s.l)=some (s.l.map U8.v):=ML _;have w:kD p.st.m 1 (.own u)=some (rows s.l):=(by unfold kD;simp only[G];cases s<;>rfl);rw[w];show((nJ (rows s.l)).map λl=>_)=_;rw[O];rfl
 unfold gz og;have T:gM S.N p.st.g ⟨p.d,none,p.now,.b,p.az,[],[]⟩=none:=rfl;simp only[wanted,T,D,false_eq_true,if_false,J];rfl
end
def Px(rs:aX RV)(B:ST):Out×St->aY (bH×So×dM)
 |(.exit _,_)=>none|(_,st)=>(mh st rs).bind λl=>match l with
  |.own d::r=>if B.contains d then none else(bl st.m d).bind λob=>(dA r).bind λys=>(lU st.m B).map λos=>(ob,ys,os)|_=>none
theorem goR{S:Sys}{c:cn}{rs:aX RV}{B:ST}{a:RC}{st:St}{ob:bH}{ys:So}{os:dM}(h:mz S c (Px rs B) a [] st=some (ob,ys,os)):
 ∃o st' d,cN S c a st=some (o,st')/\(∀id,o≠.exit id)/\mh st' rs=some (.own d::ys.map .v)/\B.contains d=false/\bl st'.m d=some ob/\lU st'.m B=some os:=by
 rw[rA]at h;have⟨⟨o,st'⟩,b,w⟩:=ζg.1 h;have D:∀id,o≠.exit id:=by rintro id rfl;simp[Px]at w
 have G:(mh st' rs).bind (λl=>match l with|.own d::r=>if B.contains d then none else(bl st'.m d).bind λob=>(dA r).bind λys=>(lU st'.m B).map λos=>(ob,ys,os)|_=>none)=some (ob,ys,os):=by cases o with|exit id=>exact absurd rfl (D id)|norm=>exact w|ret=>exact w
 have⟨l,I,u⟩:=ζg.1 G;split at u
 .split at u
  .cases u
  rename_i e;have⟨J,L,O⟩:=ζg.1 u;have⟨U,Q,T⟩:=ζg.1 O;have⟨q,z,C⟩:=ζf.1 T;cases C;exact⟨o,st',_,b,D,by rw[I,Dz Q],by simpa using e,L,z⟩
 cases u
structure FcR(S:Sys)(c:cn){δ ε:Type}[bD δ][kW ε](m:Option (Sl δ×ε))where
 n:FuncId
 az:List SV
 os:dM
 M:Sl δ×ε->dM
 k:S.E.keep n=true
 o:S.E.own n=false
 q:(S.prm n).isNone=true
 h:∀r,m=some r->∃e m',c n az os=some (.own e::(kW.e r.2).map .v,m')/\bl m' e=some (cI r.1)/\(os.map (·.1)).contains e=false/\∀m0,mD m' (os.map (·.1)) m0=some (qW m0 (M r))
abbrev FcR.mk'{S:Sys}{T:sQ}{δ ε:Type}[bD δ][kW ε]{m:aY (Sl δ×ε)}(fn:FuncId)(az:aX SV)(os:dM)(M:Sl δ×ε->dM)
 (h:Le (m.bind λr=>some (cI r.1,kW.e r.2,M r)) (b7 S (dm S T) (Px (tr T fn) (os.map (·.1))) (.rc (tb T fn),[],start az os)))
 (B:(T fn).isSome=true:=by kernel_rfl)(b:S.E.keep fn=true:=by kernel_rfl)(D:S.E.own fn=false:=by kernel_rfl)(G:(S.prm fn).isNone=true:=by kernel_rfl)(J:ble az.length (tF (T fn)).na=true:=by kernel_rfl)
 (hp:∀r,((M r).all λx=>within (os.map (·.1)) x.2)=true:=by intro r;kernel_rfl):FcR S (dm S T) m where
 n:=fn
 az:=az
 os:=os
 M:=M
 k:=b
 o:=D
 q:=G
 h r hr:=by have u:=CI B;have a:=h (cI r.1,kW.e r.2,M r) (by rw[hr];rfl);change mz S (dm S T) (Px (tF (T fn)).rs (os.map (·.1))) (tF (T fn)).body [] (start az os)=some (cI r.1,kW.e r.2,M r)at a;have⟨o,st',d,g1,g2,g3,g4,g5,g6⟩:=goR a;refine⟨d,st'.m,?_,g5,g4,λw=>back_eq g6 (hp r)⟩;rw[uA u];unfold o8;rw[if_pos (Nat.le_of_ble_eq_true J),g1];cases o with|exit id=>exact absurd rfl (g2 id)|norm=>simp only[g3,map_some]|ret=>simp only[g3,map_some]
section
variable{S:Sys}{c:cn}{β γ:Type}{Q:Out×St->aY β}{e:γ->aY β}{cf:Cf}
end
structure aan(S:Sys)(c:cn){α δ:Type}[bD δ](fn:FuncId)(A:α->List V)(p:α->Option (Sl δ)):Prop where
 k:S.E.keep fn=true
 o:S.E.own fn=false
 q:(S.prm fn).isNone=true
 h:∀z s,p z=some s->∃e m',c fn ((A z).map .v) []=some ([.own e],m')/\bl m' e=some (cI s)
theorem aan.mk'{S:Sys}{T:sQ}{α δ:Type}[bD δ](rf:RF){fn:Y'}{A:α->So}{p:α->aY (Sl δ)}(h:∀z,Le ((p z).bind λr=>some (cI r)) (b7 S (dm S T) (Cm rf.rs) (.rc rf.body,[],start ((A z).map .v) [])))
 (B:T fn=some rf:=by kernel_rfl)(b:S.E.keep fn=true:=by kernel_rfl)(D:S.E.own fn=false:=by kernel_rfl)(G:(S.prm fn).isNone=true:=by kernel_rfl)(J:∀z,(A z).length<=rf.na:=by intro z;exact Nat.le_of_ble_eq_true (by kernel_rfl)):aan S (dm S T) fn A p where
 k:=b
 o:=D
 q:=G
 h z s u:=by have a:=h z (cI s) (by rw[u];rfl);change mz S (dm S T) (Cm rf.rs) rf.body [] (start ((A z).map .v) [])=some (cI s)at a;have⟨o,st',d,g1,g2,g3,g4⟩:=goO a;refine⟨d,st'.m,?_,g4⟩;rw[uA B];unfold o8;rw[if_pos (by simpa using J z),g1];cases o with|exit id=>exact absurd rfl (g2 id)|norm=>simp only[g3,map_some]|ret=>simp only[g3,map_some]
theorem Mm:∀l:So,SV.uv (l.map .v)=[]
 |[]=>rfl|a::l=>by simp only[map_cons,SV.uv,SV.D_,Mm l,append_nil]
theorem Qk{m:Tb bH}(l:So):handed m (l.map .v)=some []:=by unfold handed;rw[Mm];rfl
section
variable{S:Sys}{c:cn}{β γ δ α:Type}[bD δ]{Q:Out×St->aY β}{e:γ->aY β}{cf:Cf}
end
def TA(s:Nat)(v:SV)(cf:Cf):Cf:=(cf.1,cf.2.1,{cf.2.2 with g:=bN cf.2.2.g s v})
section
variable{S:Sys}{c:cn}{β γ δ:Type}{Q:Out×St->aY β}{e:γ->aY β}{cf:Cf}
theorem dN(n s:Nat){v B:V}(a:v=B){m:aY β}(h:Le m (b7 S c Q (TA s (.v B) (kj S c n cf))))
 (D:(jg S c n cf.1 cf.2.1 cf.2.2).map (λp=>bl p.2.2.g s)=some (some (.v v)):=by kernel_rfl):Le m (b7 S c Q cf):=by
 subst a;have⟨p,u,a⟩:=e_ D;have b:kj S c n cf=p:=by unfold kj;grind
 rw[b]at h;refine CU u ?_;have:TA s (.v v) p=p:=by unfold TA;rw[sH a]
 rw[this]at h;exact h
end
def dI{α δ:Type}(b:(α->aY δ)->α->aY δ):Nat->α->aY δ
 |0,_=>none|n+1,z=>b (dI b n) z
theorem eV.fix{S:Sys}{c:cn}{α δ:Type}{fn:Y'}{A:α->So}{E:δ->So}{sc:X'}{b:(α->aY δ)->α->aY δ}(a:S.E.keep fn=false)(B:sc=true->∀r,(result (E r)).scalar=true)
 (h:∀r,eV S c fn A E r sc->∀z,Le ((b r z).bind λr=>some (E r)) (gZ c fn (A z))):∀n,eV S c fn A E (dI b n) sc
 |0=>⟨a,λ_=>Le.none _,B⟩|n+1=>⟨a,h _ (eV.fix a B h n),B⟩
structure yZ(S:Sys)(c:cn){α δ:Type}(fn:FuncId)(A:α->List SV)(O:α->dM)(E:δ->List V)(M:α->δ->dM)(p:α->Option δ):Prop where
 k:S.E.keep fn=true
 o:S.E.own fn=false
 q:(S.prm fn).isNone=true
 h:∀z r,p z=some r->∃m',c fn (A z) (O z)=some ((E r).map .v,m')/\∀m0,mD m' ((O z).map (·.1)) m0=some (qW m0 (M z r))
abbrev pG.of{S:Sys}{c:cn}{α δ:Type}{fn:FuncId}{A:α->aX SV}{O:α->dM}{E:δ->aX V}{M:α->δ->dM}{p:α->aY δ}(z:α)(F:yZ S c fn A O E M p):pG S c (p z):=⟨fn,A z,O z,E,M z,F.k,F.o,F.q,F.h z⟩
theorem yZ.fix{S:Sys}{c:cn}{α δ:Type}{fn:Y'}{A:α->SW}{O:α->dM}{E:δ->So}{M:α->δ->dM}{b:(α->aY δ)->α->aY δ}(k:S.E.keep fn=true)(o:S.E.own fn=false)(q:(S.prm fn).isNone=true)
 (h:∀r,yZ S c fn A O E M r->∀z B,b r z=some B->∃m',c fn (A z) (O z)=some ((E B).map .v,m')/\∀D,mD m' ((O z).map (·.1)) D=some (qW D (M z B))):∀n,yZ S c fn A O E M (dI b n)
 |0=>⟨k,o,q,λ_ _ h=>by cases h⟩|n+1=>⟨k,o,q,h _ (yZ.fix k o q h n)⟩
structure zK(S:Sys)(c:cn){α σ:Type}[bD α](cl:SV)(g:FuncId)(e:List SV)(os:σ->dM)(p:α->σ->Option (Bool×σ)):Prop where
 cs:∀vs,mE (cl::vs)=some (g,vs++e)
 hd:∀(s:σ)(a:V),handed (os s) [.v a,cl]=some (os s)
 tk:∀s s',lU (os s') ((os s).map (·.1))=some (os s')
 wi:∀s s',((os s').all λx=>within ((os s).map (·.1)) x.2)=true
 put:∀s s',qW (os s) (os s')=os s'
 h:∀x s r,p x s=some r->∀(dst:Option Nat)(old:List SV->Bool)(st:St),st.m=os s->fT S c dst false true old g (.v (enc x)::e) st=some (.v (.bool r.1),{st with m:=os r.2})
section
variable{S:Sys}{c:cn}{α σ:Type}[bD α]{g:Y'}
theorem zK.ofP{e:So}{p:α->aY X'}(F:mI S c g [] e (λz:α=>[enc z]) (λr:X'=>[.bool r]) p true):zK S c (.v (.clo g [] e)) g (e.map .v) (λ_:Unit=>[]) (λx u=>(p x).map λb=>(b,u))where
 cs vs:=rfl
 hd s a:=Qk [a,.clo g [] e]
 tk _ _:=rfl
 wi _ _:=rfl
 put _ _:=rfl
 h x s r hr dst old st w:=by obtain⟨b,C,rfl⟩:=ζf.1 hr;have B:gZ c g (enc x::e)=some [.bool b]:=F.f.h x [.bool b] (by rw[C];rfl);have e1:{st with m:=([]:dM)}=st:=(by cases st;simp only at w;subst w;rfl);rw[e1];unfold gZ at B;have⟨⟨rs,m'⟩,d,D⟩:=ζg.1 B;have f:=F.f.k;unfold fT;have G:dg st.m 8 (.v (enc x)::e.map .v)=some (enc x::e):=xG 8 (enc x::e);simp only[f,G,d,D,false_eq_true,if_false,Bool.true_or,if_true,result,V.scalar]
theorem zK.ofK{e:SW}{os:σ->dM}{p:α->σ->aY (X'×σ)}[Inhabited α][Inhabited σ](F:∀x s,pG S c (p x s))(G:∀x s,(F x s).n=g:=by intro _ _;kernel_rfl)(J:∀x s,(F x s).az=.v (enc x)::e:=by intro _ _;kernel_rfl)(D:∀x s,(F x s).os=os s:=by intro _ _;kernel_rfl)
 (U:∀x s,(F x s).E=λr=>[.bool r.1]:=by intro _ _;kernel_rfl)(d:∀x s,(F x s).M=λr=>os r.2:=by intro _ _;kernel_rfl)
 (hd:∀s:σ,lU (os s) (reach (os s) 32 (SV.uv e) [])=some (os s):=by intro _;kernel_rfl)
 (tk:∀s B,lU (os B) ((os s).map (·.1))=some (os B):=by intro _ _;kernel_rfl)(wi:∀s B,((os B).all λx=>within ((os s).map (·.1)) x.2)=true:=by intro _ _;kernel_rfl)(put:∀s B,qW (os s) (os B)=os B:=by intro _ _;kernel_rfl):zK S c (.clo g [] e) g e os p where
 cs vs:=rfl
 hd s a:=by have:SV.uv [.v a,.clo g [] e]=SV.uv e:=(by simp[SV.uv,SV.D_]);unfold handed;rw[this];exact hd s
 tk:=tk
 wi:=wi
 put:=put
 h x s r hr dst old st u:=by have⟨m',k1,k2⟩:=(F x s).h r hr;have b:=(F x s).k;have w:=(F x s).o;have z:S.prm (F x s).n=none:=(by have:=(F x s).q;cases I:S.prm (F x s).n with|none=>rfl|some _=>rw[I]at this;cases this);rw[G]at b w z k1;rw[J,D,U]at k1;rw[D,d]at k2;have C:handed st.m (.v (enc x)::e)=some (os s):=(by rw[u];exact hd s);have k2:=k2 (os s);rw[put]at k2;rw[<-u]at k2;unfold fT;rw[u]at C k2⊢;simp only[b,w,z,C,k1,k2,oH,map_cons,map_nil,dA,map_some,if_true,Bool.false_and,false_eq_true,if_false,result]
end
def FH{α σ:Type}(s0:Sl α)(p:α->σ->aY (X'×σ))(q:Int×σ):aY (Fw (Int×σ) σ (Int×σ)):=bg (decide (q.1<len s0)) ((idx s0 q.1).bind λx=>(p x q.2).bind λy=>bg y.1 (some (.r (q.1,y.2))) (some (.n (wrap .i64 (q.1+1),y.2)))) (some (.x q.2))
def UG{α σ:Type}(s0:Sl α)(p:α->σ->aY (X'×σ))(x:σ):aY (Int×σ):=(bG (FH s0 p) (0,x)).bind (Fw.elim (λe=>some (-1,e)) λe=>some e)
def Br{α σ:Type}(s0:Sl α)(p:α->σ->aY (X'×σ))(x:σ):aY (X'×σ):=(UG s0 p x).bind λy=>some (decide (y.1>=0),y.2)
section
variable{S:Sys}{c:cn}{α σ β γ:Type}[bD α]{g:Y'}{Q:Out×St->aY β}{e:γ->aY β}{cf:Cf}
theorem RJ(n:Nat){a:SV}{ex:SW}{os:σ->dM}{p:α->σ->aY (X'×σ)}(F:zK S c a g ex os p)(x:α)(s:σ){f:X'×σ->aY γ}(h:∀r,p x s=some r->Le ((f r).bind e) (b7 S c Q (nx S c n cf λq=>cV {q.st with m:=os r.2} q.d (.v (.bool r.1)))))
 (B:(gA S c n cf).map (λq=>(q.k,bW S.N q.st.g q.az,q.dr,q.st.m))=some (.c,some [a,.v (enc x)],false,os s):=by kernel_rfl):Le (((p x s).bind f).bind e) (b7 S c Q cf):=by
 have⟨q,w,b⟩:=e_ B;simp only[ζc]at b;have⟨d,z,C,D⟩:=b;refine rR w ?_ h;rw[d,C,yx _ _ _ _ _ _ _ g ([.v (enc x)]++ex) z (F.cs [.v (enc x)])];intro y u;have⟨r,i,u⟩:=ζg.1 u;cases u;have:=F.h x s r i q.d (gJ q.st.m q.fr) q.st D;rw[show(!false||q.now)=true from rfl,List.singleton_append,this];rfl
theorem K1{a:SV}{ex:SW}{os:σ->dM}{p:α->σ->aY (X'×σ)}(F:zK S c a g ex os p){rs:aX RV}{st:St}{s B:σ}{ys:So}(b:mh st rs=some (ys.map .v))(D:st.m=os B):HK rs ((os s).map (·.1)) (.ret,st)=some (ys,os B):=by show((mh st rs).bind λl=>(dA l).bind λys=>(lU st.m ((os s).map (·.1))).map λos=>(ys,os))=_;rw[b,D,F.tk s B];simp only[ζb,oH,map_some]
theorem Kd(n:Nat){b:SV}{ex:SW}{os:σ->dM}{p:α->σ->aY (X'×σ)}(F:zK S c b g ex os p){rs:aX RV}{s B:σ}{r:γ}{e:γ->aY (So×dM)}(ys:So)(D:e r=some (ys,os B))
 (G:(jg S c n cf.1 cf.2.1 cf.2.2).map (λq=>(q.1,mh q.2.2 rs,q.2.2.m))=some (.rt,some (ys.map .v),os B):=by kernel_rfl):Le ((some r).bind e) (b7 S c (HK rs ((os s).map (·.1))) cf):=by
 have⟨⟨fo,fs,st'⟩,u,a⟩:=e_ G;simp only[ζc]at a;obtain⟨rfl,w,z⟩:=a;refine CU u (Le.of_eq ?_);show rn S c _ Fo.rt fs st'=e r;rw[D];exact K1 F w z
theorem Oj(n:Nat){δ:Type}{m:aY δ}(F:pG S c m)(D:handed F.os F.az=some F.os)(hp:∀x,qW F.os (F.M x)=F.M x){f:δ->aY γ}(h:∀x,m=some x->Le ((f x).bind e) (b7 S c Q (nx S c n cf λp=>cV {p.st with m:=F.M x} p.d (.v (result (F.E x))))))
 (G:(gA S c n cf).map (λp=>(p.k,(bW S.N p.st.g p.az).bind mE,p.dr,p.st.m))=some (.c,some (F.n,F.az),false,F.os):=by kernel_rfl):Le ((m.bind f).bind e) (b7 S c Q cf):=by
 have⟨p,u,a⟩:=e_ G;simp only[ζc]at a;have⟨C,I,J,B⟩:=a;have⟨w,g3,g4⟩:=ζg.1 I;refine rR u ?_ h;rw[C,J,yx _ _ _ _ _ _ w F.n F.az g3 g4];intro y z;have⟨r,b,z⟩:=ζg.1 z;cases z;have⟨m',k1,k2⟩:=F.h r b;have u:S.prm F.n=none:=by have:=F.q;cases L:S.prm F.n with|none=>rfl|some _=>rw[L]at this;cases this
 have k2:=k2 p.st.m;rw[B,hp]at k2;have:fT S c p.d false (!false||p.now) (gJ p.st.m p.fr) F.n F.az p.st=some (.v (result (F.E r)),{p.st with m:=F.M r}):=by unfold fT;rw[B];simp only[F.k,F.o,u,D,k1,k2,oH,if_true,Bool.not_false,Bool.true_or,Bool.false_and,false_eq_true,if_false]
 rw[this];rfl
end
section
variable{S:Sys}{c:cn}{β γ δ α:Type}[bD δ]{Q:Out×St->aY β}{e:γ->aY β}{cf:Cf}
theorem Wi(n u:Nat){fn:Y'}{A:α->So}{p:α->aY (Sl δ)}(F:C6 S c fn A p)(z:α){f:Sl δ->aY γ}
 (h:∀x,(p z).bind Sl.whole=some x->Le ((f x).bind e) (b7 S c Q (nx S c n cf λq=>{q.st with g:=bN q.st.g u (.own u),m:=bN q.st.m u (cI x)})))
 (U:(gA S c n cf).map (λq=>(q.d,q.k,((bW S.N q.st.g q.az).bind mE).bind λr=>(oQ (jx q.st.m 8) r.2).map λvs=>(r.1,vs),(!q.dr||q.now),q.st.new u))=some (some u,.c,some (fn,A z),true,true):=by kernel_rfl):Le ((((p z).bind Sl.whole).bind f).bind e) (b7 S c Q cf):=by
 have⟨q,T,b⟩:=e_ U;simp only[ζc]at b;have⟨W,X,Y,Z,O⟩:=b;have⟨⟨B,args⟩,D,g3⟩:=ζg.1 Y;have⟨G,g1,g2⟩:=ζg.1 D;have⟨vs,g4,g5⟩:=ζf.1 g3;simp only[ζc]at g5;obtain⟨rfl,rfl⟩:=g5;refine rR T ?_ h;rw[W,X];intro y I;have⟨d,J,I⟩:=ζg.1 I;cases I;have⟨s,i,C⟩:=ζg.1 J;have⟨e0,m',j,k⟩:=F.h z s i;rw[yx q.dr _ _ _ _ _ G B args g1 g2];have L:dg q.st.m 8 args=some (A z):=by rw[(yF q.st.m 8).2];exact g4
 have w:fT S c (some u) q.dr (!q.dr||q.now) (gJ q.st.m q.fr) B args q.st=some (.own u,{q.st with m:=bN q.st.m u (cI d)}):=by unfold fT;simp only[F.k,F.o,if_true,Z,L,j,dA,k,cI,O];cases s with|nil=>cases C;rfl|emp=>cases C;rfl|row l=>cases C;have:nT (rows l)=true:=(by unfold nT;rw[all_eq_true];intro x o;obtain⟨a,_,rfl⟩:=mem_map.1 o;exact F.sc a);simp only[Sl.k,Sl.l,dA,V.c_,this,Bool.and_self,O,if_true];rfl|part l=>cases C
 rw[w];rfl
theorem abd{α:Type}[bD α](n:Nat)(l:aX α)(q:xF)(svs:SW){m:aY β}(h:Le m (b7 S c Q (nx S c n cf λp=>cV p.st p.d (cv (Sl.row l:Sl α)))))
 (B:(gA S c n cf).map (λp=>(p.k,bW S.N p.st.g p.az))=some (.p q,some svs):=by kernel_rfl)(D:isSlice q=false:=by rfl)(hp:∀m,ki S.N m q svs=some (cv (Sl.row l:Sl α)):=by intro m;kernel_rfl):Le m (b7 S c Q cf):=by
 have⟨p,u,a⟩:=e_ B;simp only[ζc]at a;refine xO u ?_ h;rw[a.1];exact C8 a.2 D (hp _)
end
def Qw:Out×St->aY S'
 |(.exit _,_)=>none|(_,st)=>some st.want
def yl(B:S')(more:X')(xs:So):aY (X'×S'):=match B with
 |w::r=>open Classical in if w=xs then some (more|| !r.isEmpty,r)else none|[]=>none
section
variable{S:Sys}{c:cn}{β γ:Type}{Q:Out×St->aY β}{e:γ->aY β}{cf:Cf}
theorem Byl(n:Nat){B:S'}{more:X'}(xs:So){f:X'×S'->aY γ}
 (h:∀r,yl B more xs=some r->Le ((f r).bind e) (b7 S c Q (nx S c n cf λq=>cV {q.st with want:=r.2} q.d (.v (.bool r.1)))))
 (D:(gA S c n cf).map (λq=>(q.k,bW S.N q.st.g q.az,q.st.want,q.st.more,q.dr))=some (.c,some (.yl ((gA S c n cf).elim 0 λq=>q.st.yid)::xs.map .v),B,more,false):=by kernel_rfl):Le (((yl B more xs).bind f).bind e) (b7 S c Q cf):=by
 have⟨q,C,b⟩:=e_ D;simp only[ζc]at b;have⟨d,u,G,I,J⟩:=b;rw[C]at u;refine rR C ?_ h;intro y z;have⟨r,a,z⟩:=ζg.1 z;cases z;unfold yl at a;split at a
 .rename_i w O;split at a
  next L=>cases a;rw[d,J];unfold gz;have u:bW S.N q.st.g q.az=some (.yl q.st.yid::xs.map .v):=u;simp only[wanted,gM,u,oH,G,L,I,if_true,and_self,false_eq_true,if_false]
  cases a
 cases a
theorem UK{S G:Sys}{c:cn}(Y:G.E=S.E)(e:∀f q,S.prm f=some q->pV S.E f q)(i:kI S c)(j:∀f a b xs,S.items f a b=some xs->eW S f a b xs){f:Y'}{fi:FI}{nm:Y'->aY Nat}{rf:RF}(U:S.E.ft f=some fi)(l:∀g s,nm g=some s->S.N s=g)(m:zL S.E nm fi rf){a b:So}{xs:S'}(D:a.length+1+b.length<=rf.na)(W:rf.rs=[])
 (h:∀B more,xA B xs more->∀yid,b7 S c Qw (.rc rf.body,[],⟨xP 0 (a.map .v++.yl yid::b.map .v),[],[],B,more,yid⟩)=some []):eW G f a b xs:=by
 have k:eW S f a b xs:=NV e i j U l m D W (λB more w yid=>by
  have d:=h B more w yid;change mz S c Qw rf.body [] _=some []at d;rw[rA]at d;have⟨⟨o,st'⟩,z,u⟩:=ζg.1 d;refine⟨o,st',z,?_,?_,rfl⟩
  .rintro id rfl;simp[Qw]at u
  cases o<;>simp[Qw]at u<;>exact u)
 have⟨Q,T,n,zu,prm⟩:=G;simp only at Y;subst Y;intro B more w yid J y Z C I H d z u L O;exact k B more w yid J ⟨y.zl,y.yield⟩ Z C I H d z u L O
end
section
variable{S:Sys}{c:cn}{β γ α:Type}[bD α]{Q:Out×St->aY β}{e:γ->aY β}{cf:Cf}
theorem z6(n u:Nat){s:Sl α}{i:Nat}{a:α}{f:Sl α->aY γ}(h:∀B,s.put i a=some B->Le ((f B).bind e) (b7 S c Q (nx S c n cf λp=>cV {p.st with m:=bN p.st.m u (cI B)} p.d (.v .undef))))
 (D:(gA S c n cf).map (λp=>(p.k,bW S.N p.st.g p.az,bl p.st.m u,(!p.dr||p.now)))=some (.l (.store (bD.size α)),some [.el u i 0,cv a],some (cI s),true):=by kernel_rfl):Le (((s.put i a).bind f).bind e) (b7 S c Q cf):=by
 have⟨p,w,b⟩:=e_ D;simp only[ζc]at b;refine rR w ?_ h;rw[b.1];exact Le.of_eq (NP b.2.1 b.2.2.2 b.2.2.1 (mX a) rfl)
end
theorem Wc{n:Int}(a:0<=n)(h:n<=4611686018427387904):wrap .i64 n=n:=by simp[wrap,IntKind.bits,signed];omega
namespace catX
instance{n:Nat}:OfNat Arg n:=⟨.s n⟩
def ln:K:=.p .lenSl
def ix:K:=.p (.idxS 1)
def bI(o:BinOp):K:=.p (.bin (some .int) none o)
def ld:K:=.r (.load 1 false)
def g1:R0:=[o1 4 (.k (.bO)) []]
def g2:R0:=[o1 5 1 [],o2 6 (bI .lss) [5,.k (.int .i64 0)] []]
def g3:R0:=[o2 7 (.p (.bad)) [] [],⟨none,none,false,.p .bad,[],[],[]⟩]
def g4:R0:=[o1 8 1 [],o1 9 0 [],o2 10 (.p (.capSl)) [9] [],o1 11 0 [],o2 12 ln [11] [],o2 13 (bI .sub) [10,12] [],o2 14 (bI .sub) [8,13] [],o1 1 14 []]
def g5:R0:=[o1 15 1 [],o2 16 (bI .gtr) [15,.k (.int .i64 0)] []]
def g6:R0:=[o1 17 0 [],o1 18 0 [],o2 19 (.p (.capSl)) [18] [],o2 20 (.p (.slice 1 false true)) [17,19] [],o1 21 1 [],o2 22 (.l (.appMk 1 24 [.bO])) [20,21] [],o1 23 0 [],o2 24 ln [23] [],o2 25 (.p (.slice 1 false true)) [22,24] [],o1 0 25 []]
def g7:R0:=[o1 26 0 [],o1 4 26 []]
def grow:RC:=.seq (.ops g1) (.seq (.seq (.ops g2) (.cond (.s 6) (.ops g3) (.skip))) (.seq (.seq (.ops g4) (.seq (.ops g5) (.cond (.s 16) (.ops g6) (.skip)))) (.seq (.ops g7) (.ret))))
section
variable{E:Env}{N:Nat->Y'}{t:Nat}
attribute [local simp] cE iK eG bM iP nu nq rN bI ln
theorem XR(W:t<=2147483648):∃F',Ex E N grow [.bO,.int .i64 t] [] .ret F' (if t=0 then[]else[.row 1 (replicate t [.bO])])/\get F' 4=if t=0 then .bO else .hsl 0 1 0 0:=by
 have e1:∀call,cE E N call none g1 [.bO,.int .i64 t] []=some (set [.bO,.int .i64 t] 4 .bO,[]):=λcall=>vp (v:=.bO) rfl (by simp[iK,eG,bM]) uH;have k0:get (set [V.bO,.int .i64 t] 4 .bO) 0=.bO:=rfl;have k1:get (set [V.bO,.int .i64 t] 4 .bO) 1=.int .i64 t:=rfl;generalize set [V.bO,.int .i64 t] 4 .bO=D at *;have e2:∃F1,(∀call,cE E N call none g2 D []=some (F1,[]))/\get F1 6=.bool false/\get F1 0=.bO/\get F1 1=.int .i64 t:=by exact⟨_,λcall=>by simp[g2,k1];rfl,Zab,by simp[k0],by simp[k1]⟩
 have⟨F1,a1,a2,a3,a4⟩:=e2;have e4:∃z,(∀call,cE E N call none g4 F1 []=some (z,[]))/\get z 0=.bO/\get z 1=.int .i64 t:=by exact⟨_,λcall=>by simp[g4,a3,a4,Lw,o5,Wc (n:=t) Zaa Zaa,show wrap .i64 0=0 from by decide];rfl,by simp[a3],Zab⟩
 have⟨z,G,Q,I⟩:=e4;have e5:∃u,(∀call,cE E N call none g5 z []=some (u,[]))/\get u 16=.bool (decide (t>0))/\get u 0=.bO/\get u 1=.int .i64 t:=by exact⟨_,λcall=>by simp[g5,I];rfl,Zab,by simp[Q],by simp[I]⟩
 have⟨u,J,L,O,S⟩:=e5;have d:Ex E N (.seq (.ops g2) (.cond (.s 6) (.ops g3) (.skip))) D [] .norm F1 []:=Ex.seq (Ex.dw a1) (Ex.rU a2 Ex.skip);have e7:∀(F:WP)(H:bn),∃F',(∀call,cE E N call none g7 F H=some (F',H))/\get F' 4=get F 0:=λF H=>⟨_,λcall=>by simp[g7];rfl,Zab⟩
 by_cases a:t=0;subst a;have⟨C,b,c⟩:=e7 u [];refine⟨C,?_,by rw[c,O];rfl⟩;exact Ex.seq (Ex.dw e1) (Ex.seq d (Ex.seq (Ex.seq (Ex.dw G) (Ex.seq (Ex.dw J) (Ex.rU L Ex.skip))) (Ex.seq (Ex.dw b) Ex.ret)));have w:0<t:=Zaa;have e6:∃B,(∀call,cE E N call none g6 u []=some (B,[.row 1 (replicate t [.bO])]))/\get B 0=.hsl 0 1 0 0:=by exact⟨_,λcall=>by simp[g6,O,S,Lw,o5,oC,jE,eD,gb,mkApp,w,a,show(t:Int)<=2147483648 from Zaa];rfl,Zab⟩
 have⟨B,T,U⟩:=e6;have⟨C,b,c⟩:=e7 B [.row 1 (replicate t [.bO])];rw[if_neg a,if_neg a];refine⟨C,?_,by rw[c,U]⟩;exact Ex.seq (Ex.dw e1) (Ex.seq d (Ex.seq (Ex.seq (Ex.dw G) (Ex.seq (Ex.dw J) (Ex.pq (by show get u 16=_;rw[L,decide_eq_true w]) (Ex.dw T)))) (Ex.seq (Ex.dw b) Ex.ret)))
end
end catX
def EH{α:Type}(s:Sl (Sl α)):Sl α:=if(s.l.flatMap Sl.l).length=0 then .nil else .row (s.l.flatMap Sl.l)
namespace catX
def r1:R0:=[o1 2 (.k (.bO)) []]
def r2:R0:=[o1 3 (.k (.int .i64 0)) []]
def r3:R0:=[o1 9 0 [],o2 10 ln [9] [],o1 11 (.k (.int .i64 0)) []]
def r4:R0:=[o2 12 (bI .lss) [11,10] []]
def r5:R0:=[o2 13 ix [9,11] [],o2 14 ld [13] [],o1 5 14 []]
def r6:R0:=[o1 15 3 [],o1 16 5 [],o2 17 ln [16] [],o2 18 (bI .add) [15,17] [],o1 3 18 []]
def r7:R0:=[o1 19 3 [],o2 20 (bI .lss) [19,.k (.int .i64 0)] []]
def r8:R0:=[o2 21 (.p (.bad)) [] [],⟨none,none,false,.p .bad,[],[],[]⟩]
def r9:R0:=[o2 22 (bI .add) [11,.k (.int .i64 1)] [],o1 11 22 []]
def L9:RC:=.seq (.ops r4) (.seq (.cond (.s 12) (.skip) (.exit 0)) (.seq (.block 1 (.seq (.ops r5) (.seq (.ops r6) (.seq (.ops r7) (.cond (.s 20) (.ops r8) (.skip)))))) (.ops r9)))
def Ca(gid:Nat):R0:=[o1 23 3 [],o2 24 .c [.f gid,.k (.bO),23] [],o1 6 24 []]
def Dj:R0:=[o1 25 0 [],o2 26 ln [25] [],o1 27 (.k (.int .i64 0)) []]
def Cg:R0:=[o2 28 (bI .lss) [27,26] []]
def Ci:R0:=[o2 29 ix [25,27] [],o2 30 ld [29] [],o1 8 30 []]
def Db:R0:=[o1 31 6 [],o1 32 8 [],o2 33 (.l (.append 1)) [31,32] [],o1 6 33 []]
def Co:R0:=[o2 34 (bI .add) [27,.k (.int .i64 1)] [],o1 27 34 []]
def L15:RC:=.seq (.ops Cg) (.seq (.cond (.s 28) (.skip) (.exit 2)) (.seq (.block 3 (.seq (.ops Ci) (.ops Db))) (.ops Co)))
def r16:R0:=[o1 35 6 [],o1 2 35 []]
def cat(gid:Nat):RC:=.seq (.ops r1) (.seq (.ops r2) (.seq (.seq (.ops r3) (.block 0 (.loop L9))) (.seq (.ops (Ca gid)) (.seq (.seq (.ops Dj) (.block 2 (.loop L15))) (.seq (.ops r16) (.ret))))))
section
variable{E:Env}{N:Nat->Y'}{F:WP}{H:bn}{α:Type}[bD α]{s:Sl (Sl α)}{i:Nat}
theorem el{u:Sl α}(h:s.l[i]?=some u):nQ 1 (cm s) (i:Int)=some (.fptr [cm u]):=by have:=HF (N:=λn=>n) s .i64 (i:Int) 1 rfl;simp only[bM]at this;rw[this,show idx s (i:Int)=some u from by unfold idx;grind];rfl
theorem lnS(s:Sl α):o5 (cm s)=some (.int .i64 s.l.length):=by have:=Kw (N:=λn=>n) s;simpa only[bM]using this
attribute [local simp] cE iK eG bM iP nu nq rN lnS bI ln ix ld
theorem y3:(get F 0=cm s->∃F',(∀call,cE E N call none r3 F H=some (F',H))/\get F' 9=cm s/\get F' 10=.int .i64 s.l.length/\get F' 11=.int .i64 0/\∀j,j<9->get F' j=get F j)/\
 (get F 0=cm s->∃F',(∀call,cE E N call none Dj F H=some (F',H))/\get F' 25=cm s/\get F' 26=.int .i64 s.l.length/\get F' 27=.int .i64 0/\∀j,j<9->get F' j=get F j):=by
 refine⟨λa=>⟨_,λcall=>by simp[r3,a];rfl,?_⟩,λa=>⟨_,λcall=>by simp[Dj,a];rfl,?_⟩⟩<;>
  (simp;grind)
theorem y4{n:Nat}:(get F 11=.int .i64 i->get F 10=.int .i64 n->∃F',(∀call,cE E N call none r4 F H=some (F',H))/\get F' 12=.bool (decide (i<n))/\∀j,j<12->get F' j=get F j)/\
 (get F 27=.int .i64 i->get F 26=.int .i64 n->∃F',(∀call,cE E N call none Cg F H=some (F',H))/\get F' 28=.bool (decide (i<n))/\∀j,j<28->get F' j=get F j):=by
 refine⟨λf u=>⟨_,λcall=>by simp[r4,f,u];rfl,?_⟩,λf u=>⟨_,λcall=>by simp[Cg,f,u];rfl,?_⟩⟩<;>
  (simp;grind)
theorem y5{u:Sl α}(h:s.l[i]?=some u):(get F 9=cm s->get F 11=.int .i64 i->∃F',(∀call,cE E N call none r5 F H=some (F',H))/\get F' 5=cm u/\∀j,j<12->j≠5->get F' j=get F j)/\
 (get F 25=cm s->get F 27=.int .i64 i->∃F',(∀call,cE E N call none Ci F H=some (F',H))/\get F' 8=cm u/\∀j,j<28->j≠8->get F' j=get F j):=by
 have e:=el h;have e2:eE H (.load 1 false) [.fptr [cm u]]=some (cm u):=by simp[eE,eN,cut,mk]
 refine⟨λf w=>⟨_,λcall=>by simp[r5,f,w,e,e2];rfl,?_⟩,λf w=>⟨_,λcall=>by simp[Ci,f,w,e,e2];rfl,?_⟩⟩<;>
  (simp;grind)
theorem y6{u:Sl α}{t:Nat}(a:get F 3=.int .i64 t)(b:get F 5=cm u)(B:t+u.l.length<=2147483648):∃F',(∀call,cE E N call none r6 F H=some (F',H))/\get F' 3=.int .i64 ((t+u.l.length:Nat):Int)/\∀j,j<12->j≠3->get F' j=get F j:=by
 have w:wrap .i64 ((t:Int)+(u.l.length:Int))=((t+u.l.length:Nat):Int):=by rw[Wc Zaa Zaa];simp
 refine⟨_,λcall=>by simp[r6,a,b,w];rfl,Zab,?_⟩;simp;grind
theorem y7{t:Nat}(a:get F 3=.int .i64 t):∃F',(∀call,cE E N call none r7 F H=some (F',H))/\get F' 20=.bool false/\∀j,j<12->get F' j=get F j:=by refine⟨_,λcall=>by simp[r7,a];rfl,Zab,?_⟩;simp;grind
theorem y9(a:i<=2147483648):(get F 11=.int .i64 i->∃F',(∀call,cE E N call none r9 F H=some (F',H))/\get F' 11=.int .i64 ((i+1:Nat):Int)/\∀j,j<11->get F' j=get F j)/\
 (get F 27=.int .i64 i->∃F',(∀call,cE E N call none Co F H=some (F',H))/\get F' 27=.int .i64 ((i+1:Nat):Int)/\∀j,j<27->get F' j=get F j):=by
 have u:=Az a;refine⟨λf=>⟨_,λcall=>by simp[r9,f,u];rfl,?_⟩,λf=>⟨_,λcall=>by simp[Co,f,u];rfl,?_⟩⟩<;>
  (simp;grind)
structure Acc(H:bn)(w:V)(acc:List (List V)):Prop where
 el:dZ H 1 w=some acc
 gr:∃H1,jf H w=some H1/\H1.length=H.length
 sh:w=.bO/\acc=[]\/∃id xs,w=.hsl id 1 0 acc.length/\H[id]?=some (.row 1 xs)/\(acc≠[]->xs=acc)
theorem XJ(H:bn)(u:Sl α)(a:bD.size α=1):dZ H 1 (cm u)=some (rows u.l):=by cases u<;>simp[cm,Sl.k,Sl.l,qG,dZ,rows,a]
theorem y14{w:V}{b:S'}{u:Sl α}(f:bD.size α=1)(a:Acc H w b)(f6:get F 6=w)(D:get F 8=cm u)(J:b.length+u.l.length<=2147483648):
 ∃F' H' w',(∀call,cE E N call none Db F H=some (F',H'))/\get F' 6=w'/\Acc H' w' (b++rows u.l)/\(u.l=[]->w'=w)/\∀j,j<28->j≠6->get F' j=get F j:=by
 have c:=XJ H u f;have C:(rows u.l).length=u.l.length:=by simp[rows]
 have key:∃H' w',gb H (.append 1) [w,cm u]=some (w',H')/\Acc H' w' (b++rows u.l)/\(u.l=[]->w'=w):=by have⟨H1,g1,g2⟩:=a.gr;cases d:rows u.l with|nil=>exact⟨H,w,by simp only[gb,a.el,c,d],Zac,λ_=>rfl⟩|cons y B=>have G:b.length+(y::B).length<=2147483648:=Zac;refine⟨H1++[.row 1 (b++y::B)],.hsl H.length 1 0 (b.length+(y::B).length),by simp only[gb,a.el,c,d];grind,?_⟩;have z:(H1++[Ob.row 1 (b++y::B)])[H.length]?=some (.row 1 (b++y::B)):=Zac;refine⟨⟨?_,⟨_,by simp only[jf,z];rfl,Zab⟩,.inr ⟨H.length,b++y::B,Zab,z,λ_=>rfl⟩⟩,λe=>Zac⟩;simp only[dZ,z,ζb,Ob.rows,if_true,zero_add,drop_zero];grind
 have⟨H',w',k1,k2,k3⟩:=key;refine⟨_,H',w',λcall=>by simp[Db,f6,D,k1];rfl,Zab,k2,k3,?_⟩
 simp;grind
def upto(s:Sl (Sl α))(i:Nat):aX α:=(s.l.take i).flatMap Sl.l
theorem Is{u:Sl α}(h:s.l[i]?=some u):upto s (i+1)=upto s i++u.l:=by unfold upto;obtain⟨a,rfl⟩:=ζe.1 h;rw[List.take_succ_eq_append_getElem a,List.flatMap_append];simp
theorem Ou(s:Sl (Sl α))(i:Nat):(upto s i).length<=(s.l.flatMap Sl.l).length:=by
 have:s.l.flatMap Sl.l=upto s i++(s.l.drop i).flatMap Sl.l:=by unfold upto;rw[<-List.flatMap_append,List.take_append_drop]
 grind
theorem lp1(l:s.l.length<=2147483648)(m:(s.l.flatMap Sl.l).length<=2147483648):∀(d i:Nat)(F:WP),i+d=s.l.length->get F 9=cm s->get F 10=.int .i64 s.l.length->get F 11=.int .i64 i->get F 3=.int .i64 (upto s i).length->
 ∃F',od E N L9 F H (.exit 0) F' H/\get F' 3=.int .i64 (s.l.flatMap Sl.l).length/\get F' 0=get F 0:=by
 intro d
 induction d with
 |zero=>
  intro i F f J a w c;have⟨F1,a1,a2,a3⟩:=(y4 (E:=E) (N:=N) (H:=H) (n:=s.l.length)).1 w a;refine⟨F1,od.stop (Ex.seq (Ex.dw a1) (Ex.vO (Ex.rU (by show get F1 12=_;grind) Ex.exit) Zab)) Zab,?_,a3 0 Zaa⟩
  rw[a3 3 Zaa,c]
  have:upto s i=s.l.flatMap Sl.l:=by unfold upto;grind
  simp_all
 |succ d L=>
  intro i F f J a w c;have⟨F1,a1,a2,a3⟩:=(y4 (E:=E) (N:=N) (H:=H) (n:=s.l.length)).1 w a;have e:s.l[i]?=some s.l[i]:=ζd Zaa
  have⟨O,Q,S,T⟩:=(y5 (E:=E) (N:=N) (F:=F1) (H:=H) e).1 Zac Zac
  have B:=Ou s (i+1);have C:=Is e;rw[C,ζi]at B;have⟨U,W,D,X⟩:=y6 (E:=E) (N:=N) (F:=O) (H:=H) (u:=s.l[i]) (t:=(upto s i).length) Zad S Zaa
  have⟨G,g,h,I⟩:=y7 (E:=E) (N:=N) (F:=U) (H:=H) D;have z:∀j,j<12->j≠3->j≠5->get G j=get F j:=λj b Y Z=>by rw[I j b,X j b Y,T j b Z,a3 j b]
  have⟨k,e1,e2,e3⟩:=(y9 (E:=E) (N:=N) (F:=G) (H:=H) (i:=i) Zaa).1 (by rw[z 11 Zaa Zaa Zaa];exact w)
  have⟨F',g1,g2,g3⟩:=L (i+1) k Zaa (by rw[e3 9 Zaa,z 9 Zaa Zaa Zaa];omega) (by rw[e3 10 Zaa,z 10 Zaa Zaa Zaa];exact a) e2 (by rw[e3 3 Zaa,I 3 Zaa,D,C,ζi])
  exact⟨F',od.step (Ex.seq (Ex.dw a1) (Ex.seq (Ex.pq (by show get F1 12=_;rw[a2,decide_eq_true Zaa]) Ex.skip) (Ex.seq (Ex.block (Ex.seq (Ex.dw Q) (Ex.seq (Ex.dw W) (Ex.seq (Ex.dw g) (Ex.rU h Ex.skip))))) (Ex.dw e1)))) g1,g2,by rw[g3,e3 0 Zaa,z 0 Zaa Zaa Zaa]⟩
theorem lp2(b:bD.size α=1)(h:s.l.length<=2147483648)(k:(s.l.flatMap Sl.l).length<=2147483648):∀(d i:Nat)(F:WP)(H:bn)(w:V),i+d=s.l.length->get F 25=cm s->get F 26=.int .i64 s.l.length->get F 27=.int .i64 i->get F 6=w->Acc H w (rows (upto s i))->
 ∃F' H' w',od E N L15 F H (.exit 2) F' H'/\get F' 6=w'/\Acc H' w' (rows (s.l.flatMap Sl.l))/\((s.l.flatMap Sl.l).length=0->w'=w):=by
 intro d
 induction d with
 |zero=>
  intro i F H w f C B z f6 a;have⟨F1,a1,a2,a3⟩:=(y4 (E:=E) (N:=N) (H:=H) (n:=s.l.length)).2 z B;have:upto s i=s.l.flatMap Sl.l:=by unfold upto;grind
  rw[this]at a;exact⟨F1,H,w,od.stop (Ex.seq (Ex.dw a1) (Ex.vO (Ex.rU (by show get F1 28=_;grind) Ex.exit) Zab)) Zab,Zac,a,λ_=>rfl⟩
 |succ d O=>
  intro i F H w f C B z f6 a;have⟨F1,a1,a2,a3⟩:=(y4 (E:=E) (N:=N) (H:=H) (n:=s.l.length)).2 z B;have c:s.l[i]?=some s.l[i]:=ζd Zaa
  have⟨Q,S,T,l⟩:=(y5 (E:=E) (N:=N) (F:=F1) (H:=H) c).2 Zac Zac
  have D:=Ou s (i+1);have I:=Is c;rw[I,ζi]at D;have⟨J,H',w',U,W,L,X,m⟩:=y14 (E:=E) (N:=N) (F:=Q) (H:=H) (u:=s.l[i]) b a Zac T (by simp only[iY];omega)
  have G:∀j,j<28->j≠6->j≠8->get J j=get F j:=λj b o p=>Zac
  have⟨Y,e1,e2,e3⟩:=(y9 (E:=E) (N:=N) (F:=J) (H:=H') (i:=i) Zaa).2 (by rw[G 27 Zaa Zaa Zaa];exact z)
  have g:rows (upto s i)++rows s.l[i].l=rows (upto s (i+1)):=by rw[I];simp[rows]
  rw[g]at L;have⟨F',H2,Z,g1,g2,g3,g4⟩:=O (i+1) Y H' w' Zaa (by rw[e3 25 Zaa,G 25 Zaa Zaa Zaa];omega) (by rw[e3 26 Zaa,G 26 Zaa Zaa Zaa];omega) e2 (by rw[e3 6 Zaa];exact W) L
  exact⟨F',H2,Z,od.step (Ex.seq (Ex.dw a1) (Ex.seq (Ex.pq (by show get F1 28=_;rw[a2,decide_eq_true Zaa]) Ex.skip) (Ex.seq (Ex.block (Ex.seq (Ex.dw S) (Ex.dw U))) (Ex.dw e1)))) g1,g2,g3,λe=>(g4 e).trans (X (List.eq_nil_of_length_eq_zero Zaa))⟩
end
end catX
theorem Ym{E:Env}{f gf:Y'}{nm:Y'->aY Nat}{N:Nat->Y'}{gid:Nat}(K:∀f s,nm f=some s->N s=f)(hg:N gid=gf)(aa:E.keep gf=true)(U:E.own gf=true)
 (hf:∃fi,E.ft f=some fi/\bR ⟨E,nm,fi.ntmps⟩ false fi.body=some (catX.cat gid)/\2<=fi.ntmps/\fi.results=[.tmp 2])
 (ab:∃fi,E.ft gf=some fi/\bR ⟨E,nm,fi.ntmps⟩ false fi.body=some catX.grow/\2<=fi.ntmps/\fi.results=[.tmp 4])
 {α:Type}[bD α](M:bD.size α=1)(s:Sl (Sl α))(P:s.l.length<=2147483648)(ht:(s.l.flatMap Sl.l).length<=2147483648):Cp E f [cm s] (cm (EH s)):=by
 have⟨fi,p1,p2,p3,p4⟩:=hf;have⟨gi,q1,q2,q3,q4⟩:=ab;generalize R:(s.l.flatMap Sl.l).length=T at *;have⟨Fg,Z,ad⟩:=catX.XR (E:=E) (N:=N) ht;have⟨n0,L⟩:=Ex.run K q1 q2 (args:=[.bO,.int .i64 T]) Zac Z (vs:=[if T=0 then .bO else .hsl 0 1 0 0]) (by rw[q4];simp[jJ,ad])
 have O:∀l,borrows l [] [.bO,.int .i64 (T:Int)]=some [.bO,.int .i64 (T:Int)]:=λl=>by unfold borrows;simp only[jr,kV l [] (x:=V.bO) rfl,kV l [] (x:=V.int .i64 T) rfl]
 have C:∃w D,(∀k,n0<=k->gx E (run E k) gf [.bO,.int .i64 T] []=some (w,D))/\catX.Acc D w []/\(T=0->w=.bO):=by by_cases d:T=0;refine⟨.bO,[],λk g=>?_,⟨rfl,⟨[],rfl,rfl⟩,.inl ⟨rfl,rfl⟩⟩,λ_=>rfl⟩;have:=(qF E g).go _ _ _ _ L;rw[if_pos d,if_pos d]at this;unfold gx mH;rw[if_pos U];simp[O,this,result,V.scalar];refine⟨.hsl 0 1 0 0,[.row 1 (replicate T [.bO])],λk g=>?_,⟨by simp[dZ,Ob.rows],⟨_,rfl,Zab⟩,.inr ⟨0,_,rfl,rfl,λh=>absurd rfl h⟩⟩,λh=>absurd h d⟩;have:=(qF E g).go _ _ _ _ L;rw[if_neg d,if_neg d]at this;unfold gx mH;rw[if_pos U];simp only[O,if_true,this,result,V.scalar,false_eq_true,if_false,tO,List.getElem?_cons_zero,true_and];rw[if_pos (by simp[List.all_replicate,V.scalar])];simp
 have⟨w,D,ai,ae,Q⟩:=C;have S:T≠0->rows (s.l.flatMap Sl.l)≠[]:=λh e=>h (by rw[<-R,<-iY,e];rfl)
 have z:∀c∈rows (s.l.flatMap Sl.l),V.cG c=true:=λc p=>by obtain⟨x,_,rfl⟩:=mem_map.1 p;exact bD.good x
 have g1:∀call,cE E N call none catX.r1 [cm s] []=some (set [cm s] 2 .bO,[]):=λcall=>vp (v:=.bO) rfl (by simp[iK,eG,bM]) uH
 have k0:get (set [cm s] 2 .bO) 0=cm s:=rfl;generalize set [cm s] 2 .bO=F0 at *;have g2:∀call,cE E N call none catX.r2 F0 []=some (set F0 3 (.int .i64 0),[]):=λcall=>vp (v:=.int .i64 0) rfl (by simp[iK,eG,bM]) uH
 have⟨F2,a1,a2,a3,a4,a5⟩:=(catX.y3 (E:=E) (N:=N) (F:=set F0 3 (.int .i64 0)) (H:=[]) (s:=s)).1 Zad
 have⟨F3,b1,b2,b3⟩:=catX.lp1 (E:=E) (N:=N) (H:=[]) P Zaa s.l.length 0 F2 Zaa a2 a3 a4 (by rw[a5 3 Zaa,vA];rfl)
 rw[R]at b2;have aj:get F3 0=cm s:=Zad
 have q:∃W,(∃n,∀k,n<=k->cE E N (run E k) none (catX.Ca gid) F3 []=some (W,D))/\get W 6=w/\get W 0=cm s:=by refine⟨_,⟨n0,λk g=>vp (v:=.int .i64 T) rfl ?_<|DB (v:=w) (H1:=D) rfl ?_<|vp (v:=w) rfl ?_ uH⟩,?_,?_⟩;simp[iK,eG,bM,b2];simp only[iK,map_cons,map_nil,eG,iP,nu,Nat.reduceEqDiff,if_true,if_false,hg,aa,nil_append,append_nil];grind;simp[iK,eG,bM,iP];simp[iP];simp only[iP,nu,Nat.reduceEqDiff,if_false];omega
 have⟨W,q,c2,c3⟩:=q;have⟨F5,d1,d2,d3,d4,d5⟩:=(catX.y3 (E:=E) (N:=N) (F:=W) (H:=D) (s:=s)).2 c3;have⟨F6,X,I,e1,e2,e3,e4⟩:=catX.lp2 (E:=E) (N:=N) M P Zaa s.l.length 0 F5 D w Zaa d2 d3 d4 Zad ae
 have r:∃t,(∀call,cE E N call none catX.r16 F6 X=some (t,X))/\get t 2=I:=⟨_,λcall=>vp (v:=I) rfl (by simp[iK,eG,bM,e2])<|vp (v:=I) rfl (by simp[iK,eG,bM,iP]) uH,by simp[iP]⟩
 have⟨t,r,f2⟩:=r;have⟨n,af⟩:=Ex.run K p1 p2 (args:=[cm s]) (by simp;omega) (Ex.seq (Ex.dw g1) (Ex.seq (Ex.dw g2) (Ex.seq (Ex.seq (Ex.dw a1) (Ex.wZ (Ex.loop b1))) (Ex.seq (Ex.ops q) (Ex.seq (Ex.seq (Ex.dw d1) (Ex.wZ (Ex.loop e1))) (Ex.seq (Ex.dw r) Ex.ret)))))) (vs:=[I]) (by rw[p4];simp[jJ,f2])
 refine⟨n,I,X,λid=>∃m,I=.hsl id 1 0 m,af,?_,?_,?_⟩
 .rcases e3.sh with⟨h,J⟩|⟨id,xs,h,J,A⟩
  .have:T=0:=by grind
   rw[h];unfold EH;rw[if_pos Zaa]
   exact .same _ rfl
  by_cases d:T=0
  .have:=e4 Zaa
   rw[Q d]at this;rw[this]at h;cases h
  have y:=A (S d);subst y;unfold EH;rw[if_neg Zaa,h]
  show FR X _ (.fsl (bD.size α) (rows (s.l.flatMap Sl.l))) _;rw[M];exact .fsl 1 _ id 0 _ ⟨_,rfl⟩ (by unfold bu;rw[J];rfl) Zaa (λi a b Y G=>by rw[zero_add]at G;rw[Y]at G;cases G;rfl) (λi j a b u v Y G o hv=>by
   rw[zero_add]at G;rw[Y]at G;cases G;rw[o]at hv;cases hv;exact .same _ (jh.1 (z a (mem_of_getElem? Y)) j u o))
 .rintro id ⟨m,h⟩;rcases e3.sh with⟨B,_⟩|⟨ah,xs,B,J,_⟩
  .rw[B]at h;cases h
  rw[B]at h;cases h;unfold bu;rw[J];rfl
 refine⟨λid es ys hz hr c p u o=>?_⟩
 have⟨m,h⟩:=hz;rcases e3.sh with⟨B,_⟩|⟨ah,xs,B,J,A⟩
 .rw[B]at h;cases h
 rw[B]at h;cases h
 by_cases d:T=0
 .have:=e4 Zaa
  rw[Q d]at this;rw[this]at B;cases B
 have y:=A (S d);subst y;unfold bu at hr;rw[J]at hr;cases hr;have⟨j,hj⟩:=getElem?_of_mem o;exact⟨u,.same _ (jh.1 (z c p) j u hj)⟩
def AW(op:X')(x y:Int):Int:=cond op x y
@[simp] theorem aco(x y:Int):AW true x y=x:=rfl
@[simp] theorem abL(x y:Int):AW false x y=y:=rfl
namespace setX
instance{n:Nat}:OfNat Arg n:=⟨.s n⟩
def fa(k:Nat):K:=.p (.fieldAddr k)
def ld:K:=.r (.load 1 false)
def r1:R0:=[o2 4 (.a .box) [1] [],o2 5 (.a .box) [2] []]
def r2:R0:=[o1 6 0 [],o2 7 (fa 0) [4] [],o2 8 ld [7] [],o2 9 (fa 1) [4] [],o2 10 ld [9] [],o2 11 (.p (.idxS 1)) [6,8] [],⟨none,none,false,.l (.store 1),[11,10],[],[]⟩]
def r3:R0:=[o1 6 0 [],o2 7 (fa 0) [5] [],o2 8 ld [7] [],o2 9 (fa 1) [5] [],o2 10 ld [9] [],o2 11 (.p (.bin (some .int) none .sub)) [10,.k (.int .i64 1)] [],o2 12 (.p (.idxS 1)) [6,8] [],⟨none,none,false,.l (.store 1),[12,11],[],[]⟩]
def code(op:X'):RC:=.seq (.ops r1) (.ops (if op then r3 else r2))
section
variable{E:Env}{N:Nat->Y'}{H:bn}{id off L:Nat}{rs:S'}
theorem WE{h:Nat}{x y:V}{i:Nat}{v:V}(B:H[h]?=some (.row 2 [[x,y]]))(a:[x,y][i]?=some v):eE H (.load 1 false) [.hptr h 0 i]=some v:=by match i,a with|0,a=>cases a;simp[eE,eN,B,Ob.rows,cut,mk]|1,a=>cases a;simp[eE,eN,B,Ob.rows,cut,mk]|i+2,a=>simp at a
attribute [local simp] cE iK eG bM iP nu nq rN
theorem whole(op:X'){a b c d:Int}(G:H[id]?=some (.row 1 rs))(hp:0<=(AW op c a))(B:(AW op c a).toNat<L){z:V}(D:rs[off+(AW op c a).toNat]?=some [z]):
 ∃F' X,Ex E N (code op) [.hsl id 1 off L,.agg [.int .i64 a,.int .i64 b],.agg [.int .i64 c,.int .i64 d]] H .norm F' ((H++X).set id (.row 1 (rs.set (off+(AW op c a).toNat) [.int .i64 (AW op (wrap .i64 (d-1)) b)]))):=by
 let X:bn:=[.row 2 [[.int .i64 a,.int .i64 b]],.row 2 [[.int .i64 c,.int .i64 d]]]
 have I:=(ζe.1 G).1;have e1:∃F1,(∀call,cE E N call none r1 [.hsl id 1 off L,.agg [.int .i64 a,.int .i64 b],.agg [.int .i64 c,.int .i64 d]] H=some (F1,H++X))/\get F1 0=.hsl id 1 off L/\get F1 4=.hptr H.length 0 0/\get F1 5=.hptr (H.length+1) 0 0:=by exact⟨_,λcall=>by simp[r1,get,set,kT,V.cells,V.one,Mk.val,X];rfl,rfl,rfl,rfl⟩
 have⟨F1,p1,p2,p3,p4⟩:=e1;have e:(H++X)[id]?=some (.row 1 rs):=by rw[getElem?_append_left I];exact G
 have J:(H++X)[H.length]?=some (.row 2 [[.int .i64 a,.int .i64 b]]):=by simp[X]
 have O:(H++X)[H.length+1]?=some (.row 2 [[.int .i64 c,.int .i64 d]]):=by rw[getElem?_append_right Zaa];simp[X]
 obtain⟨H1,Q⟩:∃H1,H1=H++X:=⟨_,rfl⟩;rw[<-Q]at e J O;rw[<-Q]at p1
 suffices W:∃F',Ex E N (code op) [.hsl id 1 off L,.agg [.int .i64 a,.int .i64 b],.agg [.int .i64 c,.int .i64 d]] H .norm F' (H1.set id (.row 1 (rs.set (off+(AW op c a).toNat) [.int .i64 (AW op (wrap .i64 (d-1)) b)])))by have⟨F',Y⟩:=W;exact⟨F',X,by rw[<-Q];exact Y⟩
 have w:∀p:Int,0<=p->p.toNat<L->nQ 1 (.hsl id 1 off L) p=some (.hptr id (off+p.toNat) 0):=λp g Z=>by unfold nQ;rw[if_neg Zaa];simp[Z]
 have C:∀(q:Nat)(z v:V),rs[q]?=some [z]->v.one=true->gb H1 (.store 1) [.hptr id q 0,v]=some (.undef,H1.set id (.row 1 (rs.set q [v]))):=λq z v D f=>by simp[gb,e,D,Im f,f]
 cases op with
 |false=>
  simp only[abL]at hp B D⊢;have S:=WE (i:=0) J rfl;have T:=WE (i:=1) J rfl;have e2:∃u,(∀call,cE E N call none r2 F1 H1=some (u,H1.set id (.row 1 (rs.set (off+a.toNat) [.int .i64 b])))):=by exact⟨_,λcall=>by simp[r2,p2,p3,fa,ld,nZ,S,T,w a hp B,C _ z (.int .i64 _) D rfl];rfl⟩
  have⟨u,U⟩:=e2;exact⟨u,Ex.seq (Ex.dw p1) (Ex.dw (l:=_) U)⟩
 |true=>
  simp only[aco]at hp B D⊢;have S:=WE (i:=0) O rfl;have T:=WE (i:=1) O rfl;have e2:∃u,(∀call,cE E N call none r3 F1 H1=some (u,H1.set id (.row 1 (rs.set (off+c.toNat) [.int .i64 (wrap .i64 (d-1))])))):=by exact⟨_,λcall=>by simp[r3,p2,p4,fa,ld,nZ,S,T,w c hp B,C _ z (.int .i64 _) D rfl];rfl⟩
  have⟨u,U⟩:=e2;exact⟨u,Ex.seq (Ex.dw p1) (Ex.dw (l:=_) U)⟩
end
end setX
section
variable{S:Sys}{c:cn}{β γ δ α:Type}[bD δ]{Q:Out×St->aY β}{e:γ->aY β}{cf:Cf}
end
def snap(w:World):cD:=λb=>match w.heap[b]?with
 |some (.cells c _ _)=>some (.cells c)|some (.map es _)=>some (.map es)|_=>none
theorem UP{w:World}(a:wI (snap w)):di (snap w) (λ_=>none) [] w where
 dom _ _:=rfl
 imm b x h:=by unfold snap at h;split at h;(next c el fr u=>cases h;exact⟨el,fr,u⟩);(next es d u=>cases h;exact⟨d,u⟩);cases h
 obs id ob h:=by simp at h
 inj id z ob B p C h:=by simp at h
 gl:=a
def gj(I:cD)(xs:So)(vs:aX V'):Prop:=xs.length=vs.length/\∀(j:Nat)a b,xs[j]?=some a->vs[j]?=some b->fu I a b
theorem gj.nil{I:cD}:gj I [] []:=⟨rfl,Zab⟩
theorem gj.one{I:cD}{x:V}{v:V'}(h:fu I x v):gj I [x] [v]:=⟨rfl,λj a b c u=>by
 cases j with
 |zero=>simp at c u;subst c u;exact h|succ j=>simp at c⟩
theorem gj.append{I:cD}{xs ys:So}{B vs:aX V'}(h:gj I xs B)(k:gj I ys vs):gj I (xs++ys) (B++vs):=by refine⟨by simp[h.1,k.1],λj a b c u=>?_⟩;by_cases w:j<xs.length;rw[getElem?_append_left w]at c;rw[getElem?_append_left (by rw[<-h.1];exact w)]at u;exact h.2 j a b c u;rw[getElem?_append_right Zaa]at c;rw[getElem?_append_right (by rw[<-h.1];omega),<-h.1]at u;exact k.2 _ a b c u
theorem Fb{α β:Type}{f:α->aY β}:∀{l:aX α}{r:aX β},l.mapM f=some r->r.length=l.length/\∀(i:Nat)a b,l[i]?=some a->r[i]?=some b->f a=some b
 |[],r,h=>by simp only[List.mapM_nil,pure_def,ζa]at h;subst h;simp|x::l,r,h=>by simp only[List.mapM_cons,Option.bind_eq_bind,pure_def,ζg,ζa]at h;obtain⟨y,D,ys,B,rfl⟩:=h;have⟨c,z⟩:=Fb B;refine⟨by simp[c],λi a b u w=>?_⟩;cases i with|zero=>simp at u w;subst u w;exact D|succ i=>exact z i a b (by simpa using u) (by simpa using w)
structure vc{H:Type}(b:DataW H->Nat):Prop where
 lit:∀l,1<=b (.lit l)
 str:∀s,s.length+1<=b (.lit (.string s))
 nil:1<=b .nil
 slice:∀es sp,(es.map b).sum+1<=b (.slice es sp)
 agg:∀ps,(ps.map b).sum+1<=b (.agg ps)
class cw(α:Type)where
 wt:α->Nat
 ok:α->Prop
instance:cw Int where
 wt _:=1
 ok n:=-9223372036854775808<=n/\n<=9223372036854775807
instance:cw X' where
 wt _:=1
 ok _:=True
instance:cw U' where
 wt s:=s.size+1
 ok s:=s.size<=maxLen
instance{α:Type}[cw α]:cw (Sl α)where
 wt s:=(s.l.map cw.wt).sum+1
 ok s:=(∀x∈s.l,cw.ok x)/\s≠.emp
class Reads(P:Program)(t:TypeId)(α:Type)[bD α][cw α]:Prop where
 size:P.cellsOf t=bD.size α
 rd:∀{H:Type}{enc:TypeId×Value->H}{w:World}{base:Nat}{spare:Nat->Bool}{held:Bool}{fuel:Nat}{cs:List Value}{d:DataW H}{ps:List MemPlace},
  trod enc P w base spare held fuel t cs=some (d,ps)->∃a:α,gj (snap w) (cells a) cs/\cw.ok a/\∀b:DataW H->Nat,vc b->cw.wt a<=b d
 shape:∀{w:World}{r:_root_.Go.Reach}{base:Nat}{v:Value},okWide P w r base t v->if bD.agg α then∃cs,v=.agg cs else v.cells=#[v]
section
variable{P:Program}
theorem tQ{w:World}{r:_root_.Go.Reach}{base:Nat}{t:W'}{v:V'}{u:_}(a:P.underlying t=some u)(b:∀fs,u≠.struct fs)(B:∀n e,u≠.array n e)(h:okWide P w r base t v):v.cells=#[v]:=by cases v with|agg cs=>exfalso;unfold okWide at h;rw[a]at h;split at h;(next fs z=>cases z;exact b _ rfl);(next n e z=>cases z;exact B _ _ rfl);(unfold Cell.okWide at h;rw[a]at h;split at h<;>first|(simp at *;done)|skip);unfold Cell.ok at h;rw[a]at h;cases u<;>simp at h|_=>rfl
theorem Reads.int{t:W'}(a:P.underlying t=some (.int .i64))(c:P.cellsOf t=1):Reads P t Int where
 size:=c
 rd {H enc w base spare held z cs d ps} h:=by cases z with|zero=>simp[trod]at h|succ z=>(simp only[trod,a]at h;split at h<;>first|(simp at h;done)|skip);(next u=>cases u);rename_i k D n u;simp only[ζa,TypeDesc.int.injEq]at u;split at h;(next e=>obtain⟨rfl,B⟩:=e;subst u;cases h;exact⟨n,gj.one (.int _ n),show _/\_ by simpa[Lit.wf,IntKind.min,IntKind.max,signed,IntKind.bits]using B,λb C=>C.lit _⟩);simp at h;all_goals (rename_i u;cases u)
 shape h:=by simp only[show bD.agg Int=false from rfl];exact tQ a Zab Zab h
theorem Reads.bool{t:W'}(a:P.underlying t=some .bool)(c:P.cellsOf t=1):Reads P t X' where
 size:=c
 rd {H enc w base spare held u cs d ps} h:=by cases u with|zero=>simp[trod]at h|succ u=>(simp only[trod,a]at h;split at h<;>first|(simp at h;done)|skip);(next b _=>cases h;exact⟨b,gj.one (.bool b),trivial,λb B=>B.lit _⟩);all_goals (rename_i z;cases z)
 shape h:=by simp only[show bD.agg X'=false from rfl];exact tQ a Zab Zab h
theorem Reads.str{t:W'}(a:P.underlying t=some .string)(c:P.cellsOf t=1):Reads P t U' where
 size:=c
 rd {H enc w base spare held u cs d ps} h:=by cases u with|zero=>simp[trod]at h|succ u=>(simp only[trod,a]at h;split at h<;>first|(simp at h;done)|skip);(all_goals (first|(rename_i z;cases z;done)|skip));rename_i s _;split at h;(next B=>cases h;exact⟨s,gj.one (.str s),B,λb C=>C.str _⟩);simp at h
 shape h:=by simp only[show bD.agg U'=false from rfl];exact tQ a Zab Zab h
theorem TP{w:World}{a:Addr}{n:Nat}{v:V'}(h:w.cell? (a.add n)=some v)(B:n=0\/True):∃c el fr,w.heap[a.block]?=some (.cells c el fr)/\c[a.off+n]?=some v/\(n=0->a.spot=none):=by
 unfold cell? Addr.add at h;by_cases b:n=0;subst b;simp only[if_true]at h;split at h;rename_i c el fr u;split at h;simp at h;rename_i z;exact⟨c,el,fr,u,h,λ_=>by simpa using z⟩;simp at h;simp only[if_neg b]at h;split at h;next c el fr u=>simp only[Option.isSome_none,false_eq_true,if_false]at h;exact⟨c,el,fr,u,h,λe=>absurd e b⟩
 simp at h
def uy(P:Program)(t:W')(α:Type)[bD α][cw α](B:Nat):Prop:=∀{H:Type}{enc:W'×V'->H}{w:World}{base:Nat}{c:Nat->X'}{e:X'}{cs:aX V'}{d:DataW H}{ps:aX MemPlace},trod enc P w base c e B t cs=some (d,ps)->∃a:α,gj (snap w) (cells a) cs/\cw.ok a/\∀b:DataW H->Nat,vc b->cw.wt a<=b d
theorem uy.sl{t e:W'}{α:Type}[bD α][cw α]{J:Nat}(V:P.underlying t=some (.slice e))(ae:P.cellsOf e=bD.size α)(U:0<bD.size α)(p:uy P e α J):uy P t (Sl α) (J+1):=by
 intro H enc w base E M cs d ps h;simp only[trod,V]at h;split at h<;>first|(simp at h;done)|skip
 all_goals (first|(rename_i I;cases I;done)|skip)
 cases h;exact⟨.nil,gj.one .bO,⟨λx T=>by simp[Sl.l]at T,Zab⟩,λb W=>W.nil⟩;rename_i e' a len F I;cases I;split at h
 .rename_i X;obtain⟨f,af,h⟩:=ζg.1 h;obtain⟨rest,_,h⟩:=ζf.1 h;cases h;obtain⟨Y,Z⟩:=Fb af;simp only[length_range]at Y;have T:∀i,i<len->∃x:α,∃u:aX V',w.cells? base (a.add (i*P.cellsOf e)) (P.cellsOf e)=some u/\gj (snap w) (cells x) u/\cw.ok x/\∀b:DataW H->Nat,vc b->∀y,f[i]?=some y->cw.wt x<=b y.1:=λi q=>(by have:=Z i i (f[i]' Zaa) (by simp[q]) (ζd Zaa);obtain⟨u,l,L⟩:=ζg.1 this;obtain⟨x,T,K,W⟩:=p (show _=some ((f[i]' Zaa).1,(f[i]' Zaa).2)from L);exact⟨x,u,l,T,K,λb O y g=>by rw[ζd Zaa]at g;cases g;exact W b O⟩);have aa:∀n,n<=len->∃z:aX α,z.length=n/\(∀i x,z[i]?=some x->∃u:aX V',w.cells? base (a.add (i*P.cellsOf e)) (P.cellsOf e)=some u/\gj (snap w) (cells x) u)/\(∀x∈z,cw.ok x)/\∀b:DataW H->Nat,vc b->(z.map cw.wt).sum<=(((f.take n).map (·.1)).map b).sum:=(by intro n;induction n with|zero=>intro _;exact⟨[],rfl,Zab,Zab,Zab⟩|succ n ih=>intro hn;obtain⟨z,l,L,h5,h6⟩:=ih Zaa;obtain⟨x,u,h3,h4,h7,h8⟩:=T n Zaa;refine⟨z++[x],by simp[l],λi y g=>?_,λy g=>?_,λb O=>?_⟩;rotate_left;rcases mem_append.1 g with g|g;exact h5 y g;simp at g;subst g;exact h7;have k1:=h6 b O;have k2:=h8 b O _ (ζd Zaa);rw[List.take_succ,ζd (by omega:n<f.length)];simp only[List.map_append,List.sum_append,Option.toList_some,map_cons,map_nil,List.sum_cons,List.sum_nil];omega;by_cases q:i<z.length;rw[getElem?_append_left q]at g;exact L i y g;rw[getElem?_append_right Zaa]at g;have:i-z.length=0:=(by cases K:i-z.length with|zero=>rfl|succ k=>rw[K]at g;simp at g);rw[this]at g;simp at g;subst g;have:i=n:=Zaa;subst this;exact⟨u,h3,h4⟩);obtain⟨z,C,ah,ab,ai⟩:=aa len (le_refl _);refine⟨.row z,gj.one ?_,⟨ab,Zab⟩,λb O=>?_⟩;rotate_left;have k:=ai b O;rw[take_of_length_le Zaa]at k;have k2:=O.slice (f.map (·.1)) (rest.map (·.1));show(z.map cw.wt).sum+1<=_;omega;show fu _ (.fsl (bD.size α) (rows z)) _;cases s:z with|nil=>subst s;simp at C;subst C;exact .fsl0 _ _ _|cons x0 xr=>rw[<-s];have ao:0<len:=(by rw[<-C,s];simp);have Q:∀i x,z[i]?=some x->∀j y,(cells x)[j]?=some y->∃v,w.cell? ((a.add (i*bD.size α)).add j)=some v/\fu (snap w) y v:=(by intro i x q j y g;obtain⟨u,l,L⟩:=ah i x q;rw[ae]at l;unfold World.cells? at l;split at l;obtain⟨g1,g2⟩:=Fb l;have N:j<bD.size α:=(by rw[<-h_ x];exact(ζe.1 g).1);obtain⟨v,A⟩:∃v,u[j]?=some v:=⟨_,ζd (by rw[g1];simpa using N)⟩;exact⟨v,g2 j j v (by simp[N]) A,L.2 j y v g A⟩;simp at l);have an:∀i j,(a.add (i*bD.size α)).add j=a.add (i*bD.size α+j)\/True:=λ_ _=>.inr trivial;have B:∀i x,z[i]?=some x->∀j y,(cells x)[j]?=some y->∃c el fr v,w.heap[a.block]?=some (.cells c el fr)/\c[a.off+i*bD.size α+j]?=some v/\fu (snap w) y v/\(i=0->j=0->a.spot=none):=(by intro i x q j y g;obtain⟨v,l,L⟩:=Q i x q j y g;obtain⟨c,el,fr,g1,g2,g3⟩:=TP l (.inr trivial);have W:(a.add (i*bD.size α)).block=a.block:=(by unfold Addr.add;split<;>rfl);have ho:(a.add (i*bD.size α)).off=a.off+i*bD.size α:=(by unfold Addr.add;split<;>simp_all);rw[W]at g1;rw[ho]at g2;refine⟨c,el,fr,v,g1,g2,L,?_⟩;rintro rfl rfl;have:=g3 rfl;simpa[Addr.add]using this);have aj:∃y,(cells x0)[0]?=some y:=⟨_,ζd (by rw[h_];exact U)⟩;obtain⟨y0,ak⟩:=aj;obtain⟨c,el,fr,v0,D,_,_,G⟩:=B 0 x0 (by rw[s];rfl) 0 y0 ak;have G:=G rfl rfl;obtain⟨b,o,sp⟩:=a;simp only at G D;subst G;have hI:snap w b=some (.cells c):=(by unfold snap;rw[D]);have S:(rows z).length=len:=(by rw[iY,C]);rw[<-S];refine .fsl _ _ b o F c hI (by rw[S];exact X.2.1) (λr p=>?_) (λr p y g=>?_) ?_ (λi j r y v p g A=>?_);obtain⟨x,_,rfl⟩:=mem_map.1 p;exact h_ x;obtain⟨x,_,rfl⟩:=mem_map.1 p;exact all_eq_true.1 (tC x) y g;obtain⟨R,ad⟩:∃x,z[len-1]?=some x:=⟨_,ζd Zaa⟩;obtain⟨yl,al⟩:∃y,(cells R)[bD.size α-1]?=some y:=⟨_,ζd (by rw[h_];omega)⟩;obtain⟨c2,_,_,v2,k1,k2,_,_⟩:=B (len-1) R ad (bD.size α-1) yl al;simp only at k1 k2;rw[D]at k1;cases k1;have:=(Array.getElem?_eq_some_iff.1 k2).1;rw[S];have e:len*bD.size α=(len-1)*bD.size α+bD.size α:=(by obtain⟨m,rfl⟩:∃m,len=m+1:=⟨len-1,Zaa⟩;simp[Nat.add_mul]);omega;simp only[rows,getElem?_map,ζf]at p;obtain⟨x,am,rfl⟩:=p;obtain⟨c2,_,_,v2,k1,k2,k3,_⟩:=B i x am j y g;simp only at k1 k2;rw[D]at k1;cases k1;rw[A]at k2;cases k2;exact k3
 simp at h
theorem uy.slF{t e:W'}{α:Type}[bD α][cw α]{B:Nat}(c:P.underlying t=some (.slice e))(G:P.cellsOf e=bD.size α)(D:0<bD.size α)(i:∀g,g<B->uy P e α g):uy P t (Sl α) B:=by cases B with|zero=>intro H enc w base a b cs d ps h;simp[trod]at h|succ f=>exact uy.sl c G D (i f (Nat.lt_succ_self f))
theorem Reads.sl{t e:W'}{α:Type}[bD α][cw α][Reads P e α](a:P.underlying t=some (.slice e))(b:P.cellsOf t=1)(B:0<bD.size α):Reads P t (Sl α)where
 size:=b
 rd h:=uy.slF a (Reads.size (α:=α)) B (λ_ _{_ _ _ _ _ _ _ _ _}=>Reads.rd (P:=P) (t:=e) (α:=α)) h
 shape h:=by simp only[show bD.agg (Sl α)=false from rfl];exact tQ a Zab Zab h
theorem gj.seg{I:cD}{a xs:So}{cs:aX V'}{o n:Nat}(h:gj I a (cs.take o))(k:gj I xs ((cs.drop o).take n)):gj I (a++xs) (cs.take (o+n)):=by rw[List.take_add];exact h.append k
theorem gj.fin{I:cD}{xs:So}{cs:aX V'}{n:Nat}(h:gj I xs (cs.take n))(B:cs.length=n):gj I xs cs:=by rw[take_of_length_le Zaa]at h;exact h
theorem uy.st{t:W'}{fs:Array Field}{α:Type}[bD α][cw α]{B:Nat}(i:P.underlying t=some (.struct fs))(j:P.cellsOf t=bD.size α)
 (h:∀{H:Type}{enc:W'×V'->H}{w:World}{base:Nat}{c:Nat->X'}{e:X'}{cs:aX V'}{l:aX (DataW H×aX MemPlace)},cs.length=bD.size α->
  (fs.toList.mapM λf=>trod enc P w base c e B f.type ((cs.drop f.offset).take (P.cellsOf f.type)))=some l->∃a:α,gj (snap w) (cells a) cs/\cw.ok a/\∀b:DataW H->Nat,vc b->cw.wt a<=((l.map (·.1)).map b).sum+1):uy P t α (B+1):=by
 intro H enc w base c e cs d ps g;simp only[trod,i]at g;split at g<;>first|(simp at g;done)|skip
 all_goals (first|(rename_i u;cases u;done)|skip)
 rename_i C;have⟨l,k,D⟩:=ζf.1 g;cases D;have⟨a,k1,k2,k3⟩:=h (by rw[C,j]) k
 exact⟨a,k1,k2,λb z=>Nat.le_trans (k3 b z) (z.agg _)⟩
theorem Reads.of{t:W'}{fs:Array Field}{α:Type}[bD α][cw α](a:P.underlying t=some (.struct fs))(b:P.cellsOf t=bD.size α)(D:bD.agg α=true)(h:∀B,uy P t α B):Reads P t α where
 size:=b
 rd hr:=h _ hr
 shape hv:=by rw[if_pos D];unfold okWide at hv;rw[a]at hv;have⟨cs,c,_⟩:=hv;exact⟨cs,c⟩
theorem Reads.st{t:W'}{fs:Array Field}{α:Type}[bD α][cw α](g:P.underlying t=some (.struct fs))(i:P.cellsOf t=bD.size α)(D:bD.agg α=true)
 (h:∀{H:Type}{enc:W'×V'->H}{w:World}{base:Nat}{c:Nat->X'}{e:X'}{B:Nat}{cs:aX V'}{l:aX (DataW H×aX MemPlace)},cs.length=bD.size α->
  (fs.toList.mapM λf=>trod enc P w base c e B f.type ((cs.drop f.offset).take (P.cellsOf f.type)))=some l->∃a:α,gj (snap w) (cells a) cs/\cw.ok a/\∀b:DataW H->Nat,vc b->cw.wt a<=((l.map (·.1)).map b).sum+1):Reads P t α:=
 Reads.of g i D λB=>by cases B with|zero=>intro H enc w base c e cs d ps h;simp[trod]at h|succ f=>exact uy.st g i h
theorem Reads.arg{t:W'}{α:Type}[bD α][cw α][Reads P t α]{H:Type}{B:W'×V'->H}{w:World}{base:Nat}{c:Nat->X'}{e:X'}{r:_root_.Go.Reach}{b:Nat}{v:V'}{d:DataW H}{ps:aX MemPlace}
 (f:okWide P w r b t v)(h:Trod B P w base c e t v d ps):∃a:α,bK (snap w) (λ_=>none) (enc a) v/\cw.ok a/\∀b:DataW H->Nat,vc b->cw.wt a<=b d:=by
 have⟨I,h⟩:=h;have⟨a,⟨g,z⟩,D,G⟩:=Reads.rd (P:=P) (t:=t) (α:=α) h;have u:=Reads.shape (P:=P) (t:=t) (α:=α) f;refine⟨a,?_,D,G⟩
 cases C:bD.agg α with
 |true=>rw[C,if_pos rfl]at u;obtain⟨cs,rfl⟩:=u;rw[Dv C];refine .c _ _ (.agg _ _ (by simpa[Value.cells]using g) (λj x y J L=>z j x y J (by simpa[Value.cells]using L)))|false=>rw[C]at u;simp only[false_eq_true,if_false]at u;rw[u]at z;rw[w8 C]at z;exact .c _ _ (z 0 _ _ rfl rfl)
end
end Go.VE
namespace Go.VE
variable[bX]
open Go.ChangeShapes Go.WideShapes Go.ChangeAt Go.RowKit
structure LZ(w w':World):Prop where
 kept:w.keptBut w' (λ_=>False)
 fz:∀a:Addr,a.block<w.heap.size->w'.frozen? a=w.frozen? a
theorem JO{I I':cD}{μ':Mu}{H':bn}{w w':World}(s:Step I (λ_=>none) [] w I' μ' H' w'):LZ w w':=by
 have B:∀b,b<w.heap.size->w'.heap[b]?=w.heap[b]?:=λb z=>s.frame b z (by rintro⟨id,p,ob,h,_⟩;simp at h);refine⟨⟨s.os,s.out.out,λi d=>?_⟩,λa z=>?_⟩;rw[B i d];split;next c u=>rw[c]at u;cases u;exact⟨rfl,rfl,rfl,λ_ _=>rfl⟩
 next c u=>rw[c]at u;cases u;exact .inr ⟨rfl,rfl⟩
 rfl;unfold World.frozen?;rw[B _ z]
theorem KD{P:Program}{call:dO}(a:mS P call){f:Y'}{args:So}{b:X'}{H':bn}(h:call (.fn f) args []=some (.bool b,H')){w:World}{vs:aX V'}
 (D:wI (snap w))(d:cU (snap w) (λ_=>none) args vs):Calls P f vs.toArray w λe w'=>e=.returned (.bool b)/\LZ w w':=by
 intro cs;have k:=((a.fn f args [] _ H' h).2 (snap w) (λ_=>none) w vs (UP D) d)
 obtain⟨e,w',fr,⟨u,I',μ',rfl,g,_,C⟩,z,i,G⟩:=k.2 cs (by simp[Fence.room,fr])
 refine⟨_,w',fr,⟨?_,JO C⟩,z.comes,i,G⟩
 cases g with
 |c _ _ B=>cases B;rfl
variable{P:Program}{H:Type}{enc:W'×V'->H}
theorem JN{ts:aX W'}{vs:aX V'}{ds:aX (DataW H)}{ps:aX MemPlace}{w w':World}(e:LZ w w')(h:TrodAll enc P w 0 (λ_=>true) true ts vs ds ps):TrodAll enc P w' 0 (λ_=>true) true ts vs ds ps:=by
 have z:∀p:MemPlace,p.block<w.heap.size->w.sameAt w' p:=by intro p B;have k:=e.kept.2.2 p.block B;cases p with|cell b off=>simp only[sameAt,cell?];simp only[MemPlace.block]at k B;split at k;rename_i c t fr c' D C a u;rw[a,u];simp only;have:=k.2.2.2 off (λx=>x);simpa using this;(next a u=>rw[a,u]);rw[k]|map b=>simp only[sameAt];simp only[MemPlace.block]at k B;split at k;rename_i c t fr c' D C a u;obtain⟨rfl,rfl,L,G⟩:=k;rw[a,u];have:c'=c:=Array.ext_getElem? λi=>G i (λx=>x);rw[this];rename_i a u;rcases k with k|⟨rfl,rfl⟩;exact k.elim;rw[a,u];exact k
 induction ts generalizing vs ds ps with|nil=>cases vs<;>cases ds<;>simp_all [TrodAll]|cons t ts I=>cases vs with|nil=>simp[TrodAll]at h|cons v vs=>cases ds with|nil=>simp[TrodAll]at h|cons d ds=>obtain⟨p,q,⟨n,a⟩,u,rfl⟩:=h;exact⟨p,q,⟨n,DataW.trod_carry n _ _ _ a λx J=>z x (DataW.trod_lt n _ _ _ a x J)⟩,I u,rfl⟩
theorem Rz{T:W'->Prop}(K:Kids P T)(m:∀t e,T t->P.underlying t=some (.slice e)->0<P.cellsOf e){f:Func}{s:ChangeSpec}{apart c a d:X'}{W G:World}{args:Array V'}{ds i:aX (DataW H)}{before:aX MemPlace}{tb:W'}
 (n:∀t∈f.params.toList,T t)(B:s.vars=[])(D:s.fn H (ds++i)={results:=[.lit (.bool true)],args:=ds})(J:f.resultTypes=#[tb])(U:P.underlying tb=some .bool)
 (Y:DataW.Whole enc P f.params.toList s.vars apart W args.toList ds i before)(g:LZ W G):s.post enc P f apart c a d W args (.bool true) G:=by
 have z:=Y;obtain⟨p,q,X,j,rfl,L,O⟩:=Y;rw[B]at j;obtain⟨rfl,rfl⟩:=trodVars_none j;have k:∀(b:Nat)(w:Nat->X')(hd:X'),TrodAll enc P G b w hd f.resultTypes.toList ((Value.bool true).resultList f.resultTypes.size) (s.fn H (ds++[])).results []:=λ_ _ _=>by rw[J,D];exact trodAll_cons_mk (shut_bool U _) trodAll_mk0
 have S:∀w:Nat->X',(∀x∈p++[],w x.block=true)->TrodAll enc P G 0 w true f.params.toList args.toList (s.fn H (ds++[])).args p:=λw Q=>by rw[D];exact TrodAll.respare K m n (JN g X) (λx u=>Q x (List.mem_append_left _ u))
 have l:∀w:Nat->X',DataW.TrodVars enc P G w s.vars (s.fn H (ds++[])).vars []:=λw=>by rw[D,B];rfl
 have C:=λx u=>z.lt x u
 refine⟨ds,[],p++[],[],p,[],z,k _ _ _,S _ λx u=>by simpa using C x u,l _,World.keptBut_mono (λx u=>u.elim) g.kept,λ_=>⟨ok_one J rfl (okWide_bool_mk U _),?_⟩⟩
 refine⟨_,_,[]++p++[],⟨[]++p,[],trodAll_append (S _ λ_ _=>rfl) (k _ _ _),l _,rfl,λb off u=>?_,λh=>by simpa using O h⟩,λx u _=>by simpa using u⟩
 have I:MemPlace.cell b off∈p++[]:=by simpa using u
 rw[g.fz _ (C _ I)];exact L b off I
end Go.VE
namespace Go.VE
variable[bX]
instance:cw U8 where
 wt _:=1
 ok n:=0<=n.v/\n.v<=255
theorem Reads.u8{P:Program}{t:W'}(a:P.underlying t=some (.int .u8))(c:P.cellsOf t=1):Reads P t U8 where
 size:=c
 rd {H enc w base spare held z cs d ps} h:=by cases z with|zero=>simp[trod]at h|succ z=>(simp only[trod,a]at h;split at h<;>first|(simp at h;done)|skip);(next u=>cases u);rename_i k D n u;simp only[ζa,TypeDesc.int.injEq]at u;split at h;(next e=>obtain⟨rfl,B⟩:=e;subst u;cases h;exact⟨⟨n⟩,gj.one (.int _ n),show _/\_ by simpa[Lit.wf,IntKind.min,IntKind.max,signed,IntKind.bits]using B,λb C=>C.lit _⟩);simp at h;all_goals (rename_i u;cases u)
 shape h:=by simp only[show bD.agg U8=false from rfl];exact tQ a Zab Zab h
theorem O7{m:Tb bH}{n:Nat}{rs:SW}{b:X'}(h:dg m n rs=some [.bool b]):rs=[.v (.bool b)]:=by
 cases rs with
 |nil=>cases n<;>simp[dg]at h|cons x r=>
  have c:shut m n x=some (.bool b)/\dg m n r=some []:=by unfold dg at h;split at h;(next y s c w=>simp only[ζa,List.cons.injEq]at h;obtain⟨rfl,rfl⟩:=h;exact⟨c,w⟩);cases h
  have w:r=[]:=by cases r with|nil=>rfl|cons y r=>have:=c.2;unfold dg at this;split at this<;>simp at this
  subst w;have u:=c.1
  cases x with
  |v y=>unfold shut at u;simp only[ζa]at u;rw[u]|own d=>unfold shut at u;split at u<;>simp only[ζa,reduceCtorEq]at u;rename_i k es B _;cases k<;>simp[qG]at u|ptr d o=>cases n with|zero=>simp[shut]at u|succ n=>(unfold shut at u;split at u<;>try cases u);(split at u<;>try cases u);split at u<;>cases u
  |mp d=>unfold shut at u;split at u<;>cases u|clo f a b=>cases n with|zero=>simp[shut]at u|succ n=>unfold shut at u;split at u<;>cases u
  |tup l=>cases n with|zero=>simp[shut]at u|succ n=>unfold shut at u;have⟨_,_,z⟩:=ζf.1 u;cases z
  |_=>cases n<;>simp[shut]at u
theorem TW{S:Sys}{T:sQ}(B:s_ S T)(D:∀f a b xs,S.items f a b=some xs->eW S f a b xs){f:Y'}{xs:So}(c:V.cG xs=true)(h:gZ (dm S T) f xs=some [.bool true]):
 ∃n H',run S.E n (.fn f) xs []=some (.bool true,H'):=by
 unfold gZ at h;have⟨⟨rs,m⟩,d,u⟩:=ζg.1 h;have:=O7 u;simp only at this;subst this;exact Xf B D c d rfl
theorem Pq{S:Sys}{T:sQ}{P:Program}(B:s_ S T)(D:∀f a b xs,S.items f a b=some xs->eW S f a b xs)(c:∀n,mS P (run S.E n)){f:Y'}{xs:So}(d:V.cG xs=true)(h:gZ (dm S T) f xs=some [.bool true])
 {w:World}{args:Array V'}(G:wI (snap w))(g:cU (snap w) (λ_=>none) xs args.toList):Calls P f args w λe w'=>e=.returned (.bool true)/\LZ w w':=by
 have⟨n,H',i⟩:=TW B D d h;have:=KD (c n) i G g;simpa using this
theorem Reads.V7{P:Program}{t:W'}{α:Type}[bD α][cw α][Reads P t α]{H:Type}{B:W'×V'->H}{w:World}{base b:Nat}{c:Nat->X'}{e:X'}{v:V'}{d:DataW H}{ps:aX MemPlace}{params:Array W'}{args:Array V'}(D:∀(j:Nat)t v,params[j]?=some t->args[j]?=some v->okWide P w .any b t v)(j:Nat)(f:params[j]?=some t)(G:args[j]?=some v)(h:Trod B P w base c e t v d ps):∃a:α,bK (snap w) (λ_=>none) (enc a) v/\cw.ok a/\∀b:DataW H->Nat,vc b->cw.wt a<=b d:=Reads.arg (D j t v f G) h
end Go.VE
namespace Go.VE
theorem Uw{w:World}{g:Nat}{l:Rd}(h:∀i,i<l.length->w.cell? ⟨g,i,none⟩=some (.int .i64 (l.getD i 0)))(e:0<l.length):fu (snap w) (.fptr (l.map (V.int .i64))) (.pointer (some ⟨g,0,none⟩)):=by
 have a:=h 0 e;unfold cell? at a;split at a;rename_i c t fr u;have D:snap w g=some (.cells c):=by unfold snap;simp only at u;rw[u]
 have d:∀i,w.cell? ⟨g,i,none⟩=c[i]?:=λi=>by unfold cell?;simp only at u⊢;rw[u];rfl
 refine .fptr _ _ _ c D ?_ ?_;rw[zero_add,length_map];have:=h (l.length-1) Zaa;rw[d]at this;have:=(Array.getElem?_eq_some_iff.1 this).1;omega;intro j y v B b;rw[zero_add,<-d]at b;rw[getElem?_map]at B;obtain⟨z,C,rfl⟩:=ζf.1 B;have G:=(ζe.1 C).1;rw[h j G]at b;cases b;have:l.getD j 0=z:=by simp[List.getD,C]
 rw[this];exact .int _ _;cases a
variable[bX]
theorem bZ(n:Nat)(h:n<9223372036854775807):wrap .i64 ((n:Int)+1)=((n+1:Nat):Int):=by simp[wrap,IntKind.bits,signed];omega
theorem fJ(n:Int)(a:-9223372036854775808<=n)(B:n<=9223372036854775807):wrap .i64 n=n:=by simp[wrap,IntKind.bits,signed];omega
section
variable{α β:Type}{P:β->Prop}
theorem iO(s:Sl α)(i:Nat):idx s (i:Int)=s.l[i]?:=by unfold idx;rw[if_pos Zaa];rfl
theorem bA{s:Sl α}{i:Nat}(h:i<s.l.length):idx s (i:Int)=some s.l[i]:=by rw[iO,ζd h]
theorem Tt{s:Sl α}{i:Int}(a:0<=i):idx s i=s.l[i.toNat]?:=by unfold idx;rw[if_pos a]
theorem uX(s:Sl α)(i:Nat)(h:i<=s.l.length):∃x,gB s none (some (i:Int))=some x/\x.l=s.l.take i:=by unfold gB eD;simp only[Option.getD_none,getD_some];rw[if_pos Zaa];cases s<;>simp[Sl.l]at h⊢ <;>simp[h]
theorem br{γ:Type}{a b:γ}:bg true a b=a:=rfl
theorem bz{γ:Type}{a b:γ}:bg false a b=b:=rfl
theorem oS(a b:X'):bg a (some b) (some false)=some (a&&b):=by cases a<;>rfl
theorem mW(a b:X'):bg a (some true) (some b)=some (a||b):=by cases a<;>rfl
theorem wu(a:X')(x y:β):bg a (some x) (some y)=some (if a then x else y):=by cases a<;>rfl
end
def place{α:Type}(f:α->X')(l:aX α):Int:=match l.findIdx? f with
 |some i=>i|none=>-1
theorem CO{α:Type}{f:α->X'}{l:aX α}{i:Nat}(h:∀j,j<i->∀x,l[j]?=some x->f x=false)(a:l.length<=i):l.findIdx? f=none:=by rw[List.findIdx?_eq_none_iff];intro x w;have⟨j,u⟩:=getElem?_of_mem w;have:j<l.length:=(ζe.1 u).1;exact h j Zaa x u
theorem Nz{α:Type}{f:α->X'}{l:aX α}{i:Nat}{x:α}(h:∀j,j<i->∀x,l[j]?=some x->f x=false)(B:l[i]?=some x)(D:f x=true):l.findIdx? f=some i:=by rw[List.findIdx?_eq_some_iff_getElem];obtain⟨a,rfl⟩:=ζe.1 B;exact⟨a,D,λj u=>by rw[h j u _ (ζd Zaa)];simp⟩
theorem uI{α:Type}{step:Int->aY (Fw Int Unit Int)}{s:Sl α}{p:α->aY X'}{f:α->X'}(hp:∀x∈s.l,p x=some (f x))(U:s.l.length<9223372036854775807)
 (J:∀i,step i=bg (decide (i<len s)) ((idx s i).bind λB=>(p B).bind λD=>bg D (some (.r i)) (some (.n (wrap .i64 (i+1))))) (some (.x ()))):
 (bG step 0).bind (Fw.elim (λ_=>some (-1)) (λe=>some e))=some (place f s.l):=by
 refine Wp.eq (fH (λi:Int=>∃n:Nat,i=n/\n<=s.l.length/\∀j,j<n->∀x,s.l[j]?=some x->f x=false) (λi:Int=>s.l.length-i.toNat) ⟨0,rfl,zero_le _,λj I=>absurd I Zaa⟩ ?_)
 rintro i ⟨n,rfl,L,w⟩;rw[J,b_];refine⟨λh=>?_,λh=>?_⟩
 .have u:n<s.l.length:=by simpa[len]using h
  rw[bA u,ζb,hp _ (getElem_mem u),ζb,b_];refine⟨λz=>?_,λz=>?_⟩
  .rw[a_];show Wp (some (n:Int)) _;rw[a_];unfold place;rw[Nz w (ζd u) z]
  rw[a_];refine⟨⟨n+1,bZ n Zaa,Zaa,λj I x C=>?_⟩,?_⟩
  .by_cases e:j=n
   .subst e;rw[ζd u]at C;cases C;exact z
   exact w j Zaa x C
  rw[bZ n Zaa];simp;omega
 have G:s.l.length<=n:=by simpa[len]using h
 rw[a_];show Wp (some (-1:Int)) _;rw[a_];unfold place;rw[CO w G]
theorem uO{α:Type}(f:α->X')(l:aX α):decide (place f l>=0)=l.any f:=by unfold place;cases h:l.findIdx? f with|none=>rw[List.findIdx?_eq_none_iff]at h;have:l.any f=false:=(by rw[List.any_eq_false];intro x u;simp[h x u]);rw[this];rfl|some i=>have⟨a,w,_⟩:=List.findIdx?_eq_some_iff_getElem.1 h;have:l.any f=true:=List.any_eq_true.2 ⟨_,getElem_mem a,w⟩;rw[this];simp
theorem Vv{α σ ε ρ:Type}{step:α->σ->aY (Fw σ ε ρ)}{l:aX α}(I:Nat->σ->Prop)(D:ε->Prop)(G:ρ->Prop){s:σ}(c:I 0 s)
 (h:∀i a s,l[i]?=some a->I i s->Wp (step a s) λw=>match w with|.n B=>I (i+1) B|.x e=>D e|.r b=>G b):
 Wp (mm step l s) λw=>match w with|.n B=>I l.length B|.x e=>D e|.r b=>G b:=by
 have key:∀(r:aX α)(i:Nat)(s:σ),l.drop i=r->i<=l.length->I i s->Wp (mm step r s) λw=>match w with|.n B=>I l.length B|.x e=>D e|.r b=>G b:=by intro r;induction r with|nil=>intro i s hd d z;have:i=l.length:=(by have:=List.drop_eq_nil_iff.1 hd;omega);subst this;exact⟨_,rfl,z⟩|cons a r J=>intro i s hd d z;have u:i<l.length:=(by apply Classical.byContradiction;intro Q;rw[List.drop_eq_nil_of_le Zaa]at hd;cases hd);have L:=List.drop_eq_getElem_cons u;rw[L]at hd;simp only[List.cons.injEq]at hd;have⟨w,O,C⟩:=h i a s (by rw[ζd u,hd.1]) z;simp only[mm,O,ζb];cases w with|n B=>exact J (i+1) B hd.2 Zaa C|x e=>exact⟨_,rfl,C⟩|r b=>exact⟨_,rfl,C⟩
 exact key l 0 s rfl (zero_le _) c
theorem Au{α σ ε ρ γ:Type}{step:α->σ->aY (Fw σ ε ρ)}{l:aX α}{fn:σ->aY γ}{B:ε->aY γ}{fr:ρ->aY γ}{P:γ->Prop}(I:Nat->σ->Prop){s:σ}(c:I 0 s)
 (h:∀i a s,l[i]?=some a->I i s->Wp (step a s) λw=>match w with|.n D=>I (i+1) D|.x e=>Wp (B e) P|.r b=>Wp (fr b) P)
 (G:∀s,I l.length s->Wp (fn s) P):Wp ((mm step l s).bind (Fw.tj fn B fr)) P:=by
 rw[en];refine(Vv I _ _ c h).mono ?_;intro w u
 cases w with
 |n s=>exact G s u|x e=>exact u|r b=>exact u
end Go.VE
