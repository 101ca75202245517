/-
 Certificates; functions by hand; readings; plain laws.
-/
import Derived.JoinedCond
import Derived.ReadAgain
import Derived.WalkKit
import Derived.ProofKit
import Derived.OpenShut
import Derived.ChangeSame
import Derived.RowKit3
import Derived.Lib.LaidTab
import Derived.Test.YtgnmmpchdcccbaaGreatDoorV2
import Derived.Test.YtgnmmpchdcccbaaGreatDoorN2
import Derived.Test.YtgnmmpchdcccbaaGreatDoorS1
set_option linter.all false
noncomputable section
open Nat(beq ble le_refl zero_add zero_le)
open Option(getD_some map_some pure_def)
open List(all_cons all_eq_true append_assoc append_nil drop_zero getElem?_append_left getElem?_append_right getElem?_drop getElem?_map getElem?_of_mem getElem?_set_ne getElem?_set_self getElem?_take getElem_mem length_cons length_map length_range length_singleton map_cons map_nil mem_append mem_map mem_of_getElem? mem_range nil_append range range' replicate set_set take_of_length_le)
open Classical(choose_spec)
open Bool(false_eq_true)
open Go.IntKind(signed wrap)
open Go.DataW(Trod TrodAll trod)
open Go.Value(okWide)
open Go.World(cell? sameAt)
namespace Go.VE
variable[bX]
abbrev Cf:=Fo×aX Fm×St
section
variable(S:Sys)(c:cm){β:Type}(Q:Out×St->aY β)
abbrev bZ(cf:Cf):aY β:=rn S c Q cf.1 cf.2.1 cf.2.2
def jZ(n:Nat)(cf:Cf):Cf:=(jd S c n cf.1 cf.2.1 cf.2.2).getD cf
structure HP where
 dr:Bool
 fr:List Nat
 d:Option Nat
 gd:Option (Nat×Bool)
 now:Bool
 k:K
 az:List Arg
 dd:List Nat
 l:List RO
 fs:List Fm
 st:St
def gx(n:Nat)(cf:Cf):aY HP:=match jd S c n cf.1 cf.2.1 cf.2.2 with
 |some (.ops dr fr (⟨d,gd,now,k,az,dd,[]⟩::l),fs,st)=>match wanted st.g gd with
  |some true=>some ⟨dr,fr,d,gd,now,k,az,dd,l,fs,st⟩|_=>none
 |_=>none
def nx(n:Nat)(cf:Cf)(φ:HP->St):Cf:=match gx S c n cf with
 |some p=>(.ops p.dr (if p.dr then(match p.k with|.p _|.r _=>p.fr|_=>match p.d with|some d=>d::p.fr|none=>p.fr)else p.fr) p.l,p.fs,rG p.dd (φ p))|none=>cf
end
def xM(s:Nat)(b:X')(cf:Cf):Cf:=(cf.1,cf.2.1,{cf.2.2 with g:=bM cf.2.2.g s (.v (.bool b))})
def jmp(k:Nat)(fr:ST)(cf:Cf)(st:St):Cf:=match cf with
 |(.ops dr _ l,fs,_)=>(.ops dr fr (l.drop k),fs,st)|_=>(.rt,[],st)
def rF:RC->ST->QQ->St->Cf
 |c,[],fs,st=>(.rc c,fs,st)|.seq a b,i::p,fs,st=>if i=0 then rF a p (.seq b::fs) st else rF b p fs st|.cond _ a b,i::p,fs,st=>if i=0 then rF a p fs st else rF b p fs st|.block id c,_::p,fs,st=>rF c p (.blk id::fs) st|.gh _ c,_::p,fs,st=>rF c p fs st|.hg c g,_::p,fs,st=>rF c p (.gst g::fs) st|.loop c,_::p,_,st=>rF c p [] st|.each _ _ _ b,_::p,_,st=>rF b p [] st|c,_,fs,st=>(.rc c,fs,st)
section
variable{S:Sys}{c:cm}{β γ δ α:Type}{Q:Out×St->aY β}{e:γ->aY β}{cf:Cf}
theorem kS{n:Nat}{p:HP}(h:gx S c n cf=some p):jd S c n cf.1 cf.2.1 cf.2.2=some (.ops p.dr p.fr (⟨p.d,p.gd,p.now,p.k,p.az,p.dd,[]⟩::p.l),p.fs,p.st)/\wanted p.st.g p.gd=some true:=by unfold gx at h;grind
theorem sG{n:Nat}{m:aY δ}{φ:δ->HP->St}{f:δ->aY γ}{p:HP}(hp:gx S c n cf=some p)(B:Le (m.bind λx=>some (φ x p)) (gp S c p.dr p.fr ⟨p.d,none,p.now,p.k,p.az,[],[]⟩ p.st))
 (h:∀x,m=some x->Le ((f x).bind e) (bZ S c Q (nx S c n cf (φ x)))):Le ((m.bind f).bind e) (bZ S c Q cf):=by
 have⟨a,u⟩:=kS hp;refine Ea a rfl u B λx w=>?_
 have:=h x w;simp[nx,hp]at this;omega
theorem xE{n:Nat}{m:aY β}{φ:HP->St}{p:HP}(hp:gx S c n cf=some p)(B:gp S c p.dr p.fr ⟨p.d,none,p.now,p.k,p.az,[],[]⟩ p.st=some (φ p))
 (h:Le m (bZ S c Q (nx S c n cf φ))):Le m (bZ S c Q cf):=by
 have⟨a,u⟩:=kS hp;refine tN a rfl u B ?_;simp[nx,hp]at h;omega
theorem eZ{α β:Type}{o:aY α}{f:α->β}{b:β}(h:o.map f=some b):∃a,o=some a/\f a=b:=ζf.1 h
theorem nR(n:Nat){m:aY β}{B:Cf}(h:Le m (bZ S c Q B))(D:jd S c n cf.1 cf.2.1 cf.2.2=some B:=by kernel_rfl):Le m (bZ S c Q cf):=CA D h
theorem bp(n s:Nat){t:X'}{x y:aY γ}(B:Le (x.bind e) (bZ S c Q (xM s true (jZ S c n cf))))(D:Le (y.bind e) (bZ S c Q (xM s false (jZ S c n cf))))
 (G:(jd S c n cf.1 cf.2.1 cf.2.2).map (λp=>bl p.2.2.g s)=some (some (.v (.bool t))):=by kernel_rfl):Le ((bg t x y).bind e) (bZ S c Q cf):=by
 have⟨p,u,a⟩:=eZ G;have b:jZ S c n cf=p:=by unfold jZ;grind
 rw[b]at B D;refine CA u ?_;cases t
 .have:xM s false p=p:=by unfold xM;rw[sD a]
  rw[this]at D;exact D
 have:xM s true p=p:=by unfold xM;rw[sD a]
 rw[this]at B;exact B
theorem cz(n s:Nat){t:X'}{x y:aY γ}(B:Le (x.bind e) (bZ S c Q (xM s false (jZ S c n cf))))(D:Le (y.bind e) (bZ S c Q (xM s true (jZ S c n cf))))
 (G:(jd S c n cf.1 cf.2.1 cf.2.2).map (λp=>bl p.2.2.g s)=some (some (.v (.bool (!t)))):=by kernel_rfl):Le ((bg t x y).bind e) (bZ S c Q cf):=by
 have⟨p,u,a⟩:=eZ G;have b:jZ S c n cf=p:=by unfold jZ;grind
 rw[b]at B D;refine CA u ?_;cases t
 .have:xM s true p=p:=by unfold xM;rw[show V.bool true=V.bool (!false)from rfl,sD a]
  rw[this]at D;exact D
 have:xM s false p=p:=by unfold xM;rw[show V.bool false=V.bool (!true)from rfl,sD a]
 rw[this]at B;exact B
theorem wu(n k:Nat)(fr:ST)(st:δ->St){m:aY δ}{f:δ->aY γ}(B:Le (m.bind λr=>bZ S c Q (jmp k fr (jZ S c n cf) (st r))) (bZ S c Q cf))(a:∀r,Le ((f r).bind e) (bZ S c Q (jmp k fr (jZ S c n cf) (st r)))):Le ((m.bind f).bind e) (bZ S c Q cf):=Wj _ B a
theorem bq(n:Nat){r:δ}{k:δ->Cf}(B:jd S c n cf.1 cf.2.1 cf.2.2=some (k r):=by kernel_rfl):Le ((some r).bind λr=>bZ S c Q (k r)) (bZ S c Q cf):=ac3 B rfl
theorem aZ{r:γ}{L:aY β}(h:L=e r:=by kernel_rfl):Le ((some r).bind e) L:=Le.of_eq h
theorem Aj(n:Nat){b:RC}{m:aY (Out×Tb bJ)}(h:Le m (bZ S c yM (.rc b,[],(jZ S c n cf).2.2)))(B:jd S c n cf.1 cf.2.1 cf.2.2=some (.nx,[],(jZ S c n cf).2.2):=by kernel_rfl):Le m (bZ S c (A2 S c b) cf):=aau B h
theorem Pt(n:Nat){o:aY α}(A:aY α->St){f:α->aY γ}(B:∀x,o=some x->Le ((f x).bind e) (bZ S c Q ((jZ S c n cf).1,(jZ S c n cf).2.1,A (some x))))
 (D:jd S c n cf.1 cf.2.1 cf.2.2=some ((jZ S c n cf).1,(jZ S c n cf).2.1,A o):=by kernel_rfl):Le ((o.bind f).bind e) (bZ S c Q cf):=ab1 D B
theorem eR.aaO{S:Sys}{T:sH}[bD δ]{f:Y'}{A:α->So}{p:α->aY δ}(B:T f=none)(a:S.E.keep f=false)(D:∀z r,p z=some r->S.zo f (A z)=some (enc r))
 :eR S (di S T) f A (λr=>[enc r]) p false where
 k:=a
 h z:=by intro y u;have⟨r,b,w⟩:=ζg.1 u;cases w;have h:=IA B a (D z r b);unfold gV;rw[h];exact w6 8 [enc r]
 s h:=by cases h
def Ox:K->aY BinOp
 |.p (.bin _ _ o)=>some o|_=>none
theorem XK{k:K}{o:BinOp}(h:Ox k=some o):∃t u,k=.p (.bin t u o):=by cases k with|p p=>cases p<;>simp[Ox]at h;simp_all|_=>simp[Ox]at h
def PZ:K->aY BinOp
 |.p (.bin (some .slice) _ o)=>some o|_=>none
theorem Nc{k:K}{o:BinOp}(h:PZ k=some o):∃u,k=.p (.bin (some .slice) u o):=by unfold PZ at h;grind
def kbs:K->aY (Nat×Nat×ST)
 |.a (.buildSl sz ln _ ix)=>some (sz,ln,ix)|_=>none
theorem aaS{k:K}{r:Nat×Nat×ST}(h:kbs k=some r):∃z,k=.a (.buildSl r.1 r.2.1 z r.2.2):=by unfold kbs at h;grind
def kal:K->aY So
 |.a (.alloc _ zero)=>some zero|_=>none
theorem aat{k:K}{z:So}(h:kal k=some z):∃n,k=.a (.alloc n z):=by unfold kal at h;grind
section
variable[bD α]
theorem abh(k:T2)(n:Nat){s:Sl α}{i:Int}{f:α->aY γ}(h:∀x,idx s i=some x->Le ((f x).bind e) (bZ S c Q (nx S c n cf λp=>cW p.st p.d (cp x))))
 (B:(gx S c n cf).map (λp=>(p.k,bW S.N p.st.g p.az))=some (.p (.idxS (bD.size α)),some [.v (cg s),.v (.int k i)]):=by kernel_rfl):Le (((idx s i).bind f).bind e) (bZ S c Q cf):=by
 have⟨p,u,a⟩:=eZ B;simp at a;refine sG u ?_ h;rw[a.1];exact Le.of_eq (WN a.2 rfl)
theorem bC(n:Nat){s:Sl α}{i:Int}{f:α->aY γ}(h:∀x,idx s i=some x->Le ((f x).bind e) (bZ S c Q (nx S c n cf λp=>cW p.st p.d (cp x))))
 (B:(gx S c n cf).map (λp=>(p.k,bW S.N p.st.g p.az))=some (.p (.idxS (bD.size α)),some [.v (cg s),.v (.int .i64 i)]):=by kernel_rfl):Le (((idx s i).bind f).bind e) (bZ S c Q cf):=abh .i64 n h B
theorem mo(k:T2)(n u:Nat){s:Sl α}{i:Int}{f:Nat->aY γ}(h:∀x,s.lW i=some x->Le ((f x).bind e) (bZ S c Q (nx S c n cf λp=>cW p.st p.d (.el u x 0))))
 (B:(gx S c n cf).map (λp=>(p.k,bW S.N p.st.g p.az,bl p.st.m u))=some (.p (.idxS (bD.size α)),some [.own u,.v (.int k i)],some (cK s)):=by kernel_rfl):Le (((s.lW i).bind f).bind e) (bZ S c Q cf):=by
 have⟨p,w,a⟩:=eZ B;simp at a;refine sG w ?_ h;rw[a.1];exact Le.of_eq (abL a.2.1 a.2.2 rfl)
theorem tw(n u o sz:Nat)(a:X')(v:α->V){s:Sl α}{i:Nat}{f:α->aY γ}(h:∀x,s.get i=some x->Le ((f x).bind e) (bZ S c Q (nx S c n cf λp=>cW p.st p.d (.v (v x)))))
 (B:(gx S c n cf).map (λp=>(p.k,bW S.N p.st.g p.az,bl p.st.m u,(!p.dr||p.now||fM p.fr [.el u i o])))=some (.r (.load sz a),some [.el u i o],some (cK s),true):=by kernel_rfl)(b:∀x:α,(cut (cells x) o sz).bind (mk a)=some (v x):=by intro _;rfl):Le (((s.get i).bind f).bind e) (bZ S c Q cf):=by
 have⟨p,z,w⟩:=eZ B;simp only[ζc]at w;refine sG z ?_ h;rw[w.1];exact Le.of_eq (aa5 w.2.1 w.2.2.2 w.2.2.1 b)
theorem EH(n u:Nat)(x:V){s:Sl α}{i:Nat}{a:α}{f:Sl α->aY γ}(h:∀B,s.put i a=some B->Le ((f B).bind e) (bZ S c Q (nx S c n cf λp=>cW {p.st with m:=bM p.st.m u (cK B)} p.d (.v .undef))))
 (D:(gx S c n cf).map (λp=>(p.k,bW S.N p.st.g p.az,bl p.st.m u,(!p.dr||p.now),x.cells))=some (.l (.store (bD.size α)),some [.el u i 0,.v x],some (cK s),true,cells a):=by kernel_rfl):Le (((s.put i a).bind f).bind e) (bZ S c Q cf):=by
 have⟨p,w,b⟩:=eZ D;simp only[ζc]at b;refine sG w ?_ h;rw[b.1];exact Le.of_eq (Ns b.2.1 b.2.2.2.1 b.2.2.1 b.2.2.2.2 rfl)
theorem V6(n u:Nat){i:Int}{z:α}{f:Sl α->aY γ}(h:∀B,uT i z=some B->Le ((f B).bind e) (bZ S c Q (nx S c n cf λp=>{p.st with g:=bM p.st.g u (.own u),m:=bM p.st.m u (cK B)})))
 (D:(gx S c n cf).map (λp=>(p.d,p.k,bW S.N p.st.g p.az,p.st.new u))=some (some u,.a (.makeSl (bD.size α) (cells z)),some [.v (.int .i64 i),.v (.int .i64 i)],true):=by kernel_rfl):Le (((uT i z).bind f).bind e) (bZ S c Q cf):=by
 have⟨p,w,a⟩:=eZ D;simp at a;refine sG w ?_ h;rw[a.1,a.2.1];exact Le.of_eq (ZP a.2.2.1 rfl rfl a.2.2.2)
theorem ac5(n u:Nat){i:Int}{z:α}{zero:So}{f:Sl α->aY γ}(h:∀B,wY i z=some B->Le ((f B).bind e) (bZ S c Q (nx S c n cf λp=>{p.st with g:=bM p.st.g u (.own u),m:=bM p.st.m u (cK B)})))
 (D:(gx S c n cf).map (λp=>(p.d,p.k,bW S.N p.st.g p.az,p.st.new u))=some (some u,.a (.makeSl (bD.size α) (cells z)),some [.v (.int .i64 0),.v (.int .i64 i)],true):=by kernel_rfl):Le (((wY i z).bind f).bind e) (bZ S c Q cf):=by
 have⟨p,w,a⟩:=eZ D;simp at a;have⟨b,I⟩:=kS w;have⟨dr,fr,d,gd,now,k,az,dd,l,fs,st⟩:=p;obtain⟨rfl,rfl,J,C⟩:=a;exact ac7 n dr fr (⟨some u,gd,now,.a (.makeSl (bD.size α) (cells z)),az,dd,[]⟩::l) fs st rfl C Zac λB G=>by have:=h B G;simp[nx,w]at this;simp_all
theorem nL(n o w u:Nat){s:Sl α}{x:α}{f:Sl α->aY γ}(h:∀B,fu s x=some B->Le ((f B).bind e) (bZ S c Q (nx S c n cf λp=>{p.st with g:=bM p.st.g u (.own u),m:=bM (eF o p.st.m) u (cK B)})))
 (D:(gx S c n cf).map (λp=>(p.d,p.k,bW S.N p.st.g p.az,(!p.dr||p.now),bl p.st.m o,bl p.st.m w,St.new {p.st with m:=eF o p.st.m} u))=some (some u,.l (.append (bD.size α)),some [.own o,.own w],true,some (cK s),some (cK (.row [x])),true):=by kernel_rfl):Le (((fu s x).bind f).bind e) (bZ S c Q cf):=by
 have⟨p,z,a⟩:=eZ D;simp only[ζc]at a;refine sG z ?_ h;rw[a.1,a.2.1];exact Le.of_eq (abx a.2.2.1 a.2.2.2.1 a.2.2.2.2.1 a.2.2.2.2.2.1 rfl a.2.2.2.2.2.2)
theorem VV(n w u:Nat)(v:V)(x:α){m:aY β}(h:Le m (bZ S c Q (nx S c n cf λp=>{p.st with g:=bM p.st.g u (.own u),m:=bM p.st.m u (cK (.row [x]))})))(a:v=.bO\/v=.dQ:=by first|exact .inl rfl|exact .inr rfl)
 (B:(gx S c n cf).map (λp=>(p.d,p.k,bW S.N p.st.g p.az,(!p.dr||p.now),bl p.st.m w,p.st.new u))=some (some u,.l (.append (bD.size α)),some [.v v,.own w],true,some (cK (.row [x])),true):=by kernel_rfl):Le m (bZ S c Q cf):=by
 have⟨p,C,z⟩:=eZ B;simp only[ζc]at z;refine xE C ?_ h;rw[z.1,z.2.1];exact aas a z.2.2.1 z.2.2.2.1 z.2.2.2.2.1 rfl z.2.2.2.2.2
theorem bQ(n:Nat)(s:Sl α){m:aY β}(h:Le m (bZ S c Q (nx S c n cf λp=>cW p.st p.d (.v (.int .i64 s.l.length)))))
 (B:(gx S c n cf).map (λp=>(p.k,bW S.N p.st.g p.az))=some (.p .lenSl,some [.v (cg s)]):=by kernel_rfl):Le m (bZ S c Q cf):=by
 have⟨p,u,a⟩:=eZ B;simp at a;refine xE u ?_ h;rw[a.1];exact Wy a.2
theorem FB(n u:Nat)(s:Sl α){m:aY β}(h:Le m (bZ S c Q (nx S c n cf λp=>cW p.st p.d (.v (.int .i64 s.l.length)))))
 (B:(gx S c n cf).map (λp=>(p.k,bW S.N p.st.g p.az,bl p.st.m u))=some (.p .lenSl,some [.own u],some (cK s)):=by kernel_rfl):Le m (bZ S c Q cf):=by
 have⟨p,w,a⟩:=eZ B;simp at a;refine xE w ?_ h;rw[a.1];exact aaU a.2.1 a.2.2
theorem KY(n:Nat){s:Sl α}{f:X'->aY γ}(h:∀t,s.isNil=some t->Le ((f t).bind e) (bZ S c Q (nx S c n cf λp=>cW p.st p.d (.v (.bool t)))))
 (B:(gx S c n cf).map (λp=>(PZ p.k,bW S.N p.st.g p.az))=some (some .eql,some [.v (cg s),.v .bO]):=by kernel_rfl):Le ((s.isNil.bind f).bind e) (bZ S c Q cf):=by
 have⟨p,w,a⟩:=eZ B;simp at a;have⟨u,b⟩:=Nc a.1;refine sG w ?_ h;rw[b];exact Le.of_eq (WX a.2)
theorem abP(n:Nat){s:Sl α}{f:X'->aY γ}(h:∀t,s.isNil=some t->Le ((f t).bind e) (bZ S c Q (nx S c n cf λp=>cW p.st p.d (.v (.bool !t)))))
 (B:(gx S c n cf).map (λp=>(PZ p.k,bW S.N p.st.g p.az))=some (some .neq,some [.v (cg s),.v .bO]):=by kernel_rfl):Le ((s.isNil.bind f).bind e) (bZ S c Q cf):=by
 have⟨p,w,a⟩:=eZ B;simp at a;have⟨u,b⟩:=Nc a.1;refine sG w ?_ h;rw[b];exact Le.of_eq (Tu a.2)
theorem Cu(n:Nat)(g i:X')(B:So){s:Sl α}{a b:Ps}{f:Sl α->aY γ}(h:∀x,gN s a b=some x->Le ((f x).bind e) (bZ S c Q (nx S c n cf λp=>cW p.st p.d (.v (cg x)))))
 (D:(gx S c n cf).map (λp=>(p.k,bW S.N p.st.g p.az,ot g i B))=some (.p (.slice (bD.size α) g i),some (.v (cg s)::B.map .v),some (a,b)):=by kernel_rfl):Le (((gN s a b).bind f).bind e) (bZ S c Q cf):=by
 have⟨p,u,j⟩:=eZ D;simp at j;have⟨m,C⟩:=kS u;have⟨dr,fr,d,gd,now,k,az,dd,l,fs,st⟩:=p;obtain⟨rfl,G,I⟩:=j;exact ac6 n dr fr (⟨d,gd,now,.p (.slice (bD.size α) g i),az,dd,[]⟩::l) fs st g i B rfl Zac λw z=>by have:=h w z;simp only[nx,u]at this;omega
theorem abW(n:Nat)(i j:X')(u t:Nat)(B:So){s:Sl α}{a b:Ps}{f:Sl α->aY γ}(h:∀x,qQ s a b=some x->Le ((f x).bind e) (bZ S c Q (nx S c n cf λp=>{p.st with g:=bM p.st.g t (.own t),m:=bM (eF u p.st.m) t (cK x)})))
 (D:(gx S c n cf).map (λp=>(p.d,p.k,p.dr,bW S.N p.st.g p.az,ot i j B,bl p.st.m u,St.new {p.st with m:=eF u p.st.m} t))=some (some t,.p (.slice (bD.size α) i j),false,some (.own u::B.map .v),some (a,b),some (cK s),true):=by kernel_rfl):Le (((qQ s a b).bind f).bind e) (bZ S c Q cf):=by
 have⟨p,w,o⟩:=eZ D;simp at o;have⟨q,I⟩:=kS w;have⟨dr,fr,d,gd,now,k,az,dd,l,fs,st⟩:=p;obtain⟨rfl,rfl,rfl,J,L,O,z⟩:=o;exact abK n fr (⟨some t,gd,now,.p (.slice (bD.size α) i j),az,dd,[]⟩::l) fs st i j u B rfl z Zac λC G=>by have:=h C G;simp only[nx,w]at this;omega
theorem bT(n u:Nat)(x:α){m:aY β}(h:Le m (bZ S c Q (nx S c n cf λp=>{p.st with g:=bM p.st.g u (.ptr u 0),m:=bM p.st.m u (bx x)})))
 (B:(gx S c n cf).map (λp=>(p.d,p.k,bW S.N p.st.g p.az,p.st.new u))=some (some u,.a .box,some [cv x],true):=by kernel_rfl):Le m (bZ S c Q cf):=by
 have⟨p,w,a⟩:=eZ B;simp at a;refine xE w ?_ h;rw[a.1,a.2.1,AN,a.2.2.1];simp only[ζb,a.2.2.2,if_true,qv,mI,s9]
def stB(u o sz:Nat)(xs:SW)(p:HP):St:=match bl p.st.m u with
 |some (.box cs)=>cW {p.st with m:=bM p.st.m u (.box (cs.take o++xs++cs.drop (o+sz)))} p.d (.v .undef)|_=>p.st
theorem o4(n u o:Nat)(x:α){m:aY β}(h:Le m (bZ S c Q (nx S c n cf (stB u o (bD.size α) ((cells x).map .v)))))
 (B:(gx S c n cf).map (λp=>(p.k,bW S.N p.st.g p.az,(!p.dr||p.now),match bl p.st.m u with|some (.box cs)=>ble (o+bD.size α) cs.length|_=>false))=some (.l (.store (bD.size α)),some [.ptr u o,cv x],true,true):=by kernel_rfl):Le m (bZ S c Q cf):=by
 have⟨p,C,a⟩:=eZ B;simp only[ζc]at a;refine xE C ?_ h;have⟨b,D,G,z⟩:=a;split at z
 next cs w=>have I:=Nat.le_of_ble_eq_true z;rw[b,zp,D];simp only[ζb,G,if_true,oT,w,putCells,mI,g_,s9,I,and_self,map_some,stB]
 simp_all
theorem zk(n u:Nat)(xs:aX α){m:aY β}(h:Le m (bZ S c Q (nx S c n cf λp=>{p.st with g:=bM p.st.g u (.own u),m:=bM p.st.m u (cK (.row xs))})))
 (B:(gx S c n cf).map (λp=>(p.d,kbs p.k,bW S.N p.st.g p.az,p.st.new u))=some (some u,some (bD.size α,xs.length,range' 0 xs.length),some ((xs.map enc).map .v),true):=by kernel_rfl):Le m (bZ S c Q cf):=by
 have⟨p,w,a⟩:=eZ B;simp at a;have⟨b,G⟩:=kS w;have⟨dr,fr,d,gd,now,k,az,dd,l,fs,st⟩:=p;obtain⟨rfl,C,I,D⟩:=a;obtain⟨z,rfl⟩:=aaS C;exact Abs n dr fr (⟨some u,gd,now,.a (.buildSl (bD.size α) xs.length z (range' 0 xs.length)),az,dd,[]⟩::l) fs st xs rfl D Zac (by
  simp[nx,w]at h;omega)
theorem ac2(n:Nat)(x:α)(vs z:So)(pl:aX (Nat×Nat)){m:aY β}(B:mA z pl vs=some (cells x))(D:bD.agg α=true)(h:Le m (bZ S c Q (nx S c n cf λp=>cW p.st p.d (cv x))))
 (G:(gx S c n cf).map (λp=>(p.k,bW S.N p.st.g p.az))=some (.p (.build z pl),some (vs.map .v)):=by kernel_rfl):Le m (bZ S c Q cf):=by
 have⟨p,u,a⟩:=eZ G;simp at a;have⟨b,w⟩:=kS u;have⟨dr,fr,d,gd,now,k,az,dd,l,fs,st⟩:=p;obtain⟨rfl,C⟩:=a;exact ac_ n dr fr (⟨d,gd,now,.p (.build z pl),az,dd,[]⟩::l) fs st x vs rfl B D Zac (by
  simp only[nx,u]at h;omega)
end
theorem aae(n:Nat){k:T2}{a b:Int}{f:Int->aY γ}(h:∀x,A9 k a b=some x->Le ((f x).bind e) (bZ S c Q (nx S c n cf λp=>cW p.st p.d (.v (.int k x)))))
 (B:(gx S c n cf).map (λp=>(Ox p.k,bW S.N p.st.g p.az))=some (some .quo,some [.v (.int k a),.v (.int k b)]):=by kernel_rfl):Le (((A9 k a b).bind f).bind e) (bZ S c Q cf):=by
 have⟨p,w,d⟩:=eZ B;simp at d;have⟨t,u,g⟩:=XK d.1;refine sG w ?_ h;rw[g];exact Le.of_eq (abE d.2)
theorem BI(n:Nat)(k:T2){a:U'}{b:Int}{f:Int->aY γ}(h:∀x,mH a b=some x->Le ((f x).bind e) (bZ S c Q (nx S c n cf λp=>cW p.st p.d (.v (.int .u8 x)))))
 (B:(gx S c n cf).map (λp=>(p.k,bW S.N p.st.g p.az))=some (.p .idxStr,some [.v (.str a),.v (.int k b)]):=by kernel_rfl):Le (((mH a b).bind f).bind e) (bZ S c Q cf):=by
 have⟨p,u,d⟩:=eZ B;simp at d;refine sG u ?_ h;rw[d.1];exact Le.of_eq (Ui d.2)
section
variable{A:α->So}{E:δ->So}{pl:α->aY δ}{fn:Y'}{sc:X'}
theorem zK(n:Nat)(F:eR S c fn A E pl sc)(z:α){f:δ->aY γ}(h:∀x,pl z=some x->Le ((f x).bind e) (bZ S c Q (nx S c n cf λp=>cW p.st p.d (.v (result (E x))))))
 (B:(gx S c n cf).map (λp=>(p.k,(bW S.N p.st.g p.az).bind mz,(!p.dr||p.now||gB p.st.m p.fr [])))=some (.c,some (fn,(A z).map .v),true):=by kernel_rfl):Le (((pl z).bind f).bind e) (bZ S c Q cf):=by
 have⟨p,C,b⟩:=eZ B;simp at b;have⟨D,G,O⟩:=b;have⟨I,g1,g2⟩:=ζg.1 G;have u:∀d(w:So),SV.dN d (w.map .v)=false:=λd w=>by induction w with|nil=>rfl|cons a l J=>simp[SV.dN,SV.c8,J]
 have L:(!p.dr||p.now||gB p.st.m p.fr ((A z).map .v))=true:=by have:gB p.st.m p.fr ((A z).map .v)=gB p.st.m p.fr []:=(by unfold gB;simp[u];rfl);grind
 refine sG C ?_ h;rw[D];exact Ks (F.h z) F.k g1 g2 (Km _ _ _) L (λr=>by rw[ou];simp)
theorem Z3(n:Nat)(F:eR S c fn A E pl true)(z:α){f:δ->aY γ}(h:∀x,pl z=some x->Le ((f x).bind e) (bZ S c Q (nx S c n cf λp=>cW p.st p.d (.v (result (E x))))))
 (B:(gx S c n cf).map (λp=>(p.k,((bW S.N p.st.g p.az).bind mz).bind λq=>(oI (jt p.st.m 8) q.2).map λvs=>(q.1,vs,((!p.dr||p.now)||gB p.st.m p.fr q.2))))=some (.c,some (fn,A z,true)):=by kernel_rfl):Le (((pl z).bind f).bind e) (bZ S c Q cf):=by
 have⟨p,u,a⟩:=eZ B;simp at a;have⟨w,C⟩:=a;have⟨q,g1,g2⟩:=ζg.1 C;have⟨D,g3,g4⟩:=ζg.1 g1;have⟨vs,g5,g6⟩:=ζf.1 g2;simp only[ζc]at g6;obtain⟨e1,rfl,e3⟩:=g6;refine sG u ?_ h;rw[w];exact Ks (F.h z) F.k g3 Zac g5 e3 (λr=>by rw[F.s rfl];rfl)
end
section
variable{N:Nat}[bD α]
theorem Oj(n:Nat)(k:T2){a:b9 N α}{i:Int}{f:α->aY γ}(h:∀x,a.at i=some x->Le ((f x).bind e) (bZ S c Q (nx S c n cf λp=>cW p.st p.d (.v (.fptr (pa a i))))))
 (B:(gx S c n cf).map (λp=>(p.k,bW S.N p.st.g p.az))=some (.p (.idxA N (bD.size α)),some [cp a,.v (.int k i)]):=by kernel_rfl):Le (((a.at i).bind f).bind e) (bZ S c Q cf):=by
 have⟨p,u,b⟩:=eZ B;simp at b;have⟨g,z⟩:=kS u;have⟨dr,fr,d,gd,now,C,az,dd,l,fs,st⟩:=p;obtain⟨rfl,D⟩:=b;exact acj n dr fr (⟨d,gd,now,.p (.idxA N (bD.size α)),az,dd,[]⟩::l) fs st k rfl Zac λx w=>by have:=h x w;simp only[nx,u]at this;omega
theorem Vi(n k:Nat)(a:b9 N α)(i:Int)(o:Nat)(x:α)(B:a.at i=some x){m:aY β}(h:Le m (bZ S c Q (nx S c n cf λp=>cW p.st p.d (.v (.fptr ((pa a i).drop (o+k)))))))
 (D:(gx S c n cf).map (λp=>(p.k,bW S.N p.st.g p.az,ble (o+k) (bD.size α)))=some (.p (.fieldAddr k),some [.v (.fptr ((pa a i).drop o))],true):=by kernel_rfl):Le m (bZ S c Q cf):=by
 have⟨p,u,b⟩:=eZ D;simp at b;have⟨e,w⟩:=kS u;have⟨dr,fr,d,gd,now,z,az,dd,l,fs,st⟩:=p;obtain⟨rfl,C,G⟩:=b;exact adb n dr fr (⟨d,gd,now,.p (.fieldAddr k),az,dd,[]⟩::l) fs st a i o x B rfl Zac (by
  simp only[nx,u]at h;omega)
theorem OV(n sz:Nat)(ag:X')(a:b9 N α)(i:Int)(o:Nat)(x:α)(B:a.at i=some x)(v:V)(b:(cut (cells x) o sz).bind (mk ag)=some v){m:aY β}(h:Le m (bZ S c Q (nx S c n cf λp=>cW p.st p.d (.v v))))
 (D:(gx S c n cf).map (λp=>(p.k,bW S.N p.st.g p.az))=some (.r (.load sz ag),some [.v (.fptr ((pa a i).drop o))]):=by kernel_rfl):Le m (bZ S c Q cf):=by
 have⟨p,w,u⟩:=eZ D;simp at u;have⟨e,z⟩:=kS w;have⟨dr,fr,d,gd,now,C,az,dd,l,fs,st⟩:=p;obtain⟨rfl,G⟩:=u;exact abV n dr fr (⟨d,gd,now,.r (.load sz ag),az,dd,[]⟩::l) fs st a i o x B b v rfl Zac (by
  simp only[nx,w]at h;omega)
theorem Bal(n u:Nat)(st:St)(cs:SW){m:aY β}(B:st.new u=true)(h:Le m (bZ S c Q (nx S c n cf λ_=>{st with g:=bM st.g u (.ptr u 0),m:=bM st.m u (.box cs)})))
 (D:(gx S c n cf).map (λp=>(p.d,(kal p.k).map (λz=>z.map SV.v),bW S.N p.st.g p.az,p.st))=some (some u,some cs,some [],st):=by kernel_rfl):Le m (bZ S c Q cf):=by
 have⟨p,C,a⟩:=eZ D;simp only[ζc]at a;have⟨z,G,w⟩:=eZ a.2.1;have⟨k,b⟩:=aat G;refine xE C ?_ h;rw[a.1,b,AN,a.2.2.1,a.2.2.2];simp[B,qv,w]
theorem JH(n:Nat)(k:T2)(u:Nat){a:b9 N α}{i:Int}{f:α->aY γ}(h:∀x,a.at i=some x->Le ((f x).bind e) (bZ S c Q (nx S c n cf λp=>cW p.st p.d (.ptr u (i.toNat*bD.size α+0)))))
 (B:(gx S c n cf).map (λp=>(p.k,bW S.N p.st.g p.az,bl p.st.m u))=some (.p (.idxA N (bD.size α)),some [.ptr u 0,.v (.int k i)],some (bx a)):=by kernel_rfl):Le (((a.at i).bind f).bind e) (bZ S c Q cf):=by
 have⟨p,w,b⟩:=eZ B;simp at b;have⟨g,C⟩:=kS w;have⟨dr,fr,d,gd,now,D,az,dd,l,fs,st⟩:=p;obtain⟨rfl,G,I⟩:=b;exact abO n dr fr (⟨d,gd,now,.p (.idxA N (bD.size α)),az,dd,[]⟩::l) fs st k u rfl Zac λx z=>by have:=h x z;simp only[nx,w]at this;omega
theorem V0(n sz:Nat)(ag:X')(u:Nat)(a:b9 N α)(i:Int)(o:Nat)(x:α)(B:a.at i=some x)(v:V)(b:(cut (cells x) o sz).bind (mk ag)=some v){m:aY β}(h:Le m (bZ S c Q (nx S c n cf λp=>cW p.st p.d (.v v))))
 (D:(gx S c n cf).map (λp=>(p.k,bW S.N p.st.g p.az,bl p.st.m u,(!p.dr||p.now||fM p.fr [.ptr u 0])))=some (.r (.load sz ag),some [.ptr u (i.toNat*bD.size α+o)],some (bx a),true):=by kernel_rfl):Le m (bZ S c Q cf):=by
 have⟨p,z,w⟩:=eZ D;simp at w;have⟨e,C⟩:=kS z;have⟨dr,fr,d,gd,now,G,az,dd,l,fs,st⟩:=p;obtain⟨rfl,I,J,L⟩:=w;exact abD n dr fr (⟨d,gd,now,.r (.load sz ag),az,dd,[]⟩::l) fs st u a i o x B b v rfl Zac (by
  simp only[nx,z]at h;omega)
end
section
variable{κ ν:Type}[bD κ][DecidableEq κ][Key κ][bD ν]
theorem ab2(n u:Nat)(mp:Mo κ ν)(k:κ)(z:ν){m:aY β}(h:Le m (bZ S c Q (nx S c n cf λp=>cW p.st p.d (cv (pE mp k z)))))
 (B:(gx S c n cf).map (λp=>(p.k,bW S.N p.st.g p.az,bl p.st.m u,(!p.dr||p.now||fM p.fr [.mp u,cv k])))=some (.r (.lookup (Key.kk κ) (enc z) false),some [.mp u,cv k],some (vA mp),true):=by kernel_rfl):Le m (bZ S c Q cf):=by
 have⟨p,w,a⟩:=eZ B;simp at a;have⟨b,C⟩:=kS w;have⟨dr,fr,d,gd,now,D,az,dd,l,fs,st⟩:=p;obtain⟨rfl,G,I,J⟩:=a;exact abQ n dr fr (⟨d,gd,now,.r (.lookup (Key.kk κ) (enc z) false),az,dd,[]⟩::l) fs st u mp k z rfl Zac (by
  simp only[nx,w]at h;omega)
theorem ZW(n u:Nat)(mp:Mo κ ν)(k:κ)(v:ν){m:aY β}(h:Le m (bZ S c Q (nx S c n cf λp=>cW {p.st with m:=bM p.st.m u (vA (nK mp k v))} p.d (.v .undef))))
 (B:(gx S c n cf).map (λp=>(p.k,bW S.N p.st.g p.az,bl p.st.m u,(!p.dr||p.now)))=some (.l (.mapUp (Key.kk κ)),some [.mp u,cv k,cv v],some (vA mp),true):=by kernel_rfl):Le m (bZ S c Q cf):=by
 have⟨p,z,w⟩:=eZ B;simp at w;have⟨a,C⟩:=kS z;have⟨dr,fr,d,gd,now,D,az,dd,l,fs,st⟩:=p;obtain⟨rfl,G,I,J⟩:=w;exact acZ n dr fr (⟨d,gd,now,.l (.mapUp (Key.kk κ)),az,dd,[]⟩::l) fs st u mp k v rfl Zac (by
  simp[nx,z]at h;omega)
end
theorem ab8(n:Nat)(st:St){rs:aX RV}{e:γ->aY So}{r:γ}(svs:SW){ys:So}(B:oI (jt st.m 8) svs=some ys)(D:e r=some ys)
 (h:(jd S c n cf.1 cf.2.1 cf.2.2).map (λq=>(q.1,q.2.2,l8 q.2.2 rs))=some (.rt,st,some svs):=by kernel_rfl):Le ((some r).bind e) (bZ S c (pI rs) cf):=by
 have⟨⟨fo,fs,st'⟩,u,a⟩:=eZ h;simp at a;obtain⟨rfl,rfl,w⟩:=a;exact abN n svs B (by rw[u,w]) D
end
end Go.VE
namespace Go.VE
variable[bX]
section
variable{S:Sys}{c:cm}{β γ δ α:Type}[bD α]{Q:Out×St->aY β}{e:γ->aY β}{cf:Cf}
def pJ(s x:Sl α):aY (Sl α):=if x.l=[]then some s else if s.l.length+x.l.length<=2147483648 then some (.row (s.l++x.l))else none
theorem XU(m:Tb bJ)(n w:Nat)(x:Sl α)(B:n=bD.size α)(D:bl m w=some (cK x)):kE m n (.own w)=some (rows x.l):=by rw[GZ,D,Ds n x B]
theorem Kx(l:aX α):rows l=[]↔l=[]:=by unfold rows;simp
theorem VC(a b:aX α):rows a++rows b=rows (a++b):=by unfold rows;simp
theorem LF(a:aX α):(rows a).length=a.length:=by unfold rows;simp
theorem aa8{st:St}{dr now:X'}{fr:ST}{az:QR}{d n o:Nat}{s x:Sl α}{B:SV}(U:bW S.N st.g az=some [.own o,B])(hd:(!dr||now)=true)(D:bl st.m o=some (cK s))(W:kE st.m n B=some (rows x.l))(G:n=bD.size α)(J:St.new {st with m:=eF o st.m} d=true):
 gp S c dr fr ⟨some d,none,now,.l (.append n),az,[],[]⟩ st=(pJ s x).bind λY=>some {st with g:=bM st.g d (.own d),m:=bM (eF o st.m) d (cK Y)}:=by
 rw[zp,U];simp only[ζb,hd,if_true,B5,XU st.m n o s G D,W];unfold pJ
 by_cases h:x.l=[]
 .rw[if_pos h,(Kx x.l).2 h];simp only[AO,D,if_pos J,ζb];rfl
 rw[if_neg h];have a:rows x.l≠[]:=λe=>h ((Kx _).1 e)
 have w:AO st d n (.own o) (some (rows s.l)) (some (rows x.l))=if(rows s.l).length+(rows x.l).length<=2147483648/\Lr (.own o)=true then(if St.new {st with m:=giveUp st.m (.own o)} d then some (.own d,{st with m:=bM (giveUp st.m (.own o)) d (.sl .row n (rows s.l++rows x.l))})else none)else none:=by unfold AO;generalize rows x.l=r at *;cases r with|nil=>exact absurd rfl a|cons y r=>rfl
 rw[w,LF,LF,VC]
 by_cases u:s.l.length+x.l.length<=2147483648
 .rw[if_pos ⟨u,rfl⟩,if_pos (show St.new {st with m:=giveUp st.m (.own o)} d=true from J),if_pos u];rw[ζb,ζb,G];rfl
 rw[if_neg (λk=>u k.1),if_neg u];rfl
theorem abl(n o u:Nat)(D:SV){s x:Sl α}{f:Sl α->aY γ}(G:∀p,gx S c n cf=some p->kE p.st.m (bD.size α) D=some (rows x.l))
 (h:∀B,pJ s x=some B->Le ((f B).bind e) (bZ S c Q (nx S c n cf λp=>{p.st with g:=bM p.st.g u (.own u),m:=bM (eF o p.st.m) u (cK B)})))
 (J:(gx S c n cf).map (λp=>(p.d,p.k,bW S.N p.st.g p.az,(!p.dr||p.now),bl p.st.m o,St.new {p.st with m:=eF o p.st.m} u))=some (some u,.l (.append (bD.size α)),some [.own o,D],true,some (cK s),true):=by kernel_rfl):Le (((pJ s x).bind f).bind e) (bZ S c Q cf):=by
 have⟨p,w,a⟩:=eZ J;simp only[ζc]at a;refine sG w ?_ h;rw[a.1,a.2.1];exact Le.of_eq (aa8 a.2.2.1 a.2.2.2.1 a.2.2.2.2.1 (G p w) rfl a.2.2.2.2.2)
theorem Pg(m:Tb bJ)(x:Sl α):kE m (bD.size α) (.v (cg x))=some (rows x.l):=by cases x<;>simp[cg,Sl.k,Sl.l,qw,kE,rows]
theorem Ar(n o u:Nat){s x:Sl α}{f:Sl α->aY γ}
 (h:∀B,pJ s x=some B->Le ((f B).bind e) (bZ S c Q (nx S c n cf λp=>{p.st with g:=bM p.st.g u (.own u),m:=bM (eF o p.st.m) u (cK B)})))
 (D:(gx S c n cf).map (λp=>(p.d,p.k,bW S.N p.st.g p.az,(!p.dr||p.now),bl p.st.m o,St.new {p.st with m:=eF o p.st.m} u))=some (some u,.l (.append (bD.size α)),some [.own o,.v (cg x)],true,some (cK s),true):=by kernel_rfl):Le (((pJ s x).bind f).bind e) (bZ S c Q cf):=
 abl n o u _ (λp _=>Pg p.st.m x) h D
end
theorem tJ{α:Type}{l:aX α}{i:Nat}{x:α}(h:l[i]?=some x):l.set i x=l:=by obtain⟨a,rfl⟩:=ζe.1 h;exact List.set_getElem_self a
open Classical in
def Et(E:Env)(g:Y')(cb:So)(a b:V):aY V:=if h:∃n y,ck (run E n) g (a::b::cb) []=some y then some (Classical.choose (choose_spec h))else none
theorem Hl{E:Env}{g:Y'}{cb:So}{a b y:V}(h:Et E g cb a b=some y):∃n,∀k,n<=k->ck (run E k) g (a::b::cb) []=some y:=by
 unfold Et at h;split at h;next c=>cases h;exact⟨_,λk d=>qq (qh E d) (choose_spec (choose_spec c))⟩
 cases h
theorem NU{E:Env}{g:Y'}{cb:So}{a b y:V}{n:Nat}(h:ck (run E n) g (a::b::cb) []=some y):Et E g cb a b=some y:=by have d:∃n y,ck (run E n) g (a::b::cb) []=some y:=⟨n,y,h⟩;cases c:Et E g cb a b with|none=>unfold Et at c;rw[dif_pos d]at c;cases c|some z=>have⟨m,u⟩:=Hl c;have:=u _ (Nat.le_max_right n m);rw[qq (qh E (Nat.le_max_left n m)) h]at this;cases this;rfl
theorem G6{n:Nat}{p:_root_.Fin n->Nat->Prop}(h:∀i,∃N,∀k,N<=k->p i k):∃N,∀i k,N<=k->p i k:=by induction n with|zero=>exact⟨0,λi=>i.elim0⟩|succ n u=>have⟨N,w⟩:=u (p:=λi=>p i.succ) λi=>h i.succ;have⟨M,a⟩:=h 0;refine⟨max N M,λi k b=>?_⟩;refine _root_.Fin.cases (a k Zaa) (λj=>w j k Zaa) i
def kA(x:So):V:=x.headD .undef
def wA(es:Nat)(xs:S'):X':=es==1&&xs.all (λx=>x.length==1&&x.all V.one)&&decide (xs.length<=2147483648)
theorem AK{es:Nat}{xs:S'}(h:wA es xs=true):es=1/\xs.length<=2147483648/\∀(i:Nat)x,xs[i]?=some x->x=[kA x]/\(kA x).one=true:=by unfold wA at h;simp only[ζh,beq_iff_eq,all_eq_true,decide_eq_true_eq]at h;refine⟨h.1.1,h.2,λi x w=>?_⟩;have⟨a,z⟩:=h.1.2 x (mem_of_getElem? w);obtain⟨u,rfl⟩:=List.length_eq_one_iff.1 a;exact⟨rfl,z u Zab⟩
section
variable{H:bn}{Z:Nat->Prop}
theorem dG.N6{k:Nat}{xs ys:So}(h:dG H Z xs ys)(B:V.ng k xs=true):borrows k H ys=some xs:=mm h.1 λj u v a b=>(h.2 j u v a b).borrow k (oA.1 B j u a)
theorem dG.borrows{xs ys:So}(h:dG H Z xs ys):∃n,∀k,n<=k->borrows k H ys=some xs:=by have⟨n,u⟩:=oa xs;exact⟨n,λk a=>h.N6 (q9 a u)⟩
theorem Sv{es:Nat}{xs:S'}(h:wA es xs=true){rs:S'}(B:iz H Z xs rs):dG H Z (xs.map kA) rs.flatten:=by induction xs generalizing rs with|nil=>have:=B.1;simp at this;have:rs=[]:=List.eq_nil_of_length_eq_zero (by simpa using this.symm);subst this;exact .nil|cons x xs D=>have⟨d,L,G⟩:=AK h;cases rs with|nil=>have:=B.1;simp at this|cons r rs=>have⟨e,_⟩:=G 0 x rfl;have C:=B.2 0 x r rfl rfl;rw[e]at C;obtain⟨u,O,rfl,c,w⟩:=C.inv;rw[w.dg];have z:wA es xs=true:=(by unfold wA at h⊢;simp only[all_cons,ζh,length_cons,decide_eq_true_eq]at h⊢;exact⟨⟨h.1.1,h.1.2.2⟩,Zaa⟩);exact .cons c (D z (rs:=rs) ⟨by have:=B.1;simpa using this,λj a b I J=>B.2 (j+1) a b I J⟩)
end
def uQ(E:Env)(g:Y')(cb:So)(a b:V):Ps:=match Et E g cb a b with|some (.int .i64 c)=>some c|_=>none
theorem TB{E:Env}{g:Y'}{cb:So}{a b:V}{c:Int}(h:uQ E g cb a b=some c):∃n,∀k,n<=k->ck (run E k) g (a::b::cb) []=some (.int .i64 c):=by
 unfold uQ at h;split at h;next c' d=>cases h;exact Hl d
 cases h
def CY(E:Env)(es:Nat)(xs:S'):So->aY S'
 |[.clo g [] cb]=>match xs with
  |[]=>some []|x::l=>if wA es (x::l)&& !E.keep g then
   let t:_root_.Fin (l.length+1)->_root_.Fin (l.length+1)->Ps:=λi j=>uQ E g cb (kA (((x::l)[i.1]?).getD [])) (kA (((x::l)[j.1]?).getD []))
   if Db t then some ((tc l.length (rR t)).toList.map λi=>((x::l)[i.1]?).getD [])else none
   else none
 |_=>none
def uX(E:Env):Iz:=⟨false,CY E⟩
theorem Fj{n:Nat}{lt:_root_.Fin (n+1)->_root_.Fin (n+1)->X'}(h:Sort.SWO lt):(tc n lt).size=n+1:=by rw[E0];have:=(Sort.pdq_sorts lt h (List.finRange (n+1)).toArray 0 (n+1) (Lib.bitLen (n+1)) true true (zero_le _) Zab (Or.inl rfl)).1.1;simpa using this
theorem Vk{E:Env}{f:Y'}(m:E.keep f=true)(ho:E.own f=false)(F:E.sort f=true)(K:E.ft f=none):pK E f (uX E)where
 keep:=m
 own:=ho
 le:=by intro es xs vs ys h;simp only[uX,CY]at h;split at h;split at h;cases h;exact⟨le_refl _,λ_=>rfl⟩;split at h;split at h;(next q=>cases h;have:=Fj (sN q).2;simp only[length_map,Array.length_toList,length_cons,this];exact⟨le_refl _,λ_=>trivial⟩);cases h;cases h;cases h
 none:=by intro es vs ys h H Z ws w M he;simp only[uX,CY]at h;split at h;obtain⟨V,r,rfl,h1,P⟩:=M.inv;rw[P.dg];refine⟨1,[],λk m=>?_⟩;(cases k with|zero=>omega|succ k=>rcases he with rfl|rfl<;>simp[run,lP,K,F,s_,uX]);cases h
 row:=by
  intro es xs vs ys h H Z ws id off rs M O C I z hz;simp only[uX,CY]at h;split at h;rename_i g cb;obtain⟨V,r,rfl,h1,P⟩:=M.inv;rw[P.dg];obtain⟨a',J,rfl,s,aa⟩:∃a' J,V=.clo g a' J/\dG H Z [] a'/\dG H Z cb J:=h1.lT;rw[s.dg]at *;split at h;cases h;refine⟨1,rs,[],λk m=>?_,rfl,⟨rfl,λj u v o=>by simp at o⟩,z⟩;cases k with|zero=>omega|succ k=>have:H.set id (.row es rs)=H:=tJ O;simp[run,lP,K,F,s_,uX,this]
  rename_i x l;split at h;rename_i D;simp only[ζh,Bool.not_eq_true']at D;obtain⟨c1,c3⟩:=D;obtain⟨rfl,Q,ae⟩:=AK c1;split at h;rename_i q;cases h;obtain⟨G,S⟩:=sN q;have B:∀i,Z i->Z i/\br (H.set id .dead) i=br H i:=λi t=>⟨t,by unfold br;rw[getElem?_set_ne];rintro rfl;exact hz t⟩;have T:=I.mono B;obtain⟨M1,U⟩:=(Sv c1 T).borrows;simp only[length_cons]at U;obtain⟨M2,W⟩:=(aa.mono B).borrows;obtain⟨N,R⟩:=G6 (p:=λi k=>∀j:_root_.Fin (l.length+1),ck (run E k) g (kA (((x::l)[i.1]?).getD [])::kA (((x::l)[j.1]?).getD [])::cb) []=some (.int .i64 ((uQ E g cb (kA (((x::l)[i.1]?).getD [])) (kA (((x::l)[j.1]?).getD []))).getD 0))) (λi=>by
   obtain⟨N,R⟩:=G6 (p:=λ(j:_root_.Fin (l.length+1))k=>ck (run E k) g (kA (((x::l)[i.1]?).getD [])::kA (((x::l)[j.1]?).getD [])::cb) []=some (.int .i64 ((uQ E g cb (kA (((x::l)[i.1]?).getD [])) (kA (((x::l)[j.1]?).getD []))).getD 0))) (λj=>by
    obtain⟨c,d⟩:=G i j;obtain⟨n,hn⟩:=TB d;exact⟨n,λk m=>by rw[hn k m,d];rfl⟩)
   exact⟨N,λk m j=>R j k m⟩)
  have X:∀k,N<=k->j9 (run E k) g ((x::l).map kA) cb l.length=λi j=>uQ E g cb (kA (((x::l)[i.1]?).getD [])) (kA (((x::l)[j.1]?).getD [])):=λk m=>by funext i j;obtain⟨c,d⟩:=G i j;have e1:∀i:_root_.Fin (l.length+1),((x::l).map kA)[i.1]?=some (kA (((x::l)[i.1]?).getD [])):=λi=>(by have:i.1<(x::l).length:=i.2;rw[getElem?_map,ζd this];rfl);unfold j9;rw[e1 i,e1 j];simp only[R i k m j];rw[d];rfl
  have ab:=Fj S;generalize hL:(tc l.length (rR λi j:_root_.Fin (l.length+1)=>uQ E g cb (kA (((x::l)[i.1]?).getD [])) (kA (((x::l)[j.1]?).getD [])))).toList=L at *;have ad:L.length=l.length+1:=by rw[<-hL];simpa using ab
  simp only[length_cons]at C I Q;refine⟨max N (max M1 M2)+1,tP rs off l.length L,[],λk m=>?_,?_,?_,?_⟩;cases k with|zero=>omega|succ k=>simp only[run,lP,K,F,if_true,s_,O,uX,false_eq_true,if_false,length_cons];rw[if_pos ⟨trivial,trivial,C,Zaa,c3⟩,show(run E k).lv=k from qf E k,U k Zaa,W k Zaa];simp only[X k Zaa,q,if_true,hL,append_nil]
  simp[tP,ad];omega;have e:((tP rs off l.length L).drop off).take (L.map λi=>((x::l)[i.1]?).getD []).length=L.map λi=>(rs[off+i.1]?).getD []:=by unfold tP;have h0:(rs.take off).length=off:=(by simp;omega);rw[append_assoc,List.drop_append_of_le_length Zaa,List.drop_eq_nil_of_le Zaa,nil_append,length_map,List.take_append_of_le_length Zab,take_of_length_le Zab]
  rw[e];refine⟨Zab,λj a b s y=>?_⟩;rw[getElem?_map]at s y;obtain⟨i,t,rfl⟩:=ζf.1 s;rw[t]at y;simp only[map_some,ζa]at y;subst y;have Y:i.1<(x::l).length:=i.2;have A:off+i.1<rs.length:=by have:=i.2;omega
  refine I.2 i.1 _ _ (by rw[ζd Y];rfl) ?_;rw[getElem?_take,if_pos i.2,getElem?_drop,ζd A];rfl;intro c d u o;unfold tP at d;rcases mem_append.1 d with d|d;rcases mem_append.1 d with d|d;exact z c (List.mem_of_mem_take d) u o;obtain⟨i,_,rfl⟩:=mem_map.1 d;have A:off+i.1<rs.length:=by have:=i.2;omega
  rw[ζd A]at o;exact z _ (getElem_mem A) u o;exact z c (List.mem_of_mem_drop d) u o;cases h;cases h;cases h
def eB(N:Nat->Y')(F:WP):Arg->V
 |.s n=>get F n|.k c=>c|.f s=>.clo (N s) [] []
def iI(E:Env)(N:Nat->Y')(call:dK)(b:aY Nat)(now:X')(k:K)(vs:So)(H:bn):aY (V×bn):=
 match k,b with
 |.p p,_=>(bN N p vs).map λv=>(v,H)|.r r,none=>(ey H r vs).map λv=>(v,H)|.r r,some b=>(ey (H.take b) r vs).map λv=>(v,H)|.a a,none=>(kN a vs).map λx=>(x.2.val H.length,H++[x.1])|.l l,none=>fW H l vs|.l (.store n),some _=>if now then fW H (.store n) vs else none|.c,none=>match vs with
  |.clo g a c::u=>if E.keep g then gj E call g (a++u++c) H else match ck call g (a++u++c) H with
   |some y=>if y.scalar then some (y,H)else none|none=>none
  |_=>none
 |.c,some b=>match vs with
  |.clo g a c::u=>if E.keep g then none else match ck call g (a++u++c) (H.take b)with
   |some y=>if y.scalar then some (y,H)else none|none=>none
  |_=>none
 |_,_=>none
def iM(F:WP):aY Nat->V->WP
 |none,_=>F|some d,v=>set F d v
def cE(E:Env)(N:Nat->Y')(call:dK)(b:aY Nat):R0->WP->bn->aY (WP×bn)
 |[],F,H=>some (F,H)|o::r,F,H=>match o.gd with
  |none=>match iI E N call b o.now o.k (o.az.map (eB N F)) H with
   |some (v,H')=>cE E N call b r (iM F o.dst v) H'|none=>none
  |some _=>none
section
variable{X:CX}{N:Nat->Y'}{call:dK}{F F':WP}{H H':bn}
theorem N8(B:∀f s,X.nm f=some s->N s=f){o:UV}{x:Arg}(h:rC X.nm o=some x):ev F o=some (eB N F x):=by cases o with|tmp t=>simp[rC]at h;subst h;rfl|const w=>simp[rC]at h;split at h;rename_i c a;split at h;simp at h;subst h;exact a;grind;grind|func f=>obtain⟨s,u,rfl⟩:=ζf.1 h;show some (V.clo f [] [])=some (.clo (N s) [] []);grind|global i=>simp[rC]at h;split at h;rename_i c a;split at h;simp at h;subst h;simp[ev,a];rfl;grind;grind
theorem zc(G:∀f s,X.nm f=some s->N s=f):∀{os:aX UV}{B:QR},os.mapM (rC X.nm)=some B->f_ F os=some (B.map (eB N F))
 |[],B,h=>by simp at h;subst h;rfl|o::os,B,h=>by simp[ζg]at h;obtain⟨x,J,xs,D,rfl⟩:=h;simp[f_,N8 G J,zc G D]
theorem B1(D:∀f s,X.nm f=some s->N s=f){B:X'}{ops:QP}{i:Nat}{o:Oper}{ro:RO}(h:oG X B ops i o=some ro)(g:ro.gd=none):
 o.dst=ro.dst/\AY X.nt o.dst=true/\gT ops F o=true/\((C4 X.E N F o.op (ro.az.map (eB N F)) ro.k/\ro.now=(B&&dS ops i)/\(B=true->dS ops i=false->∀a',rP ops i a'=[]\/∀t,o.op≠.load t (.tmp a')))\/(∃n,ro.k=.l (.storeF n))\/(∃n a,ro.k=.r (.loadF n a))\/(B=true/\Gt X.E ops i=true/\cQ o.op=.alloc/\(∃p,ro.k=.p p/\(p=.emptyC\/(∃a b,p=.makeC a b)\/∃a b c d,p=.buildC a b c d)/\∀y,bN N p (ro.az.map (eB N F))=some y->rS X.E F o.op=some y))\/∃n,ro.k=.e n):=by
 unfold oG at h;split at h
 .rename_i hd;have hd:=(Bool.and_eq_true_iff.1 hd).1;split at h
  .rename_i gd k os u hr;split at h
   .split at h
    .rename_i z;simp only[ζh]at z;have L:∀{gd:aY (Nat×X')},Ec ops o=some gd->gd=none->gT ops F o=true:=λ{gd}u g=>by
      subst g;unfold gT;unfold Ec at u
      cases G:o.guard with
      |none=>rfl|some O=>rw[G]at u;have⟨j,b⟩:=O;have⟨d,_,e⟩:=ζf.1 u;cases e
     split at h
     next Q=>obtain⟨S,C,rfl⟩:=ζf.1 h;have w:=kM D hr (zc (F:=F) D C);exact⟨rfl,hd,L u g,.inr (.inr (.inr (.inl ⟨z.1,z.2,w.1,_,rfl,.inr (.inl ⟨_,_,rfl⟩),λy I=>Gi ⟨_,_,_,by assumption⟩ w I⟩)))⟩
     .rename_i Q;split at h
      next T=>obtain⟨U,rfl,rfl⟩:=T;obtain⟨S,C,rfl⟩:=ζf.1 h;have w:=kM D hr (zc (F:=F) D C);exact⟨rfl,hd,L u g,.inr (.inr (.inr (.inl ⟨z.1,z.2,w.1,_,rfl,.inl rfl,λy I=>FQ ⟨_,_,_,by assumption⟩ w U I⟩)))⟩
      obtain⟨S,C,rfl⟩:=ζf.1 h;have w:=kM D hr (zc (F:=F) D C);exact⟨rfl,hd,L u g,.inr (.inr (.inr (.inl ⟨z.1,z.2,w.1,_,rfl,.inr (.inr ⟨_,_,_,_,rfl⟩),λy I=>Fa ⟨_,_,_,by assumption⟩ w I⟩)))⟩
     cases h
    obtain⟨S,C,rfl⟩:=ζf.1 h;simp only at g;subst g;refine⟨rfl,hd,?_,?_⟩
    .unfold gT;unfold Ec at u
     cases G:o.guard with
     |none=>rfl|some O=>rw[G]at u;have⟨j,b⟩:=O;have⟨d,_,e⟩:=ζf.1 u;cases e
    rcases Ge B ops i k os with⟨e,W⟩|⟨_,_,n,a,l,Y,_,_,_,e⟩|⟨_,_,n,ag,a,_,_,e⟩|⟨_,_,_,n,_,e⟩
    .rw[e]at C⊢;refine .inl ⟨kM D hr (zc D C),rfl,λhd Z a'=>?_⟩
     by_cases J:∃t,o.op=.load t (.tmp a')
     .have⟨t,J⟩:=J;rw[J]at hr;simp only[resolve]at hr;have⟨d,_,e⟩:=ζf.1 hr;simp only[ζc]at e;exact .inl (W _ _ a' hd Z e.1.symm e.2.symm)
     exact .inr λt h=>J ⟨t,h⟩
    .rw[e];exact .inr (.inl ⟨n,rfl⟩)
    .rw[e];exact .inr (.inr (.inl ⟨n,ag,rfl⟩))
    rw[e];exact .inr (.inr (.inr (.inr ⟨n,rfl⟩)))
   simp at h
  simp at h
 simp at h
theorem KD{a:Nat}{dst:aY Nat}(h:AY a dst=true)(v:V):lE a F dst v=some (iM F dst v):=by cases dst with|none=>rfl|some d=>simp[AY]at h;simp[lE,if_pos h,iM]
theorem aaC(J:∀f s,X.nm f=some s->N s=f){ops:QP}{i:Nat}{o:Oper}{ro:RO}(h:oG X false ops i o=some ro)(q:ro.gd=none){v:V}(d:iI X.E N call none ro.now ro.k (ro.az.map (eB N F)) H=some (v,H')):
 iH X.E call X.nt ops none o F H=some (iM F ro.dst v,H'):=by
 have⟨j,I,L,u⟩:=B1 (F:=F) J h q;have hd:cZ X.E call ops none F H o.op=some (v,H'):=by
  rcases u with⟨u,_⟩|⟨n,u⟩|⟨n,a,u⟩|⟨u,_⟩|⟨n,u⟩;generalize t:ro.k=k at d u;generalize ro.az.map (eB N F)=U at d u;unfold cZ;cases k with|p p=>have⟨c,e⟩:=u;have⟨w,B,C⟩:=ζf.1 d;rw[c];simp only[A1 (e w B),map_some];rw[C]|r r=>have⟨c,e⟩:=u;have⟨w,B,C⟩:=ζf.1 d;rw[c];simp only[e H w B,map_some];rw[C]|a a=>have⟨c,e⟩:=u;have⟨⟨ob,m⟩,B,C⟩:=ζf.1 d;rw[c];simp only[p9,false_eq_true,if_false,e _ B];exact congrArg some C|l l=>have⟨c,e⟩:=u;rw[c];exact e H _ d|e n=>exact u.elim|b=>simp[iI]at d|c=>obtain⟨c,f,O,rfl,e⟩:=u;rw[c];simp only[iI]at d;split at d;rename_i g a b Q D;simp only[List.cons.injEq]at D;obtain⟨rfl,rfl⟩:=D;split at d;(next z=>simp only[e,yZ,eD,mO,z,Bool.and_self,if_true];exact d);rename_i z;split at d;rename_i y S;split at d;(next G=>simp only[e,yZ,eD,mO,z,Bool.false_and,false_eq_true,if_false,S,G,if_true];exact d);simp at d;simp at d;simp at d
  .rw[u]at d;exfalso;have:∀ops i k os,(zR false ops i k os).1=k:=λ_ _ _ _=>rfl;unfold oG at h;simp only[Bool.false_and,false_eq_true,if_false,Bool.not_false,Bool.and_true]at h;split at h
   .split at h
    .rename_i gd k os T hr;split at h
     .obtain⟨O,W,rfl⟩:=ζf.1 h;simp only[this]at u;subst u;unfold resolve at hr;(repeat' split at hr)<;>first|(simp at hr;done)|(have⟨_,_,e⟩:=ζf.1 hr;simp at e;done)
     simp at h
    simp at h
   first|(simp at h;done)|contradiction
  rw[u]at d;simp[iI,ey]at d;cases u;rw[u]at d;simp[iI]at d
 unfold iH;rw[L,if_pos rfl,hd];simp only[j,KD (j▸I),map_some]
theorem L7(D:∀f s,X.nm f=some s->N s=f){ops:QP}:∀(rest:QP){i:Nat}{B:R0}{F:WP}{H:bn},mX X false ops i rest=some B->cE X.E N call none B F H=some (F',H')->ox X.E call X.nt ops rest F H=some (F',H')
 |[],i,B,F,H,hc,h=>by simp[mX]at hc;subst hc;exact h|o::rest,i,B,F,H,hc,h=>by simp[mX]at hc;split at hc;rename_i ro rs a G;simp at hc;subst hc;simp[cE]at h;split at h;rename_i b;split at h;(next v H1 c=>simp[ox,aaC D a b c];exact L7 D rest G h);grind;grind;grind
theorem YZ{ops:QP}{i:Nat}{op:Op}(h:∀t a',op=.load t (.tmp a')->rP ops i a'=[]):qo ops i F op=true:=by unfold qo;grind
theorem aa3(Y:∀f s,X.nm f=some s->N s=f){ops:QP}{b i:Nat}{o:Oper}(m:ops[i]?=some o){ro:RO}(h:oG X true ops i o=some ro)(q:ro.gd=none){v:V}(d:iI X.E N call (some b) ro.now ro.k (ro.az.map (eB N F)) H=some (v,H')):
 iH X.E call X.nt ops (some (b,i)) o F H=some (iM F ro.dst v,H'):=by
 have⟨j,Z,x,u⟩:=B1 (F:=F) Y h q;have hd:cZ X.E call ops (some (b,i)) F H o.op=some (v,H'):=by
  rcases u with⟨u,z,B⟩|⟨n,u⟩|⟨n,a,u⟩|⟨_,I,J,p,u,_,L⟩|⟨n,u⟩;generalize E:ro.k=k at d u;generalize ro.az.map (eB N F)=vs at d u;unfold cZ
  cases k with
  |p p=>have⟨c,e⟩:=u;have⟨w,C,D⟩:=ζf.1 d;rw[c];simp only[A1 (e w C),map_some];rw[D]|r r=>have⟨c,e⟩:=u;have⟨w,C,D⟩:=ζf.1 d;have O:qo ops i F o.op=true:=YZ λt a' e=>(by by_cases U:dS ops i=true;exact Fb m e U;rcases B rfl (by simpa using U) a' with h|h;exact h;exact absurd e (h t));rw[c];simp only[e _ w C,O,if_true];rw[D]|a a=>simp[iI]at d|l l=>have⟨c,e⟩:=u;cases l with|store n=>simp only[iI]at d;split at d;(next W=>rw[z,Bool.true_and]at W;rw[c];simp only[W,Bool.true_or,if_true];exact e H _ d);simp at d|_=>simp[iI]at d
  |e n=>exact u.elim|b=>simp[iI]at d|c=>obtain⟨c,f,K,rfl,e⟩:=u;rw[c];simp only[iI]at d;split at d;rename_i g a b M G;simp only[List.cons.injEq]at G;obtain⟨rfl,rfl⟩:=G;split at d;simp at d;rename_i Q;split at d;rename_i y A;split at d;(next S=>simp only[e,yZ,Iy h rfl c,Bool.not_false,Bool.true_or,eD,mO,Q,Bool.false_and,false_eq_true,if_false,A,S,if_true];exact d);simp at d;simp at d;simp at d
  rw[u]at d;simp[iI]at d;rw[u]at d;simp[iI,ey]at d;rw[u]at d;have⟨w,C,D⟩:=ζf.1 d;have T:=L w C;unfold cZ;rw[J];simp only[p9,I,if_true,T,map_some];exact congrArg some D;rw[u]at d;simp[iI]at d
 unfold iH;rw[x,if_pos rfl,hd];simp only[j,KD (j▸Z),map_some]
theorem LZ(D:∀f s,X.nm f=some s->N s=f){ops:QP}{b:Nat}:∀(rest:QP){i:Nat}{B:R0}{F:WP}{H:bn},ops.drop i=rest->mX X true ops i rest=some B->cE X.E N call (some b) B F H=some (F',H')->
 lG X.E call X.nt ops b (range' i rest.length) F H=some (F',H')
 |[],i,B,F,H,_,hc,h=>by simp[mX]at hc;subst hc;exact h|o::rest,i,B,F,H,hd,hc,h=>by simp[mX]at hc;split at hc;rename_i ro rs a J;simp at hc;subst hc;simp[cE]at h;split at h;rename_i c;split at h;rename_i v H1 d;have G:ops[i]?=some o:=(by have:(ops.drop i)[0]?=some o:=Zac;grind);have u:ops.drop (i+1)=rest:=(by rw[<-List.drop_drop,hd];rfl);simp[List.range'_succ,lG,G,aa3 D G a c d];exact LZ D rest u J h;grind;grind;grind
def Aw(l:R0):X':=l.all λo=>(match o.k with|.a _|.l (.storeF _)|.r (.loadF ..)|.p (.makeC ..)|.p (.buildC ..)|.p .emptyC|.e _=>false|_=>true)&&o.gd.isNone
theorem FN(J:∀f s,X.nm f=some s->N s=f){ops:QP}:∀(rest:QP){i:Nat}{G:R0},mX X true ops i rest=some G->Aw G=true->rest.any (λo=>cQ o.op==.alloc)=false
 |[],_,_,_,_=>rfl|o::rest,i,G,hc,D=>by simp only[mX]at hc;split at hc;rename_i ro rs c U;simp only[ζa]at hc;subst hc;simp only[Aw,all_cons,ζh,Option.isNone_iff_eq_none]at D;have⟨_,_,_,B⟩:=B1 (F:=[]) J c D.1.2;rw[List.any_cons,FN J rest U D.2,Bool.or_false];rcases B with⟨B,_⟩|⟨n,B⟩|⟨n,a,B⟩|⟨_,_,_,p,B,u,_⟩|⟨n,B⟩;(cases b:ro.k with|a p=>have:=D.1.1;rw[b]at this;cases this|e p=>have:=D.1.1;rw[b]at this;cases this|_=>rw[b]at B;rw[B.1];rfl);have:=D.1.1;rw[B]at this;cases this;have:=D.1.1;rw[B]at this;cases this;have:=D.1.1;rw[B]at this;rcases u with rfl|⟨_,_,rfl⟩|⟨_,_,_,_,rfl⟩<;>cases this;have:=D.1.1;rw[B]at this;cases this;simp at hc
def ji(E:Env)(N:Nat->Y')(call:dK)(lf:Nat):RC->WP->bn->aY (Out×WP×bn)
 |.skip,F,H=>some (.norm,F,H)|.ops l,F,H=>(cE E N call none l F H).map λx=>(.norm,x.1,x.2)|.rK l,F,H=>if Aw l then(cE E N call (some H.length) l F H).map λx=>(.norm,x.1,x.2)else none|.seq a b,F,H=>match ji E N call lf a F H with
  |some (.norm,F',H')=>ji E N call lf b F' H'|r=>r
 |.cond x a b,F,H=>match eB N F x with
  |.bool t=>if t then ji E N call lf a F H else ji E N call lf b F H|_=>none
 |.block id c,F,H=>match ji E N call lf c F H with
  |some (.exit B,F',H')=>if B=id then some (.norm,F',H')else some (.exit B,F',H')|r=>r
 |.loop c,F,H=>mF (ji E N call lf c) lf F H|.exit id,F,H=>some (.exit id,F,H)|.ret,F,H=>some (.ret,F,H)|_,_,_=>none
theorem Ll{f g:WP->bn->aY (Out×WP×bn)}(h:∀F H r,f F H=some r->g F H=some r):∀(k:Nat)(F:WP)(H:bn)(r:Out×WP×bn),mF f k F H=some r->mF g k F H=some r
 |0,F,H,r,hr=>by simp[mF]at hr|k+1,F,H,r,hr=>by simp only[mF]at hr⊢;cases B:f F H with|none=>rw[B]at hr;simp at hr|some q=>rw[B]at hr;rw[h F H q B];have⟨o,F1,H1⟩:=q;cases o with|norm=>exact Ll h k F1 H1 r hr|exit _=>exact hr|ret=>exact hr
theorem Tp(D:∀f s,X.nm f=some s->N s=f){lf:Nat}:∀(j:RC)(code:Code)(F:WP)(H:bn)(r:Out×WP×bn),bS X false code=some j->ji X.E N call lf j F H=some r->exec X.E call lf false X.nt code F H=some r:=by
 intro j
 induction j with
 |skip=>
  intro code F H r d h;simp only[ji,ζa]at h;subst h
  cases code with
  |skip=>rfl|label _=>rfl|region id ops u=>simp only[bS]at d;(repeat' split at d)<;>first|(simp at d;done)|(have⟨_,_,e⟩:=ζf.1 d;cases e)
  |_=>simp only[bS]at d;(repeat' split at d)<;>first|(simp at d;done)|(have⟨_,_,e⟩:=ζf.1 d;cases e)|cases d
 |ops l=>intro code F H r d h;cases code with|region id ops u=>simp only[bS]at d;split at d;split at d;have⟨_,_,e⟩:=ζf.1 d;cases e;simp at d;rename_i hd;have⟨T,G,e⟩:=ζf.1 d;cases e;simp only[ji]at h;obtain⟨⟨F',H'⟩,k,rfl⟩:=ζf.1 h;simp only[exec,lp,hd];rw[if_neg Zab,L7 D _ G k];rfl|_=>simp only[bS]at d;(repeat' split at d)<;>first|(simp at d;done)|(have⟨_,_,e⟩:=ζf.1 d;cases e)|cases d
 |rK l=>intro code F H r d h;cases code with|region id ops u=>simp only[bS]at d;split at d;rename_i hd;split at d;rename_i I;have⟨T,G,e⟩:=ζf.1 d;cases e;simp only[ji]at h;split at h;(next U=>obtain⟨⟨F',H'⟩,k,rfl⟩:=ζf.1 h;have W:uf ops.toList=false:=FN D _ G U;have:=LZ D ops.toList (i:=0) rfl G k;rw[<-List.range_eq_range']at this;simp only[exec,lp,hd,I,if_true,W,false_eq_true,if_false,this];rfl);simp at h;simp at d;have⟨_,_,e⟩:=ζf.1 d;cases e|_=>simp only[bS]at d;(repeat' split at d)<;>first|(simp at d;done)|(have⟨_,_,e⟩:=ζf.1 d;cases e)|cases d
 |seq a b w B=>
  intro code F H r d h
  cases code with
  |seq J L=>simp only[bS]at d;split at d;rename_i x y C O;cases d;simp only[ji]at h;simp only[exec];(cases g:ji X.E N call lf a F H with|none=>rw[g]at h;simp at h|some q=>rw[g]at h;rw[w J F H q C g];have⟨o,F1,H1⟩:=q;cases o with|norm=>exact B L F1 H1 r O h|exit _=>exact h|ret=>exact h);simp at d
  |region id ops u=>simp only[bS]at d;(repeat' split at d)<;>first|(simp at d;done)|(have⟨_,_,e⟩:=ζf.1 d;cases e)
  |_=>simp only[bS]at d;(repeat' split at d)<;>first|(simp at d;done)|(have⟨_,_,e⟩:=ζf.1 d;cases e)|cases d
 |cond x a b w B=>
  intro code F H r d h
  cases code with
  |cond c J L=>simp only[bS]at d;split at d;rename_i n y z C O Y;cases d;simp only[ji]at h;simp only[exec,N8 (F:=F) D C];split at h;rename_i t Z;rw[Z];(cases t with|true=>simp only[if_true]at h⊢;exact w J F H r O h|false=>simp only[false_eq_true,if_false]at h⊢;exact B L F H r Y h);simp at h;simp at d
  |region id ops u=>simp only[bS]at d;(repeat' split at d)<;>first|(simp at d;done)|(have⟨_,_,e⟩:=ζf.1 d;cases e)
  |_=>simp only[bS]at d;(repeat' split at d)<;>first|(simp at d;done)|(have⟨_,_,e⟩:=ζf.1 d;cases e)|cases d
 |block id c Q=>
  intro code F H r d h
  cases code with
  |block S c'=>simp only[bS]at d;have⟨x,C,e⟩:=ζf.1 d;cases e;simp only[ji]at h;simp only[exec];cases g:ji X.E N call lf c F H with|none=>rw[g]at h;simp at h|some q=>rw[g]at h;rw[Q c' F H q C g];exact h
  |region id ops u=>simp only[bS]at d;(repeat' split at d)<;>first|(simp at d;done)|(have⟨_,_,e⟩:=ζf.1 d;cases e)
  |_=>simp only[bS]at d;(repeat' split at d)<;>first|(simp at d;done)|(have⟨_,_,e⟩:=ζf.1 d;cases e)|cases d
 |loop c Q=>
  intro code F H r d h
  cases code with
  |loop c'=>simp only[bS]at d;have⟨x,C,e⟩:=ζf.1 d;cases e;simp only[ji]at h;simp only[exec];exact Ll (λF H r m=>Q c' F H r C m) lf F H r h|region id ops u=>simp only[bS]at d;(repeat' split at d)<;>first|(simp at d;done)|(have⟨_,_,e⟩:=ζf.1 d;cases e)
  |_=>simp only[bS]at d;(repeat' split at d)<;>first|(simp at d;done)|(have⟨_,_,e⟩:=ζf.1 d;cases e)|cases d
 |exit id=>
  intro code F H r d h
  cases code with
  |exit S=>simp only[bS,ζa,RC.exit.injEq]at d;subst d;exact h|region id ops u=>simp only[bS]at d;(repeat' split at d)<;>first|(simp at d;done)|(have⟨_,_,e⟩:=ζf.1 d;cases e)
  |_=>simp only[bS]at d;(repeat' split at d)<;>first|(simp at d;done)|(have⟨_,_,e⟩:=ζf.1 d;cases e)|cases d
 |ret=>
  intro code F H r d h
  cases code with
  |ret=>exact h|region id ops u=>simp only[bS]at d;(repeat' split at d)<;>first|(simp at d;done)|(have⟨_,_,e⟩:=ζf.1 d;cases e)
  |_=>simp only[bS]at d;(repeat' split at d)<;>first|(simp at d;done)|(have⟨_,_,e⟩:=ζf.1 d;cases e)|cases d
 |_=>intro code F H r d h;simp[ji]at h
end
def Ex(E:Env)(N:Nat->Y')(a:RC)(F:WP)(H:bn)(o:Out)(F':WP)(H':bn):Prop:=∃n,∀k,n<=k->ji E N (run E k) k a F H=some (o,F',H')
def nZ(E:Env)(N:Nat->Y')(a:RC)(F:WP)(H:bn)(o:Out)(F':WP)(H':bn):Prop:=∃n,∀k,n<=k->∀u,n<=u->mF (ji E N (run E k) k a) u F H=some (o,F',H')
section
variable{E:Env}{N:Nat->Y'}{a b c:RC}{F F1 F':WP}{H H1 H':bn}{o:Out}{x:Arg}{id:Nat}
theorem Ex.ops{l:R0}(h:∃n,∀k,n<=k->cE E N (run E k) none l F H=some (F',H')):Ex E N (.ops l) F H .norm F' H':=let⟨n,h⟩:=h;⟨n,λk a=>by simp only[ji,h k a,map_some]⟩
theorem Ex.dn{l:R0}(h:∀call,cE E N call none l F H=some (F',H')):Ex E N (.ops l) F H .norm F' H':=Ex.ops ⟨0,λk _=>h _⟩
theorem Ex.rK{l:R0}(B:Aw l=true)(h:∀call,cE E N call (some H.length) l F H=some (F',H')):Ex E N (.rK l) F H .norm F' H':=⟨0,λk _=>by simp only[ji,B,if_true,h,map_some]⟩
theorem Ex.Oo{l:R0}(B:Aw l=true)(h:∃n,∀k,n<=k->cE E N (run E k) (some H.length) l F H=some (F',H')):Ex E N (.rK l) F H .norm F' H':=let⟨n,h⟩:=h;⟨n,λk a=>by simp only[ji,B,if_true,h k a,map_some]⟩
theorem Ex.skip:Ex E N .skip F H .norm F H:=⟨0,λ_ _=>rfl⟩
theorem Ex.exit:Ex E N (.exit id) F H (.exit id) F H:=⟨0,λ_ _=>rfl⟩
theorem Ex.ret:Ex E N .ret F H .ret F H:=⟨0,λ_ _=>rfl⟩
theorem Ex.seq(c:Ex E N a F H .norm F1 H1)(B:Ex E N b F1 H1 o F' H'):Ex E N (.seq a b) F H o F' H':=by have⟨n,c⟩:=c;have⟨m,B⟩:=B;exact⟨max n m,λk d=>by simp only[ji,c k Zaa];exact B k Zaa⟩
theorem Ex.wj(c:Ex E N a F H o F' H')(B:o≠.norm):Ex E N (.seq a b) F H o F' H':=by have⟨n,c⟩:=c;refine⟨n,λk d=>?_⟩;simp only[ji,c k d];cases o<;>first|exact absurd rfl B|rfl
theorem Ex.o7(B:eB N F x=.bool true)(h:Ex E N a F H o F' H'):Ex E N (.cond x a b) F H o F' H':=by have⟨n,h⟩:=h;exact⟨n,λk c=>by simp only[ji,B,if_true,h k c]⟩
theorem Ex.rQ(B:eB N F x=.bool false)(h:Ex E N b F H o F' H'):Ex E N (.cond x a b) F H o F' H':=by have⟨n,h⟩:=h;exact⟨n,λk c=>by simp only[ji,B,false_eq_true,if_false,h k c]⟩
theorem Ex.block(h:Ex E N c F H .norm F' H'):Ex E N (.block id c) F H .norm F' H':=by have⟨n,h⟩:=h;exact⟨n,λk a=>by simp only[ji,h k a]⟩
theorem Ex.w8(h:Ex E N c F H (.exit id) F' H'):Ex E N (.block id c) F H .norm F' H':=by have⟨n,h⟩:=h;exact⟨n,λk a=>by simp only[ji,h k a,if_true]⟩
theorem Ex.RD(h:Ex E N c F H .ret F' H'):Ex E N (.block id c) F H .ret F' H':=by have⟨n,h⟩:=h;exact⟨n,λk a=>by simp only[ji,h k a]⟩
theorem Ex.loop(h:nZ E N c F H o F' H'):Ex E N (.loop c) F H o F' H':=by have⟨n,h⟩:=h;exact⟨n,λk a=>h k a k a⟩
theorem nZ.step(a:Ex E N c F H .norm F1 H1)(B:nZ E N c F1 H1 o F' H'):nZ E N c F H o F' H':=by have⟨n,a⟩:=a;have⟨m,B⟩:=B;refine⟨max n m+1,λk b u w=>?_⟩;cases u with|zero=>omega|succ u=>simp only[mF,a k Zaa];exact B k Zaa u Zaa
theorem nZ.stop(a:Ex E N c F H o F' H')(B:o≠.norm):nZ E N c F H o F' H':=by have⟨n,a⟩:=a;refine⟨n+1,λk b u w=>?_⟩;cases u with|zero=>omega|succ u=>simp only[mF,a k Zaa];cases o<;>first|exact absurd rfl B|rfl
end
theorem Ex.run{E:Env}{nm:Y'->aY Nat}{N:Nat->Y'}(B:∀f s,nm f=some s->N s=f){f:Y'}{fi:FI}{a:RC}(D:E.ft f=some fi)(b:bS ⟨E,nm,fi.ntmps⟩ false fi.body=some a){args:So}(G:args.length<=fi.ntmps){H H':bn}{F':WP}
 (h:Ex E N a args H .ret F' H'){vs:So}(c:jD E F' H' fi.results=some vs):∃n,run E n (.fn f) args H=some (result vs,H'):=by
 have⟨n,h⟩:=h;refine⟨n+1,?_⟩;have:=Tp (X:=⟨E,nm,fi.ntmps⟩) (call:=Go.VE.run E n) B (lf:=n) a fi.body args H _ b (h n (le_refl _));simp only[Go.VE.run,lP,D,if_pos G,this,c,map_some]
@[simp] theorem ni(F:WP)(i j:Nat)(v:V):get (set F i v) j=if i=j then v else get F j:=by
 split;next h=>subst h;exact uR F i v
 rename_i h;exact kL F v h
def refs:ST->S'->S'
 |id::ids,r::rs=>[V.hsl id 1 0 r.length]::refs ids rs|_,_=>[]
def kZ(r:So):S':=r.map λu=>[u]
structure ov(H:bn)(w:V)(o:Nat)(ids:List Nat)(rows:List (List V)):Prop where
 v:w=if rows=[]then .bO else .hsl o 1 0 rows.length
 ob:rows≠[]->H[o]?=some (.row 1 (refs ids rows))
 len:ids.length=rows.length
 r:∀(i id:Nat)(r:List V),ids[i]?=some id->rows[i]?=some r->H[id]?=some (.row 1 (kZ r))
 nd:ids.Nodup
 ne:rows≠[]->o∉ids
theorem vS:∀{ids:ST}{rows:S'},ids.length=rows.length->(refs ids rows).length=rows.length
 |[],[],_=>rfl|_::ids,_::rows,h=>by simp only[refs,length_cons,vS (ids:=ids) (rows:=rows) (by simpa using h)]
theorem Lw:∀{ids:ST}{rows:S'}(id:Nat)(r:So),ids.length=rows.length->refs (ids++[id]) (rows++[r])=refs ids rows++[[V.hsl id 1 0 r.length]]
 |[],[],_,_,_=>rfl|_::ids,_::rows,id,r,h=>by simp only[refs,List.cons_append,Lw (ids:=ids) (rows:=rows) id r (by simpa using h)]
theorem Ey:∀{ids:ST}{rows:S'}{i id:Nat}{r:So},ids[i]?=some id->rows[i]?=some r->(refs ids rows)[i]?=some [V.hsl id 1 0 r.length]
 |[],_,_,_,_,h,_=>by simp at h|_::_,[],_,_,_,_,h=>by simp at h|a::ids,b::rows,0,id,r,h1,B=>by simp at h1 B;subst h1 B;rfl|a::ids,b::rows,i+1,id,r,h1,B=>by simpa[refs]using Ey (ids:=ids) (rows:=rows) (i:=i) (by simpa using h1) (by simpa using B)
theorem LW:∀{ids:ST}{rows:S'}{i:Nat}{r B:So},rows[i]?=some r->B.length=r.length->refs ids (rows.set i B)=refs ids rows
 |[],_,_,_,_,_,_=>by simp[refs]|_::_,[],_,_,_,_,_=>by simp[refs]|a::ids,b::rows,0,r,B,h,D=>by simp at h;subst h;simp only[List.set_cons_zero,refs,D]|a::ids,b::rows,i+1,r,B,h,D=>by simp only[List.set_cons_succ,refs,LW (ids:=ids) (rows:=rows) (i:=i) (by simpa using h) D]
section
variable{H H':bn}{v:V}{o:Nat}{ids:ST}{rows:S'}
theorem ov.nil(H:bn)(o:Nat):ov H .bO o [] []:=⟨rfl,λh=>absurd rfl h,rfl,λi id r h=>by simp at h,.nil,λh=>absurd rfl h⟩
theorem ov.heap(n:ov H v o ids rows)(B:rows≠[]->H'[o]?=H[o]?)(a:∀id∈ids,H'[id]?=H[id]?):ov H' v o ids rows:=⟨n.v,λh=>by rw[B h];exact n.ob h,n.len,λi id r h1 u=>by rw[a id (mem_of_getElem? h1)];exact n.r i id r h1 u,n.nd,n.ne⟩
theorem ov.lt(n:ov H v o ids rows):(rows≠[]->o<H.length)/\∀id∈ids,id<H.length:=by refine⟨λh=>(ζe.1 (n.ob h)).1,λid u=>?_⟩;have⟨i,a⟩:=getElem?_of_mem u;have w:=(ζe.1 a).1;have:=n.r i id _ a (ζd (show i<rows.length from n.len▸w));exact(ζe.1 this).1
theorem ov.more(n:ov H v o ids rows)(X:bn):ov (H++X) v o ids rows:=n.heap (λh=>getElem?_append_left (n.lt.1 h)) λid u=>getElem?_append_left (n.lt.2 id u)
theorem ov.push(n:ov H v o ids rows)(r:So)(U:rows.length+1<=2147483648):
 ∃H',fW (H++[.row 1 (kZ r)]++[.row 1 [[.hsl H.length 1 0 r.length]]]) (.append 1) [v,.hsl (H.length+1) 1 0 1]=some (.hsl (H.length+2) 1 0 (rows.length+1),H')/\
  ov H' (.hsl (H.length+2) 1 0 (rows.length+1)) (H.length+2) (ids++[H.length]) (rows++[r])/\H.length<=H'.length/\(∀id,id<H.length->id≠o\/rows=[]->H'[id]?=H[id]?):=by
 generalize C:H++[.row 1 (kZ r)]++[.row 1 [[.hsl H.length 1 0 r.length]]]=H2;have u:H2.length=H.length+2:=by subst C;simp
 have z:∀id,id<H.length->H2[id]?=H[id]?:=λid h=>by subst C;rw[append_assoc,getElem?_append_left h]
 have g:H2[H.length]?=some (.row 1 (kZ r)):=by subst C;simp
 have T:H2[H.length+1]?=some (.row 1 [[.hsl H.length 1 0 r.length]]):=by subst C;simp
 have f:=n.v;have e2:dW H2 1 (.hsl (H.length+1) 1 0 1)=some [[.hsl H.length 1 0 r.length]]:=by simp[dW,T,Ob.rows]
 by_cases c:rows=[]
 .subst c;rw[if_pos rfl]at f;subst f;have:ids=[]:=List.eq_nil_of_length_eq_zero n.len;subst this;refine⟨H2++[.row 1 [[.hsl H.length 1 0 r.length]]],?_,⟨Zab,λ_=>by rw[<-u];simp[refs],rfl,λi id O hi w=>?_,Zab,λ_=>Zab⟩,by simp[u];omega,λid D _=>?_⟩
  .have e1:dW H2 1 .bO=some []:=rfl;simp only[fW,e1,e2,iX,List.length_nil,length_singleton,map_some,u];simp
  .cases i with
   |zero=>simp at hi w;subst hi w;rw[getElem?_append_left Zaa];exact g|succ i=>simp at hi
  rw[getElem?_append_left Zaa];exact z id D
 rw[if_neg c]at f;subst f;have Q:=n.ob c;have I:=n.lt.1 c;have e1:dW H2 1 (.hsl o 1 0 rows.length)=some (refs ids rows):=by simp only[dW,if_true,z o I,Q,ζb,Ob.rows,vS n.len,zero_add,le_refl,drop_zero];rw[take_of_length_le (by rw[vS n.len];exact le_refl _)]
 have W:iX H2 (.hsl o 1 0 rows.length)=some (H2.set o .dead):=by simp only[iX,z o I,Q]
 have B:∀id,id≠o->(H2.set o Ob.dead++[Ob.row 1 (refs ids rows++[[.hsl H.length 1 0 r.length]])])[id]?=if id<H2.length then H2[id]?else(H2.set o Ob.dead++[Ob.row 1 (refs ids rows++[[.hsl H.length 1 0 r.length]])])[id]?:=λid G=>by split;(next h=>rw[getElem?_append_left (by simpa using h),getElem?_set_ne (Ne.symm G)]);rfl
 refine⟨H2.set o .dead++[.row 1 (refs ids rows++[[.hsl H.length 1 0 r.length]])],?_,⟨Zab,λ_=>?_,by simp[n.len],λi id O hi w=>?_,?_,λ_ d=>?_⟩,by simp[u];omega,λid D G=>?_⟩
 .simp only[fW,e1,e2,W,vS n.len,length_singleton,U,if_true,map_some,u]
 .rw[Lw _ _ n.len,<-u];simp
 .have J:id≠o:=by
   rcases Nat.lt_or_ge i ids.length with h|h
   .rw[getElem?_append_left h]at hi;intro e;subst e;exact n.ne c (mem_of_getElem? hi)
   have:i=ids.length:=by have:=(ζe.1 hi).1;simp at this;omega
   subst this;simp at hi;subst hi;omega
  rcases Nat.lt_or_ge i ids.length with h|h
  .rw[getElem?_append_left h]at hi;rw[getElem?_append_left (by rw[<-n.len];exact h)]at w
   have L:=n.lt.2 id (mem_of_getElem? hi);rw[B id J,if_pos Zaa,z id L]
   exact n.r i id O hi w
  have:i=ids.length:=by have:=(ζe.1 hi).1;simp at this;omega
  subst this;simp at hi;subst hi;rw[n.len]at w;simp at w;subst w;rw[B _ J,if_pos Zaa];exact g
 .rw[List.nodup_append];exact⟨n.nd,Zab,λa X b S=>by simp at S;subst S;exact Nat.ne_of_lt (n.lt.2 a X)⟩
 .rcases mem_append.1 d with d|d
  .have:=n.lt.2 _ d;omega
  simp at d
 rw[B id (G.resolve_right c),if_pos Zaa];exact z id D
end
theorem Dv{E:Env}{N:Nat->Y'}{F:WP}{H H1:bn}{call:dK}{b:aY Nat}{o:RO}{l:R0}{v:V}{r:WP×bn}(a:o.gd=none)(c:iI E N call b o.now o.k (o.az.map (eB N F)) H=some (v,H1))(h:cE E N call b l (iM F o.dst v) H1=some r):cE E N call b (o::l) F H=some r:=by simp only[cE,a,c];exact h
theorem vp{E:Env}{N:Nat->Y'}{F:WP}{H:bn}{call:dK}{b:aY Nat}{o:RO}{l:R0}{v:V}{r:WP×bn}(a:o.gd=none)(c:iI E N call b o.now o.k (o.az.map (eB N F)) H=some (v,H))(h:cE E N call b l (iM F o.dst v) H=some r):cE E N call b (o::l) F H=some r:=Dv a c h
theorem tW{E:Env}{N:Nat->Y'}{F:WP}{H:bn}{call:dK}{b:aY Nat}:cE E N call b [] F H=some (F,H):=rfl
theorem Al{n:Nat}(h:n<=2147483648):wrap .i64 ((n:Int)+1)=((n+1:Nat):Int):=by simp[wrap,IntKind.bits,signed];omega
theorem ab0{n:Nat}(h:n<=2147483648):wrap .i64 (((n+1:Nat):Int)-1)=(n:Int):=by simp[wrap,IntKind.bits,signed];omega
theorem EC(H:bn):H.take H.length=H:=List.take_length
theorem Es{E:Env}{nm:Y'->aY Nat}{f:Y'}{a:RC}{n:Nat}{rs:aX ResultVar}(h:((E.ft f).map λfi=>(bS ⟨E,nm,fi.ntmps⟩ false fi.body,ble n fi.ntmps,fi.results))=some (some a,true,rs)):
 ∃fi,E.ft f=some fi/\bS ⟨E,nm,fi.ntmps⟩ false fi.body=some a/\n<=fi.ntmps/\fi.results=rs:=by
 have⟨fi,b,u⟩:=ζf.1 h;simp only[ζc]at u;exact⟨fi,b,u.1,Nat.le_of_ble_eq_true u.2.1,u.2.2⟩
theorem Ia{x:V}(h:x.one=true):x.cells=[x]:=by cases x<;>first|rfl|(simp[V.one]at h)
theorem aaq{call:dK}{f:Y'}{args az:So}{H:bn}(h:borrows call.lv H args=some az)(a:∀x∈az,x.closed=true):ck call f args H=ck call f az []:=by
 have:borrows call.lv [] az=some az:=by clear h;unfold borrows;induction az with|nil=>rfl|cons x l u=>simp only[jl,eH call.lv [] (a x Zab),u λy w=>a y (List.mem_cons_of_mem _ w)]
 unfold ck;rw[h,this]
def kept(t:Nat->X')(n:Nat):ST:=(range n).filter λi=>i==0|| !t i
theorem zL(t:Nat->X')(n:Nat):kept t (n+1)=kept t n++if n==0|| !t n then[n]else[]:=by unfold kept;rw[List.range_succ,List.filter_append,List.filter_cons];rfl
theorem C8(t:Nat->X'):∀n,(kept t n).length<=n:=λn=>by unfold kept;exact Nat.le_trans (List.length_filter_le ..) Zab
theorem NA{t:Nat->X'}{n i:Nat}(h:i∈kept t n):i<n:=by unfold kept at h;exact mem_range.1 (List.mem_filter.1 h).1
theorem Ep{t:Nat->X'}:∀n,(∀i,0<i->i<n->t i=false)->kept t n=range n
 |0,_=>rfl|n+1,h=>by rw[zL,Ep n λi a B=>h i a Zaa,List.range_succ];congr 1;cases n with|zero=>rfl|succ n=>rw[h (n+1) Zaa Zaa];simp
theorem Ce{t:Nat->X'}{k:Nat}(b:0<k)(a:t k=true):∀n,k<n->(kept t n).length+1<=n
 |0,h=>Zaa|n+1,h=>by rw[zL];by_cases e:n=k;subst e;have:(n==0|| !t n)=false:=(by simp[a];omega);rw[this];have:=C8 t n;simp;omega;have:=Ce b a n Zaa;split<;>simp<;>omega
namespace cmpX
instance{n:Nat}:OfNat Arg n:=⟨.s n⟩
def r1:R0:=[o1 4 (.k (.bO)) []]
def r2:R0:=[o1 8 0 [],o2 9 (.p .lenSl) [8] [],o2 10 (.p (.bin (some .int) none .lss)) [9,.k (.int .i64 2)] []]
def r3:R0:=[o1 11 0 [],o1 4 11 []]
def r4:R0:=[o1 5 (.k (.int .i64 1)) []]
def r5:R0:=[o1 12 5 [],o1 13 0 [],o2 14 (.p .lenSl) [13] [],o2 15 (.p (.bin (some .int) none .lss)) [12,14] []]
def on(d:Nat)(k:K)(az:QR):RO:=⟨some d,none,true,k,az,[],[]⟩
def r6:R0:=[o1 18 1 [],o1 19 0 [],o1 20 5 [],o2 21 (.p (.idxS 1)) [19,20] [],o2 22 (.r (.load 1 false)) [21] [],o1 23 0 [],o1 24 5 [],o2 25 (.p (.bin (some .int) none .sub)) [24,.k (.int .i64 1)] [],o2 26 (.p (.idxS 1)) [23,25] [],o2 27 (.r (.load 1 false)) [26] [],on 28 .c [18,22,27]]
def r7:R0:=[o1 29 0 [],o1 30 5 [],o2 31 (.p (.slice 1 true false)) [29,30] [],o1 6 31 []]
def r8:R0:=[o1 7 (.k (.int .i64 1)) []]
def r9:R0:=[o1 32 7 [],o1 33 6 [],o2 34 (.p .lenSl) [33] [],o2 35 (.p (.bin (some .int) none .lss)) [32,34] []]
def Cp:R0:=[o1 38 1 [],o1 39 6 [],o1 40 7 [],o2 41 (.p (.idxS 1)) [39,40] [],o2 42 (.r (.load 1 false)) [41] [],o1 43 6 [],o1 44 7 [],o2 45 (.p (.bin (some .int) none .sub)) [44,.k (.int .i64 1)] [],o2 46 (.p (.idxS 1)) [43,45] [],o2 47 (.r (.load 1 false)) [46] [],on 48 .c [38,42,47],on 49 (.p (.not)) [48]]
def CN:R0:=[o1 50 0 [],o1 51 5 [],o1 52 6 [],o1 53 7 [],o2 54 (.p (.idxS 1)) [52,53] [],o2 55 (.r (.load 1 false)) [54] [],o2 56 (.p (.idxS 1)) [50,51] [],⟨none,none,false,.l (.store 1),[56,55],[],[]⟩]
def CC:R0:=[o1 57 5 [],o2 58 (.p (.bin (some .int) none .add)) [57,.k (.int .i64 1)] [],o1 5 58 []]
def Cs:R0:=[o1 36 7 [],o2 37 (.p (.bin (some .int) none .add)) [36,.k (.int .i64 1)] [],o1 7 37 []]
def L13:RC:=.seq (.seq (.ops r9) (.cond (.s 35) (.skip) (.exit 2))) (.seq (.block 3 (.seq (.rK Cp) (.cond (.s 49) (.seq (.ops CN) (.ops CC)) (.skip)))) (.ops Cs))
def BS:R0:=[o1 59 0 [],o1 60 5 [],o2 61 (.p (.slice 1 true false)) [59,60] [],⟨none,none,false,.l (.clear 1 [.bO]),[61],[],[]⟩]
def Cw:R0:=[o1 62 0 [],o1 63 5 [],o2 64 (.p (.slice 1 false true)) [62,63] [],o1 4 64 []]
def r16:R0:=[o1 16 5 [],o2 17 (.p (.bin (some .int) none .add)) [16,.k (.int .i64 1)] [],o1 5 17 []]
def Wt:RC:=.seq (.seq (.ops r5) (.cond (.s 15) (.skip) (.exit 0))) (.seq (.block 1 (.seq (.rK r6) (.cond (.s 28) (.seq (.ops r7) (.seq (.seq (.ops r8) (.block 2 (.loop L13))) (.seq (.ops BS) (.seq (.ops Cw) (.ret))))) (.skip)))) (.ops r16))
def Lh:R0:=[o1 65 0 [],o1 4 65 []]
def code:RC:=.seq (.ops r1) (.seq (.seq (.ops r2) (.cond (.s 10) (.seq (.ops r3) (.ret)) (.skip))) (.seq (.seq (.ops r4) (.block 0 (.loop Wt))) (.seq (.ops Lh) (.ret))))
section
variable{E:Env}{N:Nat->Y'}{F:WP}{H:bn}{call:dK}{id off L k:Nat}
theorem ld{B:S'}{el:Nat}{v:V}(h:H[id]?=some (.row 1 B))(a:B[el]?=some [v]):ey H (.load 1 false) [.hptr id el 0]=some v:=by simp[ey,eE,h,Ob.rows,a,cut,mk]
theorem V7{i:Nat}(h:i<L):nJ 1 (.hsl id 1 off L) (i:Int)=some (.hptr id (off+i) 0):=by unfold nJ;rw[if_neg Zaa];simp[h]
attribute [local simp] cE iI eB bN iM ni nj rD ey
theorem x2(a:get F 0=.hsl id 1 off L):∃F',(∀call,cE E N call none r2 F H=some (F',H))/\get F' 10=.bool (decide ((L:Int)<2))/\(∀s,s<8->get F' s=get F s):=by refine⟨_,λcall=>by simp[r2,a,oZ];rfl,Zab,?_⟩;simp;grind
theorem x5(a:get F 0=.hsl id 1 off L)(b:get F 5=.int .i64 k):∃F',(∀call,cE E N call none r5 F H=some (F',H))/\get F' 15=.bool (decide (k<L))/\(∀s,s<8->get F' s=get F s):=by refine⟨_,λcall=>by simp[r5,a,b,oZ];rfl,Zab,?_⟩;simp;grind
theorem aaY{g:Y'}{cb:So}{B:S'}{o2 L2 i:Nat}{a b:V}{t:X'}(h:H[id]?=some (.row 1 B))(f:i+1<L2)(D:i<=2147483648)(G:B[o2+(i+1)]?=some [a])(J:B[o2+i]?=some [b])(d:E.keep g=false)(e:get F 1=.clo g [] cb):
 (get F 0=.hsl id 1 o2 L2->get F 5=.int .i64 ((i+1:Nat):Int)->∃F',(∀call,ck call g (a::b::cb) H=some (.bool t)->cE E N call (some H.length) r6 F H=some (F',H))/\get F' 28=.bool t/\(∀s,s<8->get F' s=get F s))/\
 (get F 6=.hsl id 1 o2 L2->get F 7=.int .i64 ((i+1:Nat):Int)->∃F',(∀call,ck call g (a::b::cb) H=some (.bool t)->cE E N call (some H.length) Cp F H=some (F',H))/\get F' 49=.bool (!t)/\(∀s,s<8->get F' s=get F s)):=by
 have hd:=ab0 D;have e1:=ld h G;have e2:=ld h J;have i1:=V7 (id:=id) (off:=o2) (L:=L2) f;have i2:=V7 (id:=id) (off:=o2) (L:=L2) (show i<L2 by omega)
 simp at i1 hd;refine⟨λj k=>⟨_,λcall c=>by simp[-ey,r6,on,j,e,k,i1,i2,e1,e2,hd,d,c,V.scalar,EC];rfl,Zab,?_⟩,λf6 l=>⟨_,λcall c=>by simp[-ey,Cp,on,e,f6,l,i1,i2,e1,e2,hd,d,c,V.scalar,EC];rfl,Zab,?_⟩⟩<;>exactλs u=>by simp;repeat (rw[if_neg Zaa])
end
end cmpX
namespace cmpX
section
variable{E:Env}{N:Nat->Y'}{F:WP}{H:bn}{call:dK}{id off L k:Nat}
attribute [local simp] cE iI eB bN iM ni nj rD ey
theorem x7(a:get F 0=.hsl id 1 off L)(b:get F 5=.int .i64 k)(c:k<=L):∃F',(∀call,cE E N call none r7 F H=some (F',H))/\get F' 6=.hsl id 1 (off+k) (L-k)/\(∀s,s<8->s≠6->get F' s=get F s):=by
 have e:jA 1 (.hsl id 1 off L) (some k) none=some (.hsl id 1 (off+k) (L-k)):=by unfold jA ez;grind
 refine⟨_,λcall=>by simp[r7,a,b,ot,e];rfl,Zab,?_⟩;simp;grind
theorem x9{o2 L2 m:Nat}(f6:get F 6=.hsl id 1 o2 L2)(a:get F 7=.int .i64 m):∃F',(∀call,cE E N call none r9 F H=some (F',H))/\get F' 35=.bool (decide (m<L2))/\(∀s,s<8->get F' s=get F s):=by refine⟨_,λcall=>by simp[r9,f6,a,oZ];rfl,Zab,?_⟩;simp;grind
theorem x11{B:S'}{o2 L2 m p:Nat}{a z:V}(h:H[id]?=some (.row 1 B))(c:get F 0=.hsl id 1 off L)(d:get F 5=.int .i64 p)(f6:get F 6=.hsl id 1 o2 L2)(e:get F 7=.int .i64 m)(D:m<L2)(hp:p<L)
 (G:B[o2+m]?=some [a])(J:B[off+p]?=some [z])(b:a.one=true):
 ∃F',(∀call,cE E N call none CN F H=some (F',H.set id (.row 1 (B.set (off+p) [a]))))/\(∀s,s<8->get F' s=get F s):=by
 have i1:=V7 (id:=id) (off:=o2) D;have i2:=V7 (id:=id) (off:=off) hp;have e1:=ld h G;have u:fW H (.store 1) [.hptr id (off+p) 0,a]=some (.undef,H.set id (.row 1 (B.set (off+p) [a]))):=by simp[fW,h,J,Ia b,b]
 refine⟨_,λcall=>by simp[-ey,CN,c,d,f6,e,i1,i2,e1,u];rfl,?_⟩
 simp;grind
theorem OP{p:Nat}(hp:p<=2147483648):(get F 5=.int .i64 p->∃F',(∀call,cE E N call none CC F H=some (F',H))/\get F' 5=.int .i64 ((p+1:Nat):Int)/\(∀s,s<8->s≠5->get F' s=get F s))/\
 (get F 7=.int .i64 p->∃F',(∀call,cE E N call none Cs F H=some (F',H))/\get F' 7=.int .i64 ((p+1:Nat):Int)/\(∀s,s<8->s≠7->get F' s=get F s))/\
 (get F 5=.int .i64 p->∃F',(∀call,cE E N call none r16 F H=some (F',H))/\get F' 5=.int .i64 ((p+1:Nat):Int)/\(∀s,s<8->s≠5->get F' s=get F s)):=by
 have u:=Al hp;refine⟨λf=>⟨_,λcall=>by simp[CC,f,u];rfl,Zab,?_⟩,λf=>⟨_,λcall=>by simp[Cs,f,u];rfl,Zab,?_⟩,λf=>⟨_,λcall=>by simp[r16,f,u];rfl,Zab,?_⟩⟩<;>
  (simp;grind)
theorem x14{B:S'}{p:Nat}(h:H[id]?=some (.row 1 B))(a:get F 0=.hsl id 1 off L)(b:get F 5=.int .i64 p)(hp:p<L)(D:off+L<=B.length):
 ∃F',(∀call,cE E N call none BS F H=some (F',H.set id (.row 1 (B.take (off+p)++replicate (L-p) [.bO]++B.drop (off+L)))))/\(∀s,s<8->get F' s=get F s):=by
 have e:jA 1 (.hsl id 1 off L) (some p) none=some (.hsl id 1 (off+p) (L-p)):=by unfold jA ez;grind
 obtain⟨q,u⟩:∃q,L-p=q+1:=⟨L-p-1,Zaa⟩
 have c:fW H (.clear 1 [.bO]) [.hsl id 1 (off+p) (L-p)]=some (.undef,H.set id (.row 1 (B.take (off+p)++replicate (L-p) [.bO]++B.drop (off+L)))):=by simp[fW,Fk,u,h];grind
 refine⟨_,λcall=>by simp[BS,a,b,ot,e,c];rfl,?_⟩
 simp;grind
theorem Wu{p:Nat}(a:get F 0=.hsl id 1 off L)(b:get F 5=.int .i64 p)(hp:p<=L):∃F',(∀call,cE E N call none Cw F H=some (F',H))/\get F' 4=.hsl id 1 off p:=by
 have e:jA 1 (.hsl id 1 off L) none (some p)=some (.hsl id 1 off p):=by unfold jA ez;grind
 exact⟨_,λcall=>by simp[Cw,a,b,ot,e];rfl,Zab⟩
theorem xmv:∃F',(∀call,cE E N call none Lh F H=some (F',H))/\get F' 4=get F 0:=⟨_,λcall=>by simp[Lh];rfl,Zab⟩
theorem UB:∃F',(∀call,cE E N call none r3 F H=some (F',H))/\get F' 4=get F 0:=⟨_,λcall=>by simp[r3];rfl,Zab⟩
end
structure JK(E:Env)(g:FuncId)(cb:List V)(H:bn)(id off L:Nat)(rs:List (List V))(A:Nat->V)(t:Nat->Bool):Prop where
 row:H[id]?=some (.row 1 rs)
 len:off+L<=rs.length
 small:L<=2147483648
 at_:∀i,i<L->rs[off+i]?=some [A i]
 one:∀i,i<L->(A i).one=true
 keep:E.keep g=false
 cmp:∃n,∀k,n<=k->∀i,i+1<L->∀cur,ck (run E k) g (A (i+1)::A i::cb) (H.set id (.row 1 cur))=some (.bool (t (i+1)))
structure Head(g:FuncId)(cb:List V)(id off L kk m:Nat)(rs:List (List V))(A:Nat->V)(t:Nat->Bool)(F:Frame)(cur:List (List V)):Prop where
 f0:get F 0=.hsl id 1 off L
 f1:get F 1=.clo g [] cb
 f5:get F 5=.int .i64 ((kept t (kk+m)).length:Nat)
 f6:get F 6=.hsl id 1 (off+kk) (L-kk)
 f7:get F 7=.int .i64 m
 len:cur.length=rs.length
 pre:∀p i,(kept t (kk+m))[p]?=some i->cur[off+p]?=some [A i]
 post:∀i,kk+m<=i+1->i<L->cur[off+i]?=some [A i]
 out:∀j,j<off\/off+L<=j->cur[j]?=rs[j]?
 cell:∀i,i<L->∃j,j<L/\cur[off+i]?=some [A j]
section
variable{E:Env}{N:Nat->Y'}{g:Y'}{cb:So}{H:bn}{id off L kk:Nat}{rs:S'}{A:Nat->V}{t:Nat->X'}
theorem Qm(X:JK E g cb H id off L rs A t)(x:0<kk)(ah:kk<L)(y:t kk=true):∀(d m:Nat)(F:WP)(B:S'),kk+m+d=L->0<m->Head g cb id off L kk m rs A t F B->
 ∃F' D,nZ E N L13 F (H.set id (.row 1 B)) (.exit 2) F' (H.set id (.row 1 D))/\Head g cb id off L kk (L-kk) rs A t F' D:=by
 have O:=(ζe.1 X.row).1;have G:∀B,(H.set id (.row 1 B))[id]?=some (.row 1 B):=λB=>getElem?_set_self O
 have ai:=X.small;have af:=X.len;intro d
 induction d with
 |zero=>
  intro m F B M P h;have R:m=L-kk:=Zaa
  subst R;obtain⟨F1,e1,e2,e3⟩:=x9 h.f6 h.f7;refine⟨F1,B,nZ.stop (Ex.wj (Ex.seq (Ex.dn e1) (Ex.rQ (by simp[eB,e2]) Ex.exit)) Zab) Zab,?_⟩
  exact⟨by rw[e3 0 Zaa];exact h.f0,by rw[e3 1 Zaa];exact h.f1,by rw[e3 5 Zaa];exact h.f5,by rw[e3 6 Zaa];exact h.f6,by rw[e3 7 Zaa];exact h.f7,h.len,h.pre,h.post,h.out,h.cell⟩
 |succ d ih=>
  intro m F B M P h;obtain⟨F1,a1,a2,a3⟩:=x9 h.f6 h.f7;have T:eB N F1 35=.bool true:=by show get F1 35=_;rw[a2,decide_eq_true Zaa]
  obtain⟨m',rfl⟩:∃m',m=m'+1:=⟨m-1,Zaa⟩
  obtain⟨n0,ab⟩:=X.cmp;have q:B[off+kk+(m'+1)]?=some [A (kk+m'+1)]:=by have:=h.post (kk+m'+1) Zaa Zaa;grind
  have c2:B[off+kk+m']?=some [A (kk+m')]:=by have:=h.post (kk+m') Zaa Zaa;grind
  obtain⟨F2,b1,b,b3⟩:=(aaY (L2:=L-kk) (G B) Zaa Zaa q c2 X.keep (by rw[a3 1 Zaa];exact h.f1)).2 (by rw[a3 6 Zaa];exact h.f6) (by rw[a3 7 Zaa];exact h.f7)
  have U:∃n,∀k,n<=k->cE E N (run E k) (some (H.set id (.row 1 B)).length) Cp F1 (H.set id (.row 1 B))=some (F2,H.set id (.row 1 B)):=⟨n0,λk hk=>b1 _ (ab k hk (kk+m') Zaa B)⟩
  have w:=λs r=>(b3 s r).trans (a3 s r)
  have ad:(kept t (kk+(m'+1))).length+1<=kk+(m'+1):=Ce x y _ Zaa
  have u:kept t (kk+(m'+1)+1)=kept t (kk+(m'+1))++if t (kk+m'+1)then[]else[kk+m'+1]:=by rw[zL];grind
  have z:kk+(m'+1+1)=kk+(m'+1)+1:=Zaa
  cases W:t (kk+m'+1)with
  |true=>
   rw[W]at b u;simp at u;obtain⟨v,Y,c,Q⟩:=(OP (p:=m'+1) Zaa).2.1 (by rw[w 7 Zaa];exact h.f7)
   obtain⟨F',D,i1,i2⟩:=ih (m'+1+1) v B Zaa Zaa ⟨by rw[Q 0 Zaa Zaa,w 0 Zaa];exact h.f0,by rw[Q 1 Zaa Zaa,w 1 Zaa];exact h.f1,
    by rw[Q 5 Zaa Zaa,w 5 Zaa,z,u];exact h.f5,by rw[Q 6 Zaa Zaa,w 6 Zaa];exact h.f6,c,h.len,by rw[z,u];exact h.pre,λi a Z=>h.post i Zaa Z,h.out,h.cell⟩
   exact⟨F',D,nZ.step (Ex.seq (Ex.seq (Ex.dn a1) (Ex.o7 T Ex.skip)) (Ex.seq (Ex.block (Ex.seq (Ex.Oo (by decide) U) (Ex.rQ (by simp[eB,b]) Ex.skip))) (Ex.dn Y))) i1,i2⟩
  |false=>
   rw[W]at b u;generalize f:(kept t (kk+(m'+1))).length=K at *;obtain⟨_,_,hz⟩:=h.cell K Zaa
   obtain⟨v,Y,c⟩:=x11 (G B) (by rw[w 0 Zaa];exact h.f0) (by rw[w 5 Zaa,h.f5,f]) (by rw[w 6 Zaa];exact h.f6) (by rw[w 7 Zaa];exact h.f7) Zaa Zaa q hz (X.one _ Zaa)
   rw[set_set]at Y;generalize I:B.set (off+K) [A (kk+m'+1)]=J at Y;have l:∀j,J[j]?=if j=off+K then some [A (kk+m'+1)]else B[j]?:=λj=>by rw[<-I,List.getElem?_set];by_cases e:off+K=j;rw[if_pos e,if_pos e.symm,if_pos (by rw[h.len];omega)];rw[if_neg e,if_neg (Ne.symm e)]
   obtain⟨F4,Q,q4,q5⟩:=(OP (p:=K) Zaa).1 (by rw[c 5 Zaa,w 5 Zaa,h.f5,f])
   have C:∀s,s<8->s≠5->get F4 s=get F s:=λs a Z=>by rw[q5 s a Z,c s a,w s a]
   obtain⟨F5,q6,q7,o⟩:=(OP (p:=m'+1) Zaa).2.1 (by rw[C 7 Zaa Zaa];exact h.f7)
   obtain⟨F',D,i1,i2⟩:=ih (m'+1+1) F5 J Zaa Zaa ⟨by rw[o 0 Zaa Zaa,C 0 Zaa Zaa];exact h.f0,by rw[o 1 Zaa Zaa,C 1 Zaa Zaa];exact h.f1,
    by rw[o 5 Zaa Zaa,q4,z,u,ζi,f];rfl,by rw[o 6 Zaa Zaa,C 6 Zaa Zaa];exact h.f6,q7,by rw[<-I,List.length_set];exact h.len,
    λp i S=>by rw[z,u]at S;rw[l];by_cases e:p=K;subst e;rw[<-f,getElem?_append_right (le_refl _),Nat.sub_self]at S;cases S;rw[if_pos rfl];have ae:p<(kept t (kk+(m'+1))).length:=(by have:=(ζe.1 S).1;simp at this;omega);rw[getElem?_append_left ae]at S;rw[if_neg Zaa];exact h.pre p i S,
    λi a Z=>by rw[l,if_neg Zaa];exact h.post i Zaa Z,λj hj=>by rw[l,if_neg Zaa];exact h.out j hj,
    λi hi=>by rw[l];by_cases e:off+i=off+K;rw[if_pos e];exact⟨_,Zaa,rfl⟩;rw[if_neg e];exact h.cell i hi⟩
   exact⟨F',D,nZ.step (Ex.seq (Ex.seq (Ex.dn a1) (Ex.o7 T Ex.skip)) (Ex.seq (Ex.block (Ex.seq (Ex.Oo (by decide) U) (Ex.o7 (by simp[eB,b]) (Ex.seq (Ex.dn Y) (Ex.dn Q))))) (Ex.dn q6))) i1,i2⟩
structure Th(off L:Nat)(rs:List (List V))(A:Nat->V)(t:Nat->Bool)(rs':List (List V)):Prop where
 len:rs'.length=rs.length
 pre:∀p i,(kept t L)[p]?=some i->rs'[off+p]?=some [A i]
 all:∀c∈rs',c∈rs\/c=[.bO]
theorem Pw(X:JK E g cb H id off L rs A t):∀(d k:Nat)(F:WP),k+d=L->0<k->(∀i,0<i->i<k->t i=false)->get F 0=.hsl id 1 off L->get F 1=.clo g [] cb->get F 5=.int .i64 k->
 (∃F',nZ E N Wt F H (.exit 0) F' H/\get F' 0=.hsl id 1 off L/\∀i,0<i->i<L->t i=false)\/
 (∃F' D,nZ E N Wt F H .ret F' (H.set id (.row 1 D))/\get F' 4=.hsl id 1 off (kept t L).length/\Th off L rs A t D):=by
 have Q:=(ζe.1 X.row).1;have S:=tJ X.row;have ah:=X.small;have af:=X.len;intro d
 induction d with
 |zero=>
  intro k F he r hp b v e;have ek:k=L:=Zaa
  subst ek;obtain⟨F1,e1,e2,e3⟩:=x5 (N:=N) b e;exact .inl ⟨F1,nZ.stop (Ex.wj (Ex.seq (Ex.dn e1) (Ex.rQ (by simp[eB,e2]) Ex.exit)) Zab) Zab,Zac,hp⟩
 |succ d ih=>
  intro k F he r hp b v e;obtain⟨F1,a1,a2,a3⟩:=x5 b e;have U:eB N F1 15=.bool true:=by show get F1 15=_;rw[a2,decide_eq_true Zaa]
  obtain⟨u,rfl⟩:∃u,k=u+1:=⟨k-1,Zaa⟩
  obtain⟨n0,ai⟩:=X.cmp;obtain⟨y,b1,f,b3⟩:=(aaY (N:=N) (cb:=cb) (g:=g) (i:=u) (L2:=L) (t:=t (u+1)) X.row Zaa Zaa (X.at_ _ Zaa) (X.at_ _ Zaa) X.keep (by rw[a3 1 Zaa];omega)).1 Zac Zac
  have W:∃n,∀k,n<=k->cE E N (run E k) (some H.length) r6 F1 H=some (y,H):=⟨n0,λk r=>b1 _ (by
   grind)⟩
  have Y:=λs M=>(b3 s M).trans (a3 s M)
  cases w:t (u+1)with
  |false=>
   rw[w]at f;obtain⟨T,l,m,h⟩:=(OP (E:=E) (F:=y) (p:=u+1) Zaa).2.2 Zac
   have z:Ex E N Wt F H .norm T H:=Ex.seq (Ex.seq (Ex.dn a1) (Ex.o7 U Ex.skip)) (Ex.seq (Ex.block (Ex.seq (Ex.Oo (by decide) W) (Ex.rQ (by simp[eB,f]) Ex.skip))) (Ex.dn l))
   rcases ih (u+1+1) T Zaa Zaa (λi P Z=>by
    grind) Zac Zad m with⟨F',i1,i2⟩|⟨F',D,i1,i2⟩
   .exact .inl ⟨F',nZ.step z i1,i2⟩
   exact .inr ⟨F',D,nZ.step z i1,i2⟩
  |true=>
   rw[w]at f;refine .inr ?_;obtain⟨T,l,m,h⟩:=x7 (E:=E) (N:=N) (H:=H) (k:=u+1) (by rw[Y 0 Zaa];exact b) (by rw[Y 5 Zaa];exact e) Zaa
   have G:kept t (u+1)=range (u+1):=Ep _ hp;have R:kept t (u+1+1)=range (u+1):=by rw[zL,G,w];simp
   have q4:∀call,cE E N call none r8 T H=some (set T 7 (.int .i64 1),H):=λcall=>vp rfl (by simp[iI,eB,bN]) tW
   have h0:Head g cb id off L (u+1) 1 rs A t (set T 7 (.int .i64 1)) rs:=⟨by rw[kL _ _ Zaa,h 0 Zaa Zaa,Y 0 Zaa];exact b,by rw[kL _ _ Zaa,h 1 Zaa Zaa,Y 1 Zaa];exact v,
    by rw[kL _ _ Zaa,h 5 Zaa Zaa,Y 5 Zaa,R,length_range];exact e,by rw[kL _ _ Zaa];exact m,by rw[uR];rfl,rfl,
    λp i B=>by rw[R]at B;obtain⟨P,Z⟩:=ζe.1 B;simp at P Z;subst Z;exact X.at_ p Zaa,λi _ Z=>X.at_ i Z,λ_ _=>rfl,λi V=>⟨i,V,X.at_ i V⟩⟩
   obtain⟨F5,C,l1,I⟩:=Qm (N:=N) X Zaa Zaa w (L-(u+1)-1) 1 _ rs Zaa Zaa h0
   rw[S]at l1;have eL:u+1+(L-(u+1))=L:=Zaa
   have ae:=Ce (t:=t) (k:=u+1) Zaa w L Zaa
   have o:=I.f5;have J:=I.pre;rw[eL]at o J;generalize hK:(kept t L).length=K at *;have ab:(H.set id (.row 1 C))[id]?=some (.row 1 C):=getElem?_set_self Q;obtain⟨F6,w1,w2⟩:=x14 (E:=E) (N:=N) (p:=K) ab I.f0 o Zaa (by rw[I.len];omega)
   rw[set_set]at w1;obtain⟨F7,w3,w4⟩:=Wu (E:=E) (by rw[w2 0 Zaa];exact I.f0) (by rw[w2 5 Zaa];exact o) Zaa
   have aj:=I.len;refine⟨F7,C.take (off+K)++replicate (L-K) [.bO]++C.drop (off+L),nZ.stop (Ex.seq (Ex.seq (Ex.dn a1) (Ex.o7 U Ex.skip)) (Ex.wj (Ex.RD (Ex.seq (Ex.Oo (by decide) W) (Ex.o7 (by simp[eB,f]) (Ex.seq (Ex.dn l) (Ex.seq (Ex.seq (Ex.dn q4) (Ex.w8 (Ex.loop l1))) (Ex.seq (Ex.dn w1) (Ex.seq (Ex.dn w3) Ex.ret))))))) Zab)) Zab,w4,?_,λp i B=>?_,λc a=>?_⟩
   .simp;omega
   .have ak:p<K:=by rw[<-hK];exact(ζe.1 B).1
    rw[append_assoc,getElem?_append_left (by simp;omega),getElem?_take,if_pos Zaa]
    exact J p i B
   have ad:∀j x,C[j]?=some x->x∈rs:=λj x O=>by by_cases ho:j<off\/off+L<=j;rw[I.out j ho]at O;exact mem_of_getElem? O;obtain⟨i,rfl⟩:∃i,j=off+i:=⟨j-off,Zaa⟩;obtain⟨q,hq,a⟩:=I.cell i Zaa;rw[a]at O;cases O;exact mem_of_getElem? (X.at_ q hq)
   rcases mem_append.1 a with a|a
   .rcases mem_append.1 a with a|a
    .obtain⟨j,O⟩:=getElem?_of_mem (List.mem_of_mem_take a);exact .inl (ad j c O)
    exact .inr (List.eq_of_mem_replicate a)
   obtain⟨j,O⟩:=getElem?_of_mem (List.mem_of_mem_drop a);exact .inl (ad j c O)
end
end cmpX
def BD(E:Env)(g:Y')(cb:So)(a b:V):aY X':=match Et E g cb a b with|some (.bool c)=>some c|_=>none
theorem Z5{E:Env}{g:Y'}{cb:So}{a b:V}{c:X'}(h:BD E g cb a b=some c):∃n,∀k,n<=k->ck (run E k) g (a::b::cb) []=some (.bool c):=by
 unfold BD at h;split at h;next c' d=>cases h;exact Hl d
 cases h
def nW(xs:S')(i:Nat):V:=kA ((xs[i]?).getD [])
def Av(E:Env)(es:Nat)(xs:S'):So->aY S'
 |[.clo g [] cb]=>if xs.isEmpty then some []else if wA es xs&& !E.keep g then
  if(range xs.length).all λi=>i==0||(BD E g cb (nW xs i) (nW xs (i-1))).isSome then
   some ((kept (λi=>(BD E g cb (nW xs i) (nW xs (i-1))).getD false) xs.length).map λi=>(xs[i]?).getD [])
  else none
  else none
 |_=>none
def uU(E:Env):Iz:=⟨true,Av E⟩
namespace cmpX
section
variable{E:Env}{N:Nat->Y'}{g:Y'}{cb:So}{H:bn}{id off L:Nat}{rs:S'}{A:Nat->V}{t:Nat->X'}
theorem whole(X:JK E g cb H id off L rs A t):∃F' B,Ex E N code [.hsl id 1 off L,.clo g [] cb] H .ret F' (H.set id (.row 1 B))/\get F' 4=.hsl id 1 off (kept t L).length/\Th off L rs A t B:=by
 have u:H.set id (.row 1 rs)=H:=tJ X.row;have same:(∀i,0<i->i<L->t i=false)->(kept t L).length=L/\Th off L rs A t rs:=λh=>by have d:=Ep L h;rw[d,length_range];exact⟨rfl,rfl,λp i O=>by rw[d]at O;have⟨a,w⟩:=ζe.1 O;simp at a w;subst w;exact X.at_ p a,λc b=>.inl b⟩
 have g1:∀call,cE E N call none r1 [.hsl id 1 off L,.clo g [] cb] H=some (set [.hsl id 1 off L,.clo g [] cb] 4 .bO,H):=λcall=>vp (v:=.bO) rfl (by simp[iI,eB,bN]) tW;have k0:get (set [V.hsl id 1 off L,.clo g [] cb] 4 .bO) 0=.hsl id 1 off L:=rfl;have k1:get (set [V.hsl id 1 off L,.clo g [] cb] 4 .bO) 1=.clo g [] cb:=rfl;generalize set [V.hsl id 1 off L,.clo g [] cb] 4 .bO=Q at *;have⟨F1,a1,a2,a3⟩:=x2 (E:=E) (N:=N) (H:=H) k0;by_cases S:L<2;have⟨z,C,D⟩:=UB (E:=E) (N:=N) (F:=F1) (H:=H);have⟨e1,e2⟩:=same λi a w=>by omega
 refine⟨z,rs,?_,by rw[e1,D,a3 0 Zaa];exact k0,e2⟩;rw[u];exact Ex.seq (Ex.dn g1) (Ex.wj (Ex.seq (Ex.dn a1) (Ex.o7 (by show get F1 10=_;rw[a2,decide_eq_true Zaa]) (Ex.seq (Ex.dn C) Ex.ret))) Zab);have g4:∀call,cE E N call none r4 F1 H=some (set F1 5 (.int .i64 1),H):=λcall=>vp (v:=.int .i64 1) rfl (by simp[iI,eB,bN]) tW;have b:Ex E N (.seq (.ops r2) (.cond (.s 10) (.seq (.ops r3) (.ret)) (.skip))) Q H .norm F1 H:=Ex.seq (Ex.dn a1) (Ex.rQ (by show get F1 10=_;rw[a2,decide_eq_false Zaa]) Ex.skip);rcases Pw (N:=N) X (L-1) 1 (set F1 5 (.int .i64 1)) Zaa Zaa (λi a w=>Zaa) (by rw[kL _ _ Zaa,a3 0 Zaa];exact k0) (by rw[kL _ _ Zaa,a3 1 Zaa];exact k1) (by rw[uR];rfl)with⟨F',G,I,J⟩|⟨F',B,G,I,J⟩;have⟨z,C,D⟩:=xmv (E:=E) (N:=N) (F:=F') (H:=H);have⟨e1,e2⟩:=same J;refine⟨z,rs,?_,by rw[e1,D];exact I,e2⟩;rw[u];exact Ex.seq (Ex.dn g1) (Ex.seq b (Ex.seq (Ex.seq (Ex.dn g4) (Ex.w8 (Ex.loop G))) (Ex.seq (Ex.dn C) Ex.ret)));exact⟨F',B,Ex.seq (Ex.dn g1) (Ex.seq b (Ex.wj (Ex.seq (Ex.dn g4) (Ex.RD (Ex.loop G))) Zab)),I,J⟩
theorem empty{w:V}(c:V)(B:w=.bO\/w=.dQ):∃F',Ex E N code [w,c] H .ret F' H/\get F' 4=w:=by
 have g1:∀call,cE E N call none r1 [w,c] H=some (set [w,c] 4 .bO,H):=λcall=>vp (v:=.bO) rfl (by simp[iI,eB,bN]) tW;have k0:get (set [w,c] 4 .bO) 0=w:=rfl;generalize set [w,c] 4 .bO=u at *;have z:oZ w=some (.int .i64 0):=by rcases B with rfl|rfl<;>rfl
 have a1:∃F1,(∀call,cE E N call none r2 u H=some (F1,H))/\get F1 10=.bool true/\get F1 0=w:=by refine⟨_,λcall=>vp (v:=w) rfl ?_<|vp (v:=.int .i64 0) rfl ?_<|vp (v:=.bool true) rfl ?_ tW,?_,?_⟩;simp[iI,eB,bN,k0];simp[iI,eB,bN,iM,z];simp[iI,eB,bN,iM,nj,rD];simp[iM];simp[iM,k0]
 have⟨F1,a1,a2,a3⟩:=a1;have⟨C,D,G⟩:=UB (E:=E) (N:=N) (F:=F1) (H:=H);exact⟨C,Ex.seq (Ex.dn g1) (Ex.wj (Ex.seq (Ex.dn a1) (Ex.o7 a2 (Ex.seq (Ex.dn D) Ex.ret))) Zab),by rw[G,a3]⟩
end
end cmpX
theorem UH{E:Env}{f:Y'}{nm:Y'->aY Nat}{N:Nat->Y'}(hN:∀f s,nm f=some s->N s=f)(l:E.keep f=true)(ho:E.own f=false)
 (hf:∃fi,E.ft f=some fi/\bS ⟨E,nm,fi.ntmps⟩ false fi.body=some cmpX.code/\2<=fi.ntmps/\fi.results=[.tmp 4]):pK E f (uU E):=by
 have⟨fi,h1,h2,h3,h4⟩:=hf;have D:∀{w c:V}{H H':bn}{F':WP}{r:V},Ex E N cmpX.code [w,c] H .ret F' H'->get F' 4=r->∃n,∀k,n<=k->run E k (.fn f) [w,c] H=some (r,H'):=λ{w c H H' F' r}P R=>by have⟨n,G⟩:=Ex.run hN h1 h2 (args:=[w,c]) (by simpa using h3) P (vs:=[r]) (by rw[h4];simp[jD,R]);exact⟨n,λk l=>(qh E l).go _ _ _ _ G⟩
 refine⟨l,ho,?_,?_,?_⟩
 .intro es z vs ys h;simp only[uU,Av]at h;refine⟨?_,λe=>by simp[uU]at e⟩
  split at h
  .split at h
   .cases h;simp
   split at h
   .split at h
    .cases h;simpa using C8 _ _
    cases h
   cases h
  cases h
 .intro es vs ys h H Z ws w hw he;simp only[uU,Av]at h;split at h
  .obtain⟨t,r,rfl,q1,K⟩:=hw.inv;rw[K.dg];have⟨F',e1,e2⟩:=cmpX.empty (E:=E) (N:=N) (H:=H) t he;have⟨n,G⟩:=D e1 e2;exact⟨n,[],λk l=>by rw[append_nil];exact G k l⟩
  cases h
 intro es z vs ys h H Z ws id off rs hw S T ae J hz;simp only[uU,Av]at h;split at h
 .rename_i g cb;obtain⟨t,r,rfl,q1,K⟩:=hw.inv;rw[K.dg];obtain⟨a',B,rfl,ha,af⟩:∃a' B,t=.clo g a' B/\dG H Z [] a'/\dG H Z cb B:=q1.lT;rw[ha.dg]at *;split at h
  .rename_i he;cases h;have:z=[]:=by simpa using he
   subst this;have e2:∃F',Ex E N cmpX.code [.hsl id es off 0,.clo g [] B] H .ret F' H/\get F' 4=.hsl id es off 0:=by have g1:∀call,cE E N call none cmpX.r1 [.hsl id es off 0,.clo g [] B] H=some (set [.hsl id es off 0,.clo g [] B] 4 .bO,H):=λcall=>vp (v:=.bO) rfl (by simp[iI,eB,bN]) tW;have k0:get (set [V.hsl id es off 0,.clo g [] B] 4 .bO) 0=.hsl id es off 0:=rfl;generalize set [V.hsl id es off 0,.clo g [] B] 4 .bO=F0 at *;have a1:∃F1,(∀call,cE E N call none cmpX.r2 F0 H=some (F1,H))/\get F1 10=.bool true/\get F1 0=.hsl id es off 0:=(by refine⟨_,λcall=>vp (v:=.hsl id es off 0) rfl ?_<|vp (v:=.int .i64 0) rfl ?_<|vp (v:=.bool true) rfl ?_ tW,?_,?_⟩;simp[iI,eB,bN,k0];simp[iI,eB,bN,iM,oZ];simp[iI,eB,bN,iM,nj,rD];simp[iM];simp[iM,k0]);have⟨F1,a1,a2,a3⟩:=a1;have⟨F2,b1,b2⟩:=cmpX.UB (E:=E) (N:=N) (F:=F1) (H:=H);exact⟨F2,Ex.seq (Ex.dn g1) (Ex.wj (Ex.seq (Ex.dn a1) (Ex.o7 a2 (Ex.seq (Ex.dn b1) Ex.ret))) Zab),by rw[b2,a3]⟩
   have⟨F',e1,e3⟩:=e2;have⟨n,G⟩:=D e1 e3;refine⟨n,rs,[],λk l=>?_,rfl,⟨rfl,λj u v m=>by simp at m⟩,J⟩
   rw[append_nil,tJ S];exact G k l
  rename_i al;split at h
  .rename_i L;simp only[ζh,Bool.not_eq_true']at L;have⟨c1,c3⟩:=L;obtain⟨rfl,U,W⟩:=AK c1;split at h
   .rename_i Y;cases h;have O:∀i,i<z.length->∃a,rs[off+i]?=some [a]/\FR H Z (nW z i) a/\a.one=true:=λi d=>by
     have⟨e,p2⟩:=W i z[i] (ζd d);have Q:off+i<rs.length:=Zaa
     have:=ae.2 i z[i] rs[off+i] (ζd d) (by rw[getElem?_take,if_pos d,getElem?_drop,ζd Q])
     rw[e]at this;have⟨y,ys,e2,r1,r2⟩:=this.inv;rw[r2.dg]at e2;have e3:nW z i=kA z[i]:=by unfold nW;rw[ζd d];rfl
     exact⟨y,by rw[ζd Q,e2],by rw[e3];exact r1,by rw[r1.one];exact p2⟩
    let A:Nat->V:=λi=>match rs[off+i]?with|some (a::_)=>a|_=>.undef
    have o:∀i,i<z.length->rs[off+i]?=some [A i]/\FR H Z (nW z i) (A i)/\(A i).one=true:=λi d=>by have⟨a,p1,p2,p4⟩:=O i d;have:A i=a:=(by show(match rs[off+i]?with|some (a::_)=>a|_=>V.undef)=a;rw[p1]);rw[this];exact⟨p1,p2,p4⟩
    have aa:∀i,i+1<z.length->∃b,BD E g cb (nW z (i+1)) (nW z i)=some b:=λi d=>by have:=all_eq_true.1 Y (i+1) (mem_range.2 d);simp only[Nat.add_sub_cancel,Bool.or_eq_true]at this;rcases this with h|h;simp at h;exact Option.isSome_iff_exists.1 h
    have X:cmpX.JK E g B H id off z.length rs A (λi=>(BD E g cb (nW z i) (nW z (i-1))).getD false):=by refine⟨S,T,U,λi d=>(o i d).1,λi d=>(o i d).2.2,c3,?_⟩;have⟨M,hM⟩:=G6 (n:=z.length-1) (p:=λi k=>ck (run E k) g (nW z (i.1+1)::nW z i.1::cb) []=some (.bool ((BD E g cb (nW z (i.1+1)) (nW z i.1)).getD false))) (λi=>by have⟨b,Q⟩:=aa i.1 (by have:=i.2;omega);have⟨n,G⟩:=Z5 Q;exact⟨n,λk l=>by rw[G k l,Q];rfl⟩);have⟨L1,ah⟩:=oa ((range z.length).map (nW z));have⟨L2,ai⟩:=oa cb;have ab:∀i k,i<z.length->L1<=k->(nW z i).lvl k=true:=λi k d l=>Au l (oA.1 ah i _ (by simp[d]));refine⟨max M (max L1 L2),λk l i d ad=>?_⟩;have C:∀j,Z j->Z j/\br (H.set id (.row 1 ad)) j=br H j:=λj q=>⟨q,by unfold br;rw[getElem?_set_ne];rintro rfl;exact hz q⟩;have hl:dG (H.set id (.row 1 ad)) Z (nW z (i+1)::nW z i::cb) (A (i+1)::A i::B):=.cons ((o _ d).2.1.mono C) (.cons ((o i Zaa).2.1.mono C) (af.mono C));have Q:=hl.N6 (k:=k) (by simp only[V.ng,ab _ k d Zaa,ab i k Zaa Zaa,q9 (by omega:L2<=k) ai,Bool.and_self]);rw[aaq (by rw[qf];exact Q) (λx P=>?_)];exact hM ⟨i,Zaa⟩ k Zaa;have⟨j,q⟩:=getElem?_of_mem P;have⟨y,hy,R⟩:=hl.get q;exact V.mB R.good
    have⟨F',aj,e1,e2,e3⟩:=cmpX.whole (N:=N) X;have⟨n,G⟩:=D e1 e2;refine⟨n,aj,[],λk l=>?_,e3.len,?_,?_⟩
    .simp only[uU,if_true,length_map,append_nil];exact G k l
    .refine⟨by simp[e3.len];have:=C8 (λi=>(BD E g cb (nW z i) (nW z (i-1))).getD false) z.length;omega,λp a b hp hq=>?_⟩
     rw[getElem?_map]at hp;obtain⟨i,d,rfl⟩:=ζf.1 hp;have I:=NA (mem_of_getElem? d);have ak:=(ζe.1 d).1;rw[getElem?_take,if_pos (by simpa using ak),getElem?_drop,e3.pre p i d]at hq
     cases hq;rw[ζd I,getD_some];have e4:=(W i z[i] (ζd I)).1;have e5:nW z i=kA z[i]:=by unfold nW;rw[ζd I];rfl
     rw[e4,<-e5];exact .cons (o i I).2.1 .nil
    intro c hc u m;rcases e3.all c hc with h|rfl
    .exact J c h u m
    simp at m;subst m;exact⟨.bO,.same _ rfl⟩
   cases h
  cases h
 cases h
def Sl.re{α:Type}(s:Sl α)(l:aX α):Sl α:=match s with|.nil=>.nil|.emp=>.emp|.row _=>.row l|.part _=>.part l
def Sl.vv{α:Type}(s:Sl α)(l:aX α):Sl α:=match s with|.nil=>.nil|.emp=>.emp|.row _|.part _=>.part l
def Bq{α:Type}(s:Sl α)(p:α->α->Ps):aY (Sl α):=
 match s.l with
 |[]=>some s|x::l=>if l.length<2147483648 then
  let t:_root_.Fin (l.length+1)->_root_.Fin (l.length+1)->Ps:=λi j=>p (x::l)[i.1] (x::l)[j.1]
  if Db t then some (s.re ((tc l.length (rR t)).toList.map λi=>(x::l)[i.1]))else none
  else none
def vw{α:Type}(l:aX α)(p:α->α->aY X')(i:Nat):aY X':=match l[i]?,l[i-1]?with|some a,some b=>p a b|_,_=>none
def z6{α:Type}(s:Sl α)(p:α->α->aY X'):aY (Sl α):=
 if s.l.length<=2147483648/\((range s.l.length).all λi=>i==0||(vw s.l p i).isSome)=true then
  some (s.vv ((kept (λi=>(vw s.l p i).getD false) s.l.length).filterMap (s.l[·]?)))
 else none
section
variable{S:Sys}{T:sH}{β γ δ α:Type}{Q:Out×St->aY β}{e:γ->aY β}{cf:Cf}
theorem eR.Rs(B:sR S T)(D:∀f a b xs,S.items f a b=some xs->eU S f a b xs){fn:Y'}{A:δ->So}{E:α->So}{p:δ->aY α}{sc:X'}(F:eR S (di S T) fn A E p sc){z:δ}{r:α}(h:p z=some r)(d:V.cH (A z)=true):
 ∃n,ck (run S.E n) fn (A z) []=some (result (E r)):=by
 have e:=F.h z (E r) Zad
 have⟨⟨rs,m'⟩,u,w⟩:=ζg.1 e;have⟨n,y,H2,e1,e2,e3⟩:=EU (wB B D) d u w;refine⟨n,?_⟩;have C:borrows n [] (A z)=some (A z):=by have c:=V.qx d;generalize A z=l at c;unfold borrows;induction l with|nil=>rfl|cons x l G=>simp[V.jm]at c;simp[jl,eH n [] c.1,G c.2]
 unfold ck;rw[qf,C];simp[e1 n (le_refl _),e2 n (le_refl _),V.mB e3]
section
variable[bD α]
theorem Gq(b:bD.size α=1){l:aX α}(B:l.length<=2147483648):wA (bD.size α) (rows l)=true:=by unfold wA;simp;refine⟨⟨b,λx u=>?_⟩,by simpa[rows]using B⟩;obtain⟨a,_,rfl⟩:=mem_map.1 u;exact⟨by rw[g_,b],all_eq_true.1 (bD.one a)⟩
theorem HN(b:bD.agg α=false)(a:α):kA (cells a)=enc a:=by unfold enc;rw[if_neg Zac];rfl
theorem Ej(l:aX α)(i:Nat)(h:i<l.length):(rows l)[i]?=some (cells l[i]):=by unfold rows;grind
theorem Yy(U:sR S T)(W:∀f a b xs,S.items f a b=some xs->eU S f a b xs){g:Y'}{p:α->α->Ps}(F:eR S (di S T) g (λz:α×α=>[enc z.1,enc z.2]) (λr:Int=>[.int .i64 r]) (λz=>p z.1 z.2) true)
 (c:bD.size α=1)(Y:bD.agg α=false){s D:Sl α}(h:Bq s p=some D):CY S.E (bD.size α) (rows s.l) [.clo g [] []]=some (rows D.l)/\D.k=s.k:=by
 unfold Bq at h;split at h
 next B=>cases h;rw[B];exact⟨rfl,rfl⟩
 rename_i x l B;split at h
 .dsimp only at h;split at h
  .rename_i I;cases h;rw[B];have⟨u,J⟩:=sN I;have C:=Gq c (l:=x::l) Zac
   have key:∀m,m=l.length->(if Db (λi j:_root_.Fin (m+1)=>uQ S.E g [] (kA (((rows (x::l))[i.1]?).getD [])) (kA (((rows (x::l))[j.1]?).getD [])))then
    some ((tc m (rR (λi j:_root_.Fin (m+1)=>uQ S.E g [] (kA (((rows (x::l))[i.1]?).getD [])) (kA (((rows (x::l))[j.1]?).getD []))))).toList.map λi=>((rows (x::l))[i.1]?).getD [])else none)=
    some (rows ((tc l.length (rR λi j:_root_.Fin (l.length+1)=>p (x::l)[i.1] (x::l)[j.1])).toList.map λi=>(x::l)[i.1])):=by
    rintro m rfl;have e1:∀i:_root_.Fin (l.length+1),kA (((rows (x::l))[i.1]?).getD [])=enc (x::l)[i.1]:=λi=>by rw[Ej (x::l) i.1 i.2,getD_some,HN Y]
    have e2:(λi j:_root_.Fin (l.length+1)=>uQ S.E g [] (kA (((rows (x::l))[i.1]?).getD [])) (kA (((rows (x::l))[j.1]?).getD [])))=λi j=>p (x::l)[i.1] (x::l)[j.1]:=by funext i j;have⟨z,L⟩:=u i j;rw[e1 i,e1 j,L];have⟨n,O⟩:=F.Rs U W (z:=((x::l)[i.1],(x::l)[j.1])) L (by simp[V.cH,kP]);unfold uQ;rw[NU O];rfl
    rw[e2,if_pos I]
    congr 1
    unfold rows;rw[List.map_map];refine List.map_congr_left λi _=>?_
    grind
   have w:(s.re ((tc l.length (rR λi j:_root_.Fin (l.length+1)=>p (x::l)[i.1] (x::l)[j.1])).toList.map λi=>(x::l)[i.1])).l=(tc l.length (rR λi j:_root_.Fin (l.length+1)=>p (x::l)[i.1] (x::l)[j.1])).toList.map (λi=>(x::l)[i.1])/\(s.re ((tc l.length (rR λi j:_root_.Fin (l.length+1)=>p (x::l)[i.1] (x::l)[j.1])).toList.map λi=>(x::l)[i.1])).k=s.k:=by cases s<;>simp[Sl.l]at B<;>exact⟨rfl,rfl⟩
   refine⟨?_,w.2⟩;rw[w.1,<-key (rows l).length (iZ l)];have d:(wA (bD.size α) (rows (x::l))&& !S.E.keep g)=true:=by rw[C,F.k];rfl
   have G:=d;exact(if_pos G).trans rfl
  simp_all
 simp_all
theorem XN(W:sR S T)(Y:∀f a b xs,S.items f a b=some xs->eU S f a b xs){g:Y'}{p:α->α->aY X'}(F:eR S (di S T) g (λz:α×α=>[enc z.1,enc z.2]) (λr:X'=>[.bool r]) (λz=>p z.1 z.2) true)
 (e:bD.size α=1)(k:bD.agg α=false){s D:Sl α}(h:z6 s p=some D):Av S.E (bD.size α) (rows s.l) [.clo g [] []]=some (rows D.l)/\D=s.vv D.l:=by
 have Q:∀l:aX α,(s.vv l)=s.vv (s.vv l).l:=λl=>by cases s<;>rfl
 refine⟨?_,by
  unfold z6 at h;grind⟩
 unfold z6 at h;split at h
 .rename_i hc;cases h;have⟨X,u⟩:=hc;have I:=Gq e X;simp only[Av]
  by_cases J:s.l=[]
  .have:(s.vv ((kept (λi=>(vw s.l p i).getD false) s.l.length).filterMap (s.l[·]?))).l=[]:=by
    cases s<;>simp[Sl.l]at J<;>simp[Sl.vv,Sl.l,J,kept]
   rw[this,J];rfl
  have L:(rows s.l).isEmpty=false:=by cases o:s.l with|nil=>grind|cons a l=>rfl
  rw[L,if_neg Zab,I,F.k,if_pos (by rfl),iZ]
  have e1:∀i,0<i->i<s.l.length->∃b,vw s.l p i=some b/\BD S.E g [] (nW (rows s.l) i) (nW (rows s.l) (i-1))=some b:=λi m c=>by have:=all_eq_true.1 u i (mem_range.2 c);simp at this;have⟨b,C⟩:=Option.isSome_iff_exists.1 (this.resolve_left Zaa);refine⟨b,C,?_⟩;have w:i-1<s.l.length:=Zaa;unfold vw at C;rw[ζd c,ζd w]at C;have U:∀j(G:j<s.l.length),nW (rows s.l) j=enc s.l[j]:=λj G=>(by unfold nW;rw[Ej _ _ G,getD_some,HN k]);rw[U i c,U (i-1) w];have⟨n,Z⟩:=F.Rs W Y (z:=(s.l[i],s.l[i-1])) C (by simp only[V.cH,kP,Bool.and_self]);unfold BD;rw[NU Z];rfl
  have e2:((range s.l.length).all λi=>i==0||(BD S.E g [] (nW (rows s.l) i) (nW (rows s.l) (i-1))).isSome)=true:=by grind
  rw[if_pos e2];have e3:kept (λi=>(BD S.E g [] (nW (rows s.l) i) (nW (rows s.l) (i-1))).getD false) s.l.length=kept (λi=>(vw s.l p i).getD false) s.l.length:=by refine List.filter_congr λi c=>?_;by_cases m:i=0;grind;have⟨b,q,t⟩:=e1 i Zaa (mem_range.1 c);simp_all
  rw[e3];have e4:(s.vv ((kept (λi=>(vw s.l p i).getD false) s.l.length).filterMap (s.l[·]?))).l=(kept (λi=>(vw s.l p i).getD false) s.l.length).filterMap (s.l[·]?):=by cases s<;>first|rfl|grind
  rw[e4]
  congr 1
  generalize d:kept (λi=>(vw s.l p i).getD false) s.l.length=O
  have B:∀i∈O,i<s.l.length:=λi c=>NA (d▸c)
  clear d e3 e4
  induction O with
  |nil=>rfl|cons i O ih=>
   have c:=B i Zab
   rw[map_cons,ih λj G=>B j (List.mem_cons_of_mem _ G),Ej _ _ c,List.filterMap_cons,ζd c]
   rfl
 simp_all
theorem UZ{s B:Sl α}{p:α->α->Ps}(h:Bq s p=some B)(a:cR s.k=false):B=s:=by cases s<;>simp[Sl.k,cR]at a<;>simpa[Bq,Sl.l]using h.symm
theorem abY(n d:Nat)(D:sR S T)(G:∀f a b xs,S.items f a b=some xs->eU S f a b xs){fn g:Y'}(hp:S.prm fn=some (uX S.E)){p:α->α->Ps}
 (F:eR S (di S T) g (λz:α×α=>[enc z.1,enc z.2]) (λr:Int=>[.int .i64 r]) (λz=>p z.1 z.2) true){s:Sl α}{f:Sl α->aY γ}
 (h:∀B,Bq s p=some B->Le ((f B).bind e) (bZ S (di S T) Q (nx S (di S T) n cf λq=>cW {q.st with m:=bM q.st.m d (cK B)} q.d (.v .undef))))
 (i:bD.size α=1:=by rfl)(J:bD.agg α=false:=by rfl)
 (U:(gx S (di S T) n cf).map (λq=>(q.k,bW S.N q.st.g q.az,bl q.st.m d,q.dr))=some (.c,some [.v (.clo fn [] []),.own d,.v (.clo g [] [])],some (cK s),false):=by kernel_rfl):Le (((Bq s p).bind f).bind e) (bZ S (di S T) Q cf):=by
 have⟨q,C,c⟩:=eZ U;simp at c;have⟨I,L,O,W⟩:=c;refine sG C ?_ h;rw[I,W];intro y w;have⟨B,u,w⟩:=ζg.1 w;have⟨e1,e2⟩:=Yy D G F i J u;have j:=(D.prm fn _ hp).keep;have X:=(D.prm fn _ hp).own;rw[xS false _ _ _ _ _ _ fn [.own d,.v (.clo g [] [])] L rfl];have l:fN S (di S T) q.d false (!false||q.now) (gB q.st.m q.fr) fn [.own d,.v (.clo g [] [])] q.st=some (.v .undef,{q.st with m:=bM q.st.m d (cK B)}):=by unfold fN;simp[j,X,hp,EY,O,cK,dz];have e3:=e1;simp[uX];cases k:cR s.k with|true=>grind|false=>have:=UZ u k;grind
 grind
theorem abk(n d t:Nat)(D:sR S T)(G:∀f a b xs,S.items f a b=some xs->eU S f a b xs){fn g:Y'}(hp:S.prm fn=some (uU S.E)){p:α->α->aY X'}
 (F:eR S (di S T) g (λz:α×α=>[enc z.1,enc z.2]) (λr:X'=>[.bool r]) (λz=>p z.1 z.2) true){s:Sl α}{f:Sl α->aY γ}
 (h:∀B,z6 s p=some B->Le ((f B).bind e) (bZ S (di S T) Q (nx S (di S T) n cf λq=>{q.st with g:=bM q.st.g t (.own t),m:=bM (eF d q.st.m) t (cK B)})))
 (i:bD.size α=1:=by rfl)(J:bD.agg α=false:=by rfl)
 (U:(gx S (di S T) n cf).map (λq=>(q.k,bW S.N q.st.g q.az,bl q.st.m d,q.dr,q.d,St.new {q.st with m:=eF d q.st.m} t))=some (.c,some [.v (.clo fn [] []),.own d,.v (.clo g [] [])],some (cK s),false,some t,true):=by kernel_rfl):Le (((z6 s p).bind f).bind e) (bZ S (di S T) Q cf):=by
 have⟨q,C,c⟩:=eZ U;simp at c;have⟨I,L,O,W,X,Y⟩:=c;refine sG C ?_ h;rw[I,W,X];intro y u;have⟨B,w,u⟩:=ζg.1 u;cases u;have⟨e1,e2⟩:=XN D G F i J w;have j:=(D.prm fn _ hp).keep;have Z:=(D.prm fn _ hp).own;rw[xS false _ _ _ _ _ _ fn [.own d,.v (.clo g [] [])] L rfl];have k:fN S (di S T) (some t) false (!false||q.now) (gB q.st.m q.fr) fn [.own d,.v (.clo g [] [])] q.st=some (.own t,{q.st with m:=bM (eF d q.st.m) t (cK B)}):=by unfold fN;simp[j,Z,hp,EY,O,cK,dz];have e3:(uU S.E).go (bD.size α) (rows s.l) [.clo g [] []]=some (rows B.l):=e1;rw[e3];simp[uU,Y];have e4:(if cR s.k=true then bJ.sl .part (bD.size α) (rows B.l)else .sl s.k (bD.size α) (rows s.l))=.sl B.k (bD.size α) (rows B.l):=(by rw[e2];cases s<;>rfl);rw[e4]
 rw[k];rfl
end
end
section
variable{H H':bn}{w:V}{o:Nat}{ids:ST}{rows:S'}
theorem ov.cell(n:ov H w o ids rows){p j:Nat}{r:So}{u:V}(a:rows[p]?=some r)(c:r[j]?=some u):
 ∃id,ids[p]?=some id/\nJ 1 w (p:Int)=some (.hptr o p 0)/\ey H (.load 1 false) [.hptr o p 0]=some (.hsl id 1 0 r.length)/\nJ 1 (.hsl id 1 0 r.length) (j:Int)=some (.hptr id j 0)/\ey H (.load 1 false) [.hptr id j 0]=some u:=by
 have D:=(ζe.1 a).1;have G:=(ζe.1 c).1;have B:rows≠[]:=by intro e;subst e;simp at a
 have C:p<ids.length:=by rw[n.len];exact D
 have z:=ζd C;refine⟨ids[p],z,?_,?_,?_,?_⟩
 .have:=n.v;rw[if_neg B]at this;subst this;simp[nJ,D]
 .have b:=n.ob B;have I:=Ey z a;simp[ey,eE,b,Ob.rows,I,cut];rfl
 .simp[nJ,G]
 have b:=n.r p _ r z a;simp[ey,eE,b,Ob.rows,kZ,c,cut];rfl
theorem Ra{ids:ST}(h:ids.Nodup){i j:Nat}{a:Nat}(c:ids[i]?=some a)(B:ids[j]?=some a):i=j:=by have b:=(ζe.1 c);have u:=(ζe.1 B);have⟨b,e1⟩:=b;have⟨u,e2⟩:=u;exact(List.getElem_inj h).1 (e1.trans e2.symm)
theorem ov.set(n:ov H w o ids rows){p j id:Nat}{r:So}{u:V}(b:rows[p]?=some r)(U:j<r.length)(B:ids[p]?=some id)(d:V.one u=true)(f:u.cells=[u]):
 ∃H',fW H (.store 1) [.hptr id j 0,u]=some (.undef,H')/\ov H' w o ids (rows.set p (r.set j u))/\H'.length=H.length/\(∀i,i≠id->H'[i]?=H[i]?):=by
 have L:=(ζe.1 b).1;have z:rows≠[]:=by intro e;subst e;simp at b
 have c:=n.r p id r B b;have O:id<H.length:=(ζe.1 c).1;have D:(kZ r).set j [u]=kZ (r.set j u):=by simp[kZ,List.map_set]
 have G:o≠id:=λe=>n.ne z (e▸mem_of_getElem? B)
 refine⟨H.set id (.row 1 (kZ (r.set j u))),?_,⟨?_,λ_=>?_,by simp[n.len],λi I Q a C=>?_,n.nd,λ_=>n.ne z⟩,Zab,λi a=>getElem?_set_ne (Ne.symm a)⟩
 .have S:(kZ r)[j]?=some [r[j]]:=by simp[kZ,U]
  simp only[fW,c,S,f,length_singleton,zero_add,le_refl,all_cons,d,List.all_nil,Bool.and_self,and_self,if_true,List.take_zero,nil_append];rw[<-D];simp
 .rw[n.v];have:rows.set p (r.set j u)≠[]:=by intro e;apply z;simpa using e
  rw[if_neg z,if_neg this,List.length_set]
 .rw[getElem?_set_ne (Ne.symm G),LW b Zab];exact n.ob z
 by_cases e:i=p
 .subst e;rw[B]at a;cases a;rw[getElem?_set_self L]at C;cases C;rw[getElem?_set_self O]
 rw[getElem?_set_ne (Ne.symm e)]at C;have J:id≠I:=λT=>e (Ra n.nd (T▸a) B)
 rw[getElem?_set_ne J];exact n.r i I Q a C
end
structure lX(H:bn)(w:V)(l:List (List V))(id:Nat):Prop where
 c:∀c∈l,c.length=2/\c.all V.one=true
 v:(w=.bO/\l=[])\/∃off xs,w=.hsl id 2 off l.length/\H[id]?=some (.row 2 xs)/\off+l.length<=xs.length/\(xs.drop off).take l.length=l
section
variable{H H':bn}{w:V}{l:S'}{id:Nat}
theorem lX.heap(n:lX H w l id)(h:∀off n,w=.hsl id 2 off n->H'[id]?=H[id]?):lX H' w l id:=⟨n.c,n.v.imp (λh=>h) λ⟨off,u,e1,e2,e3,e4⟩=>⟨off,u,e1,by rw[h _ _ e1];exact e2,e3,e4⟩⟩
theorem lX.lt(n:lX H w l id){off m:Nat}(h:w=.hsl id 2 off m):id<H.length:=by rcases n.v with⟨e,_⟩|⟨_,u,_,e2,_⟩;rw[e]at h;cases h;exact(ζe.1 e2).1
theorem lX.more(n:lX H w l id)(X:bn):lX (H++X) w l id:=n.heap λ_ _ e=>getElem?_append_left (n.lt e)
theorem lX.len(n:lX H w l id):oZ w=some (.int .i64 l.length):=by rcases n.v with⟨rfl,rfl⟩|⟨off,u,rfl,_⟩<;>rfl
theorem lX.get(n:lX H w l id){i:Nat}{c:So}(a:l[i]?=some c):∃p,nJ 2 w (i:Int)=some p/\ey H (.load 2 true) [p]=some (.agg c):=by
 have b:=(ζe.1 a).1;have u:=(n.c c (mem_of_getElem? a)).1;rcases n.v with⟨_,rfl⟩|⟨off,z,rfl,e2,e3,e4⟩;simp at a;refine⟨.hptr id (off+i) 0,by simp[nJ,b],?_⟩;have:z[off+i]?=some c:=by rw[<-e4,getElem?_take,if_pos b,getElem?_drop]at a;exact a
 simp[ey,eE,e2,Ob.rows,this,cut,<-u];rfl
theorem lX.tail{c:So}(n:lX H w (c::l) id):∃w',jA 2 w (some 1) none=some w'/\lX H w' l id/\∃off m B,w=.hsl id 2 off m/\w'=.hsl id 2 B l.length:=by
 rcases n.v with⟨_,e⟩|⟨off,u,rfl,e2,e3,e4⟩;cases e;refine⟨.hsl id 2 (off+1) l.length,?_,⟨λc a=>n.c c (List.mem_cons_of_mem _ a),.inr ⟨off+1,u,rfl,e2,by simp at e3;omega,?_⟩⟩,⟨_,_,_,rfl,rfl⟩⟩;simp[jA,ez];omega;have hd:(u.drop off).drop 1=u.drop (off+1):=by rw[List.drop_drop]
 rw[<-hd];have:=congrArg (List.drop 1) e4;rw[List.drop_take]at this;simpa using this
theorem lX.push(n:lX H w l id){c:So}(b:c.length=2/\c.all V.one=true)(B:l.length+1<=2147483648):
 ∃H',fW (H++[.row 2 [c]]) (.append 2) [w,.hsl H.length 2 0 1]=some (.hsl (H.length+1) 2 0 (l.length+1),H')/\lX H' (.hsl (H.length+1) 2 0 (l.length+1)) (l++[c]) (H.length+1)/\H'.length=H.length+2/\(∀i,i<H.length->(∀off m,w=.hsl id 2 off m->i≠id)->H'[i]?=H[i]?):=by
 have e2:dW (H++[.row 2 [c]]) 2 (.hsl H.length 2 0 1)=some [c]:=by simp[dW,Ob.rows]
 have u:∀c'∈l++[c],c'.length=2/\c'.all V.one=true:=λc' h=>by rcases mem_append.1 h with h|h;exact n.c c' h;simp at h;subst h;exact b
 rcases n.v with⟨rfl,rfl⟩|⟨off,D,rfl,g2,g3,g4⟩
 .have e1:dW (H++[.row 2 [c]]) 2 .bO=some []:=rfl;refine⟨H++[.row 2 [c]]++[.row 2 [c]],?_,⟨u,.inr ⟨0,[c],rfl,Zab,Zab,rfl⟩⟩,Zab,λi a _=>by rw[append_assoc,getElem?_append_left a]⟩
  simp only[fW,e1,e2,iX,List.length_nil,length_singleton,map_some];simp
 have z:=(ζe.1 g2).1;have e1:dW (H++[.row 2 [c]]) 2 (.hsl id 2 off l.length)=some l:=by simp only[dW,if_true,getElem?_append_left z,g2,ζb,Ob.rows,g3,g4]
 have C:iX (H++[.row 2 [c]]) (.hsl id 2 off l.length)=some (List.set (H++[Ob.row 2 [c]]) id Ob.dead):=by simp only[iX,getElem?_append_left z,g2]
 refine⟨List.set (H++[Ob.row 2 [c]]) id Ob.dead++[Ob.row 2 (l++[c])],?_,⟨u,.inr ⟨0,l++[c],Zab,Zab,Zab,take_of_length_le Zab⟩⟩,Zab,λi a h=>?_⟩
 .simp only[fW,e1,e2,C,length_singleton,B,if_true,map_some,ζi]
 rw[getElem?_append_left (by simp;omega),getElem?_set_ne (Ne.symm (h _ _ rfl)),getElem?_append_left a]
end
def B0(rs:aX RV):Out×St->aY bJ
 |(.exit _,_)=>none|(_,st)=>(l8 st rs).bind λl=>match l with
  |[.own d]=>bl st.m d|_=>none
theorem goO{S:Sys}{c:cm}{rs:aX RV}{a:RC}{st:St}{ob:bJ}(h:me S c (B0 rs) a [] st=some ob):∃o st' d,cN S c a st=some (o,st')/\(∀id,o≠.exit id)/\l8 st' rs=some [.own d]/\bl st'.m d=some ob:=by
 rw[rq]at h;have⟨⟨o,st'⟩,b,u⟩:=ζg.1 h;have z:∀id,o≠.exit id:=by rintro id rfl;simp[B0]at u
 have B:(l8 st' rs).bind (λl=>match l with|[.own d]=>bl st'.m d|_=>none)=some ob:=by cases o with|exit id=>exact absurd rfl (z id)|norm=>exact u|ret=>exact u
 have⟨l,C,w⟩:=ζg.1 B;split at w;exact⟨o,st',_,b,z,C,w⟩;cases w
theorem aax{S:Sys}{T:sH}(U:sR S T)(W:∀f a b xs,S.items f a b=some xs->eU S f a b xs){f:Y'}{rf:RF}(Y:T f=some rf){B:So}(g:V.cH B=true)(l:B.length<=rf.na){k:Fl}{es:Nat}{xs:S'}
 (m:∀x∈xs,x.all V.scalar=true)(r:k=.row\/k=.nil/\xs=[])(h:me S (di S T) (B0 rf.rs) rf.body [] (start (B.map .v) [])=some (.sl k es xs)):
 ∃n y H',run S.E n (.fn f) B []=some (y,H')/\((k=.nil/\y=.bO)\/(∃id,y=.hsl id es 0 xs.length/\H'[id]?=some (.row es xs))):=by
 have⟨o,st',d,s,O,G,I⟩:=goO h;have t:di S T f (B.map .v) []=some ([.own d],st'.m):=by rw[tY Y];unfold oV;rw[if_pos (by simpa using l),s];cases o with|exit id=>exact absurd rfl (O id)|norm=>simp only[G,map_some]|ret=>simp only[G,map_some]
 have⟨Q,r1⟩:=zM g;obtain⟨n,y,H2,ν',Z',st2,F',J,g1,rfl,g3,g4,g5,_⟩:=wB U W f _ _ _ _ t _ _ B [] (.inr rfl) Q r1;obtain⟨z,H,rfl,e1,e2⟩:=g4.inv;have:=e2.dg;subst this;refine⟨n,_,H2,g1,?_⟩
 cases e1 with
 |own d y X=>
  have⟨K,Z,M,e,u⟩:=X _ I;cases e;have w:=g5.obj d _ (by rw[g3];exact I)
  rcases r with rfl|⟨rfl,rfl⟩
  .right;simp only[eC,cR,if_true]at w;have⟨J,v,N,D,P,C⟩:=w;have⟨C,A⟩:=C trivial;rw[C,drop_zero,<-A,take_of_length_le (le_refl _)]at D;have:xs=J:=by
    refine List.ext_getElem D.1 λi p q=>?_
    have c:=D.2 i _ _ (ζd p) (ζd q);refine List.ext_getElem c.1 λj L E=>?_
    have F:=c.2 j _ _ (ζd L) (ζd E);exact((F.scalar).1 (all_eq_true.1 (m _ (getElem_mem p)) _ (getElem_mem L))).symm
   subst this;refine⟨(ν' d).1,?_,v⟩;show result [_]=_;rw[u];simp[result,uL,C]
  left;exact⟨rfl,by show result [_]=_;rw[u];rfl⟩
theorem J5{E:Env}{f:Y'}{B:So}{l:S'}{y:V}{H1:bn}(d:E.own f=true)(e:V.cH B=true)(D:∀c∈l,c.length=2/\c.all V.one=true/\c.all V.scalar=true)
 (b:∃n,∀k,n<=k->run E k (.fn f) B []=some (y,H1))(G:(l=[]/\y=.bO)\/(∃id,y=.hsl id 2 0 l.length/\H1[id]?=some (.row 2 l)))(H:bn):
 ∃w X id,(∃n,∀k,n<=k->gj E (run E k) f B H=some (w,H++X))/\lX (H++X) w l id/\(∀off m,w=.hsl id 2 off m->id=H.length):=by
 have⟨n,b⟩:=b;have C:∀{k:Nat}{l:So},V.cH l=true->borrows k H l=some l:=by intro k l;unfold borrows;induction l with|nil=>intro _;rfl|cons a l I=>intro h;have g:V.good a=true/\V.cH l=true:=(by simpa[V.cH]using h);simp only[jl,eH k H (V.mB g.1),I g.2]
 rcases G with⟨rfl,rfl⟩|⟨id,rfl,z⟩
 .refine⟨.bO,[],0,⟨n,λk u=>?_⟩,⟨λc h=>by simp at h,.inl ⟨rfl,rfl⟩⟩,λoff m h=>by cases h⟩
  simp only[gj,d,if_true,mw,C e,b k u,V.scalar,append_nil]
 refine⟨.hsl H.length 2 0 l.length,[.row 2 l],H.length,⟨n,λk u=>?_⟩,⟨λc h=>⟨(D c h).1,(D c h).2.1⟩,.inr ⟨0,l,rfl,Zab,Zab,Zab⟩⟩,λoff m h=>rfl⟩
 have J:(l.all λx=>x.all V.scalar)=true:=all_eq_true.2 λc h=>(D c h).2.2
 simp only[gj,d,if_true,mw,C e,b k u,V.scalar,false_eq_true,if_false,tI,z,J,and_self,map_some]
def Sl.whole{α:Type}(s:Sl α):aY (Sl α):=match s with|.part _=>none|s=>some s
structure BL(S:Sys)(c:cm){α δ:Type}[bD δ](fn:FuncId)(A:α->List V)(p:α->Option (Sl δ)):Prop where
 k:S.E.keep fn=true
 o:S.E.own fn=true
 h:∀z s,p z=some s->∃e m',c fn ((A z).map .v) []=some ([.own e],m')/\bl m' e=some (cK s)
 sc:∀x:δ,(cells x).all V.scalar=true
theorem BL.mk'{S:Sys}{T:sH}{α δ:Type}[bD δ](rf:RF){fn:Y'}{A:α->So}{p:α->aY (Sl δ)}(h:∀z,Le ((p z).bind λr=>some (cK r)) (bZ S (di S T) (B0 rf.rs) (.rc rf.body,[],start ((A z).map .v) [])))
 (B:T fn=some rf:=by kernel_rfl)(b:S.E.keep fn=true:=by kernel_rfl)(D:S.E.own fn=true:=by kernel_rfl)(G:∀z,(A z).length<=rf.na:=by intro z;exact Nat.le_of_ble_eq_true (by kernel_rfl))
 (sc:∀x:δ,(cells x).all V.scalar=true:=by intro x;rfl):BL S (di S T) fn A p where
 k:=b
 o:=D
 sc:=sc
 h z s u:=by have a:=h z (cK s) (by rw[u];rfl);change me S (di S T) (B0 rf.rs) rf.body [] (start ((A z).map .v) [])=some (cK s)at a;have⟨o,st',d,g1,g2,g3,g4⟩:=goO a;refine⟨d,st'.m,?_,g4⟩;rw[tY B];unfold oV;rw[if_pos (by simpa using G z),g1];cases o with|exit id=>exact absurd rfl (g2 id)|norm=>simp only[g3,map_some]|ret=>simp only[g3,map_some]
section
variable{S:Sys}{c:cm}{β γ δ α:Type}[bD δ]{Q:Out×St->aY β}{e:γ->aY β}{cf:Cf}
theorem PY(n u:Nat){fn:Y'}{A:α->So}{p:α->aY (Sl δ)}(F:BL S c fn A p)(z:α){f:Sl δ->aY γ}
 (h:∀x,(p z).bind Sl.whole=some x->Le ((f x).bind e) (bZ S c Q (nx S c n cf λq=>{q.st with g:=bM q.st.g u (.own u),m:=bM q.st.m u (cK x)})))
 (J:(gx S c n cf).map (λq=>(q.d,q.k,(bW S.N q.st.g q.az).bind mz,(!q.dr||q.now),q.st.new u))=some (some u,.c,some (fn,(A z).map .v),true,true):=by kernel_rfl):Le ((((p z).bind Sl.whole).bind f).bind e) (bZ S c Q cf):=by
 have⟨q,L,b⟩:=eZ J;simp only[ζc]at b;have⟨O,T,U,W,I⟩:=b;have⟨C,g1,g2⟩:=ζg.1 U;refine sG L ?_ h;rw[O,T];intro y D;have⟨X,G,D⟩:=ζg.1 D;cases D;have⟨s,Y,B⟩:=ζg.1 G;have⟨e0,m',d,Z⟩:=F.h z s Y;rw[xS q.dr _ _ _ _ _ C fn ((A z).map .v) g1 g2];have w:fN S c (some u) q.dr (!q.dr||q.now) (gB q.st.m q.fr) fn ((A z).map .v) q.st=some (.own u,{q.st with m:=bM q.st.m u (cK X)}):=by unfold fN;simp only[F.k,F.o,if_true,W,w6,d,dz,Z,cK,I];cases s with|nil=>cases B;rfl|emp=>cases B;rfl|row l=>cases B;have:nN (rows l)=true:=(by unfold nN;rw[all_eq_true];intro x i;obtain⟨a,_,rfl⟩:=mem_map.1 i;exact F.sc a);simp only[Sl.k,Sl.l,dz,V.c6,this,Bool.and_self,I,if_true];rfl|part l=>cases B
 rw[w];rfl
end
structure GD where
 m:Nat
 pre:List (Nat×List Gh)
 nd:List (Nat×List Gh×List Gh)
structure GI where
 m:Nat
 i:Nat
 j:Nat
def lkL{α:Type}(l:aX (Nat×aX α))(i:Nat):aX α:=match l with
 |[]=>[]|(k,x)::r=>bif beq k i then x else lkL r i
def C1(l:aX (Nat×Pi×Pi))(i:Nat):Pi×Pi:=match l with
 |[]=>([],[])|(k,x)::r=>bif beq k i then x else C1 r i
def Pu(m:Nat):ST->ST
 |[]=>[]|x::l=>bif beq (m % 2) 1 then x::Pu (m / 2) l else Pu (m / 2) l
def Vf:QR->ST
 |[]=>[]|.s n::r=>n::Vf r|_::r=>Vf r
def abR(o:RO):ST:=(match o.dst with|some d=>[d]|none=>[])++(match o.gd with|some g=>[g.1]|none=>[])++Vf o.az
def acX(G:GD)(s:GI)(o:RO):RO:={o with dead:=Pu (bif beq (s.m % 16) 15 then s.m / 16 % 65536 else s.m % 16) (abR o),pre:=lkL G.pre s.i}
def GI.op(s:GI):GI:=⟨bif beq (s.m % 16) 15 then s.m / 1048576 else s.m / 16,s.i+1,s.j⟩
def Ck(G:GD):R0->GI->R0×GI
 |[],s=>([],s)|o::r,s=>(acX G s o::(Ck G r s.op).1,(Ck G r s.op).2)
def BT:Pi->RC->RC
 |[],c=>c|g::l,c=>.gh g (BT l c)
def RY:Pi->RC->RC
 |[],c=>c|g::l,c=>RY l (.hg c g)
def GI.nd(s:GI):GI:=⟨s.m,s.i,s.j+1⟩
def kR(G:GD):RC->GI->RC×GI
 |.seq a b,s=>(BT (C1 G.nd s.j).1 (.seq (kR G a s.nd).1 (kR G b (kR G a s.nd).2).1),(kR G b (kR G a s.nd).2).2)|.cond x a b,s=>(BT (C1 G.nd s.j).1 (.cond x (kR G a s.nd).1 (kR G b (kR G a s.nd).2).1),(kR G b (kR G a s.nd).2).2)|.block id a,s=>(BT (C1 G.nd s.j).1 (.block id (kR G a s.nd).1),(kR G a s.nd).2)|.loop a,s=>(BT (C1 G.nd s.j).1 (.loop (RY (C1 G.nd s.j).2 (kR G a s.nd).1)),(kR G a s.nd).2)|.each g ps a b,s=>(BT (C1 G.nd s.j).1 (.each g ps (kR G a s.nd).1 (RY (C1 G.nd s.j).2 (kR G b (kR G a s.nd).2).1)),(kR G b (kR G a s.nd).2).2)|.ops l,s=>(BT (C1 G.nd s.j).1 (.ops (Ck G l s.nd).1),(Ck G l s.nd).2)|.rK l,s=>(BT (C1 G.nd s.j).1 (.rK (Ck G l s.nd).1),(Ck G l s.nd).2)|.gh g c,s=>(.gh g c,s)|.hg c g,s=>(.hg c g,s)|c,s=>(BT (C1 G.nd s.j).1 c,s.nd)
theorem mK(c:RC):∀l,erase (BT l c)=erase c
 |[]=>rfl|g::l=>by simp only[BT,erase,mK c l]
theorem B7:∀l(c:RC),erase (RY l c)=erase c
 |[],c=>rfl|g::l,c=>by simp only[RY,B7 l,erase]
theorem Bp(G:GD):∀(l:R0)s,((Ck G l s).1).map RO.strip=l.map RO.strip
 |[],s=>rfl|o::r,s=>by simp only[Ck,map_cons,Bp G r];rfl
theorem nG(G:GD):∀(c:RC)s,erase (kR G c s).1=erase c
 |.seq a b,s=>by simp only[kR,mK,erase,nG G a,nG G b]|.cond x a b,s=>by simp only[kR,mK,erase,nG G a,nG G b]|.block id a,s=>by simp only[kR,mK,erase,nG G a]|.loop a,s=>by simp only[kR,mK,erase,B7,nG G a]|.each g ps a b,s=>by simp only[kR,mK,erase,B7,nG G a,nG G b]|.ops l,s=>by simp only[kR,mK,erase,Bp]|.rK l,s=>by simp only[kR,mK,erase,Bp]|.gh g c,s=>rfl|.hg c g,s=>rfl|.skip,s=>by simp only[kR,mK]|.ret,s=>by simp only[kR,mK]|.exit _,s=>by simp only[kR,mK]
theorem MJ{X:CX}{dr:X'}{ops:QP}{i:Nat}{o:Oper}{r:RO}(h:oG X dr ops i o=some r):r.strip=r:=by obtain⟨_,_,_,_,_,_,rfl⟩:=FY h;rfl
theorem zW{X:CX}{dr:X'}{ops:QP}:∀{l:QP}{i:Nat}{r:R0},mX X dr ops i l=some r->r.map RO.strip=r
 |[],i,r,h=>by cases h;rfl|o::l,i,r,h=>by simp only[mX]at h;split at h;(next a b B D=>cases h;simp only[map_cons,MJ B,zW D]);cases h
theorem MW{X:CX}:∀{c:Code}{ro:X'}{r:RC},bS X ro c=some r->erase r=r:=by intro c;induction c with|region _ ops dr=>intro ro r h;simp only[bS]at h;split at h;split at h;obtain⟨l,d,rfl⟩:=ζf.1 h;simp only[erase,zW d];cases h;obtain⟨l,d,rfl⟩:=ζf.1 h;simp only[erase,zW d]|seq a b u w=>intro ro r h;simp only[bS]at h;split at h;(next d z=>cases h;simp only[erase,u d,w z]);cases h|cond c a b u w=>intro ro r h;simp only[bS]at h;split at h;(next d z=>cases h;simp only[erase,u d,w z]);cases h|block id a u=>intro ro r h;simp only[bS]at h;obtain⟨l,d,rfl⟩:=ζf.1 h;simp only[erase,u d]|loop a u=>intro ro r h;simp only[bS]at h;obtain⟨l,d,rfl⟩:=ζf.1 h;simp only[erase,u d]|rangeFunc g ps a b u w=>intro ro r h;simp only[bS]at h;split at h;cases h;split at h;(next d z=>cases h;simp only[erase,u d,w z]);cases h|_=>intro ro r h;first|cases h;rfl|(simp only[bS]at h;cases h;rfl)|(simp only[bS]at h;cases h)
def Tv(E:Env)(nm:Y'->aY Nat)(G:Y'->aY GD):sH:=λf=>(G f).bind λg=>(E.ft f).bind λu=>(bS ⟨E,nm,u.ntmps⟩ false u.body).bind λc=>(u.results.mapM (Dg E)).bind λrs=>some ⟨u.ntmps,rs,(kR g c ⟨g.m,0,0⟩).1⟩
theorem EN{E:Env}{nm:Y'->aY Nat}{G:Y'->aY GD}{f:Y'}{rf:RF}(h:Tv E nm G f=some rf):∃fi,E.ft f=some fi/\zO E nm fi rf:=by unfold Tv at h;have⟨g,_,h⟩:=ζg.1 h;have⟨fi,a,h⟩:=ζg.1 h;have⟨c,u,h⟩:=ζg.1 h;have⟨rs,w,h⟩:=ζg.1 h;cases h;exact⟨fi,a,by rw[u,nG,MW u],w,rfl⟩
theorem yz:∀(g:Y')(s:Nat),some g=some s->(λn=>n) s=g:=λ_ _ h=>(Option.some.inj h).symm
def tj(o:aY RF):RF:=o.getD ⟨0,[],.skip⟩
def tb(T:sH)(f:Y'):RC:=(tj (T f)).body
def tr(T:sH)(f:Y'):aX RV:=(tj (T f)).rs
theorem Cm{o:aY RF}(h:o.isSome=true):o=some (tj o):=by cases o with
 |none=>cases h|some r=>rfl
class kQ(δ:Type)where
 e:δ->List V
instance adJ{α:Type}[bD α]:kQ α:=⟨λx=>[enc x]⟩
instance adF:kQ Unit:=⟨λ_=>[]⟩
instance adI{α β:Type}[bD α][kQ β]:kQ (α×β):=⟨λx=>enc x.1::kQ.e x.2⟩
@[simp] theorem adk{α:Type}[bD α](x:α):kQ.e x=[enc x]:=rfl
@[simp] theorem adg(x:Unit):kQ.e x=[]:=rfl
@[simp] theorem adh{α β:Type}[bD α][kQ β](x:α×β):kQ.e x=enc x.1::kQ.e x.2:=rfl
class Fc(S:Sys)(c:cm){δ:Type}(m:Option δ)where
 n:FuncId
 az:List V
 E:δ->List V
 sc:Bool
 F:eR S c n (λ_:Unit=>az) E (λ_=>m) sc
section
variable{S:Sys}{T:sH}{δ:Type}{m:aY δ}
theorem eR.Vo{E:δ->So}(fn:Y')(az:So)(h:Le (m.bind λr=>some (E r)) (bZ S (di S T) (pI (tr T fn)) (.rc (tb T fn),[],start (az.map .v) [])))
 (B:(T fn).isSome=true)(a:S.E.keep fn=false)(D:ble az.length (tj (T fn)).na=true)
 {sc:X'}(s:sc=true->∀r,(result (E r)).scalar=true):eR S (di S T) fn (λ_:Unit=>az) E (λ_=>m) sc where
 k:=a
 h z:=ada (Cm B) (Nat.le_of_ble_eq_true D) h
 s:=s
abbrev Fc.NE(E:δ->aX V)(fn:FuncId)(az:aX V)(h:Le (m.bind λr=>some (E r)) (bZ S (di S T) (pI (tr T fn)) (.rc (tb T fn),[],start (az.map .v) [])))
 (B:(T fn).isSome=true:=by kernel_rfl)(a:S.E.keep fn=false:=by kernel_rfl)(D:ble az.length (tj (T fn)).na=true:=by kernel_rfl)
 :Fc S (di S T) m:=
 ⟨fn,az,E,false,eR.Vo fn az h B a D λh=>nomatch h⟩
abbrev Fc.M[kQ δ](fn:FuncId)(az:aX V)(h:Le (m.bind λr=>some (kQ.e r)) (bZ S (di S T) (pI (tr T fn)) (.rc (tb T fn),[],start (az.map .v) [])))
 (B:(T fn).isSome=true:=by kernel_rfl)(a:S.E.keep fn=false:=by kernel_rfl)(D:ble az.length (tj (T fn)).na=true:=by kernel_rfl)
 (s:∀r:δ,(result (kQ.e r)).scalar=true:=by intro r;kernel_rfl):Fc S (di S T) m:=
 ⟨fn,az,kQ.e,true,eR.Vo fn az h B a D λ_=>s⟩
abbrev Fc.N[kQ δ](fn:FuncId)(az:aX V)(h:Le (m.bind λr=>some (kQ.e r)) (bZ S (di S T) (pI (tr T fn)) (.rc (tb T fn),[],start (az.map .v) [])))
 (B:(T fn).isSome=true:=by kernel_rfl)(a:S.E.keep fn=false:=by kernel_rfl)(D:ble az.length (tj (T fn)).na=true:=by kernel_rfl)
 :Fc S (di S T) m:=
 ⟨fn,az,kQ.e,false,eR.Vo fn az h B a D λh=>nomatch h⟩
end
abbrev Fc.of{S:Sys}{c:cm}{α δ:Type}{p:α->aY δ}{n:FuncId}{A:α->aX V}{E:δ->aX V}{b:Bool}(z:α)(F:eR S c n A E p b):Fc S c (p z):=⟨n,A z,E,b,⟨F.k,λ_=>F.h z,F.s⟩⟩
theorem eR.tq{S:Sys}{c:cm}{α δ:Type}{p:α->aY δ}{n:Y'}{A:α->So}{E:δ->So}{b:X'}(F:∀z,Fc S c (p z))(i:α)(B:∀z,(F z).n=n)(G:∀z,(F z).az=A z)(D:∀z,(F z).E=E)(J:∀z,(F z).sc=b):eR S c n A E p b where
 k:=by rw[<-B i];exact(F i).F.k
 h z:=by rw[<-B z,<-G z,<-D z];exact(F z).F.h ()
 s:=by rw[<-J i,<-D i];exact(F i).F.s
theorem mS.tq{S:Sys}{c:cm}{α δ:Type}{p:α->aY δ}{g:Y'}{w e:So}{A:α->So}{R:δ->So}{b:X'}[i:Inhabited α][F:∀z,Fc S c (p z)](B:∀z,(F z).n=g:=by intro _;kernel_rfl)(D:∀z,(F z).az=w++A z++e:=by intro _;kernel_rfl)
 (G:∀z,(F z).E=R:=by intro _;kernel_rfl)(J:∀z,(F z).sc=b:=by intro _;kernel_rfl):mS S c g w e A R p b:=
 ⟨eR.tq F default B D G J⟩
section
variable{S:Sys}{c:cm}{β γ δ α:Type}{Q:Out×St->aY β}{e:γ->aY β}{cf:Cf}
theorem qi(n:Nat){m:aY β}(h:Le m (bZ S c Q (jZ S c n cf)))(B:jd S c n cf.1 cf.2.1 cf.2.2=some (jZ S c n cf):=by kernel_rfl):Le m (bZ S c Q cf):=CA B h
theorem bu(n:Nat){m:aY δ}[F:Fc S c m]{f:δ->aY γ}(h:∀x,m=some x->Le ((f x).bind e) (bZ S c Q (nx S c n cf λp=>cW p.st p.d (.v (result (F.E x))))))
 (B:(gx S c n cf).map (λp=>(p.k,(bW S.N p.st.g p.az).bind mz,(!p.dr||p.now||gB p.st.m p.fr [])))=some (.c,some (F.n,F.az.map .v),true):=by kernel_rfl):Le ((m.bind f).bind e) (bZ S c Q cf):=zK n F.F () h B
theorem bY(n:Nat){m:aY δ}[F:Fc S c m]{f:δ->aY γ}(h:∀x,m=some x->Le ((f x).bind e) (bZ S c Q (nx S c n cf λp=>cW p.st p.d (.v (result (F.E x))))))
 (B:(gx S c n cf).map (λp=>(p.k,((bW S.N p.st.g p.az).bind mz).bind λq=>(oI (jt p.st.m 8) q.2).map λvs=>(q.1,vs,((!p.dr||p.now)||gB p.st.m p.fr q.2))))=some (.c,some (F.n,F.az,true)):=by kernel_rfl)(D:F.sc=true:=by kernel_rfl):Le ((m.bind f).bind e) (bZ S c Q cf):=
 Z3 n (u D F.F) () h B
where
 u {b:X'} {fn:Y'} {az:So} {E:δ->So} {m:aY δ} (h:b=true) (F:eR S c fn (λ_:Unit=>az) E (λ_=>m) b):eR S c fn (λ_:Unit=>az) E (λ_=>m) true:=h▸F
def WO(cf:Cf):RC:=match cf.1 with|.rc (.loop c)=>c|_=>.skip
def GL(cf:Cf):Arg×ST×RC×RC:=match cf.1 with|.rc (.each g ps a b)=>(g,ps,a,b)|_=>(.s 0,[],.skip,.skip)
theorem dx{σ ε ρ:Type}{step:σ->aY (Fw σ ε ρ)}(n:Nat)(eσ:σ->St)(eε:ε->Nat×St)(eρ:ρ->St){s:σ}{B:ε->aY γ}{fr:ρ->aY γ}
 (h:∀s,Le ((step s).bind λw=>some (Fw.out eσ eε eρ w)) (bZ S c some (.rc (WO (jZ S c n cf)),[],eσ s)))
 (D:∀x,Le ((B x).bind e) (bZ S c Q (.ex (eε x).1,(jZ S c n cf).2.1,(eε x).2)))(a:∀b,Le ((fr b).bind e) (Q (.ret,eρ b)))
 (G:jd S c n cf.1 cf.2.1 cf.2.2=some (.rc (.loop (WO (jZ S c n cf))),(jZ S c n cf).2.1,eσ s):=by kernel_rfl):Le (((bF step s).bind (Fw.elim B fr)).bind e) (bZ S c Q cf):=
 Rp G h D a
theorem eG{σ ε:Type}{step:σ->aY (Fw σ ε Empty)}(n:Nat)(eσ:σ->St)(eε:ε->Nat×St){s:σ}{B:ε->aY γ}{fr:Empty->aY γ}
 (h:∀s,Le ((step s).bind λw=>some (Fw.out eσ eε (λe=>Empty.elim e) w)) (bZ S c some (.rc (WO (jZ S c n cf)),[],eσ s)))
 (D:∀x,Le ((B x).bind e) (bZ S c Q (.ex (eε x).1,(jZ S c n cf).2.1,(eε x).2)))
 (G:jd S c n cf.1 cf.2.1 cf.2.2=some (.rc (.loop (WO (jZ S c n cf))),(jZ S c n cf).2.1,eσ s):=by kernel_rfl):Le (((bF step s).bind (Fw.elim B fr)).bind e) (bZ S c Q cf):=
 Rp G h D λb=>Empty.elim b
theorem Di{σ ε ρ:Type}{f:Y'}{x y:So}{a:aX α}{eI:α->So}{step:α->σ->aY (Fw σ ε ρ)}(n:Nat)(d:Tb SV)(eσ:σ->Tb bJ)(eε:ε->Nat×Tb bJ)(eρ:ρ->Tb bJ){s:σ}{fn:σ->aY γ}{B:ε->aY γ}{fr:ρ->aY γ}
 (g:S.items f x y=some (a.map eI))
 (h:∀x s,Le ((step x s).bind λw=>some (Fw.yM eσ eε eρ w)) (bZ S c (A2 S c (GL (jZ S c n cf)).2.2.2) (.rc (GL (jZ S c n cf)).2.2.1,[],⟨zy d (GL (jZ S c n cf)).2.1 ((eI x).map .v),eσ s,sE d,[],true,0⟩)))
 (D:∀s,Le ((fn s).bind e) (bZ S c Q (.nx,(jZ S c n cf).2.1,bE d (eσ s))))(G:∀x,Le ((B x).bind e) (bZ S c Q (.ex (eε x).1,(jZ S c n cf).2.1,bE d (eε x).2)))(i:∀b,Le ((fr b).bind e) (Q (.ret,bE d (eρ b))))
 (J:∀x,(eI x).length=(GL (jZ S c n cf)).2.1.length:=by intro _;kernel_rfl)(j:tv S.N d (GL (jZ S c n cf)).1=some (.v (.clo f x y)):=by kernel_rfl)
 (U:jd S c n cf.1 cf.2.1 cf.2.2=some (.rc (.each (GL (jZ S c n cf)).1 (GL (jZ S c n cf)).2.1 (GL (jZ S c n cf)).2.2.1 (GL (jZ S c n cf)).2.2.2),(jZ S c n cf).2.1,bE d (eσ s)):=by kernel_rfl):Le (((mb step a s).bind (Fw.sZ fn B fr)).bind e) (bZ S c Q cf):=
 aar U j g J h D G i
def aa6(n k:Nat)(B:ST)(d:Nat)(S:Sys)(c:cm)(cf:Cf)(v:SV):Cf:=jmp k [] (jZ S c n cf) {(jZ S c n cf).2.2 with g:=bM (pW B (jZ S c n cf).2.2.g) d v}
theorem bG[bD δ](n k:Nat)(B:ST)(d:Nat){m:aY δ}{f:δ->aY γ}(D:Le (m.bind λr=>bZ S c Q (aa6 n k B d S c cf (cv r))) (bZ S c Q cf))(a:∀r,Le ((f r).bind e) (bZ S c Q (aa6 n k B d S c cf (cv r)))):Le ((m.bind f).bind e) (bZ S c Q cf):=Wj _ D a
end
theorem Pm{α β:Type}{P:α ⊕ β->Prop}(c:∀a,P (.inl a))(B:∀b,P (.inr b)):∀x,P x
 |.inl a=>c a|.inr b=>B b
instance{n:Nat}:DecidableEq (b9 n Int):=λa b=>if h:a.l=b.l then .isTrue (by cases a;cases b;cases h;rfl)else .isFalse λe=>h (by rw[e])
theorem xY:∀l:Rd,jB ((l.map (cells (α:=Int))).flatten)=some l
 |[]=>rfl|a::l=>by show jB (.int .i64 a::(l.map (cells (α:=Int))).flatten)=_;simp only[jB,xY l,map_some]
theorem R7(l:Rd):(l.map (cells (α:=Int))).flatten=l.map (V.int .i64):=by induction l with|nil=>rfl|cons a l u=>simp only[map_cons,List.flatten_cons,u];rfl
instance{n:Nat}:Key (b9 n Int)where
 kk:=.ints n
 ok a:=by show((a.l.map (cells (α:=Int))).flatten.length==n&&(jB (a.l.map (cells (α:=Int))).flatten).isSome)=true;rw[xY,R7,length_map,a.len];simp
 eq a b:=by show mG (a.l.map (cells (α:=Int))).flatten (b.l.map (cells (α:=Int))).flatten=_;unfold mG;rw[xY,xY];simp only[a.len,b.len,if_true];congr 1;rw[Bool.eq_iff_iff,beq_iff_eq,decide_eq_true_iff];exact⟨λh=>by cases a;cases b;cases h;rfl,λh=>by rw[h]⟩
def Dm(m:Tb bJ):SV->X'
 |.v _|.agg _=>true|x=>mT m x
def qd:SV->SW
 |.v x=>x.cells.map .v|.agg l=>l|x=>[x]
def Dr(cells:SW):aX (Nat×Nat)->SW->aY SW
 |[],[]=>some cells|(off,size)::pl,v::vs=>if(qd v).length=size/\off+(qd v).length<=cells.length then Dr (cells.take off++qd v++cells.drop (off+(qd v).length)) pl vs else none|_,_=>none
theorem Ru(cells:SW):Dr cells [] []=some cells:=rfl
theorem Fy(cells:SW)(off size:Nat)(pl:aX (Nat×Nat))(v:SV)(vs:SW):Dr cells ((off,size)::pl) (v::vs)=if(qd v).length=size/\off+(qd v).length<=cells.length then Dr (cells.take off++qd v++cells.drop (off+(qd v).length)) pl vs else none:=rfl
theorem UU(x:V):qd (.v x)=x.cells.map .v:=rfl
theorem Og(d:Nat):qd (.own d)=[.own d]:=rfl
theorem Q4(d:Nat):qd (.mp d)=[.mp d]:=rfl
theorem Pn(d o:Nat):qd (.ptr d o)=[.ptr d o]:=rfl
theorem Vp{m:Tb bJ}{v:SV}(h:Dm m v=true):AE m v=some (qd v):=by cases v<;>first|rfl|(unfold AE;exact if_pos h)|(simp[Dm,mT]at h)
theorem Ni{m:Tb bJ}:∀{pl:aX (Nat×Nat)}{vs cells l:SW},vs.all (Dm m)=true->Dr cells pl vs=some l->vm m cells pl vs=some l
 |[],[],_,_,_,h=>h|[],_::_,_,_,_,h=>by cases h|_::_,[],_,_,_,h=>by cases h|(off,size)::pl,v::vs,cells,l,B,h=>by rw[all_cons,ζh]at B;rw[Fy]at h;show(match AE m v with|some c=>if c.length=size/\off+c.length<=cells.length then vm m (cells.take off++c++cells.drop (off+c.length)) pl vs else none|none=>none)=some l;rw[Vp B.1];simp only;split at h;(next a=>rw[if_pos a];exact Ni B.2 h);cases h
def G3:SV->X'
 |.v x=>x.one|.agg _=>false|_=>true
theorem aaf(x:V):G3 (.v x)=x.one:=rfl
theorem UN(d:Nat):G3 (.own d)=true:=rfl
theorem Yq(d:Nat):G3 (.mp d)=true:=rfl
theorem Vg(d o:Nat):G3 (.ptr d o)=true:=rfl
theorem NX{m:Tb bJ}:∀{l:SW},l.all G3=true->l.all (Dm m)=true->l.all (zw m)=true
 |[],_,_=>rfl|x::l,h,k=>by rw[all_cons,ζh]at h k⊢;refine⟨?_,NX h.2 k.2⟩;cases x<;>first|exact h.1|exact k.1|(have:=h.1;cases this)
section
variable{S:Sys}{c:cm}{β γ δ α:Type}{Q:Out×St->aY β}{e:γ->aY β}{cf:Cf}
theorem Re{N:Nat->Y'}{m:Tb bJ}{z:So}{pl:aX (Nat×Nat)}{svs l:SW}(B:(dz svs).isNone=true)(h:vm m (z.map .v) pl svs=some l):kK N m (.build z pl) svs=some (.agg l):=by unfold kK;cases a:dz svs with|some x=>rw[a]at B;cases B|none=>have:zm N m (.build z pl) svs=(vm m (z.map .v) pl svs).map .agg:=(by unfold zm;split<;>first|contradiction|(rename_i e _;cases e;rfl)|simp_all);simp only[this,h,map_some]
theorem abB(n:Nat)(svs l:SW)(z:So)(pl:aX (Nat×Nat)){m:aY β}(B:Dr (z.map .v) pl svs=some l)(h:Le m (bZ S c Q (nx S c n cf λp=>cW p.st p.d (.agg l))))
 (D:(gx S c n cf).map (λp=>(p.k,bW S.N p.st.g p.az,(dz svs).isNone,svs.all (Dm p.st.m)))=some (.p (.build z pl),some svs,true,true):=by kernel_rfl):Le m (bZ S c Q cf):=by
 have⟨p,u,a⟩:=eZ D;simp only[ζc]at a;refine xE u ?_ h;rw[a.1];exact CZ a.2.1 rfl (Re a.2.2.1 (Ni a.2.2.2 B))
theorem acd(n u:Nat)(l:SW){m:aY β}(B:l.all G3=true)(h:Le m (bZ S c Q (nx S c n cf λp=>{p.st with g:=bM p.st.g u (.ptr u 0),m:=bM p.st.m u (.box l)})))
 (D:(gx S c n cf).map (λp=>(p.d,p.k,bW S.N p.st.g p.az,p.st.new u,l.all (Dm p.st.m)))=some (some u,.a .box,some [.agg l],true,true):=by kernel_rfl):Le m (bZ S c Q cf):=by
 have⟨p,w,a⟩:=eZ D;simp only[ζc]at a;refine xE w ?_ h;rw[a.1,a.2.1,AN,a.2.2.1];simp only[ζb,a.2.2.2.1,if_true,qv,NX B a.2.2.2.2]
end
section
variable{S:Sys}{c:cm}{β γ δ:Type}{Q:Out×St->aY β}{e:γ->aY β}{cf:Cf}{κ ν:Type}[bD κ][DecidableEq κ][Key κ][bD ν]
structure FD(κ ν:Type)where
 o:Option (Mo κ ν)
 deriving Inhabited
def mpV(m:FD κ ν):V:=match m.o with|none=>.iB|some l=>.fmap (pS l)
theorem SR(m:Mo κ ν):V.vj (pS m)=true:=by induction m with|nil=>rfl|cons x r u=>show V.vj ((enc x.1,enc x.2)::pS r)=true;simp only[V.vj,kP,u,Bool.and_self]
instance:bD (FD κ ν)where
 cells m:=[mpV m]
 agg:=false
 size:=1
 len _:=rfl
 good m:=by unfold mpV;split;rfl;simp only[V.cH,V.good,SR,Bool.and_self]
 one m:=by unfold mpV;split<;>rfl
 plain _:=rfl
theorem NY(m:FD κ ν):V.one (enc m)=true:=by have⟨o⟩:=m;cases o<;>rfl
def m_(m:FD κ ν):Mo κ ν:=m.o.getD []
theorem Tq(m:FD κ ν):oE [] (enc m)=some (pS (m_ m)):=by have⟨o⟩:=m;cases o<;>rfl
theorem Li(m:FD κ ν)(k:κ)(z:ν)(ok:X'):ey [] (.lookup (Key.kk κ) (enc z) ok) [enc m,enc k]=some (if ok then .tup [enc (pE (m_ m) k z),.bool (vT (m_ m) k)]else enc (pE (m_ m) k z)):=by
 simp only[ey,Tq,Key.ok,if_true];have:=G9 k (m_ m) 0;simp only[pE,vT]
 cases B:jr (enc k) (pS (m_ m)) 0 with
 |none=>rw[B]at this;cases this|some r=>
  rw[B]at this;simp only[map_some,ζa]at this
  cases r with
  |none=>cases u:l_ k (m_ m)with|none=>rfl|some w=>rw[u]at this;cases this
  |some w=>cases u:l_ k (m_ m)with|none=>rw[u]at this;cases this|some C=>rw[u]at this;simp only[map_some,ζa]at this;simp only[this];rfl
theorem RU(n:Nat)(mp:FD κ ν)(k:κ)(z:ν){m:aY β}(h:Le m (bZ S c Q (nx S c n cf λp=>cW p.st p.d (cv (pE (m_ mp) k z)))))
 (B:(gx S c n cf).map (λp=>(p.k,bW S.N p.st.g p.az))=some (.r (.lookup (Key.kk κ) (enc z) false),some [cv mp,cv k]):=by kernel_rfl):Le m (bZ S c Q cf):=by
 have⟨p,u,a⟩:=eZ B;simp only[ζc]at a;refine xE u ?_ h;rw[a.1,Dx,a.2];simp only[ζb,fM,Bool.or_true,if_true,pX,Li,map_some];rfl
theorem WU(n:Nat)(mp:FD κ ν)(k:κ)(z:ν){m:aY β}(h:Le m (bZ S c Q (nx S c n cf λp=>cW p.st p.d (.v (.tup [enc (pE (m_ mp) k z),.bool (vT (m_ mp) k)])))))
 (B:(gx S c n cf).map (λp=>(p.k,bW S.N p.st.g p.az))=some (.r (.lookup (Key.kk κ) (enc z) true),some [cv mp,cv k]):=by kernel_rfl):Le m (bZ S c Q cf):=by
 have⟨p,u,a⟩:=eZ B;simp only[ζc]at a;refine xE u ?_ h;rw[a.1,Dx,a.2];simp only[ζb,fM,Bool.or_true,if_true,pX,Li,map_some]
end
theorem eR.scalar{S:Sys}{c:cm}{α δ:Type}{fn:Y'}{A:α->So}{E:δ->So}{p:α->aY δ}{b:X'}(F:eR S c fn A E p b)(h:∀r,(result (E r)).scalar=true):eR S c fn A E p true:=⟨F.k,F.h,λ_=>h⟩
section
variable{S:Sys}{c:cm}{β γ δ α:Type}[bD α]{Q:Out×St->aY β}{e:γ->aY β}{cf:Cf}
theorem Wr{ω:Type}[bD ω](n u:Nat){N:Nat}(a:b9 N α)(i:Int)(o:Nat)(x:α)(D:a.at i=some x)(y:α)(w:ω)(G:cells y=(cells x).take o++cells w++(cells x).drop (o+bD.size ω)){m:aY β}(h:Le m (bZ S c Q (nx S c n cf λp=>cW {p.st with m:=bM p.st.m u (bx (a.set i y))} p.d (.v .undef))))
 (J:(gx S c n cf).map (λp=>(p.k,bW S.N p.st.g p.az,bl p.st.m u,(!p.dr||p.now),ble (o+bD.size ω) (bD.size α)))=some (.l (.store (bD.size ω)),some [.ptr u (i.toNat*bD.size α+o),cv w],some (bx a),true,true):=by kernel_rfl):Le m (bZ S c Q cf):=by
 have⟨p,B,z⟩:=eZ J;simp only[ζc]at z;have⟨b,C⟩:=kS B;have⟨dr,fr,d,gd,now,U,az,dd,l,fs,st⟩:=p;obtain⟨rfl,I,L,O,T⟩:=z;exact abz n dr fr (⟨d,gd,now,.l (.store (bD.size ω)),az,dd,[]⟩::l) fs st u a i o x D y (enc w) (by rw[mI];exact G) rfl (by(try dsimp only at *);simp only[b,C,I,L,O,T,mI,g_,s9]) (by
  simp only[nx,B]at h;exact h)
end
def JE(rs:aX RV):Out×St->aY (bJ×So)
 |(.exit _,_)=>none|(_,st)=>(l8 st rs).bind λl=>match l with
  |.own d::r=>(bl st.m d).bind λob=>(dz r).map λys=>(ob,ys)|_=>none
theorem Dj:∀{l:SW}{ys:So},dz l=some ys->l=ys.map .v
 |[],ys,h=>by cases h;rfl|.v x::r,ys,h=>by simp only[dz]at h;obtain⟨B,a,rfl⟩:=ζf.1 h;rw[Dj a];rfl|.own _::_,_,h|.ptr ..::_,_,h|.el ..::_,_,h|.mp _::_,_,h|.clo ..::_,_,h|.tup _::_,_,h|.agg _::_,_,h|.yl _::_,_,h=>by cases h
theorem ac0{S:Sys}{c:cm}{rs:aX RV}{a:RC}{st:St}{ob:bJ}{ys:So}(h:me S c (JE rs) a [] st=some (ob,ys)):∃o st' d,cN S c a st=some (o,st')/\(∀id,o≠.exit id)/\l8 st' rs=some (.own d::ys.map .v)/\bl st'.m d=some ob:=by
 rw[rq]at h;have⟨⟨o,st'⟩,b,u⟩:=ζg.1 h;have z:∀id,o≠.exit id:=by rintro id rfl;simp[JE]at u
 have B:(l8 st' rs).bind (λl=>match l with|.own d::r=>(bl st'.m d).bind λob=>(dz r).map λys=>(ob,ys)|_=>none)=some (ob,ys):=by cases o with|exit id=>exact absurd rfl (z id)|norm=>exact u|ret=>exact u
 have⟨l,C,w⟩:=ζg.1 B;split at w;have⟨D,G,I⟩:=ζg.1 w;have⟨O,J,L⟩:=ζf.1 I;cases L;exact⟨o,st',_,b,z,by rw[C,Dj J],G⟩;cases w
structure FcO(S:Sys)(c:cm){δ ε:Type}[bD δ][kQ ε](m:Option (Sl δ×ε))where
 n:FuncId
 az:List V
 k:S.E.keep n=true
 o:S.E.own n=true
 h:∀s r,m=some (s,r)->∃e m',c n (az.map .v) []=some (.own e::(kQ.e r).map .v,m')/\bl m' e=some (cK s)
 sc:∀x:δ,(cells x).all V.scalar=true
 sr:∀r:ε,V.c6 (kQ.e r)=true
abbrev FcO.mk'{S:Sys}{T:sH}{δ ε:Type}[bD δ][kQ ε]{m:aY (Sl δ×ε)}(fn:FuncId)(az:aX V)(h:Le (m.bind λr=>some (cK r.1,kQ.e r.2)) (bZ S (di S T) (JE (tr T fn)) (.rc (tb T fn),[],start (az.map .v) [])))
 (B:(T fn).isSome=true:=by kernel_rfl)(b:S.E.keep fn=true:=by kernel_rfl)(D:S.E.own fn=true:=by kernel_rfl)(G:ble az.length (tj (T fn)).na=true:=by kernel_rfl)
 (sc:∀x:δ,(cells x).all V.scalar=true:=by intro x;rfl)(sr:∀r:ε,V.c6 (kQ.e r)=true:=by intro r;rfl):FcO S (di S T) m where
 n:=fn
 az:=az
 k:=b
 o:=D
 sc:=sc
 sr:=sr
 h s r w:=by have u:=Cm B;have a:=h (cK s,kQ.e r) (by rw[w];rfl);change me S (di S T) (JE (tj (T fn)).rs) (tj (T fn)).body [] (start (az.map .v) [])=some (cK s,kQ.e r)at a;have⟨o,st',d,g1,g2,g3,g4⟩:=ac0 a;refine⟨d,st'.m,?_,g4⟩;rw[tY u];unfold oV;rw[if_pos (by simpa using Nat.le_of_ble_eq_true G),g1];cases o with|exit id=>exact absurd rfl (g2 id)|norm=>simp only[g3,map_some]|ret=>simp only[g3,map_some]
section
variable{S:Sys}{c:cm}{β γ δ α:Type}{Q:Out×St->aY β}{e:γ->aY β}{cf:Cf}
theorem aaz(n:Nat)(ds:ST){m:aY δ}[F:Fc S c m]{f:δ->aY γ}(h:∀x,m=some x->Le ((f x).bind e) (bZ S c Q (nx S c n cf λp=>cW {p.st with m:=if(result (F.E x)).scalar then p.st.m else pW ds p.st.m} p.d (.v (result (F.E x))))))
 (B:(gx S c n cf).map (λp=>(p.k,((bW S.N p.st.g p.az).bind mz).bind λq=>(oI (jt p.st.m 8) q.2).map λvs=>(q.1,vs,!p.dr||p.now,(dz q.2).isSome,rowsOf q.2)))=some (.c,some (F.n,F.az,true,false,some ds)):=by kernel_rfl):Le ((m.bind f).bind e) (bZ S c Q cf):=by
 have⟨p,z,a⟩:=eZ B;simp only[ζc]at a;have⟨C,D⟩:=a;have⟨q,g1,g2⟩:=ζg.1 D;have⟨u,g3,g4⟩:=ζg.1 g1;have⟨vs,g5,g6⟩:=ζf.1 g2;simp only[ζc]at g6;obtain⟨e1,rfl,e3,e4,e5⟩:=g6;refine sG z ?_ h;rw[C,xS _ _ _ _ _ _ u q.1 q.2 g3 g4,NF _ _ _ _ _ _ _ (by rw[e1];exact F.F.k),(yu p.st.m 8).2,g5]
 simp only[ζb,e3,Bool.true_or,Bool.and_self,if_true];intro y w;have⟨r,b,w⟩:=ζg.1 w;cases w;have:=F.F.h () (F.E r) (ζg.2 ⟨r,b,rfl⟩);rw[e1,this];simp only[ζb,LX,e4,Bool.or_false]
 cases(result (F.E r)).scalar with
 |true=>rfl|false=>simp only[false_eq_true,if_false,if_true,e5,map_some,ζb]
theorem X2(n:Nat)(ds:ST){m:aY δ}[F:Fc S c m]{f:δ->aY γ}
 (h:∀x,m=some x->Le ((f x).bind e) (bZ S c Q (nx S c n cf λp=>cW p.st p.d (.v (result (F.E x)))))/\Le ((f x).bind e) (bZ S c Q (nx S c n cf λp=>cW {p.st with m:=pW ds p.st.m} p.d (.v (result (F.E x))))))
 (B:(gx S c n cf).map (λp=>(p.k,((bW S.N p.st.g p.az).bind mz).bind λq=>(oI (jt p.st.m 8) q.2).map λvs=>(q.1,vs,!p.dr||p.now,(dz q.2).isSome,rowsOf q.2)))=some (.c,some (F.n,F.az,true,false,some ds)):=by kernel_rfl):Le ((m.bind f).bind e) (bZ S c Q cf):=
 aaz n ds (λx u=>by
  cases(result (F.E x)).scalar with
  |true=>exact(h x u).1|false=>exact(h x u).2) B
end
def Hx(rs:aX RV)(B:ST):Out×St->aY (So×dI)
 |(.exit _,_)=>none|(_,st)=>(l8 st rs).bind λl=>(dz l).bind λys=>(lN st.m B).map λos=>(ys,os)
theorem goK{S:Sys}{c:cm}{rs:aX RV}{B:ST}{a:RC}{st:St}{os:dI}{ys:So}(h:me S c (Hx rs B) a [] st=some (ys,os)):∃o st',cN S c a st=some (o,st')/\(∀id,o≠.exit id)/\l8 st' rs=some (ys.map .v)/\lN st'.m B=some os:=by
 rw[rq]at h;have⟨⟨o,st'⟩,b,u⟩:=ζg.1 h;have w:∀id,o≠.exit id:=by rintro id rfl;simp[Hx]at u
 have z:(l8 st' rs).bind (λl=>(dz l).bind λys=>(lN st'.m B).map λos=>(ys,os))=some (ys,os):=by cases o with|exit id=>exact absurd rfl (w id)|norm=>exact u|ret=>exact u
 have⟨l,C,D⟩:=ζg.1 z;have⟨O,G,I⟩:=ζg.1 D;have⟨q,J,L⟩:=ζf.1 I;cases L;exact⟨o,st',b,w,by rw[C,Dj G],J⟩
def qL:Tb bJ->dI->Tb bJ
 |m,[]=>m|m,(d,ob)::r=>qL (bM m d ob) r
theorem KW{m':dI}{D:ST}:∀{B:ST}{os m:dI},lN m' B=some os->(os.all λx=>within D x.2)=true->Bo D m' B m=some (qL m os)
 |[],os,m,h,_=>by cases h;rfl|k::B,os,m,h,hp=>by simp only[lN]at h;split at h;(next v t a G=>cases h;simp only[all_cons,ζh]at hp;simp only[Bo,a,hp.1,if_true,qL];exact KW G hp.2);cases h
theorem back_eq{m':dI}{B:ST}{os m:dI}(h:lN m' B=some os)(hp:(os.all λx=>within B x.2)=true):mj m' B m=some (qL m os):=KW h hp
structure pe(S:Sys)(c:cm){δ:Type}(m:Option δ)where
 n:FuncId
 az:List SV
 os:dI
 E:δ->List V
 M:δ->dI
 k:S.E.keep n=true
 o:S.E.own n=false
 q:(S.prm n).isNone=true
 h:∀r,m=some r->∃m',c n az os=some ((E r).map .v,m')/\∀m0,mj m' (os.map (·.1)) m0=some (qL m0 (M r))
abbrev pe.mk'{S:Sys}{T:sH}{δ:Type}{m:aY δ}(fn:FuncId)(az:aX SV)(os:dI)(E:δ->aX V)(M:δ->dI)(h:Le (m.bind λr=>some (E r,M r)) (bZ S (di S T) (Hx (tr T fn) (os.map (·.1))) (.rc (tb T fn),[],start az os)))
 (B:(T fn).isSome=true:=by kernel_rfl)(b:S.E.keep fn=true:=by kernel_rfl)(D:S.E.own fn=false:=by kernel_rfl)(G:(S.prm fn).isNone=true:=by kernel_rfl)(J:ble az.length (tj (T fn)).na=true:=by kernel_rfl)
 (hp:∀r,((M r).all λx=>within (os.map (·.1)) x.2)=true:=by intro r;kernel_rfl):pe S (di S T) m where
 n:=fn
 az:=az
 os:=os
 E:=E
 M:=M
 k:=b
 o:=D
 q:=G
 h r hr:=by have u:=Cm B;have a:=h (E r,M r) (by rw[hr];rfl);change me S (di S T) (Hx (tj (T fn)).rs (os.map (·.1))) (tj (T fn)).body [] (start az os)=some (E r,M r)at a;have⟨o,st',g1,g2,g3,g4⟩:=goK a;refine⟨st'.m,?_,λw=>back_eq g4 (hp r)⟩;rw[tY u];unfold oV;rw[if_pos (Nat.le_of_ble_eq_true J),g1];cases o with|exit id=>exact absurd rfl (g2 id)|norm=>simp only[g3,map_some]|ret=>simp only[g3,map_some]
section
variable{S:Sys}{c:cm}{β γ δ:Type}{Q:Out×St->aY β}{e:γ->aY β}{cf:Cf}
theorem uS(n:Nat){m:aY δ}(F:pe S c m){f:δ->aY γ}(h:∀x,m=some x->Le ((f x).bind e) (bZ S c Q (nx S c n cf λp=>cW {p.st with m:=qL p.st.m (F.M x)} p.d (.v (result (F.E x))))))
 (B:(gx S c n cf).map (λp=>(p.k,((bW S.N p.st.g p.az).bind mz).bind λq=>(handed p.st.m q.2).map λos=>(q.1,q.2,os),p.dr))=some (.c,some (F.n,F.az,F.os),false):=by kernel_rfl):Le ((m.bind f).bind e) (bZ S c Q cf):=by
 have⟨p,z,a⟩:=eZ B;simp only[ζc]at a;have⟨C,D,G⟩:=a;have⟨q,g1,g2⟩:=ζg.1 D;have⟨u,g3,g4⟩:=ζg.1 g1;have⟨os,g5,g6⟩:=ζf.1 g2;simp only[ζc]at g6;obtain⟨e1,e2,rfl⟩:=g6;refine sG z ?_ h;rw[C,G,xS _ _ _ _ _ _ u q.1 q.2 g3 g4];intro y w;have⟨r,b,w⟩:=ζg.1 w;cases w;have⟨m',k1,k2⟩:=F.h r b;have I:S.prm F.n=none:=by have:=F.q;cases J:S.prm F.n with|none=>rfl|some _=>rw[J]at this;cases this
 have:fN S c p.d false (!false||p.now) (gB p.st.m p.fr) q.1 q.2 p.st=some (.v (result (F.E r)),{p.st with m:=qL p.st.m (F.M r)}):=by unfold fN;rw[e1,e2]at *;simp only[F.k,F.o,I,g5,k1,ou,k2,if_true,Bool.not_false,Bool.true_or,Bool.false_and,false_eq_true,if_false]
 rw[this];rfl
instance:Key U' where
 kk:=.str
 ok _:=rfl
 eq a b:=by show some (a==b)=some (decide (a=b));rw[show(a==b)=decide (a=b)from Bool.eq_iff_iff.2 (by cases a;cases b;rename_i x y;show(x==y)=true↔_;simp)]
def Ou(s:Sl U8):U':=oq (s.l.map U8.v)
theorem K5:∀l:aX U8,ny (rows l)=some (l.map U8.v)
 |[]=>rfl|a::l=>by show(ny (rows l)).map (a.v::·)=_;rw[K5 l];rfl
theorem abZ(n u:Nat)(s:Sl U8){m:aY β}(h:Le m (bZ S c Q (nx S c n cf λp=>cW p.st p.d (.v (.str (Ou s))))))
 (B:(gx S c n cf).map (λp=>(p.k,bW S.N p.st.g p.az,bl p.st.m u,p.dr))=some (.b,some [.own u],some (cK s),false):=by kernel_rfl):Le m (bZ S c Q cf):=by
 have⟨p,z,a⟩:=eZ B;simp only[ζc]at a;have⟨C,D,G,I⟩:=a;refine xE z ?_ h;rw[C,I];have J:(kE p.st.m 1 (.own u)).bind (λL=>(ny L).map λl=>((SV.v (.str (oq l)),p.st):SV×St))=some (.v (.str (Ou s)),p.st):=by have O:ny (rows s.l)=some (s.l.map U8.v):=K5 _;have w:kE p.st.m 1 (.own u)=some (rows s.l):=(by unfold kE;simp only[G];cases s<;>rfl);rw[w];show((ny (rows s.l)).map λl=>_)=_;rw[O];rfl
 unfold gp nX;have T:gH S.N p.st.g ⟨p.d,none,p.now,.b,p.az,[],[]⟩=none:=rfl;simp only[wanted,T,D,false_eq_true,if_false,J];rfl
end
def OS(rs:aX RV)(B:ST):Out×St->aY (bJ×So×dI)
 |(.exit _,_)=>none|(_,st)=>(l8 st rs).bind λl=>match l with
  |.own d::r=>if B.contains d then none else(bl st.m d).bind λob=>(dz r).bind λys=>(lN st.m B).map λos=>(ob,ys,os)|_=>none
theorem goR{S:Sys}{c:cm}{rs:aX RV}{B:ST}{a:RC}{st:St}{ob:bJ}{ys:So}{os:dI}(h:me S c (OS rs B) a [] st=some (ob,ys,os)):
 ∃o st' d,cN S c a st=some (o,st')/\(∀id,o≠.exit id)/\l8 st' rs=some (.own d::ys.map .v)/\B.contains d=false/\bl st'.m d=some ob/\lN st'.m B=some os:=by
 rw[rq]at h;have⟨⟨o,st'⟩,b,w⟩:=ζg.1 h;have D:∀id,o≠.exit id:=by rintro id rfl;simp[OS]at w
 have G:(l8 st' rs).bind (λl=>match l with|.own d::r=>if B.contains d then none else(bl st'.m d).bind λob=>(dz r).bind λys=>(lN st'.m B).map λos=>(ob,ys,os)|_=>none)=some (ob,ys,os):=by cases o with|exit id=>exact absurd rfl (D id)|norm=>exact w|ret=>exact w
 have⟨l,I,u⟩:=ζg.1 G;split at u
 .split at u
  .cases u
  rename_i e;have⟨J,L,O⟩:=ζg.1 u;have⟨U,Q,T⟩:=ζg.1 O;have⟨q,z,C⟩:=ζf.1 T;cases C;exact⟨o,st',_,b,D,by rw[I,Dj Q],by simpa using e,L,z⟩
 cases u
structure FcR(S:Sys)(c:cm){δ ε:Type}[bD δ][kQ ε](m:Option (Sl δ×ε))where
 n:FuncId
 az:List SV
 os:dI
 M:Sl δ×ε->dI
 k:S.E.keep n=true
 o:S.E.own n=false
 q:(S.prm n).isNone=true
 h:∀r,m=some r->∃e m',c n az os=some (.own e::(kQ.e r.2).map .v,m')/\bl m' e=some (cK r.1)/\(os.map (·.1)).contains e=false/\∀m0,mj m' (os.map (·.1)) m0=some (qL m0 (M r))
abbrev FcR.mk'{S:Sys}{T:sH}{δ ε:Type}[bD δ][kQ ε]{m:aY (Sl δ×ε)}(fn:FuncId)(az:aX SV)(os:dI)(M:Sl δ×ε->dI)
 (h:Le (m.bind λr=>some (cK r.1,kQ.e r.2,M r)) (bZ S (di S T) (OS (tr T fn) (os.map (·.1))) (.rc (tb T fn),[],start az os)))
 (B:(T fn).isSome=true:=by kernel_rfl)(b:S.E.keep fn=true:=by kernel_rfl)(D:S.E.own fn=false:=by kernel_rfl)(G:(S.prm fn).isNone=true:=by kernel_rfl)(J:ble az.length (tj (T fn)).na=true:=by kernel_rfl)
 (hp:∀r,((M r).all λx=>within (os.map (·.1)) x.2)=true:=by intro r;kernel_rfl):FcR S (di S T) m where
 n:=fn
 az:=az
 os:=os
 M:=M
 k:=b
 o:=D
 q:=G
 h r hr:=by have u:=Cm B;have a:=h (cK r.1,kQ.e r.2,M r) (by rw[hr];rfl);change me S (di S T) (OS (tj (T fn)).rs (os.map (·.1))) (tj (T fn)).body [] (start az os)=some (cK r.1,kQ.e r.2,M r)at a;have⟨o,st',d,g1,g2,g3,g4,g5,g6⟩:=goR a;refine⟨d,st'.m,?_,g5,g4,λw=>back_eq g6 (hp r)⟩;rw[tY u];unfold oV;rw[if_pos (Nat.le_of_ble_eq_true J),g1];cases o with|exit id=>exact absurd rfl (g2 id)|norm=>simp only[g3,map_some]|ret=>simp only[g3,map_some]
section
variable{S:Sys}{c:cm}{β γ:Type}{Q:Out×St->aY β}{e:γ->aY β}{cf:Cf}
end
structure ZR(S:Sys)(c:cm){α δ:Type}[bD δ](fn:FuncId)(A:α->List V)(p:α->Option (Sl δ)):Prop where
 k:S.E.keep fn=true
 o:S.E.own fn=false
 q:(S.prm fn).isNone=true
 h:∀z s,p z=some s->∃e m',c fn ((A z).map .v) []=some ([.own e],m')/\bl m' e=some (cK s)
theorem ZR.mk'{S:Sys}{T:sH}{α δ:Type}[bD δ](rf:RF){fn:Y'}{A:α->So}{p:α->aY (Sl δ)}(h:∀z,Le ((p z).bind λr=>some (cK r)) (bZ S (di S T) (B0 rf.rs) (.rc rf.body,[],start ((A z).map .v) [])))
 (B:T fn=some rf:=by kernel_rfl)(b:S.E.keep fn=true:=by kernel_rfl)(D:S.E.own fn=false:=by kernel_rfl)(G:(S.prm fn).isNone=true:=by kernel_rfl)(J:∀z,(A z).length<=rf.na:=by intro z;exact Nat.le_of_ble_eq_true (by kernel_rfl)):ZR S (di S T) fn A p where
 k:=b
 o:=D
 q:=G
 h z s u:=by have a:=h z (cK s) (by rw[u];rfl);change me S (di S T) (B0 rf.rs) rf.body [] (start ((A z).map .v) [])=some (cK s)at a;have⟨o,st',d,g1,g2,g3,g4⟩:=goO a;refine⟨d,st'.m,?_,g4⟩;rw[tY B];unfold oV;rw[if_pos (by simpa using J z),g1];cases o with|exit id=>exact absurd rfl (g2 id)|norm=>simp only[g3,map_some]|ret=>simp only[g3,map_some]
theorem Kd:∀l:So,SV.uj (l.map .v)=[]
 |[]=>rfl|a::l=>by simp only[map_cons,SV.uj,SV.DT,Kd l,append_nil]
theorem Qk{m:Tb bJ}(l:So):handed m (l.map .v)=some []:=by unfold handed;rw[Kd];rfl
section
variable{S:Sys}{c:cm}{β γ δ α:Type}[bD δ]{Q:Out×St->aY β}{e:γ->aY β}{cf:Cf}
end
def TP(s:Nat)(v:SV)(cf:Cf):Cf:=(cf.1,cf.2.1,{cf.2.2 with g:=bM cf.2.2.g s v})
section
variable{S:Sys}{c:cm}{β γ δ:Type}{Q:Out×St->aY β}{e:γ->aY β}{cf:Cf}
theorem dJ(n s:Nat){v B:V}(a:v=B){m:aY β}(h:Le m (bZ S c Q (TP s (.v B) (jZ S c n cf))))
 (D:(jd S c n cf.1 cf.2.1 cf.2.2).map (λp=>bl p.2.2.g s)=some (some (.v v)):=by kernel_rfl):Le m (bZ S c Q cf):=by
 subst a;have⟨p,u,a⟩:=eZ D;have b:jZ S c n cf=p:=by unfold jZ;grind
 rw[b]at h;refine CA u ?_;have:TP s (.v v) p=p:=by unfold TP;rw[sD a]
 rw[this]at h;exact h
end
def dD{α δ:Type}(b:(α->aY δ)->α->aY δ):Nat->α->aY δ
 |0,_=>none|n+1,z=>b (dD b n) z
theorem eR.fix{S:Sys}{c:cm}{α δ:Type}{fn:Y'}{A:α->So}{E:δ->So}{sc:X'}{b:(α->aY δ)->α->aY δ}(a:S.E.keep fn=false)(B:sc=true->∀r,(result (E r)).scalar=true)
 (h:∀r,eR S c fn A E r sc->∀z,Le ((b r z).bind λr=>some (E r)) (gV c fn (A z))):∀n,eR S c fn A E (dD b n) sc
 |0=>⟨a,λ_=>Le.none _,B⟩|n+1=>⟨a,h _ (eR.fix a B h n),B⟩
structure yO(S:Sys)(c:cm){α δ:Type}(fn:FuncId)(A:α->List SV)(O:α->dI)(E:δ->List V)(M:α->δ->dI)(p:α->Option δ):Prop where
 k:S.E.keep fn=true
 o:S.E.own fn=false
 q:(S.prm fn).isNone=true
 h:∀z r,p z=some r->∃m',c fn (A z) (O z)=some ((E r).map .v,m')/\∀m0,mj m' ((O z).map (·.1)) m0=some (qL m0 (M z r))
abbrev pe.of{S:Sys}{c:cm}{α δ:Type}{fn:FuncId}{A:α->aX SV}{O:α->dI}{E:δ->aX V}{M:α->δ->dI}{p:α->aY δ}(z:α)(F:yO S c fn A O E M p):pe S c (p z):=⟨fn,A z,O z,E,M z,F.k,F.o,F.q,F.h z⟩
theorem yO.fix{S:Sys}{c:cm}{α δ:Type}{fn:Y'}{A:α->SW}{O:α->dI}{E:δ->So}{M:α->δ->dI}{b:(α->aY δ)->α->aY δ}(k:S.E.keep fn=true)(o:S.E.own fn=false)(q:(S.prm fn).isNone=true)
 (h:∀r,yO S c fn A O E M r->∀z B,b r z=some B->∃m',c fn (A z) (O z)=some ((E B).map .v,m')/\∀D,mj m' ((O z).map (·.1)) D=some (qL D (M z B))):∀n,yO S c fn A O E M (dD b n)
 |0=>⟨k,o,q,λ_ _ h=>by cases h⟩|n+1=>⟨k,o,q,h _ (yO.fix k o q h n)⟩
structure zl(S:Sys)(c:cm){α σ:Type}[bD α](cl:SV)(g:FuncId)(e:List SV)(os:σ->dI)(p:α->σ->Option (Bool×σ)):Prop where
 cs:∀vs,mz (cl::vs)=some (g,vs++e)
 hd:∀(s:σ)(a:V),handed (os s) [.v a,cl]=some (os s)
 tk:∀s s',lN (os s') ((os s).map (·.1))=some (os s')
 wi:∀s s',((os s').all λx=>within ((os s).map (·.1)) x.2)=true
 put:∀s s',qL (os s) (os s')=os s'
 h:∀x s r,p x s=some r->∀(dst:Option Nat)(old:List SV->Bool)(st:St),st.m=os s->fN S c dst false true old g (.v (enc x)::e) st=some (.v (.bool r.1),{st with m:=os r.2})
section
variable{S:Sys}{c:cm}{α σ:Type}[bD α]{g:Y'}
theorem zl.ZI{e:So}{p:α->aY X'}(F:mS S c g [] e (λz:α=>[enc z]) (λr:X'=>[.bool r]) p true):zl S c (.v (.clo g [] e)) g (e.map .v) (λ_:Unit=>[]) (λx u=>(p x).map λb=>(b,u))where
 cs vs:=rfl
 hd s a:=Qk [a,.clo g [] e]
 tk _ _:=rfl
 wi _ _:=rfl
 put _ _:=rfl
 h x s r hr dst old st w:=by obtain⟨b,C,rfl⟩:=ζf.1 hr;have B:gV c g (enc x::e)=some [.bool b]:=F.f.h x [.bool b] (by rw[C];rfl);have e1:{st with m:=([]:dI)}=st:=(by cases st;simp only at w;subst w;rfl);rw[e1];unfold gV at B;have⟨⟨rs,m'⟩,d,D⟩:=ζg.1 B;have f:=F.f.k;unfold fN;have G:dc st.m 8 (.v (enc x)::e.map .v)=some (enc x::e):=w6 8 (enc x::e);simp only[f,G,d,D,false_eq_true,if_false,Bool.true_or,if_true,result,V.scalar]
theorem zl.ofK{e:SW}{os:σ->dI}{p:α->σ->aY (X'×σ)}[Inhabited α][Inhabited σ](F:∀x s,pe S c (p x s))(G:∀x s,(F x s).n=g:=by intro _ _;kernel_rfl)(J:∀x s,(F x s).az=.v (enc x)::e:=by intro _ _;kernel_rfl)(D:∀x s,(F x s).os=os s:=by intro _ _;kernel_rfl)
 (U:∀x s,(F x s).E=λr=>[.bool r.1]:=by intro _ _;kernel_rfl)(d:∀x s,(F x s).M=λr=>os r.2:=by intro _ _;kernel_rfl)
 (hd:∀s:σ,lN (os s) (reach (os s) 32 (SV.uj e) [])=some (os s):=by intro _;kernel_rfl)
 (tk:∀s B,lN (os B) ((os s).map (·.1))=some (os B):=by intro _ _;kernel_rfl)(wi:∀s B,((os B).all λx=>within ((os s).map (·.1)) x.2)=true:=by intro _ _;kernel_rfl)(put:∀s B,qL (os s) (os B)=os B:=by intro _ _;kernel_rfl):zl S c (.clo g [] e) g e os p where
 cs vs:=rfl
 hd s a:=by have:SV.uj [.v a,.clo g [] e]=SV.uj e:=(by simp[SV.uj,SV.DT]);unfold handed;rw[this];exact hd s
 tk:=tk
 wi:=wi
 put:=put
 h x s r hr dst old st u:=by have⟨m',k1,k2⟩:=(F x s).h r hr;have b:=(F x s).k;have w:=(F x s).o;have z:S.prm (F x s).n=none:=(by have:=(F x s).q;cases I:S.prm (F x s).n with|none=>rfl|some _=>rw[I]at this;cases this);rw[G]at b w z k1;rw[J,D,U]at k1;rw[D,d]at k2;have C:handed st.m (.v (enc x)::e)=some (os s):=(by rw[u];exact hd s);have k2:=k2 (os s);rw[put]at k2;rw[<-u]at k2;unfold fN;rw[u]at C k2⊢;simp only[b,w,z,C,k1,k2,ou,map_cons,map_nil,dz,map_some,if_true,Bool.false_and,false_eq_true,if_false,result]
end
def GM{α σ:Type}(s0:Sl α)(p:α->σ->aY (X'×σ))(q:Int×σ):aY (Fw (Int×σ) σ (Int×σ)):=bg (decide (q.1<len s0)) ((idx s0 q.1).bind λx=>(p x q.2).bind λy=>bg y.1 (some (.r (q.1,y.2))) (some (.n (wrap .i64 (q.1+1),y.2)))) (some (.x q.2))
def UR{α σ:Type}(s0:Sl α)(p:α->σ->aY (X'×σ))(x:σ):aY (Int×σ):=(bF (GM s0 p) (0,x)).bind (Fw.elim (λe=>some (-1,e)) λe=>some e)
def A8{α σ:Type}(s0:Sl α)(p:α->σ->aY (X'×σ))(x:σ):aY (X'×σ):=(UR s0 p x).bind λy=>some (decide (y.1>=0),y.2)
section
variable{S:Sys}{c:cm}{α σ β γ:Type}[bD α]{g:Y'}{Q:Out×St->aY β}{e:γ->aY β}{cf:Cf}
theorem Rf(n:Nat){a:SV}{ex:SW}{os:σ->dI}{p:α->σ->aY (X'×σ)}(F:zl S c a g ex os p)(x:α)(s:σ){f:X'×σ->aY γ}(h:∀r,p x s=some r->Le ((f r).bind e) (bZ S c Q (nx S c n cf λq=>cW {q.st with m:=os r.2} q.d (.v (.bool r.1)))))
 (B:(gx S c n cf).map (λq=>(q.k,bW S.N q.st.g q.az,q.dr,q.st.m))=some (.c,some [a,.v (enc x)],false,os s):=by kernel_rfl):Le (((p x s).bind f).bind e) (bZ S c Q cf):=by
 have⟨q,w,b⟩:=eZ B;simp only[ζc]at b;have⟨d,z,C,D⟩:=b;refine sG w ?_ h;rw[d,C,xS _ _ _ _ _ _ _ g ([.v (enc x)]++ex) z (F.cs [.v (enc x)])];intro y u;have⟨r,i,u⟩:=ζg.1 u;cases u;have:=F.h x s r i q.d (gB q.st.m q.fr) q.st D;rw[show(!false||q.now)=true from rfl,List.singleton_append,this];rfl
theorem Kr{a:SV}{ex:SW}{os:σ->dI}{p:α->σ->aY (X'×σ)}(F:zl S c a g ex os p){rs:aX RV}{st:St}{s B:σ}{ys:So}(b:l8 st rs=some (ys.map .v))(D:st.m=os B):Hx rs ((os s).map (·.1)) (.ret,st)=some (ys,os B):=by show((l8 st rs).bind λl=>(dz l).bind λys=>(lN st.m ((os s).map (·.1))).map λos=>(ys,os))=_;rw[b,D,F.tk s B];simp only[ζb,ou,map_some]
theorem JO(n:Nat){b:SV}{ex:SW}{os:σ->dI}{p:α->σ->aY (X'×σ)}(F:zl S c b g ex os p){rs:aX RV}{s B:σ}{r:γ}{e:γ->aY (So×dI)}(ys:So)(D:e r=some (ys,os B))
 (G:(jd S c n cf.1 cf.2.1 cf.2.2).map (λq=>(q.1,l8 q.2.2 rs,q.2.2.m))=some (.rt,some (ys.map .v),os B):=by kernel_rfl):Le ((some r).bind e) (bZ S c (Hx rs ((os s).map (·.1))) cf):=by
 have⟨⟨fo,fs,st'⟩,u,a⟩:=eZ G;simp only[ζc]at a;obtain⟨rfl,w,z⟩:=a;refine CA u (Le.of_eq ?_);show rn S c _ Fo.rt fs st'=e r;rw[D];exact Kr F w z
theorem Ny(n:Nat){δ:Type}{m:aY δ}(F:pe S c m)(D:handed F.os F.az=some F.os)(hp:∀x,qL F.os (F.M x)=F.M x){f:δ->aY γ}(h:∀x,m=some x->Le ((f x).bind e) (bZ S c Q (nx S c n cf λp=>cW {p.st with m:=F.M x} p.d (.v (result (F.E x))))))
 (G:(gx S c n cf).map (λp=>(p.k,(bW S.N p.st.g p.az).bind mz,p.dr,p.st.m))=some (.c,some (F.n,F.az),false,F.os):=by kernel_rfl):Le ((m.bind f).bind e) (bZ S c Q cf):=by
 have⟨p,u,a⟩:=eZ G;simp only[ζc]at a;have⟨C,I,J,B⟩:=a;have⟨w,g3,g4⟩:=ζg.1 I;refine sG u ?_ h;rw[C,J,xS _ _ _ _ _ _ w F.n F.az g3 g4];intro y z;have⟨r,b,z⟩:=ζg.1 z;cases z;have⟨m',k1,k2⟩:=F.h r b;have u:S.prm F.n=none:=by have:=F.q;cases L:S.prm F.n with|none=>rfl|some _=>rw[L]at this;cases this
 have k2:=k2 p.st.m;rw[B,hp]at k2;have:fN S c p.d false (!false||p.now) (gB p.st.m p.fr) F.n F.az p.st=some (.v (result (F.E r)),{p.st with m:=F.M r}):=by unfold fN;rw[B];simp only[F.k,F.o,u,D,k1,k2,ou,if_true,Bool.not_false,Bool.true_or,Bool.false_and,false_eq_true,if_false]
 rw[this];rfl
end
section
variable{S:Sys}{c:cm}{β γ δ α:Type}[bD δ]{Q:Out×St->aY β}{e:γ->aY β}{cf:Cf}
theorem WQ(n u:Nat){fn:Y'}{A:α->So}{p:α->aY (Sl δ)}(F:BL S c fn A p)(z:α){f:Sl δ->aY γ}
 (h:∀x,(p z).bind Sl.whole=some x->Le ((f x).bind e) (bZ S c Q (nx S c n cf λq=>{q.st with g:=bM q.st.g u (.own u),m:=bM q.st.m u (cK x)})))
 (U:(gx S c n cf).map (λq=>(q.d,q.k,((bW S.N q.st.g q.az).bind mz).bind λr=>(oI (jt q.st.m 8) r.2).map λvs=>(r.1,vs),(!q.dr||q.now),q.st.new u))=some (some u,.c,some (fn,A z),true,true):=by kernel_rfl):Le ((((p z).bind Sl.whole).bind f).bind e) (bZ S c Q cf):=by
 have⟨q,T,b⟩:=eZ U;simp only[ζc]at b;have⟨W,X,Y,Z,O⟩:=b;have⟨⟨B,args⟩,D,g3⟩:=ζg.1 Y;have⟨G,g1,g2⟩:=ζg.1 D;have⟨vs,g4,g5⟩:=ζf.1 g3;simp only[ζc]at g5;obtain⟨rfl,rfl⟩:=g5;refine sG T ?_ h;rw[W,X];intro y I;have⟨d,J,I⟩:=ζg.1 I;cases I;have⟨s,i,C⟩:=ζg.1 J;have⟨e0,m',j,k⟩:=F.h z s i;rw[xS q.dr _ _ _ _ _ G B args g1 g2];have L:dc q.st.m 8 args=some (A z):=by rw[(yu q.st.m 8).2];exact g4
 have w:fN S c (some u) q.dr (!q.dr||q.now) (gB q.st.m q.fr) B args q.st=some (.own u,{q.st with m:=bM q.st.m u (cK d)}):=by unfold fN;simp only[F.k,F.o,if_true,Z,L,j,dz,k,cK,O];cases s with|nil=>cases C;rfl|emp=>cases C;rfl|row l=>cases C;have:nN (rows l)=true:=(by unfold nN;rw[all_eq_true];intro x o;obtain⟨a,_,rfl⟩:=mem_map.1 o;exact F.sc a);simp only[Sl.k,Sl.l,dz,V.c6,this,Bool.and_self,O,if_true];rfl|part l=>cases C
 rw[w];rfl
theorem Z8{α:Type}[bD α](n:Nat)(l:aX α)(q:xe)(svs:SW){m:aY β}(h:Le m (bZ S c Q (nx S c n cf λp=>cW p.st p.d (cv (Sl.row l:Sl α)))))
 (B:(gx S c n cf).map (λp=>(p.k,bW S.N p.st.g p.az))=some (.p q,some svs):=by kernel_rfl)(D:isSlice q=false:=by rfl)(hp:∀m,kK S.N m q svs=some (cv (Sl.row l:Sl α)):=by intro m;kernel_rfl):Le m (bZ S c Q cf):=by
 have⟨p,u,a⟩:=eZ B;simp only[ζc]at a;refine xE u ?_ h;rw[a.1];exact CZ a.2 D (hp _)
end
def Qw:Out×St->aY S'
 |(.exit _,_)=>none|(_,st)=>some st.want
def yl(B:S')(more:X')(xs:So):aY (X'×S'):=match B with
 |w::r=>open Classical in if w=xs then some (more|| !r.isEmpty,r)else none|[]=>none
section
variable{S:Sys}{c:cm}{β γ:Type}{Q:Out×St->aY β}{e:γ->aY β}{cf:Cf}
theorem Byl(n:Nat){B:S'}{more:X'}(xs:So){f:X'×S'->aY γ}
 (h:∀r,yl B more xs=some r->Le ((f r).bind e) (bZ S c Q (nx S c n cf λq=>cW {q.st with want:=r.2} q.d (.v (.bool r.1)))))
 (D:(gx S c n cf).map (λq=>(q.k,bW S.N q.st.g q.az,q.st.want,q.st.more,q.dr))=some (.c,some (.yl ((gx S c n cf).elim 0 λq=>q.st.yid)::xs.map .v),B,more,false):=by kernel_rfl):Le (((yl B more xs).bind f).bind e) (bZ S c Q cf):=by
 have⟨q,C,b⟩:=eZ D;simp only[ζc]at b;have⟨d,u,G,I,J⟩:=b;rw[C]at u;refine sG C ?_ h;intro y z;have⟨r,a,z⟩:=ζg.1 z;cases z;unfold yl at a;split at a
 .rename_i w O;split at a
  next L=>cases a;rw[d,J];unfold gp;have u:bW S.N q.st.g q.az=some (.yl q.st.yid::xs.map .v):=u;simp only[wanted,gH,u,ou,G,L,I,if_true,and_self,false_eq_true,if_false]
  cases a
 cases a
theorem U0{S G:Sys}{c:cm}(Y:G.E=S.E)(e:∀f q,S.prm f=some q->pK S.E f q)(i:ku S c)(j:∀f a b xs,S.items f a b=some xs->eU S f a b xs){f:Y'}{fi:FI}{nm:Y'->aY Nat}{rf:RF}(U:S.E.ft f=some fi)(l:∀g s,nm g=some s->S.N s=g)(m:zO S.E nm fi rf){a b:So}{xs:S'}(D:a.length+1+b.length<=rf.na)(W:rf.rs=[])
 (h:∀B more,wQ B xs more->∀yid,bZ S c Qw (.rc rf.body,[],⟨xD 0 (a.map .v++.yl yid::b.map .v),[],[],B,more,yid⟩)=some []):eU G f a b xs:=by
 have k:eU S f a b xs:=NM e i j U l m D W (λB more w yid=>by
  have d:=h B more w yid;change me S c Qw rf.body [] _=some []at d;rw[rq]at d;have⟨⟨o,st'⟩,z,u⟩:=ζg.1 d;refine⟨o,st',z,?_,?_,rfl⟩
  .rintro id rfl;simp[Qw]at u
  cases o<;>simp[Qw]at u<;>exact u)
 have⟨Q,T,n,zo,prm⟩:=G;simp only at Y;subst Y;intro B more w yid J y Z C I H d z u L O;exact k B more w yid J ⟨y.yT,y.yield⟩ Z C I H d z u L O
end
section
variable{S:Sys}{c:cm}{β γ α:Type}[bD α]{Q:Out×St->aY β}{e:γ->aY β}{cf:Cf}
theorem JN(n u:Nat){s:Sl α}{i:Nat}{a:α}{f:Sl α->aY γ}(h:∀B,s.put i a=some B->Le ((f B).bind e) (bZ S c Q (nx S c n cf λp=>cW {p.st with m:=bM p.st.m u (cK B)} p.d (.v .undef))))
 (D:(gx S c n cf).map (λp=>(p.k,bW S.N p.st.g p.az,bl p.st.m u,(!p.dr||p.now)))=some (.l (.store (bD.size α)),some [.el u i 0,cv a],some (cK s),true):=by kernel_rfl):Le (((s.put i a).bind f).bind e) (bZ S c Q cf):=by
 have⟨p,w,b⟩:=eZ D;simp only[ζc]at b;refine sG w ?_ h;rw[b.1];exact Le.of_eq (Ns b.2.1 b.2.2.2 b.2.2.1 (mI a) rfl)
end
theorem Wf{n:Int}(a:0<=n)(h:n<=4611686018427387904):wrap .i64 n=n:=by simp[wrap,IntKind.bits,signed];omega
namespace catX
instance{n:Nat}:OfNat Arg n:=⟨.s n⟩
def ln:K:=.p .lenSl
def ix:K:=.p (.idxS 1)
def bI(o:BinOp):K:=.p (.bin (some .int) none o)
def ld:K:=.r (.load 1 false)
def g1:R0:=[o1 4 (.k (.bO)) []]
def g2:R0:=[o1 5 1 [],o2 6 (bI .lss) [5,.k (.int .i64 0)] []]
def g3:R0:=[o2 7 (.p (.bad)) [] [],⟨none,none,false,.p .bad,[],[],[]⟩]
def g4:R0:=[o1 8 1 [],o1 9 0 [],o2 10 (.p (.capSl)) [9] [],o1 11 0 [],o2 12 ln [11] [],o2 13 (bI .sub) [10,12] [],o2 14 (bI .sub) [8,13] [],o1 1 14 []]
def g5:R0:=[o1 15 1 [],o2 16 (bI .gtr) [15,.k (.int .i64 0)] []]
def g6:R0:=[o1 17 0 [],o1 18 0 [],o2 19 (.p (.capSl)) [18] [],o2 20 (.p (.slice 1 false true)) [17,19] [],o1 21 1 [],o2 22 (.l (.appMk 1 24 [.bO])) [20,21] [],o1 23 0 [],o2 24 ln [23] [],o2 25 (.p (.slice 1 false true)) [22,24] [],o1 0 25 []]
def g7:R0:=[o1 26 0 [],o1 4 26 []]
def grow:RC:=.seq (.ops g1) (.seq (.seq (.ops g2) (.cond (.s 6) (.ops g3) (.skip))) (.seq (.seq (.ops g4) (.seq (.ops g5) (.cond (.s 16) (.ops g6) (.skip)))) (.seq (.ops g7) (.ret))))
section
variable{E:Env}{N:Nat->Y'}{t:Nat}
attribute [local simp] cE iI eB bN iM ni nj rD bI ln
theorem YI(W:t<=2147483648):∃F',Ex E N grow [.bO,.int .i64 t] [] .ret F' (if t=0 then[]else[.row 1 (replicate t [.bO])])/\get F' 4=if t=0 then .bO else .hsl 0 1 0 0:=by
 have e1:∀call,cE E N call none g1 [.bO,.int .i64 t] []=some (set [.bO,.int .i64 t] 4 .bO,[]):=λcall=>vp (v:=.bO) rfl (by simp[iI,eB,bN]) tW;have k0:get (set [V.bO,.int .i64 t] 4 .bO) 0=.bO:=rfl;have k1:get (set [V.bO,.int .i64 t] 4 .bO) 1=.int .i64 t:=rfl;generalize set [V.bO,.int .i64 t] 4 .bO=D at *;have e2:∃F1,(∀call,cE E N call none g2 D []=some (F1,[]))/\get F1 6=.bool false/\get F1 0=.bO/\get F1 1=.int .i64 t:=by exact⟨_,λcall=>by simp[g2,k1];rfl,Zab,by simp[k0],by simp[k1]⟩
 have⟨F1,a1,a2,a3,a4⟩:=e2;have e4:∃z,(∀call,cE E N call none g4 F1 []=some (z,[]))/\get z 0=.bO/\get z 1=.int .i64 t:=by exact⟨_,λcall=>by simp[g4,a3,a4,KI,oZ,Wf (n:=t) Zaa Zaa,show wrap .i64 0=0 from by decide];rfl,by simp[a3],Zab⟩
 have⟨z,G,Q,I⟩:=e4;have e5:∃u,(∀call,cE E N call none g5 z []=some (u,[]))/\get u 16=.bool (decide (t>0))/\get u 0=.bO/\get u 1=.int .i64 t:=by exact⟨_,λcall=>by simp[g5,I];rfl,Zab,by simp[Q],by simp[I]⟩
 have⟨u,J,L,O,S⟩:=e5;have d:Ex E N (.seq (.ops g2) (.cond (.s 6) (.ops g3) (.skip))) D [] .norm F1 []:=Ex.seq (Ex.dn a1) (Ex.rQ a2 Ex.skip);have e7:∀(F:WP)(H:bn),∃F',(∀call,cE E N call none g7 F H=some (F',H))/\get F' 4=get F 0:=λF H=>⟨_,λcall=>by simp[g7];rfl,Zab⟩
 by_cases a:t=0;subst a;have⟨C,b,c⟩:=e7 u [];refine⟨C,?_,by rw[c,O];rfl⟩;exact Ex.seq (Ex.dn e1) (Ex.seq d (Ex.seq (Ex.seq (Ex.dn G) (Ex.seq (Ex.dn J) (Ex.rQ L Ex.skip))) (Ex.seq (Ex.dn b) Ex.ret)));have w:0<t:=Zaa;have e6:∃B,(∀call,cE E N call none g6 u []=some (B,[.row 1 (replicate t [.bO])]))/\get B 0=.hsl 0 1 0 0:=by exact⟨_,λcall=>by simp[g6,O,S,KI,oZ,ot,jA,ez,fW,mkApp,w,a,show(t:Int)<=2147483648 from Zaa];rfl,Zab⟩
 have⟨B,T,U⟩:=e6;have⟨C,b,c⟩:=e7 B [.row 1 (replicate t [.bO])];rw[if_neg a,if_neg a];refine⟨C,?_,by rw[c,U]⟩;exact Ex.seq (Ex.dn e1) (Ex.seq d (Ex.seq (Ex.seq (Ex.dn G) (Ex.seq (Ex.dn J) (Ex.o7 (by show get u 16=_;rw[L,decide_eq_true w]) (Ex.dn T)))) (Ex.seq (Ex.dn b) Ex.ret)))
end
end catX
def EI{α:Type}(s:Sl (Sl α)):Sl α:=if(s.l.flatMap Sl.l).length=0 then .nil else .row (s.l.flatMap Sl.l)
namespace catX
def r1:R0:=[o1 2 (.k (.bO)) []]
def r2:R0:=[o1 3 (.k (.int .i64 0)) []]
def r3:R0:=[o1 9 0 [],o2 10 ln [9] [],o1 11 (.k (.int .i64 0)) []]
def r4:R0:=[o2 12 (bI .lss) [11,10] []]
def r5:R0:=[o2 13 ix [9,11] [],o2 14 ld [13] [],o1 5 14 []]
def r6:R0:=[o1 15 3 [],o1 16 5 [],o2 17 ln [16] [],o2 18 (bI .add) [15,17] [],o1 3 18 []]
def r7:R0:=[o1 19 3 [],o2 20 (bI .lss) [19,.k (.int .i64 0)] []]
def r8:R0:=[o2 21 (.p (.bad)) [] [],⟨none,none,false,.p .bad,[],[],[]⟩]
def r9:R0:=[o2 22 (bI .add) [11,.k (.int .i64 1)] [],o1 11 22 []]
def L9:RC:=.seq (.ops r4) (.seq (.cond (.s 12) (.skip) (.exit 0)) (.seq (.block 1 (.seq (.ops r5) (.seq (.ops r6) (.seq (.ops r7) (.cond (.s 20) (.ops r8) (.skip)))))) (.ops r9)))
def Cp(gid:Nat):R0:=[o1 23 3 [],o2 24 .c [.f gid,.k (.bO),23] [],o1 6 24 []]
def CN:R0:=[o1 25 0 [],o2 26 ln [25] [],o1 27 (.k (.int .i64 0)) []]
def CC:R0:=[o2 28 (bI .lss) [27,26] []]
def Cs:R0:=[o2 29 ix [25,27] [],o2 30 ld [29] [],o1 8 30 []]
def BS:R0:=[o1 31 6 [],o1 32 8 [],o2 33 (.l (.append 1)) [31,32] [],o1 6 33 []]
def Cw:R0:=[o2 34 (bI .add) [27,.k (.int .i64 1)] [],o1 27 34 []]
def L15:RC:=.seq (.ops CC) (.seq (.cond (.s 28) (.skip) (.exit 2)) (.seq (.block 3 (.seq (.ops Cs) (.ops BS))) (.ops Cw)))
def r16:R0:=[o1 35 6 [],o1 2 35 []]
def cat(gid:Nat):RC:=.seq (.ops r1) (.seq (.ops r2) (.seq (.seq (.ops r3) (.block 0 (.loop L9))) (.seq (.ops (Cp gid)) (.seq (.seq (.ops CN) (.block 2 (.loop L15))) (.seq (.ops r16) (.ret))))))
section
variable{E:Env}{N:Nat->Y'}{F:WP}{H:bn}{α:Type}[bD α]{s:Sl (Sl α)}{i:Nat}
theorem el{u:Sl α}(h:s.l[i]?=some u):nJ 1 (cg s) (i:Int)=some (.fptr [cg u]):=by have:=G4 (N:=λn=>n) s .i64 (i:Int) 1 rfl;simp only[bN]at this;rw[this,show idx s (i:Int)=some u from by unfold idx;grind];rfl
theorem lnS(s:Sl α):oZ (cg s)=some (.int .i64 s.l.length):=by have:=KN (N:=λn=>n) s;simpa only[bN]using this
attribute [local simp] cE iI eB bN iM ni nj rD lnS bI ln ix ld
theorem y3:(get F 0=cg s->∃F',(∀call,cE E N call none r3 F H=some (F',H))/\get F' 9=cg s/\get F' 10=.int .i64 s.l.length/\get F' 11=.int .i64 0/\∀j,j<9->get F' j=get F j)/\
 (get F 0=cg s->∃F',(∀call,cE E N call none CN F H=some (F',H))/\get F' 25=cg s/\get F' 26=.int .i64 s.l.length/\get F' 27=.int .i64 0/\∀j,j<9->get F' j=get F j):=by
 refine⟨λa=>⟨_,λcall=>by simp[r3,a];rfl,?_⟩,λa=>⟨_,λcall=>by simp[CN,a];rfl,?_⟩⟩<;>
  (simp;grind)
theorem y4{n:Nat}:(get F 11=.int .i64 i->get F 10=.int .i64 n->∃F',(∀call,cE E N call none r4 F H=some (F',H))/\get F' 12=.bool (decide (i<n))/\∀j,j<12->get F' j=get F j)/\
 (get F 27=.int .i64 i->get F 26=.int .i64 n->∃F',(∀call,cE E N call none CC F H=some (F',H))/\get F' 28=.bool (decide (i<n))/\∀j,j<28->get F' j=get F j):=by
 refine⟨λf u=>⟨_,λcall=>by simp[r4,f,u];rfl,?_⟩,λf u=>⟨_,λcall=>by simp[CC,f,u];rfl,?_⟩⟩<;>
  (simp;grind)
theorem y5{u:Sl α}(h:s.l[i]?=some u):(get F 9=cg s->get F 11=.int .i64 i->∃F',(∀call,cE E N call none r5 F H=some (F',H))/\get F' 5=cg u/\∀j,j<12->j≠5->get F' j=get F j)/\
 (get F 25=cg s->get F 27=.int .i64 i->∃F',(∀call,cE E N call none Cs F H=some (F',H))/\get F' 8=cg u/\∀j,j<28->j≠8->get F' j=get F j):=by
 have e:=el h;have e2:ey H (.load 1 false) [.fptr [cg u]]=some (cg u):=by simp[ey,eE,cut,mk]
 refine⟨λf w=>⟨_,λcall=>by simp[r5,f,w,e,e2];rfl,?_⟩,λf w=>⟨_,λcall=>by simp[Cs,f,w,e,e2];rfl,?_⟩⟩<;>
  (simp;grind)
theorem y6{u:Sl α}{t:Nat}(a:get F 3=.int .i64 t)(b:get F 5=cg u)(B:t+u.l.length<=2147483648):∃F',(∀call,cE E N call none r6 F H=some (F',H))/\get F' 3=.int .i64 ((t+u.l.length:Nat):Int)/\∀j,j<12->j≠3->get F' j=get F j:=by
 have w:wrap .i64 ((t:Int)+(u.l.length:Int))=((t+u.l.length:Nat):Int):=by rw[Wf Zaa Zaa];simp
 refine⟨_,λcall=>by simp[r6,a,b,w];rfl,Zab,?_⟩;simp;grind
theorem y7{t:Nat}(a:get F 3=.int .i64 t):∃F',(∀call,cE E N call none r7 F H=some (F',H))/\get F' 20=.bool false/\∀j,j<12->get F' j=get F j:=by refine⟨_,λcall=>by simp[r7,a];rfl,Zab,?_⟩;simp;grind
theorem y9(a:i<=2147483648):(get F 11=.int .i64 i->∃F',(∀call,cE E N call none r9 F H=some (F',H))/\get F' 11=.int .i64 ((i+1:Nat):Int)/\∀j,j<11->get F' j=get F j)/\
 (get F 27=.int .i64 i->∃F',(∀call,cE E N call none Cw F H=some (F',H))/\get F' 27=.int .i64 ((i+1:Nat):Int)/\∀j,j<27->get F' j=get F j):=by
 have u:=Al a;refine⟨λf=>⟨_,λcall=>by simp[r9,f,u];rfl,?_⟩,λf=>⟨_,λcall=>by simp[Cw,f,u];rfl,?_⟩⟩<;>
  (simp;grind)
structure Acc(H:bn)(w:V)(acc:List (List V)):Prop where
 el:dW H 1 w=some acc
 gr:∃H1,iX H w=some H1/\H1.length=H.length
 sh:w=.bO/\acc=[]\/∃id xs,w=.hsl id 1 0 acc.length/\H[id]?=some (.row 1 xs)/\(acc≠[]->xs=acc)
theorem YX(H:bn)(u:Sl α)(a:bD.size α=1):dW H 1 (cg u)=some (rows u.l):=by cases u<;>simp[cg,Sl.k,Sl.l,qw,dW,rows,a]
theorem y14{w:V}{b:S'}{u:Sl α}(f:bD.size α=1)(a:Acc H w b)(f6:get F 6=w)(D:get F 8=cg u)(J:b.length+u.l.length<=2147483648):
 ∃F' H' w',(∀call,cE E N call none BS F H=some (F',H'))/\get F' 6=w'/\Acc H' w' (b++rows u.l)/\(u.l=[]->w'=w)/\∀j,j<28->j≠6->get F' j=get F j:=by
 have c:=YX H u f;have C:(rows u.l).length=u.l.length:=by simp[rows]
 have key:∃H' w',fW H (.append 1) [w,cg u]=some (w',H')/\Acc H' w' (b++rows u.l)/\(u.l=[]->w'=w):=by have⟨H1,g1,g2⟩:=a.gr;cases d:rows u.l with|nil=>exact⟨H,w,by simp only[fW,a.el,c,d],Zac,λ_=>rfl⟩|cons y B=>have G:b.length+(y::B).length<=2147483648:=Zac;refine⟨H1++[.row 1 (b++y::B)],.hsl H.length 1 0 (b.length+(y::B).length),by simp only[fW,a.el,c,d];grind,?_⟩;have z:(H1++[Ob.row 1 (b++y::B)])[H.length]?=some (.row 1 (b++y::B)):=Zac;refine⟨⟨?_,⟨_,by simp only[iX,z];rfl,Zab⟩,.inr ⟨H.length,b++y::B,Zab,z,λ_=>rfl⟩⟩,λe=>Zac⟩;simp only[dW,z,ζb,Ob.rows,if_true,zero_add,drop_zero];grind
 have⟨H',w',k1,k2,k3⟩:=key;refine⟨_,H',w',λcall=>by simp[BS,f6,D,k1];rfl,Zab,k2,k3,?_⟩
 simp;grind
def upto(s:Sl (Sl α))(i:Nat):aX α:=(s.l.take i).flatMap Sl.l
theorem HK{u:Sl α}(h:s.l[i]?=some u):upto s (i+1)=upto s i++u.l:=by unfold upto;obtain⟨a,rfl⟩:=ζe.1 h;rw[List.take_succ_eq_append_getElem a,List.flatMap_append];simp
theorem Nz(s:Sl (Sl α))(i:Nat):(upto s i).length<=(s.l.flatMap Sl.l).length:=by
 have:s.l.flatMap Sl.l=upto s i++(s.l.drop i).flatMap Sl.l:=by unfold upto;rw[<-List.flatMap_append,List.take_append_drop]
 grind
theorem lp1(l:s.l.length<=2147483648)(m:(s.l.flatMap Sl.l).length<=2147483648):∀(d i:Nat)(F:WP),i+d=s.l.length->get F 9=cg s->get F 10=.int .i64 s.l.length->get F 11=.int .i64 i->get F 3=.int .i64 (upto s i).length->
 ∃F',nZ E N L9 F H (.exit 0) F' H/\get F' 3=.int .i64 (s.l.flatMap Sl.l).length/\get F' 0=get F 0:=by
 intro d
 induction d with
 |zero=>
  intro i F g I a w c;have⟨F1,a1,a2,a3⟩:=(y4 (E:=E) (N:=N) (H:=H) (n:=s.l.length)).1 w a;refine⟨F1,nZ.stop (Ex.seq (Ex.dn a1) (Ex.wj (Ex.rQ (by show get F1 12=_;grind) Ex.exit) Zab)) Zab,?_,a3 0 Zaa⟩
  rw[a3 3 Zaa,c]
  have:upto s i=s.l.flatMap Sl.l:=by unfold upto;grind
  simp_all
 |succ d J=>
  intro i F g I a w c;have⟨F1,a1,a2,a3⟩:=(y4 (E:=E) (N:=N) (H:=H) (n:=s.l.length)).1 w a;have e:s.l[i]?=some s.l[i]:=ζd Zaa
  have⟨L,O,Q,S⟩:=(y5 (E:=E) (N:=N) (F:=F1) (H:=H) e).1 Zac Zac
  have B:=Nz s (i+1);have C:=HK e;rw[C,ζi]at B;have⟨T,U,D,W⟩:=y6 (E:=E) (N:=N) (F:=L) (H:=H) (u:=s.l[i]) (t:=(upto s i).length) Zad Q Zaa
  have⟨G,h,k,f⟩:=y7 (E:=E) (N:=N) (F:=T) (H:=H) D;have z:∀j,j<12->j≠3->j≠5->get G j=get F j:=λj b X Y=>by rw[f j b,W j b X,S j b Y,a3 j b]
  have⟨Z,e1,e2,e3⟩:=(y9 (E:=E) (N:=N) (F:=G) (H:=H) (i:=i) Zaa).1 (by rw[z 11 Zaa Zaa Zaa];exact w)
  have⟨F',g1,g2,g3⟩:=J (i+1) Z Zaa (by rw[e3 9 Zaa,z 9 Zaa Zaa Zaa];omega) (by rw[e3 10 Zaa,z 10 Zaa Zaa Zaa];exact a) e2 (by rw[e3 3 Zaa,f 3 Zaa,D,C,ζi])
  exact⟨F',nZ.step (Ex.seq (Ex.dn a1) (Ex.seq (Ex.o7 (by show get F1 12=_;rw[a2,decide_eq_true Zaa]) Ex.skip) (Ex.seq (Ex.block (Ex.seq (Ex.dn O) (Ex.seq (Ex.dn U) (Ex.seq (Ex.dn h) (Ex.rQ k Ex.skip))))) (Ex.dn e1)))) g1,g2,by rw[g3,e3 0 Zaa,z 0 Zaa Zaa Zaa]⟩
theorem lp2(b:bD.size α=1)(h:s.l.length<=2147483648)(k:(s.l.flatMap Sl.l).length<=2147483648):∀(d i:Nat)(F:WP)(H:bn)(w:V),i+d=s.l.length->get F 25=cg s->get F 26=.int .i64 s.l.length->get F 27=.int .i64 i->get F 6=w->Acc H w (rows (upto s i))->
 ∃F' H' w',nZ E N L15 F H (.exit 2) F' H'/\get F' 6=w'/\Acc H' w' (rows (s.l.flatMap Sl.l))/\((s.l.flatMap Sl.l).length=0->w'=w):=by
 intro d
 induction d with
 |zero=>
  intro i F H w f C B z f6 a;have⟨F1,a1,a2,a3⟩:=(y4 (E:=E) (N:=N) (H:=H) (n:=s.l.length)).2 z B;have:upto s i=s.l.flatMap Sl.l:=by unfold upto;grind
  rw[this]at a;exact⟨F1,H,w,nZ.stop (Ex.seq (Ex.dn a1) (Ex.wj (Ex.rQ (by show get F1 28=_;grind) Ex.exit) Zab)) Zab,Zac,a,λ_=>rfl⟩
 |succ d O=>
  intro i F H w f C B z f6 a;have⟨F1,a1,a2,a3⟩:=(y4 (E:=E) (N:=N) (H:=H) (n:=s.l.length)).2 z B;have c:s.l[i]?=some s.l[i]:=ζd Zaa
  have⟨Q,S,T,l⟩:=(y5 (E:=E) (N:=N) (F:=F1) (H:=H) c).2 Zac Zac
  have D:=Nz s (i+1);have I:=HK c;rw[I,ζi]at D;have⟨J,H',w',U,W,L,X,m⟩:=y14 (E:=E) (N:=N) (F:=Q) (H:=H) (u:=s.l[i]) b a Zac T (by simp only[iZ];omega)
  have G:∀j,j<28->j≠6->j≠8->get J j=get F j:=λj b o p=>Zac
  have⟨Y,e1,e2,e3⟩:=(y9 (E:=E) (N:=N) (F:=J) (H:=H') (i:=i) Zaa).2 (by rw[G 27 Zaa Zaa Zaa];exact z)
  have g:rows (upto s i)++rows s.l[i].l=rows (upto s (i+1)):=by rw[I];simp[rows]
  rw[g]at L;have⟨F',H2,Z,g1,g2,g3,g4⟩:=O (i+1) Y H' w' Zaa (by rw[e3 25 Zaa,G 25 Zaa Zaa Zaa];omega) (by rw[e3 26 Zaa,G 26 Zaa Zaa Zaa];omega) e2 (by rw[e3 6 Zaa];exact W) L
  exact⟨F',H2,Z,nZ.step (Ex.seq (Ex.dn a1) (Ex.seq (Ex.o7 (by show get F1 28=_;rw[a2,decide_eq_true Zaa]) Ex.skip) (Ex.seq (Ex.block (Ex.seq (Ex.dn S) (Ex.dn U))) (Ex.dn e1)))) g1,g2,g3,λe=>(g4 e).trans (X (List.eq_nil_of_length_eq_zero Zaa))⟩
end
end catX
theorem Ye{E:Env}{f gf:Y'}{nm:Y'->aY Nat}{N:Nat->Y'}{gid:Nat}(K:∀f s,nm f=some s->N s=f)(hg:N gid=gf)(aa:E.keep gf=true)(U:E.own gf=true)
 (hf:∃fi,E.ft f=some fi/\bS ⟨E,nm,fi.ntmps⟩ false fi.body=some (catX.cat gid)/\2<=fi.ntmps/\fi.results=[.tmp 2])
 (ab:∃fi,E.ft gf=some fi/\bS ⟨E,nm,fi.ntmps⟩ false fi.body=some catX.grow/\2<=fi.ntmps/\fi.results=[.tmp 4])
 {α:Type}[bD α](M:bD.size α=1)(s:Sl (Sl α))(P:s.l.length<=2147483648)(ht:(s.l.flatMap Sl.l).length<=2147483648):CI E f [cg s] (cg (EI s)):=by
 have⟨fi,p1,p2,p3,p4⟩:=hf;have⟨gi,q1,q2,q3,q4⟩:=ab;generalize R:(s.l.flatMap Sl.l).length=T at *;have⟨Fg,Z,ad⟩:=catX.YI (E:=E) (N:=N) ht;have⟨n0,L⟩:=Ex.run K q1 q2 (args:=[.bO,.int .i64 T]) Zac Z (vs:=[if T=0 then .bO else .hsl 0 1 0 0]) (by rw[q4];simp[jD,ad])
 have O:∀l,borrows l [] [.bO,.int .i64 (T:Int)]=some [.bO,.int .i64 (T:Int)]:=λl=>by unfold borrows;simp only[jl,kG l [] (x:=V.bO) rfl,kG l [] (x:=V.int .i64 T) rfl]
 have C:∃w D,(∀k,n0<=k->gj E (run E k) gf [.bO,.int .i64 T] []=some (w,D))/\catX.Acc D w []/\(T=0->w=.bO):=by by_cases d:T=0;refine⟨.bO,[],λk g=>?_,⟨rfl,⟨[],rfl,rfl⟩,.inl ⟨rfl,rfl⟩⟩,λ_=>rfl⟩;have:=(qh E g).go _ _ _ _ L;rw[if_pos d,if_pos d]at this;unfold gj mw;rw[if_pos U];simp[O,this,result,V.scalar];refine⟨.hsl 0 1 0 0,[.row 1 (replicate T [.bO])],λk g=>?_,⟨by simp[dW,Ob.rows],⟨_,rfl,Zab⟩,.inr ⟨0,_,rfl,rfl,λh=>absurd rfl h⟩⟩,λh=>absurd h d⟩;have:=(qh E g).go _ _ _ _ L;rw[if_neg d,if_neg d]at this;unfold gj mw;rw[if_pos U];simp only[O,if_true,this,result,V.scalar,false_eq_true,if_false,tI,List.getElem?_cons_zero,true_and];rw[if_pos (by simp[List.all_replicate,V.scalar])];simp
 have⟨w,D,ai,ae,Q⟩:=C;have S:T≠0->rows (s.l.flatMap Sl.l)≠[]:=λh e=>h (by rw[<-R,<-iZ,e];rfl)
 have z:∀c∈rows (s.l.flatMap Sl.l),V.cH c=true:=λc p=>by obtain⟨x,_,rfl⟩:=mem_map.1 p;exact bD.good x
 have g1:∀call,cE E N call none catX.r1 [cg s] []=some (set [cg s] 2 .bO,[]):=λcall=>vp (v:=.bO) rfl (by simp[iI,eB,bN]) tW
 have k0:get (set [cg s] 2 .bO) 0=cg s:=rfl;generalize set [cg s] 2 .bO=F0 at *;have g2:∀call,cE E N call none catX.r2 F0 []=some (set F0 3 (.int .i64 0),[]):=λcall=>vp (v:=.int .i64 0) rfl (by simp[iI,eB,bN]) tW
 have⟨F2,a1,a2,a3,a4,a5⟩:=(catX.y3 (E:=E) (N:=N) (F:=set F0 3 (.int .i64 0)) (H:=[]) (s:=s)).1 Zad
 have⟨F3,b1,b2,b3⟩:=catX.lp1 (E:=E) (N:=N) (H:=[]) P Zaa s.l.length 0 F2 Zaa a2 a3 a4 (by rw[a5 3 Zaa,uR];rfl)
 rw[R]at b2;have aj:get F3 0=cg s:=Zad
 have q:∃W,(∃n,∀k,n<=k->cE E N (run E k) none (catX.Cp gid) F3 []=some (W,D))/\get W 6=w/\get W 0=cg s:=by refine⟨_,⟨n0,λk g=>vp (v:=.int .i64 T) rfl ?_<|Dv (v:=w) (H1:=D) rfl ?_<|vp (v:=w) rfl ?_ tW⟩,?_,?_⟩;simp[iI,eB,bN,b2];simp only[iI,map_cons,map_nil,eB,iM,ni,Nat.reduceEqDiff,if_true,if_false,hg,aa,nil_append,append_nil];grind;simp[iI,eB,bN,iM];simp[iM];simp only[iM,ni,Nat.reduceEqDiff,if_false];omega
 have⟨W,q,c2,c3⟩:=q;have⟨F5,d1,d2,d3,d4,d5⟩:=(catX.y3 (E:=E) (N:=N) (F:=W) (H:=D) (s:=s)).2 c3;have⟨F6,X,I,e1,e2,e3,e4⟩:=catX.lp2 (E:=E) (N:=N) M P Zaa s.l.length 0 F5 D w Zaa d2 d3 d4 Zad ae
 have r:∃t,(∀call,cE E N call none catX.r16 F6 X=some (t,X))/\get t 2=I:=⟨_,λcall=>vp (v:=I) rfl (by simp[iI,eB,bN,e2])<|vp (v:=I) rfl (by simp[iI,eB,bN,iM]) tW,by simp[iM]⟩
 have⟨t,r,f2⟩:=r;have⟨n,af⟩:=Ex.run K p1 p2 (args:=[cg s]) (by simp;omega) (Ex.seq (Ex.dn g1) (Ex.seq (Ex.dn g2) (Ex.seq (Ex.seq (Ex.dn a1) (Ex.w8 (Ex.loop b1))) (Ex.seq (Ex.ops q) (Ex.seq (Ex.seq (Ex.dn d1) (Ex.w8 (Ex.loop e1))) (Ex.seq (Ex.dn r) Ex.ret)))))) (vs:=[I]) (by rw[p4];simp[jD,f2])
 refine⟨n,I,X,λid=>∃m,I=.hsl id 1 0 m,af,?_,?_,?_⟩
 .rcases e3.sh with⟨h,J⟩|⟨id,xs,h,J,A⟩
  .have:T=0:=by grind
   rw[h];unfold EI;rw[if_pos Zaa]
   exact .same _ rfl
  by_cases d:T=0
  .have:=e4 Zaa
   rw[Q d]at this;rw[this]at h;cases h
  have y:=A (S d);subst y;unfold EI;rw[if_neg Zaa,h]
  show FR X _ (.fsl (bD.size α) (rows (s.l.flatMap Sl.l))) _;rw[M];exact .fsl 1 _ id 0 _ ⟨_,rfl⟩ (by unfold br;rw[J];rfl) Zaa (λi a b Y G=>by rw[zero_add]at G;rw[Y]at G;cases G;rfl) (λi j a b u v Y G o hv=>by
   rw[zero_add]at G;rw[Y]at G;cases G;rw[o]at hv;cases hv;exact .same _ (jc.1 (z a (mem_of_getElem? Y)) j u o))
 .rintro id ⟨m,h⟩;rcases e3.sh with⟨B,_⟩|⟨ah,xs,B,J,_⟩
  .rw[B]at h;cases h
  rw[B]at h;cases h;unfold br;rw[J];rfl
 refine⟨λid es ys hz hr c p u o=>?_⟩
 have⟨m,h⟩:=hz;rcases e3.sh with⟨B,_⟩|⟨ah,xs,B,J,A⟩
 .rw[B]at h;cases h
 rw[B]at h;cases h
 by_cases d:T=0
 .have:=e4 Zaa
  rw[Q d]at this;rw[this]at B;cases B
 have y:=A (S d);subst y;unfold br at hr;rw[J]at hr;cases hr;have⟨j,hj⟩:=getElem?_of_mem o;exact⟨u,.same _ (jc.1 (z c p) j u hj)⟩
def AV(op:X')(x y:Int):Int:=cond op x y
@[simp] theorem ab4(x y:Int):AV true x y=x:=rfl
@[simp] theorem ab5(x y:Int):AV false x y=y:=rfl
namespace setX
instance{n:Nat}:OfNat Arg n:=⟨.s n⟩
def fa(k:Nat):K:=.p (.fieldAddr k)
def ld:K:=.r (.load 1 false)
def r1:R0:=[o2 4 (.a .box) [1] [],o2 5 (.a .box) [2] []]
def r2:R0:=[o1 6 0 [],o2 7 (fa 0) [4] [],o2 8 ld [7] [],o2 9 (fa 1) [4] [],o2 10 ld [9] [],o2 11 (.p (.idxS 1)) [6,8] [],⟨none,none,false,.l (.store 1),[11,10],[],[]⟩]
def r3:R0:=[o1 6 0 [],o2 7 (fa 0) [5] [],o2 8 ld [7] [],o2 9 (fa 1) [5] [],o2 10 ld [9] [],o2 11 (.p (.bin (some .int) none .sub)) [10,.k (.int .i64 1)] [],o2 12 (.p (.idxS 1)) [6,8] [],⟨none,none,false,.l (.store 1),[12,11],[],[]⟩]
def code(op:X'):RC:=.seq (.ops r1) (.ops (if op then r3 else r2))
section
variable{E:Env}{N:Nat->Y'}{H:bn}{id off L:Nat}{rs:S'}
theorem V1{h:Nat}{x y:V}{i:Nat}{v:V}(B:H[h]?=some (.row 2 [[x,y]]))(a:[x,y][i]?=some v):ey H (.load 1 false) [.hptr h 0 i]=some v:=by match i,a with|0,a=>cases a;simp[ey,eE,B,Ob.rows,cut,mk]|1,a=>cases a;simp[ey,eE,B,Ob.rows,cut,mk]|i+2,a=>simp at a
attribute [local simp] cE iI eB bN iM ni nj rD
theorem whole(op:X'){a b c d:Int}(G:H[id]?=some (.row 1 rs))(hp:0<=(AV op c a))(B:(AV op c a).toNat<L){z:V}(D:rs[off+(AV op c a).toNat]?=some [z]):
 ∃F' X,Ex E N (code op) [.hsl id 1 off L,.agg [.int .i64 a,.int .i64 b],.agg [.int .i64 c,.int .i64 d]] H .norm F' ((H++X).set id (.row 1 (rs.set (off+(AV op c a).toNat) [.int .i64 (AV op (wrap .i64 (d-1)) b)]))):=by
 let X:bn:=[.row 2 [[.int .i64 a,.int .i64 b]],.row 2 [[.int .i64 c,.int .i64 d]]]
 have I:=(ζe.1 G).1;have e1:∃F1,(∀call,cE E N call none r1 [.hsl id 1 off L,.agg [.int .i64 a,.int .i64 b],.agg [.int .i64 c,.int .i64 d]] H=some (F1,H++X))/\get F1 0=.hsl id 1 off L/\get F1 4=.hptr H.length 0 0/\get F1 5=.hptr (H.length+1) 0 0:=by exact⟨_,λcall=>by simp[r1,get,set,kN,V.cells,V.one,Mk.val,X];rfl,rfl,rfl,rfl⟩
 have⟨F1,p1,p2,p3,p4⟩:=e1;have e:(H++X)[id]?=some (.row 1 rs):=by rw[getElem?_append_left I];exact G
 have J:(H++X)[H.length]?=some (.row 2 [[.int .i64 a,.int .i64 b]]):=by simp[X]
 have O:(H++X)[H.length+1]?=some (.row 2 [[.int .i64 c,.int .i64 d]]):=by rw[getElem?_append_right Zaa];simp[X]
 obtain⟨H1,Q⟩:∃H1,H1=H++X:=⟨_,rfl⟩;rw[<-Q]at e J O;rw[<-Q]at p1
 suffices W:∃F',Ex E N (code op) [.hsl id 1 off L,.agg [.int .i64 a,.int .i64 b],.agg [.int .i64 c,.int .i64 d]] H .norm F' (H1.set id (.row 1 (rs.set (off+(AV op c a).toNat) [.int .i64 (AV op (wrap .i64 (d-1)) b)])))by have⟨F',Y⟩:=W;exact⟨F',X,by rw[<-Q];exact Y⟩
 have w:∀p:Int,0<=p->p.toNat<L->nJ 1 (.hsl id 1 off L) p=some (.hptr id (off+p.toNat) 0):=λp g Z=>by unfold nJ;rw[if_neg Zaa];simp[Z]
 have C:∀(q:Nat)(z v:V),rs[q]?=some [z]->v.one=true->fW H1 (.store 1) [.hptr id q 0,v]=some (.undef,H1.set id (.row 1 (rs.set q [v]))):=λq z v D f=>by simp[fW,e,D,Ia f,f]
 cases op with
 |false=>
  simp only[ab5]at hp B D⊢;have S:=V1 (i:=0) J rfl;have T:=V1 (i:=1) J rfl;have e2:∃u,(∀call,cE E N call none r2 F1 H1=some (u,H1.set id (.row 1 (rs.set (off+a.toNat) [.int .i64 b])))):=by exact⟨_,λcall=>by simp[r2,p2,p3,fa,ld,nD,S,T,w a hp B,C _ z (.int .i64 _) D rfl];rfl⟩
  have⟨u,U⟩:=e2;exact⟨u,Ex.seq (Ex.dn p1) (Ex.dn (l:=_) U)⟩
 |true=>
  simp only[ab4]at hp B D⊢;have S:=V1 (i:=0) O rfl;have T:=V1 (i:=1) O rfl;have e2:∃u,(∀call,cE E N call none r3 F1 H1=some (u,H1.set id (.row 1 (rs.set (off+c.toNat) [.int .i64 (wrap .i64 (d-1))])))):=by exact⟨_,λcall=>by simp[r3,p2,p4,fa,ld,nD,S,T,w c hp B,C _ z (.int .i64 _) D rfl];rfl⟩
  have⟨u,U⟩:=e2;exact⟨u,Ex.seq (Ex.dn p1) (Ex.dn (l:=_) U)⟩
end
end setX
section
variable{S:Sys}{c:cm}{β γ δ α:Type}[bD δ]{Q:Out×St->aY β}{e:γ->aY β}{cf:Cf}
end
def snap(w:World):cD:=λb=>match w.heap[b]?with
 |some (.cells c _ _)=>some (.cells c)|some (.map es _)=>some (.map es)|_=>none
theorem TF{w:World}(a:wq (snap w)):dh (snap w) (λ_=>none) [] w where
 dom _ _:=rfl
 imm b x h:=by unfold snap at h;split at h;(next c el fr u=>cases h;exact⟨el,fr,u⟩);(next es d u=>cases h;exact⟨d,u⟩);cases h
 obs id ob h:=by simp at h
 inj id z ob B p C h:=by simp at h
 gl:=a
def fU(I:cD)(xs:So)(vs:aX V'):Prop:=xs.length=vs.length/\∀(j:Nat)a b,xs[j]?=some a->vs[j]?=some b->e_ I a b
theorem fU.nil{I:cD}:fU I [] []:=⟨rfl,Zab⟩
theorem fU.one{I:cD}{x:V}{v:V'}(h:e_ I x v):fU I [x] [v]:=⟨rfl,λj a b c u=>by
 cases j with
 |zero=>simp at c u;subst c u;exact h|succ j=>simp at c⟩
theorem fU.append{I:cD}{xs ys:So}{B vs:aX V'}(h:fU I xs B)(k:fU I ys vs):fU I (xs++ys) (B++vs):=by refine⟨by simp[h.1,k.1],λj a b c u=>?_⟩;by_cases w:j<xs.length;rw[getElem?_append_left w]at c;rw[getElem?_append_left (by rw[<-h.1];exact w)]at u;exact h.2 j a b c u;rw[getElem?_append_right Zaa]at c;rw[getElem?_append_right (by rw[<-h.1];omega),<-h.1]at u;exact k.2 _ a b c u
theorem Eg{α β:Type}{f:α->aY β}:∀{l:aX α}{r:aX β},l.mapM f=some r->r.length=l.length/\∀(i:Nat)a b,l[i]?=some a->r[i]?=some b->f a=some b
 |[],r,h=>by simp only[List.mapM_nil,pure_def,ζa]at h;subst h;simp|x::l,r,h=>by simp only[List.mapM_cons,Option.bind_eq_bind,pure_def,ζg,ζa]at h;obtain⟨y,D,ys,B,rfl⟩:=h;have⟨c,z⟩:=Eg B;refine⟨by simp[c],λi a b u w=>?_⟩;cases i with|zero=>simp at u w;subst u w;exact D|succ i=>exact z i a b (by simpa using u) (by simpa using w)
structure u6{H:Type}(b:DataW H->Nat):Prop where
 lit:∀l,1<=b (.lit l)
 str:∀s,s.length+1<=b (.lit (.string s))
 nil:1<=b .nil
 slice:∀es sp,(es.map b).sum+1<=b (.slice es sp)
 agg:∀ps,(ps.map b).sum+1<=b (.agg ps)
class cu(α:Type)where
 wt:α->Nat
 ok:α->Prop
instance:cu Int where
 wt _:=1
 ok n:=-9223372036854775808<=n/\n<=9223372036854775807
instance:cu X' where
 wt _:=1
 ok _:=True
instance:cu U' where
 wt s:=s.size+1
 ok s:=s.size<=maxLen
instance{α:Type}[cu α]:cu (Sl α)where
 wt s:=(s.l.map cu.wt).sum+1
 ok s:=(∀x∈s.l,cu.ok x)/\s≠.emp
class Reads(P:Program)(t:TypeId)(α:Type)[bD α][cu α]:Prop where
 size:P.cellsOf t=bD.size α
 rd:∀{H:Type}{enc:TypeId×Value->H}{w:World}{base:Nat}{spare:Nat->Bool}{held:Bool}{fuel:Nat}{cs:List Value}{d:DataW H}{ps:List MemPlace},
  trod enc P w base spare held fuel t cs=some (d,ps)->∃a:α,fU (snap w) (cells a) cs/\cu.ok a/\∀b:DataW H->Nat,u6 b->cu.wt a<=b d
 shape:∀{w:World}{r:_root_.Go.Reach}{base:Nat}{v:Value},okWide P w r base t v->if bD.agg α then∃cs,v=.agg cs else v.cells=#[v]
section
variable{P:Program}
theorem tD{w:World}{r:_root_.Go.Reach}{base:Nat}{t:W'}{v:V'}{u:_}(a:P.underlying t=some u)(b:∀fs,u≠.struct fs)(B:∀n e,u≠.array n e)(h:okWide P w r base t v):v.cells=#[v]:=by cases v with|agg cs=>exfalso;unfold okWide at h;rw[a]at h;split at h;(next fs z=>cases z;exact b _ rfl);(next n e z=>cases z;exact B _ _ rfl);(unfold Cell.okWide at h;rw[a]at h;split at h<;>first|(simp at *;done)|skip);unfold Cell.ok at h;rw[a]at h;cases u<;>simp at h|_=>rfl
theorem Reads.int{t:W'}(a:P.underlying t=some (.int .i64))(c:P.cellsOf t=1):Reads P t Int where
 size:=c
 rd {H enc w base spare held z cs d ps} h:=by cases z with|zero=>simp[trod]at h|succ z=>(simp only[trod,a]at h;split at h<;>first|(simp at h;done)|skip);(next u=>cases u);rename_i k D n u;simp only[ζa,TypeDesc.int.injEq]at u;split at h;(next e=>obtain⟨rfl,B⟩:=e;subst u;cases h;exact⟨n,fU.one (.int _ n),show _/\_ by simpa[Lit.wf,IntKind.min,IntKind.max,signed,IntKind.bits]using B,λb C=>C.lit _⟩);simp at h;all_goals (rename_i u;cases u)
 shape h:=by simp only[show bD.agg Int=false from rfl];exact tD a Zab Zab h
theorem Reads.bool{t:W'}(a:P.underlying t=some .bool)(c:P.cellsOf t=1):Reads P t X' where
 size:=c
 rd {H enc w base spare held u cs d ps} h:=by cases u with|zero=>simp[trod]at h|succ u=>(simp only[trod,a]at h;split at h<;>first|(simp at h;done)|skip);(next b _=>cases h;exact⟨b,fU.one (.bool b),trivial,λb B=>B.lit _⟩);all_goals (rename_i z;cases z)
 shape h:=by simp only[show bD.agg X'=false from rfl];exact tD a Zab Zab h
theorem Reads.str{t:W'}(a:P.underlying t=some .string)(c:P.cellsOf t=1):Reads P t U' where
 size:=c
 rd {H enc w base spare held u cs d ps} h:=by cases u with|zero=>simp[trod]at h|succ u=>(simp only[trod,a]at h;split at h<;>first|(simp at h;done)|skip);(all_goals (first|(rename_i z;cases z;done)|skip));rename_i s _;split at h;(next B=>cases h;exact⟨s,fU.one (.str s),B,λb C=>C.str _⟩);simp at h
 shape h:=by simp only[show bD.agg U'=false from rfl];exact tD a Zab Zab h
theorem TU{w:World}{a:Addr}{n:Nat}{v:V'}(h:w.cell? (a.add n)=some v)(B:n=0\/True):∃c el fr,w.heap[a.block]?=some (.cells c el fr)/\c[a.off+n]?=some v/\(n=0->a.spot=none):=by
 unfold cell? Addr.add at h;by_cases b:n=0;subst b;simp only[if_true]at h;split at h;rename_i c el fr u;split at h;simp at h;rename_i z;exact⟨c,el,fr,u,h,λ_=>by simpa using z⟩;simp at h;simp only[if_neg b]at h;split at h;next c el fr u=>simp only[Option.isSome_none,false_eq_true,if_false]at h;exact⟨c,el,fr,u,h,λe=>absurd e b⟩
 simp at h
def tX(P:Program)(t:W')(α:Type)[bD α][cu α](B:Nat):Prop:=∀{H:Type}{enc:W'×V'->H}{w:World}{base:Nat}{c:Nat->X'}{e:X'}{cs:aX V'}{d:DataW H}{ps:aX MemPlace},trod enc P w base c e B t cs=some (d,ps)->∃a:α,fU (snap w) (cells a) cs/\cu.ok a/\∀b:DataW H->Nat,u6 b->cu.wt a<=b d
theorem tX.sl{t e:W'}{α:Type}[bD α][cu α]{J:Nat}(V:P.underlying t=some (.slice e))(ae:P.cellsOf e=bD.size α)(U:0<bD.size α)(p:tX P e α J):tX P t (Sl α) (J+1):=by
 intro H enc w base E M cs d ps h;simp only[trod,V]at h;split at h<;>first|(simp at h;done)|skip
 all_goals (first|(rename_i I;cases I;done)|skip)
 cases h;exact⟨.nil,fU.one .bO,⟨λx T=>by simp[Sl.l]at T,Zab⟩,λb W=>W.nil⟩;rename_i e' a len F I;cases I;split at h
 .rename_i X;obtain⟨f,af,h⟩:=ζg.1 h;obtain⟨rest,_,h⟩:=ζf.1 h;cases h;obtain⟨Y,Z⟩:=Eg af;simp only[length_range]at Y;have T:∀i,i<len->∃x:α,∃u:aX V',w.cells? base (a.add (i*P.cellsOf e)) (P.cellsOf e)=some u/\fU (snap w) (cells x) u/\cu.ok x/\∀b:DataW H->Nat,u6 b->∀y,f[i]?=some y->cu.wt x<=b y.1:=λi q=>(by have:=Z i i (f[i]' Zaa) (by simp[q]) (ζd Zaa);obtain⟨u,l,L⟩:=ζg.1 this;obtain⟨x,T,K,W⟩:=p (show _=some ((f[i]' Zaa).1,(f[i]' Zaa).2)from L);exact⟨x,u,l,T,K,λb O y g=>by rw[ζd Zaa]at g;cases g;exact W b O⟩);have aa:∀n,n<=len->∃z:aX α,z.length=n/\(∀i x,z[i]?=some x->∃u:aX V',w.cells? base (a.add (i*P.cellsOf e)) (P.cellsOf e)=some u/\fU (snap w) (cells x) u)/\(∀x∈z,cu.ok x)/\∀b:DataW H->Nat,u6 b->(z.map cu.wt).sum<=(((f.take n).map (·.1)).map b).sum:=(by intro n;induction n with|zero=>intro _;exact⟨[],rfl,Zab,Zab,Zab⟩|succ n ih=>intro hn;obtain⟨z,l,L,h5,h6⟩:=ih Zaa;obtain⟨x,u,h3,h4,h7,h8⟩:=T n Zaa;refine⟨z++[x],by simp[l],λi y g=>?_,λy g=>?_,λb O=>?_⟩;rotate_left;rcases mem_append.1 g with g|g;exact h5 y g;simp at g;subst g;exact h7;have k1:=h6 b O;have k2:=h8 b O _ (ζd Zaa);rw[List.take_succ,ζd (by omega:n<f.length)];simp only[List.map_append,List.sum_append,Option.toList_some,map_cons,map_nil,List.sum_cons,List.sum_nil];omega;by_cases q:i<z.length;rw[getElem?_append_left q]at g;exact L i y g;rw[getElem?_append_right Zaa]at g;have:i-z.length=0:=(by cases K:i-z.length with|zero=>rfl|succ k=>rw[K]at g;simp at g);rw[this]at g;simp at g;subst g;have:i=n:=Zaa;subst this;exact⟨u,h3,h4⟩);obtain⟨z,C,ah,ab,ai⟩:=aa len (le_refl _);refine⟨.row z,fU.one ?_,⟨ab,Zab⟩,λb O=>?_⟩;rotate_left;have k:=ai b O;rw[take_of_length_le Zaa]at k;have k2:=O.slice (f.map (·.1)) (rest.map (·.1));show(z.map cu.wt).sum+1<=_;omega;show e_ _ (.fsl (bD.size α) (rows z)) _;cases s:z with|nil=>subst s;simp at C;subst C;exact .fsl0 _ _ _|cons x0 xr=>rw[<-s];have ao:0<len:=(by rw[<-C,s];simp);have Q:∀i x,z[i]?=some x->∀j y,(cells x)[j]?=some y->∃v,w.cell? ((a.add (i*bD.size α)).add j)=some v/\e_ (snap w) y v:=(by intro i x q j y g;obtain⟨u,l,L⟩:=ah i x q;rw[ae]at l;unfold World.cells? at l;split at l;obtain⟨g1,g2⟩:=Eg l;have N:j<bD.size α:=(by rw[<-g_ x];exact(ζe.1 g).1);obtain⟨v,A⟩:∃v,u[j]?=some v:=⟨_,ζd (by rw[g1];simpa using N)⟩;exact⟨v,g2 j j v (by simp[N]) A,L.2 j y v g A⟩;simp at l);have an:∀i j,(a.add (i*bD.size α)).add j=a.add (i*bD.size α+j)\/True:=λ_ _=>.inr trivial;have B:∀i x,z[i]?=some x->∀j y,(cells x)[j]?=some y->∃c el fr v,w.heap[a.block]?=some (.cells c el fr)/\c[a.off+i*bD.size α+j]?=some v/\e_ (snap w) y v/\(i=0->j=0->a.spot=none):=(by intro i x q j y g;obtain⟨v,l,L⟩:=Q i x q j y g;obtain⟨c,el,fr,g1,g2,g3⟩:=TU l (.inr trivial);have W:(a.add (i*bD.size α)).block=a.block:=(by unfold Addr.add;split<;>rfl);have ho:(a.add (i*bD.size α)).off=a.off+i*bD.size α:=(by unfold Addr.add;split<;>simp_all);rw[W]at g1;rw[ho]at g2;refine⟨c,el,fr,v,g1,g2,L,?_⟩;rintro rfl rfl;have:=g3 rfl;simpa[Addr.add]using this);have aj:∃y,(cells x0)[0]?=some y:=⟨_,ζd (by rw[g_];exact U)⟩;obtain⟨y0,ak⟩:=aj;obtain⟨c,el,fr,v0,D,_,_,G⟩:=B 0 x0 (by rw[s];rfl) 0 y0 ak;have G:=G rfl rfl;obtain⟨b,o,sp⟩:=a;simp only at G D;subst G;have hI:snap w b=some (.cells c):=(by unfold snap;rw[D]);have S:(rows z).length=len:=(by rw[iZ,C]);rw[<-S];refine .fsl _ _ b o F c hI (by rw[S];exact X.2.1) (λr p=>?_) (λr p y g=>?_) ?_ (λi j r y v p g A=>?_);obtain⟨x,_,rfl⟩:=mem_map.1 p;exact g_ x;obtain⟨x,_,rfl⟩:=mem_map.1 p;exact all_eq_true.1 (s9 x) y g;obtain⟨R,ad⟩:∃x,z[len-1]?=some x:=⟨_,ζd Zaa⟩;obtain⟨yl,al⟩:∃y,(cells R)[bD.size α-1]?=some y:=⟨_,ζd (by rw[g_];omega)⟩;obtain⟨c2,_,_,v2,k1,k2,_,_⟩:=B (len-1) R ad (bD.size α-1) yl al;simp only at k1 k2;rw[D]at k1;cases k1;have:=(Array.getElem?_eq_some_iff.1 k2).1;rw[S];have e:len*bD.size α=(len-1)*bD.size α+bD.size α:=(by obtain⟨m,rfl⟩:∃m,len=m+1:=⟨len-1,Zaa⟩;simp[Nat.add_mul]);omega;simp only[rows,getElem?_map,ζf]at p;obtain⟨x,am,rfl⟩:=p;obtain⟨c2,_,_,v2,k1,k2,k3,_⟩:=B i x am j y g;simp only at k1 k2;rw[D]at k1;cases k1;rw[A]at k2;cases k2;exact k3
 simp at h
theorem tX.slF{t e:W'}{α:Type}[bD α][cu α]{B:Nat}(c:P.underlying t=some (.slice e))(G:P.cellsOf e=bD.size α)(D:0<bD.size α)(i:∀g,g<B->tX P e α g):tX P t (Sl α) B:=by cases B with|zero=>intro H enc w base a b cs d ps h;simp[trod]at h|succ f=>exact tX.sl c G D (i f (Nat.lt_succ_self f))
theorem Reads.sl{t e:W'}{α:Type}[bD α][cu α][Reads P e α](a:P.underlying t=some (.slice e))(b:P.cellsOf t=1)(B:0<bD.size α):Reads P t (Sl α)where
 size:=b
 rd h:=tX.slF a (Reads.size (α:=α)) B (λ_ _{_ _ _ _ _ _ _ _ _}=>Reads.rd (P:=P) (t:=e) (α:=α)) h
 shape h:=by simp only[show bD.agg (Sl α)=false from rfl];exact tD a Zab Zab h
theorem fU.seg{I:cD}{a xs:So}{cs:aX V'}{o n:Nat}(h:fU I a (cs.take o))(k:fU I xs ((cs.drop o).take n)):fU I (a++xs) (cs.take (o+n)):=by rw[List.take_add];exact h.append k
theorem fU.fin{I:cD}{xs:So}{cs:aX V'}{n:Nat}(h:fU I xs (cs.take n))(B:cs.length=n):fU I xs cs:=by rw[take_of_length_le Zaa]at h;exact h
theorem tX.st{t:W'}{fs:Array Field}{α:Type}[bD α][cu α]{B:Nat}(i:P.underlying t=some (.struct fs))(j:P.cellsOf t=bD.size α)
 (h:∀{H:Type}{enc:W'×V'->H}{w:World}{base:Nat}{c:Nat->X'}{e:X'}{cs:aX V'}{l:aX (DataW H×aX MemPlace)},cs.length=bD.size α->
  (fs.toList.mapM λf=>trod enc P w base c e B f.type ((cs.drop f.offset).take (P.cellsOf f.type)))=some l->∃a:α,fU (snap w) (cells a) cs/\cu.ok a/\∀b:DataW H->Nat,u6 b->cu.wt a<=((l.map (·.1)).map b).sum+1):tX P t α (B+1):=by
 intro H enc w base c e cs d ps g;simp only[trod,i]at g;split at g<;>first|(simp at g;done)|skip
 all_goals (first|(rename_i u;cases u;done)|skip)
 rename_i C;have⟨l,k,D⟩:=ζf.1 g;cases D;have⟨a,k1,k2,k3⟩:=h (by rw[C,j]) k
 exact⟨a,k1,k2,λb z=>Nat.le_trans (k3 b z) (z.agg _)⟩
theorem Reads.of{t:W'}{fs:Array Field}{α:Type}[bD α][cu α](a:P.underlying t=some (.struct fs))(b:P.cellsOf t=bD.size α)(D:bD.agg α=true)(h:∀B,tX P t α B):Reads P t α where
 size:=b
 rd hr:=h _ hr
 shape hv:=by rw[if_pos D];unfold okWide at hv;rw[a]at hv;have⟨cs,c,_⟩:=hv;exact⟨cs,c⟩
theorem Reads.st{t:W'}{fs:Array Field}{α:Type}[bD α][cu α](g:P.underlying t=some (.struct fs))(i:P.cellsOf t=bD.size α)(D:bD.agg α=true)
 (h:∀{H:Type}{enc:W'×V'->H}{w:World}{base:Nat}{c:Nat->X'}{e:X'}{B:Nat}{cs:aX V'}{l:aX (DataW H×aX MemPlace)},cs.length=bD.size α->
  (fs.toList.mapM λf=>trod enc P w base c e B f.type ((cs.drop f.offset).take (P.cellsOf f.type)))=some l->∃a:α,fU (snap w) (cells a) cs/\cu.ok a/\∀b:DataW H->Nat,u6 b->cu.wt a<=((l.map (·.1)).map b).sum+1):Reads P t α:=
 Reads.of g i D λB=>by cases B with|zero=>intro H enc w base c e cs d ps h;simp[trod]at h|succ f=>exact tX.st g i h
theorem Reads.arg{t:W'}{α:Type}[bD α][cu α][Reads P t α]{H:Type}{B:W'×V'->H}{w:World}{base:Nat}{c:Nat->X'}{e:X'}{r:_root_.Go.Reach}{b:Nat}{v:V'}{d:DataW H}{ps:aX MemPlace}
 (f:okWide P w r b t v)(h:Trod B P w base c e t v d ps):∃a:α,bK (snap w) (λ_=>none) (enc a) v/\cu.ok a/\∀b:DataW H->Nat,u6 b->cu.wt a<=b d:=by
 have⟨I,h⟩:=h;have⟨a,⟨g,z⟩,D,G⟩:=Reads.rd (P:=P) (t:=t) (α:=α) h;have u:=Reads.shape (P:=P) (t:=t) (α:=α) f;refine⟨a,?_,D,G⟩
 cases C:bD.agg α with
 |true=>rw[C,if_pos rfl]at u;obtain⟨cs,rfl⟩:=u;rw[Dc C];refine .c _ _ (.agg _ _ (by simpa[Value.cells]using g) (λj x y J L=>z j x y J (by simpa[Value.cells]using L)))|false=>rw[C]at u;simp only[false_eq_true,if_false]at u;rw[u]at z;rw[wV C]at z;exact .c _ _ (z 0 _ _ rfl rfl)
end
end Go.VE
namespace Go.VE
variable[bX]
open Go.ChangeShapes Go.WideShapes Go.ChangeAt Go.RowKit
structure JX(w w':World):Prop where
 kept:w.keptBut w' (λ_=>False)
 fz:∀a:Addr,a.block<w.heap.size->w'.frozen? a=w.frozen? a
theorem Jw{I I':cD}{μ':Mu}{H':bn}{w w':World}(s:Step I (λ_=>none) [] w I' μ' H' w'):JX w w':=by
 have B:∀b,b<w.heap.size->w'.heap[b]?=w.heap[b]?:=λb z=>s.frame b z (by rintro⟨id,p,ob,h,_⟩;simp at h);refine⟨⟨s.os,s.out.out,λi d=>?_⟩,λa z=>?_⟩;rw[B i d];split;next c u=>rw[c]at u;cases u;exact⟨rfl,rfl,rfl,λ_ _=>rfl⟩
 next c u=>rw[c]at u;cases u;exact .inr ⟨rfl,rfl⟩
 rfl;unfold World.frozen?;rw[B _ z]
theorem Ki{P:Program}{call:dK}(a:mJ P call){f:Y'}{args:So}{b:X'}{H':bn}(h:call (.fn f) args []=some (.bool b,H')){w:World}{vs:aX V'}
 (D:wq (snap w))(d:cO (snap w) (λ_=>none) args vs):Calls P f vs.toArray w λe w'=>e=.returned (.bool b)/\JX w w':=by
 intro cs;have k:=((a.fn f args [] _ H' h).2 (snap w) (λ_=>none) w vs (TF D) d)
 obtain⟨e,w',fr,⟨u,I',μ',rfl,g,_,C⟩,z,i,G⟩:=k.2 cs (by simp[Fence.room,fr])
 refine⟨_,w',fr,⟨?_,Jw C⟩,z.comes,i,G⟩
 cases g with
 |c _ _ B=>cases B;rfl
variable{P:Program}{H:Type}{enc:W'×V'->H}
theorem Jy{ts:aX W'}{vs:aX V'}{ds:aX (DataW H)}{ps:aX MemPlace}{w w':World}(e:JX w w')(h:TrodAll enc P w 0 (λ_=>true) true ts vs ds ps):TrodAll enc P w' 0 (λ_=>true) true ts vs ds ps:=by
 have z:∀p:MemPlace,p.block<w.heap.size->w.sameAt w' p:=by intro p B;have k:=e.kept.2.2 p.block B;cases p with|cell b off=>simp only[sameAt,cell?];simp only[MemPlace.block]at k B;split at k;rename_i c t fr c' D C a u;rw[a,u];simp only;have:=k.2.2.2 off (λx=>x);simpa using this;(next a u=>rw[a,u]);rw[k]|map b=>simp only[sameAt];simp only[MemPlace.block]at k B;split at k;rename_i c t fr c' D C a u;obtain⟨rfl,rfl,L,G⟩:=k;rw[a,u];have:c'=c:=Array.ext_getElem? λi=>G i (λx=>x);rw[this];rename_i a u;rcases k with k|⟨rfl,rfl⟩;exact k.elim;rw[a,u];exact k
 induction ts generalizing vs ds ps with|nil=>cases vs<;>cases ds<;>simp_all [TrodAll]|cons t ts I=>cases vs with|nil=>simp[TrodAll]at h|cons v vs=>cases ds with|nil=>simp[TrodAll]at h|cons d ds=>obtain⟨p,q,⟨n,a⟩,u,rfl⟩:=h;exact⟨p,q,⟨n,DataW.trod_carry n _ _ _ a λx J=>z x (DataW.trod_lt n _ _ _ a x J)⟩,I u,rfl⟩
theorem Su{T:W'->Prop}(K:Kids P T)(m:∀t e,T t->P.underlying t=some (.slice e)->0<P.cellsOf e){f:Func}{s:ChangeSpec}{apart c a d:X'}{W G:World}{args:Array V'}{ds i:aX (DataW H)}{before:aX MemPlace}{tb:W'}
 (n:∀t∈f.params.toList,T t)(B:s.vars=[])(D:s.fn H (ds++i)={results:=[.lit (.bool true)],args:=ds})(J:f.resultTypes=#[tb])(U:P.underlying tb=some .bool)
 (Y:DataW.Whole enc P f.params.toList s.vars apart W args.toList ds i before)(g:JX W G):s.post enc P f apart c a d W args (.bool true) G:=by
 have z:=Y;obtain⟨p,q,X,j,rfl,L,O⟩:=Y;rw[B]at j;obtain⟨rfl,rfl⟩:=trodVars_none j;have k:∀(b:Nat)(w:Nat->X')(hd:X'),TrodAll enc P G b w hd f.resultTypes.toList ((Value.bool true).resultList f.resultTypes.size) (s.fn H (ds++[])).results []:=λ_ _ _=>by rw[J,D];exact trodAll_cons_mk (shut_bool U _) trodAll_mk0
 have S:∀w:Nat->X',(∀x∈p++[],w x.block=true)->TrodAll enc P G 0 w true f.params.toList args.toList (s.fn H (ds++[])).args p:=λw Q=>by rw[D];exact TrodAll.respare K m n (Jy g X) (λx u=>Q x (List.mem_append_left _ u))
 have l:∀w:Nat->X',DataW.TrodVars enc P G w s.vars (s.fn H (ds++[])).vars []:=λw=>by rw[D,B];rfl
 have C:=λx u=>z.lt x u
 refine⟨ds,[],p++[],[],p,[],z,k _ _ _,S _ λx u=>by simpa using C x u,l _,World.keptBut_mono (λx u=>u.elim) g.kept,λ_=>⟨ok_one J rfl (okWide_bool_mk U _),?_⟩⟩
 refine⟨_,_,[]++p++[],⟨[]++p,[],trodAll_append (S _ λ_ _=>rfl) (k _ _ _),l _,rfl,λb off u=>?_,λh=>by simpa using O h⟩,λx u _=>by simpa using u⟩
 have I:MemPlace.cell b off∈p++[]:=by simpa using u
 rw[g.fz _ (C _ I)];exact L b off I
end Go.VE
namespace Go.VE
variable[bX]
instance:cu U8 where
 wt _:=1
 ok n:=0<=n.v/\n.v<=255
theorem Reads.u8{P:Program}{t:W'}(a:P.underlying t=some (.int .u8))(c:P.cellsOf t=1):Reads P t U8 where
 size:=c
 rd {H enc w base spare held z cs d ps} h:=by cases z with|zero=>simp[trod]at h|succ z=>(simp only[trod,a]at h;split at h<;>first|(simp at h;done)|skip);(next u=>cases u);rename_i k D n u;simp only[ζa,TypeDesc.int.injEq]at u;split at h;(next e=>obtain⟨rfl,B⟩:=e;subst u;cases h;exact⟨⟨n⟩,fU.one (.int _ n),show _/\_ by simpa[Lit.wf,IntKind.min,IntKind.max,signed,IntKind.bits]using B,λb C=>C.lit _⟩);simp at h;all_goals (rename_i u;cases u)
 shape h:=by simp only[show bD.agg U8=false from rfl];exact tD a Zab Zab h
theorem P7{m:Tb bJ}{n:Nat}{rs:SW}{b:X'}(h:dc m n rs=some [.bool b]):rs=[.v (.bool b)]:=by
 cases rs with
 |nil=>cases n<;>simp[dc]at h|cons x r=>
  have c:shut m n x=some (.bool b)/\dc m n r=some []:=by unfold dc at h;split at h;(next y s c w=>simp only[ζa,List.cons.injEq]at h;obtain⟨rfl,rfl⟩:=h;exact⟨c,w⟩);cases h
  have w:r=[]:=by cases r with|nil=>rfl|cons y r=>have:=c.2;unfold dc at this;split at this<;>simp at this
  subst w;have u:=c.1
  cases x with
  |v y=>unfold shut at u;simp only[ζa]at u;rw[u]|own d=>unfold shut at u;split at u<;>simp only[ζa,reduceCtorEq]at u;rename_i k es B _;cases k<;>simp[qw]at u|ptr d o=>cases n with|zero=>simp[shut]at u|succ n=>(unfold shut at u;split at u<;>try cases u);(split at u<;>try cases u);split at u<;>cases u
  |mp d=>unfold shut at u;split at u<;>cases u|clo f a b=>cases n with|zero=>simp[shut]at u|succ n=>unfold shut at u;split at u<;>cases u
  |tup l=>cases n with|zero=>simp[shut]at u|succ n=>unfold shut at u;have⟨_,_,z⟩:=ζf.1 u;cases z
  |_=>cases n<;>simp[shut]at u
theorem Uv{S:Sys}{T:sH}(B:sR S T)(D:∀f a b xs,S.items f a b=some xs->eU S f a b xs){f:Y'}{xs:So}(c:V.cH xs=true)(h:gV (di S T) f xs=some [.bool true]):
 ∃n H',run S.E n (.fn f) xs []=some (.bool true,H'):=by
 unfold gV at h;have⟨⟨rs,m⟩,d,u⟩:=ζg.1 h;have:=P7 u;simp only at this;subst this;exact Xy B D c d rfl
theorem Qh{S:Sys}{T:sH}{P:Program}(B:sR S T)(D:∀f a b xs,S.items f a b=some xs->eU S f a b xs)(c:∀n,mJ P (run S.E n)){f:Y'}{xs:So}(d:V.cH xs=true)(h:gV (di S T) f xs=some [.bool true])
 {w:World}{args:Array V'}(G:wq (snap w))(g:cO (snap w) (λ_=>none) xs args.toList):Calls P f args w λe w'=>e=.returned (.bool true)/\JX w w':=by
 have⟨n,H',i⟩:=Uv B D d h;have:=Ki (c n) i G g;simpa using this
theorem Reads.O3{P:Program}{t:W'}{α:Type}[bD α][cu α][Reads P t α]{H:Type}{B:W'×V'->H}{w:World}{base b:Nat}{c:Nat->X'}{e:X'}{v:V'}{d:DataW H}{ps:aX MemPlace}{params:Array W'}{args:Array V'}(D:∀(j:Nat)t v,params[j]?=some t->args[j]?=some v->okWide P w .any b t v)(j:Nat)(f:params[j]?=some t)(G:args[j]?=some v)(h:Trod B P w base c e t v d ps):∃a:α,bK (snap w) (λ_=>none) (enc a) v/\cu.ok a/\∀b:DataW H->Nat,u6 b->cu.wt a<=b d:=Reads.arg (D j t v f G) h
end Go.VE
namespace Go.VE
theorem Vq{w:World}{g:Nat}{l:Rd}(h:∀i,i<l.length->w.cell? ⟨g,i,none⟩=some (.int .i64 (l.getD i 0)))(e:0<l.length):e_ (snap w) (.fptr (l.map (V.int .i64))) (.pointer (some ⟨g,0,none⟩)):=by
 have a:=h 0 e;unfold cell? at a;split at a;rename_i c t fr u;have D:snap w g=some (.cells c):=by unfold snap;simp only at u;rw[u]
 have d:∀i,w.cell? ⟨g,i,none⟩=c[i]?:=λi=>by unfold cell?;simp only at u⊢;rw[u];rfl
 refine .fptr _ _ _ c D ?_ ?_;rw[zero_add,length_map];have:=h (l.length-1) Zaa;rw[d]at this;have:=(Array.getElem?_eq_some_iff.1 this).1;omega;intro j y v B b;rw[zero_add,<-d]at b;rw[getElem?_map]at B;obtain⟨z,C,rfl⟩:=ζf.1 B;have G:=(ζe.1 C).1;rw[h j G]at b;cases b;have:l.getD j 0=z:=by simp[List.getD,C]
 rw[this];exact .int _ _;cases a
variable[bX]
theorem cr(n:Nat)(h:n<9223372036854775807):wrap .i64 ((n:Int)+1)=((n+1:Nat):Int):=by simp[wrap,IntKind.bits,signed];omega
theorem fV(n:Int)(a:-9223372036854775808<=n)(B:n<=9223372036854775807):wrap .i64 n=n:=by simp[wrap,IntKind.bits,signed];omega
section
variable{α β:Type}{P:β->Prop}
theorem gY(s:Sl α)(i:Nat):idx s (i:Int)=s.l[i]?:=by unfold idx;rw[if_pos Zaa];rfl
theorem bz{s:Sl α}{i:Nat}(h:i<s.l.length):idx s (i:Int)=some s.l[i]:=by rw[gY,ζd h]
theorem Vv{s:Sl α}{i:Int}(a:0<=i):idx s i=s.l[i.toNat]?:=by unfold idx;rw[if_pos a]
theorem uO(s:Sl α)(i:Nat)(h:i<=s.l.length):∃x,gN s none (some (i:Int))=some x/\x.l=s.l.take i:=by unfold gN ez;simp only[Option.getD_none,getD_some];rw[if_pos Zaa];cases s<;>simp[Sl.l]at h⊢ <;>simp[h]
theorem bt{γ:Type}{a b:γ}:bg true a b=a:=rfl
theorem bA{γ:Type}{a b:γ}:bg false a b=b:=rfl
theorem oM(a b:X'):bg a (some b) (some false)=some (a&&b):=by cases a<;>rfl
theorem mP(a b:X'):bg a (some true) (some b)=some (a||b):=by cases a<;>rfl
theorem vI(a:X')(x y:β):bg a (some x) (some y)=some (if a then x else y):=by cases a<;>rfl
end
def place{α:Type}(f:α->X')(l:aX α):Int:=match l.findIdx? f with
 |some i=>i|none=>-1
theorem C0{α:Type}{f:α->X'}{l:aX α}{i:Nat}(h:∀j,j<i->∀x,l[j]?=some x->f x=false)(a:l.length<=i):l.findIdx? f=none:=by rw[List.findIdx?_eq_none_iff];intro x w;have⟨j,u⟩:=getElem?_of_mem w;have:j<l.length:=(ζe.1 u).1;exact h j Zaa x u
theorem MK{α:Type}{f:α->X'}{l:aX α}{i:Nat}{x:α}(h:∀j,j<i->∀x,l[j]?=some x->f x=false)(B:l[i]?=some x)(D:f x=true):l.findIdx? f=some i:=by rw[List.findIdx?_eq_some_iff_getElem];obtain⟨a,rfl⟩:=ζe.1 B;exact⟨a,D,λj u=>by rw[h j u _ (ζd Zaa)];simp⟩
theorem uN{α:Type}{step:Int->aY (Fw Int Unit Int)}{s:Sl α}{p:α->aY X'}{f:α->X'}(hp:∀x∈s.l,p x=some (f x))(U:s.l.length<9223372036854775807)
 (J:∀i,step i=bg (decide (i<len s)) ((idx s i).bind λB=>(p B).bind λD=>bg D (some (.r i)) (some (.n (wrap .i64 (i+1))))) (some (.x ()))):
 (bF step 0).bind (Fw.elim (λ_=>some (-1)) (λe=>some e))=some (place f s.l):=by
 refine Wp.eq (fE (λi:Int=>∃n:Nat,i=n/\n<=s.l.length/\∀j,j<n->∀x,s.l[j]?=some x->f x=false) (λi:Int=>s.l.length-i.toNat) ⟨0,rfl,zero_le _,λj I=>absurd I Zaa⟩ ?_)
 rintro i ⟨n,rfl,L,w⟩;rw[J,b7];refine⟨λh=>?_,λh=>?_⟩
 .have u:n<s.l.length:=by simpa[len]using h
  rw[bz u,ζb,hp _ (getElem_mem u),ζb,b7];refine⟨λz=>?_,λz=>?_⟩
  .rw[bf];show Wp (some (n:Int)) _;rw[bf];unfold place;rw[MK w (ζd u) z]
  rw[bf];refine⟨⟨n+1,cr n Zaa,Zaa,λj I x C=>?_⟩,?_⟩
  .by_cases e:j=n
   .subst e;rw[ζd u]at C;cases C;exact z
   exact w j Zaa x C
  rw[cr n Zaa];simp;omega
 have G:s.l.length<=n:=by simpa[len]using h
 rw[bf];show Wp (some (-1:Int)) _;rw[bf];unfold place;rw[C0 w G]
theorem uw{α:Type}(f:α->X')(l:aX α):decide (place f l>=0)=l.any f:=by unfold place;cases h:l.findIdx? f with|none=>rw[List.findIdx?_eq_none_iff]at h;have:l.any f=false:=(by rw[List.any_eq_false];intro x u;simp[h x u]);rw[this];rfl|some i=>have⟨a,w,_⟩:=List.findIdx?_eq_some_iff_getElem.1 h;have:l.any f=true:=List.any_eq_true.2 ⟨_,getElem_mem a,w⟩;rw[this];simp
theorem TZ{α σ ε ρ:Type}{step:α->σ->aY (Fw σ ε ρ)}{l:aX α}(I:Nat->σ->Prop)(D:ε->Prop)(G:ρ->Prop){s:σ}(c:I 0 s)
 (h:∀i a s,l[i]?=some a->I i s->Wp (step a s) λw=>match w with|.n B=>I (i+1) B|.x e=>D e|.r b=>G b):
 Wp (mb step l s) λw=>match w with|.n B=>I l.length B|.x e=>D e|.r b=>G b:=by
 have key:∀(r:aX α)(i:Nat)(s:σ),l.drop i=r->i<=l.length->I i s->Wp (mb step r s) λw=>match w with|.n B=>I l.length B|.x e=>D e|.r b=>G b:=by intro r;induction r with|nil=>intro i s hd d z;have:i=l.length:=(by have:=List.drop_eq_nil_iff.1 hd;omega);subst this;exact⟨_,rfl,z⟩|cons a r J=>intro i s hd d z;have u:i<l.length:=(by apply Classical.byContradiction;intro Q;rw[List.drop_eq_nil_of_le Zaa]at hd;cases hd);have L:=List.drop_eq_getElem_cons u;rw[L]at hd;simp only[List.cons.injEq]at hd;have⟨w,O,C⟩:=h i a s (by rw[ζd u,hd.1]) z;simp only[mb,O,ζb];cases w with|n B=>exact J (i+1) B hd.2 Zaa C|x e=>exact⟨_,rfl,C⟩|r b=>exact⟨_,rfl,C⟩
 exact key l 0 s rfl (zero_le _) c
theorem Ay{α σ ε ρ γ:Type}{step:α->σ->aY (Fw σ ε ρ)}{l:aX α}{fn:σ->aY γ}{B:ε->aY γ}{fr:ρ->aY γ}{P:γ->Prop}(I:Nat->σ->Prop){s:σ}(c:I 0 s)
 (h:∀i a s,l[i]?=some a->I i s->Wp (step a s) λw=>match w with|.n D=>I (i+1) D|.x e=>Wp (B e) P|.r b=>Wp (fr b) P)
 (G:∀s,I l.length s->Wp (fn s) P):Wp ((mb step l s).bind (Fw.sZ fn B fr)) P:=by
 rw[eA];refine(TZ I _ _ c h).mono ?_;intro w u
 cases w with
 |n s=>exact G s u|x e=>exact u|r b=>exact u
end Go.VE
