/- Certificates, library. -/
import Derived.JoinedCond
import Derived.ReadAgain
import Derived.WalkKit
import Derived.ProofKit
import Derived.OpenShut
import Derived.ChangeSame
import Derived.RowKit3
import Derived.Lib.LaidTab
import Derived.Test.YtddlogilhmloeadGreatDoorV2
import Derived.Test.YtddlogilhmloeadGreatDoorN2
import Derived.Test.YtddlogilhmloeadGreatDoorS1
set_option linter.all false
open Option renaming some→M,some→_h,none→G,none→_n,bind→H,bind→_l
open Bool renaming true→O,true→_k,false→U,false→_m
open Decidable renaming decide→_p
open List renaming length→W,length→_j
open Go.IntKind renaming i64→Z,i64→_o
open Nat renaming le_refl→z?,zero_add→a8,zero_le→V?
open Option renaming getD_some→O!,map_some→B?,pure_def→d6
open List renaming all_cons→c!,all_eq_true→M?,append_assoc→d9,append_nil→J!,drop_zero→L!,getElem?_append_left→u?,getElem?_append_right→G?,getElem?_drop→R?,getElem?_map→Q?,getElem?_of_mem→G!,getElem?_set_ne→E?,getElem?_set_self→J?,getElem?_take→I?,getElem_mem→t?,length_cons→Z?,length_map→I!,length_range→m4,length_singleton→X?,map_cons→P?,map_nil→Y!,mem_of_getElem?→s?,nil_append→l0,range→B!,range'→C',replicate→w?,take_of_length_le→O?
open Classical renaming choose_spec→W?
open Bool renaming false_eq_true→v?
open Go.IntKind renaming wrap→y?
open Go.DataW renaming TrodAll→i7,trod→l5
open Go.Value renaming okWide→x6
noncomputable section
open Nat(beq ble)
open Nat(le)
open List(map_set mem_append mem_map mem_range set_set)
open Nat(le)
open Nat(le)
open Nat(le)
open Go.DataW(Trod)
open Nat(le)
open Go.World(cell? sameAt)
namespace Go.VE
variable[b8]
abbrev Cf:=Fo×aX Fm×St
section
variable(S:Sys)(c:cg){β:Type}(Q:Out×St->aY β)
abbrev bZ(cf:Cf):aY β:=rn S c Q cf.1 cf.2.1 cf.2.2
def kf(n:Nat)(cf:Cf):Cf:=(gW S c n cf.1 cf.2.1 cf.2.2).getD cf
structure IA where
 dr:Bool
 fr:List Nat
 d:Option Nat
 gd:Option (Nat×Bool)
 now:Bool
 k:K
 az:List Arg
 dd:List Nat
 l:List RO
 fs:List Fm
 st:St
def fS(n:Nat)(cf:Cf):aY IA:=match gW S c n cf.1 cf.2.1 cf.2.2 with
 |some (.ops dr fr (⟨d,gd,now,k,az,dd,[]⟩::l),fs,st)=>match wanted st.g gd with
  |some O=>M ⟨dr,fr,d,gd,now,k,az,dd,l,fs,st⟩|_=>G
 |_=>G
def nx(n:Nat)(cf:Cf)(φ:IA->St):Cf:=match fS S c n cf with
 |some p=>(.ops p.dr (if p.dr then(match p.k with|.p _|.r _=>p.fr|_=>match p.d with|some d=>d::p.fr|none=>p.fr)else p.fr) p.l,p.fs,rJ p.dd (φ p))|none=>cf
end
def yA(s:Nat)(b:X')(cf:Cf):Cf:=(cf.1,cf.2.1,{cf.2.2 with g:=bE cf.2.2.g s (.v (.bool b))})
def jmp(k:Nat)(fr:ST)(cf:Cf)(st:St):Cf:=match cf with
 |(.ops dr _ l,fs,_)=>(.ops dr fr (l.drop k),fs,st)|_=>(.rt,[],st)
def uz:RC->ST->QP->St->Cf
 |c,[],fs,st=>(.rc c,fs,st)|.seq a b,i::p,fs,st=>if i=0 then uz a p (.seq b::fs) st else uz b p fs st|.cond _ a b,i::p,fs,st=>if i=0 then uz a p fs st else uz b p fs st|.block id c,_::p,fs,st=>uz c p (.blk id::fs) st|.gh _ c,_::p,fs,st=>uz c p fs st|.hg c g,_::p,fs,st=>uz c p (.gst g::fs) st|.loop c,_::p,_,st=>uz c p [] st|.each _ _ _ b,_::p,_,st=>uz b p [] st|c,_,fs,st=>(.rc c,fs,st)
section
variable{S:Sys}{c:cg}{β γ δ α:Type}{Q:Out×St->aY β}{e:γ->aY β}{cf:Cf}
theorem jC{n:Nat}{p:IA}(h:fS S c n cf=M p):gW S c n cf.1 cf.2.1 cf.2.2=M (.ops p.dr p.fr (⟨p.d,p.gd,p.now,p.k,p.az,p.dd,[]⟩::p.l),p.fs,p.st)/\wanted p.st.g p.gd=M O:=by unfold fS at h;grind
theorem rK{n:Nat}{m:aY δ}{φ:δ->IA->St}{f:δ->aY γ}{p:IA}(hp:fS S c n cf=M p)(B:Le (m.bind λx=>M (φ x p)) (gA S c p.dr p.fr ⟨p.d,G,p.now,p.k,p.az,[],[]⟩ p.st))
 (h:∀x,m=M x->Le (_l (f x) e) (bZ S c Q (nx S c n cf (φ x)))):Le (_l (m.bind f) e) (bZ S c Q cf):=by
 have⟨a,u⟩:=jC hp;refine EN a Y u B λx w=>?_
 have:=h x w;simp[nx,hp]at this;omega
theorem sK{n:Nat}{m:aY β}{φ:IA->St}{p:IA}(hp:fS S c n cf=M p)(B:gA S c p.dr p.fr ⟨p.d,G,p.now,p.k,p.az,[],[]⟩ p.st=M (φ p))
 (h:Le m (bZ S c Q (nx S c n cf φ))):Le m (bZ S c Q cf):=by
 have⟨a,u⟩:=jC hp;refine sW a Y u B ?_;simp[nx,hp]at h;omega
theorem eF{α β:Type}{o:aY α}{f:α->β}{b:β}(h:o.map f=M b):∃a,o=M a/\f a=b:=ζf.1 h
theorem ye(n:Nat){m:aY β}{B:Cf}(h:Le m (bZ S c Q B))(D:gW S c n cf.1 cf.2.1 cf.2.2=M B:=by kernel_rfl):Le m (bZ S c Q cf):=Ca D h
theorem bp(n s:Nat){t:X'}{x y:aY γ}(B:Le (x.bind e) (bZ S c Q (yA s O (kf S c n cf))))(D:Le (y.bind e) (bZ S c Q (yA s U (kf S c n cf))))
 (J:(gW S c n cf.1 cf.2.1 cf.2.2).map (λp=>bh p.2.2.g s)=M (M (.v (.bool t))):=by kernel_rfl):Le (_l (bg t x y) e) (bZ S c Q cf):=by
 have⟨p,u,a⟩:=eF J;have b:kf S c n cf=p:=by unfold kf;grind
 rw[b]at B D;refine Ca u ?_;cases t
 .have:yA s U p=p:=by unfold yA;rw[rS a]
  rw[this]at D;exact D
 have:yA s O p=p:=by unfold yA;rw[rS a]
 rw[this]at B;exact B
theorem cM(n s:Nat){t:X'}{x y:aY γ}(B:Le (x.bind e) (bZ S c Q (yA s U (kf S c n cf))))(D:Le (y.bind e) (bZ S c Q (yA s O (kf S c n cf))))
 (J:(gW S c n cf.1 cf.2.1 cf.2.2).map (λp=>bh p.2.2.g s)=M (M (.v (.bool (!t)))):=by kernel_rfl):Le (_l (bg t x y) e) (bZ S c Q cf):=by
 have⟨p,u,a⟩:=eF J;have b:kf S c n cf=p:=by unfold kf;grind
 rw[b]at B D;refine Ca u ?_;cases t
 .have:yA s O p=p:=by unfold yA;rw[show V.bool O=V.bool (!U)from Y,rS a]
  rw[this]at D;exact D
 have:yA s U p=p:=by unfold yA;rw[show V.bool U=V.bool (!O)from Y,rS a]
 rw[this]at B;exact B
theorem Gs(n k:Nat)(fr:ST)(st:δ->St){m:aY δ}{f:δ->aY γ}(B:Le (m.bind λr=>bZ S c Q (jmp k fr (kf S c n cf) (st r))) (bZ S c Q cf))(a:∀r,Le (_l (f r) e) (bZ S c Q (jmp k fr (kf S c n cf) (st r)))):Le (_l (m.bind f) e) (bZ S c Q cf):=Xu _ B a
theorem br(n:Nat){r:δ}{k:δ->Cf}(B:gW S c n cf.1 cf.2.1 cf.2.2=M (k r):=by kernel_rfl):Le (_l (M r) λr=>bZ S c Q (k r)) (bZ S c Q cf):=adQ B Y
theorem a_{r:γ}{L:aY β}(h:L=e r:=by kernel_rfl):Le (_l (M r) e) L:=Le.of_eq h
theorem Bs(n:Nat){b:RC}{m:aY (Out×Tb bD)}(h:Le m (bZ S c zp (.rc b,[],(kf S c n cf).2.2)))(B:gW S c n cf.1 cf.2.1 cf.2.2=M (.nx,[],(kf S c n cf).2.2):=by kernel_rfl):Le m (bZ S c (BW S c b) cf):=aa5 B h
theorem H_(n:Nat){o:aY α}(A:aY α->St){f:α->aY γ}(B:∀x,o=M x->Le (_l (f x) e) (bZ S c Q ((kf S c n cf).1,(kf S c n cf).2.1,A (M x))))
 (D:gW S c n cf.1 cf.2.1 cf.2.2=M ((kf S c n cf).1,(kf S c n cf).2.1,A o):=by kernel_rfl):Le (_l (o.bind f) e) (bZ S c Q cf):=ab1 D B
theorem iG.aaA{S:Sys}{T:rW}[bB δ]{f:Y'}{A:α->So}{p:α->aY δ}(B:T f=G)(a:S.E.keep f=U)(D:∀z r,p z=M r->S.A2 f (A z)=M (enc r))
 :iG S (dB S T) f A (λr=>[enc r]) p U where
 k:=a
 h z:=by intro y u;have⟨r,b,w⟩:=ζg.1 u;cases w;have h:=Is B a (D z r b);unfold kM;rw[h];exact rY 8 [enc r]
 s h:=by cases h
def Qc:K->aY BinOp
 |.p (.bin _ _ o)=>M o|_=>G
theorem Zx{k:K}{o:BinOp}(h:Qc k=M o):∃t u,k=.p (.bin t u o):=by cases k with|p p=>cases p<;>simp[Qc]at h;simp_all|_=>simp[Qc]at h
def VY:K->aY BinOp
 |.p (.bin (M .slice) _ o)=>M o|_=>G
theorem Zk{k:K}{o:BinOp}(h:VY k=M o):∃u,k=.p (.bin (M .slice) u o):=by unfold VY at h;grind
def kbs:K->aY (Nat×Nat×ST)
 |.a (.buildSl sz ln _ ix)=>M (sz,ln,ix)|_=>G
theorem abD{k:K}{r:Nat×Nat×ST}(h:kbs k=M r):∃z,k=.a (.buildSl r.1 r.2.1 z r.2.2):=by unfold kbs at h;grind
def Xo:K->aY So
 |.a (.alloc _ zero)=>M zero|_=>G
theorem SF{k:K}{z:So}(h:Xo k=M z):∃n,k=.a (.alloc n z):=by unfold Xo at h;grind
section
variable[bB α]
theorem acW(k:T2)(n:Nat){s:Sl α}{i:Int}{f:α->aY γ}(h:∀x,idx s i=M x->Le ((f x).bind e) (bZ S c Q (nx S c n cf λp=>c8 p.st p.d (cp x))))
 (B:(fS S c n cf).map (λp=>(p.k,bW S.N p.st.g p.az))=M (.p (.idxS (bB.size α)),M [.v (cz s),.v (.int k i)]):=by kernel_rfl):Le (((idx s i).bind f).bind e) (bZ S c Q cf):=by
 have⟨p,u,a⟩:=eF B;simp at a;refine rK u ?_ h;rw[a.1];exact Le.of_eq (Xd a.2 rfl)
theorem bH(n:Nat){s:Sl α}{i:Int}{f:α->aY γ}(h:∀x,idx s i=M x->Le ((f x).bind e) (bZ S c Q (nx S c n cf λp=>c8 p.st p.d (cp x))))
 (B:(fS S c n cf).map (λp=>(p.k,bW S.N p.st.g p.az))=M (.p (.idxS (bB.size α)),M [.v (cz s),.v (.int _o i)]):=by kernel_rfl):Le (((idx s i).bind f).bind e) (bZ S c Q cf):=acW _o n h B
theorem js(k:T2)(n u:Nat){s:Sl α}{i:Int}{f:Nat->aY γ}(h:∀x,s.iF i=M x->Le ((f x).bind e) (bZ S c Q (nx S c n cf λp=>c8 p.st p.d (.el u x 0))))
 (B:(fS S c n cf).map (λp=>(p.k,bW S.N p.st.g p.az,bh p.st.m u))=M (.p (.idxS (bB.size α)),M [.own u,.v (.int k i)],M (cG s)):=by kernel_rfl):Le (((s.iF i).bind f).bind e) (bZ S c Q cf):=by
 have⟨p,w,a⟩:=eF B;simp at a;refine rK w ?_ h;rw[a.1];exact Le.of_eq (ab3 a.2.1 a.2.2 rfl)
theorem qD(n u o sz:Nat)(a:X')(v:α->V){s:Sl α}{i:Nat}{f:α->aY γ}(h:∀x,s.get i=M x->Le ((f x).bind e) (bZ S c Q (nx S c n cf λp=>c8 p.st p.d (.v (v x)))))
 (B:(fS S c n cf).map (λp=>(p.k,bW S.N p.st.g p.az,bh p.st.m u,(!p.dr||p.now||eY p.fr [.el u i o])))=M (.r (.load sz a),M [.el u i o],M (cG s),O):=by kernel_rfl)(b:∀x:α,(cut (cells x) o sz).bind (mk a)=M (v x):=by intro _;rfl):Le (((s.get i).bind f).bind e) (bZ S c Q cf):=by
 have⟨p,z,w⟩:=eF B;simp only[ζc]at w;refine rK z ?_ h;rw[w.1];exact Le.of_eq (abm w.2.1 w.2.2.2 w.2.2.1 b)
theorem tL(n u:Nat)(x:V){s:Sl α}{i:Nat}{a:α}{f:Sl α->aY γ}(h:∀B,s.put i a=M B->Le ((f B).bind e) (bZ S c Q (nx S c n cf λp=>c8 {p.st with m:=bE p.st.m u (cG B)} p.d (.v .undef))))
 (D:(fS S c n cf).map (λp=>(p.k,bW S.N p.st.g p.az,bh p.st.m u,(!p.dr||p.now),x.cells))=M (.l (.store (bB.size α)),M [.el u i 0,.v x],M (cG s),O,cells a):=by kernel_rfl):Le (((s.put i a).bind f).bind e) (bZ S c Q cf):=by
 have⟨p,w,b⟩:=eF D;simp only[ζc]at b;refine rK w ?_ h;rw[b.1];exact Le.of_eq (XS b.2.1 b.2.2.2.1 b.2.2.1 b.2.2.2.2 rfl)
theorem Gq(n u:Nat){i:Int}{z:α}{f:Sl α->aY γ}(h:∀B,nC i z=M B->Le ((f B).bind e) (bZ S c Q (nx S c n cf λp=>{p.st with g:=bE p.st.g u (.own u),m:=bE p.st.m u (cG B)})))
 (D:(fS S c n cf).map (λp=>(p.d,p.k,bW S.N p.st.g p.az,p.st.new u))=M (M u,.a (.makeSl (bB.size α) (cells z)),M [.v (.int _o i),.v (.int _o i)],O):=by kernel_rfl):Le (((nC i z).bind f).bind e) (bZ S c Q cf):=by
 have⟨p,w,a⟩:=eF D;simp at a;refine rK w ?_ h;rw[a.1,a.2.1];exact Le.of_eq (aah a.2.2.1 rfl rfl a.2.2.2)
theorem adY(n u:Nat){i:Int}{z:α}{zero:So}{f:Sl α->aY γ}(h:∀B,xE i z=M B->Le ((f B).bind e) (bZ S c Q (nx S c n cf λp=>{p.st with g:=bE p.st.g u (.own u),m:=bE p.st.m u (cG B)})))
 (D:(fS S c n cf).map (λp=>(p.d,p.k,bW S.N p.st.g p.az,p.st.new u))=M (M u,.a (.makeSl (bB.size α) (cells z)),M [.v (.int _o 0),.v (.int _o i)],O):=by kernel_rfl):Le (((xE i z).bind f).bind e) (bZ S c Q cf):=by
 have⟨p,w,a⟩:=eF D;simp at a;have⟨b,I⟩:=jC w;have⟨dr,fr,d,gd,now,k,az,dd,l,fs,st⟩:=p;obtain⟨rfl,rfl,J,C⟩:=a;exact adI n dr fr (⟨M u,gd,now,.a (.makeSl (bB.size α) (cells z)),az,dd,[]⟩::l) fs st rfl C g? λB j=>by have:=h B j;simp[nx,w]at this;simp_all
theorem kO(n o w u:Nat){s:Sl α}{x:α}{f:Sl α->aY γ}(h:∀B,ec s x=M B->Le ((f B).bind e) (bZ S c Q (nx S c n cf λp=>{p.st with g:=bE p.st.g u (.own u),m:=bE (dH o p.st.m) u (cG B)})))
 (D:(fS S c n cf).map (λp=>(p.d,p.k,bW S.N p.st.g p.az,(!p.dr||p.now),bh p.st.m o,bh p.st.m w,St.new {p.st with m:=dH o p.st.m} u))=M (M u,.l (.append (bB.size α)),M [.own o,.own w],O,M (cG s),M (cG (.row [x])),O):=by kernel_rfl):Le (((ec s x).bind f).bind e) (bZ S c Q cf):=by
 have⟨p,z,a⟩:=eF D;simp only[ζc]at a;refine rK z ?_ h;rw[a.1,a.2.1];exact Le.of_eq (acF a.2.2.1 a.2.2.2.1 a.2.2.2.2.1 a.2.2.2.2.2.1 rfl a.2.2.2.2.2.2)
theorem WG(n w u:Nat)(v:V)(x:α){m:aY β}(h:Le m (bZ S c Q (nx S c n cf λp=>{p.st with g:=bE p.st.g u (.own u),m:=bE p.st.m u (cG (.row [x]))})))(a:v=.bG\/v=.dN:=by first|exact .inl rfl|exact .inr rfl)
 (B:(fS S c n cf).map (λp=>(p.d,p.k,bW S.N p.st.g p.az,(!p.dr||p.now),bh p.st.m w,p.st.new u))=M (M u,.l (.append (bB.size α)),M [.v v,.own w],O,M (cG (.row [x])),O):=by kernel_rfl):Le m (bZ S c Q cf):=by
 have⟨p,C,z⟩:=eF B;simp only[ζc]at z;refine sK C ?_ h;rw[z.1,z.2.1];exact abt a z.2.2.1 z.2.2.2.1 z.2.2.2.2.1 rfl z.2.2.2.2.2
theorem bO(n:Nat)(s:Sl α){m:aY β}(h:Le m (bZ S c Q (nx S c n cf λp=>c8 p.st p.d (.v (.int _o (W s.l))))))
 (B:(fS S c n cf).map (λp=>(p.k,bW S.N p.st.g p.az))=M (.p .lenSl,M [.v (cz s)]):=by kernel_rfl):Le m (bZ S c Q cf):=by
 have⟨p,u,a⟩:=eF B;simp at a;refine sK u ?_ h;rw[a.1];exact Xz a.2
theorem BL(n u:Nat)(s:Sl α){m:aY β}(h:Le m (bZ S c Q (nx S c n cf λp=>c8 p.st p.d (.v (.int _o (W s.l))))))
 (B:(fS S c n cf).map (λp=>(p.k,bW S.N p.st.g p.az,bh p.st.m u))=M (.p .lenSl,M [.own u],M (cG s)):=by kernel_rfl):Le m (bZ S c Q cf):=by
 have⟨p,w,a⟩:=eF B;simp at a;refine sK w ?_ h;rw[a.1];exact abo a.2.1 a.2.2
theorem abv(n:Nat){s:Sl α}{f:X'->aY γ}(h:∀t,s.isNil=M t->Le (_l (f t) e) (bZ S c Q (nx S c n cf λp=>c8 p.st p.d (.v (.bool t)))))
 (B:(fS S c n cf).map (λp=>(VY p.k,bW S.N p.st.g p.az))=M (M .eql,M [.v (cz s),.v .bG]):=by kernel_rfl):Le (_l (s.isNil.bind f) e) (bZ S c Q cf):=by
 have⟨p,w,a⟩:=eF B;simp at a;have⟨u,b⟩:=Zk a.1;refine rK w ?_ h;rw[b];exact Le.of_eq (ZF a.2)
theorem Fx(n:Nat)(lo hi:X')(B:So){s:Sl α}{a b:Ps}{f:Sl α->aY γ}(h:∀x,iw s a b=M x->Le ((f x).bind e) (bZ S c Q (nx S c n cf λp=>c8 p.st p.d (.v (cz x)))))
 (D:(fS S c n cf).map (λp=>(p.k,bW S.N p.st.g p.az,oK lo hi B))=M (.p (.slice (bB.size α) lo hi),M (.v (cz s)::B.map .v),M (a,b)):=by kernel_rfl):Le (((iw s a b).bind f).bind e) (bZ S c Q cf):=by
 have⟨p,u,g⟩:=eF D;simp at g;have⟨i,C⟩:=jC u;have⟨dr,fr,d,gd,now,k,az,dd,l,fs,st⟩:=p;obtain⟨rfl,j,I⟩:=g;exact adU n dr fr (⟨d,gd,now,.p (.slice (bB.size α) lo hi),az,dd,[]⟩::l) fs st lo hi B rfl g? λw z=>by have:=h w z;simp only[nx,u]at this;omega
theorem W_(n:Nat)(lo hi:X')(u t:Nat)(B:So){s:Sl α}{a b:Ps}{f:Sl α->aY γ}(h:∀x,nJ s a b=M x->Le ((f x).bind e) (bZ S c Q (nx S c n cf λp=>{p.st with g:=bE p.st.g t (.own t),m:=bE (dH u p.st.m) t (cG x)})))
 (D:(fS S c n cf).map (λp=>(p.d,p.k,p.dr,bW S.N p.st.g p.az,oK lo hi B,bh p.st.m u,St.new {p.st with m:=dH u p.st.m} t))=M (M t,.p (.slice (bB.size α) lo hi),U,M (.own u::B.map .v),M (a,b),M (cG s),O):=by kernel_rfl):Le (((nJ s a b).bind f).bind e) (bZ S c Q cf):=by
 have⟨p,w,i⟩:=eF D;simp at i;have⟨j,I⟩:=jC w;have⟨dr,fr,d,gd,now,k,az,dd,l,fs,st⟩:=p;obtain⟨rfl,rfl,rfl,J,L,y,z⟩:=i;exact acy n fr (⟨M t,gd,now,.p (.slice (bB.size α) lo hi),az,dd,[]⟩::l) fs st lo hi u B rfl z g? λC q=>by have:=h C q;simp only[nx,w]at this;omega
theorem ck(n u:Nat)(x:α){m:aY β}(h:Le m (bZ S c Q (nx S c n cf λp=>{p.st with g:=bE p.st.g u (.ptr u 0),m:=bE p.st.m u (bx x)})))
 (B:(fS S c n cf).map (λp=>(p.d,p.k,bW S.N p.st.g p.az,p.st.new u))=M (M u,.a .box,M [cv x],O):=by kernel_rfl):Le m (bZ S c Q cf):=by
 have⟨p,w,a⟩:=eF B;simp at a;refine sK w ?_ h;rw[a.1,a.2.1,yO,a.2.2.1];simp only[ζb,a.2.2.2,L',nG,f_,uY]
def stB(u o sz:Nat)(xs:R')(p:IA):St:=match bh p.st.m u with
 |some (.box cs)=>c8 {p.st with m:=bE p.st.m u (.box (cs.take o++xs++cs.drop (o+sz)))} p.d (.v .undef)|_=>p.st
theorem lC(n u o:Nat)(x:α){m:aY β}(h:Le m (bZ S c Q (nx S c n cf (stB u o (bB.size α) ((cells x).map .v)))))
 (B:(fS S c n cf).map (λp=>(p.k,bW S.N p.st.g p.az,(!p.dr||p.now),match bh p.st.m u with|some (.box cs)=>ble (o+bB.size α) (W cs)|_=>U))=M (.l (.store (bB.size α)),M [.ptr u o,cv x],O,O):=by kernel_rfl):Le m (bZ S c Q cf):=by
 have⟨p,C,a⟩:=eF B;simp only[ζc]at a;refine sK C ?_ h;have⟨b,D,d,z⟩:=a;split at z
 next cs w=>have I:=Nat.le_of_ble_eq_true z;rw[b,xm,D];simp only[ζb,d,L',mM,w,putCells,f_,gI,uY,I,and_self,B?,stB]
 simp_all
theorem tG(n u:Nat)(xs:aX α){m:aY β}(h:Le m (bZ S c Q (nx S c n cf λp=>{p.st with g:=bE p.st.g u (.own u),m:=bE p.st.m u (cG (.row xs))})))
 (B:(fS S c n cf).map (λp=>(p.d,kbs p.k,bW S.N p.st.g p.az,p.st.new u))=M (M u,M (bB.size α,W xs,C' 0 (W xs)),M ((xs.map enc).map .v),O):=by kernel_rfl):Le m (bZ S c Q cf):=by
 have⟨p,w,a⟩:=eF B;simp at a;have⟨b,j⟩:=jC w;have⟨dr,fr,d,gd,now,k,az,dd,l,fs,st⟩:=p;obtain⟨rfl,C,I,D⟩:=a;obtain⟨z,rfl⟩:=abD C;exact Abs n dr fr (⟨M u,gd,now,.a (.buildSl (bB.size α) (W xs) z (C' 0 (W xs))),az,dd,[]⟩::l) fs st xs Y D g? (by
  simp[nx,w]at h;omega)
theorem wE(n:Nat)(x:α)(vs z:So)(pl:aX (Nat×Nat)){m:aY β}(B:mK z pl vs=M (cells x))(D:bB.agg α=O)(h:Le m (bZ S c Q (nx S c n cf λp=>c8 p.st p.d (cv x))))
 (J:(fS S c n cf).map (λp=>(p.k,bW S.N p.st.g p.az))=M (.p (.build z pl),M (vs.map .v)):=by kernel_rfl):Le m (bZ S c Q cf):=by
 have⟨p,u,a⟩:=eF J;simp at a;have⟨b,w⟩:=jC u;have⟨dr,fr,d,gd,now,k,az,dd,l,fs,st⟩:=p;obtain⟨rfl,C⟩:=a;exact adT n dr fr (⟨d,gd,now,.p (.build z pl),az,dd,[]⟩::l) fs st x vs Y B D g? (by
  simp only[nx,u]at h;omega)
end
theorem adR(n:Nat){k:T2}{a b:Int}{f:Int->aY γ}(h:∀x,BE k a b=M x->Le ((f x).bind e) (bZ S c Q (nx S c n cf λp=>c8 p.st p.d (.v (.int k x)))))
 (B:(fS S c n cf).map (λp=>(Qc p.k,bW S.N p.st.g p.az))=M (M .quo,M [.v (.int k a),.v (.int k b)]):=by kernel_rfl):Le (((BE k a b).bind f).bind e) (bZ S c Q cf):=by
 have⟨p,w,d⟩:=eF B;simp at d;have⟨t,u,g⟩:=Zx d.1;refine rK w ?_ h;rw[g];exact Le.of_eq (acA d.2)
theorem Cx(n:Nat)(k:T2){a:U'}{b:Int}{f:Int->aY γ}(h:∀x,mP a b=M x->Le ((f x).bind e) (bZ S c Q (nx S c n cf λp=>c8 p.st p.d (.v (.int .u8 x)))))
 (B:(fS S c n cf).map (λp=>(p.k,bW S.N p.st.g p.az))=M (.p .idxStr,M [.v (.str a),.v (.int k b)]):=by kernel_rfl):Le (((mP a b).bind f).bind e) (bZ S c Q cf):=by
 have⟨p,u,d⟩:=eF B;simp at d;refine rK u ?_ h;rw[d.1];exact Le.of_eq (UI d.2)
section
variable{A:α->So}{E:δ->So}{pl:α->aY δ}{fn:Y'}{sc:X'}
theorem yJ(n:Nat)(F:iG S c fn A E pl sc)(z:α){f:δ->aY γ}(h:∀x,pl z=M x->Le ((f x).bind e) (bZ S c Q (nx S c n cf λp=>c8 p.st p.d (.v (result (E x))))))
 (B:(fS S c n cf).map (λp=>(p.k,(bW S.N p.st.g p.az).bind mc,(!p.dr||p.now||e_ p.st.m p.fr [])))=M (.c,M (fn,(A z).map .v),O):=by kernel_rfl):Le (((pl z).bind f).bind e) (bZ S c Q cf):=by
 have⟨p,C,b⟩:=eF B;simp at b;have⟨D,j,q⟩:=b;have⟨I,g1,g2⟩:=ζg.1 j;have u:∀d(w:So),SV.dL d (w.map .v)=U:=λd w=>by induction w with|nil=>rfl|cons a l J=>simp[SV.dL,SV.cR,J]
 have L:(!p.dr||p.now||e_ p.st.m p.fr ((A z).map .v))=O:=by have:e_ p.st.m p.fr ((A z).map .v)=e_ p.st.m p.fr []:=(by unfold e_;simp[u];rfl);grind
 refine rK C ?_ h;rw[D];exact L5 (F.h z) F.k g1 g2 (LI _ _ _) L (λr=>by rw[kP];simp)
theorem abC(n:Nat)(F:iG S c fn A E pl O)(z:α){f:δ->aY γ}(h:∀x,pl z=M x->Le ((f x).bind e) (bZ S c Q (nx S c n cf λp=>c8 p.st p.d (.v (result (E x))))))
 (B:(fS S c n cf).map (λp=>(p.k,((bW S.N p.st.g p.az).bind mc).bind λq=>(qp (kg p.st.m 8) q.2).map λvs=>(q.1,vs,((!p.dr||p.now)||e_ p.st.m p.fr q.2))))=M (.c,M (fn,A z,O)):=by kernel_rfl):Le (((pl z).bind f).bind e) (bZ S c Q cf):=by
 have⟨p,u,a⟩:=eF B;simp at a;have⟨w,C⟩:=a;have⟨q,g1,g2⟩:=ζg.1 C;have⟨D,g3,g4⟩:=ζg.1 g1;have⟨vs,g5,g6⟩:=ζf.1 g2;simp only[ζc]at g6;obtain⟨e1,rfl,e3⟩:=g6;refine rK u ?_ h;rw[w];exact L5 (F.h z) F.k g3 g? g5 e3 (λr=>by rw[F.s rfl];rfl)
end
section
variable{N:Nat}[bB α]
theorem Pm(n:Nat)(k:T2){a:bQ N α}{i:Int}{f:α->aY γ}(h:∀x,a.at i=M x->Le ((f x).bind e) (bZ S c Q (nx S c n cf λp=>c8 p.st p.d (.v (.fptr (pa a i))))))
 (B:(fS S c n cf).map (λp=>(p.k,bW S.N p.st.g p.az))=M (.p (.idxA N (bB.size α)),M [cp a,.v (.int k i)]):=by kernel_rfl):Le (((a.at i).bind f).bind e) (bZ S c Q cf):=by
 have⟨p,u,b⟩:=eF B;simp at b;have⟨g,z⟩:=jC u;have⟨dr,fr,d,gd,now,C,az,dd,l,fs,st⟩:=p;obtain⟨rfl,D⟩:=b;exact ab9 n dr fr (⟨d,gd,now,.p (.idxA N (bB.size α)),az,dd,[]⟩::l) fs st k rfl g? λx w=>by have:=h x w;simp only[nx,u]at this;omega
theorem V4(n k:Nat)(a:bQ N α)(i:Int)(o:Nat)(x:α)(B:a.at i=M x){m:aY β}(h:Le m (bZ S c Q (nx S c n cf λp=>c8 p.st p.d (.v (.fptr ((pa a i).drop (o+k)))))))
 (D:(fS S c n cf).map (λp=>(p.k,bW S.N p.st.g p.az,ble (o+k) (bB.size α)))=M (.p (.fieldAddr k),M [.v (.fptr ((pa a i).drop o))],O):=by kernel_rfl):Le m (bZ S c Q cf):=by
 have⟨p,u,b⟩:=eF D;simp at b;have⟨e,w⟩:=jC u;have⟨dr,fr,d,gd,now,z,az,dd,l,fs,st⟩:=p;obtain⟨rfl,C,j⟩:=b;exact adV n dr fr (⟨d,gd,now,.p (.fieldAddr k),az,dd,[]⟩::l) fs st a i o x B Y g? (by
  simp only[nx,u]at h;omega)
theorem Pr(n sz:Nat)(ag:X')(a:bQ N α)(i:Int)(o:Nat)(x:α)(B:a.at i=M x)(v:V)(b:_l (cut (cells x) o sz) (mk ag)=M v){m:aY β}(h:Le m (bZ S c Q (nx S c n cf λp=>c8 p.st p.d (.v v))))
 (D:(fS S c n cf).map (λp=>(p.k,bW S.N p.st.g p.az))=M (.r (.load sz ag),M [.v (.fptr ((pa a i).drop o))]):=by kernel_rfl):Le m (bZ S c Q cf):=by
 have⟨p,w,u⟩:=eF D;simp at u;have⟨e,z⟩:=jC w;have⟨dr,fr,d,gd,now,C,az,dd,l,fs,st⟩:=p;obtain⟨rfl,j⟩:=u;exact acG n dr fr (⟨d,gd,now,.r (.load sz ag),az,dd,[]⟩::l) fs st a i o x B b v Y g? (by
  simp only[nx,w]at h;omega)
theorem ZM(n u:Nat)(st:St)(len:Nat)(z:α){m:aY β}(B:st.new u=O)(h:Le m (bZ S c Q (nx S c n cf λ_=>{st with g:=bE st.g u (.ptr u 0),m:=bE st.m u (bx (bQ.Jd len z))})))
 (D:(fS S c n cf).map (λp=>(p.d,Xo p.k,bW S.N p.st.g p.az,p.st))=M (M u,M (cells (bQ.Jd len z)),M [],st):=by kernel_rfl):Le m (bZ S c Q cf):=by
 have⟨p,w,a⟩:=eF D;simp at a;have⟨k,b⟩:=SF a.2.1;refine sK w ?_ h;rw[a.1,b,yO,a.2.2.1,a.2.2.2];simp[B,nG]
theorem Bal(n u:Nat)(st:St)(cs:R'){m:aY β}(B:st.new u=O)(h:Le m (bZ S c Q (nx S c n cf λ_=>{st with g:=bE st.g u (.ptr u 0),m:=bE st.m u (.box cs)})))
 (D:(fS S c n cf).map (λp=>(p.d,(Xo p.k).map (λz=>z.map SV.v),bW S.N p.st.g p.az,p.st))=M (M u,M cs,M [],st):=by kernel_rfl):Le m (bZ S c Q cf):=by
 have⟨p,C,a⟩:=eF D;simp only[ζc]at a;have⟨z,d,w⟩:=eF a.2.1;have⟨k,b⟩:=SF d;refine sK C ?_ h;rw[a.1,b,yO,a.2.2.1,a.2.2.2];simp[B,nG,w]
theorem DU(n:Nat)(k:T2)(u:Nat){a:bQ N α}{i:Int}{f:α->aY γ}(h:∀x,a.at i=M x->Le ((f x).bind e) (bZ S c Q (nx S c n cf λp=>c8 p.st p.d (.ptr u (i.toNat*bB.size α+0)))))
 (B:(fS S c n cf).map (λp=>(p.k,bW S.N p.st.g p.az,bh p.st.m u))=M (.p (.idxA N (bB.size α)),M [.ptr u 0,.v (.int k i)],M (bx a)):=by kernel_rfl):Le (((a.at i).bind f).bind e) (bZ S c Q cf):=by
 have⟨p,w,b⟩:=eF B;simp at b;have⟨g,C⟩:=jC w;have⟨dr,fr,d,gd,now,D,az,dd,l,fs,st⟩:=p;obtain⟨rfl,j,I⟩:=b;exact acH n dr fr (⟨d,gd,now,.p (.idxA N (bB.size α)),az,dd,[]⟩::l) fs st k u rfl g? λx z=>by have:=h x z;simp only[nx,w]at this;omega
theorem O_(n sz:Nat)(ag:X')(u:Nat)(a:bQ N α)(i:Int)(o:Nat)(x:α)(B:a.at i=M x)(v:V)(b:_l (cut (cells x) o sz) (mk ag)=M v){m:aY β}(h:Le m (bZ S c Q (nx S c n cf λp=>c8 p.st p.d (.v v))))
 (D:(fS S c n cf).map (λp=>(p.k,bW S.N p.st.g p.az,bh p.st.m u,(!p.dr||p.now||eY p.fr [.ptr u 0])))=M (.r (.load sz ag),M [.ptr u (i.toNat*bB.size α+o)],M (bx a),O):=by kernel_rfl):Le m (bZ S c Q cf):=by
 have⟨p,z,w⟩:=eF D;simp at w;have⟨e,C⟩:=jC z;have⟨dr,fr,d,gd,now,j,az,dd,l,fs,st⟩:=p;obtain⟨rfl,I,J,L⟩:=w;exact acz n dr fr (⟨d,gd,now,.r (.load sz ag),az,dd,[]⟩::l) fs st u a i o x B b v Y g? (by
  simp only[nx,z]at h;omega)
theorem acs(n sz u:Nat)(a:bQ N α)(i:Int)(o:Nat)(x:α)(B:a.at i=M x)(y:α)(v:V)(D:cells y=(cells x).take o++v.cells++(cells x).drop (o+sz)){m:aY β}(h:Le m (bZ S c Q (nx S c n cf λp=>c8 {p.st with m:=bE p.st.m u (bx (a.set i y))} p.d (.v .undef))))
 (J:(fS S c n cf).map (λp=>(p.k,bW S.N p.st.g p.az,bh p.st.m u,(!p.dr||p.now),_j v.cells,v.cells.all V.one,ble (o+sz) (bB.size α)))=M (.l (.store sz),M [.ptr u (i.toNat*bB.size α+o),.v v],M (bx a),O,sz,O,O):=by kernel_rfl):Le m (bZ S c Q cf):=by
 have⟨p,z,w⟩:=eF J;simp at w;have⟨b,C⟩:=jC z;have⟨dr,fr,d,gd,now,j,az,dd,l,fs,st⟩:=p;obtain⟨rfl,I,L,q,T,a__,W⟩:=w;exact Xx n dr fr (⟨d,gd,now,.l (.store sz),az,dd,[]⟩::l) fs st u a i o x B y v D Y g? (by
  simp[nx,z]at h;omega)
end
section
variable{κ ν:Type}[bB κ][DecidableEq κ][Key κ][bB ν]
theorem Kl(n u:Nat)(mp:Mo κ ν)(k:κ)(z:ν){m:aY β}(h:Le m (bZ S c Q (nx S c n cf λp=>c8 p.st p.d (cv (iM mp k z)))))
 (B:(fS S c n cf).map (λp=>(p.k,bW S.N p.st.g p.az,bh p.st.m u,(!p.dr||p.now||eY p.fr [.mp u,cv k])))=M (.r (.lookup (Key.kk κ) (enc z) U),M [.mp u,cv k],M (iZ mp),O):=by kernel_rfl):Le m (bZ S c Q cf):=by
 have⟨p,w,a⟩:=eF B;simp at a;have⟨b,C⟩:=jC w;have⟨dr,fr,d,gd,now,D,az,dd,l,fs,st⟩:=p;obtain⟨rfl,j,I,J⟩:=a;exact acw n dr fr (⟨d,gd,now,.r (.lookup (Key.kk κ) (enc z) U),az,dd,[]⟩::l) fs st u mp k z Y g? (by
  simp only[nx,w]at h;omega)
theorem aa4(n u:Nat)(mp:Mo κ ν)(k:κ)(z:ν){m:aY β}(h:Le m (bZ S c Q (nx S c n cf λp=>c8 p.st p.d (.v (.tup [enc (iM mp k z),.bool (AF mp k)])))))
 (B:(fS S c n cf).map (λp=>(p.k,bW S.N p.st.g p.az,bh p.st.m u,(!p.dr||p.now||eY p.fr [.mp u,cv k])))=M (.r (.lookup (Key.kk κ) (enc z) O),M [.mp u,cv k],M (iZ mp),O):=by kernel_rfl):Le m (bZ S c Q cf):=by
 have⟨p,w,a⟩:=eF B;simp at a;have⟨b,C⟩:=jC w;have⟨dr,fr,d,gd,now,D,az,dd,l,fs,st⟩:=p;obtain⟨rfl,j,I,J⟩:=a;exact abc n dr fr (⟨d,gd,now,.r (.lookup (Key.kk κ) (enc z) O),az,dd,[]⟩::l) fs st u mp k z Y g? (by
  simp only[nx,w]at h;omega)
theorem Ky(n u:Nat)(mp:Mo κ ν)(k:κ)(v:ν){m:aY β}(h:Le m (bZ S c Q (nx S c n cf λp=>c8 {p.st with m:=bE p.st.m u (iZ (mA mp k v))} p.d (.v .undef))))
 (B:(fS S c n cf).map (λp=>(p.k,bW S.N p.st.g p.az,bh p.st.m u,(!p.dr||p.now)))=M (.l (.mapUp (Key.kk κ)),M [.mp u,cv k,cv v],M (iZ mp),O):=by kernel_rfl):Le m (bZ S c Q cf):=by
 have⟨p,z,w⟩:=eF B;simp at w;have⟨a,C⟩:=jC z;have⟨dr,fr,d,gd,now,D,az,dd,l,fs,st⟩:=p;obtain⟨rfl,j,I,J⟩:=w;exact adX n dr fr (⟨d,gd,now,.l (.mapUp (Key.kk κ)),az,dd,[]⟩::l) fs st u mp k v Y g? (by
  simp[nx,z]at h;omega)
end
theorem ach(n:Nat)(st:St){rs:Pi}{e:γ->aY So}{r:γ}(m?:R'){ys:So}(B:qp (kg st.m 8) m?=M ys)(D:e r=M ys)
 (h:(gW S c n cf.1 cf.2.1 cf.2.2).map (λq=>(q.1,q.2.2,kS q.2.2 rs))=M (.rt,st,M m?):=by kernel_rfl):Le (_l (M r) e) (bZ S c (sC rs) cf):=by
 have⟨⟨fo,fs,e?⟩,u,a⟩:=eF h;simp at a;obtain⟨rfl,rfl,w⟩:=a;exact acN n m? B (by rw[u,w]) D
end
end Go.VE
namespace Go.VE
variable[b8]
section
variable{S:Sys}{c:cg}{β γ δ α:Type}[bB α]{Q:Out×St->aY β}{e:γ->aY β}{cf:Cf}
def pT(s x:Sl α):aY (Sl α):=if x.l=[]then M s else if W s.l+W x.l<=2147483648 then M (.row (s.l++x.l))else G
theorem Yg(m:Tb bD)(n w:Nat)(x:Sl α)(B:n=bB.size α)(D:bh m w=M (cG x)):jB m n (.own w)=M (rows x.l):=by rw[D5,D,DJ n x B]
theorem KX(l:aX α):rows l=[]↔l=[]:=by unfold rows;simp
theorem UR(a b:aX α):rows a++rows b=rows (a++b):=by unfold rows;simp
theorem MJ(a:aX α):W (rows a)=W a:=by unfold rows;simp
theorem aak{st:St}{dr now:X'}{fr:ST}{az:QQ}{d n o:Nat}{s x:Sl α}{B:SV}(j:bW S.N st.g az=M [.own o,B])(hd:(!dr||now)=O)(D:bh st.m o=M (cG s))(z:jB st.m n B=M (rows x.l))(J:n=bB.size α)(T:St.new {st with m:=dH o st.m} d=O):
 gA S c dr fr ⟨M d,G,now,.l (.append n),az,[],[]⟩ st=_l (pT s x) λq=>M {st with g:=bE st.g d (.own d),m:=bE (dH o st.m) d (cG q)}:=by
 rw[xm,j];simp only[ζb,hd,L',Aj (Yg st.m n o s J D) z];unfold pT
 by_cases h:x.l=[]
 .rw[J0 h,(KX x.l).2 h];simp only[Aq,D,J0 T,ζb];rfl
 rw[K' h];have a:rows x.l≠[]:=λe=>h ((KX _).1 e)
 have w:Aq st d n (.own o) (M (rows s.l)) (M (rows x.l))=if(rows s.l).length+W (rows x.l)<=2147483648/\Mm (.own o)=O then(if St.new {st with m:=giveUp st.m (.own o)} d then M (.own d,{st with m:=bE (giveUp st.m (.own o)) d (.sl .row n (rows s.l++rows x.l))})else G)else G:=by unfold Aq;generalize rows x.l=r at *;cases r with|nil=>exact _c Y a|cons y r=>rfl
 rw[w,MJ,MJ,UR]
 by_cases u:W s.l+W x.l<=2147483648
 .rw[J0 ⟨u,Y⟩,J0 (show St.new {st with m:=giveUp st.m (.own o)} d=O from T),J0 u];rw[ζb,ζb,J];rfl
 rw[K' (λk=>u k.1),K' u];rfl
theorem ac6(n o u:Nat)(D:SV){s x:Sl α}{f:Sl α->aY γ}(J:∀p,fS S c n cf=M p->jB p.st.m (bB.size α) D=M (rows x.l))
 (h:∀B,pT s x=M B->Le ((f B).bind e) (bZ S c Q (nx S c n cf λp=>{p.st with g:=bE p.st.g u (.own u),m:=bE (dH o p.st.m) u (cG B)})))
 (T:(fS S c n cf).map (λp=>(p.d,p.k,bW S.N p.st.g p.az,(!p.dr||p.now),bh p.st.m o,St.new {p.st with m:=dH o p.st.m} u))=M (M u,.l (.append (bB.size α)),M [.own o,D],O,M (cG s),O):=by kernel_rfl):Le (((pT s x).bind f).bind e) (bZ S c Q cf):=by
 have⟨p,w,a⟩:=eF T;simp only[ζc]at a;refine rK w ?_ h;rw[a.1,a.2.1];exact Le.of_eq (aak a.2.2.1 a.2.2.2.1 a.2.2.2.2.1 (J p w) rfl a.2.2.2.2.2)
theorem QV(m:Tb bD)(x:Sl α):jB m (bB.size α) (.v (cz x))=M (rows x.l):=by cases x<;>simp[cz,Sl.k,Sl.l,kN,jB,rows]
theorem Bj(n o u:Nat){s x:Sl α}{f:Sl α->aY γ}
 (h:∀B,pT s x=M B->Le ((f B).bind e) (bZ S c Q (nx S c n cf λp=>{p.st with g:=bE p.st.g u (.own u),m:=bE (dH o p.st.m) u (cG B)})))
 (D:(fS S c n cf).map (λp=>(p.d,p.k,bW S.N p.st.g p.az,(!p.dr||p.now),bh p.st.m o,St.new {p.st with m:=dH o p.st.m} u))=M (M u,.l (.append (bB.size α)),M [.own o,.v (cz x)],O,M (cG s),O):=by kernel_rfl):Le (((pT s x).bind f).bind e) (bZ S c Q cf):=
 ac6 n o u _ (λp _=>QV p.st.m x) h D
end
theorem uc{α:Type}{l:aX α}{i:Nat}{x:α}(h:l[i]?=M x):l.set i x=l:=by obtain⟨hi,rfl⟩:=ζe.1 h;exact List.set_getElem_self hi
open Classical in
def Ft(E:Env)(g:Y')(cb:So)(a b:V):aY V:=if h:∃n y,cu (run E n) g (a::b::cb) []=M y then M (Classical.choose (W? h))else G
theorem HL{E:Env}{g:Y'}{cb:So}{a b y:V}(h:Ft E g cb a b=M y):∃n,∀k,n<=k->cu (run E k) g (a::b::cb) []=M y:=by
 unfold Ft at h;split at h;next c=>cases h;exact⟨_,λk d=>qx (qT E d) (W? (W? c))⟩
 cases h
theorem Oh{E:Env}{g:Y'}{cb:So}{a b y:V}{n:Nat}(h:cu (run E n) g (a::b::cb) []=M y):Ft E g cb a b=M y:=by have d:∃n y,cu (run E n) g (a::b::cb) []=M y:=⟨n,y,h⟩;cases c:Ft E g cb a b with|none=>unfold Ft at c;rw[dif_pos d]at c;cases c|some z=>have⟨m,u⟩:=HL c;have:=u _ (Nat.le_max_right n m);rw[qx (qT E (Nat.le_max_left n m)) h]at this;cases this;rfl
theorem Hx{n:Nat}{p:_root_.Fin n->Nat->Prop}(h:∀i,∃N,∀k,N<=k->p i k):∃N,∀i k,N<=k->p i k:=by induction n with|zero=>exact⟨0,λi=>i.elim0⟩|succ n u=>have⟨N,w⟩:=u (p:=λi=>p i.succ) λi=>h i.succ;have⟨d,a⟩:=h 0;refine⟨max N d,λi k b=>?_⟩;refine _root_.Fin.cases (a k c?) (λj=>w j k c?) i
def kE(x:So):V:=x.headD .undef
def xd(es:Nat)(xs:S'):X':=es==1&&xs.all (λx=>W x==1&&x.all V.one)&&_p (W xs<=2147483648)
theorem BX{es:Nat}{xs:S'}(h:xd es xs=O):es=1/\W xs<=2147483648/\∀(i:Nat)x,xs[i]?=M x->x=[kE x]/\(kE x).one=O:=by unfold xd at h;simp only[ζh,_g,M?,_e]at h;refine⟨h.1.1,h.2,λi x w=>?_⟩;have⟨a,z⟩:=h.1.2 x (s? w);obtain⟨u,rfl⟩:=List.length_eq_one_iff.1 a;exact⟨Y,z u f?⟩
section
variable{H:bl}{Z:Nat->Prop}
theorem dJ.N6{k:Nat}{xs ys:So}(h:dJ H Z xs ys)(B:V.nv k xs=O):borrows k H ys=M xs:=mB h.1 λj u v a b=>(h.2 j u v a b).borrow k (ox.1 B j u a)
theorem dJ.borrows{xs ys:So}(h:dJ H Z xs ys):∃n,∀k,n<=k->borrows k H ys=M xs:=by have⟨n,u⟩:=oe xs;exact⟨n,λk a=>h.N6 (qY a u)⟩
theorem Tk{es:Nat}{xs:S'}(h:xd es xs=O){rs:S'}(B:gN H Z xs rs):dJ H Z (xs.map kE) rs.flatten:=by induction xs generalizing rs with|nil=>have:=B.1;simp at this;have:rs=[]:=List.eq_nil_of_length_eq_zero (by simpa using this.symm);subst this;exact .nil|cons x xs D=>have⟨d,L,q⟩:=BX h;cases rs with|nil=>have:=B.1;simp at this|cons r rs=>have⟨e,_⟩:=q 0 x Y;have C:=B.2 0 x r Y Y;rw[e]at C;obtain⟨u,y,rfl,c,w⟩:=C.inv;rw[w.dm];have z:xd es xs=O:=(by unfold xd at h⊢;simp only[c!,ζh,Z?,_e]at h⊢;exact⟨⟨h.1.1,h.1.2.2⟩,c?⟩);exact .cons c (D z (rs:=rs) ⟨by have:=B.1;simpa using this,λj a b I J=>B.2 (j+1) a b I J⟩)
end
def vt(E:Env)(g:Y')(cb:So)(a b:V):Ps:=match Ft E g cb a b with|some (.int _o c)=>M c|_=>G
theorem Vv{E:Env}{g:Y'}{cb:So}{a b:V}{c:Int}(h:vt E g cb a b=M c):∃n,∀k,n<=k->cu (run E k) g (a::b::cb) []=M (.int _o c):=by
 unfold vt at h;split at h;next c' d=>cases h;exact HL d
 cases h
def Ct(E:Env)(es:Nat)(xs:S'):So->aY S'
 |[.clo g [] cb]=>match xs with
  |[]=>M []|x::l=>if xd es (x::l)&& !E.keep g then
   let t:_root_.Fin (W l+1)->_root_.Fin (W l+1)->Ps:=λi j=>vt E g cb (kE (((x::l)[i.1]?).getD [])) (kE (((x::l)[j.1]?).getD []))
   if DB t then M ((tu (W l) (rG t)).toList.map λi=>((x::l)[i.1]?).getD [])else G
   else G
 |_=>G
def vT(E:Env):JA:=⟨U,Ct E⟩
theorem FP{n:Nat}{lt:_root_.Fin (n+1)->_root_.Fin (n+1)->X'}(h:Sort.SWO lt):(tu n lt).size=n+1:=by rw[EL];have:=(Sort.pdq_sorts lt h (List.finRange (n+1)).toArray 0 (n+1) (Lib.bitLen (n+1)) O O (V? _) f? (Or.inl Y)).1.1;simpa using this
theorem Wq{E:Env}{f:Y'}(m:E.keep f=true)(ho:E.own f=false)(A:E.sort f=true)(F:E.ft f=none):pJ E f (vT E)where
 keep:=m
 own:=ho
 le:=by intro es xs vs ys h;simp only[vT,Ct]at h;split at h;split at h;cases h;exact⟨z? _,λ_=>rfl⟩;split at h;split at h;(next q=>cases h;have:=FP (s6 q).2;simp only[I!,Array.length_toList,Z?,this];exact⟨z? _,λ_=>trivial⟩);cases h;cases h;cases h
 none:=by intro es vs ys h H Z ws w K he;simp only[vT,Ct]at h;split at h;obtain⟨R,r,rfl,V,a__⟩:=K.inv;rw[a__.dm];refine⟨1,[],λk m=>?_⟩;(cases k with|zero=>omega|succ k=>rcases he with rfl|rfl<;>simp[run,lz,F,A,tq,vT]);cases h
 row:=by
  intro es xs vs ys h H Z ws id off rs K c__ C I z hz;simp only[vT,Ct]at h;split at h;rename_i g cb;obtain⟨R,r,rfl,V,a__⟩:=K.inv;rw[a__.dm];obtain⟨a',J,rfl,s,aa⟩:∃a' J,R=.clo g a' J/\dJ H Z [] a'/\dJ H Z cb J:=V.l_;rw[s.dm]at *;split at h;cases h;refine⟨1,rs,[],λk m=>?_,rfl,⟨rfl,λj u v o=>by simp at o⟩,z⟩;cases k with|zero=>omega|succ k=>have:H.set id (.row es rs)=H:=uc c__;simp[run,lz,F,A,tq,vT,this]
  rename_i x l;split at h;rename_i D;simp only[ζh,Bool.not_eq_true']at D;obtain⟨c1,c3⟩:=D;obtain⟨rfl,Q,ae⟩:=BX c1;split at h;rename_i q;cases h;obtain⟨b__,S⟩:=s6 q;have B:∀i,Z i->Z i/\bn (H.set id .dead) i=bn H i:=λi hi=>⟨hi,by unfold bn;rw[E?];rintro rfl;exact hz hi⟩;have T:=I.mono B;obtain⟨M1,d__⟩:=(Tk c1 T).borrows;simp only[Z?]at d__;obtain⟨M2,W⟩:=(aa.mono B).borrows;obtain⟨N,P⟩:=Hx (p:=λi k=>∀j:_root_.Fin (l.length+1),cu (run E k) g (kE (((x::l)[i.1]?).getD [])::kE (((x::l)[j.1]?).getD [])::cb) []=some (.int .i64 ((vt E g cb (kE (((x::l)[i.1]?).getD [])) (kE (((x::l)[j.1]?).getD []))).getD 0))) (λi=>by
   obtain⟨N,P⟩:=Hx (p:=λ(j:_root_.Fin (l.length+1))k=>cu (run E k) g (kE (((x::l)[i.1]?).getD [])::kE (((x::l)[j.1]?).getD [])::cb) []=some (.int .i64 ((vt E g cb (kE (((x::l)[i.1]?).getD [])) (kE (((x::l)[j.1]?).getD []))).getD 0))) (λj=>by
    obtain⟨c,d⟩:=b__ i j;obtain⟨n,hn⟩:=Vv d;exact⟨n,λk m=>by rw[hn k m,d];rfl⟩)
   exact⟨N,λk m j=>P j k m⟩)
  have X:∀k,N<=k->kj (run E k) g ((x::l).map kE) cb l.length=λi j=>vt E g cb (kE (((x::l)[i.1]?).getD [])) (kE (((x::l)[j.1]?).getD [])):=λk m=>by funext i j;obtain⟨c,d⟩:=b__ i j;have e1:∀i:_root_.Fin (l.length+1),((x::l).map kE)[i.1]?=some (kE (((x::l)[i.1]?).getD [])):=λi=>(by have:i.1<(x::l).length:=i.2;rw[Q?,ζd this];rfl);unfold kj;rw[e1 i,e1 j];simp only[P i k m j];rw[d];rfl
  have ab:=FP S;generalize hL:(tu l.length (rG λi j:_root_.Fin (l.length+1)=>vt E g cb (kE (((x::l)[i.1]?).getD [])) (kE (((x::l)[j.1]?).getD [])))).toList=L at *;have ad:L.length=l.length+1:=by rw[<-hL];simpa using ab
  simp only[Z?]at C I Q;refine⟨max N (max M1 M2)+1,ug rs off l.length L,[],λk m=>?_,?_,?_,?_⟩;cases k with|zero=>omega|succ k=>simp only[run,lz,F,A,L',tq,c__,vT,v?,M',Z?];rw[J0 ⟨trivial,trivial,C,c?,c3⟩,show(run E k).lv=k from qg E k,d__ k c?,W k c?];simp only[X k c?,q,L',hL,J!]
  simp[ug,ad];omega;have e:((ug rs off l.length L).drop off).take (L.map λi=>((x::l)[i.1]?).getD []).length=L.map λi=>(rs[off+i.1]?).getD []:=by unfold ug;have h0:(rs.take off).length=off:=(by simp;omega);rw[d9,List.drop_append_of_le_length c?,List.drop_eq_nil_of_le c?,l0,I!,List.take_append_of_le_length f?,O? f?]
  rw[e];refine⟨f?,λj a b s t=>?_⟩;rw[Q?]at s t;obtain⟨i,hi,rfl⟩:=ζf.1 s;rw[hi]at t;simp only[B?,ζa]at t;subst t;have Y:i.1<(x::l).length:=i.2;have y:off+i.1<rs.length:=by have:=i.2;omega
  refine I.2 i.1 _ _ (by rw[ζd Y];rfl) ?_;rw[I?,J0 i.2,R?,ζd y];rfl;intro c d u o;unfold ug at d;rcases mem_append.1 d with d|d;rcases mem_append.1 d with d|d;exact z c (List.mem_of_mem_take d) u o;obtain⟨i,_,rfl⟩:=mem_map.1 d;have y:off+i.1<rs.length:=by have:=i.2;omega
  rw[ζd y]at o;exact z _ (t? y) u o;exact z c (List.mem_of_mem_drop d) u o;cases h;cases h;cases h
def gp(N:Nat->Y')(F:WP):Arg->V
 |.s n=>get F n|.k c=>c|.f s=>.clo (N s) [] []
def kW(E:Env)(N:Nat->Y')(call:d_)(b:aY Nat)(now:X')(k:K)(vs:So)(H:bl):aY (V×bl):=
 match k,b with
 |.p p,_=>(bV N p vs).map λv=>(v,H)|.r r,G=>(fW H r vs).map λv=>(v,H)|.r r,M b=>(fW (H.take b) r vs).map λv=>(v,H)|.a a,G=>(nO a vs).map λx=>(x.2.val (W H),H++[x.1])|.l l,G=>fR H l vs|.l (.store n),M _=>if now then fR H (.store n) vs else G|.c,G=>match vs with
  |.clo g a c::u=>if E.keep g then h_ E call g (a++u++c) H else match cu call g (a++u++c) H with
   |some y=>if y.scalar then M (y,H)else G|none=>G
  |_=>G
 |.c,M b=>match vs with
  |.clo g a c::u=>if E.keep g then G else match cu call g (a++u++c) (H.take b)with
   |some y=>if y.scalar then M (y,H)else G|none=>G
  |_=>G
 |_,_=>G
def mY(F:WP):aY Nat->V->WP
 |none,_=>F|some d,v=>set F d v
def dW(E:Env)(N:Nat->Y')(call:d_)(b:aY Nat):Rd->WP->bl->aY (WP×bl)
 |[],F,H=>M (F,H)|o::r,F,H=>match o.gd with
  |none=>match kW E N call b o.now o.k (o.az.map (gp N F)) H with
   |some (v,H')=>dW E N call b r (mY F o.dst v) H'|none=>G
  |some _=>G
section
variable{X:CX}{N:Nat->Y'}{call:d_}{F F':WP}{H H':bl}
theorem N9(B:∀f s,X.nm f=M s->N s=f){o:UV}{x:Arg}(h:rq X.nm o=M x):ev F o=M (gp N F x):=by cases o with|tmp t=>simp[rq]at h;subst h;rfl|const w=>simp[rq]at h;split at h;rename_i c a;split at h;simp at h;subst h;exact a;grind;grind|func f=>obtain⟨s,u,rfl⟩:=ζf.1 h;show M (V.clo f [] [])=M (.clo (N s) [] []);grind|global i=>simp[rq]at h;split at h;rename_i c a;split at h;simp at h;subst h;simp[ev,a];rfl;grind;grind
theorem zl(J:∀f s,X.nm f=M s->N s=f):∀{os:aX UV}{B:QQ},os.mapM (rq X.nm)=M B->gm F os=M (B.map (gp N F))
 |[],B,h=>by simp at h;subst h;rfl|o::os,B,h=>by simp[ζg]at h;obtain⟨x,T,xs,D,rfl⟩:=h;simp[gm,N9 J T,zl J D]
theorem CQ(D:∀f s,X.nm f=M s->N s=f){B:X'}{ops:R0}{i:Nat}{o:Oper}{ro:RO}(h:oF X B ops i o=M ro)(g:ro.gd=G):
 o.dst=ro.dst/\BS X.nt o.dst=O/\gV ops F o=O/\((DR X.E N F o.op (ro.az.map (gp N F)) ro.k/\ro.now=(B&&eo ops i)/\(B=O->eo ops i=U->∀a',rz ops i a'=[]\/∀t,o.op≠.load t (.tmp a')))\/(∃n,ro.k=.l (.storeF n))\/(∃n a,ro.k=.r (.loadF n a))\/(B=O/\Gr X.E ops i=O/\cV o.op=.alloc/\(∃p,ro.k=.p p/\(p=.emptyC\/(∃a b,p=.makeC a b)\/∃a b c d,p=.buildC a b c d)/\∀y,bV N p (ro.az.map (gp N F))=M y->rC X.E F o.op=M y))\/∃n,ro.k=.e n):=by
 unfold oF at h;split at h
 .rename_i hd;have hd:=(Bool.and_eq_true_iff.1 hd).1;split at h
  .rename_i gd k os u hr;split at h
   .split at h
    .rename_i z;simp only[ζh]at z;have L:∀{gd:aY (Nat×X')},Fv ops o=M gd->gd=G->gV ops F o=O:=λ{gd}u g=>by
      subst g;unfold gV;unfold Fv at u
      cases q:o.guard with
      |none=>rfl|some a__=>rw[q]at u;have⟨j,b⟩:=a__;have⟨d,_,e⟩:=ζf.1 u;cases e
     split at h
     next Q=>obtain⟨S,C,rfl⟩:=ζf.1 h;have w:=kL D hr (zl (F:=F) D C);exact⟨_i,hd,L u g,.inr (.inr (.inr (.inl ⟨z.1,z.2,w.1,_,_i,.inr (.inl ⟨_,_,_i⟩),λy I=>Gt ⟨_,_,_,by assumption⟩ w I⟩)))⟩
     .rename_i Q;split at h
      next T=>obtain⟨b__,rfl,rfl⟩:=T;obtain⟨S,C,rfl⟩:=ζf.1 h;have w:=kL D hr (zl (F:=F) D C);exact⟨_i,hd,L u g,.inr (.inr (.inr (.inl ⟨z.1,z.2,w.1,_,_i,.inl _i,λy I=>GK ⟨_,_,_,by assumption⟩ w b__ I⟩)))⟩
      obtain⟨S,C,rfl⟩:=ζf.1 h;have w:=kL D hr (zl (F:=F) D C);exact⟨_i,hd,L u g,.inr (.inr (.inr (.inl ⟨z.1,z.2,w.1,_,_i,.inr (.inr ⟨_,_,_,_,_i⟩),λy I=>Gf ⟨_,_,_,by assumption⟩ w I⟩)))⟩
     cases h
    obtain⟨S,C,rfl⟩:=ζf.1 h;simp only at g;subst g;refine⟨_i,hd,?_,?_⟩
    .unfold gV;unfold Fv at u
     cases q:o.guard with
     |none=>rfl|some a__=>rw[q]at u;have⟨j,b⟩:=a__;have⟨d,_,e⟩:=ζf.1 u;cases e
    rcases F9 B ops i k os with⟨e,W⟩|⟨_,_,n,a,l,Y,_,_,_,e⟩|⟨_,_,n,ag,a,_,_,e⟩|⟨_,_,_,n,_,e⟩
    .rw[e]at C⊢;refine .inl ⟨kL D hr (zl D C),_i,λhd Z a'=>?_⟩
     by_cases J:∃t,o.op=.load t (.tmp a')
     .have⟨t,J⟩:=J;rw[J]at hr;simp only[resolve]at hr;have⟨d,_,e⟩:=ζf.1 hr;simp only[ζc]at e;exact .inl (W _ _ a' hd Z e.1.symm e.2.symm)
     exact .inr λt h=>J ⟨t,h⟩
    .rw[e];exact .inr (.inl ⟨n,_i⟩)
    .rw[e];exact .inr (.inr (.inl ⟨n,ag,_i⟩))
    rw[e];exact .inr (.inr (.inr (.inr ⟨n,_i⟩)))
   simp at h
  simp at h
 simp at h
theorem MT{a:Nat}{dst:aY Nat}(h:BS a dst=O)(v:V):lQ a F dst v=M (mY F dst v):=by cases dst with|none=>rfl|some d=>simp[BS]at h;simp[lQ,J0 h,mY]
theorem aa3(J:∀f s,X.nm f=M s->N s=f){ops:R0}{i:Nat}{o:Oper}{ro:RO}(h:oF X U ops i o=M ro)(q:ro.gd=G){v:V}(d:kW X.E N call G ro.now ro.k (ro.az.map (gp N F)) H=M (v,H')):
 iI X.E call X.nt ops G o F H=M (mY F ro.dst v,H'):=by
 have⟨j,I,L,u⟩:=CQ (F:=F) J h q;have hd:dn X.E call ops G F H o.op=M (v,H'):=by
  rcases u with⟨u,_⟩|⟨n,u⟩|⟨n,a,u⟩|⟨u,_⟩|⟨n,u⟩;generalize t:ro.k=k at d u;generalize ro.az.map (gp N F)=c__ at d u;unfold dn;cases k with|p p=>have⟨c,e⟩:=u;have⟨w,B,C⟩:=ζf.1 d;rw[c];simp only[BO (e w B),B?];rw[C]|r r=>have⟨c,e⟩:=u;have⟨w,B,C⟩:=ζf.1 d;rw[c];simp only[e H w B,B?];rw[C]|a a=>have⟨c,e⟩:=u;have⟨⟨ob,m⟩,B,C⟩:=ζf.1 d;rw[c];simp only[pW,v?,M',e _ B];exact _d M C|l l=>have⟨c,e⟩:=u;rw[c];exact e H _ d|e n=>exact u.elim|b=>simp[kW]at d|c=>obtain⟨c,f,b__,rfl,e⟩:=u;rw[c];simp only[kW]at d;split at d;rename_i g a b Q D;simp only[List.cons.injEq]at D;obtain⟨rfl,rfl⟩:=D;split at d;(next z=>simp only[e,zj,eP,mO,z,Bool.and_self,L'];exact d);rename_i z;split at d;rename_i y S;split at d;(next a__=>simp only[e,zj,eP,mO,z,Bool.false_and,v?,M',S,a__,L'];exact d);simp at d;simp at d;simp at d
  .rw[u]at d;exfalso;have:∀ops i k os,(Au U ops i k os).1=k:=λ_ _ _ _=>rfl;unfold oF at h;simp only[Bool.false_and,v?,M',Bool.not_false,Bool.and_true]at h;split at h
   .split at h
    .rename_i gd k os T hr;split at h
     .obtain⟨b__,W,rfl⟩:=ζf.1 h;simp only[this]at u;subst u;unfold resolve at hr;(repeat' split at hr)<;>first|(simp at hr;done)|(have⟨_,_,e⟩:=ζf.1 hr;simp at e;done)
     simp at h
    simp at h
   first|(simp at h;done)|contradiction
  rw[u]at d;simp[kW,fW]at d;cases u;rw[u]at d;simp[kW]at d
 unfold iI;rw[L,J0 Y,hd];simp only[j,MT (j▸I),B?]
theorem KJ(D:∀f s,X.nm f=M s->N s=f){ops:R0}:∀(h?:R0){i:Nat}{B:Rd}{F:WP}{H:bl},ni X U ops i h?=M B->dW X.E N call G B F H=M (F',H')->ov X.E call X.nt ops h? F H=M (F',H')
 |[],i,B,F,H,hc,h=>by simp[ni]at hc;subst hc;exact h|o::h?,i,B,F,H,hc,h=>by simp[ni]at hc;split at hc;rename_i ro rs a J;simp at hc;subst hc;simp[dW]at h;split at h;rename_i b;split at h;(next v H1 c=>simp[ov,aa3 D a b c];exact KJ D h? J h);grind;grind;grind
theorem X5{ops:R0}{i:Nat}{op:Op}(h:∀t a',op=.load t (.tmp a')->rz ops i a'=[]):p_ ops i F op=O:=by unfold p_;grind
theorem aaG(Y:∀f s,X.nm f=M s->N s=f){ops:R0}{b i:Nat}{o:Oper}(m:ops[i]?=M o){ro:RO}(h:oF X O ops i o=M ro)(q:ro.gd=G){v:V}(d:kW X.E N call (M b) ro.now ro.k (ro.az.map (gp N F)) H=M (v,H')):
 iI X.E call X.nt ops (M (b,i)) o F H=M (mY F ro.dst v,H'):=by
 obtain⟨j,Z,x,u⟩:=CQ (F:=F) Y h q;have hd:dn X.E call ops (M (b,i)) F H o.op=M (v,H'):=by
  rcases u with⟨u,z,B⟩|⟨n,u⟩|⟨n,a,u⟩|⟨_,I,J,p,u,_,L⟩|⟨n,u⟩;generalize E:ro.k=k at d u;generalize ro.az.map (gp N F)=vs at d u;unfold dn
  cases k with
  |p p=>obtain⟨c,e⟩:=u;obtain⟨w,C,D⟩:=ζf.1 d;rw[c];simp only[BO (e w C),B?];rw[D]|r r=>obtain⟨c,e⟩:=u;obtain⟨w,C,D⟩:=ζf.1 d;have c__:p_ ops i F o.op=O:=X5 λt a' e=>(by by_cases d__:eo ops i=O;exact FM m e d__;rcases B rfl (by simpa using d__) a' with h|h;exact h;exact _c e (h t));rw[c];simp only[e _ w C,c__,L'];rw[D]|a a=>simp[kW]at d|l l=>obtain⟨c,e⟩:=u;cases l with|store n=>simp only[kW]at d;split at d;(next W=>rw[z,Bool.true_and]at W;rw[c];simp only[W,Bool.true_or,L'];exact e H _ d);simp at d|_=>simp[kW]at d
  |e n=>exact u.elim|b=>simp[kW]at d|c=>obtain⟨c,f,K,rfl,e⟩:=u;rw[c];simp only[kW]at d;split at d;rename_i g a b a__ b__;simp only[List.cons.injEq]at b__;obtain⟨rfl,rfl⟩:=b__;split at d;simp at d;rename_i Q;split at d;rename_i y A;split at d;(next S=>simp only[e,zj,JQ h rfl c,Bool.not_false,Bool.true_or,eP,mO,Q,Bool.false_and,v?,M',A,S,L'];exact d);simp at d;simp at d;simp at d
  rw[u]at d;simp[kW]at d;rw[u]at d;simp[kW,fW]at d;rw[u]at d;obtain⟨w,C,D⟩:=ζf.1 d;have T:=L w C;unfold dn;rw[J];simp only[pW,I,L',T,B?];exact _d M D;rw[u]at d;simp[kW]at d
 unfold iI;rw[x,J0 rfl,hd];simp only[j,MT (j▸Z),B?]
theorem Lz(D:∀f s,X.nm f=M s->N s=f){ops:R0}{b:Nat}:∀(h?:R0){i:Nat}{B:Rd}{F:WP}{H:bl},ops.drop i=h?->ni X O ops i h?=M B->dW X.E N call (M b) B F H=M (F',H')->
 lR X.E call X.nt ops b (C' i (W h?)) F H=M (F',H')
 |[],i,B,F,H,_,hc,h=>by simp[ni]at hc;subst hc;exact h|o::h?,i,B,F,H,hd,hc,h=>by simp[ni]at hc;split at hc;rename_i ro rs a T;simp at hc;subst hc;simp[dW]at h;split at h;rename_i c;split at h;rename_i v H1 d;have J:ops[i]?=M o:=(by have:(ops.drop i)[0]?=M o:=g?;grind);have u:ops.drop (i+1)=h?:=(by rw[<-List.drop_drop,hd];rfl);simp[List.range'_succ,lR,J,aaG D J a c d];exact Lz D h? u T h;grind;grind;grind
def AT(l:Rd):X':=l.all λo=>(match o.k with|.a _|.l (.storeF _)|.r (.loadF ..)|.p (.makeC ..)|.p (.buildC ..)|.p .emptyC|.e _=>U|_=>O)&&o.gd.isNone
theorem G3(T:∀f s,X.nm f=M s->N s=f){ops:R0}:∀(h?:R0){i:Nat}{J:Rd},ni X O ops i h?=M J->AT J=O->h?.any (λo=>cV o.op==.alloc)=U
 |[],_,_,_,_=>rfl|o::h?,i,J,hc,D=>by simp only[ni]at hc;split at hc;rename_i ro rs c d;simp only[ζa]at hc;subst hc;simp only[AT,c!,ζh,Option.isNone_iff_eq_none]at D;have⟨_,_,_,B⟩:=CQ (F:=[]) T c D.1.2;rw[List.any_cons,G3 T h? d D.2,Bool.or_false];rcases B with⟨B,_⟩|⟨n,B⟩|⟨n,a,B⟩|⟨_,_,_,p,B,u,_⟩|⟨n,B⟩;(cases b:ro.k with|a p=>have:=D.1.1;rw[b]at this;cases this|e p=>have:=D.1.1;rw[b]at this;cases this|_=>rw[b]at B;rw[B.1];rfl);have:=D.1.1;rw[B]at this;cases this;have:=D.1.1;rw[B]at this;cases this;have:=D.1.1;rw[B]at this;rcases u with rfl|⟨_,_,rfl⟩|⟨_,_,_,_,rfl⟩<;>cases this;have:=D.1.1;rw[B]at this;cases this;simp at hc
def jb(E:Env)(N:Nat->Y')(call:d_)(lf:Nat):RC->WP->bl->aY (Out×WP×bl)
 |.skip,F,H=>M (.norm,F,H)|.ops l,F,H=>(dW E N call G l F H).map λx=>(.norm,x.1,x.2)|.vI l,F,H=>if AT l then(dW E N call (M (W H)) l F H).map λx=>(.norm,x.1,x.2)else G|.seq a b,F,H=>match jb E N call lf a F H with
  |some (.norm,F',H')=>jb E N call lf b F' H'|r=>r
 |.cond x a b,F,H=>match gp N F x with
  |.bool t=>if t then jb E N call lf a F H else jb E N call lf b F H|_=>G
 |.block id c,F,H=>match jb E N call lf c F H with
  |some (.exit B,F',H')=>if B=id then M (.norm,F',H')else M (.exit B,F',H')|r=>r
 |.loop c,F,H=>mL (jb E N call lf c) lf F H|.exit id,F,H=>M (.exit id,F,H)|.ret,F,H=>M (.ret,F,H)|_,_,_=>G
theorem Mb{f g:WP->bl->aY (Out×WP×bl)}(h:∀F H r,f F H=M r->g F H=M r):∀(k:Nat)(F:WP)(H:bl)(r:Out×WP×bl),mL f k F H=M r->mL g k F H=M r
 |0,F,H,r,hr=>by simp[mL]at hr|k+1,F,H,r,hr=>by simp only[mL]at hr⊢;cases B:f F H with|none=>rw[B]at hr;simp at hr|some q=>rw[B]at hr;rw[h F H q B];have⟨o,F1,H1⟩:=q;cases o with|norm=>exact Mb h k F1 H1 r hr|exit _=>exact hr|ret=>exact hr
theorem UY(D:∀f s,X.nm f=M s->N s=f){lf:Nat}:∀(j:RC)(code:Code)(F:WP)(H:bl)(r:Out×WP×bl),bT X U code=M j->jb X.E N call lf j F H=M r->exec X.E call lf U X.nt code F H=M r:=by
 intro j
 induction j with
 |skip=>
  intro code F H r d h;simp only[jb,ζa]at h;subst h
  cases code with
  |skip=>rfl|label _=>rfl|region id ops u=>simp only[bT]at d;(repeat' split at d)<;>first|(simp at d;done)|(have⟨_,_,e⟩:=ζf.1 d;cases e)
  |_=>simp only[bT]at d;(repeat' split at d)<;>first|(simp at d;done)|(have⟨_,_,e⟩:=ζf.1 d;cases e)|cases d
 |ops l=>intro code F H r d h;cases code with|region id ops u=>simp only[bT]at d;split at d;split at d;have⟨_,_,e⟩:=ζf.1 d;cases e;simp at d;rename_i hd;have⟨T,a__,e⟩:=ζf.1 d;cases e;simp only[jb]at h;obtain⟨⟨F',H'⟩,k,rfl⟩:=ζf.1 h;simp only[exec,kX,hd];rw[K' f?,KJ D _ a__ k];rfl|_=>simp only[bT]at d;(repeat' split at d)<;>first|(simp at d;done)|(have⟨_,_,e⟩:=ζf.1 d;cases e)|cases d
 |vI l=>intro code F H r d h;cases code with|region id ops u=>simp only[bT]at d;split at d;rename_i hd;split at d;rename_i I;have⟨T,a__,e⟩:=ζf.1 d;cases e;simp only[jb]at h;split at h;(next c__=>obtain⟨⟨F',H'⟩,k,rfl⟩:=ζf.1 h;have W:uw ops.toList=U:=G3 D _ a__ c__;have:=Lz D ops.toList (i:=0) _i a__ k;rw[<-List.range_eq_range']at this;simp only[exec,kX,hd,I,L',W,v?,M',this];rfl);simp at h;simp at d;have⟨_,_,e⟩:=ζf.1 d;cases e|_=>simp only[bT]at d;(repeat' split at d)<;>first|(simp at d;done)|(have⟨_,_,e⟩:=ζf.1 d;cases e)|cases d
 |seq a b w B=>
  intro code F H r d h
  cases code with
  |seq J L=>simp only[bT]at d;split at d;rename_i x y C b__;cases d;simp only[jb]at h;simp only[exec];(cases g:jb X.E N call lf a F H with|none=>rw[g]at h;simp at h|some q=>rw[g]at h;rw[w J F H q C g];have⟨o,F1,H1⟩:=q;cases o with|norm=>exact B L F1 H1 r b__ h|exit _=>exact h|ret=>exact h);simp at d
  |region id ops u=>simp only[bT]at d;(repeat' split at d)<;>first|(simp at d;done)|(have⟨_,_,e⟩:=ζf.1 d;cases e)
  |_=>simp only[bT]at d;(repeat' split at d)<;>first|(simp at d;done)|(have⟨_,_,e⟩:=ζf.1 d;cases e)|cases d
 |cond x a b w B=>
  intro code F H r d h
  cases code with
  |cond c J L=>simp only[bT]at d;split at d;rename_i n y z C b__ Y;cases d;simp only[jb]at h;simp only[exec,N9 (F:=F) D C];split at h;rename_i t Z;rw[Z];(cases t with|true=>simp only[L']at h⊢;exact w J F H r b__ h|false=>simp only[v?,M']at h⊢;exact B L F H r Y h);simp at h;simp at d
  |region id ops u=>simp only[bT]at d;(repeat' split at d)<;>first|(simp at d;done)|(have⟨_,_,e⟩:=ζf.1 d;cases e)
  |_=>simp only[bT]at d;(repeat' split at d)<;>first|(simp at d;done)|(have⟨_,_,e⟩:=ζf.1 d;cases e)|cases d
 |block id c Q=>
  intro code F H r d h
  cases code with
  |block S c'=>simp only[bT]at d;have⟨x,C,e⟩:=ζf.1 d;cases e;simp only[jb]at h;simp only[exec];cases g:jb X.E N call lf c F H with|none=>rw[g]at h;simp at h|some q=>rw[g]at h;rw[Q c' F H q C g];exact h
  |region id ops u=>simp only[bT]at d;(repeat' split at d)<;>first|(simp at d;done)|(have⟨_,_,e⟩:=ζf.1 d;cases e)
  |_=>simp only[bT]at d;(repeat' split at d)<;>first|(simp at d;done)|(have⟨_,_,e⟩:=ζf.1 d;cases e)|cases d
 |loop c Q=>
  intro code F H r d h
  cases code with
  |loop c'=>simp only[bT]at d;have⟨x,C,e⟩:=ζf.1 d;cases e;simp only[jb]at h;simp only[exec];exact Mb (λF H r m=>Q c' F H r C m) lf F H r h|region id ops u=>simp only[bT]at d;(repeat' split at d)<;>first|(simp at d;done)|(have⟨_,_,e⟩:=ζf.1 d;cases e)
  |_=>simp only[bT]at d;(repeat' split at d)<;>first|(simp at d;done)|(have⟨_,_,e⟩:=ζf.1 d;cases e)|cases d
 |exit id=>
  intro code F H r d h
  cases code with
  |exit S=>simp only[bT,ζa,RC.exit.injEq]at d;subst d;exact h|region id ops u=>simp only[bT]at d;(repeat' split at d)<;>first|(simp at d;done)|(have⟨_,_,e⟩:=ζf.1 d;cases e)
  |_=>simp only[bT]at d;(repeat' split at d)<;>first|(simp at d;done)|(have⟨_,_,e⟩:=ζf.1 d;cases e)|cases d
 |ret=>
  intro code F H r d h
  cases code with
  |ret=>exact h|region id ops u=>simp only[bT]at d;(repeat' split at d)<;>first|(simp at d;done)|(have⟨_,_,e⟩:=ζf.1 d;cases e)
  |_=>simp only[bT]at d;(repeat' split at d)<;>first|(simp at d;done)|(have⟨_,_,e⟩:=ζf.1 d;cases e)|cases d
 |_=>intro code F H r d h;simp[jb]at h
end
def Ex(E:Env)(N:Nat->Y')(a:RC)(F:WP)(H:bl)(o:Out)(F':WP)(H':bl):Prop:=∃n,∀k,n<=k->jb E N (run E k) k a F H=M (o,F',H')
def tI(E:Env)(N:Nat->Y')(a:RC)(F:WP)(H:bl)(o:Out)(F':WP)(H':bl):Prop:=∃n,∀k,n<=k->∀u,n<=u->mL (jb E N (run E k) k a) u F H=M (o,F',H')
section
variable{E:Env}{N:Nat->Y'}{a b c:RC}{F F1 F':WP}{H H1 H':bl}{o:Out}{x:Arg}{id:Nat}
theorem Ex.ops{l:Rd}(h:∃n,∀k,n<=k->dW E N (run E k) G l F H=M (F',H')):Ex E N (.ops l) F H .norm F' H':=let⟨n,h⟩:=h;⟨n,λk a=>by simp only[jb,h k a,B?]⟩
theorem Ex.eN{l:Rd}(h:∀call,dW E N call G l F H=M (F',H')):Ex E N (.ops l) F H .norm F' H':=Ex.ops ⟨0,λk _=>h _⟩
theorem Ex.vI{l:Rd}(B:AT l=O)(h:∀call,dW E N call (M (W H)) l F H=M (F',H')):Ex E N (.vI l) F H .norm F' H':=⟨0,λk _=>by simp only[jb,B,L',h,B?]⟩
theorem Ex.Pa{l:Rd}(B:AT l=O)(h:∃n,∀k,n<=k->dW E N (run E k) (M (W H)) l F H=M (F',H')):Ex E N (.vI l) F H .norm F' H':=let⟨n,h⟩:=h;⟨n,λk a=>by simp only[jb,B,L',h k a,B?]⟩
theorem Ex.skip:Ex E N .skip F H .norm F H:=⟨0,λ_ _=>rfl⟩
theorem Ex.exit:Ex E N (.exit id) F H (.exit id) F H:=⟨0,λ_ _=>rfl⟩
theorem Ex.ret:Ex E N .ret F H .ret F H:=⟨0,λ_ _=>rfl⟩
theorem Ex.seq(c:Ex E N a F H .norm F1 H1)(B:Ex E N b F1 H1 o F' H'):Ex E N (.seq a b) F H o F' H':=by have⟨n,c⟩:=c;have⟨m,B⟩:=B;exact⟨max n m,λk d=>by simp only[jb,c k c?];exact B k c?⟩
theorem Ex.BA(c:Ex E N a F H o F' H')(B:o≠.norm):Ex E N (.seq a b) F H o F' H':=by have⟨n,c⟩:=c;refine⟨n,λk d=>?_⟩;simp only[jb,c k d];cases o<;>first|exact _c Y B|rfl
theorem Ex.uj(B:gp N F x=.bool O)(h:Ex E N a F H o F' H'):Ex E N (.cond x a b) F H o F' H':=by have⟨n,h⟩:=h;exact⟨n,λk c=>by simp only[jb,B,L',h k c]⟩
theorem Ex.xy(B:gp N F x=.bool U)(h:Ex E N b F H o F' H'):Ex E N (.cond x a b) F H o F' H':=by have⟨n,h⟩:=h;exact⟨n,λk c=>by simp only[jb,B,v?,M',h k c]⟩
theorem Ex.block(h:Ex E N c F H .norm F' H'):Ex E N (.block id c) F H .norm F' H':=by have⟨n,h⟩:=h;exact⟨n,λk a=>by simp only[jb,h k a]⟩
theorem Ex.GM(h:Ex E N c F H (.exit id) F' H'):Ex E N (.block id c) F H .norm F' H':=by have⟨n,h⟩:=h;exact⟨n,λk a=>by simp only[jb,h k a,L']⟩
theorem Ex.RJ(h:Ex E N c F H .ret F' H'):Ex E N (.block id c) F H .ret F' H':=by have⟨n,h⟩:=h;exact⟨n,λk a=>by simp only[jb,h k a]⟩
theorem Ex.loop(h:tI E N c F H o F' H'):Ex E N (.loop c) F H o F' H':=by have⟨n,h⟩:=h;exact⟨n,λk a=>h k a k a⟩
theorem tI.step(a:Ex E N c F H .norm F1 H1)(B:tI E N c F1 H1 o F' H'):tI E N c F H o F' H':=by have⟨n,a⟩:=a;have⟨m,B⟩:=B;refine⟨max n m+1,λk b u w=>?_⟩;cases u with|zero=>omega|succ u=>simp only[mL,a k c?];exact B k c? u c?
theorem tI.stop(a:Ex E N c F H o F' H')(B:o≠.norm):tI E N c F H o F' H':=by have⟨n,a⟩:=a;refine⟨n+1,λk b u w=>?_⟩;cases u with|zero=>omega|succ u=>simp only[mL,a k c?];cases o<;>first|exact _c Y B|rfl
end
theorem Ex.run{E:Env}{nm:Y'->aY Nat}{N:Nat->Y'}(B:∀f s,nm f=M s->N s=f){f:Y'}{fi:FI}{a:RC}(D:E.ft f=M fi)(b:bT ⟨E,nm,fi.ntmps⟩ U fi.body=M a){args:So}(J:W args<=fi.ntmps){H H':bl}{F':WP}
 (h:Ex E N a args H .ret F' H'){vs:So}(c:jt E F' H' fi.results=M vs):∃n,run E n (.fn f) args H=M (result vs,H'):=by
 have⟨n,h⟩:=h;refine⟨n+1,?_⟩;have:=UY (X:=⟨E,nm,fi.ntmps⟩) (call:=Go.VE.run E n) B (lf:=n) a fi.body args H _ b (h n (z? _));simp only[Go.VE.run,lz,D,J0 J,this,c,B?]
@[simp] theorem uu(F:WP)(i j:Nat)(v:V):get (set F i v) j=if i=j then v else get F j:=by
 split;next h=>subst h;exact vW F i v
 rename_i h;exact kG F v h
def refs:ST->S'->S'
 |id::ids,r::rs=>[V.hsl id 1 0 (W r)]::refs ids rs|_,_=>[]
def rT(r:So):S':=r.map λu=>[u]
structure vZ(H:bl)(w:V)(o:Nat)(ids:List Nat)(rows:List (List V)):Prop where
 v:w=if rows=[]then .bG else .hsl o 1 0 rows.length
 ob:rows≠[]->H[o]?=some (.row 1 (refs ids rows))
 len:ids.length=rows.length
 r:∀(i id:Nat)(r:List V),ids[i]?=some id->rows[i]?=some r->H[id]?=some (.row 1 (rT r))
 nd:ids.Nodup
 ne:rows≠[]->o∉ids
theorem BN:∀{ids:ST}{rows:S'},W ids=W rows->W (refs ids rows)=W rows
 |[],[],_=>rfl|_::ids,_::rows,h=>by simp only[refs,Z?,BN (ids:=ids) (rows:=rows) (by simpa using h)]
theorem Mp:∀{ids:ST}{rows:S'}(id:Nat)(r:So),W ids=W rows->refs (ids++[id]) (rows++[r])=refs ids rows++[[V.hsl id 1 0 (W r)]]
 |[],[],_,_,_=>rfl|_::ids,_::rows,id,r,h=>by simp only[refs,List.cons_append,Mp (ids:=ids) (rows:=rows) id r (by simpa using h)]
theorem Kz:∀{ids:ST}{rows:S'}{i id:Nat}{r:So},ids[i]?=M id->rows[i]?=M r->(refs ids rows)[i]?=M [V.hsl id 1 0 (W r)]
 |[],_,_,_,_,h,_=>by simp at h|_::_,[],_,_,_,_,h=>by simp at h|a::ids,b::rows,0,id,r,h1,B=>by simp at h1 B;subst h1 B;rfl|a::ids,b::rows,i+1,id,r,h1,B=>by simpa[refs]using Kz (ids:=ids) (rows:=rows) (i:=i) (by simpa using h1) (by simpa using B)
theorem LG:∀{ids:ST}{rows:S'}{i:Nat}{r B:So},rows[i]?=M r->W B=W r->refs ids (rows.set i B)=refs ids rows
 |[],_,_,_,_,_,_=>by simp[refs]|_::_,[],_,_,_,_,_=>by simp[refs]|a::ids,b::rows,0,r,B,h,D=>by simp at h;subst h;simp only[List.set_cons_zero,refs,D]|a::ids,b::rows,i+1,r,B,h,D=>by simp only[List.set_cons_succ,refs,LG (ids:=ids) (rows:=rows) (i:=i) (by simpa using h) D]
section
variable{H H':bl}{v:V}{o:Nat}{ids:ST}{rows:S'}
theorem vZ.nil(H:bl)(o:Nat):vZ H .bG o [] []:=⟨Y,λh=>_c Y h,Y,λi id r h=>by simp at h,.nil,λh=>_c Y h⟩
theorem vZ.heap(n:vZ H v o ids rows)(B:rows≠[]->H'[o]?=H[o]?)(hi:∀id∈ids,H'[id]?=H[id]?):vZ H' v o ids rows:=⟨n.v,λh=>by rw[B h];exact n.ob h,n.len,λi id r h1 u=>by rw[hi id (s? h1)];exact n.r i id r h1 u,n.nd,n.ne⟩
theorem vZ.lt(n:vZ H v o ids rows):(rows≠[]->o<W H)/\∀id∈ids,id<W H:=by refine⟨λh=>(ζe.1 (n.ob h)).1,λid u=>?_⟩;have⟨i,hi⟩:=G! u;have w:=(ζe.1 hi).1;have:=n.r i id _ hi (ζd (show i<W rows from n.len▸w));exact(ζe.1 this).1
theorem vZ.more(n:vZ H v o ids rows)(X:bl):vZ (H++X) v o ids rows:=n.heap (λh=>u? (n.lt.1 h)) λid u=>u? (n.lt.2 id u)
theorem vZ.push(n:vZ H v o ids rows)(r:So)(T:_j rows+1<=2147483648):
 ∃H',fR (H++[.row 1 (rT r)]++[.row 1 [[.hsl (_j H) 1 0 (_j r)]]]) (.append 1) [v,.hsl (_j H+1) 1 0 1]=M (.hsl (_j H+2) 1 0 (_j rows+1),H')/\
  vZ H' (.hsl (_j H+2) 1 0 (_j rows+1)) (_j H+2) (ids++[_j H]) (rows++[r])/\_j H<=_j H'/\(∀id,id<_j H->id≠o\/rows=[]->H'[id]?=H[id]?):=by
 generalize C:H++[.row 1 (rT r)]++[.row 1 [[.hsl (_j H) 1 0 (_j r)]]]=H2;have u:_j H2=_j H+2:=by subst C;simp
 have z:∀id,id<_j H->H2[id]?=H[id]?:=λid h=>by subst C;rw[d9,u? h]
 have g:H2[_j H]?=M (.row 1 (rT r)):=by subst C;simp
 have y:H2[_j H+1]?=M (.row 1 [[.hsl (_j H) 1 0 (_j r)]]):=by subst C;simp
 have f:=n.v;have e2:dX H2 1 (.hsl (_j H+1) 1 0 1)=M [[.hsl (_j H) 1 0 (_j r)]]:=by simp[dX,y,Ob.rows]
 by_cases c:rows=[]
 .subst c;rw[J0 Y]at f;subst f;have:ids=[]:=List.eq_nil_of_length_eq_zero n.len;subst this;refine⟨H2++[.row 1 [[.hsl (_j H) 1 0 (_j r)]]],?_,⟨f?,λ_=>by rw[<-u];simp[refs],Y,λi id q hi w=>?_,f?,λ_=>f?⟩,by simp[u];omega,λid D _=>?_⟩
  .have e1:dX H2 1 .bG=M []:=rfl;simp only[fR,e1,e2,iE,List.length_nil,X?,B?,u];simp
  .cases i with
   |zero=>simp at hi w;subst hi w;rw[u? c?];exact g|succ i=>simp at hi
  rw[u? c?];exact z id D
 rw[K' c]at f;subst f;have Q:=n.ob c;have I:=n.lt.1 c;have e1:dX H2 1 (.hsl o 1 0 (_j rows))=M (refs ids rows):=by simp only[dX,L',z o I,Q,ζb,Ob.rows,BN n.len,a8,z?,L!];rw[O? (by rw[BN n.len];exact z? _)]
 have W:iE H2 (.hsl o 1 0 (_j rows))=M (H2.set o .dead):=by simp only[iE,z o I,Q]
 have B:∀id,id≠o->(H2.set o Ob.dead++[Ob.row 1 (refs ids rows++[[.hsl (_j H) 1 0 (_j r)]])])[id]?=if id<_j H2 then H2[id]?else(H2.set o Ob.dead++[Ob.row 1 (refs ids rows++[[.hsl (_j H) 1 0 (_j r)]])])[id]?:=λid j=>by split;(next h=>rw[u? (by simpa using h),E? (Ne.symm j)]);rfl
 refine⟨H2.set o .dead++[.row 1 (refs ids rows++[[.hsl (_j H) 1 0 (_j r)]])],?_,⟨f?,λ_=>?_,by simp[n.len],λi id q hi w=>?_,?_,λ_ d=>?_⟩,by simp[u];omega,λid D j=>?_⟩
 .simp only[fR,e1,e2,W,BN n.len,X?,T,L',B?,u]
 .rw[Mp _ _ n.len,<-u];simp
 .have J:id≠o:=by
   rcases Nat.lt_or_ge i (_j ids) with h|h
   .rw[u? h]at hi;intro e;subst e;exact n.ne c (s? hi)
   have:i=_j ids:=by have:=(ζe.1 hi).1;simp at this;omega
   subst this;simp at hi;subst hi;omega
  rcases Nat.lt_or_ge i (_j ids) with h|h
  .rw[u? h]at hi;rw[u? (by rw[<-n.len];exact h)]at w
   have L:=n.lt.2 id (s? hi);rw[B id J,J0 c?,z id L]
   exact n.r i id q hi w
  have:i=_j ids:=by have:=(ζe.1 hi).1;simp at this;omega
  subst this;simp at hi;subst hi;rw[n.len]at w;simp at w;subst w;rw[B _ J,J0 c?];exact g
 .rw[List.nodup_append];exact⟨n.nd,f?,λa X b S=>by simp at S;subst S;exact Nat.ne_of_lt (n.lt.2 a X)⟩
 .rcases mem_append.1 d with d|d
  .have:=n.lt.2 _ d;omega
  simp at d
 rw[B id (j.resolve_right c),J0 c?];exact z id D
end
theorem WE{E:Env}{N:Nat->Y'}{F:WP}{H H1:bl}{call:d_}{b:aY Nat}{o:RO}{l:Rd}{v:V}{r:WP×bl}(a:o.gd=G)(c:kW E N call b o.now o.k (o.az.map (gp N F)) H=M (v,H1))(h:dW E N call b l (mY F o.dst v) H1=M r):dW E N call b (o::l) F H=M r:=by simp only[dW,a,c];exact h
theorem vp{E:Env}{N:Nat->Y'}{F:WP}{H:bl}{call:d_}{b:aY Nat}{o:RO}{l:Rd}{v:V}{r:WP×bl}(a:o.gd=G)(c:kW E N call b o.now o.k (o.az.map (gp N F)) H=M (v,H))(h:dW E N call b l (mY F o.dst v) H=M r):dW E N call b (o::l) F H=M r:=WE a c h
theorem ym{E:Env}{N:Nat->Y'}{F:WP}{H:bl}{call:d_}{b:aY Nat}:dW E N call b [] F H=M (F,H):=rfl
theorem TE{n:Nat}(h:n<=2147483648):y? _o ((n:Int)+1)=((n+1:Nat):Int):=by simp[y?,IntKind.bits,IntKind.signed];omega
theorem acv{n:Nat}(h:n<=2147483648):y? _o (((n+1:Nat):Int)-1)=(n:Int):=by simp[y?,IntKind.bits,IntKind.signed];omega
theorem K4(H:bl):H.take (W H)=H:=List.take_length
theorem E4{E:Env}{nm:Y'->aY Nat}{f:Y'}{a:RC}{n:Nat}{rs:aX ResultVar}(h:((E.ft f).map λfi=>(bT ⟨E,nm,fi.ntmps⟩ U fi.body,ble n fi.ntmps,fi.results))=M (M a,O,rs)):
 ∃fi,E.ft f=M fi/\bT ⟨E,nm,fi.ntmps⟩ U fi.body=M a/\n<=fi.ntmps/\fi.results=rs:=by
 have⟨fi,b,u⟩:=ζf.1 h;simp only[ζc]at u;exact⟨fi,b,u.1,Nat.le_of_ble_eq_true u.2.1,u.2.2⟩
theorem IG{x:V}(h:x.one=O):x.cells=[x]:=by cases x<;>first|rfl|(simp[V.one]at h)
theorem aa2{call:d_}{f:Y'}{args az:So}{H:bl}(h:borrows call.lv H args=M az)(a:∀x∈az,x.closed=O):cu call f args H=cu call f az []:=by
 have:borrows call.lv [] az=M az:=by clear h;unfold borrows;induction az with|nil=>rfl|cons x l u=>simp only[jw,fh call.lv [] (a x f?),u λy w=>a y (List.mem_cons_of_mem _ w)]
 unfold cu;rw[h,this]
def kept(t:Nat->X')(n:Nat):ST:=(B! n).filter λi=>i==0|| !t i
theorem Ae(t:Nat->X')(n:Nat):kept t (n+1)=kept t n++if n==0|| !t n then[n]else[]:=by unfold kept;rw[List.range_succ,List.filter_append,List.filter_cons];rfl
theorem DP(t:Nat->X'):∀n,W (kept t n)<=n:=λn=>by unfold kept;exact Nat.le_trans (List.length_filter_le ..) f?
theorem Oc{t:Nat->X'}{n i:Nat}(h:i∈kept t n):i<n:=by unfold kept at h;exact mem_range.1 (List.mem_filter.1 h).1
theorem Fy{t:Nat->X'}:∀n,(∀i,0<i->i<n->t i=U)->kept t n=B! n
 |0,_=>rfl|n+1,h=>by rw[Ae,Fy n λi a B=>h i a c?,List.range_succ];congr 1;cases n with|zero=>rfl|succ n=>rw[h (n+1) c? c?];simp
theorem CM{t:Nat->X'}{k:Nat}(B:0<k)(a:t k=O):∀n,k<n->W (kept t n)+1<=n
 |0,h=>c?|n+1,h=>by rw[Ae];by_cases e:n=k;subst e;have:(n==0|| !t n)=U:=(by simp[a];omega);rw[this];have:=DP t n;simp;omega;have:=CM B a n c?;split<;>simp<;>omega
namespace cmpX
instance{n:Nat}:OfNat Arg n:=⟨.s n⟩
def r1:Rd:=[o1 4 (.k (.bG)) []]
def r2:Rd:=[o1 8 0 [],o2 9 (.p .lenSl) [8] [],o2 10 (.p (.bin (M .int) G .lss)) [9,.k (.int _o 2)] []]
def r3:Rd:=[o1 11 0 [],o1 4 11 []]
def r4:Rd:=[o1 5 (.k (.int _o 1)) []]
def r5:Rd:=[o1 12 5 [],o1 13 0 [],o2 14 (.p .lenSl) [13] [],o2 15 (.p (.bin (M .int) G .lss)) [12,14] []]
def on(d:Nat)(k:K)(az:QQ):RO:=⟨M d,G,O,k,az,[],[]⟩
def r6:Rd:=[o1 18 1 [],o1 19 0 [],o1 20 5 [],o2 21 (.p (.idxS 1)) [19,20] [],o2 22 (.r (.load 1 U)) [21] [],o1 23 0 [],o1 24 5 [],o2 25 (.p (.bin (M .int) G .sub)) [24,.k (.int _o 1)] [],o2 26 (.p (.idxS 1)) [23,25] [],o2 27 (.r (.load 1 U)) [26] [],on 28 .c [18,22,27]]
def r7:Rd:=[o1 29 0 [],o1 30 5 [],o2 31 (.p (.slice 1 O U)) [29,30] [],o1 6 31 []]
def r8:Rd:=[o1 7 (.k (.int _o 1)) []]
def r9:Rd:=[o1 32 7 [],o1 33 6 [],o2 34 (.p .lenSl) [33] [],o2 35 (.p (.bin (M .int) G .lss)) [32,34] []]
def KD:Rd:=[o1 38 1 [],o1 39 6 [],o1 40 7 [],o2 41 (.p (.idxS 1)) [39,40] [],o2 42 (.r (.load 1 U)) [41] [],o1 43 6 [],o1 44 7 [],o2 45 (.p (.bin (M .int) G .sub)) [44,.k (.int _o 1)] [],o2 46 (.p (.idxS 1)) [43,45] [],o2 47 (.r (.load 1 U)) [46] [],on 48 .c [38,42,47],on 49 (.p (.not)) [48]]
def ML:Rd:=[o1 50 0 [],o1 51 5 [],o1 52 6 [],o1 53 7 [],o2 54 (.p (.idxS 1)) [52,53] [],o2 55 (.r (.load 1 U)) [54] [],o2 56 (.p (.idxS 1)) [50,51] [],⟨G,G,U,.l (.store 1),[56,55],[],[]⟩]
def Mz:Rd:=[o1 57 5 [],o2 58 (.p (.bin (M .int) G .add)) [57,.k (.int _o 1)] [],o1 5 58 []]
def Mn:Rd:=[o1 36 7 [],o2 37 (.p (.bin (M .int) G .add)) [36,.k (.int _o 1)] [],o1 7 37 []]
def L13:RC:=.seq (.seq (.ops r9) (.cond (.s 35) (.skip) (.exit 2))) (.seq (.block 3 (.seq (.vI KD) (.cond (.s 49) (.seq (.ops ML) (.ops Mz)) (.skip)))) (.ops Mn))
def Md:Rd:=[o1 59 0 [],o1 60 5 [],o2 61 (.p (.slice 1 O U)) [59,60] [],⟨G,G,U,.l (.clear 1 [.bG]),[61],[],[]⟩]
def Ll:Rd:=[o1 62 0 [],o1 63 5 [],o2 64 (.p (.slice 1 U O)) [62,63] [],o1 4 64 []]
def r16:Rd:=[o1 16 5 [],o2 17 (.p (.bin (M .int) G .add)) [16,.k (.int _o 1)] [],o1 5 17 []]
def XC:RC:=.seq (.seq (.ops r5) (.cond (.s 15) (.skip) (.exit 0))) (.seq (.block 1 (.seq (.vI r6) (.cond (.s 28) (.seq (.ops r7) (.seq (.seq (.ops r8) (.block 2 (.loop L13))) (.seq (.ops Md) (.seq (.ops Ll) (.ret))))) (.skip)))) (.ops r16))
def r17:Rd:=[o1 65 0 [],o1 4 65 []]
def code:RC:=.seq (.ops r1) (.seq (.seq (.ops r2) (.cond (.s 10) (.seq (.ops r3) (.ret)) (.skip))) (.seq (.seq (.ops r4) (.block 0 (.loop XC))) (.seq (.ops r17) (.ret))))
section
variable{E:Env}{N:Nat->Y'}{F:WP}{H:bl}{call:d_}{id off L k:Nat}
theorem ld{B:S'}{el:Nat}{v:V}(h:H[id]?=M (.row 1 B))(a:B[el]?=M [v]):fW H (.load 1 U) [.hptr id el 0]=M v:=by simp[fW,fD,h,Ob.rows,a,cut,mk]
theorem W8{i:Nat}(h:i<L):nU 1 (.hsl id 1 off L) (i:Int)=M (.hptr id (off+i) 0):=by unfold nU;rw[K' c?];simp[h]
attribute [local simp] dW kW gp bV mY uu oJ uQ fW
theorem x2(a:get F 0=.hsl id 1 off L):∃F',(∀call,dW E N call G r2 F H=M (F',H))/\get F' 10=.bool (_p ((L:Int)<2))/\(∀s,s<8->get F' s=get F s):=by refine⟨_,λcall=>by simp[r2,a,qq];rfl,f?,?_⟩;simp;grind
theorem x5(a:get F 0=.hsl id 1 off L)(b:get F 5=.int _o k):∃F',(∀call,dW E N call G r5 F H=M (F',H))/\get F' 15=.bool (_p (k<L))/\(∀s,s<8->get F' s=get F s):=by refine⟨_,λcall=>by simp[r5,a,b,qq];rfl,f?,?_⟩;simp;grind
theorem aaj{g:Y'}{cb:So}{B:S'}{o2 L2 i:Nat}{a b:V}{t:X'}(h:H[id]?=M (.row 1 B))(hi:i+1<L2)(D:i<=2147483648)(J:B[o2+(i+1)]?=M [a])(T:B[o2+i]?=M [b])(d:E.keep g=U)(e:get F 1=.clo g [] cb):
 (get F 0=.hsl id 1 o2 L2->get F 5=.int _o ((i+1:Nat):Int)->∃F',(∀call,cu call g (a::b::cb) H=M (.bool t)->dW E N call (M (W H)) r6 F H=M (F',H))/\get F' 28=.bool t/\(∀s,s<8->get F' s=get F s))/\
 (get F 6=.hsl id 1 o2 L2->get F 7=.int _o ((i+1:Nat):Int)->∃F',(∀call,cu call g (a::b::cb) H=M (.bool t)->dW E N call (M (W H)) KD F H=M (F',H))/\get F' 49=.bool (!t)/\(∀s,s<8->get F' s=get F s)):=by
 have hd:=acv D;have e1:=ld h J;have e2:=ld h T;have i1:=W8 (id:=id) (off:=o2) (L:=L2) hi;have i2:=W8 (id:=id) (off:=o2) (L:=L2) (show i<L2 by omega)
 simp at i1 hd;refine⟨λf j=>⟨_,λcall c=>by simp[-fW,r6,on,f,e,j,i1,i2,e1,e2,hd,d,c,V.scalar,K4];rfl,f?,?_⟩,λf6 k=>⟨_,λcall c=>by simp[-fW,KD,on,e,f6,k,i1,i2,e1,e2,hd,d,c,V.scalar,K4];rfl,f?,?_⟩⟩<;>exactλs u=>by simp;repeat (rw[K' c?])
end
end cmpX
namespace cmpX
section
variable{E:Env}{N:Nat->Y'}{F:WP}{H:bl}{call:d_}{id off L k:Nat}
attribute [local simp] dW kW gp bV mY uu oJ uQ fW
theorem x7(a:get F 0=.hsl id 1 off L)(b:get F 5=.int _o k)(c:k<=L):∃F',(∀call,dW E N call G r7 F H=M (F',H))/\get F' 6=.hsl id 1 (off+k) (L-k)/\(∀s,s<8->s≠6->get F' s=get F s):=by
 have e:jy 1 (.hsl id 1 off L) (M k) G=M (.hsl id 1 (off+k) (L-k)):=by unfold jy eA;grind
 refine⟨_,λcall=>by simp[r7,a,b,oK,e];rfl,f?,?_⟩;simp;grind
theorem x9{o2 L2 m:Nat}(f6:get F 6=.hsl id 1 o2 L2)(a:get F 7=.int _o m):∃F',(∀call,dW E N call G r9 F H=M (F',H))/\get F' 35=.bool (_p (m<L2))/\(∀s,s<8->get F' s=get F s):=by refine⟨_,λcall=>by simp[r9,f6,a,qq];rfl,f?,?_⟩;simp;grind
theorem x11{B:S'}{o2 L2 m p:Nat}{a z:V}(h:H[id]?=M (.row 1 B))(c:get F 0=.hsl id 1 off L)(d:get F 5=.int _o p)(f6:get F 6=.hsl id 1 o2 L2)(e:get F 7=.int _o m)(D:m<L2)(hp:p<L)
 (J:B[o2+m]?=M [a])(T:B[off+p]?=M [z])(b:a.one=O):
 ∃F',(∀call,dW E N call G ML F H=M (F',H.set id (.row 1 (B.set (off+p) [a]))))/\(∀s,s<8->get F' s=get F s):=by
 have i1:=W8 (id:=id) (off:=o2) D;have i2:=W8 (id:=id) (off:=off) hp;have e1:=ld h J;have u:fR H (.store 1) [.hptr id (off+p) 0,a]=M (.undef,H.set id (.row 1 (B.set (off+p) [a]))):=by simp[fR,h,T,IG b,b]
 refine⟨_,λcall=>by simp[-fW,ML,c,d,f6,e,i1,i2,e1,u];rfl,?_⟩
 simp;grind
theorem Ql{p:Nat}(hp:p<=2147483648):(get F 5=.int _o p->∃F',(∀call,dW E N call G Mz F H=M (F',H))/\get F' 5=.int _o ((p+1:Nat):Int)/\(∀s,s<8->s≠5->get F' s=get F s))/\
 (get F 7=.int _o p->∃F',(∀call,dW E N call G Mn F H=M (F',H))/\get F' 7=.int _o ((p+1:Nat):Int)/\(∀s,s<8->s≠7->get F' s=get F s))/\
 (get F 5=.int _o p->∃F',(∀call,dW E N call G r16 F H=M (F',H))/\get F' 5=.int _o ((p+1:Nat):Int)/\(∀s,s<8->s≠5->get F' s=get F s)):=by
 have u:=TE hp;refine⟨λf=>⟨_,λcall=>by simp[Mz,f,u];rfl,f?,?_⟩,λf=>⟨_,λcall=>by simp[Mn,f,u];rfl,f?,?_⟩,λf=>⟨_,λcall=>by simp[r16,f,u];rfl,f?,?_⟩⟩<;>
  (simp;grind)
theorem x14{B:S'}{p:Nat}(h:H[id]?=M (.row 1 B))(a:get F 0=.hsl id 1 off L)(b:get F 5=.int _o p)(hp:p<L)(D:off+L<=W B):
 ∃F',(∀call,dW E N call G Md F H=M (F',H.set id (.row 1 (B.take (off+p)++w? (L-p) [.bG]++B.drop (off+L)))))/\(∀s,s<8->get F' s=get F s):=by
 have e:jy 1 (.hsl id 1 off L) (M p) G=M (.hsl id 1 (off+p) (L-p)):=by unfold jy eA;grind
 obtain⟨q,u⟩:∃q,L-p=q+1:=⟨L-p-1,c?⟩
 have c:fR H (.clear 1 [.bG]) [.hsl id 1 (off+p) (L-p)]=M (.undef,H.set id (.row 1 (B.take (off+p)++w? (L-p) [.bG]++B.drop (off+L)))):=by simp[fR,GV,u,h];grind
 refine⟨_,λcall=>by simp[Md,a,b,oK,e,c];rfl,?_⟩
 simp;grind
theorem x15{p:Nat}(a:get F 0=.hsl id 1 off L)(b:get F 5=.int _o p)(hp:p<=L):∃F',(∀call,dW E N call G Ll F H=M (F',H))/\get F' 4=.hsl id 1 off p:=by
 have e:jy 1 (.hsl id 1 off L) G (M p)=M (.hsl id 1 off p):=by unfold jy eA;grind
 exact⟨_,λcall=>by simp[Ll,a,b,oK,e];rfl,f?⟩
theorem xmv:∃F',(∀call,dW E N call G r17 F H=M (F',H))/\get F' 4=get F 0:=⟨_,λcall=>by simp[r17];rfl,f?⟩
theorem VX:∃F',(∀call,dW E N call G r3 F H=M (F',H))/\get F' 4=get F 0:=⟨_,λcall=>by simp[r3];rfl,f?⟩
end
structure Kg(E:Env)(g:FuncId)(cb:List V)(H:bl)(id off L:Nat)(rs:List (List V))(A:Nat->V)(t:Nat->Bool):Prop where
 row:H[id]?=some (.row 1 rs)
 len:off+L<=rs.length
 small:L<=2147483648
 at_:∀i,i<L->rs[off+i]?=some [A i]
 one:∀i,i<L->(A i).one=true
 keep:E.keep g=false
 cmp:∃n,∀k,n<=k->∀i,i+1<L->∀cur,cu (run E k) g (A (i+1)::A i::cb) (H.set id (.row 1 cur))=some (.bool (t (i+1)))
structure Head(g:FuncId)(cb:List V)(id off L kk m:Nat)(rs:List (List V))(A:Nat->V)(t:Nat->Bool)(F:Frame)(cur:List (List V)):Prop where
 f0:get F 0=.hsl id 1 off L
 f1:get F 1=.clo g [] cb
 f5:get F 5=.int .i64 ((kept t (kk+m)).length:Nat)
 f6:get F 6=.hsl id 1 (off+kk) (L-kk)
 f7:get F 7=.int .i64 m
 len:cur.length=rs.length
 pre:∀p i,(kept t (kk+m))[p]?=some i->cur[off+p]?=some [A i]
 post:∀i,kk+m<=i+1->i<L->cur[off+i]?=some [A i]
 out:∀j,j<off\/off+L<=j->cur[j]?=rs[j]?
 cell:∀i,i<L->∃j,j<L/\cur[off+i]?=some [A j]
section
variable{E:Env}{N:Nat->Y'}{g:Y'}{cb:So}{H:bl}{id off L kk:Nat}{rs:S'}{A:Nat->V}{t:Nat->X'}
theorem acd(X:Kg E g cb H id off L rs A t)(x:0<kk)(ah:kk<L)(y:t kk=O):∀(d m:Nat)(F:WP)(B:S'),kk+m+d=L->0<m->Head g cb id off L kk m rs A t F B->
 ∃F' D,tI E N L13 F (H.set id (.row 1 B)) (.exit 2) F' (H.set id (.row 1 D))/\Head g cb id off L kk (L-kk) rs A t F' D:=by
 have c__:=(ζe.1 X.row).1;have b__:∀B,(H.set id (.row 1 B))[id]?=M (.row 1 B):=λB=>J? c__
 have ai:=X.small;have af:=X.len;intro d
 induction d with
 |zero=>
  intro m F B a__ P h;have R:m=L-kk:=c?
  subst R;obtain⟨F1,e1,e2,e3⟩:=x9 h.f6 h.f7;refine⟨F1,B,tI.stop (Ex.BA (Ex.seq (Ex.eN e1) (Ex.xy (by simp[gp,e2]) Ex.exit)) f?) f?,?_⟩
  exact⟨by rw[e3 0 c?];exact h.f0,by rw[e3 1 c?];exact h.f1,by rw[e3 5 c?];exact h.f5,by rw[e3 6 c?];exact h.f6,by rw[e3 7 c?];exact h.f7,h.len,h.pre,h.post,h.out,h.cell⟩
 |succ d ih=>
  intro m F B a__ P h;obtain⟨F1,a1,a2,a3⟩:=x9 h.f6 h.f7;have T:gp N F1 35=.bool O:=by show get F1 35=_;rw[a2,_a c?]
  obtain⟨m',rfl⟩:∃m',m=m'+1:=⟨m-1,c?⟩
  obtain⟨n0,ab⟩:=X.cmp;have q:B[off+kk+(m'+1)]?=M [A (kk+m'+1)]:=by have:=h.post (kk+m'+1) c? c?;grind
  have c2:B[off+kk+m']?=M [A (kk+m')]:=by have:=h.post (kk+m') c? c?;grind
  obtain⟨F2,b1,b,b3⟩:=(aaj (L2:=L-kk) (b__ B) c? c? q c2 X.keep (by rw[a3 1 c?];exact h.f1)).2 (by rw[a3 6 c?];exact h.f6) (by rw[a3 7 c?];exact h.f7)
  have d__:∃n,∀k,n<=k->dW E N (run E k) (M (H.set id (.row 1 B)).length) KD F1 (H.set id (.row 1 B))=M (F2,H.set id (.row 1 B)):=⟨n0,λk hk=>b1 _ (ab k hk (kk+m') c? B)⟩
  have w:=λs r=>(b3 s r).trans (a3 s r)
  have ad:(kept t (kk+(m'+1))).length+1<=kk+(m'+1):=CM x y _ c?
  have u:kept t (kk+(m'+1)+1)=kept t (kk+(m'+1))++if t (kk+m'+1)then[]else[kk+m'+1]:=by rw[Ae];grind
  have z:kk+(m'+1+1)=kk+(m'+1)+1:=c?
  cases W:t (kk+m'+1)with
  |true=>
   rw[W]at b u;simp at u;obtain⟨v,Y,c,Q⟩:=(Ql (p:=m'+1) c?).2.1 (by rw[w 7 c?];exact h.f7)
   obtain⟨F',D,i1,i2⟩:=ih (m'+1+1) v B c? c? ⟨by rw[Q 0 c? c?,w 0 c?];exact h.f0,by rw[Q 1 c? c?,w 1 c?];exact h.f1,
    by rw[Q 5 c? c?,w 5 c?,z,u];exact h.f5,by rw[Q 6 c? c?,w 6 c?];exact h.f6,c,h.len,by rw[z,u];exact h.pre,λi a Z=>h.post i c? Z,h.out,h.cell⟩
   exact⟨F',D,tI.step (Ex.seq (Ex.seq (Ex.eN a1) (Ex.uj T Ex.skip)) (Ex.seq (Ex.block (Ex.seq (Ex.Pa (by decide) d__) (Ex.xy (by simp[gp,b]) Ex.skip))) (Ex.eN Y))) i1,i2⟩
  |false=>
   rw[W]at b u;generalize f:(kept t (kk+(m'+1))).length=K at *;obtain⟨_,_,hz⟩:=h.cell K c?
   obtain⟨v,Y,c⟩:=x11 (b__ B) (by rw[w 0 c?];exact h.f0) (by rw[w 5 c?,h.f5,f]) (by rw[w 6 c?];exact h.f6) (by rw[w 7 c?];exact h.f7) c? c? q hz (X.one _ c?)
   rw[set_set]at Y;generalize I:B.set (off+K) [A (kk+m'+1)]=J at Y;have l:∀j,J[j]?=if j=off+K then M [A (kk+m'+1)]else B[j]?:=λj=>by rw[<-I,List.getElem?_set];by_cases e:off+K=j;rw[J0 e,J0 e.symm,J0 (by rw[h.len];omega)];rw[K' e,K' (Ne.symm e)]
   obtain⟨F4,Q,q4,q5⟩:=(Ql (p:=K) c?).1 (by rw[c 5 c?,w 5 c?,h.f5,f])
   have C:∀s,s<8->s≠5->get F4 s=get F s:=λs a Z=>by rw[q5 s a Z,c s a,w s a]
   obtain⟨F5,q6,q7,o⟩:=(Ql (p:=m'+1) c?).2.1 (by rw[C 7 c? c?];exact h.f7)
   obtain⟨F',D,i1,i2⟩:=ih (m'+1+1) F5 J c? c? ⟨by rw[o 0 c? c?,C 0 c? c?];exact h.f0,by rw[o 1 c? c?,C 1 c? c?];exact h.f1,
    by rw[o 5 c? c?,q4,z,u,ζi,f];rfl,by rw[o 6 c? c?,C 6 c? c?];exact h.f6,q7,by rw[<-I,List.length_set];exact h.len,
    λp i S=>by rw[z,u]at S;rw[l];by_cases e:p=K;subst e;rw[<-f,G? (z? _),Nat.sub_self]at S;cases S;rw[J0 rfl];have ae:p<(kept t (kk+(m'+1))).length:=(by have:=(ζe.1 S).1;simp at this;omega);rw[u? ae]at S;rw[K' c?];exact h.pre p i S,
    λi a Z=>by rw[l,K' c?];exact h.post i c? Z,λj hj=>by rw[l,K' c?];exact h.out j hj,
    λi hi=>by rw[l];by_cases e:off+i=off+K;rw[J0 e];exact⟨_,c?,rfl⟩;rw[K' e];exact h.cell i hi⟩
   exact⟨F',D,tI.step (Ex.seq (Ex.seq (Ex.eN a1) (Ex.uj T Ex.skip)) (Ex.seq (Ex.block (Ex.seq (Ex.Pa (by decide) d__) (Ex.uj (by simp[gp,b]) (Ex.seq (Ex.eN Y) (Ex.eN Q))))) (Ex.eN q6))) i1,i2⟩
structure Uf(off L:Nat)(rs:List (List V))(A:Nat->V)(t:Nat->Bool)(rs':List (List V)):Prop where
 len:rs'.length=rs.length
 pre:∀p i,(kept t L)[p]?=some i->rs'[off+p]?=some [A i]
 all:∀c∈rs',c∈rs\/c=[.bG]
theorem acD(X:Kg E g cb H id off L rs A t):∀(d k:Nat)(F:WP),k+d=L->0<k->(∀i,0<i->i<k->t i=U)->get F 0=.hsl id 1 off L->get F 1=.clo g [] cb->get F 5=.int _o k->
 (∃F',tI E N XC F H (.exit 0) F' H/\get F' 0=.hsl id 1 off L/\∀i,0<i->i<L->t i=U)\/
 (∃F' D,tI E N XC F H .ret F' (H.set id (.row 1 D))/\get F' 4=.hsl id 1 off (kept t L).length/\Uf off L rs A t D):=by
 have Q:=(ζe.1 X.row).1;have S:=uc X.row;have ah:=X.small;have af:=X.len;intro d
 induction d with
 |zero=>
  intro k F he r hp b v e;have ek:k=L:=c?
  subst ek;obtain⟨F1,e1,e2,e3⟩:=x5 (N:=N) b e;exact .inl ⟨F1,tI.stop (Ex.BA (Ex.seq (Ex.eN e1) (Ex.xy (by simp[gp,e2]) Ex.exit)) f?) f?,g?,hp⟩
 |succ d ih=>
  intro k F he r hp b v e;obtain⟨F1,a1,a2,a3⟩:=x5 b e;have d__:gp N F1 15=.bool O:=by show get F1 15=_;rw[a2,_a c?]
  obtain⟨u,rfl⟩:∃u,k=u+1:=⟨k-1,c?⟩
  obtain⟨n0,ai⟩:=X.cmp;obtain⟨y,b1,f,b3⟩:=(aaj (N:=N) (cb:=cb) (g:=g) (i:=u) (L2:=L) (t:=t (u+1)) X.row c? c? (X.at_ _ c?) (X.at_ _ c?) X.keep (by rw[a3 1 c?];omega)).1 g? g?
  have W:∃n,∀k,n<=k->dW E N (run E k) (M H.length) r6 F1 H=M (y,H):=⟨n0,λk r=>b1 _ (by
   grind)⟩
  have Y:=λs a__=>(b3 s a__).trans (a3 s a__)
  cases w:t (u+1)with
  |false=>
   rw[w]at f;obtain⟨T,l,m,h⟩:=(Ql (E:=E) (F:=y) (p:=u+1) c?).2.2 g?
   have z:Ex E N XC F H .norm T H:=Ex.seq (Ex.seq (Ex.eN a1) (Ex.uj d__ Ex.skip)) (Ex.seq (Ex.block (Ex.seq (Ex.Pa (by decide) W) (Ex.xy (by simp[gp,f]) Ex.skip))) (Ex.eN l))
   rcases ih (u+1+1) T c? c? (λi P Z=>by
    grind) g? o? m with⟨F',i1,i2⟩|⟨F',D,i1,i2⟩
   .exact .inl ⟨F',tI.step z i1,i2⟩
   exact .inr ⟨F',D,tI.step z i1,i2⟩
  |true=>
   rw[w]at f;refine .inr ?_;obtain⟨T,l,m,h⟩:=x7 (E:=E) (N:=N) (H:=H) (k:=u+1) (by rw[Y 0 c?];exact b) (by rw[Y 5 c?];exact e) c?
   have b__:kept t (u+1)=B! (u+1):=Fy _ hp;have R:kept t (u+1+1)=B! (u+1):=by rw[Ae,b__,w];simp
   have q4:∀call,dW E N call G r8 T H=M (set T 7 (.int _o 1),H):=λcall=>vp rfl (by simp[kW,gp,bV]) ym
   have h0:Head g cb id off L (u+1) 1 rs A t (set T 7 (.int _o 1)) rs:=⟨by rw[kG _ _ c?,h 0 c? c?,Y 0 c?];exact b,by rw[kG _ _ c?,h 1 c? c?,Y 1 c?];exact v,
    by rw[kG _ _ c?,h 5 c? c?,Y 5 c?,R,m4];exact e,by rw[kG _ _ c?];exact m,by rw[vW];rfl,rfl,
    λp i B=>by rw[R]at B;obtain⟨P,Z⟩:=ζe.1 B;simp at P Z;subst Z;exact X.at_ p c?,λi _ Z=>X.at_ i Z,λ_ _=>rfl,λi hi=>⟨i,hi,X.at_ i hi⟩⟩
   obtain⟨F5,C,V,I⟩:=acd (N:=N) X c? c? w (L-(u+1)-1) 1 _ rs c? c? h0
   rw[S]at V;have eL:u+1+(L-(u+1))=L:=c?
   have ae:=CM (t:=t) (k:=u+1) c? w L c?
   have o:=I.f5;have J:=I.pre;rw[eL]at o J;generalize hK:(kept t L).length=K at *;have ab:(H.set id (.row 1 C))[id]?=M (.row 1 C):=J? Q;obtain⟨F6,w1,w2⟩:=x14 (E:=E) (N:=N) (p:=K) ab I.f0 o c? (by rw[I.len];omega)
   rw[set_set]at w1;obtain⟨F7,w3,w4⟩:=x15 (E:=E) (by rw[w2 0 c?];exact I.f0) (by rw[w2 5 c?];exact o) c?
   have aj:=I.len;refine⟨F7,C.take (off+K)++w? (L-K) [.bG]++C.drop (off+L),tI.stop (Ex.seq (Ex.seq (Ex.eN a1) (Ex.uj d__ Ex.skip)) (Ex.BA (Ex.RJ (Ex.seq (Ex.Pa (by decide) W) (Ex.uj (by simp[gp,f]) (Ex.seq (Ex.eN l) (Ex.seq (Ex.seq (Ex.eN q4) (Ex.GM (Ex.loop V))) (Ex.seq (Ex.eN w1) (Ex.seq (Ex.eN w3) Ex.ret))))))) f?)) f?,w4,?_,λp i B=>?_,λc a=>?_⟩
   .simp;omega
   .have ak:p<K:=by rw[<-hK];exact(ζe.1 B).1
    rw[d9,u? (by simp;omega),I?,J0 c?]
    exact J p i B
   have ad:∀j x,C[j]?=M x->x∈rs:=λj x c__=>by by_cases ho:j<off\/off+L<=j;rw[I.out j ho]at c__;exact s? c__;obtain⟨i,rfl⟩:∃i,j=off+i:=⟨j-off,c?⟩;obtain⟨q,hq,a⟩:=I.cell i c?;rw[a]at c__;cases c__;exact s? (X.at_ q hq)
   rcases mem_append.1 a with a|a
   .rcases mem_append.1 a with a|a
    .obtain⟨j,c__⟩:=G! (List.mem_of_mem_take a);exact .inl (ad j c c__)
    exact .inr (List.eq_of_mem_replicate a)
   obtain⟨j,c__⟩:=G! (List.mem_of_mem_drop a);exact .inl (ad j c c__)
end
end cmpX
def Ch(E:Env)(g:Y')(cb:So)(a b:V):aY X':=match Ft E g cb a b with|some (.bool c)=>M c|_=>G
theorem abp{E:Env}{g:Y'}{cb:So}{a b:V}{c:X'}(h:Ch E g cb a b=M c):∃n,∀k,n<=k->cu (run E k) g (a::b::cb) []=M (.bool c):=by
 unfold Ch at h;split at h;next c' d=>cases h;exact HL d
 cases h
def n_(xs:S')(i:Nat):V:=kE ((xs[i]?).getD [])
def AW(E:Env)(es:Nat)(xs:S'):So->aY S'
 |[.clo g [] cb]=>if xs.isEmpty then M []else if xd es xs&& !E.keep g then
  if(B! (W xs)).all λi=>i==0||(Ch E g cb (n_ xs i) (n_ xs (i-1))).isSome then
   M ((kept (λi=>(Ch E g cb (n_ xs i) (n_ xs (i-1))).getD U) (W xs)).map λi=>(xs[i]?).getD [])
  else G
  else G
 |_=>G
def vS(E:Env):JA:=⟨O,AW E⟩
namespace cmpX
section
variable{E:Env}{N:Nat->Y'}{g:Y'}{cb:So}{H:bl}{id off L:Nat}{rs:S'}{A:Nat->V}{t:Nat->X'}
theorem whole(X:Kg E g cb H id off L rs A t):∃F' B,Ex E N code [.hsl id 1 off L,.clo g [] cb] H .ret F' (H.set id (.row 1 B))/\get F' 4=.hsl id 1 off (W (kept t L))/\Uf off L rs A t B:=by
 have u:H.set id (.row 1 rs)=H:=uc X.row;have same:(∀i,0<i->i<L->t i=U)->W (kept t L)=L/\Uf off L rs A t rs:=λh=>by have d:=Fy L h;rw[d,m4];exact⟨Y,Y,λp i Q=>by rw[d]at Q;have⟨a,w⟩:=ζe.1 Q;simp at a w;subst w;exact X.at_ p a,λc b=>.inl b⟩
 have g1:∀call,dW E N call G r1 [.hsl id 1 off L,.clo g [] cb] H=M (set [.hsl id 1 off L,.clo g [] cb] 4 .bG,H):=λcall=>vp (v:=.bG) Y (by simp[kW,gp,bV]) ym;have k0:get (set [V.hsl id 1 off L,.clo g [] cb] 4 .bG) 0=.hsl id 1 off L:=rfl;have k1:get (set [V.hsl id 1 off L,.clo g [] cb] 4 .bG) 1=.clo g [] cb:=rfl;generalize set [V.hsl id 1 off L,.clo g [] cb] 4 .bG=T at *;have⟨F1,a1,S,z⟩:=x2 (E:=E) (N:=N) (H:=H) k0;by_cases y:L<2;have⟨C,D,j⟩:=VX (E:=E) (N:=N) (F:=F1) (H:=H);have⟨e1,e2⟩:=same λi a w=>by omega
 refine⟨C,rs,?_,by rw[e1,j,z 0 c?];exact k0,e2⟩;rw[u];exact Ex.seq (Ex.eN g1) (Ex.BA (Ex.seq (Ex.eN a1) (Ex.uj (by show get F1 10=_;rw[S,_a c?]) (Ex.seq (Ex.eN D) Ex.ret))) f?);have g4:∀call,dW E N call G r4 F1 H=M (set F1 5 (.int _o 1),H):=λcall=>vp (v:=.int _o 1) Y (by simp[kW,gp,bV]) ym;have b:Ex E N (.seq (.ops r2) (.cond (.s 10) (.seq (.ops r3) (.ret)) (.skip))) T H .norm F1 H:=Ex.seq (Ex.eN a1) (Ex.xy (by show get F1 10=_;rw[S,N' c?]) Ex.skip);rcases acD (N:=N) X (L-1) 1 (set F1 5 (.int _o 1)) c? c? (λi a w=>c?) (by rw[kG _ _ c?,z 0 c?];exact k0) (by rw[kG _ _ c?,z 1 c?];exact k1) (by rw[vW];rfl)with⟨F',I,J,q⟩|⟨F',B,I,J,q⟩;have⟨C,D,j⟩:=xmv (E:=E) (N:=N) (F:=F') (H:=H);have⟨e1,e2⟩:=same q;refine⟨C,rs,?_,by rw[e1,j];exact J,e2⟩;rw[u];exact Ex.seq (Ex.eN g1) (Ex.seq b (Ex.seq (Ex.seq (Ex.eN g4) (Ex.GM (Ex.loop I))) (Ex.seq (Ex.eN D) Ex.ret)));exact⟨F',B,Ex.seq (Ex.eN g1) (Ex.seq b (Ex.BA (Ex.seq (Ex.eN g4) (Ex.RJ (Ex.loop I))) f?)),J,q⟩
theorem empty{w:V}(c:V)(B:w=.bG\/w=.dN):∃F',Ex E N code [w,c] H .ret F' H/\get F' 4=w:=by
 have g1:∀call,dW E N call G r1 [w,c] H=M (set [w,c] 4 .bG,H):=λcall=>vp (v:=.bG) Y (by simp[kW,gp,bV]) ym;have k0:get (set [w,c] 4 .bG) 0=w:=rfl;generalize set [w,c] 4 .bG=u at *;have z:qq w=M (.int _o 0):=by rcases B with rfl|rfl<;>rfl
 have a1:∃F1,(∀call,dW E N call G r2 u H=M (F1,H))/\get F1 10=.bool O/\get F1 0=w:=by refine⟨_,λcall=>vp (v:=w) Y ?_<|vp (v:=.int _o 0) Y ?_<|vp (v:=.bool O) Y ?_ ym,?_,?_⟩;simp[kW,gp,bV,k0];simp[kW,gp,bV,mY,z];simp[kW,gp,bV,mY,oJ,uQ];simp[mY];simp[mY,k0]
 have⟨F1,a1,C,D⟩:=a1;have⟨d,I,J⟩:=VX (E:=E) (N:=N) (F:=F1) (H:=H);exact⟨d,Ex.seq (Ex.eN g1) (Ex.BA (Ex.seq (Ex.eN a1) (Ex.uj C (Ex.seq (Ex.eN I) Ex.ret))) f?),by rw[J,D]⟩
end
end cmpX
theorem UM {E:Env} {f:FuncId} {nm:FuncId->aY Nat} {N:Nat->FuncId} (hN:∀f s,nm f=some s->N s=f) (hk:E.keep f=true) (ho:E.own f=false)
 (hf:∃fi,E.ft f=some fi/\bT ⟨E,nm,fi.ntmps⟩ false fi.body=some cmpX.code/\2<=fi.ntmps/\fi.results=[.tmp 4]):pJ E f (vS E):=by
 obtain⟨fi,h1,h2,h3,h4⟩:=hf;have D:∀{w c:V} {H H':bl} {F':Frame} {r:V},Ex E N cmpX.code [w,c] H .ret F' H'->get F' 4=r->∃n,∀k,n<=k->run E k (.fn f) [w,c] H=some (r,H'):=λ{w c H H' F' r} hx hr=>by
  obtain⟨n,q⟩:=Ex.run hN h1 h2 (args:=[w,c]) (by simpa using h3) hx (vs:=[r]) (by rw[h4];simp[jt,hr])
  exact⟨n,λk hk=>(qT E hk).go _ _ _ _ q⟩
 refine⟨hk,ho,?_,?_,?_⟩
 .intro es z vs ys h;simp only[vS,AW]at h;refine⟨?_,λe=>by simp[vS]at e⟩
  split at h
  .split at h
   .cases h;simp
   split at h
   .split at h
    .cases h;simpa using DP _ _
    cases h
   cases h
  cases h
 .intro es vs ys h H Z ws w hw he;simp only[vS,AW]at h;split at h
  .obtain⟨w2,r,rfl,q1,q2⟩:=hw.inv;rw[q2.dm];obtain⟨F',e1,e2⟩:=cmpX.empty (E:=E) (N:=N) (H:=H) w2 he;obtain⟨n,q⟩:=D e1 e2;exact⟨n,[],λk hk=>by rw[List.append_nil];exact q k hk⟩
  cases h
 intro es z vs ys h H Z ws id off rs hw S T ae J hz;simp only[vS,AW]at h;split at h
 .rename_i g cb;obtain⟨w2,r,rfl,q1,q2⟩:=hw.inv;rw[q2.dm];obtain⟨a',B,rfl,ha,af⟩:∃a' B,w2=.clo g a' B/\dJ H Z [] a'/\dJ H Z cb B:=q1.l_;rw[ha.dm]at *;split at h
  .rename_i he;cases h;have:z=[]:=by simpa using he
   subst this;have e2:∃F',Ex E N cmpX.code [.hsl id es off 0,.clo g [] B] H .ret F' H/\get F' 4=.hsl id es off 0:=by
    have g1:∀call,dW E N call none cmpX.r1 [.hsl id es off 0,.clo g [] B] H=some (set [.hsl id es off 0,.clo g [] B] 4 .bG,H):=λcall=>vp (v:=.bG) rfl (by simp[kW,gp,bV]) ym
    have k0:get (set [V.hsl id es off 0,.clo g [] B] 4 .bG) 0=.hsl id es off 0:=rfl;generalize set [V.hsl id es off 0,.clo g [] B] 4 .bG=F0 at *;have a1:∃F1,(∀call,dW E N call none cmpX.r2 F0 H=some (F1,H))/\get F1 10=.bool true/\get F1 0=.hsl id es off 0:=by
     refine⟨_,λcall=>vp (v:=.hsl id es off 0) rfl ?_ <| vp (v:=.int .i64 0) rfl ?_ <| vp (v:=.bool true) rfl ?_ ym,?_,?_⟩
     .simp[kW,gp,bV,k0]
     .simp[kW,gp,bV,mY,qq]
     .simp[kW,gp,bV,mY,oJ,uQ]
     .simp[mY]
     simp[mY,k0]
    obtain⟨F1,a1,a2,a3⟩:=a1;obtain⟨F2,b1,b2⟩:=cmpX.VX (E:=E) (N:=N) (F:=F1) (H:=H);exact⟨F2,Ex.seq (Ex.eN g1) (Ex.BA (Ex.seq (Ex.eN a1) (Ex.uj a2 (Ex.seq (Ex.eN b1) Ex.ret))) f?),by rw[b2,a3]⟩
   obtain⟨F',e1,e3⟩:=e2;obtain⟨n,q⟩:=D e1 e3;refine⟨n,rs,[],λk hk=>?_,rfl,⟨rfl,λj u v hu=>by simp at hu⟩,J⟩
   rw[List.append_nil,uc S];exact q k hk
  rename_i al;split at h
  .rename_i L;simp only[ζh,Bool.not_eq_true']at L;obtain⟨c1,c3⟩:=L;obtain⟨rfl,b__,W⟩:=BX c1;split at h
   .rename_i Y;cases h;have a__:∀i,i<z.length->∃a,rs[off+i]? = some [a]/\FR H Z (n_ z i) a/\a.one=true:=λi hi=>by
     obtain⟨e,p2⟩:=W i z[i] (ζd hi);have Q:off+i<rs.length:=by omega
     have:=ae.2 i z[i] rs[off+i] (ζd hi) (by rw[List.getElem?_take,J0 hi,List.getElem?_drop,ζd Q])
     rw[e]at this;obtain⟨y,ys,e2,r1,r2⟩:=this.inv;rw[r2.dm]at e2;have e3:n_ z i=kE z[i]:=by unfold n_;rw[ζd hi];rfl
     exact⟨y,by rw[ζd Q,e2],by rw[e3];exact r1,by rw[r1.one];exact p2⟩
    let A:Nat->V:=λi=>match rs[off+i]? with|some (a::_)=>a|_=>.undef
    have hA:∀i,i<z.length->rs[off+i]? = some [A i]/\FR H Z (n_ z i) (A i)/\(A i).one=true:=λi hi=>by
     obtain⟨a,p1,p2,p4⟩:=a__ i hi;have:A i=a:=by show (match rs[off+i]? with|some (a::_)=>a|_=>V.undef)=a;rw[p1]
     rw[this];exact⟨p1,p2,p4⟩
    have aa:∀i,i+1<z.length->∃b,Ch E g cb (n_ z (i+1)) (n_ z i)=some b:=λi hi=>by
     have:=List.all_eq_true.1 Y (i+1) (List.mem_range.2 hi);simp only[Nat.add_sub_cancel,Bool.or_eq_true]at this;rcases this with h|h
     .simp at h
     exact Option.isSome_iff_exists.1 h
    have X:cmpX.Kg E g B H id off z.length rs A (λi=>(Ch E g cb (n_ z i) (n_ z (i-1))).getD false):=by
     refine⟨S,T,b__,λi hi=>(hA i hi).1,λi hi=>(hA i hi).2.2,c3,?_⟩
     obtain⟨d,hM⟩:=Hx (n:=z.length-1) (p:=λi k=>cu (run E k) g (n_ z (i.1+1)::n_ z i.1::cb) []=some (.bool ((Ch E g cb (n_ z (i.1+1)) (n_ z i.1)).getD false))) (λi=>by
      obtain⟨b,Q⟩:=aa i.1 (by have:=i.2;omega)
      obtain⟨n,q⟩:=abp Q;exact⟨n,λk hk=>by rw[q k hk,Q];rfl⟩)
     obtain⟨L1,ah⟩:=oe ((List.range z.length).map (n_ z));obtain⟨L2,ai⟩:=oe cb;have ab:∀i k,i<z.length->L1<=k->(n_ z i).lvl k=true:=λi k hi hk=>A7 hk (ox.1 ah i _ (by simp[hi]))
     refine⟨max d (max L1 L2),λk hk i hi ad=>?_⟩
     have C:∀j,Z j->Z j/\bn (H.set id (.row 1 ad)) j=bn H j:=λj hj=>⟨hj,by
      unfold bn;rw[List.getElem?_set_ne];rintro rfl;exact hz hj⟩
     have hl:dJ (H.set id (.row 1 ad)) Z (n_ z (i+1)::n_ z i::cb) (A (i+1)::A i::B):=.cons ((hA _ hi).2.1.mono C) (.cons ((hA i c?).2.1.mono C) (af.mono C))
     have Q:=hl.N6 (k:=k) (by simp only[V.nv,ab _ k hi c?,ab i k c? c?,qY (by omega:L2<=k) ai,Bool.and_self])
     rw[aa2 (by rw[qg];exact Q) (λx hx=>?_)]
     .exact hM ⟨i,by omega⟩ k c?
     obtain⟨j,hj⟩:=List.getElem?_of_mem hx;obtain⟨y,hy,hr⟩:=hl.get hj;exact V.n9 hr.good
    obtain⟨F',aj,e1,e2,e3⟩:=cmpX.whole (N:=N) X;obtain⟨n,q⟩:=D e1 e2;refine⟨n,aj,[],λk hk=>?_,e3.len,?_,?_⟩
    .simp only[vS,L',List.length_map,List.append_nil];exact q k hk
    .refine⟨by simp[e3.len];have:=DP (λi=>(Ch E g cb (n_ z i) (n_ z (i-1))).getD false) z.length;omega,λp a b hp hq=>?_⟩
     rw[List.getElem?_map]at hp;obtain⟨i,hi,rfl⟩:=ζf.1 hp;have I:=Oc (List.mem_of_getElem? hi);have ak:=(ζe.1 hi).1;rw[List.getElem?_take,J0 (by simpa using ak),List.getElem?_drop,e3.pre p i hi]at hq
     cases hq;rw[ζd I,Option.getD_some];have e4:=(W i z[i] (ζd I)).1;have e5:n_ z i=kE z[i]:=by unfold n_;rw[ζd I];rfl
     rw[e4,<-e5];exact .cons (hA i I).2.1 .nil
    intro c hc u hu;rcases e3.all c hc with h|rfl
    .exact J c h u hu
    simp at hu;subst hu;exact⟨.bG,.same _ rfl⟩
   cases h
  cases h
 cases h
def Sl.re{α:Type}(s:Sl α)(l:aX α):Sl α:=match s with|.nil=>.nil|.emp=>.emp|.row _=>.row l|.part _=>.part l
def Sl.vN{α:Type}(s:Sl α)(l:aX α):Sl α:=match s with|.nil=>.nil|.emp=>.emp|.row _|.part _=>.part l
def BH{α:Type}(s:Sl α)(p:α->α->Ps):aY (Sl α):=
 match s.l with
 |[]=>M s|x::l=>if W l<2147483648 then
  let t:_root_.Fin (W l+1)->_root_.Fin (W l+1)->Ps:=λi j=>p (x::l)[i.1] (x::l)[j.1]
  if DB t then M (s.re ((tu (W l) (rG t)).toList.map λi=>(x::l)[i.1]))else G
  else G
def vX{α:Type}(l:aX α)(p:α->α->aY X')(i:Nat):aY X':=match l[i]?,l[i-1]?with|some a,M b=>p a b|_,_=>G
def Ax{α:Type}(s:Sl α)(p:α->α->aY X'):aY (Sl α):=
 if W s.l<=2147483648/\((B! (W s.l)).all λi=>i==0||(vX s.l p i).isSome)=O then
  M (s.vN ((kept (λi=>(vX s.l p i).getD U) (W s.l)).filterMap (s.l[·]?)))
 else G
section
variable{S:Sys}{T:rW}{β γ δ α:Type}{Q:Out×St->aY β}{e:γ->aY β}{cf:Cf}
theorem iG.Sw(B:ud S T)(D:∀f a b xs,S.items f a b=M xs->fF S f a b xs){fn:Y'}{A:δ->So}{E:α->So}{p:δ->aY α}{sc:X'}(F:iG S (dB S T) fn A E p sc){z:δ}{r:α}(h:p z=M r)(d:V.cN (A z)=O):
 ∃n,cu (run S.E n) fn (A z) []=M (result (E r)):=by
 have e:=F.h z (E r) o?
 have⟨⟨rs,m'⟩,u,w⟩:=ζg.1 e;have⟨n,y,H2,e1,e2,e3⟩:=EP (Ar B D) d u w;refine⟨n,?_⟩;have C:borrows n [] (A z)=M (A z):=by have c:=V.qc d;generalize A z=l at c;unfold borrows;induction l with|nil=>rfl|cons x l j=>simp[V.ji]at c;simp[jw,fh n [] c.1,j c.2]
 unfold cu;rw[qg,C];simp[e1 n (z? _),e2 n (z? _),V.n9 e3]
section
variable[bB α]
theorem Ge (h1:bB.size α=1) {l:aX α} (B:l.length<=2147483648):xd (bB.size α) (rows l)=true:=by
 unfold xd;simp;refine⟨⟨h1,λx u=>?_⟩,by simpa [rows]using B⟩
 obtain⟨a,_,rfl⟩:=List.mem_map.1 u;exact⟨by rw[gI,h1],List.all_eq_true.1 (bB.one a)⟩
theorem Jk(b:bB.agg α=U)(a:α):kE (cells a)=enc a:=by unfold enc;rw[K' g?];rfl
theorem ES(l:aX α)(i:Nat)(h:i<W l):(rows l)[i]?=M (cells l[i]):=by unfold rows;grind
theorem Yo(a__:ud S T)(W:∀f a b xs,S.items f a b=M xs->fF S f a b xs){g:Y'}{p:α->α->Ps}(F:iG S (dB S T) g (λz:α×α=>[enc z.1,enc z.2]) (λr:Int=>[.int _o r]) (λz=>p z.1 z.2) O)
 (c:bB.size α=1)(Y:bB.agg α=U){s D:Sl α}(h:BH s p=M D):Ct S.E (bB.size α) (rows s.l) [.clo g [] []]=M (rows D.l)/\D.k=s.k:=by
 unfold BH at h;split at h
 next B=>cases h;rw[B];exact⟨_i,_i⟩
 rename_i x l B;split at h
 .dsimp only at h;split at h
  .rename_i I;cases h;rw[B];have⟨u,J⟩:=s6 I;have C:=Ge c (l:=x::l) g?
   have key:∀m,m=_j l->(if DB (λi j:_root_.Fin (m+1)=>vt S.E g [] (kE (((rows (x::l))[i.1]?).getD [])) (kE (((rows (x::l))[j.1]?).getD [])))then
    M ((tu m (rG (λi j:_root_.Fin (m+1)=>vt S.E g [] (kE (((rows (x::l))[i.1]?).getD [])) (kE (((rows (x::l))[j.1]?).getD []))))).toList.map λi=>((rows (x::l))[i.1]?).getD [])else G)=
    M (rows ((tu (_j l) (rG λi j:_root_.Fin (_j l+1)=>p (x::l)[i.1] (x::l)[j.1])).toList.map λi=>(x::l)[i.1])):=by
    rintro m rfl;have e1:∀i:_root_.Fin (_j l+1),kE (((rows (x::l))[i.1]?).getD [])=enc (x::l)[i.1]:=λi=>by rw[ES (x::l) i.1 i.2,O!,Jk Y]
    have e2:(λi j:_root_.Fin (_j l+1)=>vt S.E g [] (kE (((rows (x::l))[i.1]?).getD [])) (kE (((rows (x::l))[j.1]?).getD [])))=λi j=>p (x::l)[i.1] (x::l)[j.1]:=by funext i j;have⟨z,L⟩:=u i j;rw[e1 i,e1 j,L];have⟨n,y⟩:=F.Sw a__ W (z:=((x::l)[i.1],(x::l)[j.1])) L (by simp[V.cN,iB]);unfold vt;rw[Oh y];rfl
    rw[e2,J0 I]
    congr 1
    unfold rows;rw[List.map_map];refine List.map_congr_left λi _=>?_
    grind
   have w:(s.re ((tu (_j l) (rG λi j:_root_.Fin (_j l+1)=>p (x::l)[i.1] (x::l)[j.1])).toList.map λi=>(x::l)[i.1])).l=(tu (_j l) (rG λi j:_root_.Fin (_j l+1)=>p (x::l)[i.1] (x::l)[j.1])).toList.map (λi=>(x::l)[i.1])/\(s.re ((tu (_j l) (rG λi j:_root_.Fin (_j l+1)=>p (x::l)[i.1] (x::l)[j.1])).toList.map λi=>(x::l)[i.1])).k=s.k:=by cases s<;>simp[Sl.l]at B<;>exact⟨_i,_i⟩
   refine⟨?_,w.2⟩;rw[w.1,<-key (_j (rows l)) (gR l)];have d:(xd (bB.size α) (rows (x::l))&& !S.E.keep g)=O:=by rw[C,F.k];rfl
   have q:=d;exact(J0 q).trans _i
  simp_all
 simp_all
theorem Yt (W:ud S T) (Y:∀f a b xs,S.items f a b=some xs->fF S f a b xs) {g:FuncId} {p:α->α->aY Bool} (F:iG S (dB S T) g (λz:α×α=>[enc z.1,enc z.2]) (λr:Bool=>[.bool r]) (λz=>p z.1 z.2) true)
 (h1:bB.size α=1) (ha:bB.agg α=false) {s D:Sl α} (h:Ax s p=some D):AW S.E (bB.size α) (rows s.l) [.clo g [] []]=some (rows D.l)/\D=s.vN D.l:=by
 have Q:∀l:aX α,(s.vN l)=s.vN (s.vN l).l:=λl=>by cases s <;> rfl
 refine⟨?_,by
  unfold Ax at h;grind⟩
 unfold Ax at h;split at h
 .rename_i hc;cases h;obtain⟨X,u⟩:=hc;have I:=Ge  h1 X;simp only[AW]
  by_cases J:s.l=[]
  .have:(s.vN ((kept (λi=>(vX s.l p i).getD false) s.l.length).filterMap (s.l[·]?))).l=[]:=by
    cases s <;> simp[Sl.l]at J <;> simp[Sl.vN,Sl.l,J,kept]
   rw[this,J];rfl
  have L:(rows s.l).isEmpty=false:=by cases hs:s.l with|nil=>grind|cons a l=>rfl
  rw[L,K' f?,I,F.k,J0 (by rfl),gR]
  have e1:∀i,0<i->i<s.l.length->∃b,vX s.l p i=some b/\Ch S.E g [] (n_ (rows s.l) i) (n_ (rows s.l) (i-1))=some b:=λi Z hi=>by
   have:=List.all_eq_true.1 u i (List.mem_range.2 hi);simp  at this;obtain⟨b,C⟩:=Option.isSome_iff_exists.1 (this.resolve_left c?)
   refine⟨b,C,?_⟩;have w:i-1<s.l.length:=by omega
   unfold vX at C;rw[ζd hi,ζd w]at C;have y:∀j (d:j<s.l.length),n_ (rows s.l) j=enc s.l[j]:=λj d=>by
    unfold n_;rw[ES _ _ d,Option.getD_some,Jk ha]
   rw[y i hi,y (i-1) w];obtain⟨n,hn⟩:=F.Sw W Y (z:=(s.l[i],s.l[i-1])) C (by simp only[V.cN,iB,Bool.and_self])
   unfold Ch;rw[Oh hn];rfl
  have e2:((List.range s.l.length).all λi=>i==0||(Ch S.E g [] (n_ (rows s.l) i) (n_ (rows s.l) (i-1))).isSome)=true:=by
   grind
  rw[J0 e2];have e3:kept (λi=>(Ch S.E g [] (n_ (rows s.l) i) (n_ (rows s.l) (i-1))).getD false) s.l.length=kept (λi=>(vX s.l p i).getD false) s.l.length:=by
   refine List.filter_congr λi hi=>?_
   by_cases Z:i=0
   .grind
   obtain⟨b,h3,h4⟩:=e1 i c? (List.mem_range.1 hi)
   simp_all
  rw[e3];have e4:(s.vN ((kept (λi=>(vX s.l p i).getD false) s.l.length).filterMap (s.l[·]?))).l=(kept (λi=>(vX s.l p i).getD false) s.l.length).filterMap (s.l[·]?):=by
   cases s <;> first|rfl|grind
  rw[e4]
  congr 1
  generalize hk:kept (λi=>(vX s.l p i).getD false) s.l.length=q
  have B:∀i∈q,i<s.l.length:=λi hi=>Oc (hk▸hi)
  clear hk e3 e4
  induction q with
  | nil=>rfl
  | cons i q ih=>
   have hi:=B i f?
   rw[List.map_cons,ih λj d=>B j (List.mem_cons_of_mem _ d),ES _ _ hi,List.filterMap_cons,ζd hi]
   rfl
 simp_all
theorem T7{s B:Sl α}{p:α->α->Ps}(h:BH s p=M B)(a:b_ s.k=U):B=s:=by cases s<;>simp[Sl.k,b_]at a<;>simpa[BH,Sl.l]using h.symm
theorem ac4(n d:Nat)(D:ud S T)(J:∀f a b xs,S.items f a b=M xs->fF S f a b xs){fn g:Y'}(hp:S.prm fn=M (vT S.E)){p:α->α->Ps}
 (F:iG S (dB S T) g (λz:α×α=>[enc z.1,enc z.2]) (λr:Int=>[.int _o r]) (λz=>p z.1 z.2) O){s:Sl α}{f:Sl α->aY γ}
 (h:∀B,BH s p=M B->Le ((f B).bind e) (bZ S (dB S T) Q (nx S (dB S T) n cf λq=>c8 {q.st with m:=bE q.st.m d (cG B)} q.d (.v .undef))))
 (i:bB.size α=1:=by rfl)(c__:bB.agg α=U:=by rfl)
 (W:(fS S (dB S T) n cf).map (λq=>(q.k,bW S.N q.st.g q.az,bh q.st.m d,q.dr))=M (.c,M [.v (.clo fn [] []),.own d,.v (.clo g [] [])],M (cG s),U):=by kernel_rfl):Le (((BH s p).bind f).bind e) (bZ S (dB S T) Q cf):=by
 have⟨q,C,c⟩:=eF W;simp at c;have⟨a__,I,L,b__⟩:=c;refine rK C ?_ h;rw[a__,b__];intro y w;have⟨B,u,w⟩:=ζg.1 w;have⟨e1,e2⟩:=Yo D J F i c__ u;have j:=(D.prm fn _ hp).keep;have X:=(D.prm fn _ hp).own;rw[vM U _ _ _ _ _ _ fn [.own d,.v (.clo g [] [])] I rfl];have l:eU S (dB S T) q.d U (!U||q.now) (e_ q.st.m q.fr) fn [.own d,.v (.clo g [] [])] q.st=M (.v .undef,{q.st with m:=bE q.st.m d (cG B)}):=by unfold eU;simp[j,X,hp,EJ,L,cG,dw];have e3:=e1;simp[vT];cases k:b_ s.k with|true=>grind|false=>have:=T7 u k;grind
 grind
theorem acT(n d t:Nat)(D:ud S T)(J:∀f a b xs,S.items f a b=M xs->fF S f a b xs){fn g:Y'}(hp:S.prm fn=M (vS S.E)){p:α->α->aY X'}
 (F:iG S (dB S T) g (λz:α×α=>[enc z.1,enc z.2]) (λr:X'=>[.bool r]) (λz=>p z.1 z.2) O){s:Sl α}{f:Sl α->aY γ}
 (h:∀B,Ax s p=M B->Le ((f B).bind e) (bZ S (dB S T) Q (nx S (dB S T) n cf λq=>{q.st with g:=bE q.st.g t (.own t),m:=bE (dH d q.st.m) t (cG B)})))
 (i:bB.size α=1:=by rfl)(c__:bB.agg α=U:=by rfl)
 (W:(fS S (dB S T) n cf).map (λq=>(q.k,bW S.N q.st.g q.az,bh q.st.m d,q.dr,q.d,St.new {q.st with m:=dH d q.st.m} t))=M (.c,M [.v (.clo fn [] []),.own d,.v (.clo g [] [])],M (cG s),U,M t,O):=by kernel_rfl):Le (((Ax s p).bind f).bind e) (bZ S (dB S T) Q cf):=by
 have⟨q,C,c⟩:=eF W;simp at c;have⟨a__,I,L,b__,X,Y⟩:=c;refine rK C ?_ h;rw[a__,b__,X];intro y u;have⟨B,w,u⟩:=ζg.1 u;cases u;have⟨e1,e2⟩:=Yt D J F i c__ w;have j:=(D.prm fn _ hp).keep;have Z:=(D.prm fn _ hp).own;rw[vM U _ _ _ _ _ _ fn [.own d,.v (.clo g [] [])] I rfl];have k:eU S (dB S T) (M t) U (!U||q.now) (e_ q.st.m q.fr) fn [.own d,.v (.clo g [] [])] q.st=M (.own t,{q.st with m:=bE (dH d q.st.m) t (cG B)}):=by unfold eU;simp[j,Z,hp,EJ,L,cG,dw];have e3:(vS S.E).go (bB.size α) (rows s.l) [.clo g [] []]=M (rows B.l):=e1;rw[e3];simp[vS,Y];have e4:(if b_ s.k=O then bD.sl .part (bB.size α) (rows B.l)else .sl s.k (bB.size α) (rows s.l))=.sl B.k (bB.size α) (rows B.l):=(by rw[e2];cases s<;>rfl);rw[e4]
 rw[k];rfl
end
end
section
variable{H H':bl}{w:V}{o:Nat}{ids:ST}{rows:S'}
theorem vZ.cell(n:vZ H w o ids rows){p j:Nat}{r:So}{u:V}(a:rows[p]?=M r)(c:r[j]?=M u):
 ∃id,ids[p]?=M id/\nU 1 w (p:Int)=M (.hptr o p 0)/\fW H (.load 1 U) [.hptr o p 0]=M (.hsl id 1 0 (W r))/\nU 1 (.hsl id 1 0 (W r)) (j:Int)=M (.hptr id j 0)/\fW H (.load 1 U) [.hptr id j 0]=M u:=by
 have D:=(ζe.1 a).1;have d:=(ζe.1 c).1;have B:rows≠[]:=by intro e;subst e;simp at a
 have C:p<W ids:=by rw[n.len];exact D
 have z:=ζd C;refine⟨ids[p],z,?_,?_,?_,?_⟩
 .have:=n.v;rw[K' B]at this;subst this;simp[nU,D]
 .have b:=n.ob B;have I:=Kz z a;simp[fW,fD,b,Ob.rows,I,cut];rfl
 .simp[nU,d]
 have b:=n.r p _ r z a;simp[fW,fD,b,Ob.rows,rT,c,cut];rfl
theorem Ry{ids:ST}(h:ids.Nodup){i j:Nat}{a:Nat}(hi:ids[i]?=M a)(B:ids[j]?=M a):i=j:=by have b:=(ζe.1 hi);have u:=(ζe.1 B);have⟨b,e1⟩:=b;have⟨u,e2⟩:=u;exact(List.getElem_inj h).1 (e1.trans e2.symm)
theorem vZ.set(n:vZ H w o ids rows){p j id:Nat}{r:So}{u:V}(a:rows[p]?=M r)(T:j<W r)(B:ids[p]?=M id)(c:V.one u=O)(d:u.cells=[u]):
 ∃H',fR H (.store 1) [.hptr id j 0,u]=M (.undef,H')/\vZ H' w o ids (rows.set p (r.set j u))/\W H'=W H/\(∀i,i≠id->H'[i]?=H[i]?):=by
 have L:=(ζe.1 a).1;have z:rows≠[]:=by intro e;subst e;simp at a
 have b:=n.r p id r B a;have q:id<W H:=(ζe.1 b).1;have D:(rT r).set j [u]=rT (r.set j u):=by simp[rT,map_set]
 have h:o≠id:=λe=>n.ne z (e▸s? B)
 refine⟨H.set id (.row 1 (rT (r.set j u))),?_,⟨?_,λ_=>?_,by simp[n.len],λi I Q hi C=>?_,n.nd,λ_=>n.ne z⟩,f?,λi hi=>E? (Ne.symm hi)⟩
 .have S:(rT r)[j]?=M [r[j]]:=by simp[rT,T]
  simp only[fR,b,S,d,X?,a8,z?,c!,c,List.all_nil,Bool.and_self,and_self,L',List.take_zero,l0];rw[<-D];simp
 .rw[n.v];have:rows.set p (r.set j u)≠[]:=by intro e;apply z;simpa using e
  rw[K' z,K' this,List.length_set]
 .rw[E? (Ne.symm h),LG a f?];exact n.ob z
 by_cases e:i=p
 .subst e;rw[B]at hi;cases hi;rw[J? L]at C;cases C;rw[J? q]
 rw[E? (Ne.symm e)]at C;have J:id≠I:=λy=>e (Ry n.nd (y▸hi) B)
 rw[E? J];exact n.r i I Q hi C
end
structure vY(H:bl)(w:V)(l:List (List V))(id:Nat):Prop where
 c:∀c∈l,c.length=2/\c.all V.one=true
 v:(w=.bG/\l=[])\/∃off xs,w=.hsl id 2 off l.length/\H[id]?=some (.row 2 xs)/\off+l.length<=xs.length/\(xs.drop off).take l.length=l
section
variable{H H':bl}{w:V}{l:S'}{id:Nat}
theorem vY.heap(n:vY H w l id)(h:∀off n,w=.hsl id 2 off n->H'[id]?=H[id]?):vY H' w l id:=⟨n.c,n.v.imp (λh=>h) λ⟨off,u,e1,e2,e3,e4⟩=>⟨off,u,e1,by rw[h _ _ e1];exact e2,e3,e4⟩⟩
theorem vY.lt(n:vY H w l id){off m:Nat}(h:w=.hsl id 2 off m):id<W H:=by rcases n.v with⟨e,_⟩|⟨_,u,_,e2,_⟩;rw[e]at h;cases h;exact(ζe.1 e2).1
theorem vY.more(n:vY H w l id)(X:bl):vY (H++X) w l id:=n.heap λ_ _ e=>u? (n.lt e)
theorem vY.len(n:vY H w l id):qq w=M (.int _o (W l)):=by rcases n.v with⟨rfl,rfl⟩|⟨off,u,rfl,_⟩<;>rfl
theorem vY.get(n:vY H w l id){i:Nat}{c:So}(a:l[i]?=M c):∃p,nU 2 w (i:Int)=M p/\fW H (.load 2 O) [p]=M (.agg c):=by
 have hi:=(ζe.1 a).1;have u:=(n.c c (s? a)).1;rcases n.v with⟨_,rfl⟩|⟨off,z,rfl,e2,e3,e4⟩;simp at a;refine⟨.hptr id (off+i) 0,by simp[nU,hi],?_⟩;have:z[off+i]?=M c:=by rw[<-e4,I?,J0 hi,R?]at a;exact a
 simp[fW,fD,e2,Ob.rows,this,cut,<-u];rfl
theorem vY.tail{c:So}(n:vY H w (c::l) id):∃w',jy 2 w (M 1) G=M w'/\vY H w' l id/\∃off m B,w=.hsl id 2 off m/\w'=.hsl id 2 B (W l):=by
 rcases n.v with⟨_,e⟩|⟨off,u,rfl,e2,e3,e4⟩;cases e;refine⟨.hsl id 2 (off+1) (W l),?_,⟨λc a=>n.c c (List.mem_cons_of_mem _ a),.inr ⟨off+1,u,Y,e2,by simp at e3;omega,?_⟩⟩,⟨_,_,_,Y,Y⟩⟩;simp[jy,eA];omega;have hd:(u.drop off).drop 1=u.drop (off+1):=by rw[List.drop_drop]
 rw[<-hd];have:=_d (List.drop 1) e4;rw[List.drop_take]at this;simpa using this
theorem vY.push(n:vY H w l id){c:So}(a:W c=2/\c.all V.one=O)(B:W l+1<=2147483648):
 ∃H',fR (H++[.row 2 [c]]) (.append 2) [w,.hsl (W H) 2 0 1]=M (.hsl (W H+1) 2 0 (W l+1),H')/\vY H' (.hsl (W H+1) 2 0 (W l+1)) (l++[c]) (W H+1)/\W H'=W H+2/\(∀i,i<W H->(∀off m,w=.hsl id 2 off m->i≠id)->H'[i]?=H[i]?):=by
 have e2:dX (H++[.row 2 [c]]) 2 (.hsl (W H) 2 0 1)=M [c]:=by simp[dX,Ob.rows]
 have u:∀c'∈l++[c],W c'=2/\c'.all V.one=O:=λc' h=>by rcases mem_append.1 h with h|h;exact n.c c' h;simp at h;subst h;exact a
 rcases n.v with⟨rfl,rfl⟩|⟨off,D,rfl,g2,g3,g4⟩
 .have e1:dX (H++[.row 2 [c]]) 2 .bG=M []:=rfl;refine⟨H++[.row 2 [c]]++[.row 2 [c]],?_,⟨u,.inr ⟨0,[c],Y,f?,f?,Y⟩⟩,f?,λi hi _=>by rw[d9,u? hi]⟩
  simp only[fR,e1,e2,iE,List.length_nil,X?,B?];simp
 have z:=(ζe.1 g2).1;have e1:dX (H++[.row 2 [c]]) 2 (.hsl id 2 off (W l))=M l:=by simp only[dX,L',u? z,g2,ζb,Ob.rows,g3,g4]
 have C:iE (H++[.row 2 [c]]) (.hsl id 2 off (W l))=M (List.set (H++[Ob.row 2 [c]]) id Ob.dead):=by simp only[iE,u? z,g2]
 refine⟨List.set (H++[Ob.row 2 [c]]) id Ob.dead++[Ob.row 2 (l++[c])],?_,⟨u,.inr ⟨0,l++[c],f?,f?,f?,O? f?⟩⟩,f?,λi hi h=>?_⟩
 .simp only[fR,e1,e2,C,X?,B,L',B?,ζi]
 rw[u? (by simp;omega),E? (Ne.symm (h _ _ Y)),u? hi]
end
def Fs(rs:Pi):Out×St->aY bD
 |(.exit _,_)=>G|(_,st)=>_l (kS st rs) λl=>match l with
  |[.own d]=>bh st.m d|_=>G
theorem goO{S:Sys}{c:cg}{rs:Pi}{a:RC}{st:St}{ob:bD}(h:mj S c (Fs rs) a [] st=M ob):∃o e? d,cT S c a st=M (o,e?)/\(∀id,o≠.exit id)/\kS e? rs=M [.own d]/\bh e?.m d=M ob:=by
 rw[qa]at h;have⟨⟨o,e?⟩,b,u⟩:=ζg.1 h;have z:∀id,o≠.exit id:=by rintro id rfl;simp[Fs]at u
 have B:_l (kS e? rs) (λl=>match l with|[.own d]=>bh e?.m d|_=>G)=M ob:=by cases o with|exit id=>exact _c Y (z id)|norm=>exact u|ret=>exact u
 have⟨l,C,w⟩:=ζg.1 B;split at w;exact⟨o,e?,_,b,z,C,w⟩;cases w
def Sl.whole{α:Type}(s:Sl α):aY (Sl α):=match s with|.part _=>G|s=>M s
structure lU(S:Sys)(c:cg){α δ:Type}[bB δ](fn:FuncId)(A:α->List V)(p:α->Option (Sl δ)):Prop where
 k:S.E.keep fn=true
 o:S.E.own fn=true
 h:∀z s,p z=some s->∃e m',c fn ((A z).map .v) []=some ([.own e],m')/\bh m' e=some (cG s)
 sc:∀x:δ,(cells x).all V.scalar=true
theorem lU.mk'{S:Sys}{T:rW}{α δ:Type}[bB δ](rf:RF){fn:Y'}{A:α->So}{p:α->aY (Sl δ)}(h:∀z,Le (_l (p z) λr=>M (cG r)) (bZ S (dB S T) (Fs rf.rs) (.rc rf.body,[],start ((A z).map .v) [])))
 (B:T fn=M rf:=by kernel_rfl)(b:S.E.keep fn=O:=by kernel_rfl)(D:S.E.own fn=O:=by kernel_rfl)(J:∀z,W (A z)<=rf.na:=by intro z;exact Nat.le_of_ble_eq_true (by kernel_rfl))
 (sc:∀x:δ,(cells x).all V.scalar=O:=by intro x;rfl):lU S (dB S T) fn A p where
 k:=b
 o:=D
 sc:=sc
 h z s u:=by have a:=h z (cG s) (by rw[u];rfl);change mj S (dB S T) (Fs rf.rs) rf.body [] (start ((A z).map .v) [])=M (cG s)at a;have⟨o,e?,d,g1,g2,g3,g4⟩:=goO a;refine⟨d,e?.m,?_,g4⟩;rw[uP B];unfold o9;rw[J0 (by simpa using J z),g1];cases o with|exit id=>exact _c Y (g2 id)|norm=>simp only[g3,B?]|ret=>simp only[g3,B?]
section
variable{S:Sys}{c:cg}{β γ δ α:Type}[bB δ]{Q:Out×St->aY β}{e:γ->aY β}{cf:Cf}
theorem vo(n u:Nat){fn:Y'}{A:α->So}{p:α->aY (Sl δ)}(F:lU S c fn A p)(z:α){f:Sl δ->aY γ}
 (h:∀x,(p z).bind Sl.whole=M x->Le ((f x).bind e) (bZ S c Q (nx S c n cf λq=>{q.st with g:=bE q.st.g u (.own u),m:=bE q.st.m u (cG x)})))
 (J:(fS S c n cf).map (λq=>(q.d,q.k,(bW S.N q.st.g q.az).bind mc,(!q.dr||q.now),q.st.new u))=M (M u,.c,M (fn,(A z).map .v),O,O):=by kernel_rfl):Le ((((p z).bind Sl.whole).bind f).bind e) (bZ S c Q cf):=by
 obtain⟨q,L,b⟩:=eF J;simp only[ζc]at b;obtain⟨a__,T,b__,W,I⟩:=b;obtain⟨C,g1,g2⟩:=ζg.1 b__;refine rK L ?_ h;rw[a__,T];intro y D;obtain⟨X,j,D⟩:=ζg.1 D;cases D;obtain⟨s,Y,B⟩:=ζg.1 j;obtain⟨e0,m',d,Z⟩:=F.h z s Y;rw[vM q.dr _ _ _ _ _ C fn ((A z).map .v) g1 g2];have w:eU S c (M u) q.dr (!q.dr||q.now) (e_ q.st.m q.fr) fn ((A z).map .v) q.st=M (.own u,{q.st with m:=bE q.st.m u (cG X)}):=by unfold eU;simp only[F.k,F.o,L',W,rY,d,dw,Z,cG,I];cases s with|nil=>cases B;rfl|emp=>cases B;rfl|row l=>cases B;have:lM (rows l)=O:=(by unfold lM;rw[M?];intro x i;obtain⟨a,_,rfl⟩:=mem_map.1 i;exact F.sc a);simp only[Sl.k,Sl.l,dw,V.c6,this,Bool.and_self,I,L'];rfl|part l=>cases B
 rw[w];rfl
end
structure GD where
 m:Nat
 pre:List (Nat×List Gh)
 nd:List (Nat×List Gh×List Gh)
structure GI where
 m:Nat
 i:Nat
 j:Nat
def lkL{α:Type}(l:aX (Nat×aX α))(i:Nat):aX α:=match l with
 |[]=>[]|(k,x)::r=>bif beq k i then x else lkL r i
def AR(l:aX (Nat×QR×QR))(i:Nat):QR×QR:=match l with
 |[]=>([],[])|(k,x)::r=>bif beq k i then x else AR r i
def QH(m:Nat):ST->ST
 |[]=>[]|x::l=>bif beq (m % 2) 1 then x::QH (m / 2) l else QH (m / 2) l
def Vb:QQ->ST
 |[]=>[]|.s n::r=>n::Vb r|_::r=>Vb r
def ac2(o:RO):ST:=(match o.dst with|some d=>[d]|none=>[])++(match o.gd with|some g=>[g.1]|none=>[])++Vb o.az
def adW(G:GD)(s:GI)(o:RO):RO:={o with dead:=QH (bif beq (s.m % 16) 15 then s.m / 16 % 65536 else s.m % 16) (ac2 o),pre:=lkL G.pre s.i}
def GI.op(s:GI):GI:=⟨bif beq (s.m % 16) 15 then s.m / 1048576 else s.m / 16,s.i+1,s.j⟩
def CP(G:GD):Rd->GI->Rd×GI
 |[],s=>([],s)|o::r,s=>(adW G s o::(CP G r s.op).1,(CP G r s.op).2)
def C5:QR->RC->RC
 |[],c=>c|g::l,c=>.gh g (C5 l c)
def KB:QR->RC->RC
 |[],c=>c|g::l,c=>KB l (.hg c g)
def GI.nd(s:GI):GI:=⟨s.m,s.i,s.j+1⟩
def kQ(G:GD):RC->GI->RC×GI
 |.seq a b,s=>(C5 (AR G.nd s.j).1 (.seq (kQ G a s.nd).1 (kQ G b (kQ G a s.nd).2).1),(kQ G b (kQ G a s.nd).2).2)|.cond x a b,s=>(C5 (AR G.nd s.j).1 (.cond x (kQ G a s.nd).1 (kQ G b (kQ G a s.nd).2).1),(kQ G b (kQ G a s.nd).2).2)|.block id a,s=>(C5 (AR G.nd s.j).1 (.block id (kQ G a s.nd).1),(kQ G a s.nd).2)|.loop a,s=>(C5 (AR G.nd s.j).1 (.loop (KB (AR G.nd s.j).2 (kQ G a s.nd).1)),(kQ G a s.nd).2)|.each g ps a b,s=>(C5 (AR G.nd s.j).1 (.each g ps (kQ G a s.nd).1 (KB (AR G.nd s.j).2 (kQ G b (kQ G a s.nd).2).1)),(kQ G b (kQ G a s.nd).2).2)|.ops l,s=>(C5 (AR G.nd s.j).1 (KB (AR G.nd s.j).2 (.ops (CP G l s.nd).1)),(CP G l s.nd).2)|.vI l,s=>(C5 (AR G.nd s.j).1 (KB (AR G.nd s.j).2 (.vI (CP G l s.nd).1)),(CP G l s.nd).2)|.gh g c,s=>(.gh g c,s)|.hg c g,s=>(.hg c g,s)|c,s=>(C5 (AR G.nd s.j).1 c,s.nd)
theorem mS(c:RC):∀l,erase (C5 l c)=erase c
 |[]=>rfl|g::l=>by simp only[C5,erase,mS c l]
theorem yb:∀l(c:RC),erase (KB l c)=erase c
 |[],c=>rfl|g::l,c=>by simp only[KB,yb l,erase]
theorem B4(G:GD):∀(l:Rd)s,((CP G l s).1).map RO.strip=l.map RO.strip
 |[],s=>rfl|o::r,s=>by simp only[CP,P?,B4 G r];rfl
theorem nP(G:GD):∀(c:RC)s,erase (kQ G c s).1=erase c
 |.seq a b,s=>by simp only[kQ,mS,erase,nP G a,nP G b]|.cond x a b,s=>by simp only[kQ,mS,erase,nP G a,nP G b]|.block id a,s=>by simp only[kQ,mS,erase,nP G a]|.loop a,s=>by simp only[kQ,mS,erase,yb,nP G a]|.each g ps a b,s=>by simp only[kQ,mS,erase,yb,nP G a,nP G b]|.ops l,s=>by simp only[kQ,mS,yb,erase,B4]|.vI l,s=>by simp only[kQ,mS,yb,erase,B4]|.gh g c,s=>rfl|.hg c g,s=>rfl|.skip,s=>by simp only[kQ,mS]|.ret,s=>by simp only[kQ,mS]|.exit _,s=>by simp only[kQ,mS]
theorem Nc{X:CX}{dr:X'}{ops:R0}{i:Nat}{o:Oper}{r:RO}(h:oF X dr ops i o=M r):r.strip=r:=by obtain⟨_,_,_,_,_,_,rfl⟩:=FL h;rfl
theorem Av{X:CX}{dr:X'}{ops:R0}:∀{l:R0}{i:Nat}{r:Rd},ni X dr ops i l=M r->r.map RO.strip=r
 |[],i,r,h=>by cases h;rfl|o::l,i,r,h=>by simp only[ni]at h;split at h;(next a b B D=>cases h;simp only[P?,Nc B,Av D]);cases h
theorem Nv{X:CX}:∀{c:Code}{ro:X'}{r:RC},bT X ro c=M r->erase r=r:=by intro c;induction c with|region _ ops dr=>intro ro r h;simp only[bT]at h;split at h;split at h;obtain⟨l,d,rfl⟩:=ζf.1 h;simp only[erase,Av d];cases h;obtain⟨l,d,rfl⟩:=ζf.1 h;simp only[erase,Av d]|seq a b u w=>intro ro r h;simp only[bT]at h;split at h;(next d z=>cases h;simp only[erase,u d,w z]);cases h|cond c a b u w=>intro ro r h;simp only[bT]at h;split at h;(next d z=>cases h;simp only[erase,u d,w z]);cases h|block id a u=>intro ro r h;simp only[bT]at h;obtain⟨l,d,rfl⟩:=ζf.1 h;simp only[erase,u d]|loop a u=>intro ro r h;simp only[bT]at h;obtain⟨l,d,rfl⟩:=ζf.1 h;simp only[erase,u d]|rangeFunc g ps a b u w=>intro ro r h;simp only[bT]at h;split at h;cases h;split at h;(next d z=>cases h;simp only[erase,u d,w z]);cases h|_=>intro ro r h;first|cases h;rfl|(simp only[bT]at h;cases h;rfl)|(simp only[bT]at h;cases h)
def VK(E:Env)(nm:Y'->aY Nat)(G:Y'->aY GD):rW:=λf=>_l (G f) λg=>_l (E.ft f) λu=>_l (bT ⟨E,nm,u.ntmps⟩ U u.body) λc=>_l (u.results.mapM (D3 E)) λrs=>M ⟨u.ntmps,rs,(kQ g c ⟨g.m,0,0⟩).1⟩
theorem EU{E:Env}{nm:Y'->aY Nat}{G:Y'->aY GD}{f:Y'}{rf:RF}(h:VK E nm G f=M rf):∃fi,E.ft f=M fi/\zP E nm fi rf:=by unfold VK at h;have⟨g,_,h⟩:=ζg.1 h;have⟨fi,a,h⟩:=ζg.1 h;have⟨c,u,h⟩:=ζg.1 h;have⟨rs,w,h⟩:=ζg.1 h;cases h;exact⟨fi,a,by rw[u,nP,Nv u],w,Y⟩
theorem AQ:∀(g:Y')(s:Nat),M g=M s->(λn=>n) s=g:=λ_ _ h=>(Option.some.inj h).symm
def oI(o:aY RF):RF:=o.getD ⟨0,[],.skip⟩
def tb(T:rW)(f:Y'):RC:=(oI (T f)).body
def tr(T:rW)(f:Y'):Pi:=(oI (T f)).rs
theorem A5{o:aY RF}(h:o.isSome=O):o=M (oI o):=by cases o with
 |none=>cases h|some r=>rfl
class gT(δ:Type)where
 e:δ->List V
instance aer{α:Type}[bB α]:gT α:=⟨λx=>[enc x]⟩
instance aep:gT Unit:=⟨λ_=>[]⟩
instance aeq{α β:Type}[bB α][gT β]:gT (α×β):=⟨λx=>enc x.1::gT.e x.2⟩
@[simp] theorem ad3{α:Type}[bB α](x:α):gT.e x=[enc x]:=rfl
@[simp] theorem adZ(x:Unit):gT.e x=[]:=rfl
@[simp] theorem ad4{α β:Type}[bB α][gT β](x:α×β):gT.e x=enc x.1::gT.e x.2:=rfl
class Fc(S:Sys)(c:cg){δ:Type}(m:Option δ)where
 n:FuncId
 az:List V
 E:δ->List V
 sc:Bool
 F:iG S c n (λ_:Unit=>az) E (λ_=>m) sc
section
variable{S:Sys}{T:rW}{δ:Type}{m:aY δ}
theorem iG.V8{E:δ->So}(fn:Y')(az:So)(h:Le (m.bind λr=>M (E r)) (bZ S (dB S T) (sC (tr T fn)) (.rc (tb T fn),[],start (az.map .v) [])))
 (B:(T fn).isSome=O)(a:S.E.keep fn=U)(D:ble (W az) (oI (T fn)).na=O)
 {sc:X'}(s:sc=O->∀r,(result (E r)).scalar=O):iG S (dB S T) fn (λ_:Unit=>az) E (λ_=>m) sc where
 k:=a
 h z:=adD (A5 B) (Nat.le_of_ble_eq_true D) h
 s:=s
abbrev Fc.NE(E:δ->aX V)(fn:FuncId)(az:aX V)(h:Le (m.bind λr=>M (E r)) (bZ S (dB S T) (sC (tr T fn)) (.rc (tb T fn),[],start (az.map .v) [])))
 (B:(T fn).isSome=O:=by kernel_rfl)(a:S.E.keep fn=U:=by kernel_rfl)(D:ble (W az) (oI (T fn)).na=O:=by kernel_rfl)
 :Fc S (dB S T) m:=
 ⟨fn,az,E,U,iG.V8 fn az h B a D λh=>nomatch h⟩
abbrev Fc.M[gT δ](fn:FuncId)(az:aX V)(h:Le (m.bind λr=>M (gT.e r)) (bZ S (dB S T) (sC (tr T fn)) (.rc (tb T fn),[],start (az.map .v) [])))
 (B:(T fn).isSome=O:=by kernel_rfl)(a:S.E.keep fn=U:=by kernel_rfl)(D:ble (W az) (oI (T fn)).na=O:=by kernel_rfl)
 (s:∀r:δ,(result (gT.e r)).scalar=O:=by intro r;kernel_rfl):Fc S (dB S T) m:=
 ⟨fn,az,gT.e,O,iG.V8 fn az h B a D λ_=>s⟩
abbrev Fc.N[gT δ](fn:FuncId)(az:aX V)(h:Le (m.bind λr=>some (gT.e r)) (bZ S (dB S T) (sC (tr T fn)) (.rc (tb T fn),[],start (az.map .v) [])))
 (B:(T fn).isSome=true:=by kernel_rfl)(a:S.E.keep fn=false:=by kernel_rfl)(D:ble az.length (oI (T fn)).na=true:=by kernel_rfl)
 :Fc S (dB S T) m:=
 ⟨fn,az,gT.e,false,iG.V8 fn az h B a D λh=>nomatch h⟩
end
abbrev Fc.of{S:Sys}{c:cg}{α δ:Type}{p:α->aY δ}{n:FuncId}{A:α->aX V}{E:δ->aX V}{b:Bool}(z:α)(F:iG S c n A E p b):Fc S c (p z):=⟨n,A z,E,b,⟨F.k,λ_=>F.h z,F.s⟩⟩
theorem iG.rA{S:Sys}{c:cg}{α δ:Type}{p:α->aY δ}{n:Y'}{A:α->So}{E:δ->So}{b:X'}(F:∀z,Fc S c (p z))(i:α)(B:∀z,(F z).n=n)(J:∀z,(F z).az=A z)(D:∀z,(F z).E=E)(T:∀z,(F z).sc=b):iG S c n A E p b where
 k:=by rw[<-B i];exact(F i).F.k
 h z:=by rw[<-B z,<-J z,<-D z];exact(F z).F.h ()
 s:=by rw[<-T i,<-D i];exact(F i).F.s
theorem me.rA{S:Sys}{c:cg}{α δ:Type}{p:α->aY δ}{g:Y'}{w e:So}{A:α->So}{R:δ->So}{b:X'}[i:Inhabited α][F:∀z,Fc S c (p z)](B:∀z,(F z).n=g:=by intro _;kernel_rfl)(D:∀z,(F z).az=w++A z++e:=by intro _;kernel_rfl)
 (J:∀z,(F z).E=R:=by intro _;kernel_rfl)(T:∀z,(F z).sc=b:=by intro _;kernel_rfl):me S c g w e A R p b:=
 ⟨iG.rA F default B D J T⟩
section
variable{S:Sys}{c:cg}{β γ δ α:Type}{Q:Out×St->aY β}{e:γ->aY β}{cf:Cf}
theorem tK(n:Nat){m:aY β}(h:Le m (bZ S c Q (kf S c n cf)))(B:gW S c n cf.1 cf.2.1 cf.2.2=M (kf S c n cf):=by kernel_rfl):Le m (bZ S c Q cf):=Ca B h
theorem bz(n:Nat){m:aY δ}[F:Fc S c m]{f:δ->aY γ}(h:∀x,m=M x->Le ((f x).bind e) (bZ S c Q (nx S c n cf λp=>c8 p.st p.d (.v (result (F.E x))))))
 (B:(fS S c n cf).map (λp=>(p.k,(bW S.N p.st.g p.az).bind mc,(!p.dr||p.now||e_ p.st.m p.fr [])))=M (.c,M (F.n,F.az.map .v),O):=by kernel_rfl):Le ((m.bind f).bind e) (bZ S c Q cf):=yJ n F.F () h B
theorem c_(n:Nat){m:aY δ}[F:Fc S c m]{f:δ->aY γ}(h:∀x,m=M x->Le ((f x).bind e) (bZ S c Q (nx S c n cf λp=>c8 p.st p.d (.v (result (F.E x))))))
 (B:(fS S c n cf).map (λp=>(p.k,((bW S.N p.st.g p.az).bind mc).bind λq=>(qp (kg p.st.m 8) q.2).map λvs=>(q.1,vs,((!p.dr||p.now)||e_ p.st.m p.fr q.2))))=M (.c,M (F.n,F.az,O)):=by kernel_rfl)(D:F.sc=O:=by kernel_rfl):Le ((m.bind f).bind e) (bZ S c Q cf):=
 abC n (u D F.F) () h B
where
 u {b:X'} {fn:Y'} {az:So} {E:δ->So} {m:aY δ} (h:b=O) (F:iG S c fn (λ_:Unit=>az) E (λ_=>m) b):iG S c fn (λ_:Unit=>az) E (λ_=>m) O:=h▸F
def XB(cf:Cf):RC:=match cf.1 with|.rc (.loop c)=>c|_=>.skip
def GU(cf:Cf):Arg×ST×RC×RC:=match cf.1 with|.rc (.each g ps a b)=>(g,ps,a,b)|_=>(.s 0,[],.skip,.skip)
theorem dU{σ ε ρ:Type}{step:σ->aY (Fw σ ε ρ)}(n:Nat)(eσ:σ->St)(eε:ε->Nat×St)(eρ:ρ->St){s:σ}{B:ε->aY γ}{fr:ρ->aY γ}
 (h:∀s,Le ((step s).bind λw=>M (Fw.out eσ eε eρ w)) (bZ S c M (.rc (XB (kf S c n cf)),[],eσ s)))
 (D:∀x,Le ((B x).bind e) (bZ S c Q (.ex (eε x).1,(kf S c n cf).2.1,(eε x).2)))(a:∀b,Le ((fr b).bind e) (Q (.ret,eρ b)))
 (J:gW S c n cf.1 cf.2.1 cf.2.2=M (.rc (.loop (XB (kf S c n cf))),(kf S c n cf).2.1,eσ s):=by kernel_rfl):Le (((bM step s).bind (Fw.elim B fr)).bind e) (bZ S c Q cf):=
 S_ J h D a
theorem dZ{σ ε:Type}{step:σ->aY (Fw σ ε Empty)}(n:Nat)(eσ:σ->St)(eε:ε->Nat×St){s:σ}{B:ε->aY γ}{fr:Empty->aY γ}
 (h:∀s,Le ((step s).bind λw=>M (Fw.out eσ eε (λe=>Empty.elim e) w)) (bZ S c M (.rc (XB (kf S c n cf)),[],eσ s)))
 (D:∀x,Le ((B x).bind e) (bZ S c Q (.ex (eε x).1,(kf S c n cf).2.1,(eε x).2)))
 (J:gW S c n cf.1 cf.2.1 cf.2.2=M (.rc (.loop (XB (kf S c n cf))),(kf S c n cf).2.1,eσ s):=by kernel_rfl):Le (((bM step s).bind (Fw.elim B fr)).bind e) (bZ S c Q cf):=
 S_ J h D λb=>Empty.elim b
theorem D9{σ ε ρ:Type}{f:Y'}{x y:So}{a:aX α}{eI:α->So}{step:α->σ->aY (Fw σ ε ρ)}(n:Nat)(d:Tb SV)(eσ:σ->Tb bD)(eε:ε->Nat×Tb bD)(eρ:ρ->Tb bD){s:σ}{fn:σ->aY γ}{B:ε->aY γ}{fr:ρ->aY γ}
 (hi:S.items f x y=M (a.map eI))
 (h:∀x s,Le ((step x s).bind λw=>M (Fw.zp eσ eε eρ w)) (bZ S c (BW S c (GU (kf S c n cf)).2.2.2) (.rc (GU (kf S c n cf)).2.2.1,[],⟨Al d (GU (kf S c n cf)).2.1 ((eI x).map .v),eσ s,sB d,[],O,0⟩)))
 (D:∀s,Le ((fn s).bind e) (bZ S c Q (.nx,(kf S c n cf).2.1,bF d (eσ s))))(J:∀x,Le ((B x).bind e) (bZ S c Q (.ex (eε x).1,(kf S c n cf).2.1,bF d (eε x).2)))(g:∀b,Le ((fr b).bind e) (Q (.ret,bF d (eρ b))))
 (T:∀x,(eI x).length=(GU (kf S c n cf)).2.1.length:=by intro _;kernel_rfl)(i:tN S.N d (GU (kf S c n cf)).1=M (.v (.clo f x y)):=by kernel_rfl)
 (j:gW S c n cf.1 cf.2.1 cf.2.2=M (.rc (.each (GU (kf S c n cf)).1 (GU (kf S c n cf)).2.1 (GU (kf S c n cf)).2.2.1 (GU (kf S c n cf)).2.2.2),(kf S c n cf).2.1,bF d (eσ s)):=by kernel_rfl):Le (((mw step a s).bind (Fw.sN fn B fr)).bind e) (bZ S c Q cf):=
 aas j i hi T h D J g
def abq(n k:Nat)(B:ST)(d:Nat)(S:Sys)(c:cg)(cf:Cf)(v:SV):Cf:=jmp k [] (kf S c n cf) {(kf S c n cf).2.2 with g:=bE (rB B (kf S c n cf).2.2.g) d v}
theorem bP[bB δ](n k:Nat)(B:ST)(d:Nat){m:aY δ}{f:δ->aY γ}(D:Le (m.bind λr=>bZ S c Q (abq n k B d S c cf (cv r))) (bZ S c Q cf))(a:∀r,Le (_l (f r) e) (bZ S c Q (abq n k B d S c cf (cv r)))):Le (_l (m.bind f) e) (bZ S c Q cf):=Xu _ D a
end
theorem Qe{α β:Type}{P:α ⊕ β->Prop}(c:∀a,P (.inl a))(B:∀b,P (.inr b)):∀x,P x
 |.inl a=>c a|.inr b=>B b
instance{n:Nat}:DecidableEq (bQ n Int):=λa b=>if h:a.l=b.l then .isTrue (by cases a;cases b;cases h;rfl)else .isFalse λe=>h (by rw[e])
theorem yC:∀l:SW,jE ((l.map (cells (α:=Int))).flatten)=M l
 |[]=>rfl|a::l=>by show jE (.int _o a::(l.map (cells (α:=Int))).flatten)=_;simp only[jE,yC l,B?]
theorem JR(l:SW):(l.map (cells (α:=Int))).flatten=l.map (V.int _o):=by induction l with|nil=>rfl|cons a l u=>simp only[P?,List.flatten_cons,u];rfl
instance{n:Nat}:Key (bQ n Int)where
 kk:=.ints n
 ok a:=by show(W (a.l.map (cells (α:=Int))).flatten==n&&(jE (a.l.map (cells (α:=Int))).flatten).isSome)=O;rw[yC,JR,I!,a.len];simp
 eq a b:=by show mR (a.l.map (cells (α:=Int))).flatten (b.l.map (cells (α:=Int))).flatten=_;unfold mR;rw[yC,yC];simp only[a.len,b.len,L'];congr 1;rw[Bool.eq_iff_iff,_g,decide_eq_true_iff];exact⟨λh=>by cases a;cases b;cases h;rfl,λh=>by rw[h]⟩
def pS(n:Nat)(s:Zg):bQ n Int:=⟨p9 n s.l,by unfold p9;simp;omega⟩
theorem AH:∀l:SW,sS (l.map (cells (α:=Int)))=M l
 |[]=>rfl|a::l=>by show sS ([.int _o a]::l.map (cells (α:=Int)))=_;simp only[sS,AH l,B?]
theorem Vf(n:Nat)(s:Zg):yh n [enc s]=M (enc (pS n s)):=by
 have e:enc (pS n s)=.agg (BC n s.l):=by show V.agg ((pS n s).l.map (cells (α:=Int))).flatten=_;rw[JR];rfl
 rw[e];cases s with|nil=>rfl|emp=>rfl|row l=>show((sS (l.map (cells (α:=Int)))).map λl=>V.agg (BC n l))=_;rw[AH];rfl|part l=>show((sS (l.map (cells (α:=Int)))).map λl=>V.agg (BC n l))=_;rw[AH];rfl
theorem SO{E:Env}{f:Y'}{az:So}{y:V}(B:V.good y=O)(h:∃n H',run E n (.fn f) az []=M (y,H')):Bx E f az y:=by have⟨n,H',h⟩:=h;exact⟨n,y,H',λ_=>False,h,.same _ B,λ_ h=>h.elim,⟨λ_ _ _ h=>h.elim⟩⟩
theorem RN{E:Env}{f:Y'}{az:So}{y:V}(a:E.ft f=G)(B:E.sort f=U)(D:E.known f az=M y):run E 1 (.fn f) az []=M (y,[]):=by simp only[run,lz,a,B,D];rfl
theorem Yw{E:Env}{f n:Nat}(a:E.ft f=G)(B:E.sort f=U)(D:∀az,E.known f az=yh n az)(s:Zg):Bx E f [enc s] (enc (pS n s)):=SO (iB _) ⟨1,[],RN a B (by rw[D,Vf])⟩
def DL(m:Tb bD):SV->X'
 |.v _|.agg _=>O|x=>m_ m x
def qm:SV->R'
 |.v x=>x.cells.map .v|.agg l=>l|x=>[x]
def D7(cells:R'):aX (Nat×Nat)->R'->aY R'
 |[],[]=>M cells|(off,size)::pl,v::vs=>if(qm v).length=size/\off+W (qm v)<=W cells then D7 (cells.take off++qm v++cells.drop (off+W (qm v))) pl vs else G|_,_=>G
theorem Rl(cells:R'):D7 cells [] []=M cells:=rfl
theorem G8(cells:R')(off size:Nat)(pl:aX (Nat×Nat))(v:SV)(vs:R'):D7 cells ((off,size)::pl) (v::vs)=if(qm v).length=size/\off+W (qm v)<=W cells then D7 (cells.take off++qm v++cells.drop (off+W (qm v))) pl vs else G:=rfl
theorem Wo(x:V):qm (.v x)=x.cells.map .v:=rfl
theorem Q0(d:Nat):qm (.own d)=[.own d]:=rfl
theorem Ti(d:Nat):qm (.mp d)=[.mp d]:=rfl
theorem Po(d o:Nat):qm (.ptr d o)=[.ptr d o]:=rfl
theorem Vl{m:Tb bD}{v:SV}(h:DL m v=O):AO m v=M (qm v):=by cases v<;>first|rfl|(unfold AO;exact J0 h)|(simp[DL,m_]at h)
theorem NT{m:Tb bD}:∀{pl:aX (Nat×Nat)}{vs cells l:R'},vs.all (DL m)=O->D7 cells pl vs=M l->vK m cells pl vs=M l
 |[],[],_,_,_,h=>h|[],_::_,_,_,_,h=>by cases h|_::_,[],_,_,_,h=>by cases h|(off,size)::pl,v::vs,cells,l,B,h=>by rw[c!,ζh]at B;rw[G8]at h;show(match AO m v with|some c=>if W c=size/\off+W c<=W cells then vK m (cells.take off++c++cells.drop (off+W c)) pl vs else G|none=>G)=M l;rw[Vl B.1];simp only;split at h;(next a=>rw[J0 a];exact NT B.2 h);cases h
def HX:SV->X'
 |.v x=>x.one|.agg _=>U|_=>O
theorem aaR(x:V):HX (.v x)=x.one:=rfl
theorem UB(d:Nat):HX (.own d)=O:=rfl
theorem ZD(d:Nat):HX (.mp d)=O:=rfl
theorem Un(d o:Nat):HX (.ptr d o)=O:=rfl
theorem OK{m:Tb bD}:∀{l:R'},l.all HX=O->l.all (DL m)=O->l.all (zV m)=O
 |[],_,_=>rfl|x::l,h,k=>by rw[c!,ζh]at h k⊢;refine⟨?_,OK h.2 k.2⟩;cases x<;>first|exact h.1|exact k.1|(have:=h.1;cases this)
section
variable{S:Sys}{c:cg}{β γ δ α:Type}{Q:Out×St->aY β}{e:γ->aY β}{cf:Cf}
theorem Si{N:Nat->Y'}{m:Tb bD}{z:So}{pl:aX (Nat×Nat)}{m? l:R'}(B:(dw m?).isNone=O)(h:vK m (z.map .v) pl m?=M l):kH N m (.build z pl) m?=M (.agg l):=by unfold kH;cases a:dw m? with|some x=>rw[a]at B;cases B|none=>have:Af N m (.build z pl) m?=(vK m (z.map .v) pl m?).map .agg:=(by unfold Af;split<;>first|contradiction|(rename_i e _;cases e;rfl)|simp_all);simp only[this,h,B?]
theorem acY(n:Nat)(m? l:R')(z:So)(pl:aX (Nat×Nat)){m:aY β}(B:D7 (z.map .v) pl m?=M l)(h:Le m (bZ S c Q (nx S c n cf λp=>c8 p.st p.d (.agg l))))
 (D:(fS S c n cf).map (λp=>(p.k,bW S.N p.st.g p.az,(dw m?).isNone,m?.all (DL p.st.m)))=M (.p (.build z pl),M m?,O,O):=by kernel_rfl):Le m (bZ S c Q cf):=by
 have⟨p,u,a⟩:=eF D;simp only[ζc]at a;refine sK u ?_ h;rw[a.1];exact CE a.2.1 rfl (Si a.2.2.1 (NT a.2.2.2 B))
theorem ack(n u:Nat)(l:R'){m:aY β}(B:l.all HX=O)(h:Le m (bZ S c Q (nx S c n cf λp=>{p.st with g:=bE p.st.g u (.ptr u 0),m:=bE p.st.m u (.box l)})))
 (D:(fS S c n cf).map (λp=>(p.d,p.k,bW S.N p.st.g p.az,p.st.new u,l.all (DL p.st.m)))=M (M u,.a .box,M [.agg l],O,O):=by kernel_rfl):Le m (bZ S c Q cf):=by
 have⟨p,w,a⟩:=eF D;simp only[ζc]at a;refine sK w ?_ h;rw[a.1,a.2.1,yO,a.2.2.1];simp only[ζb,a.2.2.2.1,L',nG,OK B a.2.2.2.2]
theorem adP[bB α](n u:Nat)(y x:α){m:aY β}(h:Le m (bZ S c Q (nx S c n cf λp=>c8 {p.st with m:=bE p.st.m u (bx x)} p.d (.v .undef))))
 (B:(fS S c n cf).map (λp=>(p.k,bW S.N p.st.g p.az,(!p.dr||p.now),bh p.st.m u))=M (.l (.store (bB.size α)),M [.ptr u 0,cv x],O,M (bx y)):=by kernel_rfl):Le m (bZ S c Q cf):=by
 have⟨p,z,a⟩:=eF B;simp only[ζc]at a;refine sK z ?_ h;have⟨b,C,D,d⟩:=a;rw[b,xm,C];have w:W ((cells y).map SV.v)=bB.size α:=by rw[I!,gI]
 simp only[ζb,D,L',mM,d,putCells,f_,gI,uY,w,a8,z?,and_self,B?,List.take_zero,l0];rw[List.drop_of_length_le (by rw[w];exact z? _),J!]
end
section
variable{S:Sys}{c:cg}{β γ δ:Type}{Q:Out×St->aY β}{e:γ->aY β}{cf:Cf}{κ ν:Type}[bB κ][DecidableEq κ][Key κ][bB ν]
structure zu(κ ν:Type)where
 o:Option (Mo κ ν)
 deriving Inhabited
def mpV(m:zu κ ν):V:=match m.o with|none=>.ir|some l=>.fmap (oL l)
theorem S6(m:Mo κ ν):V.vH (oL m)=O:=by induction m with|nil=>rfl|cons x r u=>show V.vH ((enc x.1,enc x.2)::oL r)=O;simp only[V.vH,iB,u,Bool.and_self]
instance:bB (zu κ ν)where
 cells m:=[mpV m]
 agg:=U
 size:=1
 len _:=rfl
 good m:=by unfold mpV;split;rfl;simp only[V.cN,V.good,S6,Bool.and_self]
 one m:=by unfold mpV;split<;>rfl
 plain _:=rfl
theorem OP(m:zu κ ν):V.one (enc m)=O:=by have⟨o⟩:=m;cases o<;>rfl
def yp(m:zu κ ν):Mo κ ν:=m.o.getD []
theorem Wk(m:zu κ ν):oE [] (enc m)=M (oL (yp m)):=by have⟨o⟩:=m;cases o<;>rfl
theorem UO(m:zu κ ν)(k:κ)(z:ν)(ok:X'):fW [] (.lookup (Key.kk κ) (enc z) ok) [enc m,enc k]=M (if ok then .tup [enc (iM (yp m) k z),.bool (AF (yp m) k)]else enc (iM (yp m) k z)):=by
 simp only[fW,Wk,Key.ok,L'];have:=D6 k (yp m) 0;simp only[iM,AF]
 cases B:jd (enc k) (oL (yp m)) 0 with
 |none=>rw[B]at this;cases this|some r=>
  rw[B]at this;simp only[B?,ζa]at this
  cases r with
  |none=>cases u:lW k (yp m)with|none=>rfl|some w=>rw[u]at this;cases this
  |some w=>cases u:lW k (yp m)with|none=>rw[u]at this;cases this|some C=>rw[u]at this;simp only[B?,ζa]at this;simp only[this];rfl
theorem R6(n:Nat)(mp:zu κ ν)(k:κ)(z:ν){m:aY β}(h:Le m (bZ S c Q (nx S c n cf λp=>c8 p.st p.d (cv (iM (yp mp) k z)))))
 (B:(fS S c n cf).map (λp=>(p.k,bW S.N p.st.g p.az))=M (.r (.lookup (Key.kk κ) (enc z) U),M [cv mp,cv k]):=by kernel_rfl):Le m (bZ S c Q cf):=by
 have⟨p,u,a⟩:=eF B;simp only[ζc]at a;refine sK u ?_ h;rw[a.1,zW,a.2];simp only[ζb,eY,Bool.or_true,L',oG,UO,B?];rfl
end
theorem iG.scalar{S:Sys}{c:cg}{α δ:Type}{fn:Y'}{A:α->So}{E:δ->So}{p:α->aY δ}{b:X'}(F:iG S c fn A E p b)(h:∀r,(result (E r)).scalar=O):iG S c fn A E p O:=⟨F.k,F.h,λ_=>h⟩
theorem Ez:∀l:SW,V.c6 (l.map (cells (α:=Int))).flatten=O
 |[]=>rfl|x::l=>by show V.c6 (.int _o x::(l.map (cells (α:=Int))).flatten)=O;simp only[V.c6,V.scalar,Ez l,Bool.and_self]
theorem QS{n:Nat}(a:bQ n Int):(result [enc a]).scalar=O:=Ez a.l
section
variable{S:Sys}{c:cg}{β γ δ α:Type}[bB α]{Q:Out×St->aY β}{e:γ->aY β}{cf:Cf}
theorem XV(m:Tb bD)(u:Nat)(x:α)(B:bB.agg α=O)(h:bh m u=M (bx x)):oG m (.load (bB.size α) O) [.ptr u 0]=M (cv x):=by
 have w:W ((cells x).map SV.v)=bB.size α:=by rw[I!,gI]
 simp only[oG,h,L!];rw[O? (by rw[w];exact z? _)];unfold xk;rw[J0 w,J0 Y,kP];simp only;rw[<-AZ B]
theorem adG(n u:Nat)(x:α)(B:bB.agg α=O){m:aY β}(h:Le m (bZ S c Q (nx S c n cf λp=>c8 p.st p.d (cv x))))
 (D:(fS S c n cf).map (λp=>(p.k,bW S.N p.st.g p.az,(!p.dr||p.now||eY p.fr [.ptr u 0]),bh p.st.m u))=M (.r (.load (bB.size α) O),M [.ptr u 0],O,M (bx x)):=by kernel_rfl):Le m (bZ S c Q cf):=by
 have⟨p,w,a⟩:=eF D;simp only[ζc]at a;have⟨b,z,C,d⟩:=a;refine sK w ?_ h;rw[b,zW,z];simp only[ζb,C,L',XV _ u x B d]
theorem WA{ω:Type}[bB ω](n u:Nat){N:Nat}(a:bQ N α)(i:Int)(o:Nat)(x:α)(D:a.at i=M x)(y:α)(w:ω)(J:cells y=(cells x).take o++cells w++(cells x).drop (o+bB.size ω)){m:aY β}(h:Le m (bZ S c Q (nx S c n cf λp=>c8 {p.st with m:=bE p.st.m u (bx (a.set i y))} p.d (.v .undef))))
 (T:(fS S c n cf).map (λp=>(p.k,bW S.N p.st.g p.az,bh p.st.m u,(!p.dr||p.now),ble (o+bB.size ω) (bB.size α)))=M (.l (.store (bB.size ω)),M [.ptr u (i.toNat*bB.size α+o),cv w],M (bx a),O,O):=by kernel_rfl):Le m (bZ S c Q cf):=by
 have⟨p,B,z⟩:=eF T;simp only[ζc]at z;have⟨b,C⟩:=jC B;have⟨dr,fr,d,gd,now,a__,az,dd,l,fs,st⟩:=p;obtain⟨rfl,j,I,L,q⟩:=z;exact Xx n dr fr (⟨d,gd,now,.l (.store (bB.size ω)),az,dd,[]⟩::l) fs st u a i o x D y (enc w) (by rw[f_];exact J) Y (by(try dsimp only at *);simp only[b,C,j,I,L,q,f_,gI,uY]) (by
  simp only[nx,B]at h;exact h)
end
def Ko(rs:Pi):Out×St->aY (bD×So)
 |(.exit _,_)=>G|(_,st)=>_l (kS st rs) λl=>match l with
  |.own d::r=>_l (bh st.m d) λob=>(dw r).map λys=>(ob,ys)|_=>G
theorem Bo:∀{l:R'}{ys:So},dw l=M ys->l=ys.map .v
 |[],ys,h=>by cases h;rfl|.v x::r,ys,h=>by simp only[dw]at h;obtain⟨B,a,rfl⟩:=ζf.1 h;rw[Bo a];rfl|.own _::_,_,h|.ptr ..::_,_,h|.el ..::_,_,h|.mp _::_,_,h|.clo ..::_,_,h|.tup _::_,_,h|.agg _::_,_,h|.yl _::_,_,h=>by cases h
theorem adz{S:Sys}{c:cg}{rs:Pi}{a:RC}{st:St}{ob:bD}{ys:So}(h:mj S c (Ko rs) a [] st=M (ob,ys)):∃o e? d,cT S c a st=M (o,e?)/\(∀id,o≠.exit id)/\kS e? rs=M (.own d::ys.map .v)/\bh e?.m d=M ob:=by
 rw[qa]at h;have⟨⟨o,e?⟩,b,u⟩:=ζg.1 h;have z:∀id,o≠.exit id:=by rintro id rfl;simp[Ko]at u
 have B:_l (kS e? rs) (λl=>match l with|.own d::r=>_l (bh e?.m d) λob=>(dw r).map λys=>(ob,ys)|_=>G)=M (ob,ys):=by cases o with|exit id=>exact _c Y (z id)|norm=>exact u|ret=>exact u
 have⟨l,C,w⟩:=ζg.1 B;split at w;have⟨D,j,I⟩:=ζg.1 w;have⟨q,J,L⟩:=ζf.1 I;cases L;exact⟨o,e?,_,b,z,by rw[C,Bo J],j⟩;cases w
structure Tm(S:Sys)(c:cg){δ ε:Type}[bB δ][gT ε](m:Option (Sl δ×ε))where
 n:FuncId
 az:List V
 k:S.E.keep n=true
 o:S.E.own n=true
 h:∀s r,m=some (s,r)->∃e m',c n (az.map .v) []=some (.own e::(gT.e r).map .v,m')/\bh m' e=some (cG s)
 sc:∀x:δ,(cells x).all V.scalar=true
 sr:∀r:ε,V.c6 (gT.e r)=true
abbrev Tm.mk'{S:Sys}{T:rW}{δ ε:Type}[bB δ][gT ε]{m:aY (Sl δ×ε)}(fn:FuncId)(az:aX V)(h:Le (m.bind λr=>M (cG r.1,gT.e r.2)) (bZ S (dB S T) (Ko (tr T fn)) (.rc (tb T fn),[],start (az.map .v) [])))
 (B:(T fn).isSome=O:=by kernel_rfl)(b:S.E.keep fn=O:=by kernel_rfl)(D:S.E.own fn=O:=by kernel_rfl)(J:ble (W az) (oI (T fn)).na=O:=by kernel_rfl)
 (sc:∀x:δ,(cells x).all V.scalar=O:=by intro x;rfl)(sr:∀r:ε,V.c6 (gT.e r)=O:=by intro r;rfl):Tm S (dB S T) m where
 n:=fn
 az:=az
 k:=b
 o:=D
 sc:=sc
 sr:=sr
 h s r w:=by have u:=A5 B;have a:=h (cG s,gT.e r) (by rw[w];rfl);change mj S (dB S T) (Ko (oI (T fn)).rs) (oI (T fn)).body [] (start (az.map .v) [])=M (cG s,gT.e r)at a;have⟨o,e?,d,g1,g2,g3,g4⟩:=adz a;refine⟨d,e?.m,?_,g4⟩;rw[uP u];unfold o9;rw[J0 (by simpa using Nat.le_of_ble_eq_true J),g1];cases o with|exit id=>exact _c Y (g2 id)|norm=>simp only[g3,B?]|ret=>simp only[g3,B?]
def AS{δ ε:Type}(p:Sl δ×ε):aY (Sl δ×ε):=p.1.whole.map λs=>(s,p.2)
theorem acE{S:Sys}{c:cg}{β γ δ ε:Type}[bB δ][gT ε]{Q:Out×St->aY β}{e:γ->aY β}{cf:Cf}{m:aY (Sl δ×ε)}(F:Tm S c m)(n u:Nat){f:Sl δ×ε->aY γ}
 (h:∀x,m.bind AS=M x->Le ((f x).bind e) (bZ S c Q (nx S c n cf λq=>{q.st with g:=bE q.st.g u (zR (.own u::(gT.e x.2).map .v)),m:=bE q.st.m u (cG x.1)})))
 (J:(fS S c n cf).map (λq=>(q.d,q.k,(bW S.N q.st.g q.az).bind mc,(!q.dr||q.now),q.st.new u))=M (M u,.c,M (F.n,F.az.map .v),O,O):=by kernel_rfl):Le (((m.bind AS).bind f).bind e) (bZ S c Q cf):=by
 obtain⟨q,L,b⟩:=eF J;simp only[ζc]at b;obtain⟨b__,T,c__,W,B⟩:=b;obtain⟨C,g1,g2⟩:=ζg.1 c__;refine rK L ?_ h;rw[b__,T];intro y D;obtain⟨⟨X,r⟩,a__,D⟩:=ζg.1 D;cases D;obtain⟨⟨s,I⟩,Y,w⟩:=ζg.1 a__;unfold AS at w;obtain⟨k,w,Z⟩:=ζf.1 w;cases Z;obtain⟨e0,m',d,i⟩:=F.h s I Y;rw[vM q.dr _ _ _ _ _ C F.n (F.az.map .v) g1 g2];have z:eU S c (M u) q.dr (!q.dr||q.now) (e_ q.st.m q.fr) F.n (F.az.map .v) q.st=M (zR (.own u::(gT.e I).map .v),{q.st with m:=bE q.st.m u (cG X)}):=by unfold eU;simp only[F.k,F.o,L',W,rY,d,dw,kP,i,cG,B];cases s with|nil=>cases w;simp only[Sl.k,F.sr,B,Bool.and_self,L'];rfl|emp=>cases w;simp only[Sl.k,F.sr,B,Bool.and_self,L'];rfl|row l=>cases w;have:lM (rows l)=O:=(by unfold lM;rw[M?];intro x j;obtain⟨a,_,rfl⟩:=mem_map.1 j;exact F.sc a);simp only[Sl.k,Sl.l,F.sr,this,Bool.and_self,B,L']|part l=>cases w
 rw[z];rfl
section
variable{S:Sys}{c:cg}{β γ δ α:Type}{Q:Out×St->aY β}{e:γ->aY β}{cf:Cf}
end
def HO(rs:Pi)(B:ST):Out×St->aY (So×dK)
 |(.exit _,_)=>G|(_,st)=>_l (kS st rs) λl=>_l (dw l) λys=>(l8 st.m B).map λos=>(ys,os)
theorem goK{S:Sys}{c:cg}{rs:Pi}{B:ST}{a:RC}{st:St}{os:dK}{ys:So}(h:mj S c (HO rs B) a [] st=M (ys,os)):∃o e?,cT S c a st=M (o,e?)/\(∀id,o≠.exit id)/\kS e? rs=M (ys.map .v)/\l8 e?.m B=M os:=by
 rw[qa]at h;have⟨⟨o,e?⟩,b,u⟩:=ζg.1 h;have w:∀id,o≠.exit id:=by rintro id rfl;simp[HO]at u
 have z:_l (kS e? rs) (λl=>_l (dw l) λys=>(l8 e?.m B).map λos=>(ys,os))=M (ys,os):=by cases o with|exit id=>exact _c Y (w id)|norm=>exact u|ret=>exact u
 have⟨l,C,D⟩:=ζg.1 z;have⟨j,d,I⟩:=ζg.1 D;have⟨q,J,L⟩:=ζf.1 I;cases L;exact⟨o,e?,b,w,by rw[C,Bo d],J⟩
def rL:Tb bD->dK->Tb bD
 |m,[]=>m|m,(d,ob)::r=>rL (bE m d ob) r
theorem LU{m':dK}{D:ST}:∀{B:ST}{os m:dK},l8 m' B=M os->(os.all λx=>within D x.2)=O->zX D m' B m=M (rL m os)
 |[],os,m,h,_=>by cases h;rfl|k::B,os,m,h,hp=>by simp only[l8]at h;split at h;(next v t a J=>cases h;simp only[c!,ζh]at hp;simp only[zX,a,hp.1,L',rL];exact LU J hp.2);cases h
theorem back_eq{m':dK}{B:ST}{os m:dK}(h:l8 m' B=M os)(hp:(os.all λx=>within B x.2)=O):lY m' B m=M (rL m os):=LU h hp
structure tH(S:Sys)(c:cg){δ:Type}(m:Option δ)where
 n:FuncId
 az:List SV
 os:dK
 E:δ->List V
 M:δ->dK
 k:S.E.keep n=true
 o:S.E.own n=false
 q:(S.prm n).isNone=true
 h:∀r,m=some r->∃m',c n az os=some ((E r).map .v,m')/\∀m0,lY m' (os.map (·.1)) m0=some (rL m0 (M r))
abbrev tH.mk'{S:Sys}{T:rW}{δ:Type}{m:aY δ}(fn:FuncId)(az:aX SV)(os:dK)(E:δ->aX V)(M:δ->dK)(h:Le (m.bind λr=>_h (E r,M r)) (bZ S (dB S T) (HO (tr T fn) (os.map (·.1))) (.rc (tb T fn),[],start az os)))
 (B:(T fn).isSome=O:=by kernel_rfl)(b:S.E.keep fn=O:=by kernel_rfl)(D:S.E.own fn=U:=by kernel_rfl)(J:(S.prm fn).isNone=O:=by kernel_rfl)(d:ble (W az) (oI (T fn)).na=O:=by kernel_rfl)
 (hp:∀r,((M r).all λx=>within (os.map (·.1)) x.2)=O:=by intro r;kernel_rfl):tH S (dB S T) m where
 n:=fn
 az:=az
 os:=os
 E:=E
 M:=M
 k:=b
 o:=D
 q:=J
 h r hr:=by have u:=A5 B;have a:=h (E r,M r) (by rw[hr];rfl);change mj S (dB S T) (HO (oI (T fn)).rs (os.map (·.1))) (oI (T fn)).body [] (start az os)=_h (E r,M r)at a;have⟨o,e?,g1,g2,g3,g4⟩:=goK a;refine⟨e?.m,?_,λw=>back_eq g4 (hp r)⟩;rw[uP u];unfold o9;rw[J0 (Nat.le_of_ble_eq_true d),g1];cases o with|exit id=>exact _c Y (g2 id)|norm=>simp only[g3,B?]|ret=>simp only[g3,B?]
section
variable{S:Sys}{c:cg}{β γ δ:Type}{Q:Out×St->aY β}{e:γ->aY β}{cf:Cf}
theorem A1(n:Nat){m:aY δ}(F:tH S c m){f:δ->aY γ}(h:∀x,m=M x->Le ((f x).bind e) (bZ S c Q (nx S c n cf λp=>c8 {p.st with m:=rL p.st.m (F.M x)} p.d (.v (result (F.E x))))))
 (B:(fS S c n cf).map (λp=>(p.k,((bW S.N p.st.g p.az).bind mc).bind λq=>(handed p.st.m q.2).map λos=>(q.1,q.2,os),p.dr))=M (.c,M (F.n,F.az,F.os),U):=by kernel_rfl):Le ((m.bind f).bind e) (bZ S c Q cf):=by
 have⟨p,z,a⟩:=eF B;simp only[ζc]at a;have⟨C,D,d⟩:=a;have⟨q,g1,g2⟩:=ζg.1 D;have⟨u,g3,g4⟩:=ζg.1 g1;have⟨os,g5,g6⟩:=ζf.1 g2;simp only[ζc]at g6;obtain⟨e1,e2,rfl⟩:=g6;refine rK z ?_ h;rw[C,d,vM _ _ _ _ _ _ u q.1 q.2 g3 g4];intro y w;have⟨r,b,w⟩:=ζg.1 w;cases w;have⟨m',k1,k2⟩:=F.h r b;have I:S.prm F.n=G:=by have:=F.q;cases J:S.prm F.n with|none=>rfl|some _=>rw[J]at this;cases this
 have:eU S c p.d U (!U||p.now) (e_ p.st.m p.fr) q.1 q.2 p.st=M (.v (result (F.E r)),{p.st with m:=rL p.st.m (F.M r)}):=by unfold eU;rw[e1,e2]at *;simp only[F.k,F.o,I,g5,k1,kP,k2,L',Bool.not_false,Bool.true_or,Bool.false_and,v?,M']
 rw[this];rfl
instance:Key U' where
 kk:=.str
 ok _:=rfl
 eq a b:=by show M (a==b)=M (_p (a=b));rw[show(a==b)=_p (a=b)from Bool.eq_iff_iff.2 (by cases a;cases b;rename_i x y;show(x==y)=O↔_;simp)]
def Ip(s:Sl U8):U':=lB (s.l.map U8.v)
theorem MB:∀l:aX U8,nM (rows l)=M (l.map U8.v)
 |[]=>rfl|a::l=>by show(nM (rows l)).map (a.v::·)=_;rw[MB l];rfl
theorem Xt(n u:Nat)(s:Sl U8){m:aY β}(h:Le m (bZ S c Q (nx S c n cf λp=>c8 p.st p.d (.v (.str (Ip s))))))
 (B:(fS S c n cf).map (λp=>(p.k,bW S.N p.st.g p.az,bh p.st.m u,p.dr))=M (.b,M [.own u],M (cG s),U):=by kernel_rfl):Le m (bZ S c Q cf):=by
 have⟨p,z,a⟩:=eF B;simp only[ζc]at a;have⟨C,D,d,I⟩:=a;refine sK z ?_ h;rw[C,I];have J:_l (jB p.st.m 1 (.own u)) (λL=>(nM L).map λl=>((SV.v (.str (lB l)),p.st):SV×St))=M (.v (.str (Ip s)),p.st):=by have j:nM (rows s.l)=M (s.l.map U8.v):=MB _;have w:jB p.st.m 1 (.own u)=M (rows s.l):=(by unfold jB;simp only[d];cases s<;>rfl);rw[w];show((nM (rows s.l)).map λl=>_)=_;rw[j];rfl
 unfold gA oa;have T:gL S.N p.st.g ⟨p.d,G,p.now,.b,p.az,[],[]⟩=G:=rfl;simp only[wanted,T,D,v?,M',J];rfl
end
def Pf(rs:Pi)(B:ST):Out×St->aY (bD×So×dK)
 |(.exit _,_)=>G|(_,st)=>_l (kS st rs) λl=>match l with
  |.own d::r=>if B.contains d then G else(bh st.m d).bind λob=>_l (dw r) λys=>(l8 st.m B).map λos=>(ob,ys,os)|_=>G
theorem goR{S:Sys}{c:cg}{rs:Pi}{B:ST}{a:RC}{st:St}{ob:bD}{ys:So}{os:dK}(h:mj S c (Pf rs B) a [] st=M (ob,ys,os)):
 ∃o e? d,cT S c a st=M (o,e?)/\(∀id,o≠.exit id)/\kS e? rs=M (.own d::ys.map .v)/\B.contains d=U/\bh e?.m d=M ob/\l8 e?.m B=M os:=by
 rw[qa]at h;have⟨⟨o,e?⟩,b,w⟩:=ζg.1 h;have D:∀id,o≠.exit id:=by rintro id rfl;simp[Pf]at w
 have j:_l (kS e? rs) (λl=>match l with|.own d::r=>if B.contains d then G else(bh e?.m d).bind λob=>_l (dw r) λys=>(l8 e?.m B).map λos=>(ob,ys,os)|_=>G)=M (ob,ys,os):=by cases o with|exit id=>exact _c Y (D id)|norm=>exact w|ret=>exact w
 have⟨l,I,u⟩:=ζg.1 j;split at u
 .split at u
  .cases u
  rename_i e;have⟨J,L,y⟩:=ζg.1 u;have⟨a__,Q,T⟩:=ζg.1 y;have⟨q,z,C⟩:=ζf.1 T;cases C;exact⟨o,e?,_,b,D,by rw[I,Bo Q],by simpa using e,L,z⟩
 cases u
structure FcR(S:Sys)(c:cg){δ ε:Type}[bB δ][gT ε](m:Option (Sl δ×ε))where
 n:FuncId
 az:List SV
 os:dK
 M:Sl δ×ε->dK
 k:S.E.keep n=true
 o:S.E.own n=false
 q:(S.prm n).isNone=true
 h:∀r,m=some r->∃e m',c n az os=some (.own e::(gT.e r.2).map .v,m')/\bh m' e=some (cG r.1)/\(os.map (·.1)).contains e=false/\∀m0,lY m' (os.map (·.1)) m0=some (rL m0 (M r))
abbrev FcR.mk'{S:Sys}{T:rW}{δ ε:Type}[bB δ][gT ε]{m:aY (Sl δ×ε)}(fn:FuncId)(az:aX SV)(os:dK)(M:Sl δ×ε->dK)
 (h:Le (m.bind λr=>_h (cG r.1,gT.e r.2,M r)) (bZ S (dB S T) (Pf (tr T fn) (os.map (·.1))) (.rc (tb T fn),[],start az os)))
 (B:(T fn).isSome=O:=by kernel_rfl)(b:S.E.keep fn=O:=by kernel_rfl)(D:S.E.own fn=U:=by kernel_rfl)(J:(S.prm fn).isNone=O:=by kernel_rfl)(j:ble (W az) (oI (T fn)).na=O:=by kernel_rfl)
 (hp:∀r,((M r).all λx=>within (os.map (·.1)) x.2)=O:=by intro r;kernel_rfl):FcR S (dB S T) m where
 n:=fn
 az:=az
 os:=os
 M:=M
 k:=b
 o:=D
 q:=J
 h r hr:=by have u:=A5 B;have a:=h (cG r.1,gT.e r.2,M r) (by rw[hr];rfl);change mj S (dB S T) (Pf (oI (T fn)).rs (os.map (·.1))) (oI (T fn)).body [] (start az os)=_h (cG r.1,gT.e r.2,M r)at a;have⟨o,e?,d,g1,g2,g3,g4,g5,g6⟩:=goR a;refine⟨d,e?.m,?_,g5,g4,λw=>back_eq g6 (hp r)⟩;rw[uP u];unfold o9;rw[J0 (Nat.le_of_ble_eq_true j),g1];cases o with|exit id=>exact _c Y (g2 id)|norm=>simp only[g3,B?]|ret=>simp only[g3,B?]
section
variable{S:Sys}{c:cg}{β γ:Type}{Q:Out×St->aY β}{e:γ->aY β}{cf:Cf}
end
structure aar(S:Sys)(c:cg){α δ:Type}[bB δ](fn:FuncId)(A:α->List V)(p:α->Option (Sl δ)):Prop where
 k:S.E.keep fn=true
 o:S.E.own fn=false
 q:(S.prm fn).isNone=true
 h:∀z s,p z=some s->∃e m',c fn ((A z).map .v) []=some ([.own e],m')/\bh m' e=some (cG s)
theorem aar.mk'{S:Sys}{T:rW}{α δ:Type}[bB δ](rf:RF){fn:Y'}{A:α->So}{p:α->aY (Sl δ)}(h:∀z,Le (_l (p z) λr=>M (cG r)) (bZ S (dB S T) (Fs rf.rs) (.rc rf.body,[],start ((A z).map .v) [])))
 (B:T fn=M rf:=by kernel_rfl)(b:S.E.keep fn=O:=by kernel_rfl)(D:S.E.own fn=U:=by kernel_rfl)(J:(S.prm fn).isNone=O:=by kernel_rfl)(j:∀z,W (A z)<=rf.na:=by intro z;exact Nat.le_of_ble_eq_true (by kernel_rfl)):aar S (dB S T) fn A p where
 k:=b
 o:=D
 q:=J
 h z s u:=by have a:=h z (cG s) (by rw[u];rfl);change mj S (dB S T) (Fs rf.rs) rf.body [] (start ((A z).map .v) [])=M (cG s)at a;have⟨o,e?,d,g1,g2,g3,g4⟩:=goO a;refine⟨d,e?.m,?_,g4⟩;rw[uP B];unfold o9;rw[J0 (by simpa using j z),g1];cases o with|exit id=>exact _c Y (g2 id)|norm=>simp only[g3,B?]|ret=>simp only[g3,B?]
theorem L6:∀l:So,SV.uM (l.map .v)=[]
 |[]=>rfl|a::l=>by simp only[P?,SV.uM,SV.CF,L6 l,J!]
theorem GB{m:Tb bD}(l:So):handed m (l.map .v)=M []:=by unfold handed;rw[L6];rfl
section
variable{S:Sys}{c:cg}{β γ δ α:Type}[bB δ]{Q:Out×St->aY β}{e:γ->aY β}{cf:Cf}
end
def VO(s:Nat)(v:SV)(cf:Cf):Cf:=(cf.1,cf.2.1,{cf.2.2 with g:=bE cf.2.2.g s v})
section
variable{S:Sys}{c:cg}{β γ δ:Type}{Q:Out×St->aY β}{e:γ->aY β}{cf:Cf}
theorem kB(n s:Nat){v B:V}(a:v=B){m:aY β}(h:Le m (bZ S c Q (VO s (.v B) (kf S c n cf))))
 (D:(gW S c n cf.1 cf.2.1 cf.2.2).map (λp=>bh p.2.2.g s)=M (M (.v v)):=by kernel_rfl):Le m (bZ S c Q cf):=by
 subst a;have⟨p,u,a⟩:=eF D;have b:kf S c n cf=p:=by unfold kf;grind
 rw[b]at h;refine Ca u ?_;have:VO s (.v v) p=p:=by unfold VO;rw[rS a]
 rw[this]at h;exact h
end
def dY{α δ:Type}(b:(α->aY δ)->α->aY δ):Nat->α->aY δ
 |0,_=>G|n+1,z=>b (dY b n) z
theorem iG.fix{S:Sys}{c:cg}{α δ:Type}{fn:Y'}{A:α->So}{E:δ->So}{sc:X'}{b:(α->aY δ)->α->aY δ}(a:S.E.keep fn=U)(B:sc=O->∀r,(result (E r)).scalar=O)
 (h:∀r,iG S c fn A E r sc->∀z,Le (_l (b r z) λr=>M (E r)) (kM c fn (A z))):∀n,iG S c fn A E (dY b n) sc
 |0=>⟨a,λ_=>Le.none _,B⟩|n+1=>⟨a,h _ (iG.fix a B h n),B⟩
structure Da(S:Sys)(c:cg){α δ:Type}(fn:FuncId)(A:α->List SV)(O:α->dK)(E:δ->List V)(M:α->δ->dK)(p:α->Option δ):Prop where
 k:S.E.keep fn=true
 o:S.E.own fn=false
 q:(S.prm fn).isNone=true
 h:∀z r,p z=some r->∃m',c fn (A z) (O z)=some ((E r).map .v,m')/\∀m0,lY m' ((O z).map (·.1)) m0=some (rL m0 (M z r))
abbrev tH.of{S:Sys}{c:cg}{α δ:Type}{fn:FuncId}{A:α->aX SV}{O:α->dK}{E:δ->aX V}{M:α->δ->dK}{p:α->aY δ}(z:α)(F:Da S c fn A O E M p):tH S c (p z):=⟨fn,A z,O z,E,M z,F.k,F.o,F.q,F.h z⟩
theorem Da.fix{S:Sys}{c:cg}{α δ:Type}{fn:Y'}{A:α->R'}{O:α->dK}{E:δ->So}{M:α->δ->dK}{b:(α->aY δ)->α->aY δ}(k:S.E.keep fn=_k)(o:S.E.own fn=U)(q:(S.prm fn).isNone=_k)
 (h:∀r,Da S c fn A O E M r->∀z B,b r z=_h B->∃m',c fn (A z) (O z)=_h ((E B).map .v,m')/\∀D,lY m' ((O z).map (·.1)) D=_h (rL D (M z B))):∀n,Da S c fn A O E M (dY b n)
 |0=>⟨k,o,q,λ_ _ h=>by cases h⟩|n+1=>⟨k,o,q,h _ (Da.fix k o q h n)⟩
structure Ba(S:Sys)(c:cg){α σ:Type}[bB α](cl:SV)(g:FuncId)(e:List SV)(os:σ->dK)(p:α->σ->Option (Bool×σ)):Prop where
 cs:∀vs,mc (cl::vs)=some (g,vs++e)
 hd:∀(s:σ)(a:V),handed (os s) [.v a,cl]=some (os s)
 tk:∀s s',l8 (os s') ((os s).map (·.1))=some (os s')
 wi:∀s s',((os s').all λx=>within ((os s).map (·.1)) x.2)=true
 put:∀s s',rL (os s) (os s')=os s'
 h:∀x s r,p x s=some r->∀(dst:Option Nat)(old:List SV->Bool)(st:St),st.m=os s->eU S c dst false true old g (.v (enc x)::e) st=some (.v (.bool r.1),{st with m:=os r.2})
section
variable{S:Sys}{c:cg}{α σ:Type}[bB α]{g:Y'}
theorem Ba.ofP{e:So}{p:α->aY X'}(F:me S c g [] e (λz:α=>[enc z]) (λr:X'=>[.bool r]) p O):Ba S c (.v (.clo g [] e)) g (e.map .v) (λ_:Unit=>[]) (λx u=>(p x).map λb=>(b,u))where
 cs vs:=rfl
 hd s a:=GB [a,.clo g [] e]
 tk _ _:=rfl
 wi _ _:=rfl
 put _ _:=rfl
 h x s r hr dst C st w:=by obtain⟨b,D,rfl⟩:=ζf.1 hr;have B:kM c g (enc x::e)=M [.bool b]:=F.f.h x [.bool b] (by rw[D];rfl);have e1:{st with m:=([]:dK)}=st:=(by cases st;simp only at w;subst w;rfl);rw[e1];unfold kM at B;have⟨⟨rs,m'⟩,d,j⟩:=ζg.1 B;have f:=F.f.k;unfold eU;have I:dz st.m 8 (.v (enc x)::e.map .v)=M (enc x::e):=rY 8 (enc x::e);simp only[f,I,d,j,v?,M',Bool.true_or,L',result,V.scalar]
theorem Ba.ofK{e:R'}{os:σ->dK}{p:α->σ->aY (X'×σ)}[Inhabited α][Inhabited σ](F:∀x s,tH S c (p x s))(J:∀x s,(F x s).n=g:=by intro _ _;kernel_rfl)(T:∀x s,(F x s).az=.v (enc x)::e:=by intro _ _;kernel_rfl)(D:∀x s,(F x s).os=os s:=by intro _ _;kernel_rfl)
 (q:∀x s,(F x s).E=λr=>[.bool r.1]:=by intro _ _;kernel_rfl)(d:∀x s,(F x s).M=λr=>os r.2:=by intro _ _;kernel_rfl)
 (hd:∀s:σ,l8 (os s) (reach (os s) 32 (SV.uM e) [])=M (os s):=by intro _;kernel_rfl)
 (tk:∀s B,l8 (os B) ((os s).map (·.1))=M (os B):=by intro _ _;kernel_rfl)(wi:∀s B,((os B).all λx=>within ((os s).map (·.1)) x.2)=O:=by intro _ _;kernel_rfl)(put:∀s B,rL (os s) (os B)=os B:=by intro _ _;kernel_rfl):Ba S c (.clo g [] e) g e os p where
 cs vs:=rfl
 hd s a:=by have:SV.uM [.v a,.clo g [] e]=SV.uM e:=(by simp[SV.uM,SV.CF]);unfold handed;rw[this];exact hd s
 tk:=tk
 wi:=wi
 put:=put
 h x s r hr dst j st u:=by have⟨m',k1,k2⟩:=(F x s).h r hr;have b:=(F x s).k;have w:=(F x s).o;have z:S.prm (F x s).n=G:=(by have:=(F x s).q;cases I:S.prm (F x s).n with|none=>rfl|some _=>rw[I]at this;cases this);rw[J]at b w z k1;rw[T,D,q]at k1;rw[D,d]at k2;have C:handed st.m (.v (enc x)::e)=M (os s):=(by rw[u];exact hd s);have k2:=k2 (os s);rw[put]at k2;rw[<-u]at k2;unfold eU;rw[u]at C k2⊢;simp only[b,w,z,C,k1,k2,kP,P?,Y!,dw,B?,L',Bool.false_and,v?,M',result]
end
def GA{α σ:Type}(s0:Sl α)(p:α->σ->aY (X'×σ))(q:Int×σ):aY (Fw (Int×σ) σ (Int×σ)):=bg (_p (q.1<len s0)) (_l (idx s0 q.1) λx=>_l (p x q.2) λy=>bg y.1 (M (.r (q.1,y.2))) (M (.n (y? _o (q.1+1),y.2)))) (M (.x q.2))
def VL{α σ:Type}(s0:Sl α)(p:α->σ->aY (X'×σ))(x:σ):aY (Int×σ):=_l (bM (GA s0 p) (0,x)) (Fw.elim (λe=>M (-1,e)) λe=>M e)
def C4{α σ:Type}(s0:Sl α)(p:α->σ->aY (X'×σ))(x:σ):aY (X'×σ):=_l (VL s0 p x) λy=>M (_p (y.1>=0),y.2)
section
variable{S:Sys}{c:cg}{α σ β γ:Type}[bB α]{g:Y'}{Q:Out×St->aY β}{e:γ->aY β}{cf:Cf}
theorem SK(n:Nat){a:SV}{ex:R'}{os:σ->dK}{p:α->σ->aY (X'×σ)}(F:Ba S c a g ex os p)(x:α)(s:σ){f:X'×σ->aY γ}(h:∀r,p x s=M r->Le ((f r).bind e) (bZ S c Q (nx S c n cf λq=>c8 {q.st with m:=os r.2} q.d (.v (.bool r.1)))))
 (B:(fS S c n cf).map (λq=>(q.k,bW S.N q.st.g q.az,q.dr,q.st.m))=M (.c,M [a,.v (enc x)],U,os s):=by kernel_rfl):Le (((p x s).bind f).bind e) (bZ S c Q cf):=by
 have⟨q,w,b⟩:=eF B;simp only[ζc]at b;have⟨d,z,C,D⟩:=b;refine rK w ?_ h;rw[d,C,vM _ _ _ _ _ _ _ g ([.v (enc x)]++ex) z (F.cs [.v (enc x)])];intro y u;have⟨r,i,u⟩:=ζg.1 u;cases u;have:=F.h x s r i q.d (e_ q.st.m q.fr) q.st D;rw[show(!U||q.now)=O from rfl,List.singleton_append,this];rfl
theorem Mj{a:SV}{ex:R'}{os:σ->dK}{p:α->σ->aY (X'×σ)}(F:Ba S c a g ex os p){rs:Pi}{st:St}{s B:σ}{ys:So}(b:kS st rs=M (ys.map .v))(D:st.m=os B):HO rs ((os s).map (·.1)) (.ret,st)=M (ys,os B):=by show(_l (kS st rs) λl=>_l (dw l) λys=>(l8 st.m ((os s).map (·.1))).map λos=>(ys,os))=_;rw[b,D,F.tk s B];simp only[ζb,kP,B?]
theorem Kn(n:Nat){b:SV}{ex:R'}{os:σ->dK}{p:α->σ->aY (X'×σ)}(F:Ba S c b g ex os p){rs:Pi}{s B:σ}{r:γ}{e:γ->aY (So×dK)}(ys:So)(D:e r=M (ys,os B))
 (J:(gW S c n cf.1 cf.2.1 cf.2.2).map (λq=>(q.1,kS q.2.2 rs,q.2.2.m))=M (.rt,M (ys.map .v),os B):=by kernel_rfl):Le (_l (M r) e) (bZ S c (HO rs ((os s).map (·.1))) cf):=by
 have⟨⟨fo,fs,e?⟩,u,a⟩:=eF J;simp only[ζc]at a;obtain⟨rfl,w,z⟩:=a;refine Ca u (Le.of_eq ?_);show rn S c _ Fo.rt fs e?=e r;rw[D];exact Mj F w z
theorem Oq(n:Nat){δ:Type}{m:aY δ}(F:tH S c m)(D:handed F.os F.az=M F.os)(hp:∀x,rL F.os (F.M x)=F.M x){f:δ->aY γ}(h:∀x,m=M x->Le (_l (f x) e) (bZ S c Q (nx S c n cf λp=>c8 {p.st with m:=F.M x} p.d (.v (result (F.E x))))))
 (J:(fS S c n cf).map (λp=>(p.k,_l (bW S.N p.st.g p.az) mc,p.dr,p.st.m))=M (.c,M (F.n,F.az),U,F.os):=by kernel_rfl):Le (_l (m.bind f) e) (bZ S c Q cf):=by
 have⟨p,u,a⟩:=eF J;simp only[ζc]at a;have⟨C,d,I,B⟩:=a;have⟨w,g3,g4⟩:=ζg.1 d;refine rK u ?_ h;rw[C,I,vM _ _ _ _ _ _ w F.n F.az g3 g4];intro y z;have⟨r,b,z⟩:=ζg.1 z;cases z;have⟨m',k1,k2⟩:=F.h r b;have u:S.prm F.n=G:=by have:=F.q;cases L:S.prm F.n with|none=>rfl|some _=>rw[L]at this;cases this
 have k2:=k2 p.st.m;rw[B,hp]at k2;have:eU S c p.d U (!U||p.now) (e_ p.st.m p.fr) F.n F.az p.st=M (.v (result (F.E r)),{p.st with m:=F.M r}):=by unfold eU;rw[B];simp only[F.k,F.o,u,D,k1,k2,kP,L',Bool.not_false,Bool.true_or,Bool.false_and,v?,M']
 rw[this];rfl
end
section
variable{S:Sys}{c:cg}{β γ δ α:Type}[bB δ]{Q:Out×St->aY β}{e:γ->aY β}{cf:Cf}
theorem WT(n u:Nat){fn:Y'}{A:α->So}{p:α->aY (Sl δ)}(F:lU S c fn A p)(z:α){f:Sl δ->aY γ}
 (h:∀x,(p z).bind Sl.whole=M x->Le ((f x).bind e) (bZ S c Q (nx S c n cf λq=>{q.st with g:=bE q.st.g u (.own u),m:=bE q.st.m u (cG x)})))
 (T:(fS S c n cf).map (λq=>(q.d,q.k,((bW S.N q.st.g q.az).bind mc).bind λr=>(qp (kg q.st.m 8) r.2).map λvs=>(r.1,vs),(!q.dr||q.now),q.st.new u))=M (M u,.c,M (fn,A z),O,O):=by kernel_rfl):Le ((((p z).bind Sl.whole).bind f).bind e) (bZ S c Q cf):=by
 obtain⟨q,c__,b⟩:=eF T;simp only[ζc]at b;obtain⟨W,X,Y,Z,b__⟩:=b;obtain⟨⟨B,args⟩,D,g3⟩:=ζg.1 Y;obtain⟨a__,g1,g2⟩:=ζg.1 D;obtain⟨vs,g4,g5⟩:=ζf.1 g3;simp only[ζc]at g5;obtain⟨rfl,rfl⟩:=g5;refine rK c__ ?_ h;rw[W,X];intro y I;obtain⟨d,J,I⟩:=ζg.1 I;cases I;obtain⟨s,i,C⟩:=ζg.1 J;obtain⟨e0,m',j,k⟩:=F.h z s i;rw[vM q.dr _ _ _ _ _ a__ B args g1 g2];have L:dz q.st.m 8 args=M (A z):=by rw[(Bg q.st.m 8).2];exact g4
 have w:eU S c (M u) q.dr (!q.dr||q.now) (e_ q.st.m q.fr) B args q.st=M (.own u,{q.st with m:=bE q.st.m u (cG d)}):=by unfold eU;simp only[F.k,F.o,L',Z,L,j,dw,k,cG,b__];cases s with|nil=>cases C;rfl|emp=>cases C;rfl|row l=>cases C;have:lM (rows l)=O:=(by unfold lM;rw[M?];intro x o;obtain⟨a,_,rfl⟩:=mem_map.1 o;exact F.sc a);simp only[Sl.k,Sl.l,dw,V.c6,this,Bool.and_self,b__,L'];rfl|part l=>cases C
 rw[w];rfl
theorem adL{α:Type}[bB α](n:Nat)(l:aX α)(q:xI)(m?:R'){m:aY β}(h:Le m (bZ S c Q (nx S c n cf λp=>c8 p.st p.d (cv (Sl.row l:Sl α)))))
 (B:(fS S c n cf).map (λp=>(p.k,bW S.N p.st.g p.az))=M (.p q,M m?):=by kernel_rfl)(D:isSlice q=U:=by rfl)(hp:∀m,kH S.N m q m?=M (cv (Sl.row l:Sl α)):=by intro m;kernel_rfl):Le m (bZ S c Q cf):=by
 have⟨p,u,a⟩:=eF B;simp only[ζc]at a;refine sK u ?_ h;rw[a.1];exact CE a.2 D (hp _)
theorem acV(n:Nat){fn:Y'}{A:α->So}{p:α->aY (Sl δ)}(F:lU S c fn A p)(z:α){f:Sl δ->aY γ}
 (h:∀x,p z=M x->Le ((f x).bind e) (bZ S c Q (nx S c n cf λq=>c8 q.st q.d (.v (enc x)))))
 (J:(fS S c n cf).map (λq=>(q.k,(bW S.N q.st.g q.az).bind mc,(!q.dr||q.now),e_ q.st.m q.fr []))=M (.c,M (fn,(A z).map .v),U,O):=by kernel_rfl):Le (((p z).bind f).bind e) (bZ S c Q cf):=by
 obtain⟨q,I,b⟩:=eF J;simp only[ζc]at b;obtain⟨L,a__,T,b__⟩:=b;obtain⟨B,g1,g2⟩:=ζg.1 a__;have w:∀d(C:So),SV.dL d (C.map .v)=U:=λd C=>by induction C with|nil=>rfl|cons a l W=>simp[SV.dL,SV.cR,W]
 have X:e_ q.st.m q.fr ((A z).map .v)=O:=by rw[<-b__];unfold e_;simp[w];rfl
 refine rK I ?_ h;rw[L];intro y D;obtain⟨s,Y,D⟩:=ζg.1 D;cases D;obtain⟨e0,m',g,Z⟩:=F.h z s Y;rw[vM q.dr _ _ _ _ _ B fn ((A z).map .v) g1 g2];have j:dz m' 8 [.own e0]=M [cz s]:=by simp only[dz,Vu,Z,Wb]
 have u:eU S c q.d q.dr (!q.dr||q.now) (e_ q.st.m q.fr) fn ((A z).map .v) q.st=M (.v (cz s),q.st):=by unfold eU;simp only[F.k,F.o,L',T,v?,M',X,Bool.true_or,Bool.and_self,rY,g,j,kP,Option.isSome_some,Bool.or_true,result]
 rw[u];rfl
end
def Qw:Out×St->aY S'
 |(.exit _,_)=>G|(_,st)=>M st.want
def yl(B:S')(more:X')(xs:So):aY (X'×S'):=match B with
 |w::r=>open Classical in if w=xs then M (more|| !r.isEmpty,r)else G|[]=>G
section
variable{S:Sys}{c:cg}{β γ:Type}{Q:Out×St->aY β}{e:γ->aY β}{cf:Cf}
theorem Byl(n:Nat){B:S'}{more:X'}(xs:So){f:X'×S'->aY γ}
 (h:∀r,yl B more xs=M r->Le ((f r).bind e) (bZ S c Q (nx S c n cf λq=>c8 {q.st with want:=r.2} q.d (.v (.bool r.1)))))
 (D:(fS S c n cf).map (λq=>(q.k,bW S.N q.st.g q.az,q.st.want,q.st.more,q.dr))=M (.c,M (.yl ((fS S c n cf).elim 0 λq=>q.st.yid)::xs.map .v),B,more,U):=by kernel_rfl):Le (((yl B more xs).bind f).bind e) (bZ S c Q cf):=by
 have⟨q,C,b⟩:=eF D;simp only[ζc]at b;have⟨d,u,j,I,J⟩:=b;rw[C]at u;refine rK C ?_ h;intro y z;have⟨r,a,z⟩:=ζg.1 z;cases z;unfold yl at a;split at a
 .rename_i w a__;split at a
  next L=>cases a;rw[d,J];unfold gA;have u:bW S.N q.st.g q.az=M (.yl q.st.yid::xs.map .v):=u;simp only[wanted,gL,u,kP,j,L,I,L',and_self,v?,M']
  cases a
 cases a
theorem UE{S T:Sys}{c:cg}(Y:T.E=S.E)(e:∀f q,S.prm f=M q->pJ S.E f q)(i:jT S c)(j:∀f a b xs,S.items f a b=M xs->fF S f a b xs){f:Y'}{fi:FI}{nm:Y'->aY Nat}{rf:RF}(c__:S.E.ft f=M fi)(l:∀g s,nm g=M s->S.N s=g)(m:zP S.E nm fi rf){a b:So}{xs:S'}(D:_j a+1+_j b<=rf.na)(W:rf.rs=[])
 (h:∀B more,xW B xs more->∀yid,bZ S c Qw (.rc rf.body,[],⟨yz 0 (a.map .v++.yl yid::b.map .v),[],[],B,more,yid⟩)=M []):fF T f a b xs:=by
 have k:fF S f a b xs:=Oa e i j c__ l m D W (λB more w yid=>by
  have d:=h B more w yid;change mj S c Qw rf.body [] _=M []at d;rw[qa]at d;have⟨⟨o,e?⟩,z,u⟩:=ζg.1 d;refine⟨o,e?,z,?_,?_,_i⟩
  .rintro id rfl;simp[Qw]at u
  cases o<;>simp[Qw]at u<;>exact u)
 have⟨b__,Q,n,A2,prm⟩:=T;simp only at Y;subst Y;intro B more w yid J y Z C a__ H d z u I L;exact k B more w yid J ⟨y.ze,y.yield⟩ Z C a__ H d z u I L
end
section
variable{S:Sys}{c:cg}{β γ α:Type}[bB α]{Q:Out×St->aY β}{e:γ->aY β}{cf:Cf}
end
theorem lU.fix{S:Sys}{c:cg}{α δ:Type}[bB δ]{fn:Y'}{A:α->So}{b:(α->aY (Sl δ))->α->aY (Sl δ)}(k:S.E.keep fn=O)(o:S.E.own fn=O)(sc:∀x:δ,(cells x).all V.scalar=O)
 (h:∀r,lU S c fn A r->∀z s,b r z=M s->∃e m',c fn ((A z).map .v) []=M ([.own e],m')/\bh m' e=M (cG s)):∀n,lU S c fn A (dY b n)
 |0=>⟨k,o,λ_ _ h=>(by cases h),sc⟩|n+1=>⟨k,o,h _ (lU.fix k o sc h n),sc⟩
def Pq(rs:Pi):Out×St->aY (V×bD×So)
 |(.exit _,_)=>G|(_,st)=>_l (kS st rs) λl=>match l with
  |.v p::.own d::r=>_l (bh st.m d) λob=>(dw r).map λys=>(p,ob,ys)|_=>G
theorem goP{S:Sys}{c:cg}{rs:Pi}{a:RC}{st:St}{p:V}{ob:bD}{ys:So}(h:mj S c (Pq rs) a [] st=M (p,ob,ys)):∃o e? d,cT S c a st=M (o,e?)/\(∀id,o≠.exit id)/\kS e? rs=M (.v p::.own d::ys.map .v)/\bh e?.m d=M ob:=by
 rw[qa]at h;have⟨⟨o,e?⟩,b,u⟩:=ζg.1 h;have z:∀id,o≠.exit id:=by rintro id rfl;simp[Pq]at u
 have B:_l (kS e? rs) (λl=>match l with|.v p::.own d::r=>_l (bh e?.m d) λob=>(dw r).map λys=>(p,ob,ys)|_=>G)=M (p,ob,ys):=by cases o with|exit id=>exact _c Y (z id)|norm=>exact u|ret=>exact u
 have⟨l,C,w⟩:=ζg.1 B;split at w;have⟨D,j,I⟩:=ζg.1 w;have⟨q,J,L⟩:=ζf.1 I;cases L;exact⟨o,e?,_,b,z,by rw[C,Bo J],j⟩;cases w
structure Te(S:Sys)(c:cg){α δ ε:Type}[bB δ][gT ε](E1:α->V)(m:Option (α×Sl δ×ε))where
 n:FuncId
 az:List V
 k:S.E.keep n=true
 o:S.E.own n=false
 q:(S.prm n).isNone=true
 h:∀r,m=some r->∃e m',c n (az.map .v) []=some (.v (E1 r.1)::.own e::(gT.e r.2.2).map .v,m')/\bh m' e=some (cG r.2.1)
abbrev Te.mk'{S:Sys}{T:rW}{α δ ε:Type}[bB δ][gT ε]{E1:α->V}{m:aY (α×Sl δ×ε)}(fn:FuncId)(az:aX V)
 (h:Le (m.bind λr=>M (E1 r.1,cG r.2.1,gT.e r.2.2)) (bZ S (dB S T) (Pq (tr T fn)) (.rc (tb T fn),[],start (az.map .v) [])))
 (B:(T fn).isSome=O:=by kernel_rfl)(b:S.E.keep fn=O:=by kernel_rfl)(D:S.E.own fn=U:=by kernel_rfl)(J:(S.prm fn).isNone=O:=by kernel_rfl)(j:ble (W az) (oI (T fn)).na=O:=by kernel_rfl):Te S (dB S T) E1 m where
 n:=fn
 az:=az
 k:=b
 o:=D
 q:=J
 h r hr:=by have u:=A5 B;have a:=h (E1 r.1,cG r.2.1,gT.e r.2.2) (by rw[hr];rfl);change mj S (dB S T) (Pq (oI (T fn)).rs) (oI (T fn)).body [] (start (az.map .v) [])=M (E1 r.1,cG r.2.1,gT.e r.2.2)at a;have⟨o,e?,d,g1,g2,g3,g4⟩:=goP a;refine⟨d,e?.m,?_,g4⟩;rw[uP u];unfold o9;rw[J0 (by simpa using Nat.le_of_ble_eq_true j),g1];cases o with|exit id=>exact _c Y (g2 id)|norm=>simp only[g3,B?]|ret=>simp only[g3,B?]
section
variable{S:Sys}{c:cg}{β γ:Type}{Q:Out×St->aY β}{e:γ->aY β}{cf:Cf}
theorem aav{α δ ε:Type}[bB δ][gT ε]{E1:α->V}(n u:Nat){m:aY (α×Sl δ×ε)}(F:Te S c E1 m){f:α×Sl δ×ε->aY γ}
 (h:∀x,m=M x->Le (_l (f x) e) (bZ S c Q (nx S c n cf λp=>{p.st with g:=bE p.st.g u (.tup (.v (E1 x.1)::.own u::(gT.e x.2.2).map .v)),m:=bE p.st.m u (cG x.2.1)})))
 (D:(fS S c n cf).map (λq=>(q.d,q.k,_l (bW S.N q.st.g q.az) mc,q.dr,q.st.new u))=M (M u,.c,M (F.n,F.az.map .v),U,O):=by kernel_rfl):Le (_l (m.bind f) e) (bZ S c Q cf):=by
 have⟨q,C,a⟩:=eF D;simp only[ζc]at a;have⟨d,I,J,L,j⟩:=a;have⟨z,g1,g2⟩:=ζg.1 J;refine rK C ?_ h;rw[d,I,L];intro y B;have⟨s,T,B⟩:=ζg.1 B;cases B;have⟨e0,m',b,a__⟩:=F.h s T;have W:S.prm F.n=G:=by have:=F.q;cases X:S.prm F.n with|none=>rfl|some _=>rw[X]at this;cases this
 rw[vM _ _ _ _ _ _ z F.n (F.az.map .v) g1 g2];have Y:St.new {q.st with m:=q.st.m} u=O:=j;have w:eU S c (M u) U (!U||q.now) (e_ q.st.m q.fr) F.n (F.az.map .v) q.st=M (.tup (.v (E1 s.1)::.own u::(gT.e s.2.2).map .v),{q.st with m:=bE q.st.m u (cG s.2.1)}):=by unfold eU;simp only[F.k,F.o,W,GB,b,dw,kP,Y!,lY,zX,a__,cG,Y,List.contains_nil,Bool.not_false,Bool.true_or,Bool.false_and,Bool.and_self,L',v?,M',Option.map_none];try rfl
 rw[w];rfl
end
section
variable{α:Type}[bB α]
abbrev A6(s:Sl (Sl α)):bD:=.dp s.k (rows s.l) G
abbrev NV(s:Sl (Sl α))(i:Int)(t:Nat):bD:=.dp s.k (rows s.l) (M (i.toNat,t))
def qK(s:Sl (Sl α))(i:Int)(x:Sl α):Sl (Sl α):=match s with
 |.row l=>.row (l.set i.toNat x)|.part l=>.part (l.set i.toNat x)|s=>s
theorem aaV:_l (idx (Sl.row [(Sl.nil:Sl α)]) 0) Sl.whole=M .nil:=rfl
theorem Oz(s:Sl (Sl α))(i:Int)(x:Sl α):(qK s i x).l=s.l.set i.toNat x/\(qK s i x).k=s.k:=by cases s<;>simp[qK,Sl.l,Sl.k]
theorem Im{s:Sl (Sl α)}{i:Int}{y:Sl α}(h:_l (idx s i) Sl.whole=M y):0<=i/\s.l[i.toNat]?=M y/\y.k≠.part/\b_ s.k=O/\i.toNat<W s.l:=by
 have⟨z,a,u⟩:=ζg.1 h;unfold idx at a;split at a
 .rename_i hi;have w:=(ζe.1 a).1;have b:b_ s.k=O:=(by cases s<;>first|rfl|(simp[Sl.l]at w));cases z with|part l=>cases u|nil=>cases u;exact⟨hi,a,by simp[Sl.k],b,w⟩|emp=>cases u;exact⟨hi,a,by simp[Sl.k],b,w⟩|row l=>cases u;exact⟨hi,a,by simp[Sl.k],b,w⟩
 cases a
theorem Ts{y:Sl α}(h:y.k≠.part):Xs (bB.size α) (cells y)=M (cG y):=by cases y with|nil=>rfl|emp=>rfl|row l=>simp[Uh,cz,kN,Sl.k,Sl.l,Xs,cG]|part l=>exact _c Y h
end
def Ml(fo:Fo)(fs:QP):aY (Gh×Fo×QP):=match fo,fs with
 |.rc (.gh g a),fs=>M (g,.rc a,fs)|.ops U fr (⟨d,gd,now,k,az,dd,x::u⟩::r),fs=>M (x,.ops U fr (⟨d,gd,now,k,az,dd,u⟩::r),fs)|.nx,.gst g::fs=>M (g,.nx,fs)|_,_=>G
def PE(st:St)(l:Loc):Ps:=match PV st l with
 |some (.v (.int _ i))=>M i|_=>G
theorem XM{st:St}{x:Loc}{i:Int}(h:PE st x=M i)(hi:0<=i):Uk st x=M i.toNat:=by
 unfold PE at h;unfold Uk;split at h;next a=>cases h;simp only[a,J0 hi]
 cases h
def gx(S:Sys)(c:cg)(n:Nat)(cf:Cf)(φ:St->St):Cf:=match gW S c n cf.1 cf.2.1 cf.2.2 with
 |some (fo,fs,st)=>match Ml fo fs with
  |some (_,u,n?)=>(u,n?,φ st)|none=>cf
 |none=>cf
section
variable{S:Sys}{c:cg}{β γ δ α:Type}[bB α]{Q:Out×St->aY β}{e:γ->aY β}{cf:Cf}
theorem Bgh{n:Nat}{m:aY β}{φ:St->St}{g:Gh}{fo fo':Fo}{fs n?:QP}{st:St}(a:gW S c n cf.1 cf.2.1 cf.2.2=M (fo,fs,st))(B:Ml fo fs=M (g,fo',n?))(D:ghost g st=M (φ st))
 (h:Le m (bZ S c Q (gx S c n cf φ))):Le m (bZ S c Q cf):=by
 refine Ca a ?_;have u:yT S c fo fs st=M (fo',n?,φ st):=by unfold Ml at B;split at B<;>cases B<;>simp[yT,D]
 show Le m (rn S c Q fo fs st);rw[Kx u];simpa[gx,a,B]using h
theorem R7{n:Nat}{α:Type}{φ:Gh->St->α}{a:α}(h:_l (gW S c n cf.1 cf.2.1 cf.2.2) (λp=>(Ml p.1 p.2.1).map λq=>φ q.1 p.2.2)=M a):
 ∃fo fs st g fo' n?,gW S c n cf.1 cf.2.1 cf.2.2=M (fo,fs,st)/\Ml fo fs=M (g,fo',n?)/\φ g st=a:=by
 have⟨⟨fo,fs,st⟩,b,u⟩:=ζg.1 h;have⟨⟨g,fo',n?⟩,w,z⟩:=ζf.1 u;exact⟨fo,fs,st,g,fo',n?,b,w,z⟩
theorem Sr(n d t:Nat)(x:Loc){s:Sl (Sl α)}{i:Int}{f:Sl α->aY γ}(h:∀y,(idx s i).bind Sl.whole=M y->Le ((f y).bind e) (bZ S c Q (gx S c n cf λst=>{st with m:=bE (bE st.m d (NV s i t)) t (cG y)})))
 (B:(gW S c n cf.1 cf.2.1 cf.2.2).bind (λp=>(Ml p.1 p.2.1).map λq=>(q.1,bh p.2.2.m d,PE p.2.2 x,p.2.2.new t))=M (.take d x (bB.size α) t,M (A6 s),M i,O):=by kernel_rfl):Le ((((idx s i).bind Sl.whole).bind f).bind e) (bZ S c Q cf):=by
 cases u:(idx s i).bind Sl.whole with
 |none=>exact Le.none _|some y=>
  have⟨fo,fs,st,g,z,n?,a,C,w⟩:=R7 (φ:=λg st=>(g,bh st.m d,PE st x,st.new t)) B
  simp only[ζc]at w;obtain⟨rfl,D,j,I⟩:=w;have⟨g1,g2,g3,g4,g5⟩:=Im u;refine Bgh a C ?_ (h y u);show DC d x (bB.size α) t st=_;unfold DC;rw[D,XM j g1];simp only[g4,I,and_self,L'];have:(rows s.l)[i.toNat]?=M (cells y):=by rw[rows,Q?,g2];rfl
  rw[this,ζb,Ts g3];rfl
theorem P7(n d t:Nat){s:Sl (Sl α)}{i:Int}{y D:Sl α}(a:(idx s i).bind Sl.whole=M D){f:Sl α->aY γ}(h:∀z,y.whole=M z->Le ((f z).bind e) (bZ S c Q (gx S c n cf λst=>{st with m:=bE (dH t st.m) d (A6 (qK s i z))})))
 (J:(gW S c n cf.1 cf.2.1 cf.2.2).bind (λp=>(Ml p.1 p.2.1).map λq=>(q.1,bh p.2.2.m d,bh p.2.2.m t,beq t d))=M (.put d,M (NV s i t),M (cG y),U):=by kernel_rfl):Le (((y.whole).bind f).bind e) (bZ S c Q cf):=by
 cases w:y.whole with
 |none=>exact Le.none _|some z=>
  have⟨fo,fs,st,g,C,n?,b,a__,B⟩:=R7 (φ:=λg st=>(g,bh st.m d,bh st.m t,beq t d)) J
  simp only[ζc]at B;obtain⟨rfl,I,L,b__⟩:=B;have⟨g1,g2,g3,g4,g5⟩:=Im a;have T:z=y/\y.k≠.part:=by cases y<;>cases w<;>exact⟨rfl,by simp[Sl.k]⟩
  obtain⟨rfl,j⟩:=T;refine Bgh b a__ ?_ (h z w);show HH d st=_;have u:t≠d:=λe=>by subst e;simp at b__
  unfold HH;rw[I];simp only[L,cG,ne_eq,j,not_false_eq_true,u,g4,and_self,L'];have:(rows s.l).set i.toNat [kN z.k (bB.size α) (rows z.l)]=rows (qK s i z).l:=by rw[(Oz s i z).1];simp[rows,map_set];rfl
  rw[this,<-(Oz s i z).2]
theorem abl(n d t:Nat)(k:T2){s:Sl (Sl α)}{i:Int}{y:Sl α}(b:_l (idx s i) Sl.whole=M y){m:aY β}(h:Le m (bZ S c Q (nx S c n cf λp=>c8 p.st p.d (.el d i.toNat 0))))
 (B:(fS S c n cf).map (λp=>(p.k,bW S.N p.st.g p.az,bh p.st.m d))=M (.p (.idxS 1),M [.own d,.v (.int k i)],M (NV s i t)):=by kernel_rfl):Le m (bZ S c Q cf):=by
 have⟨p,u,a⟩:=eF B;simp only[ζc]at a;have⟨g1,g2,g3,g4,g5⟩:=Im b;refine sK u ?_ h;rw[a.1,PI _ _ _ _ _ _ _ Y,a.2.1,ζb,OS,a.2.2];simp[Lv,g1,g4,g5,gR]
theorem aby(n d t:Nat){s:Sl (Sl α)}{i:Int}{y:Sl α}(b:_l (idx s i) Sl.whole=M y){m:aY β}(h:Le m (bZ S c Q (nx S c n cf λp=>c8 p.st p.d (.own t))))
 (B:(fS S c n cf).map (λp=>(p.k,bW S.N p.st.g p.az,bh p.st.m d,(!p.dr||p.now||eY p.fr [.el d i.toNat 0])))=M (.r (.load 1 U),M [.el d i.toNat 0],M (NV s i t),O):=by kernel_rfl):Le m (bZ S c Q cf):=by
 have⟨p,u,a⟩:=eF B;simp only[ζc]at a;refine sK u ?_ h;rw[a.1,zW,a.2.1,ζb,a.2.2.2,J0 Y,WW,a.2.2.1];simp[GS]
theorem adK(n u t:Nat){m:aY β}(h:Le m (bZ S c Q (nx S c n cf λp=>{p.st with g:=bE p.st.g u (.own u),m:=bE p.st.m u (NV (Sl.row [(Sl.nil:Sl α)]) 0 t)})))
 (B:(fS S c n cf).map (λp=>(p.d,p.k,bW S.N p.st.g p.az,p.st.new u,(bh p.st.m t).isSome))=M (M u,.a (.buildSl 1 1 [.bG] [0]),M [.own t],O,O):=by kernel_rfl):Le m (bZ S c Q cf):=by
 have⟨p,w,a⟩:=eF B;simp only[ζc]at a;refine sK w ?_ h;rw[a.1,a.2.1,yO,a.2.2.1,ζb,J0 a.2.2.2.1];have:nG p.st.m (.buildSl 1 1 [.bG] [0]) [.own t] u=M (NV (.row [(.nil:Sl α)]) 0 t,.own u):=by unfold nG;simp only[dw,and_self,true_and];rw[J0 a.2.2.2.2];rfl
 rw[this];rfl
theorem ab4(n d u t:Nat){s:Sl (Sl α)}{x:Sl α}{f:Sl (Sl α)->aY γ}(h:∀B,ec s x=M B->Le ((f B).bind e) (bZ S c Q (nx S c n cf λp=>{p.st with g:=bE p.st.g t (.own t),m:=bE (dH u (dH d p.st.m)) t (A6 B)})))
 (D:(fS S c n cf).map (λp=>(p.d,p.k,bW S.N p.st.g p.az,bh p.st.m d,bh p.st.m u,(!p.dr||p.now),beq d u,St.new {p.st with m:=dH u (dH d p.st.m)} t))=M (M t,.l (.append 1),M [.own d,.own u],M (A6 s),M (A6 (.row [x])),O,U,O):=by kernel_rfl):Le (((ec s x).bind f).bind e) (bZ S c Q cf):=by
 have⟨p,j,a⟩:=eF D;simp only[ζc]at a;have⟨I,J,L,z,C,q,T,y⟩:=a;have w:d≠u:=λe=>by subst e;simp at T
 refine rK j ?_ h;rw[I,J,xm,L,ζb,q,J0 rfl];have:mM p.st (M t) (.append 1) [.own d,.own u]=Dq p.st (M t) 1 (.own d) (.own u):=by unfold mM;simp[jB,z,C]
 have W:rows (Sl.row [x]).l≠[]:=by simp[Sl.l,rows]
 have Y:(rows (Sl.row [x]).l).length=1:=rfl;have b:rows s.l++rows (Sl.row [x]).l=rows (s.l++[x]):=by simp[rows,Sl.l]
 have X:Dq p.st (M t) 1 (.own d) (.own u)=(ec s x).bind λB=>M (.own t,{p.st with m:=bE (dH u (dH d p.st.m)) t (A6 B)}):=by simp only[Dq,z,C,ec,A6];rw[show(Sl.row [x]).k=.row from rfl];simp only[true_and,ne_eq,w,not_false_eq_true,W,gR,show(Sl.row [x]).l.length=1 from rfl,y,L',b];by_cases h:s.l.length+1<=2147483648;rw[J0 h,J0 h];rfl;rw[K' h,K' h];rfl
 rw[this,X]
 cases ec s x with
 |none=>exact Le.none _|some B=>exact Le.of_eq rfl
end
theorem Xq{n:Int}(B:0<=n)(h:n<=4611686018427387904):y? _o n=n:=by simp[y?,IntKind.bits,IntKind.signed];omega
namespace catX
instance{n:Nat}:OfNat Arg n:=⟨.s n⟩
def ln:K:=.p .lenSl
def ix:K:=.p (.idxS 1)
def bI(o:BinOp):K:=.p (.bin (M .int) G o)
def ld:K:=.r (.load 1 U)
def g1:Rd:=[o1 4 (.k (.bG)) []]
def g2:Rd:=[o1 5 1 [],o2 6 (bI .lss) [5,.k (.int _o 0)] []]
def g3:Rd:=[o2 7 (.p (.bad)) [] [],⟨G,G,U,.p .bad,[],[],[]⟩]
def g4:Rd:=[o1 8 1 [],o1 9 0 [],o2 10 (.p (.capSl)) [9] [],o1 11 0 [],o2 12 ln [11] [],o2 13 (bI .sub) [10,12] [],o2 14 (bI .sub) [8,13] [],o1 1 14 []]
def g5:Rd:=[o1 15 1 [],o2 16 (bI .gtr) [15,.k (.int _o 0)] []]
def g6:Rd:=[o1 17 0 [],o1 18 0 [],o2 19 (.p (.capSl)) [18] [],o2 20 (.p (.slice 1 U O)) [17,19] [],o1 21 1 [],o2 22 (.l (.appMk 1 24 [.bG])) [20,21] [],o1 23 0 [],o2 24 ln [23] [],o2 25 (.p (.slice 1 U O)) [22,24] [],o1 0 25 []]
def g7:Rd:=[o1 26 0 [],o1 4 26 []]
def grow:RC:=.seq (.ops g1) (.seq (.seq (.ops g2) (.cond (.s 6) (.ops g3) (.skip))) (.seq (.seq (.ops g4) (.seq (.ops g5) (.cond (.s 16) (.ops g6) (.skip)))) (.seq (.ops g7) (.ret))))
section
variable{E:Env}{N:Nat->Y'}{t:Nat}
attribute [local simp] dW kW gp bV mY uu oJ uQ bI ln
theorem ZI(d:t<=2147483648):∃F',Ex E N grow [.bG,.int _o t] [] .ret F' (if t=0 then[]else[.row 1 (w? t [.bG])])/\get F' 4=if t=0 then .bG else .hsl 0 1 0 0:=by
 have e1:∀call,dW E N call G g1 [.bG,.int _o t] []=M (set [.bG,.int _o t] 4 .bG,[]):=λcall=>vp (v:=.bG) rfl (by simp[kW,gp,bV]) ym;have k0:get (set [V.bG,.int _o t] 4 .bG) 0=.bG:=rfl;have k1:get (set [V.bG,.int _o t] 4 .bG) 1=.int _o t:=rfl;generalize set [V.bG,.int _o t] 4 .bG=h at *;have e2:∃F1,(∀call,dW E N call G g2 h []=M (F1,[]))/\get F1 6=.bool U/\get F1 0=.bG/\get F1 1=.int _o t:=by exact⟨_,λcall=>by simp[g2,k1];rfl,f?,by simp[k0],by simp[k1]⟩
 obtain⟨F1,a1,T,I,q⟩:=e2;have e4:∃z,(∀call,dW E N call G g4 F1 []=M (z,[]))/\get z 0=.bG/\get z 1=.int _o t:=by exact⟨_,λcall=>by simp[g4,I,q,K6,qq,Xq (n:=t) c? c?,show y? _o 0=0 from by decide];rfl,by simp[I],f?⟩
 obtain⟨z,J,W,L⟩:=e4;have e5:∃u,(∀call,dW E N call G g5 z []=M (u,[]))/\get u 16=.bool (_p (t>0))/\get u 0=.bG/\get u 1=.int _o t:=by exact⟨_,λcall=>by simp[g5,L];rfl,f?,by simp[W],by simp[L]⟩
 obtain⟨u,j,Q,S,X⟩:=e5;have c:Ex E N (.seq (.ops g2) (.cond (.s 6) (.ops g3) (.skip))) h [] .norm F1 []:=Ex.seq (Ex.eN a1) (Ex.xy T Ex.skip);have e7:∀(F:WP)(H:bl),∃F',(∀call,dW E N call G g7 F H=M (F',H))/\get F' 4=get F 0:=λF H=>⟨_,λcall=>by simp[g7];rfl,f?⟩
 by_cases B:t=0;subst B;obtain⟨D,a,b⟩:=e7 u [];refine⟨D,?_,by rw[b,S];rfl⟩;exact Ex.seq (Ex.eN e1) (Ex.seq c (Ex.seq (Ex.seq (Ex.eN J) (Ex.seq (Ex.eN j) (Ex.xy Q Ex.skip))) (Ex.seq (Ex.eN a) Ex.ret)));have w:0<t:=c?;have e6:∃C,(∀call,dW E N call G g6 u []=M (C,[.row 1 (w? t [.bG])]))/\get C 0=.hsl 0 1 0 0:=by exact⟨_,λcall=>by simp[g6,S,X,K6,qq,oK,jy,eA,fR,mkApp,w,B,show(t:Int)<=2147483648 from c?];rfl,f?⟩
 obtain⟨C,Y,Z⟩:=e6;obtain⟨D,a,b⟩:=e7 C [.row 1 (w? t [.bG])];rw[K' B,K' B];refine⟨D,?_,by rw[b,Z]⟩;exact Ex.seq (Ex.eN e1) (Ex.seq c (Ex.seq (Ex.seq (Ex.eN J) (Ex.seq (Ex.eN j) (Ex.uj (by show get u 16=_;rw[Q,_a w]) (Ex.eN Y)))) (Ex.seq (Ex.eN a) Ex.ret)))
end
end catX
def E_{α:Type}(s:Sl (Sl α)):Sl α:=if(s.l.flatMap Sl.l).length=0 then .nil else .row (s.l.flatMap Sl.l)
namespace catX
def r1:Rd:=[o1 2 (.k (.bG)) []]
def r2:Rd:=[o1 3 (.k (.int _o 0)) []]
def r3:Rd:=[o1 9 0 [],o2 10 ln [9] [],o1 11 (.k (.int _o 0)) []]
def r4:Rd:=[o2 12 (bI .lss) [11,10] []]
def r5:Rd:=[o2 13 ix [9,11] [],o2 14 ld [13] [],o1 5 14 []]
def r6:Rd:=[o1 15 3 [],o1 16 5 [],o2 17 ln [16] [],o2 18 (bI .add) [15,17] [],o1 3 18 []]
def r7:Rd:=[o1 19 3 [],o2 20 (bI .lss) [19,.k (.int _o 0)] []]
def r8:Rd:=[o2 21 (.p (.bad)) [] [],⟨G,G,U,.p .bad,[],[],[]⟩]
def r9:Rd:=[o2 22 (bI .add) [11,.k (.int _o 1)] [],o1 11 22 []]
def L9:RC:=.seq (.ops r4) (.seq (.cond (.s 12) (.skip) (.exit 0)) (.seq (.block 1 (.seq (.ops r5) (.seq (.ops r6) (.seq (.ops r7) (.cond (.s 20) (.ops r8) (.skip)))))) (.ops r9)))
def KD(gid:Nat):Rd:=[o1 23 3 [],o2 24 .c [.f gid,.k (.bG),23] [],o1 6 24 []]
def ML:Rd:=[o1 25 0 [],o2 26 ln [25] [],o1 27 (.k (.int _o 0)) []]
def Mz:Rd:=[o2 28 (bI .lss) [27,26] []]
def Mn:Rd:=[o2 29 ix [25,27] [],o2 30 ld [29] [],o1 8 30 []]
def Md:Rd:=[o1 31 6 [],o1 32 8 [],o2 33 (.l (.append 1)) [31,32] [],o1 6 33 []]
def Ll:Rd:=[o2 34 (bI .add) [27,.k (.int _o 1)] [],o1 27 34 []]
def L15:RC:=.seq (.ops Mz) (.seq (.cond (.s 28) (.skip) (.exit 2)) (.seq (.block 3 (.seq (.ops Mn) (.ops Md))) (.ops Ll)))
def r16:Rd:=[o1 35 6 [],o1 2 35 []]
def cat(gid:Nat):RC:=.seq (.ops r1) (.seq (.ops r2) (.seq (.seq (.ops r3) (.block 0 (.loop L9))) (.seq (.ops (KD gid)) (.seq (.seq (.ops ML) (.block 2 (.loop L15))) (.seq (.ops r16) (.ret))))))
section
variable{E:Env}{N:Nat->Y'}{F:WP}{H:bl}{α:Type}[bB α]{s:Sl (Sl α)}{i:Nat}
theorem el{u:Sl α}(h:s.l[i]?=M u):nU 1 (cz s) (i:Int)=M (.fptr [cz u]):=by have:=Oo (N:=λn=>n) s _o (i:Int) 1 rfl;simp only[bV]at this;rw[this,show idx s (i:Int)=M u from by unfold idx;grind];rfl
theorem lnS(s:Sl α):qq (cz s)=M (.int _o (W s.l)):=by have:=Mw (N:=λn=>n) s;simpa only[bV]using this
attribute [local simp] dW kW gp bV mY uu oJ uQ lnS bI ln ix ld
theorem y3:(get F 0=cz s->∃F',(∀call,dW E N call G r3 F H=M (F',H))/\get F' 9=cz s/\get F' 10=.int _o (W s.l)/\get F' 11=.int _o 0/\∀j,j<9->get F' j=get F j)/\
 (get F 0=cz s->∃F',(∀call,dW E N call G ML F H=M (F',H))/\get F' 25=cz s/\get F' 26=.int _o (W s.l)/\get F' 27=.int _o 0/\∀j,j<9->get F' j=get F j):=by
 refine⟨λa=>⟨_,λcall=>by simp[r3,a];rfl,?_⟩,λa=>⟨_,λcall=>by simp[ML,a];rfl,?_⟩⟩<;>
  (simp;grind)
theorem y4{n:Nat}:(get F 11=.int _o i->get F 10=.int _o n->∃F',(∀call,dW E N call G r4 F H=M (F',H))/\get F' 12=.bool (_p (i<n))/\∀j,j<12->get F' j=get F j)/\
 (get F 27=.int _o i->get F 26=.int _o n->∃F',(∀call,dW E N call G Mz F H=M (F',H))/\get F' 28=.bool (_p (i<n))/\∀j,j<28->get F' j=get F j):=by
 refine⟨λf u=>⟨_,λcall=>by simp[r4,f,u];rfl,?_⟩,λf u=>⟨_,λcall=>by simp[Mz,f,u];rfl,?_⟩⟩<;>
  (simp;grind)
theorem y5{u:Sl α}(h:s.l[i]?=M u):(get F 9=cz s->get F 11=.int _o i->∃F',(∀call,dW E N call G r5 F H=M (F',H))/\get F' 5=cz u/\∀j,j<12->j≠5->get F' j=get F j)/\
 (get F 25=cz s->get F 27=.int _o i->∃F',(∀call,dW E N call G Mn F H=M (F',H))/\get F' 8=cz u/\∀j,j<28->j≠8->get F' j=get F j):=by
 have e:=el h;have e2:fW H (.load 1 U) [.fptr [cz u]]=M (cz u):=by simp[fW,fD,cut,mk]
 refine⟨λf w=>⟨_,λcall=>by simp[r5,f,w,e,e2];rfl,?_⟩,λf w=>⟨_,λcall=>by simp[Mn,f,w,e,e2];rfl,?_⟩⟩<;>
  (simp;grind)
theorem y6{u:Sl α}{t:Nat}(B:get F 3=.int _o t)(a:get F 5=cz u)(D:t+W u.l<=2147483648):∃F',(∀call,dW E N call G r6 F H=M (F',H))/\get F' 3=.int _o ((t+W u.l:Nat):Int)/\∀j,j<12->j≠3->get F' j=get F j:=by
 have w:y? _o ((t:Int)+(W u.l:Int))=((t+W u.l:Nat):Int):=by rw[Xq c? c?];simp
 refine⟨_,λcall=>by simp[r6,B,a,w];rfl,f?,?_⟩;simp;grind
theorem y7{t:Nat}(B:get F 3=.int _o t):∃F',(∀call,dW E N call G r7 F H=M (F',H))/\get F' 20=.bool U/\∀j,j<12->get F' j=get F j:=by refine⟨_,λcall=>by simp[r7,B];rfl,f?,?_⟩;simp;grind
theorem y9(hi:i<=2147483648):(get F 11=.int _o i->∃F',(∀call,dW E N call G r9 F H=M (F',H))/\get F' 11=.int _o ((i+1:Nat):Int)/\∀j,j<11->get F' j=get F j)/\
 (get F 27=.int _o i->∃F',(∀call,dW E N call G Ll F H=M (F',H))/\get F' 27=.int _o ((i+1:Nat):Int)/\∀j,j<27->get F' j=get F j):=by
 have u:=TE hi;refine⟨λf=>⟨_,λcall=>by simp[r9,f,u];rfl,?_⟩,λf=>⟨_,λcall=>by simp[Ll,f,u];rfl,?_⟩⟩<;>
  (simp;grind)
structure Acc(H:bl)(w:V)(acc:List (List V)):Prop where
 el:dX H 1 w=some acc
 gr:∃H1,iE H w=some H1/\H1.length=H.length
 sh:w=.bG/\acc=[]\/∃id xs,w=.hsl id 1 0 acc.length/\H[id]?=some (.row 1 xs)/\(acc≠[]->xs=acc)
theorem Zu(H:bl)(u:Sl α)(a:bB.size α=1):dX H 1 (cz u)=M (rows u.l):=by cases u<;>simp[cz,Sl.k,Sl.l,kN,dX,rows,a]
theorem y14{w:V}{b:S'}{u:Sl α}(f:bB.size α=1)(a:Acc H w b)(f6:get F 6=w)(D:get F 8=cz u)(J:W b+W u.l<=2147483648):
 ∃F' H' w',(∀call,dW E N call G Md F H=M (F',H'))/\get F' 6=w'/\Acc H' w' (b++rows u.l)/\(u.l=[]->w'=w)/\∀j,j<28->j≠6->get F' j=get F j:=by
 have c:=Zu H u f;have C:W (rows u.l)=W u.l:=by simp[rows]
 have key:∃H' w',fR H (.append 1) [w,cz u]=M (w',H')/\Acc H' w' (b++rows u.l)/\(u.l=[]->w'=w):=by have⟨H1,g1,g2⟩:=a.gr;cases d:rows u.l with|nil=>exact⟨H,w,by simp only[fR,a.el,c,d],g?,λ_=>rfl⟩|cons y B=>have h:W b+W (y::B)<=2147483648:=g?;refine⟨H1++[.row 1 (b++y::B)],.hsl (W H) 1 0 (W b+W (y::B)),by simp only[fR,a.el,c,d];grind,?_⟩;have z:(H1++[Ob.row 1 (b++y::B)])[W H]?=M (.row 1 (b++y::B)):=g?;refine⟨⟨?_,⟨_,by simp only[iE,z];rfl,f?⟩,.inr ⟨W H,b++y::B,f?,z,λ_=>rfl⟩⟩,λe=>g?⟩;simp only[dX,z,ζb,Ob.rows,L',a8,L!];grind
 have⟨H',w',k1,k2,k3⟩:=key;refine⟨_,H',w',λcall=>by simp[Md,f6,D,k1];rfl,f?,k2,k3,?_⟩
 simp;grind
def upto(s:Sl (Sl α))(i:Nat):aX α:=(s.l.take i).flatMap Sl.l
theorem Jz{u:Sl α}(h:s.l[i]?=M u):upto s (i+1)=upto s i++u.l:=by unfold upto;obtain⟨hi,rfl⟩:=ζe.1 h;rw[List.take_succ_eq_append_getElem hi,List.flatMap_append];simp
theorem Oy(s:Sl (Sl α))(i:Nat):W (upto s i)<=W (s.l.flatMap Sl.l):=by
 have:s.l.flatMap Sl.l=upto s i++(s.l.drop i).flatMap Sl.l:=by unfold upto;rw[<-List.flatMap_append,List.take_append_drop]
 grind
theorem lp1(m:s.l.length<=2147483648)(o:(s.l.flatMap Sl.l).length<=2147483648):∀(d i:Nat)(F:WP),i+d=s.l.length->get F 9=cz s->get F 10=.int _o s.l.length->get F 11=.int _o i->get F 3=.int _o (upto s i).length->
 ∃F',tI E N L9 F H (.exit 0) F' H/\get F' 3=.int _o (s.l.flatMap Sl.l).length/\get F' 0=get F 0:=by
 intro d
 induction d with
 |zero=>
  intro i F hi S w z q;obtain⟨F1,a1,I,B⟩:=(y4 (E:=E) (N:=N) (H:=H) (n:=s.l.length)).1 z w;refine⟨F1,tI.stop (Ex.seq (Ex.eN a1) (Ex.BA (Ex.xy (by show get F1 12=_;grind) Ex.exit) f?)) f?,?_,B 0 c?⟩
  rw[B 3 c?,q]
  have:upto s i=s.l.flatMap Sl.l:=by unfold upto;grind
  simp_all
 |succ d T=>
  intro i F hi S w z q;obtain⟨F1,a1,I,B⟩:=(y4 (E:=E) (N:=N) (H:=H) (n:=s.l.length)).1 z w;have b:s.l[i]?=M s.l[i]:=ζd c?
  obtain⟨a__,W,X,Y⟩:=(y5 (E:=E) (N:=N) (F:=F1) (H:=H) b).1 g? g?
  have D:=Oy s (i+1);have J:=Jz b;rw[J,ζi]at D;obtain⟨Z,c,L,e⟩:=y6 (E:=E) (N:=N) (F:=a__) (H:=H) (u:=s.l[i]) (t:=(upto s i).length) o? X c?
  obtain⟨y,f,g,Q⟩:=y7 (E:=E) (N:=N) (F:=Z) (H:=H) L;have C:∀j,j<12->j≠3->j≠5->get y j=get F j:=λj a h k=>by rw[Q j a,e j a h,Y j a k,B j a]
  obtain⟨l,e1,e2,e3⟩:=(y9 (E:=E) (N:=N) (F:=y) (H:=H) (i:=i) c?).1 (by rw[C 11 c? c? c?];exact z)
  obtain⟨F',g1,g2,g3⟩:=T (i+1) l c? (by rw[e3 9 c?,C 9 c? c? c?];omega) (by rw[e3 10 c?,C 10 c? c? c?];exact w) e2 (by rw[e3 3 c?,Q 3 c?,L,J,ζi])
  exact⟨F',tI.step (Ex.seq (Ex.eN a1) (Ex.seq (Ex.uj (by show get F1 12=_;rw[I,_a c?]) Ex.skip) (Ex.seq (Ex.block (Ex.seq (Ex.eN W) (Ex.seq (Ex.eN c) (Ex.seq (Ex.eN f) (Ex.xy g Ex.skip))))) (Ex.eN e1)))) g1,g2,by rw[g3,e3 0 c?,C 0 c? c? c?]⟩
theorem lp2(b:bB.size α=1)(k:s.l.length<=2147483648)(l:(s.l.flatMap Sl.l).length<=2147483648):∀(d i:Nat)(F:WP)(H:bl)(w:V),i+d=s.l.length->get F 25=cz s->get F 26=.int _o s.l.length->get F 27=.int _o i->get F 6=w->Acc H w (rows (upto s i))->
 ∃F' H' w',tI E N L15 F H (.exit 2) F' H'/\get F' 6=w'/\Acc H' w' (rows (s.l.flatMap Sl.l))/\((s.l.flatMap Sl.l).length=0->w'=w):=by
 intro d
 induction d with
 |zero=>
  intro i F H w hi C B z f6 a;obtain⟨F1,a1,I,Q⟩:=(y4 (E:=E) (N:=N) (H:=H) (n:=s.l.length)).2 z B;have:upto s i=s.l.flatMap Sl.l:=by unfold upto;grind
  rw[this]at a;exact⟨F1,H,w,tI.stop (Ex.seq (Ex.eN a1) (Ex.BA (Ex.xy (by show get F1 28=_;grind) Ex.exit) f?)) f?,g?,a,λ_=>rfl⟩
 |succ d S=>
  intro i F H w hi C B z f6 a;obtain⟨F1,a1,I,Q⟩:=(y4 (E:=E) (N:=N) (H:=H) (n:=s.l.length)).2 z B;have c:s.l[i]?=M s.l[i]:=ζd c?
  obtain⟨T,b__,W,m⟩:=(y5 (E:=E) (N:=N) (F:=F1) (H:=H) c).2 g? g?
  have D:=Oy s (i+1);have J:=Jz c;rw[J,ζi]at D;obtain⟨L,H',w',X,Y,a__,Z,o⟩:=y14 (E:=E) (N:=N) (F:=T) (H:=H) (u:=s.l[i]) b a g? W (by simp only[gR];omega)
  have y:∀j,j<28->j≠6->j≠8->get L j=get F j:=λj b p q=>g?
  obtain⟨f,e1,e2,e3⟩:=(y9 (E:=E) (N:=N) (F:=L) (H:=H') (i:=i) c?).2 (by rw[y 27 c? c? c?];exact z)
  have g:rows (upto s i)++rows s.l[i].l=rows (upto s (i+1)):=by rw[J];simp[rows]
  rw[g]at a__;obtain⟨F',H2,h,g1,g2,g3,g4⟩:=S (i+1) f H' w' c? (by rw[e3 25 c?,y 25 c? c? c?];omega) (by rw[e3 26 c?,y 26 c? c? c?];omega) e2 (by rw[e3 6 c?];exact Y) a__
  exact⟨F',H2,h,tI.step (Ex.seq (Ex.eN a1) (Ex.seq (Ex.uj (by show get F1 28=_;rw[I,_a c?]) Ex.skip) (Ex.seq (Ex.block (Ex.seq (Ex.eN b__) (Ex.eN X))) (Ex.eN e1)))) g1,g2,g3,λe=>(g4 e).trans (Z (List.eq_nil_of_length_eq_zero c?))⟩
end
end catX
theorem Yq{E:Env}{f gf:Y'}{nm:Y'->aY Nat}{N:Nat->Y'}{gid:Nat}(A:∀f s,nm f=_h s->N s=f)(hg:N gid=gf)(aa:E.keep gf=O)(c__:E.own gf=O)
 (hf:∃fi,E.ft f=_h fi/\bT ⟨E,nm,fi.ntmps⟩ U fi.body=_h (catX.cat gid)/\2<=fi.ntmps/\fi.results=[.tmp 2])
 (ab:∃fi,E.ft gf=_h fi/\bT ⟨E,nm,fi.ntmps⟩ U fi.body=_h catX.grow/\2<=fi.ntmps/\fi.results=[.tmp 4])
 {α:Type}[bB α](K:bB.size α=1)(s:Sl (Sl α))(M:_j s.l<=2147483648)(ht:_j (s.l.flatMap Sl.l)<=2147483648):Bx E f [cz s] (cz (E_ s)):=by
 have⟨fi,p1,p2,p3,p4⟩:=hf;have⟨gi,q1,q2,q3,q4⟩:=ab;generalize P:_j (s.l.flatMap Sl.l)=T at *;have⟨Fg,ad,ae⟩:=catX.ZI (E:=E) (N:=N) ht;have⟨R,b__⟩:=Ex.run A q1 q2 (args:=[.bG,.int _o T]) g? ad (vs:=[if T=0 then .bG else .hsl 0 1 0 0]) (by rw[q4];simp[jt,ae])
 have Q:∀l,borrows l [] [.bG,.int _o (T:Int)]=_h [.bG,.int _o (T:Int)]:=λl=>by unfold borrows;simp only[jw,kK l [] (x:=V.bG) _i,kK l [] (x:=V.int _o T) _i]
 have D:∃w a__,(∀k,R<=k->h_ E (run E k) gf [.bG,.int _o T] []=_h (w,a__))/\catX.Acc a__ w []/\(T=0->w=.bG):=by by_cases z:T=0;refine⟨.bG,[],λk d=>?_,⟨_i,⟨[],_i,_i⟩,.inl ⟨_i,_i⟩⟩,λ_=>rfl⟩;have:=(qT E d).go _ _ _ _ b__;rw[J0 z,J0 z]at this;unfold h_ oq;rw[J0 c__];simp[Q,this,result,V.scalar];refine⟨.hsl 0 1 0 0,[.row 1 (w? T [.bG])],λk d=>?_,⟨by simp[dX,Ob.rows],⟨_,_i,f?⟩,.inr ⟨0,_,_i,_i,λh=>_c _i h⟩⟩,λh=>_c h z⟩;have:=(qT E d).go _ _ _ _ b__;rw[K' z,K' z]at this;unfold h_ oq;rw[J0 c__];simp only[Q,L',this,result,V.scalar,v?,M',vP,List.getElem?_cons_zero,true_and];rw[J0 (by simp[List.all_replicate,V.scalar])];simp
 have⟨w,a__,aj,af,S⟩:=D;have W:T≠0->rows (s.l.flatMap Sl.l)≠[]:=λh e=>h (by rw[<-P,<-gR,e];rfl)
 have B:∀c∈rows (s.l.flatMap Sl.l),V.cN c=O:=λc o=>by obtain⟨x,_,rfl⟩:=mem_map.1 o;exact bB.good x
 have g1:∀call,dW E N call G catX.r1 [cz s] []=_h (set [cz s] 2 .bG,[]):=λcall=>vp (v:=.bG) _i (by simp[kW,gp,bV]) ym
 have k0:get (set [cz s] 2 .bG) 0=cz s:=rfl;generalize set [cz s] 2 .bG=F0 at *;have g2:∀call,dW E N call G catX.r2 F0 []=_h (set F0 3 (.int _o 0),[]):=λcall=>vp (v:=.int _o 0) _i (by simp[kW,gp,bV]) ym
 have⟨F2,a1,a2,a3,a4,a5⟩:=(catX.y3 (E:=E) (N:=N) (F:=set F0 3 (.int _o 0)) (H:=[]) (s:=s)).1 o?
 have⟨F3,b1,b2,b3⟩:=catX.lp1 (E:=E) (N:=N) (H:=[]) M c? (_j s.l) 0 F2 c? a2 a3 a4 (by rw[a5 3 c?,vW];rfl)
 rw[P]at b2;have ak:get F3 0=cz s:=o?
 have p:∃X,(∃n,∀k,n<=k->dW E N (run E k) G (catX.KD gid) F3 []=_h (X,a__))/\get X 6=w/\get X 0=cz s:=by refine⟨_,⟨R,λk d=>vp (v:=.int _o T) _i ?_<|WE (v:=w) (H1:=a__) _i ?_<|vp (v:=w) _i ?_ ym⟩,?_,?_⟩;simp[kW,gp,bV,b2];simp only[kW,P?,Y!,gp,mY,uu,Nat.reduceEqDiff,L',M',hg,aa,l0,J!];grind;simp[kW,gp,bV,mY];simp[mY];simp only[mY,uu,Nat.reduceEqDiff,M'];omega
 have⟨X,p,c2,c3⟩:=p;have⟨F5,d1,d2,d3,d4,d5⟩:=(catX.y3 (E:=E) (N:=N) (F:=X) (H:=a__) (s:=s)).2 c3;have⟨F6,Y,J,e1,e2,e3,e4⟩:=catX.lp2 (E:=E) (N:=N) K M c? (_j s.l) 0 F5 a__ w c? d2 d3 d4 o? af
 have q:∃r,(∀call,dW E N call G catX.r16 F6 Y=_h (r,Y))/\get r 2=J:=⟨_,λcall=>vp (v:=J) _i (by simp[kW,gp,bV,e2])<|vp (v:=J) _i (by simp[kW,gp,bV,mY]) ym,by simp[mY]⟩
 have⟨r,q,f2⟩:=q;have⟨n,ah⟩:=Ex.run A p1 p2 (args:=[cz s]) (by simp;omega) (Ex.seq (Ex.eN g1) (Ex.seq (Ex.eN g2) (Ex.seq (Ex.seq (Ex.eN a1) (Ex.GM (Ex.loop b1))) (Ex.seq (Ex.ops p) (Ex.seq (Ex.seq (Ex.eN d1) (Ex.GM (Ex.loop e1))) (Ex.seq (Ex.eN q) Ex.ret)))))) (vs:=[J]) (by rw[p4];simp[jt,f2])
 refine⟨n,J,Y,λid=>∃m,J=.hsl id 1 0 m,ah,?_,?_,?_⟩
 .rcases e3.sh with⟨h,L⟩|⟨id,xs,h,L,y⟩
  .have:T=0:=by grind
   rw[h];unfold E_;rw[J0 c?]
   exact .same _ _i
  by_cases z:T=0
  .have:=e4 c?
   rw[S z]at this;rw[this]at h;cases h
  have t:=y (W z);subst t;unfold E_;rw[K' c?,h]
  show FR Y _ (.fsl (bB.size α) (rows (s.l.flatMap Sl.l))) _;rw[K];exact .fsl 1 _ id 0 _ ⟨_,_i⟩ (by unfold bn;rw[L];rfl) c? (λi a b Z I=>by rw[a8]at I;rw[Z]at I;cases I;rfl) (λi j a b u v Z I g hv=>by
   rw[a8]at I;rw[Z]at I;cases I;rw[g]at hv;cases hv;exact .same _ (iY.1 (B a (s? Z)) j u g))
 .rintro id ⟨m,h⟩;rcases e3.sh with⟨C,_⟩|⟨ai,xs,C,L,_⟩
  .rw[C]at h;cases h
  rw[C]at h;cases h;unfold bn;rw[L];rfl
 refine⟨λid es ys hz hr c o u g=>?_⟩
 have⟨m,h⟩:=hz;rcases e3.sh with⟨C,_⟩|⟨ai,xs,C,L,y⟩
 .rw[C]at h;cases h
 rw[C]at h;cases h
 by_cases z:T=0
 .have:=e4 c?
  rw[S z]at this;rw[this]at C;cases C
 have t:=y (W z);subst t;unfold bn at hr;rw[L]at hr;cases hr;have⟨j,hj⟩:=G! g;exact⟨u,.same _ (iY.1 (B c o) j u hj)⟩
def BU(op:X')(x y:Int):Int:=cond op x y
@[simp] theorem acK(x y:Int):BU O x y=x:=rfl
@[simp] theorem acX(x y:Int):BU U x y=y:=rfl
namespace setX
instance{n:Nat}:OfNat Arg n:=⟨.s n⟩
def fa(k:Nat):K:=.p (.fieldAddr k)
def ld:K:=.r (.load 1 U)
def r1:Rd:=[o2 4 (.a .box) [1] [],o2 5 (.a .box) [2] []]
def r2:Rd:=[o1 6 0 [],o2 7 (fa 0) [4] [],o2 8 ld [7] [],o2 9 (fa 1) [4] [],o2 10 ld [9] [],o2 11 (.p (.idxS 1)) [6,8] [],⟨G,G,U,.l (.store 1),[11,10],[],[]⟩]
def r3:Rd:=[o1 6 0 [],o2 7 (fa 0) [5] [],o2 8 ld [7] [],o2 9 (fa 1) [5] [],o2 10 ld [9] [],o2 11 (.p (.bin (M .int) G .sub)) [10,.k (.int _o 1)] [],o2 12 (.p (.idxS 1)) [6,8] [],⟨G,G,U,.l (.store 1),[12,11],[],[]⟩]
def code(op:X'):RC:=.seq (.ops r1) (.ops (if op then r3 else r2))
section
variable{E:Env}{N:Nat->Y'}{H:bl}{id off L:Nat}{rs:S'}
theorem XA{h:Nat}{x y:V}{i:Nat}{v:V}(B:H[h]?=M (.row 2 [[x,y]]))(a:[x,y][i]?=M v):fW H (.load 1 U) [.hptr h 0 i]=M v:=by match i,a with|0,a=>cases a;simp[fW,fD,B,Ob.rows,cut,mk]|1,a=>cases a;simp[fW,fD,B,Ob.rows,cut,mk]|i+2,a=>simp at a
attribute [local simp] dW kW gp bV mY uu oJ uQ
theorem whole(op:X'){a b c d:Int}(J:H[id]?=M (.row 1 rs))(hp:0<=(BU op c a))(B:(BU op c a).toNat<L){z:V}(D:rs[off+(BU op c a).toNat]?=M [z]):
 ∃F' X,Ex E N (code op) [.hsl id 1 off L,.agg [.int _o a,.int _o b],.agg [.int _o c,.int _o d]] H .norm F' ((H++X).set id (.row 1 (rs.set (off+(BU op c a).toNat) [.int _o (BU op (y? _o (d-1)) b)]))):=by
 let X:bl:=[.row 2 [[.int _o a,.int _o b]],.row 2 [[.int _o c,.int _o d]]]
 have h:=(ζe.1 J).1;have e1:∃F1,(∀call,dW E N call G r1 [.hsl id 1 off L,.agg [.int _o a,.int _o b],.agg [.int _o c,.int _o d]] H=M (F1,H++X))/\get F1 0=.hsl id 1 off L/\get F1 4=.hptr (_j H) 0 0/\get F1 5=.hptr (_j H+1) 0 0:=by exact⟨_,λcall=>by simp[r1,get,set,nO,V.cells,V.one,Mk.val,X];rfl,_i,_i,_i⟩
 have⟨F1,p1,p2,p3,p4⟩:=e1;have e:(H++X)[id]?=M (.row 1 rs):=by rw[u? h];exact J
 have I:(H++X)[_j H]?=M (.row 2 [[.int _o a,.int _o b]]):=by simp[X]
 have j:(H++X)[_j H+1]?=M (.row 2 [[.int _o c,.int _o d]]):=by rw[G? c?];simp[X]
 obtain⟨H1,Q⟩:∃H1,H1=H++X:=⟨_,_i⟩;rw[<-Q]at e I j;rw[<-Q]at p1
 suffices W:∃F',Ex E N (code op) [.hsl id 1 off L,.agg [.int _o a,.int _o b],.agg [.int _o c,.int _o d]] H .norm F' (H1.set id (.row 1 (rs.set (off+(BU op c a).toNat) [.int _o (BU op (y? _o (d-1)) b)])))by have⟨F',Y⟩:=W;exact⟨F',X,by rw[<-Q];exact Y⟩
 have w:∀p:Int,0<=p->p.toNat<L->nU 1 (.hsl id 1 off L) p=M (.hptr id (off+p.toNat) 0):=λp g Z=>by unfold nU;rw[K' c?];simp[Z]
 have C:∀(q:Nat)(z v:V),rs[q]?=M [z]->v.one=O->fR H1 (.store 1) [.hptr id q 0,v]=M (.undef,H1.set id (.row 1 (rs.set q [v]))):=λq z v D f=>by simp[fR,e,D,IG f,f]
 cases op with
 |false=>
  simp only[acX]at hp B D⊢;have S:=XA (i:=0) I _i;have T:=XA (i:=1) I _i;have e2:∃u,(∀call,dW E N call G r2 F1 H1=M (u,H1.set id (.row 1 (rs.set (off+a.toNat) [.int _o b])))):=by exact⟨_,λcall=>by simp[r2,p2,p3,fa,ld,tD,S,T,w a hp B,C _ z (.int _o _) D _i];rfl⟩
  have⟨u,y⟩:=e2;exact⟨u,Ex.seq (Ex.eN p1) (Ex.eN (l:=_) y)⟩
 |true=>
  simp only[acK]at hp B D⊢;have S:=XA (i:=0) j _i;have T:=XA (i:=1) j _i;have e2:∃u,(∀call,dW E N call G r3 F1 H1=M (u,H1.set id (.row 1 (rs.set (off+c.toNat) [.int _o (y? _o (d-1))])))):=by exact⟨_,λcall=>by simp[r3,p2,p4,fa,ld,tD,S,T,w c hp B,C _ z (.int _o _) D _i];rfl⟩
  have⟨u,y⟩:=e2;exact⟨u,Ex.seq (Ex.eN p1) (Ex.eN (l:=_) y)⟩
end
end setX
section
variable{S:Sys}{c:cg}{β γ δ α:Type}[bB δ]{Q:Out×St->aY β}{e:γ->aY β}{cf:Cf}
end
def snap(w:World):cI:=λb=>match w.heap[b]?with
 |some (.cells c _ _)=>M (.cells c)|some (.map es _)=>M (.map es)|_=>G
theorem T5{w:World}(a:w6 (snap w)):dA (snap w) (λ_=>G) [] w where
 dom _ _:=rfl
 imm b x h:=by unfold snap at h;split at h;(next c el fr u=>cases h;exact⟨el,fr,u⟩);(next es d u=>cases h;exact⟨d,u⟩);cases h
 obs id ob h:=by simp at h
 inj id z ob B p C h:=by simp at h
 gl:=a
def gb(I:cI)(xs:So)(vs:aX V'):Prop:=W xs=W vs/\∀(j:Nat)a b,xs[j]?=M a->vs[j]?=M b->fA I a b
theorem gb.nil{I:cI}:gb I [] []:=⟨Y,f?⟩
theorem gb.one{I:cI}{x:V}{v:V'}(h:fA I x v):gb I [x] [v]:=⟨Y,λj a b c u=>by
 cases j with
 |zero=>simp at c u;subst c u;exact h|succ j=>simp at c⟩
theorem gb.append{I:cI}{xs ys:So}{B vs:aX V'}(h:gb I xs B)(k:gb I ys vs):gb I (xs++ys) (B++vs):=by refine⟨by simp[h.1,k.1],λj a b c u=>?_⟩;by_cases w:j<W xs;rw[u? w]at c;rw[u? (by rw[<-h.1];exact w)]at u;exact h.2 j a b c u;rw[G? c?]at c;rw[G? (by rw[<-h.1];omega),<-h.1]at u;exact k.2 _ a b c u
theorem Fu{α β:Type}{f:α->aY β}:∀{l:aX α}{r:aX β},l.mapM f=M r->W r=W l/\∀(i:Nat)a b,l[i]?=M a->r[i]?=M b->f a=M b
 |[],r,h=>by simp only[List.mapM_nil,d6,ζa]at h;subst h;simp|x::l,r,h=>by simp only[List.mapM_cons,Option.bind_eq_bind,d6,ζg,ζa]at h;obtain⟨y,D,ys,B,rfl⟩:=h;have⟨c,z⟩:=Fu B;refine⟨by simp[c],λi a b u w=>?_⟩;cases i with|zero=>simp at u w;subst u w;exact D|succ i=>exact z i a b (by simpa using u) (by simpa using w)
structure vL{H:Type}(b:DataW H->Nat):Prop where
 lit:∀l,1<=b (.lit l)
 str:∀s,s.length+1<=b (.lit (.string s))
 nil:1<=b .nil
 slice:∀es sp,(es.map b).sum+1<=b (.slice es sp)
 agg:∀ps,(ps.map b).sum+1<=b (.agg ps)
class bY(α:Type)where
 wt:α->Nat
 ok:α->Prop
instance:bY Int where
 wt _:=1
 ok n:=-9223372036854775808<=n/\n<=9223372036854775807
instance:bY X' where
 wt _:=1
 ok _:=True
instance:bY U' where
 wt s:=s.size+1
 ok s:=s.size<=maxLen
instance{α:Type}[bY α]:bY (Sl α)where
 wt s:=(s.l.map bY.wt).sum+1
 ok s:=(∀x∈s.l,bY.ok x)/\s≠.emp
class Reads(P:Program)(t:TypeId)(α:Type)[bB α][bY α]:Prop where
 size:P.cellsOf t=bB.size α
 rd:∀{H:Type}{enc:TypeId×Value->H}{w:World}{j?:Nat}{spare:Nat->Bool}{held:Bool}{fuel:Nat}{cs:List Value}{d:DataW H}{ps:List MemPlace},
  l5 enc P w j? spare held fuel t cs=some (d,ps)->∃a:α,gb (snap w) (cells a) cs/\bY.ok a/\∀b:DataW H->Nat,vL b->bY.wt a<=b d
 shape:∀{w:World}{r:_root_.Go.Reach}{j?:Nat}{v:Value},x6 P w r j? t v->if bB.agg α then∃cs,v=.agg cs else v.cells=#[v]
section
variable{P:Program}
theorem tV{w:World}{r:_root_.Go.Reach}{j?:Nat}{t:W'}{v:V'}{u:_}(a:P.underlying t=M u)(b:∀fs,u≠.struct fs)(B:∀n e,u≠.array n e)(h:x6 P w r j? t v):v.cells=#[v]:=by cases v with|agg cs=>exfalso;unfold x6 at h;rw[a]at h;split at h;(next fs z=>cases z;exact b _ Y);(next n e z=>cases z;exact B _ _ Y);(unfold Cell.okWide at h;rw[a]at h;split at h<;>first|(simp at *;done)|skip);unfold Cell.ok at h;rw[a]at h;cases u<;>simp at h|_=>rfl
theorem Reads.int{t:W'}(a:P.underlying t=M (.int _o))(c:P.cellsOf t=1):Reads P t Int where
 size:=c
 rd {H enc w j? spare held z cs d ps} h:=by cases z with|zero=>simp[l5]at h|succ z=>(simp only[l5,a]at h;split at h<;>first|(simp at h;done)|skip);(next u=>cases u);rename_i k D n u;simp only[ζa,TypeDesc.int.injEq]at u;split at h;(next e=>obtain⟨rfl,B⟩:=e;subst u;cases h;exact⟨n,gb.one (.int _ n),show _/\_ by simpa[Lit.wf,IntKind.min,IntKind.max,IntKind.signed,IntKind.bits]using B,λb C=>C.lit _⟩);simp at h;all_goals (rename_i u;cases u)
 shape h:=by simp only[show bB.agg Int=U from Y];exact tV a f? f? h
theorem Reads.bool{t:W'}(a:P.underlying t=M .bool)(c:P.cellsOf t=1):Reads P t X' where
 size:=c
 rd {H enc w j? spare held u cs d ps} h:=by cases u with|zero=>simp[l5]at h|succ u=>(simp only[l5,a]at h;split at h<;>first|(simp at h;done)|skip);(next b _=>cases h;exact⟨b,gb.one (.bool b),trivial,λb B=>B.lit _⟩);all_goals (rename_i z;cases z)
 shape h:=by simp only[show bB.agg X'=U from Y];exact tV a f? f? h
theorem Reads.str{t:W'}(a:P.underlying t=M .string)(c:P.cellsOf t=1):Reads P t U' where
 size:=c
 rd {H enc w j? spare held u cs d ps} h:=by cases u with|zero=>simp[l5]at h|succ u=>(simp only[l5,a]at h;split at h<;>first|(simp at h;done)|skip);(all_goals (first|(rename_i z;cases z;done)|skip));rename_i s _;split at h;(next B=>cases h;exact⟨s,gb.one (.str s),B,λb C=>C.str _⟩);simp at h
 shape h:=by simp only[show bB.agg U'=U from Y];exact tV a f? f? h
theorem UW{w:World}{a:Addr}{n:Nat}{v:V'}(h:w.cell? (a.add n)=M v)(D:n=0\/True):∃c el fr,w.heap[a.block]?=M (.cells c el fr)/\c[a.off+n]?=M v/\(n=0->a.spot=G):=by
 unfold cell? Addr.add at h;by_cases u:n=0;subst u;simp only[L']at h;split at h;rename_i c el fr z;split at h;simp at h;rename_i B;exact⟨c,el,fr,z,h,λ_=>by simpa using B⟩;simp at h;simp only[K' u]at h;split at h;next c el fr z=>simp only[Option.isSome_none,v?,M']at h;exact⟨c,el,fr,z,h,λe=>_c e u⟩
 simp at h
def uC(P:Program)(t:W')(α:Type)[bB α][bY α](B:Nat):Prop:=∀{H:Type}{enc:W'×V'->H}{w:World}{j?:Nat}{c:Nat->X'}{e:X'}{cs:aX V'}{d:DataW H}{ps:aX MemPlace},l5 enc P w j? c e B t cs=M (d,ps)->∃a:α,gb (snap w) (cells a) cs/\bY.ok a/\∀b:DataW H->Nat,vL b->bY.wt a<=b d
theorem uC.sl {t e:TypeId} {α:Type} [bB α] [bY α] {J:Nat} (hu:P.underlying t=some (.slice e)) (ae:P.cellsOf e=bB.size α) (T:0<bB.size α) (hr:uC P e α J):uC P t (Sl α) (J+1):=by
 intro H enc w j? spare held cs d ps h;simp only[DataW.trod,hu]at h;split at h <;> first|(simp at h;done)|skip
 all_goals (first|(rename_i I;cases I;done)|skip)
 .cases h;exact⟨.nil,gb.one .bG,⟨λx b__=>by simp[Sl.l]at b__,by simp⟩,λb W=>W.nil⟩
 rename_i e' a len cap I;cases I;split at h
 .rename_i X;obtain⟨elems,af,h⟩:=ζg.1 h;obtain⟨h?,_,h⟩:=ζf.1 h;cases h;obtain⟨Y,Z⟩:=Fu af;simp only[List.length_range]at Y;have b__:∀i,i<len->∃x:α,∃u:aX Value,w.cells? j? (a.add (i*P.cellsOf e)) (P.cellsOf e)=some u/\gb (snap w) (cells x) u/\bY.ok x/\∀b:DataW H->Nat,vL b->∀y,elems[i]? = some y->bY.wt x<=b y.1:=λi hi=>by
   have:=Z i i (elems[i]' c?) (by simp[hi]) (ζd c?)
   obtain⟨u,h1,L⟩:=ζg.1 this;obtain⟨x,b__,hk,W⟩:=hr (show _=some ((elems[i]' c?).1,(elems[i]' c?).2)from L)
   exact⟨x,u,h1,b__,hk,λb a__ y hy=>by
    rw[ζd c?]at hy;cases hy;exact W b a__⟩
  have aa:∀n,n<=len->∃z:aX α,z.length=n/\(∀i x,z[i]? = some x->∃u:aX Value,w.cells? j? (a.add (i*P.cellsOf e)) (P.cellsOf e)=some u/\gb (snap w) (cells x) u)/\(∀x∈z,bY.ok x)/\∀b:DataW H->Nat,vL b->(z.map bY.wt).sum<=(((elems.take n).map (·.1)).map b).sum:=by
   intro n
   induction n with
   | zero=>intro _;exact⟨[],rfl,by simp,by simp,by simp⟩
   | succ n ih=>
    intro hn;obtain⟨z,h1,L,h5,h6⟩:=ih c?
    obtain⟨x,u,h3,h4,h7,h8⟩:=b__ n c?
    refine⟨z++[x],by simp[h1],λi y hy=>?_,λy hy=>?_,λb a__=>?_⟩
    rotate_left
    .rcases List.mem_append.1 hy with hy|hy
     .exact h5 y hy
     simp at hy;subst hy;exact h7
    .have k1:=h6 b a__;have k2:=h8 b a__ _ (ζd c?)
     rw[List.take_succ,ζd (by omega:n<elems.length)]
     simp only[List.map_append,List.sum_append,Option.toList_some,List.map_cons,List.map_nil,List.sum_cons,List.sum_nil];omega
    by_cases hi:i<z.length
    .rw[List.getElem?_append_left hi]at hy;exact L i y hy
    rw[List.getElem?_append_right c?]at hy
    have:i-z.length=0:=by
     cases hk:i-z.length with
     | zero=>rfl
     | succ k=>rw[hk]at hy;simp at hy
    rw[this]at hy;simp at hy;subst hy;have:i=n:=by omega
    subst this;exact⟨u,h3,h4⟩
  obtain⟨z,C,ah,ab,ai⟩:=aa len (Nat.le_refl _);refine⟨.row z,gb.one ?_,⟨ab,by simp⟩,λb a__=>?_⟩
  rotate_left
  .have k:=ai b a__;rw[List.take_of_length_le c?]at k
   have k2:=a__.slice (elems.map (·.1)) (h?.map (·.1));show (z.map bY.wt).sum+1<=_;omega
  show fA _ (.fsl (bB.size α) (rows z)) _
  cases hl:z with
  | nil=>
   subst hl;simp at C;subst C;exact .fsl0 _ _ _
  | cons x0 xr=>
   rw[<-hl];have ao:0<len:=by rw[<-C,hl];simp
   have Q:∀i x,z[i]? = some x->∀j y,(cells x)[j]? = some y->∃v,w.cell? ((a.add (i*bB.size α)).add j)=some v/\fA (snap w) y v:=by
    intro i x hi j y hy;obtain⟨u,h1,L⟩:=ah i x hi;rw[ae]at h1;unfold World.cells? at h1;split at h1
    .obtain⟨g1,g2⟩:=Fu h1;have hj:j<bB.size α:=by rw[<-gI x];exact(ζe.1 hy).1
     obtain⟨v,hv⟩:∃v,u[j]? = some v:=⟨_,ζd (by rw[g1];simpa using hj)⟩
     exact⟨v,g2 j j v (by simp[hj]) hv,L.2 j y v hy hv⟩
    simp at h1
   have an:∀i j,(a.add (i*bB.size α)).add j=a.add (i*bB.size α+j)\/True:=λ_ _=>.inr trivial
   have B:∀i x,z[i]? = some x->∀j y,(cells x)[j]? = some y->∃c el fr v,w.heap[a.block]? = some (.cells c el fr)/\c[a.off+i*bB.size α+j]? = some v/\fA (snap w) y v/\(i=0->j=0->a.spot=none):=by
    intro i x hi j y hy;obtain⟨v,h1,L⟩:=Q i x hi j y hy;obtain⟨c,el,fr,g1,g2,g3⟩:=UW h1 (.inr trivial);have W:(a.add (i*bB.size α)).block=a.block:=by unfold Addr.add;split <;> rfl
    have ho:(a.add (i*bB.size α)).off=a.off+i*bB.size α:=by unfold Addr.add;split <;> simp_all
    rw[W]at g1;rw[ho]at g2;refine⟨c,el,fr,v,g1,g2,L,?_⟩;rintro rfl rfl;have:=g3 rfl;simpa [Addr.add]using this
   have aj:∃y,(cells x0)[0]? = some y:=⟨_,ζd (by rw[gI];exact T)⟩
   obtain⟨y0,ak⟩:=aj;obtain⟨c,el,fr,v0,D,_,_,q⟩:=B 0 x0 (by rw[hl];rfl) 0 y0 ak
   have q:=q rfl rfl;obtain⟨b,o,sp⟩:=a;simp only at q D;subst q;have hI:snap w b=some (.cells c):=by unfold snap;rw[D]
   have S:(rows z).length=len:=by rw[gR,C]
   rw[<-S];refine .fsl _ _ b o cap c hI (by rw[S];exact X.2.1) (λr hr=>?_) (λr hr y hy=>?_) ?_ (λi j r y v hr hy hv=>?_)
   .obtain⟨x,_,rfl⟩:=List.mem_map.1 hr;exact gI x
   .obtain⟨x,_,rfl⟩:=List.mem_map.1 hr;exact List.all_eq_true.1 (uY x) y hy
   .
    obtain⟨xl,ad⟩:∃x,z[len-1]? = some x:=⟨_,ζd c?⟩
    obtain⟨yl,al⟩:∃y,(cells xl)[bB.size α-1]? = some y:=⟨_,ζd (by rw[gI];omega)⟩
    obtain⟨c2,_,_,v2,k1,k2,_,_⟩:=B (len-1) xl ad (bB.size α-1) yl al;simp only at k1 k2;rw[D]at k1;cases k1;have:=(Array.getElem?_eq_some_iff.1 k2).1;rw[S];have e:len*bB.size α=(len-1)*bB.size α+bB.size α:=by
     obtain⟨m,rfl⟩:∃m,len=m+1:=⟨len-1,by omega⟩
     simp[Nat.add_mul]
    omega
   simp only[rows,List.getElem?_map,ζf]at hr;obtain⟨x,am,rfl⟩:=hr;obtain⟨c2,_,_,v2,k1,k2,k3,_⟩:=B i x am j y hy;simp only at k1 k2;rw[D]at k1;cases k1;rw[hv]at k2;cases k2;exact k3
 simp at h
theorem uC.slF{t e:W'}{α:Type}[bB α][bY α]{B:Nat}(c:P.underlying t=M (.slice e))(J:P.cellsOf e=bB.size α)(D:0<bB.size α)(i:∀g,g<B->uC P e α g):uC P t (Sl α) B:=by cases B with|zero=>intro H enc w j? a b cs d ps h;simp[l5]at h|succ f=>exact uC.sl c J D (i f (Nat.lt_succ_self f))
theorem Reads.sl{t e:W'}{α:Type}[bB α][bY α][Reads P e α](a:P.underlying t=M (.slice e))(b:P.cellsOf t=1)(B:0<bB.size α):Reads P t (Sl α)where
 size:=b
 rd h:=uC.slF a (Reads.size (α:=α)) B (λ_ _{_ _ _ _ _ _ _ _ _}=>Reads.rd (P:=P) (t:=e) (α:=α)) h
 shape h:=by simp only[show bB.agg (Sl α)=U from Y];exact tV a f? f? h
theorem gb.seg{I:cI}{a xs:So}{cs:aX V'}{o n:Nat}(h:gb I a (cs.take o))(k:gb I xs ((cs.drop o).take n)):gb I (a++xs) (cs.take (o+n)):=by rw[List.take_add];exact h.append k
theorem gb.fin{I:cI}{xs:So}{cs:aX V'}{n:Nat}(h:gb I xs (cs.take n))(B:W cs=n):gb I xs cs:=by rw[O? c?]at h;exact h
theorem uC.st{t:W'}{fs:Array Field}{α:Type}[bB α][bY α]{B:Nat}(i:P.underlying t=M (.struct fs))(j:P.cellsOf t=bB.size α)
 (h:∀{H:Type}{enc:W'×V'->H}{w:World}{j?:Nat}{c:Nat->X'}{e:X'}{cs:aX V'}{l:aX (DataW H×aX MemPlace)},W cs=bB.size α->
  (fs.toList.mapM λf=>l5 enc P w j? c e B f.type ((cs.drop f.offset).take (P.cellsOf f.type)))=M l->∃a:α,gb (snap w) (cells a) cs/\bY.ok a/\∀b:DataW H->Nat,vL b->bY.wt a<=((l.map (·.1)).map b).sum+1):uC P t α (B+1):=by
 intro H enc w j? c e cs d ps g;simp only[l5,i]at g;split at g<;>first|(simp at g;done)|skip
 all_goals (first|(rename_i u;cases u;done)|skip)
 rename_i C;have⟨l,k,D⟩:=ζf.1 g;cases D;have⟨a,k1,k2,k3⟩:=h (by rw[C,j]) k
 exact⟨a,k1,k2,λb z=>Nat.le_trans (k3 b z) (z.agg _)⟩
theorem Reads.of{t:W'}{fs:Array Field}{α:Type}[bB α][bY α](a:P.underlying t=M (.struct fs))(b:P.cellsOf t=bB.size α)(D:bB.agg α=O)(h:∀B,uC P t α B):Reads P t α where
 size:=b
 rd hr:=h _ hr
 shape hv:=by rw[J0 D];unfold x6 at hv;rw[a]at hv;have⟨cs,c,_⟩:=hv;exact⟨cs,c⟩
theorem Reads.st{t:W'}{fs:Array Field}{α:Type}[bB α][bY α](g:P.underlying t=M (.struct fs))(i:P.cellsOf t=bB.size α)(D:bB.agg α=O)
 (h:∀{H:Type}{enc:W'×V'->H}{w:World}{j?:Nat}{c:Nat->X'}{e:X'}{B:Nat}{cs:aX V'}{l:aX (DataW H×aX MemPlace)},W cs=bB.size α->
  (fs.toList.mapM λf=>l5 enc P w j? c e B f.type ((cs.drop f.offset).take (P.cellsOf f.type)))=M l->∃a:α,gb (snap w) (cells a) cs/\bY.ok a/\∀b:DataW H->Nat,vL b->bY.wt a<=((l.map (·.1)).map b).sum+1):Reads P t α:=
 Reads.of g i D λB=>by cases B with|zero=>intro H enc w j? c e cs d ps h;simp[l5]at h|succ f=>exact uC.st g i h
theorem Reads.arg{t:W'}{α:Type}[bB α][bY α][Reads P t α]{H:Type}{B:W'×V'->H}{w:World}{j?:Nat}{c:Nat->X'}{e:X'}{r:_root_.Go.Reach}{b:Nat}{v:V'}{d:DataW H}{ps:aX MemPlace}
 (f:x6 P w r b t v)(h:Trod B P w j? c e t v d ps):∃a:α,bN (snap w) (λ_=>G) (enc a) v/\bY.ok a/\∀b:DataW H->Nat,vL b->bY.wt a<=b d:=by
 have⟨I,h⟩:=h;have⟨a,⟨g,z⟩,D,q⟩:=Reads.rd (P:=P) (t:=t) (α:=α) h;have u:=Reads.shape (P:=P) (t:=t) (α:=α) f;refine⟨a,?_,D,q⟩
 cases C:bB.agg α with
 |true=>rw[C,J0 Y]at u;obtain⟨cs,rfl⟩:=u;rw[AZ C];refine .c _ _ (.agg _ _ (by simpa[Value.cells]using g) (λj x y J L=>z j x y J (by simpa[Value.cells]using L)))|false=>rw[C]at u;simp only[v?,M']at u;rw[u]at z;rw[x8 C]at z;exact .c _ _ (z 0 _ _ Y Y)
end
end Go.VE
namespace Go.VE
variable[b8]
open Go.ChangeShapes Go.WideShapes Go.ChangeAt Go.RowKit
structure Lj(w w':World):Prop where
 kept:w.keptBut w' (λ_=>False)
 fz:∀a:Addr,a.block<w.heap.size->w'.frozen? a=w.frozen? a
theorem JS{I I':cI}{μ':Mu}{H':bl}{w w':World}(s:Step I (λ_=>G) [] w I' μ' H' w'):Lj w w':=by
 have B:∀b,b<w.heap.size->w'.heap[b]?=w.heap[b]?:=λb z=>s.frame b z (by rintro⟨id,p,ob,h,_⟩;simp at h);refine⟨⟨s.os,s.out.out,λi hi=>?_⟩,λa z=>?_⟩;rw[B i hi];split;next c u=>rw[c]at u;cases u;exact⟨Y,Y,Y,λ_ _=>rfl⟩
 next c u=>rw[c]at u;cases u;exact .inr ⟨Y,Y⟩
 rfl;unfold World.frozen?;rw[B _ z]
theorem K_{P:Program}{call:d_}(a:mV P call){f:Y'}{args:So}{b:X'}{H':bl}(h:call (.fn f) args []=M (.bool b,H')){w:World}{vs:aX V'}
 (D:w6 (snap w))(d:cW (snap w) (λ_=>G) args vs):Calls P f vs.toArray w λe w'=>e=.returned (.bool b)/\Lj w w':=by
 intro cs;have k:=((a.fn f args [] _ H' h).2 (snap w) (λ_=>G) w vs (T5 D) d)
 obtain⟨e,w',fr,⟨u,I',μ',rfl,g,_,C⟩,z,i,j⟩:=k.2 cs (by simp[Fence.room,fr])
 refine⟨_,w',fr,⟨?_,JS C⟩,z.comes,i,j⟩
 cases g with
 |c _ _ B=>cases B;rfl
variable{P:Program}{H:Type}{enc:W'×V'->H}
theorem J8{B:aX W'}{vs:aX V'}{ds:aX (DataW H)}{ps:aX MemPlace}{w w':World}(e:Lj w w')(h:i7 enc P w 0 (λ_=>O) O B vs ds ps):i7 enc P w' 0 (λ_=>O) O B vs ds ps:=by
 have z:∀p:MemPlace,p.block<w.heap.size->w.sameAt w' p:=by intro p C;have k:=e.kept.2.2 p.block C;cases p with|cell b off=>simp only[sameAt,cell?];simp only[MemPlace.block]at k C;split at k;rename_i c t fr c' j D a u;rw[a,u];simp only;have:=k.2.2.2 off (λx=>x);simpa using this;(next a u=>rw[a,u]);rw[k]|map b=>simp only[sameAt];simp only[MemPlace.block]at k C;split at k;rename_i c t fr c' j D a u;obtain⟨rfl,rfl,y,I⟩:=k;rw[a,u];have:c'=c:=Array.ext_getElem? λi=>I i (λx=>x);rw[this];rename_i a u;rcases k with k|⟨rfl,rfl⟩;exact k.elim;rw[a,u];exact k
 induction B generalizing vs ds ps with|nil=>cases vs<;>cases ds<;>simp_all [i7]|cons t B J=>cases vs with|nil=>simp[i7]at h|cons v vs=>cases ds with|nil=>simp[i7]at h|cons d ds=>obtain⟨p,q,⟨n,a⟩,u,rfl⟩:=h;exact⟨p,q,⟨n,DataW.trod_carry n _ _ _ a λx L=>z x (DataW.trod_lt n _ _ _ a x L)⟩,J u,Y⟩
theorem Se {T:TypeId->Prop} (K:Kids P T) (hz:∀t e,T t->P.underlying t=some (.slice e)->0<P.cellsOf e) {f:Func} {s:ChangeSpec} {apart fresh handsOn again:Bool} {W J:World} {args:Array Value} {ds gs:aX (DataW H)} {before:aX MemPlace} {tb:TypeId}
 (hT:∀t∈f.params.toList,T t) (B:s.vars=[]) (D:s.fn H (ds++gs)={ results:=[.lit (.bool true)],args:=ds }) (y:f.resultTypes=#[tb]) (Y:P.underlying tb=some .bool)
 (hW:DataW.Whole enc P f.params.toList s.vars apart W args.toList ds gs before) (hg:Lj W J):s.post enc P f apart fresh handsOn again W args (.bool true) J:=by
 have z:=hW;obtain⟨p,q,S,hV,rfl,I,L⟩:=hW;rw[B]at hV;obtain⟨rfl,rfl⟩:=trodVars_none hV;have hr:∀(b:Nat) (w:Nat->Bool) (hd:Bool),DataW.TrodAll enc P J b w hd f.resultTypes.toList ((Value.bool true).resultList f.resultTypes.size) (s.fn H (ds++[])).results []:=λ_ _ _=>by
  rw[y,D];exact trodAll_cons_mk (shut_bool Y _) trodAll_mk0
 have Q:∀w:Nat->Bool,(∀x∈p++[],w x.block=true)->DataW.TrodAll enc P J 0 w true f.params.toList args.toList (s.fn H (ds++[])).args p:=λw j=>by
  rw[D];exact DataW.TrodAll.respare K hz hT (J8 hg S) (λx u=>j x (List.mem_append_left _ u))
 have hv:∀w:Nat->Bool,DataW.TrodVars enc P J w s.vars (s.fn H (ds++[])).vars []:=λw=>by rw[D,B];rfl
 have C:=λx u=>z.lt x u
 refine⟨ds,[],p++[],[],p,[],z,hr _ _ _,Q _ λx u=>by simpa using C x u,hv _,World.keptBut_mono (λx u=>u.elim) hg.kept,λ_=>⟨ok_one y rfl (okWide_bool_mk Y _),?_⟩⟩
 refine⟨_,_,[]++p++[],⟨[]++p,[],trodAll_append (Q _ λ_ _=>rfl) (hr _ _ _),hv _,rfl,λb off u=>?_,λh=>by simpa using L h⟩,λx u _=>by simpa using u⟩
 have d:MemPlace.cell b off∈p++[]:=by simpa using u
 rw[hg.fz _ (C _ d)];exact I b off d
end Go.VE
namespace Go.VE
variable[b8]
instance:bY U8 where
 wt _:=1
 ok n:=0<=n.v/\n.v<=255
theorem Reads.u8{P:Program}{t:W'}(a:P.underlying t=M (.int .u8))(c:P.cellsOf t=1):Reads P t U8 where
 size:=c
 rd {H enc w j? spare held z cs d ps} h:=by cases z with|zero=>simp[l5]at h|succ z=>(simp only[l5,a]at h;split at h<;>first|(simp at h;done)|skip);(next u=>cases u);rename_i k D n u;simp only[ζa,TypeDesc.int.injEq]at u;split at h;(next e=>obtain⟨rfl,B⟩:=e;subst u;cases h;exact⟨⟨n⟩,gb.one (.int _ n),show _/\_ by simpa[Lit.wf,IntKind.min,IntKind.max,IntKind.signed,IntKind.bits]using B,λb C=>C.lit _⟩);simp at h;all_goals (rename_i u;cases u)
 shape h:=by simp only[show bB.agg U8=U from Y];exact tV a f? f? h
theorem PJ{m:Tb bD}{n:Nat}{rs:R'}{b:X'}(h:dz m n rs=M [.bool b]):rs=[.v (.bool b)]:=by
 cases rs with
 |nil=>cases n<;>simp[dz]at h|cons x r=>
  have c:shut m n x=M (.bool b)/\dz m n r=M []:=by unfold dz at h;split at h;(next y s c w=>simp only[ζa,List.cons.injEq]at h;obtain⟨rfl,rfl⟩:=h;exact⟨c,w⟩);cases h
  have w:r=[]:=by cases r with|nil=>rfl|cons y r=>have:=c.2;unfold dz at this;split at this<;>simp at this
  subst w;have u:=c.1
  cases x with
  |v y=>unfold shut at u;simp only[ζa]at u;rw[u]|own d=>unfold shut kN at u;(repeat' split at u)<;>cases u|ptr d o=>cases n with|zero=>simp[shut]at u|succ n=>(unfold shut at u;split at u<;>try cases u);(split at u<;>try cases u);split at u<;>cases u
  |mp d=>unfold shut at u;split at u<;>cases u|clo f a b=>cases n with|zero=>simp[shut]at u|succ n=>unfold shut at u;split at u<;>cases u
  |tup l=>cases n with|zero=>simp[shut]at u|succ n=>unfold shut at u;have⟨_,_,z⟩:=ζf.1 u;cases z
  |_=>cases n<;>simp[shut]at u
theorem UL{S:Sys}{T:rW}(B:ud S T)(D:∀f a b xs,S.items f a b=M xs->fF S f a b xs){f:Y'}{xs:So}(c:V.cN xs=O)(h:kM (dB S T) f xs=M [.bool O]):
 ∃n H',run S.E n (.fn f) xs []=M (.bool O,H'):=by
 unfold kM at h;have⟨⟨rs,m⟩,d,u⟩:=ζg.1 h;have:=PJ u;simp only at this;subst this;exact YQ B D c d Y
theorem P4{S:Sys}{T:rW}{P:Program}(B:ud S T)(D:∀f a b xs,S.items f a b=M xs->fF S f a b xs)(c:∀n,mV P (run S.E n)){f:Y'}{xs:So}(d:V.cN xs=O)(h:kM (dB S T) f xs=M [.bool O])
 {w:World}{args:Array V'}(J:w6 (snap w))(g:cW (snap w) (λ_=>G) xs args.toList):Calls P f args w λe w'=>e=.returned (.bool O)/\Lj w w':=by
 have⟨n,H',i⟩:=UL B D d h;have:=K_ (c n) i J g;simpa using this
theorem Reads.WC{P:Program}{t:W'}{α:Type}[bB α][bY α][Reads P t α]{H:Type}{B:W'×V'->H}{w:World}{j? b:Nat}{c:Nat->X'}{e:X'}{v:V'}{d:DataW H}{ps:aX MemPlace}{params:Array W'}{args:Array V'}(D:∀(j:Nat)t v,params[j]?=M t->args[j]?=M v->x6 P w .any b t v)(j:Nat)(f:params[j]?=M t)(J:args[j]?=M v)(h:Trod B P w j? c e t v d ps):∃a:α,bN (snap w) (λ_=>G) (enc a) v/\bY.ok a/\∀b:DataW H->Nat,vL b->bY.wt a<=b d:=Reads.arg (D j t v f J) h
end Go.VE
namespace Go.VE
theorem UQ{w:World}{g:Nat}{l:SW}(h:∀i,i<W l->w.cell? ⟨g,i,G⟩=M (.int _o (l.getD i 0)))(D:0<W l):fA (snap w) (.fptr (l.map (V.int _o))) (.pointer (M ⟨g,0,G⟩)):=by
 have a:=h 0 D;unfold cell? at a;split at a;rename_i c t fr u;have q:snap w g=M (.cells c):=by unfold snap;simp only at u;rw[u]
 have d:∀i,w.cell? ⟨g,i,G⟩=c[i]?:=λi=>by unfold cell?;simp only at u⊢;rw[u];rfl
 refine .fptr _ _ _ c q ?_ ?_;rw[a8,I!];have:=h (W l-1) c?;rw[d]at this;have:=(Array.getElem?_eq_some_iff.1 this).1;omega;intro j y v B b;rw[a8,<-d]at b;rw[Q?]at B;obtain⟨z,C,rfl⟩:=ζf.1 B;have I:=(ζe.1 C).1;rw[h j I]at b;cases b;have:l.getD j 0=z:=by simp[List.getD,C]
 rw[this];exact .int _ _;cases a
variable[b8]
theorem cD(n:Nat)(h:n<9223372036854775807):y? _o ((n:Int)+1)=((n+1:Nat):Int):=by simp[y?,IntKind.bits,IntKind.signed];omega
theorem fH(n:Int)(a:-9223372036854775808<=n)(B:n<=9223372036854775807):y? _o n=n:=by simp[y?,IntKind.bits,IntKind.signed];omega
section
variable{α β:Type}{P:β->Prop}
theorem iJ(s:Sl α)(i:Nat):idx s (i:Int)=s.l[i]?:=by unfold idx;rw[J0 c?];rfl
theorem bC{s:Sl α}{i:Nat}(h:i<W s.l):idx s (i:Int)=M s.l[i]:=by rw[iJ,ζd h]
theorem P_{s:Sl α}{i:Int}(B:0<=i):idx s i=s.l[i.toNat]?:=by unfold idx;rw[J0 B]
theorem u_(s:Sl α)(i:Nat)(h:i<=W s.l):∃x,iw s G (M (i:Int))=M x/\x.l=s.l.take i:=by unfold iw eA;simp only[Option.getD_none,O!];rw[J0 c?];cases s<;>simp[Sl.l]at h⊢ <;>simp[h]
theorem bq{γ:Type}{a b:γ}:bg O a b=a:=rfl
theorem bt{γ:Type}{a b:γ}:bg U a b=b:=rfl
theorem nu(a b:X'):bg a (M b) (M U)=M (a&&b):=by cases a<;>rfl
theorem jU(a b:X'):bg a (M O) (M b)=M (a||b):=by cases a<;>rfl
theorem wM(a:X')(x y:β):bg a (M x) (M y)=M (if a then x else y):=by cases a<;>rfl
end
def place{α:Type}(f:α->X')(l:aX α):Int:=match l.findIdx? f with
 |some i=>i|none=>-1
theorem Dd{α:Type}{f:α->X'}{l:aX α}{i:Nat}(h:∀j,j<i->∀x,l[j]?=M x->f x=U)(hi:W l<=i):l.findIdx? f=G:=by rw[List.findIdx?_eq_none_iff];intro x w;have⟨j,u⟩:=G! w;have:j<W l:=(ζe.1 u).1;exact h j c? x u
theorem Ec{α:Type}{f:α->X'}{l:aX α}{i:Nat}{x:α}(h:∀j,j<i->∀x,l[j]?=M x->f x=U)(B:l[i]?=M x)(D:f x=O):l.findIdx? f=M i:=by rw[List.findIdx?_eq_some_iff_getElem];obtain⟨hi,rfl⟩:=ζe.1 B;exact⟨hi,D,λj u=>by rw[h j u _ (ζd c?)];simp⟩
theorem xF{α:Type}{step:Int->aY (Fw Int Unit Int)}{s:Sl α}{p:α->aY X'}{f:α->X'}(hp:∀x∈s.l,p x=M (f x))(T:W s.l<9223372036854775807)
 (J:∀i,step i=bg (_p (i<len s)) (_l (idx s i) λB=>_l (p B) λD=>bg D (M (.r i)) (M (.n (y? _o (i+1))))) (M (.x ()))):
 _l (bM step 0) (Fw.elim (λ_=>M (-1)) (λe=>M e))=M (place f s.l):=by
 refine Wp.eq (fI (λi:Int=>∃n:Nat,i=n/\n<=W s.l/\∀j,j<n->∀x,s.l[j]?=M x->f x=U) (λi:Int=>W s.l-i.toNat) ⟨0,Y,V? _,λj I=>_c I c?⟩ ?_)
 rintro i ⟨n,rfl,L,w⟩;rw[J,cn];refine⟨λh=>?_,λh=>?_⟩
 .have u:n<W s.l:=by simpa[len]using h
  rw[bC u,ζb,hp _ (t? u),ζb,cn];refine⟨λz=>?_,λz=>?_⟩
  .rw[bf];show Wp (M (n:Int)) _;rw[bf];unfold place;rw[Ec w (ζd u) z]
  rw[bf];refine⟨⟨n+1,cD n c?,c?,λj I x C=>?_⟩,?_⟩
  .by_cases e:j=n
   .subst e;rw[ζd u]at C;cases C;exact z
   exact w j c? x C
  rw[cD n c?];simp;omega
 have d:W s.l<=n:=by simpa[len]using h
 rw[bf];show Wp (M (-1:Int)) _;rw[bf];unfold place;rw[Dd w d]
theorem xQ{α:Type}(f:α->X')(l:aX α):_p (place f l>=0)=l.any f:=by unfold place;cases h:l.findIdx? f with|none=>rw[List.findIdx?_eq_none_iff]at h;have:l.any f=U:=(by rw[List.any_eq_false];intro x u;simp[h x u]);rw[this];rfl|some i=>have⟨hi,w,_⟩:=List.findIdx?_eq_some_iff_getElem.1 h;have:l.any f=O:=List.any_eq_true.2 ⟨_,t? hi,w⟩;rw[this];simp
theorem V5{α σ ε ρ:Type}{step:α->σ->aY (Fw σ ε ρ)}{l:aX α}(I:Nat->σ->Prop)(D:ε->Prop)(J:ρ->Prop){s:σ}(T:I 0 s)
 (h:∀i a s,l[i]?=M a->I i s->Wp (step a s) λw=>match w with|.n B=>I (i+1) B|.x e=>D e|.r b=>J b):
 Wp (mw step l s) λw=>match w with|.n B=>I (W l) B|.x e=>D e|.r b=>J b:=by
 have key:∀(r:aX α)(i:Nat)(s:σ),l.drop i=r->i<=W l->I i s->Wp (mw step r s) λw=>match w with|.n B=>I (W l) B|.x e=>D e|.r b=>J b:=by intro r;induction r with|nil=>intro i s hd hi z;have:i=W l:=(by have:=List.drop_eq_nil_iff.1 hd;omega);subst this;exact⟨_,rfl,z⟩|cons a r d=>intro i s hd hi z;have u:i<W l:=(by apply Classical.byContradiction;intro Q;rw[List.drop_eq_nil_of_le c?]at hd;cases hd);have L:=List.drop_eq_getElem_cons u;rw[L]at hd;simp only[List.cons.injEq]at hd;have⟨w,j,C⟩:=h i a s (by rw[ζd u,hd.1]) z;simp only[mw,j,ζb];cases w with|n B=>exact d (i+1) B hd.2 c? C|x e=>exact⟨_,rfl,C⟩|r b=>exact⟨_,Y,C⟩
 exact key l 0 s Y (V? _) T
theorem A0{α σ ε ρ γ:Type}{step:α->σ->aY (Fw σ ε ρ)}{l:aX α}{fn:σ->aY γ}{B:ε->aY γ}{fr:ρ->aY γ}{P:γ->Prop}(I:Nat->σ->Prop){s:σ}(D:I 0 s)
 (h:∀i a s,l[i]?=M a->I i s->Wp (step a s) λw=>match w with|.n J=>I (i+1) J|.x e=>Wp (B e) P|.r b=>Wp (fr b) P)
 (T:∀s,I (W l) s->Wp (fn s) P):Wp (_l (mw step l s) (Fw.sN fn B fr)) P:=by
 rw[ey];refine(V5 I _ _ D h).mono ?_;intro w u
 cases w with
 |n s=>exact T s u|x e=>exact u|r b=>exact u
end Go.VE
