/- Certificates, library. -/
import Derived.JoinedCond
import Derived.ReadAgain
import Derived.WalkKit
import Derived.ProofKit
import Derived.OpenShut
import Derived.ChangeSame
import Derived.RowKit3
import Derived.Lib.LaidTab
import Derived.Test.YtddlogilhmloeabGreatDoorV2
import Derived.Test.YtddlogilhmloeabGreatDoorN2
import Derived.Test.YtddlogilhmloeabGreatDoorS1
set_option linter.all false
open Option renaming some→M,some→_k,none→J,none→_q,bind→H,bind→_o
open Bool renaming true→U,true→_n,false→O,false→_p
open Decidable renaming decide→_s
open List renaming length→W,length→_m
open Go.IntKind renaming i64→N,i64→_r
open Nat renaming le_refl→x?,zero_add→c5,zero_le→N?
open Option renaming getD_some→G!,map_some→A?,pure_def→b8
open List renaming all_cons→q!,all_eq_true→G?,append_assoc→d7,append_nil→a7,getElem?_append_left→u?,getElem?_append_right→H?,getElem?_drop→M?,getElem?_map→j!,getElem?_of_mem→B!,getElem?_set_ne→E?,getElem?_set_self→Q?,getElem?_take→J?,getElem_mem→t?,length_cons→W?,length_map→O!,length_range→l0,length_singleton→Y?,map_cons→K?,map_nil→X!,mem_of_getElem?→s?,nil_append→w7,range→C!,range'→D',take_of_length_le→a!
open Classical renaming choose_spec→S?
open Bool renaming false_eq_true→v?
open Go.IntKind renaming signed→i8,wrap→w?
open Go.DataW renaming TrodAll→g8,trod→i6
open Go.Value renaming okWide→x6
noncomputable section
open Nat(beq ble)
open Nat(le)
open List(map_set mem_append mem_map mem_range replicate set_set)
open Nat(le)
open Nat(le)
open Go.IntKind(i64)
open Go.DataW(Trod)
open Nat(le)
open Go.World(cell? sameAt)
namespace Go.VE
variable[b7]
abbrev Cf:=Fo×aY Fm×St
section
variable(S:Sys)(c:b_){β:Type}(Q:Out×St->aX β)
abbrev bZ(cf:Cf):aX β:=rn S c Q cf.1 cf.2.1 cf.2.2
def kG(n:Nat)(cf:Cf):Cf:=(iF S c n cf.1 cf.2.1 cf.2.2).getD cf
structure IA where
 dr:Bool
 fr:List Nat
 d:Option Nat
 gd:Option (Nat×Bool)
 now:Bool
 k:K
 az:List Arg
 dd:List Nat
 l:List RO
 fs:List Fm
 st:St
def gN(n:Nat)(cf:Cf):aX IA:=match iF S c n cf.1 cf.2.1 cf.2.2 with
 |some (.ops dr fr (⟨d,gd,now,k,az,dd,[]⟩::l),fs,st)=>match wanted st.g gd with
  |some U=>M ⟨dr,fr,d,gd,now,k,az,dd,l,fs,st⟩|_=>J
 |_=>J
def nx(n:Nat)(cf:Cf)(φ:IA->St):Cf:=match gN S c n cf with
 |some p=>(.ops p.dr (if p.dr then(match p.k with|.p _|.r _=>p.fr|_=>match p.d with|some d=>d::p.fr|none=>p.fr)else p.fr) p.l,p.fs,su p.dd (φ p))|none=>cf
end
def ya(s:Nat)(b:X')(cf:Cf):Cf:=(cf.1,cf.2.1,{cf.2.2 with g:=bJ cf.2.2.g s (.v (.bool b))})
def jmp(k:Nat)(fr:ST)(cf:Cf)(st:St):Cf:=match cf with
 |(.ops dr _ l,fs,_)=>(.ops dr fr (l.drop k),fs,st)|_=>(.rt,[],st)
def o9:RC->ST->QQ->St->Cf
 |c,[],fs,st=>(.rc c,fs,st)|.seq a b,i::p,fs,st=>if i=0 then o9 a p (.seq b::fs) st else o9 b p fs st|.cond _ a b,i::p,fs,st=>if i=0 then o9 a p fs st else o9 b p fs st|.block id c,_::p,fs,st=>o9 c p (.blk id::fs) st|.gh _ c,_::p,fs,st=>o9 c p fs st|.hg c g,_::p,fs,st=>o9 c p (.gst g::fs) st|.loop c,_::p,_,st=>o9 c p [] st|.each _ _ _ b,_::p,_,st=>o9 b p [] st|c,_,fs,st=>(.rc c,fs,st)
section
variable{S:Sys}{c:b_}{β γ δ α:Type}{Q:Out×St->aX β}{e:γ->aX β}{cf:Cf}
theorem mh{n:Nat}{p:IA}(h:gN S c n cf=M p):iF S c n cf.1 cf.2.1 cf.2.2=M (.ops p.dr p.fr (⟨p.d,p.gd,p.now,p.k,p.az,p.dd,[]⟩::p.l),p.fs,p.st)/\wanted p.st.g p.gd=M U:=by unfold gN at h;grind
theorem rF{n:Nat}{m:aX δ}{φ:δ->IA->St}{f:δ->aX γ}{p:IA}(hp:gN S c n cf=M p)(B:Le (m.bind λx=>M (φ x p)) (gT S c p.dr p.fr ⟨p.d,J,p.now,p.k,p.az,[],[]⟩ p.st))
 (h:∀x,m=M x->Le (_o (f x) e) (bZ S c Q (nx S c n cf (φ x)))):Le (_o (m.bind f) e) (bZ S c Q cf):=by
 have⟨a,u⟩:=mh hp;refine Ip a Y u B λx w=>?_
 have:=h x w;simp[nx,hp]at this;omega
theorem yw{n:Nat}{m:aX β}{φ:IA->St}{p:IA}(hp:gN S c n cf=M p)(B:gT S c p.dr p.fr ⟨p.d,J,p.now,p.k,p.az,[],[]⟩ p.st=M (φ p))
 (h:Le m (bZ S c Q (nx S c n cf φ))):Le m (bZ S c Q cf):=by
 have⟨a,u⟩:=mh hp;refine ud a Y u B ?_;simp[nx,hp]at h;omega
theorem fC{α β:Type}{o:aX α}{f:α->β}{b:β}(h:o.map f=M b):∃a,o=M a/\f a=b:=ζf.1 h
theorem kn(n:Nat){m:aX β}{B:Cf}(h:Le m (bZ S c Q B))(D:iF S c n cf.1 cf.2.1 cf.2.2=M B:=by kernel_rfl):Le m (bZ S c Q cf):=Bj D h
theorem bp(n s:Nat){t:X'}{x y:aX γ}(B:Le (x.bind e) (bZ S c Q (ya s U (kG S c n cf))))(D:Le (y.bind e) (bZ S c Q (ya s O (kG S c n cf))))
 (G:(iF S c n cf.1 cf.2.1 cf.2.2).map (λp=>bk p.2.2.g s)=M (M (.v (.bool t))):=by kernel_rfl):Le (_o (bh t x y) e) (bZ S c Q cf):=by
 have⟨p,u,a⟩:=fC G;have b:kG S c n cf=p:=by unfold kG;grind
 rw[b]at B D;refine Bj u ?_;cases t
 .have:ya s O p=p:=by unfold ya;rw[sG a]
  rw[this]at D;exact D
 have:ya s U p=p:=by unfold ya;rw[sG a]
 rw[this]at B;exact B
theorem ct(n s:Nat){t:X'}{x y:aX γ}(B:Le (x.bind e) (bZ S c Q (ya s O (kG S c n cf))))(D:Le (y.bind e) (bZ S c Q (ya s U (kG S c n cf))))
 (G:(iF S c n cf.1 cf.2.1 cf.2.2).map (λp=>bk p.2.2.g s)=M (M (.v (.bool (!t)))):=by kernel_rfl):Le (_o (bh t x y) e) (bZ S c Q cf):=by
 have⟨p,u,a⟩:=fC G;have b:kG S c n cf=p:=by unfold kG;grind
 rw[b]at B D;refine Bj u ?_;cases t
 .have:ya s U p=p:=by unfold ya;rw[show V.bool U=V.bool (!O)from Y,sG a]
  rw[this]at D;exact D
 have:ya s O p=p:=by unfold ya;rw[show V.bool O=V.bool (!U)from Y,sG a]
 rw[this]at B;exact B
theorem BW(n k:Nat)(fr:ST)(st:δ->St){m:aX δ}{f:δ->aX γ}(B:Le (m.bind λr=>bZ S c Q (jmp k fr (kG S c n cf) (st r))) (bZ S c Q cf))(a:∀r,Le (_o (f r) e) (bZ S c Q (jmp k fr (kG S c n cf) (st r)))):Le (_o (m.bind f) e) (bZ S c Q cf):=Xn _ B a
theorem bn(n:Nat){r:δ}{k:δ->Cf}(B:iF S c n cf.1 cf.2.1 cf.2.2=M (k r):=by kernel_rfl):Le (_o (M r) λr=>bZ S c Q (k r)) (bZ S c Q cf):=adU B Y
theorem aZ{r:γ}{L:aX β}(h:L=e r:=by kernel_rfl):Le (_o (M r) e) L:=Le.of_eq h
theorem A5(n:Nat){b:RC}{m:aX (Out×Tb bG)}(h:Le m (bZ S c zw (.rc b,[],(kG S c n cf).2.2)))(B:iF S c n cf.1 cf.2.1 cf.2.2=M (.nx,[],(kG S c n cf).2.2):=by kernel_rfl):Le m (bZ S c (Bw S c b) cf):=abw B h
theorem abQ(n:Nat){o:aX α}(A:aX α->St){f:α->aX γ}(B:∀x,o=M x->Le (_o (f x) e) (bZ S c Q ((kG S c n cf).1,(kG S c n cf).2.1,A (M x))))
 (D:iF S c n cf.1 cf.2.1 cf.2.2=M ((kG S c n cf).1,(kG S c n cf).2.1,A o):=by kernel_rfl):Le (_o (o.bind f) e) (bZ S c Q cf):=acZ D B
theorem eZ.adX{S:Sys}{T:sY}[bD δ]{f:Y'}{A:α->So}{p:α->aX δ}(B:T f=J)(a:S.E.keep f=O)(D:∀z r,p z=M r->S.A8 f (A z)=M (enc r))
 :eZ S (dB S T) f A (λr=>[enc r]) p O where
 k:=a
 h z:=by intro y u;have⟨r,b,w⟩:=ζg.1 u;cases w;have h:=Jf B a (D z r b);unfold iB;rw[h];exact vl 8 [enc r]
 s h:=by cases h
def QK:K->aX BinOp
 |.p (.bin _ _ o)=>M o|_=>J
theorem Zd{k:K}{o:BinOp}(h:QK k=M o):∃t u,k=.p (.bin t u o):=by cases k with|p p=>cases p<;>simp[QK]at h;simp_all|_=>simp[QK]at h
def Ws:K->aX BinOp
 |.p (.bin (M .slice) _ o)=>M o|_=>J
theorem Zy{k:K}{o:BinOp}(h:Ws k=M o):∃u,k=.p (.bin (M .slice) u o):=by unfold Ws at h;grind
def kbs:K->aX (Nat×Nat×ST)
 |.a (.buildSl sz ln _ ix)=>M (sz,ln,ix)|_=>J
theorem aaR{k:K}{r:Nat×Nat×ST}(h:kbs k=M r):∃z,k=.a (.buildSl r.1 r.2.1 z r.2.2):=by unfold kbs at h;grind
def kal:K->aX So
 |.a (.alloc _ zero)=>M zero|_=>J
theorem abJ{k:K}{z:So}(h:kal k=M z):∃n,k=.a (.alloc n z):=by unfold kal at h;grind
section
variable[bD α]
theorem acj(k:T2)(n:Nat){s:Sl α}{i:Int}{f:α->aX γ}(h:∀x,idx s i=M x->Le ((f x).bind e) (bZ S c Q (nx S c n cf λp=>dA p.st p.d (cp x))))
 (B:(gN S c n cf).map (λp=>(p.k,b9 S.N p.st.g p.az))=M (.p (.idxS (bD.size α)),M [.v (cE s),.v (.int k i)]):=by kernel_rfl):Le (((idx s i).bind f).bind e) (bZ S c Q cf):=by
 have⟨p,u,a⟩:=fC B;simp at a;refine rF u ?_ h;rw[a.1];exact Le.of_eq (XE a.2 rfl)
theorem bB(n:Nat){s:Sl α}{i:Int}{f:α->aX γ}(h:∀x,idx s i=M x->Le ((f x).bind e) (bZ S c Q (nx S c n cf λp=>dA p.st p.d (cp x))))
 (B:(gN S c n cf).map (λp=>(p.k,b9 S.N p.st.g p.az))=M (.p (.idxS (bD.size α)),M [.v (cE s),.v (.int _r i)]):=by kernel_rfl):Le (((idx s i).bind f).bind e) (bZ S c Q cf):=acj _r n h B
theorem jx(k:T2)(n u:Nat){s:Sl α}{i:Int}{f:Nat->aX γ}(h:∀x,s.iE i=M x->Le ((f x).bind e) (bZ S c Q (nx S c n cf λp=>dA p.st p.d (.el u x 0))))
 (B:(gN S c n cf).map (λp=>(p.k,b9 S.N p.st.g p.az,bk p.st.m u))=M (.p (.idxS (bD.size α)),M [.own u,.v (.int k i)],M (cH s)):=by kernel_rfl):Le (((s.iE i).bind f).bind e) (bZ S c Q cf):=by
 have⟨p,w,a⟩:=fC B;simp at a;refine rF w ?_ h;rw[a.1];exact Le.of_eq (acI a.2.1 a.2.2 rfl)
theorem rB(n u o sz:Nat)(a:X')(v:α->V){s:Sl α}{i:Nat}{f:α->aX γ}(h:∀x,s.get i=M x->Le ((f x).bind e) (bZ S c Q (nx S c n cf λp=>dA p.st p.d (.v (v x)))))
 (B:(gN S c n cf).map (λp=>(p.k,b9 S.N p.st.g p.az,bk p.st.m u,(!p.dr||p.now||gw p.fr [.el u i o])))=M (.r (.load sz a),M [.el u i o],M (cH s),U):=by kernel_rfl)(b:∀x:α,(cut (cells x) o sz).bind (mk a)=M (v x):=by intro _;rfl):Le (((s.get i).bind f).bind e) (bZ S c Q cf):=by
 have⟨p,z,w⟩:=fC B;simp only[ζc]at w;refine rF z ?_ h;rw[w.1];exact Le.of_eq (aby w.2.1 w.2.2.2 w.2.2.1 b)
theorem r_(n u:Nat)(x:V){s:Sl α}{i:Nat}{a:α}{f:Sl α->aX γ}(h:∀B,s.put i a=M B->Le ((f B).bind e) (bZ S c Q (nx S c n cf λp=>dA {p.st with m:=bJ p.st.m u (cH B)} p.d (.v .undef))))
 (D:(gN S c n cf).map (λp=>(p.k,b9 S.N p.st.g p.az,bk p.st.m u,(!p.dr||p.now),x.cells))=M (.l (.store (bD.size α)),M [.el u i 0,.v x],M (cH s),U,cells a):=by kernel_rfl):Le (((s.put i a).bind f).bind e) (bZ S c Q cf):=by
 have⟨p,w,b⟩:=fC D;simp only[ζc]at b;refine rF w ?_ h;rw[b.1];exact Le.of_eq (Yw b.2.1 b.2.2.2.1 b.2.2.1 b.2.2.2.2 rfl)
theorem A1(n u:Nat){i:Int}{z:α}{f:Sl α->aX γ}(h:∀B,jQ i z=M B->Le ((f B).bind e) (bZ S c Q (nx S c n cf λp=>{p.st with g:=bJ p.st.g u (.own u),m:=bJ p.st.m u (cH B)})))
 (D:(gN S c n cf).map (λp=>(p.d,p.k,b9 S.N p.st.g p.az,p.st.new u))=M (M u,.a (.makeSl (bD.size α) (cells z)),M [.v (.int _r i),.v (.int _r i)],U):=by kernel_rfl):Le (((jQ i z).bind f).bind e) (bZ S c Q cf):=by
 have⟨p,w,a⟩:=fC D;simp at a;refine rF w ?_ h;rw[a.1,a.2.1];exact Le.of_eq (abE a.2.2.1 rfl rfl a.2.2.2)
theorem om(n o w u:Nat){s:Sl α}{x:α}{f:Sl α->aX γ}(h:∀B,eH s x=M B->Le ((f B).bind e) (bZ S c Q (nx S c n cf λp=>{p.st with g:=bJ p.st.g u (.own u),m:=bJ (dJ o p.st.m) u (cH B)})))
 (D:(gN S c n cf).map (λp=>(p.d,p.k,b9 S.N p.st.g p.az,(!p.dr||p.now),bk p.st.m o,bk p.st.m w,St.new {p.st with m:=dJ o p.st.m} u))=M (M u,.l (.append (bD.size α)),M [.own o,.own w],U,M (cH s),M (cH (.row [x])),U):=by kernel_rfl):Le (((eH s x).bind f).bind e) (bZ S c Q cf):=by
 have⟨p,z,a⟩:=fC D;simp only[ζc]at a;refine rF z ?_ h;rw[a.1,a.2.1];exact Le.of_eq (acw a.2.2.1 a.2.2.2.1 a.2.2.2.2.1 a.2.2.2.2.2.1 rfl a.2.2.2.2.2.2)
theorem Xf(n w u:Nat)(v:V)(x:α){m:aX β}(h:Le m (bZ S c Q (nx S c n cf λp=>{p.st with g:=bJ p.st.g u (.own u),m:=bJ p.st.m u (cH (.row [x]))})))(a:v=.bN\/v=.dS:=by first|exact .inl rfl|exact .inr rfl)
 (B:(gN S c n cf).map (λp=>(p.d,p.k,b9 S.N p.st.g p.az,(!p.dr||p.now),bk p.st.m w,p.st.new u))=M (M u,.l (.append (bD.size α)),M [.v v,.own w],U,M (cH (.row [x])),U):=by kernel_rfl):Le m (bZ S c Q cf):=by
 have⟨p,C,z⟩:=fC B;simp only[ζc]at z;refine yw C ?_ h;rw[z.1,z.2.1];exact aaU a z.2.2.1 z.2.2.2.1 z.2.2.2.2.1 rfl z.2.2.2.2.2
theorem bM(n:Nat)(s:Sl α){m:aX β}(h:Le m (bZ S c Q (nx S c n cf λp=>dA p.st p.d (.v (.int _r (W s.l))))))
 (B:(gN S c n cf).map (λp=>(p.k,b9 S.N p.st.g p.az))=M (.p .lenSl,M [.v (cE s)]):=by kernel_rfl):Le m (bZ S c Q cf):=by
 have⟨p,u,a⟩:=fC B;simp at a;refine yw u ?_ h;rw[a.1];exact WH a.2
theorem B2(n u:Nat)(s:Sl α){m:aX β}(h:Le m (bZ S c Q (nx S c n cf λp=>dA p.st p.d (.v (.int _r (W s.l))))))
 (B:(gN S c n cf).map (λp=>(p.k,b9 S.N p.st.g p.az,bk p.st.m u))=M (.p .lenSl,M [.own u],M (cH s)):=by kernel_rfl):Le m (bZ S c Q cf):=by
 have⟨p,w,a⟩:=fC B;simp at a;refine yw w ?_ h;rw[a.1];exact abT a.2.1 a.2.2
theorem abd(n:Nat){s:Sl α}{f:X'->aX γ}(h:∀t,s.isNil=M t->Le (_o (f t) e) (bZ S c Q (nx S c n cf λp=>dA p.st p.d (.v (.bool t)))))
 (B:(gN S c n cf).map (λp=>(Ws p.k,b9 S.N p.st.g p.az))=M (M .eql,M [.v (cE s),.v .bN]):=by kernel_rfl):Le (_o (s.isNil.bind f) e) (bZ S c Q cf):=by
 have⟨p,w,a⟩:=fC B;simp at a;have⟨u,b⟩:=Zy a.1;refine rF w ?_ h;rw[b];exact Le.of_eq (Zt a.2)
theorem E5(n:Nat)(lo hi:X')(B:So){s:Sl α}{a b:Ps}{f:Sl α->aX γ}(h:∀x,iK s a b=M x->Le ((f x).bind e) (bZ S c Q (nx S c n cf λp=>dA p.st p.d (.v (cE x)))))
 (D:(gN S c n cf).map (λp=>(p.k,b9 S.N p.st.g p.az,pe lo hi B))=M (.p (.slice (bD.size α) lo hi),M (.v (cE s)::B.map .v),M (a,b)):=by kernel_rfl):Le (((iK s a b).bind f).bind e) (bZ S c Q cf):=by
 have⟨p,u,g⟩:=fC D;simp at g;have⟨i,C⟩:=mh u;have⟨dr,fr,d,gd,now,k,az,dd,l,fs,st⟩:=p;obtain⟨rfl,G,I⟩:=g;exact adM n dr fr (⟨d,gd,now,.p (.slice (bD.size α) lo hi),az,dd,[]⟩::l) fs st lo hi B rfl g? λw z=>by have:=h w z;simp only[nx,u]at this;omega
theorem Xh(n:Nat)(lo hi:X')(u t:Nat)(B:So){s:Sl α}{a b:Ps}{f:Sl α->aX γ}(h:∀x,nW s a b=M x->Le ((f x).bind e) (bZ S c Q (nx S c n cf λp=>{p.st with g:=bJ p.st.g t (.own t),m:=bJ (dJ u p.st.m) t (cH x)})))
 (D:(gN S c n cf).map (λp=>(p.d,p.k,p.dr,b9 S.N p.st.g p.az,pe lo hi B,bk p.st.m u,St.new {p.st with m:=dJ u p.st.m} t))=M (M t,.p (.slice (bD.size α) lo hi),O,M (.own u::B.map .v),M (a,b),M (cH s),U):=by kernel_rfl):Le (((nW s a b).bind f).bind e) (bZ S c Q cf):=by
 have⟨p,w,i⟩:=fC D;simp at i;have⟨j,I⟩:=mh w;have⟨dr,fr,d,gd,now,k,az,dd,l,fs,st⟩:=p;obtain⟨rfl,rfl,rfl,q,L,y,z⟩:=i;exact ace n fr (⟨M t,gd,now,.p (.slice (bD.size α) lo hi),az,dd,[]⟩::l) fs st lo hi u B rfl z g? λC G=>by have:=h C G;simp only[nx,w]at this;omega
theorem bR(n u:Nat)(x:α){m:aX β}(h:Le m (bZ S c Q (nx S c n cf λp=>{p.st with g:=bJ p.st.g u (.ptr u 0),m:=bJ p.st.m u (bx x)})))
 (B:(gN S c n cf).map (λp=>(p.d,p.k,b9 S.N p.st.g p.az,p.st.new u))=M (M u,.a .box,M [cv x],U):=by kernel_rfl):Le m (bZ S c Q cf):=by
 have⟨p,w,a⟩:=fC B;simp at a;refine yw w ?_ h;rw[a.1,a.2.1,DZ,a.2.2.1];simp only[ζb,a.2.2.2,N',qI,qW,wP]
def stB(u o sz:Nat)(xs:SW)(p:IA):St:=match bk p.st.m u with
 |some (.box cs)=>dA {p.st with m:=bJ p.st.m u (.box (cs.take o++xs++cs.drop (o+sz)))} p.d (.v .undef)|_=>p.st
theorem o7(n u o:Nat)(x:α){m:aX β}(h:Le m (bZ S c Q (nx S c n cf (stB u o (bD.size α) ((cells x).map .v)))))
 (B:(gN S c n cf).map (λp=>(p.k,b9 S.N p.st.g p.az,(!p.dr||p.now),match bk p.st.m u with|some (.box cs)=>ble (o+bD.size α) (W cs)|_=>O))=M (.l (.store (bD.size α)),M [.ptr u o,cv x],U,U):=by kernel_rfl):Le m (bZ S c Q cf):=by
 have⟨p,C,a⟩:=fC B;simp only[ζc]at a;refine yw C ?_ h;have⟨b,D,G,z⟩:=a;split at z
 next cs w=>have I:=Nat.le_of_ble_eq_true z;rw[b,wZ,D];simp only[ζb,G,N',mO,w,putCells,qW,jv,wP,I,and_self,A?,stB]
 simp_all
theorem zb(n u:Nat)(xs:aY α){m:aX β}(h:Le m (bZ S c Q (nx S c n cf λp=>{p.st with g:=bJ p.st.g u (.own u),m:=bJ p.st.m u (cH (.row xs))})))
 (B:(gN S c n cf).map (λp=>(p.d,kbs p.k,b9 S.N p.st.g p.az,p.st.new u))=M (M u,M (bD.size α,W xs,D' 0 (W xs)),M ((xs.map enc).map .v),U):=by kernel_rfl):Le m (bZ S c Q cf):=by
 have⟨p,w,a⟩:=fC B;simp at a;have⟨b,G⟩:=mh w;have⟨dr,fr,d,gd,now,k,az,dd,l,fs,st⟩:=p;obtain⟨rfl,C,I,D⟩:=a;obtain⟨z,rfl⟩:=aaR C;exact Abs n dr fr (⟨M u,gd,now,.a (.buildSl (bD.size α) (W xs) z (D' 0 (W xs))),az,dd,[]⟩::l) fs st xs Y D g? (by
  simp[nx,w]at h;omega)
theorem abz(n:Nat)(x:α)(vs z:So)(pl:aY (Nat×Nat)){m:aX β}(B:mW z pl vs=M (cells x))(D:bD.agg α=U)(h:Le m (bZ S c Q (nx S c n cf λp=>dA p.st p.d (cv x))))
 (G:(gN S c n cf).map (λp=>(p.k,b9 S.N p.st.g p.az))=M (.p (.build z pl),M (vs.map .v)):=by kernel_rfl):Le m (bZ S c Q cf):=by
 have⟨p,u,a⟩:=fC G;simp at a;have⟨b,w⟩:=mh u;have⟨dr,fr,d,gd,now,k,az,dd,l,fs,st⟩:=p;obtain⟨rfl,C⟩:=a;exact adL n dr fr (⟨d,gd,now,.p (.build z pl),az,dd,[]⟩::l) fs st x vs Y B D g? (by
  simp only[nx,u]at h;omega)
end
theorem abD(n:Nat){k:T2}{a b:Int}{f:Int->aX γ}(h:∀x,x_ k a b=M x->Le ((f x).bind e) (bZ S c Q (nx S c n cf λp=>dA p.st p.d (.v (.int k x)))))
 (B:(gN S c n cf).map (λp=>(QK p.k,b9 S.N p.st.g p.az))=M (M .quo,M [.v (.int k a),.v (.int k b)]):=by kernel_rfl):Le (((x_ k a b).bind f).bind e) (bZ S c Q cf):=by
 have⟨p,w,d⟩:=fC B;simp at d;have⟨t,u,g⟩:=Zd d.1;refine rF w ?_ h;rw[g];exact Le.of_eq (ac3 d.2)
theorem Dc(n:Nat)(k:T2){a:U'}{b:Int}{f:Int->aX γ}(h:∀x,nF a b=M x->Le ((f x).bind e) (bZ S c Q (nx S c n cf λp=>dA p.st p.d (.v (.int .u8 x)))))
 (B:(gN S c n cf).map (λp=>(p.k,b9 S.N p.st.g p.az))=M (.p .idxStr,M [.v (.str a),.v (.int k b)]):=by kernel_rfl):Le (((nF a b).bind f).bind e) (bZ S c Q cf):=by
 have⟨p,u,d⟩:=fC B;simp at d;refine rF u ?_ h;rw[d.1];exact Le.of_eq (Vu d.2)
section
variable{A:α->So}{E:δ->So}{pl:α->aX δ}{fn:Y'}{sc:X'}
theorem zW(n:Nat)(F:eZ S c fn A E pl sc)(z:α){f:δ->aX γ}(h:∀x,pl z=M x->Le ((f x).bind e) (bZ S c Q (nx S c n cf λp=>dA p.st p.d (.v (result (E x))))))
 (B:(gN S c n cf).map (λp=>(p.k,(b9 S.N p.st.g p.az).bind mz,(!p.dr||p.now||gm p.st.m p.fr [])))=M (.c,M (fn,(A z).map .v),U):=by kernel_rfl):Le (((pl z).bind f).bind e) (bZ S c Q cf):=by
 have⟨p,C,b⟩:=fC B;simp at b;have⟨D,G,q⟩:=b;have⟨I,g1,g2⟩:=ζg.1 G;have u:∀d(w:So),SV.dX d (w.map .v)=O:=λd w=>by induction w with|nil=>rfl|cons a l j=>simp[SV.dX,SV.cZ,j]
 have L:(!p.dr||p.now||gm p.st.m p.fr ((A z).map .v))=U:=by have:gm p.st.m p.fr ((A z).map .v)=gm p.st.m p.fr []:=(by unfold gm;simp[u];rfl);grind
 refine rF C ?_ h;rw[D];exact Ln (F.h z) F.k g1 g2 (MH _ _ _) L (λr=>by rw[l8];simp)
theorem abY(n:Nat)(F:eZ S c fn A E pl U)(z:α){f:δ->aX γ}(h:∀x,pl z=M x->Le ((f x).bind e) (bZ S c Q (nx S c n cf λp=>dA p.st p.d (.v (result (E x))))))
 (B:(gN S c n cf).map (λp=>(p.k,((b9 S.N p.st.g p.az).bind mz).bind λq=>(qO (kH p.st.m 8) q.2).map λvs=>(q.1,vs,((!p.dr||p.now)||gm p.st.m p.fr q.2))))=M (.c,M (fn,A z,U)):=by kernel_rfl):Le (((pl z).bind f).bind e) (bZ S c Q cf):=by
 have⟨p,u,a⟩:=fC B;simp at a;have⟨w,C⟩:=a;have⟨q,g1,g2⟩:=ζg.1 C;have⟨D,g3,g4⟩:=ζg.1 g1;have⟨vs,g5,g6⟩:=ζf.1 g2;simp only[ζc]at g6;obtain⟨e1,rfl,e3⟩:=g6;refine rF u ?_ h;rw[w];exact Ln (F.h z) F.k g3 g? g5 e3 (λr=>by rw[F.s rfl];rfl)
end
section
variable{N:Nat}[bD α]
theorem Qf(n:Nat)(k:T2){a:cn N α}{i:Int}{f:α->aX γ}(h:∀x,a.at i=M x->Le ((f x).bind e) (bZ S c Q (nx S c n cf λp=>dA p.st p.d (.v (.fptr (pa a i))))))
 (B:(gN S c n cf).map (λp=>(p.k,b9 S.N p.st.g p.az))=M (.p (.idxA N (bD.size α)),M [cp a,.v (.int k i)]):=by kernel_rfl):Le (((a.at i).bind f).bind e) (bZ S c Q cf):=by
 have⟨p,u,b⟩:=fC B;simp at b;have⟨g,z⟩:=mh u;have⟨dr,fr,d,gd,now,C,az,dd,l,fs,st⟩:=p;obtain⟨rfl,D⟩:=b;exact acv n dr fr (⟨d,gd,now,.p (.idxA N (bD.size α)),az,dd,[]⟩::l) fs st k rfl g? λx w=>by have:=h x w;simp only[nx,u]at this;omega
theorem Vt(n k:Nat)(a:cn N α)(i:Int)(o:Nat)(x:α)(B:a.at i=M x){m:aX β}(h:Le m (bZ S c Q (nx S c n cf λp=>dA p.st p.d (.v (.fptr ((pa a i).drop (o+k)))))))
 (D:(gN S c n cf).map (λp=>(p.k,b9 S.N p.st.g p.az,ble (o+k) (bD.size α)))=M (.p (.fieldAddr k),M [.v (.fptr ((pa a i).drop o))],U):=by kernel_rfl):Le m (bZ S c Q cf):=by
 have⟨p,u,b⟩:=fC D;simp at b;have⟨e,w⟩:=mh u;have⟨dr,fr,d,gd,now,z,az,dd,l,fs,st⟩:=p;obtain⟨rfl,C,G⟩:=b;exact adS n dr fr (⟨d,gd,now,.p (.fieldAddr k),az,dd,[]⟩::l) fs st a i o x B Y g? (by
  simp only[nx,u]at h;omega)
theorem PL(n sz:Nat)(ag:X')(a:cn N α)(i:Int)(o:Nat)(x:α)(B:a.at i=M x)(v:V)(b:_o (cut (cells x) o sz) (mk ag)=M v){m:aX β}(h:Le m (bZ S c Q (nx S c n cf λp=>dA p.st p.d (.v v))))
 (D:(gN S c n cf).map (λp=>(p.k,b9 S.N p.st.g p.az))=M (.r (.load sz ag),M [.v (.fptr ((pa a i).drop o))]):=by kernel_rfl):Le m (bZ S c Q cf):=by
 have⟨p,w,u⟩:=fC D;simp at u;have⟨e,z⟩:=mh w;have⟨dr,fr,d,gd,now,C,az,dd,l,fs,st⟩:=p;obtain⟨rfl,G⟩:=u;exact acA n dr fr (⟨d,gd,now,.r (.load sz ag),az,dd,[]⟩::l) fs st a i o x B b v Y g? (by
  simp only[nx,w]at h;omega)
theorem Bal(n u:Nat)(st:St)(cs:SW){m:aX β}(B:st.new u=U)(h:Le m (bZ S c Q (nx S c n cf λ_=>{st with g:=bJ st.g u (.ptr u 0),m:=bJ st.m u (.box cs)})))
 (D:(gN S c n cf).map (λp=>(p.d,(kal p.k).map (λz=>z.map SV.v),b9 S.N p.st.g p.az,p.st))=M (M u,M cs,M [],st):=by kernel_rfl):Le m (bZ S c Q cf):=by
 have⟨p,C,a⟩:=fC D;simp only[ζc]at a;have⟨z,G,w⟩:=fC a.2.1;have⟨k,b⟩:=abJ G;refine yw C ?_ h;rw[a.1,b,DZ,a.2.2.1,a.2.2.2];simp[B,qI,w]
theorem KA(n:Nat)(k:T2)(u:Nat){a:cn N α}{i:Int}{f:α->aX γ}(h:∀x,a.at i=M x->Le ((f x).bind e) (bZ S c Q (nx S c n cf λp=>dA p.st p.d (.ptr u (i.toNat*bD.size α+0)))))
 (B:(gN S c n cf).map (λp=>(p.k,b9 S.N p.st.g p.az,bk p.st.m u))=M (.p (.idxA N (bD.size α)),M [.ptr u 0,.v (.int k i)],M (bx a)):=by kernel_rfl):Le (((a.at i).bind f).bind e) (bZ S c Q cf):=by
 have⟨p,w,b⟩:=fC B;simp at b;have⟨g,C⟩:=mh w;have⟨dr,fr,d,gd,now,D,az,dd,l,fs,st⟩:=p;obtain⟨rfl,G,I⟩:=b;exact ac0 n dr fr (⟨d,gd,now,.p (.idxA N (bD.size α)),az,dd,[]⟩::l) fs st k u rfl g? λx z=>by have:=h x z;simp only[nx,w]at this;omega
theorem WZ(n sz:Nat)(ag:X')(u:Nat)(a:cn N α)(i:Int)(o:Nat)(x:α)(B:a.at i=M x)(v:V)(b:_o (cut (cells x) o sz) (mk ag)=M v){m:aX β}(h:Le m (bZ S c Q (nx S c n cf λp=>dA p.st p.d (.v v))))
 (D:(gN S c n cf).map (λp=>(p.k,b9 S.N p.st.g p.az,bk p.st.m u,(!p.dr||p.now||gw p.fr [.ptr u 0])))=M (.r (.load sz ag),M [.ptr u (i.toNat*bD.size α+o)],M (bx a),U):=by kernel_rfl):Le m (bZ S c Q cf):=by
 have⟨p,z,w⟩:=fC D;simp at w;have⟨e,C⟩:=mh z;have⟨dr,fr,d,gd,now,G,az,dd,l,fs,st⟩:=p;obtain⟨rfl,I,j,L⟩:=w;exact acQ n dr fr (⟨d,gd,now,.r (.load sz ag),az,dd,[]⟩::l) fs st u a i o x B b v Y g? (by
  simp only[nx,z]at h;omega)
end
section
variable{κ ν:Type}[bD κ][DecidableEq κ][Key κ][bD ν]
theorem Xw(n u:Nat)(mp:Mo κ ν)(k:κ)(z:ν){m:aX β}(h:Le m (bZ S c Q (nx S c n cf λp=>dA p.st p.d (cv (vL mp k z)))))
 (B:(gN S c n cf).map (λp=>(p.k,b9 S.N p.st.g p.az,bk p.st.m u,(!p.dr||p.now||gw p.fr [.mp u,cv k])))=M (.r (.lookup (Key.kk κ) (enc z) O),M [.mp u,cv k],M (tR mp),U):=by kernel_rfl):Le m (bZ S c Q cf):=by
 have⟨p,w,a⟩:=fC B;simp at a;have⟨b,C⟩:=mh w;have⟨dr,fr,d,gd,now,D,az,dd,l,fs,st⟩:=p;obtain⟨rfl,G,I,j⟩:=a;exact acT n dr fr (⟨d,gd,now,.r (.lookup (Key.kk κ) (enc z) O),az,dd,[]⟩::l) fs st u mp k z Y g? (by
  simp only[nx,w]at h;omega)
theorem aa0(n u:Nat)(mp:Mo κ ν)(k:κ)(v:ν){m:aX β}(h:Le m (bZ S c Q (nx S c n cf λp=>dA {p.st with m:=bJ p.st.m u (tR (qy mp k v))} p.d (.v .undef))))
 (B:(gN S c n cf).map (λp=>(p.k,b9 S.N p.st.g p.az,bk p.st.m u,(!p.dr||p.now)))=M (.l (.mapUp (Key.kk κ)),M [.mp u,cv k,cv v],M (tR mp),U):=by kernel_rfl):Le m (bZ S c Q cf):=by
 have⟨p,z,w⟩:=fC B;simp at w;have⟨a,C⟩:=mh z;have⟨dr,fr,d,gd,now,D,az,dd,l,fs,st⟩:=p;obtain⟨rfl,G,I,j⟩:=w;exact ad0 n dr fr (⟨d,gd,now,.l (.mapUp (Key.kk κ)),az,dd,[]⟩::l) fs st u mp k v Y g? (by
  simp[nx,z]at h;omega)
end
theorem ac5(n:Nat)(st:St){rs:aY RV}{e:γ->aX So}{r:γ}(m?:SW){ys:So}(B:qO (kH st.m 8) m?=M ys)(D:e r=M ys)
 (h:(iF S c n cf.1 cf.2.1 cf.2.2).map (λq=>(q.1,q.2.2,lz q.2.2 rs))=M (.rt,st,M m?):=by kernel_rfl):Le (_o (M r) e) (bZ S c (oR rs) cf):=by
 have⟨⟨fo,fs,e?⟩,u,a⟩:=fC h;simp at a;obtain⟨rfl,rfl,w⟩:=a;exact aci n m? B (by rw[u,w]) D
end
end Go.VE
namespace Go.VE
variable[b7]
section
variable{S:Sys}{c:b_}{β γ δ α:Type}[bD α]{Q:Out×St->aX β}{e:γ->aX β}{cf:Cf}
def qh(s x:Sl α):aX (Sl α):=if x.l=[]then M s else if W s.l+W x.l<=2147483648 then M (.row (s.l++x.l))else J
theorem Zw(m:Tb bG)(n w:Nat)(x:Sl α)(B:n=bD.size α)(D:bk m w=M (cH x)):jP m n (.own w)=M (rows x.l):=by rw[Dy,D,DE n x B]
theorem Nb(l:aY α):rows l=[]↔l=[]:=by unfold rows;simp
theorem UC(a b:aY α):rows a++rows b=rows (a++b):=by unfold rows;simp
theorem KL(a:aY α):W (rows a)=W a:=by unfold rows;simp
theorem aaX{st:St}{dr now:X'}{fr:ST}{az:QR}{d n o:Nat}{s x:Sl α}{B:SV}(T:b9 S.N st.g az=M [.own o,B])(hd:(!dr||now)=U)(D:bk st.m o=M (cH s))(q:jP st.m n B=M (rows x.l))(G:n=bD.size α)(j:St.new {st with m:=dJ o st.m} d=U):
 gT S c dr fr ⟨M d,J,now,.l (.append n),az,[],[]⟩ st=_o (qh s x) λz=>M {st with g:=bJ st.g d (.own d),m:=bJ (dJ o st.m) d (cH z)}:=by
 rw[wZ,T];simp only[ζb,hd,N',Af (Zw st.m n o s G D) q];unfold qh
 by_cases h:x.l=[]
 .rw[L' h,(Nb x.l).2 h];simp only[As,D,L' j,ζb];rfl
 rw[M' h];have a:rows x.l≠[]:=λe=>h ((Nb _).1 e)
 have w:As st d n (.own o) (M (rows s.l)) (M (rows x.l))=if(rows s.l).length+W (rows x.l)<=2147483648/\K3 (.own o)=U then(if St.new {st with m:=giveUp st.m (.own o)} d then M (.own d,{st with m:=bJ (giveUp st.m (.own o)) d (.sl .row n (rows s.l++rows x.l))})else J)else J:=by unfold As;generalize rows x.l=r at *;cases r with|nil=>exact _e Y a|cons y r=>rfl
 rw[w,KL,KL,UC]
 by_cases u:W s.l+W x.l<=2147483648
 .rw[L' ⟨u,Y⟩,L' (show St.new {st with m:=giveUp st.m (.own o)} d=U from j),L' u];rw[ζb,ζb,G];rfl
 rw[M' (λk=>u k.1),M' u];rfl
theorem aco(n o u:Nat)(D:SV){s x:Sl α}{f:Sl α->aX γ}(G:∀p,gN S c n cf=M p->jP p.st.m (bD.size α) D=M (rows x.l))
 (h:∀B,qh s x=M B->Le ((f B).bind e) (bZ S c Q (nx S c n cf λp=>{p.st with g:=bJ p.st.g u (.own u),m:=bJ (dJ o p.st.m) u (cH B)})))
 (d:(gN S c n cf).map (λp=>(p.d,p.k,b9 S.N p.st.g p.az,(!p.dr||p.now),bk p.st.m o,St.new {p.st with m:=dJ o p.st.m} u))=M (M u,.l (.append (bD.size α)),M [.own o,D],U,M (cH s),U):=by kernel_rfl):Le (((qh s x).bind f).bind e) (bZ S c Q cf):=by
 have⟨p,w,a⟩:=fC d;simp only[ζc]at a;refine rF w ?_ h;rw[a.1,a.2.1];exact Le.of_eq (aaX a.2.2.1 a.2.2.2.1 a.2.2.2.2.1 (G p w) rfl a.2.2.2.2.2)
theorem QH(m:Tb bG)(x:Sl α):jP m (bD.size α) (.v (cE x))=M (rows x.l):=by cases x<;>simp[cE,Sl.k,Sl.l,lQ,jP,rows]
theorem AX(n o u:Nat){s x:Sl α}{f:Sl α->aX γ}
 (h:∀B,qh s x=M B->Le ((f B).bind e) (bZ S c Q (nx S c n cf λp=>{p.st with g:=bJ p.st.g u (.own u),m:=bJ (dJ o p.st.m) u (cH B)})))
 (D:(gN S c n cf).map (λp=>(p.d,p.k,b9 S.N p.st.g p.az,(!p.dr||p.now),bk p.st.m o,St.new {p.st with m:=dJ o p.st.m} u))=M (M u,.l (.append (bD.size α)),M [.own o,.v (cE x)],U,M (cH s),U):=by kernel_rfl):Le (((qh s x).bind f).bind e) (bZ S c Q cf):=
 aco n o u _ (λp _=>QH p.st.m x) h D
end
theorem uc{α:Type}{l:aY α}{i:Nat}{x:α}(h:l[i]?=M x):l.set i x=l:=by obtain⟨hi,rfl⟩:=ζe.1 h;exact List.set_getElem_self hi
open Classical in
def E_(E:Env)(g:Y')(cb:So)(a b:V):aX V:=if h:∃n y,cw (run E n) g (a::b::cb) []=M y then M (Classical.choose (S? h))else J
theorem Ih{E:Env}{g:Y'}{cb:So}{a b y:V}(h:E_ E g cb a b=M y):∃n,∀k,n<=k->cw (run E k) g (a::b::cb) []=M y:=by
 unfold E_ at h;split at h;next c=>cases h;exact⟨_,λk d=>qB (rL E d) (S? (S? c))⟩
 cases h
theorem O3{E:Env}{g:Y'}{cb:So}{a b y:V}{n:Nat}(h:cw (run E n) g (a::b::cb) []=M y):E_ E g cb a b=M y:=by have d:∃n y,cw (run E n) g (a::b::cb) []=M y:=⟨n,y,h⟩;cases c:E_ E g cb a b with|none=>unfold E_ at c;rw[dif_pos d]at c;cases c|some z=>have⟨m,u⟩:=Ih c;have:=u _ (Nat.le_max_right n m);rw[qB (rL E (Nat.le_max_left n m)) h]at this;cases this;rfl
theorem HH{n:Nat}{p:_root_.Fin n->Nat->Prop}(h:∀i,∃N,∀k,N<=k->p i k):∃N,∀i k,N<=k->p i k:=by induction n with|zero=>exact⟨0,λi=>i.elim0⟩|succ n u=>obtain⟨N,w⟩:=u (p:=λi=>p i.succ) λi=>h i.succ;obtain⟨d,a⟩:=h 0;refine⟨max N d,λi k b=>?_⟩;refine _root_.Fin.cases (a k a?) (λj=>w j k a?) i
def kU(x:So):V:=x.headD .undef
def wX(es:Nat)(xs:S'):X':=es==1&&xs.all (λx=>W x==1&&x.all V.one)&&_s (W xs<=2147483648)
theorem BN{es:Nat}{xs:S'}(h:wX es xs=U):es=1/\W xs<=2147483648/\∀(i:Nat)x,xs[i]?=M x->x=[kU x]/\(kU x).one=U:=by unfold wX at h;simp only[ζh,_j,G?,_g]at h;refine⟨h.1.1,h.2,λi x w=>?_⟩;have⟨a,z⟩:=h.1.2 x (s? w);obtain⟨u,rfl⟩:=List.length_eq_one_iff.1 a;exact⟨Y,z u f?⟩
section
variable{H:bt}{Z:Nat->Prop}
theorem dL.N2{k:Nat}{xs ys:So}(h:dL H Z xs ys)(B:V.nQ k xs=U):borrows k H ys=M xs:=mT h.1 λj u v a b=>(h.2 j u v a b).borrow k (oO.1 B j u a)
theorem dL.borrows{xs ys:So}(h:dL H Z xs ys):∃n,∀k,n<=k->borrows k H ys=M xs:=by have⟨n,u⟩:=oH xs;exact⟨n,λk a=>h.N2 (rQ a u)⟩
theorem Sd{es:Nat}{xs:S'}(h:wX es xs=U){rs:S'}(B:gZ H Z xs rs):dL H Z (xs.map kU) rs.flatten:=by induction xs generalizing rs with|nil=>have:=B.1;simp at this;have:rs=[]:=List.eq_nil_of_length_eq_zero (by simpa using this.symm);subst this;exact .nil|cons x xs D=>have⟨d,L,G⟩:=BN h;cases rs with|nil=>have:=B.1;simp at this|cons r rs=>have⟨e,_⟩:=G 0 x Y;have C:=B.2 0 x r Y Y;rw[e]at C;obtain⟨u,y,rfl,c,w⟩:=C.inv;rw[w.dx];have z:wX es xs=U:=(by unfold wX at h⊢;simp only[q!,ζh,W?,_g]at h⊢;exact⟨⟨h.1.1,h.1.2.2⟩,a?⟩);exact .cons c (D z (rs:=rs) ⟨by have:=B.1;simpa using this,λj a b I q=>B.2 (j+1) a b I q⟩)
end
def vz(E:Env)(g:Y')(cb:So)(a b:V):Ps:=match E_ E g cb a b with|some (.int _r c)=>M c|_=>J
theorem VA{E:Env}{g:Y'}{cb:So}{a b:V}{c:Int}(h:vz E g cb a b=M c):∃n,∀k,n<=k->cw (run E k) g (a::b::cb) []=M (.int _r c):=by
 unfold vz at h;split at h;next c' d=>cases h;exact Ih d
 cases h
def C_(E:Env)(es:Nat)(xs:S'):So->aX S'
 |[.clo g [] cb]=>match xs with
  |[]=>M []|x::l=>if wX es (x::l)&& !E.keep g then
   let t:_root_.Fin (W l+1)->_root_.Fin (W l+1)->Ps:=λi j=>vz E g cb (kU (((x::l)[i.1]?).getD [])) (kU (((x::l)[j.1]?).getD []))
   if DH t then M ((tj (W l) (sy t)).toList.map λi=>((x::l)[i.1]?).getD [])else J
   else J
 |_=>J
def vT(E:Env):JW:=⟨O,C_ E⟩
theorem GC{n:Nat}{lt:_root_.Fin (n+1)->_root_.Fin (n+1)->X'}(h:Sort.SWO lt):(tj n lt).size=n+1:=by rw[FD];have:=(Sort.pdq_sorts lt h (List.finRange (n+1)).toArray 0 (n+1) (Lib.bitLen (n+1)) U U (N? _) f? (Or.inl Y)).1.1;simpa using this
theorem Wj{E:Env}{f:Y'}(m:E.keep f=true)(ho:E.own f=false)(A:E.sort f=true)(F:E.ft f=none):qa E f (vT E)where
 keep:=m
 own:=ho
 le:=by intro es xs vs ys h;simp only[vT,C_]at h;split at h;split at h;cases h;exact⟨x? _,λ_=>rfl⟩;split at h;split at h;(next q=>cases h;have:=GC (tf q).2;simp only[O!,Array.length_toList,W?,this];exact⟨x? _,λ_=>trivial⟩);cases h;cases h;cases h
 none:=by intro es vs ys h H Z ws w K he;simp only[vT,C_]at h;split at h;obtain⟨R,r,rfl,V,a__⟩:=K.inv;rw[a__.dx];refine⟨1,[],λk m=>?_⟩;(cases k with|zero=>omega|succ k=>rcases he with rfl|rfl<;>simp[run,mc,F,A,tA,vT]);cases h
 row:=by
  intro es xs vs ys h H Z ws id off rs K d__ C I z hz;simp only[vT,C_]at h;split at h;rename_i g cb;obtain⟨R,r,rfl,V,a__⟩:=K.inv;rw[a__.dx];obtain⟨a',b__,rfl,s,aa⟩:∃a' b__,R=.clo g a' b__/\dL H Z [] a'/\dL H Z cb b__:=V.mC;rw[s.dx]at *;split at h;cases h;refine⟨1,rs,[],λk m=>?_,rfl,⟨rfl,λj u v o=>by simp at o⟩,z⟩;cases k with|zero=>omega|succ k=>have:H.set id (.row es rs)=H:=uc d__;simp[run,mc,F,A,tA,vT,this]
  rename_i x l;split at h;rename_i D;simp only[ζh,Bool.not_eq_true']at D;obtain⟨c1,c3⟩:=D;obtain⟨rfl,Q,ae⟩:=BN c1;split at h;rename_i q;cases h;obtain⟨G,S⟩:=tf q;have B:∀i,Z i->Z i/\bz (H.set id .dead) i=bz H i:=λi hi=>⟨hi,by unfold bz;rw[E?];rintro rfl;exact hz hi⟩;have T:=I.mono B;obtain⟨M1,c__⟩:=(Sd c1 T).borrows;simp only[W?]at c__;obtain⟨M2,W⟩:=(aa.mono B).borrows;obtain⟨N,P⟩:=HH (p:=λi k=>∀j:_root_.Fin (l.length+1),cw (run E k) g (kU (((x::l)[i.1]?).getD [])::kU (((x::l)[j.1]?).getD [])::cb) []=some (.int .i64 ((vz E g cb (kU (((x::l)[i.1]?).getD [])) (kU (((x::l)[j.1]?).getD []))).getD 0))) (λi=>by
   obtain⟨N,P⟩:=HH (p:=λ(j:_root_.Fin (l.length+1))k=>cw (run E k) g (kU (((x::l)[i.1]?).getD [])::kU (((x::l)[j.1]?).getD [])::cb) []=some (.int .i64 ((vz E g cb (kU (((x::l)[i.1]?).getD [])) (kU (((x::l)[j.1]?).getD []))).getD 0))) (λj=>by
    obtain⟨c,d⟩:=G i j;obtain⟨n,hn⟩:=VA d;exact⟨n,λk m=>by rw[hn k m,d];rfl⟩)
   exact⟨N,λk m j=>P j k m⟩)
  have X:∀k,N<=k->kL (run E k) g ((x::l).map kU) cb l.length=λi j=>vz E g cb (kU (((x::l)[i.1]?).getD [])) (kU (((x::l)[j.1]?).getD [])):=λk m=>by funext i j;obtain⟨c,d⟩:=G i j;have e1:∀i:_root_.Fin (l.length+1),((x::l).map kU)[i.1]?=some (kU (((x::l)[i.1]?).getD [])):=λi=>(by have:i.1<(x::l).length:=i.2;rw[j!,ζd this];rfl);unfold kL;rw[e1 i,e1 j];simp only[P i k m j];rw[d];rfl
  have ab:=GC S;generalize hL:(tj l.length (sy λi j:_root_.Fin (l.length+1)=>vz E g cb (kU (((x::l)[i.1]?).getD [])) (kU (((x::l)[j.1]?).getD [])))).toList=L at *;have ad:L.length=l.length+1:=by rw[<-hL];simpa using ab
  simp only[W?]at C I Q;refine⟨max N (max M1 M2)+1,ug rs off l.length L,[],λk m=>?_,?_,?_,?_⟩;cases k with|zero=>omega|succ k=>simp only[run,mc,F,A,N',tA,d__,vT,v?,_a,W?];rw[L' ⟨trivial,trivial,C,a?,c3⟩,show(run E k).lv=k from qM E k,c__ k a?,W k a?];simp only[X k a?,q,N',hL,a7]
  simp[ug,ad];omega;have e:((ug rs off l.length L).drop off).take (L.map λi=>((x::l)[i.1]?).getD []).length=L.map λi=>(rs[off+i.1]?).getD []:=by unfold ug;have h0:(rs.take off).length=off:=(by simp;omega);rw[d7,List.drop_append_of_le_length a?,List.drop_eq_nil_of_le a?,w7,O!,List.take_append_of_le_length f?,a! f?]
  rw[e];refine⟨f?,λj a b s t=>?_⟩;rw[j!]at s t;obtain⟨i,hi,rfl⟩:=ζf.1 s;rw[hi]at t;simp only[A?,ζa]at t;subst t;have Y:i.1<(x::l).length:=i.2;have y:off+i.1<rs.length:=by have:=i.2;omega
  refine I.2 i.1 _ _ (by rw[ζd Y];rfl) ?_;rw[J?,L' i.2,M?,ζd y];rfl;intro c d u o;unfold ug at d;rcases mem_append.1 d with d|d;rcases mem_append.1 d with d|d;exact z c (List.mem_of_mem_take d) u o;obtain⟨i,_,rfl⟩:=mem_map.1 d;have y:off+i.1<rs.length:=by have:=i.2;omega
  rw[ζd y]at o;exact z _ (t? y) u o;exact z c (List.mem_of_mem_drop d) u o;cases h;cases h;cases h
def gJ(N:Nat->Y')(F:WP):Arg->V
 |.s n=>get F n|.k c=>c|.f s=>.clo (N s) [] []
def lJ(E:Env)(N:Nat->Y')(call:en)(b:aX Nat)(now:X')(k:K)(vs:So)(H:bt):aX (V×bt):=
 match k,b with
 |.p p,_=>(bW N p vs).map λv=>(v,H)|.r r,J=>(gI H r vs).map λv=>(v,H)|.r r,M b=>(gI (H.take b) r vs).map λv=>(v,H)|.a a,J=>(od a vs).map λx=>(x.2.val (W H),H++[x.1])|.l l,J=>f_ H l vs|.l (.store n),M _=>if now then f_ H (.store n) vs else J|.c,J=>match vs with
  |.clo g a c::u=>if E.keep g then iP E call g (a++u++c) H else match cw call g (a++u++c) H with
   |some y=>if y.scalar then M (y,H)else J|none=>J
  |_=>J
 |.c,M b=>match vs with
  |.clo g a c::u=>if E.keep g then J else match cw call g (a++u++c) (H.take b)with
   |some y=>if y.scalar then M (y,H)else J|none=>J
  |_=>J
 |_,_=>J
def nr(F:WP):aX Nat->V->WP
 |none,_=>F|some d,v=>set F d v
def d_(E:Env)(N:Nat->Y')(call:en)(b:aX Nat):R0->WP->bt->aX (WP×bt)
 |[],F,H=>M (F,H)|o::r,F,H=>match o.gd with
  |none=>match lJ E N call b o.now o.k (o.az.map (gJ N F)) H with
   |some (v,H')=>d_ E N call b r (nr F o.dst v) H'|none=>J
  |some _=>J
section
variable{X:CX}{N:Nat->Y'}{call:en}{F F':WP}{H H':bt}
theorem OO(B:∀f s,X.nm f=M s->N s=f){o:UV}{x:Arg}(h:si X.nm o=M x):ev F o=M (gJ N F x):=by cases o with|tmp t=>simp[si]at h;subst h;rfl|const w=>simp[si]at h;split at h;rename_i c a;split at h;simp at h;subst h;exact a;grind;grind|func f=>obtain⟨s,u,rfl⟩:=ζf.1 h;show M (V.clo f [] [])=M (.clo (N s) [] []);grind|global i=>simp[si]at h;split at h;rename_i c a;split at h;simp at h;subst h;simp[ev,a];rfl;grind;grind
theorem zn(G:∀f s,X.nm f=M s->N s=f):∀{os:aY UV}{B:QR},os.mapM (si X.nm)=M B->gz F os=M (B.map (gJ N F))
 |[],B,h=>by simp at h;subst h;rfl|o::os,B,h=>by simp[ζg]at h;obtain⟨x,d,xs,D,rfl⟩:=h;simp[gz,OO G d,zn G D]
theorem CG(D:∀f s,X.nm f=M s->N s=f){B:X'}{ops:QP}{i:Nat}{o:Oper}{ro:RO}(h:oV X B ops i o=M ro)(g:ro.gd=J):
 o.dst=ro.dst/\Bq X.nt o.dst=U/\iA ops F o=U/\((Dz X.E N F o.op (ro.az.map (gJ N F)) ro.k/\ro.now=(B&&ez ops i)/\(B=U->ez ops i=O->∀a',sx ops i a'=[]\/∀t,o.op≠.load t (.tmp a')))\/(∃n,ro.k=.l (.storeF n))\/(∃n a,ro.k=.r (.loadF n a))\/(B=U/\GM X.E ops i=U/\c7 o.op=.alloc/\(∃p,ro.k=.p p/\(p=.emptyC\/(∃a b,p=.makeC a b)\/∃a b c d,p=.buildC a b c d)/\∀y,bW N p (ro.az.map (gJ N F))=M y->sB X.E F o.op=M y))\/∃n,ro.k=.e n):=by
 unfold oV at h;split at h
 .rename_i hd;have hd:=(Bool.and_eq_true_iff.1 hd).1;split at h
  .rename_i gd k os u hr;split at h
   .split at h
    .rename_i z;simp only[ζh]at z;have L:∀{gd:aX (Nat×X')},EK ops o=M gd->gd=J->iA ops F o=U:=λ{gd}u g=>by
      subst g;unfold iA;unfold EK at u
      cases G:o.guard with
      |none=>rfl|some b__=>rw[G]at u;have⟨j,b⟩:=b__;have⟨d,_,e⟩:=ζf.1 u;cases e
     split at h
     next Q=>obtain⟨S,C,rfl⟩:=ζf.1 h;have w:=kY D hr (zn (F:=F) D C);exact⟨_l,hd,L u g,.inr (.inr (.inr (.inl ⟨z.1,z.2,w.1,_,_l,.inr (.inl ⟨_,_,_l⟩),λy I=>GZ ⟨_,_,_,by assumption⟩ w I⟩)))⟩
     .rename_i Q;split at h
      next T=>obtain⟨a__,rfl,rfl⟩:=T;obtain⟨S,C,rfl⟩:=ζf.1 h;have w:=kY D hr (zn (F:=F) D C);exact⟨_l,hd,L u g,.inr (.inr (.inr (.inl ⟨z.1,z.2,w.1,_,_l,.inl _l,λy I=>Gb ⟨_,_,_,by assumption⟩ w a__ I⟩)))⟩
      obtain⟨S,C,rfl⟩:=ζf.1 h;have w:=kY D hr (zn (F:=F) D C);exact⟨_l,hd,L u g,.inr (.inr (.inr (.inl ⟨z.1,z.2,w.1,_,_l,.inr (.inr ⟨_,_,_,_,_l⟩),λy I=>FQ ⟨_,_,_,by assumption⟩ w I⟩)))⟩
     cases h
    obtain⟨S,C,rfl⟩:=ζf.1 h;simp only at g;subst g;refine⟨_l,hd,?_,?_⟩
    .unfold iA;unfold EK at u
     cases G:o.guard with
     |none=>rfl|some b__=>rw[G]at u;have⟨j,b⟩:=b__;have⟨d,_,e⟩:=ζf.1 u;cases e
    rcases Hs B ops i k os with⟨e,W⟩|⟨_,_,n,a,l,Y,_,_,_,e⟩|⟨_,_,n,ag,a,_,_,e⟩|⟨_,_,_,n,_,e⟩
    .rw[e]at C⊢;refine .inl ⟨kY D hr (zn D C),_l,λhd Z a'=>?_⟩
     by_cases q:∃t,o.op=.load t (.tmp a')
     .have⟨t,q⟩:=q;rw[q]at hr;simp only[resolve]at hr;have⟨d,_,e⟩:=ζf.1 hr;simp only[ζc]at e;exact .inl (W _ _ a' hd Z e.1.symm e.2.symm)
     exact .inr λt h=>q ⟨t,h⟩
    .rw[e];exact .inr (.inl ⟨n,_l⟩)
    .rw[e];exact .inr (.inr (.inl ⟨n,ag,_l⟩))
    rw[e];exact .inr (.inr (.inr (.inr ⟨n,_l⟩)))
   simp at h
  simp at h
 simp at h
theorem LR{a:Nat}{dst:aX Nat}(h:Bq a dst=U)(v:V):lY a F dst v=M (nr F dst v):=by cases dst with|none=>rfl|some d=>simp[Bq]at h;simp[lY,L' h,nr]
theorem aaJ(a__:∀f s,X.nm f=M s->N s=f){ops:QP}{i:Nat}{o:Oper}{ro:RO}(h:oV X O ops i o=M ro)(q:ro.gd=J){v:V}(d:lJ X.E N call J ro.now ro.k (ro.az.map (gJ N F)) H=M (v,H')):
 iY X.E call X.nt ops J o F H=M (nr F ro.dst v,H'):=by
 have⟨j,I,L,u⟩:=CG (F:=F) a__ h q;have hd:dw X.E call ops J F H o.op=M (v,H'):=by
  rcases u with⟨u,_⟩|⟨n,u⟩|⟨n,a,u⟩|⟨u,_⟩|⟨n,u⟩;generalize t:ro.k=k at d u;generalize ro.az.map (gJ N F)=b__ at d u;unfold dw;cases k with|p p=>have⟨c,e⟩:=u;have⟨w,B,C⟩:=ζf.1 d;rw[c];simp only[B1 (e w B),A?];rw[C]|r r=>have⟨c,e⟩:=u;have⟨w,B,C⟩:=ζf.1 d;rw[c];simp only[e H w B,A?];rw[C]|a a=>have⟨c,e⟩:=u;have⟨⟨ob,m⟩,B,C⟩:=ζf.1 d;rw[c];simp only[qv,v?,_a,e _ B];exact _f M C|l l=>have⟨c,e⟩:=u;rw[c];exact e H _ d|e n=>exact u.elim|b=>simp[lJ]at d|c=>obtain⟨c,f,c__,rfl,e⟩:=u;rw[c];simp only[lJ]at d;split at d;rename_i g a b Q D;simp only[List.cons.injEq]at D;obtain⟨rfl,rfl⟩:=D;split at d;(next z=>simp only[e,zm,eR,ng,z,Bool.and_self,N'];exact d);rename_i z;split at d;rename_i y S;split at d;(next G=>simp only[e,zm,eR,ng,z,Bool.false_and,v?,_a,S,G,N'];exact d);simp at d;simp at d;simp at d
  .rw[u]at d;exfalso;have:∀ops i k os,(Ax O ops i k os).1=k:=λ_ _ _ _=>rfl;unfold oV at h;simp only[Bool.false_and,v?,_a,Bool.not_false,Bool.and_true]at h;split at h
   .split at h
    .rename_i gd k os T hr;split at h
     .obtain⟨c__,W,rfl⟩:=ζf.1 h;simp only[this]at u;subst u;unfold resolve at hr;(repeat' split at hr)<;>first|(simp at hr;done)|(have⟨_,_,e⟩:=ζf.1 hr;simp at e;done)
     simp at h
    simp at h
   first|(simp at h;done)|contradiction
  rw[u]at d;simp[lJ,gI]at d;cases u;rw[u]at d;simp[lJ]at d
 unfold iY;rw[L,L' Y,hd];simp only[j,LR (j▸I),A?]
theorem LL(D:∀f s,X.nm f=M s->N s=f){ops:QP}:∀(i?:QP){i:Nat}{B:R0}{F:WP}{H:bt},nJ X O ops i i?=M B->d_ X.E N call J B F H=M (F',H')->oQ X.E call X.nt ops i? F H=M (F',H')
 |[],i,B,F,H,hc,h=>by simp[nJ]at hc;subst hc;exact h|o::i?,i,B,F,H,hc,h=>by simp[nJ]at hc;split at hc;rename_i ro rs a G;simp at hc;subst hc;simp[d_]at h;split at h;rename_i b;split at h;(next v H1 c=>simp[oQ,aaJ D a b c];exact LL D i? G h);grind;grind;grind
theorem Yv{ops:QP}{i:Nat}{op:Op}(h:∀t a',op=.load t (.tmp a')->sx ops i a'=[]):qD ops i F op=U:=by unfold qD;grind
theorem aa2(Y:∀f s,X.nm f=M s->N s=f){ops:QP}{b i:Nat}{o:Oper}(m:ops[i]?=M o){ro:RO}(h:oV X U ops i o=M ro)(q:ro.gd=J){v:V}(d:lJ X.E N call (M b) ro.now ro.k (ro.az.map (gJ N F)) H=M (v,H')):
 iY X.E call X.nt ops (M (b,i)) o F H=M (nr F ro.dst v,H'):=by
 have⟨j,Z,x,u⟩:=CG (F:=F) Y h q;have hd:dw X.E call ops (M (b,i)) F H o.op=M (v,H'):=by
  rcases u with⟨u,z,B⟩|⟨n,u⟩|⟨n,a,u⟩|⟨_,I,b__,p,u,_,L⟩|⟨n,u⟩;generalize E:ro.k=k at d u;generalize ro.az.map (gJ N F)=vs at d u;unfold dw
  cases k with
  |p p=>have⟨c,e⟩:=u;have⟨w,C,D⟩:=ζf.1 d;rw[c];simp only[B1 (e w C),A?];rw[D]|r r=>have⟨c,e⟩:=u;have⟨w,C,D⟩:=ζf.1 d;have d__:qD ops i F o.op=U:=Yv λt a' e=>(by by_cases c__:ez ops i=U;exact Gl m e c__;rcases B rfl (by simpa using c__) a' with h|h;exact h;exact _e e (h t));rw[c];simp only[e _ w C,d__,N'];rw[D]|a a=>simp[lJ]at d|l l=>have⟨c,e⟩:=u;cases l with|store n=>simp only[lJ]at d;split at d;(next W=>rw[z,Bool.true_and]at W;rw[c];simp only[W,Bool.true_or,N'];exact e H _ d);simp at d|_=>simp[lJ]at d
  |e n=>exact u.elim|b=>simp[lJ]at d|c=>obtain⟨c,f,K,rfl,e⟩:=u;rw[c];simp only[lJ]at d;split at d;rename_i g a b a__ G;simp only[List.cons.injEq]at G;obtain⟨rfl,rfl⟩:=G;split at d;simp at d;rename_i Q;split at d;rename_i y A;split at d;(next S=>simp only[e,zm,JB h _l c,Bool.not_false,Bool.true_or,eR,ng,Q,Bool.false_and,v?,_a,A,S,N'];exact d);simp at d;simp at d;simp at d
  rw[u]at d;simp[lJ]at d;rw[u]at d;simp[lJ,gI]at d;rw[u]at d;have⟨w,C,D⟩:=ζf.1 d;have T:=L w C;unfold dw;rw[b__];simp only[qv,I,N',T,A?];exact _f M D;rw[u]at d;simp[lJ]at d
 unfold iY;rw[x,L' _l,hd];simp only[j,LR (j▸Z),A?]
theorem LQ(D:∀f s,X.nm f=M s->N s=f){ops:QP}{b:Nat}:∀(i?:QP){i:Nat}{B:R0}{F:WP}{H:bt},ops.drop i=i?->nJ X U ops i i?=M B->d_ X.E N call (M b) B F H=M (F',H')->
 mw X.E call X.nt ops b (D' i (W i?)) F H=M (F',H')
 |[],i,B,F,H,_,hc,h=>by simp[nJ]at hc;subst hc;exact h|o::i?,i,B,F,H,hd,hc,h=>by simp[nJ]at hc;split at hc;rename_i ro rs a j;simp at hc;subst hc;simp[d_]at h;split at h;rename_i c;split at h;rename_i v H1 d;have G:ops[i]?=M o:=(by have:(ops.drop i)[0]?=M o:=g?;grind);have u:ops.drop (i+1)=i?:=(by rw[<-List.drop_drop,hd];rfl);simp[List.range'_succ,mw,G,aa2 D G a c d];exact LQ D i? u j h;grind;grind;grind
def A3(l:R0):X':=l.all λo=>(match o.k with|.a _|.l (.storeF _)|.r (.loadF ..)|.p (.makeC ..)|.p (.buildC ..)|.p .emptyC|.e _=>O|_=>U)&&o.gd.isNone
theorem F8(d:∀f s,X.nm f=M s->N s=f){ops:QP}:∀(i?:QP){i:Nat}{G:R0},nJ X U ops i i?=M G->A3 G=U->i?.any (λo=>c7 o.op==.alloc)=O
 |[],_,_,_,_=>rfl|o::i?,i,G,hc,D=>by simp only[nJ]at hc;split at hc;rename_i ro rs c T;simp only[ζa]at hc;subst hc;simp only[A3,q!,ζh,Option.isNone_iff_eq_none]at D;have⟨_,_,_,B⟩:=CG (F:=[]) d c D.1.2;rw[List.any_cons,F8 d i? T D.2,Bool.or_false];rcases B with⟨B,_⟩|⟨n,B⟩|⟨n,a,B⟩|⟨_,_,_,p,B,u,_⟩|⟨n,B⟩;(cases b:ro.k with|a p=>have:=D.1.1;rw[b]at this;cases this|e p=>have:=D.1.1;rw[b]at this;cases this|_=>rw[b]at B;rw[B.1];rfl);have:=D.1.1;rw[B]at this;cases this;have:=D.1.1;rw[B]at this;cases this;have:=D.1.1;rw[B]at this;rcases u with rfl|⟨_,_,rfl⟩|⟨_,_,_,_,rfl⟩<;>cases this;have:=D.1.1;rw[B]at this;cases this;simp at hc
def jD(E:Env)(N:Nat->Y')(call:en)(lf:Nat):RC->WP->bt->aX (Out×WP×bt)
 |.skip,F,H=>M (.norm,F,H)|.ops l,F,H=>(d_ E N call J l F H).map λx=>(.norm,x.1,x.2)|.vJ l,F,H=>if A3 l then(d_ E N call (M (W H)) l F H).map λx=>(.norm,x.1,x.2)else J|.seq a b,F,H=>match jD E N call lf a F H with
  |some (.norm,F',H')=>jD E N call lf b F' H'|r=>r
 |.cond x a b,F,H=>match gJ N F x with
  |.bool t=>if t then jD E N call lf a F H else jD E N call lf b F H|_=>J
 |.block id c,F,H=>match jD E N call lf c F H with
  |some (.exit B,F',H')=>if B=id then M (.norm,F',H')else M (.exit B,F',H')|r=>r
 |.loop c,F,H=>mZ (jD E N call lf c) lf F H|.exit id,F,H=>M (.exit id,F,H)|.ret,F,H=>M (.ret,F,H)|_,_,_=>J
theorem Lq{f g:WP->bt->aX (Out×WP×bt)}(h:∀F H r,f F H=M r->g F H=M r):∀(k:Nat)(F:WP)(H:bt)(r:Out×WP×bt),mZ f k F H=M r->mZ g k F H=M r
 |0,F,H,r,hr=>by simp[mZ]at hr|k+1,F,H,r,hr=>by simp only[mZ]at hr⊢;cases B:f F H with|none=>rw[B]at hr;simp at hr|some q=>rw[B]at hr;rw[h F H q B];have⟨o,F1,H1⟩:=q;cases o with|norm=>exact Lq h k F1 H1 r hr|exit _=>exact hr|ret=>exact hr
theorem Uw(D:∀f s,X.nm f=M s->N s=f){lf:Nat}:∀(j:RC)(code:Code)(F:WP)(H:bt)(r:Out×WP×bt),bV X O code=M j->jD X.E N call lf j F H=M r->exec X.E call lf O X.nt code F H=M r:=by
 intro j
 induction j with
 |skip=>
  intro code F H r d h;simp only[jD,ζa]at h;subst h
  cases code with
  |skip=>rfl|label _=>rfl|region id ops u=>simp only[bV]at d;(repeat' split at d)<;>first|(simp at d;done)|(have⟨_,_,e⟩:=ζf.1 d;cases e)
  |_=>simp only[bV]at d;(repeat' split at d)<;>first|(simp at d;done)|(have⟨_,_,e⟩:=ζf.1 d;cases e)|cases d
 |ops l=>intro code F H r d h;cases code with|region id ops u=>simp only[bV]at d;split at d;split at d;have⟨_,_,e⟩:=ζf.1 d;cases e;simp at d;rename_i hd;have⟨T,G,e⟩:=ζf.1 d;cases e;simp only[jD]at h;obtain⟨⟨F',H'⟩,k,rfl⟩:=ζf.1 h;simp only[exec,lN,hd];rw[M' f?,LL D _ G k];rfl|_=>simp only[bV]at d;(repeat' split at d)<;>first|(simp at d;done)|(have⟨_,_,e⟩:=ζf.1 d;cases e)|cases d
 |vJ l=>intro code F H r d h;cases code with|region id ops u=>simp only[bV]at d;split at d;rename_i hd;split at d;rename_i I;have⟨T,G,e⟩:=ζf.1 d;cases e;simp only[jD]at h;split at h;(next b__=>obtain⟨⟨F',H'⟩,k,rfl⟩:=ζf.1 h;have W:uK ops.toList=O:=F8 D _ G b__;have:=LQ D ops.toList (i:=0) _l G k;rw[<-List.range_eq_range']at this;simp only[exec,lN,hd,I,N',W,v?,_a,this];rfl);simp at h;simp at d;have⟨_,_,e⟩:=ζf.1 d;cases e|_=>simp only[bV]at d;(repeat' split at d)<;>first|(simp at d;done)|(have⟨_,_,e⟩:=ζf.1 d;cases e)|cases d
 |seq a b w B=>
  intro code F H r d h
  cases code with
  |seq a__ L=>simp only[bV]at d;split at d;rename_i x y C c__;cases d;simp only[jD]at h;simp only[exec];(cases g:jD X.E N call lf a F H with|none=>rw[g]at h;simp at h|some q=>rw[g]at h;rw[w a__ F H q C g];have⟨o,F1,H1⟩:=q;cases o with|norm=>exact B L F1 H1 r c__ h|exit _=>exact h|ret=>exact h);simp at d
  |region id ops u=>simp only[bV]at d;(repeat' split at d)<;>first|(simp at d;done)|(have⟨_,_,e⟩:=ζf.1 d;cases e)
  |_=>simp only[bV]at d;(repeat' split at d)<;>first|(simp at d;done)|(have⟨_,_,e⟩:=ζf.1 d;cases e)|cases d
 |cond x a b w B=>
  intro code F H r d h
  cases code with
  |cond c a__ L=>simp only[bV]at d;split at d;rename_i n y z C c__ Y;cases d;simp only[jD]at h;simp only[exec,OO (F:=F) D C];split at h;rename_i t Z;rw[Z];(cases t with|true=>simp only[N']at h⊢;exact w a__ F H r c__ h|false=>simp only[v?,_a]at h⊢;exact B L F H r Y h);simp at h;simp at d
  |region id ops u=>simp only[bV]at d;(repeat' split at d)<;>first|(simp at d;done)|(have⟨_,_,e⟩:=ζf.1 d;cases e)
  |_=>simp only[bV]at d;(repeat' split at d)<;>first|(simp at d;done)|(have⟨_,_,e⟩:=ζf.1 d;cases e)|cases d
 |block id c Q=>
  intro code F H r d h
  cases code with
  |block S c'=>simp only[bV]at d;have⟨x,C,e⟩:=ζf.1 d;cases e;simp only[jD]at h;simp only[exec];cases g:jD X.E N call lf c F H with|none=>rw[g]at h;simp at h|some q=>rw[g]at h;rw[Q c' F H q C g];exact h
  |region id ops u=>simp only[bV]at d;(repeat' split at d)<;>first|(simp at d;done)|(have⟨_,_,e⟩:=ζf.1 d;cases e)
  |_=>simp only[bV]at d;(repeat' split at d)<;>first|(simp at d;done)|(have⟨_,_,e⟩:=ζf.1 d;cases e)|cases d
 |loop c Q=>
  intro code F H r d h
  cases code with
  |loop c'=>simp only[bV]at d;have⟨x,C,e⟩:=ζf.1 d;cases e;simp only[jD]at h;simp only[exec];exact Lq (λF H r m=>Q c' F H r C m) lf F H r h|region id ops u=>simp only[bV]at d;(repeat' split at d)<;>first|(simp at d;done)|(have⟨_,_,e⟩:=ζf.1 d;cases e)
  |_=>simp only[bV]at d;(repeat' split at d)<;>first|(simp at d;done)|(have⟨_,_,e⟩:=ζf.1 d;cases e)|cases d
 |exit id=>
  intro code F H r d h
  cases code with
  |exit S=>simp only[bV,ζa,RC.exit.injEq]at d;subst d;exact h|region id ops u=>simp only[bV]at d;(repeat' split at d)<;>first|(simp at d;done)|(have⟨_,_,e⟩:=ζf.1 d;cases e)
  |_=>simp only[bV]at d;(repeat' split at d)<;>first|(simp at d;done)|(have⟨_,_,e⟩:=ζf.1 d;cases e)|cases d
 |ret=>
  intro code F H r d h
  cases code with
  |ret=>exact h|region id ops u=>simp only[bV]at d;(repeat' split at d)<;>first|(simp at d;done)|(have⟨_,_,e⟩:=ζf.1 d;cases e)
  |_=>simp only[bV]at d;(repeat' split at d)<;>first|(simp at d;done)|(have⟨_,_,e⟩:=ζf.1 d;cases e)|cases d
 |_=>intro code F H r d h;simp[jD]at h
end
def Ex(E:Env)(N:Nat->Y')(a:RC)(F:WP)(H:bt)(o:Out)(F':WP)(H':bt):Prop:=∃n,∀k,n<=k->jD E N (run E k) k a F H=M (o,F',H')
def tN(E:Env)(N:Nat->Y')(a:RC)(F:WP)(H:bt)(o:Out)(F':WP)(H':bt):Prop:=∃n,∀k,n<=k->∀u,n<=u->mZ (jD E N (run E k) k a) u F H=M (o,F',H')
section
variable{E:Env}{N:Nat->Y'}{a b c:RC}{F F1 F':WP}{H H1 H':bt}{o:Out}{x:Arg}{id:Nat}
theorem Ex.ops{l:R0}(h:∃n,∀k,n<=k->d_ E N (run E k) J l F H=M (F',H')):Ex E N (.ops l) F H .norm F' H':=let⟨n,h⟩:=h;⟨n,λk a=>by simp only[jD,h k a,A?]⟩
theorem Ex.eO{l:R0}(h:∀call,d_ E N call J l F H=M (F',H')):Ex E N (.ops l) F H .norm F' H':=Ex.ops ⟨0,λk _=>h _⟩
theorem Ex.vJ{l:R0}(B:A3 l=U)(h:∀call,d_ E N call (M (W H)) l F H=M (F',H')):Ex E N (.vJ l) F H .norm F' H':=⟨0,λk _=>by simp only[jD,B,N',h,A?]⟩
theorem Ex.Pj{l:R0}(B:A3 l=U)(h:∃n,∀k,n<=k->d_ E N (run E k) (M (W H)) l F H=M (F',H')):Ex E N (.vJ l) F H .norm F' H':=let⟨n,h⟩:=h;⟨n,λk a=>by simp only[jD,B,N',h k a,A?]⟩
theorem Ex.skip:Ex E N .skip F H .norm F H:=⟨0,λ_ _=>rfl⟩
theorem Ex.exit:Ex E N (.exit id) F H (.exit id) F H:=⟨0,λ_ _=>rfl⟩
theorem Ex.ret:Ex E N .ret F H .ret F H:=⟨0,λ_ _=>rfl⟩
theorem Ex.seq(c:Ex E N a F H .norm F1 H1)(B:Ex E N b F1 H1 o F' H'):Ex E N (.seq a b) F H o F' H':=by have⟨n,c⟩:=c;have⟨m,B⟩:=B;exact⟨max n m,λk d=>by simp only[jD,c k a?];exact B k a?⟩
theorem Ex.BA(c:Ex E N a F H o F' H')(B:o≠.norm):Ex E N (.seq a b) F H o F' H':=by have⟨n,c⟩:=c;refine⟨n,λk d=>?_⟩;simp only[jD,c k d];cases o<;>first|exact _e Y B|rfl
theorem Ex.uq(B:gJ N F x=.bool U)(h:Ex E N a F H o F' H'):Ex E N (.cond x a b) F H o F' H':=by have⟨n,h⟩:=h;exact⟨n,λk c=>by simp only[jD,B,N',h k c]⟩
theorem Ex.xd(B:gJ N F x=.bool O)(h:Ex E N b F H o F' H'):Ex E N (.cond x a b) F H o F' H':=by have⟨n,h⟩:=h;exact⟨n,λk c=>by simp only[jD,B,v?,_a,h k c]⟩
theorem Ex.block(h:Ex E N c F H .norm F' H'):Ex E N (.block id c) F H .norm F' H':=by have⟨n,h⟩:=h;exact⟨n,λk a=>by simp only[jD,h k a]⟩
theorem Ex.G0(h:Ex E N c F H (.exit id) F' H'):Ex E N (.block id c) F H .norm F' H':=by have⟨n,h⟩:=h;exact⟨n,λk a=>by simp only[jD,h k a,N']⟩
theorem Ex.S0(h:Ex E N c F H .ret F' H'):Ex E N (.block id c) F H .ret F' H':=by have⟨n,h⟩:=h;exact⟨n,λk a=>by simp only[jD,h k a]⟩
theorem Ex.loop(h:tN E N c F H o F' H'):Ex E N (.loop c) F H o F' H':=by have⟨n,h⟩:=h;exact⟨n,λk a=>h k a k a⟩
theorem tN.step(a:Ex E N c F H .norm F1 H1)(B:tN E N c F1 H1 o F' H'):tN E N c F H o F' H':=by have⟨n,a⟩:=a;have⟨m,B⟩:=B;refine⟨max n m+1,λk b u w=>?_⟩;cases u with|zero=>omega|succ u=>simp only[mZ,a k a?];exact B k a? u a?
theorem tN.stop(a:Ex E N c F H o F' H')(B:o≠.norm):tN E N c F H o F' H':=by have⟨n,a⟩:=a;refine⟨n+1,λk b u w=>?_⟩;cases u with|zero=>omega|succ u=>simp only[mZ,a k a?];cases o<;>first|exact _e Y B|rfl
end
theorem Ex.run{E:Env}{nm:Y'->aX Nat}{N:Nat->Y'}(B:∀f s,nm f=M s->N s=f){f:Y'}{fi:FI}{a:RC}(D:E.ft f=M fi)(b:bV ⟨E,nm,fi.ntmps⟩ O fi.body=M a){args:So}(G:W args<=fi.ntmps){H H':bt}{F':WP}
 (h:Ex E N a args H .ret F' H'){vs:So}(c:jS E F' H' fi.results=M vs):∃n,run E n (.fn f) args H=M (result vs,H'):=by
 have⟨n,h⟩:=h;refine⟨n+1,?_⟩;have:=Uw (X:=⟨E,nm,fi.ntmps⟩) (call:=Go.VE.run E n) B (lf:=n) a fi.body args H _ b (h n (x? _));simp only[Go.VE.run,mc,D,L' G,this,c,A?]
@[simp] theorem uF(F:WP)(i j:Nat)(v:V):get (set F i v) j=if i=j then v else get F j:=by
 split;next h=>subst h;exact vB F i v
 rename_i h;exact lq F v h
def refs:ST->S'->S'
 |id::ids,r::rs=>[V.hsl id 1 0 (W r)]::refs ids rs|_,_=>[]
def sU(r:So):S':=r.map λu=>[u]
structure vZ(H:bt)(w:V)(o:Nat)(ids:List Nat)(rows:List (List V)):Prop where
 v:w=if rows=[]then .bN else .hsl o 1 0 rows.length
 ob:rows≠[]->H[o]?=some (.row 1 (refs ids rows))
 len:ids.length=rows.length
 r:∀(i id:Nat)(r:List V),ids[i]?=some id->rows[i]?=some r->H[id]?=some (.row 1 (sU r))
 nd:ids.Nodup
 ne:rows≠[]->o∉ids
theorem Bx:∀{ids:ST}{rows:S'},W ids=W rows->W (refs ids rows)=W rows
 |[],[],_=>rfl|_::ids,_::rows,h=>by simp only[refs,W?,Bx (ids:=ids) (rows:=rows) (by simpa using h)]
theorem MY:∀{ids:ST}{rows:S'}(id:Nat)(r:So),W ids=W rows->refs (ids++[id]) (rows++[r])=refs ids rows++[[V.hsl id 1 0 (W r)]]
 |[],[],_,_,_=>rfl|_::ids,_::rows,id,r,h=>by simp only[refs,List.cons_append,MY (ids:=ids) (rows:=rows) id r (by simpa using h)]
theorem Mr:∀{ids:ST}{rows:S'}{i id:Nat}{r:So},ids[i]?=M id->rows[i]?=M r->(refs ids rows)[i]?=M [V.hsl id 1 0 (W r)]
 |[],_,_,_,_,h,_=>by simp at h|_::_,[],_,_,_,_,h=>by simp at h|a::ids,b::rows,0,id,r,h1,B=>by simp at h1 B;subst h1 B;rfl|a::ids,b::rows,i+1,id,r,h1,B=>by simpa[refs]using Mr (ids:=ids) (rows:=rows) (i:=i) (by simpa using h1) (by simpa using B)
theorem MN:∀{ids:ST}{rows:S'}{i:Nat}{r B:So},rows[i]?=M r->W B=W r->refs ids (rows.set i B)=refs ids rows
 |[],_,_,_,_,_,_=>by simp[refs]|_::_,[],_,_,_,_,_=>by simp[refs]|a::ids,b::rows,0,r,B,h,D=>by simp at h;subst h;simp only[List.set_cons_zero,refs,D]|a::ids,b::rows,i+1,r,B,h,D=>by simp only[List.set_cons_succ,refs,MN (ids:=ids) (rows:=rows) (i:=i) (by simpa using h) D]
section
variable{H H':bt}{v:V}{o:Nat}{ids:ST}{rows:S'}
theorem vZ.nil(H:bt)(o:Nat):vZ H .bN o [] []:=⟨Y,λh=>_e Y h,Y,λi id r h=>by simp at h,.nil,λh=>_e Y h⟩
theorem vZ.heap(n:vZ H v o ids rows)(B:rows≠[]->H'[o]?=H[o]?)(hi:∀id∈ids,H'[id]?=H[id]?):vZ H' v o ids rows:=⟨n.v,λh=>by rw[B h];exact n.ob h,n.len,λi id r h1 u=>by rw[hi id (s? h1)];exact n.r i id r h1 u,n.nd,n.ne⟩
theorem vZ.lt(n:vZ H v o ids rows):(rows≠[]->o<W H)/\∀id∈ids,id<W H:=by refine⟨λh=>(ζe.1 (n.ob h)).1,λid u=>?_⟩;have⟨i,hi⟩:=B! u;have w:=(ζe.1 hi).1;have:=n.r i id _ hi (ζd (show i<W rows from n.len▸w));exact(ζe.1 this).1
theorem vZ.more(n:vZ H v o ids rows)(X:bt):vZ (H++X) v o ids rows:=n.heap (λh=>u? (n.lt.1 h)) λid u=>u? (n.lt.2 id u)
theorem vZ.push(n:vZ H v o ids rows)(r:So)(T:_m rows+1<=2147483648):
 ∃H',f_ (H++[.row 1 (sU r)]++[.row 1 [[.hsl (_m H) 1 0 (_m r)]]]) (.append 1) [v,.hsl (_m H+1) 1 0 1]=M (.hsl (_m H+2) 1 0 (_m rows+1),H')/\
  vZ H' (.hsl (_m H+2) 1 0 (_m rows+1)) (_m H+2) (ids++[_m H]) (rows++[r])/\_m H<=_m H'/\(∀id,id<_m H->id≠o\/rows=[]->H'[id]?=H[id]?):=by
 generalize C:H++[.row 1 (sU r)]++[.row 1 [[.hsl (_m H) 1 0 (_m r)]]]=H2;have u:_m H2=_m H+2:=by subst C;simp
 have z:∀id,id<_m H->H2[id]?=H[id]?:=λid h=>by subst C;rw[d7,u? h]
 have g:H2[_m H]?=M (.row 1 (sU r)):=by subst C;simp
 have q:H2[_m H+1]?=M (.row 1 [[.hsl (_m H) 1 0 (_m r)]]):=by subst C;simp
 have f:=n.v;have e2:dZ H2 1 (.hsl (_m H+1) 1 0 1)=M [[.hsl (_m H) 1 0 (_m r)]]:=by simp[dZ,q,Ob.rows]
 by_cases c:rows=[]
 .subst c;rw[L' Y]at f;subst f;have:ids=[]:=List.eq_nil_of_length_eq_zero n.len;subst this;refine⟨H2++[.row 1 [[.hsl (_m H) 1 0 (_m r)]]],?_,⟨f?,λ_=>by rw[<-u];simp[refs],Y,λi id y hi w=>?_,f?,λ_=>f?⟩,by simp[u];omega,λid D _=>?_⟩
  .have e1:dZ H2 1 .bN=M []:=rfl;simp only[f_,e1,e2,iU,List.length_nil,Y?,A?,u];simp
  .cases i with
   |zero=>simp at hi w;subst hi w;rw[u? a?];exact g|succ i=>simp at hi
  rw[u? a?];exact z id D
 rw[M' c]at f;subst f;have Q:=n.ob c;have I:=n.lt.1 c;have e1:dZ H2 1 (.hsl o 1 0 (_m rows))=M (refs ids rows):=by simp only[dZ,N',z o I,Q,ζb,Ob.rows,Bx n.len,c5,x?,List.drop_zero];rw[a! (by rw[Bx n.len];exact x? _)]
 have W:iU H2 (.hsl o 1 0 (_m rows))=M (H2.set o .dead):=by simp only[iU,z o I,Q]
 have B:∀id,id≠o->(H2.set o Ob.dead++[Ob.row 1 (refs ids rows++[[.hsl (_m H) 1 0 (_m r)]])])[id]?=if id<_m H2 then H2[id]?else(H2.set o Ob.dead++[Ob.row 1 (refs ids rows++[[.hsl (_m H) 1 0 (_m r)]])])[id]?:=λid G=>by split;(next h=>rw[u? (by simpa using h),E? (Ne.symm G)]);rfl
 refine⟨H2.set o .dead++[.row 1 (refs ids rows++[[.hsl (_m H) 1 0 (_m r)]])],?_,⟨f?,λ_=>?_,by simp[n.len],λi id y hi w=>?_,?_,λ_ d=>?_⟩,by simp[u];omega,λid D G=>?_⟩
 .simp only[f_,e1,e2,W,Bx n.len,Y?,T,N',A?,u]
 .rw[MY _ _ n.len,<-u];simp
 .have j:id≠o:=by
   rcases Nat.lt_or_ge i (_m ids) with h|h
   .rw[u? h]at hi;intro e;subst e;exact n.ne c (s? hi)
   have:i=_m ids:=by have:=(ζe.1 hi).1;simp at this;omega
   subst this;simp at hi;subst hi;omega
  rcases Nat.lt_or_ge i (_m ids) with h|h
  .rw[u? h]at hi;rw[u? (by rw[<-n.len];exact h)]at w
   have L:=n.lt.2 id (s? hi);rw[B id j,L' a?,z id L]
   exact n.r i id y hi w
  have:i=_m ids:=by have:=(ζe.1 hi).1;simp at this;omega
  subst this;simp at hi;subst hi;rw[n.len]at w;simp at w;subst w;rw[B _ j,L' a?];exact g
 .rw[List.nodup_append];exact⟨n.nd,f?,λa X b S=>by simp at S;subst S;exact Nat.ne_of_lt (n.lt.2 a X)⟩
 .rcases mem_append.1 d with d|d
  .have:=n.lt.2 _ d;omega
  simp at d
 rw[B id (G.resolve_right c),L' a?];exact z id D
end
theorem XM{E:Env}{N:Nat->Y'}{F:WP}{H H1:bt}{call:en}{b:aX Nat}{o:RO}{l:R0}{v:V}{r:WP×bt}(a:o.gd=J)(c:lJ E N call b o.now o.k (o.az.map (gJ N F)) H=M (v,H1))(h:d_ E N call b l (nr F o.dst v) H1=M r):d_ E N call b (o::l) F H=M r:=by simp only[d_,a,c];exact h
theorem vp{E:Env}{N:Nat->Y'}{F:WP}{H:bt}{call:en}{b:aX Nat}{o:RO}{l:R0}{v:V}{r:WP×bt}(a:o.gd=J)(c:lJ E N call b o.now o.k (o.az.map (gJ N F)) H=M (v,H))(h:d_ E N call b l (nr F o.dst v) H=M r):d_ E N call b (o::l) F H=M r:=XM a c h
theorem yh{E:Env}{N:Nat->Y'}{F:WP}{H:bt}{call:en}{b:aX Nat}:d_ E N call b [] F H=M (F,H):=rfl
theorem SP{n:Nat}(h:n<=2147483648):w? _r ((n:Int)+1)=((n+1:Nat):Int):=by simp[w?,IntKind.bits,i8];omega
theorem ac_{n:Nat}(h:n<=2147483648):w? _r (((n+1:Nat):Int)-1)=(n:Int):=by simp[w?,IntKind.bits,i8];omega
theorem MR(H:bt):H.take (W H)=H:=List.take_length
theorem FC{E:Env}{nm:Y'->aX Nat}{f:Y'}{a:RC}{n:Nat}{rs:aY ResultVar}(h:((E.ft f).map λfi=>(bV ⟨E,nm,fi.ntmps⟩ O fi.body,ble n fi.ntmps,fi.results))=M (M a,U,rs)):
 ∃fi,E.ft f=M fi/\bV ⟨E,nm,fi.ntmps⟩ O fi.body=M a/\n<=fi.ntmps/\fi.results=rs:=by
 have⟨fi,b,u⟩:=ζf.1 h;simp only[ζc]at u;exact⟨fi,b,u.1,Nat.le_of_ble_eq_true u.2.1,u.2.2⟩
theorem JL{x:V}(h:x.one=U):x.cells=[x]:=by cases x<;>first|rfl|(simp[V.one]at h)
theorem abS{call:en}{f:Y'}{args az:So}{H:bt}(h:borrows call.lv H args=M az)(a:∀x∈az,x.closed=U):cw call f args H=cw call f az []:=by
 have:borrows call.lv [] az=M az:=by clear h;unfold borrows;induction az with|nil=>rfl|cons x l u=>simp only[jN,fI call.lv [] (a x f?),u λy w=>a y (List.mem_cons_of_mem _ w)]
 unfold cw;rw[h,this]
def kept(t:Nat->X')(n:Nat):ST:=(C! n).filter λi=>i==0|| !t i
theorem zO(t:Nat->X')(n:Nat):kept t (n+1)=kept t n++if n==0|| !t n then[n]else[]:=by unfold kept;rw[List.range_succ,List.filter_append,List.filter_cons];rfl
theorem DW(t:Nat->X'):∀n,W (kept t n)<=n:=λn=>by unfold kept;exact Nat.le_trans (List.length_filter_le ..) f?
theorem OB{t:Nat->X'}{n i:Nat}(h:i∈kept t n):i<n:=by unfold kept at h;exact mem_range.1 (List.mem_filter.1 h).1
theorem E0{t:Nat->X'}:∀n,(∀i,0<i->i<n->t i=O)->kept t n=C! n
 |0,_=>rfl|n+1,h=>by rw[zO,E0 n λi a B=>h i a a?,List.range_succ];congr 1;cases n with|zero=>rfl|succ n=>rw[h (n+1) a? a?];simp
theorem Da{t:Nat->X'}{k:Nat}(B:0<k)(a:t k=U):∀n,k<n->W (kept t n)+1<=n
 |0,h=>a?|n+1,h=>by rw[zO];by_cases e:n=k;subst e;have:(n==0|| !t n)=O:=(by simp[a];omega);rw[this];have:=DW t n;simp;omega;have:=Da B a n a?;split<;>simp<;>omega
namespace cmpX
instance{n:Nat}:OfNat Arg n:=⟨.s n⟩
def r1:R0:=[o1 4 (.k (.bN)) []]
def r2:R0:=[o1 8 0 [],o2 9 (.p .lenSl) [8] [],o2 10 (.p (.bin (M .int) J .lss)) [9,.k (.int _r 2)] []]
def r3:R0:=[o1 11 0 [],o1 4 11 []]
def r4:R0:=[o1 5 (.k (.int _r 1)) []]
def r5:R0:=[o1 12 5 [],o1 13 0 [],o2 14 (.p .lenSl) [13] [],o2 15 (.p (.bin (M .int) J .lss)) [12,14] []]
def on(d:Nat)(k:K)(az:QR):RO:=⟨M d,J,U,k,az,[],[]⟩
def r6:R0:=[o1 18 1 [],o1 19 0 [],o1 20 5 [],o2 21 (.p (.idxS 1)) [19,20] [],o2 22 (.r (.load 1 O)) [21] [],o1 23 0 [],o1 24 5 [],o2 25 (.p (.bin (M .int) J .sub)) [24,.k (.int _r 1)] [],o2 26 (.p (.idxS 1)) [23,25] [],o2 27 (.r (.load 1 O)) [26] [],on 28 .c [18,22,27]]
def r7:R0:=[o1 29 0 [],o1 30 5 [],o2 31 (.p (.slice 1 U O)) [29,30] [],o1 6 31 []]
def r8:R0:=[o1 7 (.k (.int _r 1)) []]
def r9:R0:=[o1 32 7 [],o1 33 6 [],o2 34 (.p .lenSl) [33] [],o2 35 (.p (.bin (M .int) J .lss)) [32,34] []]
def MO:R0:=[o1 38 1 [],o1 39 6 [],o1 40 7 [],o2 41 (.p (.idxS 1)) [39,40] [],o2 42 (.r (.load 1 O)) [41] [],o1 43 6 [],o1 44 7 [],o2 45 (.p (.bin (M .int) J .sub)) [44,.k (.int _r 1)] [],o2 46 (.p (.idxS 1)) [43,45] [],o2 47 (.r (.load 1 O)) [46] [],on 48 .c [38,42,47],on 49 (.p (.not)) [48]]
def M9:R0:=[o1 50 0 [],o1 51 5 [],o1 52 6 [],o1 53 7 [],o2 54 (.p (.idxS 1)) [52,53] [],o2 55 (.r (.load 1 O)) [54] [],o2 56 (.p (.idxS 1)) [50,51] [],⟨J,J,O,.l (.store 1),[56,55],[],[]⟩]
def M6:R0:=[o1 57 5 [],o2 58 (.p (.bin (M .int) J .add)) [57,.k (.int _r 1)] [],o1 5 58 []]
def K7:R0:=[o1 36 7 [],o2 37 (.p (.bin (M .int) J .add)) [36,.k (.int _r 1)] [],o1 7 37 []]
def L13:RC:=.seq (.seq (.ops r9) (.cond (.s 35) (.skip) (.exit 2))) (.seq (.block 3 (.seq (.vJ MO) (.cond (.s 49) (.seq (.ops M9) (.ops M6)) (.skip)))) (.ops K7))
def K6:R0:=[o1 59 0 [],o1 60 5 [],o2 61 (.p (.slice 1 U O)) [59,60] [],⟨J,J,O,.l (.clear 1 [.bN]),[61],[],[]⟩]
def MJ:R0:=[o1 62 0 [],o1 63 5 [],o2 64 (.p (.slice 1 O U)) [62,63] [],o1 4 64 []]
def r16:R0:=[o1 16 5 [],o2 17 (.p (.bin (M .int) J .add)) [16,.k (.int _r 1)] [],o1 5 17 []]
def WV:RC:=.seq (.seq (.ops r5) (.cond (.s 15) (.skip) (.exit 0))) (.seq (.block 1 (.seq (.vJ r6) (.cond (.s 28) (.seq (.ops r7) (.seq (.seq (.ops r8) (.block 2 (.loop L13))) (.seq (.ops K6) (.seq (.ops MJ) (.ret))))) (.skip)))) (.ops r16))
def r17:R0:=[o1 65 0 [],o1 4 65 []]
def code:RC:=.seq (.ops r1) (.seq (.seq (.ops r2) (.cond (.s 10) (.seq (.ops r3) (.ret)) (.skip))) (.seq (.seq (.ops r4) (.block 0 (.loop WV))) (.seq (.ops r17) (.ret))))
section
variable{E:Env}{N:Nat->Y'}{F:WP}{H:bt}{call:en}{id off L k:Nat}
theorem ld{B:S'}{el:Nat}{v:V}(h:H[id]?=M (.row 1 B))(a:B[el]?=M [v]):gI H (.load 1 O) [.hptr id el 0]=M v:=by simp[gI,fJ,h,Ob.rows,a,cut,mk]
theorem Xl{i:Nat}(h:i<L):oh 1 (.hsl id 1 off L) (i:Int)=M (.hptr id (off+i) 0):=by unfold oh;rw[M' a?];simp[h]
attribute [local simp] d_ lJ gJ bW nr uF pg uI gI
theorem x2(a:get F 0=.hsl id 1 off L):∃F',(∀call,d_ E N call J r2 F H=M (F',H))/\get F' 10=.bool (_s ((L:Int)<2))/\(∀s,s<8->get F' s=get F s):=by refine⟨_,λcall=>by simp[r2,a,qP];rfl,f?,?_⟩;simp;grind
theorem x5(a:get F 0=.hsl id 1 off L)(b:get F 5=.int _r k):∃F',(∀call,d_ E N call J r5 F H=M (F',H))/\get F' 15=.bool (_s (k<L))/\(∀s,s<8->get F' s=get F s):=by refine⟨_,λcall=>by simp[r5,a,b,qP];rfl,f?,?_⟩;simp;grind
theorem aa3{g:Y'}{cb:So}{B:S'}{o2 L2 i:Nat}{a b:V}{t:X'}(h:H[id]?=M (.row 1 B))(hi:i+1<L2)(D:i<=2147483648)(G:B[o2+(i+1)]?=M [a])(q:B[o2+i]?=M [b])(d:E.keep g=O)(e:get F 1=.clo g [] cb):
 (get F 0=.hsl id 1 o2 L2->get F 5=.int _r ((i+1:Nat):Int)->∃F',(∀call,cw call g (a::b::cb) H=M (.bool t)->d_ E N call (M (W H)) r6 F H=M (F',H))/\get F' 28=.bool t/\(∀s,s<8->get F' s=get F s))/\
 (get F 6=.hsl id 1 o2 L2->get F 7=.int _r ((i+1:Nat):Int)->∃F',(∀call,cw call g (a::b::cb) H=M (.bool t)->d_ E N call (M (W H)) MO F H=M (F',H))/\get F' 49=.bool (!t)/\(∀s,s<8->get F' s=get F s)):=by
 have hd:=ac_ D;have e1:=ld h G;have e2:=ld h q;have i1:=Xl (id:=id) (off:=o2) (L:=L2) hi;have i2:=Xl (id:=id) (off:=o2) (L:=L2) (show i<L2 by omega)
 simp at i1 hd;refine⟨λf j=>⟨_,λcall c=>by simp[-gI,r6,on,f,e,j,i1,i2,e1,e2,hd,d,c,V.scalar,MR];rfl,f?,?_⟩,λf6 k=>⟨_,λcall c=>by simp[-gI,MO,on,e,f6,k,i1,i2,e1,e2,hd,d,c,V.scalar,MR];rfl,f?,?_⟩⟩<;>exactλs u=>by simp;repeat (rw[M' a?])
end
end cmpX
namespace cmpX
section
variable{E:Env}{N:Nat->Y'}{F:WP}{H:bt}{call:en}{id off L k:Nat}
attribute [local simp] d_ lJ gJ bW nr uF pg uI gI
theorem x7(a:get F 0=.hsl id 1 off L)(b:get F 5=.int _r k)(c:k<=L):∃F',(∀call,d_ E N call J r7 F H=M (F',H))/\get F' 6=.hsl id 1 (off+k) (L-k)/\(∀s,s<8->s≠6->get F' s=get F s):=by
 have e:jW 1 (.hsl id 1 off L) (M k) J=M (.hsl id 1 (off+k) (L-k)):=by unfold jW eD;grind
 refine⟨_,λcall=>by simp[r7,a,b,pe,e];rfl,f?,?_⟩;simp;grind
theorem x9{o2 L2 m:Nat}(f6:get F 6=.hsl id 1 o2 L2)(a:get F 7=.int _r m):∃F',(∀call,d_ E N call J r9 F H=M (F',H))/\get F' 35=.bool (_s (m<L2))/\(∀s,s<8->get F' s=get F s):=by refine⟨_,λcall=>by simp[r9,f6,a,qP];rfl,f?,?_⟩;simp;grind
theorem x11{B:S'}{o2 L2 m p:Nat}{a z:V}(h:H[id]?=M (.row 1 B))(c:get F 0=.hsl id 1 off L)(d:get F 5=.int _r p)(f6:get F 6=.hsl id 1 o2 L2)(e:get F 7=.int _r m)(D:m<L2)(hp:p<L)
 (G:B[o2+m]?=M [a])(j:B[off+p]?=M [z])(b:a.one=U):
 ∃F',(∀call,d_ E N call J M9 F H=M (F',H.set id (.row 1 (B.set (off+p) [a]))))/\(∀s,s<8->get F' s=get F s):=by
 have i1:=Xl (id:=id) (off:=o2) D;have i2:=Xl (id:=id) (off:=off) hp;have e1:=ld h G;have u:f_ H (.store 1) [.hptr id (off+p) 0,a]=M (.undef,H.set id (.row 1 (B.set (off+p) [a]))):=by simp[f_,h,j,JL b,b]
 refine⟨_,λcall=>by simp[-gI,M9,c,d,f6,e,i1,i2,e1,u];rfl,?_⟩
 simp;grind
theorem PA{p:Nat}(hp:p<=2147483648):(get F 5=.int _r p->∃F',(∀call,d_ E N call J M6 F H=M (F',H))/\get F' 5=.int _r ((p+1:Nat):Int)/\(∀s,s<8->s≠5->get F' s=get F s))/\
 (get F 7=.int _r p->∃F',(∀call,d_ E N call J K7 F H=M (F',H))/\get F' 7=.int _r ((p+1:Nat):Int)/\(∀s,s<8->s≠7->get F' s=get F s))/\
 (get F 5=.int _r p->∃F',(∀call,d_ E N call J r16 F H=M (F',H))/\get F' 5=.int _r ((p+1:Nat):Int)/\(∀s,s<8->s≠5->get F' s=get F s)):=by
 have u:=SP hp;refine⟨λf=>⟨_,λcall=>by simp[M6,f,u];rfl,f?,?_⟩,λf=>⟨_,λcall=>by simp[K7,f,u];rfl,f?,?_⟩,λf=>⟨_,λcall=>by simp[r16,f,u];rfl,f?,?_⟩⟩<;>
  (simp;grind)
theorem x14{B:S'}{p:Nat}(h:H[id]?=M (.row 1 B))(a:get F 0=.hsl id 1 off L)(b:get F 5=.int _r p)(hp:p<L)(D:off+L<=W B):
 ∃F',(∀call,d_ E N call J K6 F H=M (F',H.set id (.row 1 (B.take (off+p)++replicate (L-p) [.bN]++B.drop (off+L)))))/\(∀s,s<8->get F' s=get F s):=by
 have e:jW 1 (.hsl id 1 off L) (M p) J=M (.hsl id 1 (off+p) (L-p)):=by unfold jW eD;grind
 obtain⟨q,u⟩:∃q,L-p=q+1:=⟨L-p-1,a?⟩
 have c:f_ H (.clear 1 [.bN]) [.hsl id 1 (off+p) (L-p)]=M (.undef,H.set id (.row 1 (B.take (off+p)++replicate (L-p) [.bN]++B.drop (off+L)))):=by simp[f_,Hl,u,h];grind
 refine⟨_,λcall=>by simp[K6,a,b,pe,e,c];rfl,?_⟩
 simp;grind
theorem x15{p:Nat}(a:get F 0=.hsl id 1 off L)(b:get F 5=.int _r p)(hp:p<=L):∃F',(∀call,d_ E N call J MJ F H=M (F',H))/\get F' 4=.hsl id 1 off p:=by
 have e:jW 1 (.hsl id 1 off L) J (M p)=M (.hsl id 1 off p):=by unfold jW eD;grind
 exact⟨_,λcall=>by simp[MJ,a,b,pe,e];rfl,f?⟩
theorem xmv:∃F',(∀call,d_ E N call J r17 F H=M (F',H))/\get F' 4=get F 0:=⟨_,λcall=>by simp[r17];rfl,f?⟩
theorem Vy:∃F',(∀call,d_ E N call J r3 F H=M (F',H))/\get F' 4=get F 0:=⟨_,λcall=>by simp[r3];rfl,f?⟩
end
structure Kr(E:Env)(g:FuncId)(cb:List V)(H:bt)(id off L:Nat)(rs:List (List V))(A:Nat->V)(t:Nat->Bool):Prop where
 row:H[id]?=some (.row 1 rs)
 len:off+L<=rs.length
 small:L<=2147483648
 at_:∀i,i<L->rs[off+i]?=some [A i]
 one:∀i,i<L->(A i).one=true
 keep:E.keep g=false
 cmp:∃n,∀k,n<=k->∀i,i+1<L->∀cur,cw (run E k) g (A (i+1)::A i::cb) (H.set id (.row 1 cur))=some (.bool (t (i+1)))
structure Head(g:FuncId)(cb:List V)(id off L kk m:Nat)(rs:List (List V))(A:Nat->V)(t:Nat->Bool)(F:Frame)(cur:List (List V)):Prop where
 f0:get F 0=.hsl id 1 off L
 f1:get F 1=.clo g [] cb
 f5:get F 5=.int .i64 ((kept t (kk+m)).length:Nat)
 f6:get F 6=.hsl id 1 (off+kk) (L-kk)
 f7:get F 7=.int .i64 m
 len:cur.length=rs.length
 pre:∀p i,(kept t (kk+m))[p]?=some i->cur[off+p]?=some [A i]
 post:∀i,kk+m<=i+1->i<L->cur[off+i]?=some [A i]
 out:∀j,j<off\/off+L<=j->cur[j]?=rs[j]?
 cell:∀i,i<L->∃j,j<L/\cur[off+i]?=some [A j]
section
variable{E:Env}{N:Nat->Y'}{g:Y'}{cb:So}{H:bt}{id off L kk:Nat}{rs:S'}{A:Nat->V}{t:Nat->X'}
theorem acV(X:Kr E g cb H id off L rs A t)(x:0<kk)(ah:kk<L)(y:t kk=U):∀(d m:Nat)(F:WP)(B:S'),kk+m+d=L->0<m->Head g cb id off L kk m rs A t F B->
 ∃F' D,tN E N L13 F (H.set id (.row 1 B)) (.exit 2) F' (H.set id (.row 1 D))/\Head g cb id off L kk (L-kk) rs A t F' D:=by
 have d__:=(ζe.1 X.row).1;have G:∀B,(H.set id (.row 1 B))[id]?=M (.row 1 B):=λB=>Q? d__
 have ai:=X.small;have af:=X.len;intro d
 induction d with
 |zero=>
  intro m F B a__ P h;have R:m=L-kk:=a?
  subst R;obtain⟨F1,e1,e2,e3⟩:=x9 h.f6 h.f7;refine⟨F1,B,tN.stop (Ex.BA (Ex.seq (Ex.eO e1) (Ex.xd (by simp[gJ,e2]) Ex.exit)) f?) f?,?_⟩
  exact⟨by rw[e3 0 a?];exact h.f0,by rw[e3 1 a?];exact h.f1,by rw[e3 5 a?];exact h.f5,by rw[e3 6 a?];exact h.f6,by rw[e3 7 a?];exact h.f7,h.len,h.pre,h.post,h.out,h.cell⟩
 |succ d ih=>
  intro m F B a__ P h;obtain⟨F1,a1,a2,a3⟩:=x9 h.f6 h.f7;have T:gJ N F1 35=.bool U:=by show get F1 35=_;rw[a2,_c a?]
  obtain⟨m',rfl⟩:∃m',m=m'+1:=⟨m-1,a?⟩
  obtain⟨n0,ab⟩:=X.cmp;have q:B[off+kk+(m'+1)]?=M [A (kk+m'+1)]:=by have:=h.post (kk+m'+1) a? a?;grind
  have c2:B[off+kk+m']?=M [A (kk+m')]:=by have:=h.post (kk+m') a? a?;grind
  obtain⟨F2,b1,b,b3⟩:=(aa3 (L2:=L-kk) (G B) a? a? q c2 X.keep (by rw[a3 1 a?];exact h.f1)).2 (by rw[a3 6 a?];exact h.f6) (by rw[a3 7 a?];exact h.f7)
  have c__:∃n,∀k,n<=k->d_ E N (run E k) (M (H.set id (.row 1 B)).length) MO F1 (H.set id (.row 1 B))=M (F2,H.set id (.row 1 B)):=⟨n0,λk hk=>b1 _ (ab k hk (kk+m') a? B)⟩
  have w:=λs r=>(b3 s r).trans (a3 s r)
  have ad:(kept t (kk+(m'+1))).length+1<=kk+(m'+1):=Da x y _ a?
  have u:kept t (kk+(m'+1)+1)=kept t (kk+(m'+1))++if t (kk+m'+1)then[]else[kk+m'+1]:=by rw[zO];grind
  have z:kk+(m'+1+1)=kk+(m'+1)+1:=a?
  cases W:t (kk+m'+1)with
  |true=>
   rw[W]at b u;simp at u;obtain⟨v,Y,c,Q⟩:=(PA (p:=m'+1) a?).2.1 (by rw[w 7 a?];exact h.f7)
   obtain⟨F',D,i1,i2⟩:=ih (m'+1+1) v B a? a? ⟨by rw[Q 0 a? a?,w 0 a?];exact h.f0,by rw[Q 1 a? a?,w 1 a?];exact h.f1,
    by rw[Q 5 a? a?,w 5 a?,z,u];exact h.f5,by rw[Q 6 a? a?,w 6 a?];exact h.f6,c,h.len,by rw[z,u];exact h.pre,λi a Z=>h.post i a? Z,h.out,h.cell⟩
   exact⟨F',D,tN.step (Ex.seq (Ex.seq (Ex.eO a1) (Ex.uq T Ex.skip)) (Ex.seq (Ex.block (Ex.seq (Ex.Pj (by decide) c__) (Ex.xd (by simp[gJ,b]) Ex.skip))) (Ex.eO Y))) i1,i2⟩
  |false=>
   rw[W]at b u;generalize f:(kept t (kk+(m'+1))).length=K at *;obtain⟨_,_,hz⟩:=h.cell K a?
   obtain⟨v,Y,c⟩:=x11 (G B) (by rw[w 0 a?];exact h.f0) (by rw[w 5 a?,h.f5,f]) (by rw[w 6 a?];exact h.f6) (by rw[w 7 a?];exact h.f7) a? a? q hz (X.one _ a?)
   rw[set_set]at Y;generalize I:B.set (off+K) [A (kk+m'+1)]=b__ at Y;have l:∀j,b__[j]?=if j=off+K then M [A (kk+m'+1)]else B[j]?:=λj=>by rw[<-I,List.getElem?_set];by_cases e:off+K=j;rw[L' e,L' e.symm,L' (by rw[h.len];omega)];rw[M' e,M' (Ne.symm e)]
   obtain⟨F4,Q,q4,q5⟩:=(PA (p:=K) a?).1 (by rw[c 5 a?,w 5 a?,h.f5,f])
   have C:∀s,s<8->s≠5->get F4 s=get F s:=λs a Z=>by rw[q5 s a Z,c s a,w s a]
   obtain⟨F5,q6,q7,o⟩:=(PA (p:=m'+1) a?).2.1 (by rw[C 7 a? a?];exact h.f7)
   obtain⟨F',D,i1,i2⟩:=ih (m'+1+1) F5 b__ a? a? ⟨by rw[o 0 a? a?,C 0 a? a?];exact h.f0,by rw[o 1 a? a?,C 1 a? a?];exact h.f1,
    by rw[o 5 a? a?,q4,z,u,ζi,f];rfl,by rw[o 6 a? a?,C 6 a? a?];exact h.f6,q7,by rw[<-I,List.length_set];exact h.len,
    λp i S=>by rw[z,u]at S;rw[l];by_cases e:p=K;subst e;rw[<-f,H? (x? _),Nat.sub_self]at S;cases S;rw[L' rfl];have ae:p<(kept t (kk+(m'+1))).length:=(by have:=(ζe.1 S).1;simp at this;omega);rw[u? ae]at S;rw[M' a?];exact h.pre p i S,
    λi a Z=>by rw[l,M' a?];exact h.post i a? Z,λj hj=>by rw[l,M' a?];exact h.out j hj,
    λi hi=>by rw[l];by_cases e:off+i=off+K;rw[L' e];exact⟨_,a?,rfl⟩;rw[M' e];exact h.cell i hi⟩
   exact⟨F',D,tN.step (Ex.seq (Ex.seq (Ex.eO a1) (Ex.uq T Ex.skip)) (Ex.seq (Ex.block (Ex.seq (Ex.Pj (by decide) c__) (Ex.uq (by simp[gJ,b]) (Ex.seq (Ex.eO Y) (Ex.eO Q))))) (Ex.eO q6))) i1,i2⟩
structure Ut(off L:Nat)(rs:List (List V))(A:Nat->V)(t:Nat->Bool)(rs':List (List V)):Prop where
 len:rs'.length=rs.length
 pre:∀p i,(kept t L)[p]?=some i->rs'[off+p]?=some [A i]
 all:∀c∈rs',c∈rs\/c=[.bN]
theorem acJ(X:Kr E g cb H id off L rs A t):∀(d k:Nat)(F:WP),k+d=L->0<k->(∀i,0<i->i<k->t i=O)->get F 0=.hsl id 1 off L->get F 1=.clo g [] cb->get F 5=.int _r k->
 (∃F',tN E N WV F H (.exit 0) F' H/\get F' 0=.hsl id 1 off L/\∀i,0<i->i<L->t i=O)\/
 (∃F' D,tN E N WV F H .ret F' (H.set id (.row 1 D))/\get F' 4=.hsl id 1 off (kept t L).length/\Ut off L rs A t D):=by
 have Q:=(ζe.1 X.row).1;have S:=uc X.row;have ah:=X.small;have af:=X.len;intro d
 induction d with
 |zero=>
  intro k F he r hp b v e;have ek:k=L:=a?
  subst ek;obtain⟨F1,e1,e2,e3⟩:=x5 (N:=N) b e;exact .inl ⟨F1,tN.stop (Ex.BA (Ex.seq (Ex.eO e1) (Ex.xd (by simp[gJ,e2]) Ex.exit)) f?) f?,g?,hp⟩
 |succ d ih=>
  intro k F he r hp b v e;obtain⟨F1,a1,a2,a3⟩:=x5 b e;have c__:gJ N F1 15=.bool U:=by show get F1 15=_;rw[a2,_c a?]
  obtain⟨u,rfl⟩:∃u,k=u+1:=⟨k-1,a?⟩
  obtain⟨n0,ai⟩:=X.cmp;obtain⟨y,b1,f,b3⟩:=(aa3 (N:=N) (cb:=cb) (g:=g) (i:=u) (L2:=L) (t:=t (u+1)) X.row a? a? (X.at_ _ a?) (X.at_ _ a?) X.keep (by rw[a3 1 a?];omega)).1 g? g?
  have W:∃n,∀k,n<=k->d_ E N (run E k) (M H.length) r6 F1 H=M (y,H):=⟨n0,λk r=>b1 _ (by
   grind)⟩
  have Y:=λs a__=>(b3 s a__).trans (a3 s a__)
  cases w:t (u+1)with
  |false=>
   rw[w]at f;obtain⟨T,l,m,h⟩:=(PA (E:=E) (F:=y) (p:=u+1) a?).2.2 g?
   have z:Ex E N WV F H .norm T H:=Ex.seq (Ex.seq (Ex.eO a1) (Ex.uq c__ Ex.skip)) (Ex.seq (Ex.block (Ex.seq (Ex.Pj (by decide) W) (Ex.xd (by simp[gJ,f]) Ex.skip))) (Ex.eO l))
   rcases ih (u+1+1) T a? a? (λi P Z=>by
    grind) g? o? m with⟨F',i1,i2⟩|⟨F',D,i1,i2⟩
   .exact .inl ⟨F',tN.step z i1,i2⟩
   exact .inr ⟨F',D,tN.step z i1,i2⟩
  |true=>
   rw[w]at f;refine .inr ?_;obtain⟨T,l,m,h⟩:=x7 (E:=E) (N:=N) (H:=H) (k:=u+1) (by rw[Y 0 a?];exact b) (by rw[Y 5 a?];exact e) a?
   have G:kept t (u+1)=C! (u+1):=E0 _ hp;have R:kept t (u+1+1)=C! (u+1):=by rw[zO,G,w];simp
   have q4:∀call,d_ E N call J r8 T H=M (set T 7 (.int _r 1),H):=λcall=>vp rfl (by simp[lJ,gJ,bW]) yh
   have h0:Head g cb id off L (u+1) 1 rs A t (set T 7 (.int _r 1)) rs:=⟨by rw[lq _ _ a?,h 0 a? a?,Y 0 a?];exact b,by rw[lq _ _ a?,h 1 a? a?,Y 1 a?];exact v,
    by rw[lq _ _ a?,h 5 a? a?,Y 5 a?,R,l0];exact e,by rw[lq _ _ a?];exact m,by rw[vB];rfl,rfl,
    λp i B=>by rw[R]at B;obtain⟨P,Z⟩:=ζe.1 B;simp at P Z;subst Z;exact X.at_ p a?,λi _ Z=>X.at_ i Z,λ_ _=>rfl,λi hi=>⟨i,hi,X.at_ i hi⟩⟩
   obtain⟨F5,C,V,I⟩:=acV (N:=N) X a? a? w (L-(u+1)-1) 1 _ rs a? a? h0
   rw[S]at V;have eL:u+1+(L-(u+1))=L:=a?
   have ae:=Da (t:=t) (k:=u+1) a? w L a?
   have o:=I.f5;have b__:=I.pre;rw[eL]at o b__;generalize hK:(kept t L).length=K at *;have ab:(H.set id (.row 1 C))[id]?=M (.row 1 C):=Q? Q;obtain⟨F6,w1,w2⟩:=x14 (E:=E) (N:=N) (p:=K) ab I.f0 o a? (by rw[I.len];omega)
   rw[set_set]at w1;obtain⟨F7,w3,w4⟩:=x15 (E:=E) (by rw[w2 0 a?];exact I.f0) (by rw[w2 5 a?];exact o) a?
   have aj:=I.len;refine⟨F7,C.take (off+K)++replicate (L-K) [.bN]++C.drop (off+L),tN.stop (Ex.seq (Ex.seq (Ex.eO a1) (Ex.uq c__ Ex.skip)) (Ex.BA (Ex.S0 (Ex.seq (Ex.Pj (by decide) W) (Ex.uq (by simp[gJ,f]) (Ex.seq (Ex.eO l) (Ex.seq (Ex.seq (Ex.eO q4) (Ex.G0 (Ex.loop V))) (Ex.seq (Ex.eO w1) (Ex.seq (Ex.eO w3) Ex.ret))))))) f?)) f?,w4,?_,λp i B=>?_,λc a=>?_⟩
   .simp;omega
   .have ak:p<K:=by rw[<-hK];exact(ζe.1 B).1
    rw[d7,u? (by simp;omega),J?,L' a?]
    exact b__ p i B
   have ad:∀j x,C[j]?=M x->x∈rs:=λj x d__=>by by_cases ho:j<off\/off+L<=j;rw[I.out j ho]at d__;exact s? d__;obtain⟨i,rfl⟩:∃i,j=off+i:=⟨j-off,a?⟩;obtain⟨q,hq,a⟩:=I.cell i a?;rw[a]at d__;cases d__;exact s? (X.at_ q hq)
   rcases mem_append.1 a with a|a
   .rcases mem_append.1 a with a|a
    .obtain⟨j,d__⟩:=B! (List.mem_of_mem_take a);exact .inl (ad j c d__)
    exact .inr (List.eq_of_mem_replicate a)
   obtain⟨j,d__⟩:=B! (List.mem_of_mem_drop a);exact .inl (ad j c d__)
end
end cmpX
def B8(E:Env)(g:Y')(cb:So)(a b:V):aX X':=match E_ E g cb a b with|some (.bool c)=>M c|_=>J
theorem abb{E:Env}{g:Y'}{cb:So}{a b:V}{c:X'}(h:B8 E g cb a b=M c):∃n,∀k,n<=k->cw (run E k) g (a::b::cb) []=M (.bool c):=by
 unfold B8 at h;split at h;next c' d=>cases h;exact Ih d
 cases h
def ot(xs:S')(i:Nat):V:=kU ((xs[i]?).getD [])
def AL(E:Env)(es:Nat)(xs:S'):So->aX S'
 |[.clo g [] cb]=>if xs.isEmpty then M []else if wX es xs&& !E.keep g then
  if(C! (W xs)).all λi=>i==0||(B8 E g cb (ot xs i) (ot xs (i-1))).isSome then
   M ((kept (λi=>(B8 E g cb (ot xs i) (ot xs (i-1))).getD O) (W xs)).map λi=>(xs[i]?).getD [])
  else J
  else J
 |_=>J
def vF(E:Env):JW:=⟨U,AL E⟩
namespace cmpX
section
variable{E:Env}{N:Nat->Y'}{g:Y'}{cb:So}{H:bt}{id off L:Nat}{rs:S'}{A:Nat->V}{t:Nat->X'}
theorem whole(X:Kr E g cb H id off L rs A t):∃F' B,Ex E N code [.hsl id 1 off L,.clo g [] cb] H .ret F' (H.set id (.row 1 B))/\get F' 4=.hsl id 1 off (W (kept t L))/\Ut off L rs A t B:=by
 have u:H.set id (.row 1 rs)=H:=uc X.row;have same:(∀i,0<i->i<L->t i=O)->W (kept t L)=L/\Ut off L rs A t rs:=λh=>by have d:=E0 L h;rw[d,l0];exact⟨Y,Y,λp i Q=>by rw[d]at Q;have⟨a,w⟩:=ζe.1 Q;simp at a w;subst w;exact X.at_ p a,λc b=>.inl b⟩
 have g1:∀call,d_ E N call J r1 [.hsl id 1 off L,.clo g [] cb] H=M (set [.hsl id 1 off L,.clo g [] cb] 4 .bN,H):=λcall=>vp (v:=.bN) Y (by simp[lJ,gJ,bW]) yh;have k0:get (set [V.hsl id 1 off L,.clo g [] cb] 4 .bN) 0=.hsl id 1 off L:=rfl;have k1:get (set [V.hsl id 1 off L,.clo g [] cb] 4 .bN) 1=.clo g [] cb:=rfl;generalize set [V.hsl id 1 off L,.clo g [] cb] 4 .bN=S at *;have⟨F1,a1,a2,z⟩:=x2 (E:=E) (N:=N) (H:=H) k0;by_cases T:L<2;have⟨C,D,G⟩:=Vy (E:=E) (N:=N) (F:=F1) (H:=H);have⟨e1,e2⟩:=same λi a w=>by omega
 refine⟨C,rs,?_,by rw[e1,G,z 0 a?];exact k0,e2⟩;rw[u];exact Ex.seq (Ex.eO g1) (Ex.BA (Ex.seq (Ex.eO a1) (Ex.uq (by show get F1 10=_;rw[a2,_c a?]) (Ex.seq (Ex.eO D) Ex.ret))) f?);have g4:∀call,d_ E N call J r4 F1 H=M (set F1 5 (.int _r 1),H):=λcall=>vp (v:=.int _r 1) Y (by simp[lJ,gJ,bW]) yh;have b:Ex E N (.seq (.ops r2) (.cond (.s 10) (.seq (.ops r3) (.ret)) (.skip))) S H .norm F1 H:=Ex.seq (Ex.eO a1) (Ex.xd (by show get F1 10=_;rw[a2,_b a?]) Ex.skip);rcases acJ (N:=N) X (L-1) 1 (set F1 5 (.int _r 1)) a? a? (λi a w=>a?) (by rw[lq _ _ a?,z 0 a?];exact k0) (by rw[lq _ _ a?,z 1 a?];exact k1) (by rw[vB];rfl)with⟨F',I,j,q⟩|⟨F',B,I,j,q⟩;have⟨C,D,G⟩:=xmv (E:=E) (N:=N) (F:=F') (H:=H);have⟨e1,e2⟩:=same q;refine⟨C,rs,?_,by rw[e1,G];exact j,e2⟩;rw[u];exact Ex.seq (Ex.eO g1) (Ex.seq b (Ex.seq (Ex.seq (Ex.eO g4) (Ex.G0 (Ex.loop I))) (Ex.seq (Ex.eO D) Ex.ret)));exact⟨F',B,Ex.seq (Ex.eO g1) (Ex.seq b (Ex.BA (Ex.seq (Ex.eO g4) (Ex.S0 (Ex.loop I))) f?)),j,q⟩
theorem empty{w:V}(c:V)(B:w=.bN\/w=.dS):∃F',Ex E N code [w,c] H .ret F' H/\get F' 4=w:=by
 have g1:∀call,d_ E N call J r1 [w,c] H=M (set [w,c] 4 .bN,H):=λcall=>vp (v:=.bN) Y (by simp[lJ,gJ,bW]) yh;have k0:get (set [w,c] 4 .bN) 0=w:=rfl;generalize set [w,c] 4 .bN=u at *;have z:qP w=M (.int _r 0):=by rcases B with rfl|rfl<;>rfl
 have a1:∃F1,(∀call,d_ E N call J r2 u H=M (F1,H))/\get F1 10=.bool U/\get F1 0=w:=by refine⟨_,λcall=>vp (v:=w) Y ?_<|vp (v:=.int _r 0) Y ?_<|vp (v:=.bool U) Y ?_ yh,?_,?_⟩;simp[lJ,gJ,bW,k0];simp[lJ,gJ,bW,nr,z];simp[lJ,gJ,bW,nr,pg,uI];simp[nr];simp[nr,k0]
 have⟨F1,a1,a2,C⟩:=a1;have⟨D,G,I⟩:=Vy (E:=E) (N:=N) (F:=F1) (H:=H);exact⟨D,Ex.seq (Ex.eO g1) (Ex.BA (Ex.seq (Ex.eO a1) (Ex.uq a2 (Ex.seq (Ex.eO G) Ex.ret))) f?),by rw[I,C]⟩
end
end cmpX
theorem V9 {E:Env} {f:FuncId} {nm:FuncId->aX Nat} {N:Nat->FuncId} (hN:∀f s,nm f=some s->N s=f) (hk:E.keep f=true) (ho:E.own f=false)
 (hf:∃fi,E.ft f=some fi/\bV ⟨E,nm,fi.ntmps⟩ false fi.body=some cmpX.code/\2<=fi.ntmps/\fi.results=[.tmp 4]):qa E f (vF E):=by
 obtain⟨fi,h1,h2,h3,h4⟩:=hf;have D:∀{w c:V} {H H':bt} {F':Frame} {r:V},Ex E N cmpX.code [w,c] H .ret F' H'->get F' 4=r->∃n,∀k,n<=k->run E k (.fn f) [w,c] H=some (r,H'):=λ{w c H H' F' r} hx hr=>by
  obtain⟨n,G⟩:=Ex.run hN h1 h2 (args:=[w,c]) (by simpa using h3) hx (vs:=[r]) (by rw[h4];simp[jS,hr])
  exact⟨n,λk hk=>(rL E hk).go _ _ _ _ G⟩
 refine⟨hk,ho,?_,?_,?_⟩
 .intro es z vs ys h;simp only[vF,AL]at h;refine⟨?_,λe=>by simp[vF]at e⟩
  split at h
  .split at h
   .cases h;simp
   split at h
   .split at h
    .cases h;simpa using DW _ _
    cases h
   cases h
  cases h
 .intro es vs ys h H Z ws w hw he;simp only[vF,AL]at h;split at h
  .obtain⟨w2,r,rfl,q1,q2⟩:=hw.inv;rw[q2.dx];obtain⟨F',e1,e2⟩:=cmpX.empty (E:=E) (N:=N) (H:=H) w2 he;obtain⟨n,G⟩:=D e1 e2;exact⟨n,[],λk hk=>by rw[List.append_nil];exact G k hk⟩
  cases h
 intro es z vs ys h H Z ws id off rs hw S T ae q hz;simp only[vF,AL]at h;split at h
 .rename_i g cb;obtain⟨w2,r,rfl,q1,q2⟩:=hw.inv;rw[q2.dx];obtain⟨a',B,rfl,ha,af⟩:∃a' B,w2=.clo g a' B/\dL H Z [] a'/\dL H Z cb B:=q1.mC;rw[ha.dx]at *;split at h
  .rename_i he;cases h;have:z=[]:=by simpa using he
   subst this;have e2:∃F',Ex E N cmpX.code [.hsl id es off 0,.clo g [] B] H .ret F' H/\get F' 4=.hsl id es off 0:=by
    have g1:∀call,d_ E N call none cmpX.r1 [.hsl id es off 0,.clo g [] B] H=some (set [.hsl id es off 0,.clo g [] B] 4 .bN,H):=λcall=>vp (v:=.bN) rfl (by simp[lJ,gJ,bW]) yh
    have k0:get (set [V.hsl id es off 0,.clo g [] B] 4 .bN) 0=.hsl id es off 0:=rfl;generalize set [V.hsl id es off 0,.clo g [] B] 4 .bN=F0 at *;have a1:∃F1,(∀call,d_ E N call none cmpX.r2 F0 H=some (F1,H))/\get F1 10=.bool true/\get F1 0=.hsl id es off 0:=by
     refine⟨_,λcall=>vp (v:=.hsl id es off 0) rfl ?_ <| vp (v:=.int .i64 0) rfl ?_ <| vp (v:=.bool true) rfl ?_ yh,?_,?_⟩
     .simp[lJ,gJ,bW,k0]
     .simp[lJ,gJ,bW,nr,qP]
     .simp[lJ,gJ,bW,nr,pg,uI]
     .simp[nr]
     simp[nr,k0]
    obtain⟨F1,a1,a2,a3⟩:=a1;obtain⟨F2,b1,b2⟩:=cmpX.Vy (E:=E) (N:=N) (F:=F1) (H:=H);exact⟨F2,Ex.seq (Ex.eO g1) (Ex.BA (Ex.seq (Ex.eO a1) (Ex.uq a2 (Ex.seq (Ex.eO b1) Ex.ret))) f?),by rw[b2,a3]⟩
   obtain⟨F',e1,e3⟩:=e2;obtain⟨n,G⟩:=D e1 e3;refine⟨n,rs,[],λk hk=>?_,rfl,⟨rfl,λj u v hu=>by simp at hu⟩,q⟩
   rw[List.append_nil,uc S];exact G k hk
  rename_i al;split at h
  .rename_i L;simp only[ζh,Bool.not_eq_true']at L;obtain⟨c1,c3⟩:=L;obtain⟨rfl,a__,W⟩:=BN c1;split at h
   .rename_i Y;cases h;have b__:∀i,i<z.length->∃a,rs[off+i]? = some [a]/\FR H Z (ot z i) a/\a.one=true:=λi hi=>by
     obtain⟨e,p2⟩:=W i z[i] (ζd hi);have Q:off+i<rs.length:=by omega
     have:=ae.2 i z[i] rs[off+i] (ζd hi) (by rw[List.getElem?_take,L' hi,List.getElem?_drop,ζd Q])
     rw[e]at this;obtain⟨y,ys,e2,r1,r2⟩:=this.inv;rw[r2.dx]at e2;have e3:ot z i=kU z[i]:=by unfold ot;rw[ζd hi];rfl
     exact⟨y,by rw[ζd Q,e2],by rw[e3];exact r1,by rw[r1.one];exact p2⟩
    let A:Nat->V:=λi=>match rs[off+i]? with|some (a::_)=>a|_=>.undef
    have hA:∀i,i<z.length->rs[off+i]? = some [A i]/\FR H Z (ot z i) (A i)/\(A i).one=true:=λi hi=>by
     obtain⟨a,p1,p2,p4⟩:=b__ i hi;have:A i=a:=by show (match rs[off+i]? with|some (a::_)=>a|_=>V.undef)=a;rw[p1]
     rw[this];exact⟨p1,p2,p4⟩
    have aa:∀i,i+1<z.length->∃b,B8 E g cb (ot z (i+1)) (ot z i)=some b:=λi hi=>by
     have:=List.all_eq_true.1 Y (i+1) (List.mem_range.2 hi);simp only[Nat.add_sub_cancel,Bool.or_eq_true]at this;rcases this with h|h
     .simp at h
     exact Option.isSome_iff_exists.1 h
    have X:cmpX.Kr E g B H id off z.length rs A (λi=>(B8 E g cb (ot z i) (ot z (i-1))).getD false):=by
     refine⟨S,T,a__,λi hi=>(hA i hi).1,λi hi=>(hA i hi).2.2,c3,?_⟩
     obtain⟨d,hM⟩:=HH (n:=z.length-1) (p:=λi k=>cw (run E k) g (ot z (i.1+1)::ot z i.1::cb) []=some (.bool ((B8 E g cb (ot z (i.1+1)) (ot z i.1)).getD false))) (λi=>by
      obtain⟨b,Q⟩:=aa i.1 (by have:=i.2;omega)
      obtain⟨n,G⟩:=abb Q;exact⟨n,λk hk=>by rw[G k hk,Q];rfl⟩)
     obtain⟨L1,ah⟩:=oH ((List.range z.length).map (ot z));obtain⟨L2,ai⟩:=oH cb;have ab:∀i k,i<z.length->L1<=k->(ot z i).lvl k=true:=λi k hi hk=>Bd hk (oO.1 ah i _ (by simp[hi]))
     refine⟨max d (max L1 L2),λk hk i hi ad=>?_⟩
     have C:∀j,Z j->Z j/\bz (H.set id (.row 1 ad)) j=bz H j:=λj hj=>⟨hj,by
      unfold bz;rw[List.getElem?_set_ne];rintro rfl;exact hz hj⟩
     have hl:dL (H.set id (.row 1 ad)) Z (ot z (i+1)::ot z i::cb) (A (i+1)::A i::B):=.cons ((hA _ hi).2.1.mono C) (.cons ((hA i a?).2.1.mono C) (af.mono C))
     have Q:=hl.N2 (k:=k) (by simp only[V.nQ,ab _ k hi a?,ab i k a? a?,rQ (by omega:L2<=k) ai,Bool.and_self])
     rw[abS (by rw[qM];exact Q) (λx hx=>?_)]
     .exact hM ⟨i,by omega⟩ k a?
     obtain⟨j,hj⟩:=List.getElem?_of_mem hx;obtain⟨y,hy,hr⟩:=hl.get hj;exact V.ov hr.good
    obtain⟨F',aj,e1,e2,e3⟩:=cmpX.whole (N:=N) X;obtain⟨n,G⟩:=D e1 e2;refine⟨n,aj,[],λk hk=>?_,e3.len,?_,?_⟩
    .simp only[vF,N',List.length_map,List.append_nil];exact G k hk
    .refine⟨by simp[e3.len];have:=DW (λi=>(B8 E g cb (ot z i) (ot z (i-1))).getD false) z.length;omega,λp a b hp hq=>?_⟩
     rw[List.getElem?_map]at hp;obtain⟨i,hi,rfl⟩:=ζf.1 hp;have I:=OB (List.mem_of_getElem? hi);have ak:=(ζe.1 hi).1;rw[List.getElem?_take,L' (by simpa using ak),List.getElem?_drop,e3.pre p i hi]at hq
     cases hq;rw[ζd I,Option.getD_some];have e4:=(W i z[i] (ζd I)).1;have e5:ot z i=kU z[i]:=by unfold ot;rw[ζd I];rfl
     rw[e4,<-e5];exact .cons (hA i I).2.1 .nil
    intro c hc u hu;rcases e3.all c hc with h|rfl
    .exact q c h u hu
    simp at hu;subst hu;exact⟨.bN,.same _ rfl⟩
   cases h
  cases h
 cases h
def Sl.re{α:Type}(s:Sl α)(l:aY α):Sl α:=match s with|.nil=>.nil|.emp=>.emp|.row _=>.row l|.part _=>.part l
def Sl.vM{α:Type}(s:Sl α)(l:aY α):Sl α:=match s with|.nil=>.nil|.emp=>.emp|.row _|.part _=>.part l
def Bs{α:Type}(s:Sl α)(p:α->α->Ps):aX (Sl α):=
 match s.l with
 |[]=>M s|x::l=>if W l<2147483648 then
  let t:_root_.Fin (W l+1)->_root_.Fin (W l+1)->Ps:=λi j=>p (x::l)[i.1] (x::l)[j.1]
  if DH t then M (s.re ((tj (W l) (sy t)).toList.map λi=>(x::l)[i.1]))else J
  else J
def vX{α:Type}(l:aY α)(p:α->α->aX X')(i:Nat):aX X':=match l[i]?,l[i-1]?with|some a,M b=>p a b|_,_=>J
def AF{α:Type}(s:Sl α)(p:α->α->aX X'):aX (Sl α):=
 if W s.l<=2147483648/\((C! (W s.l)).all λi=>i==0||(vX s.l p i).isSome)=U then
  M (s.vM ((kept (λi=>(vX s.l p i).getD O) (W s.l)).filterMap (s.l[·]?)))
 else J
section
variable{S:Sys}{T:sY}{β γ δ α:Type}{Q:Out×St->aX β}{e:γ->aX β}{cf:Cf}
theorem eZ.S3(B:uk S T)(D:∀f a b xs,S.items f a b=M xs->fM S f a b xs){fn:Y'}{A:δ->So}{E:α->So}{p:δ->aX α}{sc:X'}(F:eZ S (dB S T) fn A E p sc){z:δ}{r:α}(h:p z=M r)(d:V.c_ (A z)=U):
 ∃n,cw (run S.E n) fn (A z) []=M (result (E r)):=by
 have e:=F.h z (E r) o?
 have⟨⟨rs,m'⟩,u,w⟩:=ζg.1 e;have⟨n,y,H2,e1,e2,e3⟩:=EN (Ao B D) d u w;refine⟨n,?_⟩;have C:borrows n [] (A z)=M (A z):=by have c:=V.qT d;generalize A z=l at c;unfold borrows;induction l with|nil=>rfl|cons x l G=>simp[V.jI]at c;simp[jN,fI n [] c.1,G c.2]
 unfold cw;rw[qM,C];simp[e1 n (x? _),e2 n (x? _),V.ov e3]
section
variable[bD α]
theorem Ge (h1:bD.size α=1) {l:aY α} (B:l.length<=2147483648):wX (bD.size α) (rows l)=true:=by
 unfold wX;simp;refine⟨⟨h1,λx u=>?_⟩,by simpa [rows]using B⟩
 obtain⟨a,_,rfl⟩:=List.mem_map.1 u;exact⟨by rw[jv,h1],List.all_eq_true.1 (bD.one a)⟩
theorem IM(b:bD.agg α=O)(a:α):kU (cells a)=enc a:=by unfold enc;rw[M' g?];rfl
theorem EW(l:aY α)(i:Nat)(h:i<W l):(rows l)[i]?=M (cells l[i]):=by unfold rows;grind
theorem ZN(y:uk S T)(W:∀f a b xs,S.items f a b=M xs->fM S f a b xs){g:Y'}{p:α->α->Ps}(F:eZ S (dB S T) g (λz:α×α=>[enc z.1,enc z.2]) (λr:Int=>[.int _r r]) (λz=>p z.1 z.2) U)
 (c:bD.size α=1)(Y:bD.agg α=O){s D:Sl α}(h:Bs s p=M D):C_ S.E (bD.size α) (rows s.l) [.clo g [] []]=M (rows D.l)/\D.k=s.k:=by
 unfold Bs at h;split at h
 next B=>cases h;rw[B];exact⟨_l,_l⟩
 rename_i x l B;split at h
 .dsimp only at h;split at h
  .rename_i I;cases h;rw[B];have⟨u,q⟩:=tf I;have C:=Ge c (l:=x::l) g?
   have key:∀m,m=_m l->(if DH (λi j:_root_.Fin (m+1)=>vz S.E g [] (kU (((rows (x::l))[i.1]?).getD [])) (kU (((rows (x::l))[j.1]?).getD [])))then
    M ((tj m (sy (λi j:_root_.Fin (m+1)=>vz S.E g [] (kU (((rows (x::l))[i.1]?).getD [])) (kU (((rows (x::l))[j.1]?).getD []))))).toList.map λi=>((rows (x::l))[i.1]?).getD [])else J)=
    M (rows ((tj (_m l) (sy λi j:_root_.Fin (_m l+1)=>p (x::l)[i.1] (x::l)[j.1])).toList.map λi=>(x::l)[i.1])):=by
    rintro m rfl;have e1:∀i:_root_.Fin (_m l+1),kU (((rows (x::l))[i.1]?).getD [])=enc (x::l)[i.1]:=λi=>by rw[EW (x::l) i.1 i.2,G!,IM Y]
    have e2:(λi j:_root_.Fin (_m l+1)=>vz S.E g [] (kU (((rows (x::l))[i.1]?).getD [])) (kU (((rows (x::l))[j.1]?).getD [])))=λi j=>p (x::l)[i.1] (x::l)[j.1]:=by funext i j;have⟨z,L⟩:=u i j;rw[e1 i,e1 j,L];have⟨n,a__⟩:=F.S3 y W (z:=((x::l)[i.1],(x::l)[j.1])) L (by simp[V.c_,lZ]);unfold vz;rw[O3 a__];rfl
    rw[e2,L' I]
    congr 1
    unfold rows;rw[List.map_map];refine List.map_congr_left λi _=>?_
    grind
   have w:(s.re ((tj (_m l) (sy λi j:_root_.Fin (_m l+1)=>p (x::l)[i.1] (x::l)[j.1])).toList.map λi=>(x::l)[i.1])).l=(tj (_m l) (sy λi j:_root_.Fin (_m l+1)=>p (x::l)[i.1] (x::l)[j.1])).toList.map (λi=>(x::l)[i.1])/\(s.re ((tj (_m l) (sy λi j:_root_.Fin (_m l+1)=>p (x::l)[i.1] (x::l)[j.1])).toList.map λi=>(x::l)[i.1])).k=s.k:=by cases s<;>simp[Sl.l]at B<;>exact⟨_l,_l⟩
   refine⟨?_,w.2⟩;rw[w.1,<-key (_m (rows l)) (iz l)];have d:(wX (bD.size α) (rows (x::l))&& !S.E.keep g)=U:=by rw[C,F.k];rfl
   have G:=d;exact(L' G).trans _l
  simp_all
 simp_all
theorem ZJ (W:uk S T) (Y:∀f a b xs,S.items f a b=some xs->fM S f a b xs) {g:FuncId} {p:α->α->aX Bool} (F:eZ S (dB S T) g (λz:α×α=>[enc z.1,enc z.2]) (λr:Bool=>[.bool r]) (λz=>p z.1 z.2) true)
 (h1:bD.size α=1) (ha:bD.agg α=false) {s D:Sl α} (h:AF s p=some D):AL S.E (bD.size α) (rows s.l) [.clo g [] []]=some (rows D.l)/\D=s.vM D.l:=by
 have Q:∀l:aY α,(s.vM l)=s.vM (s.vM l).l:=λl=>by cases s <;> rfl
 refine⟨?_,by
  unfold AF at h;grind⟩
 unfold AF at h;split at h
 .rename_i hc;cases h;obtain⟨X,u⟩:=hc;have I:=Ge  h1 X;simp only[AL]
  by_cases d:s.l=[]
  .have:(s.vM ((kept (λi=>(vX s.l p i).getD false) s.l.length).filterMap (s.l[·]?))).l=[]:=by
    cases s <;> simp[Sl.l]at d <;> simp[Sl.vM,Sl.l,d,kept]
   rw[this,d];rfl
  have L:(rows s.l).isEmpty=false:=by cases hs:s.l with|nil=>grind|cons a l=>rfl
  rw[L,M' f?,I,F.k,L' (by rfl),iz]
  have e1:∀i,0<i->i<s.l.length->∃b,vX s.l p i=some b/\B8 S.E g [] (ot (rows s.l) i) (ot (rows s.l) (i-1))=some b:=λi Z hi=>by
   have:=List.all_eq_true.1 u i (List.mem_range.2 hi);simp  at this;obtain⟨b,C⟩:=Option.isSome_iff_exists.1 (this.resolve_left a?)
   refine⟨b,C,?_⟩;have w:i-1<s.l.length:=by omega
   unfold vX at C;rw[ζd hi,ζd w]at C;have q:∀j (G:j<s.l.length),ot (rows s.l) j=enc s.l[j]:=λj G=>by
    unfold ot;rw[EW _ _ G,Option.getD_some,IM ha]
   rw[q i hi,q (i-1) w];obtain⟨n,hn⟩:=F.S3 W Y (z:=(s.l[i],s.l[i-1])) C (by simp only[V.c_,lZ,Bool.and_self])
   unfold B8;rw[O3 hn];rfl
  have e2:((List.range s.l.length).all λi=>i==0||(B8 S.E g [] (ot (rows s.l) i) (ot (rows s.l) (i-1))).isSome)=true:=by
   grind
  rw[L' e2];have e3:kept (λi=>(B8 S.E g [] (ot (rows s.l) i) (ot (rows s.l) (i-1))).getD false) s.l.length=kept (λi=>(vX s.l p i).getD false) s.l.length:=by
   refine List.filter_congr λi hi=>?_
   by_cases Z:i=0
   .grind
   obtain⟨b,h3,h4⟩:=e1 i a? (List.mem_range.1 hi)
   simp_all
  rw[e3];have e4:(s.vM ((kept (λi=>(vX s.l p i).getD false) s.l.length).filterMap (s.l[·]?))).l=(kept (λi=>(vX s.l p i).getD false) s.l.length).filterMap (s.l[·]?):=by
   cases s <;> first|rfl|grind
  rw[e4]
  congr 1
  generalize hk:kept (λi=>(vX s.l p i).getD false) s.l.length=y
  have B:∀i∈y,i<s.l.length:=λi hi=>OB (hk▸hi)
  clear hk e3 e4
  induction y with
  | nil=>rfl
  | cons i y ih=>
   have hi:=B i f?
   rw[List.map_cons,ih λj G=>B j (List.mem_cons_of_mem _ G),EW _ _ hi,List.filterMap_cons,ζd hi]
   rfl
 simp_all
theorem VR{s B:Sl α}{p:α->α->Ps}(h:Bs s p=M B)(a:cg s.k=O):B=s:=by cases s<;>simp[Sl.k,cg]at a<;>simpa[Bs,Sl.l]using h.symm
theorem acO(n d:Nat)(D:uk S T)(G:∀f a b xs,S.items f a b=M xs->fM S f a b xs){fn g:Y'}(hp:S.prm fn=M (vT S.E)){p:α->α->Ps}
 (F:eZ S (dB S T) g (λz:α×α=>[enc z.1,enc z.2]) (λr:Int=>[.int _r r]) (λz=>p z.1 z.2) U){s:Sl α}{f:Sl α->aX γ}
 (h:∀B,Bs s p=M B->Le ((f B).bind e) (bZ S (dB S T) Q (nx S (dB S T) n cf λq=>dA {q.st with m:=bJ q.st.m d (cH B)} q.d (.v .undef))))
 (i:bD.size α=1:=by rfl)(a__:bD.agg α=O:=by rfl)
 (b__:(gN S (dB S T) n cf).map (λq=>(q.k,b9 S.N q.st.g q.az,bk q.st.m d,q.dr))=M (.c,M [.v (.clo fn [] []),.own d,.v (.clo g [] [])],M (cH s),O):=by kernel_rfl):Le (((Bs s p).bind f).bind e) (bZ S (dB S T) Q cf):=by
 have⟨q,C,c⟩:=fC b__;simp at c;have⟨I,L,c__,W⟩:=c;refine rF C ?_ h;rw[I,W];intro y w;have⟨B,u,w⟩:=ζg.1 w;have⟨e1,e2⟩:=ZN D G F i a__ u;have j:=(D.prm fn _ hp).keep;have X:=(D.prm fn _ hp).own;rw[vP O _ _ _ _ _ _ fn [.own d,.v (.clo g [] [])] L rfl];have l:e_ S (dB S T) q.d O (!O||q.now) (gm q.st.m q.fr) fn [.own d,.v (.clo g [] [])] q.st=M (.v .undef,{q.st with m:=bJ q.st.m d (cH B)}):=by unfold e_;simp[j,X,hp,Fu,c__,cH,dG];have e3:=e1;simp[vT];cases k:cg s.k with|true=>grind|false=>have:=VR u k;grind
 grind
theorem acU(n d t:Nat)(D:uk S T)(G:∀f a b xs,S.items f a b=M xs->fM S f a b xs){fn g:Y'}(hp:S.prm fn=M (vF S.E)){p:α->α->aX X'}
 (F:eZ S (dB S T) g (λz:α×α=>[enc z.1,enc z.2]) (λr:X'=>[.bool r]) (λz=>p z.1 z.2) U){s:Sl α}{f:Sl α->aX γ}
 (h:∀B,AF s p=M B->Le ((f B).bind e) (bZ S (dB S T) Q (nx S (dB S T) n cf λq=>{q.st with g:=bJ q.st.g t (.own t),m:=bJ (dJ d q.st.m) t (cH B)})))
 (i:bD.size α=1:=by rfl)(a__:bD.agg α=O:=by rfl)
 (b__:(gN S (dB S T) n cf).map (λq=>(q.k,b9 S.N q.st.g q.az,bk q.st.m d,q.dr,q.d,St.new {q.st with m:=dJ d q.st.m} t))=M (.c,M [.v (.clo fn [] []),.own d,.v (.clo g [] [])],M (cH s),O,M t,U):=by kernel_rfl):Le (((AF s p).bind f).bind e) (bZ S (dB S T) Q cf):=by
 have⟨q,C,c⟩:=fC b__;simp at c;have⟨I,L,c__,W,X,Y⟩:=c;refine rF C ?_ h;rw[I,W,X];intro y u;have⟨B,w,u⟩:=ζg.1 u;cases u;have⟨e1,e2⟩:=ZJ D G F i a__ w;have j:=(D.prm fn _ hp).keep;have Z:=(D.prm fn _ hp).own;rw[vP O _ _ _ _ _ _ fn [.own d,.v (.clo g [] [])] L rfl];have k:e_ S (dB S T) (M t) O (!O||q.now) (gm q.st.m q.fr) fn [.own d,.v (.clo g [] [])] q.st=M (.own t,{q.st with m:=bJ (dJ d q.st.m) t (cH B)}):=by unfold e_;simp[j,Z,hp,Fu,c__,cH,dG];have e3:(vF S.E).go (bD.size α) (rows s.l) [.clo g [] []]=M (rows B.l):=e1;rw[e3];simp[vF,Y];have e4:(if cg s.k=U then bG.sl .part (bD.size α) (rows B.l)else .sl s.k (bD.size α) (rows s.l))=.sl B.k (bD.size α) (rows B.l):=(by rw[e2];cases s<;>rfl);rw[e4]
 rw[k];rfl
end
end
section
variable{H H':bt}{w:V}{o:Nat}{ids:ST}{rows:S'}
theorem vZ.cell(n:vZ H w o ids rows){p j:Nat}{r:So}{u:V}(a:rows[p]?=M r)(c:r[j]?=M u):
 ∃id,ids[p]?=M id/\oh 1 w (p:Int)=M (.hptr o p 0)/\gI H (.load 1 O) [.hptr o p 0]=M (.hsl id 1 0 (W r))/\oh 1 (.hsl id 1 0 (W r)) (j:Int)=M (.hptr id j 0)/\gI H (.load 1 O) [.hptr id j 0]=M u:=by
 have D:=(ζe.1 a).1;have G:=(ζe.1 c).1;have B:rows≠[]:=by intro e;subst e;simp at a
 have C:p<W ids:=by rw[n.len];exact D
 have z:=ζd C;refine⟨ids[p],z,?_,?_,?_,?_⟩
 .have:=n.v;rw[M' B]at this;subst this;simp[oh,D]
 .have b:=n.ob B;have I:=Mr z a;simp[gI,fJ,b,Ob.rows,I,cut];rfl
 .simp[oh,G]
 have b:=n.r p _ r z a;simp[gI,fJ,b,Ob.rows,sU,c,cut];rfl
theorem R3{ids:ST}(h:ids.Nodup){i j:Nat}{a:Nat}(hi:ids[i]?=M a)(B:ids[j]?=M a):i=j:=by have b:=(ζe.1 hi);have u:=(ζe.1 B);have⟨b,e1⟩:=b;have⟨u,e2⟩:=u;exact(List.getElem_inj h).1 (e1.trans e2.symm)
theorem vZ.set(n:vZ H w o ids rows){p j id:Nat}{r:So}{u:V}(a:rows[p]?=M r)(T:j<W r)(B:ids[p]?=M id)(c:V.one u=U)(d:u.cells=[u]):
 ∃H',f_ H (.store 1) [.hptr id j 0,u]=M (.undef,H')/\vZ H' w o ids (rows.set p (r.set j u))/\W H'=W H/\(∀i,i≠id->H'[i]?=H[i]?):=by
 have L:=(ζe.1 a).1;have z:rows≠[]:=by intro e;subst e;simp at a
 have b:=n.r p id r B a;have y:id<W H:=(ζe.1 b).1;have D:(sU r).set j [u]=sU (r.set j u):=by simp[sU,map_set]
 have G:o≠id:=λe=>n.ne z (e▸s? B)
 refine⟨H.set id (.row 1 (sU (r.set j u))),?_,⟨?_,λ_=>?_,by simp[n.len],λi I Q hi C=>?_,n.nd,λ_=>n.ne z⟩,f?,λi hi=>E? (Ne.symm hi)⟩
 .have S:(sU r)[j]?=M [r[j]]:=by simp[sU,T]
  simp only[f_,b,S,d,Y?,c5,x?,q!,c,List.all_nil,Bool.and_self,and_self,N',List.take_zero,w7];rw[<-D];simp
 .rw[n.v];have:rows.set p (r.set j u)≠[]:=by intro e;apply z;simpa using e
  rw[M' z,M' this,List.length_set]
 .rw[E? (Ne.symm G),MN a f?];exact n.ob z
 by_cases e:i=p
 .subst e;rw[B]at hi;cases hi;rw[Q? L]at C;cases C;rw[Q? y]
 rw[E? (Ne.symm e)]at C;have h:id≠I:=λq=>e (R3 n.nd (q▸hi) B)
 rw[E? h];exact n.r i I Q hi C
end
structure vU(H:bt)(w:V)(l:List (List V))(id:Nat):Prop where
 c:∀c∈l,c.length=2/\c.all V.one=true
 v:(w=.bN/\l=[])\/∃off xs,w=.hsl id 2 off l.length/\H[id]?=some (.row 2 xs)/\off+l.length<=xs.length/\(xs.drop off).take l.length=l
section
variable{H H':bt}{w:V}{l:S'}{id:Nat}
theorem vU.heap(n:vU H w l id)(h:∀off n,w=.hsl id 2 off n->H'[id]?=H[id]?):vU H' w l id:=⟨n.c,n.v.imp (λh=>h) λ⟨off,u,e1,e2,e3,e4⟩=>⟨off,u,e1,by rw[h _ _ e1];exact e2,e3,e4⟩⟩
theorem vU.lt(n:vU H w l id){off m:Nat}(h:w=.hsl id 2 off m):id<W H:=by rcases n.v with⟨e,_⟩|⟨_,u,_,e2,_⟩;rw[e]at h;cases h;exact(ζe.1 e2).1
theorem vU.more(n:vU H w l id)(X:bt):vU (H++X) w l id:=n.heap λ_ _ e=>u? (n.lt e)
theorem vU.len(n:vU H w l id):qP w=M (.int _r (W l)):=by rcases n.v with⟨rfl,rfl⟩|⟨off,u,rfl,_⟩<;>rfl
theorem vU.get(n:vU H w l id){i:Nat}{c:So}(a:l[i]?=M c):∃p,oh 2 w (i:Int)=M p/\gI H (.load 2 U) [p]=M (.agg c):=by
 have hi:=(ζe.1 a).1;have u:=(n.c c (s? a)).1;rcases n.v with⟨_,rfl⟩|⟨off,z,rfl,e2,e3,e4⟩;simp at a;refine⟨.hptr id (off+i) 0,by simp[oh,hi],?_⟩;have:z[off+i]?=M c:=by rw[<-e4,J?,L' hi,M?]at a;exact a
 simp[gI,fJ,e2,Ob.rows,this,cut,<-u];rfl
theorem vU.tail{c:So}(n:vU H w (c::l) id):∃w',jW 2 w (M 1) J=M w'/\vU H w' l id/\∃off m B,w=.hsl id 2 off m/\w'=.hsl id 2 B (W l):=by
 rcases n.v with⟨_,e⟩|⟨off,u,rfl,e2,e3,e4⟩;cases e;refine⟨.hsl id 2 (off+1) (W l),?_,⟨λc a=>n.c c (List.mem_cons_of_mem _ a),.inr ⟨off+1,u,Y,e2,by simp at e3;omega,?_⟩⟩,⟨_,_,_,Y,Y⟩⟩;simp[jW,eD];omega;have hd:(u.drop off).drop 1=u.drop (off+1):=by rw[List.drop_drop]
 rw[<-hd];have:=_f (List.drop 1) e4;rw[List.drop_take]at this;simpa using this
theorem vU.push(n:vU H w l id){c:So}(a:W c=2/\c.all V.one=U)(B:W l+1<=2147483648):
 ∃H',f_ (H++[.row 2 [c]]) (.append 2) [w,.hsl (W H) 2 0 1]=M (.hsl (W H+1) 2 0 (W l+1),H')/\vU H' (.hsl (W H+1) 2 0 (W l+1)) (l++[c]) (W H+1)/\W H'=W H+2/\(∀i,i<W H->(∀off m,w=.hsl id 2 off m->i≠id)->H'[i]?=H[i]?):=by
 have e2:dZ (H++[.row 2 [c]]) 2 (.hsl (W H) 2 0 1)=M [c]:=by simp[dZ,Ob.rows]
 have u:∀c'∈l++[c],W c'=2/\c'.all V.one=U:=λc' h=>by rcases mem_append.1 h with h|h;exact n.c c' h;simp at h;subst h;exact a
 rcases n.v with⟨rfl,rfl⟩|⟨off,D,rfl,g2,g3,g4⟩
 .have e1:dZ (H++[.row 2 [c]]) 2 .bN=M []:=rfl;refine⟨H++[.row 2 [c]]++[.row 2 [c]],?_,⟨u,.inr ⟨0,[c],Y,f?,f?,Y⟩⟩,f?,λi hi _=>by rw[d7,u? hi]⟩
  simp only[f_,e1,e2,iU,List.length_nil,Y?,A?];simp
 have z:=(ζe.1 g2).1;have e1:dZ (H++[.row 2 [c]]) 2 (.hsl id 2 off (W l))=M l:=by simp only[dZ,N',u? z,g2,ζb,Ob.rows,g3,g4]
 have C:iU (H++[.row 2 [c]]) (.hsl id 2 off (W l))=M (List.set (H++[Ob.row 2 [c]]) id Ob.dead):=by simp only[iU,u? z,g2]
 refine⟨List.set (H++[Ob.row 2 [c]]) id Ob.dead++[Ob.row 2 (l++[c])],?_,⟨u,.inr ⟨0,l++[c],f?,f?,f?,a! f?⟩⟩,f?,λi hi h=>?_⟩
 .simp only[f_,e1,e2,C,Y?,B,N',A?,ζi]
 rw[u? (by simp;omega),E? (Ne.symm (h _ _ Y)),u? hi]
end
def E6(rs:aY RV):Out×St->aX bG
 |(.exit _,_)=>J|(_,st)=>_o (lz st rs) λl=>match l with
  |[.own d]=>bk st.m d|_=>J
theorem goO{S:Sys}{c:b_}{rs:aY RV}{a:RC}{st:St}{ob:bG}(h:mJ S c (E6 rs) a [] st=M ob):∃o e? d,cV S c a st=M (o,e?)/\(∀id,o≠.exit id)/\lz e? rs=M [.own d]/\bk e?.m d=M ob:=by
 rw[qR]at h;have⟨⟨o,e?⟩,b,u⟩:=ζg.1 h;have z:∀id,o≠.exit id:=by rintro id rfl;simp[E6]at u
 have B:_o (lz e? rs) (λl=>match l with|[.own d]=>bk e?.m d|_=>J)=M ob:=by cases o with|exit id=>exact _e Y (z id)|norm=>exact u|ret=>exact u
 have⟨l,C,w⟩:=ζg.1 B;split at w;exact⟨o,e?,_,b,z,C,w⟩;cases w
def Sl.whole{α:Type}(s:Sl α):aX (Sl α):=match s with|.part _=>J|s=>M s
structure nG(S:Sys)(c:b_){α δ:Type}[bD δ](fn:FuncId)(A:α->List V)(p:α->Option (Sl δ)):Prop where
 k:S.E.keep fn=true
 o:S.E.own fn=true
 h:∀z s,p z=some s->∃e m',c fn ((A z).map .v) []=some ([.own e],m')/\bk m' e=some (cH s)
 sc:∀x:δ,(cells x).all V.scalar=true
theorem nG.mk'{S:Sys}{T:sY}{α δ:Type}[bD δ](rf:RF){fn:Y'}{A:α->So}{p:α->aX (Sl δ)}(h:∀z,Le (_o (p z) λr=>M (cH r)) (bZ S (dB S T) (E6 rf.rs) (.rc rf.body,[],start ((A z).map .v) [])))
 (B:T fn=M rf:=by kernel_rfl)(b:S.E.keep fn=U:=by kernel_rfl)(D:S.E.own fn=U:=by kernel_rfl)(G:∀z,W (A z)<=rf.na:=by intro z;exact Nat.le_of_ble_eq_true (by kernel_rfl))
 (sc:∀x:δ,(cells x).all V.scalar=U:=by intro x;rfl):nG S (dB S T) fn A p where
 k:=b
 o:=D
 sc:=sc
 h z s u:=by have a:=h z (cH s) (by rw[u];rfl);change mJ S (dB S T) (E6 rf.rs) rf.body [] (start ((A z).map .v) [])=M (cH s)at a;have⟨o,e?,d,g1,g2,g3,g4⟩:=goO a;refine⟨d,e?.m,?_,g4⟩;rw[uy B];unfold pM;rw[L' (by simpa using G z),g1];cases o with|exit id=>exact _e Y (g2 id)|norm=>simp only[g3,A?]|ret=>simp only[g3,A?]
section
variable{S:Sys}{c:b_}{β γ δ α:Type}[bD δ]{Q:Out×St->aX β}{e:γ->aX β}{cf:Cf}
theorem Ar(n u:Nat){fn:Y'}{A:α->So}{p:α->aX (Sl δ)}(F:nG S c fn A p)(z:α){f:Sl δ->aX γ}
 (h:∀x,(p z).bind Sl.whole=M x->Le ((f x).bind e) (bZ S c Q (nx S c n cf λq=>{q.st with g:=bJ q.st.g u (.own u),m:=bJ q.st.m u (cH x)})))
 (j:(gN S c n cf).map (λq=>(q.d,q.k,(b9 S.N q.st.g q.az).bind mz,(!q.dr||q.now),q.st.new u))=M (M u,.c,M (fn,(A z).map .v),U,U):=by kernel_rfl):Le ((((p z).bind Sl.whole).bind f).bind e) (bZ S c Q cf):=by
 have⟨q,L,b⟩:=fC j;simp only[ζc]at b;have⟨b__,T,a__,W,I⟩:=b;have⟨C,g1,g2⟩:=ζg.1 a__;refine rF L ?_ h;rw[b__,T];intro y D;have⟨X,G,D⟩:=ζg.1 D;cases D;have⟨s,Y,B⟩:=ζg.1 G;have⟨e0,m',d,Z⟩:=F.h z s Y;rw[vP q.dr _ _ _ _ _ C fn ((A z).map .v) g1 g2];have w:e_ S c (M u) q.dr (!q.dr||q.now) (gm q.st.m q.fr) fn ((A z).map .v) q.st=M (.own u,{q.st with m:=bJ q.st.m u (cH X)}):=by unfold e_;simp only[F.k,F.o,N',W,vl,d,dG,Z,cH,I];cases s with|nil=>cases B;rfl|emp=>cases B;rfl|row l=>cases B;have:mj (rows l)=U:=(by unfold mj;rw[G?];intro x i;obtain⟨a,_,rfl⟩:=mem_map.1 i;exact F.sc a);simp only[Sl.k,Sl.l,dG,V.dm,this,Bool.and_self,I,N'];rfl|part l=>cases B
 rw[w];rfl
end
structure GD where
 m:Nat
 pre:List (Nat×List Gh)
 nd:List (Nat×List Gh×List Gh)
structure GI where
 m:Nat
 i:Nat
 j:Nat
def lkL{α:Type}(l:aY (Nat×aY α))(i:Nat):aY α:=match l with
 |[]=>[]|(k,x)::r=>bif beq k i then x else lkL r i
def Bc(l:aY (Nat×Pi×Pi))(i:Nat):Pi×Pi:=match l with
 |[]=>([],[])|(k,x)::r=>bif beq k i then x else Bc r i
def PJ(m:Nat):ST->ST
 |[]=>[]|x::l=>bif beq (m % 2) 1 then x::PJ (m / 2) l else PJ (m / 2) l
def UK:QR->ST
 |[]=>[]|.s n::r=>n::UK r|_::r=>UK r
def ac1(o:RO):ST:=(match o.dst with|some d=>[d]|none=>[])++(match o.gd with|some g=>[g.1]|none=>[])++UK o.az
def adV(G:GD)(s:GI)(o:RO):RO:={o with dead:=PJ (bif beq (s.m % 16) 15 then s.m / 16 % 65536 else s.m % 16) (ac1 o),pre:=lkL G.pre s.i}
def GI.op(s:GI):GI:=⟨bif beq (s.m % 16) 15 then s.m / 1048576 else s.m / 16,s.i+1,s.j⟩
def CE(G:GD):R0->GI->R0×GI
 |[],s=>([],s)|o::r,s=>(adV G s o::(CE G r s.op).1,(CE G r s.op).2)
def Dd:Pi->RC->RC
 |[],c=>c|g::l,c=>.gh g (Dd l c)
def M7:Pi->RC->RC
 |[],c=>c|g::l,c=>M7 l (.hg c g)
def GI.nd(s:GI):GI:=⟨s.m,s.i,s.j+1⟩
def lC(G:GD):RC->GI->RC×GI
 |.seq a b,s=>(Dd (Bc G.nd s.j).1 (.seq (lC G a s.nd).1 (lC G b (lC G a s.nd).2).1),(lC G b (lC G a s.nd).2).2)|.cond x a b,s=>(Dd (Bc G.nd s.j).1 (.cond x (lC G a s.nd).1 (lC G b (lC G a s.nd).2).1),(lC G b (lC G a s.nd).2).2)|.block id a,s=>(Dd (Bc G.nd s.j).1 (.block id (lC G a s.nd).1),(lC G a s.nd).2)|.loop a,s=>(Dd (Bc G.nd s.j).1 (.loop (M7 (Bc G.nd s.j).2 (lC G a s.nd).1)),(lC G a s.nd).2)|.each g ps a b,s=>(Dd (Bc G.nd s.j).1 (.each g ps (lC G a s.nd).1 (M7 (Bc G.nd s.j).2 (lC G b (lC G a s.nd).2).1)),(lC G b (lC G a s.nd).2).2)|.ops l,s=>(Dd (Bc G.nd s.j).1 (M7 (Bc G.nd s.j).2 (.ops (CE G l s.nd).1)),(CE G l s.nd).2)|.vJ l,s=>(Dd (Bc G.nd s.j).1 (M7 (Bc G.nd s.j).2 (.vJ (CE G l s.nd).1)),(CE G l s.nd).2)|.gh g c,s=>(.gh g c,s)|.hg c g,s=>(.hg c g,s)|c,s=>(Dd (Bc G.nd s.j).1 c,s.nd)
theorem ni(c:RC):∀l,erase (Dd l c)=erase c
 |[]=>rfl|g::l=>by simp only[Dd,erase,ni c l]
theorem xY:∀l(c:RC),erase (M7 l c)=erase c
 |[],c=>rfl|g::l,c=>by simp only[M7,xY l,erase]
theorem Bz(G:GD):∀(l:R0)s,((CE G l s).1).map RO.strip=l.map RO.strip
 |[],s=>rfl|o::r,s=>by simp only[CE,K?,Bz G r];rfl
theorem n5(G:GD):∀(c:RC)s,erase (lC G c s).1=erase c
 |.seq a b,s=>by simp only[lC,ni,erase,n5 G a,n5 G b]|.cond x a b,s=>by simp only[lC,ni,erase,n5 G a,n5 G b]|.block id a,s=>by simp only[lC,ni,erase,n5 G a]|.loop a,s=>by simp only[lC,ni,erase,xY,n5 G a]|.each g ps a b,s=>by simp only[lC,ni,erase,xY,n5 G a,n5 G b]|.ops l,s=>by simp only[lC,ni,xY,erase,Bz]|.vJ l,s=>by simp only[lC,ni,xY,erase,Bz]|.gh g c,s=>rfl|.hg c g,s=>rfl|.skip,s=>by simp only[lC,ni]|.ret,s=>by simp only[lC,ni]|.exit _,s=>by simp only[lC,ni]
theorem Nv{X:CX}{dr:X'}{ops:QP}{i:Nat}{o:Oper}{r:RO}(h:oV X dr ops i o=M r):r.strip=r:=by obtain⟨_,_,_,_,_,_,rfl⟩:=Hr h;rfl
theorem AH{X:CX}{dr:X'}{ops:QP}:∀{l:QP}{i:Nat}{r:R0},nJ X dr ops i l=M r->r.map RO.strip=r
 |[],i,r,h=>by cases h;rfl|o::l,i,r,h=>by simp only[nJ]at h;split at h;(next a b B D=>cases h;simp only[K?,Nv B,AH D]);cases h
theorem NX{X:CX}:∀{c:Code}{ro:X'}{r:RC},bV X ro c=M r->erase r=r:=by intro c;induction c with|region _ ops dr=>intro ro r h;simp only[bV]at h;split at h;split at h;obtain⟨l,d,rfl⟩:=ζf.1 h;simp only[erase,AH d];cases h;obtain⟨l,d,rfl⟩:=ζf.1 h;simp only[erase,AH d]|seq a b u w=>intro ro r h;simp only[bV]at h;split at h;(next d z=>cases h;simp only[erase,u d,w z]);cases h|cond c a b u w=>intro ro r h;simp only[bV]at h;split at h;(next d z=>cases h;simp only[erase,u d,w z]);cases h|block id a u=>intro ro r h;simp only[bV]at h;obtain⟨l,d,rfl⟩:=ζf.1 h;simp only[erase,u d]|loop a u=>intro ro r h;simp only[bV]at h;obtain⟨l,d,rfl⟩:=ζf.1 h;simp only[erase,u d]|rangeFunc g ps a b u w=>intro ro r h;simp only[bV]at h;split at h;cases h;split at h;(next d z=>cases h;simp only[erase,u d,w z]);cases h|_=>intro ro r h;first|cases h;rfl|(simp only[bV]at h;cases h;rfl)|(simp only[bV]at h;cases h)
def Vl(E:Env)(nm:Y'->aX Nat)(G:Y'->aX GD):sY:=λf=>_o (G f) λg=>_o (E.ft f) λu=>_o (bV ⟨E,nm,u.ntmps⟩ O u.body) λc=>_o (u.results.mapM (DT E)) λrs=>M ⟨u.ntmps,rs,(lC g c ⟨g.m,0,0⟩).1⟩
theorem EX{E:Env}{nm:Y'->aX Nat}{G:Y'->aX GD}{f:Y'}{rf:RF}(h:Vl E nm G f=M rf):∃fi,E.ft f=M fi/\Aj E nm fi rf:=by unfold Vl at h;have⟨g,_,h⟩:=ζg.1 h;have⟨fi,a,h⟩:=ζg.1 h;have⟨c,u,h⟩:=ζg.1 h;have⟨rs,w,h⟩:=ζg.1 h;cases h;exact⟨fi,a,by rw[u,n5,NX u],w,Y⟩
theorem AN:∀(g:Y')(s:Nat),M g=M s->(λn=>n) s=g:=λ_ _ h=>(Option.some.inj h).symm
def pI(o:aX RF):RF:=o.getD ⟨0,[],.skip⟩
def tb(T:sY)(f:Y'):RC:=(pI (T f)).body
def tr(T:sY)(f:Y'):aY RV:=(pI (T f)).rs
theorem A7{o:aX RF}(h:o.isSome=U):o=M (pI o):=by cases o with
 |none=>cases h|some r=>rfl
class iy(δ:Type)where
 e:δ->List V
instance aev{α:Type}[bD α]:iy α:=⟨λx=>[enc x]⟩
instance aes:iy Unit:=⟨λ_=>[]⟩
instance aet{α β:Type}[bD α][iy β]:iy (α×β):=⟨λx=>enc x.1::iy.e x.2⟩
@[simp] theorem ad5{α:Type}[bD α](x:α):iy.e x=[enc x]:=rfl
@[simp] theorem ad6(x:Unit):iy.e x=[]:=rfl
@[simp] theorem ad3{α β:Type}[bD α][iy β](x:α×β):iy.e x=enc x.1::iy.e x.2:=rfl
class Fc(S:Sys)(c:b_){δ:Type}(m:Option δ)where
 n:FuncId
 az:List V
 E:δ->List V
 sc:Bool
 F:eZ S c n (λ_:Unit=>az) E (λ_=>m) sc
section
variable{S:Sys}{T:sY}{δ:Type}{m:aX δ}
theorem eZ.UE{E:δ->So}(fn:Y')(az:So)(h:Le (m.bind λr=>M (E r)) (bZ S (dB S T) (oR (tr T fn)) (.rc (tb T fn),[],start (az.map .v) [])))
 (B:(T fn).isSome=U)(a:S.E.keep fn=O)(D:ble (W az) (pI (T fn)).na=U)
 {sc:X'}(s:sc=U->∀r,(result (E r)).scalar=U):eZ S (dB S T) fn (λ_:Unit=>az) E (λ_=>m) sc where
 k:=a
 h z:=adW (A7 B) (Nat.le_of_ble_eq_true D) h
 s:=s
abbrev Fc.NE(E:δ->aY V)(fn:FuncId)(az:aY V)(h:Le (m.bind λr=>M (E r)) (bZ S (dB S T) (oR (tr T fn)) (.rc (tb T fn),[],start (az.map .v) [])))
 (B:(T fn).isSome=U:=by kernel_rfl)(a:S.E.keep fn=O:=by kernel_rfl)(D:ble (W az) (pI (T fn)).na=U:=by kernel_rfl)
 :Fc S (dB S T) m:=
 ⟨fn,az,E,O,eZ.UE fn az h B a D λh=>nomatch h⟩
abbrev Fc.M[iy δ](fn:FuncId)(az:aY V)(h:Le (m.bind λr=>M (iy.e r)) (bZ S (dB S T) (oR (tr T fn)) (.rc (tb T fn),[],start (az.map .v) [])))
 (B:(T fn).isSome=U:=by kernel_rfl)(a:S.E.keep fn=O:=by kernel_rfl)(D:ble (W az) (pI (T fn)).na=U:=by kernel_rfl)
 (s:∀r:δ,(result (iy.e r)).scalar=U:=by intro r;kernel_rfl):Fc S (dB S T) m:=
 ⟨fn,az,iy.e,U,eZ.UE fn az h B a D λ_=>s⟩
abbrev Fc.N[iy δ](fn:FuncId)(az:aY V)(h:Le (m.bind λr=>some (iy.e r)) (bZ S (dB S T) (oR (tr T fn)) (.rc (tb T fn),[],start (az.map .v) [])))
 (B:(T fn).isSome=true:=by kernel_rfl)(a:S.E.keep fn=false:=by kernel_rfl)(D:ble az.length (pI (T fn)).na=true:=by kernel_rfl)
 :Fc S (dB S T) m:=
 ⟨fn,az,iy.e,false,eZ.UE fn az h B a D λh=>nomatch h⟩
end
abbrev Fc.of{S:Sys}{c:b_}{α δ:Type}{p:α->aX δ}{n:FuncId}{A:α->aY V}{E:δ->aY V}{b:Bool}(z:α)(F:eZ S c n A E p b):Fc S c (p z):=⟨n,A z,E,b,⟨F.k,λ_=>F.h z,F.s⟩⟩
theorem eZ.s9{S:Sys}{c:b_}{α δ:Type}{p:α->aX δ}{n:Y'}{A:α->So}{E:δ->So}{b:X'}(F:∀z,Fc S c (p z))(i:α)(B:∀z,(F z).n=n)(G:∀z,(F z).az=A z)(D:∀z,(F z).E=E)(d:∀z,(F z).sc=b):eZ S c n A E p b where
 k:=by rw[<-B i];exact(F i).F.k
 h z:=by rw[<-B z,<-G z,<-D z];exact(F z).F.h ()
 s:=by rw[<-d i,<-D i];exact(F i).F.s
theorem mV.s9{S:Sys}{c:b_}{α δ:Type}{p:α->aX δ}{g:Y'}{w e:So}{A:α->So}{R:δ->So}{b:X'}[i:Inhabited α][F:∀z,Fc S c (p z)](B:∀z,(F z).n=g:=by intro _;kernel_rfl)(D:∀z,(F z).az=w++A z++e:=by intro _;kernel_rfl)
 (G:∀z,(F z).E=R:=by intro _;kernel_rfl)(d:∀z,(F z).sc=b:=by intro _;kernel_rfl):mV S c g w e A R p b:=
 ⟨eZ.s9 F default B D G d⟩
section
variable{S:Sys}{c:b_}{β γ δ α:Type}{Q:Out×St->aX β}{e:γ->aX β}{cf:Cf}
theorem o_(n:Nat){m:aX β}(h:Le m (bZ S c Q (kG S c n cf)))(B:iF S c n cf.1 cf.2.1 cf.2.2=M (kG S c n cf):=by kernel_rfl):Le m (bZ S c Q cf):=Bj B h
theorem bu(n:Nat){m:aX δ}[F:Fc S c m]{f:δ->aX γ}(h:∀x,m=M x->Le ((f x).bind e) (bZ S c Q (nx S c n cf λp=>dA p.st p.d (.v (result (F.E x))))))
 (B:(gN S c n cf).map (λp=>(p.k,(b9 S.N p.st.g p.az).bind mz,(!p.dr||p.now||gm p.st.m p.fr [])))=M (.c,M (F.n,F.az.map .v),U):=by kernel_rfl):Le ((m.bind f).bind e) (bZ S c Q cf):=zW n F.F () h B
theorem ck(n:Nat){m:aX δ}[F:Fc S c m]{f:δ->aX γ}(h:∀x,m=M x->Le ((f x).bind e) (bZ S c Q (nx S c n cf λp=>dA p.st p.d (.v (result (F.E x))))))
 (B:(gN S c n cf).map (λp=>(p.k,((b9 S.N p.st.g p.az).bind mz).bind λq=>(qO (kH p.st.m 8) q.2).map λvs=>(q.1,vs,((!p.dr||p.now)||gm p.st.m p.fr q.2))))=M (.c,M (F.n,F.az,U)):=by kernel_rfl)(D:F.sc=U:=by kernel_rfl):Le ((m.bind f).bind e) (bZ S c Q cf):=
 abY n (u D F.F) () h B
where
 u {b:X'} {fn:Y'} {az:So} {E:δ->So} {m:aX δ} (h:b=U) (F:eZ S c fn (λ_:Unit=>az) E (λ_=>m) b):eZ S c fn (λ_:Unit=>az) E (λ_=>m) U:=h▸F
def XB(cf:Cf):RC:=match cf.1 with|.rc (.loop c)=>c|_=>.skip
def Gc(cf:Cf):Arg×ST×RC×RC:=match cf.1 with|.rc (.each g ps a b)=>(g,ps,a,b)|_=>(.s 0,[],.skip,.skip)
theorem dM{σ ε ρ:Type}{step:σ->aX (Fw σ ε ρ)}(n:Nat)(eσ:σ->St)(eε:ε->Nat×St)(eρ:ρ->St){s:σ}{B:ε->aX γ}{fr:ρ->aX γ}
 (h:∀s,Le ((step s).bind λw=>M (Fw.out eσ eε eρ w)) (bZ S c M (.rc (XB (kG S c n cf)),[],eσ s)))
 (D:∀x,Le ((B x).bind e) (bZ S c Q (.ex (eε x).1,(kG S c n cf).2.1,(eε x).2)))(a:∀b,Le ((fr b).bind e) (Q (.ret,eρ b)))
 (G:iF S c n cf.1 cf.2.1 cf.2.2=M (.rc (.loop (XB (kG S c n cf))),(kG S c n cf).2.1,eσ s):=by kernel_rfl):Le (((bL step s).bind (Fw.elim B fr)).bind e) (bZ S c Q cf):=
 TS G h D a
theorem dO{σ ε:Type}{step:σ->aX (Fw σ ε Empty)}(n:Nat)(eσ:σ->St)(eε:ε->Nat×St){s:σ}{B:ε->aX γ}{fr:Empty->aX γ}
 (h:∀s,Le ((step s).bind λw=>M (Fw.out eσ eε (λe=>Empty.elim e) w)) (bZ S c M (.rc (XB (kG S c n cf)),[],eσ s)))
 (D:∀x,Le ((B x).bind e) (bZ S c Q (.ex (eε x).1,(kG S c n cf).2.1,(eε x).2)))
 (G:iF S c n cf.1 cf.2.1 cf.2.2=M (.rc (.loop (XB (kG S c n cf))),(kG S c n cf).2.1,eσ s):=by kernel_rfl):Le (((bL step s).bind (Fw.elim B fr)).bind e) (bZ S c Q cf):=
 TS G h D λb=>Empty.elim b
theorem D2{σ ε ρ:Type}{f:Y'}{x y:So}{a:aY α}{eI:α->So}{step:α->σ->aX (Fw σ ε ρ)}(n:Nat)(d:Tb SV)(eσ:σ->Tb bG)(eε:ε->Nat×Tb bG)(eρ:ρ->Tb bG){s:σ}{fn:σ->aX γ}{B:ε->aX γ}{fr:ρ->aX γ}
 (hi:S.items f x y=M (a.map eI))
 (h:∀x s,Le ((step x s).bind λw=>M (Fw.zw eσ eε eρ w)) (bZ S c (Bw S c (Gc (kG S c n cf)).2.2.2) (.rc (Gc (kG S c n cf)).2.2.1,[],⟨zN d (Gc (kG S c n cf)).2.1 ((eI x).map .v),eσ s,sN d,[],U,0⟩)))
 (D:∀s,Le ((fn s).bind e) (bZ S c Q (.nx,(kG S c n cf).2.1,bE d (eσ s))))(G:∀x,Le ((B x).bind e) (bZ S c Q (.ex (eε x).1,(kG S c n cf).2.1,bE d (eε x).2)))(g:∀b,Le ((fr b).bind e) (Q (.ret,bE d (eρ b))))
 (j:∀x,(eI x).length=(Gc (kG S c n cf)).2.1.length:=by intro _;kernel_rfl)(i:tO S.N d (Gc (kG S c n cf)).1=M (.v (.clo f x y)):=by kernel_rfl)
 (T:iF S c n cf.1 cf.2.1 cf.2.2=M (.rc (.each (Gc (kG S c n cf)).1 (Gc (kG S c n cf)).2.1 (Gc (kG S c n cf)).2.2.1 (Gc (kG S c n cf)).2.2.2),(kG S c n cf).2.1,bE d (eσ s)):=by kernel_rfl):Le (((mN step a s).bind (Fw.tK fn B fr)).bind e) (bZ S c Q cf):=
 aaH T i hi j h D G g
def abC(n k:Nat)(B:ST)(d:Nat)(S:Sys)(c:b_)(cf:Cf)(v:SV):Cf:=jmp k [] (kG S c n cf) {(kG S c n cf).2.2 with g:=bJ (sj B (kG S c n cf).2.2.g) d v}
theorem bH[bD δ](n k:Nat)(B:ST)(d:Nat){m:aX δ}{f:δ->aX γ}(D:Le (m.bind λr=>bZ S c Q (abC n k B d S c cf (cv r))) (bZ S c Q cf))(a:∀r,Le (_o (f r) e) (bZ S c Q (abC n k B d S c cf (cv r)))):Le (_o (m.bind f) e) (bZ S c Q cf):=Xn _ D a
end
theorem QT{α β:Type}{P:α ⊕ β->Prop}(c:∀a,P (.inl a))(B:∀b,P (.inr b)):∀x,P x
 |.inl a=>c a|.inr b=>B b
instance{n:Nat}:DecidableEq (cn n Int):=λa b=>if h:a.l=b.l then .isTrue (by cases a;cases b;cases h;rfl)else .isFalse λe=>h (by rw[e])
theorem yC:∀l:Rd,jV ((l.map (cells (α:=Int))).flatten)=M l
 |[]=>rfl|a::l=>by show jV (.int _r a::(l.map (cells (α:=Int))).flatten)=_;simp only[jV,yC l,A?]
theorem RI(l:Rd):(l.map (cells (α:=Int))).flatten=l.map (V.int _r):=by induction l with|nil=>rfl|cons a l u=>simp only[K?,List.flatten_cons,u];rfl
instance{n:Nat}:Key (cn n Int)where
 kk:=.ints n
 ok a:=by show(W (a.l.map (cells (α:=Int))).flatten==n&&(jV (a.l.map (cells (α:=Int))).flatten).isSome)=U;rw[yC,RI,O!,a.len];simp
 eq a b:=by show nE (a.l.map (cells (α:=Int))).flatten (b.l.map (cells (α:=Int))).flatten=_;unfold nE;rw[yC,yC];simp only[a.len,b.len,N'];congr 1;rw[Bool.eq_iff_iff,_j,decide_eq_true_iff];exact⟨λh=>by cases a;cases b;cases h;rfl,λh=>by rw[h]⟩
section
variable{S:Sys}{c:b_}{β γ δ α:Type}{Q:Out×St->aX β}{e:γ->aX β}{cf:Cf}
end
section
variable{S:Sys}{c:b_}{β γ δ:Type}{Q:Out×St->aX β}{e:γ->aX β}{cf:Cf}{κ ν:Type}[bD κ][DecidableEq κ][Key κ][bD ν]
structure MpC(κ ν:Type)where
 o:Option (Mo κ ν)
 deriving Inhabited
def mpV(m:MpC κ ν):V:=match m.o with|none=>.iZ|some l=>.fmap (rC l)
theorem Si(m:Mo κ ν):V.vO (rC m)=U:=by induction m with|nil=>rfl|cons x r u=>show V.vO ((enc x.1,enc x.2)::rC r)=U;simp only[V.vO,lZ,u,Bool.and_self]
instance:bD (MpC κ ν)where
 cells m:=[mpV m]
 agg:=O
 size:=1
 len _:=rfl
 good m:=by unfold mpV;split;rfl;simp only[V.c_,V.good,Si,Bool.and_self]
 one m:=by unfold mpV;split<;>rfl
 plain _:=rfl
end
theorem eZ.scalar{S:Sys}{c:b_}{α δ:Type}{fn:Y'}{A:α->So}{E:δ->So}{p:α->aX δ}{b:X'}(F:eZ S c fn A E p b)(h:∀r,(result (E r)).scalar=U):eZ S c fn A E p U:=⟨F.k,F.h,λ_=>h⟩
section
variable{S:Sys}{c:b_}{β γ δ α:Type}[bD α]{Q:Out×St->aX β}{e:γ->aX β}{cf:Cf}
theorem Xu{ω:Type}[bD ω](n u:Nat){N:Nat}(a:cn N α)(i:Int)(o:Nat)(x:α)(D:a.at i=M x)(y:α)(w:ω)(G:cells y=(cells x).take o++cells w++(cells x).drop (o+bD.size ω)){m:aX β}(h:Le m (bZ S c Q (nx S c n cf λp=>dA {p.st with m:=bJ p.st.m u (bx (a.set i y))} p.d (.v .undef))))
 (j:(gN S c n cf).map (λp=>(p.k,b9 S.N p.st.g p.az,bk p.st.m u,(!p.dr||p.now),ble (o+bD.size ω) (bD.size α)))=M (.l (.store (bD.size ω)),M [.ptr u (i.toNat*bD.size α+o),cv w],M (bx a),U,U):=by kernel_rfl):Le m (bZ S c Q cf):=by
 have⟨p,B,z⟩:=fC j;simp only[ζc]at z;have⟨b,C⟩:=mh B;have⟨dr,fr,d,gd,now,q,az,dd,l,fs,st⟩:=p;obtain⟨rfl,I,L,a__,T⟩:=z;exact acs n dr fr (⟨d,gd,now,.l (.store (bD.size ω)),az,dd,[]⟩::l) fs st u a i o x D y (enc w) (by rw[qW];exact G) Y (by(try dsimp only at *);simp only[b,C,I,L,a__,T,qW,jv,wP]) (by
  simp only[nx,B]at h;exact h)
end
def Ky(rs:aY RV):Out×St->aX (bG×So)
 |(.exit _,_)=>J|(_,st)=>_o (lz st rs) λl=>match l with
  |.own d::r=>_o (bk st.m d) λob=>(dG r).map λys=>(ob,ys)|_=>J
theorem AP:∀{l:SW}{ys:So},dG l=M ys->l=ys.map .v
 |[],ys,h=>by cases h;rfl|.v x::r,ys,h=>by simp only[dG]at h;obtain⟨B,a,rfl⟩:=ζf.1 h;rw[AP a];rfl|.own _::_,_,h|.ptr ..::_,_,h|.el ..::_,_,h|.mp _::_,_,h|.clo ..::_,_,h|.tup _::_,_,h|.agg _::_,_,h|.yl _::_,_,h=>by cases h
theorem adT{S:Sys}{c:b_}{rs:aY RV}{a:RC}{st:St}{ob:bG}{ys:So}(h:mJ S c (Ky rs) a [] st=M (ob,ys)):∃o e? d,cV S c a st=M (o,e?)/\(∀id,o≠.exit id)/\lz e? rs=M (.own d::ys.map .v)/\bk e?.m d=M ob:=by
 rw[qR]at h;have⟨⟨o,e?⟩,b,u⟩:=ζg.1 h;have z:∀id,o≠.exit id:=by rintro id rfl;simp[Ky]at u
 have B:_o (lz e? rs) (λl=>match l with|.own d::r=>_o (bk e?.m d) λob=>(dG r).map λys=>(ob,ys)|_=>J)=M (ob,ys):=by cases o with|exit id=>exact _e Y (z id)|norm=>exact u|ret=>exact u
 have⟨l,C,w⟩:=ζg.1 B;split at w;have⟨D,G,I⟩:=ζg.1 w;have⟨q,j,L⟩:=ζf.1 I;cases L;exact⟨o,e?,_,b,z,by rw[C,AP j],G⟩;cases w
structure SX(S:Sys)(c:b_){δ ε:Type}[bD δ][iy ε](m:Option (Sl δ×ε))where
 n:FuncId
 az:List V
 k:S.E.keep n=true
 o:S.E.own n=true
 h:∀s r,m=some (s,r)->∃e m',c n (az.map .v) []=some (.own e::(iy.e r).map .v,m')/\bk m' e=some (cH s)
 sc:∀x:δ,(cells x).all V.scalar=true
 sr:∀r:ε,V.dm (iy.e r)=true
abbrev SX.mk'{S:Sys}{T:sY}{δ ε:Type}[bD δ][iy ε]{m:aX (Sl δ×ε)}(fn:FuncId)(az:aY V)(h:Le (m.bind λr=>M (cH r.1,iy.e r.2)) (bZ S (dB S T) (Ky (tr T fn)) (.rc (tb T fn),[],start (az.map .v) [])))
 (B:(T fn).isSome=U:=by kernel_rfl)(b:S.E.keep fn=U:=by kernel_rfl)(D:S.E.own fn=U:=by kernel_rfl)(G:ble (W az) (pI (T fn)).na=U:=by kernel_rfl)
 (sc:∀x:δ,(cells x).all V.scalar=U:=by intro x;rfl)(sr:∀r:ε,V.dm (iy.e r)=U:=by intro r;rfl):SX S (dB S T) m where
 n:=fn
 az:=az
 k:=b
 o:=D
 sc:=sc
 sr:=sr
 h s r w:=by have u:=A7 B;have a:=h (cH s,iy.e r) (by rw[w];rfl);change mJ S (dB S T) (Ky (pI (T fn)).rs) (pI (T fn)).body [] (start (az.map .v) [])=M (cH s,iy.e r)at a;have⟨o,e?,d,g1,g2,g3,g4⟩:=adT a;refine⟨d,e?.m,?_,g4⟩;rw[uy u];unfold pM;rw[L' (by simpa using Nat.le_of_ble_eq_true G),g1];cases o with|exit id=>exact _e Y (g2 id)|norm=>simp only[g3,A?]|ret=>simp only[g3,A?]
def zy{δ ε:Type}(p:Sl δ×ε):aX (Sl δ×ε):=p.1.whole.map λs=>(s,p.2)
theorem acL{S:Sys}{c:b_}{β γ δ ε:Type}[bD δ][iy ε]{Q:Out×St->aX β}{e:γ->aX β}{cf:Cf}{m:aX (Sl δ×ε)}(F:SX S c m)(n u:Nat){f:Sl δ×ε->aX γ}
 (h:∀x,m.bind zy=M x->Le ((f x).bind e) (bZ S c Q (nx S c n cf λq=>{q.st with g:=bJ q.st.g u (zX (.own u::(iy.e x.2).map .v)),m:=bJ q.st.m u (cH x.1)})))
 (a__:(gN S c n cf).map (λq=>(q.d,q.k,(b9 S.N q.st.g q.az).bind mz,(!q.dr||q.now),q.st.new u))=M (M u,.c,M (F.n,F.az.map .v),U,U):=by kernel_rfl):Le (((m.bind zy).bind f).bind e) (bZ S c Q cf):=by
 have⟨q,L,b⟩:=fC a__;simp only[ζc]at b;have⟨c__,T,b__,W,B⟩:=b;have⟨C,g1,g2⟩:=ζg.1 b__;refine rF L ?_ h;rw[c__,T];intro y D;have⟨⟨X,r⟩,G,D⟩:=ζg.1 D;cases D;have⟨⟨s,I⟩,Y,w⟩:=ζg.1 G;unfold zy at w;have⟨k,w,Z⟩:=ζf.1 w;cases Z;have⟨e0,m',d,i⟩:=F.h s I Y;rw[vP q.dr _ _ _ _ _ C F.n (F.az.map .v) g1 g2];have z:e_ S c (M u) q.dr (!q.dr||q.now) (gm q.st.m q.fr) F.n (F.az.map .v) q.st=M (zX (.own u::(iy.e I).map .v),{q.st with m:=bJ q.st.m u (cH X)}):=by unfold e_;simp only[F.k,F.o,N',W,vl,d,dG,l8,i,cH,B];cases s with|nil=>cases w;simp only[Sl.k,F.sr,B,Bool.and_self,N'];rfl|emp=>cases w;simp only[Sl.k,F.sr,B,Bool.and_self,N'];rfl|row l=>cases w;have:mj (rows l)=U:=(by unfold mj;rw[G?];intro x j;obtain⟨a,_,rfl⟩:=mem_map.1 j;exact F.sc a);simp only[Sl.k,Sl.l,F.sr,this,Bool.and_self,B,N']|part l=>cases w
 rw[z];rfl
section
variable{S:Sys}{c:b_}{β γ δ α:Type}{Q:Out×St->aX β}{e:γ->aX β}{cf:Cf}
theorem abK[bD α]{N:Nat->Y'}{m:Tb bG}{i:Int}{z:α}(B:(cells z).all V.scalar=U):lP N m (.makeC (bD.size α) (cells z)) [.v (.int _r i),.v (.int _r i)]=_o (jQ i z) λs=>M (cv s):=by show(if i64=_r/\i64=_r/\0<=i/\i=i/\i<=2147483648/\(cells z).all V.scalar=U then M (V.fsl (bD.size α) (replicate i.toNat (cells z)))else J).map SV.v=_;unfold jQ;by_cases h:0<=i/\i<=2147483648;rw[L' h,L' ⟨Y,Y,h.1,Y,h.2,B⟩];show M (SV.v (.fsl _ (replicate _ (cells z))))=M (SV.v (.fsl _ (rows (replicate i.toNat z))));simp[rows];rw[M' h,M' λk=>h ⟨k.2.2.1,k.2.2.2.2.1⟩];rfl
theorem adR[bD α](n:Nat){i:Int}{z:α}{f:Sl α->aX γ}(h:∀B,jQ i z=M B->Le ((f B).bind e) (bZ S c Q (nx S c n cf λp=>dA p.st p.d (cv B))))
 (D:(gN S c n cf).map (λp=>(p.k,b9 S.N p.st.g p.az))=M (.p (.makeC (bD.size α) (cells z)),M [.v (.int _r i),.v (.int _r i)]):=by kernel_rfl)(G:(cells z).all V.scalar=U:=by rfl):Le (((jQ i z).bind f).bind e) (bZ S c Q cf):=by
 have⟨p,u,a⟩:=fC D;simp only[ζc]at a;refine rF u ?_ h;rw[a.1];exact Le.of_eq (OL a.2 rfl (abK G))
end
def Fy(rs:aY RV)(B:ST):Out×St->aX (So×dN)
 |(.exit _,_)=>J|(_,st)=>_o (lz st rs) λl=>_o (dG l) λys=>(mb st.m B).map λos=>(ys,os)
theorem goK{S:Sys}{c:b_}{rs:aY RV}{B:ST}{a:RC}{st:St}{os:dN}{ys:So}(h:mJ S c (Fy rs B) a [] st=M (ys,os)):∃o e?,cV S c a st=M (o,e?)/\(∀id,o≠.exit id)/\lz e? rs=M (ys.map .v)/\mb e?.m B=M os:=by
 rw[qR]at h;have⟨⟨o,e?⟩,b,u⟩:=ζg.1 h;have w:∀id,o≠.exit id:=by rintro id rfl;simp[Fy]at u
 have z:_o (lz e? rs) (λl=>_o (dG l) λys=>(mb e?.m B).map λos=>(ys,os))=M (ys,os):=by cases o with|exit id=>exact _e Y (w id)|norm=>exact u|ret=>exact u
 have⟨l,C,D⟩:=ζg.1 z;have⟨j,G,I⟩:=ζg.1 D;have⟨q,d,L⟩:=ζf.1 I;cases L;exact⟨o,e?,b,w,by rw[C,AP G],d⟩
def oZ:Tb bG->dN->Tb bG
 |m,[]=>m|m,(d,ob)::r=>oZ (bJ m d ob) r
theorem Lc{m':dN}{D:ST}:∀{B:ST}{os m:dN},mb m' B=M os->(os.all λx=>within D x.2)=U->Ae D m' B m=M (oZ m os)
 |[],os,m,h,_=>by cases h;rfl|k::B,os,m,h,hp=>by simp only[mb]at h;split at h;(next v t a G=>cases h;simp only[q!,ζh]at hp;simp only[Ae,a,hp.1,N',oZ];exact Lc G hp.2);cases h
theorem back_eq{m':dN}{B:ST}{os m:dN}(h:mb m' B=M os)(hp:(os.all λx=>within B x.2)=U):lB m' B m=M (oZ m os):=Lc h hp
structure ql(S:Sys)(c:b_){δ:Type}(m:Option δ)where
 n:FuncId
 az:List SV
 os:dN
 E:δ->List V
 M:δ->dN
 k:S.E.keep n=true
 o:S.E.own n=false
 q:(S.prm n).isNone=true
 h:∀r,m=some r->∃m',c n az os=some ((E r).map .v,m')/\∀m0,lB m' (os.map (·.1)) m0=some (oZ m0 (M r))
abbrev ql.mk'{S:Sys}{T:sY}{δ:Type}{m:aX δ}(fn:FuncId)(az:aY SV)(os:dN)(E:δ->aY V)(M:δ->dN)(h:Le (m.bind λr=>_k (E r,M r)) (bZ S (dB S T) (Fy (tr T fn) (os.map (·.1))) (.rc (tb T fn),[],start az os)))
 (B:(T fn).isSome=U:=by kernel_rfl)(b:S.E.keep fn=U:=by kernel_rfl)(D:S.E.own fn=O:=by kernel_rfl)(G:(S.prm fn).isNone=U:=by kernel_rfl)(d:ble (W az) (pI (T fn)).na=U:=by kernel_rfl)
 (hp:∀r,((M r).all λx=>within (os.map (·.1)) x.2)=U:=by intro r;kernel_rfl):ql S (dB S T) m where
 n:=fn
 az:=az
 os:=os
 E:=E
 M:=M
 k:=b
 o:=D
 q:=G
 h r hr:=by have u:=A7 B;have a:=h (E r,M r) (by rw[hr];rfl);change mJ S (dB S T) (Fy (pI (T fn)).rs (os.map (·.1))) (pI (T fn)).body [] (start az os)=_k (E r,M r)at a;have⟨o,e?,g1,g2,g3,g4⟩:=goK a;refine⟨e?.m,?_,λw=>back_eq g4 (hp r)⟩;rw[uy u];unfold pM;rw[L' (Nat.le_of_ble_eq_true d),g1];cases o with|exit id=>exact _e Y (g2 id)|norm=>simp only[g3,A?]|ret=>simp only[g3,A?]
section
variable{S:Sys}{c:b_}{β γ δ:Type}{Q:Out×St->aX β}{e:γ->aX β}{cf:Cf}
theorem zq(n:Nat){m:aX δ}(F:ql S c m){f:δ->aX γ}(h:∀x,m=M x->Le ((f x).bind e) (bZ S c Q (nx S c n cf λp=>dA {p.st with m:=oZ p.st.m (F.M x)} p.d (.v (result (F.E x))))))
 (B:(gN S c n cf).map (λp=>(p.k,((b9 S.N p.st.g p.az).bind mz).bind λq=>(handed p.st.m q.2).map λos=>(q.1,q.2,os),p.dr))=M (.c,M (F.n,F.az,F.os),O):=by kernel_rfl):Le ((m.bind f).bind e) (bZ S c Q cf):=by
 have⟨p,z,a⟩:=fC B;simp only[ζc]at a;have⟨C,D,G⟩:=a;have⟨q,g1,g2⟩:=ζg.1 D;have⟨u,g3,g4⟩:=ζg.1 g1;have⟨os,g5,g6⟩:=ζf.1 g2;simp only[ζc]at g6;obtain⟨e1,e2,rfl⟩:=g6;refine rF z ?_ h;rw[C,G,vP _ _ _ _ _ _ u q.1 q.2 g3 g4];intro y w;have⟨r,b,w⟩:=ζg.1 w;cases w;have⟨m',k1,k2⟩:=F.h r b;have I:S.prm F.n=J:=by have:=F.q;cases d:S.prm F.n with|none=>rfl|some _=>rw[d]at this;cases this
 have:e_ S c p.d O (!O||p.now) (gm p.st.m p.fr) q.1 q.2 p.st=M (.v (result (F.E r)),{p.st with m:=oZ p.st.m (F.M r)}):=by unfold e_;rw[e1,e2]at *;simp only[F.k,F.o,I,g5,k1,l8,k2,N',Bool.not_false,Bool.true_or,Bool.false_and,v?,_a]
 rw[this];rfl
instance:Key U' where
 kk:=.str
 ok _:=rfl
 eq a b:=by show M (a==b)=M (_s (a=b));rw[show(a==b)=_s (a=b)from Bool.eq_iff_iff.2 (by cases a;cases b;rename_i x y;show(x==y)=U↔_;simp)]
def Rn(s:Sl U8):U':=tP (s.l.map U8.v)
theorem Mf:∀l:aY U8,nY (rows l)=M (l.map U8.v)
 |[]=>rfl|a::l=>by show(nY (rows l)).map (a.v::·)=_;rw[Mf l];rfl
theorem acM(n u:Nat)(s:Sl U8){m:aX β}(h:Le m (bZ S c Q (nx S c n cf λp=>dA p.st p.d (.v (.str (Rn s))))))
 (B:(gN S c n cf).map (λp=>(p.k,b9 S.N p.st.g p.az,bk p.st.m u,p.dr))=M (.b,M [.own u],M (cH s),O):=by kernel_rfl):Le m (bZ S c Q cf):=by
 have⟨p,z,a⟩:=fC B;simp only[ζc]at a;have⟨C,D,G,I⟩:=a;refine yw z ?_ h;rw[C,I];have d:_o (jP p.st.m 1 (.own u)) (λL=>(nY L).map λl=>((SV.v (.str (tP l)),p.st):SV×St))=M (.v (.str (Rn s)),p.st):=by have j:nY (rows s.l)=M (s.l.map U8.v):=Mf _;have w:jP p.st.m 1 (.own u)=M (rows s.l):=(by unfold jP;simp only[G];cases s<;>rfl);rw[w];show((nY (rows s.l)).map λl=>_)=_;rw[j];rfl
 unfold gT ox;have T:ij S.N p.st.g ⟨p.d,J,p.now,.b,p.az,[],[]⟩=J:=rfl;simp only[wanted,T,D,v?,_a,d];rfl
end
def P6(rs:aY RV)(B:ST):Out×St->aX (bG×So×dN)
 |(.exit _,_)=>J|(_,st)=>_o (lz st rs) λl=>match l with
  |.own d::r=>if B.contains d then J else(bk st.m d).bind λob=>_o (dG r) λys=>(mb st.m B).map λos=>(ob,ys,os)|_=>J
theorem goR{S:Sys}{c:b_}{rs:aY RV}{B:ST}{a:RC}{st:St}{ob:bG}{ys:So}{os:dN}(h:mJ S c (P6 rs B) a [] st=M (ob,ys,os)):
 ∃o e? d,cV S c a st=M (o,e?)/\(∀id,o≠.exit id)/\lz e? rs=M (.own d::ys.map .v)/\B.contains d=O/\bk e?.m d=M ob/\mb e?.m B=M os:=by
 rw[qR]at h;have⟨⟨o,e?⟩,b,w⟩:=ζg.1 h;have D:∀id,o≠.exit id:=by rintro id rfl;simp[P6]at w
 have G:_o (lz e? rs) (λl=>match l with|.own d::r=>if B.contains d then J else(bk e?.m d).bind λob=>_o (dG r) λys=>(mb e?.m B).map λos=>(ob,ys,os)|_=>J)=M (ob,ys,os):=by cases o with|exit id=>exact _e Y (D id)|norm=>exact w|ret=>exact w
 have⟨l,I,u⟩:=ζg.1 G;split at u
 .split at u
  .cases u
  rename_i e;have⟨j,L,a__⟩:=ζg.1 u;have⟨y,Q,T⟩:=ζg.1 a__;have⟨q,z,C⟩:=ζf.1 T;cases C;exact⟨o,e?,_,b,D,by rw[I,AP Q],by simpa using e,L,z⟩
 cases u
structure FcR(S:Sys)(c:b_){δ ε:Type}[bD δ][iy ε](m:Option (Sl δ×ε))where
 n:FuncId
 az:List SV
 os:dN
 M:Sl δ×ε->dN
 k:S.E.keep n=true
 o:S.E.own n=false
 q:(S.prm n).isNone=true
 h:∀r,m=some r->∃e m',c n az os=some (.own e::(iy.e r.2).map .v,m')/\bk m' e=some (cH r.1)/\(os.map (·.1)).contains e=false/\∀m0,lB m' (os.map (·.1)) m0=some (oZ m0 (M r))
abbrev FcR.mk'{S:Sys}{T:sY}{δ ε:Type}[bD δ][iy ε]{m:aX (Sl δ×ε)}(fn:FuncId)(az:aY SV)(os:dN)(M:Sl δ×ε->dN)
 (h:Le (m.bind λr=>_k (cH r.1,iy.e r.2,M r)) (bZ S (dB S T) (P6 (tr T fn) (os.map (·.1))) (.rc (tb T fn),[],start az os)))
 (B:(T fn).isSome=U:=by kernel_rfl)(b:S.E.keep fn=U:=by kernel_rfl)(D:S.E.own fn=O:=by kernel_rfl)(G:(S.prm fn).isNone=U:=by kernel_rfl)(j:ble (W az) (pI (T fn)).na=U:=by kernel_rfl)
 (hp:∀r,((M r).all λx=>within (os.map (·.1)) x.2)=U:=by intro r;kernel_rfl):FcR S (dB S T) m where
 n:=fn
 az:=az
 os:=os
 M:=M
 k:=b
 o:=D
 q:=G
 h r hr:=by have u:=A7 B;have a:=h (cH r.1,iy.e r.2,M r) (by rw[hr];rfl);change mJ S (dB S T) (P6 (pI (T fn)).rs (os.map (·.1))) (pI (T fn)).body [] (start az os)=_k (cH r.1,iy.e r.2,M r)at a;have⟨o,e?,d,g1,g2,g3,g4,g5,g6⟩:=goR a;refine⟨d,e?.m,?_,g5,g4,λw=>back_eq g6 (hp r)⟩;rw[uy u];unfold pM;rw[L' (Nat.le_of_ble_eq_true j),g1];cases o with|exit id=>exact _e Y (g2 id)|norm=>simp only[g3,A?]|ret=>simp only[g3,A?]
section
variable{S:Sys}{c:b_}{β γ:Type}{Q:Out×St->aX β}{e:γ->aX β}{cf:Cf}
end
structure abB(S:Sys)(c:b_){α δ:Type}[bD δ](fn:FuncId)(A:α->List V)(p:α->Option (Sl δ)):Prop where
 k:S.E.keep fn=true
 o:S.E.own fn=false
 q:(S.prm fn).isNone=true
 h:∀z s,p z=some s->∃e m',c fn ((A z).map .v) []=some ([.own e],m')/\bk m' e=some (cH s)
theorem abB.mk'{S:Sys}{T:sY}{α δ:Type}[bD δ](rf:RF){fn:Y'}{A:α->So}{p:α->aX (Sl δ)}(h:∀z,Le (_o (p z) λr=>M (cH r)) (bZ S (dB S T) (E6 rf.rs) (.rc rf.body,[],start ((A z).map .v) [])))
 (B:T fn=M rf:=by kernel_rfl)(b:S.E.keep fn=U:=by kernel_rfl)(D:S.E.own fn=O:=by kernel_rfl)(G:(S.prm fn).isNone=U:=by kernel_rfl)(j:∀z,W (A z)<=rf.na:=by intro z;exact Nat.le_of_ble_eq_true (by kernel_rfl)):abB S (dB S T) fn A p where
 k:=b
 o:=D
 q:=G
 h z s u:=by have a:=h z (cH s) (by rw[u];rfl);change mJ S (dB S T) (E6 rf.rs) rf.body [] (start ((A z).map .v) [])=M (cH s)at a;have⟨o,e?,d,g1,g2,g3,g4⟩:=goO a;refine⟨d,e?.m,?_,g4⟩;rw[uy B];unfold pM;rw[L' (by simpa using j z),g1];cases o with|exit id=>exact _e Y (g2 id)|norm=>simp only[g3,A?]|ret=>simp only[g3,A?]
theorem K9:∀l:So,SV.uw (l.map .v)=[]
 |[]=>rfl|a::l=>by simp only[K?,SV.uw,SV.Dn,K9 l,a7]
theorem FU{m:Tb bG}(l:So):handed m (l.map .v)=M []:=by unfold handed;rw[K9];rfl
section
variable{S:Sys}{c:b_}{β γ δ α:Type}[bD δ]{Q:Out×St->aX β}{e:γ->aX β}{cf:Cf}
end
def Wt(s:Nat)(v:SV)(cf:Cf):Cf:=(cf.1,cf.2.1,{cf.2.2 with g:=bJ cf.2.2.g s v})
section
variable{S:Sys}{c:b_}{β γ δ:Type}{Q:Out×St->aX β}{e:γ->aX β}{cf:Cf}
theorem dK(n s:Nat){v B:V}(a:v=B){m:aX β}(h:Le m (bZ S c Q (Wt s (.v B) (kG S c n cf))))
 (D:(iF S c n cf.1 cf.2.1 cf.2.2).map (λp=>bk p.2.2.g s)=M (M (.v v)):=by kernel_rfl):Le m (bZ S c Q cf):=by
 subst a;have⟨p,u,a⟩:=fC D;have b:kG S c n cf=p:=by unfold kG;grind
 rw[b]at h;refine Bj u ?_;have:Wt s (.v v) p=p:=by unfold Wt;rw[sG a]
 rw[this]at h;exact h
end
def cI{α δ:Type}(b:(α->aX δ)->α->aX δ):Nat->α->aX δ
 |0,_=>J|n+1,z=>b (cI b n) z
theorem eZ.fix{S:Sys}{c:b_}{α δ:Type}{fn:Y'}{A:α->So}{E:δ->So}{sc:X'}{b:(α->aX δ)->α->aX δ}(a:S.E.keep fn=O)(B:sc=U->∀r,(result (E r)).scalar=U)
 (h:∀r,eZ S c fn A E r sc->∀z,Le (_o (b r z) λr=>M (E r)) (iB c fn (A z))):∀n,eZ S c fn A E (cI b n) sc
 |0=>⟨a,λ_=>Le.none _,B⟩|n+1=>⟨a,h _ (eZ.fix a B h n),B⟩
structure zc(S:Sys)(c:b_){α δ:Type}(fn:FuncId)(A:α->List SV)(O:α->dN)(E:δ->List V)(M:α->δ->dN)(p:α->Option δ):Prop where
 k:S.E.keep fn=true
 o:S.E.own fn=false
 q:(S.prm fn).isNone=true
 h:∀z r,p z=some r->∃m',c fn (A z) (O z)=some ((E r).map .v,m')/\∀m0,lB m' ((O z).map (·.1)) m0=some (oZ m0 (M z r))
abbrev ql.of{S:Sys}{c:b_}{α δ:Type}{fn:FuncId}{A:α->aY SV}{O:α->dN}{E:δ->aY V}{M:α->δ->dN}{p:α->aX δ}(z:α)(F:zc S c fn A O E M p):ql S c (p z):=⟨fn,A z,O z,E,M z,F.k,F.o,F.q,F.h z⟩
theorem zc.fix{S:Sys}{c:b_}{α δ:Type}{fn:Y'}{A:α->SW}{O:α->dN}{E:δ->So}{M:α->δ->dN}{b:(α->aX δ)->α->aX δ}(k:S.E.keep fn=U)(o:S.E.own fn=_p)(q:(S.prm fn).isNone=U)
 (h:∀r,zc S c fn A O E M r->∀z B,b r z=_k B->∃m',c fn (A z) (O z)=_k ((E B).map .v,m')/\∀D,lB m' ((O z).map (·.1)) D=_k (oZ D (M z B))):∀n,zc S c fn A O E M (cI b n)
 |0=>⟨k,o,q,λ_ _ h=>by cases h⟩|n+1=>⟨k,o,q,h _ (zc.fix k o q h n)⟩
structure A2(S:Sys)(c:b_){α σ:Type}[bD α](cl:SV)(g:FuncId)(e:List SV)(os:σ->dN)(p:α->σ->Option (Bool×σ)):Prop where
 cs:∀vs,mz (cl::vs)=some (g,vs++e)
 hd:∀(s:σ)(a:V),handed (os s) [.v a,cl]=some (os s)
 tk:∀s s',mb (os s') ((os s).map (·.1))=some (os s')
 wi:∀s s',((os s').all λx=>within ((os s).map (·.1)) x.2)=true
 put:∀s s',oZ (os s) (os s')=os s'
 h:∀x s r,p x s=some r->∀(dst:Option Nat)(old:List SV->Bool)(st:St),st.m=os s->e_ S c dst false true old g (.v (enc x)::e) st=some (.v (.bool r.1),{st with m:=os r.2})
section
variable{S:Sys}{c:b_}{α σ:Type}[bD α]{g:Y'}
theorem A2.ofP{e:So}{p:α->aX X'}(F:mV S c g [] e (λz:α=>[enc z]) (λr:X'=>[.bool r]) p U):A2 S c (.v (.clo g [] e)) g (e.map .v) (λ_:Unit=>[]) (λx u=>(p x).map λb=>(b,u))where
 cs vs:=rfl
 hd s a:=FU [a,.clo g [] e]
 tk _ _:=rfl
 wi _ _:=rfl
 put _ _:=rfl
 h x s r hr dst old st w:=by obtain⟨b,C,rfl⟩:=ζf.1 hr;have B:iB c g (enc x::e)=M [.bool b]:=F.f.h x [.bool b] (by rw[C];rfl);have e1:{st with m:=([]:dN)}=st:=(by cases st;simp only at w;subst w;rfl);rw[e1];unfold iB at B;have⟨⟨rs,m'⟩,d,D⟩:=ζg.1 B;have f:=F.f.k;unfold e_;have G:dH st.m 8 (.v (enc x)::e.map .v)=M (enc x::e):=vl 8 (enc x::e);simp only[f,G,d,D,v?,_a,Bool.true_or,N',result,V.scalar]
theorem A2.ofK{e:SW}{os:σ->dN}{p:α->σ->aX (X'×σ)}[Inhabited α][Inhabited σ](F:∀x s,ql S c (p x s))(G:∀x s,(F x s).n=g:=by intro _ _;kernel_rfl)(j:∀x s,(F x s).az=.v (enc x)::e:=by intro _ _;kernel_rfl)(D:∀x s,(F x s).os=os s:=by intro _ _;kernel_rfl)
 (T:∀x s,(F x s).E=λr=>[.bool r.1]:=by intro _ _;kernel_rfl)(d:∀x s,(F x s).M=λr=>os r.2:=by intro _ _;kernel_rfl)
 (hd:∀s:σ,mb (os s) (reach (os s) 32 (SV.uw e) [])=M (os s):=by intro _;kernel_rfl)
 (tk:∀s B,mb (os B) ((os s).map (·.1))=M (os B):=by intro _ _;kernel_rfl)(wi:∀s B,((os B).all λx=>within ((os s).map (·.1)) x.2)=U:=by intro _ _;kernel_rfl)(put:∀s B,oZ (os s) (os B)=os B:=by intro _ _;kernel_rfl):A2 S c (.clo g [] e) g e os p where
 cs vs:=rfl
 hd s a:=by have:SV.uw [.v a,.clo g [] e]=SV.uw e:=(by simp[SV.uw,SV.Dn]);unfold handed;rw[this];exact hd s
 tk:=tk
 wi:=wi
 put:=put
 h x s r hr dst old st u:=by have⟨m',k1,k2⟩:=(F x s).h r hr;have b:=(F x s).k;have w:=(F x s).o;have z:S.prm (F x s).n=J:=(by have:=(F x s).q;cases I:S.prm (F x s).n with|none=>rfl|some _=>rw[I]at this;cases this);rw[G]at b w z k1;rw[j,D,T]at k1;rw[D,d]at k2;have C:handed st.m (.v (enc x)::e)=M (os s):=(by rw[u];exact hd s);have k2:=k2 (os s);rw[put]at k2;rw[<-u]at k2;unfold e_;rw[u]at C k2⊢;simp only[b,w,z,C,k1,k2,l8,K?,X!,dG,A?,N',Bool.false_and,v?,_a,result]
end
def HB{α σ:Type}(s0:Sl α)(p:α->σ->aX (X'×σ))(q:Int×σ):aX (Fw (Int×σ) σ (Int×σ)):=bh (_s (q.1<len s0)) (_o (idx s0 q.1) λx=>_o (p x q.2) λy=>bh y.1 (M (.r (q.1,y.2))) (M (.n (w? _r (q.1+1),y.2)))) (M (.x q.2))
def Vq{α σ:Type}(s0:Sl α)(p:α->σ->aX (X'×σ))(x:σ):aX (Int×σ):=_o (bL (HB s0 p) (0,x)) (Fw.elim (λe=>M (-1,e)) λe=>M e)
def CF{α σ:Type}(s0:Sl α)(p:α->σ->aX (X'×σ))(x:σ):aX (X'×σ):=_o (Vq s0 p x) λy=>M (_s (y.1>=0),y.2)
section
variable{S:Sys}{c:b_}{α σ β γ:Type}[bD α]{g:Y'}{Q:Out×St->aX β}{e:γ->aX β}{cf:Cf}
theorem TI(n:Nat){a:SV}{ex:SW}{os:σ->dN}{p:α->σ->aX (X'×σ)}(F:A2 S c a g ex os p)(x:α)(s:σ){f:X'×σ->aX γ}(h:∀r,p x s=M r->Le ((f r).bind e) (bZ S c Q (nx S c n cf λq=>dA {q.st with m:=os r.2} q.d (.v (.bool r.1)))))
 (B:(gN S c n cf).map (λq=>(q.k,b9 S.N q.st.g q.az,q.dr,q.st.m))=M (.c,M [a,.v (enc x)],O,os s):=by kernel_rfl):Le (((p x s).bind f).bind e) (bZ S c Q cf):=by
 have⟨q,w,b⟩:=fC B;simp only[ζc]at b;have⟨d,z,C,D⟩:=b;refine rF w ?_ h;rw[d,C,vP _ _ _ _ _ _ _ g ([.v (enc x)]++ex) z (F.cs [.v (enc x)])];intro y u;have⟨r,i,u⟩:=ζg.1 u;cases u;have:=F.h x s r i q.d (gm q.st.m q.fr) q.st D;rw[show(!O||q.now)=U from rfl,List.singleton_append,this];rfl
theorem LO{a:SV}{ex:SW}{os:σ->dN}{p:α->σ->aX (X'×σ)}(F:A2 S c a g ex os p){rs:aY RV}{st:St}{s B:σ}{ys:So}(b:lz st rs=M (ys.map .v))(D:st.m=os B):Fy rs ((os s).map (·.1)) (.ret,st)=M (ys,os B):=by show(_o (lz st rs) λl=>_o (dG l) λys=>(mb st.m ((os s).map (·.1))).map λos=>(ys,os))=_;rw[b,D,F.tk s B];simp only[ζb,l8,A?]
theorem Kn(n:Nat){b:SV}{ex:SW}{os:σ->dN}{p:α->σ->aX (X'×σ)}(F:A2 S c b g ex os p){rs:aY RV}{s B:σ}{r:γ}{e:γ->aX (So×dN)}(ys:So)(D:e r=M (ys,os B))
 (G:(iF S c n cf.1 cf.2.1 cf.2.2).map (λq=>(q.1,lz q.2.2 rs,q.2.2.m))=M (.rt,M (ys.map .v),os B):=by kernel_rfl):Le (_o (M r) e) (bZ S c (Fy rs ((os s).map (·.1))) cf):=by
 have⟨⟨fo,fs,e?⟩,u,a⟩:=fC G;simp only[ζc]at a;obtain⟨rfl,w,z⟩:=a;refine Bj u (Le.of_eq ?_);show rn S c _ Fo.rt fs e?=e r;rw[D];exact LO F w z
theorem Oj(n:Nat){δ:Type}{m:aX δ}(F:ql S c m)(D:handed F.os F.az=M F.os)(hp:∀x,oZ F.os (F.M x)=F.M x){f:δ->aX γ}(h:∀x,m=M x->Le (_o (f x) e) (bZ S c Q (nx S c n cf λp=>dA {p.st with m:=F.M x} p.d (.v (result (F.E x))))))
 (G:(gN S c n cf).map (λp=>(p.k,_o (b9 S.N p.st.g p.az) mz,p.dr,p.st.m))=M (.c,M (F.n,F.az),O,F.os):=by kernel_rfl):Le (_o (m.bind f) e) (bZ S c Q cf):=by
 have⟨p,u,a⟩:=fC G;simp only[ζc]at a;have⟨C,I,d,B⟩:=a;have⟨w,g3,g4⟩:=ζg.1 I;refine rF u ?_ h;rw[C,d,vP _ _ _ _ _ _ w F.n F.az g3 g4];intro y z;have⟨r,b,z⟩:=ζg.1 z;cases z;have⟨m',k1,k2⟩:=F.h r b;have u:S.prm F.n=J:=by have:=F.q;cases L:S.prm F.n with|none=>rfl|some _=>rw[L]at this;cases this
 have k2:=k2 p.st.m;rw[B,hp]at k2;have:e_ S c p.d O (!O||p.now) (gm p.st.m p.fr) F.n F.az p.st=M (.v (result (F.E r)),{p.st with m:=F.M r}):=by unfold e_;rw[B];simp only[F.k,F.o,u,D,k1,k2,l8,N',Bool.not_false,Bool.true_or,Bool.false_and,v?,_a]
 rw[this];rfl
theorem YH(n:Nat){δ:Type}{m:aX δ}(F:ql S c m){f:δ->aX γ}(h:∀x,m=M x->Le ((f x).bind e) (bZ S c Q (nx S c n cf λp=>dA {p.st with m:=oZ p.st.m (F.M x)} p.d (.v (result (F.E x))))))
 (D:(gN S c n cf).map (λp=>(p.k,((b9 S.N p.st.g p.az).bind mz).bind λq=>(handed p.st.m q.2).map λos=>(q.1,q.2,os),p.dr,p.now))=M (.c,M (F.n,F.az,F.os),U,U):=by kernel_rfl)
 (B:∀x,(gN S c n cf).map (λp=>V.dm (F.E x)&&F.os.all λy=>zF (oZ p.st.m (F.M x)) y.1)=M U:=by intro x;kernel_rfl):Le ((m.bind f).bind e) (bZ S c Q cf):=by
 have⟨p,z,a⟩:=fC D;simp only[ζc]at a;have⟨C,G,I,d⟩:=a;have⟨q,g1,g2⟩:=ζg.1 G;have⟨u,g3,g4⟩:=ζg.1 g1;have⟨os,g5,g6⟩:=ζf.1 g2;simp only[ζc]at g6;obtain⟨e1,e2,rfl⟩:=g6;refine rF z ?_ h;rw[C,I,vP _ _ _ _ _ _ u q.1 q.2 g3 g4];intro y w;have⟨r,b,w⟩:=ζg.1 w;cases w;have⟨m',k1,k2⟩:=F.h r b;have L:S.prm F.n=J:=by have:=F.q;cases j:S.prm F.n with|none=>rfl|some _=>rw[j]at this;cases this
 have B:=B r;rw[z]at B;have B:=Option.some.inj B;have:e_ S c p.d U (!U||p.now) (gm p.st.m p.fr) q.1 q.2 p.st=M (.v (result (F.E r)),{p.st with m:=oZ p.st.m (F.M r)}):=by unfold e_;rw[e1,e2]at *;simp only[F.k,F.o,L,g5,k1,k2,d,B,l8,N',Bool.not_true,Bool.true_and,Bool.or_true,v?,_a]
 rw[this];rfl
end
section
variable{S:Sys}{c:b_}{β γ δ α:Type}[bD δ]{Q:Out×St->aX β}{e:γ->aX β}{cf:Cf}
theorem WT(n u:Nat){fn:Y'}{A:α->So}{p:α->aX (Sl δ)}(F:nG S c fn A p)(z:α){f:Sl δ->aX γ}
 (h:∀x,(p z).bind Sl.whole=M x->Le ((f x).bind e) (bZ S c Q (nx S c n cf λq=>{q.st with g:=bJ q.st.g u (.own u),m:=bJ q.st.m u (cH x)})))
 (T:(gN S c n cf).map (λq=>(q.d,q.k,((b9 S.N q.st.g q.az).bind mz).bind λr=>(qO (kH q.st.m 8) r.2).map λvs=>(r.1,vs),(!q.dr||q.now),q.st.new u))=M (M u,.c,M (fn,A z),U,U):=by kernel_rfl):Le ((((p z).bind Sl.whole).bind f).bind e) (bZ S c Q cf):=by
 have⟨q,b__,b⟩:=fC T;simp only[ζc]at b;have⟨W,X,Y,Z,c__⟩:=b;have⟨⟨B,args⟩,D,g3⟩:=ζg.1 Y;have⟨G,g1,g2⟩:=ζg.1 D;have⟨vs,g4,g5⟩:=ζf.1 g3;simp only[ζc]at g5;obtain⟨rfl,rfl⟩:=g5;refine rF b__ ?_ h;rw[W,X];intro y I;have⟨d,a__,I⟩:=ζg.1 I;cases I;have⟨s,i,C⟩:=ζg.1 a__;have⟨e0,m',j,k⟩:=F.h z s i;rw[vP q.dr _ _ _ _ _ G B args g1 g2];have L:dH q.st.m 8 args=M (A z):=by rw[(AW q.st.m 8).2];exact g4
 have w:e_ S c (M u) q.dr (!q.dr||q.now) (gm q.st.m q.fr) B args q.st=M (.own u,{q.st with m:=bJ q.st.m u (cH d)}):=by unfold e_;simp only[F.k,F.o,N',Z,L,j,dG,k,cH,c__];cases s with|nil=>cases C;rfl|emp=>cases C;rfl|row l=>cases C;have:mj (rows l)=U:=(by unfold mj;rw[G?];intro x o;obtain⟨a,_,rfl⟩:=mem_map.1 o;exact F.sc a);simp only[Sl.k,Sl.l,dG,V.dm,this,Bool.and_self,c__,N'];rfl|part l=>cases C
 rw[w];rfl
theorem adH{α:Type}[bD α](n:Nat)(l:aY α)(q:xS)(m?:SW){m:aX β}(h:Le m (bZ S c Q (nx S c n cf λp=>dA p.st p.d (cv (Sl.row l:Sl α)))))
 (B:(gN S c n cf).map (λp=>(p.k,b9 S.N p.st.g p.az))=M (.p q,M m?):=by kernel_rfl)(D:isSlice q=O:=by rfl)(hp:∀m,lP S.N m q m?=M (cv (Sl.row l:Sl α)):=by intro m;kernel_rfl):Le m (bZ S c Q cf):=by
 have⟨p,u,a⟩:=fC B;simp only[ζc]at a;refine yw u ?_ h;rw[a.1];exact E9 a.2 D (hp _)
end
def Qw:Out×St->aX S'
 |(.exit _,_)=>J|(_,st)=>M st.want
def yl(B:S')(more:X')(xs:So):aX (X'×S'):=match B with
 |w::r=>open Classical in if w=xs then M (more|| !r.isEmpty,r)else J|[]=>J
section
variable{S:Sys}{c:b_}{β γ:Type}{Q:Out×St->aX β}{e:γ->aX β}{cf:Cf}
theorem Byl(n:Nat){B:S'}{more:X'}(xs:So){f:X'×S'->aX γ}
 (h:∀r,yl B more xs=M r->Le ((f r).bind e) (bZ S c Q (nx S c n cf λq=>dA {q.st with want:=r.2} q.d (.v (.bool r.1)))))
 (D:(gN S c n cf).map (λq=>(q.k,b9 S.N q.st.g q.az,q.st.want,q.st.more,q.dr))=M (.c,M (.yl ((gN S c n cf).elim 0 λq=>q.st.yid)::xs.map .v),B,more,O):=by kernel_rfl):Le (((yl B more xs).bind f).bind e) (bZ S c Q cf):=by
 have⟨q,C,b⟩:=fC D;simp only[ζc]at b;have⟨d,u,G,I,j⟩:=b;rw[C]at u;refine rF C ?_ h;intro y z;have⟨r,a,z⟩:=ζg.1 z;cases z;unfold yl at a;split at a
 .rename_i w a__;split at a
  next L=>cases a;rw[d,j];unfold gT;have u:b9 S.N q.st.g q.az=M (.yl q.st.yid::xs.map .v):=u;simp only[wanted,ij,u,l8,G,L,I,N',and_self,v?,_a]
  cases a
 cases a
theorem Wk{S G:Sys}{c:b_}(W:G.E=S.E)(Y:∀f q,S.prm f=M q->qa S.E f q)(e:kz S c)(i:∀f a b xs,S.items f a b=M xs->fM S f a b xs){f:Y'}{fi:FI}{nm:Y'->aX Nat}{rf:RF}(T:S.E.ft f=M fi)(j:∀g s,nm g=M s->S.N s=g)(l:Aj S.E nm fi rf){a b:So}{xs:S'}(D:_m a+1+_m b<=rf.na)(b__:rf.rs=[])
 (h:∀B more,xP B xs more->∀yid,bZ S c Qw (.rc rf.body,[],⟨ye 0 (a.map .v++.yl yid::b.map .v),[],[],B,more,yid⟩)=M []):fM G f a b xs:=by
 have k:fM S f a b xs:=OD Y e i T j l D b__ (λB more w yid=>by
  have d:=h B more w yid;change mJ S c Qw rf.body [] _=M []at d;rw[qR]at d;have⟨⟨o,e?⟩,z,u⟩:=ζg.1 d;refine⟨o,e?,z,?_,?_,_l⟩
  .rintro id rfl;simp[Qw]at u
  cases o<;>simp[Qw]at u<;>exact u)
 have⟨Q,X,m,A8,prm⟩:=G;simp only at W;subst W;intro B more w yid a__ y Z C I H d z u L c__;exact k B more w yid a__ ⟨y.zG,y.yield⟩ Z C I H d z u L c__
end
section
variable{S:Sys}{c:b_}{β γ α:Type}[bD α]{Q:Out×St->aX β}{e:γ->aX β}{cf:Cf}
end
theorem nG.fix{S:Sys}{c:b_}{α δ:Type}[bD δ]{fn:Y'}{A:α->So}{b:(α->aX (Sl δ))->α->aX (Sl δ)}(k:S.E.keep fn=U)(o:S.E.own fn=U)(sc:∀x:δ,(cells x).all V.scalar=U)
 (h:∀r,nG S c fn A r->∀z s,b r z=M s->∃e m',c fn ((A z).map .v) []=M ([.own e],m')/\bk m' e=M (cH s)):∀n,nG S c fn A (cI b n)
 |0=>⟨k,o,λ_ _ h=>(by cases h),sc⟩|n+1=>⟨k,o,h _ (nG.fix k o sc h n),sc⟩
def PW(rs:aY RV):Out×St->aX (V×bG×So)
 |(.exit _,_)=>J|(_,st)=>_o (lz st rs) λl=>match l with
  |.v p::.own d::r=>_o (bk st.m d) λob=>(dG r).map λys=>(p,ob,ys)|_=>J
theorem goP{S:Sys}{c:b_}{rs:aY RV}{a:RC}{st:St}{p:V}{ob:bG}{ys:So}(h:mJ S c (PW rs) a [] st=M (p,ob,ys)):∃o e? d,cV S c a st=M (o,e?)/\(∀id,o≠.exit id)/\lz e? rs=M (.v p::.own d::ys.map .v)/\bk e?.m d=M ob:=by
 rw[qR]at h;have⟨⟨o,e?⟩,b,u⟩:=ζg.1 h;have z:∀id,o≠.exit id:=by rintro id rfl;simp[PW]at u
 have B:_o (lz e? rs) (λl=>match l with|.v p::.own d::r=>_o (bk e?.m d) λob=>(dG r).map λys=>(p,ob,ys)|_=>J)=M (p,ob,ys):=by cases o with|exit id=>exact _e Y (z id)|norm=>exact u|ret=>exact u
 have⟨l,C,w⟩:=ζg.1 B;split at w;have⟨D,G,I⟩:=ζg.1 w;have⟨q,j,L⟩:=ζf.1 I;cases L;exact⟨o,e?,_,b,z,by rw[C,AP j],G⟩;cases w
structure S6(S:Sys)(c:b_){α δ ε:Type}[bD δ][iy ε](E1:α->V)(m:Option (α×Sl δ×ε))where
 n:FuncId
 az:List V
 k:S.E.keep n=true
 o:S.E.own n=false
 q:(S.prm n).isNone=true
 h:∀r,m=some r->∃e m',c n (az.map .v) []=some (.v (E1 r.1)::.own e::(iy.e r.2.2).map .v,m')/\bk m' e=some (cH r.2.1)
abbrev S6.mk'{S:Sys}{T:sY}{α δ ε:Type}[bD δ][iy ε]{E1:α->V}{m:aX (α×Sl δ×ε)}(fn:FuncId)(az:aY V)
 (h:Le (m.bind λr=>M (E1 r.1,cH r.2.1,iy.e r.2.2)) (bZ S (dB S T) (PW (tr T fn)) (.rc (tb T fn),[],start (az.map .v) [])))
 (B:(T fn).isSome=U:=by kernel_rfl)(b:S.E.keep fn=U:=by kernel_rfl)(D:S.E.own fn=O:=by kernel_rfl)(G:(S.prm fn).isNone=U:=by kernel_rfl)(j:ble (W az) (pI (T fn)).na=U:=by kernel_rfl):S6 S (dB S T) E1 m where
 n:=fn
 az:=az
 k:=b
 o:=D
 q:=G
 h r hr:=by have u:=A7 B;have a:=h (E1 r.1,cH r.2.1,iy.e r.2.2) (by rw[hr];rfl);change mJ S (dB S T) (PW (pI (T fn)).rs) (pI (T fn)).body [] (start (az.map .v) [])=M (E1 r.1,cH r.2.1,iy.e r.2.2)at a;have⟨o,e?,d,g1,g2,g3,g4⟩:=goP a;refine⟨d,e?.m,?_,g4⟩;rw[uy u];unfold pM;rw[L' (by simpa using Nat.le_of_ble_eq_true j),g1];cases o with|exit id=>exact _e Y (g2 id)|norm=>simp only[g3,A?]|ret=>simp only[g3,A?]
section
variable{S:Sys}{c:b_}{β γ:Type}{Q:Out×St->aX β}{e:γ->aX β}{cf:Cf}
theorem abi{α δ ε:Type}[bD δ][iy ε]{E1:α->V}(n u:Nat){m:aX (α×Sl δ×ε)}(F:S6 S c E1 m){f:α×Sl δ×ε->aX γ}
 (h:∀x,m=M x->Le (_o (f x) e) (bZ S c Q (nx S c n cf λp=>{p.st with g:=bJ p.st.g u (.tup (.v (E1 x.1)::.own u::(iy.e x.2.2).map .v)),m:=bJ p.st.m u (cH x.2.1)})))
 (D:(gN S c n cf).map (λq=>(q.d,q.k,_o (b9 S.N q.st.g q.az) mz,q.dr,q.st.new u))=M (M u,.c,M (F.n,F.az.map .v),O,U):=by kernel_rfl):Le (_o (m.bind f) e) (bZ S c Q cf):=by
 have⟨q,C,a⟩:=fC D;simp only[ζc]at a;have⟨G,I,d,L,a__⟩:=a;have⟨z,g1,g2⟩:=ζg.1 d;refine rF C ?_ h;rw[G,I,L];intro y B;have⟨s,T,B⟩:=ζg.1 B;cases B;have⟨e0,m',b,j⟩:=F.h s T;have W:S.prm F.n=J:=by have:=F.q;cases X:S.prm F.n with|none=>rfl|some _=>rw[X]at this;cases this
 rw[vP _ _ _ _ _ _ z F.n (F.az.map .v) g1 g2];have Y:St.new {q.st with m:=q.st.m} u=U:=a__;have w:e_ S c (M u) O (!O||q.now) (gm q.st.m q.fr) F.n (F.az.map .v) q.st=M (.tup (.v (E1 s.1)::.own u::(iy.e s.2.2).map .v),{q.st with m:=bJ q.st.m u (cH s.2.1)}):=by unfold e_;simp only[F.k,F.o,W,FU,b,dG,l8,X!,lB,Ae,j,cH,Y,List.contains_nil,Bool.not_false,Bool.true_or,Bool.false_and,Bool.and_self,N',v?,_a,Option.map_none];try rfl
 rw[w];rfl
end
section
variable{α:Type}[bD α]
abbrev vY(s:Sl (Sl α)):bG:=.dp s.k (rows s.l) J
abbrev GL(s:Sl (Sl α))(i:Int)(t:Nat):bG:=.dp s.k (rows s.l) (M (i.toNat,t))
def pT(s:Sl (Sl α))(i:Int)(x:Sl α):Sl (Sl α):=match s with
 |.row l=>.row (l.set i.toNat x)|.part l=>.part (l.set i.toNat x)|s=>s
def aaE:Sl α->X'
 |.nil|.emp=>U|_=>O
structure S7(s:Sl (Sl α)):Prop where
 a:s.l.all aaE=true
 b:s.k≠.part
theorem abV:_o (idx (Sl.row [(Sl.nil:Sl α)]) 0) Sl.whole=M .nil:=rfl
theorem Yb{i:Int}{s:Sl (Sl α)}(h:jQ i (.nil:Sl α)=M s):S7 s:=by unfold jQ at h;split at h;cases h;exact⟨by simp[Sl.l,aaE],by simp[Sl.k]⟩;cases h
theorem HQ(s:Sl (Sl α))(i:Int)(x:Sl α):(pT s i x).l=s.l.set i.toNat x/\(pT s i x).k=s.k:=by cases s<;>simp[pT,Sl.l,Sl.k]
theorem HT{s:Sl (Sl α)}{i:Int}{y:Sl α}(h:_o (idx s i) Sl.whole=M y):0<=i/\s.l[i.toNat]?=M y/\y.k≠.part/\cg s.k=U/\i.toNat<W s.l:=by
 have⟨z,a,u⟩:=ζg.1 h;unfold idx at a;split at a
 .rename_i hi;have w:=(ζe.1 a).1;have b:cg s.k=U:=(by cases s<;>first|rfl|(simp[Sl.l]at w));cases z with|part l=>cases u|nil=>cases u;exact⟨hi,a,by simp[Sl.k],b,w⟩|emp=>cases u;exact⟨hi,a,by simp[Sl.k],b,w⟩|row l=>cases u;exact⟨hi,a,by simp[Sl.k],b,w⟩
 cases a
theorem SO{y:Sl α}(h:y.k≠.part):WM (bD.size α) (cells y)=M (cH y):=by cases y with|nil=>rfl|emp=>rfl|row l=>simp[U9,cE,lQ,Sl.k,Sl.l,WM,cH]|part l=>exact _e Y h
end
def Ju(fo:Fo)(fs:QQ):aX (Gh×Fo×QQ):=match fo,fs with
 |.rc (.gh g a),fs=>M (g,.rc a,fs)|.ops O fr (⟨d,gd,now,k,az,dd,x::u⟩::r),fs=>M (x,.ops O fr (⟨d,gd,now,k,az,dd,u⟩::r),fs)|.nx,.gst g::fs=>M (g,.nx,fs)|_,_=>J
def Q6(st:St)(l:Loc):Ps:=match Rm st l with
 |some (.v (.int _ i))=>M i|_=>J
theorem YI{st:St}{x:Loc}{i:Int}(h:Q6 st x=M i)(hi:0<=i):UZ st x=M i.toNat:=by
 unfold Q6 at h;unfold UZ;split at h;next a=>cases h;simp only[a,L' hi]
 cases h
def gx(S:Sys)(c:b_)(n:Nat)(cf:Cf)(φ:St->St):Cf:=match iF S c n cf.1 cf.2.1 cf.2.2 with
 |some (fo,fs,st)=>match Ju fo fs with
  |some (_,u,n?)=>(u,n?,φ st)|none=>cf
 |none=>cf
section
variable{S:Sys}{c:b_}{β γ δ α:Type}[bD α]{Q:Out×St->aX β}{e:γ->aX β}{cf:Cf}
theorem Bgh{n:Nat}{m:aX β}{φ:St->St}{g:Gh}{fo fo':Fo}{fs n?:QQ}{st:St}(a:iF S c n cf.1 cf.2.1 cf.2.2=M (fo,fs,st))(B:Ju fo fs=M (g,fo',n?))(D:ghost g st=M (φ st))
 (h:Le m (bZ S c Q (gx S c n cf φ))):Le m (bZ S c Q cf):=by
 refine Bj a ?_;have u:yL S c fo fs st=M (fo',n?,φ st):=by unfold Ju at B;split at B<;>cases B<;>simp[yL,D]
 show Le m (rn S c Q fo fs st);rw[KZ u];simpa[gx,a,B]using h
theorem MP{n:Nat}{α:Type}{φ:Gh->St->α}{a:α}(h:_o (iF S c n cf.1 cf.2.1 cf.2.2) (λp=>(Ju p.1 p.2.1).map λq=>φ q.1 p.2.2)=M a):
 ∃fo fs st g fo' n?,iF S c n cf.1 cf.2.1 cf.2.2=M (fo,fs,st)/\Ju fo fs=M (g,fo',n?)/\φ g st=a:=by
 have⟨⟨fo,fs,st⟩,b,u⟩:=ζg.1 h;have⟨⟨g,fo',n?⟩,w,z⟩:=ζf.1 u;exact⟨fo,fs,st,g,fo',n?,b,w,z⟩
theorem MF(n d t:Nat)(x:Loc){s:Sl (Sl α)}{i:Int}{f:Sl α->aX γ}(h:∀y,(idx s i).bind Sl.whole=M y->Le ((f y).bind e) (bZ S c Q (gx S c n cf λst=>{st with m:=bJ (bJ st.m d (GL s i t)) t (cH y)})))
 (B:(iF S c n cf.1 cf.2.1 cf.2.2).bind (λp=>(Ju p.1 p.2.1).map λq=>(q.1,bk p.2.2.m d,Q6 p.2.2 x,p.2.2.new t))=M (.take d x (bD.size α) t,M (vY s),M i,U):=by kernel_rfl):Le ((((idx s i).bind Sl.whole).bind f).bind e) (bZ S c Q cf):=by
 cases u:(idx s i).bind Sl.whole with
 |none=>exact Le.none _|some y=>
  have⟨fo,fs,st,g,z,n?,a,C,w⟩:=MP (φ:=λg st=>(g,bk st.m d,Q6 st x,st.new t)) B
  simp only[ζc]at w;obtain⟨rfl,D,G,I⟩:=w;have⟨g1,g2,g3,g4,g5⟩:=HT u;refine Bgh a C ?_ (h y u);show DV d x (bD.size α) t st=_;unfold DV;rw[D,YI G g1];simp only[g4,I,and_self,N'];have:(rows s.l)[i.toNat]?=M (cells y):=by rw[rows,j!,g2];rfl
  rw[this,ζb,SO g3];rfl
theorem Ku(n d t:Nat){s:Sl (Sl α)}{i:Int}{y D:Sl α}(a:(idx s i).bind Sl.whole=M D){f:Sl α->aX γ}(h:∀z,y.whole=M z->Le ((f z).bind e) (bZ S c Q (gx S c n cf λst=>{st with m:=bJ (dJ t st.m) d (vY (pT s i z))})))
 (G:(iF S c n cf.1 cf.2.1 cf.2.2).bind (λp=>(Ju p.1 p.2.1).map λq=>(q.1,bk p.2.2.m d,bk p.2.2.m t,beq t d))=M (.put d,M (GL s i t),M (cH y),O):=by kernel_rfl):Le (((y.whole).bind f).bind e) (bZ S c Q cf):=by
 cases w:y.whole with
 |none=>exact Le.none _|some z=>
  have⟨fo,fs,st,g,C,n?,b,I,B⟩:=MP (φ:=λg st=>(g,bk st.m d,bk st.m t,beq t d)) G
  simp only[ζc]at B;obtain⟨rfl,a__,L,b__⟩:=B;have⟨g1,g2,g3,g4,g5⟩:=HT a;have T:z=y/\y.k≠.part:=by cases y<;>cases w<;>exact⟨rfl,by simp[Sl.k]⟩
  obtain⟨rfl,j⟩:=T;refine Bgh b I ?_ (h z w);show HV d st=_;have u:t≠d:=λe=>by subst e;simp at b__
  unfold HV;rw[a__];simp only[L,cH,ne_eq,j,not_false_eq_true,u,g4,and_self,N'];have:(rows s.l).set i.toNat [lQ z.k (bD.size α) (rows z.l)]=rows (pT s i z).l:=by rw[(HQ s i z).1];simp[rows,map_set];rfl
  rw[this,<-(HQ s i z).2]
theorem abh (n d:Nat) {s:Sl (Sl α)} {m:aX β} (B:S7 s) (h:Le m (bZ S c Q (gx S c n cf λst=>{ st with m:=bJ st.m d (vY s) })))
 (D:(iF S c n cf.1 cf.2.1 cf.2.2).bind (λp=>(Ju p.1 p.2.1).map λq=>(q.1,bk p.2.2.m d))=some (.melt d,some (cH s)):=by kernel_rfl):Le m (bZ S c Q cf):=by
 obtain⟨fo,fs,st,g,w,n?,h1,z,u⟩:=MP (φ:=λg st=>(g,bk st.m d)) D
 simp only[ζc]at u;obtain⟨rfl,C⟩:=u;refine Bgh h1 z ?_ h;show DJ d st=_;unfold DJ;rw[C];have G:(rows s.l).all U3=true:=by
  rw[List.all_eq_true];intro x I;obtain⟨y,j,rfl⟩:=List.mem_map.1 I;have:=List.all_eq_true.1 B.a y j;cases y <;> first|rfl|cases this
 have L:=B.b;have a__:bD.size (Sl α)=1:=rfl;simp only[cH,a__,ne_eq,L,not_false_eq_true,G,and_self,N']
theorem PU(n d t:Nat)(k:T2){s:Sl (Sl α)}{i:Int}{y:Sl α}(b:_o (idx s i) Sl.whole=M y){m:aX β}(h:Le m (bZ S c Q (nx S c n cf λp=>dA p.st p.d (.el d i.toNat 0))))
 (B:(gN S c n cf).map (λp=>(p.k,b9 S.N p.st.g p.az,bk p.st.m d))=M (.p (.idxS 1),M [.own d,.v (.int k i)],M (GL s i t)):=by kernel_rfl):Le m (bZ S c Q cf):=by
 have⟨p,u,a⟩:=fC B;simp only[ζc]at a;have⟨g1,g2,g3,g4,g5⟩:=HT b;refine yw u ?_ h;rw[a.1,Rf _ _ _ _ _ _ _ Y,a.2.1,ζb,Oi,a.2.2];simp[Mh,g1,g4,g5,iz]
theorem UF(n d t:Nat){s:Sl (Sl α)}{i:Int}{y:Sl α}(b:_o (idx s i) Sl.whole=M y){m:aX β}(h:Le m (bZ S c Q (nx S c n cf λp=>dA p.st p.d (.own t))))
 (B:(gN S c n cf).map (λp=>(p.k,b9 S.N p.st.g p.az,bk p.st.m d,(!p.dr||p.now||gw p.fr [.el d i.toNat 0])))=M (.r (.load 1 O),M [.el d i.toNat 0],M (GL s i t),U):=by kernel_rfl):Le m (bZ S c Q cf):=by
 have⟨p,u,a⟩:=fC B;simp only[ζc]at a;refine yw u ?_ h;rw[a.1,FO,a.2.1,ζb,a.2.2.2,L' Y,Xs,a.2.2.1];simp[Gn]
theorem adO(n d t u:Nat){s:Sl (Sl α)}{i:Int}{y:Sl α}(b:_o (idx s i) Sl.whole=M y){m:aX β}(h:Le m (bZ S c Q (nx S c n cf λp=>dA {p.st with m:=bJ p.st.m d (GL s i u)} p.d (.v .undef))))
 (B:(gN S c n cf).map (λp=>(p.k,b9 S.N p.st.g p.az,bk p.st.m d,(!p.dr||p.now),(bk p.st.m u).isSome,beq u d))=M (.l (.store 1),M [.el d i.toNat 0,.own u],M (GL s i t),U,U,O):=by kernel_rfl):Le m (bZ S c Q cf):=by
 have⟨p,z,a⟩:=fC B;simp only[ζc]at a;have w:u≠d:=λe=>by subst e;simp at a
 refine yw z ?_ h;rw[a.1,wZ,a.2.1,ζb,a.2.2.2.1,L' Y];have:mO p.st p.d (.store 1) [.el d i.toNat 0,.own u]=M (.v .undef,{p.st with m:=bJ p.st.m d (GL s i u)}):=by unfold mO;simp[a.2.2.1,a.2.2.2.2.1,w]
 rw[this];rfl
theorem adJ(n u t:Nat){m:aX β}(h:Le m (bZ S c Q (nx S c n cf λp=>{p.st with g:=bJ p.st.g u (.own u),m:=bJ p.st.m u (GL (Sl.row [(Sl.nil:Sl α)]) 0 t)})))
 (B:(gN S c n cf).map (λp=>(p.d,p.k,b9 S.N p.st.g p.az,p.st.new u,(bk p.st.m t).isSome))=M (M u,.a (.buildSl 1 1 [.bN] [0]),M [.own t],U,U):=by kernel_rfl):Le m (bZ S c Q cf):=by
 have⟨p,w,a⟩:=fC B;simp only[ζc]at a;refine yw w ?_ h;rw[a.1,a.2.1,DZ,a.2.2.1,ζb,L' a.2.2.2.1];have:qI p.st.m (.buildSl 1 1 [.bN] [0]) [.own t] u=M (GL (.row [(.nil:Sl α)]) 0 t,.own u):=by unfold qI;simp only[dG,and_self,true_and];rw[L' a.2.2.2.2];rfl
 rw[this];rfl
theorem ada(n d u t:Nat){s:Sl (Sl α)}{x:Sl α}{f:Sl (Sl α)->aX γ}(h:∀B,eH s x=M B->Le ((f B).bind e) (bZ S c Q (nx S c n cf λp=>{p.st with g:=bJ p.st.g t (.own t),m:=bJ (dJ u (dJ d p.st.m)) t (vY B)})))
 (D:(gN S c n cf).map (λp=>(p.d,p.k,b9 S.N p.st.g p.az,bk p.st.m d,bk p.st.m u,(!p.dr||p.now),beq d u,St.new {p.st with m:=dJ u (dJ d p.st.m)} t))=M (M t,.l (.append 1),M [.own d,.own u],M (vY s),M (vY (.row [x])),U,O,U):=by kernel_rfl):Le (((eH s x).bind f).bind e) (bZ S c Q cf):=by
 have⟨p,G,a⟩:=fC D;simp only[ζc]at a;have⟨I,j,L,z,C,y,T,q⟩:=a;have w:d≠u:=λe=>by subst e;simp at T
 refine rF G ?_ h;rw[I,j,wZ,L,ζb,y,L' rfl];have:mO p.st (M t) (.append 1) [.own d,.own u]=Cs p.st (M t) 1 (.own d) (.own u):=by unfold mO;simp[jP,z,C]
 have W:rows (Sl.row [x]).l≠[]:=by simp[Sl.l,rows]
 have Y:(rows (Sl.row [x]).l).length=1:=rfl;have b:rows s.l++rows (Sl.row [x]).l=rows (s.l++[x]):=by simp[rows,Sl.l]
 have X:Cs p.st (M t) 1 (.own d) (.own u)=(eH s x).bind λB=>M (.own t,{p.st with m:=bJ (dJ u (dJ d p.st.m)) t (vY B)}):=by simp only[Cs,z,C,eH,vY];rw[show(Sl.row [x]).k=.row from rfl];simp only[true_and,ne_eq,w,not_false_eq_true,W,iz,show(Sl.row [x]).l.length=1 from rfl,q,N',b];by_cases h:s.l.length+1<=2147483648;rw[L' h,L' h];rfl;rw[M' h,M' h];rfl
 rw[this,X]
 cases eH s x with
 |none=>exact Le.none _|some B=>exact Le.of_eq rfl
end
theorem Xx{n:Int}(B:0<=n)(h:n<=4611686018427387904):w? _r n=n:=by simp[w?,IntKind.bits,i8];omega
namespace catX
instance{n:Nat}:OfNat Arg n:=⟨.s n⟩
def ln:K:=.p .lenSl
def ix:K:=.p (.idxS 1)
def bI(o:BinOp):K:=.p (.bin (M .int) J o)
def ld:K:=.r (.load 1 O)
def g1:R0:=[o1 4 (.k (.bN)) []]
def g2:R0:=[o1 5 1 [],o2 6 (bI .lss) [5,.k (.int _r 0)] []]
def g3:R0:=[o2 7 (.p (.bad)) [] [],⟨J,J,O,.p .bad,[],[],[]⟩]
def g4:R0:=[o1 8 1 [],o1 9 0 [],o2 10 (.p (.capSl)) [9] [],o1 11 0 [],o2 12 ln [11] [],o2 13 (bI .sub) [10,12] [],o2 14 (bI .sub) [8,13] [],o1 1 14 []]
def g5:R0:=[o1 15 1 [],o2 16 (bI .gtr) [15,.k (.int _r 0)] []]
def g6:R0:=[o1 17 0 [],o1 18 0 [],o2 19 (.p (.capSl)) [18] [],o2 20 (.p (.slice 1 O U)) [17,19] [],o1 21 1 [],o2 22 (.l (.appMk 1 24 [.bN])) [20,21] [],o1 23 0 [],o2 24 ln [23] [],o2 25 (.p (.slice 1 O U)) [22,24] [],o1 0 25 []]
def g7:R0:=[o1 26 0 [],o1 4 26 []]
def grow:RC:=.seq (.ops g1) (.seq (.seq (.ops g2) (.cond (.s 6) (.ops g3) (.skip))) (.seq (.seq (.ops g4) (.seq (.ops g5) (.cond (.s 16) (.ops g6) (.skip)))) (.seq (.ops g7) (.ret))))
section
variable{E:Env}{N:Nat->Y'}{t:Nat}
attribute [local simp] d_ lJ gJ bW nr uF pg uI bI ln
theorem Zr(d:t<=2147483648):∃F',Ex E N grow [.bN,.int _r t] [] .ret F' (if t=0 then[]else[.row 1 (replicate t [.bN])])/\get F' 4=if t=0 then .bN else .hsl 0 1 0 0:=by
 have e1:∀call,d_ E N call J g1 [.bN,.int _r t] []=M (set [.bN,.int _r t] 4 .bN,[]):=λcall=>vp (v:=.bN) Y (by simp[lJ,gJ,bW]) yh;have k0:get (set [V.bN,.int _r t] 4 .bN) 0=.bN:=rfl;have k1:get (set [V.bN,.int _r t] 4 .bN) 1=.int _r t:=rfl;generalize set [V.bN,.int _r t] 4 .bN=G at *;have e2:∃F1,(∀call,d_ E N call J g2 G []=M (F1,[]))/\get F1 6=.bool O/\get F1 0=.bN/\get F1 1=.int _r t:=by exact⟨_,λcall=>by simp[g2,k1];rfl,f?,by simp[k0],by simp[k1]⟩
 have⟨F1,a1,a2,I,T⟩:=e2;have e4:∃z,(∀call,d_ E N call J g4 F1 []=M (z,[]))/\get z 0=.bN/\get z 1=.int _r t:=by exact⟨_,λcall=>by simp[g4,I,T,KR,qP,Xx (n:=t) a? a?,show w? _r 0=0 from by decide];rfl,by simp[I],f?⟩
 have⟨z,h,j,L⟩:=e4;have e5:∃u,(∀call,d_ E N call J g5 z []=M (u,[]))/\get u 16=.bool (_s (t>0))/\get u 0=.bN/\get u 1=.int _r t:=by exact⟨_,λcall=>by simp[g5,L];rfl,f?,by simp[j],by simp[L]⟩
 have⟨u,q,Q,S,W⟩:=e5;have c:Ex E N (.seq (.ops g2) (.cond (.s 6) (.ops g3) (.skip))) G [] .norm F1 []:=Ex.seq (Ex.eO a1) (Ex.xd a2 Ex.skip);have e7:∀(F:WP)(H:bt),∃F',(∀call,d_ E N call J g7 F H=M (F',H))/\get F' 4=get F 0:=λF H=>⟨_,λcall=>by simp[g7];rfl,f?⟩
 by_cases B:t=0;subst B;have⟨D,a,b⟩:=e7 u [];refine⟨D,?_,by rw[b,S];rfl⟩;exact Ex.seq (Ex.eO e1) (Ex.seq c (Ex.seq (Ex.seq (Ex.eO h) (Ex.seq (Ex.eO q) (Ex.xd Q Ex.skip))) (Ex.seq (Ex.eO a) Ex.ret)));have w:0<t:=a?;have e6:∃C,(∀call,d_ E N call J g6 u []=M (C,[.row 1 (replicate t [.bN])]))/\get C 0=.hsl 0 1 0 0:=by exact⟨_,λcall=>by simp[g6,S,W,KR,qP,pe,jW,eD,f_,mkApp,w,B,show(t:Int)<=2147483648 from a?];rfl,f?⟩
 have⟨C,X,y⟩:=e6;have⟨D,a,b⟩:=e7 C [.row 1 (replicate t [.bN])];rw[M' B,M' B];refine⟨D,?_,by rw[b,y]⟩;exact Ex.seq (Ex.eO e1) (Ex.seq c (Ex.seq (Ex.seq (Ex.eO h) (Ex.seq (Ex.eO q) (Ex.uq (by show get u 16=_;rw[Q,_c w]) (Ex.eO X)))) (Ex.seq (Ex.eO a) Ex.ret)))
end
end catX
def EJ{α:Type}(s:Sl (Sl α)):Sl α:=if(s.l.flatMap Sl.l).length=0 then .nil else .row (s.l.flatMap Sl.l)
namespace catX
def r1:R0:=[o1 2 (.k (.bN)) []]
def r2:R0:=[o1 3 (.k (.int _r 0)) []]
def r3:R0:=[o1 9 0 [],o2 10 ln [9] [],o1 11 (.k (.int _r 0)) []]
def r4:R0:=[o2 12 (bI .lss) [11,10] []]
def r5:R0:=[o2 13 ix [9,11] [],o2 14 ld [13] [],o1 5 14 []]
def r6:R0:=[o1 15 3 [],o1 16 5 [],o2 17 ln [16] [],o2 18 (bI .add) [15,17] [],o1 3 18 []]
def r7:R0:=[o1 19 3 [],o2 20 (bI .lss) [19,.k (.int _r 0)] []]
def r8:R0:=[o2 21 (.p (.bad)) [] [],⟨J,J,O,.p .bad,[],[],[]⟩]
def r9:R0:=[o2 22 (bI .add) [11,.k (.int _r 1)] [],o1 11 22 []]
def L9:RC:=.seq (.ops r4) (.seq (.cond (.s 12) (.skip) (.exit 0)) (.seq (.block 1 (.seq (.ops r5) (.seq (.ops r6) (.seq (.ops r7) (.cond (.s 20) (.ops r8) (.skip)))))) (.ops r9)))
def MO(gid:Nat):R0:=[o1 23 3 [],o2 24 .c [.f gid,.k (.bN),23] [],o1 6 24 []]
def M9:R0:=[o1 25 0 [],o2 26 ln [25] [],o1 27 (.k (.int _r 0)) []]
def M6:R0:=[o2 28 (bI .lss) [27,26] []]
def K7:R0:=[o2 29 ix [25,27] [],o2 30 ld [29] [],o1 8 30 []]
def K6:R0:=[o1 31 6 [],o1 32 8 [],o2 33 (.l (.append 1)) [31,32] [],o1 6 33 []]
def MJ:R0:=[o2 34 (bI .add) [27,.k (.int _r 1)] [],o1 27 34 []]
def L15:RC:=.seq (.ops M6) (.seq (.cond (.s 28) (.skip) (.exit 2)) (.seq (.block 3 (.seq (.ops K7) (.ops K6))) (.ops MJ)))
def r16:R0:=[o1 35 6 [],o1 2 35 []]
def cat(gid:Nat):RC:=.seq (.ops r1) (.seq (.ops r2) (.seq (.seq (.ops r3) (.block 0 (.loop L9))) (.seq (.ops (MO gid)) (.seq (.seq (.ops M9) (.block 2 (.loop L15))) (.seq (.ops r16) (.ret))))))
section
variable{E:Env}{N:Nat->Y'}{F:WP}{H:bt}{α:Type}[bD α]{s:Sl (Sl α)}{i:Nat}
theorem el{u:Sl α}(h:s.l[i]?=M u):oh 1 (cE s) (i:Int)=M (.fptr [cE u]):=by have:=OH (N:=λn=>n) s _r (i:Int) 1 rfl;simp only[bW]at this;rw[this,show idx s (i:Int)=M u from by unfold idx;grind];rfl
theorem lnS(s:Sl α):qP (cE s)=M (.int _r (W s.l)):=by have:=L_ (N:=λn=>n) s;simpa only[bW]using this
attribute [local simp] d_ lJ gJ bW nr uF pg uI lnS bI ln ix ld
theorem y3:(get F 0=cE s->∃F',(∀call,d_ E N call J r3 F H=M (F',H))/\get F' 9=cE s/\get F' 10=.int _r (W s.l)/\get F' 11=.int _r 0/\∀j,j<9->get F' j=get F j)/\
 (get F 0=cE s->∃F',(∀call,d_ E N call J M9 F H=M (F',H))/\get F' 25=cE s/\get F' 26=.int _r (W s.l)/\get F' 27=.int _r 0/\∀j,j<9->get F' j=get F j):=by
 refine⟨λa=>⟨_,λcall=>by simp[r3,a];rfl,?_⟩,λa=>⟨_,λcall=>by simp[M9,a];rfl,?_⟩⟩<;>
  (simp;grind)
theorem y4{n:Nat}:(get F 11=.int _r i->get F 10=.int _r n->∃F',(∀call,d_ E N call J r4 F H=M (F',H))/\get F' 12=.bool (_s (i<n))/\∀j,j<12->get F' j=get F j)/\
 (get F 27=.int _r i->get F 26=.int _r n->∃F',(∀call,d_ E N call J M6 F H=M (F',H))/\get F' 28=.bool (_s (i<n))/\∀j,j<28->get F' j=get F j):=by
 refine⟨λf u=>⟨_,λcall=>by simp[r4,f,u];rfl,?_⟩,λf u=>⟨_,λcall=>by simp[M6,f,u];rfl,?_⟩⟩<;>
  (simp;grind)
theorem y5{u:Sl α}(h:s.l[i]?=M u):(get F 9=cE s->get F 11=.int _r i->∃F',(∀call,d_ E N call J r5 F H=M (F',H))/\get F' 5=cE u/\∀j,j<12->j≠5->get F' j=get F j)/\
 (get F 25=cE s->get F 27=.int _r i->∃F',(∀call,d_ E N call J K7 F H=M (F',H))/\get F' 8=cE u/\∀j,j<28->j≠8->get F' j=get F j):=by
 have e:=el h;have e2:gI H (.load 1 O) [.fptr [cE u]]=M (cE u):=by simp[gI,fJ,cut,mk]
 refine⟨λf w=>⟨_,λcall=>by simp[r5,f,w,e,e2];rfl,?_⟩,λf w=>⟨_,λcall=>by simp[K7,f,w,e,e2];rfl,?_⟩⟩<;>
  (simp;grind)
theorem y6{u:Sl α}{t:Nat}(B:get F 3=.int _r t)(a:get F 5=cE u)(D:t+W u.l<=2147483648):∃F',(∀call,d_ E N call J r6 F H=M (F',H))/\get F' 3=.int _r ((t+W u.l:Nat):Int)/\∀j,j<12->j≠3->get F' j=get F j:=by
 have w:w? _r ((t:Int)+(W u.l:Int))=((t+W u.l:Nat):Int):=by rw[Xx a? a?];simp
 refine⟨_,λcall=>by simp[r6,B,a,w];rfl,f?,?_⟩;simp;grind
theorem y7{t:Nat}(B:get F 3=.int _r t):∃F',(∀call,d_ E N call J r7 F H=M (F',H))/\get F' 20=.bool O/\∀j,j<12->get F' j=get F j:=by refine⟨_,λcall=>by simp[r7,B];rfl,f?,?_⟩;simp;grind
theorem y9(hi:i<=2147483648):(get F 11=.int _r i->∃F',(∀call,d_ E N call J r9 F H=M (F',H))/\get F' 11=.int _r ((i+1:Nat):Int)/\∀j,j<11->get F' j=get F j)/\
 (get F 27=.int _r i->∃F',(∀call,d_ E N call J MJ F H=M (F',H))/\get F' 27=.int _r ((i+1:Nat):Int)/\∀j,j<27->get F' j=get F j):=by
 have u:=SP hi;refine⟨λf=>⟨_,λcall=>by simp[r9,f,u];rfl,?_⟩,λf=>⟨_,λcall=>by simp[MJ,f,u];rfl,?_⟩⟩<;>
  (simp;grind)
structure Acc(H:bt)(w:V)(acc:List (List V)):Prop where
 el:dZ H 1 w=some acc
 gr:∃H1,iU H w=some H1/\H1.length=H.length
 sh:w=.bN/\acc=[]\/∃id xs,w=.hsl id 1 0 acc.length/\H[id]?=some (.row 1 xs)/\(acc≠[]->xs=acc)
theorem Zj(H:bt)(u:Sl α)(a:bD.size α=1):dZ H 1 (cE u)=M (rows u.l):=by cases u<;>simp[cE,Sl.k,Sl.l,lQ,dZ,rows,a]
theorem y14{w:V}{b:S'}{u:Sl α}(f:bD.size α=1)(a:Acc H w b)(f6:get F 6=w)(D:get F 8=cE u)(h:W b+W u.l<=2147483648):
 ∃F' H' w',(∀call,d_ E N call J K6 F H=M (F',H'))/\get F' 6=w'/\Acc H' w' (b++rows u.l)/\(u.l=[]->w'=w)/\∀j,j<28->j≠6->get F' j=get F j:=by
 have c:=Zj H u f;have C:W (rows u.l)=W u.l:=by simp[rows]
 have key:∃H' w',f_ H (.append 1) [w,cE u]=M (w',H')/\Acc H' w' (b++rows u.l)/\(u.l=[]->w'=w):=by have⟨H1,g1,g2⟩:=a.gr;cases d:rows u.l with|nil=>exact⟨H,w,by simp only[f_,a.el,c,d],g?,λ_=>rfl⟩|cons y B=>have G:W b+W (y::B)<=2147483648:=g?;refine⟨H1++[.row 1 (b++y::B)],.hsl (W H) 1 0 (W b+W (y::B)),by simp only[f_,a.el,c,d];grind,?_⟩;have z:(H1++[Ob.row 1 (b++y::B)])[W H]?=M (.row 1 (b++y::B)):=g?;refine⟨⟨?_,⟨_,by simp only[iU,z];rfl,f?⟩,.inr ⟨W H,b++y::B,f?,z,λ_=>rfl⟩⟩,λe=>g?⟩;simp only[dZ,z,ζb,Ob.rows,N',c5,List.drop_zero];grind
 have⟨H',w',k1,k2,k3⟩:=key;refine⟨_,H',w',λcall=>by simp[K6,f6,D,k1];rfl,f?,k2,k3,?_⟩
 simp;grind
def upto(s:Sl (Sl α))(i:Nat):aY α:=(s.l.take i).flatMap Sl.l
theorem Jj{u:Sl α}(h:s.l[i]?=M u):upto s (i+1)=upto s i++u.l:=by unfold upto;obtain⟨hi,rfl⟩:=ζe.1 h;rw[List.take_succ_eq_append_getElem hi,List.flatMap_append];simp
theorem Od(s:Sl (Sl α))(i:Nat):W (upto s i)<=W (s.l.flatMap Sl.l):=by
 have:s.l.flatMap Sl.l=upto s i++(s.l.drop i).flatMap Sl.l:=by unfold upto;rw[<-List.flatMap_append,List.take_append_drop]
 grind
theorem lp1(l:_m s.l<=2147483648)(m:_m (s.l.flatMap Sl.l)<=2147483648):∀(d i:Nat)(F:WP),i+d=_m s.l->get F 9=cE s->get F 10=.int _r (_m s.l)->get F 11=.int _r i->get F 3=.int _r (_m (upto s i))->
 ∃F',tN E N L9 F H (.exit 0) F' H/\get F' 3=.int _r (_m (s.l.flatMap Sl.l))/\get F' 0=get F 0:=by
 intro d
 induction d with
 |zero=>
  intro i F hi a__ w z G;have⟨F1,a1,a2,B⟩:=(y4 (E:=E) (N:=N) (H:=H) (n:=_m s.l)).1 z w;refine⟨F1,tN.stop (Ex.seq (Ex.eO a1) (Ex.BA (Ex.xd (by show get F1 12=_;grind) Ex.exit) f?)) f?,?_,B 0 a?⟩
  rw[B 3 a?,G]
  have:upto s i=s.l.flatMap Sl.l:=by unfold upto;grind
  simp_all
 |succ d Q=>
  intro i F hi a__ w z G;have⟨F1,a1,a2,B⟩:=(y4 (E:=E) (N:=N) (H:=H) (n:=_m s.l)).1 z w;have b:s.l[i]?=M s.l[i]:=ζd a?
  have⟨S,T,y,W⟩:=(y5 (E:=E) (N:=N) (F:=F1) (H:=H) b).1 g? g?
  have D:=Od s (i+1);have I:=Jj b;rw[I,ζi]at D;have⟨X,Y,q,Z⟩:=y6 (E:=E) (N:=N) (F:=S) (H:=H) (u:=s.l[i]) (t:=_m (upto s i)) o? y a?
  have⟨L,e,f,c⟩:=y7 (E:=E) (N:=N) (F:=X) (H:=H) q;have C:∀j,j<12->j≠3->j≠5->get L j=get F j:=λj a g h=>by rw[c j a,Z j a g,W j a h,B j a]
  have⟨k,e1,e2,e3⟩:=(y9 (E:=E) (N:=N) (F:=L) (H:=H) (i:=i) a?).1 (by rw[C 11 a? a? a?];exact z)
  have⟨F',g1,g2,g3⟩:=Q (i+1) k a? (by rw[e3 9 a?,C 9 a? a? a?];omega) (by rw[e3 10 a?,C 10 a? a? a?];exact w) e2 (by rw[e3 3 a?,c 3 a?,q,I,ζi])
  exact⟨F',tN.step (Ex.seq (Ex.eO a1) (Ex.seq (Ex.uq (by show get F1 12=_;rw[a2,_c a?]) Ex.skip) (Ex.seq (Ex.block (Ex.seq (Ex.eO T) (Ex.seq (Ex.eO Y) (Ex.seq (Ex.eO e) (Ex.xd f Ex.skip))))) (Ex.eO e1)))) g1,g2,by rw[g3,e3 0 a?,C 0 a? a? a?]⟩
theorem lp2(b:bD.size α=1)(h:_m s.l<=2147483648)(k:_m (s.l.flatMap Sl.l)<=2147483648):∀(d i:Nat)(F:WP)(H:bt)(w:V),i+d=_m s.l->get F 25=cE s->get F 26=.int _r (_m s.l)->get F 27=.int _r i->get F 6=w->Acc H w (rows (upto s i))->
 ∃F' H' w',tN E N L15 F H (.exit 2) F' H'/\get F' 6=w'/\Acc H' w' (rows (s.l.flatMap Sl.l))/\(_m (s.l.flatMap Sl.l)=0->w'=w):=by
 intro d
 induction d with
 |zero=>
  intro i F H w hi C B z f6 a;have⟨F1,a1,a2,a__⟩:=(y4 (E:=E) (N:=N) (H:=H) (n:=_m s.l)).2 z B;have:upto s i=s.l.flatMap Sl.l:=by unfold upto;grind
  rw[this]at a;exact⟨F1,H,w,tN.stop (Ex.seq (Ex.eO a1) (Ex.BA (Ex.xd (by show get F1 28=_;grind) Ex.exit) f?)) f?,g?,a,λ_=>rfl⟩
 |succ d Q=>
  intro i F H w hi C B z f6 a;have⟨F1,a1,a2,a__⟩:=(y4 (E:=E) (N:=N) (H:=H) (n:=_m s.l)).2 z B;have c:s.l[i]?=M s.l[i]:=ζd a?
  have⟨S,T,y,l⟩:=(y5 (E:=E) (N:=N) (F:=F1) (H:=H) c).2 g? g?
  have D:=Od s (i+1);have I:=Jj c;rw[I,ζi]at D;have⟨q,H',w',W,X,L,Y,m⟩:=y14 (E:=E) (N:=N) (F:=S) (H:=H) (u:=s.l[i]) b a g? y (by simp only[iz];omega)
  have G:∀j,j<28->j≠6->j≠8->get q j=get F j:=λj b o p=>g?
  have⟨Z,e1,e2,e3⟩:=(y9 (E:=E) (N:=N) (F:=q) (H:=H') (i:=i) a?).2 (by rw[G 27 a? a? a?];exact z)
  have f:rows (upto s i)++rows s.l[i].l=rows (upto s (i+1)):=by rw[I];simp[rows]
  rw[f]at L;have⟨F',H2,g,g1,g2,g3,g4⟩:=Q (i+1) Z H' w' a? (by rw[e3 25 a?,G 25 a? a? a?];omega) (by rw[e3 26 a?,G 26 a? a? a?];omega) e2 (by rw[e3 6 a?];exact X) L
  exact⟨F',H2,g,tN.step (Ex.seq (Ex.eO a1) (Ex.seq (Ex.uq (by show get F1 28=_;rw[a2,_c a?]) Ex.skip) (Ex.seq (Ex.block (Ex.seq (Ex.eO T) (Ex.eO W))) (Ex.eO e1)))) g1,g2,g3,λe=>(g4 e).trans (Y (List.eq_nil_of_length_eq_zero a?))⟩
end
end catX
theorem Zl{E:Env}{f gf:Y'}{nm:Y'->aX Nat}{N:Nat->Y'}{gid:Nat}(A:∀f s,nm f=_k s->N s=f)(hg:N gid=gf)(aa:E.keep gf=U)(b__:E.own gf=U)
 (hf:∃fi,E.ft f=_k fi/\bV ⟨E,nm,fi.ntmps⟩ O fi.body=_k (catX.cat gid)/\2<=fi.ntmps/\fi.results=[.tmp 2])
 (ab:∃fi,E.ft gf=_k fi/\bV ⟨E,nm,fi.ntmps⟩ O fi.body=_k catX.grow/\2<=fi.ntmps/\fi.results=[.tmp 4])
 {α:Type}[bD α](K:bD.size α=1)(s:Sl (Sl α))(M:_m s.l<=2147483648)(ht:_m (s.l.flatMap Sl.l)<=2147483648):Ft E f [cE s] (cE (EJ s)):=by
 have⟨fi,p1,p2,p3,p4⟩:=hf;have⟨gi,q1,q2,q3,q4⟩:=ab;generalize P:_m (s.l.flatMap Sl.l)=T at *;have⟨Fg,ad,ae⟩:=catX.Zr (E:=E) (N:=N) ht;have⟨R,c__⟩:=Ex.run A q1 q2 (args:=[.bN,.int _r T]) g? ad (vs:=[if T=0 then .bN else .hsl 0 1 0 0]) (by rw[q4];simp[jS,ae])
 have Q:∀l,borrows l [] [.bN,.int _r (T:Int)]=_k [.bN,.int _r (T:Int)]:=λl=>by unfold borrows;simp only[jN,lg l [] (x:=V.bN) _l,lg l [] (x:=V.int _r T) _l]
 have D:∃w G,(∀k,R<=k->iP E (run E k) gf [.bN,.int _r T] []=_k (w,G))/\catX.Acc G w []/\(T=0->w=.bN):=by by_cases z:T=0;refine⟨.bN,[],λk d=>?_,⟨_l,⟨[],_l,_l⟩,.inl ⟨_l,_l⟩⟩,λ_=>rfl⟩;have:=(rL E d).go _ _ _ _ c__;rw[L' z,L' z]at this;unfold iP oF;rw[L' b__];simp[Q,this,result,V.scalar];refine⟨.hsl 0 1 0 0,[.row 1 (replicate T [.bN])],λk d=>?_,⟨by simp[dZ,Ob.rows],⟨_,_l,f?⟩,.inr ⟨0,_,_l,_l,λh=>_e _l h⟩⟩,λh=>_e h z⟩;have:=(rL E d).go _ _ _ _ c__;rw[M' z,M' z]at this;unfold iP oF;rw[L' b__];simp only[Q,N',this,result,V.scalar,v?,_a,vG,List.getElem?_cons_zero,true_and];rw[L' (by simp[List.all_replicate,V.scalar])];simp
 have⟨w,G,aj,af,S⟩:=D;have W:T≠0->rows (s.l.flatMap Sl.l)≠[]:=λh e=>h (by rw[<-P,<-iz,e];rfl)
 have B:∀c∈rows (s.l.flatMap Sl.l),V.c_ c=U:=λc o=>by obtain⟨x,_,rfl⟩:=mem_map.1 o;exact bD.good x
 have g1:∀call,d_ E N call J catX.r1 [cE s] []=_k (set [cE s] 2 .bN,[]):=λcall=>vp (v:=.bN) _l (by simp[lJ,gJ,bW]) yh
 have k0:get (set [cE s] 2 .bN) 0=cE s:=rfl;generalize set [cE s] 2 .bN=F0 at *;have g2:∀call,d_ E N call J catX.r2 F0 []=_k (set F0 3 (.int _r 0),[]):=λcall=>vp (v:=.int _r 0) _l (by simp[lJ,gJ,bW]) yh
 have⟨F2,a1,a2,a3,a4,a5⟩:=(catX.y3 (E:=E) (N:=N) (F:=set F0 3 (.int _r 0)) (H:=[]) (s:=s)).1 o?
 have⟨F3,b1,b2,b3⟩:=catX.lp1 (E:=E) (N:=N) (H:=[]) M a? (_m s.l) 0 F2 a? a2 a3 a4 (by rw[a5 3 a?,vB];rfl)
 rw[P]at b2;have ak:get F3 0=cE s:=o?
 have p:∃X,(∃n,∀k,n<=k->d_ E N (run E k) J (catX.MO gid) F3 []=_k (X,G))/\get X 6=w/\get X 0=cE s:=by refine⟨_,⟨R,λk d=>vp (v:=.int _r T) _l ?_<|XM (v:=w) (H1:=G) _l ?_<|vp (v:=w) _l ?_ yh⟩,?_,?_⟩;simp[lJ,gJ,bW,b2];simp only[lJ,K?,X!,gJ,nr,uF,Nat.reduceEqDiff,N',_a,hg,aa,w7,a7];grind;simp[lJ,gJ,bW,nr];simp[nr];simp only[nr,uF,Nat.reduceEqDiff,_a];omega
 have⟨X,p,c2,c3⟩:=p;have⟨F5,d1,d2,d3,d4,d5⟩:=(catX.y3 (E:=E) (N:=N) (F:=X) (H:=G) (s:=s)).2 c3;have⟨F6,Y,a__,e1,e2,e3,e4⟩:=catX.lp2 (E:=E) (N:=N) K M a? (_m s.l) 0 F5 G w a? d2 d3 d4 o? af
 have q:∃r,(∀call,d_ E N call J catX.r16 F6 Y=_k (r,Y))/\get r 2=a__:=⟨_,λcall=>vp (v:=a__) _l (by simp[lJ,gJ,bW,e2])<|vp (v:=a__) _l (by simp[lJ,gJ,bW,nr]) yh,by simp[nr]⟩
 have⟨r,q,f2⟩:=q;have⟨n,ah⟩:=Ex.run A p1 p2 (args:=[cE s]) (by simp;omega) (Ex.seq (Ex.eO g1) (Ex.seq (Ex.eO g2) (Ex.seq (Ex.seq (Ex.eO a1) (Ex.G0 (Ex.loop b1))) (Ex.seq (Ex.ops p) (Ex.seq (Ex.seq (Ex.eO d1) (Ex.G0 (Ex.loop e1))) (Ex.seq (Ex.eO q) Ex.ret)))))) (vs:=[a__]) (by rw[p4];simp[jS,f2])
 refine⟨n,a__,Y,λid=>∃m,a__=.hsl id 1 0 m,ah,?_,?_,?_⟩
 .rcases e3.sh with⟨h,L⟩|⟨id,xs,h,L,y⟩
  .have:T=0:=by grind
   rw[h];unfold EJ;rw[L' a?]
   exact .same _ _l
  by_cases z:T=0
  .have:=e4 a?
   rw[S z]at this;rw[this]at h;cases h
  have t:=y (W z);subst t;unfold EJ;rw[M' a?,h]
  show FR Y _ (.fsl (bD.size α) (rows (s.l.flatMap Sl.l))) _;rw[K];exact .fsl 1 _ id 0 _ ⟨_,_l⟩ (by unfold bz;rw[L];rfl) a? (λi a b Z I=>by rw[c5]at I;rw[Z]at I;cases I;rfl) (λi j a b u v Z I g hv=>by
   rw[c5]at I;rw[Z]at I;cases I;rw[g]at hv;cases hv;exact .same _ (jt.1 (B a (s? Z)) j u g))
 .rintro id ⟨m,h⟩;rcases e3.sh with⟨C,_⟩|⟨ai,xs,C,L,_⟩
  .rw[C]at h;cases h
  rw[C]at h;cases h;unfold bz;rw[L];rfl
 refine⟨λid es ys hz hr c o u g=>?_⟩
 have⟨m,h⟩:=hz;rcases e3.sh with⟨C,_⟩|⟨ai,xs,C,L,y⟩
 .rw[C]at h;cases h
 rw[C]at h;cases h
 by_cases z:T=0
 .have:=e4 a?
  rw[S z]at this;rw[this]at C;cases C
 have t:=y (W z);subst t;unfold bz at hr;rw[L]at hr;cases hr;have⟨j,hj⟩:=B! g;exact⟨u,.same _ (jt.1 (B c o) j u hj)⟩
def BF(op:X')(x y:Int):Int:=cond op x y
@[simp] theorem acr(x y:Int):BF U x y=x:=rfl
@[simp] theorem acD(x y:Int):BF O x y=y:=rfl
namespace setX
instance{n:Nat}:OfNat Arg n:=⟨.s n⟩
def fa(k:Nat):K:=.p (.fieldAddr k)
def ld:K:=.r (.load 1 O)
def r1:R0:=[o2 4 (.a .box) [1] [],o2 5 (.a .box) [2] []]
def r2:R0:=[o1 6 0 [],o2 7 (fa 0) [4] [],o2 8 ld [7] [],o2 9 (fa 1) [4] [],o2 10 ld [9] [],o2 11 (.p (.idxS 1)) [6,8] [],⟨J,J,O,.l (.store 1),[11,10],[],[]⟩]
def r3:R0:=[o1 6 0 [],o2 7 (fa 0) [5] [],o2 8 ld [7] [],o2 9 (fa 1) [5] [],o2 10 ld [9] [],o2 11 (.p (.bin (M .int) J .sub)) [10,.k (.int _r 1)] [],o2 12 (.p (.idxS 1)) [6,8] [],⟨J,J,O,.l (.store 1),[12,11],[],[]⟩]
def code(op:X'):RC:=.seq (.ops r1) (.ops (if op then r3 else r2))
section
variable{E:Env}{N:Nat->Y'}{H:bt}{id off L:Nat}{rs:S'}
theorem WJ{h:Nat}{x y:V}{i:Nat}{v:V}(B:H[h]?=M (.row 2 [[x,y]]))(a:[x,y][i]?=M v):gI H (.load 1 O) [.hptr h 0 i]=M v:=by match i,a with|0,a=>cases a;simp[gI,fJ,B,Ob.rows,cut,mk]|1,a=>cases a;simp[gI,fJ,B,Ob.rows,cut,mk]|i+2,a=>simp at a
attribute [local simp] d_ lJ gJ bW nr uF pg uI
theorem whole(op:X'){a b c d:Int}(G:H[id]?=M (.row 1 rs))(hp:0<=(BF op c a))(B:(BF op c a).toNat<L){z:V}(D:rs[off+(BF op c a).toNat]?=M [z]):
 ∃F' X,Ex E N (code op) [.hsl id 1 off L,.agg [.int _r a,.int _r b],.agg [.int _r c,.int _r d]] H .norm F' ((H++X).set id (.row 1 (rs.set (off+(BF op c a).toNat) [.int _r (BF op (w? _r (d-1)) b)]))):=by
 let X:bt:=[.row 2 [[.int _r a,.int _r b]],.row 2 [[.int _r c,.int _r d]]]
 have I:=(ζe.1 G).1;have e1:∃F1,(∀call,d_ E N call J r1 [.hsl id 1 off L,.agg [.int _r a,.int _r b],.agg [.int _r c,.int _r d]] H=M (F1,H++X))/\get F1 0=.hsl id 1 off L/\get F1 4=.hptr (_m H) 0 0/\get F1 5=.hptr (_m H+1) 0 0:=by exact⟨_,λcall=>by simp[r1,get,set,od,V.cells,V.one,Mk.val,X];rfl,_l,_l,_l⟩
 have⟨F1,p1,p2,p3,p4⟩:=e1;have e:(H++X)[id]?=M (.row 1 rs):=by rw[u? I];exact G
 have h:(H++X)[_m H]?=M (.row 2 [[.int _r a,.int _r b]]):=by simp[X]
 have y:(H++X)[_m H+1]?=M (.row 2 [[.int _r c,.int _r d]]):=by rw[H? a?];simp[X]
 obtain⟨H1,Q⟩:∃H1,H1=H++X:=⟨_,_l⟩;rw[<-Q]at e h y;rw[<-Q]at p1
 suffices W:∃F',Ex E N (code op) [.hsl id 1 off L,.agg [.int _r a,.int _r b],.agg [.int _r c,.int _r d]] H .norm F' (H1.set id (.row 1 (rs.set (off+(BF op c a).toNat) [.int _r (BF op (w? _r (d-1)) b)])))by have⟨F',Y⟩:=W;exact⟨F',X,by rw[<-Q];exact Y⟩
 have w:∀p:Int,0<=p->p.toNat<L->oh 1 (.hsl id 1 off L) p=M (.hptr id (off+p.toNat) 0):=λp g Z=>by unfold oh;rw[M' a?];simp[Z]
 have C:∀(q:Nat)(z v:V),rs[q]?=M [z]->v.one=U->f_ H1 (.store 1) [.hptr id q 0,v]=M (.undef,H1.set id (.row 1 (rs.set q [v]))):=λq z v D f=>by simp[f_,e,D,JL f,f]
 cases op with
 |false=>
  simp only[acD]at hp B D⊢;have S:=WJ (i:=0) h _l;have T:=WJ (i:=1) h _l;have e2:∃u,(∀call,d_ E N call J r2 F1 H1=M (u,H1.set id (.row 1 (rs.set (off+a.toNat) [.int _r b])))):=by exact⟨_,λcall=>by simp[r2,p2,p3,fa,ld,tq,S,T,w a hp B,C _ z (.int _r _) D _l];rfl⟩
  have⟨u,j⟩:=e2;exact⟨u,Ex.seq (Ex.eO p1) (Ex.eO (l:=_) j)⟩
 |true=>
  simp only[acr]at hp B D⊢;have S:=WJ (i:=0) y _l;have T:=WJ (i:=1) y _l;have e2:∃u,(∀call,d_ E N call J r3 F1 H1=M (u,H1.set id (.row 1 (rs.set (off+c.toNat) [.int _r (w? _r (d-1))])))):=by exact⟨_,λcall=>by simp[r3,p2,p4,fa,ld,tq,S,T,w c hp B,C _ z (.int _r _) D _l];rfl⟩
  have⟨u,j⟩:=e2;exact⟨u,Ex.seq (Ex.eO p1) (Ex.eO (l:=_) j)⟩
end
end setX
section
variable{S:Sys}{c:b_}{β γ δ α:Type}[bD δ]{Q:Out×St->aX β}{e:γ->aX β}{cf:Cf}
end
def snap(w:World):cN:=λb=>match w.heap[b]?with
 |some (.cells c _ _)=>M (.cells c)|some (.map es _)=>M (.map es)|_=>J
theorem UU{w:World}(a:xw (snap w)):dD (snap w) (λ_=>J) [] w where
 dom _ _:=rfl
 imm b x h:=by unfold snap at h;split at h;(next c el fr u=>cases h;exact⟨el,fr,u⟩);(next es d u=>cases h;exact⟨d,u⟩);cases h
 obs id ob h:=by simp at h
 inj id z ob B p C h:=by simp at h
 gl:=a
def gy(I:cN)(xs:So)(vs:aY V'):Prop:=W xs=W vs/\∀(j:Nat)a b,xs[j]?=M a->vs[j]?=M b->fE I a b
theorem gy.nil{I:cN}:gy I [] []:=⟨Y,f?⟩
theorem gy.one{I:cN}{x:V}{v:V'}(h:fE I x v):gy I [x] [v]:=⟨Y,λj a b c u=>by
 cases j with
 |zero=>simp at c u;subst c u;exact h|succ j=>simp at c⟩
theorem gy.append{I:cN}{xs ys:So}{B vs:aY V'}(h:gy I xs B)(k:gy I ys vs):gy I (xs++ys) (B++vs):=by refine⟨by simp[h.1,k.1],λj a b c u=>?_⟩;by_cases w:j<W xs;rw[u? w]at c;rw[u? (by rw[<-h.1];exact w)]at u;exact h.2 j a b c u;rw[H? a?]at c;rw[H? (by rw[<-h.1];omega),<-h.1]at u;exact k.2 _ a b c u
theorem Fe{α β:Type}{f:α->aX β}:∀{l:aY α}{r:aY β},l.mapM f=M r->W r=W l/\∀(i:Nat)a b,l[i]?=M a->r[i]?=M b->f a=M b
 |[],r,h=>by simp only[List.mapM_nil,b8,ζa]at h;subst h;simp|x::l,r,h=>by simp only[List.mapM_cons,Option.bind_eq_bind,b8,ζg,ζa]at h;obtain⟨y,D,ys,B,rfl⟩:=h;have⟨c,z⟩:=Fe B;refine⟨by simp[c],λi a b u w=>?_⟩;cases i with|zero=>simp at u w;subst u w;exact D|succ i=>exact z i a b (by simpa using u) (by simpa using w)
structure vH{H:Type}(b:DataW H->Nat):Prop where
 lit:∀l,1<=b (.lit l)
 str:∀s,s.length+1<=b (.lit (.string s))
 nil:1<=b .nil
 slice:∀es sp,(es.map b).sum+1<=b (.slice es sp)
 agg:∀ps,(ps.map b).sum+1<=b (.agg ps)
class cA(α:Type)where
 wt:α->Nat
 ok:α->Prop
instance:cA Int where
 wt _:=1
 ok n:=-9223372036854775808<=n/\n<=9223372036854775807
instance:cA X' where
 wt _:=1
 ok _:=True
instance:cA U' where
 wt s:=s.size+1
 ok s:=s.size<=maxLen
instance{α:Type}[cA α]:cA (Sl α)where
 wt s:=(s.l.map cA.wt).sum+1
 ok s:=(∀x∈s.l,cA.ok x)/\s≠.emp
class Reads(P:Program)(t:TypeId)(α:Type)[bD α][cA α]:Prop where
 size:P.cellsOf t=bD.size α
 rd:∀{H:Type}{enc:TypeId×Value->H}{w:World}{j?:Nat}{spare:Nat->Bool}{held:Bool}{fuel:Nat}{cs:List Value}{d:DataW H}{ps:List MemPlace},
  i6 enc P w j? spare held fuel t cs=some (d,ps)->∃a:α,gy (snap w) (cells a) cs/\cA.ok a/\∀b:DataW H->Nat,vH b->cA.wt a<=b d
 shape:∀{w:World}{r:_root_.Go.Reach}{j?:Nat}{v:Value},x6 P w r j? t v->if bD.agg α then∃cs,v=.agg cs else v.cells=#[v]
section
variable{P:Program}
theorem tS{w:World}{r:_root_.Go.Reach}{j?:Nat}{t:W'}{v:V'}{u:_}(a:P.underlying t=M u)(b:∀fs,u≠.struct fs)(B:∀n e,u≠.array n e)(h:x6 P w r j? t v):v.cells=#[v]:=by cases v with|agg cs=>exfalso;unfold x6 at h;rw[a]at h;split at h;(next fs z=>cases z;exact b _ Y);(next n e z=>cases z;exact B _ _ Y);(unfold Cell.okWide at h;rw[a]at h;split at h<;>first|(simp at *;done)|skip);unfold Cell.ok at h;rw[a]at h;cases u<;>simp at h|_=>rfl
theorem Reads.int{t:W'}(a:P.underlying t=M (.int _r))(c:P.cellsOf t=1):Reads P t Int where
 size:=c
 rd {H enc w j? spare held z cs d ps} h:=by cases z with|zero=>simp[i6]at h|succ z=>(simp only[i6,a]at h;split at h<;>first|(simp at h;done)|skip);(next u=>cases u);rename_i k D n u;simp only[ζa,TypeDesc.int.injEq]at u;split at h;(next e=>obtain⟨rfl,B⟩:=e;subst u;cases h;exact⟨n,gy.one (.int _ n),show _/\_ by simpa[Lit.wf,IntKind.min,IntKind.max,i8,IntKind.bits]using B,λb C=>C.lit _⟩);simp at h;all_goals (rename_i u;cases u)
 shape h:=by simp only[show bD.agg Int=O from Y];exact tS a f? f? h
theorem Reads.bool{t:W'}(a:P.underlying t=M .bool)(c:P.cellsOf t=1):Reads P t X' where
 size:=c
 rd {H enc w j? spare held u cs d ps} h:=by cases u with|zero=>simp[i6]at h|succ u=>(simp only[i6,a]at h;split at h<;>first|(simp at h;done)|skip);(next b _=>cases h;exact⟨b,gy.one (.bool b),trivial,λb B=>B.lit _⟩);all_goals (rename_i z;cases z)
 shape h:=by simp only[show bD.agg X'=O from Y];exact tS a f? f? h
theorem Reads.str{t:W'}(a:P.underlying t=M .string)(c:P.cellsOf t=1):Reads P t U' where
 size:=c
 rd {H enc w j? spare held u cs d ps} h:=by cases u with|zero=>simp[i6]at h|succ u=>(simp only[i6,a]at h;split at h<;>first|(simp at h;done)|skip);(all_goals (first|(rename_i z;cases z;done)|skip));rename_i s _;split at h;(next B=>cases h;exact⟨s,gy.one (.str s),B,λb C=>C.str _⟩);simp at h
 shape h:=by simp only[show bD.agg U'=O from Y];exact tS a f? f? h
theorem V3{w:World}{a:Addr}{n:Nat}{v:V'}(h:w.cell? (a.add n)=M v)(D:n=0\/True):∃c el fr,w.heap[a.block]?=M (.cells c el fr)/\c[a.off+n]?=M v/\(n=0->a.spot=J):=by
 unfold cell? Addr.add at h;by_cases u:n=0;subst u;simp only[N']at h;split at h;rename_i c el fr z;split at h;simp at h;rename_i B;exact⟨c,el,fr,z,h,λ_=>by simpa using B⟩;simp at h;simp only[M' u]at h;split at h;next c el fr z=>simp only[Option.isSome_none,v?,_a]at h;exact⟨c,el,fr,z,h,λe=>_e e u⟩
 simp at h
def uG(P:Program)(t:W')(α:Type)[bD α][cA α](B:Nat):Prop:=∀{H:Type}{enc:W'×V'->H}{w:World}{j?:Nat}{c:Nat->X'}{e:X'}{cs:aY V'}{d:DataW H}{ps:aY MemPlace},i6 enc P w j? c e B t cs=M (d,ps)->∃a:α,gy (snap w) (cells a) cs/\cA.ok a/\∀b:DataW H->Nat,vH b->cA.wt a<=b d
theorem uG.sl {t e:TypeId} {α:Type} [bD α] [cA α] {q:Nat} (hu:P.underlying t=some (.slice e)) (ae:P.cellsOf e=bD.size α) (T:0<bD.size α) (hr:uG P e α q):uG P t (Sl α) (q+1):=by
 intro H enc w j? spare held cs d ps h;simp only[DataW.trod,hu]at h;split at h <;> first|(simp at h;done)|skip
 all_goals (first|(rename_i I;cases I;done)|skip)
 .cases h;exact⟨.nil,gy.one .bN,⟨λx a__=>by simp[Sl.l]at a__,by simp⟩,λb W=>W.nil⟩
 rename_i e' a len cap I;cases I;split at h
 .rename_i X;obtain⟨elems,af,h⟩:=ζg.1 h;obtain⟨i?,_,h⟩:=ζf.1 h;cases h;obtain⟨Y,Z⟩:=Fe af;simp only[List.length_range]at Y;have a__:∀i,i<len->∃x:α,∃u:aY Value,w.cells? j? (a.add (i*P.cellsOf e)) (P.cellsOf e)=some u/\gy (snap w) (cells x) u/\cA.ok x/\∀b:DataW H->Nat,vH b->∀y,elems[i]? = some y->cA.wt x<=b y.1:=λi hi=>by
   have:=Z i i (elems[i]' a?) (by simp[hi]) (ζd a?)
   obtain⟨u,h1,L⟩:=ζg.1 this;obtain⟨x,a__,hk,W⟩:=hr (show _=some ((elems[i]' a?).1,(elems[i]' a?).2)from L)
   exact⟨x,u,h1,a__,hk,λb b__ y hy=>by
    rw[ζd a?]at hy;cases hy;exact W b b__⟩
  have aa:∀n,n<=len->∃z:aY α,z.length=n/\(∀i x,z[i]? = some x->∃u:aY Value,w.cells? j? (a.add (i*P.cellsOf e)) (P.cellsOf e)=some u/\gy (snap w) (cells x) u)/\(∀x∈z,cA.ok x)/\∀b:DataW H->Nat,vH b->(z.map cA.wt).sum<=(((elems.take n).map (·.1)).map b).sum:=by
   intro n
   induction n with
   | zero=>intro _;exact⟨[],rfl,by simp,by simp,by simp⟩
   | succ n ih=>
    intro hn;obtain⟨z,h1,L,h5,h6⟩:=ih a?
    obtain⟨x,u,h3,h4,h7,h8⟩:=a__ n a?
    refine⟨z++[x],by simp[h1],λi y hy=>?_,λy hy=>?_,λb b__=>?_⟩
    rotate_left
    .rcases List.mem_append.1 hy with hy|hy
     .exact h5 y hy
     simp at hy;subst hy;exact h7
    .have k1:=h6 b b__;have k2:=h8 b b__ _ (ζd a?)
     rw[List.take_succ,ζd (by omega:n<elems.length)]
     simp only[List.map_append,List.sum_append,Option.toList_some,List.map_cons,List.map_nil,List.sum_cons,List.sum_nil];omega
    by_cases hi:i<z.length
    .rw[List.getElem?_append_left hi]at hy;exact L i y hy
    rw[List.getElem?_append_right a?]at hy
    have:i-z.length=0:=by
     cases hk:i-z.length with
     | zero=>rfl
     | succ k=>rw[hk]at hy;simp at hy
    rw[this]at hy;simp at hy;subst hy;have:i=n:=by omega
    subst this;exact⟨u,h3,h4⟩
  obtain⟨z,C,ah,ab,ai⟩:=aa len (Nat.le_refl _);refine⟨.row z,gy.one ?_,⟨ab,by simp⟩,λb b__=>?_⟩
  rotate_left
  .have k:=ai b b__;rw[List.take_of_length_le a?]at k
   have k2:=b__.slice (elems.map (·.1)) (i?.map (·.1));show (z.map cA.wt).sum+1<=_;omega
  show fE _ (.fsl (bD.size α) (rows z)) _
  cases hl:z with
  | nil=>
   subst hl;simp at C;subst C;exact .fsl0 _ _ _
  | cons x0 xr=>
   rw[<-hl];have ao:0<len:=by rw[<-C,hl];simp
   have Q:∀i x,z[i]? = some x->∀j y,(cells x)[j]? = some y->∃v,w.cell? ((a.add (i*bD.size α)).add j)=some v/\fE (snap w) y v:=by
    intro i x hi j y hy;obtain⟨u,h1,L⟩:=ah i x hi;rw[ae]at h1;unfold World.cells? at h1;split at h1
    .obtain⟨g1,g2⟩:=Fe h1;have hj:j<bD.size α:=by rw[<-jv x];exact(ζe.1 hy).1
     obtain⟨v,hv⟩:∃v,u[j]? = some v:=⟨_,ζd (by rw[g1];simpa using hj)⟩
     exact⟨v,g2 j j v (by simp[hj]) hv,L.2 j y v hy hv⟩
    simp at h1
   have an:∀i j,(a.add (i*bD.size α)).add j=a.add (i*bD.size α+j)\/True:=λ_ _=>.inr trivial
   have B:∀i x,z[i]? = some x->∀j y,(cells x)[j]? = some y->∃c el fr v,w.heap[a.block]? = some (.cells c el fr)/\c[a.off+i*bD.size α+j]? = some v/\fE (snap w) y v/\(i=0->j=0->a.spot=none):=by
    intro i x hi j y hy;obtain⟨v,h1,L⟩:=Q i x hi j y hy;obtain⟨c,el,fr,g1,g2,g3⟩:=V3 h1 (.inr trivial);have W:(a.add (i*bD.size α)).block=a.block:=by unfold Addr.add;split <;> rfl
    have ho:(a.add (i*bD.size α)).off=a.off+i*bD.size α:=by unfold Addr.add;split <;> simp_all
    rw[W]at g1;rw[ho]at g2;refine⟨c,el,fr,v,g1,g2,L,?_⟩;rintro rfl rfl;have:=g3 rfl;simpa [Addr.add]using this
   have aj:∃y,(cells x0)[0]? = some y:=⟨_,ζd (by rw[jv];exact T)⟩
   obtain⟨y0,ak⟩:=aj;obtain⟨c,el,fr,v0,D,_,_,G⟩:=B 0 x0 (by rw[hl];rfl) 0 y0 ak
   have G:=G rfl rfl;obtain⟨b,o,sp⟩:=a;simp only at G D;subst G;have hI:snap w b=some (.cells c):=by unfold snap;rw[D]
   have S:(rows z).length=len:=by rw[iz,C]
   rw[<-S];refine .fsl _ _ b o cap c hI (by rw[S];exact X.2.1) (λr hr=>?_) (λr hr y hy=>?_) ?_ (λi j r y v hr hy hv=>?_)
   .obtain⟨x,_,rfl⟩:=List.mem_map.1 hr;exact jv x
   .obtain⟨x,_,rfl⟩:=List.mem_map.1 hr;exact List.all_eq_true.1 (wP x) y hy
   .
    obtain⟨xl,ad⟩:∃x,z[len-1]? = some x:=⟨_,ζd a?⟩
    obtain⟨yl,al⟩:∃y,(cells xl)[bD.size α-1]? = some y:=⟨_,ζd (by rw[jv];omega)⟩
    obtain⟨c2,_,_,v2,k1,k2,_,_⟩:=B (len-1) xl ad (bD.size α-1) yl al;simp only at k1 k2;rw[D]at k1;cases k1;have:=(Array.getElem?_eq_some_iff.1 k2).1;rw[S];have e:len*bD.size α=(len-1)*bD.size α+bD.size α:=by
     obtain⟨m,rfl⟩:∃m,len=m+1:=⟨len-1,by omega⟩
     simp[Nat.add_mul]
    omega
   simp only[rows,List.getElem?_map,ζf]at hr;obtain⟨x,am,rfl⟩:=hr;obtain⟨c2,_,_,v2,k1,k2,k3,_⟩:=B i x am j y hy;simp only at k1 k2;rw[D]at k1;cases k1;rw[hv]at k2;cases k2;exact k3
 simp at h
theorem uG.slF{t e:W'}{α:Type}[bD α][cA α]{B:Nat}(c:P.underlying t=M (.slice e))(G:P.cellsOf e=bD.size α)(D:0<bD.size α)(i:∀g,g<B->uG P e α g):uG P t (Sl α) B:=by cases B with|zero=>intro H enc w j? a b cs d ps h;simp[i6]at h|succ f=>exact uG.sl c G D (i f (Nat.lt_succ_self f))
theorem Reads.sl{t e:W'}{α:Type}[bD α][cA α][Reads P e α](a:P.underlying t=M (.slice e))(b:P.cellsOf t=1)(B:0<bD.size α):Reads P t (Sl α)where
 size:=b
 rd h:=uG.slF a (Reads.size (α:=α)) B (λ_ _{_ _ _ _ _ _ _ _ _}=>Reads.rd (P:=P) (t:=e) (α:=α)) h
 shape h:=by simp only[show bD.agg (Sl α)=O from Y];exact tS a f? f? h
theorem gy.seg{I:cN}{a xs:So}{cs:aY V'}{o n:Nat}(h:gy I a (cs.take o))(k:gy I xs ((cs.drop o).take n)):gy I (a++xs) (cs.take (o+n)):=by rw[List.take_add];exact h.append k
theorem gy.fin{I:cN}{xs:So}{cs:aY V'}{n:Nat}(h:gy I xs (cs.take n))(B:W cs=n):gy I xs cs:=by rw[a! a?]at h;exact h
theorem uG.st{t:W'}{fs:Array Field}{α:Type}[bD α][cA α]{B:Nat}(i:P.underlying t=M (.struct fs))(j:P.cellsOf t=bD.size α)
 (h:∀{H:Type}{enc:W'×V'->H}{w:World}{j?:Nat}{c:Nat->X'}{e:X'}{cs:aY V'}{l:aY (DataW H×aY MemPlace)},W cs=bD.size α->
  (fs.toList.mapM λf=>i6 enc P w j? c e B f.type ((cs.drop f.offset).take (P.cellsOf f.type)))=M l->∃a:α,gy (snap w) (cells a) cs/\cA.ok a/\∀b:DataW H->Nat,vH b->cA.wt a<=((l.map (·.1)).map b).sum+1):uG P t α (B+1):=by
 intro H enc w j? c e cs d ps g;simp only[i6,i]at g;split at g<;>first|(simp at g;done)|skip
 all_goals (first|(rename_i u;cases u;done)|skip)
 rename_i C;have⟨l,k,D⟩:=ζf.1 g;cases D;have⟨a,k1,k2,k3⟩:=h (by rw[C,j]) k
 exact⟨a,k1,k2,λb z=>Nat.le_trans (k3 b z) (z.agg _)⟩
theorem Reads.of{t:W'}{fs:Array Field}{α:Type}[bD α][cA α](a:P.underlying t=M (.struct fs))(b:P.cellsOf t=bD.size α)(D:bD.agg α=U)(h:∀B,uG P t α B):Reads P t α where
 size:=b
 rd hr:=h _ hr
 shape hv:=by rw[L' D];unfold x6 at hv;rw[a]at hv;have⟨cs,c,_⟩:=hv;exact⟨cs,c⟩
theorem Reads.st{t:W'}{fs:Array Field}{α:Type}[bD α][cA α](g:P.underlying t=M (.struct fs))(i:P.cellsOf t=bD.size α)(D:bD.agg α=U)
 (h:∀{H:Type}{enc:W'×V'->H}{w:World}{j?:Nat}{c:Nat->X'}{e:X'}{B:Nat}{cs:aY V'}{l:aY (DataW H×aY MemPlace)},W cs=bD.size α->
  (fs.toList.mapM λf=>i6 enc P w j? c e B f.type ((cs.drop f.offset).take (P.cellsOf f.type)))=M l->∃a:α,gy (snap w) (cells a) cs/\cA.ok a/\∀b:DataW H->Nat,vH b->cA.wt a<=((l.map (·.1)).map b).sum+1):Reads P t α:=
 Reads.of g i D λB=>by cases B with|zero=>intro H enc w j? c e cs d ps h;simp[i6]at h|succ f=>exact uG.st g i h
theorem Reads.arg{t:W'}{α:Type}[bD α][cA α][Reads P t α]{H:Type}{B:W'×V'->H}{w:World}{j?:Nat}{c:Nat->X'}{e:X'}{r:_root_.Go.Reach}{b:Nat}{v:V'}{d:DataW H}{ps:aY MemPlace}
 (f:x6 P w r b t v)(h:Trod B P w j? c e t v d ps):∃a:α,bP (snap w) (λ_=>J) (enc a) v/\cA.ok a/\∀b:DataW H->Nat,vH b->cA.wt a<=b d:=by
 have⟨I,h⟩:=h;have⟨a,⟨g,z⟩,D,G⟩:=Reads.rd (P:=P) (t:=t) (α:=α) h;have u:=Reads.shape (P:=P) (t:=t) (α:=α) f;refine⟨a,?_,D,G⟩
 cases C:bD.agg α with
 |true=>rw[C,L' Y]at u;obtain⟨cs,rfl⟩:=u;rw[DC C];refine .c _ _ (.agg _ _ (by simpa[Value.cells]using g) (λj x y q L=>z j x y q (by simpa[Value.cells]using L)))|false=>rw[C]at u;simp only[v?,_a]at u;rw[u]at z;rw[xO C]at z;exact .c _ _ (z 0 _ _ Y Y)
end
end Go.VE
namespace Go.VE
variable[b7]
open Go.ChangeShapes Go.WideShapes Go.ChangeAt Go.RowKit
structure MU(w w':World):Prop where
 kept:w.keptBut w' (λ_=>False)
 fz:∀a:Addr,a.block<w.heap.size->w'.frozen? a=w.frozen? a
theorem Kb{I I':cN}{μ':Mu}{H':bt}{w w':World}(s:Step I (λ_=>J) [] w I' μ' H' w'):MU w w':=by
 have B:∀b,b<w.heap.size->w'.heap[b]?=w.heap[b]?:=λb z=>s.frame b z (by rintro⟨id,p,ob,h,_⟩;simp at h);refine⟨⟨s.os,s.out.out,λi hi=>?_⟩,λa z=>?_⟩;rw[B i hi];split;next c u=>rw[c]at u;cases u;exact⟨Y,Y,Y,λ_ _=>rfl⟩
 next c u=>rw[c]at u;cases u;exact .inr ⟨Y,Y⟩
 rfl;unfold World.frozen?;rw[B _ z]
theorem Me{P:Program}{call:en}(a:nC P call){f:Y'}{args:So}{b:X'}{H':bt}(h:call (.fn f) args []=M (.bool b,H')){w:World}{vs:aY V'}
 (D:xw (snap w))(d:c6 (snap w) (λ_=>J) args vs):Calls P f vs.toArray w λe w'=>e=.returned (.bool b)/\MU w w':=by
 intro cs;have k:=((a.fn f args [] _ H' h).2 (snap w) (λ_=>J) w vs (UU D) d)
 obtain⟨e,w',fr,⟨u,I',μ',rfl,g,_,C⟩,z,i,G⟩:=k.2 cs (by simp[Fence.room,fr])
 refine⟨_,w',fr,⟨?_,Kb C⟩,z.comes,i,G⟩
 cases g with
 |c _ _ B=>cases B;rfl
variable{P:Program}{H:Type}{enc:W'×V'->H}
theorem Kj{B:aY W'}{vs:aY V'}{ds:aY (DataW H)}{ps:aY MemPlace}{w w':World}(e:MU w w')(h:g8 enc P w 0 (λ_=>U) U B vs ds ps):g8 enc P w' 0 (λ_=>U) U B vs ds ps:=by
 have z:∀p:MemPlace,p.block<w.heap.size->w.sameAt w' p:=by intro p C;have k:=e.kept.2.2 p.block C;cases p with|cell b off=>simp only[sameAt,cell?];simp only[MemPlace.block]at k C;split at k;rename_i c t fr c' G D a u;rw[a,u];simp only;have:=k.2.2.2 off (λx=>x);simpa using this;(next a u=>rw[a,u]);rw[k]|map b=>simp only[sameAt];simp only[MemPlace.block]at k C;split at k;rename_i c t fr c' G D a u;obtain⟨rfl,rfl,y,I⟩:=k;rw[a,u];have:c'=c:=Array.ext_getElem? λi=>I i (λx=>x);rw[this];rename_i a u;rcases k with k|⟨rfl,rfl⟩;exact k.elim;rw[a,u];exact k
 induction B generalizing vs ds ps with|nil=>cases vs<;>cases ds<;>simp_all [g8]|cons t B j=>cases vs with|nil=>simp[g8]at h|cons v vs=>cases ds with|nil=>simp[g8]at h|cons d ds=>obtain⟨p,q,⟨n,a⟩,u,rfl⟩:=h;exact⟨p,q,⟨n,DataW.trod_carry n _ _ _ a λx L=>z x (DataW.trod_lt n _ _ _ a x L)⟩,j u,Y⟩
theorem TV {T:TypeId->Prop} (K:Kids P T) (hz:∀t e,T t->P.underlying t=some (.slice e)->0<P.cellsOf e) {f:Func} {s:ChangeSpec} {apart fresh handsOn again:Bool} {W G:World} {args:Array Value} {ds gs:aY (DataW H)} {before:aY MemPlace} {tb:TypeId}
 (hT:∀t∈f.params.toList,T t) (B:s.vars=[]) (D:s.fn H (ds++gs)={ results:=[.lit (.bool true)],args:=ds }) (d:f.resultTypes=#[tb]) (j:P.underlying tb=some .bool)
 (Y:DataW.Whole enc P f.params.toList s.vars apart W args.toList ds gs before) (hg:MU W G):s.post enc P f apart fresh handsOn again W args (.bool true) G:=by
 have z:=Y;obtain⟨p,q,X,hV,rfl,L,y⟩:=Y;rw[B]at hV;obtain⟨rfl,rfl⟩:=trodVars_none hV;have hr:∀(b:Nat) (w:Nat->Bool) (hd:Bool),DataW.TrodAll enc P G b w hd f.resultTypes.toList ((Value.bool true).resultList f.resultTypes.size) (s.fn H (ds++[])).results []:=λ_ _ _=>by
  rw[d,D];exact trodAll_cons_mk (shut_bool j _) trodAll_mk0
 have S:∀w:Nat->Bool,(∀x∈p++[],w x.block=true)->DataW.TrodAll enc P G 0 w true f.params.toList args.toList (s.fn H (ds++[])).args p:=λw Q=>by
  rw[D];exact DataW.TrodAll.respare K hz hT (Kj hg X) (λx u=>Q x (List.mem_append_left _ u))
 have hv:∀w:Nat->Bool,DataW.TrodVars enc P G w s.vars (s.fn H (ds++[])).vars []:=λw=>by rw[D,B];rfl
 have C:=λx u=>z.lt x u
 refine⟨ds,[],p++[],[],p,[],z,hr _ _ _,S _ λx u=>by simpa using C x u,hv _,World.keptBut_mono (λx u=>u.elim) hg.kept,λ_=>⟨ok_one d rfl (okWide_bool_mk j _),?_⟩⟩
 refine⟨_,_,[]++p++[],⟨[]++p,[],trodAll_append (S _ λ_ _=>rfl) (hr _ _ _),hv _,rfl,λb off u=>?_,λh=>by simpa using y h⟩,λx u _=>by simpa using u⟩
 have I:MemPlace.cell b off∈p++[]:=by simpa using u
 rw[hg.fz _ (C _ I)];exact L b off I
end Go.VE
namespace Go.VE
variable[b7]
instance:cA U8 where
 wt _:=1
 ok n:=0<=n.v/\n.v<=255
theorem Reads.u8{P:Program}{t:W'}(a:P.underlying t=M (.int .u8))(c:P.cellsOf t=1):Reads P t U8 where
 size:=c
 rd {H enc w j? spare held z cs d ps} h:=by cases z with|zero=>simp[i6]at h|succ z=>(simp only[i6,a]at h;split at h<;>first|(simp at h;done)|skip);(next u=>cases u);rename_i k D n u;simp only[ζa,TypeDesc.int.injEq]at u;split at h;(next e=>obtain⟨rfl,B⟩:=e;subst u;cases h;exact⟨⟨n⟩,gy.one (.int _ n),show _/\_ by simpa[Lit.wf,IntKind.min,IntKind.max,i8,IntKind.bits]using B,λb C=>C.lit _⟩);simp at h;all_goals (rename_i u;cases u)
 shape h:=by simp only[show bD.agg U8=O from Y];exact tS a f? f? h
theorem P3{m:Tb bG}{n:Nat}{rs:SW}{b:X'}(h:dH m n rs=M [.bool b]):rs=[.v (.bool b)]:=by
 cases rs with
 |nil=>cases n<;>simp[dH]at h|cons x r=>
  have c:shut m n x=M (.bool b)/\dH m n r=M []:=by unfold dH at h;split at h;(next y s c w=>simp only[ζa,List.cons.injEq]at h;obtain⟨rfl,rfl⟩:=h;exact⟨c,w⟩);cases h
  have w:r=[]:=by cases r with|nil=>rfl|cons y r=>have:=c.2;unfold dH at this;split at this<;>simp at this
  subst w;have u:=c.1
  cases x with
  |v y=>unfold shut at u;simp only[ζa]at u;rw[u]|own d=>unfold shut lQ at u;(repeat' split at u)<;>cases u|ptr d o=>cases n with|zero=>simp[shut]at u|succ n=>(unfold shut at u;split at u<;>try cases u);(split at u<;>try cases u);split at u<;>cases u
  |mp d=>unfold shut at u;split at u<;>cases u|clo f a b=>cases n with|zero=>simp[shut]at u|succ n=>unfold shut at u;split at u<;>cases u
  |tup l=>cases n with|zero=>simp[shut]at u|succ n=>unfold shut at u;have⟨_,_,z⟩:=ζf.1 u;cases z
  |_=>cases n<;>simp[shut]at u
theorem UX{S:Sys}{T:sY}(B:uk S T)(D:∀f a b xs,S.items f a b=M xs->fM S f a b xs){f:Y'}{xs:So}(c:V.c_ xs=U)(h:iB (dB S T) f xs=M [.bool U]):
 ∃n H',run S.E n (.fn f) xs []=M (.bool U,H'):=by
 unfold iB at h;have⟨⟨rs,m⟩,d,u⟩:=ζg.1 h;have:=P3 u;simp only at this;subst this;exact YV B D c d Y
theorem O8{S:Sys}{T:sY}{P:Program}(B:uk S T)(D:∀f a b xs,S.items f a b=M xs->fM S f a b xs)(c:∀n,nC P (run S.E n)){f:Y'}{xs:So}(d:V.c_ xs=U)(h:iB (dB S T) f xs=M [.bool U])
 {w:World}{args:Array V'}(G:xw (snap w))(g:c6 (snap w) (λ_=>J) xs args.toList):Calls P f args w λe w'=>e=.returned (.bool U)/\MU w w':=by
 have⟨n,H',i⟩:=UX B D d h;have:=Me (c n) i G g;simpa using this
theorem Reads.Pz{P:Program}{t:W'}{α:Type}[bD α][cA α][Reads P t α]{H:Type}{B:W'×V'->H}{w:World}{j? b:Nat}{c:Nat->X'}{e:X'}{v:V'}{d:DataW H}{ps:aY MemPlace}{params:Array W'}{args:Array V'}(D:∀(j:Nat)t v,params[j]?=M t->args[j]?=M v->x6 P w .any b t v)(j:Nat)(f:params[j]?=M t)(G:args[j]?=M v)(h:Trod B P w j? c e t v d ps):∃a:α,bP (snap w) (λ_=>J) (enc a) v/\cA.ok a/\∀b:DataW H->Nat,vH b->cA.wt a<=b d:=Reads.arg (D j t v f G) h
end Go.VE
namespace Go.VE
theorem UG{w:World}{g:Nat}{l:Rd}(h:∀i,i<W l->w.cell? ⟨g,i,J⟩=M (.int _r (l.getD i 0)))(D:0<W l):fE (snap w) (.fptr (l.map (V.int _r))) (.pointer (M ⟨g,0,J⟩)):=by
 have a:=h 0 D;unfold cell? at a;split at a;rename_i c t fr u;have G:snap w g=M (.cells c):=by unfold snap;simp only at u;rw[u]
 have d:∀i,w.cell? ⟨g,i,J⟩=c[i]?:=λi=>by unfold cell?;simp only at u⊢;rw[u];rfl
 refine .fptr _ _ _ c G ?_ ?_;rw[c5,O!];have:=h (W l-1) a?;rw[d]at this;have:=(Array.getElem?_eq_some_iff.1 this).1;omega;intro j y v B b;rw[c5,<-d]at b;rw[j!]at B;obtain⟨z,C,rfl⟩:=ζf.1 B;have I:=(ζe.1 C).1;rw[h j I]at b;cases b;have:l.getD j 0=z:=by simp[List.getD,C]
 rw[this];exact .int _ _;cases a
variable[b7]
theorem cq(n:Nat)(h:n<9223372036854775807):w? _r ((n:Int)+1)=((n+1:Nat):Int):=by simp[w?,IntKind.bits,i8];omega
theorem dV(n:Int)(a:-9223372036854775808<=n)(B:n<=9223372036854775807):w? _r n=n:=by simp[w?,IntKind.bits,i8];omega
section
variable{α β:Type}{P:β->Prop}
theorem gp(s:Sl α)(i:Nat):idx s (i:Int)=s.l[i]?:=by unfold idx;rw[L' a?];rfl
theorem bA{s:Sl α}{i:Nat}(h:i<W s.l):idx s (i:Int)=M s.l[i]:=by rw[gp,ζd h]
theorem VG{s:Sl α}{i:Int}(B:0<=i):idx s i=s.l[i.toNat]?:=by unfold idx;rw[L' B]
theorem uU(s:Sl α)(i:Nat)(h:i<=W s.l):∃x,iK s J (M (i:Int))=M x/\x.l=s.l.take i:=by unfold iK eD;simp only[Option.getD_none,G!];rw[L' a?];cases s<;>simp[Sl.l]at h⊢ <;>simp[h]
theorem bq{γ:Type}{a b:γ}:bh U a b=a:=rfl
theorem br{γ:Type}{a b:γ}:bh O a b=b:=rfl
theorem pG(a b:X'):bh a (M b) (M O)=M (a&&b):=by cases a<;>rfl
theorem nj(a b:X'):bh a (M U) (M b)=M (a||b):=by cases a<;>rfl
theorem wq(a:X')(x y:β):bh a (M x) (M y)=M (if a then x else y):=by cases a<;>rfl
end
def place{α:Type}(f:α->X')(l:aY α):Int:=match l.findIdx? f with
 |some i=>i|none=>-1
theorem Cj{α:Type}{f:α->X'}{l:aY α}{i:Nat}(h:∀j,j<i->∀x,l[j]?=M x->f x=O)(hi:W l<=i):l.findIdx? f=J:=by rw[List.findIdx?_eq_none_iff];intro x w;have⟨j,u⟩:=B! w;have:j<W l:=(ζe.1 u).1;exact h j a? x u
theorem Np{α:Type}{f:α->X'}{l:aY α}{i:Nat}{x:α}(h:∀j,j<i->∀x,l[j]?=M x->f x=O)(B:l[i]?=M x)(D:f x=U):l.findIdx? f=M i:=by rw[List.findIdx?_eq_some_iff_getElem];obtain⟨hi,rfl⟩:=ζe.1 B;exact⟨hi,D,λj u=>by rw[h j u _ (ζd a?)];simp⟩
theorem s7{α:Type}{step:Int->aX (Fw Int Unit Int)}{s:Sl α}{p:α->aX X'}{f:α->X'}(hp:∀x∈s.l,p x=M (f x))(T:W s.l<9223372036854775807)
 (d:∀i,step i=bh (_s (i<len s)) (_o (idx s i) λB=>_o (p B) λD=>bh D (M (.r i)) (M (.n (w? _r (i+1))))) (M (.x ()))):
 _o (bL step 0) (Fw.elim (λ_=>M (-1)) (λe=>M e))=M (place f s.l):=by
 refine Wp.eq (eC (λi:Int=>∃n:Nat,i=n/\n<=W s.l/\∀j,j<n->∀x,s.l[j]?=M x->f x=O) (λi:Int=>W s.l-i.toNat) ⟨0,Y,N? _,λj I=>_e I a?⟩ ?_)
 rintro i ⟨n,rfl,L,w⟩;rw[d,cm];refine⟨λh=>?_,λh=>?_⟩
 .have u:n<W s.l:=by simpa[len]using h
  rw[bA u,ζb,hp _ (t? u),ζb,cm];refine⟨λz=>?_,λz=>?_⟩
  .rw[a_];show Wp (M (n:Int)) _;rw[a_];unfold place;rw[Np w (ζd u) z]
  rw[a_];refine⟨⟨n+1,cq n a?,a?,λj I x C=>?_⟩,?_⟩
  .by_cases e:j=n
   .subst e;rw[ζd u]at C;cases C;exact z
   exact w j a? x C
  rw[cq n a?];simp;omega
 have G:W s.l<=n:=by simpa[len]using h
 rw[a_];show Wp (M (-1:Int)) _;rw[a_];unfold place;rw[Cj w G]
theorem xQ{α:Type}(f:α->X')(l:aY α):_s (place f l>=0)=l.any f:=by unfold place;cases h:l.findIdx? f with|none=>rw[List.findIdx?_eq_none_iff]at h;have:l.any f=O:=(by rw[List.any_eq_false];intro x u;simp[h x u]);rw[this];rfl|some i=>have⟨hi,w,_⟩:=List.findIdx?_eq_some_iff_getElem.1 h;have:l.any f=U:=List.any_eq_true.2 ⟨_,t? hi,w⟩;rw[this];simp
theorem VQ{α σ ε ρ:Type}{step:α->σ->aX (Fw σ ε ρ)}{l:aY α}(I:Nat->σ->Prop)(D:ε->Prop)(G:ρ->Prop){s:σ}(d:I 0 s)
 (h:∀i a s,l[i]?=M a->I i s->Wp (step a s) λw=>match w with|.n B=>I (i+1) B|.x e=>D e|.r b=>G b):
 Wp (mN step l s) λw=>match w with|.n B=>I (W l) B|.x e=>D e|.r b=>G b:=by
 have key:∀(r:aY α)(i:Nat)(s:σ),l.drop i=r->i<=W l->I i s->Wp (mN step r s) λw=>match w with|.n B=>I (W l) B|.x e=>D e|.r b=>G b:=by intro r;induction r with|nil=>intro i s hd hi z;have:i=W l:=(by have:=List.drop_eq_nil_iff.1 hd;omega);subst this;exact⟨_,rfl,z⟩|cons a r L=>intro i s hd hi z;have u:i<W l:=(by apply Classical.byContradiction;intro S;rw[List.drop_eq_nil_of_le a?]at hd;cases hd);have j:=List.drop_eq_getElem_cons u;rw[j]at hd;simp only[List.cons.injEq]at hd;have⟨w,Q,C⟩:=h i a s (by rw[ζd u,hd.1]) z;simp only[mN,Q,ζb];cases w with|n B=>exact L (i+1) B hd.2 a? C|x e=>exact⟨_,rfl,C⟩|r b=>exact⟨_,Y,C⟩
 exact key l 0 s Y (N? _) d
theorem AU{α σ ε ρ γ:Type}{step:α->σ->aX (Fw σ ε ρ)}{l:aY α}{fn:σ->aX γ}{B:ε->aX γ}{fr:ρ->aX γ}{P:γ->Prop}(I:Nat->σ->Prop){s:σ}(D:I 0 s)
 (h:∀i a s,l[i]?=M a->I i s->Wp (step a s) λw=>match w with|.n G=>I (i+1) G|.x e=>Wp (B e) P|.r b=>Wp (fr b) P)
 (d:∀s,I (W l) s->Wp (fn s) P):Wp (_o (mN step l s) (Fw.tK fn B fr)) P:=by
 rw[eS];refine(VQ I _ _ D h).mono ?_;intro w u
 cases w with
 |n s=>exact d s u|x e=>exact u|r b=>exact u
end Go.VE
