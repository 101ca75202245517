/- Certificates, library. -/
import Derived.JoinedCond
import Derived.ReadAgain
import Derived.WalkKit
import Derived.ProofKit
import Derived.OpenShut
import Derived.ChangeSame
import Derived.RowKit3
import Derived.Lib.LaidTab
import Derived.Test.YtegogepdjcdfcaaGreatDoorV2
import Derived.Test.YtegogepdjcdfcaaGreatDoorN2
import Derived.Test.YtegogepdjcdfcaaGreatDoorS1
set_option linter.all false
open Option renaming some→M,some→_j,none→J,none→_p,bind→H,bind→_n
open Bool renaming true→U,true→_m,false→O,false→_o
open Decidable renaming decide→_r
open List renaming length→W,length→_l
open Go.IntKind renaming i64→N,i64→_q
open Nat renaming le_refl→y?,zero_add→d7,zero_le→R?
open Option renaming getD_some→H!,map_some→A?,pure_def→c9
open List renaming all_cons→o!,all_eq_true→O?,append_assoc→e8,append_nil→a7,getElem?_append_left→u?,getElem?_append_right→H?,getElem?_drop→L?,getElem?_map→k!,getElem?_of_mem→d!,getElem?_set→C?,getElem?_set_ne→F?,getElem?_set_self→K?,getElem?_take→D?,getElem_mem→t?,length_cons→U?,length_map→N!,length_range→m6,length_set→U!,length_singleton→Y?,map_cons→J?,map_nil→b8,mem_of_getElem?→s?,nil_append→C',range→w!,range'→G',take_of_length_le→a!
open Classical renaming choose_spec→S?
open Bool renaming false_eq_true→v?
open Go.IntKind renaming signed→l',wrap→w?
open Empty renaming elim→c!
open Go.DataW renaming TrodAll→i6,trod→i9
open Go.Value renaming okWide→D'
noncomputable section
open Nat(beq ble)
open Nat(le)
open List(map_set mem_append mem_map mem_range replicate set_set)
open Nat(le)
open Nat(le)
open Go.IntKind(i64)
open Nat(le)
open Go.DataW(Trod)
open Nat(le)
open Go.World(cell? sameAt)
namespace Go.VE
variable[bZ]
abbrev Cf:=Fo×aX Fm×St
section
variable(S:Sys)(c:cg){β:Type}(Q:Out×St->aY β)
abbrev bV(cf:Cf):aY β:=rn S c Q cf.1 cf.2.1 cf.2.2
def jG(n:Nat)(cf:Cf):Cf:=(hU S c n cf.1 cf.2.1 cf.2.2).getD cf
structure Io where
 dr:Bool
 fr:List Nat
 d:Option Nat
 gd:Option (Nat×Bool)
 now:Bool
 k:K
 az:List Arg
 dd:List Nat
 l:List RO
 fs:List Fm
 st:St
def fQ(n:Nat)(cf:Cf):aY Io:=match hU S c n cf.1 cf.2.1 cf.2.2 with
 |some (.ops dr fr (⟨d,gd,now,k,az,dd,[]⟩::l),fs,st)=>match wanted st.g gd with
  |some U=>M ⟨dr,fr,d,gd,now,k,az,dd,l,fs,st⟩|_=>J
 |_=>J
def nx(n:Nat)(cf:Cf)(φ:Io->St):Cf:=match fQ S c n cf with
 |some p=>(.ops p.dr (if p.dr then(match p.k with|.p _|.r _=>p.fr|_=>match p.d with|some d=>d::p.fr|none=>p.fr)else p.fr) p.l,p.fs,su p.dd (φ p))|none=>cf
end
def yx(s:Nat)(b:X')(cf:Cf):Cf:=(cf.1,cf.2.1,{cf.2.2 with g:=bH cf.2.2.g s (.v (.bool b))})
def jmp(k:Nat)(fr:ST)(cf:Cf)(st:St):Cf:=match cf with
 |(.ops dr _ l,fs,_)=>(.ops dr fr (l.drop k),fs,st)|_=>(.rt,[],st)
def rQ:RC->ST->QQ->St->Cf
 |c,[],fs,st=>(.rc c,fs,st)|.seq a b,i::p,fs,st=>if i=0 then rQ a p (.seq b::fs) st else rQ b p fs st|.cond _ a b,i::p,fs,st=>if i=0 then rQ a p fs st else rQ b p fs st|.block id c,_::p,fs,st=>rQ c p (.blk id::fs) st|.gh _ c,_::p,fs,st=>rQ c p fs st|.hg c g,_::p,fs,st=>rQ c p (.gst g::fs) st|.loop c,_::p,_,st=>rQ c p [] st|.each _ _ _ b,_::p,_,st=>rQ b p [] st|c,_,fs,st=>(.rc c,fs,st)
section
variable{S:Sys}{c:cg}{β γ δ α:Type}{Q:Out×St->aY β}{e:γ->aY β}{cf:Cf}
theorem lg{n:Nat}{p:Io}(h:fQ S c n cf=M p):hU S c n cf.1 cf.2.1 cf.2.2=M (.ops p.dr p.fr (⟨p.d,p.gd,p.now,p.k,p.az,p.dd,[]⟩::p.l),p.fs,p.st)/\wanted p.st.g p.gd=M U:=by unfold fQ at h;grind
theorem qR{n:Nat}{m:aY δ}{φ:δ->Io->St}{f:δ->aY γ}{p:Io}(hp:fQ S c n cf=M p)(B:Le (m.bind λx=>M (φ x p)) (gz S c p.dr p.fr ⟨p.d,J,p.now,p.k,p.az,[],[]⟩ p.st))
 (h:∀x,m=M x->Le (_n (f x) e) (bV S c Q (nx S c n cf (φ x)))):Le (_n (m.bind f) e) (bV S c Q cf):=by
 have⟨a,u⟩:=lg hp;refine EJ a Y u B λx w=>?_
 have:=h x w;simp[nx,hp]at this;omega
theorem uF{n:Nat}{m:aY β}{φ:Io->St}{p:Io}(hp:fQ S c n cf=M p)(B:gz S c p.dr p.fr ⟨p.d,J,p.now,p.k,p.az,[],[]⟩ p.st=M (φ p))
 (h:Le m (bV S c Q (nx S c n cf φ))):Le m (bV S c Q cf):=by
 have⟨a,u⟩:=lg hp;refine ue a Y u B ?_;simp[nx,hp]at h;omega
theorem eA{α β:Type}{o:aY α}{f:α->β}{b:β}(h:o.map f=M b):∃a,o=M a/\f a=b:=ζf.1 h
theorem nY(n:Nat){m:aY β}{B:Cf}(h:Le m (bV S c Q B))(D:hU S c n cf.1 cf.2.1 cf.2.2=M B:=by kernel_rfl):Le m (bV S c Q cf):=Bo D h
theorem bn(n s:Nat){t:X'}{x y:aY γ}(B:Le (x.bind e) (bV S c Q (yx s U (jG S c n cf))))(D:Le (y.bind e) (bV S c Q (yx s O (jG S c n cf))))
 (G:(hU S c n cf.1 cf.2.1 cf.2.2).map (λp=>bk p.2.2.g s)=M (M (.v (.bool t))):=by kernel_rfl):Le (_n (bg t x y) e) (bV S c Q cf):=by
 have⟨p,u,a⟩:=eA G;have b:jG S c n cf=p:=by unfold jG;grind
 rw[b]at B D;refine Bo u ?_;cases t
 .have:yx s O p=p:=by unfold yx;rw[sK a]
  rw[this]at D;exact D
 have:yx s U p=p:=by unfold yx;rw[sK a]
 rw[this]at B;exact B
theorem ck(n s:Nat){t:X'}{x y:aY γ}(B:Le (x.bind e) (bV S c Q (yx s O (jG S c n cf))))(D:Le (y.bind e) (bV S c Q (yx s U (jG S c n cf))))
 (G:(hU S c n cf.1 cf.2.1 cf.2.2).map (λp=>bk p.2.2.g s)=M (M (.v (.bool (!t)))):=by kernel_rfl):Le (_n (bg t x y) e) (bV S c Q cf):=by
 have⟨p,u,a⟩:=eA G;have b:jG S c n cf=p:=by unfold jG;grind
 rw[b]at B D;refine Bo u ?_;cases t
 .have:yx s U p=p:=by unfold yx;rw[show V.bool U=V.bool (!O)from Y,sK a]
  rw[this]at D;exact D
 have:yx s O p=p:=by unfold yx;rw[show V.bool O=V.bool (!U)from Y,sK a]
 rw[this]at B;exact B
theorem xu(n k:Nat)(fr:ST)(st:δ->St){m:aY δ}{f:δ->aY γ}(B:Le (m.bind λr=>bV S c Q (jmp k fr (jG S c n cf) (st r))) (bV S c Q cf))(a:∀r,Le (_n (f r) e) (bV S c Q (jmp k fr (jG S c n cf) (st r)))):Le (_n (m.bind f) e) (bV S c Q cf):=XR _ B a
theorem br(n:Nat){r:δ}{k:δ->Cf}(B:hU S c n cf.1 cf.2.1 cf.2.2=M (k r):=by kernel_rfl):Le (_n (M r) λr=>bV S c Q (k r)) (bV S c Q cf):=aeq B Y
theorem aZ{r:γ}{L:aY β}(h:L=e r:=by kernel_rfl):Le (_n (M r) e) L:=Le.of_eq h
theorem AV(n:Nat){b:RC}{m:aY (Out×Tb bE)}(h:Le m (bV S c zl (.rc b,[],(jG S c n cf).2.2)))(B:hU S c n cf.1 cf.2.1 cf.2.2=M (.nx,[],(jG S c n cf).2.2):=by kernel_rfl):Le m (bV S c (BP S c b) cf):=acv B h
theorem LD(n:Nat){o:aY α}(A:aY α->St){f:α->aY γ}(B:∀x,o=M x->Le (_n (f x) e) (bV S c Q ((jG S c n cf).1,(jG S c n cf).2.1,A (M x))))
 (D:hU S c n cf.1 cf.2.1 cf.2.2=M ((jG S c n cf).1,(jG S c n cf).2.1,A o):=by kernel_rfl):Le (_n (o.bind f) e) (bV S c Q cf):=adr D B
theorem eP.aen{S:Sys}{T:sP}[bC δ]{f:Y'}{A:α->So}{p:α->aY δ}(B:T f=J)(a:S.E.keep f=O)(D:∀z r,p z=M r->S.AQ f (A z)=M (enc r))
 :eP S (dg S T) f A (λr=>[enc r]) p O where
 k:=a
 h z:=by intro y u;have⟨r,b,w⟩:=ζg.1 u;cases w;have h:=Jc B a (D z r b);unfold gO;rw[h];exact x_ 8 [enc r]
 s h:=by cases h
def QH:K->aY BinOp
 |.p (.bin _ _ o)=>M o|_=>J
theorem ZB{k:K}{o:BinOp}(h:QH k=M o):∃t u,k=.p (.bin t u o):=by cases k with|p p=>cases p<;>simp[QH]at h;simp_all|_=>simp[QH]at h
def QT:K->aY BinOp
 |.p (.bin (M .slice) _ o)=>M o|_=>J
theorem Oo{k:K}{o:BinOp}(h:QT k=M o):∃u,k=.p (.bin (M .slice) u o):=by unfold QT at h;grind
def kbs:K->aY (Nat×Nat×ST)
 |.a (.buildSl sz ln _ ix)=>M (sz,ln,ix)|_=>J
theorem abd{k:K}{r:Nat×Nat×ST}(h:kbs k=M r):∃z,k=.a (.buildSl r.1 r.2.1 z r.2.2):=by unfold kbs at h;grind
def kal:K->aY So
 |.a (.alloc _ zero)=>M zero|_=>J
theorem abo{k:K}{z:So}(h:kal k=M z):∃n,k=.a (.alloc n z):=by unfold kal at h;grind
section
variable[bC α]
theorem adI(k:T2)(n:Nat){s:Sl α}{i:Int}{f:α->aY γ}(h:∀x,idx s i=M x->Le ((f x).bind e) (bV S c Q (nx S c n cf λp=>cQ p.st p.d (cp x))))
 (B:(fQ S c n cf).map (λp=>(p.k,bU S.N p.st.g p.az))=M (.p (.idxS (bC.size α)),M [.v (ct s),.v (.int k i)]):=by kernel_rfl):Le (((idx s i).bind f).bind e) (bV S c Q cf):=by
 have⟨p,u,a⟩:=eA B;simp at a;refine qR u ?_ h;rw[a.1];exact Le.of_eq (X2 a.2 rfl)
theorem bB(n:Nat){s:Sl α}{i:Int}{f:α->aY γ}(h:∀x,idx s i=M x->Le ((f x).bind e) (bV S c Q (nx S c n cf λp=>cQ p.st p.d (cp x))))
 (B:(fQ S c n cf).map (λp=>(p.k,bU S.N p.st.g p.az))=M (.p (.idxS (bC.size α)),M [.v (ct s),.v (.int _q i)]):=by kernel_rfl):Le (((idx s i).bind f).bind e) (bV S c Q cf):=adI _q n h B
theorem jk(k:T2)(n u:Nat){s:Sl α}{i:Int}{f:Nat->aY γ}(h:∀x,s.iA i=M x->Le ((f x).bind e) (bV S c Q (nx S c n cf λp=>cQ p.st p.d (.el u x 0))))
 (B:(fQ S c n cf).map (λp=>(p.k,bU S.N p.st.g p.az,bk p.st.m u))=M (.p (.idxS (bC.size α)),M [.own u,.v (.int k i)],M (cF s)):=by kernel_rfl):Le (((s.iA i).bind f).bind e) (bV S c Q cf):=by
 have⟨p,w,a⟩:=eA B;simp at a;refine qR w ?_ h;rw[a.1];exact Le.of_eq (acV a.2.1 a.2.2 rfl)
theorem oR(n u o sz:Nat)(a:X')(v:α->V){s:Sl α}{i:Nat}{f:α->aY γ}(h:∀x,s.get i=M x->Le ((f x).bind e) (bV S c Q (nx S c n cf λp=>cQ p.st p.d (.v (v x)))))
 (B:(fQ S c n cf).map (λp=>(p.k,bU S.N p.st.g p.az,bk p.st.m u,(!p.dr||p.now||fA p.fr [.el u i o])))=M (.r (.load sz a),M [.el u i o],M (cF s),U):=by kernel_rfl)(b:∀x:α,(cut (cells x) o sz).bind (mk a)=M (v x):=by intro _;rfl):Le (((s.get i).bind f).bind e) (bV S c Q cf):=by
 have⟨p,z,w⟩:=eA B;simp only[ζc]at w;refine qR z ?_ h;rw[w.1];exact Le.of_eq (ab7 w.2.1 w.2.2.2 w.2.2.1 b)
theorem zI(n u:Nat)(x:V){s:Sl α}{i:Nat}{a:α}{f:Sl α->aY γ}(h:∀B,s.put i a=M B->Le ((f B).bind e) (bV S c Q (nx S c n cf λp=>cQ {p.st with m:=bH p.st.m u (cF B)} p.d (.v .undef))))
 (D:(fQ S c n cf).map (λp=>(p.k,bU S.N p.st.g p.az,bk p.st.m u,(!p.dr||p.now),x.cells))=M (.l (.store (bC.size α)),M [.el u i 0,.v x],M (cF s),U,cells a):=by kernel_rfl):Le (((s.put i a).bind f).bind e) (bV S c Q cf):=by
 have⟨p,w,b⟩:=eA D;simp only[ζc]at b;refine qR w ?_ h;rw[b.1];exact Le.of_eq (OY b.2.1 b.2.2.2.1 b.2.2.1 b.2.2.2.2 rfl)
theorem Ox(n u:Nat){i:Int}{z:α}{f:Sl α->aY γ}(h:∀B,nv i z=M B->Le ((f B).bind e) (bV S c Q (nx S c n cf λp=>{p.st with g:=bH p.st.g u (.own u),m:=bH p.st.m u (cF B)})))
 (D:(fQ S c n cf).map (λp=>(p.d,p.k,bU S.N p.st.g p.az,p.st.new u))=M (M u,.a (.makeSl (bC.size α) (cells z)),M [.v (.int _q i),.v (.int _q i)],U):=by kernel_rfl):Le (((nv i z).bind f).bind e) (bV S c Q cf):=by
 have⟨p,w,a⟩:=eA D;simp at a;refine qR w ?_ h;rw[a.1,a.2.1];exact Le.of_eq (ab1 a.2.2.1 rfl rfl a.2.2.2)
theorem aeG(n u:Nat){i:Int}{z:α}{zero:So}{f:Sl α->aY γ}(h:∀B,xU i z=M B->Le ((f B).bind e) (bV S c Q (nx S c n cf λp=>{p.st with g:=bH p.st.g u (.own u),m:=bH p.st.m u (cF B)})))
 (D:(fQ S c n cf).map (λp=>(p.d,p.k,bU S.N p.st.g p.az,p.st.new u))=M (M u,.a (.makeSl (bC.size α) (cells z)),M [.v (.int _q 0),.v (.int _q i)],U):=by kernel_rfl):Le (((xU i z).bind f).bind e) (bV S c Q cf):=by
 have⟨p,w,a⟩:=eA D;simp at a;have⟨b,I⟩:=lg w;have⟨dr,fr,d,gd,now,k,az,dd,l,fs,st⟩:=p;obtain⟨rfl,rfl,j,C⟩:=a;exact aeB n dr fr (⟨M u,gd,now,.a (.makeSl (bC.size α) (cells z)),az,dd,[]⟩::l) fs st rfl C h? λB G=>by have:=h B G;simp[nx,w]at this;simp_all
theorem mB(n o w u:Nat){s:Sl α}{x:α}{f:Sl α->aY γ}(h:∀B,d_ s x=M B->Le ((f B).bind e) (bV S c Q (nx S c n cf λp=>{p.st with g:=bH p.st.g u (.own u),m:=bH (dz o p.st.m) u (cF B)})))
 (D:(fQ S c n cf).map (λp=>(p.d,p.k,bU S.N p.st.g p.az,(!p.dr||p.now),bk p.st.m o,bk p.st.m w,St.new {p.st with m:=dz o p.st.m} u))=M (M u,.l (.append (bC.size α)),M [.own o,.own w],U,M (cF s),M (cF (.row [x])),U):=by kernel_rfl):Le (((d_ s x).bind f).bind e) (bV S c Q cf):=by
 have⟨p,z,a⟩:=eA D;simp only[ζc]at a;refine qR z ?_ h;rw[a.1,a.2.1];exact Le.of_eq (ady a.2.2.1 a.2.2.2.1 a.2.2.2.2.1 a.2.2.2.2.2.1 rfl a.2.2.2.2.2.2)
theorem Xc(n w u:Nat)(v:V)(x:α){m:aY β}(h:Le m (bV S c Q (nx S c n cf λp=>{p.st with g:=bH p.st.g u (.own u),m:=bH p.st.m u (cF (.row [x]))})))(a:v=.bN\/v=.dH:=by first|exact .inl rfl|exact .inr rfl)
 (B:(fQ S c n cf).map (λp=>(p.d,p.k,bU S.N p.st.g p.az,(!p.dr||p.now),bk p.st.m w,p.st.new u))=M (M u,.l (.append (bC.size α)),M [.v v,.own w],U,M (cF (.row [x])),U):=by kernel_rfl):Le m (bV S c Q cf):=by
 have⟨p,C,z⟩:=eA B;simp only[ζc]at z;refine uF C ?_ h;rw[z.1,z.2.1];exact abR a z.2.2.1 z.2.2.2.1 z.2.2.2.2.1 rfl z.2.2.2.2.2
theorem bL(n:Nat)(s:Sl α){m:aY β}(h:Le m (bV S c Q (nx S c n cf λp=>cQ p.st p.d (.v (.int _q (W s.l))))))
 (B:(fQ S c n cf).map (λp=>(p.k,bU S.N p.st.g p.az))=M (.p .lenSl,M [.v (ct s)]):=by kernel_rfl):Le m (bV S c Q cf):=by
 have⟨p,u,a⟩:=eA B;simp at a;refine uF u ?_ h;rw[a.1];exact XD a.2
theorem Ak(n u:Nat)(s:Sl α){m:aY β}(h:Le m (bV S c Q (nx S c n cf λp=>cQ p.st p.d (.v (.int _q (W s.l))))))
 (B:(fQ S c n cf).map (λp=>(p.k,bU S.N p.st.g p.az,bk p.st.m u))=M (.p .lenSl,M [.own u],M (cF s)):=by kernel_rfl):Le m (bV S c Q cf):=by
 have⟨p,w,a⟩:=eA B;simp at a;refine uF w ?_ h;rw[a.1];exact aa5 a.2.1 a.2.2
theorem Mx(n:Nat){s:Sl α}{f:X'->aY γ}(h:∀t,s.isNil=M t->Le (_n (f t) e) (bV S c Q (nx S c n cf λp=>cQ p.st p.d (.v (.bool t)))))
 (B:(fQ S c n cf).map (λp=>(QT p.k,bU S.N p.st.g p.az))=M (M .eql,M [.v (ct s),.v .bN]):=by kernel_rfl):Le (_n (s.isNil.bind f) e) (bV S c Q cf):=by
 have⟨p,w,a⟩:=eA B;simp at a;have⟨u,b⟩:=Oo a.1;refine qR w ?_ h;rw[b];exact Le.of_eq (Yj a.2)
theorem adD(n:Nat){s:Sl α}{f:X'->aY γ}(h:∀t,s.isNil=M t->Le (_n (f t) e) (bV S c Q (nx S c n cf λp=>cQ p.st p.d (.v (.bool !t)))))
 (B:(fQ S c n cf).map (λp=>(QT p.k,bU S.N p.st.g p.az))=M (M .neq,M [.v (ct s),.v .bN]):=by kernel_rfl):Le (_n (s.isNil.bind f) e) (bV S c Q cf):=by
 have⟨p,w,a⟩:=eA B;simp at a;have⟨u,b⟩:=Oo a.1;refine qR w ?_ h;rw[b];exact Le.of_eq (Vn a.2)
theorem Ds(n:Nat)(g i:X')(B:So){s:Sl α}{a b:PH}{f:Sl α->aY γ}(h:∀x,gN s a b=M x->Le ((f x).bind e) (bV S c Q (nx S c n cf λp=>cQ p.st p.d (.v (ct x)))))
 (D:(fQ S c n cf).map (λp=>(p.k,bU S.N p.st.g p.az,oS g i B))=M (.p (.slice (bC.size α) g i),M (.v (ct s)::B.map .v),M (a,b)):=by kernel_rfl):Le (((gN s a b).bind f).bind e) (bV S c Q cf):=by
 have⟨p,u,j⟩:=eA D;simp at j;have⟨m,C⟩:=lg u;have⟨dr,fr,d,gd,now,k,az,dd,l,fs,st⟩:=p;obtain⟨rfl,G,I⟩:=j;exact aeu n dr fr (⟨d,gd,now,.p (.slice (bC.size α) g i),az,dd,[]⟩::l) fs st g i B rfl h? λw z=>by have:=h w z;simp only[nx,u]at this;omega
theorem Xi(n:Nat)(i j:X')(u t:Nat)(B:So){s:Sl α}{a b:PH}{f:Sl α->aY γ}(h:∀x,nH s a b=M x->Le ((f x).bind e) (bV S c Q (nx S c n cf λp=>{p.st with g:=bH p.st.g t (.own t),m:=bH (dz u p.st.m) t (cF x)})))
 (D:(fQ S c n cf).map (λp=>(p.d,p.k,p.dr,bU S.N p.st.g p.az,oS i j B,bk p.st.m u,St.new {p.st with m:=dz u p.st.m} t))=M (M t,.p (.slice (bC.size α) i j),O,M (.own u::B.map .v),M (a,b),M (cF s),U):=by kernel_rfl):Le (((nH s a b).bind f).bind e) (bV S c Q cf):=by
 have⟨p,w,o⟩:=eA D;simp at o;have⟨q,I⟩:=lg w;have⟨dr,fr,d,gd,now,k,az,dd,l,fs,st⟩:=p;obtain⟨rfl,rfl,rfl,y,L,a__,z⟩:=o;exact ac6 n fr (⟨M t,gd,now,.p (.slice (bC.size α) i j),az,dd,[]⟩::l) fs st i j u B rfl z h? λC G=>by have:=h C G;simp only[nx,w]at this;omega
theorem bO(n u:Nat)(x:α){m:aY β}(h:Le m (bV S c Q (nx S c n cf λp=>{p.st with g:=bH p.st.g u (.ptr u 0),m:=bH p.st.m u (bx x)})))
 (B:(fQ S c n cf).map (λp=>(p.d,p.k,bU S.N p.st.g p.az,p.st.new u))=M (M u,.a .box,M [cv x],U):=by kernel_rfl):Le m (bV S c Q cf):=by
 have⟨p,w,a⟩:=eA B;simp at a;refine uF w ?_ h;rw[a.1,a.2.1,zX,a.2.2.1];simp only[ζb,a.2.2.2,N',oB,pF,wD]
def stB(u o sz:Nat)(xs:Rd)(p:Io):St:=match bk p.st.m u with
 |some (.box cs)=>cQ {p.st with m:=bH p.st.m u (.box (cs.take o++xs++cs.drop (o+sz)))} p.d (.v .undef)|_=>p.st
theorem oN(n u o:Nat)(x:α){m:aY β}(h:Le m (bV S c Q (nx S c n cf (stB u o (bC.size α) ((cells x).map .v)))))
 (B:(fQ S c n cf).map (λp=>(p.k,bU S.N p.st.g p.az,(!p.dr||p.now),match bk p.st.m u with|some (.box cs)=>ble (o+bC.size α) (W cs)|_=>O))=M (.l (.store (bC.size α)),M [.ptr u o,cv x],U,U):=by kernel_rfl):Le m (bV S c Q cf):=by
 have⟨p,C,a⟩:=eA B;simp only[ζc]at a;refine uF C ?_ h;have⟨b,D,G,z⟩:=a;split at z
 next cs w=>have I:=Nat.le_of_ble_eq_true z;rw[b,yR,D];simp only[ζb,G,N',mZ,w,putCells,pF,jg,wD,I,and_self,A?,stB]
 simp_all
theorem vD(n u:Nat)(xs:aX α){m:aY β}(h:Le m (bV S c Q (nx S c n cf λp=>{p.st with g:=bH p.st.g u (.own u),m:=bH p.st.m u (cF (.row xs))})))
 (B:(fQ S c n cf).map (λp=>(p.d,kbs p.k,bU S.N p.st.g p.az,p.st.new u))=M (M u,M (bC.size α,W xs,G' 0 (W xs)),M ((xs.map enc).map .v),U):=by kernel_rfl):Le m (bV S c Q cf):=by
 have⟨p,w,a⟩:=eA B;simp at a;have⟨b,G⟩:=lg w;have⟨dr,fr,d,gd,now,k,az,dd,l,fs,st⟩:=p;obtain⟨rfl,C,I,D⟩:=a;obtain⟨z,rfl⟩:=abd C;exact Abs n dr fr (⟨M u,gd,now,.a (.buildSl (bC.size α) (W xs) z (G' 0 (W xs))),az,dd,[]⟩::l) fs st xs Y D h? (by
  simp[nx,w]at h;omega)
theorem aeH(n:Nat)(x:α)(vs z:So)(pl:aX (Nat×Nat)){m:aY β}(B:mF z pl vs=M (cells x))(D:bC.agg α=U)(h:Le m (bV S c Q (nx S c n cf λp=>cQ p.st p.d (cv x))))
 (G:(fQ S c n cf).map (λp=>(p.k,bU S.N p.st.g p.az))=M (.p (.build z pl),M (vs.map .v)):=by kernel_rfl):Le m (bV S c Q cf):=by
 have⟨p,u,a⟩:=eA G;simp at a;have⟨b,w⟩:=lg u;have⟨dr,fr,d,gd,now,k,az,dd,l,fs,st⟩:=p;obtain⟨rfl,C⟩:=a;exact aev n dr fr (⟨d,gd,now,.p (.build z pl),az,dd,[]⟩::l) fs st x vs Y B D h? (by
  simp only[nx,u]at h;omega)
end
theorem ach(n:Nat){k:T2}{a b:Int}{f:Int->aY γ}(h:∀x,BK k a b=M x->Le ((f x).bind e) (bV S c Q (nx S c n cf λp=>cQ p.st p.d (.v (.int k x)))))
 (B:(fQ S c n cf).map (λp=>(QH p.k,bU S.N p.st.g p.az))=M (M .quo,M [.v (.int k a),.v (.int k b)]):=by kernel_rfl):Le (((BK k a b).bind f).bind e) (bV S c Q cf):=by
 have⟨p,w,d⟩:=eA B;simp at d;have⟨t,u,g⟩:=ZB d.1;refine qR w ?_ h;rw[g];exact Le.of_eq (acS d.2)
theorem CT(n:Nat)(k:T2){a:U'}{b:Int}{f:Int->aY γ}(h:∀x,mK a b=M x->Le ((f x).bind e) (bV S c Q (nx S c n cf λp=>cQ p.st p.d (.v (.int .u8 x)))))
 (B:(fQ S c n cf).map (λp=>(p.k,bU S.N p.st.g p.az))=M (.p .idxStr,M [.v (.str a),.v (.int k b)]):=by kernel_rfl):Le (((mK a b).bind f).bind e) (bV S c Q cf):=by
 have⟨p,u,d⟩:=eA B;simp at d;refine qR u ?_ h;rw[d.1];exact Le.of_eq (Vm d.2)
section
variable{A:α->So}{E:δ->So}{pl:α->aY δ}{fn:Y'}{sc:X'}
theorem Aa(n:Nat)(F:eP S c fn A E pl sc)(z:α){f:δ->aY γ}(h:∀x,pl z=M x->Le ((f x).bind e) (bV S c Q (nx S c n cf λp=>cQ p.st p.d (.v (result (E x))))))
 (B:(fQ S c n cf).map (λp=>(p.k,(bU S.N p.st.g p.az).bind mA,(!p.dr||p.now||gb p.st.m p.fr [])))=M (.c,M (fn,(A z).map .v),U):=by kernel_rfl):Le (((pl z).bind f).bind e) (bV S c Q cf):=by
 have⟨p,C,b⟩:=eA B;simp at b;have⟨D,G,q⟩:=b;have⟨I,g1,g2⟩:=ζg.1 G;have u:∀d(w:So),SV.dK d (w.map .v)=O:=λd w=>by induction w with|nil=>rfl|cons a l j=>simp[SV.dK,SV.cM,j]
 have L:(!p.dr||p.now||gb p.st.m p.fr ((A z).map .v))=U:=by have:gb p.st.m p.fr ((A z).map .v)=gb p.st.m p.fr []:=(by unfold gb;simp[u];rfl);grind
 refine qR C ?_ h;rw[D];exact K2 (F.h z) F.k g1 g2 (MK _ _ _) L (λr=>by rw[nk];simp)
theorem acC(n:Nat)(F:eP S c fn A E pl U)(z:α){f:δ->aY γ}(h:∀x,pl z=M x->Le ((f x).bind e) (bV S c Q (nx S c n cf λp=>cQ p.st p.d (.v (result (E x))))))
 (B:(fQ S c n cf).map (λp=>(p.k,((bU S.N p.st.g p.az).bind mA).bind λq=>(oO (jA p.st.m 8) q.2).map λvs=>(q.1,vs,((!p.dr||p.now)||gb p.st.m p.fr q.2))))=M (.c,M (fn,A z,U)):=by kernel_rfl):Le (((pl z).bind f).bind e) (bV S c Q cf):=by
 have⟨p,u,a⟩:=eA B;simp at a;have⟨w,C⟩:=a;have⟨q,g1,g2⟩:=ζg.1 C;have⟨D,g3,g4⟩:=ζg.1 g1;have⟨vs,g5,g6⟩:=ζf.1 g2;simp only[ζc]at g6;obtain⟨e1,rfl,e3⟩:=g6;refine qR u ?_ h;rw[w];exact K2 (F.h z) F.k g3 h? g5 e3 (λr=>by rw[F.s rfl];rfl)
end
section
variable{N:Nat}[bC α]
theorem QW(n:Nat)(k:T2){a:b_ N α}{i:Int}{f:α->aY γ}(h:∀x,a.at i=M x->Le ((f x).bind e) (bV S c Q (nx S c n cf λp=>cQ p.st p.d (.v (.fptr (pa a i))))))
 (B:(fQ S c n cf).map (λp=>(p.k,bU S.N p.st.g p.az))=M (.p (.idxA N (bC.size α)),M [cp a,.v (.int k i)]):=by kernel_rfl):Le (((a.at i).bind f).bind e) (bV S c Q cf):=by
 have⟨p,u,b⟩:=eA B;simp at b;have⟨g,z⟩:=lg u;have⟨dr,fr,d,gd,now,C,az,dd,l,fs,st⟩:=p;obtain⟨rfl,D⟩:=b;exact adu n dr fr (⟨d,gd,now,.p (.idxA N (bC.size α)),az,dd,[]⟩::l) fs st k rfl h? λx w=>by have:=h x w;simp only[nx,u]at this;omega
theorem WV(n k:Nat)(a:b_ N α)(i:Int)(o:Nat)(x:α)(B:a.at i=M x){m:aY β}(h:Le m (bV S c Q (nx S c n cf λp=>cQ p.st p.d (.v (.fptr ((pa a i).drop (o+k)))))))
 (D:(fQ S c n cf).map (λp=>(p.k,bU S.N p.st.g p.az,ble (o+k) (bC.size α)))=M (.p (.fieldAddr k),M [.v (.fptr ((pa a i).drop o))],U):=by kernel_rfl):Le m (bV S c Q cf):=by
 have⟨p,u,b⟩:=eA D;simp at b;have⟨e,w⟩:=lg u;have⟨dr,fr,d,gd,now,z,az,dd,l,fs,st⟩:=p;obtain⟨rfl,C,G⟩:=b;exact aeF n dr fr (⟨d,gd,now,.p (.fieldAddr k),az,dd,[]⟩::l) fs st a i o x B Y h? (by
  simp only[nx,u]at h;omega)
theorem PM(n sz:Nat)(ag:X')(a:b_ N α)(i:Int)(o:Nat)(x:α)(B:a.at i=M x)(v:V)(b:_n (cut (cells x) o sz) (mk ag)=M v){m:aY β}(h:Le m (bV S c Q (nx S c n cf λp=>cQ p.st p.d (.v v))))
 (D:(fQ S c n cf).map (λp=>(p.k,bU S.N p.st.g p.az))=M (.r (.load sz ag),M [.v (.fptr ((pa a i).drop o))]):=by kernel_rfl):Le m (bV S c Q cf):=by
 have⟨p,w,u⟩:=eA D;simp at u;have⟨e,z⟩:=lg w;have⟨dr,fr,d,gd,now,C,az,dd,l,fs,st⟩:=p;obtain⟨rfl,G⟩:=u;exact ac0 n dr fr (⟨d,gd,now,.r (.load sz ag),az,dd,[]⟩::l) fs st a i o x B b v Y h? (by
  simp only[nx,w]at h;omega)
theorem Bal(n u:Nat)(st:St)(cs:Rd){m:aY β}(B:st.new u=U)(h:Le m (bV S c Q (nx S c n cf λ_=>{st with g:=bH st.g u (.ptr u 0),m:=bH st.m u (.box cs)})))
 (D:(fQ S c n cf).map (λp=>(p.d,(kal p.k).map (λz=>z.map SV.v),bU S.N p.st.g p.az,p.st))=M (M u,M cs,M [],st):=by kernel_rfl):Le m (bV S c Q cf):=by
 have⟨p,C,a⟩:=eA D;simp only[ζc]at a;have⟨z,G,w⟩:=eA a.2.1;have⟨k,b⟩:=abo G;refine uF C ?_ h;rw[a.1,b,zX,a.2.2.1,a.2.2.2];simp[B,oB,w]
theorem Kr(n:Nat)(k:T2)(u:Nat){a:b_ N α}{i:Int}{f:α->aY γ}(h:∀x,a.at i=M x->Le ((f x).bind e) (bV S c Q (nx S c n cf λp=>cQ p.st p.d (.ptr u (i.toNat*bC.size α+0)))))
 (B:(fQ S c n cf).map (λp=>(p.k,bU S.N p.st.g p.az,bk p.st.m u))=M (.p (.idxA N (bC.size α)),M [.ptr u 0,.v (.int k i)],M (bx a)):=by kernel_rfl):Le (((a.at i).bind f).bind e) (bV S c Q cf):=by
 have⟨p,w,b⟩:=eA B;simp at b;have⟨g,C⟩:=lg w;have⟨dr,fr,d,gd,now,D,az,dd,l,fs,st⟩:=p;obtain⟨rfl,G,I⟩:=b;exact adb n dr fr (⟨d,gd,now,.p (.idxA N (bC.size α)),az,dd,[]⟩::l) fs st k u rfl h? λx z=>by have:=h x z;simp only[nx,w]at this;omega
theorem XH(n sz:Nat)(ag:X')(u:Nat)(a:b_ N α)(i:Int)(o:Nat)(x:α)(B:a.at i=M x)(v:V)(b:_n (cut (cells x) o sz) (mk ag)=M v){m:aY β}(h:Le m (bV S c Q (nx S c n cf λp=>cQ p.st p.d (.v v))))
 (D:(fQ S c n cf).map (λp=>(p.k,bU S.N p.st.g p.az,bk p.st.m u,(!p.dr||p.now||fA p.fr [.ptr u 0])))=M (.r (.load sz ag),M [.ptr u (i.toNat*bC.size α+o)],M (bx a),U):=by kernel_rfl):Le m (bV S c Q cf):=by
 have⟨p,z,w⟩:=eA D;simp at w;have⟨e,C⟩:=lg z;have⟨dr,fr,d,gd,now,G,az,dd,l,fs,st⟩:=p;obtain⟨rfl,I,j,L⟩:=w;exact acZ n dr fr (⟨d,gd,now,.r (.load sz ag),az,dd,[]⟩::l) fs st u a i o x B b v Y h? (by
  simp only[nx,z]at h;omega)
end
section
variable{κ ν:Type}[bC κ][DecidableEq κ][Key κ][bC ν]
theorem ac2(n u:Nat)(mp:Mo κ ν)(k:κ)(z:ν){m:aY β}(h:Le m (bV S c Q (nx S c n cf λp=>cQ p.st p.d (cv (pW mp k z)))))
 (B:(fQ S c n cf).map (λp=>(p.k,bU S.N p.st.g p.az,bk p.st.m u,(!p.dr||p.now||fA p.fr [.mp u,cv k])))=M (.r (.lookup (Key.kk κ) (enc z) O),M [.mp u,cv k],M (wC mp),U):=by kernel_rfl):Le m (bV S c Q cf):=by
 have⟨p,w,a⟩:=eA B;simp at a;have⟨b,C⟩:=lg w;have⟨dr,fr,d,gd,now,D,az,dd,l,fs,st⟩:=p;obtain⟨rfl,G,I,j⟩:=a;exact adB n dr fr (⟨d,gd,now,.r (.lookup (Key.kk κ) (enc z) O),az,dd,[]⟩::l) fs st u mp k z Y h? (by
  simp only[nx,w]at h;omega)
theorem acz(n u:Nat)(mp:Mo κ ν)(k:κ)(v:ν){m:aY β}(h:Le m (bV S c Q (nx S c n cf λp=>cQ {p.st with m:=bH p.st.m u (wC (nO mp k v))} p.d (.v .undef))))
 (B:(fQ S c n cf).map (λp=>(p.k,bU S.N p.st.g p.az,bk p.st.m u,(!p.dr||p.now)))=M (.l (.mapUp (Key.kk κ)),M [.mp u,cv k,cv v],M (wC mp),U):=by kernel_rfl):Le m (bV S c Q cf):=by
 have⟨p,z,w⟩:=eA B;simp at w;have⟨a,C⟩:=lg z;have⟨dr,fr,d,gd,now,D,az,dd,l,fs,st⟩:=p;obtain⟨rfl,G,I,j⟩:=w;exact aew n dr fr (⟨d,gd,now,.l (.mapUp (Key.kk κ)),az,dd,[]⟩::l) fs st u mp k v Y h? (by
  simp[nx,z]at h;omega)
end
theorem acY(n:Nat)(st:St){rs:Ps}{e:γ->aY So}{r:γ}(m?:Rd){ys:So}(B:oO (jA st.m 8) m?=M ys)(D:e r=M ys)
 (h:(hU S c n cf.1 cf.2.1 cf.2.2).map (λq=>(q.1,q.2.2,kY q.2.2 rs))=M (.rt,st,M m?):=by kernel_rfl):Le (_n (M r) e) (bV S c (pU rs) cf):=by
 have⟨⟨fo,fs,e?⟩,u,a⟩:=eA h;simp at a;obtain⟨rfl,rfl,w⟩:=a;exact ads n m? B (by rw[u,w]) D
end
end Go.VE
namespace Go.VE
variable[bZ]
section
variable{S:Sys}{c:cg}{β γ δ α:Type}[bC α]{Q:Out×St->aY β}{e:γ->aY β}{cf:Cf}
def oC(s x:Sl α):aY (Sl α):=if x.l=[]then M s else if W s.l+W x.l<=2147483648 then M (.row (s.l++x.l))else J
theorem Zc(m:Tb bE)(n w:Nat)(x:Sl α)(B:n=bC.size α)(D:bk m w=M (cF x)):jC m n (.own w)=M (rows x.l):=by rw[Dz,D,DZ n x B]
theorem MG(l:aX α):rows l=[]↔l=[]:=by unfold rows;simp
theorem Uy(a b:aX α):rows a++rows b=rows (a++b):=by unfold rows;simp
theorem Nf(a:aX α):W (rows a)=W a:=by unfold rows;simp
theorem abX{st:St}{dr now:X'}{fr:ST}{az:QR}{d n o:Nat}{s x:Sl α}{B:SV}(T:bU S.N st.g az=M [.own o,B])(hd:(!dr||now)=U)(D:bk st.m o=M (cF s))(q:jC st.m n B=M (rows x.l))(G:n=bC.size α)(j:St.new {st with m:=dz o st.m} d=U):
 gz S c dr fr ⟨M d,J,now,.l (.append n),az,[],[]⟩ st=_n (oC s x) λz=>M {st with g:=bH st.g d (.own d),m:=bH (dz o st.m) d (cF z)}:=by
 rw[yR,T];simp only[ζb,hd,N',Ah (Zc st.m n o s G D) q];unfold oC
 by_cases h:x.l=[]
 .rw[L' h,(MG x.l).2 h];simp only[AH,D,L' j,ζb];rfl
 rw[M' h];have a:rows x.l≠[]:=λe=>h ((MG _).1 e)
 have w:AH st d n (.own o) (M (rows s.l)) (M (rows x.l))=if(rows s.l).length+W (rows x.l)<=2147483648/\MO (.own o)=U then(if St.new {st with m:=giveUp st.m (.own o)} d then M (.own d,{st with m:=bH (giveUp st.m (.own o)) d (.sl .row n (rows s.l++rows x.l))})else J)else J:=by unfold AH;generalize rows x.l=r at *;cases r with|nil=>exact _e Y a|cons y r=>rfl
 rw[w,Nf,Nf,Uy]
 by_cases u:W s.l+W x.l<=2147483648
 .rw[L' ⟨u,Y⟩,L' (show St.new {st with m:=giveUp st.m (.own o)} d=U from j),L' u];rw[ζb,ζb,G];rfl
 rw[M' (λk=>u k.1),M' u];rfl
theorem adm(n o u:Nat)(D:SV){s x:Sl α}{f:Sl α->aY γ}(G:∀p,fQ S c n cf=M p->jC p.st.m (bC.size α) D=M (rows x.l))
 (h:∀B,oC s x=M B->Le ((f B).bind e) (bV S c Q (nx S c n cf λp=>{p.st with g:=bH p.st.g u (.own u),m:=bH (dz o p.st.m) u (cF B)})))
 (d:(fQ S c n cf).map (λp=>(p.d,p.k,bU S.N p.st.g p.az,(!p.dr||p.now),bk p.st.m o,St.new {p.st with m:=dz o p.st.m} u))=M (M u,.l (.append (bC.size α)),M [.own o,D],U,M (cF s),U):=by kernel_rfl):Le (((oC s x).bind f).bind e) (bV S c Q cf):=by
 have⟨p,w,a⟩:=eA d;simp only[ζc]at a;refine qR w ?_ h;rw[a.1,a.2.1];exact Le.of_eq (abX a.2.2.1 a.2.2.2.1 a.2.2.2.2.1 (G p w) rfl a.2.2.2.2.2)
theorem PA(m:Tb bE)(x:Sl α):jC m (bC.size α) (.v (ct x))=M (rows x.l):=by cases x<;>simp[ct,Sl.k,Sl.l,lJ,jC,rows]
theorem xY(n o u:Nat){s x:Sl α}{f:Sl α->aY γ}
 (h:∀B,oC s x=M B->Le ((f B).bind e) (bV S c Q (nx S c n cf λp=>{p.st with g:=bH p.st.g u (.own u),m:=bH (dz o p.st.m) u (cF B)})))
 (D:(fQ S c n cf).map (λp=>(p.d,p.k,bU S.N p.st.g p.az,(!p.dr||p.now),bk p.st.m o,St.new {p.st with m:=dz o p.st.m} u))=M (M u,.l (.append (bC.size α)),M [.own o,.v (ct x)],U,M (cF s),U):=by kernel_rfl):Le (((oC s x).bind f).bind e) (bV S c Q cf):=
 adm n o u _ (λp _=>PA p.st.m x) h D
end
theorem ud{α:Type}{l:aX α}{i:Nat}{x:α}(h:l[i]?=M x):l.set i x=l:=by obtain⟨a,rfl⟩:=ζe.1 h;exact List.set_getElem_self a
open Classical in
def EK(E:Env)(g:Y')(cb:So)(a b:V):aY V:=if h:∃n y,cq (run E n) g (a::b::cb) []=M y then M (Classical.choose (S? h))else J
theorem HY{E:Env}{g:Y'}{cb:So}{a b y:V}(h:EK E g cb a b=M y):∃n,∀k,n<=k->cq (run E k) g (a::b::cb) []=M y:=by
 unfold EK at h;split at h;next c=>cases h;exact⟨_,λk d=>qJ (qy E d) (S? (S? c))⟩
 cases h
theorem O5{E:Env}{g:Y'}{cb:So}{a b y:V}{n:Nat}(h:cq (run E n) g (a::b::cb) []=M y):EK E g cb a b=M y:=by have d:∃n y,cq (run E n) g (a::b::cb) []=M y:=⟨n,y,h⟩;cases c:EK E g cb a b with|none=>unfold EK at c;rw[dif_pos d]at c;cases c|some z=>have⟨m,u⟩:=HY c;have:=u _ (Nat.le_max_right n m);rw[qJ (qy E (Nat.le_max_left n m)) h]at this;cases this;rfl
theorem HP{n:Nat}{p:_root_.Fin n->Nat->Prop}(h:∀i,∃N,∀k,N<=k->p i k):∃N,∀i k,N<=k->p i k:=by induction n with|zero=>exact⟨0,λi=>i.elim0⟩|succ n u=>obtain⟨N,w⟩:=u (p:=λi=>p i.succ) λi=>h i.succ;obtain⟨d,a⟩:=h 0;refine⟨max N d,λi k b=>?_⟩;refine _root_.Fin.cases (a k c?) (λj=>w j k c?) i
def kE(x:So):V:=x.headD .undef
def wW(es:Nat)(xs:S'):X':=es==1&&xs.all (λx=>W x==1&&x.all V.one)&&_r (W xs<=2147483648)
theorem Bw{es:Nat}{xs:S'}(h:wW es xs=U):es=1/\W xs<=2147483648/\∀(i:Nat)x,xs[i]?=M x->x=[kE x]/\(kE x).one=U:=by unfold wW at h;simp only[ζh,_i,O?,_g]at h;refine⟨h.1.1,h.2,λi x w=>?_⟩;have⟨a,z⟩:=h.1.2 x (s? w);obtain⟨u,rfl⟩:=List.length_eq_one_iff.1 a;exact⟨Y,z u f?⟩
section
variable{H:bl}{Z:Nat->Prop}
theorem dB.N9{k:Nat}{xs ys:So}(h:dB H Z xs ys)(B:V.nq k xs=U):borrows k H ys=M xs:=mD h.1 λj u v a b=>(h.2 j u v a b).borrow k (oH.1 B j u a)
theorem dB.borrows{xs ys:So}(h:dB H Z xs ys):∃n,∀k,n<=k->borrows k H ys=M xs:=by have⟨n,u⟩:=og xs;exact⟨n,λk a=>h.N9 (rN a u)⟩
theorem S6{es:Nat}{xs:S'}(h:wW es xs=U){rs:S'}(B:gM H Z xs rs):dB H Z (xs.map kE) rs.flatten:=by induction xs generalizing rs with|nil=>have:=B.1;simp at this;have:rs=[]:=List.eq_nil_of_length_eq_zero (by simpa using this.symm);subst this;exact .nil|cons x xs D=>have⟨d,L,G⟩:=Bw h;cases rs with|nil=>have:=B.1;simp at this|cons r rs=>have⟨e,_⟩:=G 0 x Y;have C:=B.2 0 x r Y Y;rw[e]at C;obtain⟨u,y,rfl,c,w⟩:=C.inv;rw[w.cW];have z:wW es xs=U:=(by unfold wW at h⊢;simp only[o!,ζh,U?,_g]at h⊢;exact⟨⟨h.1.1,h.1.2.2⟩,c?⟩);exact .cons c (D z (rs:=rs) ⟨by have:=B.1;simpa using this,λj a b I q=>B.2 (j+1) a b I q⟩)
end
def vM(E:Env)(g:Y')(cb:So)(a b:V):PH:=match EK E g cb a b with|some (.int _q c)=>M c|_=>J
theorem WY{E:Env}{g:Y'}{cb:So}{a b:V}{c:Int}(h:vM E g cb a b=M c):∃n,∀k,n<=k->cq (run E k) g (a::b::cb) []=M (.int _q c):=by
 unfold vM at h;split at h;next c' d=>cases h;exact HY d
 cases h
def CU(E:Env)(es:Nat)(xs:S'):So->aY S'
 |[.clo g [] cb]=>match xs with
  |[]=>M []|x::l=>if wW es (x::l)&& !E.keep g then
   let t:_root_.Fin (W l+1)->_root_.Fin (W l+1)->PH:=λi j=>vM E g cb (kE (((x::l)[i.1]?).getD [])) (kE (((x::l)[j.1]?).getD []))
   if DL t then M ((tD (W l) (sw t)).toList.map λi=>((x::l)[i.1]?).getD [])else J
   else J
 |_=>J
def vH(E:Env):G0:=⟨O,CU E⟩
theorem FX{n:Nat}{lt:_root_.Fin (n+1)->_root_.Fin (n+1)->X'}(h:Sort.SWO lt):(tD n lt).size=n+1:=by rw[EZ];have:=(Sort.pdq_sorts lt h (List.finRange (n+1)).toArray 0 (n+1) (Lib.bitLen (n+1)) U U (R? _) f? (Or.inl Y)).1.1;simpa using this
theorem VU{E:Env}{f:Y'}(m:E.keep f=true)(ho:E.own f=false)(F:E.sort f=true)(K:E.ft f=none):oE E f (vH E)where
 keep:=m
 own:=ho
 le:=by intro es xs vs ys h;simp only[vH,CU]at h;split at h;split at h;cases h;exact⟨y? _,λ_=>rfl⟩;split at h;split at h;(next q=>cases h;have:=FX (s7 q).2;simp only[N!,Array.length_toList,U?,this];exact⟨y? _,λ_=>trivial⟩);cases h;cases h;cases h
 none:=by intro es vs ys h H Z ws w a__ he;simp only[vH,CU]at h;split at h;obtain⟨V,r,rfl,h1,P⟩:=a__.inv;rw[P.cW];refine⟨1,[],λk m=>?_⟩;(cases k with|zero=>omega|succ k=>rcases he with rfl|rfl<;>simp[run,lI,K,F,tC,vH]);cases h
 row:=by
  intro es xs vs ys h H Z ws id off rs a__ d__ C I z hz;simp only[vH,CU]at h;split at h;rename_i g cb;obtain⟨V,r,rfl,h1,P⟩:=a__.inv;rw[P.cW];obtain⟨a',b__,rfl,s,aa⟩:∃a' b__,V=.clo g a' b__/\dB H Z [] a'/\dB H Z cb b__:=h1.mc;rw[s.cW]at *;split at h;cases h;refine⟨1,rs,[],λk m=>?_,rfl,⟨rfl,λj u v o=>by simp at o⟩,z⟩;cases k with|zero=>omega|succ k=>have:H.set id (.row es rs)=H:=ud d__;simp[run,lI,K,F,tC,vH,this]
  rename_i x l;split at h;rename_i D;simp only[ζh,Bool.not_eq_true']at D;obtain⟨c1,c3⟩:=D;obtain⟨rfl,Q,ae⟩:=Bw c1;split at h;rename_i q;cases h;obtain⟨G,S⟩:=s7 q;have B:∀i,Z i->Z i/\bt (H.set id .dead) i=bt H i:=λi t=>⟨t,by unfold bt;rw[F?];rintro rfl;exact hz t⟩;have T:=I.mono B;obtain⟨M1,c__⟩:=(S6 c1 T).borrows;simp only[U?]at c__;obtain⟨M2,W⟩:=(aa.mono B).borrows;obtain⟨N,R⟩:=HP (p:=λi k=>∀j:_root_.Fin (l.length+1),cq (run E k) g (kE (((x::l)[i.1]?).getD [])::kE (((x::l)[j.1]?).getD [])::cb) []=some (.int .i64 ((vM E g cb (kE (((x::l)[i.1]?).getD [])) (kE (((x::l)[j.1]?).getD []))).getD 0))) (λi=>by
   obtain⟨N,R⟩:=HP (p:=λ(j:_root_.Fin (l.length+1))k=>cq (run E k) g (kE (((x::l)[i.1]?).getD [])::kE (((x::l)[j.1]?).getD [])::cb) []=some (.int .i64 ((vM E g cb (kE (((x::l)[i.1]?).getD [])) (kE (((x::l)[j.1]?).getD []))).getD 0))) (λj=>by
    obtain⟨c,d⟩:=G i j;obtain⟨n,hn⟩:=WY d;exact⟨n,λk m=>by rw[hn k m,d];rfl⟩)
   exact⟨N,λk m j=>R j k m⟩)
  have X:∀k,N<=k->kz (run E k) g ((x::l).map kE) cb l.length=λi j=>vM E g cb (kE (((x::l)[i.1]?).getD [])) (kE (((x::l)[j.1]?).getD [])):=λk m=>by funext i j;obtain⟨c,d⟩:=G i j;have e1:∀i:_root_.Fin (l.length+1),((x::l).map kE)[i.1]?=some (kE (((x::l)[i.1]?).getD [])):=λi=>(by have:i.1<(x::l).length:=i.2;rw[k!,ζd this];rfl);unfold kz;rw[e1 i,e1 j];simp only[R i k m j];rw[d];rfl
  have ab:=FX S;generalize hL:(tD l.length (sw λi j:_root_.Fin (l.length+1)=>vM E g cb (kE (((x::l)[i.1]?).getD [])) (kE (((x::l)[j.1]?).getD [])))).toList=L at *;have ad:L.length=l.length+1:=by rw[<-hL];simpa using ab
  simp only[U?]at C I Q;refine⟨max N (max M1 M2)+1,tX rs off l.length L,[],λk m=>?_,?_,?_,?_⟩;cases k with|zero=>omega|succ k=>simp only[run,lI,K,F,N',tC,d__,vH,v?,_a,U?];rw[L' ⟨trivial,trivial,C,c?,c3⟩,show(run E k).lv=k from qG E k,c__ k c?,W k c?];simp only[X k c?,q,N',hL,a7]
  simp[tX,ad];omega;have e:((tX rs off l.length L).drop off).take (L.map λi=>((x::l)[i.1]?).getD []).length=L.map λi=>(rs[off+i.1]?).getD []:=by unfold tX;have h0:(rs.take off).length=off:=(by simp;omega);rw[e8,List.drop_append_of_le_length c?,List.drop_eq_nil_of_le c?,C',N!,List.take_append_of_le_length f?,a! f?]
  rw[e];refine⟨f?,λj a b s y=>?_⟩;rw[k!]at s y;obtain⟨i,t,rfl⟩:=ζf.1 s;rw[t]at y;simp only[A?,ζa]at y;subst y;have Y:i.1<(x::l).length:=i.2;have A:off+i.1<rs.length:=by have:=i.2;omega
  refine I.2 i.1 _ _ (by rw[ζd Y];rfl) ?_;rw[D?,L' i.2,L?,ζd A];rfl;intro c d u o;unfold tX at d;rcases mem_append.1 d with d|d;rcases mem_append.1 d with d|d;exact z c (List.mem_of_mem_take d) u o;obtain⟨i,_,rfl⟩:=mem_map.1 d;have A:off+i.1<rs.length:=by have:=i.2;omega
  rw[ζd A]at o;exact z _ (t? A) u o;exact z c (List.mem_of_mem_drop d) u o;cases h;cases h;cases h
def gj(N:Nat->Y')(F:WP):Arg->V
 |.s n=>get F n|.k c=>c|.f s=>.clo (N s) [] []
def lG(E:Env)(N:Nat->Y')(call:dR)(b:aY Nat)(now:X')(k:K)(vs:So)(H:bl):aY (V×bl):=
 match k,b with
 |.p p,_=>(bT N p vs).map λv=>(v,H)|.r r,J=>(fS H r vs).map λv=>(v,H)|.r r,M b=>(fS (H.take b) r vs).map λv=>(v,H)|.a a,J=>(nW a vs).map λx=>(x.2.val (W H),H++[x.1])|.l l,J=>fI H l vs|.l (.store n),M _=>if now then fI H (.store n) vs else J|.c,J=>match vs with
  |.clo g a c::u=>if E.keep g then iH E call g (a++u++c) H else match cq call g (a++u++c) H with
   |some y=>if y.scalar then M (y,H)else J|none=>J
  |_=>J
 |.c,M b=>match vs with
  |.clo g a c::u=>if E.keep g then J else match cq call g (a++u++c) (H.take b)with
   |some y=>if y.scalar then M (y,H)else J|none=>J
  |_=>J
 |_,_=>J
def mO(F:WP):aY Nat->V->WP
 |none,_=>F|some d,v=>set F d v
def dN(E:Env)(N:Nat->Y')(call:dR)(b:aY Nat):R0->WP->bl->aY (WP×bl)
 |[],F,H=>M (F,H)|o::r,F,H=>match o.gd with
  |none=>match lG E N call b o.now o.k (o.az.map (gj N F)) H with
   |some (v,H')=>dN E N call b r (mO F o.dst v) H'|none=>J
  |some _=>J
section
variable{X:CX}{N:Nat->Y'}{call:dR}{F F':WP}{H H':bl}
theorem O_(B:∀f s,X.nm f=M s->N s=f){o:UV}{x:Arg}(h:rP X.nm o=M x):ev F o=M (gj N F x):=by cases o with|tmp t=>simp[rP]at h;subst h;rfl|const w=>simp[rP]at h;split at h;rename_i c a;split at h;simp at h;subst h;exact a;grind;grind|func f=>obtain⟨s,u,rfl⟩:=ζf.1 h;show M (V.clo f [] [])=M (.clo (N s) [] []);grind|global i=>simp[rP]at h;split at h;rename_i c a;split at h;simp at h;subst h;simp[ev,a];rfl;grind;grind
theorem zw(G:∀f s,X.nm f=M s->N s=f):∀{os:aX UV}{B:QR},os.mapM (rP X.nm)=M B->f_ F os=M (B.map (gj N F))
 |[],B,h=>by simp at h;subst h;rfl|o::os,B,h=>by simp[ζg]at h;obtain⟨x,d,xs,D,rfl⟩:=h;simp[f_,O_ G d,zw G D]
theorem C_(D:∀f s,X.nm f=M s->N s=f){B:X'}{ops:QP}{i:Nat}{o:Oper}{ro:RO}(h:oM X B ops i o=M ro)(g:ro.gd=J):
 o.dst=ro.dst/\BC X.nt o.dst=U/\gZ ops F o=U/\((DC X.E N F o.op (ro.az.map (gj N F)) ro.k/\ro.now=(B&&dY ops i)/\(B=U->dY ops i=O->∀a',rV ops i a'=[]\/∀t,o.op≠.load t (.tmp a')))\/(∃n,ro.k=.l (.storeF n))\/(∃n a,ro.k=.r (.loadF n a))\/(B=U/\Gw X.E ops i=U/\cO o.op=.alloc/\(∃p,ro.k=.p p/\(p=.emptyC\/(∃a b,p=.makeC a b)\/∃a b c d,p=.buildC a b c d)/\∀y,bT N p (ro.az.map (gj N F))=M y->rS X.E F o.op=M y))\/∃n,ro.k=.e n):=by
 unfold oM at h;split at h
 .rename_i hd;have hd:=(Bool.and_eq_true_iff.1 hd).1;split at h
  .rename_i gd k os u hr;split at h
   .split at h
    .rename_i z;simp only[ζh]at z;have L:∀{gd:aY (Nat×X')},EY ops o=M gd->gd=J->gZ ops F o=U:=λ{gd}u g=>by
      subst g;unfold gZ;unfold EY at u
      cases G:o.guard with
      |none=>rfl|some b__=>rw[G]at u;have⟨j,b⟩:=b__;have⟨d,_,e⟩:=ζf.1 u;cases e
     split at h
     next Q=>obtain⟨S,C,rfl⟩:=ζf.1 h;have w:=kW D hr (zw (F:=F) D C);exact⟨_k,hd,L u g,.inr (.inr (.inr (.inl ⟨z.1,z.2,w.1,_,_k,.inr (.inl ⟨_,_,_k⟩),λy I=>FV ⟨_,_,_,by assumption⟩ w I⟩)))⟩
     .rename_i Q;split at h
      next T=>obtain⟨a__,rfl,rfl⟩:=T;obtain⟨S,C,rfl⟩:=ζf.1 h;have w:=kW D hr (zw (F:=F) D C);exact⟨_k,hd,L u g,.inr (.inr (.inr (.inl ⟨z.1,z.2,w.1,_,_k,.inl _k,λy I=>GK ⟨_,_,_,by assumption⟩ w a__ I⟩)))⟩
      obtain⟨S,C,rfl⟩:=ζf.1 h;have w:=kW D hr (zw (F:=F) D C);exact⟨_k,hd,L u g,.inr (.inr (.inr (.inl ⟨z.1,z.2,w.1,_,_k,.inr (.inr ⟨_,_,_,_,_k⟩),λy I=>Hg ⟨_,_,_,by assumption⟩ w I⟩)))⟩
     cases h
    obtain⟨S,C,rfl⟩:=ζf.1 h;simp only at g;subst g;refine⟨_k,hd,?_,?_⟩
    .unfold gZ;unfold EY at u
     cases G:o.guard with
     |none=>rfl|some b__=>rw[G]at u;have⟨j,b⟩:=b__;have⟨d,_,e⟩:=ζf.1 u;cases e
    rcases GS B ops i k os with⟨e,W⟩|⟨_,_,n,a,l,Y,_,_,_,e⟩|⟨_,_,n,ag,a,_,_,e⟩|⟨_,_,_,n,_,e⟩
    .rw[e]at C⊢;refine .inl ⟨kW D hr (zw D C),_k,λhd Z a'=>?_⟩
     by_cases q:∃t,o.op=.load t (.tmp a')
     .have⟨t,q⟩:=q;rw[q]at hr;simp only[resolve]at hr;have⟨d,_,e⟩:=ζf.1 hr;simp only[ζc]at e;exact .inl (W _ _ a' hd Z e.1.symm e.2.symm)
     exact .inr λt h=>q ⟨t,h⟩
    .rw[e];exact .inr (.inl ⟨n,_k⟩)
    .rw[e];exact .inr (.inr (.inl ⟨n,ag,_k⟩))
    rw[e];exact .inr (.inr (.inr (.inr ⟨n,_k⟩)))
   simp at h
  simp at h
 simp at h
theorem KV{a:Nat}{dst:aY Nat}(h:BC a dst=U)(v:V):lQ a F dst v=M (mO F dst v):=by cases dst with|none=>rfl|some d=>simp[BC]at h;simp[lQ,L' h,mO]
theorem abU(a__:∀f s,X.nm f=M s->N s=f){ops:QP}{i:Nat}{o:Oper}{ro:RO}(h:oM X O ops i o=M ro)(q:ro.gd=J){v:V}(d:lG X.E N call J ro.now ro.k (ro.az.map (gj N F)) H=M (v,H')):
 iM X.E call X.nt ops J o F H=M (mO F ro.dst v,H'):=by
 have⟨j,I,L,u⟩:=C_ (F:=F) a__ h q;have hd:cZ X.E call ops J F H o.op=M (v,H'):=by
  rcases u with⟨u,_⟩|⟨n,u⟩|⟨n,a,u⟩|⟨u,_⟩|⟨n,u⟩;generalize t:ro.k=k at d u;generalize ro.az.map (gj N F)=b__ at d u;unfold cZ;cases k with|p p=>have⟨c,e⟩:=u;have⟨w,B,C⟩:=ζf.1 d;rw[c];simp only[BX (e w B),A?];rw[C]|r r=>have⟨c,e⟩:=u;have⟨w,B,C⟩:=ζf.1 d;rw[c];simp only[e H w B,A?];rw[C]|a a=>have⟨c,e⟩:=u;have⟨⟨ob,m⟩,B,C⟩:=ζf.1 d;rw[c];simp only[qf,v?,_a,e _ B];exact _f M C|l l=>have⟨c,e⟩:=u;rw[c];exact e H _ d|e n=>exact u.elim|b=>simp[lG]at d|c=>obtain⟨c,f,c__,rfl,e⟩:=u;rw[c];simp only[lG]at d;split at d;rename_i g a b Q D;simp only[List.cons.injEq]at D;obtain⟨rfl,rfl⟩:=D;split at d;(next z=>simp only[e,zu,eE,mR,z,Bool.and_self,N'];exact d);rename_i z;split at d;rename_i y S;split at d;(next G=>simp only[e,zu,eE,mR,z,Bool.false_and,v?,_a,S,G,N'];exact d);simp at d;simp at d;simp at d
  .rw[u]at d;exfalso;have:∀ops i k os,(AG O ops i k os).1=k:=λ_ _ _ _=>rfl;unfold oM at h;simp only[Bool.false_and,v?,_a,Bool.not_false,Bool.and_true]at h;split at h
   .split at h
    .rename_i gd k os T hr;split at h
     .obtain⟨c__,W,rfl⟩:=ζf.1 h;simp only[this]at u;subst u;unfold resolve at hr;(repeat' split at hr)<;>first|(simp at hr;done)|(have⟨_,_,e⟩:=ζf.1 hr;simp at e;done)
     simp at h
    simp at h
   first|(simp at h;done)|contradiction
  rw[u]at d;simp[lG,fS]at d;cases u;rw[u]at d;simp[lG]at d
 unfold iM;rw[L,L' Y,hd];simp only[j,KV (j▸I),A?]
theorem KZ(D:∀f s,X.nm f=M s->N s=f){ops:QP}:∀(i?:QP){i:Nat}{B:R0}{F:WP}{H:bl},nh X O ops i i?=M B->dN X.E N call J B F H=M (F',H')->oy X.E call X.nt ops i? F H=M (F',H')
 |[],i,B,F,H,hc,h=>by simp[nh]at hc;subst hc;exact h|o::i?,i,B,F,H,hc,h=>by simp[nh]at hc;split at hc;rename_i ro rs a G;simp at hc;subst hc;simp[dN]at h;split at h;rename_i b;split at h;(next v H1 c=>simp[oy,abU D a b c];exact KZ D i? G h);grind;grind;grind
theorem ZT{ops:QP}{i:Nat}{op:Op}(h:∀t a',op=.load t (.tmp a')->rV ops i a'=[]):qL ops i F op=U:=by unfold qL;grind
theorem ab0(Y:∀f s,X.nm f=M s->N s=f){ops:QP}{b i:Nat}{o:Oper}(m:ops[i]?=M o){ro:RO}(h:oM X U ops i o=M ro)(q:ro.gd=J){v:V}(d:lG X.E N call (M b) ro.now ro.k (ro.az.map (gj N F)) H=M (v,H')):
 iM X.E call X.nt ops (M (b,i)) o F H=M (mO F ro.dst v,H'):=by
 have⟨j,Z,x,u⟩:=C_ (F:=F) Y h q;have hd:cZ X.E call ops (M (b,i)) F H o.op=M (v,H'):=by
  rcases u with⟨u,z,B⟩|⟨n,u⟩|⟨n,a,u⟩|⟨_,I,b__,p,u,_,L⟩|⟨n,u⟩;generalize E:ro.k=k at d u;generalize ro.az.map (gj N F)=vs at d u;unfold cZ
  cases k with
  |p p=>have⟨c,e⟩:=u;have⟨w,C,D⟩:=ζf.1 d;rw[c];simp only[BX (e w C),A?];rw[D]|r r=>have⟨c,e⟩:=u;have⟨w,C,D⟩:=ζf.1 d;have d__:qL ops i F o.op=U:=ZT λt a' e=>(by by_cases c__:dY ops i=U;exact Gd m e c__;rcases B rfl (by simpa using c__) a' with h|h;exact h;exact _e e (h t));rw[c];simp only[e _ w C,d__,N'];rw[D]|a a=>simp[lG]at d|l l=>have⟨c,e⟩:=u;cases l with|store n=>simp only[lG]at d;split at d;(next W=>rw[z,Bool.true_and]at W;rw[c];simp only[W,Bool.true_or,N'];exact e H _ d);simp at d|_=>simp[lG]at d
  |e n=>exact u.elim|b=>simp[lG]at d|c=>obtain⟨c,f,K,rfl,e⟩:=u;rw[c];simp only[lG]at d;split at d;rename_i g a b a__ G;simp only[List.cons.injEq]at G;obtain⟨rfl,rfl⟩:=G;split at d;simp at d;rename_i Q;split at d;rename_i y A;split at d;(next S=>simp only[e,zu,Is h _k c,Bool.not_false,Bool.true_or,eE,mR,Q,Bool.false_and,v?,_a,A,S,N'];exact d);simp at d;simp at d;simp at d
  rw[u]at d;simp[lG]at d;rw[u]at d;simp[lG,fS]at d;rw[u]at d;have⟨w,C,D⟩:=ζf.1 d;have T:=L w C;unfold cZ;rw[b__];simp only[qf,I,N',T,A?];exact _f M D;rw[u]at d;simp[lG]at d
 unfold iM;rw[x,L' _k,hd];simp only[j,KV (j▸Z),A?]
theorem MN(D:∀f s,X.nm f=M s->N s=f){ops:QP}{b:Nat}:∀(i?:QP){i:Nat}{B:R0}{F:WP}{H:bl},ops.drop i=i?->nh X U ops i i?=M B->dN X.E N call (M b) B F H=M (F',H')->
 lV X.E call X.nt ops b (G' i (W i?)) F H=M (F',H')
 |[],i,B,F,H,_,hc,h=>by simp[nh]at hc;subst hc;exact h|o::i?,i,B,F,H,hd,hc,h=>by simp[nh]at hc;split at hc;rename_i ro rs a j;simp at hc;subst hc;simp[dN]at h;split at h;rename_i c;split at h;rename_i v H1 d;have G:ops[i]?=M o:=(by have:(ops.drop i)[0]?=M o:=h?;grind);have u:ops.drop (i+1)=i?:=(by rw[<-List.drop_drop,hd];rfl);simp[List.range'_succ,lV,G,ab0 D G a c d];exact MN D i? u j h;grind;grind;grind
def AY(l:R0):X':=l.all λo=>(match o.k with|.a _|.l (.storeF _)|.r (.loadF ..)|.p (.makeC ..)|.p (.buildC ..)|.p .emptyC|.e _=>O|_=>U)&&o.gd.isNone
theorem GX(d:∀f s,X.nm f=M s->N s=f){ops:QP}:∀(i?:QP){i:Nat}{G:R0},nh X U ops i i?=M G->AY G=U->i?.any (λo=>cO o.op==.alloc)=O
 |[],_,_,_,_=>rfl|o::i?,i,G,hc,D=>by simp only[nh]at hc;split at hc;rename_i ro rs c T;simp only[ζa]at hc;subst hc;simp only[AY,o!,ζh,Option.isNone_iff_eq_none]at D;have⟨_,_,_,B⟩:=C_ (F:=[]) d c D.1.2;rw[List.any_cons,GX d i? T D.2,Bool.or_false];rcases B with⟨B,_⟩|⟨n,B⟩|⟨n,a,B⟩|⟨_,_,_,p,B,u,_⟩|⟨n,B⟩;(cases b:ro.k with|a p=>have:=D.1.1;rw[b]at this;cases this|e p=>have:=D.1.1;rw[b]at this;cases this|_=>rw[b]at B;rw[B.1];rfl);have:=D.1.1;rw[B]at this;cases this;have:=D.1.1;rw[B]at this;cases this;have:=D.1.1;rw[B]at this;rcases u with rfl|⟨_,_,rfl⟩|⟨_,_,_,_,rfl⟩<;>cases this;have:=D.1.1;rw[B]at this;cases this;simp at hc
def jq(E:Env)(N:Nat->Y')(call:dR)(lf:Nat):RC->WP->bl->aY (Out×WP×bl)
 |.skip,F,H=>M (.norm,F,H)|.ops l,F,H=>(dN E N call J l F H).map λx=>(.norm,x.1,x.2)|.vm l,F,H=>if AY l then(dN E N call (M (W H)) l F H).map λx=>(.norm,x.1,x.2)else J|.seq a b,F,H=>match jq E N call lf a F H with
  |some (.norm,F',H')=>jq E N call lf b F' H'|r=>r
 |.cond x a b,F,H=>match gj N F x with
  |.bool t=>if t then jq E N call lf a F H else jq E N call lf b F H|_=>J
 |.block id c,F,H=>match jq E N call lf c F H with
  |some (.exit B,F',H')=>if B=id then M (.norm,F',H')else M (.exit B,F',H')|r=>r
 |.loop c,F,H=>mG (jq E N call lf c) lf F H|.exit id,F,H=>M (.exit id,F,H)|.ret,F,H=>M (.ret,F,H)|_,_,_=>J
theorem Lf{f g:WP->bl->aY (Out×WP×bl)}(h:∀F H r,f F H=M r->g F H=M r):∀(k:Nat)(F:WP)(H:bl)(r:Out×WP×bl),mG f k F H=M r->mG g k F H=M r
 |0,F,H,r,hr=>by simp[mG]at hr|k+1,F,H,r,hr=>by simp only[mG]at hr⊢;cases B:f F H with|none=>rw[B]at hr;simp at hr|some q=>rw[B]at hr;rw[h F H q B];have⟨o,F1,H1⟩:=q;cases o with|norm=>exact Lf h k F1 H1 r hr|exit _=>exact hr|ret=>exact hr
theorem KH(D:∀f s,X.nm f=M s->N s=f){lf:Nat}:∀(j:RC)(code:Code)(F:WP)(H:bl)(r:Out×WP×bl),bQ X O code=M j->jq X.E N call lf j F H=M r->exec X.E call lf O X.nt code F H=M r:=by
 intro j
 induction j with
 |skip=>
  intro code F H r d h;simp only[jq,ζa]at h;subst h
  cases code with
  |skip=>rfl|label _=>rfl|region id ops u=>simp only[bQ]at d;(repeat' split at d)<;>first|(simp at d;done)|(have⟨_,_,e⟩:=ζf.1 d;cases e)
  |_=>simp only[bQ]at d;(repeat' split at d)<;>first|(simp at d;done)|(have⟨_,_,e⟩:=ζf.1 d;cases e)|cases d
 |ops l=>intro code F H r d h;cases code with|region id ops u=>simp only[bQ]at d;split at d;split at d;have⟨_,_,e⟩:=ζf.1 d;cases e;simp at d;rename_i hd;have⟨T,G,e⟩:=ζf.1 d;cases e;simp only[jq]at h;obtain⟨⟨F',H'⟩,k,rfl⟩:=ζf.1 h;simp only[exec,lF,hd];rw[M' f?,KZ D _ G k];rfl|_=>simp only[bQ]at d;(repeat' split at d)<;>first|(simp at d;done)|(have⟨_,_,e⟩:=ζf.1 d;cases e)|cases d
 |vm l=>intro code F H r d h;cases code with|region id ops u=>simp only[bQ]at d;split at d;rename_i hd;split at d;rename_i I;have⟨T,G,e⟩:=ζf.1 d;cases e;simp only[jq]at h;split at h;(next b__=>obtain⟨⟨F',H'⟩,k,rfl⟩:=ζf.1 h;have W:uH ops.toList=O:=GX D _ G b__;have:=MN D ops.toList (i:=0) _k G k;rw[<-List.range_eq_range']at this;simp only[exec,lF,hd,I,N',W,v?,_a,this];rfl);simp at h;simp at d;have⟨_,_,e⟩:=ζf.1 d;cases e|_=>simp only[bQ]at d;(repeat' split at d)<;>first|(simp at d;done)|(have⟨_,_,e⟩:=ζf.1 d;cases e)|cases d
 |seq a b w B=>
  intro code F H r d h
  cases code with
  |seq a__ L=>simp only[bQ]at d;split at d;rename_i x y C c__;cases d;simp only[jq]at h;simp only[exec];(cases g:jq X.E N call lf a F H with|none=>rw[g]at h;simp at h|some q=>rw[g]at h;rw[w a__ F H q C g];have⟨o,F1,H1⟩:=q;cases o with|norm=>exact B L F1 H1 r c__ h|exit _=>exact h|ret=>exact h);simp at d
  |region id ops u=>simp only[bQ]at d;(repeat' split at d)<;>first|(simp at d;done)|(have⟨_,_,e⟩:=ζf.1 d;cases e)
  |_=>simp only[bQ]at d;(repeat' split at d)<;>first|(simp at d;done)|(have⟨_,_,e⟩:=ζf.1 d;cases e)|cases d
 |cond x a b w B=>
  intro code F H r d h
  cases code with
  |cond c a__ L=>simp only[bQ]at d;split at d;rename_i n y z C c__ Y;cases d;simp only[jq]at h;simp only[exec,O_ (F:=F) D C];split at h;rename_i t Z;rw[Z];(cases t with|true=>simp only[N']at h⊢;exact w a__ F H r c__ h|false=>simp only[v?,_a]at h⊢;exact B L F H r Y h);simp at h;simp at d
  |region id ops u=>simp only[bQ]at d;(repeat' split at d)<;>first|(simp at d;done)|(have⟨_,_,e⟩:=ζf.1 d;cases e)
  |_=>simp only[bQ]at d;(repeat' split at d)<;>first|(simp at d;done)|(have⟨_,_,e⟩:=ζf.1 d;cases e)|cases d
 |block id c Q=>
  intro code F H r d h
  cases code with
  |block S c'=>simp only[bQ]at d;have⟨x,C,e⟩:=ζf.1 d;cases e;simp only[jq]at h;simp only[exec];cases g:jq X.E N call lf c F H with|none=>rw[g]at h;simp at h|some q=>rw[g]at h;rw[Q c' F H q C g];exact h
  |region id ops u=>simp only[bQ]at d;(repeat' split at d)<;>first|(simp at d;done)|(have⟨_,_,e⟩:=ζf.1 d;cases e)
  |_=>simp only[bQ]at d;(repeat' split at d)<;>first|(simp at d;done)|(have⟨_,_,e⟩:=ζf.1 d;cases e)|cases d
 |loop c Q=>
  intro code F H r d h
  cases code with
  |loop c'=>simp only[bQ]at d;have⟨x,C,e⟩:=ζf.1 d;cases e;simp only[jq]at h;simp only[exec];exact Lf (λF H r m=>Q c' F H r C m) lf F H r h|region id ops u=>simp only[bQ]at d;(repeat' split at d)<;>first|(simp at d;done)|(have⟨_,_,e⟩:=ζf.1 d;cases e)
  |_=>simp only[bQ]at d;(repeat' split at d)<;>first|(simp at d;done)|(have⟨_,_,e⟩:=ζf.1 d;cases e)|cases d
 |exit id=>
  intro code F H r d h
  cases code with
  |exit S=>simp only[bQ,ζa,RC.exit.injEq]at d;subst d;exact h|region id ops u=>simp only[bQ]at d;(repeat' split at d)<;>first|(simp at d;done)|(have⟨_,_,e⟩:=ζf.1 d;cases e)
  |_=>simp only[bQ]at d;(repeat' split at d)<;>first|(simp at d;done)|(have⟨_,_,e⟩:=ζf.1 d;cases e)|cases d
 |ret=>
  intro code F H r d h
  cases code with
  |ret=>exact h|region id ops u=>simp only[bQ]at d;(repeat' split at d)<;>first|(simp at d;done)|(have⟨_,_,e⟩:=ζf.1 d;cases e)
  |_=>simp only[bQ]at d;(repeat' split at d)<;>first|(simp at d;done)|(have⟨_,_,e⟩:=ζf.1 d;cases e)|cases d
 |_=>intro code F H r d h;simp[jq]at h
end
def Ex(E:Env)(N:Nat->Y')(a:RC)(F:WP)(H:bl)(o:Out)(F':WP)(H':bl):Prop:=∃n,∀k,n<=k->jq E N (run E k) k a F H=M (o,F',H')
def tL(E:Env)(N:Nat->Y')(a:RC)(F:WP)(H:bl)(o:Out)(F':WP)(H':bl):Prop:=∃n,∀k,n<=k->∀u,n<=u->mG (jq E N (run E k) k a) u F H=M (o,F',H')
section
variable{E:Env}{N:Nat->Y'}{a b c:RC}{F F1 F':WP}{H H1 H':bl}{o:Out}{x:Arg}{id:Nat}
theorem Ex.ops{l:R0}(h:∃n,∀k,n<=k->dN E N (run E k) J l F H=M (F',H')):Ex E N (.ops l) F H .norm F' H':=let⟨n,h⟩:=h;⟨n,λk a=>by simp only[jq,h k a,A?]⟩
theorem Ex.ez{l:R0}(h:∀call,dN E N call J l F H=M (F',H')):Ex E N (.ops l) F H .norm F' H':=Ex.ops ⟨0,λk _=>h _⟩
theorem Ex.vm{l:R0}(B:AY l=U)(h:∀call,dN E N call (M (W H)) l F H=M (F',H')):Ex E N (.vm l) F H .norm F' H':=⟨0,λk _=>by simp only[jq,B,N',h,A?]⟩
theorem Ex.PG{l:R0}(B:AY l=U)(h:∃n,∀k,n<=k->dN E N (run E k) (M (W H)) l F H=M (F',H')):Ex E N (.vm l) F H .norm F' H':=let⟨n,h⟩:=h;⟨n,λk a=>by simp only[jq,B,N',h k a,A?]⟩
theorem Ex.skip:Ex E N .skip F H .norm F H:=⟨0,λ_ _=>rfl⟩
theorem Ex.exit:Ex E N (.exit id) F H (.exit id) F H:=⟨0,λ_ _=>rfl⟩
theorem Ex.ret:Ex E N .ret F H .ret F H:=⟨0,λ_ _=>rfl⟩
theorem Ex.seq(c:Ex E N a F H .norm F1 H1)(B:Ex E N b F1 H1 o F' H'):Ex E N (.seq a b) F H o F' H':=by have⟨n,c⟩:=c;have⟨m,B⟩:=B;exact⟨max n m,λk d=>by simp only[jq,c k c?];exact B k c?⟩
theorem Ex.Bu(c:Ex E N a F H o F' H')(B:o≠.norm):Ex E N (.seq a b) F H o F' H':=by have⟨n,c⟩:=c;refine⟨n,λk d=>?_⟩;simp only[jq,c k d];cases o<;>first|exact _e Y B|rfl
theorem Ex.uc(B:gj N F x=.bool U)(h:Ex E N a F H o F' H'):Ex E N (.cond x a b) F H o F' H':=by have⟨n,h⟩:=h;exact⟨n,λk c=>by simp only[jq,B,N',h k c]⟩
theorem Ex.xd(B:gj N F x=.bool O)(h:Ex E N b F H o F' H'):Ex E N (.cond x a b) F H o F' H':=by have⟨n,h⟩:=h;exact⟨n,λk c=>by simp only[jq,B,v?,_a,h k c]⟩
theorem Ex.block(h:Ex E N c F H .norm F' H'):Ex E N (.block id c) F H .norm F' H':=by have⟨n,h⟩:=h;exact⟨n,λk a=>by simp only[jq,h k a]⟩
theorem Ex.GF(h:Ex E N c F H (.exit id) F' H'):Ex E N (.block id c) F H .norm F' H':=by have⟨n,h⟩:=h;exact⟨n,λk a=>by simp only[jq,h k a,N']⟩
theorem Ex.RN(h:Ex E N c F H .ret F' H'):Ex E N (.block id c) F H .ret F' H':=by have⟨n,h⟩:=h;exact⟨n,λk a=>by simp only[jq,h k a]⟩
theorem Ex.loop(h:tL E N c F H o F' H'):Ex E N (.loop c) F H o F' H':=by have⟨n,h⟩:=h;exact⟨n,λk a=>h k a k a⟩
theorem tL.step(a:Ex E N c F H .norm F1 H1)(B:tL E N c F1 H1 o F' H'):tL E N c F H o F' H':=by have⟨n,a⟩:=a;have⟨m,B⟩:=B;refine⟨max n m+1,λk b u w=>?_⟩;cases u with|zero=>omega|succ u=>simp only[mG,a k c?];exact B k c? u c?
theorem tL.stop(a:Ex E N c F H o F' H')(B:o≠.norm):tL E N c F H o F' H':=by have⟨n,a⟩:=a;refine⟨n+1,λk b u w=>?_⟩;cases u with|zero=>omega|succ u=>simp only[mG,a k c?];cases o<;>first|exact _e Y B|rfl
end
theorem Ex.run{E:Env}{nm:Y'->aY Nat}{N:Nat->Y'}(B:∀f s,nm f=M s->N s=f){f:Y'}{fi:FI}{a:RC}(D:E.ft f=M fi)(b:bQ ⟨E,nm,fi.ntmps⟩ O fi.body=M a){args:So}(G:W args<=fi.ntmps){H H':bl}{F':WP}
 (h:Ex E N a args H .ret F' H'){vs:So}(c:jm E F' H' fi.results=M vs):∃n,run E n (.fn f) args H=M (result vs,H'):=by
 have⟨n,h⟩:=h;refine⟨n+1,?_⟩;have:=KH (X:=⟨E,nm,fi.ntmps⟩) (call:=Go.VE.run E n) B (lf:=n) a fi.body args H _ b (h n (y? _));simp only[Go.VE.run,lI,D,L' G,this,c,A?]
@[simp] theorem uu(F:WP)(i j:Nat)(v:V):get (set F i v) j=if i=j then v else get F j:=by
 split;next h=>subst h;exact vN F i v
 rename_i h;exact kS F v h
def refs:ST->S'->S'
 |id::ids,r::rs=>[V.hsl id 1 0 (W r)]::refs ids rs|_,_=>[]
def sE(r:So):S':=r.map λu=>[u]
structure vW(H:bl)(w:V)(o:Nat)(ids:List Nat)(rows:List (List V)):Prop where
 v:w=if rows=[]then .bN else .hsl o 1 0 rows.length
 ob:rows≠[]->H[o]?=some (.row 1 (refs ids rows))
 len:ids.length=rows.length
 r:∀(i id:Nat)(r:List V),ids[i]?=some id->rows[i]?=some r->H[id]?=some (.row 1 (sE r))
 nd:ids.Nodup
 ne:rows≠[]->o∉ids
theorem B8:∀{ids:ST}{rows:S'},W ids=W rows->W (refs ids rows)=W rows
 |[],[],_=>rfl|_::ids,_::rows,h=>by simp only[refs,U?,B8 (ids:=ids) (rows:=rows) (by simpa using h)]
theorem LM:∀{ids:ST}{rows:S'}(id:Nat)(r:So),W ids=W rows->refs (ids++[id]) (rows++[r])=refs ids rows++[[V.hsl id 1 0 (W r)]]
 |[],[],_,_,_=>rfl|_::ids,_::rows,id,r,h=>by simp only[refs,List.cons_append,LM (ids:=ids) (rows:=rows) id r (by simpa using h)]
theorem Lu:∀{ids:ST}{rows:S'}{i id:Nat}{r:So},ids[i]?=M id->rows[i]?=M r->(refs ids rows)[i]?=M [V.hsl id 1 0 (W r)]
 |[],_,_,_,_,h,_=>by simp at h|_::_,[],_,_,_,_,h=>by simp at h|a::ids,b::rows,0,id,r,h1,B=>by simp at h1 B;subst h1 B;rfl|a::ids,b::rows,i+1,id,r,h1,B=>by simpa[refs]using Lu (ids:=ids) (rows:=rows) (i:=i) (by simpa using h1) (by simpa using B)
theorem Ky:∀{ids:ST}{rows:S'}{i:Nat}{r B:So},rows[i]?=M r->W B=W r->refs ids (rows.set i B)=refs ids rows
 |[],_,_,_,_,_,_=>by simp[refs]|_::_,[],_,_,_,_,_=>by simp[refs]|a::ids,b::rows,0,r,B,h,D=>by simp at h;subst h;simp only[List.set_cons_zero,refs,D]|a::ids,b::rows,i+1,r,B,h,D=>by simp only[List.set_cons_succ,refs,Ky (ids:=ids) (rows:=rows) (i:=i) (by simpa using h) D]
section
variable{H H':bl}{v:V}{o:Nat}{ids:ST}{rows:S'}
theorem vW.nil(H:bl)(o:Nat):vW H .bN o [] []:=⟨Y,λh=>_e Y h,Y,λi id r h=>by simp at h,.nil,λh=>_e Y h⟩
theorem vW.heap(n:vW H v o ids rows)(B:rows≠[]->H'[o]?=H[o]?)(a:∀id∈ids,H'[id]?=H[id]?):vW H' v o ids rows:=⟨n.v,λh=>by rw[B h];exact n.ob h,n.len,λi id r h1 u=>by rw[a id (s? h1)];exact n.r i id r h1 u,n.nd,n.ne⟩
theorem vW.lt(n:vW H v o ids rows):(rows≠[]->o<W H)/\∀id∈ids,id<W H:=by refine⟨λh=>(ζe.1 (n.ob h)).1,λid u=>?_⟩;have⟨i,a⟩:=d! u;have w:=(ζe.1 a).1;have:=n.r i id _ a (ζd (show i<W rows from n.len▸w));exact(ζe.1 this).1
theorem vW.more(n:vW H v o ids rows)(X:bl):vW (H++X) v o ids rows:=n.heap (λh=>u? (n.lt.1 h)) λid u=>u? (n.lt.2 id u)
theorem vW.push(n:vW H v o ids rows)(r:So)(T:_l rows+1<=2147483648):
 ∃H',fI (H++[.row 1 (sE r)]++[.row 1 [[.hsl (_l H) 1 0 (_l r)]]]) (.append 1) [v,.hsl (_l H+1) 1 0 1]=M (.hsl (_l H+2) 1 0 (_l rows+1),H')/\
  vW H' (.hsl (_l H+2) 1 0 (_l rows+1)) (_l H+2) (ids++[_l H]) (rows++[r])/\_l H<=_l H'/\(∀id,id<_l H->id≠o\/rows=[]->H'[id]?=H[id]?):=by
 generalize C:H++[.row 1 (sE r)]++[.row 1 [[.hsl (_l H) 1 0 (_l r)]]]=H2;have u:_l H2=_l H+2:=by subst C;simp
 have z:∀id,id<_l H->H2[id]?=H[id]?:=λid h=>by subst C;rw[e8,u? h]
 have g:H2[_l H]?=M (.row 1 (sE r)):=by subst C;simp
 have q:H2[_l H+1]?=M (.row 1 [[.hsl (_l H) 1 0 (_l r)]]):=by subst C;simp
 have f:=n.v;have e2:dO H2 1 (.hsl (_l H+1) 1 0 1)=M [[.hsl (_l H) 1 0 (_l r)]]:=by simp[dO,q,Ob.rows]
 by_cases c:rows=[]
 .subst c;rw[L' Y]at f;subst f;have:ids=[]:=List.eq_nil_of_length_eq_zero n.len;subst this;refine⟨H2++[.row 1 [[.hsl (_l H) 1 0 (_l r)]]],?_,⟨f?,λ_=>by rw[<-u];simp[refs],Y,λi id y hi w=>?_,f?,λ_=>f?⟩,by simp[u];omega,λid D _=>?_⟩
  .have e1:dO H2 1 .bN=M []:=rfl;simp only[fI,e1,e2,iz,List.length_nil,Y?,A?,u];simp
  .cases i with
   |zero=>simp at hi w;subst hi w;rw[u? c?];exact g|succ i=>simp at hi
  rw[u? c?];exact z id D
 rw[M' c]at f;subst f;have Q:=n.ob c;have I:=n.lt.1 c;have e1:dO H2 1 (.hsl o 1 0 (_l rows))=M (refs ids rows):=by simp only[dO,N',z o I,Q,ζb,Ob.rows,B8 n.len,d7,y?,List.drop_zero];rw[a! (by rw[B8 n.len];exact y? _)]
 have W:iz H2 (.hsl o 1 0 (_l rows))=M (H2.set o .dead):=by simp only[iz,z o I,Q]
 have B:∀id,id≠o->(H2.set o Ob.dead++[Ob.row 1 (refs ids rows++[[.hsl (_l H) 1 0 (_l r)]])])[id]?=if id<_l H2 then H2[id]?else(H2.set o Ob.dead++[Ob.row 1 (refs ids rows++[[.hsl (_l H) 1 0 (_l r)]])])[id]?:=λid G=>by split;(next h=>rw[u? (by simpa using h),F? (Ne.symm G)]);rfl
 refine⟨H2.set o .dead++[.row 1 (refs ids rows++[[.hsl (_l H) 1 0 (_l r)]])],?_,⟨f?,λ_=>?_,by simp[n.len],λi id y hi w=>?_,?_,λ_ d=>?_⟩,by simp[u];omega,λid D G=>?_⟩
 .simp only[fI,e1,e2,W,B8 n.len,Y?,T,N',A?,u]
 .rw[LM _ _ n.len,<-u];simp
 .have j:id≠o:=by
   rcases Nat.lt_or_ge i (_l ids) with h|h
   .rw[u? h]at hi;intro e;subst e;exact n.ne c (s? hi)
   have:i=_l ids:=by have:=(ζe.1 hi).1;simp at this;omega
   subst this;simp at hi;subst hi;omega
  rcases Nat.lt_or_ge i (_l ids) with h|h
  .rw[u? h]at hi;rw[u? (by rw[<-n.len];exact h)]at w
   have L:=n.lt.2 id (s? hi);rw[B id j,L' c?,z id L]
   exact n.r i id y hi w
  have:i=_l ids:=by have:=(ζe.1 hi).1;simp at this;omega
  subst this;simp at hi;subst hi;rw[n.len]at w;simp at w;subst w;rw[B _ j,L' c?];exact g
 .rw[List.nodup_append];exact⟨n.nd,f?,λa X b S=>by simp at S;subst S;exact Nat.ne_of_lt (n.lt.2 a X)⟩
 .rcases mem_append.1 d with d|d
  .have:=n.lt.2 _ d;omega
  simp at d
 rw[B id (G.resolve_right c),L' c?];exact z id D
end
theorem Xn{E:Env}{N:Nat->Y'}{F:WP}{H H1:bl}{call:dR}{b:aY Nat}{o:RO}{l:R0}{v:V}{r:WP×bl}(a:o.gd=J)(c:lG E N call b o.now o.k (o.az.map (gj N F)) H=M (v,H1))(h:dN E N call b l (mO F o.dst v) H1=M r):dN E N call b (o::l) F H=M r:=by simp only[dN,a,c];exact h
theorem vp{E:Env}{N:Nat->Y'}{F:WP}{H:bl}{call:dR}{b:aY Nat}{o:RO}{l:R0}{v:V}{r:WP×bl}(a:o.gd=J)(c:lG E N call b o.now o.k (o.az.map (gj N F)) H=M (v,H))(h:dN E N call b l (mO F o.dst v) H=M r):dN E N call b (o::l) F H=M r:=Xn a c h
theorem yo{E:Env}{N:Nat->Y'}{F:WP}{H:bl}{call:dR}{b:aY Nat}:dN E N call b [] F H=M (F,H):=rfl
theorem RR{n:Nat}(h:n<=2147483648):w? _q ((n:Int)+1)=((n+1:Nat):Int):=by simp[w?,IntKind.bits,l'];omega
theorem adL{n:Nat}(h:n<=2147483648):w? _q (((n+1:Nat):Int)-1)=(n:Int):=by simp[w?,IntKind.bits,l'];omega
theorem KG(H:bl):H.take (W H)=H:=List.take_length
theorem B6{E:Env}{nm:Y'->aY Nat}{f:Y'}{a:RC}{n:Nat}{rs:aX ResultVar}(h:((E.ft f).map λfi=>(bQ ⟨E,nm,fi.ntmps⟩ O fi.body,ble n fi.ntmps,fi.results))=M (M a,U,rs)):
 ∃fi,E.ft f=M fi/\bQ ⟨E,nm,fi.ntmps⟩ O fi.body=M a/\n<=fi.ntmps/\fi.results=rs:=by
 have⟨fi,b,u⟩:=ζf.1 h;simp only[ζc]at u;exact⟨fi,b,u.1,Nat.le_of_ble_eq_true u.2.1,u.2.2⟩
theorem JD{x:V}(h:x.one=U):x.cells=[x]:=by cases x<;>first|rfl|(simp[V.one]at h)
theorem abk{call:dR}{f:Y'}{args az:So}{H:bl}(h:borrows call.lv H args=M az)(a:∀x∈az,x.closed=U):cq call f args H=cq call f az []:=by
 have:borrows call.lv [] az=M az:=by clear h;unfold borrows;induction az with|nil=>rfl|cons x l u=>simp only[jI,eZ call.lv [] (a x f?),u λy w=>a y (List.mem_cons_of_mem _ w)]
 unfold cq;rw[h,this]
def kept(t:Nat->X')(n:Nat):ST:=(w! n).filter λi=>i==0|| !t i
theorem Ab(t:Nat->X')(n:Nat):kept t (n+1)=kept t n++if n==0|| !t n then[n]else[]:=by unfold kept;rw[List.range_succ,List.filter_append,List.filter_cons];rfl
theorem DT(t:Nat->X'):∀n,W (kept t n)<=n:=λn=>by unfold kept;exact Nat.le_trans (List.length_filter_le ..) f?
theorem Of{t:Nat->X'}{n i:Nat}(h:i∈kept t n):i<n:=by unfold kept at h;exact mem_range.1 (List.mem_filter.1 h).1
theorem Ft{t:Nat->X'}:∀n,(∀i,0<i->i<n->t i=O)->kept t n=w! n
 |0,_=>rfl|n+1,h=>by rw[Ab,Ft n λi a B=>h i a c?,List.range_succ];congr 1;cases n with|zero=>rfl|succ n=>rw[h (n+1) c? c?];simp
theorem Cj{t:Nat->X'}{k:Nat}(B:0<k)(a:t k=U):∀n,k<n->W (kept t n)+1<=n
 |0,h=>c?|n+1,h=>by rw[Ab];by_cases e:n=k;subst e;have:(n==0|| !t n)=O:=(by simp[a];omega);rw[this];have:=DT t n;simp;omega;have:=Cj B a n c?;split<;>simp<;>omega
namespace cmpX
instance{n:Nat}:OfNat Arg n:=⟨.s n⟩
def r1:R0:=[o1 4 (.k (.bN)) []]
def r2:R0:=[o1 8 0 [],o2 9 (.p .lenSl) [8] [],o2 10 (.p (.bin (M .int) J .lss)) [9,.k (.int _q 2)] []]
def r3:R0:=[o1 11 0 [],o1 4 11 []]
def r4:R0:=[o1 5 (.k (.int _q 1)) []]
def r5:R0:=[o1 12 5 [],o1 13 0 [],o2 14 (.p .lenSl) [13] [],o2 15 (.p (.bin (M .int) J .lss)) [12,14] []]
def on(d:Nat)(k:K)(az:QR):RO:=⟨M d,J,U,k,az,[],[]⟩
def r6:R0:=[o1 18 1 [],o1 19 0 [],o1 20 5 [],o2 21 (.p (.idxS 1)) [19,20] [],o2 22 (.r (.load 1 O)) [21] [],o1 23 0 [],o1 24 5 [],o2 25 (.p (.bin (M .int) J .sub)) [24,.k (.int _q 1)] [],o2 26 (.p (.idxS 1)) [23,25] [],o2 27 (.r (.load 1 O)) [26] [],on 28 .c [18,22,27]]
def r7:R0:=[o1 29 0 [],o1 30 5 [],o2 31 (.p (.slice 1 U O)) [29,30] [],o1 6 31 []]
def r8:R0:=[o1 7 (.k (.int _q 1)) []]
def r9:R0:=[o1 32 7 [],o1 33 6 [],o2 34 (.p .lenSl) [33] [],o2 35 (.p (.bin (M .int) J .lss)) [32,34] []]
def KX:R0:=[o1 38 1 [],o1 39 6 [],o1 40 7 [],o2 41 (.p (.idxS 1)) [39,40] [],o2 42 (.r (.load 1 O)) [41] [],o1 43 6 [],o1 44 7 [],o2 45 (.p (.bin (M .int) J .sub)) [44,.k (.int _q 1)] [],o2 46 (.p (.idxS 1)) [43,45] [],o2 47 (.r (.load 1 O)) [46] [],on 48 .c [38,42,47],on 49 (.p (.not)) [48]]
def K4:R0:=[o1 50 0 [],o1 51 5 [],o1 52 6 [],o1 53 7 [],o2 54 (.p (.idxS 1)) [52,53] [],o2 55 (.r (.load 1 O)) [54] [],o2 56 (.p (.idxS 1)) [50,51] [],⟨J,J,O,.l (.store 1),[56,55],[],[]⟩]
def LY:R0:=[o1 57 5 [],o2 58 (.p (.bin (M .int) J .add)) [57,.k (.int _q 1)] [],o1 5 58 []]
def LS:R0:=[o1 36 7 [],o2 37 (.p (.bin (M .int) J .add)) [36,.k (.int _q 1)] [],o1 7 37 []]
def L13:RC:=.seq (.seq (.ops r9) (.cond (.s 35) (.skip) (.exit 2))) (.seq (.block 3 (.seq (.vm KX) (.cond (.s 49) (.seq (.ops K4) (.ops LY)) (.skip)))) (.ops LS))
def M5:R0:=[o1 59 0 [],o1 60 5 [],o2 61 (.p (.slice 1 U O)) [59,60] [],⟨J,J,O,.l (.clear 1 [.bN]),[61],[],[]⟩]
def Ln:R0:=[o1 62 0 [],o1 63 5 [],o2 64 (.p (.slice 1 O U)) [62,63] [],o1 4 64 []]
def r16:R0:=[o1 16 5 [],o2 17 (.p (.bin (M .int) J .add)) [16,.k (.int _q 1)] [],o1 5 17 []]
def Xe:RC:=.seq (.seq (.ops r5) (.cond (.s 15) (.skip) (.exit 0))) (.seq (.block 1 (.seq (.vm r6) (.cond (.s 28) (.seq (.ops r7) (.seq (.seq (.ops r8) (.block 2 (.loop L13))) (.seq (.ops M5) (.seq (.ops Ln) (.ret))))) (.skip)))) (.ops r16))
def r17:R0:=[o1 65 0 [],o1 4 65 []]
def code:RC:=.seq (.ops r1) (.seq (.seq (.ops r2) (.cond (.s 10) (.seq (.ops r3) (.ret)) (.skip))) (.seq (.seq (.ops r4) (.block 0 (.loop Xe))) (.seq (.ops r17) (.ret))))
section
variable{E:Env}{N:Nat->Y'}{F:WP}{H:bl}{call:dR}{id off L k:Nat}
theorem ld{B:S'}{el:Nat}{v:V}(h:H[id]?=M (.row 1 B))(a:B[el]?=M [v]):fS H (.load 1 O) [.hptr id el 0]=M v:=by simp[fS,fh,h,Ob.rows,a,cut,mk]
theorem Xr{i:Nat}(h:i<L):nL 1 (.hsl id 1 off L) (i:Int)=M (.hptr id (off+i) 0):=by unfold nL;rw[M' c?];simp[h]
attribute [local simp] dN lG gj bT mO uu oT uD fS
theorem x2(a:get F 0=.hsl id 1 off L):∃F',(∀call,dN E N call J r2 F H=M (F',H))/\get F' 10=.bool (_r ((L:Int)<2))/\(∀s,s<8->get F' s=get F s):=by refine⟨_,λcall=>by simp[r2,a,qF];rfl,f?,?_⟩;simp;grind
theorem x5(a:get F 0=.hsl id 1 off L)(b:get F 5=.int _q k):∃F',(∀call,dN E N call J r5 F H=M (F',H))/\get F' 15=.bool (_r (k<L))/\(∀s,s<8->get F' s=get F s):=by refine⟨_,λcall=>by simp[r5,a,b,qF];rfl,f?,?_⟩;simp;grind
theorem acu{g:Y'}{cb:So}{B:S'}{o2 L2 i:Nat}{a b:V}{t:X'}(h:H[id]?=M (.row 1 B))(f:i+1<L2)(D:i<=2147483648)(G:B[o2+(i+1)]?=M [a])(q:B[o2+i]?=M [b])(d:E.keep g=O)(e:get F 1=.clo g [] cb):
 (get F 0=.hsl id 1 o2 L2->get F 5=.int _q ((i+1:Nat):Int)->∃F',(∀call,cq call g (a::b::cb) H=M (.bool t)->dN E N call (M (W H)) r6 F H=M (F',H))/\get F' 28=.bool t/\(∀s,s<8->get F' s=get F s))/\
 (get F 6=.hsl id 1 o2 L2->get F 7=.int _q ((i+1:Nat):Int)->∃F',(∀call,cq call g (a::b::cb) H=M (.bool t)->dN E N call (M (W H)) KX F H=M (F',H))/\get F' 49=.bool (!t)/\(∀s,s<8->get F' s=get F s)):=by
 have hd:=adL D;have e1:=ld h G;have e2:=ld h q;have i1:=Xr (id:=id) (off:=o2) (L:=L2) f;have i2:=Xr (id:=id) (off:=o2) (L:=L2) (show i<L2 by omega)
 simp at i1 hd;refine⟨λj k=>⟨_,λcall c=>by simp[-fS,r6,on,j,e,k,i1,i2,e1,e2,hd,d,c,V.scalar,KG];rfl,f?,?_⟩,λf6 l=>⟨_,λcall c=>by simp[-fS,KX,on,e,f6,l,i1,i2,e1,e2,hd,d,c,V.scalar,KG];rfl,f?,?_⟩⟩<;>exactλs u=>by simp;repeat (rw[M' c?])
end
end cmpX
namespace cmpX
section
variable{E:Env}{N:Nat->Y'}{F:WP}{H:bl}{call:dR}{id off L k:Nat}
attribute [local simp] dN lG gj bT mO uu oT uD fS
theorem x7(a:get F 0=.hsl id 1 off L)(b:get F 5=.int _q k)(c:k<=L):∃F',(∀call,dN E N call J r7 F H=M (F',H))/\get F' 6=.hsl id 1 (off+k) (L-k)/\(∀s,s<8->s≠6->get F' s=get F s):=by
 have e:jF 1 (.hsl id 1 off L) (M k) J=M (.hsl id 1 (off+k) (L-k)):=by unfold jF ec;grind
 refine⟨_,λcall=>by simp[r7,a,b,oS,e];rfl,f?,?_⟩;simp;grind
theorem x9{o2 L2 m:Nat}(f6:get F 6=.hsl id 1 o2 L2)(a:get F 7=.int _q m):∃F',(∀call,dN E N call J r9 F H=M (F',H))/\get F' 35=.bool (_r (m<L2))/\(∀s,s<8->get F' s=get F s):=by refine⟨_,λcall=>by simp[r9,f6,a,qF];rfl,f?,?_⟩;simp;grind
theorem x11{B:S'}{o2 L2 m p:Nat}{a z:V}(h:H[id]?=M (.row 1 B))(c:get F 0=.hsl id 1 off L)(d:get F 5=.int _q p)(f6:get F 6=.hsl id 1 o2 L2)(e:get F 7=.int _q m)(D:m<L2)(hp:p<L)
 (G:B[o2+m]?=M [a])(j:B[off+p]?=M [z])(b:a.one=U):
 ∃F',(∀call,dN E N call J K4 F H=M (F',H.set id (.row 1 (B.set (off+p) [a]))))/\(∀s,s<8->get F' s=get F s):=by
 have i1:=Xr (id:=id) (off:=o2) D;have i2:=Xr (id:=id) (off:=off) hp;have e1:=ld h G;have u:fI H (.store 1) [.hptr id (off+p) 0,a]=M (.undef,H.set id (.row 1 (B.set (off+p) [a]))):=by simp[fI,h,j,JD b,b]
 refine⟨_,λcall=>by simp[-fS,K4,c,d,f6,e,i1,i2,e1,u];rfl,?_⟩
 simp;grind
theorem PY{p:Nat}(hp:p<=2147483648):(get F 5=.int _q p->∃F',(∀call,dN E N call J LY F H=M (F',H))/\get F' 5=.int _q ((p+1:Nat):Int)/\(∀s,s<8->s≠5->get F' s=get F s))/\
 (get F 7=.int _q p->∃F',(∀call,dN E N call J LS F H=M (F',H))/\get F' 7=.int _q ((p+1:Nat):Int)/\(∀s,s<8->s≠7->get F' s=get F s))/\
 (get F 5=.int _q p->∃F',(∀call,dN E N call J r16 F H=M (F',H))/\get F' 5=.int _q ((p+1:Nat):Int)/\(∀s,s<8->s≠5->get F' s=get F s)):=by
 have u:=RR hp;refine⟨λf=>⟨_,λcall=>by simp[LY,f,u];rfl,f?,?_⟩,λf=>⟨_,λcall=>by simp[LS,f,u];rfl,f?,?_⟩,λf=>⟨_,λcall=>by simp[r16,f,u];rfl,f?,?_⟩⟩<;>
  (simp;grind)
theorem x14{B:S'}{p:Nat}(h:H[id]?=M (.row 1 B))(a:get F 0=.hsl id 1 off L)(b:get F 5=.int _q p)(hp:p<L)(D:off+L<=W B):
 ∃F',(∀call,dN E N call J M5 F H=M (F',H.set id (.row 1 (B.take (off+p)++replicate (L-p) [.bN]++B.drop (off+L)))))/\(∀s,s<8->get F' s=get F s):=by
 have e:jF 1 (.hsl id 1 off L) (M p) J=M (.hsl id 1 (off+p) (L-p)):=by unfold jF ec;grind
 obtain⟨q,u⟩:∃q,L-p=q+1:=⟨L-p-1,c?⟩
 have c:fI H (.clear 1 [.bN]) [.hsl id 1 (off+p) (L-p)]=M (.undef,H.set id (.row 1 (B.take (off+p)++replicate (L-p) [.bN]++B.drop (off+L)))):=by simp[fI,FG,u,h];grind
 refine⟨_,λcall=>by simp[M5,a,b,oS,e,c];rfl,?_⟩
 simp;grind
theorem x15{p:Nat}(a:get F 0=.hsl id 1 off L)(b:get F 5=.int _q p)(hp:p<=L):∃F',(∀call,dN E N call J Ln F H=M (F',H))/\get F' 4=.hsl id 1 off p:=by
 have e:jF 1 (.hsl id 1 off L) J (M p)=M (.hsl id 1 off p):=by unfold jF ec;grind
 exact⟨_,λcall=>by simp[Ln,a,b,oS,e];rfl,f?⟩
theorem xmv:∃F',(∀call,dN E N call J r17 F H=M (F',H))/\get F' 4=get F 0:=⟨_,λcall=>by simp[r17];rfl,f?⟩
theorem UJ:∃F',(∀call,dN E N call J r3 F H=M (F',H))/\get F' 4=get F 0:=⟨_,λcall=>by simp[r3];rfl,f?⟩
end
structure Kp(E:Env)(g:FuncId)(cb:List V)(H:bl)(id off L:Nat)(rs:List (List V))(A:Nat->V)(t:Nat->Bool):Prop where
 row:H[id]?=some (.row 1 rs)
 len:off+L<=rs.length
 small:L<=2147483648
 at_:∀i,i<L->rs[off+i]?=some [A i]
 one:∀i,i<L->(A i).one=true
 keep:E.keep g=false
 cmp:∃n,∀k,n<=k->∀i,i+1<L->∀cur,cq (run E k) g (A (i+1)::A i::cb) (H.set id (.row 1 cur))=some (.bool (t (i+1)))
structure Head(g:FuncId)(cb:List V)(id off L kk m:Nat)(rs:List (List V))(A:Nat->V)(t:Nat->Bool)(F:Frame)(cur:List (List V)):Prop where
 f0:get F 0=.hsl id 1 off L
 f1:get F 1=.clo g [] cb
 f5:get F 5=.int .i64 ((kept t (kk+m)).length:Nat)
 f6:get F 6=.hsl id 1 (off+kk) (L-kk)
 f7:get F 7=.int .i64 m
 len:cur.length=rs.length
 pre:∀p i,(kept t (kk+m))[p]?=some i->cur[off+p]?=some [A i]
 post:∀i,kk+m<=i+1->i<L->cur[off+i]?=some [A i]
 out:∀j,j<off\/off+L<=j->cur[j]?=rs[j]?
 cell:∀i,i<L->∃j,j<L/\cur[off+i]?=some [A j]
section
variable{E:Env}{N:Nat->Y'}{g:Y'}{cb:So}{H:bl}{id off L kk:Nat}{rs:S'}{A:Nat->V}{t:Nat->X'}
theorem ac8(X:Kp E g cb H id off L rs A t)(x:0<kk)(ah:kk<L)(y:t kk=U):∀(d m:Nat)(F:WP)(B:S'),kk+m+d=L->0<m->Head g cb id off L kk m rs A t F B->
 ∃F' D,tL E N L13 F (H.set id (.row 1 B)) (.exit 2) F' (H.set id (.row 1 D))/\Head g cb id off L kk (L-kk) rs A t F' D:=by
 have d__:=(ζe.1 X.row).1;have G:∀B,(H.set id (.row 1 B))[id]?=M (.row 1 B):=λB=>K? d__
 have ai:=X.small;have af:=X.len;intro d
 induction d with
 |zero=>
  intro m F B a__ P h;have R:m=L-kk:=c?
  subst R;obtain⟨F1,e1,e2,e3⟩:=x9 h.f6 h.f7;refine⟨F1,B,tL.stop (Ex.Bu (Ex.seq (Ex.ez e1) (Ex.xd (by simp[gj,e2]) Ex.exit)) f?) f?,?_⟩
  exact⟨by rw[e3 0 c?];exact h.f0,by rw[e3 1 c?];exact h.f1,by rw[e3 5 c?];exact h.f5,by rw[e3 6 c?];exact h.f6,by rw[e3 7 c?];exact h.f7,h.len,h.pre,h.post,h.out,h.cell⟩
 |succ d ih=>
  intro m F B a__ P h;obtain⟨F1,a1,a2,a3⟩:=x9 h.f6 h.f7;have T:gj N F1 35=.bool U:=by show get F1 35=_;rw[a2,_c c?]
  obtain⟨m',rfl⟩:∃m',m=m'+1:=⟨m-1,c?⟩
  obtain⟨n0,ab⟩:=X.cmp;have q:B[off+kk+(m'+1)]?=M [A (kk+m'+1)]:=by have:=h.post (kk+m'+1) c? c?;grind
  have c2:B[off+kk+m']?=M [A (kk+m')]:=by have:=h.post (kk+m') c? c?;grind
  obtain⟨F2,b1,b,b3⟩:=(acu (L2:=L-kk) (G B) c? c? q c2 X.keep (by rw[a3 1 c?];exact h.f1)).2 (by rw[a3 6 c?];exact h.f6) (by rw[a3 7 c?];exact h.f7)
  have c__:∃n,∀k,n<=k->dN E N (run E k) (M (H.set id (.row 1 B)).length) KX F1 (H.set id (.row 1 B))=M (F2,H.set id (.row 1 B)):=⟨n0,λk hk=>b1 _ (ab k hk (kk+m') c? B)⟩
  have w:=λs r=>(b3 s r).trans (a3 s r)
  have ad:(kept t (kk+(m'+1))).length+1<=kk+(m'+1):=Cj x y _ c?
  have u:kept t (kk+(m'+1)+1)=kept t (kk+(m'+1))++if t (kk+m'+1)then[]else[kk+m'+1]:=by rw[Ab];grind
  have z:kk+(m'+1+1)=kk+(m'+1)+1:=c?
  cases W:t (kk+m'+1)with
  |true=>
   rw[W]at b u;simp at u;obtain⟨v,Y,c,Q⟩:=(PY (p:=m'+1) c?).2.1 (by rw[w 7 c?];exact h.f7)
   obtain⟨F',D,i1,i2⟩:=ih (m'+1+1) v B c? c? ⟨by rw[Q 0 c? c?,w 0 c?];exact h.f0,by rw[Q 1 c? c?,w 1 c?];exact h.f1,
    by rw[Q 5 c? c?,w 5 c?,z,u];exact h.f5,by rw[Q 6 c? c?,w 6 c?];exact h.f6,c,h.len,by rw[z,u];exact h.pre,λi a Z=>h.post i c? Z,h.out,h.cell⟩
   exact⟨F',D,tL.step (Ex.seq (Ex.seq (Ex.ez a1) (Ex.uc T Ex.skip)) (Ex.seq (Ex.block (Ex.seq (Ex.PG (by decide) c__) (Ex.xd (by simp[gj,b]) Ex.skip))) (Ex.ez Y))) i1,i2⟩
  |false=>
   rw[W]at b u;generalize f:(kept t (kk+(m'+1))).length=K at *;obtain⟨_,_,hz⟩:=h.cell K c?
   obtain⟨v,Y,c⟩:=x11 (G B) (by rw[w 0 c?];exact h.f0) (by rw[w 5 c?,h.f5,f]) (by rw[w 6 c?];exact h.f6) (by rw[w 7 c?];exact h.f7) c? c? q hz (X.one _ c?)
   rw[set_set]at Y;generalize I:B.set (off+K) [A (kk+m'+1)]=b__ at Y;have l:∀j,b__[j]?=if j=off+K then M [A (kk+m'+1)]else B[j]?:=λj=>by rw[<-I,C?];by_cases e:off+K=j;rw[L' e,L' e.symm,L' (by rw[h.len];omega)];rw[M' e,M' (Ne.symm e)]
   obtain⟨F4,Q,q4,q5⟩:=(PY (p:=K) c?).1 (by rw[c 5 c?,w 5 c?,h.f5,f])
   have C:∀s,s<8->s≠5->get F4 s=get F s:=λs a Z=>by rw[q5 s a Z,c s a,w s a]
   obtain⟨F5,q6,q7,o⟩:=(PY (p:=m'+1) c?).2.1 (by rw[C 7 c? c?];exact h.f7)
   obtain⟨F',D,i1,i2⟩:=ih (m'+1+1) F5 b__ c? c? ⟨by rw[o 0 c? c?,C 0 c? c?];exact h.f0,by rw[o 1 c? c?,C 1 c? c?];exact h.f1,
    by rw[o 5 c? c?,q4,z,u,ζi,f];rfl,by rw[o 6 c? c?,C 6 c? c?];exact h.f6,q7,by rw[<-I,U!];exact h.len,
    λp i S=>by rw[z,u]at S;rw[l];by_cases e:p=K;subst e;rw[<-f,H? (y? _),Nat.sub_self]at S;cases S;rw[L' rfl];have ae:p<(kept t (kk+(m'+1))).length:=(by have:=(ζe.1 S).1;simp at this;omega);rw[u? ae]at S;rw[M' c?];exact h.pre p i S,
    λi a Z=>by rw[l,M' c?];exact h.post i c? Z,λj hj=>by rw[l,M' c?];exact h.out j hj,
    λi hi=>by rw[l];by_cases e:off+i=off+K;rw[L' e];exact⟨_,c?,rfl⟩;rw[M' e];exact h.cell i hi⟩
   exact⟨F',D,tL.step (Ex.seq (Ex.seq (Ex.ez a1) (Ex.uc T Ex.skip)) (Ex.seq (Ex.block (Ex.seq (Ex.PG (by decide) c__) (Ex.uc (by simp[gj,b]) (Ex.seq (Ex.ez Y) (Ex.ez Q))))) (Ex.ez q6))) i1,i2⟩
structure UK(off L:Nat)(rs:List (List V))(A:Nat->V)(t:Nat->Bool)(rs':List (List V)):Prop where
 len:rs'.length=rs.length
 pre:∀p i,(kept t L)[p]?=some i->rs'[off+p]?=some [A i]
 all:∀c∈rs',c∈rs\/c=[.bN]
theorem adK(X:Kp E g cb H id off L rs A t):∀(d k:Nat)(F:WP),k+d=L->0<k->(∀i,0<i->i<k->t i=O)->get F 0=.hsl id 1 off L->get F 1=.clo g [] cb->get F 5=.int _q k->
 (∃F',tL E N Xe F H (.exit 0) F' H/\get F' 0=.hsl id 1 off L/\∀i,0<i->i<L->t i=O)\/
 (∃F' D,tL E N Xe F H .ret F' (H.set id (.row 1 D))/\get F' 4=.hsl id 1 off (kept t L).length/\UK off L rs A t D):=by
 have Q:=(ζe.1 X.row).1;have S:=ud X.row;have ah:=X.small;have af:=X.len;intro d
 induction d with
 |zero=>
  intro k F he r hp b v e;have ek:k=L:=c?
  subst ek;obtain⟨F1,e1,e2,e3⟩:=x5 (N:=N) b e;exact .inl ⟨F1,tL.stop (Ex.Bu (Ex.seq (Ex.ez e1) (Ex.xd (by simp[gj,e2]) Ex.exit)) f?) f?,h?,hp⟩
 |succ d ih=>
  intro k F he r hp b v e;obtain⟨F1,a1,a2,a3⟩:=x5 b e;have c__:gj N F1 15=.bool U:=by show get F1 15=_;rw[a2,_c c?]
  obtain⟨u,rfl⟩:∃u,k=u+1:=⟨k-1,c?⟩
  obtain⟨n0,ai⟩:=X.cmp;obtain⟨y,b1,f,b3⟩:=(acu (N:=N) (cb:=cb) (g:=g) (i:=u) (L2:=L) (t:=t (u+1)) X.row c? c? (X.at_ _ c?) (X.at_ _ c?) X.keep (by rw[a3 1 c?];omega)).1 h? h?
  have W:∃n,∀k,n<=k->dN E N (run E k) (M H.length) r6 F1 H=M (y,H):=⟨n0,λk r=>b1 _ (by
   grind)⟩
  have Y:=λs a__=>(b3 s a__).trans (a3 s a__)
  cases w:t (u+1)with
  |false=>
   rw[w]at f;obtain⟨T,l,m,h⟩:=(PY (E:=E) (F:=y) (p:=u+1) c?).2.2 h?
   have z:Ex E N Xe F H .norm T H:=Ex.seq (Ex.seq (Ex.ez a1) (Ex.uc c__ Ex.skip)) (Ex.seq (Ex.block (Ex.seq (Ex.PG (by decide) W) (Ex.xd (by simp[gj,f]) Ex.skip))) (Ex.ez l))
   rcases ih (u+1+1) T c? c? (λi P Z=>by
    grind) h? p? m with⟨F',i1,i2⟩|⟨F',D,i1,i2⟩
   .exact .inl ⟨F',tL.step z i1,i2⟩
   exact .inr ⟨F',D,tL.step z i1,i2⟩
  |true=>
   rw[w]at f;refine .inr ?_;obtain⟨T,l,m,h⟩:=x7 (E:=E) (N:=N) (H:=H) (k:=u+1) (by rw[Y 0 c?];exact b) (by rw[Y 5 c?];exact e) c?
   have G:kept t (u+1)=w! (u+1):=Ft _ hp;have R:kept t (u+1+1)=w! (u+1):=by rw[Ab,G,w];simp
   have q4:∀call,dN E N call J r8 T H=M (set T 7 (.int _q 1),H):=λcall=>vp rfl (by simp[lG,gj,bT]) yo
   have h0:Head g cb id off L (u+1) 1 rs A t (set T 7 (.int _q 1)) rs:=⟨by rw[kS _ _ c?,h 0 c? c?,Y 0 c?];exact b,by rw[kS _ _ c?,h 1 c? c?,Y 1 c?];exact v,
    by rw[kS _ _ c?,h 5 c? c?,Y 5 c?,R,m6];exact e,by rw[kS _ _ c?];exact m,by rw[vN];rfl,rfl,
    λp i B=>by rw[R]at B;obtain⟨P,Z⟩:=ζe.1 B;simp at P Z;subst Z;exact X.at_ p c?,λi _ Z=>X.at_ i Z,λ_ _=>rfl,λi V=>⟨i,V,X.at_ i V⟩⟩
   obtain⟨F5,C,l1,I⟩:=ac8 (N:=N) X c? c? w (L-(u+1)-1) 1 _ rs c? c? h0
   rw[S]at l1;have eL:u+1+(L-(u+1))=L:=c?
   have ae:=Cj (t:=t) (k:=u+1) c? w L c?
   have o:=I.f5;have b__:=I.pre;rw[eL]at o b__;generalize hK:(kept t L).length=K at *;have ab:(H.set id (.row 1 C))[id]?=M (.row 1 C):=K? Q;obtain⟨F6,w1,w2⟩:=x14 (E:=E) (N:=N) (p:=K) ab I.f0 o c? (by rw[I.len];omega)
   rw[set_set]at w1;obtain⟨F7,w3,w4⟩:=x15 (E:=E) (by rw[w2 0 c?];exact I.f0) (by rw[w2 5 c?];exact o) c?
   have aj:=I.len;refine⟨F7,C.take (off+K)++replicate (L-K) [.bN]++C.drop (off+L),tL.stop (Ex.seq (Ex.seq (Ex.ez a1) (Ex.uc c__ Ex.skip)) (Ex.Bu (Ex.RN (Ex.seq (Ex.PG (by decide) W) (Ex.uc (by simp[gj,f]) (Ex.seq (Ex.ez l) (Ex.seq (Ex.seq (Ex.ez q4) (Ex.GF (Ex.loop l1))) (Ex.seq (Ex.ez w1) (Ex.seq (Ex.ez w3) Ex.ret))))))) f?)) f?,w4,?_,λp i B=>?_,λc a=>?_⟩
   .simp;omega
   .have ak:p<K:=by rw[<-hK];exact(ζe.1 B).1
    rw[e8,u? (by simp;omega),D?,L' c?]
    exact b__ p i B
   have ad:∀j x,C[j]?=M x->x∈rs:=λj x d__=>by by_cases ho:j<off\/off+L<=j;rw[I.out j ho]at d__;exact s? d__;obtain⟨i,rfl⟩:∃i,j=off+i:=⟨j-off,c?⟩;obtain⟨q,hq,a⟩:=I.cell i c?;rw[a]at d__;cases d__;exact s? (X.at_ q hq)
   rcases mem_append.1 a with a|a
   .rcases mem_append.1 a with a|a
    .obtain⟨j,d__⟩:=d! (List.mem_of_mem_take a);exact .inl (ad j c d__)
    exact .inr (List.eq_of_mem_replicate a)
   obtain⟨j,d__⟩:=d! (List.mem_of_mem_drop a);exact .inl (ad j c d__)
end
end cmpX
def Ca(E:Env)(g:Y')(cb:So)(a b:V):aY X':=match EK E g cb a b with|some (.bool c)=>M c|_=>J
theorem aa3{E:Env}{g:Y'}{cb:So}{a b:V}{c:X'}(h:Ca E g cb a b=M c):∃n,∀k,n<=k->cq (run E k) g (a::b::cb) []=M (.bool c):=by
 unfold Ca at h;split at h;next c' d=>cases h;exact HY d
 cases h
def n_(xs:S')(i:Nat):V:=kE ((xs[i]?).getD [])
def AU(E:Env)(es:Nat)(xs:S'):So->aY S'
 |[.clo g [] cb]=>if xs.isEmpty then M []else if wW es xs&& !E.keep g then
  if(w! (W xs)).all λi=>i==0||(Ca E g cb (n_ xs i) (n_ xs (i-1))).isSome then
   M ((kept (λi=>(Ca E g cb (n_ xs i) (n_ xs (i-1))).getD O) (W xs)).map λi=>(xs[i]?).getD [])
  else J
  else J
 |_=>J
def vC(E:Env):G0:=⟨U,AU E⟩
namespace cmpX
section
variable{E:Env}{N:Nat->Y'}{g:Y'}{cb:So}{H:bl}{id off L:Nat}{rs:S'}{A:Nat->V}{t:Nat->X'}
theorem whole(X:Kp E g cb H id off L rs A t):∃F' B,Ex E N code [.hsl id 1 off L,.clo g [] cb] H .ret F' (H.set id (.row 1 B))/\get F' 4=.hsl id 1 off (W (kept t L))/\UK off L rs A t B:=by
 have u:H.set id (.row 1 rs)=H:=ud X.row;have same:(∀i,0<i->i<L->t i=O)->W (kept t L)=L/\UK off L rs A t rs:=λh=>by have d:=Ft L h;rw[d,m6];exact⟨Y,Y,λp i q=>by rw[d]at q;have⟨a,w⟩:=ζe.1 q;simp at a w;subst w;exact X.at_ p a,λc b=>.inl b⟩
 have g1:∀call,dN E N call J r1 [.hsl id 1 off L,.clo g [] cb] H=M (set [.hsl id 1 off L,.clo g [] cb] 4 .bN,H):=λcall=>vp (v:=.bN) Y (by simp[lG,gj,bT]) yo;have k0:get (set [V.hsl id 1 off L,.clo g [] cb] 4 .bN) 0=.hsl id 1 off L:=rfl;have k1:get (set [V.hsl id 1 off L,.clo g [] cb] 4 .bN) 1=.clo g [] cb:=rfl;generalize set [V.hsl id 1 off L,.clo g [] cb] 4 .bN=Q at *;have⟨F1,a1,a2,a3⟩:=x2 (E:=E) (N:=N) (H:=H) k0;by_cases S:L<2;have⟨z,C,D⟩:=UJ (E:=E) (N:=N) (F:=F1) (H:=H);have⟨e1,e2⟩:=same λi a w=>by omega
 refine⟨z,rs,?_,by rw[e1,D,a3 0 c?];exact k0,e2⟩;rw[u];exact Ex.seq (Ex.ez g1) (Ex.Bu (Ex.seq (Ex.ez a1) (Ex.uc (by show get F1 10=_;rw[a2,_c c?]) (Ex.seq (Ex.ez C) Ex.ret))) f?);have g4:∀call,dN E N call J r4 F1 H=M (set F1 5 (.int _q 1),H):=λcall=>vp (v:=.int _q 1) Y (by simp[lG,gj,bT]) yo;have b:Ex E N (.seq (.ops r2) (.cond (.s 10) (.seq (.ops r3) (.ret)) (.skip))) Q H .norm F1 H:=Ex.seq (Ex.ez a1) (Ex.xd (by show get F1 10=_;rw[a2,_b c?]) Ex.skip);rcases adK (N:=N) X (L-1) 1 (set F1 5 (.int _q 1)) c? c? (λi a w=>c?) (by rw[kS _ _ c?,a3 0 c?];exact k0) (by rw[kS _ _ c?,a3 1 c?];exact k1) (by rw[vN];rfl)with⟨F',G,I,j⟩|⟨F',B,G,I,j⟩;have⟨z,C,D⟩:=xmv (E:=E) (N:=N) (F:=F') (H:=H);have⟨e1,e2⟩:=same j;refine⟨z,rs,?_,by rw[e1,D];exact I,e2⟩;rw[u];exact Ex.seq (Ex.ez g1) (Ex.seq b (Ex.seq (Ex.seq (Ex.ez g4) (Ex.GF (Ex.loop G))) (Ex.seq (Ex.ez C) Ex.ret)));exact⟨F',B,Ex.seq (Ex.ez g1) (Ex.seq b (Ex.Bu (Ex.seq (Ex.ez g4) (Ex.RN (Ex.loop G))) f?)),I,j⟩
theorem empty{w:V}(c:V)(B:w=.bN\/w=.dH):∃F',Ex E N code [w,c] H .ret F' H/\get F' 4=w:=by
 have g1:∀call,dN E N call J r1 [w,c] H=M (set [w,c] 4 .bN,H):=λcall=>vp (v:=.bN) Y (by simp[lG,gj,bT]) yo;have k0:get (set [w,c] 4 .bN) 0=w:=rfl;generalize set [w,c] 4 .bN=u at *;have z:qF w=M (.int _q 0):=by rcases B with rfl|rfl<;>rfl
 have a1:∃F1,(∀call,dN E N call J r2 u H=M (F1,H))/\get F1 10=.bool U/\get F1 0=w:=by refine⟨_,λcall=>vp (v:=w) Y ?_<|vp (v:=.int _q 0) Y ?_<|vp (v:=.bool U) Y ?_ yo,?_,?_⟩;simp[lG,gj,bT,k0];simp[lG,gj,bT,mO,z];simp[lG,gj,bT,mO,oT,uD];simp[mO];simp[mO,k0]
 have⟨F1,a1,a2,a3⟩:=a1;have⟨C,D,G⟩:=UJ (E:=E) (N:=N) (F:=F1) (H:=H);exact⟨C,Ex.seq (Ex.ez g1) (Ex.Bu (Ex.seq (Ex.ez a1) (Ex.uc a2 (Ex.seq (Ex.ez D) Ex.ret))) f?),by rw[G,a3]⟩
end
end cmpX
theorem Uq {E:Env} {f:FuncId} {nm:FuncId->aY Nat} {N:Nat->FuncId} (hN:∀f s,nm f=some s->N s=f) (hk:E.keep f=true) (ho:E.own f=false)
 (hf:∃fi,E.ft f=some fi/\bQ ⟨E,nm,fi.ntmps⟩ false fi.body=some cmpX.code/\2<=fi.ntmps/\fi.results=[.tmp 4]):oE E f (vC E):=by
 obtain⟨fi,h1,h2,h3,h4⟩:=hf;have D:∀{w c:V} {H H':bl} {F':Frame} {r:V},Ex E N cmpX.code [w,c] H .ret F' H'->get F' 4=r->∃n,∀k,n<=k->run E k (.fn f) [w,c] H=some (r,H'):=λ{w c H H' F' r} hx hr=>by
  obtain⟨n,G⟩:=Ex.run hN h1 h2 (args:=[w,c]) (by simpa using h3) hx (vs:=[r]) (by rw[h4];simp[jm,hr])
  exact⟨n,λk hk=>(qy E hk).go _ _ _ _ G⟩
 refine⟨hk,ho,?_,?_,?_⟩
 .intro es z vs ys h;simp only[vC,AU]at h;refine⟨?_,λe=>by simp[vC]at e⟩
  split at h
  .split at h
   .cases h;simp
   split at h
   .split at h
    .cases h;simpa using DT _ _
    cases h
   cases h
  cases h
 .intro es vs ys h H Z ws w hw he;simp only[vC,AU]at h;split at h
  .obtain⟨w2,r,rfl,q1,q2⟩:=hw.inv;rw[q2.cW];obtain⟨F',e1,e2⟩:=cmpX.empty (E:=E) (N:=N) (H:=H) w2 he;obtain⟨n,G⟩:=D e1 e2;exact⟨n,[],λk hk=>by rw[List.append_nil];exact G k hk⟩
  cases h
 intro es z vs ys h H Z ws id off rs hw S T ae q hz;simp only[vC,AU]at h;split at h
 .rename_i g cb;obtain⟨w2,r,rfl,q1,q2⟩:=hw.inv;rw[q2.cW];obtain⟨a',B,rfl,ha,af⟩:∃a' B,w2=.clo g a' B/\dB H Z [] a'/\dB H Z cb B:=q1.mc;rw[ha.cW]at *;split at h
  .rename_i he;cases h;have:z=[]:=by simpa using he
   subst this;have e2:∃F',Ex E N cmpX.code [.hsl id es off 0,.clo g [] B] H .ret F' H/\get F' 4=.hsl id es off 0:=by
    have g1:∀call,dN E N call none cmpX.r1 [.hsl id es off 0,.clo g [] B] H=some (set [.hsl id es off 0,.clo g [] B] 4 .bN,H):=λcall=>vp (v:=.bN) rfl (by simp[lG,gj,bT]) yo
    have k0:get (set [V.hsl id es off 0,.clo g [] B] 4 .bN) 0=.hsl id es off 0:=rfl;generalize set [V.hsl id es off 0,.clo g [] B] 4 .bN=F0 at *;have a1:∃F1,(∀call,dN E N call none cmpX.r2 F0 H=some (F1,H))/\get F1 10=.bool true/\get F1 0=.hsl id es off 0:=by
     refine⟨_,λcall=>vp (v:=.hsl id es off 0) rfl ?_ <| vp (v:=.int .i64 0) rfl ?_ <| vp (v:=.bool true) rfl ?_ yo,?_,?_⟩
     .simp[lG,gj,bT,k0]
     .simp[lG,gj,bT,mO,qF]
     .simp[lG,gj,bT,mO,oT,uD]
     .simp[mO]
     simp[mO,k0]
    obtain⟨F1,a1,a2,a3⟩:=a1;obtain⟨F2,b1,b2⟩:=cmpX.UJ (E:=E) (N:=N) (F:=F1) (H:=H);exact⟨F2,Ex.seq (Ex.ez g1) (Ex.Bu (Ex.seq (Ex.ez a1) (Ex.uc a2 (Ex.seq (Ex.ez b1) Ex.ret))) f?),by rw[b2,a3]⟩
   obtain⟨F',e1,e3⟩:=e2;obtain⟨n,G⟩:=D e1 e3;refine⟨n,rs,[],λk hk=>?_,rfl,⟨rfl,λj u v hu=>by simp at hu⟩,q⟩
   rw[List.append_nil,ud S];exact G k hk
  rename_i al;split at h
  .rename_i L;simp only[ζh,Bool.not_eq_true']at L;obtain⟨c1,c3⟩:=L;obtain⟨rfl,a__,W⟩:=Bw c1;split at h
   .rename_i Y;cases h;have b__:∀i,i<z.length->∃a,rs[off+i]? = some [a]/\FR H Z (n_ z i) a/\a.one=true:=λi hi=>by
     obtain⟨e,p2⟩:=W i z[i] (ζd hi);have Q:off+i<rs.length:=by omega
     have:=ae.2 i z[i] rs[off+i] (ζd hi) (by rw[List.getElem?_take,L' hi,List.getElem?_drop,ζd Q])
     rw[e]at this;obtain⟨y,ys,e2,r1,r2⟩:=this.inv;rw[r2.cW]at e2;have e3:n_ z i=kE z[i]:=by unfold n_;rw[ζd hi];rfl
     exact⟨y,by rw[ζd Q,e2],by rw[e3];exact r1,by rw[r1.one];exact p2⟩
    let A:Nat->V:=λi=>match rs[off+i]? with|some (a::_)=>a|_=>.undef
    have hA:∀i,i<z.length->rs[off+i]? = some [A i]/\FR H Z (n_ z i) (A i)/\(A i).one=true:=λi hi=>by
     obtain⟨a,p1,p2,p4⟩:=b__ i hi;have:A i=a:=by show (match rs[off+i]? with|some (a::_)=>a|_=>V.undef)=a;rw[p1]
     rw[this];exact⟨p1,p2,p4⟩
    have aa:∀i,i+1<z.length->∃b,Ca E g cb (n_ z (i+1)) (n_ z i)=some b:=λi hi=>by
     have:=List.all_eq_true.1 Y (i+1) (List.mem_range.2 hi);simp only[Nat.add_sub_cancel,Bool.or_eq_true]at this;rcases this with h|h
     .simp at h
     exact Option.isSome_iff_exists.1 h
    have X:cmpX.Kp E g B H id off z.length rs A (λi=>(Ca E g cb (n_ z i) (n_ z (i-1))).getD false):=by
     refine⟨S,T,a__,λi hi=>(hA i hi).1,λi hi=>(hA i hi).2.2,c3,?_⟩
     obtain⟨d,hM⟩:=HP (n:=z.length-1) (p:=λi k=>cq (run E k) g (n_ z (i.1+1)::n_ z i.1::cb) []=some (.bool ((Ca E g cb (n_ z (i.1+1)) (n_ z i.1)).getD false))) (λi=>by
      obtain⟨b,Q⟩:=aa i.1 (by have:=i.2;omega)
      obtain⟨n,G⟩:=aa3 Q;exact⟨n,λk hk=>by rw[G k hk,Q];rfl⟩)
     obtain⟨L1,ah⟩:=og ((List.range z.length).map (n_ z));obtain⟨L2,ai⟩:=og cb;have ab:∀i k,i<z.length->L1<=k->(n_ z i).lvl k=true:=λi k hi hk=>A2 hk (oH.1 ah i _ (by simp[hi]))
     refine⟨max d (max L1 L2),λk hk i hi ad=>?_⟩
     have C:∀j,Z j->Z j/\bt (H.set id (.row 1 ad)) j=bt H j:=λj hj=>⟨hj,by
      unfold bt;rw[List.getElem?_set_ne];rintro rfl;exact hz hj⟩
     have hl:dB (H.set id (.row 1 ad)) Z (n_ z (i+1)::n_ z i::cb) (A (i+1)::A i::B):=.cons ((hA _ hi).2.1.mono C) (.cons ((hA i c?).2.1.mono C) (af.mono C))
     have Q:=hl.N9 (k:=k) (by simp only[V.nq,ab _ k hi c?,ab i k c? c?,rN (by omega:L2<=k) ai,Bool.and_self])
     rw[abk (by rw[qG];exact Q) (λx hx=>?_)]
     .exact hM ⟨i,by omega⟩ k c?
     obtain⟨j,hj⟩:=List.getElem?_of_mem hx;obtain⟨y,hy,hr⟩:=hl.get hj;exact V.od hr.good
    obtain⟨F',aj,e1,e2,e3⟩:=cmpX.whole (N:=N) X;obtain⟨n,G⟩:=D e1 e2;refine⟨n,aj,[],λk hk=>?_,e3.len,?_,?_⟩
    .simp only[vC,N',List.length_map,List.append_nil];exact G k hk
    .refine⟨by simp[e3.len];have:=DT (λi=>(Ca E g cb (n_ z i) (n_ z (i-1))).getD false) z.length;omega,λp a b hp hq=>?_⟩
     rw[List.getElem?_map]at hp;obtain⟨i,hi,rfl⟩:=ζf.1 hp;have I:=Of (List.mem_of_getElem? hi);have ak:=(ζe.1 hi).1;rw[List.getElem?_take,L' (by simpa using ak),List.getElem?_drop,e3.pre p i hi]at hq
     cases hq;rw[ζd I,Option.getD_some];have e4:=(W i z[i] (ζd I)).1;have e5:n_ z i=kE z[i]:=by unfold n_;rw[ζd I];rfl
     rw[e4,<-e5];exact .cons (hA i I).2.1 .nil
    intro c hc u hu;rcases e3.all c hc with h|rfl
    .exact q c h u hu
    simp at hu;subst hu;exact⟨.bN,.same _ rfl⟩
   cases h
  cases h
 cases h
def Sl.re{α:Type}(s:Sl α)(l:aX α):Sl α:=match s with|.nil=>.nil|.emp=>.emp|.row _=>.row l|.part _=>.part l
def Sl.vQ{α:Type}(s:Sl α)(l:aX α):Sl α:=match s with|.nil=>.nil|.emp=>.emp|.row _|.part _=>.part l
def BQ{α:Type}(s:Sl α)(p:α->α->PH):aY (Sl α):=
 match s.l with
 |[]=>M s|x::l=>if W l<2147483648 then
  let t:_root_.Fin (W l+1)->_root_.Fin (W l+1)->PH:=λi j=>p (x::l)[i.1] (x::l)[j.1]
  if DL t then M (s.re ((tD (W l) (sw t)).toList.map λi=>(x::l)[i.1]))else J
  else J
def vV{α:Type}(l:aX α)(p:α->α->aY X')(i:Nat):aY X':=match l[i]?,l[i-1]?with|some a,M b=>p a b|_,_=>J
def Av{α:Type}(s:Sl α)(p:α->α->aY X'):aY (Sl α):=
 if W s.l<=2147483648/\((w! (W s.l)).all λi=>i==0||(vV s.l p i).isSome)=U then
  M (s.vQ ((kept (λi=>(vV s.l p i).getD O) (W s.l)).filterMap (s.l[·]?)))
 else J
section
variable{S:Sys}{T:sP}{β γ δ α:Type}{Q:Out×St->aY β}{e:γ->aY β}{cf:Cf}
theorem eP.TX(B:uf S T)(D:∀f a b xs,S.items f a b=M xs->fm S f a b xs){fn:Y'}{A:δ->So}{E:α->So}{p:δ->aY α}{sc:X'}(F:eP S (dg S T) fn A E p sc){z:δ}{r:α}(h:p z=M r)(d:V.cT (A z)=U):
 ∃n,cq (run S.E n) fn (A z) []=M (result (E r)):=by
 have e:=F.h z (E r) p?
 have⟨⟨rs,m'⟩,u,w⟩:=ζg.1 e;have⟨n,y,H2,e1,e2,e3⟩:=EV (Az B D) d u w;refine⟨n,?_⟩;have C:borrows n [] (A z)=M (A z):=by have c:=V.qN d;generalize A z=l at c;unfold borrows;induction l with|nil=>rfl|cons x l G=>simp[V.jw]at c;simp[jI,eZ n [] c.1,G c.2]
 unfold cq;rw[qG,C];simp[e1 n (y? _),e2 n (y? _),V.od e3]
section
variable[bC α]
theorem FT (h1:bC.size α=1) {l:aX α} (B:l.length<=2147483648):wW (bC.size α) (rows l)=true:=by
 unfold wW;simp;refine⟨⟨h1,λx u=>?_⟩,by simpa [rows]using B⟩
 obtain⟨a,_,rfl⟩:=List.mem_map.1 u;exact⟨by rw[jg,h1],List.all_eq_true.1 (bC.one a)⟩
theorem Jw(b:bC.agg α=O)(a:α):kE (cells a)=enc a:=by unfold enc;rw[M' h?];rfl
theorem Fu(l:aX α)(i:Nat)(h:i<W l):(rows l)[i]?=M (cells l[i]):=by unfold rows;grind
theorem Yv(y:uf S T)(W:∀f a b xs,S.items f a b=M xs->fm S f a b xs){g:Y'}{p:α->α->PH}(F:eP S (dg S T) g (λz:α×α=>[enc z.1,enc z.2]) (λr:Int=>[.int _q r]) (λz=>p z.1 z.2) U)
 (c:bC.size α=1)(Y:bC.agg α=O){s D:Sl α}(h:BQ s p=M D):CU S.E (bC.size α) (rows s.l) [.clo g [] []]=M (rows D.l)/\D.k=s.k:=by
 unfold BQ at h;split at h
 next B=>cases h;rw[B];exact⟨_k,_k⟩
 rename_i x l B;split at h
 .dsimp only at h;split at h
  .rename_i I;cases h;rw[B];have⟨u,q⟩:=s7 I;have C:=FT c (l:=x::l) h?
   have key:∀m,m=_l l->(if DL (λi j:_root_.Fin (m+1)=>vM S.E g [] (kE (((rows (x::l))[i.1]?).getD [])) (kE (((rows (x::l))[j.1]?).getD [])))then
    M ((tD m (sw (λi j:_root_.Fin (m+1)=>vM S.E g [] (kE (((rows (x::l))[i.1]?).getD [])) (kE (((rows (x::l))[j.1]?).getD []))))).toList.map λi=>((rows (x::l))[i.1]?).getD [])else J)=
    M (rows ((tD (_l l) (sw λi j:_root_.Fin (_l l+1)=>p (x::l)[i.1] (x::l)[j.1])).toList.map λi=>(x::l)[i.1])):=by
    rintro m rfl;have e1:∀i:_root_.Fin (_l l+1),kE (((rows (x::l))[i.1]?).getD [])=enc (x::l)[i.1]:=λi=>by rw[Fu (x::l) i.1 i.2,H!,Jw Y]
    have e2:(λi j:_root_.Fin (_l l+1)=>vM S.E g [] (kE (((rows (x::l))[i.1]?).getD [])) (kE (((rows (x::l))[j.1]?).getD [])))=λi j=>p (x::l)[i.1] (x::l)[j.1]:=by funext i j;have⟨z,L⟩:=u i j;rw[e1 i,e1 j,L];have⟨n,a__⟩:=F.TX y W (z:=((x::l)[i.1],(x::l)[j.1])) L (by simp[V.cT,lU]);unfold vM;rw[O5 a__];rfl
    rw[e2,L' I]
    congr 1
    unfold rows;rw[List.map_map];refine List.map_congr_left λi _=>?_
    grind
   have w:(s.re ((tD (_l l) (sw λi j:_root_.Fin (_l l+1)=>p (x::l)[i.1] (x::l)[j.1])).toList.map λi=>(x::l)[i.1])).l=(tD (_l l) (sw λi j:_root_.Fin (_l l+1)=>p (x::l)[i.1] (x::l)[j.1])).toList.map (λi=>(x::l)[i.1])/\(s.re ((tD (_l l) (sw λi j:_root_.Fin (_l l+1)=>p (x::l)[i.1] (x::l)[j.1])).toList.map λi=>(x::l)[i.1])).k=s.k:=by cases s<;>simp[Sl.l]at B<;>exact⟨_k,_k⟩
   refine⟨?_,w.2⟩;rw[w.1,<-key (_l (rows l)) (gw l)];have d:(wW (bC.size α) (rows (x::l))&& !S.E.keep g)=U:=by rw[C,F.k];rfl
   have G:=d;exact(L' G).trans _k
  simp_all
 simp_all
theorem Z_ (W:uf S T) (Y:∀f a b xs,S.items f a b=some xs->fm S f a b xs) {g:FuncId} {p:α->α->aY Bool} (F:eP S (dg S T) g (λz:α×α=>[enc z.1,enc z.2]) (λr:Bool=>[.bool r]) (λz=>p z.1 z.2) true)
 (h1:bC.size α=1) (ha:bC.agg α=false) {s D:Sl α} (h:Av s p=some D):AU S.E (bC.size α) (rows s.l) [.clo g [] []]=some (rows D.l)/\D=s.vQ D.l:=by
 have Q:∀l:aX α,(s.vQ l)=s.vQ (s.vQ l).l:=λl=>by cases s <;> rfl
 refine⟨?_,by
  unfold Av at h;grind⟩
 unfold Av at h;split at h
 .rename_i hc;cases h;obtain⟨X,u⟩:=hc;have I:=FT  h1 X;simp only[AU]
  by_cases d:s.l=[]
  .have:(s.vQ ((kept (λi=>(vV s.l p i).getD false) s.l.length).filterMap (s.l[·]?))).l=[]:=by
    cases s <;> simp[Sl.l]at d <;> simp[Sl.vQ,Sl.l,d,kept]
   rw[this,d];rfl
  have L:(rows s.l).isEmpty=false:=by cases hs:s.l with|nil=>grind|cons a l=>rfl
  rw[L,M' f?,I,F.k,L' (by rfl),gw]
  have e1:∀i,0<i->i<s.l.length->∃b,vV s.l p i=some b/\Ca S.E g [] (n_ (rows s.l) i) (n_ (rows s.l) (i-1))=some b:=λi Z hi=>by
   have:=List.all_eq_true.1 u i (List.mem_range.2 hi);simp  at this;obtain⟨b,C⟩:=Option.isSome_iff_exists.1 (this.resolve_left c?)
   refine⟨b,C,?_⟩;have w:i-1<s.l.length:=by omega
   unfold vV at C;rw[ζd hi,ζd w]at C;have q:∀j (G:j<s.l.length),n_ (rows s.l) j=enc s.l[j]:=λj G=>by
    unfold n_;rw[Fu _ _ G,Option.getD_some,Jw ha]
   rw[q i hi,q (i-1) w];obtain⟨n,hn⟩:=F.TX W Y (z:=(s.l[i],s.l[i-1])) C (by simp only[V.cT,lU,Bool.and_self])
   unfold Ca;rw[O5 hn];rfl
  have e2:((List.range s.l.length).all λi=>i==0||(Ca S.E g [] (n_ (rows s.l) i) (n_ (rows s.l) (i-1))).isSome)=true:=by
   grind
  rw[L' e2];have e3:kept (λi=>(Ca S.E g [] (n_ (rows s.l) i) (n_ (rows s.l) (i-1))).getD false) s.l.length=kept (λi=>(vV s.l p i).getD false) s.l.length:=by
   refine List.filter_congr λi hi=>?_
   by_cases Z:i=0
   .grind
   obtain⟨b,h3,h4⟩:=e1 i c? (List.mem_range.1 hi)
   simp_all
  rw[e3];have e4:(s.vQ ((kept (λi=>(vV s.l p i).getD false) s.l.length).filterMap (s.l[·]?))).l=(kept (λi=>(vV s.l p i).getD false) s.l.length).filterMap (s.l[·]?):=by
   cases s <;> first|rfl|grind
  rw[e4]
  congr 1
  generalize hk:kept (λi=>(vV s.l p i).getD false) s.l.length=y
  have B:∀i∈y,i<s.l.length:=λi hi=>Of (hk▸hi)
  clear hk e3 e4
  induction y with
  | nil=>rfl
  | cons i y ih=>
   have hi:=B i f?
   rw[List.map_cons,ih λj G=>B j (List.mem_cons_of_mem _ G),Fu _ _ hi,List.filterMap_cons,ζd hi]
   rfl
 simp_all
theorem WT{s B:Sl α}{p:α->α->PH}(h:BQ s p=M B)(a:b7 s.k=O):B=s:=by cases s<;>simp[Sl.k,b7]at a<;>simpa[BQ,Sl.l]using h.symm
theorem acU(n d:Nat)(D:uf S T)(G:∀f a b xs,S.items f a b=M xs->fm S f a b xs){fn g:Y'}(hp:S.prm fn=M (vH S.E)){p:α->α->PH}
 (F:eP S (dg S T) g (λz:α×α=>[enc z.1,enc z.2]) (λr:Int=>[.int _q r]) (λz=>p z.1 z.2) U){s:Sl α}{f:Sl α->aY γ}
 (h:∀B,BQ s p=M B->Le ((f B).bind e) (bV S (dg S T) Q (nx S (dg S T) n cf λq=>cQ {q.st with m:=bH q.st.m d (cF B)} q.d (.v .undef))))
 (i:bC.size α=1:=by rfl)(a__:bC.agg α=O:=by rfl)
 (b__:(fQ S (dg S T) n cf).map (λq=>(q.k,bU S.N q.st.g q.az,bk q.st.m d,q.dr))=M (.c,M [.v (.clo fn [] []),.own d,.v (.clo g [] [])],M (cF s),O):=by kernel_rfl):Le (((BQ s p).bind f).bind e) (bV S (dg S T) Q cf):=by
 have⟨q,C,c⟩:=eA b__;simp at c;have⟨I,L,c__,W⟩:=c;refine qR C ?_ h;rw[I,W];intro y w;have⟨B,u,w⟩:=ζg.1 w;have⟨e1,e2⟩:=Yv D G F i a__ u;have j:=(D.prm fn _ hp).keep;have X:=(D.prm fn _ hp).own;rw[w_ O _ _ _ _ _ _ fn [.own d,.v (.clo g [] [])] L rfl];have l:fD S (dg S T) q.d O (!O||q.now) (gb q.st.m q.fr) fn [.own d,.v (.clo g [] [])] q.st=M (.v .undef,{q.st with m:=bH q.st.m d (cF B)}):=by unfold fD;simp[j,X,hp,Cr,c__,cF,c6];have e3:=e1;simp[vH];cases k:b7 s.k with|true=>grind|false=>have:=WT u k;grind
 grind
theorem ado(n d t:Nat)(D:uf S T)(G:∀f a b xs,S.items f a b=M xs->fm S f a b xs){fn g:Y'}(hp:S.prm fn=M (vC S.E)){p:α->α->aY X'}
 (F:eP S (dg S T) g (λz:α×α=>[enc z.1,enc z.2]) (λr:X'=>[.bool r]) (λz=>p z.1 z.2) U){s:Sl α}{f:Sl α->aY γ}
 (h:∀B,Av s p=M B->Le ((f B).bind e) (bV S (dg S T) Q (nx S (dg S T) n cf λq=>{q.st with g:=bH q.st.g t (.own t),m:=bH (dz d q.st.m) t (cF B)})))
 (i:bC.size α=1:=by rfl)(a__:bC.agg α=O:=by rfl)
 (b__:(fQ S (dg S T) n cf).map (λq=>(q.k,bU S.N q.st.g q.az,bk q.st.m d,q.dr,q.d,St.new {q.st with m:=dz d q.st.m} t))=M (.c,M [.v (.clo fn [] []),.own d,.v (.clo g [] [])],M (cF s),O,M t,U):=by kernel_rfl):Le (((Av s p).bind f).bind e) (bV S (dg S T) Q cf):=by
 have⟨q,C,c⟩:=eA b__;simp at c;have⟨I,L,c__,W,X,Y⟩:=c;refine qR C ?_ h;rw[I,W,X];intro y u;have⟨B,w,u⟩:=ζg.1 u;cases u;have⟨e1,e2⟩:=Z_ D G F i a__ w;have j:=(D.prm fn _ hp).keep;have Z:=(D.prm fn _ hp).own;rw[w_ O _ _ _ _ _ _ fn [.own d,.v (.clo g [] [])] L rfl];have k:fD S (dg S T) (M t) O (!O||q.now) (gb q.st.m q.fr) fn [.own d,.v (.clo g [] [])] q.st=M (.own t,{q.st with m:=bH (dz d q.st.m) t (cF B)}):=by unfold fD;simp[j,Z,hp,Cr,c__,cF,c6];have e3:(vC S.E).go (bC.size α) (rows s.l) [.clo g [] []]=M (rows B.l):=e1;rw[e3];simp[vC,Y];have e4:(if b7 s.k=U then bE.sl .part (bC.size α) (rows B.l)else .sl s.k (bC.size α) (rows s.l))=.sl B.k (bC.size α) (rows B.l):=(by rw[e2];cases s<;>rfl);rw[e4]
 rw[k];rfl
end
end
section
variable{H H':bl}{w:V}{o:Nat}{ids:ST}{rows:S'}
theorem vW.cell(n:vW H w o ids rows){p j:Nat}{r:So}{u:V}(a:rows[p]?=M r)(c:r[j]?=M u):
 ∃id,ids[p]?=M id/\nL 1 w (p:Int)=M (.hptr o p 0)/\fS H (.load 1 O) [.hptr o p 0]=M (.hsl id 1 0 (W r))/\nL 1 (.hsl id 1 0 (W r)) (j:Int)=M (.hptr id j 0)/\fS H (.load 1 O) [.hptr id j 0]=M u:=by
 have D:=(ζe.1 a).1;have G:=(ζe.1 c).1;have B:rows≠[]:=by intro e;subst e;simp at a
 have C:p<W ids:=by rw[n.len];exact D
 have z:=ζd C;refine⟨ids[p],z,?_,?_,?_,?_⟩
 .have:=n.v;rw[M' B]at this;subst this;simp[nL,D]
 .have b:=n.ob B;have I:=Lu z a;simp[fS,fh,b,Ob.rows,I,cut];rfl
 .simp[nL,G]
 have b:=n.r p _ r z a;simp[fS,fh,b,Ob.rows,sE,c,cut];rfl
theorem Sw{ids:ST}(h:ids.Nodup){i j:Nat}{a:Nat}(c:ids[i]?=M a)(B:ids[j]?=M a):i=j:=by have b:=(ζe.1 c);have u:=(ζe.1 B);have⟨b,e1⟩:=b;have⟨u,e2⟩:=u;exact(List.getElem_inj h).1 (e1.trans e2.symm)
theorem vW.set(n:vW H w o ids rows){p j id:Nat}{r:So}{u:V}(b:rows[p]?=M r)(T:j<W r)(B:ids[p]?=M id)(d:V.one u=U)(f:u.cells=[u]):
 ∃H',fI H (.store 1) [.hptr id j 0,u]=M (.undef,H')/\vW H' w o ids (rows.set p (r.set j u))/\W H'=W H/\(∀i,i≠id->H'[i]?=H[i]?):=by
 have L:=(ζe.1 b).1;have z:rows≠[]:=by intro e;subst e;simp at b
 have c:=n.r p id r B b;have y:id<W H:=(ζe.1 c).1;have D:(sE r).set j [u]=sE (r.set j u):=by simp[sE,map_set]
 have G:o≠id:=λe=>n.ne z (e▸s? B)
 refine⟨H.set id (.row 1 (sE (r.set j u))),?_,⟨?_,λ_=>?_,by simp[n.len],λi I Q a C=>?_,n.nd,λ_=>n.ne z⟩,f?,λi a=>F? (Ne.symm a)⟩
 .have S:(sE r)[j]?=M [r[j]]:=by simp[sE,T]
  simp only[fI,c,S,f,Y?,d7,y?,o!,d,List.all_nil,Bool.and_self,and_self,N',List.take_zero,C'];rw[<-D];simp
 .rw[n.v];have:rows.set p (r.set j u)≠[]:=by intro e;apply z;simpa using e
  rw[M' z,M' this,U!]
 .rw[F? (Ne.symm G),Ky b f?];exact n.ob z
 by_cases e:i=p
 .subst e;rw[B]at a;cases a;rw[K? L]at C;cases C;rw[K? y]
 rw[F? (Ne.symm e)]at C;have h:id≠I:=λq=>e (Sw n.nd (q▸a) B)
 rw[F? h];exact n.r i I Q a C
end
structure vU(H:bl)(w:V)(l:List (List V))(id:Nat):Prop where
 c:∀c∈l,c.length=2/\c.all V.one=true
 v:(w=.bN/\l=[])\/∃off xs,w=.hsl id 2 off l.length/\H[id]?=some (.row 2 xs)/\off+l.length<=xs.length/\(xs.drop off).take l.length=l
section
variable{H H':bl}{w:V}{l:S'}{id:Nat}
theorem vU.heap(n:vU H w l id)(h:∀off n,w=.hsl id 2 off n->H'[id]?=H[id]?):vU H' w l id:=⟨n.c,n.v.imp (λh=>h) λ⟨off,u,e1,e2,e3,e4⟩=>⟨off,u,e1,by rw[h _ _ e1];exact e2,e3,e4⟩⟩
theorem vU.lt(n:vU H w l id){off m:Nat}(h:w=.hsl id 2 off m):id<W H:=by rcases n.v with⟨e,_⟩|⟨_,u,_,e2,_⟩;rw[e]at h;cases h;exact(ζe.1 e2).1
theorem vU.more(n:vU H w l id)(X:bl):vU (H++X) w l id:=n.heap λ_ _ e=>u? (n.lt e)
theorem vU.len(n:vU H w l id):qF w=M (.int _q (W l)):=by rcases n.v with⟨rfl,rfl⟩|⟨off,u,rfl,_⟩<;>rfl
theorem vU.get(n:vU H w l id){i:Nat}{c:So}(a:l[i]?=M c):∃p,nL 2 w (i:Int)=M p/\fS H (.load 2 U) [p]=M (.agg c):=by
 have b:=(ζe.1 a).1;have u:=(n.c c (s? a)).1;rcases n.v with⟨_,rfl⟩|⟨off,z,rfl,e2,e3,e4⟩;simp at a;refine⟨.hptr id (off+i) 0,by simp[nL,b],?_⟩;have:z[off+i]?=M c:=by rw[<-e4,D?,L' b,L?]at a;exact a
 simp[fS,fh,e2,Ob.rows,this,cut,<-u];rfl
theorem vU.tail{c:So}(n:vU H w (c::l) id):∃w',jF 2 w (M 1) J=M w'/\vU H w' l id/\∃off m B,w=.hsl id 2 off m/\w'=.hsl id 2 B (W l):=by
 rcases n.v with⟨_,e⟩|⟨off,u,rfl,e2,e3,e4⟩;cases e;refine⟨.hsl id 2 (off+1) (W l),?_,⟨λc a=>n.c c (List.mem_cons_of_mem _ a),.inr ⟨off+1,u,Y,e2,by simp at e3;omega,?_⟩⟩,⟨_,_,_,Y,Y⟩⟩;simp[jF,ec];omega;have hd:(u.drop off).drop 1=u.drop (off+1):=by rw[List.drop_drop]
 rw[<-hd];have:=_f (List.drop 1) e4;rw[List.drop_take]at this;simpa using this
theorem vU.push(n:vU H w l id){c:So}(b:W c=2/\c.all V.one=U)(B:W l+1<=2147483648):
 ∃H',fI (H++[.row 2 [c]]) (.append 2) [w,.hsl (W H) 2 0 1]=M (.hsl (W H+1) 2 0 (W l+1),H')/\vU H' (.hsl (W H+1) 2 0 (W l+1)) (l++[c]) (W H+1)/\W H'=W H+2/\(∀i,i<W H->(∀off m,w=.hsl id 2 off m->i≠id)->H'[i]?=H[i]?):=by
 have e2:dO (H++[.row 2 [c]]) 2 (.hsl (W H) 2 0 1)=M [c]:=by simp[dO,Ob.rows]
 have u:∀c'∈l++[c],W c'=2/\c'.all V.one=U:=λc' h=>by rcases mem_append.1 h with h|h;exact n.c c' h;simp at h;subst h;exact b
 rcases n.v with⟨rfl,rfl⟩|⟨off,D,rfl,g2,g3,g4⟩
 .have e1:dO (H++[.row 2 [c]]) 2 .bN=M []:=rfl;refine⟨H++[.row 2 [c]]++[.row 2 [c]],?_,⟨u,.inr ⟨0,[c],Y,f?,f?,Y⟩⟩,f?,λi a _=>by rw[e8,u? a]⟩
  simp only[fI,e1,e2,iz,List.length_nil,Y?,A?];simp
 have z:=(ζe.1 g2).1;have e1:dO (H++[.row 2 [c]]) 2 (.hsl id 2 off (W l))=M l:=by simp only[dO,N',u? z,g2,ζb,Ob.rows,g3,g4]
 have C:iz (H++[.row 2 [c]]) (.hsl id 2 off (W l))=M (List.set (H++[Ob.row 2 [c]]) id Ob.dead):=by simp only[iz,u? z,g2]
 refine⟨List.set (H++[Ob.row 2 [c]]) id Ob.dead++[Ob.row 2 (l++[c])],?_,⟨u,.inr ⟨0,l++[c],f?,f?,f?,a! f?⟩⟩,f?,λi a h=>?_⟩
 .simp only[fI,e1,e2,C,Y?,B,N',A?,ζi]
 rw[u? (by simp;omega),F? (Ne.symm (h _ _ Y)),u? a]
end
def Hx(rs:Ps):Out×St->aY bE
 |(.exit _,_)=>J|(_,st)=>_n (kY st rs) λl=>match l with
  |[.own d]=>bk st.m d|_=>J
theorem goO{S:Sys}{c:cg}{rs:Ps}{a:RC}{st:St}{ob:bE}(h:mh S c (Hx rs) a [] st=M ob):∃o e? d,cI S c a st=M (o,e?)/\(∀id,o≠.exit id)/\kY e? rs=M [.own d]/\bk e?.m d=M ob:=by
 rw[qE]at h;have⟨⟨o,e?⟩,b,u⟩:=ζg.1 h;have z:∀id,o≠.exit id:=by rintro id rfl;simp[Hx]at u
 have B:_n (kY e? rs) (λl=>match l with|[.own d]=>bk e?.m d|_=>J)=M ob:=by cases o with|exit id=>exact _e Y (z id)|norm=>exact u|ret=>exact u
 have⟨l,C,w⟩:=ζg.1 B;split at w;exact⟨o,e?,_,b,z,C,w⟩;cases w
def Sl.whole{α:Type}(s:Sl α):aY (Sl α):=match s with|.part _=>J|s=>M s
structure vG(S:Sys)(c:cg){α δ:Type}[bC δ](fn:FuncId)(A:α->List V)(p:α->Option (Sl δ)):Prop where
 k:S.E.keep fn=true
 o:S.E.own fn=true
 h:∀z s,p z=some s->∃e m',c fn ((A z).map .v) []=some ([.own e],m')/\bk m' e=some (cF s)
 sc:∀x:δ,(cells x).all V.scalar=true
theorem vG.mk'{S:Sys}{T:sP}{α δ:Type}[bC δ](rf:RF){fn:Y'}{A:α->So}{p:α->aY (Sl δ)}(h:∀z,Le (_n (p z) λr=>M (cF r)) (bV S (dg S T) (Hx rf.rs) (.rc rf.body,[],start ((A z).map .v) [])))
 (B:T fn=M rf:=by kernel_rfl)(b:S.E.keep fn=U:=by kernel_rfl)(D:S.E.own fn=U:=by kernel_rfl)(G:∀z,W (A z)<=rf.na:=by intro z;exact Nat.le_of_ble_eq_true (by kernel_rfl))
 (sc:∀x:δ,(cells x).all V.scalar=U:=by intro x;rfl):vG S (dg S T) fn A p where
 k:=b
 o:=D
 sc:=sc
 h z s u:=by have a:=h z (cF s) (by rw[u];rfl);change mh S (dg S T) (Hx rf.rs) rf.body [] (start ((A z).map .v) [])=M (cF s)at a;have⟨o,e?,d,g1,g2,g3,g4⟩:=goO a;refine⟨d,e?.m,?_,g4⟩;rw[uB B];unfold pP;rw[L' (by simpa using G z),g1];cases o with|exit id=>exact _e Y (g2 id)|norm=>simp only[g3,A?]|ret=>simp only[g3,A?]
section
variable{S:Sys}{c:cg}{β γ δ α:Type}[bC δ]{Q:Out×St->aY β}{e:γ->aY β}{cf:Cf}
theorem Bz(n u:Nat){fn:Y'}{A:α->So}{p:α->aY (Sl δ)}(F:vG S c fn A p)(z:α){f:Sl δ->aY γ}
 (h:∀x,(p z).bind Sl.whole=M x->Le ((f x).bind e) (bV S c Q (nx S c n cf λq=>{q.st with g:=bH q.st.g u (.own u),m:=bH q.st.m u (cF x)})))
 (j:(fQ S c n cf).map (λq=>(q.d,q.k,(bU S.N q.st.g q.az).bind mA,(!q.dr||q.now),q.st.new u))=M (M u,.c,M (fn,(A z).map .v),U,U):=by kernel_rfl):Le ((((p z).bind Sl.whole).bind f).bind e) (bV S c Q cf):=by
 have⟨q,L,b⟩:=eA j;simp only[ζc]at b;have⟨b__,T,a__,W,I⟩:=b;have⟨C,g1,g2⟩:=ζg.1 a__;refine qR L ?_ h;rw[b__,T];intro y D;have⟨X,G,D⟩:=ζg.1 D;cases D;have⟨s,Y,B⟩:=ζg.1 G;have⟨e0,m',d,Z⟩:=F.h z s Y;rw[w_ q.dr _ _ _ _ _ C fn ((A z).map .v) g1 g2];have w:fD S c (M u) q.dr (!q.dr||q.now) (gb q.st.m q.fr) fn ((A z).map .v) q.st=M (.own u,{q.st with m:=bH q.st.m u (cF X)}):=by unfold fD;simp only[F.k,F.o,N',W,x_,d,c6,Z,cF,I];cases s with|nil=>cases B;rfl|emp=>cases B;rfl|row l=>cases B;have:nU (rows l)=U:=(by unfold nU;rw[O?];intro x i;obtain⟨a,_,rfl⟩:=mem_map.1 i;exact F.sc a);simp only[Sl.k,Sl.l,c6,V.c7,this,Bool.and_self,I,N'];rfl|part l=>cases B
 rw[w];rfl
end
structure GD where
 m:Nat
 pre:List (Nat×List Gh)
 nd:List (Nat×List Gh×List Gh)
structure GI where
 m:Nat
 i:Nat
 j:Nat
def lkL{α:Type}(l:aX (Nat×aX α))(i:Nat):aX α:=match l with
 |[]=>[]|(k,x)::r=>bif beq k i then x else lkL r i
def AR(l:aX (Nat×Pi×Pi))(i:Nat):Pi×Pi:=match l with
 |[]=>([],[])|(k,x)::r=>bif beq k i then x else AR r i
def Po(m:Nat):ST->ST
 |[]=>[]|x::l=>bif beq (m % 2) 1 then x::Po (m / 2) l else Po (m / 2) l
def Vk:QR->ST
 |[]=>[]|.s n::r=>n::Vk r|_::r=>Vk r
def adi(o:RO):ST:=(match o.dst with|some d=>[d]|none=>[])++(match o.gd with|some g=>[g.1]|none=>[])++Vk o.az
def aez(G:GD)(s:GI)(o:RO):RO:={o with dead:=Po (bif beq (s.m % 16) 15 then s.m / 16 % 65536 else s.m % 16) (adi o),pre:=lkL G.pre s.i}
def GI.op(s:GI):GI:=⟨bif beq (s.m % 16) 15 then s.m / 1048576 else s.m / 16,s.i+1,s.j⟩
def CS(G:GD):R0->GI->R0×GI
 |[],s=>([],s)|o::r,s=>(aez G s o::(CS G r s.op).1,(CS G r s.op).2)
def CV:Pi->RC->RC
 |[],c=>c|g::l,c=>.gh g (CV l c)
def M9:Pi->RC->RC
 |[],c=>c|g::l,c=>M9 l (.hg c g)
def GI.nd(s:GI):GI:=⟨s.m,s.i,s.j+1⟩
def k_(G:GD):RC->GI->RC×GI
 |.seq a b,s=>(CV (AR G.nd s.j).1 (.seq (k_ G a s.nd).1 (k_ G b (k_ G a s.nd).2).1),(k_ G b (k_ G a s.nd).2).2)|.cond x a b,s=>(CV (AR G.nd s.j).1 (.cond x (k_ G a s.nd).1 (k_ G b (k_ G a s.nd).2).1),(k_ G b (k_ G a s.nd).2).2)|.block id a,s=>(CV (AR G.nd s.j).1 (.block id (k_ G a s.nd).1),(k_ G a s.nd).2)|.loop a,s=>(CV (AR G.nd s.j).1 (.loop (M9 (AR G.nd s.j).2 (k_ G a s.nd).1)),(k_ G a s.nd).2)|.each g ps a b,s=>(CV (AR G.nd s.j).1 (.each g ps (k_ G a s.nd).1 (M9 (AR G.nd s.j).2 (k_ G b (k_ G a s.nd).2).1)),(k_ G b (k_ G a s.nd).2).2)|.ops l,s=>(CV (AR G.nd s.j).1 (M9 (AR G.nd s.j).2 (.ops (CS G l s.nd).1)),(CS G l s.nd).2)|.vm l,s=>(CV (AR G.nd s.j).1 (M9 (AR G.nd s.j).2 (.vm (CS G l s.nd).1)),(CS G l s.nd).2)|.gh g c,s=>(.gh g c,s)|.hg c g,s=>(.hg c g,s)|c,s=>(CV (AR G.nd s.j).1 c,s.nd)
theorem mS(c:RC):∀l,erase (CV l c)=erase c
 |[]=>rfl|g::l=>by simp only[CV,erase,mS c l]
theorem xR:∀l(c:RC),erase (M9 l c)=erase c
 |[],c=>rfl|g::l,c=>by simp only[M9,xR l,erase]
theorem BG(G:GD):∀(l:R0)s,((CS G l s).1).map RO.strip=l.map RO.strip
 |[],s=>rfl|o::r,s=>by simp only[CS,J?,BG G r];rfl
theorem nX(G:GD):∀(c:RC)s,erase (k_ G c s).1=erase c
 |.seq a b,s=>by simp only[k_,mS,erase,nX G a,nX G b]|.cond x a b,s=>by simp only[k_,mS,erase,nX G a,nX G b]|.block id a,s=>by simp only[k_,mS,erase,nX G a]|.loop a,s=>by simp only[k_,mS,erase,xR,nX G a]|.each g ps a b,s=>by simp only[k_,mS,erase,xR,nX G a,nX G b]|.ops l,s=>by simp only[k_,mS,xR,erase,BG]|.vm l,s=>by simp only[k_,mS,xR,erase,BG]|.gh g c,s=>rfl|.hg c g,s=>rfl|.skip,s=>by simp only[k_,mS]|.ret,s=>by simp only[k_,mS]|.exit _,s=>by simp only[k_,mS]
theorem N3{X:CX}{dr:X'}{ops:QP}{i:Nat}{o:Oper}{r:RO}(h:oM X dr ops i o=M r):r.strip=r:=by obtain⟨_,_,_,_,_,_,rfl⟩:=GP h;rfl
theorem AE{X:CX}{dr:X'}{ops:QP}:∀{l:QP}{i:Nat}{r:R0},nh X dr ops i l=M r->r.map RO.strip=r
 |[],i,r,h=>by cases h;rfl|o::l,i,r,h=>by simp only[nh]at h;split at h;(next a b B D=>cases h;simp only[J?,N3 B,AE D]);cases h
theorem NV{X:CX}:∀{c:Code}{ro:X'}{r:RC},bQ X ro c=M r->erase r=r:=by intro c;induction c with|region _ ops dr=>intro ro r h;simp only[bQ]at h;split at h;split at h;obtain⟨l,d,rfl⟩:=ζf.1 h;simp only[erase,AE d];cases h;obtain⟨l,d,rfl⟩:=ζf.1 h;simp only[erase,AE d]|seq a b u w=>intro ro r h;simp only[bQ]at h;split at h;(next d z=>cases h;simp only[erase,u d,w z]);cases h|cond c a b u w=>intro ro r h;simp only[bQ]at h;split at h;(next d z=>cases h;simp only[erase,u d,w z]);cases h|block id a u=>intro ro r h;simp only[bQ]at h;obtain⟨l,d,rfl⟩:=ζf.1 h;simp only[erase,u d]|loop a u=>intro ro r h;simp only[bQ]at h;obtain⟨l,d,rfl⟩:=ζf.1 h;simp only[erase,u d]|rangeFunc g ps a b u w=>intro ro r h;simp only[bQ]at h;split at h;cases h;split at h;(next d z=>cases h;simp only[erase,u d,w z]);cases h|_=>intro ro r h;first|cases h;rfl|(simp only[bQ]at h;cases h;rfl)|(simp only[bQ]at h;cases h)
def Vy(E:Env)(nm:Y'->aY Nat)(G:Y'->aY GD):sP:=λf=>_n (G f) λg=>_n (E.ft f) λu=>_n (bQ ⟨E,nm,u.ntmps⟩ O u.body) λc=>_n (u.results.mapM (DP E)) λrs=>M ⟨u.ntmps,rs,(k_ g c ⟨g.m,0,0⟩).1⟩
theorem Fh{E:Env}{nm:Y'->aY Nat}{G:Y'->aY GD}{f:Y'}{rf:RF}(h:Vy E nm G f=M rf):∃fi,E.ft f=M fi/\Ao E nm fi rf:=by unfold Vy at h;have⟨g,_,h⟩:=ζg.1 h;have⟨fi,a,h⟩:=ζg.1 h;have⟨c,u,h⟩:=ζg.1 h;have⟨rs,w,h⟩:=ζg.1 h;cases h;exact⟨fi,a,by rw[u,nX,NV u],w,Y⟩
theorem y_:∀(g:Y')(s:Nat),M g=M s->(λn=>n) s=g:=λ_ _ h=>(Option.some.inj h).symm
def rC(o:aY RF):RF:=o.getD ⟨0,[],.skip⟩
def tb(T:sP)(f:Y'):RC:=(rC (T f)).body
def tr(T:sP)(f:Y'):Ps:=(rC (T f)).rs
theorem AW{o:aY RF}(h:o.isSome=U):o=M (rC o):=by cases o with
 |none=>cases h|some r=>rfl
class ji(δ:Type)where
 e:δ->List V
instance ae8{α:Type}[bC α]:ji α:=⟨λx=>[enc x]⟩
instance ae7:ji Unit:=⟨λ_=>[]⟩
instance afa{α β:Type}[bC α][ji β]:ji (α×β):=⟨λx=>enc x.1::ji.e x.2⟩
@[simp] theorem aeJ{α:Type}[bC α](x:α):ji.e x=[enc x]:=rfl
@[simp] theorem aeL(x:Unit):ji.e x=[]:=rfl
@[simp] theorem aeN{α β:Type}[bC α][ji β](x:α×β):ji.e x=enc x.1::ji.e x.2:=rfl
class Fc(S:Sys)(c:cg){δ:Type}(m:Option δ)where
 n:FuncId
 az:List V
 E:δ->List V
 sc:Bool
 F:eP S c n (λ_:Unit=>az) E (λ_=>m) sc
section
variable{S:Sys}{T:sP}{δ:Type}{m:aY δ}
theorem eP.Vr{E:δ->So}(fn:Y')(az:So)(h:Le (m.bind λr=>M (E r)) (bV S (dg S T) (pU (tr T fn)) (.rc (tb T fn),[],start (az.map .v) [])))
 (B:(T fn).isSome=U)(a:S.E.keep fn=O)(D:ble (W az) (rC (T fn)).na=U)
 {sc:X'}(s:sc=U->∀r,(result (E r)).scalar=U):eP S (dg S T) fn (λ_:Unit=>az) E (λ_=>m) sc where
 k:=a
 h z:=aes (AW B) (Nat.le_of_ble_eq_true D) h
 s:=s
abbrev Fc.NE(E:δ->aX V)(fn:FuncId)(az:aX V)(h:Le (m.bind λr=>M (E r)) (bV S (dg S T) (pU (tr T fn)) (.rc (tb T fn),[],start (az.map .v) [])))
 (B:(T fn).isSome=U:=by kernel_rfl)(a:S.E.keep fn=O:=by kernel_rfl)(D:ble (W az) (rC (T fn)).na=U:=by kernel_rfl)
 :Fc S (dg S T) m:=
 ⟨fn,az,E,O,eP.Vr fn az h B a D λh=>nomatch h⟩
abbrev Fc.M[ji δ](fn:FuncId)(az:aX V)(h:Le (m.bind λr=>M (ji.e r)) (bV S (dg S T) (pU (tr T fn)) (.rc (tb T fn),[],start (az.map .v) [])))
 (B:(T fn).isSome=U:=by kernel_rfl)(a:S.E.keep fn=O:=by kernel_rfl)(D:ble (W az) (rC (T fn)).na=U:=by kernel_rfl)
 (s:∀r:δ,(result (ji.e r)).scalar=U:=by intro r;kernel_rfl):Fc S (dg S T) m:=
 ⟨fn,az,ji.e,U,eP.Vr fn az h B a D λ_=>s⟩
abbrev Fc.N[ji δ](fn:FuncId)(az:aX V)(h:Le (m.bind λr=>some (ji.e r)) (bV S (dg S T) (pU (tr T fn)) (.rc (tb T fn),[],start (az.map .v) [])))
 (B:(T fn).isSome=true:=by kernel_rfl)(a:S.E.keep fn=false:=by kernel_rfl)(D:ble az.length (rC (T fn)).na=true:=by kernel_rfl)
 :Fc S (dg S T) m:=
 ⟨fn,az,ji.e,false,eP.Vr fn az h B a D λh=>nomatch h⟩
end
abbrev Fc.of{S:Sys}{c:cg}{α δ:Type}{p:α->aY δ}{n:FuncId}{A:α->aX V}{E:δ->aX V}{b:Bool}(z:α)(F:eP S c n A E p b):Fc S c (p z):=⟨n,A z,E,b,⟨F.k,λ_=>F.h z,F.s⟩⟩
theorem eP.tJ{S:Sys}{c:cg}{α δ:Type}{p:α->aY δ}{n:Y'}{A:α->So}{E:δ->So}{b:X'}(F:∀z,Fc S c (p z))(i:α)(B:∀z,(F z).n=n)(G:∀z,(F z).az=A z)(D:∀z,(F z).E=E)(d:∀z,(F z).sc=b):eP S c n A E p b where
 k:=by rw[<-B i];exact(F i).F.k
 h z:=by rw[<-B z,<-G z,<-D z];exact(F z).F.h ()
 s:=by rw[<-d i,<-D i];exact(F i).F.s
theorem mM.tJ{S:Sys}{c:cg}{α δ:Type}{p:α->aY δ}{g:Y'}{w e:So}{A:α->So}{R:δ->So}{b:X'}[i:Inhabited α][F:∀z,Fc S c (p z)](B:∀z,(F z).n=g:=by intro _;kernel_rfl)(D:∀z,(F z).az=w++A z++e:=by intro _;kernel_rfl)
 (G:∀z,(F z).E=R:=by intro _;kernel_rfl)(d:∀z,(F z).sc=b:=by intro _;kernel_rfl):mM S c g w e A R p b:=
 ⟨eP.tJ F default B D G d⟩
section
variable{S:Sys}{c:cg}{β γ δ α:Type}{Q:Out×St->aY β}{e:γ->aY β}{cf:Cf}
theorem qC(n:Nat){m:aY β}(h:Le m (bV S c Q (jG S c n cf)))(B:hU S c n cf.1 cf.2.1 cf.2.2=M (jG S c n cf):=by kernel_rfl):Le m (bV S c Q cf):=Bo B h
theorem bp(n:Nat){m:aY δ}[F:Fc S c m]{f:δ->aY γ}(h:∀x,m=M x->Le ((f x).bind e) (bV S c Q (nx S c n cf λp=>cQ p.st p.d (.v (result (F.E x))))))
 (B:(fQ S c n cf).map (λp=>(p.k,(bU S.N p.st.g p.az).bind mA,(!p.dr||p.now||gb p.st.m p.fr [])))=M (.c,M (F.n,F.az.map .v),U):=by kernel_rfl):Le ((m.bind f).bind e) (bV S c Q cf):=Aa n F.F () h B
theorem bY(n:Nat){m:aY δ}[F:Fc S c m]{f:δ->aY γ}(h:∀x,m=M x->Le ((f x).bind e) (bV S c Q (nx S c n cf λp=>cQ p.st p.d (.v (result (F.E x))))))
 (B:(fQ S c n cf).map (λp=>(p.k,((bU S.N p.st.g p.az).bind mA).bind λq=>(oO (jA p.st.m 8) q.2).map λvs=>(q.1,vs,((!p.dr||p.now)||gb p.st.m p.fr q.2))))=M (.c,M (F.n,F.az,U)):=by kernel_rfl)(D:F.sc=U:=by kernel_rfl):Le ((m.bind f).bind e) (bV S c Q cf):=
 acC n (u D F.F) () h B
where
 u {b:X'} {fn:Y'} {az:So} {E:δ->So} {m:aY δ} (h:b=U) (F:eP S c fn (λ_:Unit=>az) E (λ_=>m) b):eP S c fn (λ_:Unit=>az) E (λ_=>m) U:=h▸F
def Pf(cf:Cf):RC:=match cf.1 with|.rc (.loop c)=>c|_=>.skip
def Gf(cf:Cf):Arg×ST×RC×RC:=match cf.1 with|.rc (.each g ps a b)=>(g,ps,a,b)|_=>(.s 0,[],.skip,.skip)
theorem dh{σ ε ρ:Type}{step:σ->aY (Fw σ ε ρ)}(n:Nat)(eσ:σ->St)(eε:ε->Nat×St)(eρ:ρ->St){s:σ}{fx:ε->aY γ}{fr:ρ->aY γ}
 (h:∀s,Le ((step s).bind λw=>M (Fw.out eσ eε eρ w)) (bV S c M (.rc (Pf (jG S c n cf)),[],eσ s)))
 (B:∀x,Le ((fx x).bind e) (bV S c Q (.ex (eε x).1,(jG S c n cf).2.1,(eε x).2)))(a:∀b,Le ((fr b).bind e) (Q (.ret,eρ b)))
 (D:hU S c n cf.1 cf.2.1 cf.2.2=M (.rc (.loop (Pf (jG S c n cf))),(jG S c n cf).2.1,eσ s):=by kernel_rfl):Le (((bG step s).bind (Fw.elim fx fr)).bind e) (bV S c Q cf):=
 Lo D h B a
theorem dW{σ ε:Type}{step:σ->aY (Fw σ ε Empty)}(n:Nat)(eσ:σ->St)(eε:ε->Nat×St){s:σ}{fx:ε->aY γ}{fr:Empty->aY γ}
 (h:∀s,Le ((step s).bind λw=>M (Fw.out eσ eε (λe=>c! e) w)) (bV S c M (.rc (Pf (jG S c n cf)),[],eσ s)))
 (B:∀x,Le ((fx x).bind e) (bV S c Q (.ex (eε x).1,(jG S c n cf).2.1,(eε x).2)))
 (D:hU S c n cf.1 cf.2.1 cf.2.2=M (.rc (.loop (Pf (jG S c n cf))),(jG S c n cf).2.1,eσ s):=by kernel_rfl):Le (((bG step s).bind (Fw.elim fx fr)).bind e) (bV S c Q cf):=
 Lo D h B λb=>c! b
theorem R3{σ ρ:Type}{step:σ->aY (Fw σ Empty ρ)}(n:Nat)(eσ:σ->St)(eρ:ρ->St){s:σ}{fx:Empty->aY γ}{fr:ρ->aY γ}
 (h:∀s,Le ((step s).bind λw=>M (Fw.out eσ (λe=>c! e) eρ w)) (bV S c M (.rc (Pf (jG S c n cf)),[],eσ s)))
 (a:∀b,Le ((fr b).bind e) (Q (.ret,eρ b)))
 (B:hU S c n cf.1 cf.2.1 cf.2.2=M (.rc (.loop (Pf (jG S c n cf))),(jG S c n cf).2.1,eσ s):=by kernel_rfl):Le (((bG step s).bind (Fw.elim fx fr)).bind e) (bV S c Q cf):=
 Lo B h (λx=>c! x) a
theorem DN{σ ε ρ:Type}{f:Y'}{x y:So}{a:aX α}{eI:α->So}{step:α->σ->aY (Fw σ ε ρ)}(n:Nat)(d:Tb SV)(eσ:σ->Tb bE)(eε:ε->Nat×Tb bE)(eρ:ρ->Tb bE){s:σ}{fn:σ->aY γ}{fx:ε->aY γ}{fr:ρ->aY γ}
 (g:S.items f x y=M (a.map eI))
 (h:∀x s,Le ((step x s).bind λw=>M (Fw.zl eσ eε eρ w)) (bV S c (BP S c (Gf (jG S c n cf)).2.2.2) (.rc (Gf (jG S c n cf)).2.2.1,[],⟨zT d (Gf (jG S c n cf)).2.1 ((eI x).map .v),eσ s,sy d,[],U,0⟩)))
 (B:∀s,Le ((fn s).bind e) (bV S c Q (.nx,(jG S c n cf).2.1,bD d (eσ s))))(D:∀x,Le ((fx x).bind e) (bV S c Q (.ex (eε x).1,(jG S c n cf).2.1,bD d (eε x).2)))(i:∀b,Le ((fr b).bind e) (Q (.ret,bD d (eρ b))))
 (G:∀x,(eI x).length=(Gf (jG S c n cf)).2.1.length:=by intro _;kernel_rfl)(j:tM S.N d (Gf (jG S c n cf)).1=M (.v (.clo f x y)):=by kernel_rfl)
 (q:hU S c n cf.1 cf.2.1 cf.2.2=M (.rc (.each (Gf (jG S c n cf)).1 (Gf (jG S c n cf)).2.1 (Gf (jG S c n cf)).2.2.1 (Gf (jG S c n cf)).2.2.2),(jG S c n cf).2.1,bD d (eσ s)):=by kernel_rfl):Le (((mm step a s).bind (Fw.tg fn fx fr)).bind e) (bV S c Q cf):=
 ab_ q j g G h B D i
def abb(n k:Nat)(B:ST)(d:Nat)(S:Sys)(c:cg)(cf:Cf)(v:SV):Cf:=jmp k [] (jG S c n cf) {(jG S c n cf).2.2 with g:=bH (ql B (jG S c n cf).2.2.g) d v}
theorem bK[bC δ](n k:Nat)(B:ST)(d:Nat){m:aY δ}{f:δ->aY γ}(D:Le (m.bind λr=>bV S c Q (abb n k B d S c cf (cv r))) (bV S c Q cf))(a:∀r,Le (_n (f r) e) (bV S c Q (abb n k B d S c cf (cv r)))):Le (_n (m.bind f) e) (bV S c Q cf):=XR _ D a
end
theorem Pr{α β:Type}{P:α ⊕ β->Prop}(c:∀a,P (.inl a))(B:∀b,P (.inr b)):∀x,P x
 |.inl a=>c a|.inr b=>B b
instance{n:Nat}:DecidableEq (b_ n Int):=λa b=>if h:a.l=b.l then .isTrue (by cases a;cases b;cases h;rfl)else .isFalse λe=>h (by rw[e])
theorem yK:∀l:SW,jH ((l.map (cells (α:=Int))).flatten)=M l
 |[]=>rfl|a::l=>by show jH (.int _q a::(l.map (cells (α:=Int))).flatten)=_;simp only[jH,yK l,A?]
theorem SL(l:SW):(l.map (cells (α:=Int))).flatten=l.map (V.int _q):=by induction l with|nil=>rfl|cons a l u=>simp only[J?,List.flatten_cons,u];rfl
instance{n:Nat}:Key (b_ n Int)where
 kk:=.ints n
 ok a:=by show(W (a.l.map (cells (α:=Int))).flatten==n&&(jH (a.l.map (cells (α:=Int))).flatten).isSome)=U;rw[yK,SL,N!,a.len];simp
 eq a b:=by show mV (a.l.map (cells (α:=Int))).flatten (b.l.map (cells (α:=Int))).flatten=_;unfold mV;rw[yK,yK];simp only[a.len,b.len,N'];congr 1;rw[Bool.eq_iff_iff,_i,decide_eq_true_iff];exact⟨λh=>by cases a;cases b;cases h;rfl,λh=>by rw[h]⟩
def DF(m:Tb bE):SV->X'
 |.v _|.agg _=>U|x=>nj m x
def qP:SV->Rd
 |.v x=>x.cells.map .v|.agg l=>l|x=>[x]
def D2(cells:Rd):aX (Nat×Nat)->Rd->aY Rd
 |[],[]=>M cells|(off,size)::pl,v::vs=>if(qP v).length=size/\off+W (qP v)<=W cells then D2 (cells.take off++qP v++cells.drop (off+W (qP v))) pl vs else J|_,_=>J
theorem SJ(cells:Rd):D2 cells [] []=M cells:=rfl
theorem G3(cells:Rd)(off size:Nat)(pl:aX (Nat×Nat))(v:SV)(vs:Rd):D2 cells ((off,size)::pl) (v::vs)=if(qP v).length=size/\off+W (qP v)<=W cells then D2 (cells.take off++qP v++cells.drop (off+W (qP v))) pl vs else J:=rfl
theorem VD(x:V):qP (.v x)=x.cells.map .v:=rfl
theorem Q1(d:Nat):qP (.own d)=[.own d]:=rfl
theorem Tu(d:Nat):qP (.mp d)=[.mp d]:=rfl
theorem Rl(d o:Nat):qP (.ptr d o)=[.ptr d o]:=rfl
theorem Wf{m:Tb bE}{v:SV}(h:DF m v=U):Be m v=M (qP v):=by cases v<;>first|rfl|(unfold Be;exact L' h)|(simp[DF,nj]at h)
theorem OK{m:Tb bE}:∀{pl:aX (Nat×Nat)}{vs cells l:Rd},vs.all (DF m)=U->D2 cells pl vs=M l->vF m cells pl vs=M l
 |[],[],_,_,_,h=>h|[],_::_,_,_,_,h=>by cases h|_::_,[],_,_,_,h=>by cases h|(off,size)::pl,v::vs,cells,l,B,h=>by rw[o!,ζh]at B;rw[G3]at h;show(match Be m v with|some c=>if W c=size/\off+W c<=W cells then vF m (cells.take off++c++cells.drop (off+W c)) pl vs else J|none=>J)=M l;rw[Wf B.1];simp only;split at h;(next a=>rw[L' a];exact OK B.2 h);cases h
def HA:SV->X'
 |.v x=>x.one|.agg _=>O|_=>U
theorem ace(x:V):HA (.v x)=x.one:=rfl
theorem WR(d:Nat):HA (.own d)=U:=rfl
theorem Yk(d:Nat):HA (.mp d)=U:=rfl
theorem WM(d o:Nat):HA (.ptr d o)=U:=rfl
theorem O8{m:Tb bE}:∀{l:Rd},l.all HA=U->l.all (DF m)=U->l.all (An m)=U
 |[],_,_=>rfl|x::l,h,k=>by rw[o!,ζh]at h k⊢;refine⟨?_,O8 h.2 k.2⟩;cases x<;>first|exact h.1|exact k.1|(have:=h.1;cases this)
section
variable{S:Sys}{c:cg}{β γ δ α:Type}{Q:Out×St->aY β}{e:γ->aY β}{cf:Cf}
theorem RL{N:Nat->Y'}{m:Tb bE}{z:So}{pl:aX (Nat×Nat)}{m? l:Rd}(B:(c6 m?).isNone=U)(h:vF m (z.map .v) pl m?=M l):kj N m (.build z pl) m?=M (.agg l):=by unfold kj;cases a:c6 m? with|some x=>rw[a]at B;cases B|none=>have:zQ N m (.build z pl) m?=(vF m (z.map .v) pl m?).map .agg:=(by unfold zQ;split<;>first|contradiction|(rename_i e _;cases e;rfl)|simp_all);simp only[this,h,A?]
theorem adt(n:Nat)(m? l:Rd)(z:So)(pl:aX (Nat×Nat)){m:aY β}(B:D2 (z.map .v) pl m?=M l)(h:Le m (bV S c Q (nx S c n cf λp=>cQ p.st p.d (.agg l))))
 (D:(fQ S c n cf).map (λp=>(p.k,bU S.N p.st.g p.az,(c6 m?).isNone,m?.all (DF p.st.m)))=M (.p (.build z pl),M m?,U,U):=by kernel_rfl):Le m (bV S c Q cf):=by
 have⟨p,u,a⟩:=eA D;simp only[ζc]at a;refine uF u ?_ h;rw[a.1];exact Dg a.2.1 rfl (RL a.2.2.1 (OK a.2.2.2 B))
theorem ada(n u:Nat)(l:Rd){m:aY β}(B:l.all HA=U)(h:Le m (bV S c Q (nx S c n cf λp=>{p.st with g:=bH p.st.g u (.ptr u 0),m:=bH p.st.m u (.box l)})))
 (D:(fQ S c n cf).map (λp=>(p.d,p.k,bU S.N p.st.g p.az,p.st.new u,l.all (DF p.st.m)))=M (M u,.a .box,M [.agg l],U,U):=by kernel_rfl):Le m (bV S c Q cf):=by
 have⟨p,w,a⟩:=eA D;simp only[ζc]at a;refine uF w ?_ h;rw[a.1,a.2.1,zX,a.2.2.1];simp only[ζb,a.2.2.2.1,N',oB,O8 B a.2.2.2.2]
end
section
variable{S:Sys}{c:cg}{β γ δ:Type}{Q:Out×St->aY β}{e:γ->aY β}{cf:Cf}{κ ν:Type}[bC κ][DecidableEq κ][Key κ][bC ν]
structure GU(κ ν:Type)where
 o:Option (Mo κ ν)
 deriving Inhabited
def mpV(m:GU κ ν):V:=match m.o with|none=>.iE|some l=>.fmap (pX l)
theorem SB(m:Mo κ ν):V.vv (pX m)=U:=by induction m with|nil=>rfl|cons x r u=>show V.vv ((enc x.1,enc x.2)::pX r)=U;simp only[V.vv,lU,u,Bool.and_self]
instance:bC (GU κ ν)where
 cells m:=[mpV m]
 agg:=O
 size:=1
 len _:=rfl
 good m:=by unfold mpV;split;rfl;simp only[V.cT,V.good,SB,Bool.and_self]
 one m:=by unfold mpV;split<;>rfl
 plain _:=rfl
theorem O7(m:GU κ ν):V.one (enc m)=U:=by have⟨o⟩:=m;cases o<;>rfl
def nD(m:GU κ ν):Mo κ ν:=m.o.getD []
theorem We(m:GU κ ν):oJ [] (enc m)=M (pX (nD m)):=by have⟨o⟩:=m;cases o<;>rfl
theorem Mr(m:GU κ ν)(k:κ)(z:ν)(ok:X'):fS [] (.lookup (Key.kk κ) (enc z) ok) [enc m,enc k]=M (if ok then .tup [enc (pW (nD m) k z),.bool (wO (nD m) k)]else enc (pW (nD m) k z)):=by
 simp only[fS,We,Key.ok,N'];have:=H6 k (nD m) 0;simp only[pW,wO]
 cases B:jB (enc k) (pX (nD m)) 0 with
 |none=>rw[B]at this;cases this|some r=>
  rw[B]at this;simp only[A?,ζa]at this
  cases r with
  |none=>cases u:mj k (nD m)with|none=>rfl|some w=>rw[u]at this;cases this
  |some w=>cases u:mj k (nD m)with|none=>rw[u]at this;cases this|some C=>rw[u]at this;simp only[A?,ζa]at this;simp only[this];rfl
theorem Sz(n:Nat)(mp:GU κ ν)(k:κ)(z:ν){m:aY β}(h:Le m (bV S c Q (nx S c n cf λp=>cQ p.st p.d (cv (pW (nD mp) k z)))))
 (B:(fQ S c n cf).map (λp=>(p.k,bU S.N p.st.g p.az))=M (.r (.lookup (Key.kk κ) (enc z) O),M [cv mp,cv k]):=by kernel_rfl):Le m (bV S c Q cf):=by
 have⟨p,u,a⟩:=eA B;simp only[ζc]at a;refine uF u ?_ h;rw[a.1,BN,a.2];simp only[ζb,fA,Bool.or_true,N',qe,Mr,A?];rfl
theorem ZJ(n:Nat)(mp:GU κ ν)(k:κ)(z:ν){m:aY β}(h:Le m (bV S c Q (nx S c n cf λp=>cQ p.st p.d (.v (.tup [enc (pW (nD mp) k z),.bool (wO (nD mp) k)])))))
 (B:(fQ S c n cf).map (λp=>(p.k,bU S.N p.st.g p.az))=M (.r (.lookup (Key.kk κ) (enc z) U),M [cv mp,cv k]):=by kernel_rfl):Le m (bV S c Q cf):=by
 have⟨p,u,a⟩:=eA B;simp only[ζc]at a;refine uF u ?_ h;rw[a.1,BN,a.2];simp only[ζb,fA,Bool.or_true,N',qe,Mr,A?]
end
theorem eP.scalar{S:Sys}{c:cg}{α δ:Type}{fn:Y'}{A:α->So}{E:δ->So}{p:α->aY δ}{b:X'}(F:eP S c fn A E p b)(h:∀r,(result (E r)).scalar=U):eP S c fn A E p U:=⟨F.k,F.h,λ_=>h⟩
section
variable{S:Sys}{c:cg}{β γ δ α:Type}[bC α]{Q:Out×St->aY β}{e:γ->aY β}{cf:Cf}
theorem XQ{ω:Type}[bC ω](n u:Nat){N:Nat}(a:b_ N α)(i:Int)(o:Nat)(x:α)(D:a.at i=M x)(y:α)(w:ω)(G:cells y=(cells x).take o++cells w++(cells x).drop (o+bC.size ω)){m:aY β}(h:Le m (bV S c Q (nx S c n cf λp=>cQ {p.st with m:=bH p.st.m u (bx (a.set i y))} p.d (.v .undef))))
 (j:(fQ S c n cf).map (λp=>(p.k,bU S.N p.st.g p.az,bk p.st.m u,(!p.dr||p.now),ble (o+bC.size ω) (bC.size α)))=M (.l (.store (bC.size ω)),M [.ptr u (i.toNat*bC.size α+o),cv w],M (bx a),U,U):=by kernel_rfl):Le m (bV S c Q cf):=by
 have⟨p,B,z⟩:=eA j;simp only[ζc]at z;have⟨b,C⟩:=lg B;have⟨dr,fr,d,gd,now,q,az,dd,l,fs,st⟩:=p;obtain⟨rfl,I,L,a__,T⟩:=z;exact acQ n dr fr (⟨d,gd,now,.l (.store (bC.size ω)),az,dd,[]⟩::l) fs st u a i o x D y (enc w) (by rw[pF];exact G) Y (by(try dsimp only at *);simp only[b,C,I,L,a__,T,pF,jg,wD]) (by
  simp only[nx,B]at h;exact h)
end
def Kq(rs:Ps):Out×St->aY (bE×So)
 |(.exit _,_)=>J|(_,st)=>_n (kY st rs) λl=>match l with
  |.own d::r=>_n (bk st.m d) λob=>(c6 r).map λys=>(ob,ys)|_=>J
theorem A5:∀{l:Rd}{ys:So},c6 l=M ys->l=ys.map .v
 |[],ys,h=>by cases h;rfl|.v x::r,ys,h=>by simp only[c6]at h;obtain⟨B,a,rfl⟩:=ζf.1 h;rw[A5 a];rfl|.own _::_,_,h|.ptr ..::_,_,h|.el ..::_,_,h|.mp _::_,_,h|.clo ..::_,_,h|.tup _::_,_,h|.agg _::_,_,h|.yl _::_,_,h=>by cases h
theorem aex{S:Sys}{c:cg}{rs:Ps}{a:RC}{st:St}{ob:bE}{ys:So}(h:mh S c (Kq rs) a [] st=M (ob,ys)):∃o e? d,cI S c a st=M (o,e?)/\(∀id,o≠.exit id)/\kY e? rs=M (.own d::ys.map .v)/\bk e?.m d=M ob:=by
 rw[qE]at h;have⟨⟨o,e?⟩,b,u⟩:=ζg.1 h;have z:∀id,o≠.exit id:=by rintro id rfl;simp[Kq]at u
 have B:_n (kY e? rs) (λl=>match l with|.own d::r=>_n (bk e?.m d) λob=>(c6 r).map λys=>(ob,ys)|_=>J)=M (ob,ys):=by cases o with|exit id=>exact _e Y (z id)|norm=>exact u|ret=>exact u
 have⟨l,C,w⟩:=ζg.1 B;split at w;have⟨D,G,I⟩:=ζg.1 w;have⟨q,j,L⟩:=ζf.1 I;cases L;exact⟨o,e?,_,b,z,by rw[C,A5 j],G⟩;cases w
structure FcO(S:Sys)(c:cg){δ ε:Type}[bC δ][ji ε](m:Option (Sl δ×ε))where
 n:FuncId
 az:List V
 k:S.E.keep n=true
 o:S.E.own n=true
 h:∀s r,m=some (s,r)->∃e m',c n (az.map .v) []=some (.own e::(ji.e r).map .v,m')/\bk m' e=some (cF s)
 sc:∀x:δ,(cells x).all V.scalar=true
 sr:∀r:ε,V.c7 (ji.e r)=true
abbrev FcO.mk'{S:Sys}{T:sP}{δ ε:Type}[bC δ][ji ε]{m:aY (Sl δ×ε)}(fn:FuncId)(az:aX V)(h:Le (m.bind λr=>M (cF r.1,ji.e r.2)) (bV S (dg S T) (Kq (tr T fn)) (.rc (tb T fn),[],start (az.map .v) [])))
 (B:(T fn).isSome=U:=by kernel_rfl)(b:S.E.keep fn=U:=by kernel_rfl)(D:S.E.own fn=U:=by kernel_rfl)(G:ble (W az) (rC (T fn)).na=U:=by kernel_rfl)
 (sc:∀x:δ,(cells x).all V.scalar=U:=by intro x;rfl)(sr:∀r:ε,V.c7 (ji.e r)=U:=by intro r;rfl):FcO S (dg S T) m where
 n:=fn
 az:=az
 k:=b
 o:=D
 sc:=sc
 sr:=sr
 h s r w:=by have u:=AW B;have a:=h (cF s,ji.e r) (by rw[w];rfl);change mh S (dg S T) (Kq (rC (T fn)).rs) (rC (T fn)).body [] (start (az.map .v) [])=M (cF s,ji.e r)at a;have⟨o,e?,d,g1,g2,g3,g4⟩:=aex a;refine⟨d,e?.m,?_,g4⟩;rw[uB u];unfold pP;rw[L' (by simpa using Nat.le_of_ble_eq_true G),g1];cases o with|exit id=>exact _e Y (g2 id)|norm=>simp only[g3,A?]|ret=>simp only[g3,A?]
def aaZ{δ ε:Type}(p:Sl δ×ε):aY (Sl δ×ε):=p.1.whole.map λs=>(s,p.2)
section
variable{S:Sys}{c:cg}{β γ δ α:Type}{Q:Out×St->aY β}{e:γ->aY β}{cf:Cf}
theorem acs[bC α]{N:Nat->Y'}{m:Tb bE}{i:Int}{z:α}(B:(cells z).all V.scalar=U):kj N m (.makeC (bC.size α) (cells z)) [.v (.int _q i),.v (.int _q i)]=_n (nv i z) λs=>M (cv s):=by show(if i64=_q/\i64=_q/\0<=i/\i=i/\i<=2147483648/\(cells z).all V.scalar=U then M (V.fsl (bC.size α) (replicate i.toNat (cells z)))else J).map SV.v=_;unfold nv;by_cases h:0<=i/\i<=2147483648;rw[L' h,L' ⟨Y,Y,h.1,Y,h.2,B⟩];show M (SV.v (.fsl _ (replicate _ (cells z))))=M (SV.v (.fsl _ (rows (replicate i.toNat z))));simp[rows];rw[M' h,M' λk=>h ⟨k.2.2.1,k.2.2.2.2.1⟩];rfl
theorem aep[bC α](n:Nat){i:Int}{z:α}{f:Sl α->aY γ}(h:∀B,nv i z=M B->Le ((f B).bind e) (bV S c Q (nx S c n cf λp=>cQ p.st p.d (cv B))))
 (D:(fQ S c n cf).map (λp=>(p.k,bU S.N p.st.g p.az))=M (.p (.makeC (bC.size α) (cells z)),M [.v (.int _q i),.v (.int _q i)]):=by kernel_rfl)(G:(cells z).all V.scalar=U:=by rfl):Le (((nv i z).bind f).bind e) (bV S c Q cf):=by
 have⟨p,u,a⟩:=eA D;simp only[ζc]at a;refine qR u ?_ h;rw[a.1];exact Le.of_eq (Mq a.2 rfl (acs G))
theorem abT(n:Nat)(ds:ST){m:aY δ}[F:Fc S c m]{f:δ->aY γ}(h:∀x,m=M x->Le ((f x).bind e) (bV S c Q (nx S c n cf λp=>cQ {p.st with m:=if(result (F.E x)).scalar then p.st.m else ql ds p.st.m} p.d (.v (result (F.E x))))))
 (B:(fQ S c n cf).map (λp=>(p.k,((bU S.N p.st.g p.az).bind mA).bind λq=>(oO (jA p.st.m 8) q.2).map λvs=>(q.1,vs,!p.dr||p.now,(c6 q.2).isSome,rowsOf p.st.m q.2)))=M (.c,M (F.n,F.az,U,O,M ds)):=by kernel_rfl):Le ((m.bind f).bind e) (bV S c Q cf):=by
 have⟨p,z,a⟩:=eA B;simp only[ζc]at a;have⟨C,D⟩:=a;have⟨q,g1,g2⟩:=ζg.1 D;have⟨u,g3,g4⟩:=ζg.1 g1;have⟨vs,g5,g6⟩:=ζf.1 g2;simp only[ζc]at g6;obtain⟨e1,rfl,e3,e4,e5⟩:=g6;refine qR z ?_ h;rw[C,w_ _ _ _ _ _ _ u q.1 q.2 g3 g4,Pe _ _ _ _ _ _ _ (by rw[e1];exact F.F.k),(zc p.st.m 8).2,g5]
 simp only[ζb,e3,Bool.true_or,Bool.and_self,N'];intro y w;have⟨r,b,w⟩:=ζg.1 w;cases w;have:=F.F.h () (F.E r) (ζg.2 ⟨r,b,rfl⟩);rw[e1,this];simp only[ζb,K0,e4,Bool.or_false]
 cases(result (F.E r)).scalar with
 |true=>rfl|false=>simp only[v?,_a,N',e5,A?,ζb]
theorem Yi(n:Nat)(ds:ST){m:aY δ}[F:Fc S c m]{f:δ->aY γ}
 (h:∀x,m=M x->Le ((f x).bind e) (bV S c Q (nx S c n cf λp=>cQ p.st p.d (.v (result (F.E x)))))/\Le ((f x).bind e) (bV S c Q (nx S c n cf λp=>cQ {p.st with m:=ql ds p.st.m} p.d (.v (result (F.E x))))))
 (B:(fQ S c n cf).map (λp=>(p.k,((bU S.N p.st.g p.az).bind mA).bind λq=>(oO (jA p.st.m 8) q.2).map λvs=>(q.1,vs,!p.dr||p.now,(c6 q.2).isSome,rowsOf p.st.m q.2)))=M (.c,M (F.n,F.az,U,O,M ds)):=by kernel_rfl):Le ((m.bind f).bind e) (bV S c Q cf):=
 abT n ds (λx u=>by
  cases(result (F.E x)).scalar with
  |true=>exact(h x u).1|false=>exact(h x u).2) B
end
def HR(rs:Ps)(B:ST):Out×St->aY (So×dF)
 |(.exit _,_)=>J|(_,st)=>_n (kY st rs) λl=>_n (c6 l) λys=>(lR st.m B).map λos=>(ys,os)
theorem goK{S:Sys}{c:cg}{rs:Ps}{B:ST}{a:RC}{st:St}{os:dF}{ys:So}(h:mh S c (HR rs B) a [] st=M (ys,os)):∃o e?,cI S c a st=M (o,e?)/\(∀id,o≠.exit id)/\kY e? rs=M (ys.map .v)/\lR e?.m B=M os:=by
 rw[qE]at h;have⟨⟨o,e?⟩,b,u⟩:=ζg.1 h;have w:∀id,o≠.exit id:=by rintro id rfl;simp[HR]at u
 have z:_n (kY e? rs) (λl=>_n (c6 l) λys=>(lR e?.m B).map λos=>(ys,os))=M (ys,os):=by cases o with|exit id=>exact _e Y (w id)|norm=>exact u|ret=>exact u
 have⟨l,C,D⟩:=ζg.1 z;have⟨j,G,I⟩:=ζg.1 D;have⟨q,d,L⟩:=ζf.1 I;cases L;exact⟨o,e?,b,w,by rw[C,A5 G],d⟩
def q9:Tb bE->dF->Tb bE
 |m,[]=>m|m,(d,ob)::r=>q9 (bH m d ob) r
theorem KO{m':dF}{D:ST}:∀{B:ST}{os m:dF},lR m' B=M os->(os.all λx=>within D x.2)=U->Bp D m' B m=M (q9 m os)
 |[],os,m,h,_=>by cases h;rfl|k::B,os,m,h,hp=>by simp only[lR]at h;split at h;(next v t a G=>cases h;simp only[o!,ζh]at hp;simp only[Bp,a,hp.1,N',q9];exact KO G hp.2);cases h
theorem back_eq{m':dF}{B:ST}{os m:dF}(h:lR m' B=M os)(hp:(os.all λx=>within B x.2)=U):lY m' B m=M (q9 m os):=KO h hp
structure pK(S:Sys)(c:cg){δ:Type}(m:Option δ)where
 n:FuncId
 az:List SV
 os:dF
 E:δ->List V
 M:δ->dF
 k:S.E.keep n=true
 o:S.E.own n=false
 q:(S.prm n).isNone=true
 h:∀r,m=some r->∃m',c n az os=some ((E r).map .v,m')/\∀m0,lY m' (os.map (·.1)) m0=some (q9 m0 (M r))
abbrev pK.mk'{S:Sys}{T:sP}{δ:Type}{m:aY δ}(fn:FuncId)(az:aX SV)(os:dF)(E:δ->aX V)(M:δ->dF)(h:Le (m.bind λr=>_j (E r,M r)) (bV S (dg S T) (HR (tr T fn) (os.map (·.1))) (.rc (tb T fn),[],start az os)))
 (B:(T fn).isSome=U:=by kernel_rfl)(b:S.E.keep fn=U:=by kernel_rfl)(D:S.E.own fn=O:=by kernel_rfl)(G:(S.prm fn).isNone=U:=by kernel_rfl)(d:ble (W az) (rC (T fn)).na=U:=by kernel_rfl)
 (hp:∀r,((M r).all λx=>within (os.map (·.1)) x.2)=U:=by intro r;kernel_rfl):pK S (dg S T) m where
 n:=fn
 az:=az
 os:=os
 E:=E
 M:=M
 k:=b
 o:=D
 q:=G
 h r hr:=by have u:=AW B;have a:=h (E r,M r) (by rw[hr];rfl);change mh S (dg S T) (HR (rC (T fn)).rs (os.map (·.1))) (rC (T fn)).body [] (start az os)=_j (E r,M r)at a;have⟨o,e?,g1,g2,g3,g4⟩:=goK a;refine⟨e?.m,?_,λw=>back_eq g4 (hp r)⟩;rw[uB u];unfold pP;rw[L' (Nat.le_of_ble_eq_true d),g1];cases o with|exit id=>exact _e Y (g2 id)|norm=>simp only[g3,A?]|ret=>simp only[g3,A?]
section
variable{S:Sys}{c:cg}{β γ δ:Type}{Q:Out×St->aY β}{e:γ->aY β}{cf:Cf}
theorem vu(n:Nat){m:aY δ}(F:pK S c m){f:δ->aY γ}(h:∀x,m=M x->Le ((f x).bind e) (bV S c Q (nx S c n cf λp=>cQ {p.st with m:=q9 p.st.m (F.M x)} p.d (.v (result (F.E x))))))
 (B:(fQ S c n cf).map (λp=>(p.k,((bU S.N p.st.g p.az).bind mA).bind λq=>(handed p.st.m q.2).map λos=>(q.1,q.2,os),p.dr))=M (.c,M (F.n,F.az,F.os),O):=by kernel_rfl):Le ((m.bind f).bind e) (bV S c Q cf):=by
 have⟨p,z,a⟩:=eA B;simp only[ζc]at a;have⟨C,D,G⟩:=a;have⟨q,g1,g2⟩:=ζg.1 D;have⟨u,g3,g4⟩:=ζg.1 g1;have⟨os,g5,g6⟩:=ζf.1 g2;simp only[ζc]at g6;obtain⟨e1,e2,rfl⟩:=g6;refine qR z ?_ h;rw[C,G,w_ _ _ _ _ _ _ u q.1 q.2 g3 g4];intro y w;have⟨r,b,w⟩:=ζg.1 w;cases w;have⟨m',k1,k2⟩:=F.h r b;have I:S.prm F.n=J:=by have:=F.q;cases d:S.prm F.n with|none=>rfl|some _=>rw[d]at this;cases this
 have:fD S c p.d O (!O||p.now) (gb p.st.m p.fr) q.1 q.2 p.st=M (.v (result (F.E r)),{p.st with m:=q9 p.st.m (F.M r)}):=by unfold fD;rw[e1,e2]at *;simp only[F.k,F.o,I,g5,k1,nk,k2,N',Bool.not_false,Bool.true_or,Bool.false_and,v?,_a]
 rw[this];rfl
instance:Key U' where
 kk:=.str
 ok _:=rfl
 eq a b:=by show M (a==b)=M (_r (a=b));rw[show(a==b)=_r (a=b)from Bool.eq_iff_iff.2 (by cases a;cases b;rename_i x y;show(x==y)=U↔_;simp)]
def Qv(s:Sl U8):U':=oA (s.l.map U8.v)
theorem Lj:∀l:aX U8,nK (rows l)=M (l.map U8.v)
 |[]=>rfl|a::l=>by show(nK (rows l)).map (a.v::·)=_;rw[Lj l];rfl
theorem ac1(n u:Nat)(s:Sl U8){m:aY β}(h:Le m (bV S c Q (nx S c n cf λp=>cQ p.st p.d (.v (.str (Qv s))))))
 (B:(fQ S c n cf).map (λp=>(p.k,bU S.N p.st.g p.az,bk p.st.m u,p.dr))=M (.b,M [.own u],M (cF s),O):=by kernel_rfl):Le m (bV S c Q cf):=by
 have⟨p,z,a⟩:=eA B;simp only[ζc]at a;have⟨C,D,G,I⟩:=a;refine uF z ?_ h;rw[C,I];have d:_n (jC p.st.m 1 (.own u)) (λL=>(nK L).map λl=>((SV.v (.str (oA l)),p.st):SV×St))=M (.v (.str (Qv s)),p.st):=by have j:nK (rows s.l)=M (s.l.map U8.v):=Lj _;have w:jC p.st.m 1 (.own u)=M (rows s.l):=(by unfold jC;simp only[G];cases s<;>rfl);rw[w];show((nK (rows s.l)).map λl=>_)=_;rw[j];rfl
 unfold gz oa;have T:gI S.N p.st.g ⟨p.d,J,p.now,.b,p.az,[],[]⟩=J:=rfl;simp only[wanted,T,D,v?,_a,d];rfl
end
def QM(rs:Ps)(B:ST):Out×St->aY (bE×So×dF)
 |(.exit _,_)=>J|(_,st)=>_n (kY st rs) λl=>match l with
  |.own d::r=>if B.contains d then J else(bk st.m d).bind λob=>_n (c6 r) λys=>(lR st.m B).map λos=>(ob,ys,os)|_=>J
theorem goR{S:Sys}{c:cg}{rs:Ps}{B:ST}{a:RC}{st:St}{ob:bE}{ys:So}{os:dF}(h:mh S c (QM rs B) a [] st=M (ob,ys,os)):
 ∃o e? d,cI S c a st=M (o,e?)/\(∀id,o≠.exit id)/\kY e? rs=M (.own d::ys.map .v)/\B.contains d=O/\bk e?.m d=M ob/\lR e?.m B=M os:=by
 rw[qE]at h;have⟨⟨o,e?⟩,b,w⟩:=ζg.1 h;have D:∀id,o≠.exit id:=by rintro id rfl;simp[QM]at w
 have G:_n (kY e? rs) (λl=>match l with|.own d::r=>if B.contains d then J else(bk e?.m d).bind λob=>_n (c6 r) λys=>(lR e?.m B).map λos=>(ob,ys,os)|_=>J)=M (ob,ys,os):=by cases o with|exit id=>exact _e Y (D id)|norm=>exact w|ret=>exact w
 have⟨l,I,u⟩:=ζg.1 G;split at u
 .split at u
  .cases u
  rename_i e;have⟨j,L,a__⟩:=ζg.1 u;have⟨y,Q,T⟩:=ζg.1 a__;have⟨q,z,C⟩:=ζf.1 T;cases C;exact⟨o,e?,_,b,D,by rw[I,A5 Q],by simpa using e,L,z⟩
 cases u
structure FcR(S:Sys)(c:cg){δ ε:Type}[bC δ][ji ε](m:Option (Sl δ×ε))where
 n:FuncId
 az:List SV
 os:dF
 M:Sl δ×ε->dF
 k:S.E.keep n=true
 o:S.E.own n=false
 q:(S.prm n).isNone=true
 h:∀r,m=some r->∃e m',c n az os=some (.own e::(ji.e r.2).map .v,m')/\bk m' e=some (cF r.1)/\(os.map (·.1)).contains e=false/\∀m0,lY m' (os.map (·.1)) m0=some (q9 m0 (M r))
abbrev FcR.mk'{S:Sys}{T:sP}{δ ε:Type}[bC δ][ji ε]{m:aY (Sl δ×ε)}(fn:FuncId)(az:aX SV)(os:dF)(M:Sl δ×ε->dF)
 (h:Le (m.bind λr=>_j (cF r.1,ji.e r.2,M r)) (bV S (dg S T) (QM (tr T fn) (os.map (·.1))) (.rc (tb T fn),[],start az os)))
 (B:(T fn).isSome=U:=by kernel_rfl)(b:S.E.keep fn=U:=by kernel_rfl)(D:S.E.own fn=O:=by kernel_rfl)(G:(S.prm fn).isNone=U:=by kernel_rfl)(j:ble (W az) (rC (T fn)).na=U:=by kernel_rfl)
 (hp:∀r,((M r).all λx=>within (os.map (·.1)) x.2)=U:=by intro r;kernel_rfl):FcR S (dg S T) m where
 n:=fn
 az:=az
 os:=os
 M:=M
 k:=b
 o:=D
 q:=G
 h r hr:=by have u:=AW B;have a:=h (cF r.1,ji.e r.2,M r) (by rw[hr];rfl);change mh S (dg S T) (QM (rC (T fn)).rs (os.map (·.1))) (rC (T fn)).body [] (start az os)=_j (cF r.1,ji.e r.2,M r)at a;have⟨o,e?,d,g1,g2,g3,g4,g5,g6⟩:=goR a;refine⟨d,e?.m,?_,g5,g4,λw=>back_eq g6 (hp r)⟩;rw[uB u];unfold pP;rw[L' (Nat.le_of_ble_eq_true j),g1];cases o with|exit id=>exact _e Y (g2 id)|norm=>simp only[g3,A?]|ret=>simp only[g3,A?]
section
variable{S:Sys}{c:cg}{β γ:Type}{Q:Out×St->aY β}{e:γ->aY β}{cf:Cf}
end
structure acn(S:Sys)(c:cg){α δ:Type}[bC δ](fn:FuncId)(A:α->List V)(p:α->Option (Sl δ)):Prop where
 k:S.E.keep fn=true
 o:S.E.own fn=false
 q:(S.prm fn).isNone=true
 h:∀z s,p z=some s->∃e m',c fn ((A z).map .v) []=some ([.own e],m')/\bk m' e=some (cF s)
theorem acn.mk'{S:Sys}{T:sP}{α δ:Type}[bC δ](rf:RF){fn:Y'}{A:α->So}{p:α->aY (Sl δ)}(h:∀z,Le (_n (p z) λr=>M (cF r)) (bV S (dg S T) (Hx rf.rs) (.rc rf.body,[],start ((A z).map .v) [])))
 (B:T fn=M rf:=by kernel_rfl)(b:S.E.keep fn=U:=by kernel_rfl)(D:S.E.own fn=O:=by kernel_rfl)(G:(S.prm fn).isNone=U:=by kernel_rfl)(j:∀z,W (A z)<=rf.na:=by intro z;exact Nat.le_of_ble_eq_true (by kernel_rfl)):acn S (dg S T) fn A p where
 k:=b
 o:=D
 q:=G
 h z s u:=by have a:=h z (cF s) (by rw[u];rfl);change mh S (dg S T) (Hx rf.rs) rf.body [] (start ((A z).map .v) [])=M (cF s)at a;have⟨o,e?,d,g1,g2,g3,g4⟩:=goO a;refine⟨d,e?.m,?_,g4⟩;rw[uB B];unfold pP;rw[L' (by simpa using j z),g1];cases o with|exit id=>exact _e Y (g2 id)|norm=>simp only[g3,A?]|ret=>simp only[g3,A?]
theorem L_:∀l:So,SV.um (l.map .v)=[]
 |[]=>rfl|a::l=>by simp only[J?,SV.um,SV.CD,L_ l,a7]
theorem Pu{m:Tb bE}(l:So):handed m (l.map .v)=M []:=by unfold handed;rw[L_];rfl
section
variable{S:Sys}{c:cg}{β γ δ α:Type}[bC δ]{Q:Out×St->aY β}{e:γ->aY β}{cf:Cf}
end
def Uz(s:Nat)(v:SV)(cf:Cf):Cf:=(cf.1,cf.2.1,{cf.2.2 with g:=bH cf.2.2.g s v})
section
variable{S:Sys}{c:cg}{β γ δ:Type}{Q:Out×St->aY β}{e:γ->aY β}{cf:Cf}
theorem dG(n s:Nat){v B:V}(a:v=B){m:aY β}(h:Le m (bV S c Q (Uz s (.v B) (jG S c n cf))))
 (D:(hU S c n cf.1 cf.2.1 cf.2.2).map (λp=>bk p.2.2.g s)=M (M (.v v)):=by kernel_rfl):Le m (bV S c Q cf):=by
 subst a;have⟨p,u,a⟩:=eA D;have b:jG S c n cf=p:=by unfold jG;grind
 rw[b]at h;refine Bo u ?_;have:Uz s (.v v) p=p:=by unfold Uz;rw[sK a]
 rw[this]at h;exact h
end
def dm{α δ:Type}(b:(α->aY δ)->α->aY δ):Nat->α->aY δ
 |0,_=>J|n+1,z=>b (dm b n) z
theorem eP.fix{S:Sys}{c:cg}{α δ:Type}{fn:Y'}{A:α->So}{E:δ->So}{sc:X'}{b:(α->aY δ)->α->aY δ}(a:S.E.keep fn=O)(B:sc=U->∀r,(result (E r)).scalar=U)
 (h:∀r,eP S c fn A E r sc->∀z,Le (_n (b r z) λr=>M (E r)) (gO c fn (A z))):∀n,eP S c fn A E (dm b n) sc
 |0=>⟨a,λ_=>Le.none _,B⟩|n+1=>⟨a,h _ (eP.fix a B h n),B⟩
structure zy(S:Sys)(c:cg){α δ:Type}(fn:FuncId)(A:α->List SV)(O:α->dF)(E:δ->List V)(M:α->δ->dF)(p:α->Option δ):Prop where
 k:S.E.keep fn=true
 o:S.E.own fn=false
 q:(S.prm fn).isNone=true
 h:∀z r,p z=some r->∃m',c fn (A z) (O z)=some ((E r).map .v,m')/\∀m0,lY m' ((O z).map (·.1)) m0=some (q9 m0 (M z r))
abbrev pK.of{S:Sys}{c:cg}{α δ:Type}{fn:FuncId}{A:α->aX SV}{O:α->dF}{E:δ->aX V}{M:α->δ->dF}{p:α->aY δ}(z:α)(F:zy S c fn A O E M p):pK S c (p z):=⟨fn,A z,O z,E,M z,F.k,F.o,F.q,F.h z⟩
theorem zy.fix{S:Sys}{c:cg}{α δ:Type}{fn:Y'}{A:α->Rd}{O:α->dF}{E:δ->So}{M:α->δ->dF}{b:(α->aY δ)->α->aY δ}(k:S.E.keep fn=U)(o:S.E.own fn=_o)(q:(S.prm fn).isNone=U)
 (h:∀r,zy S c fn A O E M r->∀z B,b r z=_j B->∃m',c fn (A z) (O z)=_j ((E B).map .v,m')/\∀D,lY m' ((O z).map (·.1)) D=_j (q9 D (M z B))):∀n,zy S c fn A O E M (dm b n)
 |0=>⟨k,o,q,λ_ _ h=>by cases h⟩|n+1=>⟨k,o,q,h _ (zy.fix k o q h n)⟩
structure Af(S:Sys)(c:cg){α σ:Type}[bC α](cl:SV)(g:FuncId)(e:List SV)(os:σ->dF)(p:α->σ->Option (Bool×σ)):Prop where
 cs:∀vs,mA (cl::vs)=some (g,vs++e)
 hd:∀(s:σ)(a:V),handed (os s) [.v a,cl]=some (os s)
 tk:∀s s',lR (os s') ((os s).map (·.1))=some (os s')
 wi:∀s s',((os s').all λx=>within ((os s).map (·.1)) x.2)=true
 put:∀s s',q9 (os s) (os s')=os s'
 h:∀x s r,p x s=some r->∀(dst:Option Nat)(old:List SV->Bool)(st:St),st.m=os s->fD S c dst false true old g (.v (enc x)::e) st=some (.v (.bool r.1),{st with m:=os r.2})
section
variable{S:Sys}{c:cg}{α σ:Type}[bC α]{g:Y'}
theorem Af.ofP{e:So}{p:α->aY X'}(F:mM S c g [] e (λz:α=>[enc z]) (λr:X'=>[.bool r]) p U):Af S c (.v (.clo g [] e)) g (e.map .v) (λ_:Unit=>[]) (λx u=>(p x).map λb=>(b,u))where
 cs vs:=rfl
 hd s a:=Pu [a,.clo g [] e]
 tk _ _:=rfl
 wi _ _:=rfl
 put _ _:=rfl
 h x s r hr dst old st w:=by obtain⟨b,C,rfl⟩:=ζf.1 hr;have B:gO c g (enc x::e)=M [.bool b]:=F.f.h x [.bool b] (by rw[C];rfl);have e1:{st with m:=([]:dF)}=st:=(by cases st;simp only at w;subst w;rfl);rw[e1];unfold gO at B;have⟨⟨rs,m'⟩,d,D⟩:=ζg.1 B;have f:=F.f.k;unfold fD;have G:dy st.m 8 (.v (enc x)::e.map .v)=M (enc x::e):=x_ 8 (enc x::e);simp only[f,G,d,D,v?,_a,Bool.true_or,N',result,V.scalar]
theorem Af.ofK{e:Rd}{os:σ->dF}{p:α->σ->aY (X'×σ)}[Inhabited α][Inhabited σ](F:∀x s,pK S c (p x s))(G:∀x s,(F x s).n=g:=by intro _ _;kernel_rfl)(j:∀x s,(F x s).az=.v (enc x)::e:=by intro _ _;kernel_rfl)(D:∀x s,(F x s).os=os s:=by intro _ _;kernel_rfl)
 (T:∀x s,(F x s).E=λr=>[.bool r.1]:=by intro _ _;kernel_rfl)(d:∀x s,(F x s).M=λr=>os r.2:=by intro _ _;kernel_rfl)
 (hd:∀s:σ,lR (os s) (reach (os s) 32 (SV.um e) [])=M (os s):=by intro _;kernel_rfl)
 (tk:∀s B,lR (os B) ((os s).map (·.1))=M (os B):=by intro _ _;kernel_rfl)(wi:∀s B,((os B).all λx=>within ((os s).map (·.1)) x.2)=U:=by intro _ _;kernel_rfl)(put:∀s B,q9 (os s) (os B)=os B:=by intro _ _;kernel_rfl):Af S c (.clo g [] e) g e os p where
 cs vs:=rfl
 hd s a:=by have:SV.um [.v a,.clo g [] e]=SV.um e:=(by simp[SV.um,SV.CD]);unfold handed;rw[this];exact hd s
 tk:=tk
 wi:=wi
 put:=put
 h x s r hr dst old st u:=by have⟨m',k1,k2⟩:=(F x s).h r hr;have b:=(F x s).k;have w:=(F x s).o;have z:S.prm (F x s).n=J:=(by have:=(F x s).q;cases I:S.prm (F x s).n with|none=>rfl|some _=>rw[I]at this;cases this);rw[G]at b w z k1;rw[j,D,T]at k1;rw[D,d]at k2;have C:handed st.m (.v (enc x)::e)=M (os s):=(by rw[u];exact hd s);have k2:=k2 (os s);rw[put]at k2;rw[<-u]at k2;unfold fD;rw[u]at C k2⊢;simp only[b,w,z,C,k1,k2,nk,J?,b8,c6,A?,N',Bool.false_and,v?,_a,result]
end
def GL{α σ:Type}(s0:Sl α)(p:α->σ->aY (X'×σ))(q:Int×σ):aY (Fw (Int×σ) σ (Int×σ)):=bg (_r (q.1<len s0)) (_n (idx s0 q.1) λx=>_n (p x q.2) λy=>bg y.1 (M (.r (q.1,y.2))) (M (.n (w? _q (q.1+1),y.2)))) (M (.x q.2))
def UI{α σ:Type}(s0:Sl α)(p:α->σ->aY (X'×σ))(x:σ):aY (Int×σ):=_n (bG (GL s0 p) (0,x)) (Fw.elim (λe=>M (-1,e)) λe=>M e)
def B3{α σ:Type}(s0:Sl α)(p:α->σ->aY (X'×σ))(x:σ):aY (X'×σ):=_n (UI s0 p x) λy=>M (_r (y.1>=0),y.2)
section
variable{S:Sys}{c:cg}{α σ β γ:Type}[bC α]{g:Y'}{Q:Out×St->aY β}{e:γ->aY β}{cf:Cf}
theorem Tr(n:Nat){a:SV}{ex:Rd}{os:σ->dF}{p:α->σ->aY (X'×σ)}(F:Af S c a g ex os p)(x:α)(s:σ){f:X'×σ->aY γ}(h:∀r,p x s=M r->Le ((f r).bind e) (bV S c Q (nx S c n cf λq=>cQ {q.st with m:=os r.2} q.d (.v (.bool r.1)))))
 (B:(fQ S c n cf).map (λq=>(q.k,bU S.N q.st.g q.az,q.dr,q.st.m))=M (.c,M [a,.v (enc x)],O,os s):=by kernel_rfl):Le (((p x s).bind f).bind e) (bV S c Q cf):=by
 have⟨q,w,b⟩:=eA B;simp only[ζc]at b;have⟨d,z,C,D⟩:=b;refine qR w ?_ h;rw[d,C,w_ _ _ _ _ _ _ _ g ([.v (enc x)]++ex) z (F.cs [.v (enc x)])];intro y u;have⟨r,i,u⟩:=ζg.1 u;cases u;have:=F.h x s r i q.d (gb q.st.m q.fr) q.st D;rw[show(!O||q.now)=U from rfl,List.singleton_append,this];rfl
theorem KF{a:SV}{ex:Rd}{os:σ->dF}{p:α->σ->aY (X'×σ)}(F:Af S c a g ex os p){rs:Ps}{st:St}{s B:σ}{ys:So}(b:kY st rs=M (ys.map .v))(D:st.m=os B):HR rs ((os s).map (·.1)) (.ret,st)=M (ys,os B):=by show(_n (kY st rs) λl=>_n (c6 l) λys=>(lR st.m ((os s).map (·.1))).map λos=>(ys,os))=_;rw[b,D,F.tk s B];simp only[ζb,nk,A?]
theorem Ki(n:Nat){b:SV}{ex:Rd}{os:σ->dF}{p:α->σ->aY (X'×σ)}(F:Af S c b g ex os p){rs:Ps}{s B:σ}{r:γ}{e:γ->aY (So×dF)}(ys:So)(D:e r=M (ys,os B))
 (G:(hU S c n cf.1 cf.2.1 cf.2.2).map (λq=>(q.1,kY q.2.2 rs,q.2.2.m))=M (.rt,M (ys.map .v),os B):=by kernel_rfl):Le (_n (M r) e) (bV S c (HR rs ((os s).map (·.1))) cf):=by
 have⟨⟨fo,fs,e?⟩,u,a⟩:=eA G;simp only[ζc]at a;obtain⟨rfl,w,z⟩:=a;refine Bo u (Le.of_eq ?_);show rn S c _ Fo.rt fs e?=e r;rw[D];exact KF F w z
theorem Pa(n:Nat){δ:Type}{m:aY δ}(F:pK S c m)(D:handed F.os F.az=M F.os)(hp:∀x,q9 F.os (F.M x)=F.M x){f:δ->aY γ}(h:∀x,m=M x->Le (_n (f x) e) (bV S c Q (nx S c n cf λp=>cQ {p.st with m:=F.M x} p.d (.v (result (F.E x))))))
 (G:(fQ S c n cf).map (λp=>(p.k,_n (bU S.N p.st.g p.az) mA,p.dr,p.st.m))=M (.c,M (F.n,F.az),O,F.os):=by kernel_rfl):Le (_n (m.bind f) e) (bV S c Q cf):=by
 have⟨p,u,a⟩:=eA G;simp only[ζc]at a;have⟨C,I,d,B⟩:=a;have⟨w,g3,g4⟩:=ζg.1 I;refine qR u ?_ h;rw[C,d,w_ _ _ _ _ _ _ w F.n F.az g3 g4];intro y z;have⟨r,b,z⟩:=ζg.1 z;cases z;have⟨m',k1,k2⟩:=F.h r b;have u:S.prm F.n=J:=by have:=F.q;cases L:S.prm F.n with|none=>rfl|some _=>rw[L]at this;cases this
 have k2:=k2 p.st.m;rw[B,hp]at k2;have:fD S c p.d O (!O||p.now) (gb p.st.m p.fr) F.n F.az p.st=M (.v (result (F.E r)),{p.st with m:=F.M r}):=by unfold fD;rw[B];simp only[F.k,F.o,u,D,k1,k2,nk,N',Bool.not_false,Bool.true_or,Bool.false_and,v?,_a]
 rw[this];rfl
end
section
variable{S:Sys}{c:cg}{β γ δ α:Type}[bC δ]{Q:Out×St->aY β}{e:γ->aY β}{cf:Cf}
theorem XO(n u:Nat){fn:Y'}{A:α->So}{p:α->aY (Sl δ)}(F:vG S c fn A p)(z:α){f:Sl δ->aY γ}
 (h:∀x,(p z).bind Sl.whole=M x->Le ((f x).bind e) (bV S c Q (nx S c n cf λq=>{q.st with g:=bH q.st.g u (.own u),m:=bH q.st.m u (cF x)})))
 (T:(fQ S c n cf).map (λq=>(q.d,q.k,((bU S.N q.st.g q.az).bind mA).bind λr=>(oO (jA q.st.m 8) r.2).map λvs=>(r.1,vs),(!q.dr||q.now),q.st.new u))=M (M u,.c,M (fn,A z),U,U):=by kernel_rfl):Le ((((p z).bind Sl.whole).bind f).bind e) (bV S c Q cf):=by
 have⟨q,b__,b⟩:=eA T;simp only[ζc]at b;have⟨W,X,Y,Z,c__⟩:=b;have⟨⟨B,args⟩,D,g3⟩:=ζg.1 Y;have⟨G,g1,g2⟩:=ζg.1 D;have⟨vs,g4,g5⟩:=ζf.1 g3;simp only[ζc]at g5;obtain⟨rfl,rfl⟩:=g5;refine qR b__ ?_ h;rw[W,X];intro y I;have⟨d,a__,I⟩:=ζg.1 I;cases I;have⟨s,i,C⟩:=ζg.1 a__;have⟨e0,m',j,k⟩:=F.h z s i;rw[w_ q.dr _ _ _ _ _ G B args g1 g2];have L:dy q.st.m 8 args=M (A z):=by rw[(zc q.st.m 8).2];exact g4
 have w:fD S c (M u) q.dr (!q.dr||q.now) (gb q.st.m q.fr) B args q.st=M (.own u,{q.st with m:=bH q.st.m u (cF d)}):=by unfold fD;simp only[F.k,F.o,N',Z,L,j,c6,k,cF,c__];cases s with|nil=>cases C;rfl|emp=>cases C;rfl|row l=>cases C;have:nU (rows l)=U:=(by unfold nU;rw[O?];intro x o;obtain⟨a,_,rfl⟩:=mem_map.1 o;exact F.sc a);simp only[Sl.k,Sl.l,c6,V.c7,this,Bool.and_self,c__,N'];rfl|part l=>cases C
 rw[w];rfl
theorem aci{α:Type}[bC α](n:Nat)(l:aX α)(q:xN)(m?:Rd){m:aY β}(h:Le m (bV S c Q (nx S c n cf λp=>cQ p.st p.d (cv (Sl.row l:Sl α)))))
 (B:(fQ S c n cf).map (λp=>(p.k,bU S.N p.st.g p.az))=M (.p q,M m?):=by kernel_rfl)(D:isSlice q=O:=by rfl)(hp:∀m,kj S.N m q m?=M (cv (Sl.row l:Sl α)):=by intro m;kernel_rfl):Le m (bV S c Q cf):=by
 have⟨p,u,a⟩:=eA B;simp only[ζc]at a;refine uF u ?_ h;rw[a.1];exact Dg a.2 D (hp _)
end
def Qw:Out×St->aY S'
 |(.exit _,_)=>J|(_,st)=>M st.want
def yl(B:S')(more:X')(xs:So):aY (X'×S'):=match B with
 |w::r=>open Classical in if w=xs then M (more|| !r.isEmpty,r)else J|[]=>J
section
variable{S:Sys}{c:cg}{β γ:Type}{Q:Out×St->aY β}{e:γ->aY β}{cf:Cf}
theorem Byl(n:Nat){B:S'}{more:X'}(xs:So){f:X'×S'->aY γ}
 (h:∀r,yl B more xs=M r->Le ((f r).bind e) (bV S c Q (nx S c n cf λq=>cQ {q.st with want:=r.2} q.d (.v (.bool r.1)))))
 (D:(fQ S c n cf).map (λq=>(q.k,bU S.N q.st.g q.az,q.st.want,q.st.more,q.dr))=M (.c,M (.yl ((fQ S c n cf).elim 0 λq=>q.st.yid)::xs.map .v),B,more,O):=by kernel_rfl):Le (((yl B more xs).bind f).bind e) (bV S c Q cf):=by
 have⟨q,C,b⟩:=eA D;simp only[ζc]at b;have⟨d,u,G,I,j⟩:=b;rw[C]at u;refine qR C ?_ h;intro y z;have⟨r,a,z⟩:=ζg.1 z;cases z;unfold yl at a;split at a
 .rename_i w a__;split at a
  next L=>cases a;rw[d,j];unfold gz;have u:bU S.N q.st.g q.az=M (.yl q.st.yid::xs.map .v):=u;simp only[wanted,gI,u,nk,G,L,I,N',and_self,v?,_a]
  cases a
 cases a
theorem WI{S G:Sys}{c:cg}(W:G.E=S.E)(Y:∀f q,S.prm f=M q->oE S.E f q)(e:j7 S c)(i:∀f a b xs,S.items f a b=M xs->fm S f a b xs){f:Y'}{fi:FI}{nm:Y'->aY Nat}{rf:RF}(T:S.E.ft f=M fi)(j:∀g s,nm g=M s->S.N s=g)(l:Ao S.E nm fi rf){a b:So}{xs:S'}(D:_l a+1+_l b<=rf.na)(b__:rf.rs=[])
 (h:∀B more,xX B xs more->∀yid,bV S c Qw (.rc rf.body,[],⟨yf 0 (a.map .v++.yl yid::b.map .v),[],[],B,more,yid⟩)=M []):fm G f a b xs:=by
 have k:fm S f a b xs:=N8 Y e i T j l D b__ (λB more w yid=>by
  have d:=h B more w yid;change mh S c Qw rf.body [] _=M []at d;rw[qE]at d;have⟨⟨o,e?⟩,z,u⟩:=ζg.1 d;refine⟨o,e?,z,?_,?_,_k⟩
  .rintro id rfl;simp[Qw]at u
  cases o<;>simp[Qw]at u<;>exact u)
 have⟨Q,X,m,AQ,prm⟩:=G;simp only at W;subst W;intro B more w yid a__ y Z C I H d z u L c__;exact k B more w yid a__ ⟨y.zK,y.yield⟩ Z C I H d z u L c__
end
section
variable{S:Sys}{c:cg}{β γ α:Type}[bC α]{Q:Out×St->aY β}{e:γ->aY β}{cf:Cf}
theorem Ku(n u:Nat){s:Sl α}{i:Nat}{a:α}{f:Sl α->aY γ}(h:∀B,s.put i a=M B->Le ((f B).bind e) (bV S c Q (nx S c n cf λp=>cQ {p.st with m:=bH p.st.m u (cF B)} p.d (.v .undef))))
 (D:(fQ S c n cf).map (λp=>(p.k,bU S.N p.st.g p.az,bk p.st.m u,(!p.dr||p.now)))=M (.l (.store (bC.size α)),M [.el u i 0,cv a],M (cF s),U):=by kernel_rfl):Le (((s.put i a).bind f).bind e) (bV S c Q cf):=by
 have⟨p,w,b⟩:=eA D;simp only[ζc]at b;refine qR w ?_ h;rw[b.1];exact Le.of_eq (OY b.2.1 b.2.2.2 b.2.2.1 (pF a) rfl)
end
theorem vG.fix{S:Sys}{c:cg}{α δ:Type}[bC δ]{fn:Y'}{A:α->So}{b:(α->aY (Sl δ))->α->aY (Sl δ)}(k:S.E.keep fn=U)(o:S.E.own fn=U)(sc:∀x:δ,(cells x).all V.scalar=U)
 (h:∀r,vG S c fn A r->∀z s,b r z=M s->∃e m',c fn ((A z).map .v) []=M ([.own e],m')/\bk m' e=M (cF s)):∀n,vG S c fn A (dm b n)
 |0=>⟨k,o,λ_ _ h=>(by cases h),sc⟩|n+1=>⟨k,o,h _ (vG.fix k o sc h n),sc⟩
def P_(rs:Ps):Out×St->aY (V×bE×So)
 |(.exit _,_)=>J|(_,st)=>_n (kY st rs) λl=>match l with
  |.v p::.own d::r=>_n (bk st.m d) λob=>(c6 r).map λys=>(p,ob,ys)|_=>J
theorem goP{S:Sys}{c:cg}{rs:Ps}{a:RC}{st:St}{p:V}{ob:bE}{ys:So}(h:mh S c (P_ rs) a [] st=M (p,ob,ys)):∃o e? d,cI S c a st=M (o,e?)/\(∀id,o≠.exit id)/\kY e? rs=M (.v p::.own d::ys.map .v)/\bk e?.m d=M ob:=by
 rw[qE]at h;have⟨⟨o,e?⟩,b,u⟩:=ζg.1 h;have z:∀id,o≠.exit id:=by rintro id rfl;simp[P_]at u
 have B:_n (kY e? rs) (λl=>match l with|.v p::.own d::r=>_n (bk e?.m d) λob=>(c6 r).map λys=>(p,ob,ys)|_=>J)=M (p,ob,ys):=by cases o with|exit id=>exact _e Y (z id)|norm=>exact u|ret=>exact u
 have⟨l,C,w⟩:=ζg.1 B;split at w;have⟨D,G,I⟩:=ζg.1 w;have⟨q,j,L⟩:=ζf.1 I;cases L;exact⟨o,e?,_,b,z,by rw[C,A5 j],G⟩;cases w
structure FcP(S:Sys)(c:cg){α δ ε:Type}[bC δ][ji ε](E1:α->V)(m:Option (α×Sl δ×ε))where
 n:FuncId
 az:List V
 k:S.E.keep n=true
 o:S.E.own n=false
 q:(S.prm n).isNone=true
 h:∀r,m=some r->∃e m',c n (az.map .v) []=some (.v (E1 r.1)::.own e::(ji.e r.2.2).map .v,m')/\bk m' e=some (cF r.2.1)
abbrev FcP.mk'{S:Sys}{T:sP}{α δ ε:Type}[bC δ][ji ε]{E1:α->V}{m:aY (α×Sl δ×ε)}(fn:FuncId)(az:aX V)
 (h:Le (m.bind λr=>M (E1 r.1,cF r.2.1,ji.e r.2.2)) (bV S (dg S T) (P_ (tr T fn)) (.rc (tb T fn),[],start (az.map .v) [])))
 (B:(T fn).isSome=U:=by kernel_rfl)(b:S.E.keep fn=U:=by kernel_rfl)(D:S.E.own fn=O:=by kernel_rfl)(G:(S.prm fn).isNone=U:=by kernel_rfl)(j:ble (W az) (rC (T fn)).na=U:=by kernel_rfl):FcP S (dg S T) E1 m where
 n:=fn
 az:=az
 k:=b
 o:=D
 q:=G
 h r hr:=by have u:=AW B;have a:=h (E1 r.1,cF r.2.1,ji.e r.2.2) (by rw[hr];rfl);change mh S (dg S T) (P_ (rC (T fn)).rs) (rC (T fn)).body [] (start (az.map .v) [])=M (E1 r.1,cF r.2.1,ji.e r.2.2)at a;have⟨o,e?,d,g1,g2,g3,g4⟩:=goP a;refine⟨d,e?.m,?_,g4⟩;rw[uB u];unfold pP;rw[L' (by simpa using Nat.le_of_ble_eq_true j),g1];cases o with|exit id=>exact _e Y (g2 id)|norm=>simp only[g3,A?]|ret=>simp only[g3,A?]
section
variable{S:Sys}{c:cg}{β γ:Type}{Q:Out×St->aY β}{e:γ->aY β}{cf:Cf}
end
section
variable{α:Type}[bC α]
abbrev Bb(s:Sl (Sl α)):bE:=.dp s.k (rows s.l) J
abbrev On(s:Sl (Sl α))(i:Int)(t:Nat):bE:=.dp s.k (rows s.l) (M (i.toNat,t))
def qW(s:Sl (Sl α))(i:Int)(x:Sl α):Sl (Sl α):=match s with
 |.row l=>.row (l.set i.toNat x)|.part l=>.part (l.set i.toNat x)|s=>s
theorem acp:_n (idx (Sl.row [(Sl.nil:Sl α)]) 0) Sl.whole=M .nil:=rfl
theorem N7(s:Sl (Sl α))(i:Int)(x:Sl α):(qW s i x).l=s.l.set i.toNat x/\(qW s i x).k=s.k:=by cases s<;>simp[qW,Sl.l,Sl.k]
theorem HO{s:Sl (Sl α)}{i:Int}{y:Sl α}(h:_n (idx s i) Sl.whole=M y):0<=i/\s.l[i.toNat]?=M y/\y.k≠.part/\b7 s.k=U/\i.toNat<W s.l:=by
 have⟨z,a,u⟩:=ζg.1 h;unfold idx at a;split at a
 .rename_i hi;have w:=(ζe.1 a).1;have b:b7 s.k=U:=(by cases s<;>first|rfl|(simp[Sl.l]at w));cases z with|part l=>cases u|nil=>cases u;exact⟨hi,a,by simp[Sl.k],b,w⟩|emp=>cases u;exact⟨hi,a,by simp[Sl.k],b,w⟩|row l=>cases u;exact⟨hi,a,by simp[Sl.k],b,w⟩
 cases a
theorem RP{y:Sl α}(h:y.k≠.part):XV (bC.size α) (cells y)=M (cF y):=by cases y with|nil=>rfl|emp=>rfl|row l=>simp[WX,ct,lJ,Sl.k,Sl.l,XV,cF]|part l=>exact _e Y h
end
def MD(fo:Fo)(fs:QQ):aY (Gh×Fo×QQ):=match fo,fs with
 |.rc (.gh g a),fs=>M (g,.rc a,fs)|.ops O fr (⟨d,gd,now,k,az,dd,x::u⟩::r),fs=>M (x,.ops O fr (⟨d,gd,now,k,az,dd,u⟩::r),fs)|.nx,.gst g::fs=>M (g,.nx,fs)|_,_=>J
def Rn(st:St)(l:Loc):PH:=match PD st l with
 |some (.v (.int _ i))=>M i|_=>J
theorem Ye{st:St}{x:Loc}{i:Int}(h:Rn st x=M i)(a:0<=i):Wy st x=M i.toNat:=by
 unfold Rn at h;unfold Wy;split at h;next b=>cases h;simp only[b,L' a]
 cases h
def gx(S:Sys)(c:cg)(n:Nat)(cf:Cf)(φ:St->St):Cf:=match hU S c n cf.1 cf.2.1 cf.2.2 with
 |some (fo,fs,st)=>match MD fo fs with
  |some (_,u,n?)=>(u,n?,φ st)|none=>cf
 |none=>cf
section
variable{S:Sys}{c:cg}{β γ δ α:Type}[bC α]{Q:Out×St->aY β}{e:γ->aY β}{cf:Cf}
theorem Bgh{n:Nat}{m:aY β}{φ:St->St}{g:Gh}{fo fo':Fo}{fs n?:QQ}{st:St}(a:hU S c n cf.1 cf.2.1 cf.2.2=M (fo,fs,st))(B:MD fo fs=M (g,fo',n?))(D:ghost g st=M (φ st))
 (h:Le m (bV S c Q (gx S c n cf φ))):Le m (bV S c Q cf):=by
 refine Bo a ?_;have u:yP S c fo fs st=M (fo',n?,φ st):=by unfold MD at B;split at B<;>cases B<;>simp[yP,D]
 show Le m (rn S c Q fo fs st);rw[KL u];simpa[gx,a,B]using h
theorem RZ{n:Nat}{α:Type}{φ:Gh->St->α}{a:α}(h:_n (hU S c n cf.1 cf.2.1 cf.2.2) (λp=>(MD p.1 p.2.1).map λq=>φ q.1 p.2.2)=M a):
 ∃fo fs st g fo' n?,hU S c n cf.1 cf.2.1 cf.2.2=M (fo,fs,st)/\MD fo fs=M (g,fo',n?)/\φ g st=a:=by
 have⟨⟨fo,fs,st⟩,b,u⟩:=ζg.1 h;have⟨⟨g,fo',n?⟩,w,z⟩:=ζf.1 u;exact⟨fo,fs,st,g,fo',n?,b,w,z⟩
theorem Tk(n d t:Nat)(x:Loc){s:Sl (Sl α)}{i:Int}{f:Sl α->aY γ}(h:∀y,(idx s i).bind Sl.whole=M y->Le ((f y).bind e) (bV S c Q (gx S c n cf λst=>{st with m:=bH (bH st.m d (On s i t)) t (cF y)})))
 (B:(hU S c n cf.1 cf.2.1 cf.2.2).bind (λp=>(MD p.1 p.2.1).map λq=>(q.1,bk p.2.2.m d,Rn p.2.2 x,p.2.2.new t))=M (.take d x (bC.size α) t,M (Bb s),M i,U):=by kernel_rfl):Le ((((idx s i).bind Sl.whole).bind f).bind e) (bV S c Q cf):=by
 cases u:(idx s i).bind Sl.whole with
 |none=>exact Le.none _|some y=>
  have⟨fo,fs,st,g,z,n?,a,C,w⟩:=RZ (φ:=λg st=>(g,bk st.m d,Rn st x,st.new t)) B
  simp only[ζc]at w;obtain⟨rfl,D,G,I⟩:=w;have⟨g1,g2,g3,g4,g5⟩:=HO u;refine Bgh a C ?_ (h y u);show D1 d x (bC.size α) t st=_;unfold D1;rw[D,Ye G g1];simp only[g4,I,and_self,N'];have:(rows s.l)[i.toNat]?=M (cells y):=by rw[rows,k!,g2];rfl
  rw[this,ζb,RP g3];rfl
theorem Rj(n d t:Nat){s:Sl (Sl α)}{i:Int}{y D:Sl α}(a:(idx s i).bind Sl.whole=M D){f:Sl α->aY γ}(h:∀z,y.whole=M z->Le ((f z).bind e) (bV S c Q (gx S c n cf λst=>{st with m:=bH (dz t st.m) d (Bb (qW s i z))})))
 (G:(hU S c n cf.1 cf.2.1 cf.2.2).bind (λp=>(MD p.1 p.2.1).map λq=>(q.1,bk p.2.2.m d,bk p.2.2.m t,beq t d))=M (.put d,M (On s i t),M (cF y),O):=by kernel_rfl):Le (((y.whole).bind f).bind e) (bV S c Q cf):=by
 cases w:y.whole with
 |none=>exact Le.none _|some z=>
  have⟨fo,fs,st,g,C,n?,b,I,B⟩:=RZ (φ:=λg st=>(g,bk st.m d,bk st.m t,beq t d)) G
  simp only[ζc]at B;obtain⟨rfl,a__,L,b__⟩:=B;have⟨g1,g2,g3,g4,g5⟩:=HO a;have T:z=y/\y.k≠.part:=by cases y<;>cases w<;>exact⟨rfl,by simp[Sl.k]⟩
  obtain⟨rfl,j⟩:=T;refine Bgh b I ?_ (h z w);show HD d st=_;have u:t≠d:=λe=>by subst e;simp at b__
  unfold HD;rw[a__];simp only[L,cF,ne_eq,j,not_false_eq_true,u,g4,and_self,N'];have:(rows s.l).set i.toNat [lJ z.k (bC.size α) (rows z.l)]=rows (qW s i z).l:=by rw[(N7 s i z).1];simp[rows,map_set];rfl
  rw[this,<-(N7 s i z).2]
theorem abC(n d t:Nat)(k:T2){s:Sl (Sl α)}{i:Int}{y:Sl α}(b:_n (idx s i) Sl.whole=M y){m:aY β}(h:Le m (bV S c Q (nx S c n cf λp=>cQ p.st p.d (.el d i.toNat 0))))
 (B:(fQ S c n cf).map (λp=>(p.k,bU S.N p.st.g p.az,bk p.st.m d))=M (.p (.idxS 1),M [.own d,.v (.int k i)],M (On s i t)):=by kernel_rfl):Le m (bV S c Q cf):=by
 have⟨p,u,a⟩:=eA B;simp only[ζc]at a;have⟨g1,g2,g3,g4,g5⟩:=HO b;refine uF u ?_ h;rw[a.1,PX _ _ _ _ _ _ _ Y,a.2.1,ζb,OA,a.2.2];simp[LQ,g1,g4,g5,gw]
theorem aa_(n d t:Nat){s:Sl (Sl α)}{i:Int}{y:Sl α}(b:_n (idx s i) Sl.whole=M y){m:aY β}(h:Le m (bV S c Q (nx S c n cf λp=>cQ p.st p.d (.own t))))
 (B:(fQ S c n cf).map (λp=>(p.k,bU S.N p.st.g p.az,bk p.st.m d,(!p.dr||p.now||fA p.fr [.el d i.toNat 0])))=M (.r (.load 1 O),M [.el d i.toNat 0],M (On s i t),U):=by kernel_rfl):Le m (bV S c Q cf):=by
 have⟨p,u,a⟩:=eA B;simp only[ζc]at a;refine uF u ?_ h;rw[a.1,BN,a.2.1,ζb,a.2.2.2,L' Y,XA,a.2.2.1];simp[Gq]
theorem aeC(n u t:Nat){m:aY β}(h:Le m (bV S c Q (nx S c n cf λp=>{p.st with g:=bH p.st.g u (.own u),m:=bH p.st.m u (On (Sl.row [(Sl.nil:Sl α)]) 0 t)})))
 (B:(fQ S c n cf).map (λp=>(p.d,p.k,bU S.N p.st.g p.az,p.st.new u,(bk p.st.m t).isSome))=M (M u,.a (.buildSl 1 1 [.bN] [0]),M [.own t],U,U):=by kernel_rfl):Le m (bV S c Q cf):=by
 have⟨p,w,a⟩:=eA B;simp only[ζc]at a;refine uF w ?_ h;rw[a.1,a.2.1,zX,a.2.2.1,ζb,L' a.2.2.2.1];have:oB p.st.m (.buildSl 1 1 [.bN] [0]) [.own t] u=M (On (.row [(.nil:Sl α)]) 0 t,.own u):=by unfold oB;simp only[c6,and_self,true_and];rw[L' a.2.2.2.2];rfl
 rw[this];rfl
theorem adq(n d u t:Nat){s:Sl (Sl α)}{x:Sl α}{f:Sl (Sl α)->aY γ}(h:∀B,d_ s x=M B->Le ((f B).bind e) (bV S c Q (nx S c n cf λp=>{p.st with g:=bH p.st.g t (.own t),m:=bH (dz u (dz d p.st.m)) t (Bb B)})))
 (D:(fQ S c n cf).map (λp=>(p.d,p.k,bU S.N p.st.g p.az,bk p.st.m d,bk p.st.m u,(!p.dr||p.now),beq d u,St.new {p.st with m:=dz u (dz d p.st.m)} t))=M (M t,.l (.append 1),M [.own d,.own u],M (Bb s),M (Bb (.row [x])),U,O,U):=by kernel_rfl):Le (((d_ s x).bind f).bind e) (bV S c Q cf):=by
 have⟨p,G,a⟩:=eA D;simp only[ζc]at a;have⟨I,j,L,z,C,y,T,q⟩:=a;have w:d≠u:=λe=>by subst e;simp at T
 refine qR G ?_ h;rw[I,j,yR,L,ζb,y,L' rfl];have:mZ p.st (M t) (.append 1) [.own d,.own u]=CZ p.st (M t) 1 (.own d) (.own u):=by unfold mZ;simp[jC,z,C]
 have W:rows (Sl.row [x]).l≠[]:=by simp[Sl.l,rows]
 have Y:(rows (Sl.row [x]).l).length=1:=rfl;have b:rows s.l++rows (Sl.row [x]).l=rows (s.l++[x]):=by simp[rows,Sl.l]
 have X:CZ p.st (M t) 1 (.own d) (.own u)=(d_ s x).bind λB=>M (.own t,{p.st with m:=bH (dz u (dz d p.st.m)) t (Bb B)}):=by simp only[CZ,z,C,d_,Bb];rw[show(Sl.row [x]).k=.row from rfl];simp only[true_and,ne_eq,w,not_false_eq_true,W,gw,show(Sl.row [x]).l.length=1 from rfl,q,N',b];by_cases h:s.l.length+1<=2147483648;rw[L' h,L' h];rfl;rw[M' h,M' h];rfl
 rw[this,X]
 cases d_ s x with
 |none=>exact Le.none _|some B=>exact Le.of_eq rfl
end
theorem Xm{n:Int}(B:0<=n)(h:n<=4611686018427387904):w? _q n=n:=by simp[w?,IntKind.bits,l'];omega
namespace catX
instance{n:Nat}:OfNat Arg n:=⟨.s n⟩
def ln:K:=.p .lenSl
def ix:K:=.p (.idxS 1)
def bI(o:BinOp):K:=.p (.bin (M .int) J o)
def ld:K:=.r (.load 1 O)
def g1:R0:=[o1 4 (.k (.bN)) []]
def g2:R0:=[o1 5 1 [],o2 6 (bI .lss) [5,.k (.int _q 0)] []]
def g3:R0:=[o2 7 (.p (.bad)) [] [],⟨J,J,O,.p .bad,[],[],[]⟩]
def g4:R0:=[o1 8 1 [],o1 9 0 [],o2 10 (.p (.capSl)) [9] [],o1 11 0 [],o2 12 ln [11] [],o2 13 (bI .sub) [10,12] [],o2 14 (bI .sub) [8,13] [],o1 1 14 []]
def g5:R0:=[o1 15 1 [],o2 16 (bI .gtr) [15,.k (.int _q 0)] []]
def g6:R0:=[o1 17 0 [],o1 18 0 [],o2 19 (.p (.capSl)) [18] [],o2 20 (.p (.slice 1 O U)) [17,19] [],o1 21 1 [],o2 22 (.l (.appMk 1 24 [.bN])) [20,21] [],o1 23 0 [],o2 24 ln [23] [],o2 25 (.p (.slice 1 O U)) [22,24] [],o1 0 25 []]
def g7:R0:=[o1 26 0 [],o1 4 26 []]
def grow:RC:=.seq (.ops g1) (.seq (.seq (.ops g2) (.cond (.s 6) (.ops g3) (.skip))) (.seq (.seq (.ops g4) (.seq (.ops g5) (.cond (.s 16) (.ops g6) (.skip)))) (.seq (.ops g7) (.ret))))
section
variable{E:Env}{N:Nat->Y'}{t:Nat}
attribute [local simp] dN lG gj bT mO uu oT uD bI ln
theorem Yb(q:t<=2147483648):∃F',Ex E N grow [.bN,.int _q t] [] .ret F' (if t=0 then[]else[.row 1 (replicate t [.bN])])/\get F' 4=if t=0 then .bN else .hsl 0 1 0 0:=by
 have e1:∀call,dN E N call J g1 [.bN,.int _q t] []=M (set [.bN,.int _q t] 4 .bN,[]):=λcall=>vp (v:=.bN) Y (by simp[lG,gj,bT]) yo;have k0:get (set [V.bN,.int _q t] 4 .bN) 0=.bN:=rfl;have k1:get (set [V.bN,.int _q t] 4 .bN) 1=.int _q t:=rfl;generalize set [V.bN,.int _q t] 4 .bN=G at *;have e2:∃F1,(∀call,dN E N call J g2 G []=M (F1,[]))/\get F1 6=.bool O/\get F1 0=.bN/\get F1 1=.int _q t:=by exact⟨_,λcall=>by simp[g2,k1];rfl,f?,by simp[k0],by simp[k1]⟩
 have⟨F1,a1,a2,a3,a4⟩:=e2;have e4:∃z,(∀call,dN E N call J g4 F1 []=M (z,[]))/\get z 0=.bN/\get z 1=.int _q t:=by exact⟨_,λcall=>by simp[g4,a3,a4,LK,qF,Xm (n:=t) c? c?,show w? _q 0=0 from by decide];rfl,by simp[a3],f?⟩
 have⟨z,I,S,d⟩:=e4;have e5:∃u,(∀call,dN E N call J g5 z []=M (u,[]))/\get u 16=.bool (_r (t>0))/\get u 0=.bN/\get u 1=.int _q t:=by exact⟨_,λcall=>by simp[g5,d];rfl,f?,by simp[S],by simp[d]⟩
 have⟨u,L,j,Q,T⟩:=e5;have c:Ex E N (.seq (.ops g2) (.cond (.s 6) (.ops g3) (.skip))) G [] .norm F1 []:=Ex.seq (Ex.ez a1) (Ex.xd a2 Ex.skip);have e7:∀(F:WP)(H:bl),∃F',(∀call,dN E N call J g7 F H=M (F',H))/\get F' 4=get F 0:=λF H=>⟨_,λcall=>by simp[g7];rfl,f?⟩
 by_cases B:t=0;subst B;have⟨D,a,b⟩:=e7 u [];refine⟨D,?_,by rw[b,Q];rfl⟩;exact Ex.seq (Ex.ez e1) (Ex.seq c (Ex.seq (Ex.seq (Ex.ez I) (Ex.seq (Ex.ez L) (Ex.xd j Ex.skip))) (Ex.seq (Ex.ez a) Ex.ret)));have w:0<t:=c?;have e6:∃C,(∀call,dN E N call J g6 u []=M (C,[.row 1 (replicate t [.bN])]))/\get C 0=.hsl 0 1 0 0:=by exact⟨_,λcall=>by simp[g6,Q,T,LK,qF,oS,jF,ec,fI,mkApp,w,B,show(t:Int)<=2147483648 from c?];rfl,f?⟩
 have⟨C,h,y⟩:=e6;have⟨D,a,b⟩:=e7 C [.row 1 (replicate t [.bN])];rw[M' B,M' B];refine⟨D,?_,by rw[b,y]⟩;exact Ex.seq (Ex.ez e1) (Ex.seq c (Ex.seq (Ex.seq (Ex.ez I) (Ex.seq (Ex.ez L) (Ex.uc (by show get u 16=_;rw[j,_c w]) (Ex.ez h)))) (Ex.seq (Ex.ez a) Ex.ret)))
end
end catX
def EF{α:Type}(s:Sl (Sl α)):Sl α:=if(s.l.flatMap Sl.l).length=0 then .nil else .row (s.l.flatMap Sl.l)
namespace catX
def r1:R0:=[o1 2 (.k (.bN)) []]
def r2:R0:=[o1 3 (.k (.int _q 0)) []]
def r3:R0:=[o1 9 0 [],o2 10 ln [9] [],o1 11 (.k (.int _q 0)) []]
def r4:R0:=[o2 12 (bI .lss) [11,10] []]
def r5:R0:=[o2 13 ix [9,11] [],o2 14 ld [13] [],o1 5 14 []]
def r6:R0:=[o1 15 3 [],o1 16 5 [],o2 17 ln [16] [],o2 18 (bI .add) [15,17] [],o1 3 18 []]
def r7:R0:=[o1 19 3 [],o2 20 (bI .lss) [19,.k (.int _q 0)] []]
def r8:R0:=[o2 21 (.p (.bad)) [] [],⟨J,J,O,.p .bad,[],[],[]⟩]
def r9:R0:=[o2 22 (bI .add) [11,.k (.int _q 1)] [],o1 11 22 []]
def L9:RC:=.seq (.ops r4) (.seq (.cond (.s 12) (.skip) (.exit 0)) (.seq (.block 1 (.seq (.ops r5) (.seq (.ops r6) (.seq (.ops r7) (.cond (.s 20) (.ops r8) (.skip)))))) (.ops r9)))
def KX(gid:Nat):R0:=[o1 23 3 [],o2 24 .c [.f gid,.k (.bN),23] [],o1 6 24 []]
def K4:R0:=[o1 25 0 [],o2 26 ln [25] [],o1 27 (.k (.int _q 0)) []]
def LY:R0:=[o2 28 (bI .lss) [27,26] []]
def LS:R0:=[o2 29 ix [25,27] [],o2 30 ld [29] [],o1 8 30 []]
def M5:R0:=[o1 31 6 [],o1 32 8 [],o2 33 (.l (.append 1)) [31,32] [],o1 6 33 []]
def Ln:R0:=[o2 34 (bI .add) [27,.k (.int _q 1)] [],o1 27 34 []]
def L15:RC:=.seq (.ops LY) (.seq (.cond (.s 28) (.skip) (.exit 2)) (.seq (.block 3 (.seq (.ops LS) (.ops M5))) (.ops Ln)))
def r16:R0:=[o1 35 6 [],o1 2 35 []]
def cat(gid:Nat):RC:=.seq (.ops r1) (.seq (.ops r2) (.seq (.seq (.ops r3) (.block 0 (.loop L9))) (.seq (.ops (KX gid)) (.seq (.seq (.ops K4) (.block 2 (.loop L15))) (.seq (.ops r16) (.ret))))))
section
variable{E:Env}{N:Nat->Y'}{F:WP}{H:bl}{α:Type}[bC α]{s:Sl (Sl α)}{i:Nat}
theorem el{u:Sl α}(h:s.l[i]?=M u):nL 1 (ct s) (i:Int)=M (.fptr [ct u]):=by have:=OG (N:=λn=>n) s _q (i:Int) 1 rfl;simp only[bT]at this;rw[this,show idx s (i:Int)=M u from by unfold idx;grind];rfl
theorem lnS(s:Sl α):qF (ct s)=M (.int _q (W s.l)):=by have:=KR (N:=λn=>n) s;simpa only[bT]using this
attribute [local simp] dN lG gj bT mO uu oT uD lnS bI ln ix ld
theorem y3:(get F 0=ct s->∃F',(∀call,dN E N call J r3 F H=M (F',H))/\get F' 9=ct s/\get F' 10=.int _q (W s.l)/\get F' 11=.int _q 0/\∀j,j<9->get F' j=get F j)/\
 (get F 0=ct s->∃F',(∀call,dN E N call J K4 F H=M (F',H))/\get F' 25=ct s/\get F' 26=.int _q (W s.l)/\get F' 27=.int _q 0/\∀j,j<9->get F' j=get F j):=by
 refine⟨λa=>⟨_,λcall=>by simp[r3,a];rfl,?_⟩,λa=>⟨_,λcall=>by simp[K4,a];rfl,?_⟩⟩<;>
  (simp;grind)
theorem y4{n:Nat}:(get F 11=.int _q i->get F 10=.int _q n->∃F',(∀call,dN E N call J r4 F H=M (F',H))/\get F' 12=.bool (_r (i<n))/\∀j,j<12->get F' j=get F j)/\
 (get F 27=.int _q i->get F 26=.int _q n->∃F',(∀call,dN E N call J LY F H=M (F',H))/\get F' 28=.bool (_r (i<n))/\∀j,j<28->get F' j=get F j):=by
 refine⟨λf u=>⟨_,λcall=>by simp[r4,f,u];rfl,?_⟩,λf u=>⟨_,λcall=>by simp[LY,f,u];rfl,?_⟩⟩<;>
  (simp;grind)
theorem y5{u:Sl α}(h:s.l[i]?=M u):(get F 9=ct s->get F 11=.int _q i->∃F',(∀call,dN E N call J r5 F H=M (F',H))/\get F' 5=ct u/\∀j,j<12->j≠5->get F' j=get F j)/\
 (get F 25=ct s->get F 27=.int _q i->∃F',(∀call,dN E N call J LS F H=M (F',H))/\get F' 8=ct u/\∀j,j<28->j≠8->get F' j=get F j):=by
 have e:=el h;have e2:fS H (.load 1 O) [.fptr [ct u]]=M (ct u):=by simp[fS,fh,cut,mk]
 refine⟨λf w=>⟨_,λcall=>by simp[r5,f,w,e,e2];rfl,?_⟩,λf w=>⟨_,λcall=>by simp[LS,f,w,e,e2];rfl,?_⟩⟩<;>
  (simp;grind)
theorem y6{u:Sl α}{t:Nat}(B:get F 3=.int _q t)(a:get F 5=ct u)(D:t+W u.l<=2147483648):∃F',(∀call,dN E N call J r6 F H=M (F',H))/\get F' 3=.int _q ((t+W u.l:Nat):Int)/\∀j,j<12->j≠3->get F' j=get F j:=by
 have w:w? _q ((t:Int)+(W u.l:Int))=((t+W u.l:Nat):Int):=by rw[Xm c? c?];simp
 refine⟨_,λcall=>by simp[r6,B,a,w];rfl,f?,?_⟩;simp;grind
theorem y7{t:Nat}(B:get F 3=.int _q t):∃F',(∀call,dN E N call J r7 F H=M (F',H))/\get F' 20=.bool O/\∀j,j<12->get F' j=get F j:=by refine⟨_,λcall=>by simp[r7,B];rfl,f?,?_⟩;simp;grind
theorem y9(a:i<=2147483648):(get F 11=.int _q i->∃F',(∀call,dN E N call J r9 F H=M (F',H))/\get F' 11=.int _q ((i+1:Nat):Int)/\∀j,j<11->get F' j=get F j)/\
 (get F 27=.int _q i->∃F',(∀call,dN E N call J Ln F H=M (F',H))/\get F' 27=.int _q ((i+1:Nat):Int)/\∀j,j<27->get F' j=get F j):=by
 have u:=RR a;refine⟨λf=>⟨_,λcall=>by simp[r9,f,u];rfl,?_⟩,λf=>⟨_,λcall=>by simp[Ln,f,u];rfl,?_⟩⟩<;>
  (simp;grind)
structure Acc(H:bl)(w:V)(acc:List (List V)):Prop where
 el:dO H 1 w=some acc
 gr:∃H1,iz H w=some H1/\H1.length=H.length
 sh:w=.bN/\acc=[]\/∃id xs,w=.hsl id 1 0 acc.length/\H[id]?=some (.row 1 xs)/\(acc≠[]->xs=acc)
theorem ZR(H:bl)(u:Sl α)(a:bC.size α=1):dO H 1 (ct u)=M (rows u.l):=by cases u<;>simp[ct,Sl.k,Sl.l,lJ,dO,rows,a]
theorem y14{w:V}{b:S'}{u:Sl α}(f:bC.size α=1)(a:Acc H w b)(f6:get F 6=w)(D:get F 8=ct u)(h:W b+W u.l<=2147483648):
 ∃F' H' w',(∀call,dN E N call J M5 F H=M (F',H'))/\get F' 6=w'/\Acc H' w' (b++rows u.l)/\(u.l=[]->w'=w)/\∀j,j<28->j≠6->get F' j=get F j:=by
 have c:=ZR H u f;have C:W (rows u.l)=W u.l:=by simp[rows]
 have key:∃H' w',fI H (.append 1) [w,ct u]=M (w',H')/\Acc H' w' (b++rows u.l)/\(u.l=[]->w'=w):=by have⟨H1,g1,g2⟩:=a.gr;cases d:rows u.l with|nil=>exact⟨H,w,by simp only[fI,a.el,c,d],h?,λ_=>rfl⟩|cons y B=>have G:W b+W (y::B)<=2147483648:=h?;refine⟨H1++[.row 1 (b++y::B)],.hsl (W H) 1 0 (W b+W (y::B)),by simp only[fI,a.el,c,d];grind,?_⟩;have z:(H1++[Ob.row 1 (b++y::B)])[W H]?=M (.row 1 (b++y::B)):=h?;refine⟨⟨?_,⟨_,by simp only[iz,z];rfl,f?⟩,.inr ⟨W H,b++y::B,f?,z,λ_=>rfl⟩⟩,λe=>h?⟩;simp only[dO,z,ζb,Ob.rows,N',d7,List.drop_zero];grind
 have⟨H',w',k1,k2,k3⟩:=key;refine⟨_,H',w',λcall=>by simp[M5,f6,D,k1];rfl,f?,k2,k3,?_⟩
 simp;grind
def upto(s:Sl (Sl α))(i:Nat):aX α:=(s.l.take i).flatMap Sl.l
theorem Ir{u:Sl α}(h:s.l[i]?=M u):upto s (i+1)=upto s i++u.l:=by unfold upto;obtain⟨a,rfl⟩:=ζe.1 h;rw[List.take_succ_eq_append_getElem a,List.flatMap_append];simp
theorem Om(s:Sl (Sl α))(i:Nat):W (upto s i)<=W (s.l.flatMap Sl.l):=by
 have:s.l.flatMap Sl.l=upto s i++(s.l.drop i).flatMap Sl.l:=by unfold upto;rw[<-List.flatMap_append,List.take_append_drop]
 grind
theorem lp1(l:_l s.l<=2147483648)(m:_l (s.l.flatMap Sl.l)<=2147483648):∀(d i:Nat)(F:WP),i+d=_l s.l->get F 9=ct s->get F 10=.int _q (_l s.l)->get F 11=.int _q i->get F 3=.int _q (_l (upto s i))->
 ∃F',tL E N L9 F H (.exit 0) F' H/\get F' 3=.int _q (_l (s.l.flatMap Sl.l))/\get F' 0=get F 0:=by
 intro d
 induction d with
 |zero=>
  intro i F e L w z D;have⟨F1,a1,a2,a3⟩:=(y4 (E:=E) (N:=N) (H:=H) (n:=_l s.l)).1 z w;refine⟨F1,tL.stop (Ex.seq (Ex.ez a1) (Ex.Bu (Ex.xd (by show get F1 12=_;grind) Ex.exit) f?)) f?,?_,a3 0 c?⟩
  rw[a3 3 c?,D]
  have:upto s i=s.l.flatMap Sl.l:=by unfold upto;grind
  simp_all
 |succ d a__=>
  intro i F e L w z D;have⟨F1,a1,a2,a3⟩:=(y4 (E:=E) (N:=N) (H:=H) (n:=_l s.l)).1 z w;have b:s.l[i]?=M s.l[i]:=ζd c?
  have⟨Q,S,T,y⟩:=(y5 (E:=E) (N:=N) (F:=F1) (H:=H) b).1 h? h?
  have C:=Om s (i+1);have G:=Ir b;rw[G,ζi]at C;have⟨W,X,I,Y⟩:=y6 (E:=E) (N:=N) (F:=Q) (H:=H) (u:=s.l[i]) (t:=_l (upto s i)) p? T c?
  have⟨q,f,g,c⟩:=y7 (E:=E) (N:=N) (F:=W) (H:=H) I;have B:∀j,j<12->j≠3->j≠5->get q j=get F j:=λj a Z h=>by rw[c j a,Y j a Z,y j a h,a3 j a]
  have⟨k,e1,e2,e3⟩:=(y9 (E:=E) (N:=N) (F:=q) (H:=H) (i:=i) c?).1 (by rw[B 11 c? c? c?];exact z)
  have⟨F',g1,g2,g3⟩:=a__ (i+1) k c? (by rw[e3 9 c?,B 9 c? c? c?];omega) (by rw[e3 10 c?,B 10 c? c? c?];exact w) e2 (by rw[e3 3 c?,c 3 c?,I,G,ζi])
  exact⟨F',tL.step (Ex.seq (Ex.ez a1) (Ex.seq (Ex.uc (by show get F1 12=_;rw[a2,_c c?]) Ex.skip) (Ex.seq (Ex.block (Ex.seq (Ex.ez S) (Ex.seq (Ex.ez X) (Ex.seq (Ex.ez f) (Ex.xd g Ex.skip))))) (Ex.ez e1)))) g1,g2,by rw[g3,e3 0 c?,B 0 c? c? c?]⟩
theorem lp2(b:bC.size α=1)(h:_l s.l<=2147483648)(k:_l (s.l.flatMap Sl.l)<=2147483648):∀(d i:Nat)(F:WP)(H:bl)(w:V),i+d=_l s.l->get F 25=ct s->get F 26=.int _q (_l s.l)->get F 27=.int _q i->get F 6=w->Acc H w (rows (upto s i))->
 ∃F' H' w',tL E N L15 F H (.exit 2) F' H'/\get F' 6=w'/\Acc H' w' (rows (s.l.flatMap Sl.l))/\(_l (s.l.flatMap Sl.l)=0->w'=w):=by
 intro d
 induction d with
 |zero=>
  intro i F H w f C B z f6 a;have⟨F1,a1,a2,a3⟩:=(y4 (E:=E) (N:=N) (H:=H) (n:=_l s.l)).2 z B;have:upto s i=s.l.flatMap Sl.l:=by unfold upto;grind
  rw[this]at a;exact⟨F1,H,w,tL.stop (Ex.seq (Ex.ez a1) (Ex.Bu (Ex.xd (by show get F1 28=_;grind) Ex.exit) f?)) f?,h?,a,λ_=>rfl⟩
 |succ d a__=>
  intro i F H w f C B z f6 a;have⟨F1,a1,a2,a3⟩:=(y4 (E:=E) (N:=N) (H:=H) (n:=_l s.l)).2 z B;have c:s.l[i]?=M s.l[i]:=ζd c?
  have⟨Q,S,T,l⟩:=(y5 (E:=E) (N:=N) (F:=F1) (H:=H) c).2 h? h?
  have D:=Om s (i+1);have I:=Ir c;rw[I,ζi]at D;have⟨q,H',w',y,W,L,X,m⟩:=y14 (E:=E) (N:=N) (F:=Q) (H:=H) (u:=s.l[i]) b a h? T (by simp only[gw];omega)
  have G:∀j,j<28->j≠6->j≠8->get q j=get F j:=λj b o p=>h?
  have⟨Y,e1,e2,e3⟩:=(y9 (E:=E) (N:=N) (F:=q) (H:=H') (i:=i) c?).2 (by rw[G 27 c? c? c?];exact z)
  have g:rows (upto s i)++rows s.l[i].l=rows (upto s (i+1)):=by rw[I];simp[rows]
  rw[g]at L;have⟨F',H2,Z,g1,g2,g3,g4⟩:=a__ (i+1) Y H' w' c? (by rw[e3 25 c?,G 25 c? c? c?];omega) (by rw[e3 26 c?,G 26 c? c? c?];omega) e2 (by rw[e3 6 c?];exact W) L
  exact⟨F',H2,Z,tL.step (Ex.seq (Ex.ez a1) (Ex.seq (Ex.uc (by show get F1 28=_;rw[a2,_c c?]) Ex.skip) (Ex.seq (Ex.block (Ex.seq (Ex.ez S) (Ex.ez y))) (Ex.ez e1)))) g1,g2,g3,λe=>(g4 e).trans (X (List.eq_nil_of_length_eq_zero c?))⟩
end
end catX
theorem Y0{E:Env}{f gf:Y'}{nm:Y'->aY Nat}{N:Nat->Y'}{gid:Nat}(A:∀f s,nm f=_j s->N s=f)(hg:N gid=gf)(aa:E.keep gf=U)(b__:E.own gf=U)
 (hf:∃fi,E.ft f=_j fi/\bQ ⟨E,nm,fi.ntmps⟩ O fi.body=_j (catX.cat gid)/\2<=fi.ntmps/\fi.results=[.tmp 2])
 (ab:∃fi,E.ft gf=_j fi/\bQ ⟨E,nm,fi.ntmps⟩ O fi.body=_j catX.grow/\2<=fi.ntmps/\fi.results=[.tmp 4])
 {α:Type}[bC α](K:bC.size α=1)(s:Sl (Sl α))(M:_l s.l<=2147483648)(ht:_l (s.l.flatMap Sl.l)<=2147483648):E3 E f [ct s] (ct (EF s)):=by
 have⟨fi,p1,p2,p3,p4⟩:=hf;have⟨gi,q1,q2,q3,q4⟩:=ab;generalize P:_l (s.l.flatMap Sl.l)=T at *;have⟨Fg,ad,ae⟩:=catX.Yb (E:=E) (N:=N) ht;have⟨R,c__⟩:=Ex.run A q1 q2 (args:=[.bN,.int _q T]) h? ad (vs:=[if T=0 then .bN else .hsl 0 1 0 0]) (by rw[q4];simp[jm,ae])
 have Q:∀l,borrows l [] [.bN,.int _q (T:Int)]=_j [.bN,.int _q (T:Int)]:=λl=>by unfold borrows;simp only[jI,kT l [] (x:=V.bN) _k,kT l [] (x:=V.int _q T) _k]
 have D:∃w G,(∀k,R<=k->iH E (run E k) gf [.bN,.int _q T] []=_j (w,G))/\catX.Acc G w []/\(T=0->w=.bN):=by by_cases z:T=0;refine⟨.bN,[],λk d=>?_,⟨_k,⟨[],_k,_k⟩,.inl ⟨_k,_k⟩⟩,λ_=>rfl⟩;have:=(qy E d).go _ _ _ _ c__;rw[L' z,L' z]at this;unfold iH om;rw[L' b__];simp[Q,this,result,V.scalar];refine⟨.hsl 0 1 0 0,[.row 1 (replicate T [.bN])],λk d=>?_,⟨by simp[dO,Ob.rows],⟨_,_k,f?⟩,.inr ⟨0,_,_k,_k,λh=>_e _k h⟩⟩,λh=>_e h z⟩;have:=(qy E d).go _ _ _ _ c__;rw[M' z,M' z]at this;unfold iH om;rw[L' b__];simp only[Q,N',this,result,V.scalar,v?,_a,vA,List.getElem?_cons_zero,true_and];rw[L' (by simp[List.all_replicate,V.scalar])];simp
 have⟨w,G,aj,af,S⟩:=D;have W:T≠0->rows (s.l.flatMap Sl.l)≠[]:=λh e=>h (by rw[<-P,<-gw,e];rfl)
 have B:∀c∈rows (s.l.flatMap Sl.l),V.cT c=U:=λc o=>by obtain⟨x,_,rfl⟩:=mem_map.1 o;exact bC.good x
 have g1:∀call,dN E N call J catX.r1 [ct s] []=_j (set [ct s] 2 .bN,[]):=λcall=>vp (v:=.bN) _k (by simp[lG,gj,bT]) yo
 have k0:get (set [ct s] 2 .bN) 0=ct s:=rfl;generalize set [ct s] 2 .bN=F0 at *;have g2:∀call,dN E N call J catX.r2 F0 []=_j (set F0 3 (.int _q 0),[]):=λcall=>vp (v:=.int _q 0) _k (by simp[lG,gj,bT]) yo
 have⟨F2,a1,a2,a3,a4,a5⟩:=(catX.y3 (E:=E) (N:=N) (F:=set F0 3 (.int _q 0)) (H:=[]) (s:=s)).1 p?
 have⟨F3,b1,b2,b3⟩:=catX.lp1 (E:=E) (N:=N) (H:=[]) M c? (_l s.l) 0 F2 c? a2 a3 a4 (by rw[a5 3 c?,vN];rfl)
 rw[P]at b2;have ak:get F3 0=ct s:=p?
 have p:∃X,(∃n,∀k,n<=k->dN E N (run E k) J (catX.KX gid) F3 []=_j (X,G))/\get X 6=w/\get X 0=ct s:=by refine⟨_,⟨R,λk d=>vp (v:=.int _q T) _k ?_<|Xn (v:=w) (H1:=G) _k ?_<|vp (v:=w) _k ?_ yo⟩,?_,?_⟩;simp[lG,gj,bT,b2];simp only[lG,J?,b8,gj,mO,uu,Nat.reduceEqDiff,N',_a,hg,aa,C',a7];grind;simp[lG,gj,bT,mO];simp[mO];simp only[mO,uu,Nat.reduceEqDiff,_a];omega
 have⟨X,p,c2,c3⟩:=p;have⟨F5,d1,d2,d3,d4,d5⟩:=(catX.y3 (E:=E) (N:=N) (F:=X) (H:=G) (s:=s)).2 c3;have⟨F6,Y,a__,e1,e2,e3,e4⟩:=catX.lp2 (E:=E) (N:=N) K M c? (_l s.l) 0 F5 G w c? d2 d3 d4 p? af
 have q:∃r,(∀call,dN E N call J catX.r16 F6 Y=_j (r,Y))/\get r 2=a__:=⟨_,λcall=>vp (v:=a__) _k (by simp[lG,gj,bT,e2])<|vp (v:=a__) _k (by simp[lG,gj,bT,mO]) yo,by simp[mO]⟩
 have⟨r,q,f2⟩:=q;have⟨n,ah⟩:=Ex.run A p1 p2 (args:=[ct s]) (by simp;omega) (Ex.seq (Ex.ez g1) (Ex.seq (Ex.ez g2) (Ex.seq (Ex.seq (Ex.ez a1) (Ex.GF (Ex.loop b1))) (Ex.seq (Ex.ops p) (Ex.seq (Ex.seq (Ex.ez d1) (Ex.GF (Ex.loop e1))) (Ex.seq (Ex.ez q) Ex.ret)))))) (vs:=[a__]) (by rw[p4];simp[jm,f2])
 refine⟨n,a__,Y,λid=>∃m,a__=.hsl id 1 0 m,ah,?_,?_,?_⟩
 .rcases e3.sh with⟨h,L⟩|⟨id,xs,h,L,y⟩
  .have:T=0:=by grind
   rw[h];unfold EF;rw[L' c?]
   exact .same _ _k
  by_cases z:T=0
  .have:=e4 c?
   rw[S z]at this;rw[this]at h;cases h
  have t:=y (W z);subst t;unfold EF;rw[M' c?,h]
  show FR Y _ (.fsl (bC.size α) (rows (s.l.flatMap Sl.l))) _;rw[K];exact .fsl 1 _ id 0 _ ⟨_,_k⟩ (by unfold bt;rw[L];rfl) c? (λi a b Z I=>by rw[d7]at I;rw[Z]at I;cases I;rfl) (λi j a b u v Z I g hv=>by
   rw[d7]at I;rw[Z]at I;cases I;rw[g]at hv;cases hv;exact .same _ (jh.1 (B a (s? Z)) j u g))
 .rintro id ⟨m,h⟩;rcases e3.sh with⟨C,_⟩|⟨ai,xs,C,L,_⟩
  .rw[C]at h;cases h
  rw[C]at h;cases h;unfold bt;rw[L];rfl
 refine⟨λid es ys hz hr c o u g=>?_⟩
 have⟨m,h⟩:=hz;rcases e3.sh with⟨C,_⟩|⟨ai,xs,C,L,y⟩
 .rw[C]at h;cases h
 rw[C]at h;cases h
 by_cases z:T=0
 .have:=e4 c?
  rw[S z]at this;rw[this]at C;cases C
 have t:=y (W z);subst t;unfold bt at hr;rw[L]at hr;cases hr;have⟨j,hj⟩:=d! g;exact⟨u,.same _ (jh.1 (B c o) j u hj)⟩
def qI(op:X')(x y:Int):Int:=cond op x y
@[simp] theorem adM(x y:Int):qI U x y=x:=rfl
@[simp] theorem adh(x y:Int):qI O x y=y:=rfl
def Sl.setAt(s:Zg)(p v:Int):aY Zg:=if 0<=p/\p.toNat<W s.l then M (s.re (s.l.set p.toNat v))else J
def DH(op:X')(es:Nat)(xs:S'):So->aY S'
 |[.agg [.int _q a,.int _q b],.agg [.int _q c,.int _q d]]=>
  if es=1/\(xs.all λx=>W x==1)=U/\0<=(qI op c a)/\(qI op c a).toNat<W xs then
   M (xs.set (qI op c a).toNat [.int _q (qI op (w? _q (d-1)) b)])else J
 |_=>J
def Au(op:X'):G0:=⟨O,DH op⟩
namespace setX
instance{n:Nat}:OfNat Arg n:=⟨.s n⟩
def fa(k:Nat):K:=.p (.fieldAddr k)
def ld:K:=.r (.load 1 O)
def r1:R0:=[o2 4 (.a .box) [1] [],o2 5 (.a .box) [2] []]
def r2:R0:=[o1 6 0 [],o2 7 (fa 0) [4] [],o2 8 ld [7] [],o2 9 (fa 1) [4] [],o2 10 ld [9] [],o2 11 (.p (.idxS 1)) [6,8] [],⟨J,J,O,.l (.store 1),[11,10],[],[]⟩]
def r3:R0:=[o1 6 0 [],o2 7 (fa 0) [5] [],o2 8 ld [7] [],o2 9 (fa 1) [5] [],o2 10 ld [9] [],o2 11 (.p (.bin (M .int) J .sub)) [10,.k (.int _q 1)] [],o2 12 (.p (.idxS 1)) [6,8] [],⟨J,J,O,.l (.store 1),[12,11],[],[]⟩]
def code(op:X'):RC:=.seq (.ops r1) (.ops (if op then r3 else r2))
section
variable{E:Env}{N:Nat->Y'}{H:bl}{id off L:Nat}{rs:S'}
theorem Xt{h:Nat}{x y:V}{i:Nat}{v:V}(B:H[h]?=M (.row 2 [[x,y]]))(a:[x,y][i]?=M v):fS H (.load 1 O) [.hptr h 0 i]=M v:=by match i,a with|0,a=>cases a;simp[fS,fh,B,Ob.rows,cut,mk]|1,a=>cases a;simp[fS,fh,B,Ob.rows,cut,mk]|i+2,a=>simp at a
attribute [local simp] dN lG gj bT mO uu oT uD
theorem whole(op:X'){a b c d:Int}(G:H[id]?=M (.row 1 rs))(hp:0<=(qI op c a))(B:(qI op c a).toNat<L){z:V}(D:rs[off+(qI op c a).toNat]?=M [z]):
 ∃F' X,Ex E N (code op) [.hsl id 1 off L,.agg [.int _q a,.int _q b],.agg [.int _q c,.int _q d]] H .norm F' ((H++X).set id (.row 1 (rs.set (off+(qI op c a).toNat) [.int _q (qI op (w? _q (d-1)) b)]))):=by
 let X:bl:=[.row 2 [[.int _q a,.int _q b]],.row 2 [[.int _q c,.int _q d]]]
 have I:=(ζe.1 G).1;have e1:∃F1,(∀call,dN E N call J r1 [.hsl id 1 off L,.agg [.int _q a,.int _q b],.agg [.int _q c,.int _q d]] H=M (F1,H++X))/\get F1 0=.hsl id 1 off L/\get F1 4=.hptr (_l H) 0 0/\get F1 5=.hptr (_l H+1) 0 0:=by exact⟨_,λcall=>by simp[r1,get,set,nW,V.cells,V.one,Mk.val,X];rfl,_k,_k,_k⟩
 have⟨F1,p1,p2,p3,p4⟩:=e1;have e:(H++X)[id]?=M (.row 1 rs):=by rw[u? I];exact G
 have h:(H++X)[_l H]?=M (.row 2 [[.int _q a,.int _q b]]):=by simp[X]
 have y:(H++X)[_l H+1]?=M (.row 2 [[.int _q c,.int _q d]]):=by rw[H? c?];simp[X]
 obtain⟨H1,Q⟩:∃H1,H1=H++X:=⟨_,_k⟩;rw[<-Q]at e h y;rw[<-Q]at p1
 suffices W:∃F',Ex E N (code op) [.hsl id 1 off L,.agg [.int _q a,.int _q b],.agg [.int _q c,.int _q d]] H .norm F' (H1.set id (.row 1 (rs.set (off+(qI op c a).toNat) [.int _q (qI op (w? _q (d-1)) b)])))by have⟨F',Y⟩:=W;exact⟨F',X,by rw[<-Q];exact Y⟩
 have w:∀p:Int,0<=p->p.toNat<L->nL 1 (.hsl id 1 off L) p=M (.hptr id (off+p.toNat) 0):=λp g Z=>by unfold nL;rw[M' c?];simp[Z]
 have C:∀(q:Nat)(z v:V),rs[q]?=M [z]->v.one=U->fI H1 (.store 1) [.hptr id q 0,v]=M (.undef,H1.set id (.row 1 (rs.set q [v]))):=λq z v D f=>by simp[fI,e,D,JD f,f]
 cases op with
 |false=>
  simp only[adh]at hp B D⊢;have S:=Xt (i:=0) h _k;have T:=Xt (i:=1) h _k;have e2:∃u,(∀call,dN E N call J r2 F1 H1=M (u,H1.set id (.row 1 (rs.set (off+a.toNat) [.int _q b])))):=by exact⟨_,λcall=>by simp[r2,p2,p3,fa,ld,th,S,T,w a hp B,C _ z (.int _q _) D _k];rfl⟩
  have⟨u,j⟩:=e2;exact⟨u,Ex.seq (Ex.ez p1) (Ex.ez (l:=_) j)⟩
 |true=>
  simp only[adM]at hp B D⊢;have S:=Xt (i:=0) y _k;have T:=Xt (i:=1) y _k;have e2:∃u,(∀call,dN E N call J r3 F1 H1=M (u,H1.set id (.row 1 (rs.set (off+c.toNat) [.int _q (w? _q (d-1))])))):=by exact⟨_,λcall=>by simp[r3,p2,p4,fa,ld,th,S,T,w c hp B,C _ z (.int _q _) D _k];rfl⟩
  have⟨u,j⟩:=e2;exact⟨u,Ex.seq (Ex.ez p1) (Ex.ez (l:=_) j)⟩
end
end setX
theorem Ex.runN{E:Env}{nm:Y'->aY Nat}{N:Nat->Y'}(B:∀f s,nm f=M s->N s=f){f:Y'}{fi:FI}{a:RC}(D:E.ft f=M fi)(b:bQ ⟨E,nm,fi.ntmps⟩ O fi.body=M a){args:So}(G:W args<=fi.ntmps){H H':bl}{F':WP}
 (h:Ex E N a args H .norm F' H'){vs:So}(c:jm E F' H' fi.results=M vs):∃n,Go.VE.run E n (.fn f) args H=M (result vs,H'):=by
 have⟨n,h⟩:=h;refine⟨n+1,?_⟩;have:=KH (X:=⟨E,nm,fi.ntmps⟩) (call:=Go.VE.run E n) B (lf:=n) a fi.body args H _ b (h n (y? _));simp only[Go.VE.run,lI,D,L' G,this,c,A?]
theorem Zu {E:Env} {f:FuncId} {nm:FuncId->aY Nat} {N:Nat->FuncId} (op:Bool) (hN:∀f s,nm f=some s->N s=f) (hk:E.keep f=true) (ho:E.own f=false)
 (hf:∃fi,E.ft f=some fi/\bQ ⟨E,nm,fi.ntmps⟩ false fi.body=some (setX.code op)/\3<=fi.ntmps/\fi.results=[]):oE E f (Au op):=by
 obtain⟨fi,h1,h2,h3,h4⟩:=hf;refine⟨hk,ho,?_,?_,?_⟩
 .intro es B vs ys h;simp only[Au,DH]at h;split at h
  .split at h
   .cases h;simp
   cases h
  cases h
 .intro es vs ys h H Z ws w hw S;simp only[Au,DH]at h;split at h
  .split at h
   next hc=>simp at hc
   cases h
  cases h
 intro es B vs ys h H Z ws id off rs hw T ab I q hz;simp only[Au,DH]at h;split at h
 .rename_i a b c d;split at h
  .rename_i hc;cases h;obtain⟨rfl,a__,hp,C⟩:=hc;obtain⟨w1,r1,rfl,q1,q2⟩:=hw.inv;obtain⟨w2,r2,rfl,q3,q4⟩:=q2.inv;rw[q4.cW];have e1:=(q1.scalar).1 rfl;have e2:=(q3.scalar).1 rfl;subst e1 e2;generalize y:(qI op c a).toNat=P at *;have W:off+P<rs.length:=by omega
   have Y:∃z,rs[off+P]? = some [z]:=by
    have G:B[P]? = some B[P]:=ζd C;have:=(I.2 P _ _ G (by rw[List.getElem?_take,L' C,List.getElem?_drop,ζd W])).1
    have D:=List.all_eq_true.1 a__ B[P] (List.getElem_mem C);simp only[_i]at D;rw[D]at this;obtain⟨z,hz⟩:=List.length_eq_one_iff.1 this.symm;exact⟨z,by rw[ζd W,hz]⟩
   obtain⟨z,aa⟩:=Y;obtain⟨F',X,G⟩:=setX.whole (E:=E) (N:=N) (H:=H) (id:=id) (off:=off) (L:=B.length) op (a:=a) (b:=b) (c:=c) (d:=d) T hp (by rw[y];exact C) (z:=z) (by rw[y];exact aa)
   rw[y]at G;obtain⟨n,hn⟩:=Ex.runN hN h1 h2 (args:=[.hsl id 1 off B.length,.agg [.int .i64 a,.int .i64 b],.agg [.int .i64 c,.int .i64 d]]) (by simpa using h3) G (vs:=[]) (by rw[h4];rfl)
   refine⟨n,rs.set (off+P) [.int .i64 (qI op (IntKind.wrap .i64 (d-1)) b)],X,λk hk=>?_,by simp,?_,?_⟩
   .simp only[Au,Bool.false_eq_true,_a];exact(qy E hk).go _ _ _ _ hn
   .have e:((rs.set (off+P) [V.int .i64 (qI op (IntKind.wrap .i64 (d-1)) b)]).drop off).take (B.set P [V.int .i64 (qI op (IntKind.wrap .i64 (d-1)) b)]).length=((rs.drop off).take B.length).set P [.int .i64 (qI op (IntKind.wrap .i64 (d-1)) b)]:=by
     apply List.ext_getElem?;intro j;rw[List.length_set,List.getElem?_take,List.getElem?_set,List.getElem?_take,List.getElem?_drop,List.getElem?_drop,List.getElem?_set]
     by_cases Q:j<B.length
     .rw[L' Q,L' Q]
      by_cases S:P=j
      .subst S;rw[L' rfl,L' W,L' rfl,L' (by simp;omega)]
      rw[M' S,M' c?]
     rw[M' Q,M' Q,M' c?]
    rw[e];exact I.set P (.cons (.same _ rfl) .nil)
   intro x G u hu;rcases List.mem_or_eq_of_mem_set G with h|rfl
   .exact q x h u hu
   simp at hu;subst hu;exact⟨_,.same _ rfl⟩
  cases h
 cases h
structure T0(S:Sys){α δ:Type}[bC δ](g:FuncId)(e:List V)(A:α->List V)(p:Sl δ->α->Option (Sl δ)):Prop where
 f:∃q,S.prm g=some q/\q.part=false/\S.E.keep g=true/\S.E.own g=false/\∀s z s',p s z=some s'->q.go (bC.size δ) (rows s.l) (A z++e)=some (rows s'.l)/\s'=s.re s'.l
theorem T0.Au{S:Sys}{g:Y'}{op:X'}(hp:S.prm g=M (Au op))(a:S.E.keep g=U)(B:S.E.own g=O):
 T0 S g [] (λz:bf×bf=>[enc z.1,enc z.2]) (λs z=>s.setAt (qI op z.2.proc z.1.proc) (qI op (w? _q (z.2.index-1)) z.1.index))where
 f:=by
  refine⟨_,hp,Y,a,B,λs z C h=>?_⟩;unfold Sl.setAt at h;split at h
  .rename_i hc;cases h;have w:∀l:SW,s.l≠[]->(s.re l).l=l:=λl u=>(by cases s<;>first|rfl|exact _e Y u);have u:s.l≠[]:=λe=>(by rw[e]at hc;simp at hc);refine⟨?_,by rw[w _ u]⟩;rw[w _ u];show DH op 1 (rows s.l) [.agg [.int _q z.1.proc,.int _q z.1.index],.agg [.int _q z.2.proc,.int _q z.2.index]]=_;unfold DH;simp only;rw[L' ⟨trivial,by simp[rows],hc.1,by rw[gw];exact hc.2⟩];congr 1;unfold rows;rw[map_set];rfl
  cases h
section
variable{S:Sys}{c:cg}{β γ δ α:Type}[bC δ]{Q:Out×St->aY β}{e:γ->aY β}{cf:Cf}
theorem abt(n d:Nat){g:Y'}{ev:So}{A:α->So}{p:Sl δ->α->aY (Sl δ)}(F:T0 S g ev A p)(z:α){s:Sl δ}{f:Sl δ->aY γ}
 (h:∀B,p s z=M B->Le ((f B).bind e) (bV S c Q (nx S c n cf λq=>cQ {q.st with m:=bH q.st.m d (cF B)} q.d (.v .undef))))
 (D:(fQ S c n cf).map (λq=>(q.k,bU S.N q.st.g q.az,bk q.st.m d,q.dr))=M (.c,M (.v (.clo g [] ev)::.own d::(A z).map .v),M (cF s),O):=by kernel_rfl):Le (((p s z).bind f).bind e) (bV S c Q cf):=by
 have⟨q,G,a⟩:=eA D;simp only[ζc]at a;have⟨I,a__,L,c__⟩:=a;have⟨X,b,T,b__,W,i⟩:=F.f;refine qR G ?_ h;rw[I,c__];intro y w;have⟨B,C,w⟩:=ζg.1 w;cases w;have⟨e1,e2⟩:=i s z B C;rw[w_ O _ _ _ _ _ _ g (.own d::(A z).map .v++ev.map .v) a__ rfl];have u:c6 ((A z).map SV.v++ev.map .v)=M (A z++ev):=by rw[<-List.map_append];exact nk _
 have j:fD S c q.d O (!O||q.now) (gb q.st.m q.fr) g (.own d::(A z).map .v++ev.map .v) q.st=M (.v .undef,{q.st with m:=bH q.st.m d (cF B)}):=by unfold fD;simp only[b__,W,Bool.not_false,Bool.true_or,N',v?,_a,b,Cr,List.cons_append,L,cF,u,e1,T];have e4:(if b7 s.k=U then bE.sl s.k (bC.size δ) (rows B.l)else .sl s.k (bC.size δ) (rows s.l))=.sl B.k (bC.size δ) (rows B.l):=(by rw[e2];cases s<;>rfl);rw[e4]
 rw[j];rfl
end
def snap(w:World):cG:=λb=>match w.heap[b]?with
 |some (.cells c _ _)=>M (.cells c)|some (.map es _)=>M (.map es)|_=>J
theorem Uv{w:World}(a:xo (snap w)):di (snap w) (λ_=>J) [] w where
 dom _ _:=rfl
 imm b x h:=by unfold snap at h;split at h;(next c el fr u=>cases h;exact⟨el,fr,u⟩);(next es d u=>cases h;exact⟨d,u⟩);cases h
 obs id ob h:=by simp at h
 inj id z ob B p C h:=by simp at h
 gl:=a
def fV(I:cG)(xs:So)(vs:aX V'):Prop:=W xs=W vs/\∀(j:Nat)a b,xs[j]?=M a->vs[j]?=M b->e_ I a b
theorem fV.nil{I:cG}:fV I [] []:=⟨Y,f?⟩
theorem fV.one{I:cG}{x:V}{v:V'}(h:e_ I x v):fV I [x] [v]:=⟨Y,λj a b c u=>by
 cases j with
 |zero=>simp at c u;subst c u;exact h|succ j=>simp at c⟩
theorem fV.append{I:cG}{xs ys:So}{B vs:aX V'}(h:fV I xs B)(k:fV I ys vs):fV I (xs++ys) (B++vs):=by refine⟨by simp[h.1,k.1],λj a b c u=>?_⟩;by_cases w:j<W xs;rw[u? w]at c;rw[u? (by rw[<-h.1];exact w)]at u;exact h.2 j a b c u;rw[H? c?]at c;rw[H? (by rw[<-h.1];omega),<-h.1]at u;exact k.2 _ a b c u
theorem EM{α β:Type}{f:α->aY β}:∀{l:aX α}{r:aX β},l.mapM f=M r->W r=W l/\∀(i:Nat)a b,l[i]?=M a->r[i]?=M b->f a=M b
 |[],r,h=>by simp only[List.mapM_nil,c9,ζa]at h;subst h;simp|x::l,r,h=>by simp only[List.mapM_cons,Option.bind_eq_bind,c9,ζg,ζa]at h;obtain⟨y,D,ys,B,rfl⟩:=h;have⟨c,z⟩:=EM B;refine⟨by simp[c],λi a b u w=>?_⟩;cases i with|zero=>simp at u w;subst u w;exact D|succ i=>exact z i a b (by simpa using u) (by simpa using w)
structure vK{H:Type}(b:DataW H->Nat):Prop where
 lit:∀l,1<=b (.lit l)
 str:∀s,s.length+1<=b (.lit (.string s))
 nil:1<=b .nil
 slice:∀es sp,(es.map b).sum+1<=b (.slice es sp)
 agg:∀ps,(ps.map b).sum+1<=b (.agg ps)
class cz(α:Type)where
 wt:α->Nat
 ok:α->Prop
instance:cz Int where
 wt _:=1
 ok n:=-9223372036854775808<=n/\n<=9223372036854775807
instance:cz X' where
 wt _:=1
 ok _:=True
instance:cz U' where
 wt s:=s.size+1
 ok s:=s.size<=maxLen
instance{α:Type}[cz α]:cz (Sl α)where
 wt s:=(s.l.map cz.wt).sum+1
 ok s:=(∀x∈s.l,cz.ok x)/\s≠.emp
class Reads(P:Program)(t:TypeId)(α:Type)[bC α][cz α]:Prop where
 size:P.cellsOf t=bC.size α
 rd:∀{H:Type}{enc:TypeId×Value->H}{w:World}{j?:Nat}{spare:Nat->Bool}{held:Bool}{fuel:Nat}{cs:List Value}{d:DataW H}{ps:List MemPlace},
  i9 enc P w j? spare held fuel t cs=some (d,ps)->∃a:α,fV (snap w) (cells a) cs/\cz.ok a/\∀b:DataW H->Nat,vK b->cz.wt a<=b d
 shape:∀{w:World}{r:_root_.Go.Reach}{j?:Nat}{v:Value},D' P w r j? t v->if bC.agg α then∃cs,v=.agg cs else v.cells=#[v]
section
variable{P:Program}
theorem tT{w:World}{r:_root_.Go.Reach}{j?:Nat}{t:W'}{v:V'}{u:_}(a:P.underlying t=M u)(b:∀fs,u≠.struct fs)(B:∀n e,u≠.array n e)(h:D' P w r j? t v):v.cells=#[v]:=by cases v with|agg cs=>exfalso;unfold D' at h;rw[a]at h;split at h;(next fs z=>cases z;exact b _ Y);(next n e z=>cases z;exact B _ _ Y);(unfold Cell.okWide at h;rw[a]at h;split at h<;>first|(simp at *;done)|skip);unfold Cell.ok at h;rw[a]at h;cases u<;>simp at h|_=>rfl
theorem Reads.int{t:W'}(a:P.underlying t=M (.int _q))(c:P.cellsOf t=1):Reads P t Int where
 size:=c
 rd {H enc w j? spare held z cs d ps} h:=by cases z with|zero=>simp[i9]at h|succ z=>(simp only[i9,a]at h;split at h<;>first|(simp at h;done)|skip);(next u=>cases u);rename_i k D n u;simp only[ζa,TypeDesc.int.injEq]at u;split at h;(next e=>obtain⟨rfl,B⟩:=e;subst u;cases h;exact⟨n,fV.one (.int _ n),show _/\_ by simpa[Lit.wf,IntKind.min,IntKind.max,l',IntKind.bits]using B,λb C=>C.lit _⟩);simp at h;all_goals (rename_i u;cases u)
 shape h:=by simp only[show bC.agg Int=O from Y];exact tT a f? f? h
theorem Reads.bool{t:W'}(a:P.underlying t=M .bool)(c:P.cellsOf t=1):Reads P t X' where
 size:=c
 rd {H enc w j? spare held u cs d ps} h:=by cases u with|zero=>simp[i9]at h|succ u=>(simp only[i9,a]at h;split at h<;>first|(simp at h;done)|skip);(next b _=>cases h;exact⟨b,fV.one (.bool b),trivial,λb B=>B.lit _⟩);all_goals (rename_i z;cases z)
 shape h:=by simp only[show bC.agg X'=O from Y];exact tT a f? f? h
theorem Reads.str{t:W'}(a:P.underlying t=M .string)(c:P.cellsOf t=1):Reads P t U' where
 size:=c
 rd {H enc w j? spare held u cs d ps} h:=by cases u with|zero=>simp[i9]at h|succ u=>(simp only[i9,a]at h;split at h<;>first|(simp at h;done)|skip);(all_goals (first|(rename_i z;cases z;done)|skip));rename_i s _;split at h;(next B=>cases h;exact⟨s,fV.one (.str s),B,λb C=>C.str _⟩);simp at h
 shape h:=by simp only[show bC.agg U'=O from Y];exact tT a f? f? h
theorem Wl{w:World}{a:Addr}{n:Nat}{v:V'}(h:w.cell? (a.add n)=M v)(D:n=0\/True):∃c el fr,w.heap[a.block]?=M (.cells c el fr)/\c[a.off+n]?=M v/\(n=0->a.spot=J):=by
 unfold cell? Addr.add at h;by_cases u:n=0;subst u;simp only[N']at h;split at h;rename_i c el fr z;split at h;simp at h;rename_i B;exact⟨c,el,fr,z,h,λ_=>by simpa using B⟩;simp at h;simp only[M' u]at h;split at h;next c el fr z=>simp only[Option.isSome_none,v?,_a]at h;exact⟨c,el,fr,z,h,λe=>_e e u⟩
 simp at h
def uC(P:Program)(t:W')(α:Type)[bC α][cz α](B:Nat):Prop:=∀{H:Type}{enc:W'×V'->H}{w:World}{j?:Nat}{c:Nat->X'}{e:X'}{cs:aX V'}{d:DataW H}{ps:aX MemPlace},i9 enc P w j? c e B t cs=M (d,ps)->∃a:α,fV (snap w) (cells a) cs/\cz.ok a/\∀b:DataW H->Nat,vK b->cz.wt a<=b d
theorem uC.sl {t e:TypeId} {α:Type} [bC α] [cz α] {q:Nat} (hu:P.underlying t=some (.slice e)) (ae:P.cellsOf e=bC.size α) (T:0<bC.size α) (hr:uC P e α q):uC P t (Sl α) (q+1):=by
 intro H enc w j? spare held cs d ps h;simp only[DataW.trod,hu]at h;split at h <;> first|(simp at h;done)|skip
 all_goals (first|(rename_i I;cases I;done)|skip)
 .cases h;exact⟨.nil,fV.one .bN,⟨λx a__=>by simp[Sl.l]at a__,by simp⟩,λb W=>W.nil⟩
 rename_i e' a len cap I;cases I;split at h
 .rename_i X;obtain⟨elems,af,h⟩:=ζg.1 h;obtain⟨i?,_,h⟩:=ζf.1 h;cases h;obtain⟨Y,Z⟩:=EM af;simp only[List.length_range]at Y;have a__:∀i,i<len->∃x:α,∃u:aX Value,w.cells? j? (a.add (i*P.cellsOf e)) (P.cellsOf e)=some u/\fV (snap w) (cells x) u/\cz.ok x/\∀b:DataW H->Nat,vK b->∀y,elems[i]? = some y->cz.wt x<=b y.1:=λi hi=>by
   have:=Z i i (elems[i]' c?) (by simp[hi]) (ζd c?)
   obtain⟨u,h1,L⟩:=ζg.1 this;obtain⟨x,a__,hk,W⟩:=hr (show _=some ((elems[i]' c?).1,(elems[i]' c?).2)from L)
   exact⟨x,u,h1,a__,hk,λb b__ y hy=>by
    rw[ζd c?]at hy;cases hy;exact W b b__⟩
  have aa:∀n,n<=len->∃z:aX α,z.length=n/\(∀i x,z[i]? = some x->∃u:aX Value,w.cells? j? (a.add (i*P.cellsOf e)) (P.cellsOf e)=some u/\fV (snap w) (cells x) u)/\(∀x∈z,cz.ok x)/\∀b:DataW H->Nat,vK b->(z.map cz.wt).sum<=(((elems.take n).map (·.1)).map b).sum:=by
   intro n
   induction n with
   | zero=>intro _;exact⟨[],rfl,by simp,by simp,by simp⟩
   | succ n ih=>
    intro hn;obtain⟨z,h1,L,h5,h6⟩:=ih c?
    obtain⟨x,u,h3,h4,h7,h8⟩:=a__ n c?
    refine⟨z++[x],by simp[h1],λi y hy=>?_,λy hy=>?_,λb b__=>?_⟩
    rotate_left
    .rcases List.mem_append.1 hy with hy|hy
     .exact h5 y hy
     simp at hy;subst hy;exact h7
    .have k1:=h6 b b__;have k2:=h8 b b__ _ (ζd c?)
     rw[List.take_succ,ζd (by omega:n<elems.length)]
     simp only[List.map_append,List.sum_append,Option.toList_some,List.map_cons,List.map_nil,List.sum_cons,List.sum_nil];omega
    by_cases hi:i<z.length
    .rw[List.getElem?_append_left hi]at hy;exact L i y hy
    rw[List.getElem?_append_right c?]at hy
    have:i-z.length=0:=by
     cases hk:i-z.length with
     | zero=>rfl
     | succ k=>rw[hk]at hy;simp at hy
    rw[this]at hy;simp at hy;subst hy;have:i=n:=by omega
    subst this;exact⟨u,h3,h4⟩
  obtain⟨z,C,ah,ab,ai⟩:=aa len (Nat.le_refl _);refine⟨.row z,fV.one ?_,⟨ab,by simp⟩,λb b__=>?_⟩
  rotate_left
  .have k:=ai b b__;rw[List.take_of_length_le c?]at k
   have k2:=b__.slice (elems.map (·.1)) (i?.map (·.1));show (z.map cz.wt).sum+1<=_;omega
  show e_ _ (.fsl (bC.size α) (rows z)) _
  cases hl:z with
  | nil=>
   subst hl;simp at C;subst C;exact .fsl0 _ _ _
  | cons x0 xr=>
   rw[<-hl];have ao:0<len:=by rw[<-C,hl];simp
   have Q:∀i x,z[i]? = some x->∀j y,(cells x)[j]? = some y->∃v,w.cell? ((a.add (i*bC.size α)).add j)=some v/\e_ (snap w) y v:=by
    intro i x hi j y hy;obtain⟨u,h1,L⟩:=ah i x hi;rw[ae]at h1;unfold World.cells? at h1;split at h1
    .obtain⟨g1,g2⟩:=EM h1;have hj:j<bC.size α:=by rw[<-jg x];exact(ζe.1 hy).1
     obtain⟨v,hv⟩:∃v,u[j]? = some v:=⟨_,ζd (by rw[g1];simpa using hj)⟩
     exact⟨v,g2 j j v (by simp[hj]) hv,L.2 j y v hy hv⟩
    simp at h1
   have an:∀i j,(a.add (i*bC.size α)).add j=a.add (i*bC.size α+j)\/True:=λ_ _=>.inr trivial
   have B:∀i x,z[i]? = some x->∀j y,(cells x)[j]? = some y->∃c el fr v,w.heap[a.block]? = some (.cells c el fr)/\c[a.off+i*bC.size α+j]? = some v/\e_ (snap w) y v/\(i=0->j=0->a.spot=none):=by
    intro i x hi j y hy;obtain⟨v,h1,L⟩:=Q i x hi j y hy;obtain⟨c,el,fr,g1,g2,g3⟩:=Wl h1 (.inr trivial);have W:(a.add (i*bC.size α)).block=a.block:=by unfold Addr.add;split <;> rfl
    have ho:(a.add (i*bC.size α)).off=a.off+i*bC.size α:=by unfold Addr.add;split <;> simp_all
    rw[W]at g1;rw[ho]at g2;refine⟨c,el,fr,v,g1,g2,L,?_⟩;rintro rfl rfl;have:=g3 rfl;simpa [Addr.add]using this
   have aj:∃y,(cells x0)[0]? = some y:=⟨_,ζd (by rw[jg];exact T)⟩
   obtain⟨y0,ak⟩:=aj;obtain⟨c,el,fr,v0,D,_,_,G⟩:=B 0 x0 (by rw[hl];rfl) 0 y0 ak
   have G:=G rfl rfl;obtain⟨b,o,sp⟩:=a;simp only at G D;subst G;have hI:snap w b=some (.cells c):=by unfold snap;rw[D]
   have S:(rows z).length=len:=by rw[gw,C]
   rw[<-S];refine .fsl _ _ b o cap c hI (by rw[S];exact X.2.1) (λr hr=>?_) (λr hr y hy=>?_) ?_ (λi j r y v hr hy hv=>?_)
   .obtain⟨x,_,rfl⟩:=List.mem_map.1 hr;exact jg x
   .obtain⟨x,_,rfl⟩:=List.mem_map.1 hr;exact List.all_eq_true.1 (wD x) y hy
   .
    obtain⟨xl,ad⟩:∃x,z[len-1]? = some x:=⟨_,ζd c?⟩
    obtain⟨yl,al⟩:∃y,(cells xl)[bC.size α-1]? = some y:=⟨_,ζd (by rw[jg];omega)⟩
    obtain⟨c2,_,_,v2,k1,k2,_,_⟩:=B (len-1) xl ad (bC.size α-1) yl al;simp only at k1 k2;rw[D]at k1;cases k1;have:=(Array.getElem?_eq_some_iff.1 k2).1;rw[S];have e:len*bC.size α=(len-1)*bC.size α+bC.size α:=by
     obtain⟨m,rfl⟩:∃m,len=m+1:=⟨len-1,by omega⟩
     simp[Nat.add_mul]
    omega
   simp only[rows,List.getElem?_map,ζf]at hr;obtain⟨x,am,rfl⟩:=hr;obtain⟨c2,_,_,v2,k1,k2,k3,_⟩:=B i x am j y hy;simp only at k1 k2;rw[D]at k1;cases k1;rw[hv]at k2;cases k2;exact k3
 simp at h
theorem uC.slF{t e:W'}{α:Type}[bC α][cz α]{B:Nat}(c:P.underlying t=M (.slice e))(G:P.cellsOf e=bC.size α)(D:0<bC.size α)(i:∀g,g<B->uC P e α g):uC P t (Sl α) B:=by cases B with|zero=>intro H enc w j? a b cs d ps h;simp[i9]at h|succ f=>exact uC.sl c G D (i f (Nat.lt_succ_self f))
theorem Reads.sl{t e:W'}{α:Type}[bC α][cz α][Reads P e α](a:P.underlying t=M (.slice e))(b:P.cellsOf t=1)(B:0<bC.size α):Reads P t (Sl α)where
 size:=b
 rd h:=uC.slF a (Reads.size (α:=α)) B (λ_ _{_ _ _ _ _ _ _ _ _}=>Reads.rd (P:=P) (t:=e) (α:=α)) h
 shape h:=by simp only[show bC.agg (Sl α)=O from Y];exact tT a f? f? h
theorem fV.seg{I:cG}{a xs:So}{cs:aX V'}{o n:Nat}(h:fV I a (cs.take o))(k:fV I xs ((cs.drop o).take n)):fV I (a++xs) (cs.take (o+n)):=by rw[List.take_add];exact h.append k
theorem fV.fin{I:cG}{xs:So}{cs:aX V'}{n:Nat}(h:fV I xs (cs.take n))(B:W cs=n):fV I xs cs:=by rw[a! c?]at h;exact h
theorem uC.st{t:W'}{fs:Array Field}{α:Type}[bC α][cz α]{B:Nat}(i:P.underlying t=M (.struct fs))(j:P.cellsOf t=bC.size α)
 (h:∀{H:Type}{enc:W'×V'->H}{w:World}{j?:Nat}{c:Nat->X'}{e:X'}{cs:aX V'}{l:aX (DataW H×aX MemPlace)},W cs=bC.size α->
  (fs.toList.mapM λf=>i9 enc P w j? c e B f.type ((cs.drop f.offset).take (P.cellsOf f.type)))=M l->∃a:α,fV (snap w) (cells a) cs/\cz.ok a/\∀b:DataW H->Nat,vK b->cz.wt a<=((l.map (·.1)).map b).sum+1):uC P t α (B+1):=by
 intro H enc w j? c e cs d ps g;simp only[i9,i]at g;split at g<;>first|(simp at g;done)|skip
 all_goals (first|(rename_i u;cases u;done)|skip)
 rename_i C;have⟨l,k,D⟩:=ζf.1 g;cases D;have⟨a,k1,k2,k3⟩:=h (by rw[C,j]) k
 exact⟨a,k1,k2,λb z=>Nat.le_trans (k3 b z) (z.agg _)⟩
theorem Reads.of{t:W'}{fs:Array Field}{α:Type}[bC α][cz α](a:P.underlying t=M (.struct fs))(b:P.cellsOf t=bC.size α)(D:bC.agg α=U)(h:∀B,uC P t α B):Reads P t α where
 size:=b
 rd hr:=h _ hr
 shape hv:=by rw[L' D];unfold D' at hv;rw[a]at hv;have⟨cs,c,_⟩:=hv;exact⟨cs,c⟩
theorem Reads.st{t:W'}{fs:Array Field}{α:Type}[bC α][cz α](g:P.underlying t=M (.struct fs))(i:P.cellsOf t=bC.size α)(D:bC.agg α=U)
 (h:∀{H:Type}{enc:W'×V'->H}{w:World}{j?:Nat}{c:Nat->X'}{e:X'}{B:Nat}{cs:aX V'}{l:aX (DataW H×aX MemPlace)},W cs=bC.size α->
  (fs.toList.mapM λf=>i9 enc P w j? c e B f.type ((cs.drop f.offset).take (P.cellsOf f.type)))=M l->∃a:α,fV (snap w) (cells a) cs/\cz.ok a/\∀b:DataW H->Nat,vK b->cz.wt a<=((l.map (·.1)).map b).sum+1):Reads P t α:=
 Reads.of g i D λB=>by cases B with|zero=>intro H enc w j? c e cs d ps h;simp[i9]at h|succ f=>exact uC.st g i h
theorem Reads.arg{t:W'}{α:Type}[bC α][cz α][Reads P t α]{H:Type}{B:W'×V'->H}{w:World}{j?:Nat}{c:Nat->X'}{e:X'}{r:_root_.Go.Reach}{b:Nat}{v:V'}{d:DataW H}{ps:aX MemPlace}
 (f:D' P w r b t v)(h:Trod B P w j? c e t v d ps):∃a:α,bM (snap w) (λ_=>J) (enc a) v/\cz.ok a/\∀b:DataW H->Nat,vK b->cz.wt a<=b d:=by
 have⟨I,h⟩:=h;have⟨a,⟨g,z⟩,D,G⟩:=Reads.rd (P:=P) (t:=t) (α:=α) h;have u:=Reads.shape (P:=P) (t:=t) (α:=α) f;refine⟨a,?_,D,G⟩
 cases C:bC.agg α with
 |true=>rw[C,L' Y]at u;obtain⟨cs,rfl⟩:=u;rw[Dx C];refine .c _ _ (.agg _ _ (by simpa[Value.cells]using g) (λj x y q L=>z j x y q (by simpa[Value.cells]using L)))|false=>rw[C]at u;simp only[v?,_a]at u;rw[u]at z;rw[xP C]at z;exact .c _ _ (z 0 _ _ Y Y)
end
end Go.VE
namespace Go.VE
variable[bZ]
open Go.ChangeShapes Go.WideShapes Go.ChangeAt Go.RowKit
structure K1(w w':World):Prop where
 kept:w.keptBut w' (λ_=>False)
 fz:∀a:Addr,a.block<w.heap.size->w'.frozen? a=w.frozen? a
theorem J_{I I':cG}{μ':Mu}{H':bl}{w w':World}(s:Step I (λ_=>J) [] w I' μ' H' w'):K1 w w':=by
 have B:∀b,b<w.heap.size->w'.heap[b]?=w.heap[b]?:=λb z=>s.frame b z (by rintro⟨id,p,ob,h,_⟩;simp at h);refine⟨⟨s.os,s.out.out,λi d=>?_⟩,λa z=>?_⟩;rw[B i d];split;next c u=>rw[c]at u;cases u;exact⟨Y,Y,Y,λ_ _=>rfl⟩
 next c u=>rw[c]at u;cases u;exact .inr ⟨Y,Y⟩
 rfl;unfold World.frozen?;rw[B _ z]
theorem M8{P:Program}{call:dR}(a:mI P call){f:Y'}{args:So}{b:X'}{H':bl}(h:call (.fn f) args []=M (.bool b,H')){w:World}{vs:aX V'}
 (D:xo (snap w))(d:cN (snap w) (λ_=>J) args vs):Calls P f vs.toArray w λe w'=>e=.returned (.bool b)/\K1 w w':=by
 intro cs;have k:=((a.fn f args [] _ H' h).2 (snap w) (λ_=>J) w vs (Uv D) d)
 obtain⟨e,w',fr,⟨u,I',μ',rfl,g,_,C⟩,z,i,G⟩:=k.2 cs (by simp[Fence.room,fr])
 refine⟨_,w',fr,⟨?_,J_ C⟩,z.comes,i,G⟩
 cases g with
 |c _ _ B=>cases B;rfl
variable{P:Program}{H:Type}{enc:W'×V'->H}
theorem J8{ts:aX W'}{vs:aX V'}{ds:aX (DataW H)}{ps:aX MemPlace}{w w':World}(e:K1 w w')(h:i6 enc P w 0 (λ_=>U) U ts vs ds ps):i6 enc P w' 0 (λ_=>U) U ts vs ds ps:=by
 have z:∀p:MemPlace,p.block<w.heap.size->w.sameAt w' p:=by intro p B;have k:=e.kept.2.2 p.block B;cases p with|cell b off=>simp only[sameAt,cell?];simp only[MemPlace.block]at k B;split at k;rename_i c t fr c' D C a u;rw[a,u];simp only;have:=k.2.2.2 off (λx=>x);simpa using this;(next a u=>rw[a,u]);rw[k]|map b=>simp only[sameAt];simp only[MemPlace.block]at k B;split at k;rename_i c t fr c' D C a u;obtain⟨rfl,rfl,L,G⟩:=k;rw[a,u];have:c'=c:=Array.ext_getElem? λi=>G i (λx=>x);rw[this];rename_i a u;rcases k with k|⟨rfl,rfl⟩;exact k.elim;rw[a,u];exact k
 induction ts generalizing vs ds ps with|nil=>cases vs<;>cases ds<;>simp_all [i6]|cons t ts I=>cases vs with|nil=>simp[i6]at h|cons v vs=>cases ds with|nil=>simp[i6]at h|cons d ds=>obtain⟨p,q,⟨n,a⟩,u,rfl⟩:=h;exact⟨p,q,⟨n,DataW.trod_carry n _ _ _ a λx j=>z x (DataW.trod_lt n _ _ _ a x j)⟩,I u,Y⟩
theorem RT {T:TypeId->Prop} (K:Kids P T) (hz:∀t e,T t->P.underlying t=some (.slice e)->0<P.cellsOf e) {f:Func} {s:ChangeSpec} {apart fresh handsOn again:Bool} {W G:World} {args:Array Value} {ds gs:aX (DataW H)} {before:aX MemPlace} {tb:TypeId}
 (hT:∀t∈f.params.toList,T t) (B:s.vars=[]) (D:s.fn H (ds++gs)={ results:=[.lit (.bool true)],args:=ds }) (d:f.resultTypes=#[tb]) (j:P.underlying tb=some .bool)
 (Y:DataW.Whole enc P f.params.toList s.vars apart W args.toList ds gs before) (hg:K1 W G):s.post enc P f apart fresh handsOn again W args (.bool true) G:=by
 have z:=Y;obtain⟨p,q,X,hV,rfl,L,y⟩:=Y;rw[B]at hV;obtain⟨rfl,rfl⟩:=trodVars_none hV;have hr:∀(b:Nat) (w:Nat->Bool) (hd:Bool),DataW.TrodAll enc P G b w hd f.resultTypes.toList ((Value.bool true).resultList f.resultTypes.size) (s.fn H (ds++[])).results []:=λ_ _ _=>by
  rw[d,D];exact trodAll_cons_mk (shut_bool j _) trodAll_mk0
 have S:∀w:Nat->Bool,(∀x∈p++[],w x.block=true)->DataW.TrodAll enc P G 0 w true f.params.toList args.toList (s.fn H (ds++[])).args p:=λw Q=>by
  rw[D];exact DataW.TrodAll.respare K hz hT (J8 hg X) (λx u=>Q x (List.mem_append_left _ u))
 have hv:∀w:Nat->Bool,DataW.TrodVars enc P G w s.vars (s.fn H (ds++[])).vars []:=λw=>by rw[D,B];rfl
 have C:=λx u=>z.lt x u
 refine⟨ds,[],p++[],[],p,[],z,hr _ _ _,S _ λx u=>by simpa using C x u,hv _,World.keptBut_mono (λx u=>u.elim) hg.kept,λ_=>⟨ok_one d rfl (okWide_bool_mk j _),?_⟩⟩
 refine⟨_,_,[]++p++[],⟨[]++p,[],trodAll_append (S _ λ_ _=>rfl) (hr _ _ _),hv _,rfl,λb off u=>?_,λh=>by simpa using y h⟩,λx u _=>by simpa using u⟩
 have I:MemPlace.cell b off∈p++[]:=by simpa using u
 rw[hg.fz _ (C _ I)];exact L b off I
end Go.VE
namespace Go.VE
variable[bZ]
instance:cz U8 where
 wt _:=1
 ok n:=0<=n.v/\n.v<=255
theorem Reads.u8{P:Program}{t:W'}(a:P.underlying t=M (.int .u8))(c:P.cellsOf t=1):Reads P t U8 where
 size:=c
 rd {H enc w j? spare held z cs d ps} h:=by cases z with|zero=>simp[i9]at h|succ z=>(simp only[i9,a]at h;split at h<;>first|(simp at h;done)|skip);(next u=>cases u);rename_i k D n u;simp only[ζa,TypeDesc.int.injEq]at u;split at h;(next e=>obtain⟨rfl,B⟩:=e;subst u;cases h;exact⟨⟨n⟩,fV.one (.int _ n),show _/\_ by simpa[Lit.wf,IntKind.min,IntKind.max,l',IntKind.bits]using B,λb C=>C.lit _⟩);simp at h;all_goals (rename_i u;cases u)
 shape h:=by simp only[show bC.agg U8=O from Y];exact tT a f? f? h
theorem QF{m:Tb bE}{n:Nat}{rs:Rd}{b:X'}(h:dy m n rs=M [.bool b]):rs=[.v (.bool b)]:=by
 cases rs with
 |nil=>cases n<;>simp[dy]at h|cons x r=>
  have c:shut m n x=M (.bool b)/\dy m n r=M []:=by unfold dy at h;split at h;(next y s c w=>simp only[ζa,List.cons.injEq]at h;obtain⟨rfl,rfl⟩:=h;exact⟨c,w⟩);cases h
  have w:r=[]:=by cases r with|nil=>rfl|cons y r=>have:=c.2;unfold dy at this;split at this<;>simp at this
  subst w;have u:=c.1
  cases x with
  |v y=>unfold shut at u;simp only[ζa]at u;rw[u]|own d=>unfold shut lJ at u;(repeat' split at u)<;>cases u|ptr d o=>cases n with|zero=>simp[shut]at u|succ n=>(unfold shut at u;split at u<;>try cases u);(split at u<;>try cases u);split at u<;>cases u
  |mp d=>unfold shut at u;split at u<;>cases u|clo f a b=>cases n with|zero=>simp[shut]at u|succ n=>unfold shut at u;split at u<;>cases u
  |tup l=>cases n with|zero=>simp[shut]at u|succ n=>unfold shut at u;have⟨_,_,z⟩:=ζf.1 u;cases z
  |_=>cases n<;>simp[shut]at u
theorem Wc{S:Sys}{T:sP}(B:uf S T)(D:∀f a b xs,S.items f a b=M xs->fm S f a b xs){f:Y'}{xs:So}(c:V.cT xs=U)(h:gO (dg S T) f xs=M [.bool U]):
 ∃n H',run S.E n (.fn f) xs []=M (.bool U,H'):=by
 unfold gO at h;have⟨⟨rs,m⟩,d,u⟩:=ζg.1 h;have:=QF u;simp only at this;subst this;exact ZO B D c d Y
theorem Pw{S:Sys}{T:sP}{P:Program}(B:uf S T)(D:∀f a b xs,S.items f a b=M xs->fm S f a b xs)(c:∀n,mI P (run S.E n)){f:Y'}{xs:So}(d:V.cT xs=U)(h:gO (dg S T) f xs=M [.bool U])
 {w:World}{args:Array V'}(G:xo (snap w))(g:cN (snap w) (λ_=>J) xs args.toList):Calls P f args w λe w'=>e=.returned (.bool U)/\K1 w w':=by
 have⟨n,H',i⟩:=Wc B D d h;have:=M8 (c n) i G g;simpa using this
theorem Reads.Kj{P:Program}{t:W'}{α:Type}[bC α][cz α][Reads P t α]{H:Type}{B:W'×V'->H}{w:World}{j? b:Nat}{c:Nat->X'}{e:X'}{v:V'}{d:DataW H}{ps:aX MemPlace}{params:Array W'}{args:Array V'}(D:∀(j:Nat)t v,params[j]?=M t->args[j]?=M v->D' P w .any b t v)(j:Nat)(f:params[j]?=M t)(G:args[j]?=M v)(h:Trod B P w j? c e t v d ps):∃a:α,bM (snap w) (λ_=>J) (enc a) v/\cz.ok a/\∀b:DataW H->Nat,vK b->cz.wt a<=b d:=Reads.arg (D j t v f G) h
end Go.VE
namespace Go.VE
theorem Vt{w:World}{g:Nat}{l:SW}(h:∀i,i<W l->w.cell? ⟨g,i,J⟩=M (.int _q (l.getD i 0)))(D:0<W l):e_ (snap w) (.fptr (l.map (V.int _q))) (.pointer (M ⟨g,0,J⟩)):=by
 have a:=h 0 D;unfold cell? at a;split at a;rename_i c t fr u;have G:snap w g=M (.cells c):=by unfold snap;simp only at u;rw[u]
 have d:∀i,w.cell? ⟨g,i,J⟩=c[i]?:=λi=>by unfold cell?;simp only at u⊢;rw[u];rfl
 refine .fptr _ _ _ c G ?_ ?_;rw[d7,N!];have:=h (W l-1) c?;rw[d]at this;have:=(Array.getElem?_eq_some_iff.1 this).1;omega;intro j y v B b;rw[d7,<-d]at b;rw[k!]at B;obtain⟨z,C,rfl⟩:=ζf.1 B;have I:=(ζe.1 C).1;rw[h j I]at b;cases b;have:l.getD j 0=z:=by simp[List.getD,C]
 rw[this];exact .int _ _;cases a
variable[bZ]
theorem cm(n:Nat)(h:n<9223372036854775807):w? _q ((n:Int)+1)=((n+1:Nat):Int):=by simp[w?,IntKind.bits,l'];omega
theorem fJ(n:Int)(a:-9223372036854775808<=n)(B:n<=9223372036854775807):w? _q n=n:=by simp[w?,IntKind.bits,l'];omega
section
variable{α β:Type}{P:β->Prop}
theorem gm(s:Sl α)(i:Nat):idx s (i:Int)=s.l[i]?:=by unfold idx;rw[L' c?];rfl
theorem bA{s:Sl α}{i:Nat}(h:i<W s.l):idx s (i:Int)=M s.l[i]:=by rw[gm,ζd h]
theorem VX{s:Sl α}{i:Int}(B:0<=i):idx s i=s.l[i.toNat]?:=by unfold idx;rw[L' B]
theorem u_(s:Sl α)(i:Nat)(h:i<=W s.l):∃x,gN s J (M (i:Int))=M x/\x.l=s.l.take i:=by unfold gN ec;simp only[Option.getD_none,H!];rw[L' c?];cases s<;>simp[Sl.l]at h⊢ <;>simp[h]
theorem bq{γ:Type}{a b:γ}:bg U a b=a:=rfl
theorem bz{γ:Type}{a b:γ}:bg O a b=b:=rfl
theorem oZ(a b:X'):bg a (M b) (M O)=M (a&&b):=by cases a<;>rfl
theorem mP(a b:X'):bg a (M U) (M b)=M (a||b):=by cases a<;>rfl
theorem we(a:X')(x y:β):bg a (M x) (M y)=M (if a then x else y):=by cases a<;>rfl
end
def place{α:Type}(f:α->X')(l:aX α):Int:=match l.findIdx? f with
 |some i=>i|none=>-1
theorem C6{α:Type}{f:α->X'}{l:aX α}{i:Nat}(h:∀j,j<i->∀x,l[j]?=M x->f x=O)(a:W l<=i):l.findIdx? f=J:=by rw[List.findIdx?_eq_none_iff];intro x w;have⟨j,u⟩:=d! w;have:j<W l:=(ζe.1 u).1;exact h j c? x u
theorem Nt{α:Type}{f:α->X'}{l:aX α}{i:Nat}{x:α}(h:∀j,j<i->∀x,l[j]?=M x->f x=O)(B:l[i]?=M x)(D:f x=U):l.findIdx? f=M i:=by rw[List.findIdx?_eq_some_iff_getElem];obtain⟨a,rfl⟩:=ζe.1 B;exact⟨a,D,λj u=>by rw[h j u _ (ζd c?)];simp⟩
theorem uV{α:Type}{step:Int->aY (Fw Int Unit Int)}{s:Sl α}{p:α->aY X'}{f:α->X'}(hp:∀x∈s.l,p x=M (f x))(T:W s.l<9223372036854775807)
 (d:∀i,step i=bg (_r (i<len s)) (_n (idx s i) λB=>_n (p B) λD=>bg D (M (.r i)) (M (.n (w? _q (i+1))))) (M (.x ()))):
 _n (bG step 0) (Fw.elim (λ_=>M (-1)) (λe=>M e))=M (place f s.l):=by
 refine Wp.eq (ey (λi:Int=>∃n:Nat,i=n/\n<=W s.l/\∀j,j<n->∀x,s.l[j]?=M x->f x=O) (λi:Int=>W s.l-i.toNat) ⟨0,Y,R? _,λj I=>_e I c?⟩ ?_)
 rintro i ⟨n,rfl,L,w⟩;rw[d,b9];refine⟨λh=>?_,λh=>?_⟩
 .have u:n<W s.l:=by simpa[len]using h
  rw[bA u,ζb,hp _ (t? u),ζb,b9];refine⟨λz=>?_,λz=>?_⟩
  .rw[a_];show Wp (M (n:Int)) _;rw[a_];unfold place;rw[Nt w (ζd u) z]
  rw[a_];refine⟨⟨n+1,cm n c?,c?,λj I x C=>?_⟩,?_⟩
  .by_cases e:j=n
   .subst e;rw[ζd u]at C;cases C;exact z
   exact w j c? x C
  rw[cm n c?];simp;omega
 have G:W s.l<=n:=by simpa[len]using h
 rw[a_];show Wp (M (-1:Int)) _;rw[a_];unfold place;rw[C6 w G]
theorem uZ{α:Type}(f:α->X')(l:aX α):_r (place f l>=0)=l.any f:=by unfold place;cases h:l.findIdx? f with|none=>rw[List.findIdx?_eq_none_iff]at h;have:l.any f=O:=(by rw[List.any_eq_false];intro x u;simp[h x u]);rw[this];rfl|some i=>have⟨a,w,_⟩:=List.findIdx?_eq_some_iff_getElem.1 h;have:l.any f=U:=List.any_eq_true.2 ⟨_,t? a,w⟩;rw[this];simp
theorem WB{α σ ε ρ:Type}{step:α->σ->aY (Fw σ ε ρ)}{l:aX α}(I:Nat->σ->Prop)(D:ε->Prop)(G:ρ->Prop){s:σ}(d:I 0 s)
 (h:∀i a s,l[i]?=M a->I i s->Wp (step a s) λw=>match w with|.n B=>I (i+1) B|.x e=>D e|.r b=>G b):
 Wp (mm step l s) λw=>match w with|.n B=>I (W l) B|.x e=>D e|.r b=>G b:=by
 have key:∀(r:aX α)(i:Nat)(s:σ),l.drop i=r->i<=W l->I i s->Wp (mm step r s) λw=>match w with|.n B=>I (W l) B|.x e=>D e|.r b=>G b:=by intro r;induction r with|nil=>intro i s hd c z;have:i=W l:=(by have:=List.drop_eq_nil_iff.1 hd;omega);subst this;exact⟨_,rfl,z⟩|cons a r L=>intro i s hd c z;have u:i<W l:=(by apply Classical.byContradiction;intro S;rw[List.drop_eq_nil_of_le c?]at hd;cases hd);have j:=List.drop_eq_getElem_cons u;rw[j]at hd;simp only[List.cons.injEq]at hd;have⟨w,Q,C⟩:=h i a s (by rw[ζd u,hd.1]) z;simp only[mm,Q,ζb];cases w with|n B=>exact L (i+1) B hd.2 c? C|x e=>exact⟨_,rfl,C⟩|r b=>exact⟨_,Y,C⟩
 exact key l 0 s Y (R? _) d
theorem Bc{α σ ε ρ γ:Type}{step:α->σ->aY (Fw σ ε ρ)}{l:aX α}{fn:σ->aY γ}{fx:ε->aY γ}{fr:ρ->aY γ}{P:γ->Prop}(I:Nat->σ->Prop){s:σ}(B:I 0 s)
 (h:∀i a s,l[i]?=M a->I i s->Wp (step a s) λw=>match w with|.n D=>I (i+1) D|.x e=>Wp (fx e) P|.r b=>Wp (fr b) P)
 (G:∀s,I (W l) s->Wp (fn s) P):Wp (_n (mm step l s) (Fw.tg fn fx fr)) P:=by
 rw[dZ];refine(WB I _ _ B h).mono ?_;intro w u
 cases w with
 |n s=>exact G s u|x e=>exact u|r b=>exact u
end Go.VE
