/- Certificates, library. -/
import Derived.JoinedCond
import Derived.ReadAgain
import Derived.WalkKit
import Derived.ProofKit
import Derived.OpenShut
import Derived.ChangeSame
import Derived.RowKit3
import Derived.Lib.LaidTab
import Derived.Test.YtjlclfccbcbibaaGreatDoorV2
import Derived.Test.YtjlclfccbcbibaaGreatDoorN2
import Derived.Test.YtjlclfccbcbibaaGreatDoorS1
set_option linter.all false
noncomputable section
open Nat(beq ble le_refl zero_add zero_le)
open Option(getD_some map_some pure_def)
open List(all_cons all_eq_true append_assoc append_nil getElem?_append_left getElem?_append_right getElem?_drop getElem?_map getElem?_of_mem getElem?_set_ne getElem?_set_self getElem?_take getElem_mem length_cons length_map length_range length_singleton map_cons map_nil mem_append mem_map mem_of_getElem? mem_range nil_append range range' replicate set_set take_of_length_le)
open Classical(choose_spec)
open Bool(false_eq_true)
open Go.IntKind(signed wrap)
open Go.DataW(Trod TrodAll trod)
open Go.Value(okWide)
open Go.World(cell? sameAt)
namespace Go.VE
variable[bT]
abbrev Cf:=Fo×aX Fm×St
section
variable(S:Sys)(c:bX){β:Type}(Q:Out×St->aY β)
abbrev b_(cf:Cf):aY β:=rn S c Q cf.1 cf.2.1 cf.2.2
def jo(n:Nat)(cf:Cf):Cf:=(iC S c n cf.1 cf.2.1 cf.2.2).getD cf
structure HK where
 dr:Bool
 fr:List Nat
 d:Option Nat
 gd:Option (Nat×Bool)
 now:Bool
 k:K
 az:List Arg
 dd:List Nat
 l:List RO
 fs:List Fm
 st:St
def gm(n:Nat)(cf:Cf):aY HK:=match iC S c n cf.1 cf.2.1 cf.2.2 with
 |some (.ops dr fr (⟨d,gd,now,k,az,dd,[]⟩::l),fs,st)=>match wanted st.g gd with
  |some true=>some ⟨dr,fr,d,gd,now,k,az,dd,l,fs,st⟩|_=>none
 |_=>none
def nx(n:Nat)(cf:Cf)(φ:HK->St):Cf:=match gm S c n cf with
 |some p=>(.ops p.dr (if p.dr then(match p.k with|.p _|.r _=>p.fr|_=>match p.d with|some d=>d::p.fr|none=>p.fr)else p.fr) p.l,p.fs,ql p.dd (φ p))|none=>cf
end
def wC(s:Nat)(b:X')(cf:Cf):Cf:=(cf.1,cf.2.1,{cf.2.2 with g:=bF cf.2.2.g s (.v (.bool b))})
def jmp(k:Nat)(fr:So)(cf:Cf)(st:St):Cf:=match cf with
 |(.ops dr _ l,fs,_)=>(.ops dr fr (l.drop k),fs,st)|_=>(.rt,[],st)
def qx:RC->So->R0->St->Cf
 |c,[],fs,st=>(.rc c,fs,st)|.seq a b,i::p,fs,st=>if i=0 then qx a p (.seq b::fs) st else qx b p fs st|.cond _ a b,i::p,fs,st=>if i=0 then qx a p fs st else qx b p fs st|.block id c,_::p,fs,st=>qx c p (.blk id::fs) st|.gh _ c,_::p,fs,st=>qx c p fs st|.hg c g,_::p,fs,st=>qx c p (.gst g::fs) st|.loop c,_::p,_,st=>qx c p [] st|.each _ _ _ b,_::p,_,st=>qx b p [] st|c,_,fs,st=>(.rc c,fs,st)
section
variable{S:Sys}{c:bX}{β γ δ α:Type}{Q:Out×St->aY β}{e:γ->aY β}{cf:Cf}
theorem kE{n:Nat}{p:HK}(h:gm S c n cf=some p):iC S c n cf.1 cf.2.1 cf.2.2=some (.ops p.dr p.fr (⟨p.d,p.gd,p.now,p.k,p.az,p.dd,[]⟩::p.l),p.fs,p.st)/\wanted p.st.g p.gd=some true:=by unfold gm at h;grind
theorem pQ{n:Nat}{m:aY δ}{φ:δ->HK->St}{f:δ->aY γ}{p:HK}(hp:gm S c n cf=some p)(B:Le (m.bind λx=>some (φ x p)) (fH S c p.dr p.fr ⟨p.d,none,p.now,p.k,p.az,[],[]⟩ p.st))
 (h:∀x,m=some x->Le ((f x).bind e) (b_ S c Q (nx S c n cf (φ x)))):Le ((m.bind f).bind e) (b_ S c Q cf):=by
 have⟨a,u⟩:=kE hp;refine Gf a rfl u B λx w=>?_
 have:=h x w;simp[nx,hp]at this;omega
theorem AY{n:Nat}{m:aY β}{φ:HK->St}{p:HK}(hp:gm S c n cf=some p)(B:fH S c p.dr p.fr ⟨p.d,none,p.now,p.k,p.az,[],[]⟩ p.st=some (φ p))
 (h:Le m (b_ S c Q (nx S c n cf φ))):Le m (b_ S c Q cf):=by
 have⟨a,u⟩:=kE hp;refine sO a rfl u B ?_;simp[nx,hp]at h;omega
theorem eW{α β:Type}{o:aY α}{f:α->β}{b:β}(h:o.map f=some b):∃a,o=some a/\f a=b:=ζf.1 h
theorem rV(n:Nat){m:aY β}{B:Cf}(h:Le m (b_ S c Q B))(D:iC S c n cf.1 cf.2.1 cf.2.2=some B:=by kernel_rfl):Le m (b_ S c Q cf):=BM D h
theorem bE(n s:Nat){t:X'}{x y:aY γ}(B:Le (x.bind e) (b_ S c Q (wC s true (jo S c n cf))))(D:Le (y.bind e) (b_ S c Q (wC s false (jo S c n cf))))
 (G:(iC S c n cf.1 cf.2.1 cf.2.2).map (λp=>bh p.2.2.g s)=some (some (.v (.bool t))):=by kernel_rfl):Le ((bl t x y).bind e) (b_ S c Q cf):=by
 have⟨p,u,a⟩:=eW G;have b:jo S c n cf=p:=by unfold jo;grind
 rw[b]at B D;refine BM u ?_;cases t
 .have:wC s false p=p:=by unfold wC;rw[qO a]
  rw[this]at D;exact D
 have:wC s true p=p:=by unfold wC;rw[qO a]
 rw[this]at B;exact B
theorem dc(n s:Nat){t:X'}{x y:aY γ}(B:Le (x.bind e) (b_ S c Q (wC s false (jo S c n cf))))(D:Le (y.bind e) (b_ S c Q (wC s true (jo S c n cf))))
 (G:(iC S c n cf.1 cf.2.1 cf.2.2).map (λp=>bh p.2.2.g s)=some (some (.v (.bool (!t)))):=by kernel_rfl):Le ((bl t x y).bind e) (b_ S c Q cf):=by
 have⟨p,u,a⟩:=eW G;have b:jo S c n cf=p:=by unfold jo;grind
 rw[b]at B D;refine BM u ?_;cases t
 .have:wC s true p=p:=by unfold wC;rw[show V.bool true=V.bool (!false)from rfl,qO a]
  rw[this]at D;exact D
 have:wC s false p=p:=by unfold wC;rw[show V.bool false=V.bool (!true)from rfl,qO a]
 rw[this]at B;exact B
theorem Cn(n k:Nat)(fr:So)(st:δ->St){m:aY δ}{f:δ->aY γ}(B:Le (m.bind λr=>b_ S c Q (jmp k fr (jo S c n cf) (st r))) (b_ S c Q cf))(a:∀r,Le ((f r).bind e) (b_ S c Q (jmp k fr (jo S c n cf) (st r)))):Le ((m.bind f).bind e) (b_ S c Q cf):=TH _ B a
theorem bD(n:Nat){r:δ}{k:δ->Cf}(B:iC S c n cf.1 cf.2.1 cf.2.2=some (k r):=by kernel_rfl):Le ((some r).bind λr=>b_ S c Q (k r)) (b_ S c Q cf):=ZZ B rfl
theorem aZ{r:γ}{L:aY β}(h:L=e r:=by kernel_rfl):Le ((some r).bind e) L:=Le.of_eq h
theorem zm(n:Nat){b:RC}{m:aY (Out×Tb bB)}(h:Le m (b_ S c xY (.rc b,[],(jo S c n cf).2.2)))(B:iC S c n cf.1 cf.2.1 cf.2.2=some (.nx,[],(jo S c n cf).2.2):=by kernel_rfl):Le m (b_ S c (Ab S c b) cf):=Xs B h
theorem JU(n:Nat){o:aY α}(A:aY α->St){f:α->aY γ}(B:∀x,o=some x->Le ((f x).bind e) (b_ S c Q ((jo S c n cf).1,(jo S c n cf).2.1,A (some x))))
 (D:iC S c n cf.1 cf.2.1 cf.2.2=some ((jo S c n cf).1,(jo S c n cf).2.1,A o):=by kernel_rfl):Le ((o.bind f).bind e) (b_ S c Q cf):=Zi D B
theorem iu.ZU{S:Sys}{T:qv}[bt δ]{f:Y'}{A:α->S'}{p:α->aY δ}(B:T f=none)(a:S.E.keep f=false)(D:∀z r,p z=some r->S.zC f (A z)=some (enc r))
 :iu S (dm S T) f A (λr=>[enc r]) p false where
 k:=a
 h z:=by intro y u;have⟨r,b,w⟩:=ζg.1 u;cases w;have h:=GY B a (D z r b);unfold kf;rw[h];exact qw 8 [enc r]
 s h:=by cases h
def Kc:K->aY BinOp
 |.p (.bin _ _ o)=>some o|_=>none
theorem LM{k:K}{o:BinOp}(h:Kc k=some o):∃t u,k=.p (.bin t u o):=by cases k with|p p=>cases p<;>simp[Kc]at h;simp_all|_=>simp[Kc]at h
def SM:K->aY BinOp
 |.p (.bin (some .slice) _ o)=>some o|_=>none
theorem VI{k:K}{o:BinOp}(h:SM k=some o):∃u,k=.p (.bin (some .slice) u o):=by unfold SM at h;grind
def XQ:K->aY (Nat×Nat×So)
 |.a (.buildSl sz ln _ ix)=>some (sz,ln,ix)|_=>none
theorem Yf{k:K}{r:Nat×Nat×So}(h:XQ k=some r):∃z,k=.a (.buildSl r.1 r.2.1 z r.2.2):=by unfold XQ at h;grind
def Xc:K->aY S'
 |.a (.alloc _ zero)=>some zero|_=>none
theorem Xp{k:K}{z:S'}(h:Xc k=some z):∃n,k=.a (.alloc n z):=by unfold Xc at h;grind
section
variable[bt α]
theorem Zk(k:T')(n:Nat){s:Sl α}{i:Int}{f:α->aY γ}(h:∀x,idx s i=some x->Le ((f x).bind e) (b_ S c Q (nx S c n cf λp=>dn p.st p.d (cp x))))
 (B:(gm S c n cf).map (λp=>(p.k,bW S.N p.st.g p.az))=some (.p (.idxS (bt.size α)),some [.v (cq s),.v (.int k i)]):=by kernel_rfl):Le (((idx s i).bind f).bind e) (b_ S c Q cf):=by
 have⟨p,u,a⟩:=eW B;simp at a;refine pQ u ?_ h;rw[a.1];exact Le.of_eq (TV a.2 rfl)
theorem bR(n:Nat){s:Sl α}{i:Int}{f:α->aY γ}(h:∀x,idx s i=some x->Le ((f x).bind e) (b_ S c Q (nx S c n cf λp=>dn p.st p.d (cp x))))
 (B:(gm S c n cf).map (λp=>(p.k,bW S.N p.st.g p.az))=some (.p (.idxS (bt.size α)),some [.v (cq s),.v (.int .i64 i)]):=by kernel_rfl):Le (((idx s i).bind f).bind e) (b_ S c Q cf):=Zk .i64 n h B
theorem n9(k:T')(n u:Nat){s:Sl α}{i:Int}{f:Nat->aY γ}(h:∀x,s.lS i=some x->Le ((f x).bind e) (b_ S c Q (nx S c n cf λp=>dn p.st p.d (.el u x 0))))
 (B:(gm S c n cf).map (λp=>(p.k,bW S.N p.st.g p.az,bh p.st.m u))=some (.p (.idxS (bt.size α)),some [.own u,.v (.int k i)],some (cF s)):=by kernel_rfl):Le (((s.lS i).bind f).bind e) (b_ S c Q cf):=by
 have⟨p,w,a⟩:=eW B;simp at a;refine pQ w ?_ h;rw[a.1];exact Le.of_eq (YS a.2.1 a.2.2 rfl)
theorem yS(n u o sz:Nat)(a:X')(v:α->V){s:Sl α}{i:Nat}{f:α->aY γ}(h:∀x,s.get i=some x->Le ((f x).bind e) (b_ S c Q (nx S c n cf λp=>dn p.st p.d (.v (v x)))))
 (B:(gm S c n cf).map (λp=>(p.k,bW S.N p.st.g p.az,bh p.st.m u,(!p.dr||p.now||fD p.fr [.el u i o])))=some (.r (.load sz a),some [.el u i o],some (cF s),true):=by kernel_rfl)(b:∀x:α,(cut (cells x) o sz).bind (mk a)=some (v x):=by intro _;rfl):Le (((s.get i).bind f).bind e) (b_ S c Q cf):=by
 have⟨p,z,w⟩:=eW B;simp only[ζc]at w;refine pQ z ?_ h;rw[w.1];exact Le.of_eq (X7 w.2.1 w.2.2.2 w.2.2.1 b)
theorem xQ(n u:Nat)(x:V){s:Sl α}{i:Nat}{a:α}{f:Sl α->aY γ}(h:∀B,s.put i a=some B->Le ((f B).bind e) (b_ S c Q (nx S c n cf λp=>dn {p.st with m:=bF p.st.m u (cF B)} p.d (.v .undef))))
 (D:(gm S c n cf).map (λp=>(p.k,bW S.N p.st.g p.az,bh p.st.m u,(!p.dr||p.now),x.cells))=some (.l (.store (bt.size α)),some [.el u i 0,.v x],some (cF s),true,cells a):=by kernel_rfl):Le (((s.put i a).bind f).bind e) (b_ S c Q cf):=by
 have⟨p,w,b⟩:=eW D;simp only[ζc]at b;refine pQ w ?_ h;rw[b.1];exact Le.of_eq (UI b.2.1 b.2.2.2.1 b.2.2.1 b.2.2.2.2 rfl)
theorem Mt(n u:Nat){i:Int}{z:α}{f:Sl α->aY γ}(h:∀B,qD i z=some B->Le ((f B).bind e) (b_ S c Q (nx S c n cf λp=>{p.st with g:=bF p.st.g u (.own u),m:=bF p.st.m u (cF B)})))
 (D:(gm S c n cf).map (λp=>(p.d,p.k,bW S.N p.st.g p.az,p.st.new u))=some (some u,.a (.makeSl (bt.size α) (cells z)),some [.v (.int .i64 i),.v (.int .i64 i)],true):=by kernel_rfl):Le (((qD i z).bind f).bind e) (b_ S c Q cf):=by
 have⟨p,w,a⟩:=eW D;simp at a;refine pQ w ?_ h;rw[a.1,a.2.1];exact Le.of_eq (X6 a.2.2.1 rfl rfl a.2.2.2)
theorem nk(n o w u:Nat){s:Sl α}{x:α}{f:Sl α->aY γ}(h:∀B,fW s x=some B->Le ((f B).bind e) (b_ S c Q (nx S c n cf λp=>{p.st with g:=bF p.st.g u (.own u),m:=bF (dL o p.st.m) u (cF B)})))
 (D:(gm S c n cf).map (λp=>(p.d,p.k,bW S.N p.st.g p.az,(!p.dr||p.now),bh p.st.m o,bh p.st.m w,St.new {p.st with m:=dL o p.st.m} u))=some (some u,.l (.append (bt.size α)),some [.own o,.own w],true,some (cF s),some (cF (.row [x])),true):=by kernel_rfl):Le (((fW s x).bind f).bind e) (b_ S c Q cf):=by
 have⟨p,z,a⟩:=eW D;simp only[ζc]at a;refine pQ z ?_ h;rw[a.1,a.2.1];exact Le.of_eq (YY a.2.2.1 a.2.2.2.1 a.2.2.2.2.1 a.2.2.2.2.2.1 rfl a.2.2.2.2.2.2)
theorem Y_(n w u:Nat)(v:V)(x:α){m:aY β}(h:Le m (b_ S c Q (nx S c n cf λp=>{p.st with g:=bF p.st.g u (.own u),m:=bF p.st.m u (cF (.row [x]))})))(a:v=.bG\/v=.dH:=by first|exact .inl rfl|exact .inr rfl)
 (B:(gm S c n cf).map (λp=>(p.d,p.k,bW S.N p.st.g p.az,(!p.dr||p.now),bh p.st.m w,p.st.new u))=some (some u,.l (.append (bt.size α)),some [.v v,.own w],true,some (cF (.row [x])),true):=by kernel_rfl):Le m (b_ S c Q cf):=by
 have⟨p,C,z⟩:=eW B;simp only[ζc]at z;refine AY C ?_ h;rw[z.1,z.2.1];exact W9 a z.2.2.1 z.2.2.2.1 z.2.2.2.2.1 rfl z.2.2.2.2.2
theorem cA(n:Nat)(s:Sl α){m:aY β}(h:Le m (b_ S c Q (nx S c n cf λp=>dn p.st p.d (.v (.int .i64 s.l.length)))))
 (B:(gm S c n cf).map (λp=>(p.k,bW S.N p.st.g p.az))=some (.p .lenSl,some [.v (cq s)]):=by kernel_rfl):Le m (b_ S c Q cf):=by
 have⟨p,u,a⟩:=eW B;simp at a;refine AY u ?_ h;rw[a.1];exact Uq a.2
theorem Fe(n u:Nat)(s:Sl α){m:aY β}(h:Le m (b_ S c Q (nx S c n cf λp=>dn p.st p.d (.v (.int .i64 s.l.length)))))
 (B:(gm S c n cf).map (λp=>(p.k,bW S.N p.st.g p.az,bh p.st.m u))=some (.p .lenSl,some [.own u],some (cF s)):=by kernel_rfl):Le m (b_ S c Q cf):=by
 have⟨p,w,a⟩:=eW B;simp at a;refine AY w ?_ h;rw[a.1];exact W4 a.2.1 a.2.2
theorem X3(n:Nat){s:Sl α}{f:X'->aY γ}(h:∀t,s.isNil=some t->Le ((f t).bind e) (b_ S c Q (nx S c n cf λp=>dn p.st p.d (.v (.bool t)))))
 (B:(gm S c n cf).map (λp=>(SM p.k,bW S.N p.st.g p.az))=some (some .eql,some [.v (cq s),.v .bG]):=by kernel_rfl):Le ((s.isNil.bind f).bind e) (b_ S c Q cf):=by
 have⟨p,w,a⟩:=eW B;simp at a;have⟨u,b⟩:=VI a.1;refine pQ w ?_ h;rw[b];exact Le.of_eq (Wl a.2)
theorem FV(n:Nat)(lo hi:X')(B:S'){s:Sl α}{a b:Pi}{f:Sl α->aY γ}(h:∀x,iP s a b=some x->Le ((f x).bind e) (b_ S c Q (nx S c n cf λp=>dn p.st p.d (.v (cq x)))))
 (D:(gm S c n cf).map (λp=>(p.k,bW S.N p.st.g p.az,nq lo hi B))=some (.p (.slice (bt.size α) lo hi),some (.v (cq s)::B.map .v),some (a,b)):=by kernel_rfl):Le (((iP s a b).bind f).bind e) (b_ S c Q cf):=by
 have⟨p,u,g⟩:=eW D;simp at g;have⟨i,C⟩:=kE u;have⟨dr,fr,d,gd,now,k,az,dd,l,fs,st⟩:=p;obtain⟨rfl,G,I⟩:=g;exact ZW n dr fr (⟨d,gd,now,.p (.slice (bt.size α) lo hi),az,dd,[]⟩::l) fs st lo hi B rfl Zac λw z=>by have:=h w z;simp only[nx,u]at this;omega
theorem Za(n:Nat)(lo hi:X')(u t:Nat)(B:S'){s:Sl α}{a b:Pi}{f:Sl α->aY γ}(h:∀x,pN s a b=some x->Le ((f x).bind e) (b_ S c Q (nx S c n cf λp=>{p.st with g:=bF p.st.g t (.own t),m:=bF (dL u p.st.m) t (cF x)})))
 (D:(gm S c n cf).map (λp=>(p.d,p.k,p.dr,bW S.N p.st.g p.az,nq lo hi B,bh p.st.m u,St.new {p.st with m:=dL u p.st.m} t))=some (some t,.p (.slice (bt.size α) lo hi),false,some (.own u::B.map .v),some (a,b),some (cF s),true):=by kernel_rfl):Le (((pN s a b).bind f).bind e) (b_ S c Q cf):=by
 have⟨p,w,i⟩:=eW D;simp at i;have⟨j,I⟩:=kE w;have⟨dr,fr,d,gd,now,k,az,dd,l,fs,st⟩:=p;obtain⟨rfl,rfl,rfl,J,L,O,z⟩:=i;exact Zm n fr (⟨some t,gd,now,.p (.slice (bt.size α) lo hi),az,dd,[]⟩::l) fs st lo hi u B rfl z Zac λC G=>by have:=h C G;simp only[nx,w]at this;omega
theorem cg(n u:Nat)(x:α){m:aY β}(h:Le m (b_ S c Q (nx S c n cf λp=>{p.st with g:=bF p.st.g u (.ptr u 0),m:=bF p.st.m u (bx x)})))
 (B:(gm S c n cf).map (λp=>(p.d,p.k,bW S.N p.st.g p.az,p.st.new u))=some (some u,.a .box,some [cv x],true):=by kernel_rfl):Le m (b_ S c Q cf):=by
 have⟨p,w,a⟩:=eW B;simp at a;refine AY w ?_ h;rw[a.1,a.2.1,EV,a.2.2.1];simp only[ζb,a.2.2.2,if_true,qV,jq,u_]
def Zv(u o sz:Nat)(xs:ST)(p:HK):St:=match bh p.st.m u with
 |some (.box cs)=>dn {p.st with m:=bF p.st.m u (.box (cs.take o++xs++cs.drop (o+sz)))} p.d (.v .undef)|_=>p.st
theorem o_(n u o:Nat)(x:α){m:aY β}(h:Le m (b_ S c Q (nx S c n cf (Zv u o (bt.size α) ((cells x).map .v)))))
 (B:(gm S c n cf).map (λp=>(p.k,bW S.N p.st.g p.az,(!p.dr||p.now),match bh p.st.m u with|some (.box cs)=>ble (o+bt.size α) cs.length|_=>false))=some (.l (.store (bt.size α)),some [.ptr u o,cv x],true,true):=by kernel_rfl):Le m (b_ S c Q cf):=by
 have⟨p,C,a⟩:=eW B;simp only[ζc]at a;refine AY C ?_ h;have⟨b,D,G,z⟩:=a;split at z
 next cs w=>have I:=Nat.le_of_ble_eq_true z;rw[b,yo,D];simp only[ζb,G,if_true,nh,w,putCells,jq,iw,u_,I,and_self,map_some,Zv]
 simp_all
theorem xZ(n u:Nat)(xs:aX α){m:aY β}(h:Le m (b_ S c Q (nx S c n cf λp=>{p.st with g:=bF p.st.g u (.own u),m:=bF p.st.m u (cF (.row xs))})))
 (B:(gm S c n cf).map (λp=>(p.d,XQ p.k,bW S.N p.st.g p.az,p.st.new u))=some (some u,some (bt.size α,xs.length,range' 0 xs.length),some ((xs.map enc).map .v),true):=by kernel_rfl):Le m (b_ S c Q cf):=by
 have⟨p,w,a⟩:=eW B;simp at a;have⟨b,G⟩:=kE w;have⟨dr,fr,d,gd,now,k,az,dd,l,fs,st⟩:=p;obtain⟨rfl,C,I,D⟩:=a;obtain⟨z,rfl⟩:=Yf C;exact Abs n dr fr (⟨some u,gd,now,.a (.buildSl (bt.size α) xs.length z (range' 0 xs.length)),az,dd,[]⟩::l) fs st xs rfl D Zac (by
  simp[nx,w]at h;omega)
theorem A3(n:Nat)(x:α)(vs z:S')(pl:aX (Nat×Nat)){m:aY β}(B:lH z pl vs=some (cells x))(D:bt.agg α=true)(h:Le m (b_ S c Q (nx S c n cf λp=>dn p.st p.d (cv x))))
 (G:(gm S c n cf).map (λp=>(p.k,bW S.N p.st.g p.az))=some (.p (.build z pl),some (vs.map .v)):=by kernel_rfl):Le m (b_ S c Q cf):=by
 have⟨p,u,a⟩:=eW G;simp at a;have⟨b,w⟩:=kE u;have⟨dr,fr,d,gd,now,k,az,dd,l,fs,st⟩:=p;obtain⟨rfl,C⟩:=a;exact Z8 n dr fr (⟨d,gd,now,.p (.build z pl),az,dd,[]⟩::l) fs st x vs rfl B D Zac (by
  simp only[nx,u]at h;omega)
end
theorem Z7(n:Nat){k:T'}{a b:Int}{f:Int->aY γ}(h:∀x,zW k a b=some x->Le ((f x).bind e) (b_ S c Q (nx S c n cf λp=>dn p.st p.d (.v (.int k x)))))
 (B:(gm S c n cf).map (λp=>(Kc p.k,bW S.N p.st.g p.az))=some (some .quo,some [.v (.int k a),.v (.int k b)]):=by kernel_rfl):Le (((zW k a b).bind f).bind e) (b_ S c Q cf):=by
 have⟨p,w,d⟩:=eW B;simp at d;have⟨t,u,g⟩:=LM d.1;refine pQ w ?_ h;rw[g];exact Le.of_eq (Yw d.2)
theorem aad(n:Nat)(k:T'){a b:Int}{f:Int->aY γ}(h:∀x,yJ a b=some x->Le ((f x).bind e) (b_ S c Q (nx S c n cf λp=>dn p.st p.d (.v (.int k x)))))
 (B:(gm S c n cf).map (λp=>(Kc p.k,bW S.N p.st.g p.az))=some (some .rem,some [.v (.int k a),.v (.int k b)]):=by kernel_rfl):Le (((yJ a b).bind f).bind e) (b_ S c Q cf):=by
 have⟨p,w,d⟩:=eW B;simp at d;have⟨t,u,g⟩:=LM d.1;refine pQ w ?_ h;rw[g];exact Le.of_eq (YT d.2)
theorem NR(n:Nat)(k:T'){a:V'}{b:Int}{f:Int->aY γ}(h:∀x,oU a b=some x->Le ((f x).bind e) (b_ S c Q (nx S c n cf λp=>dn p.st p.d (.v (.int .u8 x)))))
 (B:(gm S c n cf).map (λp=>(p.k,bW S.N p.st.g p.az))=some (.p .idxStr,some [.v (.str a),.v (.int k b)]):=by kernel_rfl):Le (((oU a b).bind f).bind e) (b_ S c Q cf):=by
 have⟨p,u,d⟩:=eW B;simp at d;refine pQ u ?_ h;rw[d.1];exact Le.of_eq (Td d.2)
section
variable{A:α->S'}{E:δ->S'}{pl:α->aY δ}{fn:Y'}{sc:X'}
theorem wX(n:Nat)(F:iu S c fn A E pl sc)(z:α){f:δ->aY γ}(h:∀x,pl z=some x->Le ((f x).bind e) (b_ S c Q (nx S c n cf λp=>dn p.st p.d (.v (result (E x))))))
 (B:(gm S c n cf).map (λp=>(p.k,(bW S.N p.st.g p.az).bind j9,(!p.dr||p.now||ez p.st.m p.fr [])))=some (.c,some (fn,(A z).map .v),true):=by kernel_rfl):Le (((pl z).bind f).bind e) (b_ S c Q cf):=by
 have⟨p,C,b⟩:=eW B;simp at b;have⟨D,G,O⟩:=b;have⟨I,g1,g2⟩:=ζg.1 G;have u:∀d(w:S'),SV.dF d (w.map .v)=false:=λd w=>by induction w with|nil=>rfl|cons a l J=>simp[SV.dF,SV.cM,J]
 have L:(!p.dr||p.now||ez p.st.m p.fr ((A z).map .v))=true:=by have:ez p.st.m p.fr ((A z).map .v)=ez p.st.m p.fr []:=(by unfold ez;simp[u];rfl);grind
 refine pQ C ?_ h;rw[D];exact Kj (F.h z) F.k g1 g2 (Kz _ _ _) L (λr=>by rw[jR];simp)
theorem Yb(n:Nat)(F:iu S c fn A E pl true)(z:α){f:δ->aY γ}(h:∀x,pl z=some x->Le ((f x).bind e) (b_ S c Q (nx S c n cf λp=>dn p.st p.d (.v (result (E x))))))
 (B:(gm S c n cf).map (λp=>(p.k,((bW S.N p.st.g p.az).bind j9).bind λq=>(oT (js p.st.m 8) q.2).map λvs=>(q.1,vs,((!p.dr||p.now)||ez p.st.m p.fr q.2))))=some (.c,some (fn,A z,true)):=by kernel_rfl):Le (((pl z).bind f).bind e) (b_ S c Q cf):=by
 have⟨p,u,a⟩:=eW B;simp at a;have⟨w,C⟩:=a;have⟨q,g1,g2⟩:=ζg.1 C;have⟨D,g3,g4⟩:=ζg.1 g1;have⟨vs,g5,g6⟩:=ζf.1 g2;simp only[ζc]at g6;obtain⟨e1,rfl,e3⟩:=g6;refine pQ u ?_ h;rw[w];exact Kj (F.h z) F.k g3 Zac g5 e3 (λr=>by rw[F.s rfl];rfl)
end
section
variable{N:Nat}[bt α]
theorem Nt(n:Nat)(k:T'){a:bU N α}{i:Int}{f:α->aY γ}(h:∀x,a.at i=some x->Le ((f x).bind e) (b_ S c Q (nx S c n cf λp=>dn p.st p.d (.v (.fptr (pa a i))))))
 (B:(gm S c n cf).map (λp=>(p.k,bW S.N p.st.g p.az))=some (.p (.idxA N (bt.size α)),some [cp a,.v (.int k i)]):=by kernel_rfl):Le (((a.at i).bind f).bind e) (b_ S c Q cf):=by
 have⟨p,u,b⟩:=eW B;simp at b;have⟨g,z⟩:=kE u;have⟨dr,fr,d,gd,now,C,az,dd,l,fs,st⟩:=p;obtain⟨rfl,D⟩:=b;exact Y7 n dr fr (⟨d,gd,now,.p (.idxA N (bt.size α)),az,dd,[]⟩::l) fs st k rfl Zac λx w=>by have:=h x w;simp only[nx,u]at this;omega
theorem SP(n k:Nat)(a:bU N α)(i:Int)(o:Nat)(x:α)(B:a.at i=some x){m:aY β}(h:Le m (b_ S c Q (nx S c n cf λp=>dn p.st p.d (.v (.fptr ((pa a i).drop (o+k)))))))
 (D:(gm S c n cf).map (λp=>(p.k,bW S.N p.st.g p.az,ble (o+k) (bt.size α)))=some (.p (.fieldAddr k),some [.v (.fptr ((pa a i).drop o))],true):=by kernel_rfl):Le m (b_ S c Q cf):=by
 have⟨p,u,b⟩:=eW D;simp at b;have⟨e,w⟩:=kE u;have⟨dr,fr,d,gd,now,z,az,dd,l,fs,st⟩:=p;obtain⟨rfl,C,G⟩:=b;exact aah n dr fr (⟨d,gd,now,.p (.fieldAddr k),az,dd,[]⟩::l) fs st a i o x B rfl Zac (by
  simp only[nx,u]at h;omega)
theorem Ot(n sz:Nat)(ag:X')(a:bU N α)(i:Int)(o:Nat)(x:α)(B:a.at i=some x)(v:V)(b:(cut (cells x) o sz).bind (mk ag)=some v){m:aY β}(h:Le m (b_ S c Q (nx S c n cf λp=>dn p.st p.d (.v v))))
 (D:(gm S c n cf).map (λp=>(p.k,bW S.N p.st.g p.az))=some (.r (.load sz ag),some [.v (.fptr ((pa a i).drop o))]):=by kernel_rfl):Le m (b_ S c Q cf):=by
 have⟨p,w,u⟩:=eW D;simp at u;have⟨e,z⟩:=kE w;have⟨dr,fr,d,gd,now,C,az,dd,l,fs,st⟩:=p;obtain⟨rfl,G⟩:=u;exact Zn n dr fr (⟨d,gd,now,.r (.load sz ag),az,dd,[]⟩::l) fs st a i o x B b v rfl Zac (by
  simp only[nx,w]at h;omega)
theorem Xf(n u:Nat)(st:St)(cs:ST){m:aY β}(B:st.new u=true)(h:Le m (b_ S c Q (nx S c n cf λ_=>{st with g:=bF st.g u (.ptr u 0),m:=bF st.m u (.box cs)})))
 (D:(gm S c n cf).map (λp=>(p.d,(Xc p.k).map (λz=>z.map SV.v),bW S.N p.st.g p.az,p.st))=some (some u,some cs,some [],st):=by kernel_rfl):Le m (b_ S c Q cf):=by
 have⟨p,C,a⟩:=eW D;simp only[ζc]at a;have⟨z,G,w⟩:=eW a.2.1;have⟨k,b⟩:=Xp G;refine AY C ?_ h;rw[a.1,b,EV,a.2.2.1,a.2.2.2];simp[B,qV,w]
theorem HZ(n:Nat)(k:T')(u:Nat){a:bU N α}{i:Int}{f:α->aY γ}(h:∀x,a.at i=some x->Le ((f x).bind e) (b_ S c Q (nx S c n cf λp=>dn p.st p.d (.ptr u (i.toNat*bt.size α+0)))))
 (B:(gm S c n cf).map (λp=>(p.k,bW S.N p.st.g p.az,bh p.st.m u))=some (.p (.idxA N (bt.size α)),some [.ptr u 0,.v (.int k i)],some (bx a)):=by kernel_rfl):Le (((a.at i).bind f).bind e) (b_ S c Q cf):=by
 have⟨p,w,b⟩:=eW B;simp at b;have⟨g,C⟩:=kE w;have⟨dr,fr,d,gd,now,D,az,dd,l,fs,st⟩:=p;obtain⟨rfl,G,I⟩:=b;exact Zl n dr fr (⟨d,gd,now,.p (.idxA N (bt.size α)),az,dd,[]⟩::l) fs st k u rfl Zac λx z=>by have:=h x z;simp only[nx,w]at this;omega
theorem TS(n sz:Nat)(ag:X')(u:Nat)(a:bU N α)(i:Int)(o:Nat)(x:α)(B:a.at i=some x)(v:V)(b:(cut (cells x) o sz).bind (mk ag)=some v){m:aY β}(h:Le m (b_ S c Q (nx S c n cf λp=>dn p.st p.d (.v v))))
 (D:(gm S c n cf).map (λp=>(p.k,bW S.N p.st.g p.az,bh p.st.m u,(!p.dr||p.now||fD p.fr [.ptr u 0])))=some (.r (.load sz ag),some [.ptr u (i.toNat*bt.size α+o)],some (bx a),true):=by kernel_rfl):Le m (b_ S c Q cf):=by
 have⟨p,z,w⟩:=eW D;simp at w;have⟨e,C⟩:=kE z;have⟨dr,fr,d,gd,now,G,az,dd,l,fs,st⟩:=p;obtain⟨rfl,I,J,L⟩:=w;exact YP n dr fr (⟨d,gd,now,.r (.load sz ag),az,dd,[]⟩::l) fs st u a i o x B b v rfl Zac (by
  simp only[nx,z]at h;omega)
end
section
variable{κ ν:Type}[bt κ][DecidableEq κ][Key κ][bt ν]
theorem Um(n u:Nat)(mp:Mo κ ν)(k:κ)(z:ν){m:aY β}(h:Le m (b_ S c Q (nx S c n cf λp=>dn p.st p.d (cv (um mp k z)))))
 (B:(gm S c n cf).map (λp=>(p.k,bW S.N p.st.g p.az,bh p.st.m u,(!p.dr||p.now||fD p.fr [.mp u,cv k])))=some (.r (.lookup (Key.kk κ) (enc z) false),some [.mp u,cv k],some (rS mp),true):=by kernel_rfl):Le m (b_ S c Q cf):=by
 have⟨p,w,a⟩:=eW B;simp at a;have⟨b,C⟩:=kE w;have⟨dr,fr,d,gd,now,D,az,dd,l,fs,st⟩:=p;obtain⟨rfl,G,I,J⟩:=a;exact YG n dr fr (⟨d,gd,now,.r (.lookup (Key.kk κ) (enc z) false),az,dd,[]⟩::l) fs st u mp k z rfl Zac (by
  simp only[nx,w]at h;omega)
theorem XX(n u:Nat)(mp:Mo κ ν)(k:κ)(v:ν){m:aY β}(h:Le m (b_ S c Q (nx S c n cf λp=>dn {p.st with m:=bF p.st.m u (rS (oK mp k v))} p.d (.v .undef))))
 (B:(gm S c n cf).map (λp=>(p.k,bW S.N p.st.g p.az,bh p.st.m u,(!p.dr||p.now)))=some (.l (.mapUp (Key.kk κ)),some [.mp u,cv k,cv v],some (rS mp),true):=by kernel_rfl):Le m (b_ S c Q cf):=by
 have⟨p,z,w⟩:=eW B;simp at w;have⟨a,C⟩:=kE z;have⟨dr,fr,d,gd,now,D,az,dd,l,fs,st⟩:=p;obtain⟨rfl,G,I,J⟩:=w;exact aaa n dr fr (⟨d,gd,now,.l (.mapUp (Key.kk κ)),az,dd,[]⟩::l) fs st u mp k v rfl Zac (by
  simp[nx,z]at h;omega)
end
theorem Y2(n:Nat)(st:St){rs:QR}{e:γ->aY S'}{r:γ}(svs:ST){ys:S'}(B:oT (js st.m 8) svs=some ys)(D:e r=some ys)
 (h:(iC S c n cf.1 cf.2.1 cf.2.2).map (λq=>(q.1,q.2.2,jP q.2.2 rs))=some (.rt,st,some svs):=by kernel_rfl):Le ((some r).bind e) (b_ S c (qc rs) cf):=by
 have⟨⟨fo,fs,st'⟩,u,a⟩:=eW h;simp at a;obtain⟨rfl,rfl,w⟩:=a;exact Y1 n svs B (by rw[u,w]) D
end
end Go.VE
namespace Go.VE
variable[bT]
section
variable{S:Sys}{c:bX}{β γ δ α:Type}[bt α]{Q:Out×St->aY β}{e:γ->aY β}{cf:Cf}
def xO(s x:Sl α):aY (Sl α):=if x.l=[]then some s else if s.l.length+x.l.length<=2147483648 then some (.row (s.l++x.l))else none
theorem UT(m:Tb bB)(n w:Nat)(x:Sl α)(B:n=bt.size α)(D:bh m w=some (cF x)):je m n (.own w)=some (rows x.l):=by rw[Cx,D,Cj n x B]
theorem J7(l:aX α):rows l=[]↔l=[]:=by unfold rows;simp
theorem RK(a b:aX α):rows a++rows b=rows (a++b):=by unfold rows;simp
theorem Ke(a:aX α):(rows a).length=a.length:=by unfold rows;simp
theorem WJ{st:St}{dr now:X'}{fr:So}{az:QP}{d n o:Nat}{s x:Sl α}{B:SV}(T:bW S.N st.g az=some [.own o,B])(hd:(!dr||now)=true)(D:bh st.m o=some (cF s))(U:je st.m n B=some (rows x.l))(G:n=bt.size α)(J:St.new {st with m:=dL o st.m} d=true):
 fH S c dr fr ⟨some d,none,now,.l (.append n),az,[],[]⟩ st=(xO s x).bind λW=>some {st with g:=bF st.g d (.own d),m:=bF (dL o st.m) d (cF W)}:=by
 rw[yo,T];simp only[ζb,hd,if_true,yD (UT st.m n o s G D) U];unfold xO
 by_cases h:x.l=[]
 .rw[if_pos h,(J7 x.l).2 h];simp only[yV,D,if_pos J,ζb];rfl
 rw[if_neg h];have a:rows x.l≠[]:=λe=>h ((J7 _).1 e)
 have w:yV st d n (.own o) (some (rows s.l)) (some (rows x.l))=if(rows s.l).length+(rows x.l).length<=2147483648/\KO (.own o)=true then(if St.new {st with m:=giveUp st.m (.own o)} d then some (.own d,{st with m:=bF (giveUp st.m (.own o)) d (.sl .row n (rows s.l++rows x.l))})else none)else none:=by unfold yV;generalize rows x.l=r at *;cases r with|nil=>exact absurd rfl a|cons y r=>rfl
 rw[w,Ke,Ke,RK]
 by_cases u:s.l.length+x.l.length<=2147483648
 .rw[if_pos ⟨u,rfl⟩,if_pos (show St.new {st with m:=giveUp st.m (.own o)} d=true from J),if_pos u];rw[ζb,ζb,G];rfl
 rw[if_neg (λk=>u k.1),if_neg u];rfl
theorem YO(n o u:Nat)(D:SV){s x:Sl α}{f:Sl α->aY γ}(G:∀p,gm S c n cf=some p->je p.st.m (bt.size α) D=some (rows x.l))
 (h:∀B,xO s x=some B->Le ((f B).bind e) (b_ S c Q (nx S c n cf λp=>{p.st with g:=bF p.st.g u (.own u),m:=bF (dL o p.st.m) u (cF B)})))
 (J:(gm S c n cf).map (λp=>(p.d,p.k,bW S.N p.st.g p.az,(!p.dr||p.now),bh p.st.m o,St.new {p.st with m:=dL o p.st.m} u))=some (some u,.l (.append (bt.size α)),some [.own o,D],true,some (cF s),true):=by kernel_rfl):Le (((xO s x).bind f).bind e) (b_ S c Q cf):=by
 have⟨p,w,a⟩:=eW J;simp only[ζc]at a;refine pQ w ?_ h;rw[a.1,a.2.1];exact Le.of_eq (WJ a.2.2.1 a.2.2.2.1 a.2.2.2.2.1 (G p w) rfl a.2.2.2.2.2)
theorem Oo(m:Tb bB)(x:Sl α):je m (bt.size α) (.v (cq x))=some (rows x.l):=by cases x<;>simp[cq,Sl.k,Sl.l,kg,je,rows]
theorem PU(n o u:Nat){s x:Sl α}{f:Sl α->aY γ}
 (h:∀B,xO s x=some B->Le ((f B).bind e) (b_ S c Q (nx S c n cf λp=>{p.st with g:=bF p.st.g u (.own u),m:=bF (dL o p.st.m) u (cF B)})))
 (D:(gm S c n cf).map (λp=>(p.d,p.k,bW S.N p.st.g p.az,(!p.dr||p.now),bh p.st.m o,St.new {p.st with m:=dL o p.st.m} u))=some (some u,.l (.append (bt.size α)),some [.own o,.v (cq x)],true,some (cF s),true):=by kernel_rfl):Le (((xO s x).bind f).bind e) (b_ S c Q cf):=
 YO n o u _ (λp _=>Oo p.st.m x) h D
end
theorem sK{α:Type}{l:aX α}{i:Nat}{x:α}(h:l[i]?=some x):l.set i x=l:=by obtain⟨hi,rfl⟩:=ζe.1 h;exact List.set_getElem_self hi
open Classical in
def Dw(E:Env)(g:Y')(cb:S')(a b:V):aY V:=if h:∃n y,b8 (run E n) g (a::b::cb) []=some y then some (Classical.choose (choose_spec h))else none
theorem Ge{E:Env}{g:Y'}{cb:S'}{a b y:V}(h:Dw E g cb a b=some y):∃n,∀k,n<=k->b8 (run E k) g (a::b::cb) []=some y:=by
 unfold Dw at h;split at h;next c=>cases h;exact⟨_,λk d=>oR (pT E d) (choose_spec (choose_spec c))⟩
 cases h
theorem Mc{E:Env}{g:Y'}{cb:S'}{a b y:V}{n:Nat}(h:b8 (run E n) g (a::b::cb) []=some y):Dw E g cb a b=some y:=by have d:∃n y,b8 (run E n) g (a::b::cb) []=some y:=⟨n,y,h⟩;cases c:Dw E g cb a b with|none=>unfold Dw at c;rw[dif_pos d]at c;cases c|some z=>have⟨m,u⟩:=Ge c;have:=u _ (Nat.le_max_right n m);rw[oR (pT E (Nat.le_max_left n m)) h]at this;cases this;rfl
theorem FC{n:Nat}{p:_root_.Fin n->Nat->Prop}(h:∀i,∃N,∀k,N<=k->p i k):∃N,∀i k,N<=k->p i k:=by induction n with|zero=>exact⟨0,λi=>i.elim0⟩|succ n u=>have⟨N,w⟩:=u (p:=λi=>p i.succ) λi=>h i.succ;have⟨M,a⟩:=h 0;refine⟨max N M,λi k b=>?_⟩;refine _root_.Fin.cases (a k Zaa) (λj=>w j k Zaa) i
def jE(x:S'):V:=x.headD .undef
def vm(es:Nat)(xs:T2):X':=es==1&&xs.all (λx=>x.length==1&&x.all V.one)&&decide (xs.length<=2147483648)
theorem AF{es:Nat}{xs:T2}(h:vm es xs=true):es=1/\xs.length<=2147483648/\∀(i:Nat)x,xs[i]?=some x->x=[jE x]/\(jE x).one=true:=by unfold vm at h;simp only[ζh,beq_iff_eq,all_eq_true,decide_eq_true_eq]at h;refine⟨h.1.1,h.2,λi x w=>?_⟩;have⟨a,z⟩:=h.1.2 x (mem_of_getElem? w);obtain⟨u,rfl⟩:=List.length_eq_one_iff.1 a;exact⟨rfl,z u Zab⟩
section
variable{H:bk}{Z:Nat->Prop}
theorem dz.Mf{k:Nat}{xs ys:S'}(h:dz H Z xs ys)(B:V.me k xs=true):borrows k H ys=some xs:=lC h.1 λj u v a b=>(h.2 j u v a b).borrow k (mV.1 B j u a)
theorem dz.borrows{xs ys:S'}(h:dz H Z xs ys):∃n,∀k,n<=k->borrows k H ys=some xs:=by have⟨n,u⟩:=mM xs;exact⟨n,λk a=>h.Mf (p9 a u)⟩
theorem QK{es:Nat}{xs:T2}(h:vm es xs=true){rs:T2}(B:fR H Z xs rs):dz H Z (xs.map jE) rs.flatten:=by induction xs generalizing rs with|nil=>have:=B.1;simp at this;have:rs=[]:=List.eq_nil_of_length_eq_zero (by simpa using this.symm);subst this;exact .nil|cons x xs D=>have⟨d,L,G⟩:=AF h;cases rs with|nil=>have:=B.1;simp at this|cons r rs=>have⟨e,_⟩:=G 0 x rfl;have C:=B.2 0 x r rfl rfl;rw[e]at C;obtain⟨u,O,rfl,c,w⟩:=C.inv;rw[w.c9];have z:vm es xs=true:=(by unfold vm at h⊢;simp only[all_cons,ζh,length_cons,decide_eq_true_eq]at h⊢;exact⟨⟨h.1.1,h.1.2.2⟩,Zaa⟩);exact .cons c (D z (rs:=rs) ⟨by have:=B.1;simpa using this,λj a b I J=>B.2 (j+1) a b I J⟩)
end
def tZ(E:Env)(g:Y')(cb:S')(a b:V):Pi:=match Dw E g cb a b with|some (.int .i64 c)=>some c|_=>none
theorem Rb{E:Env}{g:Y'}{cb:S'}{a b:V}{c:Int}(h:tZ E g cb a b=some c):∃n,∀k,n<=k->b8 (run E k) g (a::b::cb) []=some (.int .i64 c):=by
 unfold tZ at h;split at h;next c' d=>cases h;exact Ge d
 cases h
def BP(E:Env)(es:Nat)(xs:T2):S'->aY T2
 |[.clo g [] cb]=>match xs with
  |[]=>some []|x::l=>if vm es (x::l)&& !E.keep g then
   let t:_root_.Fin (l.length+1)->_root_.Fin (l.length+1)->Pi:=λi j=>tZ E g cb (jE (((x::l)[i.1]?).getD [])) (jE (((x::l)[j.1]?).getD []))
   if B8 t then some ((rN l.length (qj t)).toList.map λi=>((x::l)[i.1]?).getD [])else none
   else none
 |_=>none
def t_(E:Env):Hu:=⟨false,BP E⟩
theorem D8{n:Nat}{lt:_root_.Fin (n+1)->_root_.Fin (n+1)->X'}(h:Sort.SWO lt):(rN n lt).size=n+1:=by rw[Dz];have:=(Sort.pdq_sorts lt h (List.finRange (n+1)).toArray 0 (n+1) (Lib.bitLen (n+1)) true true (zero_le _) Zab (Or.inl rfl)).1.1;simpa using this
theorem Rj{E:Env}{f:Y'}(m:E.keep f=true)(ho:E.own f=false)(A:E.sort f=true)(F:E.ft f=none):nZ E f (t_ E)where
 keep:=m
 own:=ho
 le:=by intro es xs vs ys h;simp only[t_,BP]at h;split at h;split at h;cases h;exact⟨le_refl _,λ_=>rfl⟩;split at h;split at h;(next q=>cases h;have:=D8 (rq q).2;simp only[length_map,Array.length_toList,length_cons,this];exact⟨le_refl _,λ_=>trivial⟩);cases h;cases h;cases h
 none:=by intro es vs ys h H Z ws w K he;simp only[t_,BP]at h;split at h;obtain⟨R,r,rfl,V,M⟩:=K.inv;rw[M.c9];refine⟨1,[],λk m=>?_⟩;(cases k with|zero=>omega|succ k=>rcases he with rfl|rfl<;>simp[run,ku,F,A,rH,t_]);cases h
 row:=by
  intro es xs vs ys h H Z ws id off rs K O C I z hz;simp only[t_,BP]at h;split at h;rename_i g cb;obtain⟨R,r,rfl,V,M⟩:=K.inv;rw[M.c9];obtain⟨a',J,rfl,s,aa⟩:∃a' J,R=.clo g a' J/\dz H Z [] a'/\dz H Z cb J:=V.kS;rw[s.c9]at *;split at h;cases h;refine⟨1,rs,[],λk m=>?_,rfl,⟨rfl,λj u v o=>by simp at o⟩,z⟩;cases k with|zero=>omega|succ k=>have:H.set id (.row es rs)=H:=sK O;simp[run,ku,F,A,rH,t_,this]
  rename_i x l;split at h;rename_i D;simp only[ζh,Bool.not_eq_true']at D;obtain⟨c1,c3⟩:=D;obtain⟨rfl,Q,ae⟩:=AF c1;split at h;rename_i q;cases h;obtain⟨G,S⟩:=rq q;have B:∀i,Z i->Z i/\bn (H.set id .dead) i=bn H i:=λi hi=>⟨hi,by unfold bn;rw[getElem?_set_ne];rintro rfl;exact hz hi⟩;have T:=I.mono B;obtain⟨M1,U⟩:=(QK c1 T).borrows;simp only[length_cons]at U;obtain⟨M2,W⟩:=(aa.mono B).borrows;obtain⟨N,P⟩:=FC (p:=λi k=>∀j:_root_.Fin (l.length+1),b8 (run E k) g (jE (((x::l)[i.1]?).getD [])::jE (((x::l)[j.1]?).getD [])::cb) []=some (.int .i64 ((tZ E g cb (jE (((x::l)[i.1]?).getD [])) (jE (((x::l)[j.1]?).getD []))).getD 0))) (λi=>by
   obtain⟨N,P⟩:=FC (p:=λ(j:_root_.Fin (l.length+1))k=>b8 (run E k) g (jE (((x::l)[i.1]?).getD [])::jE (((x::l)[j.1]?).getD [])::cb) []=some (.int .i64 ((tZ E g cb (jE (((x::l)[i.1]?).getD [])) (jE (((x::l)[j.1]?).getD []))).getD 0))) (λj=>by
    obtain⟨c,d⟩:=G i j;obtain⟨n,hn⟩:=Rb d;exact⟨n,λk m=>by rw[hn k m,d];rfl⟩)
   exact⟨N,λk m j=>P j k m⟩)
  have X:∀k,N<=k->jv (run E k) g ((x::l).map jE) cb l.length=λi j=>tZ E g cb (jE (((x::l)[i.1]?).getD [])) (jE (((x::l)[j.1]?).getD [])):=λk m=>by funext i j;obtain⟨c,d⟩:=G i j;have e1:∀i:_root_.Fin (l.length+1),((x::l).map jE)[i.1]?=some (jE (((x::l)[i.1]?).getD [])):=λi=>(by have:i.1<(x::l).length:=i.2;rw[getElem?_map,ζd this];rfl);unfold jv;rw[e1 i,e1 j];simp only[P i k m j];rw[d];rfl
  have ab:=D8 S;generalize hL:(rN l.length (qj λi j:_root_.Fin (l.length+1)=>tZ E g cb (jE (((x::l)[i.1]?).getD [])) (jE (((x::l)[j.1]?).getD [])))).toList=L at *;have ad:L.length=l.length+1:=by rw[<-hL];simpa using ab
  simp only[length_cons]at C I Q;refine⟨max N (max M1 M2)+1,sN rs off l.length L,[],λk m=>?_,?_,?_,?_⟩;cases k with|zero=>omega|succ k=>simp only[run,ku,F,A,if_true,rH,O,t_,false_eq_true,if_false,length_cons];rw[if_pos ⟨trivial,trivial,C,Zaa,c3⟩,show(run E k).lv=k from oS E k,U k Zaa,W k Zaa];simp only[X k Zaa,q,if_true,hL,append_nil]
  simp[sN,ad];omega;have e:((sN rs off l.length L).drop off).take (L.map λi=>((x::l)[i.1]?).getD []).length=L.map λi=>(rs[off+i.1]?).getD []:=by unfold sN;have h0:(rs.take off).length=off:=(by simp;omega);rw[append_assoc,List.drop_append_of_le_length Zaa,List.drop_eq_nil_of_le Zaa,nil_append,length_map,List.take_append_of_le_length Zab,take_of_length_le Zab]
  rw[e];refine⟨Zab,λj a b s t=>?_⟩;rw[getElem?_map]at s t;obtain⟨i,hi,rfl⟩:=ζf.1 s;rw[hi]at t;simp only[map_some,ζa]at t;subst t;have Y:i.1<(x::l).length:=i.2;have y:off+i.1<rs.length:=by have:=i.2;omega
  refine I.2 i.1 _ _ (by rw[ζd Y];rfl) ?_;rw[getElem?_take,if_pos i.2,getElem?_drop,ζd y];rfl;intro c d u o;unfold sN at d;rcases mem_append.1 d with d|d;rcases mem_append.1 d with d|d;exact z c (List.mem_of_mem_take d) u o;obtain⟨i,_,rfl⟩:=mem_map.1 d;have y:off+i.1<rs.length:=by have:=i.2;omega
  rw[ζd y]at o;exact z _ (getElem_mem y) u o;exact z c (List.mem_of_mem_drop d) u o;cases h;cases h;cases h
def fF(N:Nat->Y')(F:WF):Arg->V
 |.s n=>get F n|.k c=>c|.f s=>.clo (N s) [] []
def jY(E:Env)(N:Nat->Y')(call:dP)(b:aY Nat)(now:X')(k:K)(vs:S')(H:bk):aY (V×bk):=
 match k,b with
 |.p p,_=>(bN N p vs).map λv=>(v,H)|.r r,none=>(fq H r vs).map λv=>(v,H)|.r r,some b=>(fq (H.take b) r vs).map λv=>(v,H)|.a a,none=>(mB a vs).map λx=>(x.2.val H.length,H++[x.1])|.l l,none=>eY H l vs|.l (.store n),some _=>if now then eY H (.store n) vs else none|.c,none=>match vs with
  |.clo g a c::u=>if E.keep g then gG E call g (a++u++c) H else match b8 call g (a++u++c) H with
   |some y=>if y.scalar then some (y,H)else none|none=>none
  |_=>none
 |.c,some b=>match vs with
  |.clo g a c::u=>if E.keep g then none else match b8 call g (a++u++c) (H.take b)with
   |some y=>if y.scalar then some (y,H)else none|none=>none
  |_=>none
 |_,_=>none
def lP(F:WF):aY Nat->V->WF
 |none,_=>F|some d,v=>set F d v
def dN(E:Env)(N:Nat->Y')(call:dP)(b:aY Nat):R'->WF->bk->aY (WF×bk)
 |[],F,H=>some (F,H)|o::r,F,H=>match o.gd with
  |none=>match jY E N call b o.now o.k (o.az.map (fF N F)) H with
   |some (v,H')=>dN E N call b r (lP F o.dst v) H'|none=>none
  |some _=>none
section
variable{X:CX}{N:Nat->Y'}{call:dP}{F F':WF}{H H':bk}
theorem LL(B:∀f s,X.nm f=some s->N s=f){o:U'}{x:Arg}(h:qd X.nm o=some x):ev F o=some (fF N F x):=by cases o with|tmp t=>simp[qd]at h;subst h;rfl|const w=>simp[qd]at h;split at h;rename_i c a;split at h;simp at h;subst h;exact a;grind;grind|func f=>obtain⟨s,u,rfl⟩:=ζf.1 h;show some (V.clo f [] [])=some (.clo (N s) [] []);grind|global i=>simp[qd]at h;split at h;rename_i c a;split at h;simp at h;subst h;simp[ev,a];rfl;grind;grind
theorem xJ(G:∀f s,X.nm f=some s->N s=f):∀{os:aX U'}{B:QP},os.mapM (qd X.nm)=some B->fC F os=some (B.map (fF N F))
 |[],B,h=>by simp at h;subst h;rfl|o::os,B,h=>by simp[ζg]at h;obtain⟨x,J,xs,D,rfl⟩:=h;simp[fC,LL G J,xJ G D]
theorem Ba(D:∀f s,X.nm f=some s->N s=f){B:X'}{ops:Rd}{i:Nat}{o:Oper}{ro:RO}(h:ng X B ops i o=some ro)(g:ro.gd=none):
 o.dst=ro.dst/\Ag X.nt o.dst=true/\gj ops F o=true/\((Ct X.E N F o.op (ro.az.map (fF N F)) ro.k/\ro.now=(B&&dR ops i)/\(B=true->dR ops i=false->∀a',qu ops i a'=[]\/∀t,o.op≠.load t (.tmp a')))\/(∃n,ro.k=.l (.storeF n))\/(∃n a,ro.k=.r (.loadF n a))\/(B=true/\DX X.E ops i=true/\cT o.op=.alloc/\(∃p,ro.k=.p p/\(p=.emptyC\/(∃a b,p=.makeC a b)\/∃a b c d,p=.buildC a b c d)/\∀y,bN N p (ro.az.map (fF N F))=some y->qg X.E F o.op=some y))\/∃n,ro.k=.e n):=by
 unfold ng at h;split at h
 .rename_i hd;have hd:=(Bool.and_eq_true_iff.1 hd).1;split at h
  .rename_i gd k os u hr;split at h
   .split at h
    .rename_i z;simp only[ζh]at z;have L:∀{gd:aY (Nat×X')},Db ops o=some gd->gd=none->gj ops F o=true:=λ{gd}u g=>by
      subst g;unfold gj;unfold Db at u
      cases G:o.guard with
      |none=>rfl|some O=>rw[G]at u;have⟨j,b⟩:=O;have⟨d,_,e⟩:=ζf.1 u;cases e
     split at h
     next Q=>obtain⟨S,C,rfl⟩:=ζf.1 h;have w:=jI D hr (xJ (F:=F) D C);exact⟨rfl,hd,L u g,.inr (.inr (.inr (.inl ⟨z.1,z.2,w.1,_,rfl,.inr (.inl ⟨_,_,rfl⟩),λy I=>Eb ⟨_,_,_,by assumption⟩ w I⟩)))⟩
     .rename_i Q;split at h
      next T=>obtain⟨U,rfl,rfl⟩:=T;obtain⟨S,C,rfl⟩:=ζf.1 h;have w:=jI D hr (xJ (F:=F) D C);exact⟨rfl,hd,L u g,.inr (.inr (.inr (.inl ⟨z.1,z.2,w.1,_,rfl,.inl rfl,λy I=>D2 ⟨_,_,_,by assumption⟩ w U I⟩)))⟩
      obtain⟨S,C,rfl⟩:=ζf.1 h;have w:=jI D hr (xJ (F:=F) D C);exact⟨rfl,hd,L u g,.inr (.inr (.inr (.inl ⟨z.1,z.2,w.1,_,rfl,.inr (.inr ⟨_,_,_,_,rfl⟩),λy I=>DR ⟨_,_,_,by assumption⟩ w I⟩)))⟩
     cases h
    obtain⟨S,C,rfl⟩:=ζf.1 h;simp only at g;subst g;refine⟨rfl,hd,?_,?_⟩
    .unfold gj;unfold Db at u
     cases G:o.guard with
     |none=>rfl|some O=>rw[G]at u;have⟨j,b⟩:=O;have⟨d,_,e⟩:=ζf.1 u;cases e
    rcases E_ B ops i k os with⟨e,W⟩|⟨_,_,n,a,l,Y,_,_,_,e⟩|⟨_,_,n,ag,a,_,_,e⟩|⟨_,_,_,n,_,e⟩
    .rw[e]at C⊢;refine .inl ⟨jI D hr (xJ D C),rfl,λhd Z a'=>?_⟩
     by_cases J:∃t,o.op=.load t (.tmp a')
     .have⟨t,J⟩:=J;rw[J]at hr;simp only[resolve]at hr;have⟨d,_,e⟩:=ζf.1 hr;simp only[ζc]at e;exact .inl (W _ _ a' hd Z e.1.symm e.2.symm)
     exact .inr λt h=>J ⟨t,h⟩
    .rw[e];exact .inr (.inl ⟨n,rfl⟩)
    .rw[e];exact .inr (.inr (.inl ⟨n,ag,rfl⟩))
    rw[e];exact .inr (.inr (.inr (.inr ⟨n,rfl⟩)))
   simp at h
  simp at h
 simp at h
theorem KF{a:Nat}{dst:aY Nat}(h:Ag a dst=true)(v:V):kJ a F dst v=some (lP F dst v):=by cases dst with|none=>rfl|some d=>simp[Ag]at h;simp[kJ,if_pos h,lP]
theorem Xh(J:∀f s,X.nm f=some s->N s=f){ops:Rd}{i:Nat}{o:Oper}{ro:RO}(h:ng X false ops i o=some ro)(q:ro.gd=none){v:V}(d:jY X.E N call none ro.now ro.k (ro.az.map (fF N F)) H=some (v,H')):
 gQ X.E call X.nt ops none o F H=some (lP F ro.dst v,H'):=by
 have⟨j,I,L,u⟩:=Ba (F:=F) J h q;have hd:c_ X.E call ops none F H o.op=some (v,H'):=by
  rcases u with⟨u,_⟩|⟨n,u⟩|⟨n,a,u⟩|⟨u,_⟩|⟨n,u⟩;generalize t:ro.k=k at d u;generalize ro.az.map (fF N F)=U at d u;unfold c_;cases k with|p p=>have⟨c,e⟩:=u;have⟨w,B,C⟩:=ζf.1 d;rw[c];simp only[zO (e w B),map_some];rw[C]|r r=>have⟨c,e⟩:=u;have⟨w,B,C⟩:=ζf.1 d;rw[c];simp only[e H w B,map_some];rw[C]|a a=>have⟨c,e⟩:=u;have⟨⟨ob,m⟩,B,C⟩:=ζf.1 d;rw[c];simp only[ot,false_eq_true,if_false,e _ B];exact congrArg some C|l l=>have⟨c,e⟩:=u;rw[c];exact e H _ d|e n=>exact u.elim|b=>simp[jY]at d|c=>obtain⟨c,f,O,rfl,e⟩:=u;rw[c];simp only[jY]at d;split at d;rename_i g a b Q D;simp only[List.cons.injEq]at D;obtain⟨rfl,rfl⟩:=D;split at d;(next z=>simp only[e,xP,eu,lI,z,Bool.and_self,if_true];exact d);rename_i z;split at d;rename_i y S;split at d;(next G=>simp only[e,xP,eu,lI,z,Bool.false_and,false_eq_true,if_false,S,G,if_true];exact d);simp at d;simp at d;simp at d
  .rw[u]at d;exfalso;have:∀ops i k os,(yT false ops i k os).1=k:=λ_ _ _ _=>rfl;unfold ng at h;simp only[Bool.false_and,false_eq_true,if_false,Bool.not_false,Bool.and_true]at h;split at h
   .split at h
    .rename_i gd k os T hr;split at h
     .obtain⟨O,W,rfl⟩:=ζf.1 h;simp only[this]at u;subst u;unfold resolve at hr;(repeat' split at hr)<;>first|(simp at hr;done)|(have⟨_,_,e⟩:=ζf.1 hr;simp at e;done)
     simp at h
    simp at h
   first|(simp at h;done)|contradiction
  rw[u]at d;simp[jY,fq]at d;cases u;rw[u]at d;simp[jY]at d
 unfold gQ;rw[L,if_pos rfl,hd];simp only[j,KF (j▸I),map_some]
theorem IV(D:∀f s,X.nm f=some s->N s=f){ops:Rd}:∀(rest:Rd){i:Nat}{B:R'}{F:WF}{H:bk},lU X false ops i rest=some B->dN X.E N call none B F H=some (F',H')->mU X.E call X.nt ops rest F H=some (F',H')
 |[],i,B,F,H,hc,h=>by simp[lU]at hc;subst hc;exact h|o::rest,i,B,F,H,hc,h=>by simp[lU]at hc;split at hc;rename_i ro rs a G;simp at hc;subst hc;simp[dN]at h;split at h;rename_i b;split at h;(next v H1 c=>simp[mU,Xh D a b c];exact IV D rest G h);grind;grind;grind
theorem Wk{ops:Rd}{i:Nat}{op:Op}(h:∀t a',op=.load t (.tmp a')->qu ops i a'=[]):oV ops i F op=true:=by unfold oV;grind
theorem Ye(Y:∀f s,X.nm f=some s->N s=f){ops:Rd}{b i:Nat}{o:Oper}(m:ops[i]?=some o){ro:RO}(h:ng X true ops i o=some ro)(q:ro.gd=none){v:V}(d:jY X.E N call (some b) ro.now ro.k (ro.az.map (fF N F)) H=some (v,H')):
 gQ X.E call X.nt ops (some (b,i)) o F H=some (lP F ro.dst v,H'):=by
 have⟨j,Z,x,u⟩:=Ba (F:=F) Y h q;have hd:c_ X.E call ops (some (b,i)) F H o.op=some (v,H'):=by
  rcases u with⟨u,z,B⟩|⟨n,u⟩|⟨n,a,u⟩|⟨_,I,J,p,u,_,L⟩|⟨n,u⟩;generalize E:ro.k=k at d u;generalize ro.az.map (fF N F)=vs at d u;unfold c_
  cases k with
  |p p=>have⟨c,e⟩:=u;have⟨w,C,D⟩:=ζf.1 d;rw[c];simp only[zO (e w C),map_some];rw[D]|r r=>have⟨c,e⟩:=u;have⟨w,C,D⟩:=ζf.1 d;have O:oV ops i F o.op=true:=Wk λt a' e=>(by by_cases U:dR ops i=true;exact D3 m e U;rcases B rfl (by simpa using U) a' with h|h;exact h;exact absurd e (h t));rw[c];simp only[e _ w C,O,if_true];rw[D]|a a=>simp[jY]at d|l l=>have⟨c,e⟩:=u;cases l with|store n=>simp only[jY]at d;split at d;(next W=>rw[z,Bool.true_and]at W;rw[c];simp only[W,Bool.true_or,if_true];exact e H _ d);simp at d|_=>simp[jY]at d
  |e n=>exact u.elim|b=>simp[jY]at d|c=>obtain⟨c,f,K,rfl,e⟩:=u;rw[c];simp only[jY]at d;split at d;rename_i g a b M G;simp only[List.cons.injEq]at G;obtain⟨rfl,rfl⟩:=G;split at d;simp at d;rename_i Q;split at d;rename_i y A;split at d;(next S=>simp only[e,xP,GU h rfl c,Bool.not_false,Bool.true_or,eu,lI,Q,Bool.false_and,false_eq_true,if_false,A,S,if_true];exact d);simp at d;simp at d;simp at d
  rw[u]at d;simp[jY]at d;rw[u]at d;simp[jY,fq]at d;rw[u]at d;have⟨w,C,D⟩:=ζf.1 d;have T:=L w C;unfold c_;rw[J];simp only[ot,I,if_true,T,map_some];exact congrArg some D;rw[u]at d;simp[jY]at d
 unfold gQ;rw[x,if_pos rfl,hd];simp only[j,KF (j▸Z),map_some]
theorem I4(D:∀f s,X.nm f=some s->N s=f){ops:Rd}{b:Nat}:∀(rest:Rd){i:Nat}{B:R'}{F:WF}{H:bk},ops.drop i=rest->lU X true ops i rest=some B->dN X.E N call (some b) B F H=some (F',H')->
 kF X.E call X.nt ops b (range' i rest.length) F H=some (F',H')
 |[],i,B,F,H,_,hc,h=>by simp[lU]at hc;subst hc;exact h|o::rest,i,B,F,H,hd,hc,h=>by simp[lU]at hc;split at hc;rename_i ro rs a J;simp at hc;subst hc;simp[dN]at h;split at h;rename_i c;split at h;rename_i v H1 d;have G:ops[i]?=some o:=(by have:(ops.drop i)[0]?=some o:=Zac;grind);have u:ops.drop (i+1)=rest:=(by rw[<-List.drop_drop,hd];rfl);simp[List.range'_succ,kF,G,Ye D G a c d];exact I4 D rest u J h;grind;grind;grind
def zl(l:R'):X':=l.all λo=>(match o.k with|.a _|.l (.storeF _)|.r (.loadF ..)|.p (.makeC ..)|.p (.buildC ..)|.p .emptyC|.e _=>false|_=>true)&&o.gd.isNone
theorem Eo(J:∀f s,X.nm f=some s->N s=f){ops:Rd}:∀(rest:Rd){i:Nat}{G:R'},lU X true ops i rest=some G->zl G=true->rest.any (λo=>cT o.op==.alloc)=false
 |[],_,_,_,_=>rfl|o::rest,i,G,hc,D=>by simp only[lU]at hc;split at hc;rename_i ro rs c T;simp only[ζa]at hc;subst hc;simp only[zl,all_cons,ζh,Option.isNone_iff_eq_none]at D;have⟨_,_,_,B⟩:=Ba (F:=[]) J c D.1.2;rw[List.any_cons,Eo J rest T D.2,Bool.or_false];rcases B with⟨B,_⟩|⟨n,B⟩|⟨n,a,B⟩|⟨_,_,_,p,B,u,_⟩|⟨n,B⟩;(cases b:ro.k with|a p=>have:=D.1.1;rw[b]at this;cases this|e p=>have:=D.1.1;rw[b]at this;cases this|_=>rw[b]at B;rw[B.1];rfl);have:=D.1.1;rw[B]at this;cases this;have:=D.1.1;rw[B]at this;cases this;have:=D.1.1;rw[B]at this;rcases u with rfl|⟨_,_,rfl⟩|⟨_,_,_,_,rfl⟩<;>cases this;have:=D.1.1;rw[B]at this;cases this;simp at hc
def iB(E:Env)(N:Nat->Y')(call:dP)(lf:Nat):RC->WF->bk->aY (Out×WF×bk)
 |.skip,F,H=>some (.norm,F,H)|.ops l,F,H=>(dN E N call none l F H).map λx=>(.norm,x.1,x.2)|.ua l,F,H=>if zl l then(dN E N call (some H.length) l F H).map λx=>(.norm,x.1,x.2)else none|.seq a b,F,H=>match iB E N call lf a F H with
  |some (.norm,F',H')=>iB E N call lf b F' H'|r=>r
 |.cond x a b,F,H=>match fF N F x with
  |.bool t=>if t then iB E N call lf a F H else iB E N call lf b F H|_=>none
 |.block id c,F,H=>match iB E N call lf c F H with
  |some (.exit B,F',H')=>if B=id then some (.norm,F',H')else some (.exit B,F',H')|r=>r
 |.loop c,F,H=>lF (iB E N call lf c) lf F H|.exit id,F,H=>some (.exit id,F,H)|.ret,F,H=>some (.ret,F,H)|_,_,_=>none
theorem IK{f g:WF->bk->aY (Out×WF×bk)}(h:∀F H r,f F H=some r->g F H=some r):∀(k:Nat)(F:WF)(H:bk)(r:Out×WF×bk),lF f k F H=some r->lF g k F H=some r
 |0,F,H,r,hr=>by simp[lF]at hr|k+1,F,H,r,hr=>by simp only[lF]at hr⊢;cases B:f F H with|none=>rw[B]at hr;simp at hr|some q=>rw[B]at hr;rw[h F H q B];have⟨o,F1,H1⟩:=q;cases o with|norm=>exact IK h k F1 H1 r hr|exit _=>exact hr|ret=>exact hr
theorem Rl(D:∀f s,X.nm f=some s->N s=f){lf:Nat}:∀(j:RC)(code:Code)(F:WF)(H:bk)(r:Out×WF×bk),bM X false code=some j->iB X.E N call lf j F H=some r->exec X.E call lf false X.nt code F H=some r:=by
 intro j
 induction j with
 |skip=>
  intro code F H r d h;simp only[iB,ζa]at h;subst h
  cases code with
  |skip=>rfl|label _=>rfl|region id ops u=>simp only[bM]at d;(repeat' split at d)<;>first|(simp at d;done)|(have⟨_,_,e⟩:=ζf.1 d;cases e)
  |_=>simp only[bM]at d;(repeat' split at d)<;>first|(simp at d;done)|(have⟨_,_,e⟩:=ζf.1 d;cases e)|cases d
 |ops l=>intro code F H r d h;cases code with|region id ops u=>simp only[bM]at d;split at d;split at d;have⟨_,_,e⟩:=ζf.1 d;cases e;simp at d;rename_i hd;have⟨T,G,e⟩:=ζf.1 d;cases e;simp only[iB]at h;obtain⟨⟨F',H'⟩,k,rfl⟩:=ζf.1 h;simp only[exec,j8,hd];rw[if_neg Zab,IV D _ G k];rfl|_=>simp only[bM]at d;(repeat' split at d)<;>first|(simp at d;done)|(have⟨_,_,e⟩:=ζf.1 d;cases e)|cases d
 |ua l=>intro code F H r d h;cases code with|region id ops u=>simp only[bM]at d;split at d;rename_i hd;split at d;rename_i I;have⟨T,G,e⟩:=ζf.1 d;cases e;simp only[iB]at h;split at h;(next U=>obtain⟨⟨F',H'⟩,k,rfl⟩:=ζf.1 h;have W:sV ops.toList=false:=Eo D _ G U;have:=I4 D ops.toList (i:=0) rfl G k;rw[<-List.range_eq_range']at this;simp only[exec,j8,hd,I,if_true,W,false_eq_true,if_false,this];rfl);simp at h;simp at d;have⟨_,_,e⟩:=ζf.1 d;cases e|_=>simp only[bM]at d;(repeat' split at d)<;>first|(simp at d;done)|(have⟨_,_,e⟩:=ζf.1 d;cases e)|cases d
 |seq a b w B=>
  intro code F H r d h
  cases code with
  |seq J L=>simp only[bM]at d;split at d;rename_i x y C O;cases d;simp only[iB]at h;simp only[exec];(cases g:iB X.E N call lf a F H with|none=>rw[g]at h;simp at h|some q=>rw[g]at h;rw[w J F H q C g];have⟨o,F1,H1⟩:=q;cases o with|norm=>exact B L F1 H1 r O h|exit _=>exact h|ret=>exact h);simp at d
  |region id ops u=>simp only[bM]at d;(repeat' split at d)<;>first|(simp at d;done)|(have⟨_,_,e⟩:=ζf.1 d;cases e)
  |_=>simp only[bM]at d;(repeat' split at d)<;>first|(simp at d;done)|(have⟨_,_,e⟩:=ζf.1 d;cases e)|cases d
 |cond x a b w B=>
  intro code F H r d h
  cases code with
  |cond c J L=>simp only[bM]at d;split at d;rename_i n y z C O Y;cases d;simp only[iB]at h;simp only[exec,LL (F:=F) D C];split at h;rename_i t Z;rw[Z];(cases t with|true=>simp only[if_true]at h⊢;exact w J F H r O h|false=>simp only[false_eq_true,if_false]at h⊢;exact B L F H r Y h);simp at h;simp at d
  |region id ops u=>simp only[bM]at d;(repeat' split at d)<;>first|(simp at d;done)|(have⟨_,_,e⟩:=ζf.1 d;cases e)
  |_=>simp only[bM]at d;(repeat' split at d)<;>first|(simp at d;done)|(have⟨_,_,e⟩:=ζf.1 d;cases e)|cases d
 |block id c Q=>
  intro code F H r d h
  cases code with
  |block S c'=>simp only[bM]at d;have⟨x,C,e⟩:=ζf.1 d;cases e;simp only[iB]at h;simp only[exec];cases g:iB X.E N call lf c F H with|none=>rw[g]at h;simp at h|some q=>rw[g]at h;rw[Q c' F H q C g];exact h
  |region id ops u=>simp only[bM]at d;(repeat' split at d)<;>first|(simp at d;done)|(have⟨_,_,e⟩:=ζf.1 d;cases e)
  |_=>simp only[bM]at d;(repeat' split at d)<;>first|(simp at d;done)|(have⟨_,_,e⟩:=ζf.1 d;cases e)|cases d
 |loop c Q=>
  intro code F H r d h
  cases code with
  |loop c'=>simp only[bM]at d;have⟨x,C,e⟩:=ζf.1 d;cases e;simp only[iB]at h;simp only[exec];exact IK (λF H r m=>Q c' F H r C m) lf F H r h|region id ops u=>simp only[bM]at d;(repeat' split at d)<;>first|(simp at d;done)|(have⟨_,_,e⟩:=ζf.1 d;cases e)
  |_=>simp only[bM]at d;(repeat' split at d)<;>first|(simp at d;done)|(have⟨_,_,e⟩:=ζf.1 d;cases e)|cases d
 |exit id=>
  intro code F H r d h
  cases code with
  |exit S=>simp only[bM,ζa,RC.exit.injEq]at d;subst d;exact h|region id ops u=>simp only[bM]at d;(repeat' split at d)<;>first|(simp at d;done)|(have⟨_,_,e⟩:=ζf.1 d;cases e)
  |_=>simp only[bM]at d;(repeat' split at d)<;>first|(simp at d;done)|(have⟨_,_,e⟩:=ζf.1 d;cases e)|cases d
 |ret=>
  intro code F H r d h
  cases code with
  |ret=>exact h|region id ops u=>simp only[bM]at d;(repeat' split at d)<;>first|(simp at d;done)|(have⟨_,_,e⟩:=ζf.1 d;cases e)
  |_=>simp only[bM]at d;(repeat' split at d)<;>first|(simp at d;done)|(have⟨_,_,e⟩:=ζf.1 d;cases e)|cases d
 |_=>intro code F H r d h;simp[iB]at h
end
def Ex(E:Env)(N:Nat->Y')(a:RC)(F:WF)(H:bk)(o:Out)(F':WF)(H':bk):Prop:=∃n,∀k,n<=k->iB E N (run E k) k a F H=some (o,F',H')
def rR(E:Env)(N:Nat->Y')(a:RC)(F:WF)(H:bk)(o:Out)(F':WF)(H':bk):Prop:=∃n,∀k,n<=k->∀u,n<=u->lF (iB E N (run E k) k a) u F H=some (o,F',H')
section
variable{E:Env}{N:Nat->Y'}{a b c:RC}{F F1 F':WF}{H H1 H':bk}{o:Out}{x:Arg}{id:Nat}
theorem Ex.ops{l:R'}(h:∃n,∀k,n<=k->dN E N (run E k) none l F H=some (F',H')):Ex E N (.ops l) F H .norm F' H':=let⟨n,h⟩:=h;⟨n,λk a=>by simp only[iB,h k a,map_some]⟩
theorem Ex.ei{l:R'}(h:∀call,dN E N call none l F H=some (F',H')):Ex E N (.ops l) F H .norm F' H':=Ex.ops ⟨0,λk _=>h _⟩
theorem Ex.ua{l:R'}(B:zl l=true)(h:∀call,dN E N call (some H.length) l F H=some (F',H')):Ex E N (.ua l) F H .norm F' H':=⟨0,λk _=>by simp only[iB,B,if_true,h,map_some]⟩
theorem Ex.N2{l:R'}(B:zl l=true)(h:∃n,∀k,n<=k->dN E N (run E k) (some H.length) l F H=some (F',H')):Ex E N (.ua l) F H .norm F' H':=let⟨n,h⟩:=h;⟨n,λk a=>by simp only[iB,B,if_true,h k a,map_some]⟩
theorem Ex.skip:Ex E N .skip F H .norm F H:=⟨0,λ_ _=>rfl⟩
theorem Ex.exit:Ex E N (.exit id) F H (.exit id) F H:=⟨0,λ_ _=>rfl⟩
theorem Ex.ret:Ex E N .ret F H .ret F H:=⟨0,λ_ _=>rfl⟩
theorem Ex.seq(c:Ex E N a F H .norm F1 H1)(B:Ex E N b F1 H1 o F' H'):Ex E N (.seq a b) F H o F' H':=by have⟨n,c⟩:=c;have⟨m,B⟩:=B;exact⟨max n m,λk d=>by simp only[iB,c k Zaa];exact B k Zaa⟩
theorem Ex.zQ(c:Ex E N a F H o F' H')(B:o≠.norm):Ex E N (.seq a b) F H o F' H':=by have⟨n,c⟩:=c;refine⟨n,λk d=>?_⟩;simp only[iB,c k d];cases o<;>first|exact absurd rfl B|rfl
theorem Ex.sy(B:fF N F x=.bool true)(h:Ex E N a F H o F' H'):Ex E N (.cond x a b) F H o F' H':=by have⟨n,h⟩:=h;exact⟨n,λk c=>by simp only[iB,B,if_true,h k c]⟩
theorem Ex.vw(B:fF N F x=.bool false)(h:Ex E N b F H o F' H'):Ex E N (.cond x a b) F H o F' H':=by have⟨n,h⟩:=h;exact⟨n,λk c=>by simp only[iB,B,false_eq_true,if_false,h k c]⟩
theorem Ex.block(h:Ex E N c F H .norm F' H'):Ex E N (.block id c) F H .norm F' H':=by have⟨n,h⟩:=h;exact⟨n,λk a=>by simp only[iB,h k a]⟩
theorem Ex.EZ(h:Ex E N c F H (.exit id) F' H'):Ex E N (.block id c) F H .norm F' H':=by have⟨n,h⟩:=h;exact⟨n,λk a=>by simp only[iB,h k a,if_true]⟩
theorem Ex.Po(h:Ex E N c F H .ret F' H'):Ex E N (.block id c) F H .ret F' H':=by have⟨n,h⟩:=h;exact⟨n,λk a=>by simp only[iB,h k a]⟩
theorem Ex.loop(h:rR E N c F H o F' H'):Ex E N (.loop c) F H o F' H':=by have⟨n,h⟩:=h;exact⟨n,λk a=>h k a k a⟩
theorem rR.step(a:Ex E N c F H .norm F1 H1)(B:rR E N c F1 H1 o F' H'):rR E N c F H o F' H':=by have⟨n,a⟩:=a;have⟨m,B⟩:=B;refine⟨max n m+1,λk b u w=>?_⟩;cases u with|zero=>omega|succ u=>simp only[lF,a k Zaa];exact B k Zaa u Zaa
theorem rR.stop(a:Ex E N c F H o F' H')(B:o≠.norm):rR E N c F H o F' H':=by have⟨n,a⟩:=a;refine⟨n+1,λk b u w=>?_⟩;cases u with|zero=>omega|succ u=>simp only[lF,a k Zaa];cases o<;>first|exact absurd rfl B|rfl
end
theorem Ex.run{E:Env}{nm:Y'->aY Nat}{N:Nat->Y'}(B:∀f s,nm f=some s->N s=f){f:Y'}{fi:FI}{a:RC}(D:E.ft f=some fi)(b:bM ⟨E,nm,fi.ntmps⟩ false fi.body=some a){args:S'}(G:args.length<=fi.ntmps){H H':bk}{F':WF}
 (h:Ex E N a args H .ret F' H'){vs:S'}(c:iR E F' H' fi.results=some vs):∃n,run E n (.fn f) args H=some (result vs,H'):=by
 have⟨n,h⟩:=h;refine⟨n+1,?_⟩;have:=Rl (X:=⟨E,nm,fi.ntmps⟩) (call:=Go.VE.run E n) B (lf:=n) a fi.body args H _ b (h n (le_refl _));simp only[Go.VE.run,ku,D,if_pos G,this,c,map_some]
@[simp] theorem th(F:WF)(i j:Nat)(v:V):get (set F i v) j=if i=j then v else get F j:=by
 split;next h=>subst h;exact uf F i v
 rename_i h;exact jG F v h
def refs:So->T2->T2
 |id::ids,r::rs=>[V.hsl id 1 0 r.length]::refs ids rs|_,_=>[]
def qW(r:S'):T2:=r.map λu=>[u]
structure uF(H:bk)(w:V)(o:Nat)(ids:List Nat)(rows:List (List V)):Prop where
 v:w=if rows=[]then .bG else .hsl o 1 0 rows.length
 ob:rows≠[]->H[o]?=some (.row 1 (refs ids rows))
 len:ids.length=rows.length
 r:∀(i id:Nat)(r:List V),ids[i]?=some id->rows[i]?=some r->H[id]?=some (.row 1 (qW r))
 nd:ids.Nodup
 ne:rows≠[]->o∉ids
theorem zR:∀{ids:So}{rows:T2},ids.length=rows.length->(refs ids rows).length=rows.length
 |[],[],_=>rfl|_::ids,_::rows,h=>by simp only[refs,length_cons,zR (ids:=ids) (rows:=rows) (by simpa using h)]
theorem KL:∀{ids:So}{rows:T2}(id:Nat)(r:S'),ids.length=rows.length->refs (ids++[id]) (rows++[r])=refs ids rows++[[V.hsl id 1 0 r.length]]
 |[],[],_,_,_=>rfl|_::ids,_::rows,id,r,h=>by simp only[refs,List.cons_append,KL (ids:=ids) (rows:=rows) id r (by simpa using h)]
theorem Is:∀{ids:So}{rows:T2}{i id:Nat}{r:S'},ids[i]?=some id->rows[i]?=some r->(refs ids rows)[i]?=some [V.hsl id 1 0 r.length]
 |[],_,_,_,_,h,_=>by simp at h|_::_,[],_,_,_,_,h=>by simp at h|a::ids,b::rows,0,id,r,h1,B=>by simp at h1 B;subst h1 B;rfl|a::ids,b::rows,i+1,id,r,h1,B=>by simpa[refs]using Is (ids:=ids) (rows:=rows) (i:=i) (by simpa using h1) (by simpa using B)
theorem JG:∀{ids:So}{rows:T2}{i:Nat}{r B:S'},rows[i]?=some r->B.length=r.length->refs ids (rows.set i B)=refs ids rows
 |[],_,_,_,_,_,_=>by simp[refs]|_::_,[],_,_,_,_,_=>by simp[refs]|a::ids,b::rows,0,r,B,h,D=>by simp at h;subst h;simp only[List.set_cons_zero,refs,D]|a::ids,b::rows,i+1,r,B,h,D=>by simp only[List.set_cons_succ,refs,JG (ids:=ids) (rows:=rows) (i:=i) (by simpa using h) D]
section
variable{H H':bk}{v:V}{o:Nat}{ids:So}{rows:T2}
theorem uF.nil(H:bk)(o:Nat):uF H .bG o [] []:=⟨rfl,λh=>absurd rfl h,rfl,λi id r h=>by simp at h,.nil,λh=>absurd rfl h⟩
theorem uF.heap(n:uF H v o ids rows)(B:rows≠[]->H'[o]?=H[o]?)(hi:∀id∈ids,H'[id]?=H[id]?):uF H' v o ids rows:=⟨n.v,λh=>by rw[B h];exact n.ob h,n.len,λi id r h1 u=>by rw[hi id (mem_of_getElem? h1)];exact n.r i id r h1 u,n.nd,n.ne⟩
theorem uF.lt(n:uF H v o ids rows):(rows≠[]->o<H.length)/\∀id∈ids,id<H.length:=by refine⟨λh=>(ζe.1 (n.ob h)).1,λid u=>?_⟩;have⟨i,hi⟩:=getElem?_of_mem u;have w:=(ζe.1 hi).1;have:=n.r i id _ hi (ζd (show i<rows.length from n.len▸w));exact(ζe.1 this).1
theorem uF.more(n:uF H v o ids rows)(X:bk):uF (H++X) v o ids rows:=n.heap (λh=>getElem?_append_left (n.lt.1 h)) λid u=>getElem?_append_left (n.lt.2 id u)
theorem uF.push(n:uF H v o ids rows)(r:S')(T:rows.length+1<=2147483648):
 ∃H',eY (H++[.row 1 (qW r)]++[.row 1 [[.hsl H.length 1 0 r.length]]]) (.append 1) [v,.hsl (H.length+1) 1 0 1]=some (.hsl (H.length+2) 1 0 (rows.length+1),H')/\
  uF H' (.hsl (H.length+2) 1 0 (rows.length+1)) (H.length+2) (ids++[H.length]) (rows++[r])/\H.length<=H'.length/\(∀id,id<H.length->id≠o\/rows=[]->H'[id]?=H[id]?):=by
 generalize C:H++[.row 1 (qW r)]++[.row 1 [[.hsl H.length 1 0 r.length]]]=H2;have u:H2.length=H.length+2:=by subst C;simp
 have z:∀id,id<H.length->H2[id]?=H[id]?:=λid h=>by subst C;rw[append_assoc,getElem?_append_left h]
 have g:H2[H.length]?=some (.row 1 (qW r)):=by subst C;simp
 have U:H2[H.length+1]?=some (.row 1 [[.hsl H.length 1 0 r.length]]):=by subst C;simp
 have f:=n.v;have e2:dM H2 1 (.hsl (H.length+1) 1 0 1)=some [[.hsl H.length 1 0 r.length]]:=by simp[dM,U,Ob.rows]
 by_cases c:rows=[]
 .subst c;rw[if_pos rfl]at f;subst f;have:ids=[]:=List.eq_nil_of_length_eq_zero n.len;subst this;refine⟨H2++[.row 1 [[.hsl H.length 1 0 r.length]]],?_,⟨Zab,λ_=>by rw[<-u];simp[refs],rfl,λi id O hi w=>?_,Zab,λ_=>Zab⟩,by simp[u];omega,λid D _=>?_⟩
  .have e1:dM H2 1 .bG=some []:=rfl;simp only[eY,e1,e2,gH,List.length_nil,length_singleton,map_some,u];simp
  .cases i with
   |zero=>simp at hi w;subst hi w;rw[getElem?_append_left Zaa];exact g|succ i=>simp at hi
  rw[getElem?_append_left Zaa];exact z id D
 rw[if_neg c]at f;subst f;have Q:=n.ob c;have I:=n.lt.1 c;have e1:dM H2 1 (.hsl o 1 0 rows.length)=some (refs ids rows):=by simp only[dM,if_true,z o I,Q,ζb,Ob.rows,zR n.len,zero_add,le_refl,List.drop_zero];rw[take_of_length_le (by rw[zR n.len];exact le_refl _)]
 have W:gH H2 (.hsl o 1 0 rows.length)=some (H2.set o .dead):=by simp only[gH,z o I,Q]
 have B:∀id,id≠o->(H2.set o Ob.dead++[Ob.row 1 (refs ids rows++[[.hsl H.length 1 0 r.length]])])[id]?=if id<H2.length then H2[id]?else(H2.set o Ob.dead++[Ob.row 1 (refs ids rows++[[.hsl H.length 1 0 r.length]])])[id]?:=λid G=>by split;(next h=>rw[getElem?_append_left (by simpa using h),getElem?_set_ne (Ne.symm G)]);rfl
 refine⟨H2.set o .dead++[.row 1 (refs ids rows++[[.hsl H.length 1 0 r.length]])],?_,⟨Zab,λ_=>?_,by simp[n.len],λi id O hi w=>?_,?_,λ_ d=>?_⟩,by simp[u];omega,λid D G=>?_⟩
 .simp only[eY,e1,e2,W,zR n.len,length_singleton,T,if_true,map_some,u]
 .rw[KL _ _ n.len,<-u];simp
 .have J:id≠o:=by
   rcases Nat.lt_or_ge i ids.length with h|h
   .rw[getElem?_append_left h]at hi;intro e;subst e;exact n.ne c (mem_of_getElem? hi)
   have:i=ids.length:=by have:=(ζe.1 hi).1;simp at this;omega
   subst this;simp at hi;subst hi;omega
  rcases Nat.lt_or_ge i ids.length with h|h
  .rw[getElem?_append_left h]at hi;rw[getElem?_append_left (by rw[<-n.len];exact h)]at w
   have L:=n.lt.2 id (mem_of_getElem? hi);rw[B id J,if_pos Zaa,z id L]
   exact n.r i id O hi w
  have:i=ids.length:=by have:=(ζe.1 hi).1;simp at this;omega
  subst this;simp at hi;subst hi;rw[n.len]at w;simp at w;subst w;rw[B _ J,if_pos Zaa];exact g
 .rw[List.nodup_append];exact⟨n.nd,Zab,λa X b S=>by simp at S;subst S;exact Nat.ne_of_lt (n.lt.2 a X)⟩
 .rcases mem_append.1 d with d|d
  .have:=n.lt.2 _ d;omega
  simp at d
 rw[B id (G.resolve_right c),if_pos Zaa];exact z id D
end
theorem T3{E:Env}{N:Nat->Y'}{F:WF}{H H1:bk}{call:dP}{b:aY Nat}{o:RO}{l:R'}{v:V}{r:WF×bk}(a:o.gd=none)(c:jY E N call b o.now o.k (o.az.map (fF N F)) H=some (v,H1))(h:dN E N call b l (lP F o.dst v) H1=some r):dN E N call b (o::l) F H=some r:=by simp only[dN,a,c];exact h
theorem vp{E:Env}{N:Nat->Y'}{F:WF}{H:bk}{call:dP}{b:aY Nat}{o:RO}{l:R'}{v:V}{r:WF×bk}(a:o.gd=none)(c:jY E N call b o.now o.k (o.az.map (fF N F)) H=some (v,H))(h:dN E N call b l (lP F o.dst v) H=some r):dN E N call b (o::l) F H=some r:=T3 a c h
theorem wB{E:Env}{N:Nat->Y'}{F:WF}{H:bk}{call:dP}{b:aY Nat}:dN E N call b [] F H=some (F,H):=rfl
theorem Qr{n:Nat}(h:n<=2147483648):wrap .i64 ((n:Int)+1)=((n+1:Nat):Int):=by simp[wrap,IntKind.bits,signed];omega
theorem Yx{n:Nat}(h:n<=2147483648):wrap .i64 (((n+1:Nat):Int)-1)=(n:Int):=by simp[wrap,IntKind.bits,signed];omega
theorem II(H:bk):H.take H.length=H:=List.take_length
theorem Dg{E:Env}{nm:Y'->aY Nat}{f:Y'}{a:RC}{n:Nat}{rs:aX ResultVar}(h:((E.ft f).map λfi=>(bM ⟨E,nm,fi.ntmps⟩ false fi.body,ble n fi.ntmps,fi.results))=some (some a,true,rs)):
 ∃fi,E.ft f=some fi/\bM ⟨E,nm,fi.ntmps⟩ false fi.body=some a/\n<=fi.ntmps/\fi.results=rs:=by
 have⟨fi,b,u⟩:=ζf.1 h;simp only[ζc]at u;exact⟨fi,b,u.1,Nat.le_of_ble_eq_true u.2.1,u.2.2⟩
theorem Gx{x:V}(h:x.one=true):x.cells=[x]:=by cases x<;>first|rfl|(simp[V.one]at h)
theorem Xi{call:dP}{f:Y'}{args az:S'}{H:bk}(h:borrows call.lv H args=some az)(a:∀x∈az,x.closed=true):b8 call f args H=b8 call f az []:=by
 have:borrows call.lv [] az=some az:=by clear h;unfold borrows;induction az with|nil=>rfl|cons x l u=>simp only[iU,eH call.lv [] (a x Zab),u λy w=>a y (List.mem_cons_of_mem _ w)]
 unfold b8;rw[h,this]
def kept(t:Nat->X')(n:Nat):So:=(range n).filter λi=>i==0|| !t i
theorem yd(t:Nat->X')(n:Nat):kept t (n+1)=kept t n++if n==0|| !t n then[n]else[]:=by unfold kept;rw[List.range_succ,List.filter_append,List.filter_cons];rfl
theorem B4(t:Nat->X'):∀n,(kept t n).length<=n:=λn=>by unfold kept;exact Nat.le_trans (List.length_filter_le ..) Zab
theorem LR{t:Nat->X'}{n i:Nat}(h:i∈kept t n):i<n:=by unfold kept at h;exact mem_range.1 (List.mem_filter.1 h).1
theorem C0{t:Nat->X'}:∀n,(∀i,0<i->i<n->t i=false)->kept t n=range n
 |0,_=>rfl|n+1,h=>by rw[yd,C0 n λi a B=>h i a Zaa,List.range_succ];congr 1;cases n with|zero=>rfl|succ n=>rw[h (n+1) Zaa Zaa];simp
theorem Bf{t:Nat->X'}{k:Nat}(B:0<k)(a:t k=true):∀n,k<n->(kept t n).length+1<=n
 |0,h=>Zaa|n+1,h=>by rw[yd];by_cases e:n=k;subst e;have:(n==0|| !t n)=false:=(by simp[a];omega);rw[this];have:=B4 t n;simp;omega;have:=Bf B a n Zaa;split<;>simp<;>omega
namespace cmpX
instance{n:Nat}:OfNat Arg n:=⟨.s n⟩
def r1:R':=[o1 4 (.k (.bG)) []]
def r2:R':=[o1 8 0 [],o2 9 (.p .lenSl) [8] [],o2 10 (.p (.bin (some .int) none .lss)) [9,.k (.int .i64 2)] []]
def r3:R':=[o1 11 0 [],o1 4 11 []]
def r4:R':=[o1 5 (.k (.int .i64 1)) []]
def r5:R':=[o1 12 5 [],o1 13 0 [],o2 14 (.p .lenSl) [13] [],o2 15 (.p (.bin (some .int) none .lss)) [12,14] []]
def on(d:Nat)(k:K)(az:QP):RO:=⟨some d,none,true,k,az,[],[]⟩
def r6:R':=[o1 18 1 [],o1 19 0 [],o1 20 5 [],o2 21 (.p (.idxS 1)) [19,20] [],o2 22 (.r (.load 1 false)) [21] [],o1 23 0 [],o1 24 5 [],o2 25 (.p (.bin (some .int) none .sub)) [24,.k (.int .i64 1)] [],o2 26 (.p (.idxS 1)) [23,25] [],o2 27 (.r (.load 1 false)) [26] [],on 28 .c [18,22,27]]
def r7:R':=[o1 29 0 [],o1 30 5 [],o2 31 (.p (.slice 1 true false)) [29,30] [],o1 6 31 []]
def r8:R':=[o1 7 (.k (.int .i64 1)) []]
def r9:R':=[o1 32 7 [],o1 33 6 [],o2 34 (.p .lenSl) [33] [],o2 35 (.p (.bin (some .int) none .lss)) [32,34] []]
def IS:R':=[o1 38 1 [],o1 39 6 [],o1 40 7 [],o2 41 (.p (.idxS 1)) [39,40] [],o2 42 (.r (.load 1 false)) [41] [],o1 43 6 [],o1 44 7 [],o2 45 (.p (.bin (some .int) none .sub)) [44,.k (.int .i64 1)] [],o2 46 (.p (.idxS 1)) [43,45] [],o2 47 (.r (.load 1 false)) [46] [],on 48 .c [38,42,47],on 49 (.p (.not)) [48]]
def ID:R':=[o1 50 0 [],o1 51 5 [],o1 52 6 [],o1 53 7 [],o2 54 (.p (.idxS 1)) [52,53] [],o2 55 (.r (.load 1 false)) [54] [],o2 56 (.p (.idxS 1)) [50,51] [],⟨none,none,false,.l (.store 1),[56,55],[],[]⟩]
def IZ:R':=[o1 57 5 [],o2 58 (.p (.bin (some .int) none .add)) [57,.k (.int .i64 1)] [],o1 5 58 []]
def Jr:R':=[o1 36 7 [],o2 37 (.p (.bin (some .int) none .add)) [36,.k (.int .i64 1)] [],o1 7 37 []]
def ZR:RC:=.seq (.seq (.ops r9) (.cond (.s 35) (.skip) (.exit 2))) (.seq (.block 3 (.seq (.ua IS) (.cond (.s 49) (.seq (.ops ID) (.ops IZ)) (.skip)))) (.ops Jr))
def Ji:R':=[o1 59 0 [],o1 60 5 [],o2 61 (.p (.slice 1 true false)) [59,60] [],⟨none,none,false,.l (.clear 1 [.bG]),[61],[],[]⟩]
def Kl:R':=[o1 62 0 [],o1 63 5 [],o2 64 (.p (.slice 1 false true)) [62,63] [],o1 4 64 []]
def r16:R':=[o1 16 5 [],o2 17 (.p (.bin (some .int) none .add)) [16,.k (.int .i64 1)] [],o1 5 17 []]
def TG:RC:=.seq (.seq (.ops r5) (.cond (.s 15) (.skip) (.exit 0))) (.seq (.block 1 (.seq (.ua r6) (.cond (.s 28) (.seq (.ops r7) (.seq (.seq (.ops r8) (.block 2 (.loop ZR))) (.seq (.ops Ji) (.seq (.ops Kl) (.ret))))) (.skip)))) (.ops r16))
def WR:R':=[o1 65 0 [],o1 4 65 []]
def code:RC:=.seq (.ops r1) (.seq (.seq (.ops r2) (.cond (.s 10) (.seq (.ops r3) (.ret)) (.skip))) (.seq (.seq (.ops r4) (.block 0 (.loop TG))) (.seq (.ops WR) (.ret))))
section
variable{E:Env}{N:Nat->Y'}{F:WF}{H:bk}{call:dP}{id off L k:Nat}
theorem ld{B:T2}{el:Nat}{v:V}(h:H[id]?=some (.row 1 B))(a:B[el]?=some [v]):fq H (.load 1 false) [.hptr id el 0]=some v:=by simp[fq,eN,h,Ob.rows,a,cut,mk]
theorem T4{i:Nat}(h:i<L):mE 1 (.hsl id 1 off L) (i:Int)=some (.hptr id (off+i) 0):=by unfold mE;rw[if_neg Zaa];simp[h]
attribute [local simp] dN jY fF bN lP th mT tg fq
theorem x2(a:get F 0=.hsl id 1 off L):∃F',(∀call,dN E N call none r2 F H=some (F',H))/\get F' 10=.bool (decide ((L:Int)<2))/\(∀s,s<8->get F' s=get F s):=by refine⟨_,λcall=>by simp[r2,a,oP];rfl,Zab,?_⟩;simp;grind
theorem x5(a:get F 0=.hsl id 1 off L)(b:get F 5=.int .i64 k):∃F',(∀call,dN E N call none r5 F H=some (F',H))/\get F' 15=.bool (decide (k<L))/\(∀s,s<8->get F' s=get F s):=by refine⟨_,λcall=>by simp[r5,a,b,oP];rfl,Zab,?_⟩;simp;grind
theorem WN{g:Y'}{cb:S'}{B:T2}{o2 L2 i:Nat}{a b:V}{t:X'}(h:H[id]?=some (.row 1 B))(hi:i+1<L2)(D:i<=2147483648)(G:B[o2+(i+1)]?=some [a])(J:B[o2+i]?=some [b])(d:E.keep g=false)(e:get F 1=.clo g [] cb):
 (get F 0=.hsl id 1 o2 L2->get F 5=.int .i64 ((i+1:Nat):Int)->∃F',(∀call,b8 call g (a::b::cb) H=some (.bool t)->dN E N call (some H.length) r6 F H=some (F',H))/\get F' 28=.bool t/\(∀s,s<8->get F' s=get F s))/\
 (get F 6=.hsl id 1 o2 L2->get F 7=.int .i64 ((i+1:Nat):Int)->∃F',(∀call,b8 call g (a::b::cb) H=some (.bool t)->dN E N call (some H.length) IS F H=some (F',H))/\get F' 49=.bool (!t)/\(∀s,s<8->get F' s=get F s)):=by
 have hd:=Yx D;have e1:=ld h G;have e2:=ld h J;have i1:=T4 (id:=id) (off:=o2) (L:=L2) hi;have i2:=T4 (id:=id) (off:=o2) (L:=L2) (show i<L2 by omega)
 simp at i1 hd;refine⟨λf j=>⟨_,λcall c=>by simp[-fq,r6,on,f,e,j,i1,i2,e1,e2,hd,d,c,V.scalar,II];rfl,Zab,?_⟩,λf6 k=>⟨_,λcall c=>by simp[-fq,IS,on,e,f6,k,i1,i2,e1,e2,hd,d,c,V.scalar,II];rfl,Zab,?_⟩⟩<;>exactλs u=>by simp;repeat (rw[if_neg Zaa])
end
end cmpX
namespace cmpX
section
variable{E:Env}{N:Nat->Y'}{F:WF}{H:bk}{call:dP}{id off L k:Nat}
attribute [local simp] dN jY fF bN lP th mT tg fq
theorem x7(a:get F 0=.hsl id 1 off L)(b:get F 5=.int .i64 k)(c:k<=L):∃F',(∀call,dN E N call none r7 F H=some (F',H))/\get F' 6=.hsl id 1 (off+k) (L-k)/\(∀s,s<8->s≠6->get F' s=get F s):=by
 have e:iX 1 (.hsl id 1 off L) (some k) none=some (.hsl id 1 (off+k) (L-k)):=by unfold iX ec;grind
 refine⟨_,λcall=>by simp[r7,a,b,nq,e];rfl,Zab,?_⟩;simp;grind
theorem x9{o2 L2 m:Nat}(f6:get F 6=.hsl id 1 o2 L2)(a:get F 7=.int .i64 m):∃F',(∀call,dN E N call none r9 F H=some (F',H))/\get F' 35=.bool (decide (m<L2))/\(∀s,s<8->get F' s=get F s):=by refine⟨_,λcall=>by simp[r9,f6,a,oP];rfl,Zab,?_⟩;simp;grind
theorem x11{B:T2}{o2 L2 m p:Nat}{a z:V}(h:H[id]?=some (.row 1 B))(c:get F 0=.hsl id 1 off L)(d:get F 5=.int .i64 p)(f6:get F 6=.hsl id 1 o2 L2)(e:get F 7=.int .i64 m)(D:m<L2)(hp:p<L)
 (G:B[o2+m]?=some [a])(J:B[off+p]?=some [z])(b:a.one=true):
 ∃F',(∀call,dN E N call none ID F H=some (F',H.set id (.row 1 (B.set (off+p) [a]))))/\(∀s,s<8->get F' s=get F s):=by
 have i1:=T4 (id:=id) (off:=o2) D;have i2:=T4 (id:=id) (off:=off) hp;have e1:=ld h G;have u:eY H (.store 1) [.hptr id (off+p) 0,a]=some (.undef,H.set id (.row 1 (B.set (off+p) [a]))):=by simp[eY,h,J,Gx b,b]
 refine⟨_,λcall=>by simp[-fq,ID,c,d,f6,e,i1,i2,e1,u];rfl,?_⟩
 simp;grind
theorem N9{p:Nat}(hp:p<=2147483648):(get F 5=.int .i64 p->∃F',(∀call,dN E N call none IZ F H=some (F',H))/\get F' 5=.int .i64 ((p+1:Nat):Int)/\(∀s,s<8->s≠5->get F' s=get F s))/\
 (get F 7=.int .i64 p->∃F',(∀call,dN E N call none Jr F H=some (F',H))/\get F' 7=.int .i64 ((p+1:Nat):Int)/\(∀s,s<8->s≠7->get F' s=get F s))/\
 (get F 5=.int .i64 p->∃F',(∀call,dN E N call none r16 F H=some (F',H))/\get F' 5=.int .i64 ((p+1:Nat):Int)/\(∀s,s<8->s≠5->get F' s=get F s)):=by
 have u:=Qr hp;refine⟨λf=>⟨_,λcall=>by simp[IZ,f,u];rfl,Zab,?_⟩,λf=>⟨_,λcall=>by simp[Jr,f,u];rfl,Zab,?_⟩,λf=>⟨_,λcall=>by simp[r16,f,u];rfl,Zab,?_⟩⟩<;>
  (simp;grind)
theorem x14{B:T2}{p:Nat}(h:H[id]?=some (.row 1 B))(a:get F 0=.hsl id 1 off L)(b:get F 5=.int .i64 p)(hp:p<L)(D:off+L<=B.length):
 ∃F',(∀call,dN E N call none Ji F H=some (F',H.set id (.row 1 (B.take (off+p)++replicate (L-p) [.bG]++B.drop (off+L)))))/\(∀s,s<8->get F' s=get F s):=by
 have e:iX 1 (.hsl id 1 off L) (some p) none=some (.hsl id 1 (off+p) (L-p)):=by unfold iX ec;grind
 obtain⟨q,u⟩:∃q,L-p=q+1:=⟨L-p-1,Zaa⟩
 have c:eY H (.clear 1 [.bG]) [.hsl id 1 (off+p) (L-p)]=some (.undef,H.set id (.row 1 (B.take (off+p)++replicate (L-p) [.bG]++B.drop (off+L)))):=by simp[eY,Eg,u,h];grind
 refine⟨_,λcall=>by simp[Ji,a,b,nq,e,c];rfl,?_⟩
 simp;grind
theorem x15{p:Nat}(a:get F 0=.hsl id 1 off L)(b:get F 5=.int .i64 p)(hp:p<=L):∃F',(∀call,dN E N call none Kl F H=some (F',H))/\get F' 4=.hsl id 1 off p:=by
 have e:iX 1 (.hsl id 1 off L) none (some p)=some (.hsl id 1 off p):=by unfold iX ec;grind
 exact⟨_,λcall=>by simp[Kl,a,b,nq,e];rfl,Zab⟩
theorem xmv:∃F',(∀call,dN E N call none WR F H=some (F',H))/\get F' 4=get F 0:=⟨_,λcall=>by simp[WR];rfl,Zab⟩
theorem Ty:∃F',(∀call,dN E N call none r3 F H=some (F',H))/\get F' 4=get F 0:=⟨_,λcall=>by simp[r3];rfl,Zab⟩
end
structure Ie(E:Env)(g:FuncId)(cb:List V)(H:bk)(id off L:Nat)(rs:List (List V))(A:Nat->V)(t:Nat->Bool):Prop where
 row:H[id]?=some (.row 1 rs)
 len:off+L<=rs.length
 small:L<=2147483648
 at_:∀i,i<L->rs[off+i]?=some [A i]
 one:∀i,i<L->(A i).one=true
 keep:E.keep g=false
 cmp:∃n,∀k,n<=k->∀i,i+1<L->∀cur,b8 (run E k) g (A (i+1)::A i::cb) (H.set id (.row 1 cur))=some (.bool (t (i+1)))
structure Head(g:FuncId)(cb:List V)(id off L kk m:Nat)(rs:List (List V))(A:Nat->V)(t:Nat->Bool)(F:Frame)(cur:List (List V)):Prop where
 f0:get F 0=.hsl id 1 off L
 f1:get F 1=.clo g [] cb
 f5:get F 5=.int .i64 ((kept t (kk+m)).length:Nat)
 f6:get F 6=.hsl id 1 (off+kk) (L-kk)
 f7:get F 7=.int .i64 m
 len:cur.length=rs.length
 pre:∀p i,(kept t (kk+m))[p]?=some i->cur[off+p]?=some [A i]
 post:∀i,kk+m<=i+1->i<L->cur[off+i]?=some [A i]
 out:∀j,j<off\/off+L<=j->cur[j]?=rs[j]?
 cell:∀i,i<L->∃j,j<L/\cur[off+i]?=some [A j]
section
variable{E:Env}{N:Nat->Y'}{g:Y'}{cb:S'}{H:bk}{id off L kk:Nat}{rs:T2}{A:Nat->V}{t:Nat->X'}
theorem YX(X:Ie E g cb H id off L rs A t)(x:0<kk)(ah:kk<L)(y:t kk=true):∀(d m:Nat)(F:WF)(B:T2),kk+m+d=L->0<m->Head g cb id off L kk m rs A t F B->
 ∃F' D,rR E N ZR F (H.set id (.row 1 B)) (.exit 2) F' (H.set id (.row 1 D))/\Head g cb id off L kk (L-kk) rs A t F' D:=by
 have O:=(ζe.1 X.row).1;have G:∀B,(H.set id (.row 1 B))[id]?=some (.row 1 B):=λB=>getElem?_set_self O
 have ai:=X.small;have af:=X.len;intro d
 induction d with
 |zero=>
  intro m F B M P h;have R:m=L-kk:=Zaa
  subst R;obtain⟨F1,e1,e2,e3⟩:=x9 h.f6 h.f7;refine⟨F1,B,rR.stop (Ex.zQ (Ex.seq (Ex.ei e1) (Ex.vw (by simp[fF,e2]) Ex.exit)) Zab) Zab,?_⟩
  exact⟨by rw[e3 0 Zaa];exact h.f0,by rw[e3 1 Zaa];exact h.f1,by rw[e3 5 Zaa];exact h.f5,by rw[e3 6 Zaa];exact h.f6,by rw[e3 7 Zaa];exact h.f7,h.len,h.pre,h.post,h.out,h.cell⟩
 |succ d ih=>
  intro m F B M P h;obtain⟨F1,a1,a2,a3⟩:=x9 h.f6 h.f7;have T:fF N F1 35=.bool true:=by show get F1 35=_;rw[a2,decide_eq_true Zaa]
  obtain⟨m',rfl⟩:∃m',m=m'+1:=⟨m-1,Zaa⟩
  obtain⟨n0,ab⟩:=X.cmp;have q:B[off+kk+(m'+1)]?=some [A (kk+m'+1)]:=by have:=h.post (kk+m'+1) Zaa Zaa;grind
  have c2:B[off+kk+m']?=some [A (kk+m')]:=by have:=h.post (kk+m') Zaa Zaa;grind
  obtain⟨F2,b1,b,b3⟩:=(WN (L2:=L-kk) (G B) Zaa Zaa q c2 X.keep (by rw[a3 1 Zaa];exact h.f1)).2 (by rw[a3 6 Zaa];exact h.f6) (by rw[a3 7 Zaa];exact h.f7)
  have U:∃n,∀k,n<=k->dN E N (run E k) (some (H.set id (.row 1 B)).length) IS F1 (H.set id (.row 1 B))=some (F2,H.set id (.row 1 B)):=⟨n0,λk hk=>b1 _ (ab k hk (kk+m') Zaa B)⟩
  have w:=λs r=>(b3 s r).trans (a3 s r)
  have ad:(kept t (kk+(m'+1))).length+1<=kk+(m'+1):=Bf x y _ Zaa
  have u:kept t (kk+(m'+1)+1)=kept t (kk+(m'+1))++if t (kk+m'+1)then[]else[kk+m'+1]:=by rw[yd];grind
  have z:kk+(m'+1+1)=kk+(m'+1)+1:=Zaa
  cases W:t (kk+m'+1)with
  |true=>
   rw[W]at b u;simp at u;obtain⟨v,Y,c,Q⟩:=(N9 (p:=m'+1) Zaa).2.1 (by rw[w 7 Zaa];exact h.f7)
   obtain⟨F',D,i1,i2⟩:=ih (m'+1+1) v B Zaa Zaa ⟨by rw[Q 0 Zaa Zaa,w 0 Zaa];exact h.f0,by rw[Q 1 Zaa Zaa,w 1 Zaa];exact h.f1,
    by rw[Q 5 Zaa Zaa,w 5 Zaa,z,u];exact h.f5,by rw[Q 6 Zaa Zaa,w 6 Zaa];exact h.f6,c,h.len,by rw[z,u];exact h.pre,λi a Z=>h.post i Zaa Z,h.out,h.cell⟩
   exact⟨F',D,rR.step (Ex.seq (Ex.seq (Ex.ei a1) (Ex.sy T Ex.skip)) (Ex.seq (Ex.block (Ex.seq (Ex.N2 (by decide) U) (Ex.vw (by simp[fF,b]) Ex.skip))) (Ex.ei Y))) i1,i2⟩
  |false=>
   rw[W]at b u;generalize f:(kept t (kk+(m'+1))).length=K at *;obtain⟨_,_,hz⟩:=h.cell K Zaa
   obtain⟨v,Y,c⟩:=x11 (G B) (by rw[w 0 Zaa];exact h.f0) (by rw[w 5 Zaa,h.f5,f]) (by rw[w 6 Zaa];exact h.f6) (by rw[w 7 Zaa];exact h.f7) Zaa Zaa q hz (X.one _ Zaa)
   rw[set_set]at Y;generalize I:B.set (off+K) [A (kk+m'+1)]=J at Y;have l:∀j,J[j]?=if j=off+K then some [A (kk+m'+1)]else B[j]?:=λj=>by rw[<-I,List.getElem?_set];by_cases e:off+K=j;rw[if_pos e,if_pos e.symm,if_pos (by rw[h.len];omega)];rw[if_neg e,if_neg (Ne.symm e)]
   obtain⟨F4,Q,q4,q5⟩:=(N9 (p:=K) Zaa).1 (by rw[c 5 Zaa,w 5 Zaa,h.f5,f])
   have C:∀s,s<8->s≠5->get F4 s=get F s:=λs a Z=>by rw[q5 s a Z,c s a,w s a]
   obtain⟨F5,q6,q7,o⟩:=(N9 (p:=m'+1) Zaa).2.1 (by rw[C 7 Zaa Zaa];exact h.f7)
   obtain⟨F',D,i1,i2⟩:=ih (m'+1+1) F5 J Zaa Zaa ⟨by rw[o 0 Zaa Zaa,C 0 Zaa Zaa];exact h.f0,by rw[o 1 Zaa Zaa,C 1 Zaa Zaa];exact h.f1,
    by rw[o 5 Zaa Zaa,q4,z,u,ζi,f];rfl,by rw[o 6 Zaa Zaa,C 6 Zaa Zaa];exact h.f6,q7,by rw[<-I,List.length_set];exact h.len,
    λp i S=>by rw[z,u]at S;rw[l];by_cases e:p=K;subst e;rw[<-f,getElem?_append_right (le_refl _),Nat.sub_self]at S;cases S;rw[if_pos rfl];have ae:p<(kept t (kk+(m'+1))).length:=(by have:=(ζe.1 S).1;simp at this;omega);rw[getElem?_append_left ae]at S;rw[if_neg Zaa];exact h.pre p i S,
    λi a Z=>by rw[l,if_neg Zaa];exact h.post i Zaa Z,λj hj=>by rw[l,if_neg Zaa];exact h.out j hj,
    λi hi=>by rw[l];by_cases e:off+i=off+K;rw[if_pos e];exact⟨_,Zaa,rfl⟩;rw[if_neg e];exact h.cell i hi⟩
   exact⟨F',D,rR.step (Ex.seq (Ex.seq (Ex.ei a1) (Ex.sy T Ex.skip)) (Ex.seq (Ex.block (Ex.seq (Ex.N2 (by decide) U) (Ex.sy (by simp[fF,b]) (Ex.seq (Ex.ei Y) (Ex.ei Q))))) (Ex.ei q6))) i1,i2⟩
structure RL(off L:Nat)(rs:List (List V))(A:Nat->V)(t:Nat->Bool)(rs':List (List V)):Prop where
 len:rs'.length=rs.length
 pre:∀p i,(kept t L)[p]?=some i->rs'[off+p]?=some [A i]
 all:∀c∈rs',c∈rs\/c=[.bG]
theorem Zf(X:Ie E g cb H id off L rs A t):∀(d k:Nat)(F:WF),k+d=L->0<k->(∀i,0<i->i<k->t i=false)->get F 0=.hsl id 1 off L->get F 1=.clo g [] cb->get F 5=.int .i64 k->
 (∃F',rR E N TG F H (.exit 0) F' H/\get F' 0=.hsl id 1 off L/\∀i,0<i->i<L->t i=false)\/
 (∃F' D,rR E N TG F H .ret F' (H.set id (.row 1 D))/\get F' 4=.hsl id 1 off (kept t L).length/\RL off L rs A t D):=by
 have Q:=(ζe.1 X.row).1;have S:=sK X.row;have ah:=X.small;have af:=X.len;intro d
 induction d with
 |zero=>
  intro k F he r hp b v e;have ek:k=L:=Zaa
  subst ek;obtain⟨F1,e1,e2,e3⟩:=x5 (N:=N) b e;exact .inl ⟨F1,rR.stop (Ex.zQ (Ex.seq (Ex.ei e1) (Ex.vw (by simp[fF,e2]) Ex.exit)) Zab) Zab,Zac,hp⟩
 |succ d ih=>
  intro k F he r hp b v e;obtain⟨F1,a1,a2,a3⟩:=x5 b e;have U:fF N F1 15=.bool true:=by show get F1 15=_;rw[a2,decide_eq_true Zaa]
  obtain⟨u,rfl⟩:∃u,k=u+1:=⟨k-1,Zaa⟩
  obtain⟨n0,ai⟩:=X.cmp;obtain⟨y,b1,f,b3⟩:=(WN (N:=N) (cb:=cb) (g:=g) (i:=u) (L2:=L) (t:=t (u+1)) X.row Zaa Zaa (X.at_ _ Zaa) (X.at_ _ Zaa) X.keep (by rw[a3 1 Zaa];omega)).1 Zac Zac
  have W:∃n,∀k,n<=k->dN E N (run E k) (some H.length) r6 F1 H=some (y,H):=⟨n0,λk r=>b1 _ (by
   grind)⟩
  have Y:=λs M=>(b3 s M).trans (a3 s M)
  cases w:t (u+1)with
  |false=>
   rw[w]at f;obtain⟨T,l,m,h⟩:=(N9 (E:=E) (F:=y) (p:=u+1) Zaa).2.2 Zac
   have z:Ex E N TG F H .norm T H:=Ex.seq (Ex.seq (Ex.ei a1) (Ex.sy U Ex.skip)) (Ex.seq (Ex.block (Ex.seq (Ex.N2 (by decide) W) (Ex.vw (by simp[fF,f]) Ex.skip))) (Ex.ei l))
   rcases ih (u+1+1) T Zaa Zaa (λi P Z=>by
    grind) Zac Zad m with⟨F',i1,i2⟩|⟨F',D,i1,i2⟩
   .exact .inl ⟨F',rR.step z i1,i2⟩
   exact .inr ⟨F',D,rR.step z i1,i2⟩
  |true=>
   rw[w]at f;refine .inr ?_;obtain⟨T,l,m,h⟩:=x7 (E:=E) (N:=N) (H:=H) (k:=u+1) (by rw[Y 0 Zaa];exact b) (by rw[Y 5 Zaa];exact e) Zaa
   have G:kept t (u+1)=range (u+1):=C0 _ hp;have R:kept t (u+1+1)=range (u+1):=by rw[yd,G,w];simp
   have q4:∀call,dN E N call none r8 T H=some (set T 7 (.int .i64 1),H):=λcall=>vp rfl (by simp[jY,fF,bN]) wB
   have h0:Head g cb id off L (u+1) 1 rs A t (set T 7 (.int .i64 1)) rs:=⟨by rw[jG _ _ Zaa,h 0 Zaa Zaa,Y 0 Zaa];exact b,by rw[jG _ _ Zaa,h 1 Zaa Zaa,Y 1 Zaa];exact v,
    by rw[jG _ _ Zaa,h 5 Zaa Zaa,Y 5 Zaa,R,length_range];exact e,by rw[jG _ _ Zaa];exact m,by rw[uf];rfl,rfl,
    λp i B=>by rw[R]at B;obtain⟨P,Z⟩:=ζe.1 B;simp at P Z;subst Z;exact X.at_ p Zaa,λi _ Z=>X.at_ i Z,λ_ _=>rfl,λi hi=>⟨i,hi,X.at_ i hi⟩⟩
   obtain⟨F5,C,V,I⟩:=YX (N:=N) X Zaa Zaa w (L-(u+1)-1) 1 _ rs Zaa Zaa h0
   rw[S]at V;have eL:u+1+(L-(u+1))=L:=Zaa
   have ae:=Bf (t:=t) (k:=u+1) Zaa w L Zaa
   have o:=I.f5;have J:=I.pre;rw[eL]at o J;generalize hK:(kept t L).length=K at *;have ab:(H.set id (.row 1 C))[id]?=some (.row 1 C):=getElem?_set_self Q;obtain⟨F6,w1,w2⟩:=x14 (E:=E) (N:=N) (p:=K) ab I.f0 o Zaa (by rw[I.len];omega)
   rw[set_set]at w1;obtain⟨F7,w3,w4⟩:=x15 (E:=E) (by rw[w2 0 Zaa];exact I.f0) (by rw[w2 5 Zaa];exact o) Zaa
   have aj:=I.len;refine⟨F7,C.take (off+K)++replicate (L-K) [.bG]++C.drop (off+L),rR.stop (Ex.seq (Ex.seq (Ex.ei a1) (Ex.sy U Ex.skip)) (Ex.zQ (Ex.Po (Ex.seq (Ex.N2 (by decide) W) (Ex.sy (by simp[fF,f]) (Ex.seq (Ex.ei l) (Ex.seq (Ex.seq (Ex.ei q4) (Ex.EZ (Ex.loop V))) (Ex.seq (Ex.ei w1) (Ex.seq (Ex.ei w3) Ex.ret))))))) Zab)) Zab,w4,?_,λp i B=>?_,λc a=>?_⟩
   .simp;omega
   .have ak:p<K:=by rw[<-hK];exact(ζe.1 B).1
    rw[append_assoc,getElem?_append_left (by simp;omega),getElem?_take,if_pos Zaa]
    exact J p i B
   have ad:∀j x,C[j]?=some x->x∈rs:=λj x O=>by by_cases ho:j<off\/off+L<=j;rw[I.out j ho]at O;exact mem_of_getElem? O;obtain⟨i,rfl⟩:∃i,j=off+i:=⟨j-off,Zaa⟩;obtain⟨q,hq,a⟩:=I.cell i Zaa;rw[a]at O;cases O;exact mem_of_getElem? (X.at_ q hq)
   rcases mem_append.1 a with a|a
   .rcases mem_append.1 a with a|a
    .obtain⟨j,O⟩:=getElem?_of_mem (List.mem_of_mem_take a);exact .inl (ad j c O)
    exact .inr (List.eq_of_mem_replicate a)
   obtain⟨j,O⟩:=getElem?_of_mem (List.mem_of_mem_drop a);exact .inl (ad j c O)
end
end cmpX
def AN(E:Env)(g:Y')(cb:S')(a b:V):aY X':=match Dw E g cb a b with|some (.bool c)=>some c|_=>none
theorem XI{E:Env}{g:Y'}{cb:S'}{a b:V}{c:X'}(h:AN E g cb a b=some c):∃n,∀k,n<=k->b8 (run E k) g (a::b::cb) []=some (.bool c):=by
 unfold AN at h;split at h;next c' d=>cases h;exact Ge d
 cases h
def mG(xs:T2)(i:Nat):V:=jE ((xs[i]?).getD [])
def zh(E:Env)(es:Nat)(xs:T2):S'->aY T2
 |[.clo g [] cb]=>if xs.isEmpty then some []else if vm es xs&& !E.keep g then
  if(range xs.length).all λi=>i==0||(AN E g cb (mG xs i) (mG xs (i-1))).isSome then
   some ((kept (λi=>(AN E g cb (mG xs i) (mG xs (i-1))).getD false) xs.length).map λi=>(xs[i]?).getD [])
  else none
  else none
 |_=>none
def tR(E:Env):Hu:=⟨true,zh E⟩
namespace cmpX
section
variable{E:Env}{N:Nat->Y'}{g:Y'}{cb:S'}{H:bk}{id off L:Nat}{rs:T2}{A:Nat->V}{t:Nat->X'}
theorem whole(X:Ie E g cb H id off L rs A t):∃F' B,Ex E N code [.hsl id 1 off L,.clo g [] cb] H .ret F' (H.set id (.row 1 B))/\get F' 4=.hsl id 1 off (kept t L).length/\RL off L rs A t B:=by
 have u:H.set id (.row 1 rs)=H:=sK X.row;have same:(∀i,0<i->i<L->t i=false)->(kept t L).length=L/\RL off L rs A t rs:=λh=>by have d:=C0 L h;rw[d,length_range];exact⟨rfl,rfl,λp i Q=>by rw[d]at Q;have⟨a,w⟩:=ζe.1 Q;simp at a w;subst w;exact X.at_ p a,λc b=>.inl b⟩
 have g1:∀call,dN E N call none r1 [.hsl id 1 off L,.clo g [] cb] H=some (set [.hsl id 1 off L,.clo g [] cb] 4 .bG,H):=λcall=>vp (v:=.bG) rfl (by simp[jY,fF,bN]) wB;have k0:get (set [V.hsl id 1 off L,.clo g [] cb] 4 .bG) 0=.hsl id 1 off L:=rfl;have k1:get (set [V.hsl id 1 off L,.clo g [] cb] 4 .bG) 1=.clo g [] cb:=rfl;generalize set [V.hsl id 1 off L,.clo g [] cb] 4 .bG=S at *;have⟨F1,a1,a2,z⟩:=x2 (E:=E) (N:=N) (H:=H) k0;by_cases T:L<2;have⟨C,D,G⟩:=Ty (E:=E) (N:=N) (F:=F1) (H:=H);have⟨e1,e2⟩:=same λi a w=>by omega
 refine⟨C,rs,?_,by rw[e1,G,z 0 Zaa];exact k0,e2⟩;rw[u];exact Ex.seq (Ex.ei g1) (Ex.zQ (Ex.seq (Ex.ei a1) (Ex.sy (by show get F1 10=_;rw[a2,decide_eq_true Zaa]) (Ex.seq (Ex.ei D) Ex.ret))) Zab);have g4:∀call,dN E N call none r4 F1 H=some (set F1 5 (.int .i64 1),H):=λcall=>vp (v:=.int .i64 1) rfl (by simp[jY,fF,bN]) wB;have b:Ex E N (.seq (.ops r2) (.cond (.s 10) (.seq (.ops r3) (.ret)) (.skip))) S H .norm F1 H:=Ex.seq (Ex.ei a1) (Ex.vw (by show get F1 10=_;rw[a2,decide_eq_false Zaa]) Ex.skip);rcases Zf (N:=N) X (L-1) 1 (set F1 5 (.int .i64 1)) Zaa Zaa (λi a w=>Zaa) (by rw[jG _ _ Zaa,z 0 Zaa];exact k0) (by rw[jG _ _ Zaa,z 1 Zaa];exact k1) (by rw[uf];rfl)with⟨F',I,J,O⟩|⟨F',B,I,J,O⟩;have⟨C,D,G⟩:=xmv (E:=E) (N:=N) (F:=F') (H:=H);have⟨e1,e2⟩:=same O;refine⟨C,rs,?_,by rw[e1,G];exact J,e2⟩;rw[u];exact Ex.seq (Ex.ei g1) (Ex.seq b (Ex.seq (Ex.seq (Ex.ei g4) (Ex.EZ (Ex.loop I))) (Ex.seq (Ex.ei D) Ex.ret)));exact⟨F',B,Ex.seq (Ex.ei g1) (Ex.seq b (Ex.zQ (Ex.seq (Ex.ei g4) (Ex.Po (Ex.loop I))) Zab)),J,O⟩
theorem empty{w:V}(c:V)(B:w=.bG\/w=.dH):∃F',Ex E N code [w,c] H .ret F' H/\get F' 4=w:=by
 have g1:∀call,dN E N call none r1 [w,c] H=some (set [w,c] 4 .bG,H):=λcall=>vp (v:=.bG) rfl (by simp[jY,fF,bN]) wB;have k0:get (set [w,c] 4 .bG) 0=w:=rfl;generalize set [w,c] 4 .bG=u at *;have z:oP w=some (.int .i64 0):=by rcases B with rfl|rfl<;>rfl
 have a1:∃F1,(∀call,dN E N call none r2 u H=some (F1,H))/\get F1 10=.bool true/\get F1 0=w:=by refine⟨_,λcall=>vp (v:=w) rfl ?_<|vp (v:=.int .i64 0) rfl ?_<|vp (v:=.bool true) rfl ?_ wB,?_,?_⟩;simp[jY,fF,bN,k0];simp[jY,fF,bN,lP,z];simp[jY,fF,bN,lP,mT,tg];simp[lP];simp[lP,k0]
 have⟨F1,a1,a2,C⟩:=a1;have⟨D,G,I⟩:=Ty (E:=E) (N:=N) (F:=F1) (H:=H);exact⟨D,Ex.seq (Ex.ei g1) (Ex.zQ (Ex.seq (Ex.ei a1) (Ex.sy a2 (Ex.seq (Ex.ei G) Ex.ret))) Zab),by rw[I,C]⟩
end
end cmpX
theorem Rr{E:Env}{f:Y'}{nm:Y'->aY Nat}{N:Nat->Y'}(hN:∀f s,nm f=some s->N s=f)(d:E.keep f=true)(ho:E.own f=false)
 (hf:∃fi,E.ft f=some fi/\bM ⟨E,nm,fi.ntmps⟩ false fi.body=some cmpX.code/\2<=fi.ntmps/\fi.results=[.tmp 4]):nZ E f (tR E):=by
 have⟨fi,h1,h2,h3,h4⟩:=hf;have D:∀{w c:V}{H H':bk}{F':WF}{r:V},Ex E N cmpX.code [w,c] H .ret F' H'->get F' 4=r->∃n,∀k,n<=k->run E k (.fn f) [w,c] H=some (r,H'):=λ{w c H H' F' r}K P=>by have⟨n,G⟩:=Ex.run hN h1 h2 (args:=[w,c]) (by simpa using h3) K (vs:=[r]) (by rw[h4];simp[iR,P]);exact⟨n,λk d=>(pT E d).go _ _ _ _ G⟩
 refine⟨d,ho,?_,?_,?_⟩
 .intro es z vs ys h;simp only[tR,zh]at h;refine⟨?_,λe=>by simp[tR]at e⟩
  split at h
  .split at h
   .cases h;simp
   split at h
   .split at h
    .cases h;simpa using B4 _ _
    cases h
   cases h
  cases h
 .intro es vs ys h H Z ws w hw he;simp only[tR,zh]at h;split at h
  .obtain⟨q,r,rfl,R,t⟩:=hw.inv;rw[t.c9];have⟨F',e1,e2⟩:=cmpX.empty (E:=E) (N:=N) (H:=H) q he;have⟨n,G⟩:=D e1 e2;exact⟨n,[],λk d=>by rw[append_nil];exact G k d⟩
  cases h
 intro es z vs ys h H Z ws id off rs hw S T ae J hz;simp only[tR,zh]at h;split at h
 .rename_i g cb;obtain⟨q,r,rfl,R,t⟩:=hw.inv;rw[t.c9];obtain⟨a',B,rfl,ha,af⟩:∃a' B,q=.clo g a' B/\dz H Z [] a'/\dz H Z cb B:=R.kS;rw[ha.c9]at *;split at h
  .rename_i he;cases h;have:z=[]:=by simpa using he
   subst this;have e2:∃F',Ex E N cmpX.code [.hsl id es off 0,.clo g [] B] H .ret F' H/\get F' 4=.hsl id es off 0:=by have g1:∀call,dN E N call none cmpX.r1 [.hsl id es off 0,.clo g [] B] H=some (set [.hsl id es off 0,.clo g [] B] 4 .bG,H):=λcall=>vp (v:=.bG) rfl (by simp[jY,fF,bN]) wB;have k0:get (set [V.hsl id es off 0,.clo g [] B] 4 .bG) 0=.hsl id es off 0:=rfl;generalize set [V.hsl id es off 0,.clo g [] B] 4 .bG=F0 at *;have a1:∃F1,(∀call,dN E N call none cmpX.r2 F0 H=some (F1,H))/\get F1 10=.bool true/\get F1 0=.hsl id es off 0:=(by refine⟨_,λcall=>vp (v:=.hsl id es off 0) rfl ?_<|vp (v:=.int .i64 0) rfl ?_<|vp (v:=.bool true) rfl ?_ wB,?_,?_⟩;simp[jY,fF,bN,k0];simp[jY,fF,bN,lP,oP];simp[jY,fF,bN,lP,mT,tg];simp[lP];simp[lP,k0]);have⟨F1,a1,a2,a3⟩:=a1;have⟨F2,b1,b2⟩:=cmpX.Ty (E:=E) (N:=N) (F:=F1) (H:=H);exact⟨F2,Ex.seq (Ex.ei g1) (Ex.zQ (Ex.seq (Ex.ei a1) (Ex.sy a2 (Ex.seq (Ex.ei b1) Ex.ret))) Zab),by rw[b2,a3]⟩
   have⟨F',e1,e3⟩:=e2;have⟨n,G⟩:=D e1 e3;refine⟨n,rs,[],λk d=>?_,rfl,⟨rfl,λj u v l=>by simp at l⟩,J⟩
   rw[append_nil,sK S];exact G k d
  rename_i al;split at h
  .rename_i L;simp only[ζh,Bool.not_eq_true']at L;have⟨c1,c3⟩:=L;obtain⟨rfl,U,W⟩:=AF c1;split at h
   .rename_i Y;cases h;have O:∀i,i<z.length->∃a,rs[off+i]?=some [a]/\FR H Z (mG z i) a/\a.one=true:=λi hi=>by
     have⟨e,p2⟩:=W i z[i] (ζd hi);have Q:off+i<rs.length:=Zaa
     have:=ae.2 i z[i] rs[off+i] (ζd hi) (by rw[getElem?_take,if_pos hi,getElem?_drop,ζd Q])
     rw[e]at this;have⟨y,ys,e2,r1,r2⟩:=this.inv;rw[r2.c9]at e2;have e3:mG z i=jE z[i]:=by unfold mG;rw[ζd hi];rfl
     exact⟨y,by rw[ζd Q,e2],by rw[e3];exact r1,by rw[r1.one];exact p2⟩
    let A:Nat->V:=λi=>match rs[off+i]?with|some (a::_)=>a|_=>.undef
    have m:∀i,i<z.length->rs[off+i]?=some [A i]/\FR H Z (mG z i) (A i)/\(A i).one=true:=λi hi=>by have⟨a,p1,p2,p4⟩:=O i hi;have:A i=a:=(by show(match rs[off+i]?with|some (a::_)=>a|_=>V.undef)=a;rw[p1]);rw[this];exact⟨p1,p2,p4⟩
    have aa:∀i,i+1<z.length->∃b,AN E g cb (mG z (i+1)) (mG z i)=some b:=λi hi=>by have:=all_eq_true.1 Y (i+1) (mem_range.2 hi);simp only[Nat.add_sub_cancel,Bool.or_eq_true]at this;rcases this with h|h;simp at h;exact Option.isSome_iff_exists.1 h
    have X:cmpX.Ie E g B H id off z.length rs A (λi=>(AN E g cb (mG z i) (mG z (i-1))).getD false):=by refine⟨S,T,U,λi hi=>(m i hi).1,λi hi=>(m i hi).2.2,c3,?_⟩;have⟨M,hM⟩:=FC (n:=z.length-1) (p:=λi k=>b8 (run E k) g (mG z (i.1+1)::mG z i.1::cb) []=some (.bool ((AN E g cb (mG z (i.1+1)) (mG z i.1)).getD false))) (λi=>by have⟨b,Q⟩:=aa i.1 (by have:=i.2;omega);have⟨n,G⟩:=XI Q;exact⟨n,λk d=>by rw[G k d,Q];rfl⟩);have⟨L1,ah⟩:=mM ((range z.length).map (mG z));have⟨L2,ai⟩:=mM cb;have ab:∀i k,i<z.length->L1<=k->(mG z i).lvl k=true:=λi k hi d=>zw d (mV.1 ah i _ (by simp[hi]));refine⟨max M (max L1 L2),λk d i hi ad=>?_⟩;have C:∀j,Z j->Z j/\bn (H.set id (.row 1 ad)) j=bn H j:=λj o=>⟨o,by unfold bn;rw[getElem?_set_ne];rintro rfl;exact hz o⟩;have hl:dz (H.set id (.row 1 ad)) Z (mG z (i+1)::mG z i::cb) (A (i+1)::A i::B):=.cons ((m _ hi).2.1.mono C) (.cons ((m i Zaa).2.1.mono C) (af.mono C));have Q:=hl.Mf (k:=k) (by simp only[V.me,ab _ k hi Zaa,ab i k Zaa Zaa,p9 (by omega:L2<=k) ai,Bool.and_self]);rw[Xi (by rw[oS];exact Q) (λx K=>?_)];exact hM ⟨i,Zaa⟩ k Zaa;have⟨j,o⟩:=getElem?_of_mem K;have⟨y,hy,P⟩:=hl.get o;exact V.mJ P.good
    have⟨F',aj,e1,e2,e3⟩:=cmpX.whole (N:=N) X;have⟨n,G⟩:=D e1 e2;refine⟨n,aj,[],λk d=>?_,e3.len,?_,?_⟩
    .simp only[tR,if_true,length_map,append_nil];exact G k d
    .refine⟨by simp[e3.len];have:=B4 (λi=>(AN E g cb (mG z i) (mG z (i-1))).getD false) z.length;omega,λp a b hp hq=>?_⟩
     rw[getElem?_map]at hp;obtain⟨i,hi,rfl⟩:=ζf.1 hp;have I:=LR (mem_of_getElem? hi);have ak:=(ζe.1 hi).1;rw[getElem?_take,if_pos (by simpa using ak),getElem?_drop,e3.pre p i hi]at hq
     cases hq;rw[ζd I,getD_some];have e4:=(W i z[i] (ζd I)).1;have e5:mG z i=jE z[i]:=by unfold mG;rw[ζd I];rfl
     rw[e4,<-e5];exact .cons (m i I).2.1 .nil
    intro c hc u l;rcases e3.all c hc with h|rfl
    .exact J c h u l
    simp at l;subst l;exact⟨.bG,.same _ rfl⟩
   cases h
  cases h
 cases h
def Sl.re{α:Type}(s:Sl α)(l:aX α):Sl α:=match s with|.nil=>.nil|.emp=>.emp|.row _=>.row l|.part _=>.part l
def Sl.uA{α:Type}(s:Sl α)(l:aX α):Sl α:=match s with|.nil=>.nil|.emp=>.emp|.row _|.part _=>.part l
def zT{α:Type}(s:Sl α)(p:α->α->Pi):aY (Sl α):=
 match s.l with
 |[]=>some s|x::l=>if l.length<2147483648 then
  let t:_root_.Fin (l.length+1)->_root_.Fin (l.length+1)->Pi:=λi j=>p (x::l)[i.1] (x::l)[j.1]
  if B8 t then some (s.re ((rN l.length (qj t)).toList.map λi=>(x::l)[i.1]))else none
  else none
def uE{α:Type}(l:aX α)(p:α->α->aY X')(i:Nat):aY X':=match l[i]?,l[i-1]?with|some a,some b=>p a b|_,_=>none
def y8{α:Type}(s:Sl α)(p:α->α->aY X'):aY (Sl α):=
 if s.l.length<=2147483648/\((range s.l.length).all λi=>i==0||(uE s.l p i).isSome)=true then
  some (s.uA ((kept (λi=>(uE s.l p i).getD false) s.l.length).filterMap (s.l[·]?)))
 else none
section
variable{S:Sys}{T:qv}{β γ δ α:Type}{Q:Out×St->aY β}{e:γ->aY β}{cf:Cf}
theorem iu.OZ(B:sJ S T)(D:∀f a b xs,S.items f a b=some xs->eP S f a b xs){fn:Y'}{A:δ->S'}{E:α->S'}{p:δ->aY α}{sc:X'}(F:iu S (dm S T) fn A E p sc){z:δ}{r:α}(h:p z=some r)(d:V.cQ (A z)=true):
 ∃n,b8 (run S.E n) fn (A z) []=some (result (E r)):=by
 have e:=F.h z (E r) Zad
 have⟨⟨rs,m'⟩,u,w⟩:=ζg.1 e;have⟨n,y,H2,e1,e2,e3⟩:=Dn (yZ B D) d u w;refine⟨n,?_⟩;have C:borrows n [] (A z)=some (A z):=by have c:=V.oN d;generalize A z=l at c;unfold borrows;induction l with|nil=>rfl|cons x l G=>simp[V.iG]at c;simp[iU,eH n [] c.1,G c.2]
 unfold b8;rw[oS,C];simp[e1 n (le_refl _),e2 n (le_refl _),V.mJ e3]
section
variable[bt α]
theorem ER(b:bt.size α=1){l:aX α}(B:l.length<=2147483648):vm (bt.size α) (rows l)=true:=by unfold vm;simp;refine⟨⟨b,λx u=>?_⟩,by simpa[rows]using B⟩;obtain⟨a,_,rfl⟩:=mem_map.1 u;exact⟨by rw[iw,b],all_eq_true.1 (bt.one a)⟩
theorem Ht(b:bt.agg α=false)(a:α):jE (cells a)=enc a:=by unfold enc;rw[if_neg Zac];rfl
theorem Dy(l:aX α)(i:Nat)(h:i<l.length):(rows l)[i]?=some (cells l[i]):=by unfold rows;grind
theorem U6(U:sJ S T)(W:∀f a b xs,S.items f a b=some xs->eP S f a b xs){g:Y'}{p:α->α->Pi}(F:iu S (dm S T) g (λz:α×α=>[enc z.1,enc z.2]) (λr:Int=>[.int .i64 r]) (λz=>p z.1 z.2) true)
 (c:bt.size α=1)(Y:bt.agg α=false){s D:Sl α}(h:zT s p=some D):BP S.E (bt.size α) (rows s.l) [.clo g [] []]=some (rows D.l)/\D.k=s.k:=by
 unfold zT at h;split at h
 next B=>cases h;rw[B];exact⟨rfl,rfl⟩
 rename_i x l B;split at h
 .dsimp only at h;split at h
  .rename_i I;cases h;rw[B];have⟨u,J⟩:=rq I;have C:=ER c (l:=x::l) Zac
   have key:∀m,m=l.length->(if B8 (λi j:_root_.Fin (m+1)=>tZ S.E g [] (jE (((rows (x::l))[i.1]?).getD [])) (jE (((rows (x::l))[j.1]?).getD [])))then
    some ((rN m (qj (λi j:_root_.Fin (m+1)=>tZ S.E g [] (jE (((rows (x::l))[i.1]?).getD [])) (jE (((rows (x::l))[j.1]?).getD []))))).toList.map λi=>((rows (x::l))[i.1]?).getD [])else none)=
    some (rows ((rN l.length (qj λi j:_root_.Fin (l.length+1)=>p (x::l)[i.1] (x::l)[j.1])).toList.map λi=>(x::l)[i.1])):=by
    rintro m rfl;have e1:∀i:_root_.Fin (l.length+1),jE (((rows (x::l))[i.1]?).getD [])=enc (x::l)[i.1]:=λi=>by rw[Dy (x::l) i.1 i.2,getD_some,Ht Y]
    have e2:(λi j:_root_.Fin (l.length+1)=>tZ S.E g [] (jE (((rows (x::l))[i.1]?).getD [])) (jE (((rows (x::l))[j.1]?).getD [])))=λi j=>p (x::l)[i.1] (x::l)[j.1]:=by funext i j;have⟨z,L⟩:=u i j;rw[e1 i,e1 j,L];have⟨n,O⟩:=F.OZ U W (z:=((x::l)[i.1],(x::l)[j.1])) L (by simp[V.cQ,jM]);unfold tZ;rw[Mc O];rfl
    rw[e2,if_pos I]
    congr 1
    unfold rows;rw[List.map_map];refine List.map_congr_left λi _=>?_
    grind
   have w:(s.re ((rN l.length (qj λi j:_root_.Fin (l.length+1)=>p (x::l)[i.1] (x::l)[j.1])).toList.map λi=>(x::l)[i.1])).l=(rN l.length (qj λi j:_root_.Fin (l.length+1)=>p (x::l)[i.1] (x::l)[j.1])).toList.map (λi=>(x::l)[i.1])/\(s.re ((rN l.length (qj λi j:_root_.Fin (l.length+1)=>p (x::l)[i.1] (x::l)[j.1])).toList.map λi=>(x::l)[i.1])).k=s.k:=by cases s<;>simp[Sl.l]at B<;>exact⟨rfl,rfl⟩
   refine⟨?_,w.2⟩;rw[w.1,<-key (rows l).length (h_ l)];have d:(vm (bt.size α) (rows (x::l))&& !S.E.keep g)=true:=by rw[C,F.k];rfl
   have G:=d;exact(if_pos G).trans rfl
  simp_all
 simp_all
theorem UL(W:sJ S T)(Y:∀f a b xs,S.items f a b=some xs->eP S f a b xs){g:Y'}{p:α->α->aY X'}(F:iu S (dm S T) g (λz:α×α=>[enc z.1,enc z.2]) (λr:X'=>[.bool r]) (λz=>p z.1 z.2) true)
 (d:bt.size α=1)(e:bt.agg α=false){s D:Sl α}(h:y8 s p=some D):zh S.E (bt.size α) (rows s.l) [.clo g [] []]=some (rows D.l)/\D=s.uA D.l:=by
 have Q:∀l:aX α,(s.uA l)=s.uA (s.uA l).l:=λl=>by cases s<;>rfl
 refine⟨?_,by
  unfold y8 at h;grind⟩
 unfold y8 at h;split at h
 .rename_i hc;cases h;have⟨X,u⟩:=hc;have I:=ER d X;simp only[zh]
  by_cases J:s.l=[]
  .have:(s.uA ((kept (λi=>(uE s.l p i).getD false) s.l.length).filterMap (s.l[·]?))).l=[]:=by
    cases s<;>simp[Sl.l]at J<;>simp[Sl.uA,Sl.l,J,kept]
   rw[this,J];rfl
  have L:(rows s.l).isEmpty=false:=by cases m:s.l with|nil=>grind|cons a l=>rfl
  rw[L,if_neg Zab,I,F.k,if_pos (by rfl),h_]
  have e1:∀i,0<i->i<s.l.length->∃b,uE s.l p i=some b/\AN S.E g [] (mG (rows s.l) i) (mG (rows s.l) (i-1))=some b:=λi Z hi=>by have:=all_eq_true.1 u i (mem_range.2 hi);simp at this;have⟨b,C⟩:=Option.isSome_iff_exists.1 (this.resolve_left Zaa);refine⟨b,C,?_⟩;have w:i-1<s.l.length:=Zaa;unfold uE at C;rw[ζd hi,ζd w]at C;have U:∀j(G:j<s.l.length),mG (rows s.l) j=enc s.l[j]:=λj G=>(by unfold mG;rw[Dy _ _ G,getD_some,Ht e]);rw[U i hi,U (i-1) w];have⟨n,k⟩:=F.OZ W Y (z:=(s.l[i],s.l[i-1])) C (by simp only[V.cQ,jM,Bool.and_self]);unfold AN;rw[Mc k];rfl
  have e2:((range s.l.length).all λi=>i==0||(AN S.E g [] (mG (rows s.l) i) (mG (rows s.l) (i-1))).isSome)=true:=by grind
  rw[if_pos e2];have e3:kept (λi=>(AN S.E g [] (mG (rows s.l) i) (mG (rows s.l) (i-1))).getD false) s.l.length=kept (λi=>(uE s.l p i).getD false) s.l.length:=by refine List.filter_congr λi hi=>?_;by_cases Z:i=0;grind;have⟨b,o,q⟩:=e1 i Zaa (mem_range.1 hi);simp_all
  rw[e3];have e4:(s.uA ((kept (λi=>(uE s.l p i).getD false) s.l.length).filterMap (s.l[·]?))).l=(kept (λi=>(uE s.l p i).getD false) s.l.length).filterMap (s.l[·]?):=by cases s<;>first|rfl|grind
  rw[e4]
  congr 1
  generalize c:kept (λi=>(uE s.l p i).getD false) s.l.length=O
  have B:∀i∈O,i<s.l.length:=λi hi=>LR (c▸hi)
  clear c e3 e4
  induction O with
  |nil=>rfl|cons i O ih=>
   have hi:=B i Zab
   rw[map_cons,ih λj G=>B j (List.mem_cons_of_mem _ G),Dy _ _ hi,List.filterMap_cons,ζd hi]
   rfl
 simp_all
theorem Q7{s B:Sl α}{p:α->α->Pi}(h:zT s p=some B)(a:bY s.k=false):B=s:=by cases s<;>simp[Sl.k,bY]at a<;>simpa[zT,Sl.l]using h.symm
theorem Ys(n d:Nat)(D:sJ S T)(G:∀f a b xs,S.items f a b=some xs->eP S f a b xs){fn g:Y'}(hp:S.prm fn=some (t_ S.E)){p:α->α->Pi}
 (F:iu S (dm S T) g (λz:α×α=>[enc z.1,enc z.2]) (λr:Int=>[.int .i64 r]) (λz=>p z.1 z.2) true){s:Sl α}{f:Sl α->aY γ}
 (h:∀B,zT s p=some B->Le ((f B).bind e) (b_ S (dm S T) Q (nx S (dm S T) n cf λq=>dn {q.st with m:=bF q.st.m d (cF B)} q.d (.v .undef))))
 (i:bt.size α=1:=by rfl)(J:bt.agg α=false:=by rfl)
 (U:(gm S (dm S T) n cf).map (λq=>(q.k,bW S.N q.st.g q.az,bh q.st.m d,q.dr))=some (.c,some [.v (.clo fn [] []),.own d,.v (.clo g [] [])],some (cF s),false):=by kernel_rfl):Le (((zT s p).bind f).bind e) (b_ S (dm S T) Q cf):=by
 have⟨q,C,c⟩:=eW U;simp at c;have⟨I,L,O,W⟩:=c;refine pQ C ?_ h;rw[I,W];intro y w;have⟨B,u,w⟩:=ζg.1 w;have⟨e1,e2⟩:=U6 D G F i J u;have j:=(D.prm fn _ hp).keep;have X:=(D.prm fn _ hp).own;rw[sG false _ _ _ _ _ _ fn [.own d,.v (.clo g [] [])] L rfl];have l:eo S (dm S T) q.d false (!false||q.now) (ez q.st.m q.fr) fn [.own d,.v (.clo g [] [])] q.st=some (.v .undef,{q.st with m:=bF q.st.m d (cF B)}):=by unfold eo;simp[j,X,hp,Dp,O,cF,dy];have e3:=e1;simp[t_];cases k:bY s.k with|true=>grind|false=>have:=Q7 u k;grind
 grind
theorem YU(n d t:Nat)(D:sJ S T)(G:∀f a b xs,S.items f a b=some xs->eP S f a b xs){fn g:Y'}(hp:S.prm fn=some (tR S.E)){p:α->α->aY X'}
 (F:iu S (dm S T) g (λz:α×α=>[enc z.1,enc z.2]) (λr:X'=>[.bool r]) (λz=>p z.1 z.2) true){s:Sl α}{f:Sl α->aY γ}
 (h:∀B,y8 s p=some B->Le ((f B).bind e) (b_ S (dm S T) Q (nx S (dm S T) n cf λq=>{q.st with g:=bF q.st.g t (.own t),m:=bF (dL d q.st.m) t (cF B)})))
 (i:bt.size α=1:=by rfl)(J:bt.agg α=false:=by rfl)
 (U:(gm S (dm S T) n cf).map (λq=>(q.k,bW S.N q.st.g q.az,bh q.st.m d,q.dr,q.d,St.new {q.st with m:=dL d q.st.m} t))=some (.c,some [.v (.clo fn [] []),.own d,.v (.clo g [] [])],some (cF s),false,some t,true):=by kernel_rfl):Le (((y8 s p).bind f).bind e) (b_ S (dm S T) Q cf):=by
 have⟨q,C,c⟩:=eW U;simp at c;have⟨I,L,O,W,X,Y⟩:=c;refine pQ C ?_ h;rw[I,W,X];intro y u;have⟨B,w,u⟩:=ζg.1 u;cases u;have⟨e1,e2⟩:=UL D G F i J w;have j:=(D.prm fn _ hp).keep;have Z:=(D.prm fn _ hp).own;rw[sG false _ _ _ _ _ _ fn [.own d,.v (.clo g [] [])] L rfl];have k:eo S (dm S T) (some t) false (!false||q.now) (ez q.st.m q.fr) fn [.own d,.v (.clo g [] [])] q.st=some (.own t,{q.st with m:=bF (dL d q.st.m) t (cF B)}):=by unfold eo;simp[j,Z,hp,Dp,O,cF,dy];have e3:(tR S.E).go (bt.size α) (rows s.l) [.clo g [] []]=some (rows B.l):=e1;rw[e3];simp[tR,Y];have e4:(if bY s.k=true then bB.sl .part (bt.size α) (rows B.l)else .sl s.k (bt.size α) (rows s.l))=.sl B.k (bt.size α) (rows B.l):=(by rw[e2];cases s<;>rfl);rw[e4]
 rw[k];rfl
end
end
section
variable{H H':bk}{w:V}{o:Nat}{ids:So}{rows:T2}
theorem uF.cell(n:uF H w o ids rows){p j:Nat}{r:S'}{u:V}(a:rows[p]?=some r)(c:r[j]?=some u):
 ∃id,ids[p]?=some id/\mE 1 w (p:Int)=some (.hptr o p 0)/\fq H (.load 1 false) [.hptr o p 0]=some (.hsl id 1 0 r.length)/\mE 1 (.hsl id 1 0 r.length) (j:Int)=some (.hptr id j 0)/\fq H (.load 1 false) [.hptr id j 0]=some u:=by
 have D:=(ζe.1 a).1;have G:=(ζe.1 c).1;have B:rows≠[]:=by intro e;subst e;simp at a
 have C:p<ids.length:=by rw[n.len];exact D
 have z:=ζd C;refine⟨ids[p],z,?_,?_,?_,?_⟩
 .have:=n.v;rw[if_neg B]at this;subst this;simp[mE,D]
 .have b:=n.ob B;have I:=Is z a;simp[fq,eN,b,Ob.rows,I,cut];rfl
 .simp[mE,G]
 have b:=n.r p _ r z a;simp[fq,eN,b,Ob.rows,qW,c,cut];rfl
theorem Qs{ids:So}(h:ids.Nodup){i j:Nat}{a:Nat}(hi:ids[i]?=some a)(B:ids[j]?=some a):i=j:=by have b:=(ζe.1 hi);have u:=(ζe.1 B);have⟨b,e1⟩:=b;have⟨u,e2⟩:=u;exact(List.getElem_inj h).1 (e1.trans e2.symm)
theorem uF.set(n:uF H w o ids rows){p j id:Nat}{r:S'}{u:V}(a:rows[p]?=some r)(T:j<r.length)(B:ids[p]?=some id)(c:V.one u=true)(d:u.cells=[u]):
 ∃H',eY H (.store 1) [.hptr id j 0,u]=some (.undef,H')/\uF H' w o ids (rows.set p (r.set j u))/\H'.length=H.length/\(∀i,i≠id->H'[i]?=H[i]?):=by
 have L:=(ζe.1 a).1;have z:rows≠[]:=by intro e;subst e;simp at a
 have b:=n.r p id r B a;have O:id<H.length:=(ζe.1 b).1;have D:(qW r).set j [u]=qW (r.set j u):=by simp[qW,List.map_set]
 have G:o≠id:=λe=>n.ne z (e▸mem_of_getElem? B)
 refine⟨H.set id (.row 1 (qW (r.set j u))),?_,⟨?_,λ_=>?_,by simp[n.len],λi I Q hi C=>?_,n.nd,λ_=>n.ne z⟩,Zab,λi hi=>getElem?_set_ne (Ne.symm hi)⟩
 .have S:(qW r)[j]?=some [r[j]]:=by simp[qW,T]
  simp only[eY,b,S,d,length_singleton,zero_add,le_refl,all_cons,c,List.all_nil,Bool.and_self,and_self,if_true,List.take_zero,nil_append];rw[<-D];simp
 .rw[n.v];have:rows.set p (r.set j u)≠[]:=by intro e;apply z;simpa using e
  rw[if_neg z,if_neg this,List.length_set]
 .rw[getElem?_set_ne (Ne.symm G),JG a Zab];exact n.ob z
 by_cases e:i=p
 .subst e;rw[B]at hi;cases hi;rw[getElem?_set_self L]at C;cases C;rw[getElem?_set_self O]
 rw[getElem?_set_ne (Ne.symm e)]at C;have J:id≠I:=λU=>e (Qs n.nd (U▸hi) B)
 rw[getElem?_set_ne J];exact n.r i I Q hi C
end
structure uH(H:bk)(w:V)(l:List (List V))(id:Nat):Prop where
 c:∀c∈l,c.length=2/\c.all V.one=true
 v:(w=.bG/\l=[])\/∃off xs,w=.hsl id 2 off l.length/\H[id]?=some (.row 2 xs)/\off+l.length<=xs.length/\(xs.drop off).take l.length=l
section
variable{H H':bk}{w:V}{l:T2}{id:Nat}
theorem uH.heap(n:uH H w l id)(h:∀off n,w=.hsl id 2 off n->H'[id]?=H[id]?):uH H' w l id:=⟨n.c,n.v.imp (λh=>h) λ⟨off,u,e1,e2,e3,e4⟩=>⟨off,u,e1,by rw[h _ _ e1];exact e2,e3,e4⟩⟩
theorem uH.lt(n:uH H w l id){off m:Nat}(h:w=.hsl id 2 off m):id<H.length:=by rcases n.v with⟨e,_⟩|⟨_,u,_,e2,_⟩;rw[e]at h;cases h;exact(ζe.1 e2).1
theorem uH.more(n:uH H w l id)(X:bk):uH (H++X) w l id:=n.heap λ_ _ e=>getElem?_append_left (n.lt e)
theorem uH.len(n:uH H w l id):oP w=some (.int .i64 l.length):=by rcases n.v with⟨rfl,rfl⟩|⟨off,u,rfl,_⟩<;>rfl
theorem uH.get(n:uH H w l id){i:Nat}{c:S'}(a:l[i]?=some c):∃p,mE 2 w (i:Int)=some p/\fq H (.load 2 true) [p]=some (.agg c):=by
 have hi:=(ζe.1 a).1;have u:=(n.c c (mem_of_getElem? a)).1;rcases n.v with⟨_,rfl⟩|⟨off,z,rfl,e2,e3,e4⟩;simp at a;refine⟨.hptr id (off+i) 0,by simp[mE,hi],?_⟩;have:z[off+i]?=some c:=by rw[<-e4,getElem?_take,if_pos hi,getElem?_drop]at a;exact a
 simp[fq,eN,e2,Ob.rows,this,cut,<-u];rfl
theorem uH.tail{c:S'}(n:uH H w (c::l) id):∃w',iX 2 w (some 1) none=some w'/\uH H w' l id/\∃off m B,w=.hsl id 2 off m/\w'=.hsl id 2 B l.length:=by
 rcases n.v with⟨_,e⟩|⟨off,u,rfl,e2,e3,e4⟩;cases e;refine⟨.hsl id 2 (off+1) l.length,?_,⟨λc a=>n.c c (List.mem_cons_of_mem _ a),.inr ⟨off+1,u,rfl,e2,by simp at e3;omega,?_⟩⟩,⟨_,_,_,rfl,rfl⟩⟩;simp[iX,ec];omega;have hd:(u.drop off).drop 1=u.drop (off+1):=by rw[List.drop_drop]
 rw[<-hd];have:=congrArg (List.drop 1) e4;rw[List.drop_take]at this;simpa using this
theorem uH.push(n:uH H w l id){c:S'}(a:c.length=2/\c.all V.one=true)(B:l.length+1<=2147483648):
 ∃H',eY (H++[.row 2 [c]]) (.append 2) [w,.hsl H.length 2 0 1]=some (.hsl (H.length+1) 2 0 (l.length+1),H')/\uH H' (.hsl (H.length+1) 2 0 (l.length+1)) (l++[c]) (H.length+1)/\H'.length=H.length+2/\(∀i,i<H.length->(∀off m,w=.hsl id 2 off m->i≠id)->H'[i]?=H[i]?):=by
 have e2:dM (H++[.row 2 [c]]) 2 (.hsl H.length 2 0 1)=some [c]:=by simp[dM,Ob.rows]
 have u:∀c'∈l++[c],c'.length=2/\c'.all V.one=true:=λc' h=>by rcases mem_append.1 h with h|h;exact n.c c' h;simp at h;subst h;exact a
 rcases n.v with⟨rfl,rfl⟩|⟨off,D,rfl,g2,g3,g4⟩
 .have e1:dM (H++[.row 2 [c]]) 2 .bG=some []:=rfl;refine⟨H++[.row 2 [c]]++[.row 2 [c]],?_,⟨u,.inr ⟨0,[c],rfl,Zab,Zab,rfl⟩⟩,Zab,λi hi _=>by rw[append_assoc,getElem?_append_left hi]⟩
  simp only[eY,e1,e2,gH,List.length_nil,length_singleton,map_some];simp
 have z:=(ζe.1 g2).1;have e1:dM (H++[.row 2 [c]]) 2 (.hsl id 2 off l.length)=some l:=by simp only[dM,if_true,getElem?_append_left z,g2,ζb,Ob.rows,g3,g4]
 have C:gH (H++[.row 2 [c]]) (.hsl id 2 off l.length)=some (List.set (H++[Ob.row 2 [c]]) id Ob.dead):=by simp only[gH,getElem?_append_left z,g2]
 refine⟨List.set (H++[Ob.row 2 [c]]) id Ob.dead++[Ob.row 2 (l++[c])],?_,⟨u,.inr ⟨0,l++[c],Zab,Zab,Zab,take_of_length_le Zab⟩⟩,Zab,λi hi h=>?_⟩
 .simp only[eY,e1,e2,C,length_singleton,B,if_true,map_some,ζi]
 rw[getElem?_append_left (by simp;omega),getElem?_set_ne (Ne.symm (h _ _ rfl)),getElem?_append_left hi]
end
def Dx(rs:QR):Out×St->aY bB
 |(.exit _,_)=>none|(_,st)=>(jP st rs).bind λl=>match l with
  |[.own d]=>bh st.m d|_=>none
theorem ZE{S:Sys}{c:bX}{rs:QR}{a:RC}{st:St}{ob:bB}(h:kW S c (Dx rs) a [] st=some ob):∃o st' d,cN S c a st=some (o,st')/\(∀id,o≠.exit id)/\jP st' rs=some [.own d]/\bh st'.m d=some ob:=by
 rw[oB]at h;have⟨⟨o,st'⟩,b,u⟩:=ζg.1 h;have z:∀id,o≠.exit id:=by rintro id rfl;simp[Dx]at u
 have B:(jP st' rs).bind (λl=>match l with|[.own d]=>bh st'.m d|_=>none)=some ob:=by cases o with|exit id=>exact absurd rfl (z id)|norm=>exact u|ret=>exact u
 have⟨l,C,w⟩:=ζg.1 B;split at w;exact⟨o,st',_,b,z,C,w⟩;cases w
def Sl.whole{α:Type}(s:Sl α):aY (Sl α):=match s with|.part _=>none|s=>some s
structure lz(S:Sys)(c:bX){α δ:Type}[bt δ](fn:FuncId)(A:α->List V)(p:α->Option (Sl δ)):Prop where
 k:S.E.keep fn=true
 o:S.E.own fn=true
 h:∀z s,p z=some s->∃e m',c fn ((A z).map .v) []=some ([.own e],m')/\bh m' e=some (cF s)
 sc:∀x:δ,(cells x).all V.scalar=true
theorem lz.mk'{S:Sys}{T:qv}{α δ:Type}[bt δ](rf:RF){fn:Y'}{A:α->S'}{p:α->aY (Sl δ)}(h:∀z,Le ((p z).bind λr=>some (cF r)) (b_ S (dm S T) (Dx rf.rs) (.rc rf.body,[],start ((A z).map .v) [])))
 (B:T fn=some rf:=by kernel_rfl)(b:S.E.keep fn=true:=by kernel_rfl)(D:S.E.own fn=true:=by kernel_rfl)(G:∀z,(A z).length<=rf.na:=by intro z;exact Nat.le_of_ble_eq_true (by kernel_rfl))
 (sc:∀x:δ,(cells x).all V.scalar=true:=by intro x;rfl):lz S (dm S T) fn A p where
 k:=b
 o:=D
 sc:=sc
 h z s u:=by have a:=h z (cF s) (by rw[u];rfl);change kW S (dm S T) (Dx rf.rs) rf.body [] (start ((A z).map .v) [])=some (cF s)at a;have⟨o,st',d,g1,g2,g3,g4⟩:=ZE a;refine⟨d,st'.m,?_,g4⟩;rw[sX B];unfold nN;rw[if_pos (by simpa using G z),g1];cases o with|exit id=>exact absurd rfl (g2 id)|norm=>simp only[g3,map_some]|ret=>simp only[g3,map_some]
section
variable{S:Sys}{c:bX}{β γ δ α:Type}[bt δ]{Q:Out×St->aY β}{e:γ->aY β}{cf:Cf}
theorem ud(n u:Nat){fn:Y'}{A:α->S'}{p:α->aY (Sl δ)}(F:lz S c fn A p)(z:α){f:Sl δ->aY γ}
 (h:∀x,(p z).bind Sl.whole=some x->Le ((f x).bind e) (b_ S c Q (nx S c n cf λq=>{q.st with g:=bF q.st.g u (.own u),m:=bF q.st.m u (cF x)})))
 (J:(gm S c n cf).map (λq=>(q.d,q.k,(bW S.N q.st.g q.az).bind j9,(!q.dr||q.now),q.st.new u))=some (some u,.c,some (fn,(A z).map .v),true,true):=by kernel_rfl):Le ((((p z).bind Sl.whole).bind f).bind e) (b_ S c Q cf):=by
 have⟨q,L,b⟩:=eW J;simp only[ζc]at b;have⟨O,T,U,W,I⟩:=b;have⟨C,g1,g2⟩:=ζg.1 U;refine pQ L ?_ h;rw[O,T];intro y D;have⟨X,G,D⟩:=ζg.1 D;cases D;have⟨s,Y,B⟩:=ζg.1 G;have⟨e0,m',d,Z⟩:=F.h z s Y;rw[sG q.dr _ _ _ _ _ C fn ((A z).map .v) g1 g2];have w:eo S c (some u) q.dr (!q.dr||q.now) (ez q.st.m q.fr) fn ((A z).map .v) q.st=some (.own u,{q.st with m:=bF q.st.m u (cF X)}):=by unfold eo;simp only[F.k,F.o,if_true,W,qw,d,dy,Z,cF,I];cases s with|nil=>cases B;rfl|emp=>cases B;rfl|row l=>cases B;have:kN (rows l)=true:=(by unfold kN;rw[all_eq_true];intro x i;obtain⟨a,_,rfl⟩:=mem_map.1 i;exact F.sc a);simp only[Sl.k,Sl.l,dy,V.c7,this,Bool.and_self,I,if_true];rfl|part l=>cases B
 rw[w];rfl
end
structure GD where
 m:Nat
 pre:List (Nat×List Gh)
 nd:List (Nat×List Gh×List Gh)
structure GI where
 m:Nat
 i:Nat
 j:Nat
def ZJ{α:Type}(l:aX (Nat×aX α))(i:Nat):aX α:=match l with
 |[]=>[]|(k,x)::r=>bif beq k i then x else ZJ r i
def zb(l:aX (Nat×QQ×QQ))(i:Nat):QQ×QQ:=match l with
 |[]=>([],[])|(k,x)::r=>bif beq k i then x else zb r i
def MT(m:Nat):So->So
 |[]=>[]|x::l=>bif beq (m % 2) 1 then x::MT (m / 2) l else MT (m / 2) l
def SR:QP->So
 |[]=>[]|.s n::r=>n::SR r|_::r=>SR r
def YB(o:RO):So:=(match o.dst with|some d=>[d]|none=>[])++(match o.gd with|some g=>[g.1]|none=>[])++SR o.az
def aaf(G:GD)(s:GI)(o:RO):RO:={o with dead:=MT (bif beq (s.m % 16) 15 then s.m / 16 % 65536 else s.m % 16) (YB o),pre:=ZJ G.pre s.i}
def GI.op(s:GI):GI:=⟨bif beq (s.m % 16) 15 then s.m / 1048576 else s.m / 16,s.i+1,s.j⟩
def BR(G:GD):R'->GI->R'×GI
 |[],s=>([],s)|o::r,s=>(aaf G s o::(BR G r s.op).1,(BR G r s.op).2)
def BL:QQ->RC->RC
 |[],c=>c|g::l,c=>.gh g (BL l c)
def Jl:QQ->RC->RC
 |[],c=>c|g::l,c=>Jl l (.hg c g)
def GI.nd(s:GI):GI:=⟨s.m,s.i,s.j+1⟩
def jO(G:GD):RC->GI->RC×GI
 |.seq a b,s=>(BL (zb G.nd s.j).1 (.seq (jO G a s.nd).1 (jO G b (jO G a s.nd).2).1),(jO G b (jO G a s.nd).2).2)|.cond x a b,s=>(BL (zb G.nd s.j).1 (.cond x (jO G a s.nd).1 (jO G b (jO G a s.nd).2).1),(jO G b (jO G a s.nd).2).2)|.block id a,s=>(BL (zb G.nd s.j).1 (.block id (jO G a s.nd).1),(jO G a s.nd).2)|.loop a,s=>(BL (zb G.nd s.j).1 (.loop (Jl (zb G.nd s.j).2 (jO G a s.nd).1)),(jO G a s.nd).2)|.each g ps a b,s=>(BL (zb G.nd s.j).1 (.each g ps (jO G a s.nd).1 (Jl (zb G.nd s.j).2 (jO G b (jO G a s.nd).2).1)),(jO G b (jO G a s.nd).2).2)|.ops l,s=>(BL (zb G.nd s.j).1 (Jl (zb G.nd s.j).2 (.ops (BR G l s.nd).1)),(BR G l s.nd).2)|.ua l,s=>(BL (zb G.nd s.j).1 (Jl (zb G.nd s.j).2 (.ua (BR G l s.nd).1)),(BR G l s.nd).2)|.gh g c,s=>(.gh g c,s)|.hg c g,s=>(.hg c g,s)|c,s=>(BL (zb G.nd s.j).1 c,s.nd)
theorem lN(c:RC):∀l,erase (BL l c)=erase c
 |[]=>rfl|g::l=>by simp only[BL,erase,lN c l]
theorem vR:∀l(c:RC),erase (Jl l c)=erase c
 |[],c=>rfl|g::l,c=>by simp only[Jl,vR l,erase]
theorem zX(G:GD):∀(l:R')s,((BR G l s).1).map RO.strip=l.map RO.strip
 |[],s=>rfl|o::r,s=>by simp only[BR,map_cons,zX G r];rfl
theorem mD(G:GD):∀(c:RC)s,erase (jO G c s).1=erase c
 |.seq a b,s=>by simp only[jO,lN,erase,mD G a,mD G b]|.cond x a b,s=>by simp only[jO,lN,erase,mD G a,mD G b]|.block id a,s=>by simp only[jO,lN,erase,mD G a]|.loop a,s=>by simp only[jO,lN,erase,vR,mD G a]|.each g ps a b,s=>by simp only[jO,lN,erase,vR,mD G a,mD G b]|.ops l,s=>by simp only[jO,lN,vR,erase,zX]|.ua l,s=>by simp only[jO,lN,vR,erase,zX]|.gh g c,s=>rfl|.hg c g,s=>rfl|.skip,s=>by simp only[jO,lN]|.ret,s=>by simp only[jO,lN]|.exit _,s=>by simp only[jO,lN]
theorem KX{X:CX}{dr:X'}{ops:Rd}{i:Nat}{o:Oper}{r:RO}(h:ng X dr ops i o=some r):r.strip=r:=by obtain⟨_,_,_,_,_,_,rfl⟩:=DS h;rfl
theorem y_{X:CX}{dr:X'}{ops:Rd}:∀{l:Rd}{i:Nat}{r:R'},lU X dr ops i l=some r->r.map RO.strip=r
 |[],i,r,h=>by cases h;rfl|o::l,i,r,h=>by simp only[lU]at h;split at h;(next a b B D=>cases h;simp only[map_cons,KX B,y_ D]);cases h
theorem K5{X:CX}:∀{c:Code}{ro:X'}{r:RC},bM X ro c=some r->erase r=r:=by intro c;induction c with|region _ ops dr=>intro ro r h;simp only[bM]at h;split at h;split at h;obtain⟨l,d,rfl⟩:=ζf.1 h;simp only[erase,y_ d];cases h;obtain⟨l,d,rfl⟩:=ζf.1 h;simp only[erase,y_ d]|seq a b u w=>intro ro r h;simp only[bM]at h;split at h;(next d z=>cases h;simp only[erase,u d,w z]);cases h|cond c a b u w=>intro ro r h;simp only[bM]at h;split at h;(next d z=>cases h;simp only[erase,u d,w z]);cases h|block id a u=>intro ro r h;simp only[bM]at h;obtain⟨l,d,rfl⟩:=ζf.1 h;simp only[erase,u d]|loop a u=>intro ro r h;simp only[bM]at h;obtain⟨l,d,rfl⟩:=ζf.1 h;simp only[erase,u d]|rangeFunc g ps a b u w=>intro ro r h;simp only[bM]at h;split at h;cases h;split at h;(next d z=>cases h;simp only[erase,u d,w z]);cases h|_=>intro ro r h;first|cases h;rfl|(simp only[bM]at h;cases h;rfl)|(simp only[bM]at h;cases h)
def Q9(E:Env)(nm:Y'->aY Nat)(G:Y'->aY GD):qv:=λf=>(G f).bind λg=>(E.ft f).bind λu=>(bM ⟨E,nm,u.ntmps⟩ false u.body).bind λc=>(u.results.mapM (Cr E)).bind λrs=>some ⟨u.ntmps,rs,(jO g c ⟨g.m,0,0⟩).1⟩
theorem C7{E:Env}{nm:Y'->aY Nat}{G:Y'->aY GD}{f:Y'}{rf:RF}(h:Q9 E nm G f=some rf):∃fi,E.ft f=some fi/\yC E nm fi rf:=by unfold Q9 at h;have⟨g,_,h⟩:=ζg.1 h;have⟨fi,a,h⟩:=ζg.1 h;have⟨c,u,h⟩:=ζg.1 h;have⟨rs,w,h⟩:=ζg.1 h;cases h;exact⟨fi,a,by rw[u,mD,K5 u],w,rfl⟩
theorem zM:∀(g:Y')(s:Nat),some g=some s->(λn=>n) s=g:=λ_ _ h=>(Option.some.inj h).symm
def nF(o:aY RF):RF:=o.getD ⟨0,[],.skip⟩
def tb(T:qv)(f:Y'):RC:=(nF (T f)).body
def tr(T:qv)(f:Y'):QR:=(nF (T f)).rs
theorem zA{o:aY RF}(h:o.isSome=true):o=some (nF o):=by cases o with
 |none=>cases h|some r=>rfl
class fZ(δ:Type)where
 e:δ->List V
instance aaO{α:Type}[bt α]:fZ α:=⟨λx=>[enc x]⟩
instance aaK:fZ Unit:=⟨λ_=>[]⟩
instance aaN{α β:Type}[bt α][fZ β]:fZ (α×β):=⟨λx=>enc x.1::fZ.e x.2⟩
@[simp] theorem aap{α:Type}[bt α](x:α):fZ.e x=[enc x]:=rfl
@[simp] theorem aal(x:Unit):fZ.e x=[]:=rfl
@[simp] theorem aan{α β:Type}[bt α][fZ β](x:α×β):fZ.e x=enc x.1::fZ.e x.2:=rfl
class Fc(S:Sys)(c:bX){δ:Type}(m:Option δ)where
 n:FuncId
 az:List V
 E:δ->List V
 sc:Bool
 F:iu S c n (λ_:Unit=>az) E (λ_=>m) sc
section
variable{S:Sys}{T:qv}{δ:Type}{m:aY δ}
theorem iu.Rh{E:δ->S'}(fn:Y')(az:S')(h:Le (m.bind λr=>some (E r)) (b_ S (dm S T) (qc (tr T fn)) (.rc (tb T fn),[],start (az.map .v) [])))
 (B:(T fn).isSome=true)(a:S.E.keep fn=false)(D:ble az.length (nF (T fn)).na=true)
 {sc:X'}(s:sc=true->∀r,(result (E r)).scalar=true):iu S (dm S T) fn (λ_:Unit=>az) E (λ_=>m) sc where
 k:=a
 h z:=aab (zA B) (Nat.le_of_ble_eq_true D) h
 s:=s
abbrev Fc.NE(E:δ->aX V)(fn:FuncId)(az:aX V)(h:Le (m.bind λr=>some (E r)) (b_ S (dm S T) (qc (tr T fn)) (.rc (tb T fn),[],start (az.map .v) [])))
 (B:(T fn).isSome=true:=by kernel_rfl)(a:S.E.keep fn=false:=by kernel_rfl)(D:ble az.length (nF (T fn)).na=true:=by kernel_rfl)
 :Fc S (dm S T) m:=
 ⟨fn,az,E,false,iu.Rh fn az h B a D λh=>nomatch h⟩
abbrev Fc.M[fZ δ](fn:FuncId)(az:aX V)(h:Le (m.bind λr=>some (fZ.e r)) (b_ S (dm S T) (qc (tr T fn)) (.rc (tb T fn),[],start (az.map .v) [])))
 (B:(T fn).isSome=true:=by kernel_rfl)(a:S.E.keep fn=false:=by kernel_rfl)(D:ble az.length (nF (T fn)).na=true:=by kernel_rfl)
 (s:∀r:δ,(result (fZ.e r)).scalar=true:=by intro r;kernel_rfl):Fc S (dm S T) m:=
 ⟨fn,az,fZ.e,true,iu.Rh fn az h B a D λ_=>s⟩
abbrev Fc.N[fZ δ](fn:FuncId)(az:aX V)(h:Le (m.bind λr=>some (fZ.e r)) (b_ S (dm S T) (qc (tr T fn)) (.rc (tb T fn),[],start (az.map .v) [])))
 (B:(T fn).isSome=true:=by kernel_rfl)(a:S.E.keep fn=false:=by kernel_rfl)(D:ble az.length (nF (T fn)).na=true:=by kernel_rfl)
 :Fc S (dm S T) m:=
 ⟨fn,az,fZ.e,false,iu.Rh fn az h B a D λh=>nomatch h⟩
end
abbrev Fc.of{S:Sys}{c:bX}{α δ:Type}{p:α->aY δ}{n:FuncId}{A:α->aX V}{E:δ->aX V}{b:Bool}(z:α)(F:iu S c n A E p b):Fc S c (p z):=⟨n,A z,E,b,⟨F.k,λ_=>F.h z,F.s⟩⟩
theorem iu.o8{S:Sys}{c:bX}{α δ:Type}{p:α->aY δ}{n:Y'}{A:α->S'}{E:δ->S'}{b:X'}(F:∀z,Fc S c (p z))(i:α)(B:∀z,(F z).n=n)(G:∀z,(F z).az=A z)(D:∀z,(F z).E=E)(J:∀z,(F z).sc=b):iu S c n A E p b where
 k:=by rw[<-B i];exact(F i).F.k
 h z:=by rw[<-B z,<-G z,<-D z];exact(F z).F.h ()
 s:=by rw[<-J i,<-D i];exact(F i).F.s
theorem ki.o8{S:Sys}{c:bX}{α δ:Type}{p:α->aY δ}{g:Y'}{w e:S'}{A:α->S'}{R:δ->S'}{b:X'}[i:Inhabited α][F:∀z,Fc S c (p z)](B:∀z,(F z).n=g:=by intro _;kernel_rfl)(D:∀z,(F z).az=w++A z++e:=by intro _;kernel_rfl)
 (G:∀z,(F z).E=R:=by intro _;kernel_rfl)(J:∀z,(F z).sc=b:=by intro _;kernel_rfl):ki S c g w e A R p b:=
 ⟨iu.o8 F default B D G J⟩
section
variable{S:Sys}{c:bX}{β γ δ α:Type}{Q:Out×St->aY β}{e:γ->aY β}{cf:Cf}
theorem qf(n:Nat){m:aY β}(h:Le m (b_ S c Q (jo S c n cf)))(B:iC S c n cf.1 cf.2.1 cf.2.2=some (jo S c n cf):=by kernel_rfl):Le m (b_ S c Q cf):=BM B h
theorem bC(n:Nat){m:aY δ}[F:Fc S c m]{f:δ->aY γ}(h:∀x,m=some x->Le ((f x).bind e) (b_ S c Q (nx S c n cf λp=>dn p.st p.d (.v (result (F.E x))))))
 (B:(gm S c n cf).map (λp=>(p.k,(bW S.N p.st.g p.az).bind j9,(!p.dr||p.now||ez p.st.m p.fr [])))=some (.c,some (F.n,F.az.map .v),true):=by kernel_rfl):Le ((m.bind f).bind e) (b_ S c Q cf):=wX n F.F () h B
theorem cW(n:Nat){m:aY δ}[F:Fc S c m]{f:δ->aY γ}(h:∀x,m=some x->Le ((f x).bind e) (b_ S c Q (nx S c n cf λp=>dn p.st p.d (.v (result (F.E x))))))
 (B:(gm S c n cf).map (λp=>(p.k,((bW S.N p.st.g p.az).bind j9).bind λq=>(oT (js p.st.m 8) q.2).map λvs=>(q.1,vs,((!p.dr||p.now)||ez p.st.m p.fr q.2))))=some (.c,some (F.n,F.az,true)):=by kernel_rfl)(D:F.sc=true:=by kernel_rfl):Le ((m.bind f).bind e) (b_ S c Q cf):=
 Yb n (u D F.F) () h B
where
 u {b:X'} {fn:Y'} {az:S'} {E:δ->S'} {m:aY δ} (h:b=true) (F:iu S c fn (λ_:Unit=>az) E (λ_=>m) b):iu S c fn (λ_:Unit=>az) E (λ_=>m) true:=h▸F
def T6(cf:Cf):RC:=match cf.1 with|.rc (.loop c)=>c|_=>.skip
def EG(cf:Cf):Arg×So×RC×RC:=match cf.1 with|.rc (.each g ps a b)=>(g,ps,a,b)|_=>(.s 0,[],.skip,.skip)
theorem iJ{σ ε ρ:Type}{step:σ->aY (Fw σ ε ρ)}(n:Nat)(eσ:σ->St)(eε:ε->Nat×St)(eρ:ρ->St){s:σ}{B:ε->aY γ}{fr:ρ->aY γ}
 (h:∀s,Le ((step s).bind λw=>some (Fw.out eσ eε eρ w)) (b_ S c some (.rc (T6 (jo S c n cf)),[],eσ s)))
 (D:∀x,Le ((B x).bind e) (b_ S c Q (.ex (eε x).1,(jo S c n cf).2.1,(eε x).2)))(a:∀b,Le ((fr b).bind e) (Q (.ret,eρ b)))
 (G:iC S c n cf.1 cf.2.1 cf.2.2=some (.rc (.loop (T6 (jo S c n cf))),(jo S c n cf).2.1,eσ s):=by kernel_rfl):Le (((cD step s).bind (Fw.elim B fr)).bind e) (b_ S c Q cf):=
 O7 G h D a
theorem gJ{σ ε:Type}{step:σ->aY (Fw σ ε Empty)}(n:Nat)(eσ:σ->St)(eε:ε->Nat×St){s:σ}{B:ε->aY γ}{fr:Empty->aY γ}
 (h:∀s,Le ((step s).bind λw=>some (Fw.out eσ eε (λe=>Empty.elim e) w)) (b_ S c some (.rc (T6 (jo S c n cf)),[],eσ s)))
 (D:∀x,Le ((B x).bind e) (b_ S c Q (.ex (eε x).1,(jo S c n cf).2.1,(eε x).2)))
 (G:iC S c n cf.1 cf.2.1 cf.2.2=some (.rc (.loop (T6 (jo S c n cf))),(jo S c n cf).2.1,eσ s):=by kernel_rfl):Le (((cD step s).bind (Fw.elim B fr)).bind e) (b_ S c Q cf):=
 O7 G h D λb=>Empty.elim b
theorem Ca{σ ε ρ:Type}{f:Y'}{x y:S'}{a:aX α}{eI:α->S'}{step:α->σ->aY (Fw σ ε ρ)}(n:Nat)(d:Tb SV)(eσ:σ->Tb bB)(eε:ε->Nat×Tb bB)(eρ:ρ->Tb bB){s:σ}{fn:σ->aY γ}{B:ε->aY γ}{fr:ρ->aY γ}
 (hi:S.items f x y=some (a.map eI))
 (h:∀x s,Le ((step x s).bind λw=>some (Fw.xY eσ eε eρ w)) (b_ S c (Ab S c (EG (jo S c n cf)).2.2.2) (.rc (EG (jo S c n cf)).2.2.1,[],⟨ye d (EG (jo S c n cf)).2.1 ((eI x).map .v),eσ s,qE d,[],true,0⟩)))
 (D:∀s,Le ((fn s).bind e) (b_ S c Q (.nx,(jo S c n cf).2.1,cr d (eσ s))))(G:∀x,Le ((B x).bind e) (b_ S c Q (.ex (eε x).1,(jo S c n cf).2.1,cr d (eε x).2)))(g:∀b,Le ((fr b).bind e) (Q (.ret,cr d (eρ b))))
 (J:∀x,(eI x).length=(EG (jo S c n cf)).2.1.length:=by intro _;kernel_rfl)(i:rU S.N d (EG (jo S c n cf)).1=some (.v (.clo f x y)):=by kernel_rfl)
 (T:iC S c n cf.1 cf.2.1 cf.2.2=some (.rc (.each (EG (jo S c n cf)).1 (EG (jo S c n cf)).2.1 (EG (jo S c n cf)).2.2.1 (EG (jo S c n cf)).2.2.2),(jo S c n cf).2.1,cr d (eσ s)):=by kernel_rfl):Le (((kY step a s).bind (Fw.rO fn B fr)).bind e) (b_ S c Q cf):=
 XP T i hi J h D G g
def WX(n k:Nat)(B:So)(d:Nat)(S:Sys)(c:bX)(cf:Cf)(v:SV):Cf:=jmp k [] (jo S c n cf) {(jo S c n cf).2.2 with g:=bF (qp B (jo S c n cf).2.2.g) d v}
theorem ck[bt δ](n k:Nat)(B:So)(d:Nat){m:aY δ}{f:δ->aY γ}(D:Le (m.bind λr=>b_ S c Q (WX n k B d S c cf (cv r))) (b_ S c Q cf))(a:∀r,Le ((f r).bind e) (b_ S c Q (WX n k B d S c cf (cv r)))):Le ((m.bind f).bind e) (b_ S c Q cf):=TH _ D a
end
theorem NL{α β:Type}{P:α ⊕ β->Prop}(c:∀a,P (.inl a))(B:∀b,P (.inr b)):∀x,P x
 |.inl a=>c a|.inr b=>B b
instance{n:Nat}:DecidableEq (bU n Int):=λa b=>if h:a.l=b.l then .isTrue (by cases a;cases b;cases h;rfl)else .isFalse λe=>h (by rw[e])
theorem wR:∀l:SW,iL ((l.map (cells (α:=Int))).flatten)=some l
 |[]=>rfl|a::l=>by show iL (.int .i64 a::(l.map (cells (α:=Int))).flatten)=_;simp only[iL,wR l,map_some]
theorem P_(l:SW):(l.map (cells (α:=Int))).flatten=l.map (V.int .i64):=by induction l with|nil=>rfl|cons a l u=>simp only[map_cons,List.flatten_cons,u];rfl
instance{n:Nat}:Key (bU n Int)where
 kk:=.ints n
 ok a:=by show((a.l.map (cells (α:=Int))).flatten.length==n&&(iL (a.l.map (cells (α:=Int))).flatten).isSome)=true;rw[wR,P_,length_map,a.len];simp
 eq a b:=by show lQ (a.l.map (cells (α:=Int))).flatten (b.l.map (cells (α:=Int))).flatten=_;unfold lQ;rw[wR,wR];simp only[a.len,b.len,if_true];congr 1;rw[Bool.eq_iff_iff,beq_iff_eq,decide_eq_true_iff];exact⟨λh=>by cases a;cases b;cases h;rfl,λh=>by rw[h]⟩
section
variable{S:Sys}{c:bX}{β γ δ α:Type}{Q:Out×St->aY β}{e:γ->aY β}{cf:Cf}
end
section
variable{S:Sys}{c:bX}{β γ δ:Type}{Q:Out×St->aY β}{e:γ->aY β}{cf:Cf}{κ ν:Type}[bt κ][DecidableEq κ][Key κ][bt ν]
structure Zq(κ ν:Type)where
 o:Option (Mo κ ν)
 deriving Inhabited
def Xd(m:Zq κ ν):V:=match m.o with|none=>.gR|some l=>.fmap (pF l)
theorem OU(m:Mo κ ν):V.uB (pF m)=true:=by induction m with|nil=>rfl|cons x r u=>show V.uB ((enc x.1,enc x.2)::pF r)=true;simp only[V.uB,jM,u,Bool.and_self]
instance:bt (Zq κ ν)where
 cells m:=[Xd m]
 agg:=false
 size:=1
 len _:=rfl
 good m:=by unfold Xd;split;rfl;simp only[V.cQ,V.good,OU,Bool.and_self]
 one m:=by unfold Xd;split<;>rfl
 plain _:=rfl
end
theorem iu.scalar{S:Sys}{c:bX}{α δ:Type}{fn:Y'}{A:α->S'}{E:δ->S'}{p:α->aY δ}{b:X'}(F:iu S c fn A E p b)(h:∀r,(result (E r)).scalar=true):iu S c fn A E p true:=⟨F.k,F.h,λ_=>h⟩
section
variable{S:Sys}{c:bX}{β γ δ α:Type}[bt α]{Q:Out×St->aY β}{e:γ->aY β}{cf:Cf}
theorem Ub{ω:Type}[bt ω](n u:Nat){N:Nat}(a:bU N α)(i:Int)(o:Nat)(x:α)(D:a.at i=some x)(y:α)(w:ω)(G:cells y=(cells x).take o++cells w++(cells x).drop (o+bt.size ω)){m:aY β}(h:Le m (b_ S c Q (nx S c n cf λp=>dn {p.st with m:=bF p.st.m u (bx (a.set i y))} p.d (.v .undef))))
 (J:(gm S c n cf).map (λp=>(p.k,bW S.N p.st.g p.az,bh p.st.m u,(!p.dr||p.now),ble (o+bt.size ω) (bt.size α)))=some (.l (.store (bt.size ω)),some [.ptr u (i.toNat*bt.size α+o),cv w],some (bx a),true,true):=by kernel_rfl):Le m (b_ S c Q cf):=by
 have⟨p,B,z⟩:=eW J;simp only[ζc]at z;have⟨b,C⟩:=kE B;have⟨dr,fr,d,gd,now,U,az,dd,l,fs,st⟩:=p;obtain⟨rfl,I,L,O,T⟩:=z;exact Yq n dr fr (⟨d,gd,now,.l (.store (bt.size ω)),az,dd,[]⟩::l) fs st u a i o x D y (enc w) (by rw[jq];exact G) rfl (by(try dsimp only at *);simp only[b,C,I,L,O,T,jq,iw,u_]) (by
  simp only[nx,B]at h;exact h)
end
def H6(rs:QR):Out×St->aY (bB×S')
 |(.exit _,_)=>none|(_,st)=>(jP st rs).bind λl=>match l with
  |.own d::r=>(bh st.m d).bind λob=>(dy r).map λys=>(ob,ys)|_=>none
theorem zo:∀{l:ST}{ys:S'},dy l=some ys->l=ys.map .v
 |[],ys,h=>by cases h;rfl|.v x::r,ys,h=>by simp only[dy]at h;obtain⟨B,a,rfl⟩:=ζf.1 h;rw[zo a];rfl|.own _::_,_,h|.ptr ..::_,_,h|.el ..::_,_,h|.mp _::_,_,h|.clo ..::_,_,h|.tup _::_,_,h|.agg _::_,_,h|.yl _::_,_,h=>by cases h
theorem ZX{S:Sys}{c:bX}{rs:QR}{a:RC}{st:St}{ob:bB}{ys:S'}(h:kW S c (H6 rs) a [] st=some (ob,ys)):∃o st' d,cN S c a st=some (o,st')/\(∀id,o≠.exit id)/\jP st' rs=some (.own d::ys.map .v)/\bh st'.m d=some ob:=by
 rw[oB]at h;have⟨⟨o,st'⟩,b,u⟩:=ζg.1 h;have z:∀id,o≠.exit id:=by rintro id rfl;simp[H6]at u
 have B:(jP st' rs).bind (λl=>match l with|.own d::r=>(bh st'.m d).bind λob=>(dy r).map λys=>(ob,ys)|_=>none)=some (ob,ys):=by cases o with|exit id=>exact absurd rfl (z id)|norm=>exact u|ret=>exact u
 have⟨l,C,w⟩:=ζg.1 B;split at w;have⟨D,G,I⟩:=ζg.1 w;have⟨O,J,L⟩:=ζf.1 I;cases L;exact⟨o,st',_,b,z,by rw[C,zo J],G⟩;cases w
structure OP(S:Sys)(c:bX){δ ε:Type}[bt δ][fZ ε](m:Option (Sl δ×ε))where
 n:FuncId
 az:List V
 k:S.E.keep n=true
 o:S.E.own n=true
 h:∀s r,m=some (s,r)->∃e m',c n (az.map .v) []=some (.own e::(fZ.e r).map .v,m')/\bh m' e=some (cF s)
 sc:∀x:δ,(cells x).all V.scalar=true
 sr:∀r:ε,V.c7 (fZ.e r)=true
abbrev OP.mk'{S:Sys}{T:qv}{δ ε:Type}[bt δ][fZ ε]{m:aY (Sl δ×ε)}(fn:FuncId)(az:aX V)(h:Le (m.bind λr=>some (cF r.1,fZ.e r.2)) (b_ S (dm S T) (H6 (tr T fn)) (.rc (tb T fn),[],start (az.map .v) [])))
 (B:(T fn).isSome=true:=by kernel_rfl)(b:S.E.keep fn=true:=by kernel_rfl)(D:S.E.own fn=true:=by kernel_rfl)(G:ble az.length (nF (T fn)).na=true:=by kernel_rfl)
 (sc:∀x:δ,(cells x).all V.scalar=true:=by intro x;rfl)(sr:∀r:ε,V.c7 (fZ.e r)=true:=by intro r;rfl):OP S (dm S T) m where
 n:=fn
 az:=az
 k:=b
 o:=D
 sc:=sc
 sr:=sr
 h s r w:=by have u:=zA B;have a:=h (cF s,fZ.e r) (by rw[w];rfl);change kW S (dm S T) (H6 (nF (T fn)).rs) (nF (T fn)).body [] (start (az.map .v) [])=some (cF s,fZ.e r)at a;have⟨o,st',d,g1,g2,g3,g4⟩:=ZX a;refine⟨d,st'.m,?_,g4⟩;rw[sX u];unfold nN;rw[if_pos (by simpa using Nat.le_of_ble_eq_true G),g1];cases o with|exit id=>exact absurd rfl (g2 id)|norm=>simp only[g3,map_some]|ret=>simp only[g3,map_some]
def zz{δ ε:Type}(p:Sl δ×ε):aY (Sl δ×ε):=p.1.whole.map λs=>(s,p.2)
theorem Y0{S:Sys}{c:bX}{β γ δ ε:Type}[bt δ][fZ ε]{Q:Out×St->aY β}{e:γ->aY β}{cf:Cf}{m:aY (Sl δ×ε)}(F:OP S c m)(n u:Nat){f:Sl δ×ε->aY γ}
 (h:∀x,m.bind zz=some x->Le ((f x).bind e) (b_ S c Q (nx S c n cf λq=>{q.st with g:=bF q.st.g u (yE (.own u::(fZ.e x.2).map .v)),m:=bF q.st.m u (cF x.1)})))
 (J:(gm S c n cf).map (λq=>(q.d,q.k,(bW S.N q.st.g q.az).bind j9,(!q.dr||q.now),q.st.new u))=some (some u,.c,some (F.n,F.az.map .v),true,true):=by kernel_rfl):Le (((m.bind zz).bind f).bind e) (b_ S c Q cf):=by
 have⟨q,L,b⟩:=eW J;simp only[ζc]at b;have⟨O,T,U,W,B⟩:=b;have⟨C,g1,g2⟩:=ζg.1 U;refine pQ L ?_ h;rw[O,T];intro y D;have⟨⟨X,r⟩,G,D⟩:=ζg.1 D;cases D;have⟨⟨s,I⟩,Y,w⟩:=ζg.1 G;unfold zz at w;have⟨k,w,Z⟩:=ζf.1 w;cases Z;have⟨e0,m',d,i⟩:=F.h s I Y;rw[sG q.dr _ _ _ _ _ C F.n (F.az.map .v) g1 g2];have z:eo S c (some u) q.dr (!q.dr||q.now) (ez q.st.m q.fr) F.n (F.az.map .v) q.st=some (yE (.own u::(fZ.e I).map .v),{q.st with m:=bF q.st.m u (cF X)}):=by unfold eo;simp only[F.k,F.o,if_true,W,qw,d,dy,jR,i,cF,B];cases s with|nil=>cases w;simp only[Sl.k,F.sr,B,Bool.and_self,if_true];rfl|emp=>cases w;simp only[Sl.k,F.sr,B,Bool.and_self,if_true];rfl|row l=>cases w;have:kN (rows l)=true:=(by unfold kN;rw[all_eq_true];intro x j;obtain⟨a,_,rfl⟩:=mem_map.1 j;exact F.sc a);simp only[Sl.k,Sl.l,F.sr,this,Bool.and_self,B,if_true]|part l=>cases w
 rw[z];rfl
section
variable{S:Sys}{c:bX}{β γ δ α:Type}{Q:Out×St->aY β}{e:γ->aY β}{cf:Cf}
end
def Dc(rs:QR)(B:So):Out×St->aY (S'×dB)
 |(.exit _,_)=>none|(_,st)=>(jP st rs).bind λl=>(dy l).bind λys=>(kD st.m B).map λos=>(ys,os)
theorem goK{S:Sys}{c:bX}{rs:QR}{B:So}{a:RC}{st:St}{os:dB}{ys:S'}(h:kW S c (Dc rs B) a [] st=some (ys,os)):∃o st',cN S c a st=some (o,st')/\(∀id,o≠.exit id)/\jP st' rs=some (ys.map .v)/\kD st'.m B=some os:=by
 rw[oB]at h;have⟨⟨o,st'⟩,b,u⟩:=ζg.1 h;have w:∀id,o≠.exit id:=by rintro id rfl;simp[Dc]at u
 have z:(jP st' rs).bind (λl=>(dy l).bind λys=>(kD st'.m B).map λos=>(ys,os))=some (ys,os):=by cases o with|exit id=>exact absurd rfl (w id)|norm=>exact u|ret=>exact u
 have⟨l,C,D⟩:=ζg.1 z;have⟨O,G,I⟩:=ζg.1 D;have⟨q,J,L⟩:=ζf.1 I;cases L;exact⟨o,st',b,w,by rw[C,zo G],J⟩
def ni:Tb bB->dB->Tb bB
 |m,[]=>m|m,(d,ob)::r=>ni (bF m d ob) r
theorem JH{m':dB}{D:So}:∀{B:So}{os m:dB},kD m' B=some os->(os.all λx=>within D x.2)=true->yH D m' B m=some (ni m os)
 |[],os,m,h,_=>by cases h;rfl|k::B,os,m,h,hp=>by simp only[kD]at h;split at h;(next v t a G=>cases h;simp only[all_cons,ζh]at hp;simp only[yH,a,hp.1,if_true,ni];exact JH G hp.2);cases h
theorem back_eq{m':dB}{B:So}{os m:dB}(h:kD m' B=some os)(hp:(os.all λx=>within B x.2)=true):jQ m' B m=some (ni m os):=JH h hp
structure oh(S:Sys)(c:bX){δ:Type}(m:Option δ)where
 n:FuncId
 az:List SV
 os:dB
 E:δ->List V
 M:δ->dB
 k:S.E.keep n=true
 o:S.E.own n=false
 q:(S.prm n).isNone=true
 h:∀r,m=some r->∃m',c n az os=some ((E r).map .v,m')/\∀m0,jQ m' (os.map (·.1)) m0=some (ni m0 (M r))
abbrev oh.mk'{S:Sys}{T:qv}{δ:Type}{m:aY δ}(fn:FuncId)(az:aX SV)(os:dB)(E:δ->aX V)(M:δ->dB)(h:Le (m.bind λr=>some (E r,M r)) (b_ S (dm S T) (Dc (tr T fn) (os.map (·.1))) (.rc (tb T fn),[],start az os)))
 (B:(T fn).isSome=true:=by kernel_rfl)(b:S.E.keep fn=true:=by kernel_rfl)(D:S.E.own fn=false:=by kernel_rfl)(G:(S.prm fn).isNone=true:=by kernel_rfl)(J:ble az.length (nF (T fn)).na=true:=by kernel_rfl)
 (hp:∀r,((M r).all λx=>within (os.map (·.1)) x.2)=true:=by intro r;kernel_rfl):oh S (dm S T) m where
 n:=fn
 az:=az
 os:=os
 E:=E
 M:=M
 k:=b
 o:=D
 q:=G
 h r hr:=by have u:=zA B;have a:=h (E r,M r) (by rw[hr];rfl);change kW S (dm S T) (Dc (nF (T fn)).rs (os.map (·.1))) (nF (T fn)).body [] (start az os)=some (E r,M r)at a;have⟨o,st',g1,g2,g3,g4⟩:=goK a;refine⟨st'.m,?_,λw=>back_eq g4 (hp r)⟩;rw[sX u];unfold nN;rw[if_pos (Nat.le_of_ble_eq_true J),g1];cases o with|exit id=>exact absurd rfl (g2 id)|norm=>simp only[g3,map_some]|ret=>simp only[g3,map_some]
section
variable{S:Sys}{c:bX}{β γ δ:Type}{Q:Out×St->aY β}{e:γ->aY β}{cf:Cf}
theorem xU(n:Nat){m:aY δ}(F:oh S c m){f:δ->aY γ}(h:∀x,m=some x->Le ((f x).bind e) (b_ S c Q (nx S c n cf λp=>dn {p.st with m:=ni p.st.m (F.M x)} p.d (.v (result (F.E x))))))
 (B:(gm S c n cf).map (λp=>(p.k,((bW S.N p.st.g p.az).bind j9).bind λq=>(handed p.st.m q.2).map λos=>(q.1,q.2,os),p.dr))=some (.c,some (F.n,F.az,F.os),false):=by kernel_rfl):Le ((m.bind f).bind e) (b_ S c Q cf):=by
 have⟨p,z,a⟩:=eW B;simp only[ζc]at a;have⟨C,D,G⟩:=a;have⟨q,g1,g2⟩:=ζg.1 D;have⟨u,g3,g4⟩:=ζg.1 g1;have⟨os,g5,g6⟩:=ζf.1 g2;simp only[ζc]at g6;obtain⟨e1,e2,rfl⟩:=g6;refine pQ z ?_ h;rw[C,G,sG _ _ _ _ _ _ u q.1 q.2 g3 g4];intro y w;have⟨r,b,w⟩:=ζg.1 w;cases w;have⟨m',k1,k2⟩:=F.h r b;have I:S.prm F.n=none:=by have:=F.q;cases J:S.prm F.n with|none=>rfl|some _=>rw[J]at this;cases this
 have:eo S c p.d false (!false||p.now) (ez p.st.m p.fr) q.1 q.2 p.st=some (.v (result (F.E r)),{p.st with m:=ni p.st.m (F.M r)}):=by unfold eo;rw[e1,e2]at *;simp only[F.k,F.o,I,g5,k1,jR,k2,if_true,Bool.not_false,Bool.true_or,Bool.false_and,false_eq_true,if_false]
 rw[this];rfl
instance:Key V' where
 kk:=.str
 ok _:=rfl
 eq a b:=by show some (a==b)=some (decide (a=b));rw[show(a==b)=decide (a=b)from Bool.eq_iff_iff.2 (by cases a;cases b;rename_i x y;show(x==y)=true↔_;simp)]
def NM(s:Sl U8):V':=rT (s.l.map U8.v)
theorem J9:∀l:aX U8,mm (rows l)=some (l.map U8.v)
 |[]=>rfl|a::l=>by show(mm (rows l)).map (a.v::·)=_;rw[J9 l];rfl
theorem Zd(n u:Nat)(s:Sl U8){m:aY β}(h:Le m (b_ S c Q (nx S c n cf λp=>dn p.st p.d (.v (.str (NM s))))))
 (B:(gm S c n cf).map (λp=>(p.k,bW S.N p.st.g p.az,bh p.st.m u,p.dr))=some (.b,some [.own u],some (cF s),false):=by kernel_rfl):Le m (b_ S c Q cf):=by
 have⟨p,z,a⟩:=eW B;simp only[ζc]at a;have⟨C,D,G,I⟩:=a;refine AY z ?_ h;rw[C,I];have J:(je p.st.m 1 (.own u)).bind (λL=>(mm L).map λl=>((SV.v (.str (rT l)),p.st):SV×St))=some (.v (.str (NM s)),p.st):=by have O:mm (rows s.l)=some (s.l.map U8.v):=J9 _;have w:je p.st.m 1 (.own u)=some (rows s.l):=(by unfold je;simp only[G];cases s<;>rfl);rw[w];show((mm (rows s.l)).map λl=>_)=_;rw[O];rfl
 unfold fH mH;have T:fV S.N p.st.g ⟨p.d,none,p.now,.b,p.az,[],[]⟩=none:=rfl;simp only[wanted,T,D,false_eq_true,if_false,J];rfl
end
def NV(rs:QR)(B:So):Out×St->aY (bB×S'×dB)
 |(.exit _,_)=>none|(_,st)=>(jP st rs).bind λl=>match l with
  |.own d::r=>if B.contains d then none else(bh st.m d).bind λob=>(dy r).bind λys=>(kD st.m B).map λos=>(ob,ys,os)|_=>none
theorem goR{S:Sys}{c:bX}{rs:QR}{B:So}{a:RC}{st:St}{ob:bB}{ys:S'}{os:dB}(h:kW S c (NV rs B) a [] st=some (ob,ys,os)):
 ∃o st' d,cN S c a st=some (o,st')/\(∀id,o≠.exit id)/\jP st' rs=some (.own d::ys.map .v)/\B.contains d=false/\bh st'.m d=some ob/\kD st'.m B=some os:=by
 rw[oB]at h;have⟨⟨o,st'⟩,b,w⟩:=ζg.1 h;have D:∀id,o≠.exit id:=by rintro id rfl;simp[NV]at w
 have G:(jP st' rs).bind (λl=>match l with|.own d::r=>if B.contains d then none else(bh st'.m d).bind λob=>(dy r).bind λys=>(kD st'.m B).map λos=>(ob,ys,os)|_=>none)=some (ob,ys,os):=by cases o with|exit id=>exact absurd rfl (D id)|norm=>exact w|ret=>exact w
 have⟨l,I,u⟩:=ζg.1 G;split at u
 .split at u
  .cases u
  rename_i e;have⟨J,L,O⟩:=ζg.1 u;have⟨U,Q,T⟩:=ζg.1 O;have⟨q,z,C⟩:=ζf.1 T;cases C;exact⟨o,st',_,b,D,by rw[I,zo Q],by simpa using e,L,z⟩
 cases u
structure ZD(S:Sys)(c:bX){δ ε:Type}[bt δ][fZ ε](m:Option (Sl δ×ε))where
 n:FuncId
 az:List SV
 os:dB
 M:Sl δ×ε->dB
 k:S.E.keep n=true
 o:S.E.own n=false
 q:(S.prm n).isNone=true
 h:∀r,m=some r->∃e m',c n az os=some (.own e::(fZ.e r.2).map .v,m')/\bh m' e=some (cF r.1)/\(os.map (·.1)).contains e=false/\∀m0,jQ m' (os.map (·.1)) m0=some (ni m0 (M r))
abbrev ZD.mk'{S:Sys}{T:qv}{δ ε:Type}[bt δ][fZ ε]{m:aY (Sl δ×ε)}(fn:FuncId)(az:aX SV)(os:dB)(M:Sl δ×ε->dB)
 (h:Le (m.bind λr=>some (cF r.1,fZ.e r.2,M r)) (b_ S (dm S T) (NV (tr T fn) (os.map (·.1))) (.rc (tb T fn),[],start az os)))
 (B:(T fn).isSome=true:=by kernel_rfl)(b:S.E.keep fn=true:=by kernel_rfl)(D:S.E.own fn=false:=by kernel_rfl)(G:(S.prm fn).isNone=true:=by kernel_rfl)(J:ble az.length (nF (T fn)).na=true:=by kernel_rfl)
 (hp:∀r,((M r).all λx=>within (os.map (·.1)) x.2)=true:=by intro r;kernel_rfl):ZD S (dm S T) m where
 n:=fn
 az:=az
 os:=os
 M:=M
 k:=b
 o:=D
 q:=G
 h r hr:=by have u:=zA B;have a:=h (cF r.1,fZ.e r.2,M r) (by rw[hr];rfl);change kW S (dm S T) (NV (nF (T fn)).rs (os.map (·.1))) (nF (T fn)).body [] (start az os)=some (cF r.1,fZ.e r.2,M r)at a;have⟨o,st',d,g1,g2,g3,g4,g5,g6⟩:=goR a;refine⟨d,st'.m,?_,g5,g4,λw=>back_eq g6 (hp r)⟩;rw[sX u];unfold nN;rw[if_pos (Nat.le_of_ble_eq_true J),g1];cases o with|exit id=>exact absurd rfl (g2 id)|norm=>simp only[g3,map_some]|ret=>simp only[g3,map_some]
section
variable{S:Sys}{c:bX}{β γ:Type}{Q:Out×St->aY β}{e:γ->aY β}{cf:Cf}
end
structure Ya(S:Sys)(c:bX){α δ:Type}[bt δ](fn:FuncId)(A:α->List V)(p:α->Option (Sl δ)):Prop where
 k:S.E.keep fn=true
 o:S.E.own fn=false
 q:(S.prm fn).isNone=true
 h:∀z s,p z=some s->∃e m',c fn ((A z).map .v) []=some ([.own e],m')/\bh m' e=some (cF s)
theorem Ya.mk'{S:Sys}{T:qv}{α δ:Type}[bt δ](rf:RF){fn:Y'}{A:α->S'}{p:α->aY (Sl δ)}(h:∀z,Le ((p z).bind λr=>some (cF r)) (b_ S (dm S T) (Dx rf.rs) (.rc rf.body,[],start ((A z).map .v) [])))
 (B:T fn=some rf:=by kernel_rfl)(b:S.E.keep fn=true:=by kernel_rfl)(D:S.E.own fn=false:=by kernel_rfl)(G:(S.prm fn).isNone=true:=by kernel_rfl)(J:∀z,(A z).length<=rf.na:=by intro z;exact Nat.le_of_ble_eq_true (by kernel_rfl)):Ya S (dm S T) fn A p where
 k:=b
 o:=D
 q:=G
 h z s u:=by have a:=h z (cF s) (by rw[u];rfl);change kW S (dm S T) (Dx rf.rs) rf.body [] (start ((A z).map .v) [])=some (cF s)at a;have⟨o,st',d,g1,g2,g3,g4⟩:=ZE a;refine⟨d,st'.m,?_,g4⟩;rw[sX B];unfold nN;rw[if_pos (by simpa using J z),g1];cases o with|exit id=>exact absurd rfl (g2 id)|norm=>simp only[g3,map_some]|ret=>simp only[g3,map_some]
theorem JZ:∀l:S',SV.tf (l.map .v)=[]
 |[]=>rfl|a::l=>by simp only[map_cons,SV.tf,SV.Bn,JZ l,append_nil]
theorem EF{m:Tb bB}(l:S'):handed m (l.map .v)=some []:=by unfold handed;rw[JZ];rfl
section
variable{S:Sys}{c:bX}{β γ δ α:Type}[bt δ]{Q:Out×St->aY β}{e:γ->aY β}{cf:Cf}
end
def Ri(s:Nat)(v:SV)(cf:Cf):Cf:=(cf.1,cf.2.1,{cf.2.2 with g:=bF cf.2.2.g s v})
section
variable{S:Sys}{c:bX}{β γ δ:Type}{Q:Out×St->aY β}{e:γ->aY β}{cf:Cf}
theorem jb(n s:Nat){v B:V}(a:v=B){m:aY β}(h:Le m (b_ S c Q (Ri s (.v B) (jo S c n cf))))
 (D:(iC S c n cf.1 cf.2.1 cf.2.2).map (λp=>bh p.2.2.g s)=some (some (.v v)):=by kernel_rfl):Le m (b_ S c Q cf):=by
 subst a;have⟨p,u,a⟩:=eW D;have b:jo S c n cf=p:=by unfold jo;grind
 rw[b]at h;refine BM u ?_;have:Ri s (.v v) p=p:=by unfold Ri;rw[qO a]
 rw[this]at h;exact h
end
def dU{α δ:Type}(b:(α->aY δ)->α->aY δ):Nat->α->aY δ
 |0,_=>none|n+1,z=>b (dU b n) z
theorem iu.fix{S:Sys}{c:bX}{α δ:Type}{fn:Y'}{A:α->S'}{E:δ->S'}{sc:X'}{b:(α->aY δ)->α->aY δ}(a:S.E.keep fn=false)(B:sc=true->∀r,(result (E r)).scalar=true)
 (h:∀r,iu S c fn A E r sc->∀z,Le ((b r z).bind λr=>some (E r)) (kf c fn (A z))):∀n,iu S c fn A E (dU b n) sc
 |0=>⟨a,λ_=>Le.none _,B⟩|n+1=>⟨a,h _ (iu.fix a B h n),B⟩
structure xG(S:Sys)(c:bX){α δ:Type}(fn:FuncId)(A:α->List SV)(O:α->dB)(E:δ->List V)(M:α->δ->dB)(p:α->Option δ):Prop where
 k:S.E.keep fn=true
 o:S.E.own fn=false
 q:(S.prm fn).isNone=true
 h:∀z r,p z=some r->∃m',c fn (A z) (O z)=some ((E r).map .v,m')/\∀m0,jQ m' ((O z).map (·.1)) m0=some (ni m0 (M z r))
abbrev oh.of{S:Sys}{c:bX}{α δ:Type}{fn:FuncId}{A:α->aX SV}{O:α->dB}{E:δ->aX V}{M:α->δ->dB}{p:α->aY δ}(z:α)(F:xG S c fn A O E M p):oh S c (p z):=⟨fn,A z,O z,E,M z,F.k,F.o,F.q,F.h z⟩
theorem xG.fix{S:Sys}{c:bX}{α δ:Type}{fn:Y'}{A:α->ST}{O:α->dB}{E:δ->S'}{M:α->δ->dB}{b:(α->aY δ)->α->aY δ}(k:S.E.keep fn=true)(o:S.E.own fn=false)(q:(S.prm fn).isNone=true)
 (h:∀r,xG S c fn A O E M r->∀z B,b r z=some B->∃m',c fn (A z) (O z)=some ((E B).map .v,m')/\∀D,jQ m' ((O z).map (·.1)) D=some (ni D (M z B))):∀n,xG S c fn A O E M (dU b n)
 |0=>⟨k,o,q,λ_ _ h=>by cases h⟩|n+1=>⟨k,o,q,h _ (xG.fix k o q h n)⟩
structure zp(S:Sys)(c:bX){α σ:Type}[bt α](cl:SV)(g:FuncId)(e:List SV)(os:σ->dB)(p:α->σ->Option (Bool×σ)):Prop where
 cs:∀vs,j9 (cl::vs)=some (g,vs++e)
 hd:∀(s:σ)(a:V),handed (os s) [.v a,cl]=some (os s)
 tk:∀s s',kD (os s') ((os s).map (·.1))=some (os s')
 wi:∀s s',((os s').all λx=>within ((os s).map (·.1)) x.2)=true
 put:∀s s',ni (os s) (os s')=os s'
 h:∀x s r,p x s=some r->∀(dst:Option Nat)(old:List SV->Bool)(st:St),st.m=os s->eo S c dst false true old g (.v (enc x)::e) st=some (.v (.bool r.1),{st with m:=os r.2})
section
variable{S:Sys}{c:bX}{α σ:Type}[bt α]{g:Y'}
theorem zp.XC{e:S'}{p:α->aY X'}(F:ki S c g [] e (λz:α=>[enc z]) (λr:X'=>[.bool r]) p true):zp S c (.v (.clo g [] e)) g (e.map .v) (λ_:Unit=>[]) (λx u=>(p x).map λb=>(b,u))where
 cs vs:=rfl
 hd s a:=EF [a,.clo g [] e]
 tk _ _:=rfl
 wi _ _:=rfl
 put _ _:=rfl
 h x s r hr dst old st w:=by obtain⟨b,C,rfl⟩:=ζf.1 hr;have B:kf c g (enc x::e)=some [.bool b]:=F.f.h x [.bool b] (by rw[C];rfl);have e1:{st with m:=([]:dB)}=st:=(by cases st;simp only at w;subst w;rfl);rw[e1];unfold kf at B;have⟨⟨rs,m'⟩,d,D⟩:=ζg.1 B;have f:=F.f.k;unfold eo;have G:di st.m 8 (.v (enc x)::e.map .v)=some (enc x::e):=qw 8 (enc x::e);simp only[f,G,d,D,false_eq_true,if_false,Bool.true_or,if_true,result,V.scalar]
theorem zp.ofK{e:ST}{os:σ->dB}{p:α->σ->aY (X'×σ)}[Inhabited α][Inhabited σ](F:∀x s,oh S c (p x s))(G:∀x s,(F x s).n=g:=by intro _ _;kernel_rfl)(J:∀x s,(F x s).az=.v (enc x)::e:=by intro _ _;kernel_rfl)(D:∀x s,(F x s).os=os s:=by intro _ _;kernel_rfl)
 (T:∀x s,(F x s).E=λr=>[.bool r.1]:=by intro _ _;kernel_rfl)(d:∀x s,(F x s).M=λr=>os r.2:=by intro _ _;kernel_rfl)
 (hd:∀s:σ,kD (os s) (reach (os s) 32 (SV.tf e) [])=some (os s):=by intro _;kernel_rfl)
 (tk:∀s B,kD (os B) ((os s).map (·.1))=some (os B):=by intro _ _;kernel_rfl)(wi:∀s B,((os B).all λx=>within ((os s).map (·.1)) x.2)=true:=by intro _ _;kernel_rfl)(put:∀s B,ni (os s) (os B)=os B:=by intro _ _;kernel_rfl):zp S c (.clo g [] e) g e os p where
 cs vs:=rfl
 hd s a:=by have:SV.tf [.v a,.clo g [] e]=SV.tf e:=(by simp[SV.tf,SV.Bn]);unfold handed;rw[this];exact hd s
 tk:=tk
 wi:=wi
 put:=put
 h x s r hr dst old st u:=by have⟨m',k1,k2⟩:=(F x s).h r hr;have b:=(F x s).k;have w:=(F x s).o;have z:S.prm (F x s).n=none:=(by have:=(F x s).q;cases I:S.prm (F x s).n with|none=>rfl|some _=>rw[I]at this;cases this);rw[G]at b w z k1;rw[J,D,T]at k1;rw[D,d]at k2;have C:handed st.m (.v (enc x)::e)=some (os s):=(by rw[u];exact hd s);have k2:=k2 (os s);rw[put]at k2;rw[<-u]at k2;unfold eo;rw[u]at C k2⊢;simp only[b,w,z,C,k1,k2,jR,map_cons,map_nil,dy,map_some,if_true,Bool.false_and,false_eq_true,if_false,result]
end
def Ek{α σ:Type}(s0:Sl α)(p:α->σ->aY (X'×σ))(q:Int×σ):aY (Fw (Int×σ) σ (Int×σ)):=bl (decide (q.1<len s0)) ((idx s0 q.1).bind λx=>(p x q.2).bind λy=>bl y.1 (some (.r (q.1,y.2))) (some (.n (wrap .i64 (q.1+1),y.2)))) (some (.x q.2))
def SX{α σ:Type}(s0:Sl α)(p:α->σ->aY (X'×σ))(x:σ):aY (Int×σ):=(cD (Ek s0 p) (0,x)).bind (Fw.elim (λe=>some (-1,e)) λe=>some e)
def Bx{α σ:Type}(s0:Sl α)(p:α->σ->aY (X'×σ))(x:σ):aY (X'×σ):=(SX s0 p x).bind λy=>some (decide (y.1>=0),y.2)
section
variable{S:Sys}{c:bX}{α σ β γ:Type}[bt α]{g:Y'}{Q:Out×St->aY β}{e:γ->aY β}{cf:Cf}
theorem OT(n:Nat){a:SV}{ex:ST}{os:σ->dB}{p:α->σ->aY (X'×σ)}(F:zp S c a g ex os p)(x:α)(s:σ){f:X'×σ->aY γ}(h:∀r,p x s=some r->Le ((f r).bind e) (b_ S c Q (nx S c n cf λq=>dn {q.st with m:=os r.2} q.d (.v (.bool r.1)))))
 (B:(gm S c n cf).map (λq=>(q.k,bW S.N q.st.g q.az,q.dr,q.st.m))=some (.c,some [a,.v (enc x)],false,os s):=by kernel_rfl):Le (((p x s).bind f).bind e) (b_ S c Q cf):=by
 have⟨q,w,b⟩:=eW B;simp only[ζc]at b;have⟨d,z,C,D⟩:=b;refine pQ w ?_ h;rw[d,C,sG _ _ _ _ _ _ _ g ([.v (enc x)]++ex) z (F.cs [.v (enc x)])];intro y u;have⟨r,i,u⟩:=ζg.1 u;cases u;have:=F.h x s r i q.d (ez q.st.m q.fr) q.st D;rw[show(!false||q.now)=true from rfl,List.singleton_append,this];rfl
theorem KN{a:SV}{ex:ST}{os:σ->dB}{p:α->σ->aY (X'×σ)}(F:zp S c a g ex os p){rs:QR}{st:St}{s B:σ}{ys:S'}(b:jP st rs=some (ys.map .v))(D:st.m=os B):Dc rs ((os s).map (·.1)) (.ret,st)=some (ys,os B):=by show((jP st rs).bind λl=>(dy l).bind λys=>(kD st.m ((os s).map (·.1))).map λos=>(ys,os))=_;rw[b,D,F.tk s B];simp only[ζb,jR,map_some]
theorem H7(n:Nat){b:SV}{ex:ST}{os:σ->dB}{p:α->σ->aY (X'×σ)}(F:zp S c b g ex os p){rs:QR}{s B:σ}{r:γ}{e:γ->aY (S'×dB)}(ys:S')(D:e r=some (ys,os B))
 (G:(iC S c n cf.1 cf.2.1 cf.2.2).map (λq=>(q.1,jP q.2.2 rs,q.2.2.m))=some (.rt,some (ys.map .v),os B):=by kernel_rfl):Le ((some r).bind e) (b_ S c (Dc rs ((os s).map (·.1))) cf):=by
 have⟨⟨fo,fs,st'⟩,u,a⟩:=eW G;simp only[ζc]at a;obtain⟨rfl,w,z⟩:=a;refine BM u (Le.of_eq ?_);show rn S c _ Fo.rt fs st'=e r;rw[D];exact KN F w z
theorem Mm(n:Nat){δ:Type}{m:aY δ}(F:oh S c m)(D:handed F.os F.az=some F.os)(hp:∀x,ni F.os (F.M x)=F.M x){f:δ->aY γ}(h:∀x,m=some x->Le ((f x).bind e) (b_ S c Q (nx S c n cf λp=>dn {p.st with m:=F.M x} p.d (.v (result (F.E x))))))
 (G:(gm S c n cf).map (λp=>(p.k,(bW S.N p.st.g p.az).bind j9,p.dr,p.st.m))=some (.c,some (F.n,F.az),false,F.os):=by kernel_rfl):Le ((m.bind f).bind e) (b_ S c Q cf):=by
 have⟨p,u,a⟩:=eW G;simp only[ζc]at a;have⟨C,I,J,B⟩:=a;have⟨w,g3,g4⟩:=ζg.1 I;refine pQ u ?_ h;rw[C,J,sG _ _ _ _ _ _ w F.n F.az g3 g4];intro y z;have⟨r,b,z⟩:=ζg.1 z;cases z;have⟨m',k1,k2⟩:=F.h r b;have u:S.prm F.n=none:=by have:=F.q;cases L:S.prm F.n with|none=>rfl|some _=>rw[L]at this;cases this
 have k2:=k2 p.st.m;rw[B,hp]at k2;have:eo S c p.d false (!false||p.now) (ez p.st.m p.fr) F.n F.az p.st=some (.v (result (F.E r)),{p.st with m:=F.M r}):=by unfold eo;rw[B];simp only[F.k,F.o,u,D,k1,k2,jR,if_true,Bool.not_false,Bool.true_or,Bool.false_and,false_eq_true,if_false]
 rw[this];rfl
theorem U4(n:Nat){δ:Type}{m:aY δ}(F:oh S c m){f:δ->aY γ}(h:∀x,m=some x->Le ((f x).bind e) (b_ S c Q (nx S c n cf λp=>dn {p.st with m:=ni p.st.m (F.M x)} p.d (.v (result (F.E x))))))
 (D:(gm S c n cf).map (λp=>(p.k,((bW S.N p.st.g p.az).bind j9).bind λq=>(handed p.st.m q.2).map λos=>(q.1,q.2,os),p.dr,p.now))=some (.c,some (F.n,F.az,F.os),true,true):=by kernel_rfl)
 (B:∀x,(gm S c n cf).map (λp=>V.c7 (F.E x)&&F.os.all λy=>xB (ni p.st.m (F.M x)) y.1)=some true:=by intro x;kernel_rfl):Le ((m.bind f).bind e) (b_ S c Q cf):=by
 have⟨p,z,a⟩:=eW D;simp only[ζc]at a;have⟨C,G,I,J⟩:=a;have⟨q,g1,g2⟩:=ζg.1 G;have⟨u,g3,g4⟩:=ζg.1 g1;have⟨os,g5,g6⟩:=ζf.1 g2;simp only[ζc]at g6;obtain⟨e1,e2,rfl⟩:=g6;refine pQ z ?_ h;rw[C,I,sG _ _ _ _ _ _ u q.1 q.2 g3 g4];intro y w;have⟨r,b,w⟩:=ζg.1 w;cases w;have⟨m',k1,k2⟩:=F.h r b;have L:S.prm F.n=none:=by have:=F.q;cases O:S.prm F.n with|none=>rfl|some _=>rw[O]at this;cases this
 have B:=B r;rw[z]at B;have B:=Option.some.inj B;have:eo S c p.d true (!true||p.now) (ez p.st.m p.fr) q.1 q.2 p.st=some (.v (result (F.E r)),{p.st with m:=ni p.st.m (F.M r)}):=by unfold eo;rw[e1,e2]at *;simp only[F.k,F.o,L,g5,k1,k2,J,B,jR,if_true,Bool.not_true,Bool.true_and,Bool.or_true,false_eq_true,if_false]
 rw[this];rfl
end
section
variable{S:Sys}{c:bX}{β γ δ α:Type}[bt δ]{Q:Out×St->aY β}{e:γ->aY β}{cf:Cf}
theorem Il(n u:Nat){fn:Y'}{A:α->S'}{p:α->aY (Sl δ)}(F:lz S c fn A p)(z:α){f:Sl δ->aY γ}
 (h:∀x,(p z).bind Sl.whole=some x->Le ((f x).bind e) (b_ S c Q (nx S c n cf λq=>{q.st with g:=bF q.st.g u (.own u),m:=bF q.st.m u (cF x)})))
 (T:(gm S c n cf).map (λq=>(q.d,q.k,((bW S.N q.st.g q.az).bind j9).bind λr=>(oT (js q.st.m 8) r.2).map λvs=>(r.1,vs),(!q.dr||q.now),q.st.new u))=some (some u,.c,some (fn,A z),true,true):=by kernel_rfl):Le ((((p z).bind Sl.whole).bind f).bind e) (b_ S c Q cf):=by
 have⟨q,U,b⟩:=eW T;simp only[ζc]at b;have⟨W,X,Y,Z,O⟩:=b;have⟨⟨B,args⟩,D,g3⟩:=ζg.1 Y;have⟨G,g1,g2⟩:=ζg.1 D;have⟨vs,g4,g5⟩:=ζf.1 g3;simp only[ζc]at g5;obtain⟨rfl,rfl⟩:=g5;refine pQ U ?_ h;rw[W,X];intro y I;have⟨d,J,I⟩:=ζg.1 I;cases I;have⟨s,i,C⟩:=ζg.1 J;have⟨e0,m',j,k⟩:=F.h z s i;rw[sG q.dr _ _ _ _ _ G B args g1 g2];have L:di q.st.m 8 args=some (A z):=by rw[(zJ q.st.m 8).2];exact g4
 have w:eo S c (some u) q.dr (!q.dr||q.now) (ez q.st.m q.fr) B args q.st=some (.own u,{q.st with m:=bF q.st.m u (cF d)}):=by unfold eo;simp only[F.k,F.o,if_true,Z,L,j,dy,k,cF,O];cases s with|nil=>cases C;rfl|emp=>cases C;rfl|row l=>cases C;have:kN (rows l)=true:=(by unfold kN;rw[all_eq_true];intro x o;obtain⟨a,_,rfl⟩:=mem_map.1 o;exact F.sc a);simp only[Sl.k,Sl.l,dy,V.c7,this,Bool.and_self,O,if_true];rfl|part l=>cases C
 rw[w];rfl
theorem Z9{α:Type}[bt α](n:Nat)(l:aX α)(q:v7)(svs:ST){m:aY β}(h:Le m (b_ S c Q (nx S c n cf λp=>dn p.st p.d (cv (Sl.row l:Sl α)))))
 (B:(gm S c n cf).map (λp=>(p.k,bW S.N p.st.g p.az))=some (.p q,some svs):=by kernel_rfl)(D:isSlice q=false:=by rfl)(hp:∀m,kG S.N m q svs=some (cv (Sl.row l:Sl α)):=by intro m;kernel_rfl):Le m (b_ S c Q cf):=by
 have⟨p,u,a⟩:=eW B;simp only[ζc]at a;refine AY u ?_ h;rw[a.1];exact Dk a.2 D (hp _)
theorem Yy(n:Nat){fn:Y'}{A:α->S'}{p:α->aY (Sl δ)}(F:lz S c fn A p)(z:α){f:Sl δ->aY γ}
 (h:∀x,p z=some x->Le ((f x).bind e) (b_ S c Q (nx S c n cf λq=>dn q.st q.d (.v (enc x)))))
 (J:(gm S c n cf).map (λq=>(q.k,(bW S.N q.st.g q.az).bind j9,(!q.dr||q.now),ez q.st.m q.fr []))=some (.c,some (fn,(A z).map .v),false,true):=by kernel_rfl):Le (((p z).bind f).bind e) (b_ S c Q cf):=by
 have⟨q,I,b⟩:=eW J;simp only[ζc]at b;have⟨L,O,T,U⟩:=b;have⟨B,g1,g2⟩:=ζg.1 O;have w:∀d(C:S'),SV.dF d (C.map .v)=false:=λd C=>by induction C with|nil=>rfl|cons a l W=>simp[SV.dF,SV.cM,W]
 have X:ez q.st.m q.fr ((A z).map .v)=true:=by rw[<-U];unfold ez;simp[w];rfl
 refine pQ I ?_ h;rw[L];intro y D;have⟨s,Y,D⟩:=ζg.1 D;cases D;have⟨e0,m',g,Z⟩:=F.h z s Y;rw[sG q.dr _ _ _ _ _ B fn ((A z).map .v) g1 g2];have G:di m' 8 [.own e0]=some [cq s]:=by simp only[di,Tt,Z,Sh]
 have u:eo S c q.d q.dr (!q.dr||q.now) (ez q.st.m q.fr) fn ((A z).map .v) q.st=some (.v (cq s),q.st):=by unfold eo;simp only[F.k,F.o,if_true,T,false_eq_true,if_false,X,Bool.and_self,qw,g,G,jR,Option.isSome_some,Bool.or_true,result]
 rw[u];rfl
end
def Qw:Out×St->aY T2
 |(.exit _,_)=>none|(_,st)=>some st.want
def yl(B:T2)(more:X')(xs:S'):aY (X'×T2):=match B with
 |w::r=>open Classical in if w=xs then some (more|| !r.isEmpty,r)else none|[]=>none
section
variable{S:Sys}{c:bX}{β γ:Type}{Q:Out×St->aY β}{e:γ->aY β}{cf:Cf}
theorem ZL(n:Nat){B:T2}{more:X'}(xs:S'){f:X'×T2->aY γ}
 (h:∀r,yl B more xs=some r->Le ((f r).bind e) (b_ S c Q (nx S c n cf λq=>dn {q.st with want:=r.2} q.d (.v (.bool r.1)))))
 (D:(gm S c n cf).map (λq=>(q.k,bW S.N q.st.g q.az,q.st.want,q.st.more,q.dr))=some (.c,some (.yl ((gm S c n cf).elim 0 λq=>q.st.yid)::xs.map .v),B,more,false):=by kernel_rfl):Le (((yl B more xs).bind f).bind e) (b_ S c Q cf):=by
 have⟨q,C,b⟩:=eW D;simp only[ζc]at b;have⟨d,u,G,I,J⟩:=b;rw[C]at u;refine pQ C ?_ h;intro y z;have⟨r,a,z⟩:=ζg.1 z;cases z;unfold yl at a;split at a
 .rename_i w O;split at a
  next L=>cases a;rw[d,J];unfold fH;have u:bW S.N q.st.g q.az=some (.yl q.st.yid::xs.map .v):=u;simp only[wanted,fV,u,jR,G,L,I,if_true,and_self,false_eq_true,if_false]
  cases a
 cases a
theorem Q5{S G:Sys}{c:bX}(W:G.E=S.E)(Y:∀f q,S.prm f=some q->nZ S.E f q)(e:jg S c)(i:∀f a b xs,S.items f a b=some xs->eP S f a b xs){f:Y'}{fi:FI}{nm:Y'->aY Nat}{rf:RF}(T:S.E.ft f=some fi)(j:∀g s,nm g=some s->S.N s=g)(l:yC S.E nm fi rf){a b:S'}{xs:T2}(D:a.length+1+b.length<=rf.na)(U:rf.rs=[])
 (h:∀B more,vZ B xs more->∀yid,b_ S c Qw (.rc rf.body,[],⟨wL 0 (a.map .v++.yl yid::b.map .v),[],[],B,more,yid⟩)=some []):eP G f a b xs:=by
 have k:eP S f a b xs:=LA Y e i T j l D U (λB more w yid=>by
  have d:=h B more w yid;change kW S c Qw rf.body [] _=some []at d;rw[oB]at d;have⟨⟨o,st'⟩,z,u⟩:=ζg.1 d;refine⟨o,st',z,?_,?_,rfl⟩
  .rintro id rfl;simp[Qw]at u
  cases o<;>simp[Qw]at u<;>exact u)
 have⟨Q,X,m,zC,prm⟩:=G;simp only at W;subst W;intro B more w yid J y Z C I H d z u L O;exact k B more w yid J ⟨y.xR,y.yield⟩ Z C I H d z u L O
end
section
variable{S:Sys}{c:bX}{β γ α:Type}[bt α]{Q:Out×St->aY β}{e:γ->aY β}{cf:Cf}
end
theorem lz.fix{S:Sys}{c:bX}{α δ:Type}[bt δ]{fn:Y'}{A:α->S'}{b:(α->aY (Sl δ))->α->aY (Sl δ)}(k:S.E.keep fn=true)(o:S.E.own fn=true)(sc:∀x:δ,(cells x).all V.scalar=true)
 (h:∀r,lz S c fn A r->∀z s,b r z=some s->∃e m',c fn ((A z).map .v) []=some ([.own e],m')/\bh m' e=some (cF s)):∀n,lz S c fn A (dU b n)
 |0=>⟨k,o,λ_ _ h=>(by cases h),sc⟩|n+1=>⟨k,o,h _ (lz.fix k o sc h n),sc⟩
def MQ(rs:QR):Out×St->aY (V×bB×S')
 |(.exit _,_)=>none|(_,st)=>(jP st rs).bind λl=>match l with
  |.v p::.own d::r=>(bh st.m d).bind λob=>(dy r).map λys=>(p,ob,ys)|_=>none
theorem goP{S:Sys}{c:bX}{rs:QR}{a:RC}{st:St}{p:V}{ob:bB}{ys:S'}(h:kW S c (MQ rs) a [] st=some (p,ob,ys)):∃o st' d,cN S c a st=some (o,st')/\(∀id,o≠.exit id)/\jP st' rs=some (.v p::.own d::ys.map .v)/\bh st'.m d=some ob:=by
 rw[oB]at h;have⟨⟨o,st'⟩,b,u⟩:=ζg.1 h;have z:∀id,o≠.exit id:=by rintro id rfl;simp[MQ]at u
 have B:(jP st' rs).bind (λl=>match l with|.v p::.own d::r=>(bh st'.m d).bind λob=>(dy r).map λys=>(p,ob,ys)|_=>none)=some (p,ob,ys):=by cases o with|exit id=>exact absurd rfl (z id)|norm=>exact u|ret=>exact u
 have⟨l,C,w⟩:=ζg.1 B;split at w;have⟨D,G,I⟩:=ζg.1 w;have⟨O,J,L⟩:=ζf.1 I;cases L;exact⟨o,st',_,b,z,by rw[C,zo J],G⟩;cases w
structure P4(S:Sys)(c:bX){α δ ε:Type}[bt δ][fZ ε](E1:α->V)(m:Option (α×Sl δ×ε))where
 n:FuncId
 az:List V
 k:S.E.keep n=true
 o:S.E.own n=false
 q:(S.prm n).isNone=true
 h:∀r,m=some r->∃e m',c n (az.map .v) []=some (.v (E1 r.1)::.own e::(fZ.e r.2.2).map .v,m')/\bh m' e=some (cF r.2.1)
abbrev P4.mk'{S:Sys}{T:qv}{α δ ε:Type}[bt δ][fZ ε]{E1:α->V}{m:aY (α×Sl δ×ε)}(fn:FuncId)(az:aX V)
 (h:Le (m.bind λr=>some (E1 r.1,cF r.2.1,fZ.e r.2.2)) (b_ S (dm S T) (MQ (tr T fn)) (.rc (tb T fn),[],start (az.map .v) [])))
 (B:(T fn).isSome=true:=by kernel_rfl)(b:S.E.keep fn=true:=by kernel_rfl)(D:S.E.own fn=false:=by kernel_rfl)(G:(S.prm fn).isNone=true:=by kernel_rfl)(J:ble az.length (nF (T fn)).na=true:=by kernel_rfl):P4 S (dm S T) E1 m where
 n:=fn
 az:=az
 k:=b
 o:=D
 q:=G
 h r hr:=by have u:=zA B;have a:=h (E1 r.1,cF r.2.1,fZ.e r.2.2) (by rw[hr];rfl);change kW S (dm S T) (MQ (nF (T fn)).rs) (nF (T fn)).body [] (start (az.map .v) [])=some (E1 r.1,cF r.2.1,fZ.e r.2.2)at a;have⟨o,st',d,g1,g2,g3,g4⟩:=goP a;refine⟨d,st'.m,?_,g4⟩;rw[sX u];unfold nN;rw[if_pos (by simpa using Nat.le_of_ble_eq_true J),g1];cases o with|exit id=>exact absurd rfl (g2 id)|norm=>simp only[g3,map_some]|ret=>simp only[g3,map_some]
section
variable{S:Sys}{c:bX}{β γ:Type}{Q:Out×St->aY β}{e:γ->aY β}{cf:Cf}
theorem XH{α δ ε:Type}[bt δ][fZ ε]{E1:α->V}(n u:Nat){m:aY (α×Sl δ×ε)}(F:P4 S c E1 m){f:α×Sl δ×ε->aY γ}
 (h:∀x,m=some x->Le ((f x).bind e) (b_ S c Q (nx S c n cf λp=>{p.st with g:=bF p.st.g u (.tup (.v (E1 x.1)::.own u::(fZ.e x.2.2).map .v)),m:=bF p.st.m u (cF x.2.1)})))
 (D:(gm S c n cf).map (λq=>(q.d,q.k,(bW S.N q.st.g q.az).bind j9,q.dr,q.st.new u))=some (some u,.c,some (F.n,F.az.map .v),false,true):=by kernel_rfl):Le ((m.bind f).bind e) (b_ S c Q cf):=by
 have⟨q,C,a⟩:=eW D;simp only[ζc]at a;have⟨G,I,J,L,O⟩:=a;have⟨z,g1,g2⟩:=ζg.1 J;refine pQ C ?_ h;rw[G,I,L];intro y B;have⟨s,T,B⟩:=ζg.1 B;cases B;have⟨e0,m',b,U⟩:=F.h s T;have W:S.prm F.n=none:=by have:=F.q;cases X:S.prm F.n with|none=>rfl|some _=>rw[X]at this;cases this
 rw[sG _ _ _ _ _ _ z F.n (F.az.map .v) g1 g2];have Y:St.new {q.st with m:=q.st.m} u=true:=O;have w:eo S c (some u) false (!false||q.now) (ez q.st.m q.fr) F.n (F.az.map .v) q.st=some (.tup (.v (E1 s.1)::.own u::(fZ.e s.2.2).map .v),{q.st with m:=bF q.st.m u (cF s.2.1)}):=by unfold eo;simp only[F.k,F.o,W,EF,b,dy,jR,map_nil,jQ,yH,U,cF,Y,List.contains_nil,Bool.not_false,Bool.true_or,Bool.false_and,Bool.and_self,if_true,false_eq_true,if_false,Option.map_none];try rfl
 rw[w];rfl
end
section
variable{α:Type}[bt α]
end
section
variable{S:Sys}{c:bX}{β γ δ α:Type}[bt α]{Q:Out×St->aY β}{e:γ->aY β}{cf:Cf}
end
theorem Uk{n:Int}(B:0<=n)(h:n<=4611686018427387904):wrap .i64 n=n:=by simp[wrap,IntKind.bits,signed];omega
namespace catX
instance{n:Nat}:OfNat Arg n:=⟨.s n⟩
def ln:K:=.p .lenSl
def ix:K:=.p (.idxS 1)
def bI(o:BinOp):K:=.p (.bin (some .int) none o)
def ld:K:=.r (.load 1 false)
def g1:R':=[o1 4 (.k (.bG)) []]
def g2:R':=[o1 5 1 [],o2 6 (bI .lss) [5,.k (.int .i64 0)] []]
def g3:R':=[o2 7 (.p (.bad)) [] [],⟨none,none,false,.p .bad,[],[],[]⟩]
def g4:R':=[o1 8 1 [],o1 9 0 [],o2 10 (.p (.capSl)) [9] [],o1 11 0 [],o2 12 ln [11] [],o2 13 (bI .sub) [10,12] [],o2 14 (bI .sub) [8,13] [],o1 1 14 []]
def g5:R':=[o1 15 1 [],o2 16 (bI .gtr) [15,.k (.int .i64 0)] []]
def g6:R':=[o1 17 0 [],o1 18 0 [],o2 19 (.p (.capSl)) [18] [],o2 20 (.p (.slice 1 false true)) [17,19] [],o1 21 1 [],o2 22 (.l (.appMk 1 24 [.bG])) [20,21] [],o1 23 0 [],o2 24 ln [23] [],o2 25 (.p (.slice 1 false true)) [22,24] [],o1 0 25 []]
def g7:R':=[o1 26 0 [],o1 4 26 []]
def grow:RC:=.seq (.ops g1) (.seq (.seq (.ops g2) (.cond (.s 6) (.ops g3) (.skip))) (.seq (.seq (.ops g4) (.seq (.ops g5) (.cond (.s 16) (.ops g6) (.skip)))) (.seq (.ops g7) (.ret))))
section
variable{E:Env}{N:Nat->Y'}{t:Nat}
attribute [local simp] dN jY fF bN lP th mT tg bI ln
theorem VV(d:t<=2147483648):∃F',Ex E N grow [.bG,.int .i64 t] [] .ret F' (if t=0 then[]else[.row 1 (replicate t [.bG])])/\get F' 4=if t=0 then .bG else .hsl 0 1 0 0:=by
 have e1:∀call,dN E N call none g1 [.bG,.int .i64 t] []=some (set [.bG,.int .i64 t] 4 .bG,[]):=λcall=>vp (v:=.bG) rfl (by simp[jY,fF,bN]) wB;have k0:get (set [V.bG,.int .i64 t] 4 .bG) 0=.bG:=rfl;have k1:get (set [V.bG,.int .i64 t] 4 .bG) 1=.int .i64 t:=rfl;generalize set [V.bG,.int .i64 t] 4 .bG=G at *;have e2:∃F1,(∀call,dN E N call none g2 G []=some (F1,[]))/\get F1 6=.bool false/\get F1 0=.bG/\get F1 1=.int .i64 t:=by exact⟨_,λcall=>by simp[g2,k1];rfl,Zab,by simp[k0],by simp[k1]⟩
 have⟨F1,a1,a2,I,T⟩:=e2;have e4:∃z,(∀call,dN E N call none g4 F1 []=some (z,[]))/\get z 0=.bG/\get z 1=.int .i64 t:=by exact⟨_,λcall=>by simp[g4,I,T,IA,oP,Uk (n:=t) Zaa Zaa,show wrap .i64 0=0 from by decide];rfl,by simp[I],Zab⟩
 have⟨z,J,U,L⟩:=e4;have e5:∃u,(∀call,dN E N call none g5 z []=some (u,[]))/\get u 16=.bool (decide (t>0))/\get u 0=.bG/\get u 1=.int .i64 t:=by exact⟨_,λcall=>by simp[g5,L];rfl,Zab,by simp[U],by simp[L]⟩
 have⟨u,O,Q,S,W⟩:=e5;have c:Ex E N (.seq (.ops g2) (.cond (.s 6) (.ops g3) (.skip))) G [] .norm F1 []:=Ex.seq (Ex.ei a1) (Ex.vw a2 Ex.skip);have e7:∀(F:WF)(H:bk),∃F',(∀call,dN E N call none g7 F H=some (F',H))/\get F' 4=get F 0:=λF H=>⟨_,λcall=>by simp[g7];rfl,Zab⟩
 by_cases B:t=0;subst B;have⟨D,a,b⟩:=e7 u [];refine⟨D,?_,by rw[b,S];rfl⟩;exact Ex.seq (Ex.ei e1) (Ex.seq c (Ex.seq (Ex.seq (Ex.ei J) (Ex.seq (Ex.ei O) (Ex.vw Q Ex.skip))) (Ex.seq (Ex.ei a) Ex.ret)));have w:0<t:=Zaa;have e6:∃C,(∀call,dN E N call none g6 u []=some (C,[.row 1 (replicate t [.bG])]))/\get C 0=.hsl 0 1 0 0:=by exact⟨_,λcall=>by simp[g6,S,W,IA,oP,nq,iX,ec,eY,mkApp,w,B,show(t:Int)<=2147483648 from Zaa];rfl,Zab⟩
 have⟨C,X,Y⟩:=e6;have⟨D,a,b⟩:=e7 C [.row 1 (replicate t [.bG])];rw[if_neg B,if_neg B];refine⟨D,?_,by rw[b,Y]⟩;exact Ex.seq (Ex.ei e1) (Ex.seq c (Ex.seq (Ex.seq (Ex.ei J) (Ex.seq (Ex.ei O) (Ex.sy (by show get u 16=_;rw[Q,decide_eq_true w]) (Ex.ei X)))) (Ex.seq (Ex.ei a) Ex.ret)))
end
end catX
def DH{α:Type}(s:Sl (Sl α)):Sl α:=if(s.l.flatMap Sl.l).length=0 then .nil else .row (s.l.flatMap Sl.l)
namespace catX
def r1:R':=[o1 2 (.k (.bG)) []]
def r2:R':=[o1 3 (.k (.int .i64 0)) []]
def r3:R':=[o1 9 0 [],o2 10 ln [9] [],o1 11 (.k (.int .i64 0)) []]
def r4:R':=[o2 12 (bI .lss) [11,10] []]
def r5:R':=[o2 13 ix [9,11] [],o2 14 ld [13] [],o1 5 14 []]
def r6:R':=[o1 15 3 [],o1 16 5 [],o2 17 ln [16] [],o2 18 (bI .add) [15,17] [],o1 3 18 []]
def r7:R':=[o1 19 3 [],o2 20 (bI .lss) [19,.k (.int .i64 0)] []]
def r8:R':=[o2 21 (.p (.bad)) [] [],⟨none,none,false,.p .bad,[],[],[]⟩]
def r9:R':=[o2 22 (bI .add) [11,.k (.int .i64 1)] [],o1 11 22 []]
def L9:RC:=.seq (.ops r4) (.seq (.cond (.s 12) (.skip) (.exit 0)) (.seq (.block 1 (.seq (.ops r5) (.seq (.ops r6) (.seq (.ops r7) (.cond (.s 20) (.ops r8) (.skip)))))) (.ops r9)))
def IS(gid:Nat):R':=[o1 23 3 [],o2 24 .c [.f gid,.k (.bG),23] [],o1 6 24 []]
def ID:R':=[o1 25 0 [],o2 26 ln [25] [],o1 27 (.k (.int .i64 0)) []]
def IZ:R':=[o2 28 (bI .lss) [27,26] []]
def Jr:R':=[o2 29 ix [25,27] [],o2 30 ld [29] [],o1 8 30 []]
def Ji:R':=[o1 31 6 [],o1 32 8 [],o2 33 (.l (.append 1)) [31,32] [],o1 6 33 []]
def Kl:R':=[o2 34 (bI .add) [27,.k (.int .i64 1)] [],o1 27 34 []]
def ZP:RC:=.seq (.ops IZ) (.seq (.cond (.s 28) (.skip) (.exit 2)) (.seq (.block 3 (.seq (.ops Jr) (.ops Ji))) (.ops Kl)))
def r16:R':=[o1 35 6 [],o1 2 35 []]
def cat(gid:Nat):RC:=.seq (.ops r1) (.seq (.ops r2) (.seq (.seq (.ops r3) (.block 0 (.loop L9))) (.seq (.ops (IS gid)) (.seq (.seq (.ops ID) (.block 2 (.loop ZP))) (.seq (.ops r16) (.ret))))))
section
variable{E:Env}{N:Nat->Y'}{F:WF}{H:bk}{α:Type}[bt α]{s:Sl (Sl α)}{i:Nat}
theorem el{u:Sl α}(h:s.l[i]?=some u):mE 1 (cq s) (i:Int)=some (.fptr [cq u]):=by have:=Mw (N:=λn=>n) s .i64 (i:Int) 1 rfl;simp only[bN]at this;rw[this,show idx s (i:Int)=some u from by unfold idx;grind];rfl
theorem lnS(s:Sl α):oP (cq s)=some (.int .i64 s.l.length):=by have:=Jp (N:=λn=>n) s;simpa only[bN]using this
attribute [local simp] dN jY fF bN lP th mT tg lnS bI ln ix ld
theorem y3:(get F 0=cq s->∃F',(∀call,dN E N call none r3 F H=some (F',H))/\get F' 9=cq s/\get F' 10=.int .i64 s.l.length/\get F' 11=.int .i64 0/\∀j,j<9->get F' j=get F j)/\
 (get F 0=cq s->∃F',(∀call,dN E N call none ID F H=some (F',H))/\get F' 25=cq s/\get F' 26=.int .i64 s.l.length/\get F' 27=.int .i64 0/\∀j,j<9->get F' j=get F j):=by
 refine⟨λa=>⟨_,λcall=>by simp[r3,a];rfl,?_⟩,λa=>⟨_,λcall=>by simp[ID,a];rfl,?_⟩⟩<;>
  (simp;grind)
theorem y4{n:Nat}:(get F 11=.int .i64 i->get F 10=.int .i64 n->∃F',(∀call,dN E N call none r4 F H=some (F',H))/\get F' 12=.bool (decide (i<n))/\∀j,j<12->get F' j=get F j)/\
 (get F 27=.int .i64 i->get F 26=.int .i64 n->∃F',(∀call,dN E N call none IZ F H=some (F',H))/\get F' 28=.bool (decide (i<n))/\∀j,j<28->get F' j=get F j):=by
 refine⟨λf u=>⟨_,λcall=>by simp[r4,f,u];rfl,?_⟩,λf u=>⟨_,λcall=>by simp[IZ,f,u];rfl,?_⟩⟩<;>
  (simp;grind)
theorem y5{u:Sl α}(h:s.l[i]?=some u):(get F 9=cq s->get F 11=.int .i64 i->∃F',(∀call,dN E N call none r5 F H=some (F',H))/\get F' 5=cq u/\∀j,j<12->j≠5->get F' j=get F j)/\
 (get F 25=cq s->get F 27=.int .i64 i->∃F',(∀call,dN E N call none Jr F H=some (F',H))/\get F' 8=cq u/\∀j,j<28->j≠8->get F' j=get F j):=by
 have e:=el h;have e2:fq H (.load 1 false) [.fptr [cq u]]=some (cq u):=by simp[fq,eN,cut,mk]
 refine⟨λf w=>⟨_,λcall=>by simp[r5,f,w,e,e2];rfl,?_⟩,λf w=>⟨_,λcall=>by simp[Jr,f,w,e,e2];rfl,?_⟩⟩<;>
  (simp;grind)
theorem y6{u:Sl α}{t:Nat}(B:get F 3=.int .i64 t)(a:get F 5=cq u)(D:t+u.l.length<=2147483648):∃F',(∀call,dN E N call none r6 F H=some (F',H))/\get F' 3=.int .i64 ((t+u.l.length:Nat):Int)/\∀j,j<12->j≠3->get F' j=get F j:=by
 have w:wrap .i64 ((t:Int)+(u.l.length:Int))=((t+u.l.length:Nat):Int):=by rw[Uk Zaa Zaa];simp
 refine⟨_,λcall=>by simp[r6,B,a,w];rfl,Zab,?_⟩;simp;grind
theorem y7{t:Nat}(B:get F 3=.int .i64 t):∃F',(∀call,dN E N call none r7 F H=some (F',H))/\get F' 20=.bool false/\∀j,j<12->get F' j=get F j:=by refine⟨_,λcall=>by simp[r7,B];rfl,Zab,?_⟩;simp;grind
theorem y9(hi:i<=2147483648):(get F 11=.int .i64 i->∃F',(∀call,dN E N call none r9 F H=some (F',H))/\get F' 11=.int .i64 ((i+1:Nat):Int)/\∀j,j<11->get F' j=get F j)/\
 (get F 27=.int .i64 i->∃F',(∀call,dN E N call none Kl F H=some (F',H))/\get F' 27=.int .i64 ((i+1:Nat):Int)/\∀j,j<27->get F' j=get F j):=by
 have u:=Qr hi;refine⟨λf=>⟨_,λcall=>by simp[r9,f,u];rfl,?_⟩,λf=>⟨_,λcall=>by simp[Kl,f,u];rfl,?_⟩⟩<;>
  (simp;grind)
structure Acc(H:bk)(w:V)(acc:List (List V)):Prop where
 el:dM H 1 w=some acc
 gr:∃H1,gH H w=some H1/\H1.length=H.length
 sh:w=.bG/\acc=[]\/∃id xs,w=.hsl id 1 0 acc.length/\H[id]?=some (.row 1 xs)/\(acc≠[]->xs=acc)
theorem Vq(H:bk)(u:Sl α)(a:bt.size α=1):dM H 1 (cq u)=some (rows u.l):=by cases u<;>simp[cq,Sl.k,Sl.l,kg,dM,rows,a]
theorem y14{w:V}{b:T2}{u:Sl α}(f:bt.size α=1)(a:Acc H w b)(f6:get F 6=w)(D:get F 8=cq u)(J:b.length+u.l.length<=2147483648):
 ∃F' H' w',(∀call,dN E N call none Ji F H=some (F',H'))/\get F' 6=w'/\Acc H' w' (b++rows u.l)/\(u.l=[]->w'=w)/\∀j,j<28->j≠6->get F' j=get F j:=by
 have c:=Vq H u f;have C:(rows u.l).length=u.l.length:=by simp[rows]
 have key:∃H' w',eY H (.append 1) [w,cq u]=some (w',H')/\Acc H' w' (b++rows u.l)/\(u.l=[]->w'=w):=by have⟨H1,g1,g2⟩:=a.gr;cases d:rows u.l with|nil=>exact⟨H,w,by simp only[eY,a.el,c,d],Zac,λ_=>rfl⟩|cons y B=>have G:b.length+(y::B).length<=2147483648:=Zac;refine⟨H1++[.row 1 (b++y::B)],.hsl H.length 1 0 (b.length+(y::B).length),by simp only[eY,a.el,c,d];grind,?_⟩;have z:(H1++[Ob.row 1 (b++y::B)])[H.length]?=some (.row 1 (b++y::B)):=Zac;refine⟨⟨?_,⟨_,by simp only[gH,z];rfl,Zab⟩,.inr ⟨H.length,b++y::B,Zab,z,λ_=>rfl⟩⟩,λe=>Zac⟩;simp only[dM,z,ζb,Ob.rows,if_true,zero_add,List.drop_zero];grind
 have⟨H',w',k1,k2,k3⟩:=key;refine⟨_,H',w',λcall=>by simp[Ji,f6,D,k1];rfl,Zab,k2,k3,?_⟩
 simp;grind
def upto(s:Sl (Sl α))(i:Nat):aX α:=(s.l.take i).flatMap Sl.l
theorem Gq{u:Sl α}(h:s.l[i]?=some u):upto s (i+1)=upto s i++u.l:=by unfold upto;obtain⟨hi,rfl⟩:=ζe.1 h;rw[List.take_succ_eq_append_getElem hi,List.flatMap_append];simp
theorem Mz(s:Sl (Sl α))(i:Nat):(upto s i).length<=(s.l.flatMap Sl.l).length:=by
 have:s.l.flatMap Sl.l=upto s i++(s.l.drop i).flatMap Sl.l:=by unfold upto;rw[<-List.flatMap_append,List.take_append_drop]
 grind
theorem lp1(l:s.l.length<=2147483648)(m:(s.l.flatMap Sl.l).length<=2147483648):∀(d i:Nat)(F:WF),i+d=s.l.length->get F 9=cq s->get F 10=.int .i64 s.l.length->get F 11=.int .i64 i->get F 3=.int .i64 (upto s i).length->
 ∃F',rR E N L9 F H (.exit 0) F' H/\get F' 3=.int .i64 (s.l.flatMap Sl.l).length/\get F' 0=get F 0:=by
 intro d
 induction d with
 |zero=>
  intro i F hi O w z G;have⟨F1,a1,a2,B⟩:=(y4 (E:=E) (N:=N) (H:=H) (n:=s.l.length)).1 z w;refine⟨F1,rR.stop (Ex.seq (Ex.ei a1) (Ex.zQ (Ex.vw (by show get F1 12=_;grind) Ex.exit) Zab)) Zab,?_,B 0 Zaa⟩
  rw[B 3 Zaa,G]
  have:upto s i=s.l.flatMap Sl.l:=by unfold upto;grind
  simp_all
 |succ d Q=>
  intro i F hi O w z G;have⟨F1,a1,a2,B⟩:=(y4 (E:=E) (N:=N) (H:=H) (n:=s.l.length)).1 z w;have b:s.l[i]?=some s.l[i]:=ζd Zaa
  have⟨S,T,U,W⟩:=(y5 (E:=E) (N:=N) (F:=F1) (H:=H) b).1 Zac Zac
  have D:=Mz s (i+1);have I:=Gq b;rw[I,ζi]at D;have⟨X,Y,J,Z⟩:=y6 (E:=E) (N:=N) (F:=S) (H:=H) (u:=s.l[i]) (t:=(upto s i).length) Zad U Zaa
  have⟨L,e,f,c⟩:=y7 (E:=E) (N:=N) (F:=X) (H:=H) J;have C:∀j,j<12->j≠3->j≠5->get L j=get F j:=λj a g h=>by rw[c j a,Z j a g,W j a h,B j a]
  have⟨k,e1,e2,e3⟩:=(y9 (E:=E) (N:=N) (F:=L) (H:=H) (i:=i) Zaa).1 (by rw[C 11 Zaa Zaa Zaa];exact z)
  have⟨F',g1,g2,g3⟩:=Q (i+1) k Zaa (by rw[e3 9 Zaa,C 9 Zaa Zaa Zaa];omega) (by rw[e3 10 Zaa,C 10 Zaa Zaa Zaa];exact w) e2 (by rw[e3 3 Zaa,c 3 Zaa,J,I,ζi])
  exact⟨F',rR.step (Ex.seq (Ex.ei a1) (Ex.seq (Ex.sy (by show get F1 12=_;rw[a2,decide_eq_true Zaa]) Ex.skip) (Ex.seq (Ex.block (Ex.seq (Ex.ei T) (Ex.seq (Ex.ei Y) (Ex.seq (Ex.ei e) (Ex.vw f Ex.skip))))) (Ex.ei e1)))) g1,g2,by rw[g3,e3 0 Zaa,C 0 Zaa Zaa Zaa]⟩
theorem lp2(b:bt.size α=1)(h:s.l.length<=2147483648)(k:(s.l.flatMap Sl.l).length<=2147483648):∀(d i:Nat)(F:WF)(H:bk)(w:V),i+d=s.l.length->get F 25=cq s->get F 26=.int .i64 s.l.length->get F 27=.int .i64 i->get F 6=w->Acc H w (rows (upto s i))->
 ∃F' H' w',rR E N ZP F H (.exit 2) F' H'/\get F' 6=w'/\Acc H' w' (rows (s.l.flatMap Sl.l))/\((s.l.flatMap Sl.l).length=0->w'=w):=by
 intro d
 induction d with
 |zero=>
  intro i F H w hi C B z f6 a;have⟨F1,a1,a2,O⟩:=(y4 (E:=E) (N:=N) (H:=H) (n:=s.l.length)).2 z B;have:upto s i=s.l.flatMap Sl.l:=by unfold upto;grind
  rw[this]at a;exact⟨F1,H,w,rR.stop (Ex.seq (Ex.ei a1) (Ex.zQ (Ex.vw (by show get F1 28=_;grind) Ex.exit) Zab)) Zab,Zac,a,λ_=>rfl⟩
 |succ d Q=>
  intro i F H w hi C B z f6 a;have⟨F1,a1,a2,O⟩:=(y4 (E:=E) (N:=N) (H:=H) (n:=s.l.length)).2 z B;have c:s.l[i]?=some s.l[i]:=ζd Zaa
  have⟨S,T,U,l⟩:=(y5 (E:=E) (N:=N) (F:=F1) (H:=H) c).2 Zac Zac
  have D:=Mz s (i+1);have I:=Gq c;rw[I,ζi]at D;have⟨J,H',w',W,X,L,Y,m⟩:=y14 (E:=E) (N:=N) (F:=S) (H:=H) (u:=s.l[i]) b a Zac U (by simp only[h_];omega)
  have G:∀j,j<28->j≠6->j≠8->get J j=get F j:=λj b o p=>Zac
  have⟨Z,e1,e2,e3⟩:=(y9 (E:=E) (N:=N) (F:=J) (H:=H') (i:=i) Zaa).2 (by rw[G 27 Zaa Zaa Zaa];exact z)
  have f:rows (upto s i)++rows s.l[i].l=rows (upto s (i+1)):=by rw[I];simp[rows]
  rw[f]at L;have⟨F',H2,g,g1,g2,g3,g4⟩:=Q (i+1) Z H' w' Zaa (by rw[e3 25 Zaa,G 25 Zaa Zaa Zaa];omega) (by rw[e3 26 Zaa,G 26 Zaa Zaa Zaa];omega) e2 (by rw[e3 6 Zaa];exact X) L
  exact⟨F',H2,g,rR.step (Ex.seq (Ex.ei a1) (Ex.seq (Ex.sy (by show get F1 28=_;rw[a2,decide_eq_true Zaa]) Ex.skip) (Ex.seq (Ex.block (Ex.seq (Ex.ei T) (Ex.ei W))) (Ex.ei e1)))) g1,g2,g3,λe=>(g4 e).trans (Y (List.eq_nil_of_length_eq_zero Zaa))⟩
end
end catX
theorem UZ{E:Env}{f gf:Y'}{nm:Y'->aY Nat}{N:Nat->Y'}{gid:Nat}(A:∀f s,nm f=some s->N s=f)(hg:N gid=gf)(aa:E.keep gf=true)(U:E.own gf=true)
 (hf:∃fi,E.ft f=some fi/\bM ⟨E,nm,fi.ntmps⟩ false fi.body=some (catX.cat gid)/\2<=fi.ntmps/\fi.results=[.tmp 2])
 (ab:∃fi,E.ft gf=some fi/\bM ⟨E,nm,fi.ntmps⟩ false fi.body=some catX.grow/\2<=fi.ntmps/\fi.results=[.tmp 4])
 {α:Type}[bt α](K:bt.size α=1)(s:Sl (Sl α))(M:s.l.length<=2147483648)(ht:(s.l.flatMap Sl.l).length<=2147483648):C3 E f [cq s] (cq (DH s)):=by
 have⟨fi,p1,p2,p3,p4⟩:=hf;have⟨gi,q1,q2,q3,q4⟩:=ab;generalize P:(s.l.flatMap Sl.l).length=T at *;have⟨Fg,ad,ae⟩:=catX.VV (E:=E) (N:=N) ht;have⟨R,O⟩:=Ex.run A q1 q2 (args:=[.bG,.int .i64 T]) Zac ad (vs:=[if T=0 then .bG else .hsl 0 1 0 0]) (by rw[q4];simp[iR,ae])
 have Q:∀l,borrows l [] [.bG,.int .i64 (T:Int)]=some [.bG,.int .i64 (T:Int)]:=λl=>by unfold borrows;simp only[iU,jK l [] (x:=V.bG) rfl,jK l [] (x:=V.int .i64 T) rfl]
 have D:∃w G,(∀k,R<=k->gG E (run E k) gf [.bG,.int .i64 T] []=some (w,G))/\catX.Acc G w []/\(T=0->w=.bG):=by by_cases z:T=0;refine⟨.bG,[],λk d=>?_,⟨rfl,⟨[],rfl,rfl⟩,.inl ⟨rfl,rfl⟩⟩,λ_=>rfl⟩;have:=(pT E d).go _ _ _ _ O;rw[if_pos z,if_pos z]at this;unfold gG mK;rw[if_pos U];simp[Q,this,result,V.scalar];refine⟨.hsl 0 1 0 0,[.row 1 (replicate T [.bG])],λk d=>?_,⟨by simp[dM,Ob.rows],⟨_,rfl,Zab⟩,.inr ⟨0,_,rfl,rfl,λh=>absurd rfl h⟩⟩,λh=>absurd h z⟩;have:=(pT E d).go _ _ _ _ O;rw[if_neg z,if_neg z]at this;unfold gG mK;rw[if_pos U];simp only[Q,if_true,this,result,V.scalar,false_eq_true,if_false,uh,List.getElem?_cons_zero,true_and];rw[if_pos (by simp[List.all_replicate,V.scalar])];simp
 have⟨w,G,aj,af,S⟩:=D;have W:T≠0->rows (s.l.flatMap Sl.l)≠[]:=λh e=>h (by rw[<-P,<-h_,e];rfl)
 have B:∀c∈rows (s.l.flatMap Sl.l),V.cQ c=true:=λc o=>by obtain⟨x,_,rfl⟩:=mem_map.1 o;exact bt.good x
 have g1:∀call,dN E N call none catX.r1 [cq s] []=some (set [cq s] 2 .bG,[]):=λcall=>vp (v:=.bG) rfl (by simp[jY,fF,bN]) wB
 have k0:get (set [cq s] 2 .bG) 0=cq s:=rfl;generalize set [cq s] 2 .bG=F0 at *;have g2:∀call,dN E N call none catX.r2 F0 []=some (set F0 3 (.int .i64 0),[]):=λcall=>vp (v:=.int .i64 0) rfl (by simp[jY,fF,bN]) wB
 have⟨F2,a1,a2,a3,a4,a5⟩:=(catX.y3 (E:=E) (N:=N) (F:=set F0 3 (.int .i64 0)) (H:=[]) (s:=s)).1 Zad
 have⟨F3,b1,b2,b3⟩:=catX.lp1 (E:=E) (N:=N) (H:=[]) M Zaa s.l.length 0 F2 Zaa a2 a3 a4 (by rw[a5 3 Zaa,uf];rfl)
 rw[P]at b2;have ak:get F3 0=cq s:=Zad
 have p:∃X,(∃n,∀k,n<=k->dN E N (run E k) none (catX.IS gid) F3 []=some (X,G))/\get X 6=w/\get X 0=cq s:=by refine⟨_,⟨R,λk d=>vp (v:=.int .i64 T) rfl ?_<|T3 (v:=w) (H1:=G) rfl ?_<|vp (v:=w) rfl ?_ wB⟩,?_,?_⟩;simp[jY,fF,bN,b2];simp only[jY,map_cons,map_nil,fF,lP,th,Nat.reduceEqDiff,if_true,if_false,hg,aa,nil_append,append_nil];grind;simp[jY,fF,bN,lP];simp[lP];simp only[lP,th,Nat.reduceEqDiff,if_false];omega
 have⟨X,p,c2,c3⟩:=p;have⟨F5,d1,d2,d3,d4,d5⟩:=(catX.y3 (E:=E) (N:=N) (F:=X) (H:=G) (s:=s)).2 c3;have⟨F6,Y,J,e1,e2,e3,e4⟩:=catX.lp2 (E:=E) (N:=N) K M Zaa s.l.length 0 F5 G w Zaa d2 d3 d4 Zad af
 have q:∃r,(∀call,dN E N call none catX.r16 F6 Y=some (r,Y))/\get r 2=J:=⟨_,λcall=>vp (v:=J) rfl (by simp[jY,fF,bN,e2])<|vp (v:=J) rfl (by simp[jY,fF,bN,lP]) wB,by simp[lP]⟩
 have⟨r,q,f2⟩:=q;have⟨n,ah⟩:=Ex.run A p1 p2 (args:=[cq s]) (by simp;omega) (Ex.seq (Ex.ei g1) (Ex.seq (Ex.ei g2) (Ex.seq (Ex.seq (Ex.ei a1) (Ex.EZ (Ex.loop b1))) (Ex.seq (Ex.ops p) (Ex.seq (Ex.seq (Ex.ei d1) (Ex.EZ (Ex.loop e1))) (Ex.seq (Ex.ei q) Ex.ret)))))) (vs:=[J]) (by rw[p4];simp[iR,f2])
 refine⟨n,J,Y,λid=>∃m,J=.hsl id 1 0 m,ah,?_,?_,?_⟩
 .rcases e3.sh with⟨h,L⟩|⟨id,xs,h,L,y⟩
  .have:T=0:=by grind
   rw[h];unfold DH;rw[if_pos Zaa]
   exact .same _ rfl
  by_cases z:T=0
  .have:=e4 Zaa
   rw[S z]at this;rw[this]at h;cases h
  have t:=y (W z);subst t;unfold DH;rw[if_neg Zaa,h]
  show FR Y _ (.fsl (bt.size α) (rows (s.l.flatMap Sl.l))) _;rw[K];exact .fsl 1 _ id 0 _ ⟨_,rfl⟩ (by unfold bn;rw[L];rfl) Zaa (λi a b Z I=>by rw[zero_add]at I;rw[Z]at I;cases I;rfl) (λi j a b u v Z I g hv=>by
   rw[zero_add]at I;rw[Z]at I;cases I;rw[g]at hv;cases hv;exact .same _ (ir.1 (B a (mem_of_getElem? Z)) j u g))
 .rintro id ⟨m,h⟩;rcases e3.sh with⟨C,_⟩|⟨ai,xs,C,L,_⟩
  .rw[C]at h;cases h
  rw[C]at h;cases h;unfold bn;rw[L];rfl
 refine⟨λid es ys hz hr c o u g=>?_⟩
 have⟨m,h⟩:=hz;rcases e3.sh with⟨C,_⟩|⟨ai,xs,C,L,y⟩
 .rw[C]at h;cases h
 rw[C]at h;cases h
 by_cases z:T=0
 .have:=e4 Zaa
  rw[S z]at this;rw[this]at C;cases C
 have t:=y (W z);subst t;unfold bn at hr;rw[L]at hr;cases hr;have⟨j,hj⟩:=getElem?_of_mem g;exact⟨u,.same _ (ir.1 (B c o) j u hj)⟩
def Ad(op:X')(x y:Int):Int:=cond op x y
@[simp] theorem Yt(x y:Int):Ad true x y=x:=rfl
@[simp] theorem Y3(x y:Int):Ad false x y=y:=rfl
namespace setX
instance{n:Nat}:OfNat Arg n:=⟨.s n⟩
def fa(k:Nat):K:=.p (.fieldAddr k)
def ld:K:=.r (.load 1 false)
def r1:R':=[o2 4 (.a .box) [1] [],o2 5 (.a .box) [2] []]
def r2:R':=[o1 6 0 [],o2 7 (fa 0) [4] [],o2 8 ld [7] [],o2 9 (fa 1) [4] [],o2 10 ld [9] [],o2 11 (.p (.idxS 1)) [6,8] [],⟨none,none,false,.l (.store 1),[11,10],[],[]⟩]
def r3:R':=[o1 6 0 [],o2 7 (fa 0) [5] [],o2 8 ld [7] [],o2 9 (fa 1) [5] [],o2 10 ld [9] [],o2 11 (.p (.bin (some .int) none .sub)) [10,.k (.int .i64 1)] [],o2 12 (.p (.idxS 1)) [6,8] [],⟨none,none,false,.l (.store 1),[12,11],[],[]⟩]
def code(op:X'):RC:=.seq (.ops r1) (.ops (if op then r3 else r2))
section
variable{E:Env}{N:Nat->Y'}{H:bk}{id off L:Nat}{rs:T2}
theorem TP{h:Nat}{x y:V}{i:Nat}{v:V}(B:H[h]?=some (.row 2 [[x,y]]))(a:[x,y][i]?=some v):fq H (.load 1 false) [.hptr h 0 i]=some v:=by match i,a with|0,a=>cases a;simp[fq,eN,B,Ob.rows,cut,mk]|1,a=>cases a;simp[fq,eN,B,Ob.rows,cut,mk]|i+2,a=>simp at a
attribute [local simp] dN jY fF bN lP th mT tg
theorem whole(op:X'){a b c d:Int}(G:H[id]?=some (.row 1 rs))(hp:0<=(Ad op c a))(B:(Ad op c a).toNat<L){z:V}(D:rs[off+(Ad op c a).toNat]?=some [z]):
 ∃F' X,Ex E N (code op) [.hsl id 1 off L,.agg [.int .i64 a,.int .i64 b],.agg [.int .i64 c,.int .i64 d]] H .norm F' ((H++X).set id (.row 1 (rs.set (off+(Ad op c a).toNat) [.int .i64 (Ad op (wrap .i64 (d-1)) b)]))):=by
 let X:bk:=[.row 2 [[.int .i64 a,.int .i64 b]],.row 2 [[.int .i64 c,.int .i64 d]]]
 have I:=(ζe.1 G).1;have e1:∃F1,(∀call,dN E N call none r1 [.hsl id 1 off L,.agg [.int .i64 a,.int .i64 b],.agg [.int .i64 c,.int .i64 d]] H=some (F1,H++X))/\get F1 0=.hsl id 1 off L/\get F1 4=.hptr H.length 0 0/\get F1 5=.hptr (H.length+1) 0 0:=by exact⟨_,λcall=>by simp[r1,get,set,mB,V.cells,V.one,Mk.val,X];rfl,rfl,rfl,rfl⟩
 have⟨F1,p1,p2,p3,p4⟩:=e1;have e:(H++X)[id]?=some (.row 1 rs):=by rw[getElem?_append_left I];exact G
 have J:(H++X)[H.length]?=some (.row 2 [[.int .i64 a,.int .i64 b]]):=by simp[X]
 have O:(H++X)[H.length+1]?=some (.row 2 [[.int .i64 c,.int .i64 d]]):=by rw[getElem?_append_right Zaa];simp[X]
 obtain⟨H1,Q⟩:∃H1,H1=H++X:=⟨_,rfl⟩;rw[<-Q]at e J O;rw[<-Q]at p1
 suffices W:∃F',Ex E N (code op) [.hsl id 1 off L,.agg [.int .i64 a,.int .i64 b],.agg [.int .i64 c,.int .i64 d]] H .norm F' (H1.set id (.row 1 (rs.set (off+(Ad op c a).toNat) [.int .i64 (Ad op (wrap .i64 (d-1)) b)])))by have⟨F',Y⟩:=W;exact⟨F',X,by rw[<-Q];exact Y⟩
 have w:∀p:Int,0<=p->p.toNat<L->mE 1 (.hsl id 1 off L) p=some (.hptr id (off+p.toNat) 0):=λp g Z=>by unfold mE;rw[if_neg Zaa];simp[Z]
 have C:∀(q:Nat)(z v:V),rs[q]?=some [z]->v.one=true->eY H1 (.store 1) [.hptr id q 0,v]=some (.undef,H1.set id (.row 1 (rs.set q [v]))):=λq z v D f=>by simp[eY,e,D,Gx f,f]
 cases op with
 |false=>
  simp only[Y3]at hp B D⊢;have S:=TP (i:=0) J rfl;have T:=TP (i:=1) J rfl;have e2:∃u,(∀call,dN E N call none r2 F1 H1=some (u,H1.set id (.row 1 (rs.set (off+a.toNat) [.int .i64 b])))):=by exact⟨_,λcall=>by simp[r2,p2,p3,fa,ld,ru,S,T,w a hp B,C _ z (.int .i64 _) D rfl];rfl⟩
  have⟨u,U⟩:=e2;exact⟨u,Ex.seq (Ex.ei p1) (Ex.ei (l:=_) U)⟩
 |true=>
  simp only[Yt]at hp B D⊢;have S:=TP (i:=0) O rfl;have T:=TP (i:=1) O rfl;have e2:∃u,(∀call,dN E N call none r3 F1 H1=some (u,H1.set id (.row 1 (rs.set (off+c.toNat) [.int .i64 (wrap .i64 (d-1))])))):=by exact⟨_,λcall=>by simp[r3,p2,p4,fa,ld,ru,S,T,w c hp B,C _ z (.int .i64 _) D rfl];rfl⟩
  have⟨u,U⟩:=e2;exact⟨u,Ex.seq (Ex.ei p1) (Ex.ei (l:=_) U)⟩
end
end setX
section
variable{S:Sys}{c:bX}{β γ δ α:Type}[bt δ]{Q:Out×St->aY β}{e:γ->aY β}{cf:Cf}
end
def snap(w:World):cG:=λb=>match w.heap[b]?with
 |some (.cells c _ _)=>some (.cells c)|some (.map es _)=>some (.map es)|_=>none
theorem S6{w:World}(a:vE (snap w)):dw (snap w) (λ_=>none) [] w where
 dom _ _:=rfl
 imm b x h:=by unfold snap at h;split at h;(next c el fr u=>cases h;exact⟨el,fr,u⟩);(next es d u=>cases h;exact⟨d,u⟩);cases h
 obs id ob h:=by simp at h
 inj id z ob B p C h:=by simp at h
 gl:=a
def fm(I:cG)(xs:S')(vs:aX WP):Prop:=xs.length=vs.length/\∀(j:Nat)a b,xs[j]?=some a->vs[j]?=some b->eF I a b
theorem fm.nil{I:cG}:fm I [] []:=⟨rfl,Zab⟩
theorem fm.one{I:cG}{x:V}{v:WP}(h:eF I x v):fm I [x] [v]:=⟨rfl,λj a b c u=>by
 cases j with
 |zero=>simp at c u;subst c u;exact h|succ j=>simp at c⟩
theorem fm.append{I:cG}{xs ys:S'}{B vs:aX WP}(h:fm I xs B)(k:fm I ys vs):fm I (xs++ys) (B++vs):=by refine⟨by simp[h.1,k.1],λj a b c u=>?_⟩;by_cases w:j<xs.length;rw[getElem?_append_left w]at c;rw[getElem?_append_left (by rw[<-h.1];exact w)]at u;exact h.2 j a b c u;rw[getElem?_append_right Zaa]at c;rw[getElem?_append_right (by rw[<-h.1];omega),<-h.1]at u;exact k.2 _ a b c u
theorem DK{α β:Type}{f:α->aY β}:∀{l:aX α}{r:aX β},l.mapM f=some r->r.length=l.length/\∀(i:Nat)a b,l[i]?=some a->r[i]?=some b->f a=some b
 |[],r,h=>by simp only[List.mapM_nil,pure_def,ζa]at h;subst h;simp|x::l,r,h=>by simp only[List.mapM_cons,Option.bind_eq_bind,pure_def,ζg,ζa]at h;obtain⟨y,D,ys,B,rfl⟩:=h;have⟨c,z⟩:=DK B;refine⟨by simp[c],λi a b u w=>?_⟩;cases i with|zero=>simp at u w;subst u w;exact D|succ i=>exact z i a b (by simpa using u) (by simpa using w)
structure uk{H:Type}(b:DataW H->Nat):Prop where
 lit:∀l,1<=b (.lit l)
 str:∀s,s.length+1<=b (.lit (.string s))
 nil:1<=b .nil
 slice:∀es sp,(es.map b).sum+1<=b (.slice es sp)
 agg:∀ps,(ps.map b).sum+1<=b (.agg ps)
class cm(α:Type)where
 wt:α->Nat
 ok:α->Prop
instance:cm Int where
 wt _:=1
 ok n:=-9223372036854775808<=n/\n<=9223372036854775807
instance:cm X' where
 wt _:=1
 ok _:=True
instance:cm V' where
 wt s:=s.size+1
 ok s:=s.size<=maxLen
instance{α:Type}[cm α]:cm (Sl α)where
 wt s:=(s.l.map cm.wt).sum+1
 ok s:=(∀x∈s.l,cm.ok x)/\s≠.emp
class Reads(P:Program)(t:TypeId)(α:Type)[bt α][cm α]:Prop where
 size:P.cellsOf t=bt.size α
 rd:∀{H:Type}{enc:TypeId×Value->H}{w:World}{base:Nat}{spare:Nat->Bool}{held:Bool}{fuel:Nat}{cs:List Value}{d:DataW H}{ps:List MemPlace},
  trod enc P w base spare held fuel t cs=some (d,ps)->∃a:α,fm (snap w) (cells a) cs/\cm.ok a/\∀b:DataW H->Nat,uk b->cm.wt a<=b d
 shape:∀{w:World}{r:_root_.Go.Reach}{base:Nat}{v:Value},okWide P w r base t v->if bt.agg α then∃cs,v=.agg cs else v.cells=#[v]
section
variable{P:Program}
theorem rY{w:World}{r:_root_.Go.Reach}{base:Nat}{t:W'}{v:WP}{u:_}(a:P.underlying t=some u)(b:∀fs,u≠.struct fs)(B:∀n e,u≠.array n e)(h:okWide P w r base t v):v.cells=#[v]:=by cases v with|agg cs=>exfalso;unfold okWide at h;rw[a]at h;split at h;(next fs z=>cases z;exact b _ rfl);(next n e z=>cases z;exact B _ _ rfl);(unfold Cell.okWide at h;rw[a]at h;split at h<;>first|(simp at *;done)|skip);unfold Cell.ok at h;rw[a]at h;cases u<;>simp at h|_=>rfl
theorem Reads.int{t:W'}(a:P.underlying t=some (.int .i64))(c:P.cellsOf t=1):Reads P t Int where
 size:=c
 rd {H enc w base spare held z cs d ps} h:=by cases z with|zero=>simp[trod]at h|succ z=>(simp only[trod,a]at h;split at h<;>first|(simp at h;done)|skip);(next u=>cases u);rename_i k D n u;simp only[ζa,TypeDesc.int.injEq]at u;split at h;(next e=>obtain⟨rfl,B⟩:=e;subst u;cases h;exact⟨n,fm.one (.int _ n),show _/\_ by simpa[Lit.wf,IntKind.min,IntKind.max,signed,IntKind.bits]using B,λb C=>C.lit _⟩);simp at h;all_goals (rename_i u;cases u)
 shape h:=by simp only[show bt.agg Int=false from rfl];exact rY a Zab Zab h
theorem Reads.bool{t:W'}(a:P.underlying t=some .bool)(c:P.cellsOf t=1):Reads P t X' where
 size:=c
 rd {H enc w base spare held u cs d ps} h:=by cases u with|zero=>simp[trod]at h|succ u=>(simp only[trod,a]at h;split at h<;>first|(simp at h;done)|skip);(next b _=>cases h;exact⟨b,fm.one (.bool b),trivial,λb B=>B.lit _⟩);all_goals (rename_i z;cases z)
 shape h:=by simp only[show bt.agg X'=false from rfl];exact rY a Zab Zab h
theorem Reads.str{t:W'}(a:P.underlying t=some .string)(c:P.cellsOf t=1):Reads P t V' where
 size:=c
 rd {H enc w base spare held u cs d ps} h:=by cases u with|zero=>simp[trod]at h|succ u=>(simp only[trod,a]at h;split at h<;>first|(simp at h;done)|skip);(all_goals (first|(rename_i z;cases z;done)|skip));rename_i s _;split at h;(next B=>cases h;exact⟨s,fm.one (.str s),B,λb C=>C.str _⟩);simp at h
 shape h:=by simp only[show bt.agg V'=false from rfl];exact rY a Zab Zab h
theorem RQ{w:World}{a:Addr}{n:Nat}{v:WP}(h:w.cell? (a.add n)=some v)(D:n=0\/True):∃c el fr,w.heap[a.block]?=some (.cells c el fr)/\c[a.off+n]?=some v/\(n=0->a.spot=none):=by
 unfold cell? Addr.add at h;by_cases u:n=0;subst u;simp only[if_true]at h;split at h;rename_i c el fr z;split at h;simp at h;rename_i B;exact⟨c,el,fr,z,h,λ_=>by simpa using B⟩;simp at h;simp only[if_neg u]at h;split at h;next c el fr z=>simp only[Option.isSome_none,false_eq_true,if_false]at h;exact⟨c,el,fr,z,h,λe=>absurd e u⟩
 simp at h
def s8(P:Program)(t:W')(α:Type)[bt α][cm α](B:Nat):Prop:=∀{H:Type}{enc:W'×WP->H}{w:World}{base:Nat}{c:Nat->X'}{e:X'}{cs:aX WP}{d:DataW H}{ps:aX MemPlace},trod enc P w base c e B t cs=some (d,ps)->∃a:α,fm (snap w) (cells a) cs/\cm.ok a/\∀b:DataW H->Nat,uk b->cm.wt a<=b d
theorem s8.sl{t e:W'}{α:Type}[bt α][cm α]{J:Nat}(R:P.underlying t=some (.slice e))(V:P.cellsOf e=bt.size α)(T:0<bt.size α)(p:s8 P e α J):s8 P t (Sl α) (J+1):=by
 intro H enc w base A K cs d ps h;simp only[trod,R]at h;split at h<;>first|(simp at h;done)|skip
 all_goals (first|(rename_i I;cases I;done)|skip)
 cases h;exact⟨.nil,fm.one .bG,⟨λx U=>by simp[Sl.l]at U,Zab⟩,λb W=>W.nil⟩;rename_i e' a len E I;cases I;split at h
 .rename_i X;obtain⟨f,af,h⟩:=ζg.1 h;obtain⟨rest,_,h⟩:=ζf.1 h;cases h;obtain⟨Y,Z⟩:=DK af;simp only[length_range]at Y;have U:∀i,i<len->∃x:α,∃u:aX WP,w.cells? base (a.add (i*P.cellsOf e)) (P.cellsOf e)=some u/\fm (snap w) (cells x) u/\cm.ok x/\∀b:DataW H->Nat,uk b->∀y,f[i]?=some y->cm.wt x<=b y.1:=λi hi=>(by have:=Z i i (f[i]' Zaa) (by simp[hi]) (ζd Zaa);obtain⟨u,l,L⟩:=ζg.1 this;obtain⟨x,U,F,W⟩:=p (show _=some ((f[i]' Zaa).1,(f[i]' Zaa).2)from L);exact⟨x,u,l,U,F,λb O y g=>by rw[ζd Zaa]at g;cases g;exact W b O⟩);have aa:∀n,n<=len->∃z:aX α,z.length=n/\(∀i x,z[i]?=some x->∃u:aX WP,w.cells? base (a.add (i*P.cellsOf e)) (P.cellsOf e)=some u/\fm (snap w) (cells x) u)/\(∀x∈z,cm.ok x)/\∀b:DataW H->Nat,uk b->(z.map cm.wt).sum<=(((f.take n).map (·.1)).map b).sum:=(by intro n;induction n with|zero=>intro _;exact⟨[],rfl,Zab,Zab,Zab⟩|succ n ih=>intro hn;obtain⟨z,l,L,h5,h6⟩:=ih Zaa;obtain⟨x,u,h3,h4,h7,h8⟩:=U n Zaa;refine⟨z++[x],by simp[l],λi y g=>?_,λy g=>?_,λb O=>?_⟩;rotate_left;rcases mem_append.1 g with g|g;exact h5 y g;simp at g;subst g;exact h7;have k1:=h6 b O;have k2:=h8 b O _ (ζd Zaa);rw[List.take_succ,ζd (by omega:n<f.length)];simp only[List.map_append,List.sum_append,Option.toList_some,map_cons,map_nil,List.sum_cons,List.sum_nil];omega;by_cases hi:i<z.length;rw[getElem?_append_left hi]at g;exact L i y g;rw[getElem?_append_right Zaa]at g;have:i-z.length=0:=(by cases F:i-z.length with|zero=>rfl|succ k=>rw[F]at g;simp at g);rw[this]at g;simp at g;subst g;have:i=n:=Zaa;subst this;exact⟨u,h3,h4⟩);obtain⟨z,C,ah,ab,ai⟩:=aa len (le_refl _);refine⟨.row z,fm.one ?_,⟨ab,Zab⟩,λb O=>?_⟩;rotate_left;have k:=ai b O;rw[take_of_length_le Zaa]at k;have k2:=O.slice (f.map (·.1)) (rest.map (·.1));show(z.map cm.wt).sum+1<=_;omega;show eF _ (.fsl (bt.size α) (rows z)) _;cases q:z with|nil=>subst q;simp at C;subst C;exact .fsl0 _ _ _|cons x0 xr=>rw[<-q];have ao:0<len:=(by rw[<-C,q];simp);have Q:∀i x,z[i]?=some x->∀j y,(cells x)[j]?=some y->∃v,w.cell? ((a.add (i*bt.size α)).add j)=some v/\eF (snap w) y v:=(by intro i x hi j y g;obtain⟨u,l,L⟩:=ah i x hi;rw[V]at l;unfold World.cells? at l;split at l;obtain⟨g1,g2⟩:=DK l;have M:j<bt.size α:=(by rw[<-iw x];exact(ζe.1 g).1);obtain⟨v,s⟩:∃v,u[j]?=some v:=⟨_,ζd (by rw[g1];simpa using M)⟩;exact⟨v,g2 j j v (by simp[M]) s,L.2 j y v g s⟩;simp at l);have an:∀i j,(a.add (i*bt.size α)).add j=a.add (i*bt.size α+j)\/True:=λ_ _=>.inr trivial;have B:∀i x,z[i]?=some x->∀j y,(cells x)[j]?=some y->∃c el fr v,w.heap[a.block]?=some (.cells c el fr)/\c[a.off+i*bt.size α+j]?=some v/\eF (snap w) y v/\(i=0->j=0->a.spot=none):=(by intro i x hi j y g;obtain⟨v,l,L⟩:=Q i x hi j y g;obtain⟨c,el,fr,g1,g2,g3⟩:=RQ l (.inr trivial);have W:(a.add (i*bt.size α)).block=a.block:=(by unfold Addr.add;split<;>rfl);have ho:(a.add (i*bt.size α)).off=a.off+i*bt.size α:=(by unfold Addr.add;split<;>simp_all);rw[W]at g1;rw[ho]at g2;refine⟨c,el,fr,v,g1,g2,L,?_⟩;rintro rfl rfl;have:=g3 rfl;simpa[Addr.add]using this);have aj:∃y,(cells x0)[0]?=some y:=⟨_,ζd (by rw[iw];exact T)⟩;obtain⟨y0,ak⟩:=aj;obtain⟨c,el,fr,v0,D,_,_,G⟩:=B 0 x0 (by rw[q];rfl) 0 y0 ak;have G:=G rfl rfl;obtain⟨b,o,sp⟩:=a;simp only at G D;subst G;have hI:snap w b=some (.cells c):=(by unfold snap;rw[D]);have S:(rows z).length=len:=(by rw[h_,C]);rw[<-S];refine .fsl _ _ b o E c hI (by rw[S];exact X.2.1) (λr p=>?_) (λr p y g=>?_) ?_ (λi j r y v p g s=>?_);obtain⟨x,_,rfl⟩:=mem_map.1 p;exact iw x;obtain⟨x,_,rfl⟩:=mem_map.1 p;exact all_eq_true.1 (u_ x) y g;obtain⟨N,ad⟩:∃x,z[len-1]?=some x:=⟨_,ζd Zaa⟩;obtain⟨yl,al⟩:∃y,(cells N)[bt.size α-1]?=some y:=⟨_,ζd (by rw[iw];omega)⟩;obtain⟨c2,_,_,v2,k1,k2,_,_⟩:=B (len-1) N ad (bt.size α-1) yl al;simp only at k1 k2;rw[D]at k1;cases k1;have:=(Array.getElem?_eq_some_iff.1 k2).1;rw[S];have e:len*bt.size α=(len-1)*bt.size α+bt.size α:=(by obtain⟨m,rfl⟩:∃m,len=m+1:=⟨len-1,Zaa⟩;simp[Nat.add_mul]);omega;simp only[rows,getElem?_map,ζf]at p;obtain⟨x,am,rfl⟩:=p;obtain⟨c2,_,_,v2,k1,k2,k3,_⟩:=B i x am j y g;simp only at k1 k2;rw[D]at k1;cases k1;rw[s]at k2;cases k2;exact k3
 simp at h
theorem s8.Zx{t e:W'}{α:Type}[bt α][cm α]{B:Nat}(c:P.underlying t=some (.slice e))(G:P.cellsOf e=bt.size α)(D:0<bt.size α)(i:∀g,g<B->s8 P e α g):s8 P t (Sl α) B:=by cases B with|zero=>intro H enc w base a b cs d ps h;simp[trod]at h|succ f=>exact s8.sl c G D (i f (Nat.lt_succ_self f))
theorem Reads.sl{t e:W'}{α:Type}[bt α][cm α][Reads P e α](a:P.underlying t=some (.slice e))(b:P.cellsOf t=1)(B:0<bt.size α):Reads P t (Sl α)where
 size:=b
 rd h:=s8.Zx a (Reads.size (α:=α)) B (λ_ _{_ _ _ _ _ _ _ _ _}=>Reads.rd (P:=P) (t:=e) (α:=α)) h
 shape h:=by simp only[show bt.agg (Sl α)=false from rfl];exact rY a Zab Zab h
theorem fm.seg{I:cG}{a xs:S'}{cs:aX WP}{o n:Nat}(h:fm I a (cs.take o))(k:fm I xs ((cs.drop o).take n)):fm I (a++xs) (cs.take (o+n)):=by rw[List.take_add];exact h.append k
theorem fm.fin{I:cG}{xs:S'}{cs:aX WP}{n:Nat}(h:fm I xs (cs.take n))(B:cs.length=n):fm I xs cs:=by rw[take_of_length_le Zaa]at h;exact h
theorem s8.st{t:W'}{fs:Array Field}{α:Type}[bt α][cm α]{B:Nat}(i:P.underlying t=some (.struct fs))(j:P.cellsOf t=bt.size α)
 (h:∀{H:Type}{enc:W'×WP->H}{w:World}{base:Nat}{c:Nat->X'}{e:X'}{cs:aX WP}{l:aX (DataW H×aX MemPlace)},cs.length=bt.size α->
  (fs.toList.mapM λf=>trod enc P w base c e B f.type ((cs.drop f.offset).take (P.cellsOf f.type)))=some l->∃a:α,fm (snap w) (cells a) cs/\cm.ok a/\∀b:DataW H->Nat,uk b->cm.wt a<=((l.map (·.1)).map b).sum+1):s8 P t α (B+1):=by
 intro H enc w base c e cs d ps g;simp only[trod,i]at g;split at g<;>first|(simp at g;done)|skip
 all_goals (first|(rename_i u;cases u;done)|skip)
 rename_i C;have⟨l,k,D⟩:=ζf.1 g;cases D;have⟨a,k1,k2,k3⟩:=h (by rw[C,j]) k
 exact⟨a,k1,k2,λb z=>Nat.le_trans (k3 b z) (z.agg _)⟩
theorem Reads.of{t:W'}{fs:Array Field}{α:Type}[bt α][cm α](a:P.underlying t=some (.struct fs))(b:P.cellsOf t=bt.size α)(D:bt.agg α=true)(h:∀B,s8 P t α B):Reads P t α where
 size:=b
 rd hr:=h _ hr
 shape hv:=by rw[if_pos D];unfold okWide at hv;rw[a]at hv;have⟨cs,c,_⟩:=hv;exact⟨cs,c⟩
theorem Reads.st{t:W'}{fs:Array Field}{α:Type}[bt α][cm α](g:P.underlying t=some (.struct fs))(i:P.cellsOf t=bt.size α)(D:bt.agg α=true)
 (h:∀{H:Type}{enc:W'×WP->H}{w:World}{base:Nat}{c:Nat->X'}{e:X'}{B:Nat}{cs:aX WP}{l:aX (DataW H×aX MemPlace)},cs.length=bt.size α->
  (fs.toList.mapM λf=>trod enc P w base c e B f.type ((cs.drop f.offset).take (P.cellsOf f.type)))=some l->∃a:α,fm (snap w) (cells a) cs/\cm.ok a/\∀b:DataW H->Nat,uk b->cm.wt a<=((l.map (·.1)).map b).sum+1):Reads P t α:=
 Reads.of g i D λB=>by cases B with|zero=>intro H enc w base c e cs d ps h;simp[trod]at h|succ f=>exact s8.st g i h
theorem Reads.arg{t:W'}{α:Type}[bt α][cm α][Reads P t α]{H:Type}{B:W'×WP->H}{w:World}{base:Nat}{c:Nat->X'}{e:X'}{r:_root_.Go.Reach}{b:Nat}{v:WP}{d:DataW H}{ps:aX MemPlace}
 (f:okWide P w r b t v)(h:Trod B P w base c e t v d ps):∃a:α,bH (snap w) (λ_=>none) (enc a) v/\cm.ok a/\∀b:DataW H->Nat,uk b->cm.wt a<=b d:=by
 have⟨I,h⟩:=h;have⟨a,⟨g,z⟩,D,G⟩:=Reads.rd (P:=P) (t:=t) (α:=α) h;have u:=Reads.shape (P:=P) (t:=t) (α:=α) f;refine⟨a,?_,D,G⟩
 cases C:bt.agg α with
 |true=>rw[C,if_pos rfl]at u;obtain⟨cs,rfl⟩:=u;rw[B9 C];refine .c _ _ (.agg _ _ (by simpa[Value.cells]using g) (λj x y J L=>z j x y J (by simpa[Value.cells]using L)))|false=>rw[C]at u;simp only[false_eq_true,if_false]at u;rw[u]at z;rw[wz C]at z;exact .c _ _ (z 0 _ _ rfl rfl)
end
end Go.VE
namespace Go.VE
variable[bT]
open Go.ChangeShapes Go.WideShapes Go.ChangeAt Go.RowKit
structure Ju(w w':World):Prop where
 kept:w.keptBut w' (λ_=>False)
 fz:∀a:Addr,a.block<w.heap.size->w'.frozen? a=w.frozen? a
theorem HR{I I':cG}{μ':Mu}{H':bk}{w w':World}(s:Step I (λ_=>none) [] w I' μ' H' w'):Ju w w':=by
 have B:∀b,b<w.heap.size->w'.heap[b]?=w.heap[b]?:=λb z=>s.frame b z (by rintro⟨id,p,ob,h,_⟩;simp at h);refine⟨⟨s.os,s.out.out,λi hi=>?_⟩,λa z=>?_⟩;rw[B i hi];split;next c u=>rw[c]at u;cases u;exact⟨rfl,rfl,rfl,λ_ _=>rfl⟩
 next c u=>rw[c]at u;cases u;exact .inr ⟨rfl,rfl⟩
 rfl;unfold World.frozen?;rw[B _ z]
theorem Ku{P:Program}{call:dP}(a:lK P call){f:Y'}{args:S'}{b:X'}{H':bk}(h:call (.fn f) args []=some (.bool b,H')){w:World}{vs:aX WP}
 (D:vE (snap w))(d:cR (snap w) (λ_=>none) args vs):Calls P f vs.toArray w λe w'=>e=.returned (.bool b)/\Ju w w':=by
 intro cs;have k:=((a.fn f args [] _ H' h).2 (snap w) (λ_=>none) w vs (S6 D) d)
 obtain⟨e,w',fr,⟨u,I',μ',rfl,g,_,C⟩,z,i,G⟩:=k.2 cs (by simp[Fence.room,fr])
 refine⟨_,w',fr,⟨?_,HR C⟩,z.comes,i,G⟩
 cases g with
 |c _ _ B=>cases B;rfl
variable{P:Program}{H:Type}{enc:W'×WP->H}
theorem HO{B:aX W'}{vs:aX WP}{ds:aX (DataW H)}{ps:aX MemPlace}{w w':World}(e:Ju w w')(h:TrodAll enc P w 0 (λ_=>true) true B vs ds ps):TrodAll enc P w' 0 (λ_=>true) true B vs ds ps:=by
 have z:∀p:MemPlace,p.block<w.heap.size->w.sameAt w' p:=by intro p C;have k:=e.kept.2.2 p.block C;cases p with|cell b off=>simp only[sameAt,cell?];simp only[MemPlace.block]at k C;split at k;rename_i c t fr c' G D a u;rw[a,u];simp only;have:=k.2.2.2 off (λx=>x);simpa using this;(next a u=>rw[a,u]);rw[k]|map b=>simp only[sameAt];simp only[MemPlace.block]at k C;split at k;rename_i c t fr c' G D a u;obtain⟨rfl,rfl,O,I⟩:=k;rw[a,u];have:c'=c:=Array.ext_getElem? λi=>I i (λx=>x);rw[this];rename_i a u;rcases k with k|⟨rfl,rfl⟩;exact k.elim;rw[a,u];exact k
 induction B generalizing vs ds ps with|nil=>cases vs<;>cases ds<;>simp_all [TrodAll]|cons t B J=>cases vs with|nil=>simp[TrodAll]at h|cons v vs=>cases ds with|nil=>simp[TrodAll]at h|cons d ds=>obtain⟨p,q,⟨n,a⟩,u,rfl⟩:=h;exact⟨p,q,⟨n,DataW.trod_carry n _ _ _ a λx L=>z x (DataW.trod_lt n _ _ _ a x L)⟩,J u,rfl⟩
theorem Pw{T:W'->Prop}(K:Kids P T)(m:∀t e,T t->P.underlying t=some (.slice e)->0<P.cellsOf e){f:Func}{s:ChangeSpec}{apart c a d:X'}{W G:World}{args:Array WP}{ds i:aX (DataW H)}{before:aX MemPlace}{tb:W'}
 (n:∀t∈f.params.toList,T t)(B:s.vars=[])(D:s.fn H (ds++i)={results:=[.lit (.bool true)],args:=ds})(J:f.resultTypes=#[tb])(U:P.underlying tb=some .bool)
 (Y:DataW.Whole enc P f.params.toList s.vars apart W args.toList ds i before)(g:Ju W G):s.post enc P f apart c a d W args (.bool true) G:=by
 have z:=Y;obtain⟨p,q,X,j,rfl,L,O⟩:=Y;rw[B]at j;obtain⟨rfl,rfl⟩:=trodVars_none j;have k:∀(b:Nat)(w:Nat->X')(hd:X'),TrodAll enc P G b w hd f.resultTypes.toList ((Value.bool true).resultList f.resultTypes.size) (s.fn H (ds++[])).results []:=λ_ _ _=>by rw[J,D];exact trodAll_cons_mk (shut_bool U _) trodAll_mk0
 have S:∀w:Nat->X',(∀x∈p++[],w x.block=true)->TrodAll enc P G 0 w true f.params.toList args.toList (s.fn H (ds++[])).args p:=λw Q=>by rw[D];exact TrodAll.respare K m n (HO g X) (λx u=>Q x (List.mem_append_left _ u))
 have l:∀w:Nat->X',DataW.TrodVars enc P G w s.vars (s.fn H (ds++[])).vars []:=λw=>by rw[D,B];rfl
 have C:=λx u=>z.lt x u
 refine⟨ds,[],p++[],[],p,[],z,k _ _ _,S _ λx u=>by simpa using C x u,l _,World.keptBut_mono (λx u=>u.elim) g.kept,λ_=>⟨ok_one J rfl (okWide_bool_mk U _),?_⟩⟩
 refine⟨_,_,[]++p++[],⟨[]++p,[],trodAll_append (S _ λ_ _=>rfl) (k _ _ _),l _,rfl,λb off u=>?_,λh=>by simpa using O h⟩,λx u _=>by simpa using u⟩
 have I:MemPlace.cell b off∈p++[]:=by simpa using u
 rw[g.fz _ (C _ I)];exact L b off I
end Go.VE
namespace Go.VE
variable[bT]
instance:cm U8 where
 wt _:=1
 ok n:=0<=n.v/\n.v<=255
theorem Reads.u8{P:Program}{t:W'}(a:P.underlying t=some (.int .u8))(c:P.cellsOf t=1):Reads P t U8 where
 size:=c
 rd {H enc w base spare held z cs d ps} h:=by cases z with|zero=>simp[trod]at h|succ z=>(simp only[trod,a]at h;split at h<;>first|(simp at h;done)|skip);(next u=>cases u);rename_i k D n u;simp only[ζa,TypeDesc.int.injEq]at u;split at h;(next e=>obtain⟨rfl,B⟩:=e;subst u;cases h;exact⟨⟨n⟩,fm.one (.int _ n),show _/\_ by simpa[Lit.wf,IntKind.min,IntKind.max,signed,IntKind.bits]using B,λb C=>C.lit _⟩);simp at h;all_goals (rename_i u;cases u)
 shape h:=by simp only[show bt.agg U8=false from rfl];exact rY a Zab Zab h
theorem NG{m:Tb bB}{n:Nat}{rs:ST}{b:X'}(h:di m n rs=some [.bool b]):rs=[.v (.bool b)]:=by
 cases rs with
 |nil=>cases n<;>simp[di]at h|cons x r=>
  have c:shut m n x=some (.bool b)/\di m n r=some []:=by unfold di at h;split at h;(next y s c w=>simp only[ζa,List.cons.injEq]at h;obtain⟨rfl,rfl⟩:=h;exact⟨c,w⟩);cases h
  have w:r=[]:=by cases r with|nil=>rfl|cons y r=>have:=c.2;unfold di at this;split at this<;>simp at this
  subst w;have u:=c.1
  cases x with
  |v y=>unfold shut at u;simp only[ζa]at u;rw[u]|own d=>unfold shut kg at u;(repeat' split at u)<;>cases u|ptr d o=>cases n with|zero=>simp[shut]at u|succ n=>(unfold shut at u;split at u<;>try cases u);(split at u<;>try cases u);split at u<;>cases u
  |mp d=>unfold shut at u;split at u<;>cases u|clo f a b=>cases n with|zero=>simp[shut]at u|succ n=>unfold shut at u;split at u<;>cases u
  |tup l=>cases n with|zero=>simp[shut]at u|succ n=>unfold shut at u;have⟨_,_,z⟩:=ζf.1 u;cases z
  |_=>cases n<;>simp[shut]at u
theorem R_{S:Sys}{T:qv}(B:sJ S T)(D:∀f a b xs,S.items f a b=some xs->eP S f a b xs){f:Y'}{xs:S'}(c:V.cQ xs=true)(h:kf (dm S T) f xs=some [.bool true]):
 ∃n H',run S.E n (.fn f) xs []=some (.bool true,H'):=by
 unfold kf at h;have⟨⟨rs,m⟩,d,u⟩:=ζg.1 h;have:=NG u;simp only at this;subst this;exact Wn B D c d rfl
theorem NH{S:Sys}{T:qv}{P:Program}(B:sJ S T)(D:∀f a b xs,S.items f a b=some xs->eP S f a b xs)(c:∀n,lK P (run S.E n)){f:Y'}{xs:S'}(d:V.cQ xs=true)(h:kf (dm S T) f xs=some [.bool true])
 {w:World}{args:Array WP}(G:vE (snap w))(g:cR (snap w) (λ_=>none) xs args.toList):Calls P f args w λe w'=>e=.returned (.bool true)/\Ju w w':=by
 have⟨n,H',i⟩:=R_ B D d h;have:=Ku (c n) i G g;simpa using this
theorem Reads.Om{P:Program}{t:W'}{α:Type}[bt α][cm α][Reads P t α]{H:Type}{B:W'×WP->H}{w:World}{base b:Nat}{c:Nat->X'}{e:X'}{v:WP}{d:DataW H}{ps:aX MemPlace}{params:Array W'}{args:Array WP}(D:∀(j:Nat)t v,params[j]?=some t->args[j]?=some v->okWide P w .any b t v)(j:Nat)(f:params[j]?=some t)(G:args[j]?=some v)(h:Trod B P w base c e t v d ps):∃a:α,bH (snap w) (λ_=>none) (enc a) v/\cm.ok a/\∀b:DataW H->Nat,uk b->cm.wt a<=b d:=Reads.arg (D j t v f G) h
end Go.VE
namespace Go.VE
theorem Tu{w:World}{g:Nat}{l:SW}(h:∀i,i<l.length->w.cell? ⟨g,i,none⟩=some (.int .i64 (l.getD i 0)))(D:0<l.length):eF (snap w) (.fptr (l.map (V.int .i64))) (.pointer (some ⟨g,0,none⟩)):=by
 have a:=h 0 D;unfold cell? at a;split at a;rename_i c t fr u;have G:snap w g=some (.cells c):=by unfold snap;simp only at u;rw[u]
 have d:∀i,w.cell? ⟨g,i,none⟩=c[i]?:=λi=>by unfold cell?;simp only at u⊢;rw[u];rfl
 refine .fptr _ _ _ c G ?_ ?_;rw[zero_add,length_map];have:=h (l.length-1) Zaa;rw[d]at this;have:=(Array.getElem?_eq_some_iff.1 this).1;omega;intro j y v B b;rw[zero_add,<-d]at b;rw[getElem?_map]at B;obtain⟨z,C,rfl⟩:=ζf.1 B;have I:=(ζe.1 C).1;rw[h j I]at b;cases b;have:l.getD j 0=z:=by simp[List.getD,C]
 rw[this];exact .int _ _;cases a
variable[bT]
theorem dZ(n:Nat)(h:n<9223372036854775807):wrap .i64 ((n:Int)+1)=((n+1:Nat):Int):=by simp[wrap,IntKind.bits,signed];omega
theorem gb(n:Int)(a:-9223372036854775808<=n)(B:n<=9223372036854775807):wrap .i64 n=n:=by simp[wrap,IntKind.bits,signed];omega
section
variable{α β:Type}{P:β->Prop}
theorem jN(s:Sl α)(i:Nat):idx s (i:Int)=s.l[i]?:=by unfold idx;rw[if_pos Zaa];rfl
theorem bL{s:Sl α}{i:Nat}(h:i<s.l.length):idx s (i:Int)=some s.l[i]:=by rw[jN,ζd h]
theorem Th{s:Sl α}{i:Int}(B:0<=i):idx s i=s.l[i.toNat]?:=by unfold idx;rw[if_pos B]
theorem vK(s:Sl α)(i:Nat)(h:i<=s.l.length):∃x,iP s none (some (i:Int))=some x/\x.l=s.l.take i:=by unfold iP ec;simp only[Option.getD_none,getD_some];rw[if_pos Zaa];cases s<;>simp[Sl.l]at h⊢ <;>simp[h]
theorem br{γ:Type}{a b:γ}:bl true a b=a:=rfl
theorem bu{γ:Type}{a b:γ}:bl false a b=b:=rfl
theorem tj(a b:X'):bl a (some b) (some false)=some (a&&b):=by cases a<;>rfl
theorem I_(a b:X'):bl a (some true) (some b)=some (a||b):=by cases a<;>rfl
theorem Q8(a:X')(x y:β):bl a (some x) (some y)=some (if a then x else y):=by cases a<;>rfl
end
def place{α:Type}(f:α->X')(l:aX α):Int:=match l.findIdx? f with
 |some i=>i|none=>-1
theorem By{α:Type}{f:α->X'}{l:aX α}{i:Nat}(h:∀j,j<i->∀x,l[j]?=some x->f x=false)(hi:l.length<=i):l.findIdx? f=none:=by rw[List.findIdx?_eq_none_iff];intro x w;have⟨j,u⟩:=getElem?_of_mem w;have:j<l.length:=(ζe.1 u).1;exact h j Zaa x u
theorem CS{α:Type}{f:α->X'}{l:aX α}{i:Nat}{x:α}(h:∀j,j<i->∀x,l[j]?=some x->f x=false)(B:l[i]?=some x)(D:f x=true):l.findIdx? f=some i:=by rw[List.findIdx?_eq_some_iff_getElem];obtain⟨hi,rfl⟩:=ζe.1 B;exact⟨hi,D,λj u=>by rw[h j u _ (ζd Zaa)];simp⟩
theorem qG{α:Type}{step:Int->aY (Fw Int Unit Int)}{s:Sl α}{p:α->aY X'}{f:α->X'}(hp:∀x∈s.l,p x=some (f x))(T:s.l.length<9223372036854775807)
 (J:∀i,step i=bl (decide (i<len s)) ((idx s i).bind λB=>(p B).bind λD=>bl D (some (.r i)) (some (.n (wrap .i64 (i+1))))) (some (.x ()))):
 (cD step 0).bind (Fw.elim (λ_=>some (-1)) (λe=>some e))=some (place f s.l):=by
 refine Wp.eq (lW (λi:Int=>∃n:Nat,i=n/\n<=s.l.length/\∀j,j<n->∀x,s.l[j]?=some x->f x=false) (λi:Int=>s.l.length-i.toNat) ⟨0,rfl,zero_le _,λj I=>absurd I Zaa⟩ ?_)
 rintro i ⟨n,rfl,L,w⟩;rw[J,dO];refine⟨λh=>?_,λh=>?_⟩
 .have u:n<s.l.length:=by simpa[len]using h
  rw[bL u,ζb,hp _ (getElem_mem u),ζb,dO];refine⟨λz=>?_,λz=>?_⟩
  .rw[bf];show Wp (some (n:Int)) _;rw[bf];unfold place;rw[CS w (ζd u) z]
  rw[bf];refine⟨⟨n+1,dZ n Zaa,Zaa,λj I x C=>?_⟩,?_⟩
  .by_cases e:j=n
   .subst e;rw[ζd u]at C;cases C;exact z
   exact w j Zaa x C
  rw[dZ n Zaa];simp;omega
 have G:s.l.length<=n:=by simpa[len]using h
 rw[bf];show Wp (some (-1:Int)) _;rw[bf];unfold place;rw[By w G]
theorem tC{α:Type}(f:α->X')(l:aX α):decide (place f l>=0)=l.any f:=by unfold place;cases h:l.findIdx? f with|none=>rw[List.findIdx?_eq_none_iff]at h;have:l.any f=false:=(by rw[List.any_eq_false];intro x u;simp[h x u]);rw[this];rfl|some i=>have⟨hi,w,_⟩:=List.findIdx?_eq_some_iff_getElem.1 h;have:l.any f=true:=List.any_eq_true.2 ⟨_,getElem_mem hi,w⟩;rw[this];simp
theorem Ru{α σ ε ρ:Type}{step:α->σ->aY (Fw σ ε ρ)}{l:aX α}(I:Nat->σ->Prop)(D:ε->Prop)(G:ρ->Prop){s:σ}(J:I 0 s)
 (h:∀i a s,l[i]?=some a->I i s->Wp (step a s) λw=>match w with|.n B=>I (i+1) B|.x e=>D e|.r b=>G b):
 Wp (kY step l s) λw=>match w with|.n B=>I l.length B|.x e=>D e|.r b=>G b:=by
 have key:∀(r:aX α)(i:Nat)(s:σ),l.drop i=r->i<=l.length->I i s->Wp (kY step r s) λw=>match w with|.n B=>I l.length B|.x e=>D e|.r b=>G b:=by intro r;induction r with|nil=>intro i s hd hi z;have:i=l.length:=(by have:=List.drop_eq_nil_iff.1 hd;omega);subst this;exact⟨_,rfl,z⟩|cons a r L=>intro i s hd hi z;have u:i<l.length:=(by apply Classical.byContradiction;intro S;rw[List.drop_eq_nil_of_le Zaa]at hd;cases hd);have O:=List.drop_eq_getElem_cons u;rw[O]at hd;simp only[List.cons.injEq]at hd;have⟨w,Q,C⟩:=h i a s (by rw[ζd u,hd.1]) z;simp only[kY,Q,ζb];cases w with|n B=>exact L (i+1) B hd.2 Zaa C|x e=>exact⟨_,rfl,C⟩|r b=>exact⟨_,rfl,C⟩
 exact key l 0 s rfl (zero_le _) J
theorem zc{α σ ε ρ γ:Type}{step:α->σ->aY (Fw σ ε ρ)}{l:aX α}{fn:σ->aY γ}{B:ε->aY γ}{fr:ρ->aY γ}{P:γ->Prop}(I:Nat->σ->Prop){s:σ}(D:I 0 s)
 (h:∀i a s,l[i]?=some a->I i s->Wp (step a s) λw=>match w with|.n G=>I (i+1) G|.x e=>Wp (B e) P|.r b=>Wp (fr b) P)
 (J:∀s,I l.length s->Wp (fn s) P):Wp ((kY step l s).bind (Fw.rO fn B fr)) P:=by
 rw[fA];refine(Ru I _ _ D h).mono ?_;intro w u
 cases w with
 |n s=>exact J s u|x e=>exact u|r b=>exact u
end Go.VE
