/- Certificates, library. -/
import Derived.JoinedCond
import Derived.ReadAgain
import Derived.WalkKit
import Derived.ProofKit
import Derived.OpenShut
import Derived.ChangeSame
import Derived.RowKit3
import Derived.Lib.LaidTab
import Derived.Test.YtgaepcmcohmibaaGreatDoorV2
import Derived.Test.YtgaepcmcohmibaaGreatDoorN2
import Derived.Test.YtgaepcmcohmibaaGreatDoorS1
set_option linter.all false
noncomputable section
open Nat(beq ble le_refl zero_add zero_le)
open Option(getD_some map_some pure_def)
open List(all_cons all_eq_true append_assoc append_nil getElem?_append_left getElem?_append_right getElem?_drop getElem?_map getElem?_of_mem getElem?_set_ne getElem?_set_self getElem?_take getElem_mem length_cons length_map length_range length_singleton map_cons map_nil map_set mem_append mem_map mem_of_getElem? mem_range nil_append range range' replicate set_set take_of_length_le)
open Classical(choose_spec)
open Bool(false_eq_true)
open Go.IntKind(signed wrap)
open Go.DataW(Trod TrodAll trod)
open Go.Value(okWide)
open Go.World(cell? sameAt)
namespace Go.VE
variable[bL]
abbrev Cf:=Fo×aX Fm×St
section
variable(S:Sys)(c:bU){β:Type}(Q:Out×St->aY β)
abbrev b8(cf:Cf):aY β:=rn S c Q cf.1 cf.2.1 cf.2.2
def iZ(n:Nat)(cf:Cf):Cf:=(fV S c n cf.1 cf.2.1 cf.2.2).getD cf
structure Dm where
 dr:Bool
 fr:List Nat
 d:Option Nat
 gd:Option (Nat×Bool)
 now:Bool
 k:K
 az:List Arg
 dd:List Nat
 l:List RO
 fs:List Fm
 st:St
def gM(n:Nat)(cf:Cf):aY Dm:=match fV S c n cf.1 cf.2.1 cf.2.2 with
 |some (.ops dr fr (⟨d,gd,now,k,az,dd,[]⟩::l),fs,st)=>match wanted st.g gd with
  |some true=>some ⟨dr,fr,d,gd,now,k,az,dd,l,fs,st⟩|_=>none
 |_=>none
def nx(n:Nat)(cf:Cf)(φ:Dm->St):Cf:=match gM S c n cf with
 |some p=>(.ops p.dr (if p.dr then(match p.k with|.p _|.r _=>p.fr|_=>match p.d with|some d=>d::p.fr|none=>p.fr)else p.fr) p.l,p.fs,nZ p.dd (φ p))|none=>cf
end
def tU(s:Nat)(b:Zl)(cf:Cf):Cf:=(cf.1,cf.2.1,{cf.2.2 with g:=bu cf.2.2.g s (.v (.bool b))})
def jmp(k:Nat)(fr:Zv)(cf:Cf)(st:St):Cf:=match cf with
 |(.ops dr _ l,fs,_)=>(.ops dr fr (l.drop k),fs,st)|_=>(.rt,[],st)
def tM:RC->Zv->Z3->St->Cf
 |c,[],fs,st=>(.rc c,fs,st)|.seq a b,i::p,fs,st=>if i=0 then tM a p (.seq b::fs) st else tM b p fs st|.cond _ a b,i::p,fs,st=>if i=0 then tM a p fs st else tM b p fs st|.block id c,_::p,fs,st=>tM c p (.blk id::fs) st|.gh _ c,_::p,fs,st=>tM c p fs st|.hg c g,_::p,fs,st=>tM c p (.gst g::fs) st|.loop c,_::p,_,st=>tM c p [] st|.each _ _ _ b,_::p,_,st=>tM b p [] st|c,_,fs,st=>(.rc c,fs,st)
section
variable{S:Sys}{c:bU}{β γ δ α:Type}{Q:Out×St->aY β}{e:γ->aY β}{cf:Cf}
theorem jq{n:Nat}{p:Dm}(h:gM S c n cf=some p):fV S c n cf.1 cf.2.1 cf.2.2=some (.ops p.dr p.fr (⟨p.d,p.gd,p.now,p.k,p.az,p.dd,[]⟩::p.l),p.fs,p.st)/\wanted p.st.g p.gd=some true:=by unfold gM at h;grind
theorem uz{n:Nat}{m:aY δ}{φ:δ->Dm->St}{f:δ->aY γ}{p:Dm}(B:gM S c n cf=some p)(D:Le (m.bind λx=>some (φ x p)) (fc S c p.dr p.fr ⟨p.d,none,p.now,p.k,p.az,[],[]⟩ p.st))
 (h:∀x,m=some x->Le ((f x).bind e) (b8 S c Q (nx S c n cf (φ x)))):Le ((m.bind f).bind e) (b8 S c Q cf):=by
 have⟨a,u⟩:=jq B;refine CO a rfl u D λx w=>?_
 have:=h x w;simp[nx,B]at this;omega
theorem uF{n:Nat}{m:aY β}{φ:Dm->St}{p:Dm}(B:gM S c n cf=some p)(D:fc S c p.dr p.fr ⟨p.d,none,p.now,p.k,p.az,[],[]⟩ p.st=some (φ p))
 (h:Le m (b8 S c Q (nx S c n cf φ))):Le m (b8 S c Q cf):=by
 have⟨a,u⟩:=jq B;refine p9 a rfl u D ?_;simp[nx,B]at h;omega
theorem fC{α β:Type}{o:aY α}{f:α->β}{b:β}(h:o.map f=some b):∃a,o=some a/\f a=b:=ζf.1 h
theorem C3(n:Nat){m:aY β}{B:Cf}(h:Le m (b8 S c Q B))(D:fV S c n cf.1 cf.2.1 cf.2.2=some B:=by kernel_rfl):Le m (b8 S c Q cf):=Ae D h
theorem bt(n s:Nat){t:Zl}{x y:aY γ}(B:Le (x.bind e) (b8 S c Q (tU s true (iZ S c n cf))))(D:Le (y.bind e) (b8 S c Q (tU s false (iZ S c n cf))))
 (G:(fV S c n cf.1 cf.2.1 cf.2.2).map (λp=>bg p.2.2.g s)=some (some (.v (.bool t))):=by kernel_rfl):Le ((bl t x y).bind e) (b8 S c Q cf):=by
 have⟨p,u,a⟩:=fC G;have b:iZ S c n cf=p:=by unfold iZ;grind
 rw[b]at B D;refine Ae u ?_;cases t
 .have:tU s false p=p:=by unfold tU;rw[qV a]
  rw[this]at D;exact D
 have:tU s true p=p:=by unfold tU;rw[qV a]
 rw[this]at B;exact B
theorem dA(n s:Nat){t:Zl}{x y:aY γ}(B:Le (x.bind e) (b8 S c Q (tU s false (iZ S c n cf))))(D:Le (y.bind e) (b8 S c Q (tU s true (iZ S c n cf))))
 (G:(fV S c n cf.1 cf.2.1 cf.2.2).map (λp=>bg p.2.2.g s)=some (some (.v (.bool (!t)))):=by kernel_rfl):Le ((bl t x y).bind e) (b8 S c Q cf):=by
 have⟨p,u,a⟩:=fC G;have b:iZ S c n cf=p:=by unfold iZ;grind
 rw[b]at B D;refine Ae u ?_;cases t
 .have:tU s true p=p:=by unfold tU;rw[show V.bool true=V.bool (!false)from rfl,qV a]
  rw[this]at D;exact D
 have:tU s false p=p:=by unfold tU;rw[show V.bool false=V.bool (!true)from rfl,qV a]
 rw[this]at B;exact B
theorem Pu(n k:Nat)(fr:Zv)(st:δ->St){m:aY δ}{f:δ->aY γ}(B:Le (m.bind λr=>b8 S c Q (jmp k fr (iZ S c n cf) (st r))) (b8 S c Q cf))(a:∀r,Le ((f r).bind e) (b8 S c Q (jmp k fr (iZ S c n cf) (st r)))):Le ((m.bind f).bind e) (b8 S c Q cf):=Pc _ B a
theorem bz(n:Nat){r:δ}{k:δ->Cf}(B:fV S c n cf.1 cf.2.1 cf.2.2=some (k r):=by kernel_rfl):Le ((some r).bind λr=>b8 S c Q (k r)) (b8 S c Q cf):=Vb B rfl
theorem bf{r:γ}{L:aY β}(h:L=e r:=by kernel_rfl):Le ((some r).bind e) L:=Le.of_eq h
theorem A9(n:Nat){b:RC}{m:aY (Out×Tb bq)}(h:Le m (b8 S c uB (.rc b,[],(iZ S c n cf).2.2)))(B:fV S c n cf.1 cf.2.1 cf.2.2=some (.nx,[],(iZ S c n cf).2.2):=by kernel_rfl):Le m (b8 S c (wG S c b) cf):=Ta B h
theorem Oo(n:Nat){o:aY α}(A:aY α->St){f:α->aY γ}(B:∀x,o=some x->Le ((f x).bind e) (b8 S c Q ((iZ S c n cf).1,(iZ S c n cf).2.1,A (some x))))
 (D:fV S c n cf.1 cf.2.1 cf.2.2=some ((iZ S c n cf).1,(iZ S c n cf).2.1,A o):=by kernel_rfl):Le ((o.bind f).bind e) (b8 S c Q cf):=TM D B
theorem kN.U5{S:Sys}{T:pI}[bp δ]{f:Zk}{A:α->Zu}{p:α->aY δ}(B:T f=none)(a:S.E.keep f=false)(D:∀z r,p z=some r->S.xE f (A z)=some (enc r))
 :kN S (cT S T) f A (λr=>[enc r]) p false where
 k:=a
 h z:=by intro y u;have⟨r,b,w⟩:=ζg.1 u;cases w;have h:=D5 B a (D z r b);unfold mA;rw[h];exact uU 8 [enc r]
 s h:=by cases h
def Nq:K->aY BinOp
 |.p (.bin (some .slice) _ o)=>some o|_=>none
theorem QM{k:K}{o:BinOp}(h:Nq k=some o):∃u,k=.p (.bin (some .slice) u o):=by unfold Nq at h;grind
def S4:K->aY (Nat×Nat×Zv)
 |.a (.buildSl sz ln _ ix)=>some (sz,ln,ix)|_=>none
theorem Tj{k:K}{r:Nat×Nat×Zv}(h:S4 k=some r):∃z,k=.a (.buildSl r.1 r.2.1 z r.2.2):=by unfold S4 at h;grind
def SG:K->aY Zu
 |.a (.alloc _ zero)=>some zero|_=>none
theorem RU{k:K}{z:Zu}(h:SG k=some z):∃n,k=.a (.alloc n z):=by unfold SG at h;grind
section
variable[bp α]
theorem TZ(k:Zs)(n:Nat){s:Sl α}{i:Int}{f:α->aY γ}(h:∀x,idx s i=some x->Le ((f x).bind e) (b8 S c Q (nx S c n cf λp=>cZ p.st p.d (cp x))))
 (B:(gM S c n cf).map (λp=>(p.k,bV S.N p.st.g p.az))=some (.p (.idxS (bp.size α)),some [.v (cg s),.v (.int k i)]):=by kernel_rfl):Le (((idx s i).bind f).bind e) (b8 S c Q cf):=by
 have⟨p,u,a⟩:=fC B;simp at a;refine uz u ?_ h;rw[a.1];exact Le.of_eq (Pa a.2 rfl)
theorem bR(n:Nat){s:Sl α}{i:Int}{f:α->aY γ}(h:∀x,idx s i=some x->Le ((f x).bind e) (b8 S c Q (nx S c n cf λp=>cZ p.st p.d (cp x))))
 (B:(gM S c n cf).map (λp=>(p.k,bV S.N p.st.g p.az))=some (.p (.idxS (bp.size α)),some [.v (cg s),.v (.int .i64 i)]):=by kernel_rfl):Le (((idx s i).bind f).bind e) (b8 S c Q cf):=TZ .i64 n h B
theorem jE(k:Zs)(n u:Nat){s:Sl α}{i:Int}{f:Nat->aY γ}(h:∀x,s.iB i=some x->Le ((f x).bind e) (b8 S c Q (nx S c n cf λp=>cZ p.st p.d (.el u x 0))))
 (B:(gM S c n cf).map (λp=>(p.k,bV S.N p.st.g p.az,bg p.st.m u))=some (.p (.idxS (bp.size α)),some [.own u,.v (.int k i)],some (ct s)):=by kernel_rfl):Le (((s.iB i).bind f).bind e) (b8 S c Q cf):=by
 have⟨p,w,a⟩:=fC B;simp at a;refine uz w ?_ h;rw[a.1];exact Le.of_eq (Ua a.2.1 a.2.2 rfl)
theorem pL(n u o b:Nat)(a:Zl)(v:α->V){s:Sl α}{i:Nat}{f:α->aY γ}(h:∀x,s.get i=some x->Le ((f x).bind e) (b8 S c Q (nx S c n cf λp=>cZ p.st p.d (.v (v x)))))
 (B:(gM S c n cf).map (λp=>(p.k,bV S.N p.st.g p.az,bg p.st.m u,(!p.dr||p.now||eD p.fr [.el u i o])))=some (.r (.load b a),some [.el u i o],some (ct s),true):=by kernel_rfl)(d:∀x:α,(cut (cells x) o b).bind (mk a)=some (v x):=by intro _;rfl):Le (((s.get i).bind f).bind e) (b8 S c Q cf):=by
 have⟨p,z,w⟩:=fC B;simp only[ζc]at w;refine uz z ?_ h;rw[w.1];exact Le.of_eq (SJ w.2.1 w.2.2.2 w.2.2.1 d)
theorem tN(n u:Nat)(x:V){s:Sl α}{i:Nat}{a:α}{f:Sl α->aY γ}(h:∀B,s.put i a=some B->Le ((f B).bind e) (b8 S c Q (nx S c n cf λp=>cZ {p.st with m:=bu p.st.m u (ct B)} p.d (.v .undef))))
 (D:(gM S c n cf).map (λp=>(p.k,bV S.N p.st.g p.az,bg p.st.m u,(!p.dr||p.now),x.cells))=some (.l (.store (bp.size α)),some [.el u i 0,.v x],some (ct s),true,cells a):=by kernel_rfl):Le (((s.put i a).bind f).bind e) (b8 S c Q cf):=by
 have⟨p,w,b⟩:=fC D;simp only[ζc]at b;refine uz w ?_ h;rw[b.1];exact Le.of_eq (Qn b.2.1 b.2.2.2.1 b.2.2.1 b.2.2.2.2 rfl)
theorem yO(n u:Nat){i:Int}{z:α}{f:Sl α->aY γ}(h:∀B,jT i z=some B->Le ((f B).bind e) (b8 S c Q (nx S c n cf λp=>{p.st with g:=bu p.st.g u (.own u),m:=bu p.st.m u (ct B)})))
 (D:(gM S c n cf).map (λp=>(p.d,p.k,bV S.N p.st.g p.az,p.st.new u))=some (some u,.a (.makeSl (bp.size α) (cells z)),some [.v (.int .i64 i),.v (.int .i64 i)],true):=by kernel_rfl):Le (((jT i z).bind f).bind e) (b8 S c Q cf):=by
 have⟨p,w,a⟩:=fC D;simp at a;refine uz w ?_ h;rw[a.1,a.2.1];exact Le.of_eq (SQ a.2.2.1 rfl rfl a.2.2.2)
theorem oB(n o w u:Nat){s:Sl α}{x:α}{f:Sl α->aY γ}(h:∀B,eW s x=some B->Le ((f B).bind e) (b8 S c Q (nx S c n cf λp=>{p.st with g:=bu p.st.g u (.own u),m:=bu (cR o p.st.m) u (ct B)})))
 (D:(gM S c n cf).map (λp=>(p.d,p.k,bV S.N p.st.g p.az,(!p.dr||p.now),bg p.st.m o,bg p.st.m w,St.new {p.st with m:=cR o p.st.m} u))=some (some u,.l (.append (bp.size α)),some [.own o,.own w],true,some (ct s),some (ct (.row [x])),true):=by kernel_rfl):Le (((eW s x).bind f).bind e) (b8 S c Q cf):=by
 have⟨p,z,a⟩:=fC D;simp only[ζc]at a;refine uz z ?_ h;rw[a.1,a.2.1];exact Le.of_eq (TP a.2.2.1 a.2.2.2.1 a.2.2.2.2.1 a.2.2.2.2.2.1 rfl a.2.2.2.2.2.2)
theorem Pd(n w u:Nat)(v:V)(x:α){m:aY β}(h:Le m (b8 S c Q (nx S c n cf λp=>{p.st with g:=bu p.st.g u (.own u),m:=bu p.st.m u (ct (.row [x]))})))(a:v=.bD\/v=.c7:=by first|exact .inl rfl|exact .inr rfl)
 (B:(gM S c n cf).map (λp=>(p.d,p.k,bV S.N p.st.g p.az,(!p.dr||p.now),bg p.st.m w,p.st.new u))=some (some u,.l (.append (bp.size α)),some [.v v,.own w],true,some (ct (.row [x])),true):=by kernel_rfl):Le m (b8 S c Q cf):=by
 have⟨p,C,z⟩:=fC B;simp only[ζc]at z;refine uF C ?_ h;rw[z.1,z.2.1];exact Sv a z.2.2.1 z.2.2.2.1 z.2.2.2.2.1 rfl z.2.2.2.2.2
theorem bK(n:Nat)(s:Sl α){m:aY β}(h:Le m (b8 S c Q (nx S c n cf λp=>cZ p.st p.d (.v (.int .i64 s.l.length)))))
 (B:(gM S c n cf).map (λp=>(p.k,bV S.N p.st.g p.az))=some (.p .lenSl,some [.v (cg s)]):=by kernel_rfl):Le m (b8 S c Q cf):=by
 have⟨p,u,a⟩:=fC B;simp at a;refine uF u ?_ h;rw[a.1];exact O3 a.2
theorem zC(n u:Nat)(s:Sl α){m:aY β}(h:Le m (b8 S c Q (nx S c n cf λp=>cZ p.st p.d (.v (.int .i64 s.l.length)))))
 (B:(gM S c n cf).map (λp=>(p.k,bV S.N p.st.g p.az,bg p.st.m u))=some (.p .lenSl,some [.own u],some (ct s)):=by kernel_rfl):Le m (b8 S c Q cf):=by
 have⟨p,w,a⟩:=fC B;simp at a;refine uF w ?_ h;rw[a.1];exact Te a.2.1 a.2.2
theorem UQ(n:Nat){s:Sl α}{f:Zl->aY γ}(h:∀t,s.isNil=some t->Le ((f t).bind e) (b8 S c Q (nx S c n cf λp=>cZ p.st p.d (.v (.bool t)))))
 (B:(gM S c n cf).map (λp=>(Nq p.k,bV S.N p.st.g p.az))=some (some .eql,some [.v (cg s),.v .bD]):=by kernel_rfl):Le ((s.isNil.bind f).bind e) (b8 S c Q cf):=by
 have⟨p,w,a⟩:=fC B;simp at a;have⟨u,b⟩:=QM a.1;refine uz w ?_ h;rw[b];exact Le.of_eq (Q2 a.2)
theorem Co(n:Nat)(B D:Zl)(G:Zu){s:Sl α}{a b:Z6}{f:Sl α->aY γ}(h:∀x,ga s a b=some x->Le ((f x).bind e) (b8 S c Q (nx S c n cf λp=>cZ p.st p.d (.v (cg x)))))
 (J:(gM S c n cf).map (λp=>(p.k,bV S.N p.st.g p.az,lH B D G))=some (.p (.slice (bp.size α) B D),some (.v (cg s)::G.map .v),some (a,b)):=by kernel_rfl):Le (((ga s a b).bind f).bind e) (b8 S c Q cf):=by
 have⟨p,u,g⟩:=fC J;simp at g;have⟨i,C⟩:=jq u;have⟨dr,fr,d,gd,now,k,az,dd,l,fs,st⟩:=p;obtain⟨rfl,I,L⟩:=g;exact UT n dr fr (⟨d,gd,now,.p (.slice (bp.size α) B D),az,dd,[]⟩::l) fs st B D G rfl Zd λw z=>by have:=h w z;simp only[nx,u]at this;omega
theorem Pp(n:Nat)(B D:Zl)(u t:Nat)(G:Zu){s:Sl α}{a b:Z6}{f:Sl α->aY γ}(h:∀x,ku s a b=some x->Le ((f x).bind e) (b8 S c Q (nx S c n cf λp=>{p.st with g:=bu p.st.g t (.own t),m:=bu (cR u p.st.m) t (ct x)})))
 (J:(gM S c n cf).map (λp=>(p.d,p.k,p.dr,bV S.N p.st.g p.az,lH B D G,bg p.st.m u,St.new {p.st with m:=cR u p.st.m} t))=some (some t,.p (.slice (bp.size α) B D),false,some (.own u::G.map .v),some (a,b),some (ct s),true):=by kernel_rfl):Le (((ku s a b).bind f).bind e) (b8 S c Q cf):=by
 have⟨p,w,i⟩:=fC J;simp at i;have⟨j,L⟩:=jq w;have⟨dr,fr,d,gd,now,k,az,dd,l,fs,st⟩:=p;obtain⟨rfl,rfl,rfl,O,T,U,z⟩:=i;exact Ub n fr (⟨some t,gd,now,.p (.slice (bp.size α) B D),az,dd,[]⟩::l) fs st B D u G rfl z Zd λC I=>by have:=h C I;simp only[nx,w]at this;omega
theorem dB(n u:Nat)(x:α){m:aY β}(h:Le m (b8 S c Q (nx S c n cf λp=>{p.st with g:=bu p.st.g u (.ptr u 0),m:=bu p.st.m u (bx x)})))
 (B:(gM S c n cf).map (λp=>(p.d,p.k,bV S.N p.st.g p.az,p.st.new u))=some (some u,.a .box,some [cv x],true):=by kernel_rfl):Le m (b8 S c Q cf):=by
 have⟨p,w,a⟩:=fC B;simp at a;refine uF w ?_ h;rw[a.1,a.2.1,zf,a.2.2.1];simp only[ζb,a.2.2.2,if_true,mU,ow,sH]
def UK(u o a:Nat)(xs:Zw)(p:Dm):St:=match bg p.st.m u with
 |some (.box w)=>cZ {p.st with m:=bu p.st.m u (.box (w.take o++xs++w.drop (o+a)))} p.d (.v .undef)|_=>p.st
theorem oC(n u o:Nat)(x:α){m:aY β}(h:Le m (b8 S c Q (nx S c n cf (UK u o (bp.size α) ((cells x).map .v)))))
 (B:(gM S c n cf).map (λp=>(p.k,bV S.N p.st.g p.az,(!p.dr||p.now),match bg p.st.m u with|some (.box cs)=>ble (o+bp.size α) cs.length|_=>false))=some (.l (.store (bp.size α)),some [.ptr u o,cv x],true,true):=by kernel_rfl):Le m (b8 S c Q cf):=by
 have⟨p,C,a⟩:=fC B;simp only[ζc]at a;refine uF C ?_ h;have⟨b,D,G,z⟩:=a;split at z
 next cs w=>have I:=Nat.le_of_ble_eq_true z;rw[b,sP,D];simp only[ζb,G,if_true,jG,w,putCells,ow,gG,sH,I,and_self,map_some,UK]
 simp_all
theorem zI(n u:Nat)(xs:aX α){m:aY β}(h:Le m (b8 S c Q (nx S c n cf λp=>{p.st with g:=bu p.st.g u (.own u),m:=bu p.st.m u (ct (.row xs))})))
 (B:(gM S c n cf).map (λp=>(p.d,S4 p.k,bV S.N p.st.g p.az,p.st.new u))=some (some u,some (bp.size α,xs.length,range' 0 xs.length),some ((xs.map enc).map .v),true):=by kernel_rfl):Le m (b8 S c Q cf):=by
 have⟨p,w,a⟩:=fC B;simp at a;have⟨b,G⟩:=jq w;have⟨dr,fr,d,gd,now,k,az,dd,l,fs,st⟩:=p;obtain⟨rfl,C,I,D⟩:=a;obtain⟨z,rfl⟩:=Tj C;exact Vo n dr fr (⟨some u,gd,now,.a (.buildSl (bp.size α) xs.length z (range' 0 xs.length)),az,dd,[]⟩::l) fs st xs rfl D Zd (by
  simp[nx,w]at h;omega)
theorem U9(n:Nat)(x:α)(vs z:Zu)(pl:aX (Nat×Nat)){m:aY β}(B:jO z pl vs=some (cells x))(D:bp.agg α=true)(h:Le m (b8 S c Q (nx S c n cf λp=>cZ p.st p.d (cv x))))
 (G:(gM S c n cf).map (λp=>(p.k,bV S.N p.st.g p.az))=some (.p (.build z pl),some (vs.map .v)):=by kernel_rfl):Le m (b8 S c Q cf):=by
 have⟨p,u,a⟩:=fC G;simp at a;have⟨b,w⟩:=jq u;have⟨dr,fr,d,gd,now,k,az,dd,l,fs,st⟩:=p;obtain⟨rfl,C⟩:=a;exact UY n dr fr (⟨d,gd,now,.p (.build z pl),az,dd,[]⟩::l) fs st x vs rfl B D Zd (by
  simp only[nx,u]at h;omega)
end
theorem xB(n:Nat)(k:Zs){a:Zq}{b:Int}{f:Int->aY γ}(h:∀x,j8 a b=some x->Le ((f x).bind e) (b8 S c Q (nx S c n cf λp=>cZ p.st p.d (.v (.int .u8 x)))))
 (B:(gM S c n cf).map (λp=>(p.k,bV S.N p.st.g p.az))=some (.p .idxStr,some [.v (.str a),.v (.int k b)]):=by kernel_rfl):Le (((j8 a b).bind f).bind e) (b8 S c Q cf):=by
 have⟨p,u,d⟩:=fC B;simp at d;refine uz u ?_ h;rw[d.1];exact Le.of_eq (N7 d.2)
section
variable{A:α->Zu}{E:δ->Zu}{pl:α->aY δ}{fn:Zk}{sc:Zl}
theorem wV(n:Nat)(F:kN S c fn A E pl sc)(z:α){f:δ->aY γ}(h:∀x,pl z=some x->Le ((f x).bind e) (b8 S c Q (nx S c n cf λp=>cZ p.st p.d (.v (result (E x))))))
 (B:(gM S c n cf).map (λp=>(p.k,(bV S.N p.st.g p.az).bind pn,(!p.dr||p.now||gA p.st.m p.fr [])))=some (.c,some (fn,(A z).map .v),true):=by kernel_rfl):Le (((pl z).bind f).bind e) (b8 S c Q cf):=by
 have⟨p,C,b⟩:=fC B;simp at b;have⟨D,G,O⟩:=b;have⟨I,g1,g2⟩:=ζg.1 G;have u:∀d(w:Zu),SV.c_ d (w.map .v)=false:=λd w=>by induction w with|nil=>rfl|cons a l J=>simp[SV.c_,SV.cu,J]
 have L:(!p.dr||p.now||gA p.st.m p.fr ((A z).map .v))=true:=by have:gA p.st.m p.fr ((A z).map .v)=gA p.st.m p.fr []:=(by unfold gA;simp[u];rfl);grind
 refine uz C ?_ h;rw[D];exact GJ (F.h z) F.k g1 g2 (E3 _ _ _) L (λr=>by rw[rU];simp)
theorem SF(n:Nat)(F:kN S c fn A E pl true)(z:α){f:δ->aY γ}(h:∀x,pl z=some x->Le ((f x).bind e) (b8 S c Q (nx S c n cf λp=>cZ p.st p.d (.v (result (E x))))))
 (B:(gM S c n cf).map (λp=>(p.k,((bV S.N p.st.g p.az).bind pn).bind λq=>(nu (iK p.st.m 8) q.2).map λvs=>(q.1,vs,((!p.dr||p.now)||gA p.st.m p.fr q.2))))=some (.c,some (fn,A z,true)):=by kernel_rfl):Le (((pl z).bind f).bind e) (b8 S c Q cf):=by
 have⟨p,u,a⟩:=fC B;simp at a;have⟨w,C⟩:=a;have⟨q,g1,g2⟩:=ζg.1 C;have⟨D,g3,g4⟩:=ζg.1 g1;have⟨vs,g5,g6⟩:=ζf.1 g2;simp only[ζc]at g6;obtain⟨e1,rfl,e3⟩:=g6;refine uz u ?_ h;rw[w];exact GJ (F.h z) F.k g3 Zd g5 e3 (λr=>by rw[F.s rfl];rfl)
end
section
variable{N:Nat}[bp α]
theorem O8(n:Nat)(k:Zs){a:cm N α}{i:Int}{f:α->aY γ}(h:∀x,a.at i=some x->Le ((f x).bind e) (b8 S c Q (nx S c n cf λp=>cZ p.st p.d (.v (.fptr (pa a i))))))
 (B:(gM S c n cf).map (λp=>(p.k,bV S.N p.st.g p.az))=some (.p (.idxA N (bp.size α)),some [cp a,.v (.int k i)]):=by kernel_rfl):Le (((a.at i).bind f).bind e) (b8 S c Q cf):=by
 have⟨p,u,b⟩:=fC B;simp at b;have⟨g,z⟩:=jq u;have⟨dr,fr,d,gd,now,C,az,dd,l,fs,st⟩:=p;obtain⟨rfl,D⟩:=b;exact Ue n dr fr (⟨d,gd,now,.p (.idxA N (bp.size α)),az,dd,[]⟩::l) fs st k rfl Zd λx w=>by have:=h x w;simp only[nx,u]at this;omega
theorem NC(n k:Nat)(a:cm N α)(i:Int)(o:Nat)(x:α)(B:a.at i=some x){m:aY β}(h:Le m (b8 S c Q (nx S c n cf λp=>cZ p.st p.d (.v (.fptr ((pa a i).drop (o+k)))))))
 (D:(gM S c n cf).map (λp=>(p.k,bV S.N p.st.g p.az,ble (o+k) (bp.size α)))=some (.p (.fieldAddr k),some [.v (.fptr ((pa a i).drop o))],true):=by kernel_rfl):Le m (b8 S c Q cf):=by
 have⟨p,u,b⟩:=fC D;simp at b;have⟨e,w⟩:=jq u;have⟨dr,fr,d,gd,now,z,az,dd,l,fs,st⟩:=p;obtain⟨rfl,C,G⟩:=b;exact Ve n dr fr (⟨d,gd,now,.p (.fieldAddr k),az,dd,[]⟩::l) fs st a i o x B rfl Zd (by
  simp only[nx,u]at h;omega)
theorem O2(n b:Nat)(ag:Zl)(a:cm N α)(i:Int)(o:Nat)(x:α)(B:a.at i=some x)(v:V)(e:(cut (cells x) o b).bind (mk ag)=some v){m:aY β}(h:Le m (b8 S c Q (nx S c n cf λp=>cZ p.st p.d (.v v))))
 (D:(gM S c n cf).map (λp=>(p.k,bV S.N p.st.g p.az))=some (.r (.load b ag),some [.v (.fptr ((pa a i).drop o))]):=by kernel_rfl):Le m (b8 S c Q cf):=by
 have⟨p,w,u⟩:=fC D;simp at u;have⟨f,z⟩:=jq w;have⟨dr,fr,d,gd,now,C,az,dd,l,fs,st⟩:=p;obtain⟨rfl,G⟩:=u;exact Up n dr fr (⟨d,gd,now,.r (.load b ag),az,dd,[]⟩::l) fs st a i o x B e v rfl Zd (by
  simp only[nx,w]at h;omega)
theorem R5(n u:Nat)(st:St)(cs:Zw){m:aY β}(B:st.new u=true)(h:Le m (b8 S c Q (nx S c n cf λ_=>{st with g:=bu st.g u (.ptr u 0),m:=bu st.m u (.box cs)})))
 (D:(gM S c n cf).map (λp=>(p.d,(SG p.k).map (λz=>z.map SV.v),bV S.N p.st.g p.az,p.st))=some (some u,some cs,some [],st):=by kernel_rfl):Le m (b8 S c Q cf):=by
 have⟨p,C,a⟩:=fC D;simp only[ζc]at a;have⟨z,G,w⟩:=fC a.2.1;have⟨k,b⟩:=RU G;refine uF C ?_ h;rw[a.1,b,zf,a.2.2.1,a.2.2.2];simp[B,mU,w]
theorem Ew(n:Nat)(k:Zs)(u:Nat){a:cm N α}{i:Int}{f:α->aY γ}(h:∀x,a.at i=some x->Le ((f x).bind e) (b8 S c Q (nx S c n cf λp=>cZ p.st p.d (.ptr u (i.toNat*bp.size α+0)))))
 (B:(gM S c n cf).map (λp=>(p.k,bV S.N p.st.g p.az,bg p.st.m u))=some (.p (.idxA N (bp.size α)),some [.ptr u 0,.v (.int k i)],some (bx a)):=by kernel_rfl):Le (((a.at i).bind f).bind e) (b8 S c Q cf):=by
 have⟨p,w,b⟩:=fC B;simp at b;have⟨g,C⟩:=jq w;have⟨dr,fr,d,gd,now,D,az,dd,l,fs,st⟩:=p;obtain⟨rfl,G,I⟩:=b;exact T0 n dr fr (⟨d,gd,now,.p (.idxA N (bp.size α)),az,dd,[]⟩::l) fs st k u rfl Zd λx z=>by have:=h x z;simp only[nx,w]at this;omega
theorem OS(n b:Nat)(ag:Zl)(u:Nat)(a:cm N α)(i:Int)(o:Nat)(x:α)(B:a.at i=some x)(v:V)(e:(cut (cells x) o b).bind (mk ag)=some v){m:aY β}(h:Le m (b8 S c Q (nx S c n cf λp=>cZ p.st p.d (.v v))))
 (D:(gM S c n cf).map (λp=>(p.k,bV S.N p.st.g p.az,bg p.st.m u,(!p.dr||p.now||eD p.fr [.ptr u 0])))=some (.r (.load b ag),some [.ptr u (i.toNat*bp.size α+o)],some (bx a),true):=by kernel_rfl):Le m (b8 S c Q cf):=by
 have⟨p,z,w⟩:=fC D;simp at w;have⟨f,C⟩:=jq z;have⟨dr,fr,d,gd,now,G,az,dd,l,fs,st⟩:=p;obtain⟨rfl,I,J,L⟩:=w;exact T7 n dr fr (⟨d,gd,now,.r (.load b ag),az,dd,[]⟩::l) fs st u a i o x B e v rfl Zd (by
  simp only[nx,z]at h;omega)
end
section
variable{κ ν:Type}[bp κ][DecidableEq κ][Key κ][bp ν]
theorem Pz(n u:Nat)(mp:Mo κ ν)(k:κ)(z:ν){m:aY β}(h:Le m (b8 S c Q (nx S c n cf λp=>cZ p.st p.d (cv (rL mp k z)))))
 (B:(gM S c n cf).map (λp=>(p.k,bV S.N p.st.g p.az,bg p.st.m u,(!p.dr||p.now||eD p.fr [.mp u,cv k])))=some (.r (.lookup (Key.kk κ) (enc z) false),some [.mp u,cv k],some (pO mp),true):=by kernel_rfl):Le m (b8 S c Q cf):=by
 have⟨p,w,a⟩:=fC B;simp at a;have⟨b,C⟩:=jq w;have⟨dr,fr,d,gd,now,D,az,dd,l,fs,st⟩:=p;obtain⟨rfl,G,I,J⟩:=a;exact TT n dr fr (⟨d,gd,now,.r (.lookup (Key.kk κ) (enc z) false),az,dd,[]⟩::l) fs st u mp k z rfl Zd (by
  simp only[nx,w]at h;omega)
theorem S5(n u:Nat)(mp:Mo κ ν)(k:κ)(v:ν){m:aY β}(h:Le m (b8 S c Q (nx S c n cf λp=>cZ {p.st with m:=bu p.st.m u (pO (mP mp k v))} p.d (.v .undef))))
 (B:(gM S c n cf).map (λp=>(p.k,bV S.N p.st.g p.az,bg p.st.m u,(!p.dr||p.now)))=some (.l (.mapUp (Key.kk κ)),some [.mp u,cv k,cv v],some (pO mp),true):=by kernel_rfl):Le m (b8 S c Q cf):=by
 have⟨p,z,w⟩:=fC B;simp at w;have⟨a,C⟩:=jq z;have⟨dr,fr,d,gd,now,D,az,dd,l,fs,st⟩:=p;obtain⟨rfl,G,I,J⟩:=w;exact U6 n dr fr (⟨d,gd,now,.l (.mapUp (Key.kk κ)),az,dd,[]⟩::l) fs st u mp k v rfl Zd (by
  simp[nx,z]at h;omega)
end
theorem TE(n:Nat)(st:St){rs:aX RV}{e:γ->aY Zu}{r:γ}(svs:Zw){ys:Zu}(B:nu (iK st.m 8) svs=some ys)(D:e r=some ys)
 (h:(fV S c n cf.1 cf.2.1 cf.2.2).map (λq=>(q.1,q.2.2,ki q.2.2 rs))=some (.rt,st,some svs):=by kernel_rfl):Le ((some r).bind e) (b8 S c (ql rs) cf):=by
 have⟨⟨fo,fs,st'⟩,u,a⟩:=fC h;simp at a;obtain⟨rfl,rfl,w⟩:=a;exact TG n svs B (by rw[u,w]) D
end
end Go.VE
namespace Go.VE
variable[bL]
section
variable{S:Sys}{c:bU}{β γ δ α:Type}[bp α]{Q:Out×St->aY β}{e:γ->aY β}{cf:Cf}
def nD(s x:Sl α):aY (Sl α):=if x.l=[]then some s else if s.l.length+x.l.length<=2147483648 then some (.row (s.l++x.l))else none
theorem Qx(m:Tb bq)(n w:Nat)(x:Sl α)(B:n=bp.size α)(D:bg m w=some (ct x)):gV m n (.own w)=some (rows x.l):=by rw[zd,D,y8 n x B]
theorem FE(l:aX α):rows l=[]↔l=[]:=by unfold rows;simp
theorem Ox(a b:aX α):rows a++rows b=rows (a++b):=by unfold rows;simp
theorem EM(a:aX α):(rows a).length=a.length:=by unfold rows;simp
theorem SA{st:St}{dr now:Zl}{fr:Zv}{az:Z4}{d n o:Nat}{s x:Sl α}{B:SV}(O:bV S.N st.g az=some [.own o,B])(T:(!dr||now)=true)(D:bg st.m o=some (ct s))(U:gV st.m n B=some (rows x.l))(G:n=bp.size α)(J:St.new {st with m:=cR o st.m} d=true):
 fc S c dr fr ⟨some d,none,now,.l (.append n),az,[],[]⟩ st=(nD s x).bind λW=>some {st with g:=bu st.g d (.own d),m:=bu (cR o st.m) d (ct W)}:=by
 rw[sP,O];simp only[ζb,T,if_true,u9 (Qx st.m n o s G D) U];unfold nD
 by_cases h:x.l=[]
 .rw[if_pos h,(FE x.l).2 h];simp only[vD,D,if_pos J,ζb];rfl
 rw[if_neg h];have a:rows x.l≠[]:=λe=>h ((FE _).1 e)
 have w:vD st d n (.own o) (some (rows s.l)) (some (rows x.l))=if(rows s.l).length+(rows x.l).length<=2147483648/\FU (.own o)=true then(if St.new {st with m:=giveUp st.m (.own o)} d then some (.own d,{st with m:=bu (giveUp st.m (.own o)) d (.sl .row n (rows s.l++rows x.l))})else none)else none:=by unfold vD;generalize rows x.l=r at *;cases r with|nil=>exact absurd rfl a|cons y r=>rfl
 rw[w,EM,EM,Ox]
 by_cases u:s.l.length+x.l.length<=2147483648
 .rw[if_pos ⟨u,rfl⟩,if_pos (show St.new {st with m:=giveUp st.m (.own o)} d=true from J),if_pos u];rw[ζb,ζb,G];rfl
 rw[if_neg (λk=>u k.1),if_neg u];rfl
theorem TB(n o u:Nat)(D:SV){s x:Sl α}{f:Sl α->aY γ}(G:∀p,gM S c n cf=some p->gV p.st.m (bp.size α) D=some (rows x.l))
 (h:∀B,nD s x=some B->Le ((f B).bind e) (b8 S c Q (nx S c n cf λp=>{p.st with g:=bu p.st.g u (.own u),m:=bu (cR o p.st.m) u (ct B)})))
 (J:(gM S c n cf).map (λp=>(p.d,p.k,bV S.N p.st.g p.az,(!p.dr||p.now),bg p.st.m o,St.new {p.st with m:=cR o p.st.m} u))=some (some u,.l (.append (bp.size α)),some [.own o,D],true,some (ct s),true):=by kernel_rfl):Le (((nD s x).bind f).bind e) (b8 S c Q cf):=by
 have⟨p,w,a⟩:=fC J;simp only[ζc]at a;refine uz w ?_ h;rw[a.1,a.2.1];exact Le.of_eq (SA a.2.2.1 a.2.2.2.1 a.2.2.2.2.1 (G p w) rfl a.2.2.2.2.2)
theorem JX(m:Tb bq)(x:Sl α):gV m (bp.size α) (.v (cg x))=some (rows x.l):=by cases x<;>simp[cg,Sl.k,Sl.l,jC,gV,rows]
theorem ym(n o u:Nat){s x:Sl α}{f:Sl α->aY γ}
 (h:∀B,nD s x=some B->Le ((f B).bind e) (b8 S c Q (nx S c n cf λp=>{p.st with g:=bu p.st.g u (.own u),m:=bu (cR o p.st.m) u (ct B)})))
 (D:(gM S c n cf).map (λp=>(p.d,p.k,bV S.N p.st.g p.az,(!p.dr||p.now),bg p.st.m o,St.new {p.st with m:=cR o p.st.m} u))=some (some u,.l (.append (bp.size α)),some [.own o,.v (cg x)],true,some (ct s),true):=by kernel_rfl):Le (((nD s x).bind f).bind e) (b8 S c Q cf):=
 TB n o u _ (λp _=>JX p.st.m x) h D
end
theorem qd{α:Type}{l:aX α}{i:Nat}{x:α}(h:l[i]?=some x):l.set i x=l:=by obtain⟨u,rfl⟩:=ζe.1 h;exact List.set_getElem_self u
open Classical in
def AF(E:Env)(g:Zk)(cb:Zu)(a b:V):aY V:=if h:∃n y,bS (run E n) g (a::b::cb) []=some y then some (Classical.choose (choose_spec h))else none
theorem CN{E:Env}{g:Zk}{cb:Zu}{a b y:V}(h:AF E g cb a b=some y):∃n,∀k,n<=k->bS (run E k) g (a::b::cb) []=some y:=by
 unfold AF at h;split at h;next c=>cases h;exact⟨_,λk d=>mE (nL E d) (choose_spec (choose_spec c))⟩
 cases h
theorem HJ{E:Env}{g:Zk}{cb:Zu}{a b y:V}{n:Nat}(h:bS (run E n) g (a::b::cb) []=some y):AF E g cb a b=some y:=by have d:∃n y,bS (run E n) g (a::b::cb) []=some y:=⟨n,y,h⟩;cases c:AF E g cb a b with|none=>unfold AF at c;rw[dif_pos d]at c;cases c|some z=>have⟨m,u⟩:=CN c;have:=u _ (Nat.le_max_right n m);rw[mE (nL E (Nat.le_max_left n m)) h]at this;cases this;rfl
theorem CB{n:Nat}{p:_root_.Fin n->Nat->Prop}(h:∀i,∃N,∀k,N<=k->p i k):∃N,∀i k,N<=k->p i k:=by induction n with|zero=>exact⟨0,λi=>i.elim0⟩|succ n u=>have⟨N,w⟩:=u (p:=λi=>p i.succ) λi=>h i.succ;have⟨M,z⟩:=h 0;refine⟨max N M,λi k a=>?_⟩;refine _root_.Fin.cases (z k Za) (λj=>w j k Za) i
def iR(x:Zu):V:=x.headD .undef
def s_(es:Nat)(xs:Zt):Zl:=es==1&&xs.all (λx=>x.length==1&&x.all V.one)&&decide (xs.length<=2147483648)
theorem wY{es:Nat}{xs:Zt}(h:s_ es xs=true):es=1/\xs.length<=2147483648/\∀(i:Nat)x,xs[i]?=some x->x=[iR x]/\(iR x).one=true:=by unfold s_ at h;simp only[ζh,beq_iff_eq,all_eq_true,decide_eq_true_eq]at h;refine⟨h.1.1,h.2,λi x w=>?_⟩;have⟨a,z⟩:=h.1.2 x (mem_of_getElem? w);obtain⟨u,rfl⟩:=List.length_eq_one_iff.1 a;exact⟨rfl,z u Zc⟩
section
variable{H:bh}{Z:Nat->Prop}
theorem cV.HW{k:Nat}{xs ys:Zu}(h:cV H Z xs ys)(B:V.kn k xs=true):borrows k H ys=some xs:=jM h.1 λj u v a b=>(h.2 j u v a b).borrow k (lg.1 B j u a)
theorem cV.borrows{xs ys:Zu}(h:cV H Z xs ys):∃n,∀k,n<=k->borrows k H ys=some xs:=by have⟨n,u⟩:=k_ xs;exact⟨n,λk a=>h.HW (nR a u)⟩
theorem Lf{es:Nat}{xs:Zt}(h:s_ es xs=true){rs:Zt}(B:eX H Z xs rs):cV H Z (xs.map iR) rs.flatten:=by induction xs generalizing rs with|nil=>have:=B.1;simp at this;have:rs=[]:=List.eq_nil_of_length_eq_zero (by simpa using this.symm);subst this;exact .nil|cons x xs D=>have⟨d,L,G⟩:=wY h;cases rs with|nil=>have:=B.1;simp at this|cons r rs=>have⟨e,_⟩:=G 0 x rfl;have C:=B.2 0 x r rfl rfl;rw[e]at C;obtain⟨u,O,rfl,c,w⟩:=C.inv;rw[w.cF];have z:s_ es xs=true:=(by unfold s_ at h⊢;simp only[all_cons,ζh,length_cons,decide_eq_true_eq]at h⊢;exact⟨⟨h.1.1,h.1.2.2⟩,Za⟩);exact .cons c (D z (rs:=rs) ⟨by have:=B.1;simpa using this,λj a b I J=>B.2 (j+1) a b I J⟩)
end
def rC(E:Env)(g:Zk)(cb:Zu)(a b:V):Z6:=match AF E g cb a b with|some (.int .i64 c)=>some c|_=>none
theorem NB{E:Env}{g:Zk}{cb:Zu}{a b:V}{c:Int}(h:rC E g cb a b=some c):∃n,∀k,n<=k->bS (run E k) g (a::b::cb) []=some (.int .i64 c):=by
 unfold rC at h;split at h;next c' d=>cases h;exact CN d
 cases h
def xK(E:Env)(es:Nat)(xs:Zt):Zu->aY Zt
 |[.clo g [] cb]=>match xs with
  |[]=>some []|x::l=>if s_ es (x::l)&& !E.keep g then
   let t:_root_.Fin (l.length+1)->_root_.Fin (l.length+1)->Z6:=λi j=>rC E g cb (iR (((x::l)[i.1]?).getD [])) (iR (((x::l)[j.1]?).getD []))
   if za t then some ((o8 l.length (n_ t)).toList.map λi=>((x::l)[i.1]?).getD [])else none
   else none
 |_=>none
def ru(E:Env):Dz:=⟨false,xK E⟩
theorem Bh{n:Nat}{lt:_root_.Fin (n+1)->_root_.Fin (n+1)->Zl}(h:Sort.SWO lt):(o8 n lt).size=n+1:=by rw[Ao];have:=(Sort.pdq_sorts lt h (List.finRange (n+1)).toArray 0 (n+1) (Lib.bitLen (n+1)) true true (zero_le _) Zc (Or.inl rfl)).1.1;simpa using this
theorem OG{E:Env}{f:Zk}(m:E.keep f=true)(ho:E.own f=false)(F:E.sort f=true)(K:E.ft f=none):nq E f (ru E)where
 keep:=m
 own:=ho
 le:=by intro es xs vs ys h;simp only[ru,xK]at h;split at h;split at h;cases h;exact⟨le_refl _,λ_=>rfl⟩;split at h;split at h;(next q=>cases h;have:=Bh (oS q).2;simp only[length_map,Array.length_toList,length_cons,this];exact⟨le_refl _,λ_=>trivial⟩);cases h;cases h;cases h
 none:=by intro es vs ys h H Z ws w M he;simp only[ru,xK]at h;split at h;obtain⟨V,r,rfl,h1,P⟩:=M.inv;rw[P.cF];refine⟨1,[],λk m=>?_⟩;(cases k with|zero=>omega|succ k=>rcases he with rfl|rfl<;>simp[run,jo,K,F,oV,ru]);cases h
 row:=by
  intro es xs vs ys h H Z ws id off rs M O C I z hz;simp only[ru,xK]at h;split at h;rename_i g cb;obtain⟨V,r,rfl,h1,P⟩:=M.inv;rw[P.cF];obtain⟨a',J,rfl,s,aa⟩:∃a' J,V=.clo g a' J/\cV H Z [] a'/\cV H Z cb J:=h1.jy;rw[s.cF]at *;split at h;cases h;refine⟨1,rs,[],λk m=>?_,rfl,⟨rfl,λj u v o=>by simp at o⟩,z⟩;cases k with|zero=>omega|succ k=>have:H.set id (.row es rs)=H:=qd O;simp[run,jo,K,F,oV,ru,this]
  rename_i x l;split at h;rename_i D;simp only[ζh,Bool.not_eq_true']at D;obtain⟨c1,c3⟩:=D;obtain⟨rfl,Q,ae⟩:=wY c1;split at h;rename_i q;cases h;obtain⟨G,S⟩:=oS q;have B:∀i,Z i->Z i/\bk (H.set id .dead) i=bk H i:=λi t=>⟨t,by unfold bk;rw[getElem?_set_ne];rintro rfl;exact hz t⟩;have T:=I.mono B;obtain⟨M1,U⟩:=(Lf c1 T).borrows;simp only[length_cons]at U;obtain⟨M2,W⟩:=(aa.mono B).borrows;obtain⟨N,R⟩:=CB (p:=λi k=>∀j:_root_.Fin (l.length+1),bS (run E k) g (iR (((x::l)[i.1]?).getD [])::iR (((x::l)[j.1]?).getD [])::cb) []=some (.int .i64 ((rC E g cb (iR (((x::l)[i.1]?).getD [])) (iR (((x::l)[j.1]?).getD []))).getD 0))) (λi=>by
   obtain⟨N,R⟩:=CB (p:=λ(j:_root_.Fin (l.length+1))k=>bS (run E k) g (iR (((x::l)[i.1]?).getD [])::iR (((x::l)[j.1]?).getD [])::cb) []=some (.int .i64 ((rC E g cb (iR (((x::l)[i.1]?).getD [])) (iR (((x::l)[j.1]?).getD []))).getD 0))) (λj=>by
    obtain⟨c,d⟩:=G i j;obtain⟨n,hn⟩:=NB d;exact⟨n,λk m=>by rw[hn k m,d];rfl⟩)
   exact⟨N,λk m j=>R j k m⟩)
  have X:∀k,N<=k->iE (run E k) g ((x::l).map iR) cb l.length=λi j=>rC E g cb (iR (((x::l)[i.1]?).getD [])) (iR (((x::l)[j.1]?).getD [])):=λk m=>by funext i j;obtain⟨c,d⟩:=G i j;have e1:∀i:_root_.Fin (l.length+1),((x::l).map iR)[i.1]?=some (iR (((x::l)[i.1]?).getD [])):=λi=>(by have:i.1<(x::l).length:=i.2;rw[getElem?_map,ζd this];rfl);unfold iE;rw[e1 i,e1 j];simp only[R i k m j];rw[d];rfl
  have ab:=Bh S;generalize hL:(o8 l.length (n_ λi j:_root_.Fin (l.length+1)=>rC E g cb (iR (((x::l)[i.1]?).getD [])) (iR (((x::l)[j.1]?).getD [])))).toList=L at *;have ad:L.length=l.length+1:=by rw[<-hL];simpa using ab
  simp only[length_cons]at C I Q;refine⟨max N (max M1 M2)+1,qe rs off l.length L,[],λk m=>?_,?_,?_,?_⟩;cases k with|zero=>omega|succ k=>simp only[run,jo,K,F,if_true,oV,O,ru,false_eq_true,if_false,length_cons];rw[if_pos ⟨trivial,trivial,C,Za,c3⟩,show(run E k).lv=k from mY E k,U k Za,W k Za];simp only[X k Za,q,if_true,hL,append_nil]
  simp[qe,ad];omega;have e:((qe rs off l.length L).drop off).take (L.map λi=>((x::l)[i.1]?).getD []).length=L.map λi=>(rs[off+i.1]?).getD []:=by unfold qe;have h0:(rs.take off).length=off:=(by simp;omega);rw[append_assoc,List.drop_append_of_le_length Za,List.drop_eq_nil_of_le Za,nil_append,length_map,List.take_append_of_le_length Zc,take_of_length_le Zc]
  rw[e];refine⟨Zc,λj a b s y=>?_⟩;rw[getElem?_map]at s y;obtain⟨i,t,rfl⟩:=ζf.1 s;rw[t]at y;simp only[map_some,ζa]at y;subst y;have Y:i.1<(x::l).length:=i.2;have A:off+i.1<rs.length:=by have:=i.2;omega
  refine I.2 i.1 _ _ (by rw[ζd Y];rfl) ?_;rw[getElem?_take,if_pos i.2,getElem?_drop,ζd A];rfl;intro c d u o;unfold qe at d;rcases mem_append.1 d with d|d;rcases mem_append.1 d with d|d;exact z c (List.mem_of_mem_take d) u o;obtain⟨i,_,rfl⟩:=mem_map.1 d;have A:off+i.1<rs.length:=by have:=i.2;omega
  rw[ζd A]at o;exact z _ (getElem_mem A) u o;exact z c (List.mem_of_mem_drop d) u o;cases h;cases h;cases h
def eM(N:Nat->Zk)(F:Zo):Arg->V
 |.s n=>get F n|.k c=>c|.f s=>.clo (N s) [] []
def i_(E:Env)(N:Nat->Zk)(call:di)(b:aY Nat)(now:Zl)(k:K)(vs:Zu)(H:bh):aY (V×bh):=
 match k,b with
 |.p p,_=>(bH N p vs).map λv=>(v,H)|.r r,none=>(eG H r vs).map λv=>(v,H)|.r r,some b=>(eG (H.take b) r vs).map λv=>(v,H)|.a a,none=>(kJ a vs).map λx=>(x.2.val H.length,H++[x.1])|.l l,none=>eA H l vs|.l (.store n),some _=>if now then eA H (.store n) vs else none|.c,none=>match vs with
  |.clo g a c::u=>if E.keep g then gf E call g (a++u++c) H else match bS call g (a++u++c) H with
   |some y=>if y.scalar then some (y,H)else none|none=>none
  |_=>none
 |.c,some b=>match vs with
  |.clo g a c::u=>if E.keep g then none else match bS call g (a++u++c) (H.take b)with
   |some y=>if y.scalar then some (y,H)else none|none=>none
  |_=>none
 |_,_=>none
def jZ(F:Zo):aY Nat->V->Zo
 |none,_=>F|some d,v=>set F d v
def dc(E:Env)(N:Nat->Zk)(call:di)(b:aY Nat):Zy->Zo->bh->aY (Zo×bh)
 |[],F,H=>some (F,H)|o::r,F,H=>match o.gd with
  |none=>match i_ E N call b o.now o.k (o.az.map (eM N F)) H with
   |some (v,H')=>dc E N call b r (jZ F o.dst v) H'|none=>none
  |some _=>none
section
variable{X:CX}{N:Nat->Zk}{call:di}{F F':Zo}{H H':bh}
theorem Ij(B:∀f s,X.nm f=some s->N s=f){o:Zr}{x:Arg}(h:nX X.nm o=some x):ev F o=some (eM N F x):=by cases o with|tmp t=>simp[nX]at h;subst h;rfl|const w=>simp[nX]at h;split at h;rename_i c a;split at h;simp at h;subst h;exact a;grind;grind|func f=>obtain⟨s,u,rfl⟩:=ζf.1 h;show some (V.clo f [] [])=some (.clo (N s) [] []);grind|global i=>simp[nX]at h;split at h;rename_i c a;split at h;simp at h;subst h;simp[ev,a];rfl;grind;grind
theorem uP(G:∀f s,X.nm f=some s->N s=f):∀{os:aX Zr}{B:Z4},os.mapM (nX X.nm)=some B->fe F os=some (B.map (eM N F))
 |[],B,h=>by simp at h;subst h;rfl|o::os,B,h=>by simp[ζg]at h;obtain⟨x,J,xs,D,rfl⟩:=h;simp[fe,Ij G J,uP G D]
theorem xw(D:∀f s,X.nm f=some s->N s=f){B:Zl}{ops:Zz}{i:Nat}{o:Oper}{ro:RO}(h:lF X B ops i o=some ro)(g:ro.gd=none):
 o.dst=ro.dst/\wE X.nt o.dst=true/\fA ops F o=true/\((zu X.E N F o.op (ro.az.map (eM N F)) ro.k/\ro.now=(B&&dn ops i)/\(B=true->dn ops i=false->∀a',oh ops i a'=[]\/∀t,o.op≠.load t (.tmp a')))\/(∃n,ro.k=.l (.storeF n))\/(∃n a,ro.k=.r (.loadF n a))\/(B=true/\BD X.E ops i=true/\cz o.op=.alloc/\(∃p,ro.k=.p p/\(p=.emptyC\/(∃a b,p=.makeC a b)\/∃a b c d,p=.buildC a b c d)/\∀y,bH N p (ro.az.map (eM N F))=some y->nY X.E F o.op=some y))\/∃n,ro.k=.e n):=by
 unfold lF at h;split at h
 .rename_i C;have C:=(Bool.and_eq_true_iff.1 C).1;split at h
  .rename_i gd k os u hr;split at h
   .split at h
    .rename_i z;simp only[ζh]at z;have O:∀{gd:aY (Nat×Zl)},Af ops o=some gd->gd=none->fA ops F o=true:=λ{gd}u g=>by
      subst g;unfold fA;unfold Af at u
      cases I:o.guard with
      |none=>rfl|some Q=>rw[I]at u;have⟨j,b⟩:=Q;have⟨d,_,e⟩:=ζf.1 u;cases e
     split at h
     next S=>obtain⟨T,G,rfl⟩:=ζf.1 h;have w:=iM D hr (uP (F:=F) D G);exact⟨rfl,C,O u g,.inr (.inr (.inr (.inl ⟨z.1,z.2,w.1,_,rfl,.inr (.inl ⟨_,_,rfl⟩),λy J=>BS ⟨_,_,_,by assumption⟩ w J⟩)))⟩
     .rename_i S;split at h
      next U=>obtain⟨W,rfl,rfl⟩:=U;obtain⟨T,G,rfl⟩:=ζf.1 h;have w:=iM D hr (uP (F:=F) D G);exact⟨rfl,C,O u g,.inr (.inr (.inr (.inl ⟨z.1,z.2,w.1,_,rfl,.inl rfl,λy J=>BX ⟨_,_,_,by assumption⟩ w W J⟩)))⟩
      obtain⟨T,G,rfl⟩:=ζf.1 h;have w:=iM D hr (uP (F:=F) D G);exact⟨rfl,C,O u g,.inr (.inr (.inr (.inl ⟨z.1,z.2,w.1,_,rfl,.inr (.inr ⟨_,_,_,_,rfl⟩),λy J=>B6 ⟨_,_,_,by assumption⟩ w J⟩)))⟩
     cases h
    obtain⟨T,G,rfl⟩:=ζf.1 h;simp only at g;subst g;refine⟨rfl,C,?_,?_⟩
    .unfold fA;unfold Af at u
     cases I:o.guard with
     |none=>rfl|some Q=>rw[I]at u;have⟨j,b⟩:=Q;have⟨d,_,e⟩:=ζf.1 u;cases e
    rcases BK B ops i k os with⟨e,Y⟩|⟨_,_,n,a,l,Z,_,_,_,e⟩|⟨_,_,n,ag,a,_,_,e⟩|⟨_,_,_,n,_,e⟩
    .rw[e]at G⊢;refine .inl ⟨iM D hr (uP D G),rfl,λC m a'=>?_⟩
     by_cases L:∃t,o.op=.load t (.tmp a')
     .have⟨t,L⟩:=L;rw[L]at hr;simp only[resolve]at hr;have⟨d,_,e⟩:=ζf.1 hr;simp only[ζc]at e;exact .inl (Y _ _ a' C m e.1.symm e.2.symm)
     exact .inr λt h=>L ⟨t,h⟩
    .rw[e];exact .inr (.inl ⟨n,rfl⟩)
    .rw[e];exact .inr (.inr (.inl ⟨n,ag,rfl⟩))
    rw[e];exact .inr (.inr (.inr (.inr ⟨n,rfl⟩)))
   simp at h
  simp at h
 simp at h
theorem Gw{a:Nat}{dst:aY Nat}(h:wE a dst=true)(v:V):jl a F dst v=some (jZ F dst v):=by cases dst with|none=>rfl|some d=>simp[wE]at h;simp[jl,if_pos h,jZ]
theorem RZ(J:∀f s,X.nm f=some s->N s=f){ops:Zz}{i:Nat}{o:Oper}{ro:RO}(h:lF X false ops i o=some ro)(q:ro.gd=none){v:V}(d:i_ X.E N call none ro.now ro.k (ro.az.map (eM N F)) H=some (v,H')):
 fT X.E call X.nt ops none o F H=some (jZ F ro.dst v,H'):=by
 have⟨j,I,L,u⟩:=xw (F:=F) J h q;have O:cE X.E call ops none F H o.op=some (v,H'):=by
  rcases u with⟨u,_⟩|⟨n,u⟩|⟨n,a,u⟩|⟨u,_⟩|⟨n,u⟩;generalize t:ro.k=k at d u;generalize ro.az.map (eM N F)=W at d u;unfold cE;cases k with|p p=>have⟨c,e⟩:=u;have⟨w,B,C⟩:=ζf.1 d;rw[c];simp only[wX (e w B),map_some];rw[C]|r r=>have⟨c,e⟩:=u;have⟨w,B,C⟩:=ζf.1 d;rw[c];simp only[e H w B,map_some];rw[C]|a a=>have⟨c,e⟩:=u;have⟨⟨ob,m⟩,B,C⟩:=ζf.1 d;rw[c];simp only[mw,false_eq_true,if_false,e _ B];exact congrArg some C|l l=>have⟨c,e⟩:=u;rw[c];exact e H _ d|e n=>exact u.elim|b=>simp[i_]at d|c=>obtain⟨c,f,Q,rfl,e⟩:=u;rw[c];simp only[i_]at d;split at d;rename_i g a b S D;simp only[List.cons.injEq]at D;obtain⟨rfl,rfl⟩:=D;split at d;(next z=>simp only[e,uL,dI,jX,z,Bool.and_self,if_true];exact d);rename_i z;split at d;rename_i y T;split at d;(next G=>simp only[e,uL,dI,jX,z,Bool.false_and,false_eq_true,if_false,T,G,if_true];exact d);simp at d;simp at d;simp at d
  .rw[u]at d;exfalso;have:∀ops i k os,(vz false ops i k os).1=k:=λ_ _ _ _=>rfl;unfold lF at h;simp only[Bool.false_and,false_eq_true,if_false,Bool.not_false,Bool.and_true]at h;split at h
   .split at h
    .rename_i gd k os U hr;split at h
     .obtain⟨Q,Y,rfl⟩:=ζf.1 h;simp only[this]at u;subst u;unfold resolve at hr;(repeat' split at hr)<;>first|(simp at hr;done)|(have⟨_,_,e⟩:=ζf.1 hr;simp at e;done)
     simp at h
    simp at h
   first|(simp at h;done)|contradiction
  rw[u]at d;simp[i_,eG]at d;cases u;rw[u]at d;simp[i_]at d
 unfold fT;rw[L,if_pos rfl,O];simp only[j,Gw (j▸I),map_some]
theorem GS(D:∀f s,X.nm f=some s->N s=f){ops:Zz}:∀(rest:Zz){i:Nat}{B:Zy}{F:Zo}{H:bh},j_ X false ops i rest=some B->dc X.E N call none B F H=some (F',H')->lu X.E call X.nt ops rest F H=some (F',H')
 |[],i,B,F,H,hc,h=>by simp[j_]at hc;subst hc;exact h|o::rest,i,B,F,H,hc,h=>by simp[j_]at hc;split at hc;rename_i ro rs a G;simp at hc;subst hc;simp[dc]at h;split at h;rename_i b;split at h;(next v H1 c=>simp[lu,RZ D a b c];exact GS D rest G h);grind;grind;grind
theorem Q0{ops:Zz}{i:Nat}{op:Op}(h:∀t a',op=.load t (.tmp a')->oh ops i a'=[]):mV ops i F op=true:=by unfold mV;grind
theorem S6(Y:∀f s,X.nm f=some s->N s=f){ops:Zz}{b i:Nat}{o:Oper}(m:ops[i]?=some o){ro:RO}(h:lF X true ops i o=some ro)(q:ro.gd=none){v:V}(d:i_ X.E N call (some b) ro.now ro.k (ro.az.map (eM N F)) H=some (v,H')):
 fT X.E call X.nt ops (some (b,i)) o F H=some (jZ F ro.dst v,H'):=by
 have⟨j,Z,x,u⟩:=xw (F:=F) Y h q;have A:cE X.E call ops (some (b,i)) F H o.op=some (v,H'):=by
  rcases u with⟨u,z,B⟩|⟨n,u⟩|⟨n,a,u⟩|⟨_,I,J,p,u,_,L⟩|⟨n,u⟩;generalize K:ro.k=k at d u;generalize ro.az.map (eM N F)=vs at d u;unfold cE
  cases k with
  |p p=>have⟨c,e⟩:=u;have⟨w,C,D⟩:=ζf.1 d;rw[c];simp only[wX (e w C),map_some];rw[D]|r r=>have⟨c,e⟩:=u;have⟨w,C,D⟩:=ζf.1 d;have O:mV ops i F o.op=true:=Q0 λt a' e=>(by by_cases U:dn ops i=true;exact A4 m e U;rcases B rfl (by simpa using U) a' with h|h;exact h;exact absurd e (h t));rw[c];simp only[e _ w C,O,if_true];rw[D]|a a=>simp[i_]at d|l l=>have⟨c,e⟩:=u;cases l with|store n=>simp only[i_]at d;split at d;(next W=>rw[z,Bool.true_and]at W;rw[c];simp only[W,Bool.true_or,if_true];exact e H _ d);simp at d|_=>simp[i_]at d
  |e n=>exact u.elim|b=>simp[i_]at d|c=>obtain⟨c,f,M,rfl,e⟩:=u;rw[c];simp only[i_]at d;split at d;rename_i g a b P G;simp only[List.cons.injEq]at G;obtain⟨rfl,rfl⟩:=G;split at d;simp at d;rename_i Q;split at d;rename_i y E;split at d;(next S=>simp only[e,uL,DA h rfl c,Bool.not_false,Bool.true_or,dI,jX,Q,Bool.false_and,false_eq_true,if_false,E,S,if_true];exact d);simp at d;simp at d;simp at d
  rw[u]at d;simp[i_]at d;rw[u]at d;simp[i_,eG]at d;rw[u]at d;have⟨w,C,D⟩:=ζf.1 d;have T:=L w C;unfold cE;rw[J];simp only[mw,I,if_true,T,map_some];exact congrArg some D;rw[u]at d;simp[i_]at d
 unfold fT;rw[x,if_pos rfl,A];simp only[j,Gw (j▸Z),map_some]
theorem GG(D:∀f s,X.nm f=some s->N s=f){ops:Zz}{b:Nat}:∀(rest:Zz){i:Nat}{B:Zy}{F:Zo}{H:bh},ops.drop i=rest->j_ X true ops i rest=some B->dc X.E N call (some b) B F H=some (F',H')->
 jm X.E call X.nt ops b (range' i rest.length) F H=some (F',H')
 |[],i,B,F,H,_,hc,h=>by simp[j_]at hc;subst hc;exact h|o::rest,i,B,F,H,J,hc,h=>by simp[j_]at hc;split at hc;rename_i ro rs a O;simp at hc;subst hc;simp[dc]at h;split at h;rename_i c;split at h;rename_i v H1 d;have G:ops[i]?=some o:=(by have:(ops.drop i)[0]?=some o:=Zd;grind);have u:ops.drop (i+1)=rest:=(by rw[<-List.drop_drop,J];rfl);simp[List.range'_succ,jm,G,S6 D G a c d];exact GG D rest u O h;grind;grind;grind
def vW(l:Zy):Zl:=l.all λo=>(match o.k with|.a _|.l (.storeF _)|.r (.loadF ..)|.p (.makeC ..)|.p (.buildC ..)|.p .emptyC|.e _=>false|_=>true)&&o.gd.isNone
theorem AV(J:∀f s,X.nm f=some s->N s=f){ops:Zz}:∀(rest:Zz){i:Nat}{G:Zy},j_ X true ops i rest=some G->vW G=true->rest.any (λo=>cz o.op==.alloc)=false
 |[],_,_,_,_=>rfl|o::rest,i,G,hc,D=>by simp only[j_]at hc;split at hc;rename_i ro rs c O;simp only[ζa]at hc;subst hc;simp only[vW,all_cons,ζh,Option.isNone_iff_eq_none]at D;have⟨_,_,_,B⟩:=xw (F:=[]) J c D.1.2;rw[List.any_cons,AV J rest O D.2,Bool.or_false];rcases B with⟨B,_⟩|⟨n,B⟩|⟨n,a,B⟩|⟨_,_,_,p,B,u,_⟩|⟨n,B⟩;(cases b:ro.k with|a p=>have:=D.1.1;rw[b]at this;cases this|e p=>have:=D.1.1;rw[b]at this;cases this|_=>rw[b]at B;rw[B.1];rfl);have:=D.1.1;rw[B]at this;cases this;have:=D.1.1;rw[B]at this;cases this;have:=D.1.1;rw[B]at this;rcases u with rfl|⟨_,_,rfl⟩|⟨_,_,_,_,rfl⟩<;>cases this;have:=D.1.1;rw[B]at this;cases this;simp at hc
def gI(E:Env)(N:Nat->Zk)(call:di)(lf:Nat):RC->Zo->bh->aY (Out×Zo×bh)
 |.skip,F,H=>some (.norm,F,H)|.ops l,F,H=>(dc E N call none l F H).map λx=>(.norm,x.1,x.2)|.rH l,F,H=>if vW l then(dc E N call (some H.length) l F H).map λx=>(.norm,x.1,x.2)else none|.seq a b,F,H=>match gI E N call lf a F H with
  |some (.norm,F',H')=>gI E N call lf b F' H'|r=>r
 |.cond x a b,F,H=>match eM N F x with
  |.bool t=>if t then gI E N call lf a F H else gI E N call lf b F H|_=>none
 |.block id c,F,H=>match gI E N call lf c F H with
  |some (.exit B,F',H')=>if B=id then some (.norm,F',H')else some (.exit B,F',H')|r=>r
 |.loop c,F,H=>jQ (gI E N call lf c) lf F H|.exit id,F,H=>some (.exit id,F,H)|.ret,F,H=>some (.ret,F,H)|_,_,_=>none
theorem ER{f g:Zo->bh->aY (Out×Zo×bh)}(h:∀F H r,f F H=some r->g F H=some r):∀(k:Nat)(F:Zo)(H:bh)(r:Out×Zo×bh),jQ f k F H=some r->jQ g k F H=some r
 |0,F,H,r,hr=>by simp[jQ]at hr|k+1,F,H,r,hr=>by simp only[jQ]at hr⊢;cases B:f F H with|none=>rw[B]at hr;simp at hr|some q=>rw[B]at hr;rw[h F H q B];have⟨o,F1,H1⟩:=q;cases o with|norm=>exact ER h k F1 H1 r hr|exit _=>exact hr|ret=>exact hr
theorem M5(D:∀f s,X.nm f=some s->N s=f){lf:Nat}:∀(j:RC)(code:Code)(F:Zo)(H:bh)(r:Out×Zo×bh),bG X false code=some j->gI X.E N call lf j F H=some r->exec X.E call lf false X.nt code F H=some r:=by
 intro j
 induction j with
 |skip=>
  intro code F H r d h;simp only[gI,ζa]at h;subst h
  cases code with
  |skip=>rfl|label _=>rfl|region id ops u=>simp only[bG]at d;(repeat' split at d)<;>first|(simp at d;done)|(have⟨_,_,e⟩:=ζf.1 d;cases e)
  |_=>simp only[bG]at d;(repeat' split at d)<;>first|(simp at d;done)|(have⟨_,_,e⟩:=ζf.1 d;cases e)|cases d
 |ops l=>intro code F H r d h;cases code with|region id ops u=>simp only[bG]at d;split at d;split at d;have⟨_,_,e⟩:=ζf.1 d;cases e;simp at d;rename_i I;have⟨U,G,e⟩:=ζf.1 d;cases e;simp only[gI]at h;obtain⟨⟨F',H'⟩,k,rfl⟩:=ζf.1 h;simp only[exec,jb,I];rw[if_neg Zc,GS D _ G k];rfl|_=>simp only[bG]at d;(repeat' split at d)<;>first|(simp at d;done)|(have⟨_,_,e⟩:=ζf.1 d;cases e)|cases d
 |rH l=>intro code F H r d h;cases code with|region id ops u=>simp only[bG]at d;split at d;rename_i I;split at d;rename_i J;have⟨U,G,e⟩:=ζf.1 d;cases e;simp only[gI]at h;split at h;(next W=>obtain⟨⟨F',H'⟩,k,rfl⟩:=ζf.1 h;have Y:qv ops.toList=false:=AV D _ G W;have:=GG D ops.toList (i:=0) rfl G k;rw[<-List.range_eq_range']at this;simp only[exec,jb,I,J,if_true,Y,false_eq_true,if_false,this];rfl);simp at h;simp at d;have⟨_,_,e⟩:=ζf.1 d;cases e|_=>simp only[bG]at d;(repeat' split at d)<;>first|(simp at d;done)|(have⟨_,_,e⟩:=ζf.1 d;cases e)|cases d
 |seq a b w B=>
  intro code F H r d h
  cases code with
  |seq L O=>simp only[bG]at d;split at d;rename_i x y C Q;cases d;simp only[gI]at h;simp only[exec];(cases g:gI X.E N call lf a F H with|none=>rw[g]at h;simp at h|some q=>rw[g]at h;rw[w L F H q C g];have⟨o,F1,H1⟩:=q;cases o with|norm=>exact B O F1 H1 r Q h|exit _=>exact h|ret=>exact h);simp at d
  |region id ops u=>simp only[bG]at d;(repeat' split at d)<;>first|(simp at d;done)|(have⟨_,_,e⟩:=ζf.1 d;cases e)
  |_=>simp only[bG]at d;(repeat' split at d)<;>first|(simp at d;done)|(have⟨_,_,e⟩:=ζf.1 d;cases e)|cases d
 |cond x a b w B=>
  intro code F H r d h
  cases code with
  |cond c L O=>simp only[bG]at d;split at d;rename_i p y z C Q Z;cases d;simp only[gI]at h;simp only[exec,Ij (F:=F) D C];split at h;rename_i t m;rw[m];(cases t with|true=>simp only[if_true]at h⊢;exact w L F H r Q h|false=>simp only[false_eq_true,if_false]at h⊢;exact B O F H r Z h);simp at h;simp at d
  |region id ops u=>simp only[bG]at d;(repeat' split at d)<;>first|(simp at d;done)|(have⟨_,_,e⟩:=ζf.1 d;cases e)
  |_=>simp only[bG]at d;(repeat' split at d)<;>first|(simp at d;done)|(have⟨_,_,e⟩:=ζf.1 d;cases e)|cases d
 |block id c S=>
  intro code F H r d h
  cases code with
  |block T c'=>simp only[bG]at d;have⟨x,C,e⟩:=ζf.1 d;cases e;simp only[gI]at h;simp only[exec];cases g:gI X.E N call lf c F H with|none=>rw[g]at h;simp at h|some q=>rw[g]at h;rw[S c' F H q C g];exact h
  |region id ops u=>simp only[bG]at d;(repeat' split at d)<;>first|(simp at d;done)|(have⟨_,_,e⟩:=ζf.1 d;cases e)
  |_=>simp only[bG]at d;(repeat' split at d)<;>first|(simp at d;done)|(have⟨_,_,e⟩:=ζf.1 d;cases e)|cases d
 |loop c S=>
  intro code F H r d h
  cases code with
  |loop c'=>simp only[bG]at d;have⟨x,C,e⟩:=ζf.1 d;cases e;simp only[gI]at h;simp only[exec];exact ER (λF H r n=>S c' F H r C n) lf F H r h|region id ops u=>simp only[bG]at d;(repeat' split at d)<;>first|(simp at d;done)|(have⟨_,_,e⟩:=ζf.1 d;cases e)
  |_=>simp only[bG]at d;(repeat' split at d)<;>first|(simp at d;done)|(have⟨_,_,e⟩:=ζf.1 d;cases e)|cases d
 |exit id=>
  intro code F H r d h
  cases code with
  |exit T=>simp only[bG,ζa,RC.exit.injEq]at d;subst d;exact h|region id ops u=>simp only[bG]at d;(repeat' split at d)<;>first|(simp at d;done)|(have⟨_,_,e⟩:=ζf.1 d;cases e)
  |_=>simp only[bG]at d;(repeat' split at d)<;>first|(simp at d;done)|(have⟨_,_,e⟩:=ζf.1 d;cases e)|cases d
 |ret=>
  intro code F H r d h
  cases code with
  |ret=>exact h|region id ops u=>simp only[bG]at d;(repeat' split at d)<;>first|(simp at d;done)|(have⟨_,_,e⟩:=ζf.1 d;cases e)
  |_=>simp only[bG]at d;(repeat' split at d)<;>first|(simp at d;done)|(have⟨_,_,e⟩:=ζf.1 d;cases e)|cases d
 |_=>intro code F H r d h;simp[gI]at h
end
def Ex(E:Env)(N:Nat->Zk)(a:RC)(F:Zo)(H:bh)(o:Out)(F':Zo)(H':bh):Prop:=∃n,∀k,n<=k->gI E N (run E k) k a F H=some (o,F',H')
def pG(E:Env)(N:Nat->Zk)(a:RC)(F:Zo)(H:bh)(o:Out)(F':Zo)(H':bh):Prop:=∃n,∀k,n<=k->∀u,n<=u->jQ (gI E N (run E k) k a) u F H=some (o,F',H')
section
variable{E:Env}{N:Nat->Zk}{a b c:RC}{F F1 F':Zo}{H H1 H':bh}{o:Out}{x:Arg}{id:Nat}
theorem Ex.ops{l:Zy}(h:∃n,∀k,n<=k->dc E N (run E k) none l F H=some (F',H')):Ex E N (.ops l) F H .norm F' H':=let⟨n,h⟩:=h;⟨n,λk a=>by simp only[gI,h k a,map_some]⟩
theorem Ex.dG{l:Zy}(h:∀call,dc E N call none l F H=some (F',H')):Ex E N (.ops l) F H .norm F' H':=Ex.ops ⟨0,λk _=>h _⟩
theorem Ex.rH{l:Zy}(B:vW l=true)(h:∀call,dc E N call (some H.length) l F H=some (F',H')):Ex E N (.rH l) F H .norm F' H':=⟨0,λk _=>by simp only[gI,B,if_true,h,map_some]⟩
theorem Ex.JJ{l:Zy}(B:vW l=true)(h:∃n,∀k,n<=k->dc E N (run E k) (some H.length) l F H=some (F',H')):Ex E N (.rH l) F H .norm F' H':=let⟨n,h⟩:=h;⟨n,λk a=>by simp only[gI,B,if_true,h k a,map_some]⟩
theorem Ex.skip:Ex E N .skip F H .norm F H:=⟨0,λ_ _=>rfl⟩
theorem Ex.exit:Ex E N (.exit id) F H (.exit id) F H:=⟨0,λ_ _=>rfl⟩
theorem Ex.ret:Ex E N .ret F H .ret F H:=⟨0,λ_ _=>rfl⟩
theorem Ex.seq(c:Ex E N a F H .norm F1 H1)(B:Ex E N b F1 H1 o F' H'):Ex E N (.seq a b) F H o F' H':=by have⟨n,c⟩:=c;have⟨m,B⟩:=B;exact⟨max n m,λk d=>by simp only[gI,c k Za];exact B k Za⟩
theorem Ex.w8(c:Ex E N a F H o F' H')(B:o≠.norm):Ex E N (.seq a b) F H o F' H':=by have⟨n,c⟩:=c;refine⟨n,λk d=>?_⟩;simp only[gI,c k d];cases o<;>first|exact absurd rfl B|rfl
theorem Ex.qf(B:eM N F x=.bool true)(h:Ex E N a F H o F' H'):Ex E N (.cond x a b) F H o F' H':=by have⟨n,h⟩:=h;exact⟨n,λk c=>by simp only[gI,B,if_true,h k c]⟩
theorem Ex.sW(B:eM N F x=.bool false)(h:Ex E N b F H o F' H'):Ex E N (.cond x a b) F H o F' H':=by have⟨n,h⟩:=h;exact⟨n,λk c=>by simp only[gI,B,false_eq_true,if_false,h k c]⟩
theorem Ex.block(h:Ex E N c F H .norm F' H'):Ex E N (.block id c) F H .norm F' H':=by have⟨n,h⟩:=h;exact⟨n,λk a=>by simp only[gI,h k a]⟩
theorem Ex.B5(h:Ex E N c F H (.exit id) F' H'):Ex E N (.block id c) F H .norm F' H':=by have⟨n,h⟩:=h;exact⟨n,λk a=>by simp only[gI,h k a,if_true]⟩
theorem Ex.Li(h:Ex E N c F H .ret F' H'):Ex E N (.block id c) F H .ret F' H':=by have⟨n,h⟩:=h;exact⟨n,λk a=>by simp only[gI,h k a]⟩
theorem Ex.loop(h:pG E N c F H o F' H'):Ex E N (.loop c) F H o F' H':=by have⟨n,h⟩:=h;exact⟨n,λk a=>h k a k a⟩
theorem pG.step(a:Ex E N c F H .norm F1 H1)(B:pG E N c F1 H1 o F' H'):pG E N c F H o F' H':=by have⟨n,a⟩:=a;have⟨m,B⟩:=B;refine⟨max n m+1,λk b u w=>?_⟩;cases u with|zero=>omega|succ u=>simp only[jQ,a k Za];exact B k Za u Za
theorem pG.stop(a:Ex E N c F H o F' H')(B:o≠.norm):pG E N c F H o F' H':=by have⟨n,a⟩:=a;refine⟨n+1,λk b u w=>?_⟩;cases u with|zero=>omega|succ u=>simp only[jQ,a k Za];cases o<;>first|exact absurd rfl B|rfl
end
theorem Ex.run{E:Env}{nm:Zk->aY Nat}{N:Nat->Zk}(B:∀f s,nm f=some s->N s=f){f:Zk}{fi:FI}{a:RC}(D:E.ft f=some fi)(b:bG ⟨E,nm,fi.ntmps⟩ false fi.body=some a){args:Zu}(G:args.length<=fi.ntmps){H H':bh}{F':Zo}
 (h:Ex E N a args H .ret F' H'){vs:Zu}(c:gX E F' H' fi.results=some vs):∃n,run E n (.fn f) args H=some (result vs,H'):=by
 have⟨n,h⟩:=h;refine⟨n+1,?_⟩;have:=M5 (X:=⟨E,nm,fi.ntmps⟩) (call:=Go.VE.run E n) B (lf:=n) a fi.body args H _ b (h n (le_refl _));simp only[Go.VE.run,jo,D,if_pos G,this,c,map_some]
@[simp] theorem qm(F:Zo)(i j:Nat)(v:V):get (set F i v) j=if i=j then v else get F j:=by
 split;next h=>subst h;exact rz F i v
 rename_i h;exact iQ F v h
def refs:Zv->Zt->Zt
 |id::ids,r::rs=>[V.hsl id 1 0 r.length]::refs ids rs|_,_=>[]
def oq(r:Zu):Zt:=r.map λu=>[u]
structure rR(H:bh)(w:V)(o:Nat)(ids:List Nat)(rows:List (List V)):Prop where
 v:w=if rows=[]then .bD else .hsl o 1 0 rows.length
 ob:rows≠[]->H[o]?=some (.row 1 (refs ids rows))
 len:ids.length=rows.length
 r:∀(i id:Nat)(r:List V),ids[i]?=some id->rows[i]?=some r->H[id]?=some (.row 1 (oq r))
 nd:ids.Nodup
 ne:rows≠[]->o∉ids
theorem wH:∀{ids:Zv}{rows:Zt},ids.length=rows.length->(refs ids rows).length=rows.length
 |[],[],_=>rfl|_::ids,_::rows,h=>by simp only[refs,length_cons,wH (ids:=ids) (rows:=rows) (by simpa using h)]
theorem GK:∀{ids:Zv}{rows:Zt}(id:Nat)(r:Zu),ids.length=rows.length->refs (ids++[id]) (rows++[r])=refs ids rows++[[V.hsl id 1 0 r.length]]
 |[],[],_,_,_=>rfl|_::ids,_::rows,id,r,h=>by simp only[refs,List.cons_append,GK (ids:=ids) (rows:=rows) id r (by simpa using h)]
theorem FD:∀{ids:Zv}{rows:Zt}{i id:Nat}{r:Zu},ids[i]?=some id->rows[i]?=some r->(refs ids rows)[i]?=some [V.hsl id 1 0 r.length]
 |[],_,_,_,_,h,_=>by simp at h|_::_,[],_,_,_,_,h=>by simp at h|a::ids,b::rows,0,id,r,h1,B=>by simp at h1 B;subst h1 B;rfl|a::ids,b::rows,i+1,id,r,h1,B=>by simpa[refs]using FD (ids:=ids) (rows:=rows) (i:=i) (by simpa using h1) (by simpa using B)
theorem EZ:∀{ids:Zv}{rows:Zt}{i:Nat}{r B:Zu},rows[i]?=some r->B.length=r.length->refs ids (rows.set i B)=refs ids rows
 |[],_,_,_,_,_,_=>by simp[refs]|_::_,[],_,_,_,_,_=>by simp[refs]|a::ids,b::rows,0,r,B,h,D=>by simp at h;subst h;simp only[List.set_cons_zero,refs,D]|a::ids,b::rows,i+1,r,B,h,D=>by simp only[List.set_cons_succ,refs,EZ (ids:=ids) (rows:=rows) (i:=i) (by simpa using h) D]
section
variable{H H':bh}{v:V}{o:Nat}{ids:Zv}{rows:Zt}
theorem rR.nil(H:bh)(o:Nat):rR H .bD o [] []:=⟨rfl,λh=>absurd rfl h,rfl,λi id r h=>by simp at h,.nil,λh=>absurd rfl h⟩
theorem rR.heap(n:rR H v o ids rows)(B:rows≠[]->H'[o]?=H[o]?)(D:∀id∈ids,H'[id]?=H[id]?):rR H' v o ids rows:=⟨n.v,λh=>by rw[B h];exact n.ob h,n.len,λi id r h1 u=>by rw[D id (mem_of_getElem? h1)];exact n.r i id r h1 u,n.nd,n.ne⟩
theorem rR.lt(n:rR H v o ids rows):(rows≠[]->o<H.length)/\∀id∈ids,id<H.length:=by refine⟨λh=>(ζe.1 (n.ob h)).1,λid u=>?_⟩;have⟨i,w⟩:=getElem?_of_mem u;have z:=(ζe.1 w).1;have:=n.r i id _ w (ζd (show i<rows.length from n.len▸z));exact(ζe.1 this).1
theorem rR.more(n:rR H v o ids rows)(X:bh):rR (H++X) v o ids rows:=n.heap (λh=>getElem?_append_left (n.lt.1 h)) λid u=>getElem?_append_left (n.lt.2 id u)
theorem rR.push(n:rR H v o ids rows)(r:Zu)(U:rows.length+1<=2147483648):
 ∃H',eA (H++[.row 1 (oq r)]++[.row 1 [[.hsl H.length 1 0 r.length]]]) (.append 1) [v,.hsl (H.length+1) 1 0 1]=some (.hsl (H.length+2) 1 0 (rows.length+1),H')/\
  rR H' (.hsl (H.length+2) 1 0 (rows.length+1)) (H.length+2) (ids++[H.length]) (rows++[r])/\H.length<=H'.length/\(∀id,id<H.length->id≠o\/rows=[]->H'[id]?=H[id]?):=by
 generalize D:H++[.row 1 (oq r)]++[.row 1 [[.hsl H.length 1 0 r.length]]]=H2;have u:H2.length=H.length+2:=by subst D;simp
 have B:∀id,id<H.length->H2[id]?=H[id]?:=λid h=>by subst D;rw[append_assoc,getElem?_append_left h]
 have g:H2[H.length]?=some (.row 1 (oq r)):=by subst D;simp
 have W:H2[H.length+1]?=some (.row 1 [[.hsl H.length 1 0 r.length]]):=by subst D;simp
 have f:=n.v;have e2:dg H2 1 (.hsl (H.length+1) 1 0 1)=some [[.hsl H.length 1 0 r.length]]:=by simp[dg,W,Ob.rows]
 by_cases c:rows=[]
 .subst c;rw[if_pos rfl]at f;subst f;have:ids=[]:=List.eq_nil_of_length_eq_zero n.len;subst this;refine⟨H2++[.row 1 [[.hsl H.length 1 0 r.length]]],?_,⟨Zc,λ_=>by rw[<-u];simp[refs],rfl,λi id Q z w=>?_,Zc,λ_=>Zc⟩,by simp[u];omega,λid G _=>?_⟩
  .have e1:dg H2 1 .bD=some []:=rfl;simp only[eA,e1,e2,fP,List.length_nil,length_singleton,map_some,u];simp
  .cases i with
   |zero=>simp at z w;subst z w;rw[getElem?_append_left Za];exact g|succ i=>simp at z
  rw[getElem?_append_left Za];exact B id G
 rw[if_neg c]at f;subst f;have S:=n.ob c;have J:=n.lt.1 c;have e1:dg H2 1 (.hsl o 1 0 rows.length)=some (refs ids rows):=by simp only[dg,if_true,B o J,S,ζb,Ob.rows,wH n.len,zero_add,le_refl,List.drop_zero];rw[take_of_length_le (by rw[wH n.len];exact le_refl _)]
 have X:fP H2 (.hsl o 1 0 rows.length)=some (H2.set o .dead):=by simp only[fP,B o J,S]
 have C:∀id,id≠o->(H2.set o Ob.dead++[Ob.row 1 (refs ids rows++[[.hsl H.length 1 0 r.length]])])[id]?=if id<H2.length then H2[id]?else(H2.set o Ob.dead++[Ob.row 1 (refs ids rows++[[.hsl H.length 1 0 r.length]])])[id]?:=λid I=>by split;(next h=>rw[getElem?_append_left (by simpa using h),getElem?_set_ne (Ne.symm I)]);rfl
 refine⟨H2.set o .dead++[.row 1 (refs ids rows++[[.hsl H.length 1 0 r.length]])],?_,⟨Zc,λ_=>?_,by simp[n.len],λi id Q z w=>?_,?_,λ_ d=>?_⟩,by simp[u];omega,λid G I=>?_⟩
 .simp only[eA,e1,e2,X,wH n.len,length_singleton,U,if_true,map_some,u]
 .rw[GK _ _ n.len,<-u];simp
 .have L:id≠o:=by
   rcases Nat.lt_or_ge i ids.length with h|h
   .rw[getElem?_append_left h]at z;intro e;subst e;exact n.ne c (mem_of_getElem? z)
   have:i=ids.length:=by have:=(ζe.1 z).1;simp at this;omega
   subst this;simp at z;subst z;omega
  rcases Nat.lt_or_ge i ids.length with h|h
  .rw[getElem?_append_left h]at z;rw[getElem?_append_left (by rw[<-n.len];exact h)]at w
   have O:=n.lt.2 id (mem_of_getElem? z);rw[C id L,if_pos Za,B id O]
   exact n.r i id Q z w
  have:i=ids.length:=by have:=(ζe.1 z).1;simp at this;omega
  subst this;simp at z;subst z;rw[n.len]at w;simp at w;subst w;rw[C _ L,if_pos Za];exact g
 .rw[List.nodup_append];exact⟨n.nd,Zc,λa Y b T=>by simp at T;subst T;exact Nat.ne_of_lt (n.lt.2 a Y)⟩
 .rcases mem_append.1 d with d|d
  .have:=n.lt.2 _ d;omega
  simp at d
 rw[C id (I.resolve_right c),if_pos Za];exact B id G
end
theorem Pb{E:Env}{N:Nat->Zk}{F:Zo}{H H1:bh}{call:di}{b:aY Nat}{o:RO}{l:Zy}{v:V}{r:Zo×bh}(a:o.gd=none)(c:i_ E N call b o.now o.k (o.az.map (eM N F)) H=some (v,H1))(h:dc E N call b l (jZ F o.dst v) H1=some r):dc E N call b (o::l) F H=some r:=by simp only[dc,a,c];exact h
theorem vp{E:Env}{N:Nat->Zk}{F:Zo}{H:bh}{call:di}{b:aY Nat}{o:RO}{l:Zy}{v:V}{r:Zo×bh}(a:o.gd=none)(c:i_ E N call b o.now o.k (o.az.map (eM N F)) H=some (v,H))(h:dc E N call b l (jZ F o.dst v) H=some r):dc E N call b (o::l) F H=some r:=Pb a c h
theorem tQ{E:Env}{N:Nat->Zk}{F:Zo}{H:bh}{call:di}{b:aY Nat}:dc E N call b [] F H=some (F,H):=rfl
theorem KR{n:Nat}(h:n<=2147483648):wrap .i64 ((n:Int)+1)=((n+1:Nat):Int):=by simp[wrap,IntKind.bits,signed];omega
theorem Ug{n:Nat}(h:n<=2147483648):wrap .i64 (((n+1:Nat):Int)-1)=(n:Int):=by simp[wrap,IntKind.bits,signed];omega
theorem Fv(H:bh):H.take H.length=H:=List.take_length
theorem AS{E:Env}{nm:Zk->aY Nat}{f:Zk}{a:RC}{n:Nat}{rs:aX ResultVar}(h:((E.ft f).map λfi=>(bG ⟨E,nm,fi.ntmps⟩ false fi.body,ble n fi.ntmps,fi.results))=some (some a,true,rs)):
 ∃fi,E.ft f=some fi/\bG ⟨E,nm,fi.ntmps⟩ false fi.body=some a/\n<=fi.ntmps/\fi.results=rs:=by
 have⟨fi,b,u⟩:=ζf.1 h;simp only[ζc]at u;exact⟨fi,b,u.1,Nat.le_of_ble_eq_true u.2.1,u.2.2⟩
theorem Dk{x:V}(h:x.one=true):x.cells=[x]:=by cases x<;>first|rfl|(simp[V.one]at h)
theorem Th{call:di}{f:Zk}{args az:Zu}{H:bh}(h:borrows call.lv H args=some az)(a:∀x∈az,x.closed=true):bS call f args H=bS call f az []:=by
 have:borrows call.lv [] az=some az:=by clear h;unfold borrows;induction az with|nil=>rfl|cons x l u=>simp only[gR,dW call.lv [] (a x Zc),u λy w=>a y (List.mem_cons_of_mem _ w)]
 unfold bS;rw[h,this]
def kept(t:Nat->Zl)(n:Nat):Zv:=(range n).filter λi=>i==0|| !t i
theorem uT(t:Nat->Zl)(n:Nat):kept t (n+1)=kept t n++if n==0|| !t n then[n]else[]:=by unfold kept;rw[List.range_succ,List.filter_append,List.filter_cons];rfl
theorem zw(t:Nat->Zl):∀n,(kept t n).length<=n:=λn=>by unfold kept;exact Nat.le_trans (List.length_filter_le ..) Zc
theorem HO{t:Nat->Zl}{n i:Nat}(h:i∈kept t n):i<n:=by unfold kept at h;exact mem_range.1 (List.mem_filter.1 h).1
theorem Ak{t:Nat->Zl}:∀n,(∀i,0<i->i<n->t i=false)->kept t n=range n
 |0,_=>rfl|n+1,h=>by rw[uT,Ak n λi a B=>h i a Za,List.range_succ];congr 1;cases n with|zero=>rfl|succ n=>rw[h (n+1) Za Za];simp
theorem xG{t:Nat->Zl}{k:Nat}(B:0<k)(a:t k=true):∀n,k<n->(kept t n).length+1<=n
 |0,h=>Za|n+1,h=>by rw[uT];by_cases e:n=k;subst e;have:(n==0|| !t n)=false:=(by simp[a];omega);rw[this];have:=zw t n;simp;omega;have:=xG B a n Za;split<;>simp<;>omega
namespace cmpX
instance{n:Nat}:OfNat Arg n:=⟨.s n⟩
def r1:Zy:=[o1 4 (.k (.bD)) []]
def r2:Zy:=[o1 8 0 [],o2 9 (.p .lenSl) [8] [],o2 10 (.p (.bin (some .int) none .lss)) [9,.k (.int .i64 2)] []]
def r3:Zy:=[o1 11 0 [],o1 4 11 []]
def r4:Zy:=[o1 5 (.k (.int .i64 1)) []]
def r5:Zy:=[o1 12 5 [],o1 13 0 [],o2 14 (.p .lenSl) [13] [],o2 15 (.p (.bin (some .int) none .lss)) [12,14] []]
def on(d:Nat)(k:K)(az:Z4):RO:=⟨some d,none,true,k,az,[],[]⟩
def r6:Zy:=[o1 18 1 [],o1 19 0 [],o1 20 5 [],o2 21 (.p (.idxS 1)) [19,20] [],o2 22 (.r (.load 1 false)) [21] [],o1 23 0 [],o1 24 5 [],o2 25 (.p (.bin (some .int) none .sub)) [24,.k (.int .i64 1)] [],o2 26 (.p (.idxS 1)) [23,25] [],o2 27 (.r (.load 1 false)) [26] [],on 28 .c [18,22,27]]
def r7:Zy:=[o1 29 0 [],o1 30 5 [],o2 31 (.p (.slice 1 true false)) [29,30] [],o1 6 31 []]
def r8:Zy:=[o1 7 (.k (.int .i64 1)) []]
def r9:Zy:=[o1 32 7 [],o1 33 6 [],o2 34 (.p .lenSl) [33] [],o2 35 (.p (.bin (some .int) none .lss)) [32,34] []]
def GF:Zy:=[o1 38 1 [],o1 39 6 [],o1 40 7 [],o2 41 (.p (.idxS 1)) [39,40] [],o2 42 (.r (.load 1 false)) [41] [],o1 43 6 [],o1 44 7 [],o2 45 (.p (.bin (some .int) none .sub)) [44,.k (.int .i64 1)] [],o2 46 (.p (.idxS 1)) [43,45] [],o2 47 (.r (.load 1 false)) [46] [],on 48 .c [38,42,47],on 49 (.p (.not)) [48]]
def GM:Zy:=[o1 50 0 [],o1 51 5 [],o1 52 6 [],o1 53 7 [],o2 54 (.p (.idxS 1)) [52,53] [],o2 55 (.r (.load 1 false)) [54] [],o2 56 (.p (.idxS 1)) [50,51] [],⟨none,none,false,.l (.store 1),[56,55],[],[]⟩]
def FZ:Zy:=[o1 57 5 [],o2 58 (.p (.bin (some .int) none .add)) [57,.k (.int .i64 1)] [],o1 5 58 []]
def FL:Zy:=[o1 36 7 [],o2 37 (.p (.bin (some .int) none .add)) [36,.k (.int .i64 1)] [],o1 7 37 []]
def UB:RC:=.seq (.seq (.ops r9) (.cond (.s 35) (.skip) (.exit 2))) (.seq (.block 3 (.seq (.rH GF) (.cond (.s 49) (.seq (.ops GM) (.ops FZ)) (.skip)))) (.ops FL))
def EE:Zy:=[o1 59 0 [],o1 60 5 [],o2 61 (.p (.slice 1 true false)) [59,60] [],⟨none,none,false,.l (.clear 1 [.bD]),[61],[],[]⟩]
def Fh:Zy:=[o1 62 0 [],o1 63 5 [],o2 64 (.p (.slice 1 false true)) [62,63] [],o1 4 64 []]
def r16:Zy:=[o1 16 5 [],o2 17 (.p (.bin (some .int) none .add)) [16,.k (.int .i64 1)] [],o1 5 17 []]
def Px:RC:=.seq (.seq (.ops r5) (.cond (.s 15) (.skip) (.exit 0))) (.seq (.block 1 (.seq (.rH r6) (.cond (.s 28) (.seq (.ops r7) (.seq (.seq (.ops r8) (.block 2 (.loop UB))) (.seq (.ops EE) (.seq (.ops Fh) (.ret))))) (.skip)))) (.ops r16))
def Tk:Zy:=[o1 65 0 [],o1 4 65 []]
def code:RC:=.seq (.ops r1) (.seq (.seq (.ops r2) (.cond (.s 10) (.seq (.ops r3) (.ret)) (.skip))) (.seq (.seq (.ops r4) (.block 0 (.loop Px))) (.seq (.ops Tk) (.ret))))
section
variable{E:Env}{N:Nat->Zk}{F:Zo}{H:bh}{call:di}{id off L k:Nat}
theorem ld{B:Zt}{el:Nat}{v:V}(h:H[id]?=some (.row 1 B))(a:B[el]?=some [v]):eG H (.load 1 false) [.hptr id el 0]=some v:=by simp[eG,dZ,h,Ob.rows,a,cut,mk]
theorem OU{i:Nat}(h:i<L):kF 1 (.hsl id 1 off L) (i:Int)=some (.hptr id (off+i) 0):=by unfold kF;rw[if_neg Za];simp[h]
attribute [local simp] dc i_ eM bH jZ qm mc qz eG
theorem x2(a:get F 0=.hsl id 1 off L):∃F',(∀call,dc E N call none r2 F H=some (F',H))/\get F' 10=.bool (decide ((L:Int)<2))/\(∀s,s<8->get F' s=get F s):=by refine⟨_,λcall=>by simp[r2,a,mK];rfl,Zc,?_⟩;simp;grind
theorem x5(a:get F 0=.hsl id 1 off L)(b:get F 5=.int .i64 k):∃F',(∀call,dc E N call none r5 F H=some (F',H))/\get F' 15=.bool (decide (k<L))/\(∀s,s<8->get F' s=get F s):=by refine⟨_,λcall=>by simp[r5,a,b,mK];rfl,Zc,?_⟩;simp;grind
theorem Sg{g:Zk}{cb:Zu}{B:Zt}{o2 L2 i:Nat}{a b:V}{t:Zl}(h:H[id]?=some (.row 1 B))(G:i+1<L2)(D:i<=2147483648)(J:B[o2+(i+1)]?=some [a])(O:B[o2+i]?=some [b])(d:E.keep g=false)(e:get F 1=.clo g [] cb):
 (get F 0=.hsl id 1 o2 L2->get F 5=.int .i64 ((i+1:Nat):Int)->∃F',(∀call,bS call g (a::b::cb) H=some (.bool t)->dc E N call (some H.length) r6 F H=some (F',H))/\get F' 28=.bool t/\(∀s,s<8->get F' s=get F s))/\
 (get F 6=.hsl id 1 o2 L2->get F 7=.int .i64 ((i+1:Nat):Int)->∃F',(∀call,bS call g (a::b::cb) H=some (.bool t)->dc E N call (some H.length) GF F H=some (F',H))/\get F' 49=.bool (!t)/\(∀s,s<8->get F' s=get F s)):=by
 have u:=Ug D;have e1:=ld h J;have e2:=ld h O;have i1:=OU (id:=id) (off:=o2) (L:=L2) G;have i2:=OU (id:=id) (off:=o2) (L:=L2) (show i<L2 by omega)
 simp at i1 u;refine⟨λf j=>⟨_,λcall c=>by simp[-eG,r6,on,f,e,j,i1,i2,e1,e2,u,d,c,V.scalar,Fv];rfl,Zc,?_⟩,λf6 k=>⟨_,λcall c=>by simp[-eG,GF,on,e,f6,k,i1,i2,e1,e2,u,d,c,V.scalar,Fv];rfl,Zc,?_⟩⟩<;>exactλs w=>by simp;repeat (rw[if_neg Za])
end
end cmpX
namespace cmpX
section
variable{E:Env}{N:Nat->Zk}{F:Zo}{H:bh}{call:di}{id off L k:Nat}
attribute [local simp] dc i_ eM bH jZ qm mc qz eG
theorem x7(a:get F 0=.hsl id 1 off L)(b:get F 5=.int .i64 k)(c:k<=L):∃F',(∀call,dc E N call none r7 F H=some (F',H))/\get F' 6=.hsl id 1 (off+k) (L-k)/\(∀s,s<8->s≠6->get F' s=get F s):=by
 have e:gQ 1 (.hsl id 1 off L) (some k) none=some (.hsl id 1 (off+k) (L-k)):=by unfold gQ dx;grind
 refine⟨_,λcall=>by simp[r7,a,b,lH,e];rfl,Zc,?_⟩;simp;grind
theorem x9{o2 L2 m:Nat}(f6:get F 6=.hsl id 1 o2 L2)(a:get F 7=.int .i64 m):∃F',(∀call,dc E N call none r9 F H=some (F',H))/\get F' 35=.bool (decide (m<L2))/\(∀s,s<8->get F' s=get F s):=by refine⟨_,λcall=>by simp[r9,f6,a,mK];rfl,Zc,?_⟩;simp;grind
theorem Vz{B:Zt}{o2 L2 m p:Nat}{a z:V}(h:H[id]?=some (.row 1 B))(c:get F 0=.hsl id 1 off L)(d:get F 5=.int .i64 p)(f6:get F 6=.hsl id 1 o2 L2)(e:get F 7=.int .i64 m)(D:m<L2)(G:p<L)
 (J:B[o2+m]?=some [a])(O:B[off+p]?=some [z])(b:a.one=true):
 ∃F',(∀call,dc E N call none GM F H=some (F',H.set id (.row 1 (B.set (off+p) [a]))))/\(∀s,s<8->get F' s=get F s):=by
 have i1:=OU (id:=id) (off:=o2) D;have i2:=OU (id:=id) (off:=off) G;have e1:=ld h J;have u:eA H (.store 1) [.hptr id (off+p) 0,a]=some (.undef,H.set id (.row 1 (B.set (off+p) [a]))):=by simp[eA,h,O,Dk b,b]
 refine⟨_,λcall=>by simp[-eG,GM,c,d,f6,e,i1,i2,e1,u];rfl,?_⟩
 simp;grind
theorem JM{p:Nat}(B:p<=2147483648):(get F 5=.int .i64 p->∃F',(∀call,dc E N call none FZ F H=some (F',H))/\get F' 5=.int .i64 ((p+1:Nat):Int)/\(∀s,s<8->s≠5->get F' s=get F s))/\
 (get F 7=.int .i64 p->∃F',(∀call,dc E N call none FL F H=some (F',H))/\get F' 7=.int .i64 ((p+1:Nat):Int)/\(∀s,s<8->s≠7->get F' s=get F s))/\
 (get F 5=.int .i64 p->∃F',(∀call,dc E N call none r16 F H=some (F',H))/\get F' 5=.int .i64 ((p+1:Nat):Int)/\(∀s,s<8->s≠5->get F' s=get F s)):=by
 have u:=KR B;refine⟨λf=>⟨_,λcall=>by simp[FZ,f,u];rfl,Zc,?_⟩,λf=>⟨_,λcall=>by simp[FL,f,u];rfl,Zc,?_⟩,λf=>⟨_,λcall=>by simp[r16,f,u];rfl,Zc,?_⟩⟩<;>
  (simp;grind)
theorem Vu{B:Zt}{p:Nat}(h:H[id]?=some (.row 1 B))(a:get F 0=.hsl id 1 off L)(b:get F 5=.int .i64 p)(D:p<L)(G:off+L<=B.length):
 ∃F',(∀call,dc E N call none EE F H=some (F',H.set id (.row 1 (B.take (off+p)++replicate (L-p) [.bD]++B.drop (off+L)))))/\(∀s,s<8->get F' s=get F s):=by
 have e:gQ 1 (.hsl id 1 off L) (some p) none=some (.hsl id 1 (off+p) (L-p)):=by unfold gQ dx;grind
 obtain⟨q,u⟩:∃q,L-p=q+1:=⟨L-p-1,Za⟩
 have c:eA H (.clear 1 [.bD]) [.hsl id 1 (off+p) (L-p)]=some (.undef,H.set id (.row 1 (B.take (off+p)++replicate (L-p) [.bD]++B.drop (off+L)))):=by simp[eA,Bu,u,h];grind
 refine⟨_,λcall=>by simp[EE,a,b,lH,e,c];rfl,?_⟩
 simp;grind
theorem VC{p:Nat}(a:get F 0=.hsl id 1 off L)(b:get F 5=.int .i64 p)(B:p<=L):∃F',(∀call,dc E N call none Fh F H=some (F',H))/\get F' 4=.hsl id 1 off p:=by
 have e:gQ 1 (.hsl id 1 off L) none (some p)=some (.hsl id 1 off p):=by unfold gQ dx;grind
 exact⟨_,λcall=>by simp[Fh,a,b,lH,e];rfl,Zc⟩
theorem Vv:∃F',(∀call,dc E N call none Tk F H=some (F',H))/\get F' 4=get F 0:=⟨_,λcall=>by simp[Tk];rfl,Zc⟩
theorem OB:∃F',(∀call,dc E N call none r3 F H=some (F',H))/\get F' 4=get F 0:=⟨_,λcall=>by simp[r3];rfl,Zc⟩
end
structure Es(E:Env)(g:FuncId)(cb:List V)(H:bh)(id off L:Nat)(rs:List (List V))(A:Nat->V)(t:Nat->Bool):Prop where
 row:H[id]?=some (.row 1 rs)
 len:off+L<=rs.length
 small:L<=2147483648
 at_:∀i,i<L->rs[off+i]?=some [A i]
 one:∀i,i<L->(A i).one=true
 keep:E.keep g=false
 cmp:∃n,∀k,n<=k->∀i,i+1<L->∀cur,bS (run E k) g (A (i+1)::A i::cb) (H.set id (.row 1 cur))=some (.bool (t (i+1)))
structure Head(g:FuncId)(cb:List V)(id off L kk m:Nat)(rs:List (List V))(A:Nat->V)(t:Nat->Bool)(F:Frame)(cur:List (List V)):Prop where
 f0:get F 0=.hsl id 1 off L
 f1:get F 1=.clo g [] cb
 f5:get F 5=.int .i64 ((kept t (kk+m)).length:Nat)
 f6:get F 6=.hsl id 1 (off+kk) (L-kk)
 f7:get F 7=.int .i64 m
 len:cur.length=rs.length
 pre:∀p i,(kept t (kk+m))[p]?=some i->cur[off+p]?=some [A i]
 post:∀i,kk+m<=i+1->i<L->cur[off+i]?=some [A i]
 out:∀j,j<off\/off+L<=j->cur[j]?=rs[j]?
 cell:∀i,i<L->∃j,j<L/\cur[off+i]?=some [A j]
section
variable{E:Env}{N:Nat->Zk}{g:Zk}{cb:Zu}{H:bh}{id off L kk:Nat}{rs:Zt}{A:Nat->V}{t:Nat->Zl}
theorem TA(X:Es E g cb H id off L rs A t)(x:0<kk)(ah:kk<L)(y:t kk=true):∀(d m:Nat)(F:Zo)(B:Zt),kk+m+d=L->0<m->Head g cb id off L kk m rs A t F B->
 ∃F' D,pG E N UB F (H.set id (.row 1 B)) (.exit 2) F' (H.set id (.row 1 D))/\Head g cb id off L kk (L-kk) rs A t F' D:=by
 have O:=(ζe.1 X.row).1;have G:∀B,(H.set id (.row 1 B))[id]?=some (.row 1 B):=λB=>getElem?_set_self O
 have ai:=X.small;have af:=X.len;intro d
 induction d with
 |zero=>
  intro m F B M P h;have R:m=L-kk:=Za
  subst R;obtain⟨F1,e1,e2,e3⟩:=x9 h.f6 h.f7;refine⟨F1,B,pG.stop (Ex.w8 (Ex.seq (Ex.dG e1) (Ex.sW (by simp[eM,e2]) Ex.exit)) Zc) Zc,?_⟩
  exact⟨by rw[e3 0 Za];exact h.f0,by rw[e3 1 Za];exact h.f1,by rw[e3 5 Za];exact h.f5,by rw[e3 6 Za];exact h.f6,by rw[e3 7 Za];exact h.f7,h.len,h.pre,h.post,h.out,h.cell⟩
 |succ d ih=>
  intro m F B M P h;obtain⟨F1,a1,a2,a3⟩:=x9 h.f6 h.f7;have T:eM N F1 35=.bool true:=by show get F1 35=_;rw[a2,decide_eq_true Za]
  obtain⟨m',rfl⟩:∃m',m=m'+1:=⟨m-1,Za⟩
  obtain⟨n0,ab⟩:=X.cmp;have q:B[off+kk+(m'+1)]?=some [A (kk+m'+1)]:=by have:=h.post (kk+m'+1) Za Za;grind
  have c2:B[off+kk+m']?=some [A (kk+m')]:=by have:=h.post (kk+m') Za Za;grind
  obtain⟨F2,b1,b,b3⟩:=(Sg (L2:=L-kk) (G B) Za Za q c2 X.keep (by rw[a3 1 Za];exact h.f1)).2 (by rw[a3 6 Za];exact h.f6) (by rw[a3 7 Za];exact h.f7)
  have U:∃n,∀k,n<=k->dc E N (run E k) (some (H.set id (.row 1 B)).length) GF F1 (H.set id (.row 1 B))=some (F2,H.set id (.row 1 B)):=⟨n0,λk hk=>b1 _ (ab k hk (kk+m') Za B)⟩
  have w:=λs r=>(b3 s r).trans (a3 s r)
  have ad:(kept t (kk+(m'+1))).length+1<=kk+(m'+1):=xG x y _ Za
  have u:kept t (kk+(m'+1)+1)=kept t (kk+(m'+1))++if t (kk+m'+1)then[]else[kk+m'+1]:=by rw[uT];grind
  have z:kk+(m'+1+1)=kk+(m'+1)+1:=Za
  cases W:t (kk+m'+1)with
  |true=>
   rw[W]at b u;simp at u;obtain⟨v,Y,c,Q⟩:=(JM (p:=m'+1) Za).2.1 (by rw[w 7 Za];exact h.f7)
   obtain⟨F',D,i1,i2⟩:=ih (m'+1+1) v B Za Za ⟨by rw[Q 0 Za Za,w 0 Za];exact h.f0,by rw[Q 1 Za Za,w 1 Za];exact h.f1,
    by rw[Q 5 Za Za,w 5 Za,z,u];exact h.f5,by rw[Q 6 Za Za,w 6 Za];exact h.f6,c,h.len,by rw[z,u];exact h.pre,λi a Z=>h.post i Za Z,h.out,h.cell⟩
   exact⟨F',D,pG.step (Ex.seq (Ex.seq (Ex.dG a1) (Ex.qf T Ex.skip)) (Ex.seq (Ex.block (Ex.seq (Ex.JJ (by decide) U) (Ex.sW (by simp[eM,b]) Ex.skip))) (Ex.dG Y))) i1,i2⟩
  |false=>
   rw[W]at b u;generalize f:(kept t (kk+(m'+1))).length=K at *;obtain⟨_,_,hz⟩:=h.cell K Za
   obtain⟨v,Y,c⟩:=Vz (G B) (by rw[w 0 Za];exact h.f0) (by rw[w 5 Za,h.f5,f]) (by rw[w 6 Za];exact h.f6) (by rw[w 7 Za];exact h.f7) Za Za q hz (X.one _ Za)
   rw[set_set]at Y;generalize I:B.set (off+K) [A (kk+m'+1)]=J at Y;have l:∀j,J[j]?=if j=off+K then some [A (kk+m'+1)]else B[j]?:=λj=>by rw[<-I,List.getElem?_set];by_cases e:off+K=j;rw[if_pos e,if_pos e.symm,if_pos (by rw[h.len];omega)];rw[if_neg e,if_neg (Ne.symm e)]
   obtain⟨F4,Q,q4,q5⟩:=(JM (p:=K) Za).1 (by rw[c 5 Za,w 5 Za,h.f5,f])
   have C:∀s,s<8->s≠5->get F4 s=get F s:=λs a Z=>by rw[q5 s a Z,c s a,w s a]
   obtain⟨F5,q6,q7,o⟩:=(JM (p:=m'+1) Za).2.1 (by rw[C 7 Za Za];exact h.f7)
   obtain⟨F',D,i1,i2⟩:=ih (m'+1+1) F5 J Za Za ⟨by rw[o 0 Za Za,C 0 Za Za];exact h.f0,by rw[o 1 Za Za,C 1 Za Za];exact h.f1,
    by rw[o 5 Za Za,q4,z,u,ζi,f];rfl,by rw[o 6 Za Za,C 6 Za Za];exact h.f6,q7,by rw[<-I,List.length_set];exact h.len,
    λp i S=>by rw[z,u]at S;rw[l];by_cases e:p=K;subst e;rw[<-f,getElem?_append_right (le_refl _),Nat.sub_self]at S;cases S;rw[if_pos rfl];have ae:p<(kept t (kk+(m'+1))).length:=(by have:=(ζe.1 S).1;simp at this;omega);rw[getElem?_append_left ae]at S;rw[if_neg Za];exact h.pre p i S,
    λi a Z=>by rw[l,if_neg Za];exact h.post i Za Z,λj hj=>by rw[l,if_neg Za];exact h.out j hj,
    λi hi=>by rw[l];by_cases e:off+i=off+K;rw[if_pos e];exact⟨_,Za,rfl⟩;rw[if_neg e];exact h.cell i hi⟩
   exact⟨F',D,pG.step (Ex.seq (Ex.seq (Ex.dG a1) (Ex.qf T Ex.skip)) (Ex.seq (Ex.block (Ex.seq (Ex.JJ (by decide) U) (Ex.qf (by simp[eM,b]) (Ex.seq (Ex.dG Y) (Ex.dG Q))))) (Ex.dG q6))) i1,i2⟩
structure Ni(off L:Nat)(rs:List (List V))(A:Nat->V)(t:Nat->Bool)(rs':List (List V)):Prop where
 len:rs'.length=rs.length
 pre:∀p i,(kept t L)[p]?=some i->rs'[off+p]?=some [A i]
 all:∀c∈rs',c∈rs\/c=[.bD]
theorem TO(X:Es E g cb H id off L rs A t):∀(d k:Nat)(F:Zo),k+d=L->0<k->(∀i,0<i->i<k->t i=false)->get F 0=.hsl id 1 off L->get F 1=.clo g [] cb->get F 5=.int .i64 k->
 (∃F',pG E N Px F H (.exit 0) F' H/\get F' 0=.hsl id 1 off L/\∀i,0<i->i<L->t i=false)\/
 (∃F' D,pG E N Px F H .ret F' (H.set id (.row 1 D))/\get F' 4=.hsl id 1 off (kept t L).length/\Ni off L rs A t D):=by
 have Q:=(ζe.1 X.row).1;have S:=qd X.row;have ah:=X.small;have af:=X.len;intro d
 induction d with
 |zero=>
  intro k F he v l b y e;have ek:k=L:=Za
  subst ek;obtain⟨F1,e1,e2,e3⟩:=x5 (N:=N) b e;exact .inl ⟨F1,pG.stop (Ex.w8 (Ex.seq (Ex.dG e1) (Ex.sW (by simp[eM,e2]) Ex.exit)) Zc) Zc,Zd,l⟩
 |succ d ih=>
  intro k F he v l b y e;obtain⟨F1,a1,a2,a3⟩:=x5 b e;have U:eM N F1 15=.bool true:=by show get F1 15=_;rw[a2,decide_eq_true Za]
  obtain⟨u,rfl⟩:∃u,k=u+1:=⟨k-1,Za⟩
  obtain⟨n0,ai⟩:=X.cmp;obtain⟨M,b1,f,b3⟩:=(Sg (N:=N) (cb:=cb) (g:=g) (i:=u) (L2:=L) (t:=t (u+1)) X.row Za Za (X.at_ _ Za) (X.at_ _ Za) X.keep (by rw[a3 1 Za];omega)).1 Zd Zd
  have W:∃n,∀k,n<=k->dc E N (run E k) (some H.length) r6 F1 H=some (M,H):=⟨n0,λk v=>b1 _ (by
   grind)⟩
  have Y:=λs P=>(b3 s P).trans (a3 s P)
  cases w:t (u+1)with
  |false=>
   rw[w]at f;obtain⟨T,m,o,h⟩:=(JM (E:=E) (F:=M) (p:=u+1) Za).2.2 Zd
   have z:Ex E N Px F H .norm T H:=Ex.seq (Ex.seq (Ex.dG a1) (Ex.qf U Ex.skip)) (Ex.seq (Ex.block (Ex.seq (Ex.JJ (by decide) W) (Ex.sW (by simp[eM,f]) Ex.skip))) (Ex.dG m))
   rcases ih (u+1+1) T Za Za (λi R Z=>by
    grind) Zd Ze o with⟨F',i1,i2⟩|⟨F',D,i1,i2⟩
   .exact .inl ⟨F',pG.step z i1,i2⟩
   exact .inr ⟨F',D,pG.step z i1,i2⟩
  |true=>
   rw[w]at f;refine .inr ?_;obtain⟨T,m,o,h⟩:=x7 (E:=E) (N:=N) (H:=H) (k:=u+1) (by rw[Y 0 Za];exact b) (by rw[Y 5 Za];exact e) Za
   have G:kept t (u+1)=range (u+1):=Ak _ l;have V:kept t (u+1+1)=range (u+1):=by rw[uT,G,w];simp
   have q4:∀call,dc E N call none r8 T H=some (set T 7 (.int .i64 1),H):=λcall=>vp rfl (by simp[i_,eM,bH]) tQ
   have h0:Head g cb id off L (u+1) 1 rs A t (set T 7 (.int .i64 1)) rs:=⟨by rw[iQ _ _ Za,h 0 Za Za,Y 0 Za];exact b,by rw[iQ _ _ Za,h 1 Za Za,Y 1 Za];exact y,
    by rw[iQ _ _ Za,h 5 Za Za,Y 5 Za,V,length_range];exact e,by rw[iQ _ _ Za];exact o,by rw[rz];rfl,rfl,
    λp i B=>by rw[V]at B;obtain⟨R,Z⟩:=ζe.1 B;simp at R Z;subst Z;exact X.at_ p Za,λi _ Z=>X.at_ i Z,λ_ _=>rfl,λi hi=>⟨i,hi,X.at_ i hi⟩⟩
   obtain⟨F5,C,l1,I⟩:=TA (N:=N) X Za Za w (L-(u+1)-1) 1 _ rs Za Za h0
   rw[S]at l1;have eL:u+1+(L-(u+1))=L:=Za
   have ae:=xG (t:=t) (k:=u+1) Za w L Za
   have r:=I.f5;have J:=I.pre;rw[eL]at r J;generalize hK:(kept t L).length=K at *;have ab:(H.set id (.row 1 C))[id]?=some (.row 1 C):=getElem?_set_self Q;obtain⟨F6,w1,w2⟩:=Vu (E:=E) (N:=N) (p:=K) ab I.f0 r Za (by rw[I.len];omega)
   rw[set_set]at w1;obtain⟨F7,w3,w4⟩:=VC (E:=E) (by rw[w2 0 Za];exact I.f0) (by rw[w2 5 Za];exact r) Za
   have aj:=I.len;refine⟨F7,C.take (off+K)++replicate (L-K) [.bD]++C.drop (off+L),pG.stop (Ex.seq (Ex.seq (Ex.dG a1) (Ex.qf U Ex.skip)) (Ex.w8 (Ex.Li (Ex.seq (Ex.JJ (by decide) W) (Ex.qf (by simp[eM,f]) (Ex.seq (Ex.dG m) (Ex.seq (Ex.seq (Ex.dG q4) (Ex.B5 (Ex.loop l1))) (Ex.seq (Ex.dG w1) (Ex.seq (Ex.dG w3) Ex.ret))))))) Zc)) Zc,w4,?_,λp i B=>?_,λc a=>?_⟩
   .simp;omega
   .have ak:p<K:=by rw[<-hK];exact(ζe.1 B).1
    rw[append_assoc,getElem?_append_left (by simp;omega),getElem?_take,if_pos Za]
    exact J p i B
   have ad:∀j x,C[j]?=some x->x∈rs:=λj x O=>by by_cases ho:j<off\/off+L<=j;rw[I.out j ho]at O;exact mem_of_getElem? O;obtain⟨i,rfl⟩:∃i,j=off+i:=⟨j-off,Za⟩;obtain⟨q,hq,a⟩:=I.cell i Za;rw[a]at O;cases O;exact mem_of_getElem? (X.at_ q hq)
   rcases mem_append.1 a with a|a
   .rcases mem_append.1 a with a|a
    .obtain⟨j,O⟩:=getElem?_of_mem (List.mem_of_mem_take a);exact .inl (ad j c O)
    exact .inr (List.eq_of_mem_replicate a)
   obtain⟨j,O⟩:=getElem?_of_mem (List.mem_of_mem_drop a);exact .inl (ad j c O)
end
end cmpX
def xm(E:Env)(g:Zk)(cb:Zu)(a b:V):aY Zl:=match AF E g cb a b with|some (.bool c)=>some c|_=>none
theorem R6{E:Env}{g:Zk}{cb:Zu}{a b:V}{c:Zl}(h:xm E g cb a b=some c):∃n,∀k,n<=k->bS (run E k) g (a::b::cb) []=some (.bool c):=by
 unfold xm at h;split at h;next c' d=>cases h;exact CN d
 cases h
def kR(xs:Zt)(i:Nat):V:=iR ((xs[i]?).getD [])
def vZ(E:Env)(es:Nat)(xs:Zt):Zu->aY Zt
 |[.clo g [] cb]=>if xs.isEmpty then some []else if s_ es xs&& !E.keep g then
  if(range xs.length).all λi=>i==0||(xm E g cb (kR xs i) (kR xs (i-1))).isSome then
   some ((kept (λi=>(xm E g cb (kR xs i) (kR xs (i-1))).getD false) xs.length).map λi=>(xs[i]?).getD [])
  else none
  else none
 |_=>none
def qY(E:Env):Dz:=⟨true,vZ E⟩
namespace cmpX
section
variable{E:Env}{N:Nat->Zk}{g:Zk}{cb:Zu}{H:bh}{id off L:Nat}{rs:Zt}{A:Nat->V}{t:Nat->Zl}
theorem whole(X:Es E g cb H id off L rs A t):∃F' B,Ex E N code [.hsl id 1 off L,.clo g [] cb] H .ret F' (H.set id (.row 1 B))/\get F' 4=.hsl id 1 off (kept t L).length/\Ni off L rs A t B:=by
 have u:H.set id (.row 1 rs)=H:=qd X.row;have same:(∀i,0<i->i<L->t i=false)->(kept t L).length=L/\Ni off L rs A t rs:=λh=>by have d:=Ak L h;rw[d,length_range];exact⟨rfl,rfl,λp i Q=>by rw[d]at Q;have⟨a,w⟩:=ζe.1 Q;simp at a w;subst w;exact X.at_ p a,λc b=>.inl b⟩
 have g1:∀call,dc E N call none r1 [.hsl id 1 off L,.clo g [] cb] H=some (set [.hsl id 1 off L,.clo g [] cb] 4 .bD,H):=λcall=>vp (v:=.bD) rfl (by simp[i_,eM,bH]) tQ;have k0:get (set [V.hsl id 1 off L,.clo g [] cb] 4 .bD) 0=.hsl id 1 off L:=rfl;have k1:get (set [V.hsl id 1 off L,.clo g [] cb] 4 .bD) 1=.clo g [] cb:=rfl;generalize set [V.hsl id 1 off L,.clo g [] cb] 4 .bD=S at *;have⟨F1,a1,a2,z⟩:=x2 (E:=E) (N:=N) (H:=H) k0;by_cases T:L<2;have⟨C,D,G⟩:=OB (E:=E) (N:=N) (F:=F1) (H:=H);have⟨e1,e2⟩:=same λi a w=>by omega
 refine⟨C,rs,?_,by rw[e1,G,z 0 Za];exact k0,e2⟩;rw[u];exact Ex.seq (Ex.dG g1) (Ex.w8 (Ex.seq (Ex.dG a1) (Ex.qf (by show get F1 10=_;rw[a2,decide_eq_true Za]) (Ex.seq (Ex.dG D) Ex.ret))) Zc);have g4:∀call,dc E N call none r4 F1 H=some (set F1 5 (.int .i64 1),H):=λcall=>vp (v:=.int .i64 1) rfl (by simp[i_,eM,bH]) tQ;have b:Ex E N (.seq (.ops r2) (.cond (.s 10) (.seq (.ops r3) (.ret)) (.skip))) S H .norm F1 H:=Ex.seq (Ex.dG a1) (Ex.sW (by show get F1 10=_;rw[a2,decide_eq_false Za]) Ex.skip);rcases TO (N:=N) X (L-1) 1 (set F1 5 (.int .i64 1)) Za Za (λi a w=>Za) (by rw[iQ _ _ Za,z 0 Za];exact k0) (by rw[iQ _ _ Za,z 1 Za];exact k1) (by rw[rz];rfl)with⟨F',I,J,O⟩|⟨F',B,I,J,O⟩;have⟨C,D,G⟩:=Vv (E:=E) (N:=N) (F:=F') (H:=H);have⟨e1,e2⟩:=same O;refine⟨C,rs,?_,by rw[e1,G];exact J,e2⟩;rw[u];exact Ex.seq (Ex.dG g1) (Ex.seq b (Ex.seq (Ex.seq (Ex.dG g4) (Ex.B5 (Ex.loop I))) (Ex.seq (Ex.dG D) Ex.ret)));exact⟨F',B,Ex.seq (Ex.dG g1) (Ex.seq b (Ex.w8 (Ex.seq (Ex.dG g4) (Ex.Li (Ex.loop I))) Zc)),J,O⟩
theorem empty{w:V}(c:V)(B:w=.bD\/w=.c7):∃F',Ex E N code [w,c] H .ret F' H/\get F' 4=w:=by
 have g1:∀call,dc E N call none r1 [w,c] H=some (set [w,c] 4 .bD,H):=λcall=>vp (v:=.bD) rfl (by simp[i_,eM,bH]) tQ;have k0:get (set [w,c] 4 .bD) 0=w:=rfl;generalize set [w,c] 4 .bD=u at *;have z:mK w=some (.int .i64 0):=by rcases B with rfl|rfl<;>rfl
 have a1:∃F1,(∀call,dc E N call none r2 u H=some (F1,H))/\get F1 10=.bool true/\get F1 0=w:=by refine⟨_,λcall=>vp (v:=w) rfl ?_<|vp (v:=.int .i64 0) rfl ?_<|vp (v:=.bool true) rfl ?_ tQ,?_,?_⟩;simp[i_,eM,bH,k0];simp[i_,eM,bH,jZ,z];simp[i_,eM,bH,jZ,mc,qz];simp[jZ];simp[jZ,k0]
 have⟨F1,a1,a2,C⟩:=a1;have⟨D,G,I⟩:=OB (E:=E) (N:=N) (F:=F1) (H:=H);exact⟨D,Ex.seq (Ex.dG g1) (Ex.w8 (Ex.seq (Ex.dG a1) (Ex.qf a2 (Ex.seq (Ex.dG G) Ex.ret))) Zc),by rw[I,C]⟩
end
end cmpX
theorem Oc{E:Env}{f:Zk}{nm:Zk->aY Nat}{N:Nat->Zk}(hN:∀f s,nm f=some s->N s=f)(d:E.keep f=true)(ho:E.own f=false)
 (hf:∃fi,E.ft f=some fi/\bG ⟨E,nm,fi.ntmps⟩ false fi.body=some cmpX.code/\2<=fi.ntmps/\fi.results=[.tmp 4]):nq E f (qY E):=by
 have⟨fi,h1,h2,h3,h4⟩:=hf;have G:∀{w c:V}{H H':bh}{F':Zo}{r:V},Ex E N cmpX.code [w,c] H .ret F' H'->get F' 4=r->∃n,∀k,n<=k->run E k (.fn f) [w,c] H=some (r,H'):=λ{w c H H' F' r}K P=>by have⟨n,I⟩:=Ex.run hN h1 h2 (args:=[w,c]) (by simpa using h3) K (vs:=[r]) (by rw[h4];simp[gX,P]);exact⟨n,λk d=>(nL E d).go _ _ _ _ I⟩
 refine⟨d,ho,?_,?_,?_⟩
 .intro es z vs ys h;simp only[qY,vZ]at h;refine⟨?_,λe=>by simp[qY]at e⟩
  split at h
  .split at h
   .cases h;simp
   split at h
   .split at h
    .cases h;simpa using zw _ _
    cases h
   cases h
  cases h
 .intro es vs ys h H Z ws w hw he;simp only[qY,vZ]at h;split at h
  .obtain⟨q,r,rfl,R,t⟩:=hw.inv;rw[t.cF];have⟨F',e1,e2⟩:=cmpX.empty (E:=E) (N:=N) (H:=H) q he;have⟨n,I⟩:=G e1 e2;exact⟨n,[],λk d=>by rw[append_nil];exact I k d⟩
  cases h
 intro es z vs ys h H Z ws id off rs hw T U af L hz;simp only[qY,vZ]at h;split at h
 .rename_i g cb;obtain⟨q,r,rfl,R,t⟩:=hw.inv;rw[t.cF];obtain⟨a',B,rfl,ha,ah⟩:∃a' B,q=.clo g a' B/\cV H Z [] a'/\cV H Z cb B:=R.jy;rw[ha.cF]at *;split at h
  .rename_i he;cases h;have:z=[]:=by simpa using he
   subst this;have e2:∃F',Ex E N cmpX.code [.hsl id es off 0,.clo g [] B] H .ret F' H/\get F' 4=.hsl id es off 0:=by have g1:∀call,dc E N call none cmpX.r1 [.hsl id es off 0,.clo g [] B] H=some (set [.hsl id es off 0,.clo g [] B] 4 .bD,H):=λcall=>vp (v:=.bD) rfl (by simp[i_,eM,bH]) tQ;have k0:get (set [V.hsl id es off 0,.clo g [] B] 4 .bD) 0=.hsl id es off 0:=rfl;generalize set [V.hsl id es off 0,.clo g [] B] 4 .bD=F0 at *;have a1:∃F1,(∀call,dc E N call none cmpX.r2 F0 H=some (F1,H))/\get F1 10=.bool true/\get F1 0=.hsl id es off 0:=(by refine⟨_,λcall=>vp (v:=.hsl id es off 0) rfl ?_<|vp (v:=.int .i64 0) rfl ?_<|vp (v:=.bool true) rfl ?_ tQ,?_,?_⟩;simp[i_,eM,bH,k0];simp[i_,eM,bH,jZ,mK];simp[i_,eM,bH,jZ,mc,qz];simp[jZ];simp[jZ,k0]);have⟨F1,a1,a2,a3⟩:=a1;have⟨F2,b1,b2⟩:=cmpX.OB (E:=E) (N:=N) (F:=F1) (H:=H);exact⟨F2,Ex.seq (Ex.dG g1) (Ex.w8 (Ex.seq (Ex.dG a1) (Ex.qf a2 (Ex.seq (Ex.dG b1) Ex.ret))) Zc),by rw[b2,a3]⟩
   have⟨F',e1,e3⟩:=e2;have⟨n,I⟩:=G e1 e3;refine⟨n,rs,[],λk d=>?_,rfl,⟨rfl,λj u v l=>by simp at l⟩,L⟩
   rw[append_nil,qd T];exact I k d
  rename_i am;split at h
  .rename_i O;simp only[ζh,Bool.not_eq_true']at O;have⟨c1,c3⟩:=O;obtain⟨rfl,W,Y⟩:=wY c1;split at h
   .rename_i aa;cases h;have Q:∀i,i<z.length->∃a,rs[off+i]?=some [a]/\FR H Z (kR z i) a/\a.one=true:=λi C=>by
     have⟨e,p2⟩:=Y i z[i] (ζd C);have S:off+i<rs.length:=Za
     have:=af.2 i z[i] rs[off+i] (ζd C) (by rw[getElem?_take,if_pos C,getElem?_drop,ζd S])
     rw[e]at this;have⟨y,ys,e2,r1,r2⟩:=this.inv;rw[r2.cF]at e2;have e3:kR z i=iR z[i]:=by unfold kR;rw[ζd C];rfl
     exact⟨y,by rw[ζd S,e2],by rw[e3];exact r1,by rw[r1.one];exact p2⟩
    let A:Nat->V:=λi=>match rs[off+i]?with|some (a::_)=>a|_=>.undef
    have m:∀i,i<z.length->rs[off+i]?=some [A i]/\FR H Z (kR z i) (A i)/\(A i).one=true:=λi C=>by have⟨a,p1,p2,p4⟩:=Q i C;have:A i=a:=(by show(match rs[off+i]?with|some (a::_)=>a|_=>V.undef)=a;rw[p1]);rw[this];exact⟨p1,p2,p4⟩
    have ab:∀i,i+1<z.length->∃b,xm E g cb (kR z (i+1)) (kR z i)=some b:=λi C=>by have:=all_eq_true.1 aa (i+1) (mem_range.2 C);simp only[Nat.add_sub_cancel,Bool.or_eq_true]at this;rcases this with h|h;simp at h;exact Option.isSome_iff_exists.1 h
    have X:cmpX.Es E g B H id off z.length rs A (λi=>(xm E g cb (kR z i) (kR z (i-1))).getD false):=by refine⟨T,U,W,λi C=>(m i C).1,λi C=>(m i C).2.2,c3,?_⟩;have⟨M,hM⟩:=CB (n:=z.length-1) (p:=λi k=>bS (run E k) g (kR z (i.1+1)::kR z i.1::cb) []=some (.bool ((xm E g cb (kR z (i.1+1)) (kR z i.1)).getD false))) (λi=>by have⟨b,S⟩:=ab i.1 (by have:=i.2;omega);have⟨n,I⟩:=R6 S;exact⟨n,λk d=>by rw[I k d,S];rfl⟩);have⟨L1,ai⟩:=k_ ((range z.length).map (kR z));have⟨L2,aj⟩:=k_ cb;have ad:∀i k,i<z.length->L1<=k->(kR z i).lvl k=true:=λi k C d=>vP d (lg.1 ai i _ (by simp[C]));refine⟨max M (max L1 L2),λk d i C ae=>?_⟩;have D:∀j,Z j->Z j/\bk (H.set id (.row 1 ae)) j=bk H j:=λj o=>⟨o,by unfold bk;rw[getElem?_set_ne];rintro rfl;exact hz o⟩;have hl:cV (H.set id (.row 1 ae)) Z (kR z (i+1)::kR z i::cb) (A (i+1)::A i::B):=.cons ((m _ C).2.1.mono D) (.cons ((m i Za).2.1.mono D) (ah.mono D));have S:=hl.HW (k:=k) (by simp only[V.kn,ad _ k C Za,ad i k Za Za,nR (by omega:L2<=k) aj,Bool.and_self]);rw[Th (by rw[mY];exact S) (λx K=>?_)];exact hM ⟨i,Za⟩ k Za;have⟨j,o⟩:=getElem?_of_mem K;have⟨y,hy,P⟩:=hl.get o;exact V.kP P.good
    have⟨F',ak,e1,e2,e3⟩:=cmpX.whole (N:=N) X;have⟨n,I⟩:=G e1 e2;refine⟨n,ak,[],λk d=>?_,e3.len,?_,?_⟩
    .simp only[qY,if_true,length_map,append_nil];exact I k d
    .refine⟨by simp[e3.len];have:=zw (λi=>(xm E g cb (kR z i) (kR z (i-1))).getD false) z.length;omega,λp a b hp hq=>?_⟩
     rw[getElem?_map]at hp;obtain⟨i,C,rfl⟩:=ζf.1 hp;have J:=HO (mem_of_getElem? C);have al:=(ζe.1 C).1;rw[getElem?_take,if_pos (by simpa using al),getElem?_drop,e3.pre p i C]at hq
     cases hq;rw[ζd J,getD_some];have e4:=(Y i z[i] (ζd J)).1;have e5:kR z i=iR z[i]:=by unfold kR;rw[ζd J];rfl
     rw[e4,<-e5];exact .cons (m i J).2.1 .nil
    intro c hc u l;rcases e3.all c hc with h|rfl
    .exact L c h u l
    simp at l;subst l;exact⟨.bD,.same _ rfl⟩
   cases h
  cases h
 cases h
def Sl.re{α:Type}(s:Sl α)(l:aX α):Sl α:=match s with|.nil=>.nil|.emp=>.emp|.row _=>.row l|.part _=>.part l
def Sl.rI{α:Type}(s:Sl α)(l:aX α):Sl α:=match s with|.nil=>.nil|.emp=>.emp|.row _|.part _=>.part l
def wS{α:Type}(s:Sl α)(p:α->α->Z6):aY (Sl α):=
 match s.l with
 |[]=>some s|x::l=>if l.length<2147483648 then
  let t:_root_.Fin (l.length+1)->_root_.Fin (l.length+1)->Z6:=λi j=>p (x::l)[i.1] (x::l)[j.1]
  if za t then some (s.re ((o8 l.length (n_ t)).toList.map λi=>(x::l)[i.1]))else none
  else none
def rO{α:Type}(l:aX α)(p:α->α->aY Zl)(i:Nat):aY Zl:=match l[i]?,l[i-1]?with|some a,some b=>p a b|_,_=>none
def vw{α:Type}(s:Sl α)(p:α->α->aY Zl):aY (Sl α):=
 if s.l.length<=2147483648/\((range s.l.length).all λi=>i==0||(rO s.l p i).isSome)=true then
  some (s.rI ((kept (λi=>(rO s.l p i).getD false) s.l.length).filterMap (s.l[·]?)))
 else none
section
variable{S:Sys}{T:pI}{β γ δ α:Type}{Q:Out×St->aY β}{e:γ->aY β}{cf:Cf}
theorem kN.Mg(B:q_ S T)(D:∀f a b xs,S.items f a b=some xs->fF S f a b xs){fn:Zk}{A:δ->Zu}{E:α->Zu}{p:δ->aY α}{sc:Zl}(F:kN S (cT S T) fn A E p sc){z:δ}{r:α}(h:p z=some r)(d:V.cB (A z)=true):
 ∃n,bS (run S.E n) fn (A z) []=some (result (E r)):=by
 have e:=F.h z (E r) Ze
 have⟨⟨rs,m'⟩,u,w⟩:=ζg.1 e;have⟨n,y,H2,e1,e2,e3⟩:=Ad (zO B D) d u w;refine⟨n,?_⟩;have C:borrows n [] (A z)=some (A z):=by have c:=V.mF d;generalize A z=l at c;unfold borrows;induction l with|nil=>rfl|cons x l G=>simp[V.gN]at c;simp[gR,dW n [] c.1,G c.2]
 unfold bS;rw[mY,C];simp[e1 n (le_refl _),e2 n (le_refl _),V.kP e3]
section
variable[bp α]
theorem AX(b:bp.size α=1){l:aX α}(B:l.length<=2147483648):s_ (bp.size α) (rows l)=true:=by unfold s_;simp;refine⟨⟨b,λx u=>?_⟩,by simpa[rows]using B⟩;obtain⟨a,_,rfl⟩:=mem_map.1 u;exact⟨by rw[gG,b],all_eq_true.1 (bp.one a)⟩
theorem C8(b:bp.agg α=false)(a:α):iR (cells a)=enc a:=by unfold enc;rw[if_neg Zd];rfl
theorem AP(l:aX α)(i:Nat)(h:i<l.length):(rows l)[i]?=some (cells l[i]):=by unfold rows;grind
theorem QT(O:q_ S T)(U:∀f a b xs,S.items f a b=some xs->fF S f a b xs){g:Zk}{p:α->α->Z6}(F:kN S (cT S T) g (λz:α×α=>[enc z.1,enc z.2]) (λr:Int=>[.int .i64 r]) (λz=>p z.1 z.2) true)
 (c:bp.size α=1)(W:bp.agg α=false){s D:Sl α}(h:wS s p=some D):xK S.E (bp.size α) (rows s.l) [.clo g [] []]=some (rows D.l)/\D.k=s.k:=by
 unfold wS at h;split at h
 next B=>cases h;rw[B];exact⟨rfl,rfl⟩
 rename_i x l B;split at h
 .dsimp only at h;split at h
  .rename_i I;cases h;rw[B];have⟨u,J⟩:=oS I;have C:=AX c (l:=x::l) Zd
   have key:∀m,m=l.length->(if za (λi j:_root_.Fin (m+1)=>rC S.E g [] (iR (((rows (x::l))[i.1]?).getD [])) (iR (((rows (x::l))[j.1]?).getD [])))then
    some ((o8 m (n_ (λi j:_root_.Fin (m+1)=>rC S.E g [] (iR (((rows (x::l))[i.1]?).getD [])) (iR (((rows (x::l))[j.1]?).getD []))))).toList.map λi=>((rows (x::l))[i.1]?).getD [])else none)=
    some (rows ((o8 l.length (n_ λi j:_root_.Fin (l.length+1)=>p (x::l)[i.1] (x::l)[j.1])).toList.map λi=>(x::l)[i.1])):=by
    rintro m rfl;have e1:∀i:_root_.Fin (l.length+1),iR (((rows (x::l))[i.1]?).getD [])=enc (x::l)[i.1]:=λi=>by rw[AP (x::l) i.1 i.2,getD_some,C8 W]
    have e2:(λi j:_root_.Fin (l.length+1)=>rC S.E g [] (iR (((rows (x::l))[i.1]?).getD [])) (iR (((rows (x::l))[j.1]?).getD [])))=λi j=>p (x::l)[i.1] (x::l)[j.1]:=by funext i j;have⟨z,L⟩:=u i j;rw[e1 i,e1 j,L];have⟨n,Q⟩:=F.Mg O U (z:=((x::l)[i.1],(x::l)[j.1])) L (by simp[V.cB,kf]);unfold rC;rw[HJ Q];rfl
    rw[e2,if_pos I]
    congr 1
    unfold rows;rw[List.map_map];refine List.map_congr_left λi _=>?_
    grind
   have w:(s.re ((o8 l.length (n_ λi j:_root_.Fin (l.length+1)=>p (x::l)[i.1] (x::l)[j.1])).toList.map λi=>(x::l)[i.1])).l=(o8 l.length (n_ λi j:_root_.Fin (l.length+1)=>p (x::l)[i.1] (x::l)[j.1])).toList.map (λi=>(x::l)[i.1])/\(s.re ((o8 l.length (n_ λi j:_root_.Fin (l.length+1)=>p (x::l)[i.1] (x::l)[j.1])).toList.map λi=>(x::l)[i.1])).k=s.k:=by cases s<;>simp[Sl.l]at B<;>exact⟨rfl,rfl⟩
   refine⟨?_,w.2⟩;rw[w.1,<-key (rows l).length (fh l)];have d:(s_ (bp.size α) (rows (x::l))&& !S.E.keep g)=true:=by rw[C,F.k];rfl
   have G:=d;exact(if_pos G).trans rfl
  simp_all
 simp_all
theorem P3(Y:q_ S T)(d:∀f a b xs,S.items f a b=some xs->fF S f a b xs){g:Zk}{p:α->α->aY Zl}(F:kN S (cT S T) g (λz:α×α=>[enc z.1,enc z.2]) (λr:Zl=>[.bool r]) (λz=>p z.1 z.2) true)
 (e:bp.size α=1)(k:bp.agg α=false){s D:Sl α}(h:vw s p=some D):vZ S.E (bp.size α) (rows s.l) [.clo g [] []]=some (rows D.l)/\D=s.rI D.l:=by
 have U:∀l:aX α,(s.rI l)=s.rI (s.rI l).l:=λl=>by cases s<;>rfl
 refine⟨?_,by
  unfold vw at h;grind⟩
 unfold vw at h;split at h
 .rename_i hc;cases h;have⟨X,w⟩:=hc;have J:=AX e X;simp only[vZ]
  by_cases L:s.l=[]
  .have:(s.rI ((kept (λi=>(rO s.l p i).getD false) s.l.length).filterMap (s.l[·]?))).l=[]:=by
    cases s<;>simp[Sl.l]at L<;>simp[Sl.rI,Sl.l,L,kept]
   rw[this,L];rfl
  have O:(rows s.l).isEmpty=false:=by cases o:s.l with|nil=>grind|cons a l=>rfl
  rw[O,if_neg Zc,J,F.k,if_pos (by rfl),fh]
  have e1:∀i,0<i->i<s.l.length->∃b,rO s.l p i=some b/\xm S.E g [] (kR (rows s.l) i) (kR (rows s.l) (i-1))=some b:=λi Z u=>by have:=all_eq_true.1 w i (mem_range.2 u);simp at this;have⟨b,G⟩:=Option.isSome_iff_exists.1 (this.resolve_left Za);refine⟨b,G,?_⟩;have B:i-1<s.l.length:=Za;unfold rO at G;rw[ζd u,ζd B]at G;have W:∀j(I:j<s.l.length),kR (rows s.l) j=enc s.l[j]:=λj I=>(by unfold kR;rw[AP _ _ I,getD_some,C8 k]);rw[W i u,W (i-1) B];have⟨n,m⟩:=F.Mg Y d (z:=(s.l[i],s.l[i-1])) G (by simp only[V.cB,kf,Bool.and_self]);unfold xm;rw[HJ m];rfl
  have e2:((range s.l.length).all λi=>i==0||(xm S.E g [] (kR (rows s.l) i) (kR (rows s.l) (i-1))).isSome)=true:=by grind
  rw[if_pos e2];have e3:kept (λi=>(xm S.E g [] (kR (rows s.l) i) (kR (rows s.l) (i-1))).getD false) s.l.length=kept (λi=>(rO s.l p i).getD false) s.l.length:=by refine List.filter_congr λi u=>?_;by_cases Z:i=0;grind;have⟨b,q,t⟩:=e1 i Za (mem_range.1 u);simp_all
  rw[e3];have e4:(s.rI ((kept (λi=>(rO s.l p i).getD false) s.l.length).filterMap (s.l[·]?))).l=(kept (λi=>(rO s.l p i).getD false) s.l.length).filterMap (s.l[·]?):=by cases s<;>first|rfl|grind
  rw[e4]
  congr 1
  generalize c:kept (λi=>(rO s.l p i).getD false) s.l.length=Q
  have C:∀i∈Q,i<s.l.length:=λi u=>HO (c▸u)
  clear c e3 e4
  induction Q with
  |nil=>rfl|cons i Q ih=>
   have u:=C i Zc
   rw[map_cons,ih λj I=>C j (List.mem_cons_of_mem _ I),AP _ _ u,List.filterMap_cons,ζd u]
   rfl
 simp_all
theorem MR{s B:Sl α}{p:α->α->Z6}(h:wS s p=some B)(a:bN s.k=false):B=s:=by cases s<;>simp[Sl.k,bN]at a<;>simpa[wS,Sl.l]using h.symm
theorem TH(n d:Nat)(D:q_ S T)(J:∀f a b xs,S.items f a b=some xs->fF S f a b xs){fn g:Zk}(G:S.prm fn=some (ru S.E)){p:α->α->Z6}
 (F:kN S (cT S T) g (λz:α×α=>[enc z.1,enc z.2]) (λr:Int=>[.int .i64 r]) (λz=>p z.1 z.2) true){s:Sl α}{f:Sl α->aY γ}
 (h:∀B,wS s p=some B->Le ((f B).bind e) (b8 S (cT S T) Q (nx S (cT S T) n cf λq=>cZ {q.st with m:=bu q.st.m d (ct B)} q.d (.v .undef))))
 (i:bp.size α=1:=by rfl)(O:bp.agg α=false:=by rfl)
 (U:(gM S (cT S T) n cf).map (λq=>(q.k,bV S.N q.st.g q.az,bg q.st.m d,q.dr))=some (.c,some [.v (.clo fn [] []),.own d,.v (.clo g [] [])],some (ct s),false):=by kernel_rfl):Le (((wS s p).bind f).bind e) (b8 S (cT S T) Q cf):=by
 have⟨q,C,c⟩:=fC U;simp at c;have⟨I,L,W,X⟩:=c;refine uz C ?_ h;rw[I,X];intro y w;have⟨B,u,w⟩:=ζg.1 w;have⟨e1,e2⟩:=QT D J F i O u;have j:=(D.prm fn _ G).keep;have Y:=(D.prm fn _ G).own;rw[Eo false _ _ _ _ _ _ fn [.own d,.v (.clo g [] [])] L rfl];have l:gy S (cT S T) q.d false (!false||q.now) (gA q.st.m q.fr) fn [.own d,.v (.clo g [] [])] q.st=some (.v .undef,{q.st with m:=bu q.st.m d (ct B)}):=by unfold gy;simp[j,Y,G,AM,W,ct,dh];have e3:=e1;simp[ru];cases k:bN s.k with|true=>grind|false=>have:=MR u k;grind
 grind
theorem TN(n d t:Nat)(D:q_ S T)(J:∀f a b xs,S.items f a b=some xs->fF S f a b xs){fn g:Zk}(G:S.prm fn=some (qY S.E)){p:α->α->aY Zl}
 (F:kN S (cT S T) g (λz:α×α=>[enc z.1,enc z.2]) (λr:Zl=>[.bool r]) (λz=>p z.1 z.2) true){s:Sl α}{f:Sl α->aY γ}
 (h:∀B,vw s p=some B->Le ((f B).bind e) (b8 S (cT S T) Q (nx S (cT S T) n cf λq=>{q.st with g:=bu q.st.g t (.own t),m:=bu (cR d q.st.m) t (ct B)})))
 (i:bp.size α=1:=by rfl)(O:bp.agg α=false:=by rfl)
 (U:(gM S (cT S T) n cf).map (λq=>(q.k,bV S.N q.st.g q.az,bg q.st.m d,q.dr,q.d,St.new {q.st with m:=cR d q.st.m} t))=some (.c,some [.v (.clo fn [] []),.own d,.v (.clo g [] [])],some (ct s),false,some t,true):=by kernel_rfl):Le (((vw s p).bind f).bind e) (b8 S (cT S T) Q cf):=by
 have⟨q,C,c⟩:=fC U;simp at c;have⟨I,L,W,X,Y,Z⟩:=c;refine uz C ?_ h;rw[I,X,Y];intro y u;have⟨B,w,u⟩:=ζg.1 u;cases u;have⟨e1,e2⟩:=P3 D J F i O w;have j:=(D.prm fn _ G).keep;have k:=(D.prm fn _ G).own;rw[Eo false _ _ _ _ _ _ fn [.own d,.v (.clo g [] [])] L rfl];have l:gy S (cT S T) (some t) false (!false||q.now) (gA q.st.m q.fr) fn [.own d,.v (.clo g [] [])] q.st=some (.own t,{q.st with m:=bu (cR d q.st.m) t (ct B)}):=by unfold gy;simp[j,k,G,AM,W,ct,dh];have e3:(qY S.E).go (bp.size α) (rows s.l) [.clo g [] []]=some (rows B.l):=e1;rw[e3];simp[qY,Z];have e4:(if bN s.k=true then bq.sl .part (bp.size α) (rows B.l)else .sl s.k (bp.size α) (rows s.l))=.sl B.k (bp.size α) (rows B.l):=(by rw[e2];cases s<;>rfl);rw[e4]
 rw[l];rfl
end
end
section
variable{H H':bh}{w:V}{o:Nat}{ids:Zv}{rows:Zt}
theorem rR.cell(n:rR H w o ids rows){p j:Nat}{r:Zu}{u:V}(a:rows[p]?=some r)(c:r[j]?=some u):
 ∃id,ids[p]?=some id/\kF 1 w (p:Int)=some (.hptr o p 0)/\eG H (.load 1 false) [.hptr o p 0]=some (.hsl id 1 0 r.length)/\kF 1 (.hsl id 1 0 r.length) (j:Int)=some (.hptr id j 0)/\eG H (.load 1 false) [.hptr id j 0]=some u:=by
 have D:=(ζe.1 a).1;have G:=(ζe.1 c).1;have B:rows≠[]:=by intro e;subst e;simp at a
 have C:p<ids.length:=by rw[n.len];exact D
 have z:=ζd C;refine⟨ids[p],z,?_,?_,?_,?_⟩
 .have:=n.v;rw[if_neg B]at this;subst this;simp[kF,D]
 .have b:=n.ob B;have I:=FD z a;simp[eG,dZ,b,Ob.rows,I,cut];rfl
 .simp[kF,G]
 have b:=n.r p _ r z a;simp[eG,dZ,b,Ob.rows,oq,c,cut];rfl
theorem K8{ids:Zv}(h:ids.Nodup){i j:Nat}{a:Nat}(B:ids[i]?=some a)(D:ids[j]?=some a):i=j:=by have b:=(ζe.1 B);have u:=(ζe.1 D);have⟨b,e1⟩:=b;have⟨u,e2⟩:=u;exact(List.getElem_inj h).1 (e1.trans e2.symm)
theorem rR.set(n:rR H w o ids rows){p j id:Nat}{r:Zu}{u:V}(a:rows[p]?=some r)(O:j<r.length)(B:ids[p]?=some id)(c:V.one u=true)(d:u.cells=[u]):
 ∃H',eA H (.store 1) [.hptr id j 0,u]=some (.undef,H')/\rR H' w o ids (rows.set p (r.set j u))/\H'.length=H.length/\(∀i,i≠id->H'[i]?=H[i]?):=by
 have Q:=(ζe.1 a).1;have z:rows≠[]:=by intro e;subst e;simp at a
 have b:=n.r p id r B a;have S:id<H.length:=(ζe.1 b).1;have G:(oq r).set j [u]=oq (r.set j u):=by simp[oq,map_set]
 have I:o≠id:=λe=>n.ne z (e▸mem_of_getElem? B)
 refine⟨H.set id (.row 1 (oq (r.set j u))),?_,⟨?_,λ_=>?_,by simp[n.len],λi J T D C=>?_,n.nd,λ_=>n.ne z⟩,Zc,λi D=>getElem?_set_ne (Ne.symm D)⟩
 .have U:(oq r)[j]?=some [r[j]]:=by simp[oq,O]
  simp only[eA,b,U,d,length_singleton,zero_add,le_refl,all_cons,c,List.all_nil,Bool.and_self,and_self,if_true,List.take_zero,nil_append];rw[<-G];simp
 .rw[n.v];have:rows.set p (r.set j u)≠[]:=by intro e;apply z;simpa using e
  rw[if_neg z,if_neg this,List.length_set]
 .rw[getElem?_set_ne (Ne.symm I),EZ a Zc];exact n.ob z
 by_cases e:i=p
 .subst e;rw[B]at D;cases D;rw[getElem?_set_self Q]at C;cases C;rw[getElem?_set_self S]
 rw[getElem?_set_ne (Ne.symm e)]at C;have L:id≠J:=λW=>e (K8 n.nd (W▸D) B)
 rw[getElem?_set_ne L];exact n.r i J T D C
end
structure rS(H:bh)(w:V)(l:List (List V))(id:Nat):Prop where
 c:∀c∈l,c.length=2/\c.all V.one=true
 v:(w=.bD/\l=[])\/∃off xs,w=.hsl id 2 off l.length/\H[id]?=some (.row 2 xs)/\off+l.length<=xs.length/\(xs.drop off).take l.length=l
section
variable{H H':bh}{w:V}{l:Zt}{id:Nat}
theorem rS.heap(n:rS H w l id)(h:∀off n,w=.hsl id 2 off n->H'[id]?=H[id]?):rS H' w l id:=⟨n.c,n.v.imp (λh=>h) λ⟨off,u,e1,e2,e3,e4⟩=>⟨off,u,e1,by rw[h _ _ e1];exact e2,e3,e4⟩⟩
theorem rS.lt(n:rS H w l id){off m:Nat}(h:w=.hsl id 2 off m):id<H.length:=by rcases n.v with⟨e,_⟩|⟨_,u,_,e2,_⟩;rw[e]at h;cases h;exact(ζe.1 e2).1
theorem rS.more(n:rS H w l id)(X:bh):rS (H++X) w l id:=n.heap λ_ _ e=>getElem?_append_left (n.lt e)
theorem rS.len(n:rS H w l id):mK w=some (.int .i64 l.length):=by rcases n.v with⟨rfl,rfl⟩|⟨off,u,rfl,_⟩<;>rfl
theorem rS.get(n:rS H w l id){i:Nat}{c:Zu}(a:l[i]?=some c):∃p,kF 2 w (i:Int)=some p/\eG H (.load 2 true) [p]=some (.agg c):=by
 have z:=(ζe.1 a).1;have u:=(n.c c (mem_of_getElem? a)).1;rcases n.v with⟨_,rfl⟩|⟨off,B,rfl,e2,e3,e4⟩;simp at a;refine⟨.hptr id (off+i) 0,by simp[kF,z],?_⟩;have:B[off+i]?=some c:=by rw[<-e4,getElem?_take,if_pos z,getElem?_drop]at a;exact a
 simp[eG,dZ,e2,Ob.rows,this,cut,<-u];rfl
theorem rS.tail{c:Zu}(n:rS H w (c::l) id):∃w',gQ 2 w (some 1) none=some w'/\rS H w' l id/\∃off m B,w=.hsl id 2 off m/\w'=.hsl id 2 B l.length:=by
 rcases n.v with⟨_,e⟩|⟨off,u,rfl,e2,e3,e4⟩;cases e;refine⟨.hsl id 2 (off+1) l.length,?_,⟨λc a=>n.c c (List.mem_cons_of_mem _ a),.inr ⟨off+1,u,rfl,e2,by simp at e3;omega,?_⟩⟩,⟨_,_,_,rfl,rfl⟩⟩;simp[gQ,dx];omega;have z:(u.drop off).drop 1=u.drop (off+1):=by rw[List.drop_drop]
 rw[<-z];have:=congrArg (List.drop 1) e4;rw[List.drop_take]at this;simpa using this
theorem rS.push(n:rS H w l id){c:Zu}(a:c.length=2/\c.all V.one=true)(D:l.length+1<=2147483648):
 ∃H',eA (H++[.row 2 [c]]) (.append 2) [w,.hsl H.length 2 0 1]=some (.hsl (H.length+1) 2 0 (l.length+1),H')/\rS H' (.hsl (H.length+1) 2 0 (l.length+1)) (l++[c]) (H.length+1)/\H'.length=H.length+2/\(∀i,i<H.length->(∀off m,w=.hsl id 2 off m->i≠id)->H'[i]?=H[i]?):=by
 have e2:dg (H++[.row 2 [c]]) 2 (.hsl H.length 2 0 1)=some [c]:=by simp[dg,Ob.rows]
 have u:∀c'∈l++[c],c'.length=2/\c'.all V.one=true:=λc' h=>by rcases mem_append.1 h with h|h;exact n.c c' h;simp at h;subst h;exact a
 rcases n.v with⟨rfl,rfl⟩|⟨off,G,rfl,g2,g3,g4⟩
 .have e1:dg (H++[.row 2 [c]]) 2 .bD=some []:=rfl;refine⟨H++[.row 2 [c]]++[.row 2 [c]],?_,⟨u,.inr ⟨0,[c],rfl,Zc,Zc,rfl⟩⟩,Zc,λi B _=>by rw[append_assoc,getElem?_append_left B]⟩
  simp only[eA,e1,e2,fP,List.length_nil,length_singleton,map_some];simp
 have z:=(ζe.1 g2).1;have e1:dg (H++[.row 2 [c]]) 2 (.hsl id 2 off l.length)=some l:=by simp only[dg,if_true,getElem?_append_left z,g2,ζb,Ob.rows,g3,g4]
 have C:fP (H++[.row 2 [c]]) (.hsl id 2 off l.length)=some (List.set (H++[Ob.row 2 [c]]) id Ob.dead):=by simp only[fP,getElem?_append_left z,g2]
 refine⟨List.set (H++[Ob.row 2 [c]]) id Ob.dead++[Ob.row 2 (l++[c])],?_,⟨u,.inr ⟨0,l++[c],Zc,Zc,Zc,take_of_length_le Zc⟩⟩,Zc,λi B h=>?_⟩
 .simp only[eA,e1,e2,C,length_singleton,D,if_true,map_some,ζi]
 rw[getElem?_append_left (by simp;omega),getElem?_set_ne (Ne.symm (h _ _ rfl)),getElem?_append_left B]
end
def CM(rs:aX RV):Out×St->aY bq
 |(.exit _,_)=>none|(_,st)=>(ki st rs).bind λl=>match l with
  |[.own d]=>bg st.m d|_=>none
theorem UN{S:Sys}{c:bU}{rs:aX RV}{a:RC}{st:St}{ob:bq}(h:j7 S c (CM rs) a [] st=some ob):∃o st' d,cw S c a st=some (o,st')/\(∀id,o≠.exit id)/\ki st' rs=some [.own d]/\bg st'.m d=some ob:=by
 rw[pE]at h;have⟨⟨o,st'⟩,b,u⟩:=ζg.1 h;have z:∀id,o≠.exit id:=by rintro id rfl;simp[CM]at u
 have B:(ki st' rs).bind (λl=>match l with|[.own d]=>bg st'.m d|_=>none)=some ob:=by cases o with|exit id=>exact absurd rfl (z id)|norm=>exact u|ret=>exact u
 have⟨l,C,w⟩:=ζg.1 B;split at w;exact⟨o,st',_,b,z,C,w⟩;cases w
def Sl.whole{α:Type}(s:Sl α):aY (Sl α):=match s with|.part _=>none|s=>some s
structure AR(S:Sys)(c:bU){α δ:Type}[bp δ](fn:FuncId)(A:α->List V)(p:α->Option (Sl δ)):Prop where
 k:S.E.keep fn=true
 o:S.E.own fn=true
 h:∀z s,p z=some s->∃e m',c fn ((A z).map .v) []=some ([.own e],m')/\bg m' e=some (ct s)
 sc:∀x:δ,(cells x).all V.scalar=true
theorem AR.mk'{S:Sys}{T:pI}{α δ:Type}[bp δ](rf:RF){fn:Zk}{A:α->Zu}{p:α->aY (Sl δ)}(h:∀z,Le ((p z).bind λr=>some (ct r)) (b8 S (cT S T) (CM rf.rs) (.rc rf.body,[],start ((A z).map .v) [])))
 (B:T fn=some rf:=by kernel_rfl)(b:S.E.keep fn=true:=by kernel_rfl)(D:S.E.own fn=true:=by kernel_rfl)(G:∀z,(A z).length<=rf.na:=by intro z;exact Nat.le_of_ble_eq_true (by kernel_rfl))
 (sc:∀x:δ,(cells x).all V.scalar=true:=by intro x;rfl):AR S (cT S T) fn A p where
 k:=b
 o:=D
 sc:=sc
 h z s u:=by have a:=h z (ct s) (by rw[u];rfl);change j7 S (cT S T) (CM rf.rs) rf.body [] (start ((A z).map .v) [])=some (ct s)at a;have⟨o,st',d,g1,g2,g3,g4⟩:=UN a;refine⟨d,st'.m,?_,g4⟩;rw[sB B];unfold mB;rw[if_pos (by simpa using G z),g1];cases o with|exit id=>exact absurd rfl (g2 id)|norm=>simp only[g3,map_some]|ret=>simp only[g3,map_some]
section
variable{S:Sys}{c:bU}{β γ δ α:Type}[bp δ]{Q:Out×St->aY β}{e:γ->aY β}{cf:Cf}
theorem Jc(n u:Nat){fn:Zk}{A:α->Zu}{p:α->aY (Sl δ)}(F:AR S c fn A p)(z:α){f:Sl δ->aY γ}
 (h:∀x,(p z).bind Sl.whole=some x->Le ((f x).bind e) (b8 S c Q (nx S c n cf λq=>{q.st with g:=bu q.st.g u (.own u),m:=bu q.st.m u (ct x)})))
 (J:(gM S c n cf).map (λq=>(q.d,q.k,(bV S.N q.st.g q.az).bind pn,(!q.dr||q.now),q.st.new u))=some (some u,.c,some (fn,(A z).map .v),true,true):=by kernel_rfl):Le ((((p z).bind Sl.whole).bind f).bind e) (b8 S c Q cf):=by
 have⟨q,L,b⟩:=fC J;simp only[ζc]at b;have⟨O,T,U,W,I⟩:=b;have⟨C,g1,g2⟩:=ζg.1 U;refine uz L ?_ h;rw[O,T];intro y D;have⟨X,G,D⟩:=ζg.1 D;cases D;have⟨s,Y,B⟩:=ζg.1 G;have⟨e0,m',d,Z⟩:=F.h z s Y;rw[Eo q.dr _ _ _ _ _ C fn ((A z).map .v) g1 g2];have w:gy S c (some u) q.dr (!q.dr||q.now) (gA q.st.m q.fr) fn ((A z).map .v) q.st=some (.own u,{q.st with m:=bu q.st.m u (ct X)}):=by unfold gy;simp only[F.k,F.o,if_true,W,uU,d,dh,Z,ct,I];cases s with|nil=>cases B;rfl|emp=>cases B;rfl|row l=>cases B;have:ny (rows l)=true:=(by unfold ny;rw[all_eq_true];intro x i;obtain⟨a,_,rfl⟩:=mem_map.1 i;exact F.sc a);simp only[Sl.k,Sl.l,dh,V.cM,this,Bool.and_self,I,if_true];rfl|part l=>cases B
 rw[w];rfl
end
structure GD where
 m:Nat
 pre:List (Nat×List Gh)
 nd:List (Nat×List Gh×List Gh)
structure GI where
 m:Nat
 i:Nat
 j:Nat
def Us{α:Type}(l:aX (Nat×aX α))(i:Nat):aX α:=match l with
 |[]=>[]|(k,x)::r=>bif beq k i then x else Us r i
def vI(l:aX (Nat×Z5×Z5))(i:Nat):Z5×Z5:=match l with
 |[]=>([],[])|(k,x)::r=>bif beq k i then x else vI r i
def JW(m:Nat):Zv->Zv
 |[]=>[]|x::l=>bif beq (m % 2) 1 then x::JW (m / 2) l else JW (m / 2) l
def Oa:Z4->Zv
 |[]=>[]|.s n::r=>n::Oa r|_::r=>Oa r
def T5(o:RO):Zv:=(match o.dst with|some d=>[d]|none=>[])++(match o.gd with|some g=>[g.1]|none=>[])++Oa o.az
def US(G:GD)(s:GI)(o:RO):RO:={o with dead:=JW (bif beq (s.m % 16) 15 then s.m / 16 % 65536 else s.m % 16) (T5 o),pre:=Us G.pre s.i}
def GI.op(s:GI):GI:=⟨bif beq (s.m % 16) 15 then s.m / 1048576 else s.m / 16,s.i+1,s.j⟩
def xY(G:GD):Zy->GI->Zy×GI
 |[],s=>([],s)|o::r,s=>(US G s o::(xY G r s.op).1,(xY G r s.op).2)
def xX:Z5->RC->RC
 |[],c=>c|g::l,c=>.gh g (xX l c)
def EK:Z5->RC->RC
 |[],c=>c|g::l,c=>EK l (.hg c g)
def GI.nd(s:GI):GI:=⟨s.m,s.i,s.j+1⟩
def iT(G:GD):RC->GI->RC×GI
 |.seq a b,s=>(xX (vI G.nd s.j).1 (.seq (iT G a s.nd).1 (iT G b (iT G a s.nd).2).1),(iT G b (iT G a s.nd).2).2)|.cond x a b,s=>(xX (vI G.nd s.j).1 (.cond x (iT G a s.nd).1 (iT G b (iT G a s.nd).2).1),(iT G b (iT G a s.nd).2).2)|.block id a,s=>(xX (vI G.nd s.j).1 (.block id (iT G a s.nd).1),(iT G a s.nd).2)|.loop a,s=>(xX (vI G.nd s.j).1 (.loop (EK (vI G.nd s.j).2 (iT G a s.nd).1)),(iT G a s.nd).2)|.each g ps a b,s=>(xX (vI G.nd s.j).1 (.each g ps (iT G a s.nd).1 (EK (vI G.nd s.j).2 (iT G b (iT G a s.nd).2).1)),(iT G b (iT G a s.nd).2).2)|.ops l,s=>(xX (vI G.nd s.j).1 (EK (vI G.nd s.j).2 (.ops (xY G l s.nd).1)),(xY G l s.nd).2)|.rH l,s=>(xX (vI G.nd s.j).1 (EK (vI G.nd s.j).2 (.rH (xY G l s.nd).1)),(xY G l s.nd).2)|.gh g c,s=>(.gh g c,s)|.hg c g,s=>(.hg c g,s)|c,s=>(xX (vI G.nd s.j).1 c,s.nd)
theorem jV(c:RC):∀l,erase (xX l c)=erase c
 |[]=>rfl|g::l=>by simp only[xX,erase,jV c l]
theorem tq:∀l(c:RC),erase (EK l c)=erase c
 |[],c=>rfl|g::l,c=>by simp only[EK,tq l,erase]
theorem wK(G:GD):∀(l:Zy)s,((xY G l s).1).map RO.strip=l.map RO.strip
 |[],s=>rfl|o::r,s=>by simp only[xY,map_cons,wK G r];rfl
theorem kD(G:GD):∀(c:RC)s,erase (iT G c s).1=erase c
 |.seq a b,s=>by simp only[iT,jV,erase,kD G a,kD G b]|.cond x a b,s=>by simp only[iT,jV,erase,kD G a,kD G b]|.block id a,s=>by simp only[iT,jV,erase,kD G a]|.loop a,s=>by simp only[iT,jV,erase,tq,kD G a]|.each g ps a b,s=>by simp only[iT,jV,erase,tq,kD G a,kD G b]|.ops l,s=>by simp only[iT,jV,tq,erase,wK]|.rH l,s=>by simp only[iT,jV,tq,erase,wK]|.gh g c,s=>rfl|.hg c g,s=>rfl|.skip,s=>by simp only[iT,jV]|.ret,s=>by simp only[iT,jV]|.exit _,s=>by simp only[iT,jV]
theorem G5{X:CX}{dr:Zl}{ops:Zz}{i:Nat}{o:Oper}{r:RO}(h:lF X dr ops i o=some r):r.strip=r:=by obtain⟨_,_,_,_,_,_,rfl⟩:=BZ h;rfl
theorem vC{X:CX}{dr:Zl}{ops:Zz}:∀{l:Zz}{i:Nat}{r:Zy},j_ X dr ops i l=some r->r.map RO.strip=r
 |[],i,r,h=>by cases h;rfl|o::l,i,r,h=>by simp only[j_]at h;split at h;(next a b B D=>cases h;simp only[map_cons,G5 B,vC D]);cases h
theorem Hq{X:CX}:∀{c:Code}{ro:Zl}{r:RC},bG X ro c=some r->erase r=r:=by intro c;induction c with|region _ ops dr=>intro ro r h;simp only[bG]at h;split at h;split at h;obtain⟨l,d,rfl⟩:=ζf.1 h;simp only[erase,vC d];cases h;obtain⟨l,d,rfl⟩:=ζf.1 h;simp only[erase,vC d]|seq a b u w=>intro ro r h;simp only[bG]at h;split at h;(next d z=>cases h;simp only[erase,u d,w z]);cases h|cond c a b u w=>intro ro r h;simp only[bG]at h;split at h;(next d z=>cases h;simp only[erase,u d,w z]);cases h|block id a u=>intro ro r h;simp only[bG]at h;obtain⟨l,d,rfl⟩:=ζf.1 h;simp only[erase,u d]|loop a u=>intro ro r h;simp only[bG]at h;obtain⟨l,d,rfl⟩:=ζf.1 h;simp only[erase,u d]|rangeFunc g ps a b u w=>intro ro r h;simp only[bG]at h;split at h;cases h;split at h;(next d z=>cases h;simp only[erase,u d,w z]);cases h|_=>intro ro r h;first|cases h;rfl|(simp only[bG]at h;cases h;rfl)|(simp only[bG]at h;cases h)
def OH(E:Env)(nm:Zk->aY Nat)(G:Zk->aY GD):pI:=λf=>(G f).bind λg=>(E.ft f).bind λu=>(bG ⟨E,nm,u.ntmps⟩ false u.body).bind λc=>(u.results.mapM (yZ E)).bind λrs=>some ⟨u.ntmps,rs,(iT g c ⟨g.m,0,0⟩).1⟩
theorem Ot{E:Env}{nm:Zk->aY Nat}{G:Zk->aY GD}{f:Zk}{rf:RF}(h:OH E nm G f=some rf):∃fi,E.ft f=some fi/\wB E nm fi rf:=by unfold OH at h;have⟨g,_,h⟩:=ζg.1 h;have⟨fi,a,h⟩:=ζg.1 h;have⟨c,u,h⟩:=ζg.1 h;have⟨rs,w,h⟩:=ζg.1 h;cases h;exact⟨fi,a,by rw[u,kD,Hq u],w,rfl⟩
theorem CL:∀(g:Zk)(s:Nat),some g=some s->(λn=>n) s=g:=λ_ _ h=>(Option.some.inj h).symm
def rQ(o:aY RF):RF:=o.getD ⟨0,[],.skip⟩
def tb(T:pI)(f:Zk):RC:=(rQ (T f)).body
def tr(T:pI)(f:Zk):aX RV:=(rQ (T f)).rs
theorem B7{o:aY RF}(h:o.isSome=true):o=some (rQ o):=by cases o with
 |none=>cases h|some r=>rfl
class iS(δ:Type)where
 e:δ->List V
instance VL{α:Type}[bp α]:iS α:=⟨λx=>[enc x]⟩
instance VK:iS Unit:=⟨λ_=>[]⟩
instance VI{α β:Type}[bp α][iS β]:iS (α×β):=⟨λx=>enc x.1::iS.e x.2⟩
@[simp] theorem Vh{α:Type}[bp α](x:α):iS.e x=[enc x]:=rfl
@[simp] theorem Vg(x:Unit):iS.e x=[]:=rfl
@[simp] theorem Vf{α β:Type}[bp α][iS β](x:α×β):iS.e x=enc x.1::iS.e x.2:=rfl
class Fc(S:Sys)(c:bU){δ:Type}(m:Option δ)where
 n:FuncId
 az:List V
 E:δ->List V
 sc:Bool
 F:kN S c n (λ_:Unit=>az) E (λ_=>m) sc
section
variable{S:Sys}{T:pI}{δ:Type}{m:aY δ}
theorem kN.MU{E:δ->Zu}(fn:Zk)(az:Zu)(h:Le (m.bind λr=>some (E r)) (b8 S (cT S T) (ql (tr T fn)) (.rc (tb T fn),[],start (az.map .v) [])))
 (B:(T fn).isSome=true)(a:S.E.keep fn=false)(D:ble az.length (rQ (T fn)).na=true)
 {sc:Zl}(s:sc=true->∀r,(result (E r)).scalar=true):kN S (cT S T) fn (λ_:Unit=>az) E (λ_=>m) sc where
 k:=a
 h z:=U4 (B7 B) (Nat.le_of_ble_eq_true D) h
 s:=s
abbrev Fc.NE(E:δ->aX V)(fn:FuncId)(az:aX V)(h:Le (m.bind λr=>some (E r)) (b8 S (cT S T) (ql (tr T fn)) (.rc (tb T fn),[],start (az.map .v) [])))
 (B:(T fn).isSome=true:=by kernel_rfl)(a:S.E.keep fn=false:=by kernel_rfl)(D:ble az.length (rQ (T fn)).na=true:=by kernel_rfl)
 :Fc S (cT S T) m:=
 ⟨fn,az,E,false,kN.MU fn az h B a D λh=>nomatch h⟩
abbrev Fc.M[iS δ](fn:FuncId)(az:aX V)(h:Le (m.bind λr=>some (iS.e r)) (b8 S (cT S T) (ql (tr T fn)) (.rc (tb T fn),[],start (az.map .v) [])))
 (B:(T fn).isSome=true:=by kernel_rfl)(a:S.E.keep fn=false:=by kernel_rfl)(D:ble az.length (rQ (T fn)).na=true:=by kernel_rfl)
 (s:∀r:δ,(result (iS.e r)).scalar=true:=by intro r;kernel_rfl):Fc S (cT S T) m:=
 ⟨fn,az,iS.e,true,kN.MU fn az h B a D λ_=>s⟩
abbrev Fc.N[iS δ](fn:FuncId)(az:aX V)(h:Le (m.bind λr=>some (iS.e r)) (b8 S (cT S T) (ql (tr T fn)) (.rc (tb T fn),[],start (az.map .v) [])))
 (B:(T fn).isSome=true:=by kernel_rfl)(a:S.E.keep fn=false:=by kernel_rfl)(D:ble az.length (rQ (T fn)).na=true:=by kernel_rfl)
 :Fc S (cT S T) m:=
 ⟨fn,az,iS.e,false,kN.MU fn az h B a D λh=>nomatch h⟩
end
abbrev Fc.of{S:Sys}{c:bU}{α δ:Type}{p:α->aY δ}{n:FuncId}{A:α->aX V}{E:δ->aX V}{b:Bool}(z:α)(F:kN S c n A E p b):Fc S c (p z):=⟨n,A z,E,b,⟨F.k,λ_=>F.h z,F.s⟩⟩
theorem kN.vL{S:Sys}{c:bU}{α δ:Type}{p:α->aY δ}{n:Zk}{A:α->Zu}{E:δ->Zu}{b:Zl}(F:∀z,Fc S c (p z))(i:α)(B:∀z,(F z).n=n)(G:∀z,(F z).az=A z)(D:∀z,(F z).E=E)(J:∀z,(F z).sc=b):kN S c n A E p b where
 k:=by rw[<-B i];exact(F i).F.k
 h z:=by rw[<-B z,<-G z,<-D z];exact(F z).F.h ()
 s:=by rw[<-J i,<-D i];exact(F i).F.s
theorem pH.vL{S:Sys}{c:bU}{α δ:Type}{p:α->aY δ}{g:Zk}{w e:Zu}{A:α->Zu}{R:δ->Zu}{b:Zl}[i:Inhabited α][F:∀z,Fc S c (p z)](B:∀z,(F z).n=g:=by intro _;kernel_rfl)(D:∀z,(F z).az=w++A z++e:=by intro _;kernel_rfl)
 (G:∀z,(F z).E=R:=by intro _;kernel_rfl)(J:∀z,(F z).sc=b:=by intro _;kernel_rfl):pH S c g w e A R p b:=
 ⟨kN.vL F default B D G J⟩
section
variable{S:Sys}{c:bU}{β γ δ α:Type}{Q:Out×St->aY β}{e:γ->aY β}{cf:Cf}
theorem ya(n:Nat){m:aY β}(h:Le m (b8 S c Q (iZ S c n cf)))(B:fV S c n cf.1 cf.2.1 cf.2.2=some (iZ S c n cf):=by kernel_rfl):Le m (b8 S c Q cf):=Ae B h
theorem bB(n:Nat){m:aY δ}[F:Fc S c m]{f:δ->aY γ}(h:∀x,m=some x->Le ((f x).bind e) (b8 S c Q (nx S c n cf λp=>cZ p.st p.d (.v (result (F.E x))))))
 (B:(gM S c n cf).map (λp=>(p.k,(bV S.N p.st.g p.az).bind pn,(!p.dr||p.now||gA p.st.m p.fr [])))=some (.c,some (F.n,F.az.map .v),true):=by kernel_rfl):Le ((m.bind f).bind e) (b8 S c Q cf):=wV n F.F () h B
theorem pY(n:Nat){m:aY δ}[F:Fc S c m]{f:δ->aY γ}(h:∀x,m=some x->Le ((f x).bind e) (b8 S c Q (nx S c n cf λp=>cZ p.st p.d (.v (result (F.E x))))))
 (B:(gM S c n cf).map (λp=>(p.k,((bV S.N p.st.g p.az).bind pn).bind λq=>(nu (iK p.st.m 8) q.2).map λvs=>(q.1,vs,((!p.dr||p.now)||gA p.st.m p.fr q.2))))=some (.c,some (F.n,F.az,true)):=by kernel_rfl)(D:F.sc=true:=by kernel_rfl):Le ((m.bind f).bind e) (b8 S c Q cf):=
 SF n (u D F.F) () h B
where
 u {b:Zl} {fn:Zk} {az:Zu} {E:δ->Zu} {m:aY δ} (h:b=true) (F:kN S c fn (λ_:Unit=>az) E (λ_=>m) b):kN S c fn (λ_:Unit=>az) E (λ_=>m) true:=h▸F
def OT(cf:Cf):RC:=match cf.1 with|.rc (.loop c)=>c|_=>.skip
def Bt(cf:Cf):Arg×Zv×RC×RC:=match cf.1 with|.rc (.each g ps a b)=>(g,ps,a,b)|_=>(.s 0,[],.skip,.skip)
theorem dO{σ ε ρ:Type}{step:σ->aY (Fw σ ε ρ)}(n:Nat)(eσ:σ->St)(eε:ε->Nat×St)(eρ:ρ->St){s:σ}{B:ε->aY γ}{fr:ρ->aY γ}
 (h:∀s,Le ((step s).bind λw=>some (Fw.out eσ eε eρ w)) (b8 S c some (.rc (OT (iZ S c n cf)),[],eσ s)))
 (D:∀x,Le ((B x).bind e) (b8 S c Q (.ex (eε x).1,(iZ S c n cf).2.1,(eε x).2)))(a:∀b,Le ((fr b).bind e) (Q (.ret,eρ b)))
 (G:fV S c n cf.1 cf.2.1 cf.2.2=some (.rc (.loop (OT (iZ S c n cf))),(iZ S c n cf).2.1,eσ s):=by kernel_rfl):Le (((bM step s).bind (Fw.elim B fr)).bind e) (b8 S c Q cf):=
 Lc G h D a
theorem eO{σ ε:Type}{step:σ->aY (Fw σ ε Empty)}(n:Nat)(eσ:σ->St)(eε:ε->Nat×St){s:σ}{B:ε->aY γ}{fr:Empty->aY γ}
 (h:∀s,Le ((step s).bind λw=>some (Fw.out eσ eε (λe=>Empty.elim e) w)) (b8 S c some (.rc (OT (iZ S c n cf)),[],eσ s)))
 (D:∀x,Le ((B x).bind e) (b8 S c Q (.ex (eε x).1,(iZ S c n cf).2.1,(eε x).2)))
 (G:fV S c n cf.1 cf.2.1 cf.2.2=some (.rc (.loop (OT (iZ S c n cf))),(iZ S c n cf).2.1,eσ s):=by kernel_rfl):Le (((bM step s).bind (Fw.elim B fr)).bind e) (b8 S c Q cf):=
 Lc G h D λb=>Empty.elim b
theorem Ey{σ ε ρ:Type}{f:Zk}{x y:Zu}{a:aX α}{eI:α->Zu}{step:α->σ->aY (Fw σ ε ρ)}(n:Nat)(d:Tb SV)(eσ:σ->Tb bq)(eε:ε->Nat×Tb bq)(eρ:ρ->Tb bq){s:σ}{fn:σ->aY γ}{B:ε->aY γ}{fr:ρ->aY γ}
 (D:S.items f x y=some (a.map eI))
 (h:∀x s,Le ((step x s).bind λw=>some (Fw.uB eσ eε eρ w)) (b8 S c (wG S c (Bt (iZ S c n cf)).2.2.2) (.rc (Bt (iZ S c n cf)).2.2.1,[],⟨u7 d (Bt (iZ S c n cf)).2.1 ((eI x).map .v),eσ s,oD d,[],true,0⟩)))
 (G:∀s,Le ((fn s).bind e) (b8 S c Q (.nx,(iZ S c n cf).2.1,bE d (eσ s))))(J:∀x,Le ((B x).bind e) (b8 S c Q (.ex (eε x).1,(iZ S c n cf).2.1,bE d (eε x).2)))(g:∀b,Le ((fr b).bind e) (Q (.ret,bE d (eρ b))))
 (O:∀x,(eI x).length=(Bt (iZ S c n cf)).2.1.length:=by intro _;kernel_rfl)(i:pM S.N d (Bt (iZ S c n cf)).1=some (.v (.clo f x y)):=by kernel_rfl)
 (T:fV S c n cf.1 cf.2.1 cf.2.2=some (.rc (.each (Bt (iZ S c n cf)).1 (Bt (iZ S c n cf)).2.1 (Bt (iZ S c n cf)).2.2.1 (Bt (iZ S c n cf)).2.2.2),(iZ S c n cf).2.1,bE d (eσ s)):=by kernel_rfl):Le (((nF step a s).bind (Fw.vf fn B fr)).bind e) (b8 S c Q cf):=
 Se T i D O h G J g
def R4(n k:Nat)(B:Zv)(d:Nat)(S:Sys)(c:bU)(cf:Cf)(v:SV):Cf:=jmp k [] (iZ S c n cf) {(iZ S c n cf).2.2 with g:=bu (oc B (iZ S c n cf).2.2.g) d v}
theorem b7[bp δ](n k:Nat)(B:Zv)(d:Nat){m:aY δ}{f:δ->aY γ}(D:Le (m.bind λr=>b8 S c Q (R4 n k B d S c cf (cv r))) (b8 S c Q cf))(a:∀r,Le ((f r).bind e) (b8 S c Q (R4 n k B d S c cf (cv r)))):Le ((m.bind f).bind e) (b8 S c Q cf):=Pc _ D a
end
instance{n:Nat}:DecidableEq (cm n Int):=λa b=>if h:a.l=b.l then .isTrue (by cases a;cases b;cases h;rfl)else .isFalse λe=>h (by rw[e])
theorem tW:∀l:Zx,gP ((l.map (cells (α:=Int))).flatten)=some l
 |[]=>rfl|a::l=>by show gP (.int .i64 a::(l.map (cells (α:=Int))).flatten)=_;simp only[gP,tW l,map_some]
theorem Lj(l:Zx):(l.map (cells (α:=Int))).flatten=l.map (V.int .i64):=by induction l with|nil=>rfl|cons a l u=>simp only[map_cons,List.flatten_cons,u];rfl
instance{n:Nat}:Key (cm n Int)where
 kk:=.ints n
 ok a:=by show((a.l.map (cells (α:=Int))).flatten.length==n&&(gP (a.l.map (cells (α:=Int))).flatten).isSome)=true;rw[tW,Lj,length_map,a.len];simp
 eq a b:=by show jR (a.l.map (cells (α:=Int))).flatten (b.l.map (cells (α:=Int))).flatten=_;unfold jR;rw[tW,tW];simp only[a.len,b.len,if_true];congr 1;rw[Bool.eq_iff_iff,beq_iff_eq,decide_eq_true_iff];exact⟨λh=>by cases a;cases b;cases h;rfl,λh=>by rw[h]⟩
section
variable{S:Sys}{c:bU}{β γ δ α:Type}{Q:Out×St->aY β}{e:γ->aY β}{cf:Cf}
end
section
variable{S:Sys}{c:bU}{β γ δ:Type}{Q:Out×St->aY β}{e:γ->aY β}{cf:Cf}{κ ν:Type}[bp κ][DecidableEq κ][Key κ][bp ν]
structure UL(κ ν:Type)where
 o:Option (Mo κ ν)
 deriving Inhabited
def R9(m:UL κ ν):V:=match m.o with|none=>.f_|some l=>.fmap (nC l)
theorem KD(m:Mo κ ν):V.rN (nC m)=true:=by induction m with|nil=>rfl|cons x r u=>show V.rN ((enc x.1,enc x.2)::nC r)=true;simp only[V.rN,kf,u,Bool.and_self]
instance:bp (UL κ ν)where
 cells m:=[R9 m]
 agg:=false
 size:=1
 len _:=rfl
 good m:=by unfold R9;split;rfl;simp only[V.cB,V.good,KD,Bool.and_self]
 one m:=by unfold R9;split<;>rfl
 plain _:=rfl
end
theorem kN.scalar{S:Sys}{c:bU}{α δ:Type}{fn:Zk}{A:α->Zu}{E:δ->Zu}{p:α->aY δ}{b:Zl}(F:kN S c fn A E p b)(h:∀r,(result (E r)).scalar=true):kN S c fn A E p true:=⟨F.k,F.h,λ_=>h⟩
section
variable{S:Sys}{c:bU}{β γ δ α:Type}[bp α]{Q:Out×St->aY β}{e:γ->aY β}{cf:Cf}
theorem O7{ω:Type}[bp ω](n u:Nat){N:Nat}(a:cm N α)(i:Int)(o:Nat)(x:α)(D:a.at i=some x)(y:α)(w:ω)(G:cells y=(cells x).take o++cells w++(cells x).drop (o+bp.size ω)){m:aY β}(h:Le m (b8 S c Q (nx S c n cf λp=>cZ {p.st with m:=bu p.st.m u (bx (a.set i y))} p.d (.v .undef))))
 (J:(gM S c n cf).map (λp=>(p.k,bV S.N p.st.g p.az,bg p.st.m u,(!p.dr||p.now),ble (o+bp.size ω) (bp.size α)))=some (.l (.store (bp.size ω)),some [.ptr u (i.toNat*bp.size α+o),cv w],some (bx a),true,true):=by kernel_rfl):Le m (b8 S c Q cf):=by
 have⟨p,B,z⟩:=fC J;simp only[ζc]at z;have⟨b,C⟩:=jq B;have⟨dr,fr,d,gd,now,U,az,dd,l,fs,st⟩:=p;obtain⟨rfl,I,L,O,T⟩:=z;exact TR n dr fr (⟨d,gd,now,.l (.store (bp.size ω)),az,dd,[]⟩::l) fs st u a i o x D y (enc w) (by rw[ow];exact G) rfl (by(try dsimp only at *);simp only[b,C,I,L,O,T,ow,gG,sH]) (by
  simp only[nx,B]at h;exact h)
end
def En(rs:aX RV):Out×St->aY (bq×Zu)
 |(.exit _,_)=>none|(_,st)=>(ki st rs).bind λl=>match l with
  |.own d::r=>(bg st.m d).bind λob=>(dh r).map λys=>(ob,ys)|_=>none
theorem zn:∀{l:Zw}{ys:Zu},dh l=some ys->l=ys.map .v
 |[],ys,h=>by cases h;rfl|.v x::r,ys,h=>by simp only[dh]at h;obtain⟨B,a,rfl⟩:=ζf.1 h;rw[zn a];rfl|.own _::_,_,h|.ptr ..::_,_,h|.el ..::_,_,h|.mp _::_,_,h|.clo ..::_,_,h|.tup _::_,_,h|.agg _::_,_,h|.yl _::_,_,h=>by cases h
theorem UP{S:Sys}{c:bU}{rs:aX RV}{a:RC}{st:St}{ob:bq}{ys:Zu}(h:j7 S c (En rs) a [] st=some (ob,ys)):∃o st' d,cw S c a st=some (o,st')/\(∀id,o≠.exit id)/\ki st' rs=some (.own d::ys.map .v)/\bg st'.m d=some ob:=by
 rw[pE]at h;have⟨⟨o,st'⟩,b,u⟩:=ζg.1 h;have z:∀id,o≠.exit id:=by rintro id rfl;simp[En]at u
 have B:(ki st' rs).bind (λl=>match l with|.own d::r=>(bg st'.m d).bind λob=>(dh r).map λys=>(ob,ys)|_=>none)=some (ob,ys):=by cases o with|exit id=>exact absurd rfl (z id)|norm=>exact u|ret=>exact u
 have⟨l,C,w⟩:=ζg.1 B;split at w;have⟨D,G,I⟩:=ζg.1 w;have⟨O,J,L⟩:=ζf.1 I;cases L;exact⟨o,st',_,b,z,by rw[C,zn J],G⟩;cases w
structure Uu(S:Sys)(c:bU){δ ε:Type}[bp δ][iS ε](m:Option (Sl δ×ε))where
 n:FuncId
 az:List V
 k:S.E.keep n=true
 o:S.E.own n=true
 h:∀s r,m=some (s,r)->∃e m',c n (az.map .v) []=some (.own e::(iS.e r).map .v,m')/\bg m' e=some (ct s)
 sc:∀x:δ,(cells x).all V.scalar=true
 sr:∀r:ε,V.cM (iS.e r)=true
abbrev Uu.mk'{S:Sys}{T:pI}{δ ε:Type}[bp δ][iS ε]{m:aY (Sl δ×ε)}(fn:FuncId)(az:aX V)(h:Le (m.bind λr=>some (ct r.1,iS.e r.2)) (b8 S (cT S T) (En (tr T fn)) (.rc (tb T fn),[],start (az.map .v) [])))
 (B:(T fn).isSome=true:=by kernel_rfl)(b:S.E.keep fn=true:=by kernel_rfl)(D:S.E.own fn=true:=by kernel_rfl)(G:ble az.length (rQ (T fn)).na=true:=by kernel_rfl)
 (sc:∀x:δ,(cells x).all V.scalar=true:=by intro x;rfl)(sr:∀r:ε,V.cM (iS.e r)=true:=by intro r;rfl):Uu S (cT S T) m where
 n:=fn
 az:=az
 k:=b
 o:=D
 sc:=sc
 sr:=sr
 h s r w:=by have u:=B7 B;have a:=h (ct s,iS.e r) (by rw[w];rfl);change j7 S (cT S T) (En (rQ (T fn)).rs) (rQ (T fn)).body [] (start (az.map .v) [])=some (ct s,iS.e r)at a;have⟨o,st',d,g1,g2,g3,g4⟩:=UP a;refine⟨d,st'.m,?_,g4⟩;rw[sB u];unfold mB;rw[if_pos (by simpa using Nat.le_of_ble_eq_true G),g1];cases o with|exit id=>exact absurd rfl (g2 id)|norm=>simp only[g3,map_some]|ret=>simp only[g3,map_some]
section
variable{S:Sys}{c:bU}{β γ δ α:Type}{Q:Out×St->aY β}{e:γ->aY β}{cf:Cf}
end
def Kd(rs:aX RV)(B:Zv):Out×St->aY (Zu×dF)
 |(.exit _,_)=>none|(_,st)=>(ki st rs).bind λl=>(dh l).bind λys=>(kM st.m B).map λos=>(ys,os)
theorem VA{S:Sys}{c:bU}{rs:aX RV}{B:Zv}{a:RC}{st:St}{os:dF}{ys:Zu}(h:j7 S c (Kd rs B) a [] st=some (ys,os)):∃o st',cw S c a st=some (o,st')/\(∀id,o≠.exit id)/\ki st' rs=some (ys.map .v)/\kM st'.m B=some os:=by
 rw[pE]at h;have⟨⟨o,st'⟩,b,u⟩:=ζg.1 h;have w:∀id,o≠.exit id:=by rintro id rfl;simp[Kd]at u
 have z:(ki st' rs).bind (λl=>(dh l).bind λys=>(kM st'.m B).map λos=>(ys,os))=some (ys,os):=by cases o with|exit id=>exact absurd rfl (w id)|norm=>exact u|ret=>exact u
 have⟨l,C,D⟩:=ζg.1 z;have⟨O,G,I⟩:=ζg.1 D;have⟨q,J,L⟩:=ζf.1 I;cases L;exact⟨o,st',b,w,by rw[C,zn G],J⟩
def wJ:Tb bq->dF->Tb bq
 |m,[]=>m|m,(d,ob)::r=>wJ (bu m d ob) r
theorem GA{m':dF}{G:Zv}:∀{B:Zv}{os m:dF},kM m' B=some os->(os.all λx=>within G x.2)=true->wP G m' B m=some (wJ m os)
 |[],os,m,h,_=>by cases h;rfl|k::B,os,m,h,D=>by simp only[kM]at h;split at h;(next v t a J=>cases h;simp only[all_cons,ζh]at D;simp only[wP,a,D.1,if_true,wJ];exact GA J D.2);cases h
theorem back_eq{m':dF}{B:Zv}{os m:dF}(h:kM m' B=some os)(D:(os.all λx=>within B x.2)=true):mj m' B m=some (wJ m os):=GA h D
structure O4(S:Sys)(c:bU){δ:Type}(m:Option δ)where
 n:FuncId
 az:List SV
 os:dF
 E:δ->List V
 M:δ->dF
 k:S.E.keep n=true
 o:S.E.own n=false
 q:(S.prm n).isNone=true
 h:∀r,m=some r->∃m',c n az os=some ((E r).map .v,m')/\∀m0,mj m' (os.map (·.1)) m0=some (wJ m0 (M r))
abbrev O4.mk'{S:Sys}{T:pI}{δ:Type}{m:aY δ}(fn:FuncId)(az:aX SV)(os:dF)(E:δ->aX V)(M:δ->dF)(h:Le (m.bind λr=>some (E r,M r)) (b8 S (cT S T) (Kd (tr T fn) (os.map (·.1))) (.rc (tb T fn),[],start az os)))
 (B:(T fn).isSome=true:=by kernel_rfl)(b:S.E.keep fn=true:=by kernel_rfl)(D:S.E.own fn=false:=by kernel_rfl)(G:(S.prm fn).isNone=true:=by kernel_rfl)(J:ble az.length (rQ (T fn)).na=true:=by kernel_rfl)
 (O:∀r,((M r).all λx=>within (os.map (·.1)) x.2)=true:=by intro r;kernel_rfl):O4 S (cT S T) m where
 n:=fn
 az:=az
 os:=os
 E:=E
 M:=M
 k:=b
 o:=D
 q:=G
 h r hr:=by have u:=B7 B;have a:=h (E r,M r) (by rw[hr];rfl);change j7 S (cT S T) (Kd (rQ (T fn)).rs (os.map (·.1))) (rQ (T fn)).body [] (start az os)=some (E r,M r)at a;have⟨o,st',g1,g2,g3,g4⟩:=VA a;refine⟨st'.m,?_,λw=>back_eq g4 (O r)⟩;rw[sB u];unfold mB;rw[if_pos (Nat.le_of_ble_eq_true J),g1];cases o with|exit id=>exact absurd rfl (g2 id)|norm=>simp only[g3,map_some]|ret=>simp only[g3,map_some]
section
variable{S:Sys}{c:bU}{β γ δ:Type}{Q:Out×St->aY β}{e:γ->aY β}{cf:Cf}
instance:Key Zq where
 kk:=.str
 ok _:=rfl
 eq a b:=by show some (a==b)=some (decide (a=b));rw[show(a==b)=decide (a=b)from Bool.eq_iff_iff.2 (by cases a;cases b;rename_i x y;show(x==y)=true↔_;simp)]
def Jt(s:Sl U8):Zq:=pN (s.l.map U8.v)
theorem FK:∀l:aX U8,kA (rows l)=some (l.map U8.v)
 |[]=>rfl|a::l=>by show(kA (rows l)).map (a.v::·)=_;rw[FK l];rfl
theorem TW(n u:Nat)(s:Sl U8){m:aY β}(h:Le m (b8 S c Q (nx S c n cf λp=>cZ p.st p.d (.v (.str (Jt s))))))
 (B:(gM S c n cf).map (λp=>(p.k,bV S.N p.st.g p.az,bg p.st.m u,p.dr))=some (.b,some [.own u],some (ct s),false):=by kernel_rfl):Le m (b8 S c Q cf):=by
 have⟨p,z,a⟩:=fC B;simp only[ζc]at a;have⟨C,D,G,I⟩:=a;refine uF z ?_ h;rw[C,I];have J:(gV p.st.m 1 (.own u)).bind (λL=>(kA L).map λl=>((SV.v (.str (pN l)),p.st):SV×St))=some (.v (.str (Jt s)),p.st):=by have O:kA (rows s.l)=some (s.l.map U8.v):=FK _;have w:gV p.st.m 1 (.own u)=some (rows s.l):=(by unfold gV;simp only[G];cases s<;>rfl);rw[w];show((kA (rows s.l)).map λl=>_)=_;rw[O];rfl
 unfold fc kS;have T:fE S.N p.st.g ⟨p.d,none,p.now,.b,p.az,[],[]⟩=none:=rfl;simp only[wanted,T,D,false_eq_true,if_false,J];rfl
end
def IT(rs:aX RV)(B:Zv):Out×St->aY (bq×Zu×dF)
 |(.exit _,_)=>none|(_,st)=>(ki st rs).bind λl=>match l with
  |.own d::r=>if B.contains d then none else(bg st.m d).bind λob=>(dh r).bind λys=>(kM st.m B).map λos=>(ob,ys,os)|_=>none
theorem Vl{S:Sys}{c:bU}{rs:aX RV}{B:Zv}{a:RC}{st:St}{ob:bq}{ys:Zu}{os:dF}(h:j7 S c (IT rs B) a [] st=some (ob,ys,os)):
 ∃o st' d,cw S c a st=some (o,st')/\(∀id,o≠.exit id)/\ki st' rs=some (.own d::ys.map .v)/\B.contains d=false/\bg st'.m d=some ob/\kM st'.m B=some os:=by
 rw[pE]at h;have⟨⟨o,st'⟩,b,w⟩:=ζg.1 h;have D:∀id,o≠.exit id:=by rintro id rfl;simp[IT]at w
 have G:(ki st' rs).bind (λl=>match l with|.own d::r=>if B.contains d then none else(bg st'.m d).bind λob=>(dh r).bind λys=>(kM st'.m B).map λos=>(ob,ys,os)|_=>none)=some (ob,ys,os):=by cases o with|exit id=>exact absurd rfl (D id)|norm=>exact w|ret=>exact w
 have⟨l,I,u⟩:=ζg.1 G;split at u
 .split at u
  .cases u
  rename_i e;have⟨J,L,O⟩:=ζg.1 u;have⟨U,Q,T⟩:=ζg.1 O;have⟨q,z,C⟩:=ζf.1 T;cases C;exact⟨o,st',_,b,D,by rw[I,zn Q],by simpa using e,L,z⟩
 cases u
structure UD(S:Sys)(c:bU){δ ε:Type}[bp δ][iS ε](m:Option (Sl δ×ε))where
 n:FuncId
 az:List SV
 os:dF
 M:Sl δ×ε->dF
 k:S.E.keep n=true
 o:S.E.own n=false
 q:(S.prm n).isNone=true
 h:∀r,m=some r->∃e m',c n az os=some (.own e::(iS.e r.2).map .v,m')/\bg m' e=some (ct r.1)/\(os.map (·.1)).contains e=false/\∀m0,mj m' (os.map (·.1)) m0=some (wJ m0 (M r))
abbrev UD.mk'{S:Sys}{T:pI}{δ ε:Type}[bp δ][iS ε]{m:aY (Sl δ×ε)}(fn:FuncId)(az:aX SV)(os:dF)(M:Sl δ×ε->dF)
 (h:Le (m.bind λr=>some (ct r.1,iS.e r.2,M r)) (b8 S (cT S T) (IT (tr T fn) (os.map (·.1))) (.rc (tb T fn),[],start az os)))
 (B:(T fn).isSome=true:=by kernel_rfl)(b:S.E.keep fn=true:=by kernel_rfl)(D:S.E.own fn=false:=by kernel_rfl)(G:(S.prm fn).isNone=true:=by kernel_rfl)(J:ble az.length (rQ (T fn)).na=true:=by kernel_rfl)
 (O:∀r,((M r).all λx=>within (os.map (·.1)) x.2)=true:=by intro r;kernel_rfl):UD S (cT S T) m where
 n:=fn
 az:=az
 os:=os
 M:=M
 k:=b
 o:=D
 q:=G
 h r hr:=by have u:=B7 B;have a:=h (ct r.1,iS.e r.2,M r) (by rw[hr];rfl);change j7 S (cT S T) (IT (rQ (T fn)).rs (os.map (·.1))) (rQ (T fn)).body [] (start az os)=some (ct r.1,iS.e r.2,M r)at a;have⟨o,st',d,g1,g2,g3,g4,g5,g6⟩:=Vl a;refine⟨d,st'.m,?_,g5,g4,λw=>back_eq g6 (O r)⟩;rw[sB u];unfold mB;rw[if_pos (Nat.le_of_ble_eq_true J),g1];cases o with|exit id=>exact absurd rfl (g2 id)|norm=>simp only[g3,map_some]|ret=>simp only[g3,map_some]
section
variable{S:Sys}{c:bU}{β γ:Type}{Q:Out×St->aY β}{e:γ->aY β}{cf:Cf}
end
structure S8(S:Sys)(c:bU){α δ:Type}[bp δ](fn:FuncId)(A:α->List V)(p:α->Option (Sl δ)):Prop where
 k:S.E.keep fn=true
 o:S.E.own fn=false
 q:(S.prm fn).isNone=true
 h:∀z s,p z=some s->∃e m',c fn ((A z).map .v) []=some ([.own e],m')/\bg m' e=some (ct s)
theorem S8.mk'{S:Sys}{T:pI}{α δ:Type}[bp δ](rf:RF){fn:Zk}{A:α->Zu}{p:α->aY (Sl δ)}(h:∀z,Le ((p z).bind λr=>some (ct r)) (b8 S (cT S T) (CM rf.rs) (.rc rf.body,[],start ((A z).map .v) [])))
 (B:T fn=some rf:=by kernel_rfl)(b:S.E.keep fn=true:=by kernel_rfl)(D:S.E.own fn=false:=by kernel_rfl)(G:(S.prm fn).isNone=true:=by kernel_rfl)(J:∀z,(A z).length<=rf.na:=by intro z;exact Nat.le_of_ble_eq_true (by kernel_rfl)):S8 S (cT S T) fn A p where
 k:=b
 o:=D
 q:=G
 h z s u:=by have a:=h z (ct s) (by rw[u];rfl);change j7 S (cT S T) (CM rf.rs) rf.body [] (start ((A z).map .v) [])=some (ct s)at a;have⟨o,st',d,g1,g2,g3,g4⟩:=UN a;refine⟨d,st'.m,?_,g4⟩;rw[sB B];unfold mB;rw[if_pos (by simpa using J z),g1];cases o with|exit id=>exact absurd rfl (g2 id)|norm=>simp only[g3,map_some]|ret=>simp only[g3,map_some]
section
variable{S:Sys}{c:bU}{β γ δ α:Type}[bp δ]{Q:Out×St->aY β}{e:γ->aY β}{cf:Cf}
end
section
variable{S:Sys}{c:bU}{β γ δ:Type}{Q:Out×St->aY β}{e:γ->aY β}{cf:Cf}
end
structure U_(S:Sys)(c:bU){α δ:Type}(fn:FuncId)(A:α->List SV)(O:α->dF)(E:δ->List V)(M:α->δ->dF)(p:α->Option δ):Prop where
 k:S.E.keep fn=true
 o:S.E.own fn=false
 q:(S.prm fn).isNone=true
 h:∀z r,p z=some r->∃m',c fn (A z) (O z)=some ((E r).map .v,m')/\∀m0,mj m' ((O z).map (·.1)) m0=some (wJ m0 (M z r))
abbrev O4.of{S:Sys}{c:bU}{α δ:Type}{fn:FuncId}{A:α->aX SV}{O:α->dF}{E:δ->aX V}{M:α->δ->dF}{p:α->aY δ}(z:α)(F:U_ S c fn A O E M p):O4 S c (p z):=⟨fn,A z,O z,E,M z,F.k,F.o,F.q,F.h z⟩
section
variable{S:Sys}{c:bU}{α σ:Type}[bp α]{g:Zk}
end
section
variable{S:Sys}{c:bU}{α σ β γ:Type}[bp α]{g:Zk}{Q:Out×St->aY β}{e:γ->aY β}{cf:Cf}
end
section
variable{S:Sys}{c:bU}{β γ δ α:Type}[bp δ]{Q:Out×St->aY β}{e:γ->aY β}{cf:Cf}
end
def yl(B:Zt)(more:Zl)(xs:Zu):aY (Zl×Zt):=match B with
 |w::r=>open Classical in if w=xs then some (more|| !r.isEmpty,r)else none|[]=>none
section
variable{S:Sys}{c:bU}{β γ:Type}{Q:Out×St->aY β}{e:γ->aY β}{cf:Cf}
end
section
variable{S:Sys}{c:bU}{β γ α:Type}[bp α]{Q:Out×St->aY β}{e:γ->aY β}{cf:Cf}
end
section
variable{α:Type}[bp α]
abbrev rT(s:Sl (Sl α)):bq:=.dp s.k (rows s.l) none
abbrev Bi(s:Sl (Sl α))(i:Int)(t:Nat):bq:=.dp s.k (rows s.l) (some (i.toNat,t))
def lU(s:Sl (Sl α))(i:Int)(x:Sl α):Sl (Sl α):=match s with
 |.row l=>.row (l.set i.toNat x)|.part l=>.part (l.set i.toNat x)|s=>s
def SU:Sl α->Zl
 |.nil|.emp=>true|_=>false
structure KE(s:Sl (Sl α)):Prop where
 a:s.l.all SU=true
 b:s.k≠.part
theorem Sr:(idx (Sl.row [(Sl.nil:Sl α)]) 0).bind Sl.whole=some .nil:=rfl
theorem PR{i:Int}{s:Sl (Sl α)}(h:jT i (.nil:Sl α)=some s):KE s:=by unfold jT at h;split at h;cases h;exact⟨by simp[Sl.l,SU],by simp[Sl.k]⟩;cases h
theorem CJ(s:Sl (Sl α))(i:Int)(x:Sl α):(lU s i x).l=s.l.set i.toNat x/\(lU s i x).k=s.k:=by cases s<;>simp[lU,Sl.l,Sl.k]
theorem Cq{s:Sl (Sl α)}{i:Int}{y:Sl α}(h:(idx s i).bind Sl.whole=some y):0<=i/\s.l[i.toNat]?=some y/\y.k≠.part/\bN s.k=true/\i.toNat<s.l.length:=by
 have⟨z,a,u⟩:=ζg.1 h;unfold idx at a;split at a
 .rename_i B;have w:=(ζe.1 a).1;have b:bN s.k=true:=(by cases s<;>first|rfl|(simp[Sl.l]at w));cases z with|part l=>cases u|nil=>cases u;exact⟨B,a,by simp[Sl.k],b,w⟩|emp=>cases u;exact⟨B,a,by simp[Sl.k],b,w⟩|row l=>cases u;exact⟨B,a,by simp[Sl.k],b,w⟩
 cases a
theorem L3{y:Sl α}(h:y.k≠.part):PB (bp.size α) (cells y)=some (ct y):=by cases y with|nil=>rfl|emp=>rfl|row l=>simp[NI,cg,jC,Sl.k,Sl.l,PB,ct]|part l=>exact absurd rfl h
end
def C4(fo:Fo)(fs:Z3):aY (Gh×Fo×Z3):=match fo,fs with
 |.rc (.gh g a),fs=>some (g,.rc a,fs)|.ops false fr (⟨d,gd,now,k,az,dd,x::u⟩::r),fs=>some (x,.ops false fr (⟨d,gd,now,k,az,dd,u⟩::r),fs)|.nx,.gst g::fs=>some (g,.nx,fs)|_,_=>none
def Kl(st:St)(l:Loc):Z6:=match IE st l with
 |some (.v (.int _ i))=>some i|_=>none
theorem Qk{st:St}{x:Loc}{i:Int}(h:Kl st x=some i)(B:0<=i):OD st x=some i.toNat:=by
 unfold Kl at h;unfold OD;split at h;next a=>cases h;simp only[a,if_pos B]
 cases h
def gx(S:Sys)(c:bU)(n:Nat)(cf:Cf)(φ:St->St):Cf:=match fV S c n cf.1 cf.2.1 cf.2.2 with
 |some (fo,fs,st)=>match C4 fo fs with
  |some (_,u,fs')=>(u,fs',φ st)|none=>cf
 |none=>cf
section
variable{S:Sys}{c:bU}{β γ δ α:Type}[bp α]{Q:Out×St->aY β}{e:γ->aY β}{cf:Cf}
theorem Td{n:Nat}{m:aY β}{φ:St->St}{g:Gh}{fo fo':Fo}{fs fs':Z3}{st:St}(a:fV S c n cf.1 cf.2.1 cf.2.2=some (fo,fs,st))(B:C4 fo fs=some (g,fo',fs'))(D:ghost g st=some (φ st))
 (h:Le m (b8 S c Q (gx S c n cf φ))):Le m (b8 S c Q cf):=by
 refine Ae a ?_;have u:ud S c fo fs st=some (fo',fs',φ st):=by unfold C4 at B;split at B<;>cases B<;>simp[ud,D]
 show Le m (rn S c Q fo fs st);rw[Gu u];simpa[gx,a,B]using h
theorem Gy{n:Nat}{α:Type}{φ:Gh->St->α}{a:α}(h:(fV S c n cf.1 cf.2.1 cf.2.2).bind (λp=>(C4 p.1 p.2.1).map λq=>φ q.1 p.2.2)=some a):
 ∃fo fs st g fo' fs',fV S c n cf.1 cf.2.1 cf.2.2=some (fo,fs,st)/\C4 fo fs=some (g,fo',fs')/\φ g st=a:=by
 have⟨⟨fo,fs,st⟩,b,u⟩:=ζg.1 h;have⟨⟨g,fo',fs'⟩,w,z⟩:=ζf.1 u;exact⟨fo,fs,st,g,fo',fs',b,w,z⟩
theorem E4(n d t:Nat)(x:Loc){s:Sl (Sl α)}{i:Int}{f:Sl α->aY γ}(h:∀y,(idx s i).bind Sl.whole=some y->Le ((f y).bind e) (b8 S c Q (gx S c n cf λst=>{st with m:=bu (bu st.m d (Bi s i t)) t (ct y)})))
 (B:(fV S c n cf.1 cf.2.1 cf.2.2).bind (λp=>(C4 p.1 p.2.1).map λq=>(q.1,bg p.2.2.m d,Kl p.2.2 x,p.2.2.new t))=some (.take d x (bp.size α) t,some (rT s),some i,true):=by kernel_rfl):Le ((((idx s i).bind Sl.whole).bind f).bind e) (b8 S c Q cf):=by
 cases u:(idx s i).bind Sl.whole with
 |none=>exact Le.none _|some y=>
  have⟨fo,fs,st,g,z,fs',a,C,w⟩:=Gy (φ:=λg st=>(g,bg st.m d,Kl st x,st.new t)) B
  simp only[ζc]at w;obtain⟨rfl,D,G,I⟩:=w;have⟨g1,g2,g3,g4,g5⟩:=Cq u;refine Td a C ?_ (h y u);show zo d x (bp.size α) t st=_;unfold zo;rw[D,Qk G g1];simp only[g4,I,and_self,if_true];have:(rows s.l)[i.toNat]?=some (cells y):=by rw[rows,getElem?_map,g2];rfl
  rw[this,ζb,L3 g3];rfl
theorem Ez(n d t:Nat){s:Sl (Sl α)}{i:Int}{y D:Sl α}(a:(idx s i).bind Sl.whole=some D){f:Sl α->aY γ}(h:∀z,y.whole=some z->Le ((f z).bind e) (b8 S c Q (gx S c n cf λst=>{st with m:=bu (cR t st.m) d (rT (lU s i z))})))
 (G:(fV S c n cf.1 cf.2.1 cf.2.2).bind (λp=>(C4 p.1 p.2.1).map λq=>(q.1,bg p.2.2.m d,bg p.2.2.m t,beq t d))=some (.put d,some (Bi s i t),some (ct y),false):=by kernel_rfl):Le (((y.whole).bind f).bind e) (b8 S c Q cf):=by
 cases w:y.whole with
 |none=>exact Le.none _|some z=>
  have⟨fo,fs,st,g,C,fs',b,I,B⟩:=Gy (φ:=λg st=>(g,bg st.m d,bg st.m t,beq t d)) G
  simp only[ζc]at B;obtain⟨rfl,J,L,O⟩:=B;have⟨g1,g2,g3,g4,g5⟩:=Cq a;have T:z=y/\y.k≠.part:=by cases y<;>cases w<;>exact⟨rfl,by simp[Sl.k]⟩
  obtain⟨rfl,j⟩:=T;refine Td b I ?_ (h z w);show CW d st=_;have u:t≠d:=λe=>by subst e;simp at O
  unfold CW;rw[J];simp only[L,ct,ne_eq,j,not_false_eq_true,u,g4,and_self,if_true];have:(rows s.l).set i.toNat [jC z.k (bp.size α) (rows z.l)]=rows (lU s i z).l:=by rw[(CJ s i z).1];simp[rows,map_set];rfl
  rw[this,<-(CJ s i z).2]
theorem Sc(n d:Nat){s:Sl (Sl α)}{m:aY β}(B:KE s)(h:Le m (b8 S c Q (gx S c n cf λst=>{st with m:=bu st.m d (rT s)})))
 (D:(fV S c n cf.1 cf.2.1 cf.2.2).bind (λp=>(C4 p.1 p.2.1).map λq=>(q.1,bg p.2.2.m d))=some (.melt d,some (ct s)):=by kernel_rfl):Le m (b8 S c Q cf):=by
 have⟨fo,fs,st,g,w,fs',a,z,u⟩:=Gy (φ:=λg st=>(g,bg st.m d)) D
 simp only[ζc]at u;obtain⟨rfl,C⟩:=u;refine Td a z ?_ h;show zb d st=_;unfold zb;rw[C];have G:(rows s.l).all MF=true:=by rw[all_eq_true];intro x I;obtain⟨y,J,rfl⟩:=mem_map.1 I;have:=all_eq_true.1 B.a y J;cases y<;>first|rfl|cases this
 have L:=B.b;have O:bp.size (Sl α)=1:=rfl;simp only[ct,O,ne_eq,L,not_false_eq_true,G,and_self,if_true]
theorem IM(n d t:Nat)(k:Zs){s:Sl (Sl α)}{i:Int}{y:Sl α}(b:(idx s i).bind Sl.whole=some y){m:aY β}(h:Le m (b8 S c Q (nx S c n cf λp=>cZ p.st p.d (.el d i.toNat 0))))
 (B:(gM S c n cf).map (λp=>(p.k,bV S.N p.st.g p.az,bg p.st.m d))=some (.p (.idxS 1),some [.own d,.v (.int k i)],some (Bi s i t)):=by kernel_rfl):Le m (b8 S c Q cf):=by
 have⟨p,u,a⟩:=fC B;simp only[ζc]at a;have⟨g1,g2,g3,g4,g5⟩:=Cq b;refine uF u ?_ h;rw[a.1,JE _ _ _ _ _ _ _ rfl,a.2.1,ζb,H_,a.2.2];simp[GU,g1,g4,g5,fh]
theorem NN(n d t:Nat){s:Sl (Sl α)}{i:Int}{y:Sl α}(b:(idx s i).bind Sl.whole=some y){m:aY β}(h:Le m (b8 S c Q (nx S c n cf λp=>cZ p.st p.d (.own t))))
 (B:(gM S c n cf).map (λp=>(p.k,bV S.N p.st.g p.az,bg p.st.m d,(!p.dr||p.now||eD p.fr [.el d i.toNat 0])))=some (.r (.load 1 false),some [.el d i.toNat 0],some (Bi s i t),true):=by kernel_rfl):Le m (b8 S c Q cf):=by
 have⟨p,u,a⟩:=fC B;simp only[ζc]at a;refine uF u ?_ h;rw[a.1,BN,a.2.1,ζb,a.2.2.2,if_pos rfl,OR,a.2.2.1];simp[BM]
theorem UW(n d t u:Nat){s:Sl (Sl α)}{i:Int}{y:Sl α}(b:(idx s i).bind Sl.whole=some y){m:aY β}(h:Le m (b8 S c Q (nx S c n cf λp=>cZ {p.st with m:=bu p.st.m d (Bi s i u)} p.d (.v .undef))))
 (B:(gM S c n cf).map (λp=>(p.k,bV S.N p.st.g p.az,bg p.st.m d,(!p.dr||p.now),(bg p.st.m u).isSome,beq u d))=some (.l (.store 1),some [.el d i.toNat 0,.own u],some (Bi s i t),true,true,false):=by kernel_rfl):Le m (b8 S c Q cf):=by
 have⟨p,z,a⟩:=fC B;simp only[ζc]at a;have w:u≠d:=λe=>by subst e;simp at a
 refine uF z ?_ h;rw[a.1,sP,a.2.1,ζb,a.2.2.2.1,if_pos rfl];have:jG p.st p.d (.store 1) [.el d i.toNat 0,.own u]=some (.v .undef,{p.st with m:=bu p.st.m d (Bi s i u)}):=by unfold jG;simp[a.2.2.1,a.2.2.2.2.1,w]
 rw[this];rfl
theorem U7(n u t:Nat){m:aY β}(h:Le m (b8 S c Q (nx S c n cf λp=>{p.st with g:=bu p.st.g u (.own u),m:=bu p.st.m u (Bi (Sl.row [(Sl.nil:Sl α)]) 0 t)})))
 (B:(gM S c n cf).map (λp=>(p.d,p.k,bV S.N p.st.g p.az,p.st.new u,(bg p.st.m t).isSome))=some (some u,.a (.buildSl 1 1 [.bD] [0]),some [.own t],true,true):=by kernel_rfl):Le m (b8 S c Q cf):=by
 have⟨p,w,a⟩:=fC B;simp only[ζc]at a;refine uF w ?_ h;rw[a.1,a.2.1,zf,a.2.2.1,ζb,if_pos a.2.2.2.1];have:mU p.st.m (.buildSl 1 1 [.bD] [0]) [.own t] u=some (Bi (.row [(.nil:Sl α)]) 0 t,.own u):=by unfold mU;simp only[dh,and_self,true_and];rw[if_pos a.2.2.2.2];rfl
 rw[this];rfl
theorem Um(n d u t:Nat){s:Sl (Sl α)}{x:Sl α}{f:Sl (Sl α)->aY γ}(h:∀B,eW s x=some B->Le ((f B).bind e) (b8 S c Q (nx S c n cf λp=>{p.st with g:=bu p.st.g t (.own t),m:=bu (cR u (cR d p.st.m)) t (rT B)})))
 (D:(gM S c n cf).map (λp=>(p.d,p.k,bV S.N p.st.g p.az,bg p.st.m d,bg p.st.m u,(!p.dr||p.now),beq d u,St.new {p.st with m:=cR u (cR d p.st.m)} t))=some (some t,.l (.append 1),some [.own d,.own u],some (rT s),some (rT (.row [x])),true,false,true):=by kernel_rfl):Le (((eW s x).bind f).bind e) (b8 S c Q cf):=by
 have⟨p,G,a⟩:=fC D;simp only[ζc]at a;have⟨I,J,L,z,C,O,T,U⟩:=a;have w:d≠u:=λe=>by subst e;simp at T
 refine uz G ?_ h;rw[I,J,sP,L,ζb,O,if_pos rfl];have:jG p.st (some t) (.append 1) [.own d,.own u]=yg p.st (some t) 1 (.own d) (.own u):=by unfold jG;simp[gV,z,C]
 have W:rows (Sl.row [x]).l≠[]:=by simp[Sl.l,rows]
 have Y:(rows (Sl.row [x]).l).length=1:=rfl;have b:rows s.l++rows (Sl.row [x]).l=rows (s.l++[x]):=by simp[rows,Sl.l]
 have X:yg p.st (some t) 1 (.own d) (.own u)=(eW s x).bind λB=>some (.own t,{p.st with m:=bu (cR u (cR d p.st.m)) t (rT B)}):=by simp only[yg,z,C,eW,rT];rw[show(Sl.row [x]).k=.row from rfl];simp only[true_and,ne_eq,w,not_false_eq_true,W,fh,show(Sl.row [x]).l.length=1 from rfl,U,if_true,b];by_cases h:s.l.length+1<=2147483648;rw[if_pos h,if_pos h];rfl;rw[if_neg h,if_neg h];rfl
 rw[this,X]
 cases eW s x with
 |none=>exact Le.none _|some B=>exact Le.of_eq rfl
end
theorem Pf{n:Int}(B:0<=n)(h:n<=4611686018427387904):wrap .i64 n=n:=by simp[wrap,IntKind.bits,signed];omega
namespace catX
instance{n:Nat}:OfNat Arg n:=⟨.s n⟩
def ln:K:=.p .lenSl
def ix:K:=.p (.idxS 1)
def bI(o:BinOp):K:=.p (.bin (some .int) none o)
def ld:K:=.r (.load 1 false)
def g1:Zy:=[o1 4 (.k (.bD)) []]
def g2:Zy:=[o1 5 1 [],o2 6 (bI .lss) [5,.k (.int .i64 0)] []]
def g3:Zy:=[o2 7 (.p (.bad)) [] [],⟨none,none,false,.p .bad,[],[],[]⟩]
def g4:Zy:=[o1 8 1 [],o1 9 0 [],o2 10 (.p (.capSl)) [9] [],o1 11 0 [],o2 12 ln [11] [],o2 13 (bI .sub) [10,12] [],o2 14 (bI .sub) [8,13] [],o1 1 14 []]
def g5:Zy:=[o1 15 1 [],o2 16 (bI .gtr) [15,.k (.int .i64 0)] []]
def g6:Zy:=[o1 17 0 [],o1 18 0 [],o2 19 (.p (.capSl)) [18] [],o2 20 (.p (.slice 1 false true)) [17,19] [],o1 21 1 [],o2 22 (.l (.appMk 1 24 [.bD])) [20,21] [],o1 23 0 [],o2 24 ln [23] [],o2 25 (.p (.slice 1 false true)) [22,24] [],o1 0 25 []]
def g7:Zy:=[o1 26 0 [],o1 4 26 []]
def grow:RC:=.seq (.ops g1) (.seq (.seq (.ops g2) (.cond (.s 6) (.ops g3) (.skip))) (.seq (.seq (.ops g4) (.seq (.ops g5) (.cond (.s 16) (.ops g6) (.skip)))) (.seq (.ops g7) (.ret))))
section
variable{E:Env}{N:Nat->Zk}{t:Nat}
attribute [local simp] dc i_ eM bH jZ qm mc qz bI ln
theorem PT(d:t<=2147483648):∃F',Ex E N grow [.bD,.int .i64 t] [] .ret F' (if t=0 then[]else[.row 1 (replicate t [.bD])])/\get F' 4=if t=0 then .bD else .hsl 0 1 0 0:=by
 have e1:∀call,dc E N call none g1 [.bD,.int .i64 t] []=some (set [.bD,.int .i64 t] 4 .bD,[]):=λcall=>vp (v:=.bD) rfl (by simp[i_,eM,bH]) tQ;have k0:get (set [V.bD,.int .i64 t] 4 .bD) 0=.bD:=rfl;have k1:get (set [V.bD,.int .i64 t] 4 .bD) 1=.int .i64 t:=rfl;generalize set [V.bD,.int .i64 t] 4 .bD=G at *;have e2:∃F1,(∀call,dc E N call none g2 G []=some (F1,[]))/\get F1 6=.bool false/\get F1 0=.bD/\get F1 1=.int .i64 t:=by exact⟨_,λcall=>by simp[g2,k1];rfl,Zc,by simp[k0],by simp[k1]⟩
 have⟨F1,a1,a2,I,T⟩:=e2;have e4:∃z,(∀call,dc E N call none g4 F1 []=some (z,[]))/\get z 0=.bD/\get z 1=.int .i64 t:=by exact⟨_,λcall=>by simp[g4,I,T,Ge,mK,Pf (n:=t) Za Za,show wrap .i64 0=0 from by decide];rfl,by simp[I],Zc⟩
 have⟨z,J,U,L⟩:=e4;have e5:∃u,(∀call,dc E N call none g5 z []=some (u,[]))/\get u 16=.bool (decide (t>0))/\get u 0=.bD/\get u 1=.int .i64 t:=by exact⟨_,λcall=>by simp[g5,L];rfl,Zc,by simp[U],by simp[L]⟩
 have⟨u,O,Q,S,W⟩:=e5;have c:Ex E N (.seq (.ops g2) (.cond (.s 6) (.ops g3) (.skip))) G [] .norm F1 []:=Ex.seq (Ex.dG a1) (Ex.sW a2 Ex.skip);have e7:∀(F:Zo)(H:bh),∃F',(∀call,dc E N call none g7 F H=some (F',H))/\get F' 4=get F 0:=λF H=>⟨_,λcall=>by simp[g7];rfl,Zc⟩
 by_cases B:t=0;subst B;have⟨D,a,b⟩:=e7 u [];refine⟨D,?_,by rw[b,S];rfl⟩;exact Ex.seq (Ex.dG e1) (Ex.seq c (Ex.seq (Ex.seq (Ex.dG J) (Ex.seq (Ex.dG O) (Ex.sW Q Ex.skip))) (Ex.seq (Ex.dG a) Ex.ret)));have w:0<t:=Za;have e6:∃C,(∀call,dc E N call none g6 u []=some (C,[.row 1 (replicate t [.bD])]))/\get C 0=.hsl 0 1 0 0:=by exact⟨_,λcall=>by simp[g6,S,W,Ge,mK,lH,gQ,dx,eA,mkApp,w,B,show(t:Int)<=2147483648 from Za];rfl,Zc⟩
 have⟨C,X,Y⟩:=e6;have⟨D,a,b⟩:=e7 C [.row 1 (replicate t [.bD])];rw[if_neg B,if_neg B];refine⟨D,?_,by rw[b,Y]⟩;exact Ex.seq (Ex.dG e1) (Ex.seq c (Ex.seq (Ex.seq (Ex.dG J) (Ex.seq (Ex.dG O) (Ex.qf (by show get u 16=_;rw[Q,decide_eq_true w]) (Ex.dG X)))) (Ex.seq (Ex.dG a) Ex.ret)))
end
end catX
def Aw{α:Type}(s:Sl (Sl α)):Sl α:=if(s.l.flatMap Sl.l).length=0 then .nil else .row (s.l.flatMap Sl.l)
namespace catX
def r1:Zy:=[o1 2 (.k (.bD)) []]
def r2:Zy:=[o1 3 (.k (.int .i64 0)) []]
def r3:Zy:=[o1 9 0 [],o2 10 ln [9] [],o1 11 (.k (.int .i64 0)) []]
def r4:Zy:=[o2 12 (bI .lss) [11,10] []]
def r5:Zy:=[o2 13 ix [9,11] [],o2 14 ld [13] [],o1 5 14 []]
def r6:Zy:=[o1 15 3 [],o1 16 5 [],o2 17 ln [16] [],o2 18 (bI .add) [15,17] [],o1 3 18 []]
def r7:Zy:=[o1 19 3 [],o2 20 (bI .lss) [19,.k (.int .i64 0)] []]
def r8:Zy:=[o2 21 (.p (.bad)) [] [],⟨none,none,false,.p .bad,[],[],[]⟩]
def r9:Zy:=[o2 22 (bI .add) [11,.k (.int .i64 1)] [],o1 11 22 []]
def L9:RC:=.seq (.ops r4) (.seq (.cond (.s 12) (.skip) (.exit 0)) (.seq (.block 1 (.seq (.ops r5) (.seq (.ops r6) (.seq (.ops r7) (.cond (.s 20) (.ops r8) (.skip)))))) (.ops r9)))
def GF(gid:Nat):Zy:=[o1 23 3 [],o2 24 .c [.f gid,.k (.bD),23] [],o1 6 24 []]
def GM:Zy:=[o1 25 0 [],o2 26 ln [25] [],o1 27 (.k (.int .i64 0)) []]
def FZ:Zy:=[o2 28 (bI .lss) [27,26] []]
def FL:Zy:=[o2 29 ix [25,27] [],o2 30 ld [29] [],o1 8 30 []]
def EE:Zy:=[o1 31 6 [],o1 32 8 [],o2 33 (.l (.append 1)) [31,32] [],o1 6 33 []]
def Fh:Zy:=[o2 34 (bI .add) [27,.k (.int .i64 1)] [],o1 27 34 []]
def UC:RC:=.seq (.ops FZ) (.seq (.cond (.s 28) (.skip) (.exit 2)) (.seq (.block 3 (.seq (.ops FL) (.ops EE))) (.ops Fh)))
def r16:Zy:=[o1 35 6 [],o1 2 35 []]
def cat(gid:Nat):RC:=.seq (.ops r1) (.seq (.ops r2) (.seq (.seq (.ops r3) (.block 0 (.loop L9))) (.seq (.ops (GF gid)) (.seq (.seq (.ops GM) (.block 2 (.loop UC))) (.seq (.ops r16) (.ret))))))
section
variable{E:Env}{N:Nat->Zk}{F:Zo}{H:bh}{α:Type}[bp α]{s:Sl (Sl α)}{i:Nat}
theorem el{u:Sl α}(h:s.l[i]?=some u):kF 1 (cg s) (i:Int)=some (.fptr [cg u]):=by have:=IB (N:=λn=>n) s .i64 (i:Int) 1 rfl;simp only[bH]at this;rw[this,show idx s (i:Int)=some u from by unfold idx;grind];rfl
theorem Vt(s:Sl α):mK (cg s)=some (.int .i64 s.l.length):=by have:=FJ (N:=λn=>n) s;simpa only[bH]using this
attribute [local simp] dc i_ eM bH jZ qm mc qz Vt bI ln ix ld
theorem y3:(get F 0=cg s->∃F',(∀call,dc E N call none r3 F H=some (F',H))/\get F' 9=cg s/\get F' 10=.int .i64 s.l.length/\get F' 11=.int .i64 0/\∀j,j<9->get F' j=get F j)/\
 (get F 0=cg s->∃F',(∀call,dc E N call none GM F H=some (F',H))/\get F' 25=cg s/\get F' 26=.int .i64 s.l.length/\get F' 27=.int .i64 0/\∀j,j<9->get F' j=get F j):=by
 refine⟨λa=>⟨_,λcall=>by simp[r3,a];rfl,?_⟩,λa=>⟨_,λcall=>by simp[GM,a];rfl,?_⟩⟩<;>
  (simp;grind)
theorem y4{n:Nat}:(get F 11=.int .i64 i->get F 10=.int .i64 n->∃F',(∀call,dc E N call none r4 F H=some (F',H))/\get F' 12=.bool (decide (i<n))/\∀j,j<12->get F' j=get F j)/\
 (get F 27=.int .i64 i->get F 26=.int .i64 n->∃F',(∀call,dc E N call none FZ F H=some (F',H))/\get F' 28=.bool (decide (i<n))/\∀j,j<28->get F' j=get F j):=by
 refine⟨λf u=>⟨_,λcall=>by simp[r4,f,u];rfl,?_⟩,λf u=>⟨_,λcall=>by simp[FZ,f,u];rfl,?_⟩⟩<;>
  (simp;grind)
theorem y5{u:Sl α}(h:s.l[i]?=some u):(get F 9=cg s->get F 11=.int .i64 i->∃F',(∀call,dc E N call none r5 F H=some (F',H))/\get F' 5=cg u/\∀j,j<12->j≠5->get F' j=get F j)/\
 (get F 25=cg s->get F 27=.int .i64 i->∃F',(∀call,dc E N call none FL F H=some (F',H))/\get F' 8=cg u/\∀j,j<28->j≠8->get F' j=get F j):=by
 have e:=el h;have e2:eG H (.load 1 false) [.fptr [cg u]]=some (cg u):=by simp[eG,dZ,cut,mk]
 refine⟨λf w=>⟨_,λcall=>by simp[r5,f,w,e,e2];rfl,?_⟩,λf w=>⟨_,λcall=>by simp[FL,f,w,e,e2];rfl,?_⟩⟩<;>
  (simp;grind)
theorem y6{u:Sl α}{t:Nat}(B:get F 3=.int .i64 t)(a:get F 5=cg u)(D:t+u.l.length<=2147483648):∃F',(∀call,dc E N call none r6 F H=some (F',H))/\get F' 3=.int .i64 ((t+u.l.length:Nat):Int)/\∀j,j<12->j≠3->get F' j=get F j:=by
 have w:wrap .i64 ((t:Int)+(u.l.length:Int))=((t+u.l.length:Nat):Int):=by rw[Pf Za Za];simp
 refine⟨_,λcall=>by simp[r6,B,a,w];rfl,Zc,?_⟩;simp;grind
theorem y7{t:Nat}(B:get F 3=.int .i64 t):∃F',(∀call,dc E N call none r7 F H=some (F',H))/\get F' 20=.bool false/\∀j,j<12->get F' j=get F j:=by refine⟨_,λcall=>by simp[r7,B];rfl,Zc,?_⟩;simp;grind
theorem y9(B:i<=2147483648):(get F 11=.int .i64 i->∃F',(∀call,dc E N call none r9 F H=some (F',H))/\get F' 11=.int .i64 ((i+1:Nat):Int)/\∀j,j<11->get F' j=get F j)/\
 (get F 27=.int .i64 i->∃F',(∀call,dc E N call none Fh F H=some (F',H))/\get F' 27=.int .i64 ((i+1:Nat):Int)/\∀j,j<27->get F' j=get F j):=by
 have u:=KR B;refine⟨λf=>⟨_,λcall=>by simp[r9,f,u];rfl,?_⟩,λf=>⟨_,λcall=>by simp[Fh,f,u];rfl,?_⟩⟩<;>
  (simp;grind)
structure Acc(H:bh)(w:V)(acc:List (List V)):Prop where
 el:dg H 1 w=some acc
 gr:∃H1,fP H w=some H1/\H1.length=H.length
 sh:w=.bD/\acc=[]\/∃id xs,w=.hsl id 1 0 acc.length/\H[id]?=some (.row 1 xs)/\(acc≠[]->xs=acc)
theorem PY(H:bh)(u:Sl α)(a:bp.size α=1):dg H 1 (cg u)=some (rows u.l):=by cases u<;>simp[cg,Sl.k,Sl.l,jC,dg,rows,a]
theorem Vp{w:V}{b:Zt}{u:Sl α}(f:bp.size α=1)(a:Acc H w b)(f6:get F 6=w)(D:get F 8=cg u)(J:b.length+u.l.length<=2147483648):
 ∃F' H' w',(∀call,dc E N call none EE F H=some (F',H'))/\get F' 6=w'/\Acc H' w' (b++rows u.l)/\(u.l=[]->w'=w)/\∀j,j<28->j≠6->get F' j=get F j:=by
 have c:=PY H u f;have C:(rows u.l).length=u.l.length:=by simp[rows]
 have key:∃H' w',eA H (.append 1) [w,cg u]=some (w',H')/\Acc H' w' (b++rows u.l)/\(u.l=[]->w'=w):=by have⟨H1,g1,g2⟩:=a.gr;cases d:rows u.l with|nil=>exact⟨H,w,by simp only[eA,a.el,c,d],Zd,λ_=>rfl⟩|cons y B=>have G:b.length+(y::B).length<=2147483648:=Zd;refine⟨H1++[.row 1 (b++y::B)],.hsl H.length 1 0 (b.length+(y::B).length),by simp only[eA,a.el,c,d];grind,?_⟩;have z:(H1++[Ob.row 1 (b++y::B)])[H.length]?=some (.row 1 (b++y::B)):=Zd;refine⟨⟨?_,⟨_,by simp only[fP,z];rfl,Zc⟩,.inr ⟨H.length,b++y::B,Zc,z,λ_=>rfl⟩⟩,λe=>Zd⟩;simp only[dg,z,ζb,Ob.rows,if_true,zero_add,List.drop_zero];grind
 have⟨H',w',k1,k2,k3⟩:=key;refine⟨_,H',w',λcall=>by simp[EE,f6,D,k1];rfl,Zc,k2,k3,?_⟩
 simp;grind
def upto(s:Sl (Sl α))(i:Nat):aX α:=(s.l.take i).flatMap Sl.l
theorem DH{u:Sl α}(h:s.l[i]?=some u):upto s (i+1)=upto s i++u.l:=by unfold upto;obtain⟨w,rfl⟩:=ζe.1 h;rw[List.take_succ_eq_append_getElem w,List.flatMap_append];simp
theorem Io(s:Sl (Sl α))(i:Nat):(upto s i).length<=(s.l.flatMap Sl.l).length:=by
 have:s.l.flatMap Sl.l=upto s i++(s.l.drop i).flatMap Sl.l:=by unfold upto;rw[<-List.flatMap_append,List.take_append_drop]
 grind
theorem VB(m:s.l.length<=2147483648)(o:(s.l.flatMap Sl.l).length<=2147483648):∀(d i:Nat)(F:Zo),i+d=s.l.length->get F 9=cg s->get F 10=.int .i64 s.l.length->get F 11=.int .i64 i->get F 3=.int .i64 (upto s i).length->
 ∃F',pG E N L9 F H (.exit 0) F' H/\get F' 3=.int .i64 (s.l.flatMap Sl.l).length/\get F' 0=get F 0:=by
 intro d
 induction d with
 |zero=>
  intro i F O Q w z G;have⟨F1,a1,a2,B⟩:=(y4 (E:=E) (N:=N) (H:=H) (n:=s.l.length)).1 z w;refine⟨F1,pG.stop (Ex.seq (Ex.dG a1) (Ex.w8 (Ex.sW (by show get F1 12=_;grind) Ex.exit) Zc)) Zc,?_,B 0 Za⟩
  rw[B 3 Za,G]
  have:upto s i=s.l.flatMap Sl.l:=by unfold upto;grind
  simp_all
 |succ d S=>
  intro i F O Q w z G;have⟨F1,a1,a2,B⟩:=(y4 (E:=E) (N:=N) (H:=H) (n:=s.l.length)).1 z w;have b:s.l[i]?=some s.l[i]:=ζd Za
  have⟨T,U,W,X⟩:=(y5 (E:=E) (N:=N) (F:=F1) (H:=H) b).1 Zd Zd
  have D:=Io s (i+1);have I:=DH b;rw[I,ζi]at D;have⟨Y,Z,J,e⟩:=y6 (E:=E) (N:=N) (F:=T) (H:=H) (u:=s.l[i]) (t:=(upto s i).length) Ze W Za
  have⟨L,f,g,c⟩:=y7 (E:=E) (N:=N) (F:=Y) (H:=H) J;have C:∀j,j<12->j≠3->j≠5->get L j=get F j:=λj a h k=>by rw[c j a,e j a h,X j a k,B j a]
  have⟨l,e1,e2,e3⟩:=(y9 (E:=E) (N:=N) (F:=L) (H:=H) (i:=i) Za).1 (by rw[C 11 Za Za Za];exact z)
  have⟨F',g1,g2,g3⟩:=S (i+1) l Za (by rw[e3 9 Za,C 9 Za Za Za];omega) (by rw[e3 10 Za,C 10 Za Za Za];exact w) e2 (by rw[e3 3 Za,c 3 Za,J,I,ζi])
  exact⟨F',pG.step (Ex.seq (Ex.dG a1) (Ex.seq (Ex.qf (by show get F1 12=_;rw[a2,decide_eq_true Za]) Ex.skip) (Ex.seq (Ex.block (Ex.seq (Ex.dG U) (Ex.seq (Ex.dG Z) (Ex.seq (Ex.dG f) (Ex.sW g Ex.skip))))) (Ex.dG e1)))) g1,g2,by rw[g3,e3 0 Za,C 0 Za Za Za]⟩
theorem Vm(b:bp.size α=1)(k:s.l.length<=2147483648)(l:(s.l.flatMap Sl.l).length<=2147483648):∀(d i:Nat)(F:Zo)(H:bh)(w:V),i+d=s.l.length->get F 25=cg s->get F 26=.int .i64 s.l.length->get F 27=.int .i64 i->get F 6=w->Acc H w (rows (upto s i))->
 ∃F' H' w',pG E N UC F H (.exit 2) F' H'/\get F' 6=w'/\Acc H' w' (rows (s.l.flatMap Sl.l))/\((s.l.flatMap Sl.l).length=0->w'=w):=by
 intro d
 induction d with
 |zero=>
  intro i F H w O C B z f6 a;have⟨F1,a1,a2,Q⟩:=(y4 (E:=E) (N:=N) (H:=H) (n:=s.l.length)).2 z B;have:upto s i=s.l.flatMap Sl.l:=by unfold upto;grind
  rw[this]at a;exact⟨F1,H,w,pG.stop (Ex.seq (Ex.dG a1) (Ex.w8 (Ex.sW (by show get F1 28=_;grind) Ex.exit) Zc)) Zc,Zd,a,λ_=>rfl⟩
 |succ d S=>
  intro i F H w O C B z f6 a;have⟨F1,a1,a2,Q⟩:=(y4 (E:=E) (N:=N) (H:=H) (n:=s.l.length)).2 z B;have c:s.l[i]?=some s.l[i]:=ζd Za
  have⟨T,U,W,m⟩:=(y5 (E:=E) (N:=N) (F:=F1) (H:=H) c).2 Zd Zd
  have D:=Io s (i+1);have I:=DH c;rw[I,ζi]at D;have⟨J,H',w',X,Y,L,Z,o⟩:=Vp (E:=E) (N:=N) (F:=T) (H:=H) (u:=s.l[i]) b a Zd W (by simp only[fh];omega)
  have G:∀j,j<28->j≠6->j≠8->get J j=get F j:=λj b p q=>Zd
  have⟨f,e1,e2,e3⟩:=(y9 (E:=E) (N:=N) (F:=J) (H:=H') (i:=i) Za).2 (by rw[G 27 Za Za Za];exact z)
  have g:rows (upto s i)++rows s.l[i].l=rows (upto s (i+1)):=by rw[I];simp[rows]
  rw[g]at L;have⟨F',H2,h,g1,g2,g3,g4⟩:=S (i+1) f H' w' Za (by rw[e3 25 Za,G 25 Za Za Za];omega) (by rw[e3 26 Za,G 26 Za Za Za];omega) e2 (by rw[e3 6 Za];exact Y) L
  exact⟨F',H2,h,pG.step (Ex.seq (Ex.dG a1) (Ex.seq (Ex.qf (by show get F1 28=_;rw[a2,decide_eq_true Za]) Ex.skip) (Ex.seq (Ex.block (Ex.seq (Ex.dG U) (Ex.dG X))) (Ex.dG e1)))) g1,g2,g3,λe=>(g4 e).trans (Z (List.eq_nil_of_length_eq_zero Za))⟩
end
end catX
theorem QG{E:Env}{f O:Zk}{nm:Zk->aY Nat}{N:Nat->Zk}{gid:Nat}(K:∀f s,nm f=some s->N s=f)(hg:N gid=O)(aa:E.keep O=true)(U:E.own O=true)
 (hf:∃fi,E.ft f=some fi/\bG ⟨E,nm,fi.ntmps⟩ false fi.body=some (catX.cat gid)/\2<=fi.ntmps/\fi.results=[.tmp 2])
 (ab:∃fi,E.ft O=some fi/\bG ⟨E,nm,fi.ntmps⟩ false fi.body=some catX.grow/\2<=fi.ntmps/\fi.results=[.tmp 4])
 {α:Type}[bp α](M:bp.size α=1)(s:Sl (Sl α))(P:s.l.length<=2147483648)(ht:(s.l.flatMap Sl.l).length<=2147483648):Aq E f [cg s] (cg (Aw s)):=by
 have⟨fi,p1,p2,p3,p4⟩:=hf;have⟨gi,q1,q2,q3,q4⟩:=ab;generalize R:(s.l.flatMap Sl.l).length=T at *;have⟨Fg,ad,ae⟩:=catX.PT (E:=E) (N:=N) ht;have⟨n0,Q⟩:=Ex.run K q1 q2 (args:=[.bD,.int .i64 T]) Zd ad (vs:=[if T=0 then .bD else .hsl 0 1 0 0]) (by rw[q4];simp[gX,ae])
 have S:∀l,borrows l [] [.bD,.int .i64 (T:Int)]=some [.bD,.int .i64 (T:Int)]:=λl=>by unfold borrows;simp only[gR,iP l [] (x:=V.bD) rfl,iP l [] (x:=V.int .i64 T) rfl]
 have D:∃w G,(∀k,n0<=k->gf E (run E k) O [.bD,.int .i64 T] []=some (w,G))/\catX.Acc G w []/\(T=0->w=.bD):=by by_cases z:T=0;refine⟨.bD,[],λk d=>?_,⟨rfl,⟨[],rfl,rfl⟩,.inl ⟨rfl,rfl⟩⟩,λ_=>rfl⟩;have:=(nL E d).go _ _ _ _ Q;rw[if_pos z,if_pos z]at this;unfold gf kX;rw[if_pos U];simp[S,this,result,V.scalar];refine⟨.hsl 0 1 0 0,[.row 1 (replicate T [.bD])],λk d=>?_,⟨by simp[dg,Ob.rows],⟨_,rfl,Zc⟩,.inr ⟨0,_,rfl,rfl,λh=>absurd rfl h⟩⟩,λh=>absurd h z⟩;have:=(nL E d).go _ _ _ _ Q;rw[if_neg z,if_neg z]at this;unfold gf kX;rw[if_pos U];simp only[S,if_true,this,result,V.scalar,false_eq_true,if_false,rE,List.getElem?_cons_zero,true_and];rw[if_pos (by simp[List.all_replicate,V.scalar])];simp
 have⟨w,G,aj,af,W⟩:=D;have X:T≠0->rows (s.l.flatMap Sl.l)≠[]:=λh e=>h (by rw[<-R,<-fh,e];rfl)
 have B:∀c∈rows (s.l.flatMap Sl.l),V.cB c=true:=λc p=>by obtain⟨x,_,rfl⟩:=mem_map.1 p;exact bp.good x
 have g1:∀call,dc E N call none catX.r1 [cg s] []=some (set [cg s] 2 .bD,[]):=λcall=>vp (v:=.bD) rfl (by simp[i_,eM,bH]) tQ
 have k0:get (set [cg s] 2 .bD) 0=cg s:=rfl;generalize set [cg s] 2 .bD=F0 at *;have g2:∀call,dc E N call none catX.r2 F0 []=some (set F0 3 (.int .i64 0),[]):=λcall=>vp (v:=.int .i64 0) rfl (by simp[i_,eM,bH]) tQ
 have⟨F2,a1,a2,a3,a4,a5⟩:=(catX.y3 (E:=E) (N:=N) (F:=set F0 3 (.int .i64 0)) (H:=[]) (s:=s)).1 Ze
 have⟨F3,b1,b2,b3⟩:=catX.VB (E:=E) (N:=N) (H:=[]) P Za s.l.length 0 F2 Za a2 a3 a4 (by rw[a5 3 Za,rz];rfl)
 rw[R]at b2;have ak:get F3 0=cg s:=Ze
 have q:∃Y,(∃n,∀k,n<=k->dc E N (run E k) none (catX.GF gid) F3 []=some (Y,G))/\get Y 6=w/\get Y 0=cg s:=by refine⟨_,⟨n0,λk d=>vp (v:=.int .i64 T) rfl ?_<|Pb (v:=w) (H1:=G) rfl ?_<|vp (v:=w) rfl ?_ tQ⟩,?_,?_⟩;simp[i_,eM,bH,b2];simp only[i_,map_cons,map_nil,eM,jZ,qm,Nat.reduceEqDiff,if_true,if_false,hg,aa,nil_append,append_nil];grind;simp[i_,eM,bH,jZ];simp[jZ];simp only[jZ,qm,Nat.reduceEqDiff,if_false];omega
 have⟨Y,q,c2,c3⟩:=q;have⟨F5,d1,d2,d3,d4,d5⟩:=(catX.y3 (E:=E) (N:=N) (F:=Y) (H:=G) (s:=s)).2 c3;have⟨F6,Z,J,e1,e2,e3,e4⟩:=catX.Vm (E:=E) (N:=N) M P Za s.l.length 0 F5 G w Za d2 d3 d4 Ze af
 have r:∃t,(∀call,dc E N call none catX.r16 F6 Z=some (t,Z))/\get t 2=J:=⟨_,λcall=>vp (v:=J) rfl (by simp[i_,eM,bH,e2])<|vp (v:=J) rfl (by simp[i_,eM,bH,jZ]) tQ,by simp[jZ]⟩
 have⟨t,r,f2⟩:=r;have⟨n,ah⟩:=Ex.run K p1 p2 (args:=[cg s]) (by simp;omega) (Ex.seq (Ex.dG g1) (Ex.seq (Ex.dG g2) (Ex.seq (Ex.seq (Ex.dG a1) (Ex.B5 (Ex.loop b1))) (Ex.seq (Ex.ops q) (Ex.seq (Ex.seq (Ex.dG d1) (Ex.B5 (Ex.loop e1))) (Ex.seq (Ex.dG r) Ex.ret)))))) (vs:=[J]) (by rw[p4];simp[gX,f2])
 refine⟨n,J,Z,λid=>∃m,J=.hsl id 1 0 m,ah,?_,?_,?_⟩
 .rcases e3.sh with⟨h,L⟩|⟨id,xs,h,L,A⟩
  .have:T=0:=by grind
   rw[h];unfold Aw;rw[if_pos Za]
   exact .same _ rfl
  by_cases z:T=0
  .have:=e4 Za
   rw[W z]at this;rw[this]at h;cases h
  have y:=A (X z);subst y;unfold Aw;rw[if_neg Za,h]
  show FR Z _ (.fsl (bp.size α) (rows (s.l.flatMap Sl.l))) _;rw[M];exact .fsl 1 _ id 0 _ ⟨_,rfl⟩ (by unfold bk;rw[L];rfl) Za (λi a b g I=>by rw[zero_add]at I;rw[g]at I;cases I;rfl) (λi j a b u v g I o hv=>by
   rw[zero_add]at I;rw[g]at I;cases I;rw[o]at hv;cases hv;exact .same _ (gF.1 (B a (mem_of_getElem? g)) j u o))
 .rintro id ⟨m,h⟩;rcases e3.sh with⟨C,_⟩|⟨ai,xs,C,L,_⟩
  .rw[C]at h;cases h
  rw[C]at h;cases h;unfold bk;rw[L];rfl
 refine⟨λid es ys hz hr c p u o=>?_⟩
 have⟨m,h⟩:=hz;rcases e3.sh with⟨C,_⟩|⟨ai,xs,C,L,A⟩
 .rw[C]at h;cases h
 rw[C]at h;cases h
 by_cases z:T=0
 .have:=e4 Za
  rw[W z]at this;rw[this]at C;cases C
 have y:=A (X z);subst y;unfold bk at hr;rw[L]at hr;cases hr;have⟨j,hj⟩:=getElem?_of_mem o;exact⟨u,.same _ (gF.1 (B c p) j u hj)⟩
def wm(op:Zl)(x y:Int):Int:=cond op x y
@[simp] theorem Ui(x y:Int):wm true x y=x:=rfl
@[simp] theorem TU(x y:Int):wm false x y=y:=rfl
namespace setX
instance{n:Nat}:OfNat Arg n:=⟨.s n⟩
def fa(k:Nat):K:=.p (.fieldAddr k)
def ld:K:=.r (.load 1 false)
def r1:Zy:=[o2 4 (.a .box) [1] [],o2 5 (.a .box) [2] []]
def r2:Zy:=[o1 6 0 [],o2 7 (fa 0) [4] [],o2 8 ld [7] [],o2 9 (fa 1) [4] [],o2 10 ld [9] [],o2 11 (.p (.idxS 1)) [6,8] [],⟨none,none,false,.l (.store 1),[11,10],[],[]⟩]
def r3:Zy:=[o1 6 0 [],o2 7 (fa 0) [5] [],o2 8 ld [7] [],o2 9 (fa 1) [5] [],o2 10 ld [9] [],o2 11 (.p (.bin (some .int) none .sub)) [10,.k (.int .i64 1)] [],o2 12 (.p (.idxS 1)) [6,8] [],⟨none,none,false,.l (.store 1),[12,11],[],[]⟩]
def code(op:Zl):RC:=.seq (.ops r1) (.ops (if op then r3 else r2))
section
variable{E:Env}{N:Nat->Zk}{H:bh}{id off L:Nat}{rs:Zt}
theorem PF{h:Nat}{x y:V}{i:Nat}{v:V}(B:H[h]?=some (.row 2 [[x,y]]))(a:[x,y][i]?=some v):eG H (.load 1 false) [.hptr h 0 i]=some v:=by match i,a with|0,a=>cases a;simp[eG,dZ,B,Ob.rows,cut,mk]|1,a=>cases a;simp[eG,dZ,B,Ob.rows,cut,mk]|i+2,a=>simp at a
attribute [local simp] dc i_ eM bH jZ qm mc qz
theorem whole(op:Zl){a b c d:Int}(G:H[id]?=some (.row 1 rs))(J:0<=(wm op c a))(B:(wm op c a).toNat<L){z:V}(D:rs[off+(wm op c a).toNat]?=some [z]):
 ∃F' X,Ex E N (code op) [.hsl id 1 off L,.agg [.int .i64 a,.int .i64 b],.agg [.int .i64 c,.int .i64 d]] H .norm F' ((H++X).set id (.row 1 (rs.set (off+(wm op c a).toNat) [.int .i64 (wm op (wrap .i64 (d-1)) b)]))):=by
 let X:bh:=[.row 2 [[.int .i64 a,.int .i64 b]],.row 2 [[.int .i64 c,.int .i64 d]]]
 have I:=(ζe.1 G).1;have e1:∃F1,(∀call,dc E N call none r1 [.hsl id 1 off L,.agg [.int .i64 a,.int .i64 b],.agg [.int .i64 c,.int .i64 d]] H=some (F1,H++X))/\get F1 0=.hsl id 1 off L/\get F1 4=.hptr H.length 0 0/\get F1 5=.hptr (H.length+1) 0 0:=by exact⟨_,λcall=>by simp[r1,get,set,kJ,V.cells,V.one,Mk.val,X];rfl,rfl,rfl,rfl⟩
 have⟨F1,p1,p2,p3,p4⟩:=e1;have e:(H++X)[id]?=some (.row 1 rs):=by rw[getElem?_append_left I];exact G
 have O:(H++X)[H.length]?=some (.row 2 [[.int .i64 a,.int .i64 b]]):=by simp[X]
 have Q:(H++X)[H.length+1]?=some (.row 2 [[.int .i64 c,.int .i64 d]]):=by rw[getElem?_append_right Za];simp[X]
 obtain⟨H1,S⟩:∃H1,H1=H++X:=⟨_,rfl⟩;rw[<-S]at e O Q;rw[<-S]at p1
 suffices Y:∃F',Ex E N (code op) [.hsl id 1 off L,.agg [.int .i64 a,.int .i64 b],.agg [.int .i64 c,.int .i64 d]] H .norm F' (H1.set id (.row 1 (rs.set (off+(wm op c a).toNat) [.int .i64 (wm op (wrap .i64 (d-1)) b)])))by have⟨F',Z⟩:=Y;exact⟨F',X,by rw[<-S];exact Z⟩
 have w:∀p:Int,0<=p->p.toNat<L->kF 1 (.hsl id 1 off L) p=some (.hptr id (off+p.toNat) 0):=λp h g=>by unfold kF;rw[if_neg Za];simp[g]
 have C:∀(q:Nat)(z v:V),rs[q]?=some [z]->v.one=true->eA H1 (.store 1) [.hptr id q 0,v]=some (.undef,H1.set id (.row 1 (rs.set q [v]))):=λq z v D f=>by simp[eA,e,D,Dk f,f]
 cases op with
 |false=>
  simp only[TU]at J B D⊢;have T:=PF (i:=0) O rfl;have U:=PF (i:=1) O rfl;have e2:∃u,(∀call,dc E N call none r2 F1 H1=some (u,H1.set id (.row 1 (rs.set (off+a.toNat) [.int .i64 b])))):=by exact⟨_,λcall=>by simp[r2,p2,p3,fa,ld,o7,T,U,w a J B,C _ z (.int .i64 _) D rfl];rfl⟩
  have⟨u,W⟩:=e2;exact⟨u,Ex.seq (Ex.dG p1) (Ex.dG (l:=_) W)⟩
 |true=>
  simp only[Ui]at J B D⊢;have T:=PF (i:=0) Q rfl;have U:=PF (i:=1) Q rfl;have e2:∃u,(∀call,dc E N call none r3 F1 H1=some (u,H1.set id (.row 1 (rs.set (off+c.toNat) [.int .i64 (wrap .i64 (d-1))])))):=by exact⟨_,λcall=>by simp[r3,p2,p4,fa,ld,o7,T,U,w c J B,C _ z (.int .i64 _) D rfl];rfl⟩
  have⟨u,W⟩:=e2;exact⟨u,Ex.seq (Ex.dG p1) (Ex.dG (l:=_) W)⟩
end
end setX
section
variable{S:Sys}{c:bU}{β γ δ α:Type}[bp δ]{Q:Out×St->aY β}{e:γ->aY β}{cf:Cf}
end
def snap(w:World):b_:=λb=>match w.heap[b]?with
 |some (.cells c _ _)=>some (.cells c)|some (.map es _)=>some (.map es)|_=>none
theorem MT{w:World}(a:s7 (snap w)):cN (snap w) (λ_=>none) [] w where
 dom _ _:=rfl
 imm b x h:=by unfold snap at h;split at h;(next c el fr u=>cases h;exact⟨el,fr,u⟩);(next es d u=>cases h;exact⟨d,u⟩);cases h
 obs id ob h:=by simp at h
 inj id z ob B p C h:=by simp at h
 gl:=a
def fH(I:b_)(xs:Zu)(vs:aX Zp):Prop:=xs.length=vs.length/\∀(j:Nat)a b,xs[j]?=some a->vs[j]?=some b->dX I a b
theorem fH.nil{I:b_}:fH I [] []:=⟨rfl,Zc⟩
theorem fH.one{I:b_}{x:V}{v:Zp}(h:dX I x v):fH I [x] [v]:=⟨rfl,λj a b c u=>by
 cases j with
 |zero=>simp at c u;subst c u;exact h|succ j=>simp at c⟩
theorem fH.append{I:b_}{xs ys:Zu}{B vs:aX Zp}(h:fH I xs B)(k:fH I ys vs):fH I (xs++ys) (B++vs):=by refine⟨by simp[h.1,k.1],λj a b c u=>?_⟩;by_cases w:j<xs.length;rw[getElem?_append_left w]at c;rw[getElem?_append_left (by rw[<-h.1];exact w)]at u;exact h.2 j a b c u;rw[getElem?_append_right Za]at c;rw[getElem?_append_right (by rw[<-h.1];omega),<-h.1]at u;exact k.2 _ a b c u
theorem AE{α β:Type}{f:α->aY β}:∀{l:aX α}{r:aX β},l.mapM f=some r->r.length=l.length/\∀(i:Nat)a b,l[i]?=some a->r[i]?=some b->f a=some b
 |[],r,h=>by simp only[List.mapM_nil,pure_def,ζa]at h;subst h;simp|x::l,r,h=>by simp only[List.mapM_cons,Option.bind_eq_bind,pure_def,ζg,ζa]at h;obtain⟨y,D,ys,B,rfl⟩:=h;have⟨c,z⟩:=AE B;refine⟨by simp[c],λi a b u w=>?_⟩;cases i with|zero=>simp at u w;subst u w;exact D|succ i=>exact z i a b (by simpa using u) (by simpa using w)
structure q9{H:Type}(b:DataW H->Nat):Prop where
 lit:∀l,1<=b (.lit l)
 str:∀s,s.length+1<=b (.lit (.string s))
 nil:1<=b .nil
 slice:∀es sp,(es.map b).sum+1<=b (.slice es sp)
 agg:∀ps,(ps.map b).sum+1<=b (.agg ps)
class ck(α:Type)where
 wt:α->Nat
 ok:α->Prop
instance:ck Int where
 wt _:=1
 ok n:=-9223372036854775808<=n/\n<=9223372036854775807
instance:ck Zl where
 wt _:=1
 ok _:=True
instance:ck Zq where
 wt s:=s.size+1
 ok s:=s.size<=maxLen
instance{α:Type}[ck α]:ck (Sl α)where
 wt s:=(s.l.map ck.wt).sum+1
 ok s:=(∀x∈s.l,ck.ok x)/\s≠.emp
class Reads(P:Program)(t:TypeId)(α:Type)[bp α][ck α]:Prop where
 size:P.cellsOf t=bp.size α
 rd:∀{H:Type}{enc:TypeId×Value->H}{w:World}{base:Nat}{spare:Nat->Bool}{held:Bool}{fuel:Nat}{cs:List Value}{d:DataW H}{ps:List MemPlace},
  trod enc P w base spare held fuel t cs=some (d,ps)->∃a:α,fH (snap w) (cells a) cs/\ck.ok a/\∀b:DataW H->Nat,q9 b->ck.wt a<=b d
 shape:∀{w:World}{r:_root_.Go.Reach}{base:Nat}{v:Value},okWide P w r base t v->if bp.agg α then∃cs,v=.agg cs else v.cells=#[v]
section
variable{P:Program}
theorem pV{w:World}{r:_root_.Go.Reach}{base:Nat}{t:Zm}{v:Zp}{u:_}(a:P.underlying t=some u)(b:∀fs,u≠.struct fs)(B:∀n e,u≠.array n e)(h:okWide P w r base t v):v.cells=#[v]:=by cases v with|agg C=>exfalso;unfold okWide at h;rw[a]at h;split at h;(next fs z=>cases z;exact b _ rfl);(next n e z=>cases z;exact B _ _ rfl);(unfold Cell.okWide at h;rw[a]at h;split at h<;>first|(simp at *;done)|skip);unfold Cell.ok at h;rw[a]at h;cases u<;>simp at h|_=>rfl
theorem Reads.int{t:Zm}(a:P.underlying t=some (.int .i64))(c:P.cellsOf t=1):Reads P t Int where
 size:=c
 rd {H enc w base spare held z D d ps} h:=by cases z with|zero=>simp[trod]at h|succ z=>(simp only[trod,a]at h;split at h<;>first|(simp at h;done)|skip);(next u=>cases u);rename_i k G n u;simp only[ζa,TypeDesc.int.injEq]at u;split at h;(next e=>obtain⟨rfl,B⟩:=e;subst u;cases h;exact⟨n,fH.one (.int _ n),show _/\_ by simpa[Lit.wf,IntKind.min,IntKind.max,signed,IntKind.bits]using B,λb C=>C.lit _⟩);simp at h;all_goals (rename_i u;cases u)
 shape h:=by simp only[show bp.agg Int=false from rfl];exact pV a Zc Zc h
theorem Reads.bool{t:Zm}(a:P.underlying t=some .bool)(c:P.cellsOf t=1):Reads P t Zl where
 size:=c
 rd {H enc w base spare held u C d ps} h:=by cases u with|zero=>simp[trod]at h|succ u=>(simp only[trod,a]at h;split at h<;>first|(simp at h;done)|skip);(next b _=>cases h;exact⟨b,fH.one (.bool b),trivial,λb B=>B.lit _⟩);all_goals (rename_i z;cases z)
 shape h:=by simp only[show bp.agg Zl=false from rfl];exact pV a Zc Zc h
theorem Reads.str{t:Zm}(a:P.underlying t=some .string)(c:P.cellsOf t=1):Reads P t Zq where
 size:=c
 rd {H enc w base spare held u D d ps} h:=by cases u with|zero=>simp[trod]at h|succ u=>(simp only[trod,a]at h;split at h<;>first|(simp at h;done)|skip);(all_goals (first|(rename_i z;cases z;done)|skip));rename_i s _;split at h;(next B=>cases h;exact⟨s,fH.one (.str s),B,λb C=>C.str _⟩);simp at h
 shape h:=by simp only[show bp.agg Zq=false from rfl];exact pV a Zc Zc h
theorem MQ{w:World}{a:Addr}{n:Nat}{v:Zp}(h:w.cell? (a.add n)=some v)(D:n=0\/True):∃c el fr,w.heap[a.block]?=some (.cells c el fr)/\c[a.off+n]?=some v/\(n=0->a.spot=none):=by
 unfold cell? Addr.add at h;by_cases u:n=0;subst u;simp only[if_true]at h;split at h;rename_i c el fr z;split at h;simp at h;rename_i B;exact⟨c,el,fr,z,h,λ_=>by simpa using B⟩;simp at h;simp only[if_neg u]at h;split at h;next c el fr z=>simp only[Option.isSome_none,false_eq_true,if_false]at h;exact⟨c,el,fr,z,h,λe=>absurd e u⟩
 simp at h
def tO(P:Program)(t:Zm)(α:Type)[bp α][ck α](B:Nat):Prop:=∀{H:Type}{enc:Zm×Zp->H}{w:World}{base:Nat}{c:Nat->Zl}{e:Zl}{u:aX Zp}{d:DataW H}{ps:aX MemPlace},trod enc P w base c e B t u=some (d,ps)->∃a:α,fH (snap w) (cells a) u/\ck.ok a/\∀b:DataW H->Nat,q9 b->ck.wt a<=b d
theorem tO.sl{t e:Zm}{α:Type}[bp α][ck α]{J:Nat}(R:P.underlying t=some (.slice e))(V:P.cellsOf e=bp.size α)(U:0<bp.size α)(p:tO P e α J):tO P t (Sl α) (J+1):=by
 intro H enc w base A K cs d ps h;simp only[trod,R]at h;split at h<;>first|(simp at h;done)|skip
 all_goals (first|(rename_i I;cases I;done)|skip)
 cases h;exact⟨.nil,fH.one .bD,⟨λx W=>by simp[Sl.l]at W,Zc⟩,λb X=>X.nil⟩;rename_i e' a len E I;cases I;split at h
 .rename_i Y;obtain⟨f,ah,h⟩:=ζg.1 h;obtain⟨rest,_,h⟩:=ζf.1 h;cases h;obtain⟨Z,aa⟩:=AE ah;simp only[length_range]at Z;have W:∀i,i<len->∃x:α,∃u:aX Zp,w.cells? base (a.add (i*P.cellsOf e)) (P.cellsOf e)=some u/\fH (snap w) (cells x) u/\ck.ok x/\∀b:DataW H->Nat,q9 b->∀y,f[i]?=some y->ck.wt x<=b y.1:=λi L=>(by have:=aa i i (f[i]' Za) (by simp[L]) (ζd Za);obtain⟨u,l,O⟩:=ζg.1 this;obtain⟨x,W,F,X⟩:=p (show _=some ((f[i]' Za).1,(f[i]' Za).2)from O);exact⟨x,u,l,W,F,λb Q y g=>by rw[ζd Za]at g;cases g;exact X b Q⟩);have ab:∀n,n<=len->∃z:aX α,z.length=n/\(∀i x,z[i]?=some x->∃u:aX Zp,w.cells? base (a.add (i*P.cellsOf e)) (P.cellsOf e)=some u/\fH (snap w) (cells x) u)/\(∀x∈z,ck.ok x)/\∀b:DataW H->Nat,q9 b->(z.map ck.wt).sum<=(((f.take n).map (·.1)).map b).sum:=(by intro n;induction n with|zero=>intro _;exact⟨[],rfl,Zc,Zc,Zc⟩|succ n ih=>intro hn;obtain⟨z,l,O,h5,h6⟩:=ih Za;obtain⟨x,u,h3,h4,h7,h8⟩:=W n Za;refine⟨z++[x],by simp[l],λi y g=>?_,λy g=>?_,λb Q=>?_⟩;rotate_left;rcases mem_append.1 g with g|g;exact h5 y g;simp at g;subst g;exact h7;have k1:=h6 b Q;have k2:=h8 b Q _ (ζd Za);rw[List.take_succ,ζd (by omega:n<f.length)];simp only[List.map_append,List.sum_append,Option.toList_some,map_cons,map_nil,List.sum_cons,List.sum_nil];omega;by_cases L:i<z.length;rw[getElem?_append_left L]at g;exact O i y g;rw[getElem?_append_right Za]at g;have:i-z.length=0:=(by cases F:i-z.length with|zero=>rfl|succ k=>rw[F]at g;simp at g);rw[this]at g;simp at g;subst g;have:i=n:=Za;subst this;exact⟨u,h3,h4⟩);obtain⟨z,C,ai,ad,aj⟩:=ab len (le_refl _);refine⟨.row z,fH.one ?_,⟨ad,Zc⟩,λb Q=>?_⟩;rotate_left;have k:=aj b Q;rw[take_of_length_le Za]at k;have k2:=Q.slice (f.map (·.1)) (rest.map (·.1));show(z.map ck.wt).sum+1<=_;omega;show dX _ (.fsl (bp.size α) (rows z)) _;cases q:z with|nil=>subst q;simp at C;subst C;exact .fsl0 _ _ _|cons x0 xr=>rw[<-q];have ap:0<len:=(by rw[<-C,q];simp);have S:∀i x,z[i]?=some x->∀j y,(cells x)[j]?=some y->∃v,w.cell? ((a.add (i*bp.size α)).add j)=some v/\dX (snap w) y v:=(by intro i x L j y g;obtain⟨u,l,O⟩:=ai i x L;rw[V]at l;unfold World.cells? at l;split at l;obtain⟨g1,g2⟩:=AE l;have M:j<bp.size α:=(by rw[<-gG x];exact(ζe.1 g).1);obtain⟨v,s⟩:∃v,u[j]?=some v:=⟨_,ζd (by rw[g1];simpa using M)⟩;exact⟨v,g2 j j v (by simp[M]) s,O.2 j y v g s⟩;simp at l);have ao:∀i j,(a.add (i*bp.size α)).add j=a.add (i*bp.size α+j)\/True:=λ_ _=>.inr trivial;have B:∀i x,z[i]?=some x->∀j y,(cells x)[j]?=some y->∃c el fr v,w.heap[a.block]?=some (.cells c el fr)/\c[a.off+i*bp.size α+j]?=some v/\dX (snap w) y v/\(i=0->j=0->a.spot=none):=(by intro i x L j y g;obtain⟨v,l,O⟩:=S i x L j y g;obtain⟨c,el,fr,g1,g2,g3⟩:=MQ l (.inr trivial);have X:(a.add (i*bp.size α)).block=a.block:=(by unfold Addr.add;split<;>rfl);have ho:(a.add (i*bp.size α)).off=a.off+i*bp.size α:=(by unfold Addr.add;split<;>simp_all);rw[X]at g1;rw[ho]at g2;refine⟨c,el,fr,v,g1,g2,O,?_⟩;rintro rfl rfl;have:=g3 rfl;simpa[Addr.add]using this);have ak:∃y,(cells x0)[0]?=some y:=⟨_,ζd (by rw[gG];exact U)⟩;obtain⟨y0,al⟩:=ak;obtain⟨c,el,fr,v0,D,_,_,G⟩:=B 0 x0 (by rw[q];rfl) 0 y0 al;have G:=G rfl rfl;obtain⟨b,o,sp⟩:=a;simp only at G D;subst G;have hI:snap w b=some (.cells c):=(by unfold snap;rw[D]);have T:(rows z).length=len:=(by rw[fh,C]);rw[<-T];refine .fsl _ _ b o E c hI (by rw[T];exact Y.2.1) (λr p=>?_) (λr p y g=>?_) ?_ (λi j r y v p g s=>?_);obtain⟨x,_,rfl⟩:=mem_map.1 p;exact gG x;obtain⟨x,_,rfl⟩:=mem_map.1 p;exact all_eq_true.1 (sH x) y g;obtain⟨N,ae⟩:∃x,z[len-1]?=some x:=⟨_,ζd Za⟩;obtain⟨yl,am⟩:∃y,(cells N)[bp.size α-1]?=some y:=⟨_,ζd (by rw[gG];omega)⟩;obtain⟨c2,_,_,v2,k1,k2,_,_⟩:=B (len-1) N ae (bp.size α-1) yl am;simp only at k1 k2;rw[D]at k1;cases k1;have:=(Array.getElem?_eq_some_iff.1 k2).1;rw[T];have e:len*bp.size α=(len-1)*bp.size α+bp.size α:=(by obtain⟨m,rfl⟩:∃m,len=m+1:=⟨len-1,Za⟩;simp[Nat.add_mul]);omega;simp only[rows,getElem?_map,ζf]at p;obtain⟨x,an,rfl⟩:=p;obtain⟨c2,_,_,v2,k1,k2,k3,_⟩:=B i x an j y g;simp only at k1 k2;rw[D]at k1;cases k1;rw[s]at k2;cases k2;exact k3
 simp at h
theorem tO.Vs{t e:Zm}{α:Type}[bp α][ck α]{B:Nat}(c:P.underlying t=some (.slice e))(G:P.cellsOf e=bp.size α)(D:0<bp.size α)(i:∀g,g<B->tO P e α g):tO P t (Sl α) B:=by cases B with|zero=>intro H enc w base a b u d ps h;simp[trod]at h|succ f=>exact tO.sl c G D (i f (Nat.lt_succ_self f))
theorem Reads.sl{t e:Zm}{α:Type}[bp α][ck α][Reads P e α](a:P.underlying t=some (.slice e))(b:P.cellsOf t=1)(B:0<bp.size α):Reads P t (Sl α)where
 size:=b
 rd h:=tO.Vs a (Reads.size (α:=α)) B (λ_ _{_ _ _ _ _ _ _ _ _}=>Reads.rd (P:=P) (t:=e) (α:=α)) h
 shape h:=by simp only[show bp.agg (Sl α)=false from rfl];exact pV a Zc Zc h
theorem fH.seg{I:b_}{a xs:Zu}{cs:aX Zp}{o n:Nat}(h:fH I a (cs.take o))(k:fH I xs ((cs.drop o).take n)):fH I (a++xs) (cs.take (o+n)):=by rw[List.take_add];exact h.append k
theorem fH.fin{I:b_}{xs:Zu}{cs:aX Zp}{n:Nat}(h:fH I xs (cs.take n))(B:cs.length=n):fH I xs cs:=by rw[take_of_length_le Za]at h;exact h
theorem tO.st{t:Zm}{fs:Array Field}{α:Type}[bp α][ck α]{B:Nat}(i:P.underlying t=some (.struct fs))(j:P.cellsOf t=bp.size α)
 (h:∀{H:Type}{enc:Zm×Zp->H}{w:World}{base:Nat}{c:Nat->Zl}{e:Zl}{cs:aX Zp}{l:aX (DataW H×aX MemPlace)},cs.length=bp.size α->
  (fs.toList.mapM λf=>trod enc P w base c e B f.type ((cs.drop f.offset).take (P.cellsOf f.type)))=some l->∃a:α,fH (snap w) (cells a) cs/\ck.ok a/\∀b:DataW H->Nat,q9 b->ck.wt a<=((l.map (·.1)).map b).sum+1):tO P t α (B+1):=by
 intro H enc w base c e cs d ps g;simp only[trod,i]at g;split at g<;>first|(simp at g;done)|skip
 all_goals (first|(rename_i u;cases u;done)|skip)
 rename_i C;have⟨l,k,D⟩:=ζf.1 g;cases D;have⟨a,k1,k2,k3⟩:=h (by rw[C,j]) k
 exact⟨a,k1,k2,λb z=>Nat.le_trans (k3 b z) (z.agg _)⟩
theorem Reads.of{t:Zm}{fs:Array Field}{α:Type}[bp α][ck α](a:P.underlying t=some (.struct fs))(b:P.cellsOf t=bp.size α)(D:bp.agg α=true)(h:∀B,tO P t α B):Reads P t α where
 size:=b
 rd hr:=h _ hr
 shape hv:=by rw[if_pos D];unfold okWide at hv;rw[a]at hv;have⟨u,c,_⟩:=hv;exact⟨u,c⟩
theorem Reads.st{t:Zm}{fs:Array Field}{α:Type}[bp α][ck α](g:P.underlying t=some (.struct fs))(i:P.cellsOf t=bp.size α)(D:bp.agg α=true)
 (h:∀{H:Type}{enc:Zm×Zp->H}{w:World}{base:Nat}{c:Nat->Zl}{e:Zl}{B:Nat}{cs:aX Zp}{l:aX (DataW H×aX MemPlace)},cs.length=bp.size α->
  (fs.toList.mapM λf=>trod enc P w base c e B f.type ((cs.drop f.offset).take (P.cellsOf f.type)))=some l->∃a:α,fH (snap w) (cells a) cs/\ck.ok a/\∀b:DataW H->Nat,q9 b->ck.wt a<=((l.map (·.1)).map b).sum+1):Reads P t α:=
 Reads.of g i D λB=>by cases B with|zero=>intro H enc w base c e cs d ps h;simp[trod]at h|succ f=>exact tO.st g i h
theorem Reads.arg{t:Zm}{α:Type}[bp α][ck α][Reads P t α]{H:Type}{B:Zm×Zp->H}{w:World}{base:Nat}{c:Nat->Zl}{e:Zl}{r:_root_.Go.Reach}{b:Nat}{v:Zp}{d:DataW H}{ps:aX MemPlace}
 (f:okWide P w r b t v)(h:Trod B P w base c e t v d ps):∃a:α,bC (snap w) (λ_=>none) (enc a) v/\ck.ok a/\∀b:DataW H->Nat,q9 b->ck.wt a<=b d:=by
 have⟨I,h⟩:=h;have⟨a,⟨g,z⟩,D,G⟩:=Reads.rd (P:=P) (t:=t) (α:=α) h;have u:=Reads.shape (P:=P) (t:=t) (α:=α) f;refine⟨a,?_,D,G⟩
 cases C:bp.agg α with
 |true=>rw[C,if_pos rfl]at u;obtain⟨O,rfl⟩:=u;rw[zm C];refine .c _ _ (.agg _ _ (by simpa[Value.cells]using g) (λj x y J L=>z j x y J (by simpa[Value.cells]using L)))|false=>rw[C]at u;simp only[false_eq_true,if_false]at u;rw[u]at z;rw[uX C]at z;exact .c _ _ (z 0 _ _ rfl rfl)
end
end Go.VE
namespace Go.VE
variable[bL]
open Go.ChangeShapes Go.WideShapes Go.ChangeAt Go.RowKit
structure FW(w w':World):Prop where
 kept:w.keptBut w' (λ_=>False)
 fz:∀a:Addr,a.block<w.heap.size->w'.frozen? a=w.frozen? a
theorem Ej{I I':b_}{μ':Mu}{H':bh}{w w':World}(s:Step I (λ_=>none) [] w I' μ' H' w'):FW w w':=by
 have B:∀b,b<w.heap.size->w'.heap[b]?=w.heap[b]?:=λb z=>s.frame b z (by rintro⟨id,p,ob,h,_⟩;simp at h);refine⟨⟨s.os,s.out.out,λi C=>?_⟩,λa z=>?_⟩;rw[B i C];split;next c u=>rw[c]at u;cases u;exact⟨rfl,rfl,rfl,λ_ _=>rfl⟩
 next c u=>rw[c]at u;cases u;exact .inr ⟨rfl,rfl⟩
 rfl;unfold World.frozen?;rw[B _ z]
theorem Gn{P:Program}{call:di}(a:jW P call){f:Zk}{args:Zu}{b:Zl}{H':bh}(h:call (.fn f) args []=some (.bool b,H')){w:World}{vs:aX Zp}
 (D:s7 (snap w))(d:cr (snap w) (λ_=>none) args vs):Calls P f vs.toArray w λe w'=>e=.returned (.bool b)/\FW w w':=by
 intro C;have k:=((a.fn f args [] _ H' h).2 (snap w) (λ_=>none) w vs (MT D) d)
 obtain⟨e,w',fr,⟨u,I',μ',rfl,g,_,G⟩,z,i,I⟩:=k.2 C (by simp[Fence.room,fr])
 refine⟨_,w',fr,⟨?_,Ej G⟩,z.comes,i,I⟩
 cases g with
 |c _ _ B=>cases B;rfl
variable{P:Program}{H:Type}{enc:Zm×Zp->H}
theorem Ea{B:aX Zm}{vs:aX Zp}{ds:aX (DataW H)}{ps:aX MemPlace}{w w':World}(e:FW w w')(h:TrodAll enc P w 0 (λ_=>true) true B vs ds ps):TrodAll enc P w' 0 (λ_=>true) true B vs ds ps:=by
 have z:∀p:MemPlace,p.block<w.heap.size->w.sameAt w' p:=by intro p C;have k:=e.kept.2.2 p.block C;cases p with|cell b off=>simp only[sameAt,cell?];simp only[MemPlace.block]at k C;split at k;rename_i c t fr c' G D a u;rw[a,u];simp only;have:=k.2.2.2 off (λx=>x);simpa using this;(next a u=>rw[a,u]);rw[k]|map b=>simp only[sameAt];simp only[MemPlace.block]at k C;split at k;rename_i c t fr c' G D a u;obtain⟨rfl,rfl,O,I⟩:=k;rw[a,u];have:c'=c:=Array.ext_getElem? λi=>I i (λx=>x);rw[this];rename_i a u;rcases k with k|⟨rfl,rfl⟩;exact k.elim;rw[a,u];exact k
 induction B generalizing vs ds ps with|nil=>cases vs<;>cases ds<;>simp_all [TrodAll]|cons t B J=>cases vs with|nil=>simp[TrodAll]at h|cons v vs=>cases ds with|nil=>simp[TrodAll]at h|cons d ds=>obtain⟨p,q,⟨n,a⟩,u,rfl⟩:=h;exact⟨p,q,⟨n,DataW.trod_carry n _ _ _ a λx L=>z x (DataW.trod_lt n _ _ _ a x L)⟩,J u,rfl⟩
theorem KZ{T:Zm->Prop}(K:Kids P T)(l:∀t e,T t->P.underlying t=some (.slice e)->0<P.cellsOf e){f:Func}{s:ChangeSpec}{apart c a d:Zl}{W G:World}{args:Array Zp}{ds i:aX (DataW H)}{before:aX MemPlace}{tb:Zm}
 (m:∀t∈f.params.toList,T t)(B:s.vars=[])(D:s.fn H (ds++i)={results:=[.lit (.bool true)],args:=ds})(J:f.resultTypes=#[tb])(U:P.underlying tb=some .bool)
 (Y:DataW.Whole enc P f.params.toList s.vars apart W args.toList ds i before)(g:FW W G):s.post enc P f apart c a d W args (.bool true) G:=by
 have z:=Y;obtain⟨p,q,Z,S,rfl,L,O⟩:=Y;rw[B]at S;obtain⟨rfl,rfl⟩:=trodVars_none S;have j:∀(b:Nat)(w:Nat->Zl)(n:Zl),TrodAll enc P G b w n f.resultTypes.toList ((Value.bool true).resultList f.resultTypes.size) (s.fn H (ds++[])).results []:=λ_ _ _=>by rw[J,D];exact trodAll_cons_mk (shut_bool U _) trodAll_mk0
 have X:∀w:Nat->Zl,(∀x∈p++[],w x.block=true)->TrodAll enc P G 0 w true f.params.toList args.toList (s.fn H (ds++[])).args p:=λw Q=>by rw[D];exact TrodAll.respare K l m (Ea g Z) (λx u=>Q x (List.mem_append_left _ u))
 have k:∀w:Nat->Zl,DataW.TrodVars enc P G w s.vars (s.fn H (ds++[])).vars []:=λw=>by rw[D,B];rfl
 have C:=λx u=>z.lt x u
 refine⟨ds,[],p++[],[],p,[],z,j _ _ _,X _ λx u=>by simpa using C x u,k _,World.keptBut_mono (λx u=>u.elim) g.kept,λ_=>⟨ok_one J rfl (okWide_bool_mk U _),?_⟩⟩
 refine⟨_,_,[]++p++[],⟨[]++p,[],trodAll_append (X _ λ_ _=>rfl) (j _ _ _),k _,rfl,λb off u=>?_,λh=>by simpa using O h⟩,λx u _=>by simpa using u⟩
 have I:MemPlace.cell b off∈p++[]:=by simpa using u
 rw[g.fz _ (C _ I)];exact L b off I
end Go.VE
namespace Go.VE
variable[bL]
instance:ck U8 where
 wt _:=1
 ok n:=0<=n.v/\n.v<=255
theorem Reads.u8{P:Program}{t:Zm}(a:P.underlying t=some (.int .u8))(c:P.cellsOf t=1):Reads P t U8 where
 size:=c
 rd {H enc w base spare held z D d ps} h:=by cases z with|zero=>simp[trod]at h|succ z=>(simp only[trod,a]at h;split at h<;>first|(simp at h;done)|skip);(next u=>cases u);rename_i k G n u;simp only[ζa,TypeDesc.int.injEq]at u;split at h;(next e=>obtain⟨rfl,B⟩:=e;subst u;cases h;exact⟨⟨n⟩,fH.one (.int _ n),show _/\_ by simpa[Lit.wf,IntKind.min,IntKind.max,signed,IntKind.bits]using B,λb C=>C.lit _⟩);simp at h;all_goals (rename_i u;cases u)
 shape h:=by simp only[show bp.agg U8=false from rfl];exact pV a Zc Zc h
theorem Ja{m:Tb bq}{n:Nat}{rs:Zw}{b:Zl}(h:cU m n rs=some [.bool b]):rs=[.v (.bool b)]:=by
 cases rs with
 |nil=>cases n<;>simp[cU]at h|cons x r=>
  have c:shut m n x=some (.bool b)/\cU m n r=some []:=by unfold cU at h;split at h;(next y s c w=>simp only[ζa,List.cons.injEq]at h;obtain⟨rfl,rfl⟩:=h;exact⟨c,w⟩);cases h
  have w:r=[]:=by cases r with|nil=>rfl|cons y r=>have:=c.2;unfold cU at this;split at this<;>simp at this
  subst w;have u:=c.1
  cases x with
  |v y=>unfold shut at u;simp only[ζa]at u;rw[u]|own d=>unfold shut jC at u;(repeat' split at u)<;>cases u|ptr d o=>cases n with|zero=>simp[shut]at u|succ n=>(unfold shut at u;split at u<;>try cases u);(split at u<;>try cases u);split at u<;>cases u
  |mp d=>unfold shut at u;split at u<;>cases u|clo f a b=>cases n with|zero=>simp[shut]at u|succ n=>unfold shut at u;split at u<;>cases u
  |tup l=>cases n with|zero=>simp[shut]at u|succ n=>unfold shut at u;have⟨_,_,z⟩:=ζf.1 u;cases z
  |_=>cases n<;>simp[shut]at u
theorem Nn{S:Sys}{T:pI}(B:q_ S T)(D:∀f a b xs,S.items f a b=some xs->fF S f a b xs){f:Zk}{xs:Zu}(c:V.cB xs=true)(h:mA (cT S T) f xs=some [.bool true]):
 ∃n H',run S.E n (.fn f) xs []=some (.bool true,H'):=by
 unfold mA at h;have⟨⟨rs,m⟩,d,u⟩:=ζg.1 h;have:=Ja u;simp only at this;subst this;exact Q7 B D c d rfl
theorem JD{S:Sys}{T:pI}{P:Program}(B:q_ S T)(D:∀f a b xs,S.items f a b=some xs->fF S f a b xs)(c:∀n,jW P (run S.E n)){f:Zk}{xs:Zu}(d:V.cB xs=true)(h:mA (cT S T) f xs=some [.bool true])
 {w:World}{args:Array Zp}(G:s7 (snap w))(g:cr (snap w) (λ_=>none) xs args.toList):Calls P f args w λe w'=>e=.returned (.bool true)/\FW w w':=by
 have⟨n,H',i⟩:=Nn B D d h;have:=Gn (c n) i G g;simpa using this
theorem Reads.B2{P:Program}{t:Zm}{α:Type}[bp α][ck α][Reads P t α]{H:Type}{B:Zm×Zp->H}{w:World}{base b:Nat}{c:Nat->Zl}{e:Zl}{v:Zp}{d:DataW H}{ps:aX MemPlace}{params:Array Zm}{args:Array Zp}(D:∀(j:Nat)t v,params[j]?=some t->args[j]?=some v->okWide P w .any b t v)(j:Nat)(f:params[j]?=some t)(G:args[j]?=some v)(h:Trod B P w base c e t v d ps):∃a:α,bC (snap w) (λ_=>none) (enc a) v/\ck.ok a/\∀b:DataW H->Nat,q9 b->ck.wt a<=b d:=Reads.arg (D j t v f G) h
end Go.VE
namespace Go.VE
theorem Nr{w:World}{g:Nat}{l:Zx}(h:∀i,i<l.length->w.cell? ⟨g,i,none⟩=some (.int .i64 (l.getD i 0)))(D:0<l.length):dX (snap w) (.fptr (l.map (V.int .i64))) (.pointer (some ⟨g,0,none⟩)):=by
 have a:=h 0 D;unfold cell? at a;split at a;rename_i c t fr u;have G:snap w g=some (.cells c):=by unfold snap;simp only at u;rw[u]
 have d:∀i,w.cell? ⟨g,i,none⟩=c[i]?:=λi=>by unfold cell?;simp only at u⊢;rw[u];rfl
 refine .fptr _ _ _ c G ?_ ?_;rw[zero_add,length_map];have:=h (l.length-1) Za;rw[d]at this;have:=(Array.getElem?_eq_some_iff.1 this).1;omega;intro j y v B b;rw[zero_add,<-d]at b;rw[getElem?_map]at B;obtain⟨z,C,rfl⟩:=ζf.1 B;have I:=(ζe.1 C).1;rw[h j I]at b;cases b;have:l.getD j 0=z:=by simp[List.getD,C]
 rw[this];exact .int _ _;cases a
variable[bL]
theorem cK(n:Nat)(h:n<9223372036854775807):wrap .i64 ((n:Int)+1)=((n+1:Nat):Int):=by simp[wrap,IntKind.bits,signed];omega
theorem j9(n:Int)(a:-9223372036854775808<=n)(B:n<=9223372036854775807):wrap .i64 n=n:=by simp[wrap,IntKind.bits,signed];omega
section
variable{α β:Type}{P:β->Prop}
theorem kj(s:Sl α)(i:Nat):idx s (i:Int)=s.l[i]?:=by unfold idx;rw[if_pos Za];rfl
theorem bJ{s:Sl α}{i:Nat}(h:i<s.l.length):idx s (i:Int)=some s.l[i]:=by rw[kj,ζd h]
theorem N0{s:Sl α}{i:Int}(B:0<=i):idx s i=s.l[i.toNat]?:=by unfold idx;rw[if_pos B]
theorem tF(s:Sl α)(i:Nat)(h:i<=s.l.length):∃x,ga s none (some (i:Int))=some x/\x.l=s.l.take i:=by unfold ga dx;simp only[Option.getD_none,getD_some];rw[if_pos Za];cases s<;>simp[Sl.l]at h⊢ <;>simp[h]
theorem bA{γ:Type}{a b:γ}:bl true a b=a:=rfl
theorem bW{γ:Type}{a b:γ}:bl false a b=b:=rfl
theorem mS(a b:Zl):bl a (some b) (some false)=some (a&&b):=by cases a<;>rfl
theorem kB(a b:Zl):bl a (some true) (some b)=some (a||b):=by cases a<;>rfl
theorem rX(a:Zl)(x y:β):bl a (some x) (some y)=some (if a then x else y):=by cases a<;>rfl
end
def place{α:Type}(f:α->Zl)(l:aX α):Int:=match l.findIdx? f with
 |some i=>i|none=>-1
theorem xQ{α:Type}{f:α->Zl}{l:aX α}{i:Nat}(h:∀j,j<i->∀x,l[j]?=some x->f x=false)(B:l.length<=i):l.findIdx? f=none:=by rw[List.findIdx?_eq_none_iff];intro x w;have⟨j,u⟩:=getElem?_of_mem w;have:j<l.length:=(ζe.1 u).1;exact h j Za x u
theorem Hv{α:Type}{f:α->Zl}{l:aX α}{i:Nat}{x:α}(h:∀j,j<i->∀x,l[j]?=some x->f x=false)(B:l[i]?=some x)(D:f x=true):l.findIdx? f=some i:=by rw[List.findIdx?_eq_some_iff_getElem];obtain⟨u,rfl⟩:=ζe.1 B;exact⟨u,D,λj w=>by rw[h j w _ (ζd Za)];simp⟩
theorem qW{α:Type}{step:Int->aY (Fw Int Unit Int)}{s:Sl α}{p:α->aY Zl}{f:α->Zl}(J:∀x∈s.l,p x=some (f x))(T:s.l.length<9223372036854775807)
 (O:∀i,step i=bl (decide (i<len s)) ((idx s i).bind λB=>(p B).bind λD=>bl D (some (.r i)) (some (.n (wrap .i64 (i+1))))) (some (.x ()))):
 (bM step 0).bind (Fw.elim (λ_=>some (-1)) (λe=>some e))=some (place f s.l):=by
 refine Wp.eq (eT (λi:Int=>∃n:Nat,i=n/\n<=s.l.length/\∀j,j<n->∀x,s.l[j]?=some x->f x=false) (λi:Int=>s.l.length-i.toNat) ⟨0,rfl,zero_le _,λj I=>absurd I Za⟩ ?_)
 rintro i ⟨n,rfl,L,w⟩;rw[O,b9];refine⟨λh=>?_,λh=>?_⟩
 .have u:n<s.l.length:=by simpa[len]using h
  rw[bJ u,ζb,J _ (getElem_mem u),ζb,b9];refine⟨λz=>?_,λz=>?_⟩
  .rw[a_];show Wp (some (n:Int)) _;rw[a_];unfold place;rw[Hv w (ζd u) z]
  rw[a_];refine⟨⟨n+1,cK n Za,Za,λj I x C=>?_⟩,?_⟩
  .by_cases e:j=n
   .subst e;rw[ζd u]at C;cases C;exact z
   exact w j Za x C
  rw[cK n Za];simp;omega
 have G:s.l.length<=n:=by simpa[len]using h
 rw[a_];show Wp (some (-1:Int)) _;rw[a_];unfold place;rw[xQ w G]
theorem tu{α:Type}(f:α->Zl)(l:aX α):decide (place f l>=0)=l.any f:=by unfold place;cases h:l.findIdx? f with|none=>rw[List.findIdx?_eq_none_iff]at h;have:l.any f=false:=(by rw[List.any_eq_false];intro x u;simp[h x u]);rw[this];rfl|some i=>have⟨w,z,_⟩:=List.findIdx?_eq_some_iff_getElem.1 h;have:l.any f=true:=List.any_eq_true.2 ⟨_,getElem_mem w,z⟩;rw[this];simp
theorem M9{α σ ε ρ:Type}{step:α->σ->aY (Fw σ ε ρ)}{l:aX α}(I:Nat->σ->Prop)(D:ε->Prop)(G:ρ->Prop){s:σ}(O:I 0 s)
 (h:∀i a s,l[i]?=some a->I i s->Wp (step a s) λw=>match w with|.n B=>I (i+1) B|.x e=>D e|.r b=>G b):
 Wp (nF step l s) λw=>match w with|.n B=>I l.length B|.x e=>D e|.r b=>G b:=by
 have key:∀(r:aX α)(i:Nat)(s:σ),l.drop i=r->i<=l.length->I i s->Wp (nF step r s) λw=>match w with|.n B=>I l.length B|.x e=>D e|.r b=>G b:=by intro r;induction r with|nil=>intro i s u L C;have:i=l.length:=(by have:=List.drop_eq_nil_iff.1 u;omega);subst this;exact⟨_,rfl,C⟩|cons a r Q=>intro i s u L C;have z:i<l.length:=(by apply Classical.byContradiction;intro U;rw[List.drop_eq_nil_of_le Za]at u;cases u);have S:=List.drop_eq_getElem_cons z;rw[S]at u;simp only[List.cons.injEq]at u;have⟨w,T,J⟩:=h i a s (by rw[ζd z,u.1]) C;simp only[nF,T,ζb];cases w with|n B=>exact Q (i+1) B u.2 Za J|x e=>exact⟨_,rfl,J⟩|r b=>exact⟨_,rfl,J⟩
 exact key l 0 s rfl (zero_le _) O
theorem zh{α σ ε ρ γ:Type}{step:α->σ->aY (Fw σ ε ρ)}{l:aX α}{fn:σ->aY γ}{B:ε->aY γ}{fr:ρ->aY γ}{P:γ->Prop}(I:Nat->σ->Prop){s:σ}(D:I 0 s)
 (h:∀i a s,l[i]?=some a->I i s->Wp (step a s) λw=>match w with|.n G=>I (i+1) G|.x e=>Wp (B e) P|.r b=>Wp (fr b) P)
 (J:∀s,I l.length s->Wp (fn s) P):Wp ((nF step l s).bind (Fw.vf fn B fr)) P:=by
 rw[eH];refine(M9 I _ _ D h).mono ?_;intro w u
 cases w with
 |n s=>exact J s u|x e=>exact u|r b=>exact u
end Go.VE
