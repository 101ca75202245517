/-
 Certificates; functions by hand; readings; plain laws.
-/
import Derived.JoinedCond
import Derived.ReadAgain
import Derived.WalkKit
import Derived.ProofKit
import Derived.OpenShut
import Derived.ChangeSame
import Derived.RowKit3
import Derived.Lib.LaidTab
import Derived.Test.YtfgojpmjdgnieaaGreatDoorV2
import Derived.Test.YtfgojpmjdgnieaaGreatDoorN2
import Derived.Test.YtfgojpmjdgnieaaGreatDoorS1
set_option linter.all false
noncomputable section
open Nat(beq ble le_refl zero_add zero_le)
open Option(getD_some map_some pure_def)
open List(all_cons all_eq_true append_assoc append_nil drop_zero getElem?_append_left getElem?_append_right getElem?_drop getElem?_map getElem?_of_mem getElem?_set_ne getElem?_set_self getElem?_take getElem_mem length_cons length_map length_range length_singleton map_cons map_nil mem_append mem_map mem_of_getElem? mem_range nil_append range range' replicate set_set take_of_length_le)
open Classical(choose_spec)
open Bool(false_eq_true)
open Go.IntKind(signed wrap)
open Go.DataW(Trod TrodAll trod)
open Go.Value(okWide)
open Go.World(cell? sameAt)
namespace Go.VE
variable[bV]
abbrev Cf:=Fo×a_ Fm×St
section
variable(S:Sys)(c:cg){β:Type}(Q:Out×St->bt β)
abbrev cF(cf:Cf):bt β:=rn S c Q cf.1 cf.2.1 cf.2.2
def je(n:Nat)(cf:Cf):Cf:=(gR S c n cf.1 cf.2.1 cf.2.2).getD cf
structure DJ where
 dr:Bool
 fr:List Nat
 d:Option Nat
 gd:Option (Nat×Bool)
 now:Bool
 k:K
 az:List Arg
 dd:List Nat
 l:List RO
 fs:List Fm
 st:St
def iD(n:Nat)(cf:Cf):bt DJ:=match gR S c n cf.1 cf.2.1 cf.2.2 with
 |some (.ops dr fr (⟨d,gd,now,k,az,dd,[]⟩::l),fs,st)=>match wanted st.g gd with
  |some true=>some ⟨dr,fr,d,gd,now,k,az,dd,l,fs,st⟩|_=>none
 |_=>none
def nx(n:Nat)(cf:Cf)(φ:DJ->St):Cf:=match iD S c n cf with
 |some p=>(.ops p.dr (if p.dr then(match p.k with|.p _|.r _=>p.fr|_=>match p.d with|some d=>d::p.fr|none=>p.fr)else p.fr) p.l,p.fs,ou p.dd (φ p))|none=>cf
end
def tK(s:Nat)(b:Zl)(cf:Cf):Cf:=(cf.1,cf.2.1,{cf.2.2 with g:=bR cf.2.2.g s (.v (.bool b))})
def jmp(k:Nat)(fr:Zv)(cf:Cf)(st:St):Cf:=match cf with
 |(.ops dr _ l,fs,_)=>(.ops dr fr (l.drop k),fs,st)|_=>(.rt,[],st)
def tH:RC->Zv->Z3->St->Cf
 |c,[],fs,st=>(.rc c,fs,st)|.seq a b,i::p,fs,st=>if i=0 then tH a p (.seq b::fs) st else tH b p fs st|.cond _ a b,i::p,fs,st=>if i=0 then tH a p fs st else tH b p fs st|.block id c,_::p,fs,st=>tH c p (.blk id::fs) st|.gh _ c,_::p,fs,st=>tH c p fs st|.hg c g,_::p,fs,st=>tH c p (.gst g::fs) st|.loop c,_::p,_,st=>tH c p [] st|.each _ _ _ b,_::p,_,st=>tH b p [] st|c,_,fs,st=>(.rc c,fs,st)
section
variable{S:Sys}{c:cg}{β γ δ α:Type}{Q:Out×St->bt β}{e:γ->bt β}{cf:Cf}
theorem jw{n:Nat}{p:DJ}(h:iD S c n cf=some p):gR S c n cf.1 cf.2.1 cf.2.2=some (.ops p.dr p.fr (⟨p.d,p.gd,p.now,p.k,p.az,p.dd,[]⟩::p.l),p.fs,p.st)/\wanted p.st.g p.gd=some true:=by unfold iD at h;grind
theorem uB{n:Nat}{m:bt δ}{φ:δ->DJ->St}{f:δ->bt γ}{p:DJ}(B:iD S c n cf=some p)(D:Le (m.bind λx=>some (φ x p)) (fq S c p.dr p.fr ⟨p.d,none,p.now,p.k,p.az,[],[]⟩ p.st))
 (h:∀x,m=some x->Le ((f x).bind e) (cF S c Q (nx S c n cf (φ x)))):Le ((m.bind f).bind e) (cF S c Q cf):=by
 have⟨a,u⟩:=jw B;refine CG a rfl u D λx w=>?_
 have:=h x w;simp[nx,B]at this;omega
theorem AP{n:Nat}{m:bt β}{φ:DJ->St}{p:DJ}(B:iD S c n cf=some p)(D:fq S c p.dr p.fr ⟨p.d,none,p.now,p.k,p.az,[],[]⟩ p.st=some (φ p))
 (h:Le m (cF S c Q (nx S c n cf φ))):Le m (cF S c Q cf):=by
 have⟨a,u⟩:=jw B;refine qh a rfl u D ?_;simp[nx,B]at h;omega
theorem gx{α β:Type}{o:bt α}{f:α->β}{b:β}(h:o.map f=some b):∃a,o=some a/\f a=b:=ζf.1 h
theorem CB(n:Nat){m:bt β}{B:Cf}(h:Le m (cF S c Q B))(D:gR S c n cf.1 cf.2.1 cf.2.2=some B:=by kernel_rfl):Le m (cF S c Q cf):=CL D h
theorem bK(n s:Nat){t:Zl}{x y:bt γ}(B:Le (x.bind e) (cF S c Q (tK s true (je S c n cf))))(D:Le (y.bind e) (cF S c Q (tK s false (je S c n cf))))
 (G:(gR S c n cf.1 cf.2.1 cf.2.2).map (λp=>bB p.2.2.g s)=some (some (.v (.bool t))):=by kernel_rfl):Le ((bE t x y).bind e) (cF S c Q cf):=by
 have⟨p,u,a⟩:=gx G;have b:je S c n cf=p:=by unfold je;grind
 rw[b]at B D;refine CL u ?_;cases t
 .have:tK s false p=p:=by unfold tK;rw[qV a]
  rw[this]at D;exact D
 have:tK s true p=p:=by unfold tK;rw[qV a]
 rw[this]at B;exact B
theorem ez(n s:Nat){t:Zl}{x y:bt γ}(B:Le (x.bind e) (cF S c Q (tK s false (je S c n cf))))(D:Le (y.bind e) (cF S c Q (tK s true (je S c n cf))))
 (G:(gR S c n cf.1 cf.2.1 cf.2.2).map (λp=>bB p.2.2.g s)=some (some (.v (.bool (!t)))):=by kernel_rfl):Le ((bE t x y).bind e) (cF S c Q cf):=by
 have⟨p,u,a⟩:=gx G;have b:je S c n cf=p:=by unfold je;grind
 rw[b]at B D;refine CL u ?_;cases t
 .have:tK s true p=p:=by unfold tK;rw[show V.bool true=V.bool (!false)from rfl,qV a]
  rw[this]at D;exact D
 have:tK s false p=p:=by unfold tK;rw[show V.bool false=V.bool (!true)from rfl,qV a]
 rw[this]at B;exact B
theorem uc(n k:Nat)(fr:Zv)(st:δ->St){m:bt δ}{f:δ->bt γ}(B:Le (m.bind λr=>cF S c Q (jmp k fr (je S c n cf) (st r))) (cF S c Q cf))(a:∀r,Le ((f r).bind e) (cF S c Q (jmp k fr (je S c n cf) (st r)))):Le ((m.bind f).bind e) (cF S c Q cf):=OX _ B a
theorem bH(n:Nat){r:δ}{k:δ->Cf}(B:gR S c n cf.1 cf.2.1 cf.2.2=some (k r):=by kernel_rfl):Le ((some r).bind λr=>cF S c Q (k r)) (cF S c Q cf):=Ui B rfl
theorem bA{r:γ}{L:bt β}(h:L=e r:=by kernel_rfl):Le ((some r).bind e) L:=Le.of_eq h
theorem Bf(n:Nat){b:RC}{m:bt (Out×Tb bN)}(h:Le m (cF S c uI (.rc b,[],(je S c n cf).2.2)))(B:gR S c n cf.1 cf.2.1 cf.2.2=some (.nx,[],(je S c n cf).2.2):=by kernel_rfl):Le m (cF S c (wQ S c b) cf):=RG B h
theorem Mi(n:Nat){o:bt α}(A:bt α->St){f:α->bt γ}(B:∀x,o=some x->Le ((f x).bind e) (cF S c Q ((je S c n cf).1,(je S c n cf).2.1,A (some x))))
 (D:gR S c n cf.1 cf.2.1 cf.2.2=some ((je S c n cf).1,(je S c n cf).2.1,A o):=by kernel_rfl):Le ((o.bind f).bind e) (cF S c Q cf):=TB D B
theorem kz.Rr{S:Sys}{T:oN}[bF δ]{f:Zk}{A:α->Zu}{p:α->bt δ}(B:T f=none)(a:S.E.keep f=false)(D:∀z r,p z=some r->S.xC f (A z)=some (enc r))
 :kz S (dg S T) f A (λr=>[enc r]) p false where
 k:=a
 h z:=by intro y u;have⟨r,b,w⟩:=ζg.1 u;cases w;have h:=Dd B a (D z r b);unfold mA;rw[h];exact vo 8 [enc r]
 s h:=by cases h
def N8:K->bt BinOp
 |.p (.bin (some .slice) _ o)=>some o|_=>none
theorem QA{k:K}{o:BinOp}(h:N8 k=some o):∃u,k=.p (.bin (some .slice) u o):=by unfold N8 at h;grind
def Si:K->bt (Nat×Nat×Zv)
 |.a (.buildSl sz ln _ ix)=>some (sz,ln,ix)|_=>none
theorem Sw{k:K}{r:Nat×Nat×Zv}(h:Si k=some r):∃z,k=.a (.buildSl r.1 r.2.1 z r.2.2):=by unfold Si at h;grind
def Rm:K->bt Zu
 |.a (.alloc _ zero)=>some zero|_=>none
theorem Rw{k:K}{z:Zu}(h:Rm k=some z):∃n,k=.a (.alloc n z):=by unfold Rm at h;grind
section
variable[bF α]
theorem S0(k:Zs)(n:Nat){s:Sl α}{i:Int}{f:α->bt γ}(h:∀x,idx s i=some x->Le ((f x).bind e) (cF S c Q (nx S c n cf λp=>dy p.st p.d (cp x))))
 (B:(iD S c n cf).map (λp=>(p.k,cn S.N p.st.g p.az))=some (.p (.idxS (bF.size α)),some [.v (cr s),.v (.int k i)]):=by kernel_rfl):Le (((idx s i).bind f).bind e) (cF S c Q cf):=by
 have⟨p,u,a⟩:=gx B;simp at a;refine uB u ?_ h;rw[a.1];exact Le.of_eq (Oe a.2 rfl)
theorem bU(n:Nat){s:Sl α}{i:Int}{f:α->bt γ}(h:∀x,idx s i=some x->Le ((f x).bind e) (cF S c Q (nx S c n cf λp=>dy p.st p.d (cp x))))
 (B:(iD S c n cf).map (λp=>(p.k,cn S.N p.st.g p.az))=some (.p (.idxS (bF.size α)),some [.v (cr s),.v (.int .i64 i)]):=by kernel_rfl):Le (((idx s i).bind f).bind e) (cF S c Q cf):=S0 .i64 n h B
theorem mR(k:Zs)(n u:Nat){s:Sl α}{i:Int}{f:Nat->bt γ}(h:∀x,s.l_ i=some x->Le ((f x).bind e) (cF S c Q (nx S c n cf λp=>dy p.st p.d (.el u x 0))))
 (B:(iD S c n cf).map (λp=>(p.k,cn S.N p.st.g p.az,bB p.st.m u))=some (.p (.idxS (bF.size α)),some [.own u,.v (.int k i)],some (cU s)):=by kernel_rfl):Le (((s.l_ i).bind f).bind e) (cF S c Q cf):=by
 have⟨p,w,a⟩:=gx B;simp at a;refine uB w ?_ h;rw[a.1];exact Le.of_eq (Tw a.2.1 a.2.2 rfl)
theorem uy(n u o b:Nat)(a:Zl)(v:α->V){s:Sl α}{i:Nat}{f:α->bt γ}(h:∀x,s.get i=some x->Le ((f x).bind e) (cF S c Q (nx S c n cf λp=>dy p.st p.d (.v (v x)))))
 (B:(iD S c n cf).map (λp=>(p.k,cn S.N p.st.g p.az,bB p.st.m u,(!p.dr||p.now||eW p.fr [.el u i o])))=some (.r (.load b a),some [.el u i o],some (cU s),true):=by kernel_rfl)(d:∀x:α,(cut (cells x) o b).bind (mk a)=some (v x):=by intro _;rfl):Le (((s.get i).bind f).bind e) (cF S c Q cf):=by
 have⟨p,z,w⟩:=gx B;simp only[ζc]at w;refine uB z ?_ h;rw[w.1];exact Le.of_eq (Rz w.2.1 w.2.2.2 w.2.2.1 d)
theorem wX(n u:Nat)(x:V){s:Sl α}{i:Nat}{a:α}{f:Sl α->bt γ}(h:∀B,s.put i a=some B->Le ((f B).bind e) (cF S c Q (nx S c n cf λp=>dy {p.st with m:=bR p.st.m u (cU B)} p.d (.v .undef))))
 (D:(iD S c n cf).map (λp=>(p.k,cn S.N p.st.g p.az,bB p.st.m u,(!p.dr||p.now),x.cells))=some (.l (.store (bF.size α)),some [.el u i 0,.v x],some (cU s),true,cells a):=by kernel_rfl):Le (((s.put i a).bind f).bind e) (cF S c Q cf):=by
 have⟨p,w,b⟩:=gx D;simp only[ζc]at b;refine uB w ?_ h;rw[b.1];exact Le.of_eq (PV b.2.1 b.2.2.2.1 b.2.2.1 b.2.2.2.2 rfl)
theorem HO(n u:Nat){i:Int}{z:α}{f:Sl α->bt γ}(h:∀B,qw i z=some B->Le ((f B).bind e) (cF S c Q (nx S c n cf λp=>{p.st with g:=bR p.st.g u (.own u),m:=bR p.st.m u (cU B)})))
 (D:(iD S c n cf).map (λp=>(p.d,p.k,cn S.N p.st.g p.az,p.st.new u))=some (some u,.a (.makeSl (bF.size α) (cells z)),some [.v (.int .i64 i),.v (.int .i64 i)],true):=by kernel_rfl):Le (((qw i z).bind f).bind e) (cF S c Q cf):=by
 have⟨p,w,a⟩:=gx D;simp at a;refine uB w ?_ h;rw[a.1,a.2.1];exact Le.of_eq (RM a.2.2.1 rfl rfl a.2.2.2)
theorem qy(n o w u:Nat){s:Sl α}{x:α}{f:Sl α->bt γ}(h:∀B,jt s x=some B->Le ((f B).bind e) (cF S c Q (nx S c n cf λp=>{p.st with g:=bR p.st.g u (.own u),m:=bR (dY o p.st.m) u (cU B)})))
 (D:(iD S c n cf).map (λp=>(p.d,p.k,cn S.N p.st.g p.az,(!p.dr||p.now),bB p.st.m o,bB p.st.m w,St.new {p.st with m:=dY o p.st.m} u))=some (some u,.l (.append (bF.size α)),some [.own o,.own w],true,some (cU s),some (cU (.row [x])),true):=by kernel_rfl):Le (((jt s x).bind f).bind e) (cF S c Q cf):=by
 have⟨p,z,a⟩:=gx D;simp only[ζc]at a;refine uB z ?_ h;rw[a.1,a.2.1];exact Le.of_eq (Ti a.2.2.1 a.2.2.2.1 a.2.2.2.2.1 a.2.2.2.2.2.1 rfl a.2.2.2.2.2.2)
theorem Om(n w u:Nat)(v:V)(x:α){m:bt β}(h:Le m (cF S c Q (nx S c n cf λp=>{p.st with g:=bR p.st.g u (.own u),m:=bR p.st.m u (cU (.row [x]))})))(a:v=.bL\/v=.dF:=by first|exact .inl rfl|exact .inr rfl)
 (B:(iD S c n cf).map (λp=>(p.d,p.k,cn S.N p.st.g p.az,(!p.dr||p.now),bB p.st.m w,p.st.new u))=some (some u,.l (.append (bF.size α)),some [.v v,.own w],true,some (cU (.row [x])),true):=by kernel_rfl):Le m (cF S c Q cf):=by
 have⟨p,C,z⟩:=gx B;simp only[ζc]at z;refine AP C ?_ h;rw[z.1,z.2.1];exact Rp a z.2.2.1 z.2.2.2.1 z.2.2.2.2.1 rfl z.2.2.2.2.2
theorem b_(n:Nat)(s:Sl α){m:bt β}(h:Le m (cF S c Q (nx S c n cf λp=>dy p.st p.d (.v (.int .i64 s.l.length)))))
 (B:(iD S c n cf).map (λp=>(p.k,cn S.N p.st.g p.az))=some (.p .lenSl,some [.v (cr s)]):=by kernel_rfl):Le m (cF S c Q cf):=by
 have⟨p,u,a⟩:=gx B;simp at a;refine AP u ?_ h;rw[a.1];exact OL a.2
theorem Ip(n u:Nat)(s:Sl α){m:bt β}(h:Le m (cF S c Q (nx S c n cf λp=>dy p.st p.d (.v (.int .i64 s.l.length)))))
 (B:(iD S c n cf).map (λp=>(p.k,cn S.N p.st.g p.az,bB p.st.m u))=some (.p .lenSl,some [.own u],some (cU s)):=by kernel_rfl):Le m (cF S c Q cf):=by
 have⟨p,w,a⟩:=gx B;simp at a;refine AP w ?_ h;rw[a.1];exact Q5 a.2.1 a.2.2
theorem Uh(n:Nat){s:Sl α}{f:Zl->bt γ}(h:∀t,s.isNil=some t->Le ((f t).bind e) (cF S c Q (nx S c n cf λp=>dy p.st p.d (.v (.bool t)))))
 (B:(iD S c n cf).map (λp=>(N8 p.k,cn S.N p.st.g p.az))=some (some .eql,some [.v (cr s),.v .bL]):=by kernel_rfl):Le ((s.isNil.bind f).bind e) (cF S c Q cf):=by
 have⟨p,w,a⟩:=gx B;simp at a;have⟨u,b⟩:=QA a.1;refine uB w ?_ h;rw[b];exact Le.of_eq (PF a.2)
theorem Iw(n:Nat)(B D:Zl)(G:Zu){s:Sl α}{a b:Z6}{f:Sl α->bt γ}(h:∀x,jL s a b=some x->Le ((f x).bind e) (cF S c Q (nx S c n cf λp=>dy p.st p.d (.v (cr x)))))
 (J:(iD S c n cf).map (λp=>(p.k,cn S.N p.st.g p.az,lp B D G))=some (.p (.slice (bF.size α) B D),some (.v (cr s)::G.map .v),some (a,b)):=by kernel_rfl):Le (((jL s a b).bind f).bind e) (cF S c Q cf):=by
 have⟨p,u,g⟩:=gx J;simp at g;have⟨i,C⟩:=jw u;have⟨dr,fr,d,gd,now,k,az,dd,l,fs,st⟩:=p;obtain⟨rfl,I,L⟩:=g;exact Uk n dr fr (⟨d,gd,now,.p (.slice (bF.size α) B D),az,dd,[]⟩::l) fs st B D G rfl Zd λw z=>by have:=h w z;simp only[nx,u]at this;omega
theorem Th(n:Nat)(B D:Zl)(u t:Nat)(G:Zu){s:Sl α}{a b:Z6}{f:Sl α->bt γ}(h:∀x,nR s a b=some x->Le ((f x).bind e) (cF S c Q (nx S c n cf λp=>{p.st with g:=bR p.st.g t (.own t),m:=bR (dY u p.st.m) t (cU x)})))
 (J:(iD S c n cf).map (λp=>(p.d,p.k,p.dr,cn S.N p.st.g p.az,lp B D G,bB p.st.m u,St.new {p.st with m:=dY u p.st.m} t))=some (some t,.p (.slice (bF.size α) B D),false,some (.own u::G.map .v),some (a,b),some (cU s),true):=by kernel_rfl):Le (((nR s a b).bind f).bind e) (cF S c Q cf):=by
 have⟨p,w,i⟩:=gx J;simp at i;have⟨j,L⟩:=jw w;have⟨dr,fr,d,gd,now,k,az,dd,l,fs,st⟩:=p;obtain⟨rfl,rfl,rfl,O,T,U,z⟩:=i;exact S6 n fr (⟨some t,gd,now,.p (.slice (bF.size α) B D),az,dd,[]⟩::l) fs st B D u G rfl z Zd λC I=>by have:=h C I;simp only[nx,w]at this;omega
theorem ec(n u:Nat)(x:α){m:bt β}(h:Le m (cF S c Q (nx S c n cf λp=>{p.st with g:=bR p.st.g u (.ptr u 0),m:=bR p.st.m u (bx x)})))
 (B:(iD S c n cf).map (λp=>(p.d,p.k,cn S.N p.st.g p.az,p.st.new u))=some (some u,.a .box,some [cv x],true):=by kernel_rfl):Le m (cF S c Q cf):=by
 have⟨p,w,a⟩:=gx B;simp at a;refine AP w ?_ h;rw[a.1,a.2.1,B0,a.2.2.1];simp only[ζb,a.2.2.2,if_true,o9,lS,pH]
def TZ(u o a:Nat)(xs:Zw)(p:DJ):St:=match bB p.st.m u with
 |some (.box w)=>dy {p.st with m:=bR p.st.m u (.box (w.take o++xs++w.drop (o+a)))} p.d (.v .undef)|_=>p.st
theorem oW(n u o:Nat)(x:α){m:bt β}(h:Le m (cF S c Q (nx S c n cf (TZ u o (bF.size α) ((cells x).map .v)))))
 (B:(iD S c n cf).map (λp=>(p.k,cn S.N p.st.g p.az,(!p.dr||p.now),match bB p.st.m u with|some (.box cs)=>ble (o+bF.size α) cs.length|_=>false))=some (.l (.store (bF.size α)),some [.ptr u o,cv x],true,true):=by kernel_rfl):Le m (cF S c Q cf):=by
 have⟨p,C,a⟩:=gx B;simp only[ζc]at a;refine AP C ?_ h;have⟨b,D,G,z⟩:=a;split at z
 next cs w=>have I:=Nat.le_of_ble_eq_true z;rw[b,vg,D];simp only[ζb,G,if_true,lX,w,putCells,lS,fF,pH,I,and_self,map_some,TZ]
 simp_all
theorem EM(n u:Nat)(xs:a_ α){m:bt β}(h:Le m (cF S c Q (nx S c n cf λp=>{p.st with g:=bR p.st.g u (.own u),m:=bR p.st.m u (cU (.row xs))})))
 (B:(iD S c n cf).map (λp=>(p.d,Si p.k,cn S.N p.st.g p.az,p.st.new u))=some (some u,some (bF.size α,xs.length,range' 0 xs.length),some ((xs.map enc).map .v),true):=by kernel_rfl):Le m (cF S c Q cf):=by
 have⟨p,w,a⟩:=gx B;simp at a;have⟨b,G⟩:=jw w;have⟨dr,fr,d,gd,now,k,az,dd,l,fs,st⟩:=p;obtain⟨rfl,C,I,D⟩:=a;obtain⟨z,rfl⟩:=Sw C;exact Uz n dr fr (⟨some u,gd,now,.a (.buildSl (bF.size α) xs.length z (range' 0 xs.length)),az,dd,[]⟩::l) fs st xs rfl D Zd (by
  simp[nx,w]at h;omega)
theorem T9(n:Nat)(x:α)(vs z:Zu)(pl:a_ (Nat×Nat)){m:bt β}(B:jV z pl vs=some (cells x))(D:bF.agg α=true)(h:Le m (cF S c Q (nx S c n cf λp=>dy p.st p.d (cv x))))
 (G:(iD S c n cf).map (λp=>(p.k,cn S.N p.st.g p.az))=some (.p (.build z pl),some (vs.map .v)):=by kernel_rfl):Le m (cF S c Q cf):=by
 have⟨p,u,a⟩:=gx G;simp at a;have⟨b,w⟩:=jw u;have⟨dr,fr,d,gd,now,k,az,dd,l,fs,st⟩:=p;obtain⟨rfl,C⟩:=a;exact Um n dr fr (⟨d,gd,now,.p (.build z pl),az,dd,[]⟩::l) fs st x vs rfl B D Zd (by
  simp only[nx,u]at h;omega)
end
theorem zg(n:Nat)(k:Zs){a:Zq}{b:Int}{f:Int->bt γ}(h:∀x,kf a b=some x->Le ((f x).bind e) (cF S c Q (nx S c n cf λp=>dy p.st p.d (.v (.int .u8 x)))))
 (B:(iD S c n cf).map (λp=>(p.k,cn S.N p.st.g p.az))=some (.p .idxStr,some [.v (.str a),.v (.int k b)]):=by kernel_rfl):Le (((kf a b).bind f).bind e) (cF S c Q cf):=by
 have⟨p,u,d⟩:=gx B;simp at d;refine uB u ?_ h;rw[d.1];exact Le.of_eq (N1 d.2)
section
variable{A:α->Zu}{E:δ->Zu}{pl:α->bt δ}{fn:Zk}{sc:Zl}
theorem vm(n:Nat)(F:kz S c fn A E pl sc)(z:α){f:δ->bt γ}(h:∀x,pl z=some x->Le ((f x).bind e) (cF S c Q (nx S c n cf λp=>dy p.st p.d (.v (result (E x))))))
 (B:(iD S c n cf).map (λp=>(p.k,(cn S.N p.st.g p.az).bind n_,(!p.dr||p.now||gb p.st.m p.fr [])))=some (.c,some (fn,(A z).map .v),true):=by kernel_rfl):Le (((pl z).bind f).bind e) (cF S c Q cf):=by
 have⟨p,C,b⟩:=gx B;simp at b;have⟨D,G,O⟩:=b;have⟨I,g1,g2⟩:=ζg.1 G;have u:∀d(w:Zu),SV.dD d (w.map .v)=false:=λd w=>by induction w with|nil=>rfl|cons a l J=>simp[SV.dD,SV.c6,J]
 have L:(!p.dr||p.now||gb p.st.m p.fr ((A z).map .v))=true:=by have:gb p.st.m p.fr ((A z).map .v)=gb p.st.m p.fr []:=(by unfold gb;simp[u];rfl);grind
 refine uB C ?_ h;rw[D];exact EP (F.h z) F.k g1 g2 (Fx _ _ _) L (λr=>by rw[qC];simp)
theorem RQ(n:Nat)(F:kz S c fn A E pl true)(z:α){f:δ->bt γ}(h:∀x,pl z=some x->Le ((f x).bind e) (cF S c Q (nx S c n cf λp=>dy p.st p.d (.v (result (E x))))))
 (B:(iD S c n cf).map (λp=>(p.k,((cn S.N p.st.g p.az).bind n_).bind λq=>(nG (iQ p.st.m 8) q.2).map λvs=>(q.1,vs,((!p.dr||p.now)||gb p.st.m p.fr q.2))))=some (.c,some (fn,A z,true)):=by kernel_rfl):Le (((pl z).bind f).bind e) (cF S c Q cf):=by
 have⟨p,u,a⟩:=gx B;simp at a;have⟨w,C⟩:=a;have⟨q,g1,g2⟩:=ζg.1 C;have⟨D,g3,g4⟩:=ζg.1 g1;have⟨vs,g5,g6⟩:=ζf.1 g2;simp only[ζc]at g6;obtain⟨e1,rfl,e3⟩:=g6;refine uB u ?_ h;rw[w];exact EP (F.h z) F.k g3 Zd g5 e3 (λr=>by rw[F.s rfl];rfl)
end
section
variable{N:Nat}[bF α]
theorem OW(n:Nat)(k:Zs){a:cB N α}{i:Int}{f:α->bt γ}(h:∀x,a.at i=some x->Le ((f x).bind e) (cF S c Q (nx S c n cf λp=>dy p.st p.d (.v (.fptr (pa a i))))))
 (B:(iD S c n cf).map (λp=>(p.k,cn S.N p.st.g p.az))=some (.p (.idxA N (bF.size α)),some [cp a,.v (.int k i)]):=by kernel_rfl):Le (((a.at i).bind f).bind e) (cF S c Q cf):=by
 have⟨p,u,b⟩:=gx B;simp at b;have⟨g,z⟩:=jw u;have⟨dr,fr,d,gd,now,C,az,dd,l,fs,st⟩:=p;obtain⟨rfl,D⟩:=b;exact SL n dr fr (⟨d,gd,now,.p (.idxA N (bF.size α)),az,dd,[]⟩::l) fs st k rfl Zd λx w=>by have:=h x w;simp only[nx,u]at this;omega
theorem MU(n k:Nat)(a:cB N α)(i:Int)(o:Nat)(x:α)(B:a.at i=some x){m:bt β}(h:Le m (cF S c Q (nx S c n cf λp=>dy p.st p.d (.v (.fptr ((pa a i).drop (o+k)))))))
 (D:(iD S c n cf).map (λp=>(p.k,cn S.N p.st.g p.az,ble (o+k) (bF.size α)))=some (.p (.fieldAddr k),some [.v (.fptr ((pa a i).drop o))],true):=by kernel_rfl):Le m (cF S c Q cf):=by
 have⟨p,u,b⟩:=gx D;simp at b;have⟨e,w⟩:=jw u;have⟨dr,fr,d,gd,now,z,az,dd,l,fs,st⟩:=p;obtain⟨rfl,C,G⟩:=b;exact Ul n dr fr (⟨d,gd,now,.p (.fieldAddr k),az,dd,[]⟩::l) fs st a i o x B rfl Zd (by
  simp only[nx,u]at h;omega)
theorem Oj(n b:Nat)(ag:Zl)(a:cB N α)(i:Int)(o:Nat)(x:α)(B:a.at i=some x)(v:V)(e:(cut (cells x) o b).bind (mk ag)=some v){m:bt β}(h:Le m (cF S c Q (nx S c n cf λp=>dy p.st p.d (.v v))))
 (D:(iD S c n cf).map (λp=>(p.k,cn S.N p.st.g p.az))=some (.r (.load b ag),some [.v (.fptr ((pa a i).drop o))]):=by kernel_rfl):Le m (cF S c Q cf):=by
 have⟨p,w,u⟩:=gx D;simp at u;have⟨f,z⟩:=jw w;have⟨dr,fr,d,gd,now,C,az,dd,l,fs,st⟩:=p;obtain⟨rfl,G⟩:=u;exact Tj n dr fr (⟨d,gd,now,.r (.load b ag),az,dd,[]⟩::l) fs st a i o x B e v rfl Zd (by
  simp only[nx,w]at h;omega)
theorem Rk(n u:Nat)(st:St)(cs:Zw){m:bt β}(B:st.new u=true)(h:Le m (cF S c Q (nx S c n cf λ_=>{st with g:=bR st.g u (.ptr u 0),m:=bR st.m u (.box cs)})))
 (D:(iD S c n cf).map (λp=>(p.d,(Rm p.k).map (λz=>z.map SV.v),cn S.N p.st.g p.az,p.st))=some (some u,some cs,some [],st):=by kernel_rfl):Le m (cF S c Q cf):=by
 have⟨p,C,a⟩:=gx D;simp only[ζc]at a;have⟨z,G,w⟩:=gx a.2.1;have⟨k,b⟩:=Rw G;refine AP C ?_ h;rw[a.1,b,B0,a.2.2.1,a.2.2.2];simp[B,o9,w]
theorem Eh(n:Nat)(k:Zs)(u:Nat){a:cB N α}{i:Int}{f:α->bt γ}(h:∀x,a.at i=some x->Le ((f x).bind e) (cF S c Q (nx S c n cf λp=>dy p.st p.d (.ptr u (i.toNat*bF.size α+0)))))
 (B:(iD S c n cf).map (λp=>(p.k,cn S.N p.st.g p.az,bB p.st.m u))=some (.p (.idxA N (bF.size α)),some [.ptr u 0,.v (.int k i)],some (bx a)):=by kernel_rfl):Le (((a.at i).bind f).bind e) (cF S c Q cf):=by
 have⟨p,w,b⟩:=gx B;simp at b;have⟨g,C⟩:=jw w;have⟨dr,fr,d,gd,now,D,az,dd,l,fs,st⟩:=p;obtain⟨rfl,G,I⟩:=b;exact S7 n dr fr (⟨d,gd,now,.p (.idxA N (bF.size α)),az,dd,[]⟩::l) fs st k u rfl Zd λx z=>by have:=h x z;simp only[nx,w]at this;omega
theorem O2(n b:Nat)(ag:Zl)(u:Nat)(a:cB N α)(i:Int)(o:Nat)(x:α)(B:a.at i=some x)(v:V)(e:(cut (cells x) o b).bind (mk ag)=some v){m:bt β}(h:Le m (cF S c Q (nx S c n cf λp=>dy p.st p.d (.v v))))
 (D:(iD S c n cf).map (λp=>(p.k,cn S.N p.st.g p.az,bB p.st.m u,(!p.dr||p.now||eW p.fr [.ptr u 0])))=some (.r (.load b ag),some [.ptr u (i.toNat*bF.size α+o)],some (bx a),true):=by kernel_rfl):Le m (cF S c Q cf):=by
 have⟨p,z,w⟩:=gx D;simp at w;have⟨f,C⟩:=jw z;have⟨dr,fr,d,gd,now,G,az,dd,l,fs,st⟩:=p;obtain⟨rfl,I,J,L⟩:=w;exact Tk n dr fr (⟨d,gd,now,.r (.load b ag),az,dd,[]⟩::l) fs st u a i o x B e v rfl Zd (by
  simp only[nx,z]at h;omega)
end
section
variable{κ ν:Type}[bF κ][DecidableEq κ][Key κ][bF ν]
theorem OH(n u:Nat)(mp:Mo κ ν)(k:κ)(z:ν){m:bt β}(h:Le m (cF S c Q (nx S c n cf λp=>dy p.st p.d (cv (rm mp k z)))))
 (B:(iD S c n cf).map (λp=>(p.k,cn S.N p.st.g p.az,bB p.st.m u,(!p.dr||p.now||eW p.fr [.mp u,cv k])))=some (.r (.lookup (Key.kk κ) (enc z) false),some [.mp u,cv k],some (pW mp),true):=by kernel_rfl):Le m (cF S c Q cf):=by
 have⟨p,w,a⟩:=gx B;simp at a;have⟨b,C⟩:=jw w;have⟨dr,fr,d,gd,now,D,az,dd,l,fs,st⟩:=p;obtain⟨rfl,G,I,J⟩:=a;exact SM n dr fr (⟨d,gd,now,.r (.lookup (Key.kk κ) (enc z) false),az,dd,[]⟩::l) fs st u mp k z rfl Zd (by
  simp only[nx,w]at h;omega)
theorem RU(n u:Nat)(mp:Mo κ ν)(k:κ)(v:ν){m:bt β}(h:Le m (cF S c Q (nx S c n cf λp=>dy {p.st with m:=bR p.st.m u (pW (mG mp k v))} p.d (.v .undef))))
 (B:(iD S c n cf).map (λp=>(p.k,cn S.N p.st.g p.az,bB p.st.m u,(!p.dr||p.now)))=some (.l (.mapUp (Key.kk κ)),some [.mp u,cv k,cv v],some (pW mp),true):=by kernel_rfl):Le m (cF S c Q cf):=by
 have⟨p,z,w⟩:=gx B;simp at w;have⟨a,C⟩:=jw z;have⟨dr,fr,d,gd,now,D,az,dd,l,fs,st⟩:=p;obtain⟨rfl,G,I,J⟩:=w;exact Ub n dr fr (⟨d,gd,now,.l (.mapUp (Key.kk κ)),az,dd,[]⟩::l) fs st u mp k v rfl Zd (by
  simp[nx,z]at h;omega)
end
theorem SX(n:Nat)(st:St){rs:a_ RV}{e:γ->bt Zu}{r:γ}(svs:Zw){ys:Zu}(B:nG (iQ st.m 8) svs=some ys)(D:e r=some ys)
 (h:(gR S c n cf.1 cf.2.1 cf.2.2).map (λq=>(q.1,q.2.2,kj q.2.2 rs))=some (.rt,st,some svs):=by kernel_rfl):Le ((some r).bind e) (cF S c (qB rs) cf):=by
 have⟨⟨fo,fs,st'⟩,u,a⟩:=gx h;simp at a;obtain⟨rfl,rfl,w⟩:=a;exact S9 n svs B (by rw[u,w]) D
end
end Go.VE
namespace Go.VE
variable[bV]
section
variable{S:Sys}{c:cg}{β γ δ α:Type}[bF α]{Q:Out×St->bt β}{e:γ->bt β}{cf:Cf}
def tG(s x:Sl α):bt (Sl α):=if x.l=[]then some s else if s.l.length+x.l.length<=2147483648 then some (.row (s.l++x.l))else none
theorem P9(m:Tb bN)(n w:Nat)(x:Sl α)(B:n=bF.size α)(D:bB m w=some (cU x)):iM m n (.own w)=some (rows x.l):=by rw[CY,D,zq n x B]
theorem Gm(l:a_ α):rows l=[]↔l=[]:=by unfold rows;simp
theorem Nd(a b:a_ α):rows a++rows b=rows (a++b):=by unfold rows;simp
theorem E_(a:a_ α):(rows a).length=a.length:=by unfold rows;simp
theorem RR{st:St}{dr now:Zl}{fr:Zv}{az:Z4}{d n o:Nat}{s x:Sl α}{B:SV}(O:cn S.N st.g az=some [.own o,B])(U:(!dr||now)=true)(D:bB st.m o=some (cU s))(W:iM st.m n B=some (rows x.l))(G:n=bF.size α)(J:St.new {st with m:=dY o st.m} d=true):
 fq S c dr fr ⟨some d,none,now,.l (.append n),az,[],[]⟩ st=(tG s x).bind λY=>some {st with g:=bR st.g d (.own d),m:=bR (dY o st.m) d (cU Y)}:=by
 rw[vg,O];simp only[ζb,U,if_true,ye,P9 st.m n o s G D,W];unfold tG
 by_cases h:x.l=[]
 .rw[if_pos h,(Gm x.l).2 h];simp only[wY,D,if_pos J,ζb];rfl
 rw[if_neg h];have a:rows x.l≠[]:=λe=>h ((Gm _).1 e)
 have w:wY st d n (.own o) (some (rows s.l)) (some (rows x.l))=if(rows s.l).length+(rows x.l).length<=2147483648/\ED (.own o)=true then(if St.new {st with m:=giveUp st.m (.own o)} d then some (.own d,{st with m:=bR (giveUp st.m (.own o)) d (.sl .row n (rows s.l++rows x.l))})else none)else none:=by unfold wY;generalize rows x.l=r at *;cases r with|nil=>exact absurd rfl a|cons y r=>rfl
 rw[w,E_,E_,Nd]
 by_cases u:s.l.length+x.l.length<=2147483648
 .rw[if_pos ⟨u,rfl⟩,if_pos (show St.new {st with m:=giveUp st.m (.own o)} d=true from J),if_pos u];rw[ζb,ζb,G];rfl
 rw[if_neg (λk=>u k.1),if_neg u];rfl
theorem Ts(n o u:Nat)(D:SV){s x:Sl α}{f:Sl α->bt γ}(G:∀p,iD S c n cf=some p->iM p.st.m (bF.size α) D=some (rows x.l))
 (h:∀B,tG s x=some B->Le ((f B).bind e) (cF S c Q (nx S c n cf λp=>{p.st with g:=bR p.st.g u (.own u),m:=bR (dY o p.st.m) u (cU B)})))
 (J:(iD S c n cf).map (λp=>(p.d,p.k,cn S.N p.st.g p.az,(!p.dr||p.now),bB p.st.m o,St.new {p.st with m:=dY o p.st.m} u))=some (some u,.l (.append (bF.size α)),some [.own o,D],true,some (cU s),true):=by kernel_rfl):Le (((tG s x).bind f).bind e) (cF S c Q cf):=by
 have⟨p,w,a⟩:=gx J;simp only[ζc]at a;refine uB w ?_ h;rw[a.1,a.2.1];exact Le.of_eq (RR a.2.2.1 a.2.2.2.1 a.2.2.2.2.1 (G p w) rfl a.2.2.2.2.2)
theorem Iq(m:Tb bN)(x:Sl α):iM m (bF.size α) (.v (cr x))=some (rows x.l):=by cases x<;>simp[cr,Sl.k,Sl.l,nQ,iM,rows]
theorem J9(n o u:Nat){s x:Sl α}{f:Sl α->bt γ}
 (h:∀B,tG s x=some B->Le ((f B).bind e) (cF S c Q (nx S c n cf λp=>{p.st with g:=bR p.st.g u (.own u),m:=bR (dY o p.st.m) u (cU B)})))
 (D:(iD S c n cf).map (λp=>(p.d,p.k,cn S.N p.st.g p.az,(!p.dr||p.now),bB p.st.m o,St.new {p.st with m:=dY o p.st.m} u))=some (some u,.l (.append (bF.size α)),some [.own o,.v (cr x)],true,some (cU s),true):=by kernel_rfl):Le (((tG s x).bind f).bind e) (cF S c Q cf):=
 Ts n o u _ (λp _=>Iq p.st.m x) h D
end
theorem ql{α:Type}{l:a_ α}{i:Nat}{x:α}(h:l[i]?=some x):l.set i x=l:=by obtain⟨u,rfl⟩:=ζe.1 h;exact List.set_getElem_self u
open Classical in
def Az(E:Env)(g:Zk)(cb:Zu)(a b:V):bt V:=if h:∃n y,bY (run E n) g (a::b::cb) []=some y then some (Classical.choose (choose_spec h))else none
theorem CK{E:Env}{g:Zk}{cb:Zu}{a b y:V}(h:Az E g cb a b=some y):∃n,∀k,n<=k->bY (run E k) g (a::b::cb) []=some y:=by
 unfold Az at h;split at h;next c=>cases h;exact⟨_,λk d=>mV (mN E d) (choose_spec (choose_spec c))⟩
 cases h
theorem Hz{E:Env}{g:Zk}{cb:Zu}{a b y:V}{n:Nat}(h:bY (run E n) g (a::b::cb) []=some y):Az E g cb a b=some y:=by have d:∃n y,bY (run E n) g (a::b::cb) []=some y:=⟨n,y,h⟩;cases c:Az E g cb a b with|none=>unfold Az at c;rw[dif_pos d]at c;cases c|some z=>have⟨m,u⟩:=CK c;have:=u _ (Nat.le_max_right n m);rw[mV (mN E (Nat.le_max_left n m)) h]at this;cases this;rfl
theorem CE{n:Nat}{p:_root_.Fin n->Nat->Prop}(h:∀i,∃N,∀k,N<=k->p i k):∃N,∀i k,N<=k->p i k:=by induction n with|zero=>exact⟨0,λi=>i.elim0⟩|succ n u=>have⟨N,w⟩:=u (p:=λi=>p i.succ) λi=>h i.succ;have⟨M,z⟩:=h 0;refine⟨max N M,λi k a=>?_⟩;refine _root_.Fin.cases (z k Za) (λj=>w j k Za) i
def iW(x:Zu):V:=x.headD .undef
def sP(es:Nat)(xs:Zt):Zl:=es==1&&xs.all (λx=>x.length==1&&x.all V.one)&&decide (xs.length<=2147483648)
theorem wP{es:Nat}{xs:Zt}(h:sP es xs=true):es=1/\xs.length<=2147483648/\∀(i:Nat)x,xs[i]?=some x->x=[iW x]/\(iW x).one=true:=by unfold sP at h;simp only[ζh,beq_iff_eq,all_eq_true,decide_eq_true_eq]at h;refine⟨h.1.1,h.2,λi x w=>?_⟩;have⟨a,z⟩:=h.1.2 x (mem_of_getElem? w);obtain⟨u,rfl⟩:=List.length_eq_one_iff.1 a;exact⟨rfl,z u Zc⟩
section
variable{H:bC}{Z:Nat->Prop}
theorem dn.Hq{k:Nat}{xs ys:Zu}(h:dn H Z xs ys)(B:V.kq k xs=true):borrows k H ys=some xs:=jO h.1 λj u v a b=>(h.2 j u v a b).borrow k (lq.1 B j u a)
theorem dn.borrows{xs ys:Zu}(h:dn H Z xs ys):∃n,∀k,n<=k->borrows k H ys=some xs:=by have⟨n,u⟩:=kT xs;exact⟨n,λk a=>h.Hq (nW a u)⟩
theorem LG{es:Nat}{xs:Zt}(h:sP es xs=true){rs:Zt}(B:fR H Z xs rs):dn H Z (xs.map iW) rs.flatten:=by induction xs generalizing rs with|nil=>have:=B.1;simp at this;have:rs=[]:=List.eq_nil_of_length_eq_zero (by simpa using this.symm);subst this;exact .nil|cons x xs D=>have⟨d,L,G⟩:=wP h;cases rs with|nil=>have:=B.1;simp at this|cons r rs=>have⟨e,_⟩:=G 0 x rfl;have C:=B.2 0 x r rfl rfl;rw[e]at C;obtain⟨u,O,rfl,c,w⟩:=C.inv;rw[w.c8];have z:sP es xs=true:=(by unfold sP at h⊢;simp only[all_cons,ζh,length_cons,decide_eq_true_eq]at h⊢;exact⟨⟨h.1.1,h.1.2.2⟩,Za⟩);exact .cons c (D z (rs:=rs) ⟨by have:=B.1;simpa using this,λj a b I J=>B.2 (j+1) a b I J⟩)
end
def rR(E:Env)(g:Zk)(cb:Zu)(a b:V):Z6:=match Az E g cb a b with|some (.int .i64 c)=>some c|_=>none
theorem Ml{E:Env}{g:Zk}{cb:Zu}{a b:V}{c:Int}(h:rR E g cb a b=some c):∃n,∀k,n<=k->bY (run E k) g (a::b::cb) []=some (.int .i64 c):=by
 unfold rR at h;split at h;next c' d=>cases h;exact CK d
 cases h
def xI(E:Env)(es:Nat)(xs:Zt):Zu->bt Zt
 |[.clo g [] cb]=>match xs with
  |[]=>some []|x::l=>if sP es (x::l)&& !E.keep g then
   let t:_root_.Fin (l.length+1)->_root_.Fin (l.length+1)->Z6:=λi j=>rR E g cb (iW (((x::l)[i.1]?).getD [])) (iW (((x::l)[j.1]?).getD []))
   if zQ t then some ((pO l.length (oC t)).toList.map λi=>((x::l)[i.1]?).getD [])else none
   else none
 |_=>none
def rS(E:Env):De:=⟨false,xI E⟩
theorem Cm{n:Nat}{lt:_root_.Fin (n+1)->_root_.Fin (n+1)->Zl}(h:Sort.SWO lt):(pO n lt).size=n+1:=by rw[AJ];have:=(Sort.pdq_sorts lt h (List.finRange (n+1)).toArray 0 (n+1) (Lib.bitLen (n+1)) true true (zero_le _) Zc (Or.inl rfl)).1.1;simpa using this
theorem NW{E:Env}{f:Zk}(m:E.keep f=true)(ho:E.own f=false)(F:E.sort f=true)(K:E.ft f=none):nN E f (rS E)where
 keep:=m
 own:=ho
 le:=by intro es xs vs ys h;simp only[rS,xI]at h;split at h;split at h;cases h;exact⟨le_refl _,λ_=>rfl⟩;split at h;split at h;(next q=>cases h;have:=Cm (pP q).2;simp only[length_map,Array.length_toList,length_cons,this];exact⟨le_refl _,λ_=>trivial⟩);cases h;cases h;cases h
 none:=by intro es vs ys h H Z ws w M he;simp only[rS,xI]at h;split at h;obtain⟨V,r,rfl,h1,P⟩:=M.inv;rw[P.c8];refine⟨1,[],λk m=>?_⟩;(cases k with|zero=>omega|succ k=>rcases he with rfl|rfl<;>simp[run,jv,K,F,pK,rS]);cases h
 row:=by
  intro es xs vs ys h H Z ws id off rs M O C I z hz;simp only[rS,xI]at h;split at h;rename_i g cb;obtain⟨V,r,rfl,h1,P⟩:=M.inv;rw[P.c8];obtain⟨a',J,rfl,s,aa⟩:∃a' J,V=.clo g a' J/\dn H Z [] a'/\dn H Z cb J:=h1.jD;rw[s.c8]at *;split at h;cases h;refine⟨1,rs,[],λk m=>?_,rfl,⟨rfl,λj u v o=>by simp at o⟩,z⟩;cases k with|zero=>omega|succ k=>have:H.set id (.row es rs)=H:=ql O;simp[run,jv,K,F,pK,rS,this]
  rename_i x l;split at h;rename_i D;simp only[ζh,Bool.not_eq_true']at D;obtain⟨c1,c3⟩:=D;obtain⟨rfl,Q,ae⟩:=wP c1;split at h;rename_i q;cases h;obtain⟨G,S⟩:=pP q;have B:∀i,Z i->Z i/\bD (H.set id .dead) i=bD H i:=λi t=>⟨t,by unfold bD;rw[getElem?_set_ne];rintro rfl;exact hz t⟩;have T:=I.mono B;obtain⟨M1,U⟩:=(LG c1 T).borrows;simp only[length_cons]at U;obtain⟨M2,W⟩:=(aa.mono B).borrows;obtain⟨N,R⟩:=CE (p:=λi k=>∀j:_root_.Fin (l.length+1),bY (run E k) g (iW (((x::l)[i.1]?).getD [])::iW (((x::l)[j.1]?).getD [])::cb) []=some (.int .i64 ((rR E g cb (iW (((x::l)[i.1]?).getD [])) (iW (((x::l)[j.1]?).getD []))).getD 0))) (λi=>by
   obtain⟨N,R⟩:=CE (p:=λ(j:_root_.Fin (l.length+1))k=>bY (run E k) g (iW (((x::l)[i.1]?).getD [])::iW (((x::l)[j.1]?).getD [])::cb) []=some (.int .i64 ((rR E g cb (iW (((x::l)[i.1]?).getD [])) (iW (((x::l)[j.1]?).getD []))).getD 0))) (λj=>by
    obtain⟨c,d⟩:=G i j;obtain⟨n,hn⟩:=Ml d;exact⟨n,λk m=>by rw[hn k m,d];rfl⟩)
   exact⟨N,λk m j=>R j k m⟩)
  have X:∀k,N<=k->iG (run E k) g ((x::l).map iW) cb l.length=λi j=>rR E g cb (iW (((x::l)[i.1]?).getD [])) (iW (((x::l)[j.1]?).getD [])):=λk m=>by funext i j;obtain⟨c,d⟩:=G i j;have e1:∀i:_root_.Fin (l.length+1),((x::l).map iW)[i.1]?=some (iW (((x::l)[i.1]?).getD [])):=λi=>(by have:i.1<(x::l).length:=i.2;rw[getElem?_map,ζd this];rfl);unfold iG;rw[e1 i,e1 j];simp only[R i k m j];rw[d];rfl
  have ab:=Cm S;generalize hL:(pO l.length (oC λi j:_root_.Fin (l.length+1)=>rR E g cb (iW (((x::l)[i.1]?).getD [])) (iW (((x::l)[j.1]?).getD [])))).toList=L at *;have ad:L.length=l.length+1:=by rw[<-hL];simpa using ab
  simp only[length_cons]at C I Q;refine⟨max N (max M1 M2)+1,qf rs off l.length L,[],λk m=>?_,?_,?_,?_⟩;cases k with|zero=>omega|succ k=>simp only[run,jv,K,F,if_true,pK,O,rS,false_eq_true,if_false,length_cons];rw[if_pos ⟨trivial,trivial,C,Za,c3⟩,show(run E k).lv=k from mW E k,U k Za,W k Za];simp only[X k Za,q,if_true,hL,append_nil]
  simp[qf,ad];omega;have e:((qf rs off l.length L).drop off).take (L.map λi=>((x::l)[i.1]?).getD []).length=L.map λi=>(rs[off+i.1]?).getD []:=by unfold qf;have h0:(rs.take off).length=off:=(by simp;omega);rw[append_assoc,List.drop_append_of_le_length Za,List.drop_eq_nil_of_le Za,nil_append,length_map,List.take_append_of_le_length Zc,take_of_length_le Zc]
  rw[e];refine⟨Zc,λj a b s y=>?_⟩;rw[getElem?_map]at s y;obtain⟨i,t,rfl⟩:=ζf.1 s;rw[t]at y;simp only[map_some,ζa]at y;subst y;have Y:i.1<(x::l).length:=i.2;have A:off+i.1<rs.length:=by have:=i.2;omega
  refine I.2 i.1 _ _ (by rw[ζd Y];rfl) ?_;rw[getElem?_take,if_pos i.2,getElem?_drop,ζd A];rfl;intro c d u o;unfold qf at d;rcases mem_append.1 d with d|d;rcases mem_append.1 d with d|d;exact z c (List.mem_of_mem_take d) u o;obtain⟨i,_,rfl⟩:=mem_map.1 d;have A:off+i.1<rs.length:=by have:=i.2;omega
  rw[ζd A]at o;exact z _ (getElem_mem A) u o;exact z c (List.mem_of_mem_drop d) u o;cases h;cases h;cases h
def dS(N:Nat->Zk)(F:Zo):Arg->V
 |.s n=>get F n|.k c=>c|.f s=>.clo (N s) [] []
def f_(E:Env)(N:Nat->Zk)(call:dw)(b:bt Nat)(now:Zl)(k:K)(vs:Zu)(H:bC):bt (V×bC):=
 match k,b with
 |.p p,_=>(bO N p vs).map λv=>(v,H)|.r r,none=>(dZ H r vs).map λv=>(v,H)|.r r,some b=>(dZ (H.take b) r vs).map λv=>(v,H)|.a a,none=>(iF a vs).map λx=>(x.2.val H.length,H++[x.1])|.l l,none=>eU H l vs|.l (.store n),some _=>if now then eU H (.store n) vs else none|.c,none=>match vs with
  |.clo g a c::u=>if E.keep g then eX E call g (a++u++c) H else match bY call g (a++u++c) H with
   |some y=>if y.scalar then some (y,H)else none|none=>none
  |_=>none
 |.c,some b=>match vs with
  |.clo g a c::u=>if E.keep g then none else match bY call g (a++u++c) (H.take b)with
   |some y=>if y.scalar then some (y,H)else none|none=>none
  |_=>none
 |_,_=>none
def gj(F:Zo):bt Nat->V->Zo
 |none,_=>F|some d,v=>set F d v
def cw(E:Env)(N:Nat->Zk)(call:dw)(b:bt Nat):Zx->Zo->bC->bt (Zo×bC)
 |[],F,H=>some (F,H)|o::r,F,H=>match o.gd with
  |none=>match f_ E N call b o.now o.k (o.az.map (dS N F)) H with
   |some (v,H')=>cw E N call b r (gj F o.dst v) H'|none=>none
  |some _=>none
section
variable{X:CX}{N:Nat->Zk}{call:dw}{F F':Zo}{H H':bC}
theorem HI(B:∀f s,X.nm f=some s->N s=f){o:Zr}{x:Arg}(h:oq X.nm o=some x):ev F o=some (dS N F x):=by cases o with|tmp t=>simp[oq]at h;subst h;rfl|const w=>simp[oq]at h;split at h;rename_i c a;split at h;simp at h;subst h;exact a;grind;grind|func f=>obtain⟨s,u,rfl⟩:=ζf.1 h;show some (V.clo f [] [])=some (.clo (N s) [] []);grind|global i=>simp[oq]at h;split at h;rename_i c a;split at h;simp at h;subst h;simp[ev,a];rfl;grind;grind
theorem uF(G:∀f s,X.nm f=some s->N s=f):∀{os:a_ Zr}{B:Z4},os.mapM (oq X.nm)=some B->fu F os=some (B.map (dS N F))
 |[],B,h=>by simp at h;subst h;rfl|o::os,B,h=>by simp[ζg]at h;obtain⟨x,J,xs,D,rfl⟩:=h;simp[fu,HI G J,uF G D]
theorem yR(D:∀f s,X.nm f=some s->N s=f){B:Zl}{ops:Zz}{i:Nat}{o:Oper}{ro:RO}(h:lF X B ops i o=some ro)(g:ro.gd=none):
 o.dst=ro.dst/\xz X.nt o.dst=true/\fD ops F o=true/\((zL X.E N F o.op (ro.az.map (dS N F)) ro.k/\ro.now=(B&&dJ ops i)/\(B=true->dJ ops i=false->∀a',ow ops i a'=[]\/∀t,o.op≠.load t (.tmp a')))\/(∃n,ro.k=.l (.storeF n))\/(∃n a,ro.k=.r (.loadF n a))\/(B=true/\Be X.E ops i=true/\cO o.op=.alloc/\(∃p,ro.k=.p p/\(p=.emptyC\/(∃a b,p=.makeC a b)\/∃a b c d,p=.buildC a b c d)/\∀y,bO N p (ro.az.map (dS N F))=some y->oA X.E F o.op=some y))\/∃n,ro.k=.e n):=by
 unfold lF at h;split at h
 .rename_i C;have C:=(Bool.and_eq_true_iff.1 C).1;split at h
  .rename_i gd k os u hr;split at h
   .split at h
    .rename_i z;simp only[ζh]at z;have O:∀{gd:bt (Nat×Zl)},AG ops o=some gd->gd=none->fD ops F o=true:=λ{gd}u g=>by
      subst g;unfold fD;unfold AG at u
      cases I:o.guard with
      |none=>rfl|some Q=>rw[I]at u;have⟨j,b⟩:=Q;have⟨d,_,e⟩:=ζf.1 u;cases e
     split at h
     next S=>obtain⟨T,G,rfl⟩:=ζf.1 h;have w:=iO D hr (uF (F:=F) D G);exact⟨rfl,C,O u g,.inr (.inr (.inr (.inl ⟨z.1,z.2,w.1,_,rfl,.inr (.inl ⟨_,_,rfl⟩),λy J=>Bz ⟨_,_,_,by assumption⟩ w J⟩)))⟩
     .rename_i S;split at h
      next U=>obtain⟨W,rfl,rfl⟩:=U;obtain⟨T,G,rfl⟩:=ζf.1 h;have w:=iO D hr (uF (F:=F) D G);exact⟨rfl,C,O u g,.inr (.inr (.inr (.inl ⟨z.1,z.2,w.1,_,rfl,.inl rfl,λy J=>B9 ⟨_,_,_,by assumption⟩ w W J⟩)))⟩
      obtain⟨T,G,rfl⟩:=ζf.1 h;have w:=iO D hr (uF (F:=F) D G);exact⟨rfl,C,O u g,.inr (.inr (.inr (.inl ⟨z.1,z.2,w.1,_,rfl,.inr (.inr ⟨_,_,_,_,rfl⟩),λy J=>Bi ⟨_,_,_,by assumption⟩ w J⟩)))⟩
     cases h
    obtain⟨T,G,rfl⟩:=ζf.1 h;simp only at g;subst g;refine⟨rfl,C,?_,?_⟩
    .unfold fD;unfold AG at u
     cases I:o.guard with
     |none=>rfl|some Q=>rw[I]at u;have⟨j,b⟩:=Q;have⟨d,_,e⟩:=ζf.1 u;cases e
    rcases By B ops i k os with⟨e,Y⟩|⟨_,_,n,a,l,Z,_,_,_,e⟩|⟨_,_,n,ag,a,_,_,e⟩|⟨_,_,_,n,_,e⟩
    .rw[e]at G⊢;refine .inl ⟨iO D hr (uF D G),rfl,λC m a'=>?_⟩
     by_cases L:∃t,o.op=.load t (.tmp a')
     .have⟨t,L⟩:=L;rw[L]at hr;simp only[resolve]at hr;have⟨d,_,e⟩:=ζf.1 hr;simp only[ζc]at e;exact .inl (Y _ _ a' C m e.1.symm e.2.symm)
     exact .inr λt h=>L ⟨t,h⟩
    .rw[e];exact .inr (.inl ⟨n,rfl⟩)
    .rw[e];exact .inr (.inr (.inl ⟨n,ag,rfl⟩))
    rw[e];exact .inr (.inr (.inr (.inr ⟨n,rfl⟩)))
   simp at h
  simp at h
 simp at h
theorem EB{a:Nat}{dst:bt Nat}(h:xz a dst=true)(v:V):jB a F dst v=some (gj F dst v):=by cases dst with|none=>rfl|some d=>simp[xz]at h;simp[jB,if_pos h,gj]
theorem R3(J:∀f s,X.nm f=some s->N s=f){ops:Zz}{i:Nat}{o:Oper}{ro:RO}(h:lF X false ops i o=some ro)(q:ro.gd=none){v:V}(d:f_ X.E N call none ro.now ro.k (ro.az.map (dS N F)) H=some (v,H')):
 fW X.E call X.nt ops none o F H=some (gj F ro.dst v,H'):=by
 have⟨j,I,L,u⟩:=yR (F:=F) J h q;have O:cW X.E call ops none F H o.op=some (v,H'):=by
  rcases u with⟨u,_⟩|⟨n,u⟩|⟨n,a,u⟩|⟨u,_⟩|⟨n,u⟩;generalize t:ro.k=k at d u;generalize ro.az.map (dS N F)=W at d u;unfold cW;cases k with|p p=>have⟨c,e⟩:=u;have⟨w,B,C⟩:=ζf.1 d;rw[c];simp only[w6 (e w B),map_some];rw[C]|r r=>have⟨c,e⟩:=u;have⟨w,B,C⟩:=ζf.1 d;rw[c];simp only[e H w B,map_some];rw[C]|a a=>have⟨c,e⟩:=u;have⟨⟨ob,m⟩,B,C⟩:=ζf.1 d;rw[c];simp only[mF,false_eq_true,if_false,e _ B];exact congrArg some C|l l=>have⟨c,e⟩:=u;rw[c];exact e H _ d|e n=>exact u.elim|b=>simp[f_]at d|c=>obtain⟨c,f,Q,rfl,e⟩:=u;rw[c];simp only[f_]at d;split at d;rename_i g a b S D;simp only[List.cons.injEq]at D;obtain⟨rfl,rfl⟩:=D;split at d;(next z=>simp only[e,uH,dU,jZ,z,Bool.and_self,if_true];exact d);rename_i z;split at d;rename_i y T;split at d;(next G=>simp only[e,uH,dU,jZ,z,Bool.false_and,false_eq_true,if_false,T,G,if_true];exact d);simp at d;simp at d;simp at d
  .rw[u]at d;exfalso;have:∀ops i k os,(vD false ops i k os).1=k:=λ_ _ _ _=>rfl;unfold lF at h;simp only[Bool.false_and,false_eq_true,if_false,Bool.not_false,Bool.and_true]at h;split at h
   .split at h
    .rename_i gd k os U hr;split at h
     .obtain⟨Q,Y,rfl⟩:=ζf.1 h;simp only[this]at u;subst u;unfold resolve at hr;(repeat' split at hr)<;>first|(simp at hr;done)|(have⟨_,_,e⟩:=ζf.1 hr;simp at e;done)
     simp at h
    simp at h
   first|(simp at h;done)|contradiction
  rw[u]at d;simp[f_,dZ]at d;cases u;rw[u]at d;simp[f_]at d
 unfold fW;rw[L,if_pos rfl,O];simp only[j,EB (j▸I),map_some]
theorem Gn(D:∀f s,X.nm f=some s->N s=f){ops:Zz}:∀(rest:Zz){i:Nat}{B:Zx}{F:Zo}{H:bC},ki X false ops i rest=some B->cw X.E N call none B F H=some (F',H')->lu X.E call X.nt ops rest F H=some (F',H')
 |[],i,B,F,H,hc,h=>by simp[ki]at hc;subst hc;exact h|o::rest,i,B,F,H,hc,h=>by simp[ki]at hc;split at hc;rename_i ro rs a G;simp at hc;subst hc;simp[cw]at h;split at h;rename_i b;split at h;(next v H1 c=>simp[lu,R3 D a b c];exact Gn D rest G h);grind;grind;grind
theorem Pp{ops:Zz}{i:Nat}{op:Op}(h:∀t a',op=.load t (.tmp a')->ow ops i a'=[]):mS ops i F op=true:=by unfold mS;grind
theorem R6(Y:∀f s,X.nm f=some s->N s=f){ops:Zz}{b i:Nat}{o:Oper}(m:ops[i]?=some o){ro:RO}(h:lF X true ops i o=some ro)(q:ro.gd=none){v:V}(d:f_ X.E N call (some b) ro.now ro.k (ro.az.map (dS N F)) H=some (v,H')):
 fW X.E call X.nt ops (some (b,i)) o F H=some (gj F ro.dst v,H'):=by
 have⟨j,Z,x,u⟩:=yR (F:=F) Y h q;have A:cW X.E call ops (some (b,i)) F H o.op=some (v,H'):=by
  rcases u with⟨u,z,B⟩|⟨n,u⟩|⟨n,a,u⟩|⟨_,I,J,p,u,_,L⟩|⟨n,u⟩;generalize K:ro.k=k at d u;generalize ro.az.map (dS N F)=vs at d u;unfold cW
  cases k with
  |p p=>have⟨c,e⟩:=u;have⟨w,C,D⟩:=ζf.1 d;rw[c];simp only[w6 (e w C),map_some];rw[D]|r r=>have⟨c,e⟩:=u;have⟨w,C,D⟩:=ζf.1 d;have O:mS ops i F o.op=true:=Pp λt a' e=>(by by_cases U:dJ ops i=true;exact BP m e U;rcases B rfl (by simpa using U) a' with h|h;exact h;exact absurd e (h t));rw[c];simp only[e _ w C,O,if_true];rw[D]|a a=>simp[f_]at d|l l=>have⟨c,e⟩:=u;cases l with|store n=>simp only[f_]at d;split at d;(next W=>rw[z,Bool.true_and]at W;rw[c];simp only[W,Bool.true_or,if_true];exact e H _ d);simp at d|_=>simp[f_]at d
  |e n=>exact u.elim|b=>simp[f_]at d|c=>obtain⟨c,f,M,rfl,e⟩:=u;rw[c];simp only[f_]at d;split at d;rename_i g a b P G;simp only[List.cons.injEq]at G;obtain⟨rfl,rfl⟩:=G;split at d;simp at d;rename_i Q;split at d;rename_i y E;split at d;(next S=>simp only[e,uH,DR h rfl c,Bool.not_false,Bool.true_or,dU,jZ,Q,Bool.false_and,false_eq_true,if_false,E,S,if_true];exact d);simp at d;simp at d;simp at d
  rw[u]at d;simp[f_]at d;rw[u]at d;simp[f_,dZ]at d;rw[u]at d;have⟨w,C,D⟩:=ζf.1 d;have T:=L w C;unfold cW;rw[J];simp only[mF,I,if_true,T,map_some];exact congrArg some D;rw[u]at d;simp[f_]at d
 unfold fW;rw[x,if_pos rfl,A];simp only[j,EB (j▸Z),map_some]
theorem Gp(D:∀f s,X.nm f=some s->N s=f){ops:Zz}{b:Nat}:∀(rest:Zz){i:Nat}{B:Zx}{F:Zo}{H:bC},ops.drop i=rest->ki X true ops i rest=some B->cw X.E N call (some b) B F H=some (F',H')->
 jq X.E call X.nt ops b (range' i rest.length) F H=some (F',H')
 |[],i,B,F,H,_,hc,h=>by simp[ki]at hc;subst hc;exact h|o::rest,i,B,F,H,J,hc,h=>by simp[ki]at hc;split at hc;rename_i ro rs a O;simp at hc;subst hc;simp[cw]at h;split at h;rename_i c;split at h;rename_i v H1 d;have G:ops[i]?=some o:=(by have:(ops.drop i)[0]?=some o:=Zd;grind);have u:ops.drop (i+1)=rest:=(by rw[<-List.drop_drop,J];rfl);simp[List.range'_succ,jq,G,R6 D G a c d];exact Gp D rest u O h;grind;grind;grind
def wB(l:Zx):Zl:=l.all λo=>(match o.k with|.a _|.l (.storeF _)|.r (.loadF ..)|.p (.makeC ..)|.p (.buildC ..)|.p .emptyC|.e _=>false|_=>true)&&o.gd.isNone
theorem Bn(J:∀f s,X.nm f=some s->N s=f){ops:Zz}:∀(rest:Zz){i:Nat}{G:Zx},ki X true ops i rest=some G->wB G=true->rest.any (λo=>cO o.op==.alloc)=false
 |[],_,_,_,_=>rfl|o::rest,i,G,hc,D=>by simp only[ki]at hc;split at hc;rename_i ro rs c O;simp only[ζa]at hc;subst hc;simp only[wB,all_cons,ζh,Option.isNone_iff_eq_none]at D;have⟨_,_,_,B⟩:=yR (F:=[]) J c D.1.2;rw[List.any_cons,Bn J rest O D.2,Bool.or_false];rcases B with⟨B,_⟩|⟨n,B⟩|⟨n,a,B⟩|⟨_,_,_,p,B,u,_⟩|⟨n,B⟩;(cases b:ro.k with|a p=>have:=D.1.1;rw[b]at this;cases this|e p=>have:=D.1.1;rw[b]at this;cases this|_=>rw[b]at B;rw[B.1];rfl);have:=D.1.1;rw[B]at this;cases this;have:=D.1.1;rw[B]at this;cases this;have:=D.1.1;rw[B]at this;rcases u with rfl|⟨_,_,rfl⟩|⟨_,_,_,_,rfl⟩<;>cases this;have:=D.1.1;rw[B]at this;cases this;simp at hc
def gL(E:Env)(N:Nat->Zk)(call:dw)(lf:Nat):RC->Zo->bC->bt (Out×Zo×bC)
 |.skip,F,H=>some (.norm,F,H)|.ops l,F,H=>(cw E N call none l F H).map λx=>(.norm,x.1,x.2)|.oG l,F,H=>if wB l then(cw E N call (some H.length) l F H).map λx=>(.norm,x.1,x.2)else none|.seq a b,F,H=>match gL E N call lf a F H with
  |some (.norm,F',H')=>gL E N call lf b F' H'|r=>r
 |.cond x a b,F,H=>match dS N F x with
  |.bool t=>if t then gL E N call lf a F H else gL E N call lf b F H|_=>none
 |.block id c,F,H=>match gL E N call lf c F H with
  |some (.exit B,F',H')=>if B=id then some (.norm,F',H')else some (.exit B,F',H')|r=>r
 |.loop c,F,H=>jU (gL E N call lf c) lf F H|.exit id,F,H=>some (.exit id,F,H)|.ret,F,H=>some (.ret,F,H)|_,_,_=>none
theorem E6{f g:Zo->bC->bt (Out×Zo×bC)}(h:∀F H r,f F H=some r->g F H=some r):∀(k:Nat)(F:Zo)(H:bC)(r:Out×Zo×bC),jU f k F H=some r->jU g k F H=some r
 |0,F,H,r,hr=>by simp[jU]at hr|k+1,F,H,r,hr=>by simp only[jU]at hr⊢;cases B:f F H with|none=>rw[B]at hr;simp at hr|some q=>rw[B]at hr;rw[h F H q B];have⟨o,F1,H1⟩:=q;cases o with|norm=>exact E6 h k F1 H1 r hr|exit _=>exact hr|ret=>exact hr
theorem Nq(D:∀f s,X.nm f=some s->N s=f){lf:Nat}:∀(j:RC)(code:Code)(F:Zo)(H:bC)(r:Out×Zo×bC),bQ X false code=some j->gL X.E N call lf j F H=some r->exec X.E call lf false X.nt code F H=some r:=by
 intro j
 induction j with
 |skip=>
  intro code F H r d h;simp only[gL,ζa]at h;subst h
  cases code with
  |skip=>rfl|label _=>rfl|region id ops u=>simp only[bQ]at d;(repeat' split at d)<;>first|(simp at d;done)|(have⟨_,_,e⟩:=ζf.1 d;cases e)
  |_=>simp only[bQ]at d;(repeat' split at d)<;>first|(simp at d;done)|(have⟨_,_,e⟩:=ζf.1 d;cases e)|cases d
 |ops l=>intro code F H r d h;cases code with|region id ops u=>simp only[bQ]at d;split at d;split at d;have⟨_,_,e⟩:=ζf.1 d;cases e;simp at d;rename_i I;have⟨U,G,e⟩:=ζf.1 d;cases e;simp only[gL]at h;obtain⟨⟨F',H'⟩,k,rfl⟩:=ζf.1 h;simp only[exec,jf,I];rw[if_neg Zc,Gn D _ G k];rfl|_=>simp only[bQ]at d;(repeat' split at d)<;>first|(simp at d;done)|(have⟨_,_,e⟩:=ζf.1 d;cases e)|cases d
 |oG l=>intro code F H r d h;cases code with|region id ops u=>simp only[bQ]at d;split at d;rename_i I;split at d;rename_i J;have⟨U,G,e⟩:=ζf.1 d;cases e;simp only[gL]at h;split at h;(next W=>obtain⟨⟨F',H'⟩,k,rfl⟩:=ζf.1 h;have Y:qt ops.toList=false:=Bn D _ G W;have:=Gp D ops.toList (i:=0) rfl G k;rw[<-List.range_eq_range']at this;simp only[exec,jf,I,J,if_true,Y,false_eq_true,if_false,this];rfl);simp at h;simp at d;have⟨_,_,e⟩:=ζf.1 d;cases e|_=>simp only[bQ]at d;(repeat' split at d)<;>first|(simp at d;done)|(have⟨_,_,e⟩:=ζf.1 d;cases e)|cases d
 |seq a b w B=>
  intro code F H r d h
  cases code with
  |seq L O=>simp only[bQ]at d;split at d;rename_i x y C Q;cases d;simp only[gL]at h;simp only[exec];(cases g:gL X.E N call lf a F H with|none=>rw[g]at h;simp at h|some q=>rw[g]at h;rw[w L F H q C g];have⟨o,F1,H1⟩:=q;cases o with|norm=>exact B O F1 H1 r Q h|exit _=>exact h|ret=>exact h);simp at d
  |region id ops u=>simp only[bQ]at d;(repeat' split at d)<;>first|(simp at d;done)|(have⟨_,_,e⟩:=ζf.1 d;cases e)
  |_=>simp only[bQ]at d;(repeat' split at d)<;>first|(simp at d;done)|(have⟨_,_,e⟩:=ζf.1 d;cases e)|cases d
 |cond x a b w B=>
  intro code F H r d h
  cases code with
  |cond c L O=>simp only[bQ]at d;split at d;rename_i p y z C Q Z;cases d;simp only[gL]at h;simp only[exec,HI (F:=F) D C];split at h;rename_i t m;rw[m];(cases t with|true=>simp only[if_true]at h⊢;exact w L F H r Q h|false=>simp only[false_eq_true,if_false]at h⊢;exact B O F H r Z h);simp at h;simp at d
  |region id ops u=>simp only[bQ]at d;(repeat' split at d)<;>first|(simp at d;done)|(have⟨_,_,e⟩:=ζf.1 d;cases e)
  |_=>simp only[bQ]at d;(repeat' split at d)<;>first|(simp at d;done)|(have⟨_,_,e⟩:=ζf.1 d;cases e)|cases d
 |block id c S=>
  intro code F H r d h
  cases code with
  |block T c'=>simp only[bQ]at d;have⟨x,C,e⟩:=ζf.1 d;cases e;simp only[gL]at h;simp only[exec];cases g:gL X.E N call lf c F H with|none=>rw[g]at h;simp at h|some q=>rw[g]at h;rw[S c' F H q C g];exact h
  |region id ops u=>simp only[bQ]at d;(repeat' split at d)<;>first|(simp at d;done)|(have⟨_,_,e⟩:=ζf.1 d;cases e)
  |_=>simp only[bQ]at d;(repeat' split at d)<;>first|(simp at d;done)|(have⟨_,_,e⟩:=ζf.1 d;cases e)|cases d
 |loop c S=>
  intro code F H r d h
  cases code with
  |loop c'=>simp only[bQ]at d;have⟨x,C,e⟩:=ζf.1 d;cases e;simp only[gL]at h;simp only[exec];exact E6 (λF H r n=>S c' F H r C n) lf F H r h|region id ops u=>simp only[bQ]at d;(repeat' split at d)<;>first|(simp at d;done)|(have⟨_,_,e⟩:=ζf.1 d;cases e)
  |_=>simp only[bQ]at d;(repeat' split at d)<;>first|(simp at d;done)|(have⟨_,_,e⟩:=ζf.1 d;cases e)|cases d
 |exit id=>
  intro code F H r d h
  cases code with
  |exit T=>simp only[bQ,ζa,RC.exit.injEq]at d;subst d;exact h|region id ops u=>simp only[bQ]at d;(repeat' split at d)<;>first|(simp at d;done)|(have⟨_,_,e⟩:=ζf.1 d;cases e)
  |_=>simp only[bQ]at d;(repeat' split at d)<;>first|(simp at d;done)|(have⟨_,_,e⟩:=ζf.1 d;cases e)|cases d
 |ret=>
  intro code F H r d h
  cases code with
  |ret=>exact h|region id ops u=>simp only[bQ]at d;(repeat' split at d)<;>first|(simp at d;done)|(have⟨_,_,e⟩:=ζf.1 d;cases e)
  |_=>simp only[bQ]at d;(repeat' split at d)<;>first|(simp at d;done)|(have⟨_,_,e⟩:=ζf.1 d;cases e)|cases d
 |_=>intro code F H r d h;simp[gL]at h
end
def Ex(E:Env)(N:Nat->Zk)(a:RC)(F:Zo)(H:bC)(o:Out)(F':Zo)(H':bC):Prop:=∃n,∀k,n<=k->gL E N (run E k) k a F H=some (o,F',H')
def kQ(E:Env)(N:Nat->Zk)(a:RC)(F:Zo)(H:bC)(o:Out)(F':Zo)(H':bC):Prop:=∃n,∀k,n<=k->∀u,n<=u->jU (gL E N (run E k) k a) u F H=some (o,F',H')
section
variable{E:Env}{N:Nat->Zk}{a b c:RC}{F F1 F':Zo}{H H1 H':bC}{o:Out}{x:Arg}{id:Nat}
theorem Ex.ops{l:Zx}(h:∃n,∀k,n<=k->cw E N (run E k) none l F H=some (F',H')):Ex E N (.ops l) F H .norm F' H':=let⟨n,h⟩:=h;⟨n,λk a=>by simp only[gL,h k a,map_some]⟩
theorem Ex.c_{l:Zx}(h:∀call,cw E N call none l F H=some (F',H')):Ex E N (.ops l) F H .norm F' H':=Ex.ops ⟨0,λk _=>h _⟩
theorem Ex.oG{l:Zx}(B:wB l=true)(h:∀call,cw E N call (some H.length) l F H=some (F',H')):Ex E N (.oG l) F H .norm F' H':=⟨0,λk _=>by simp only[gL,B,if_true,h,map_some]⟩
theorem Ex.JJ{l:Zx}(B:wB l=true)(h:∃n,∀k,n<=k->cw E N (run E k) (some H.length) l F H=some (F',H')):Ex E N (.oG l) F H .norm F' H':=let⟨n,h⟩:=h;⟨n,λk a=>by simp only[gL,B,if_true,h k a,map_some]⟩
theorem Ex.skip:Ex E N .skip F H .norm F H:=⟨0,λ_ _=>rfl⟩
theorem Ex.exit:Ex E N (.exit id) F H (.exit id) F H:=⟨0,λ_ _=>rfl⟩
theorem Ex.ret:Ex E N .ret F H .ret F H:=⟨0,λ_ _=>rfl⟩
theorem Ex.seq(c:Ex E N a F H .norm F1 H1)(B:Ex E N b F1 H1 o F' H'):Ex E N (.seq a b) F H o F' H':=by have⟨n,c⟩:=c;have⟨m,B⟩:=B;exact⟨max n m,λk d=>by simp only[gL,c k Za];exact B k Za⟩
theorem Ex.sA(c:Ex E N a F H o F' H')(B:o≠.norm):Ex E N (.seq a b) F H o F' H':=by have⟨n,c⟩:=c;refine⟨n,λk d=>?_⟩;simp only[gL,c k d];cases o<;>first|exact absurd rfl B|rfl
theorem Ex.lW(B:dS N F x=.bool true)(h:Ex E N a F H o F' H'):Ex E N (.cond x a b) F H o F' H':=by have⟨n,h⟩:=h;exact⟨n,λk c=>by simp only[gL,B,if_true,h k c]⟩
theorem Ex.oH(B:dS N F x=.bool false)(h:Ex E N b F H o F' H'):Ex E N (.cond x a b) F H o F' H':=by have⟨n,h⟩:=h;exact⟨n,λk c=>by simp only[gL,B,false_eq_true,if_false,h k c]⟩
theorem Ex.block(h:Ex E N c F H .norm F' H'):Ex E N (.block id c) F H .norm F' H':=by have⟨n,h⟩:=h;exact⟨n,λk a=>by simp only[gL,h k a]⟩
theorem Ex.tA(h:Ex E N c F H (.exit id) F' H'):Ex E N (.block id c) F H .norm F' H':=by have⟨n,h⟩:=h;exact⟨n,λk a=>by simp only[gL,h k a,if_true]⟩
theorem Ex.LS(h:Ex E N c F H .ret F' H'):Ex E N (.block id c) F H .ret F' H':=by have⟨n,h⟩:=h;exact⟨n,λk a=>by simp only[gL,h k a]⟩
theorem Ex.loop(h:kQ E N c F H o F' H'):Ex E N (.loop c) F H o F' H':=by have⟨n,h⟩:=h;exact⟨n,λk a=>h k a k a⟩
theorem kQ.step(a:Ex E N c F H .norm F1 H1)(B:kQ E N c F1 H1 o F' H'):kQ E N c F H o F' H':=by have⟨n,a⟩:=a;have⟨m,B⟩:=B;refine⟨max n m+1,λk b u w=>?_⟩;cases u with|zero=>omega|succ u=>simp only[jU,a k Za];exact B k Za u Za
theorem kQ.stop(a:Ex E N c F H o F' H')(B:o≠.norm):kQ E N c F H o F' H':=by have⟨n,a⟩:=a;refine⟨n+1,λk b u w=>?_⟩;cases u with|zero=>omega|succ u=>simp only[jU,a k Za];cases o<;>first|exact absurd rfl B|rfl
end
theorem Ex.run{E:Env}{nm:Zk->bt Nat}{N:Nat->Zk}(B:∀f s,nm f=some s->N s=f){f:Zk}{fi:FI}{a:RC}(D:E.ft f=some fi)(b:bQ ⟨E,nm,fi.ntmps⟩ false fi.body=some a){args:Zu}(G:args.length<=fi.ntmps){H H':bC}{F':Zo}
 (h:Ex E N a args H .ret F' H'){vs:Zu}(c:gT E F' H' fi.results=some vs):∃n,run E n (.fn f) args H=some (result vs,H'):=by
 have⟨n,h⟩:=h;refine⟨n+1,?_⟩;have:=Nq (X:=⟨E,nm,fi.ntmps⟩) (call:=Go.VE.run E n) B (lf:=n) a fi.body args H _ b (h n (le_refl _));simp only[Go.VE.run,jv,D,if_pos G,this,c,map_some]
@[simp] theorem ko(F:Zo)(i j:Nat)(v:V):get (set F i v) j=if i=j then v else get F j:=by
 split;next h=>subst h;exact rJ F i v
 rename_i h;exact iV F v h
def refs:Zv->Zt->Zt
 |id::ids,r::rs=>[V.hsl id 1 0 r.length]::refs ids rs|_,_=>[]
def jb(r:Zu):Zt:=r.map λu=>[u]
structure lB(H:bC)(w:V)(o:Nat)(ids:List Nat)(rows:List (List V)):Prop where
 v:w=if rows=[]then .bL else .hsl o 1 0 rows.length
 ob:rows≠[]->H[o]?=some (.row 1 (refs ids rows))
 len:ids.length=rows.length
 r:∀(i id:Nat)(r:List V),ids[i]?=some id->rows[i]?=some r->H[id]?=some (.row 1 (jb r))
 nd:ids.Nodup
 ne:rows≠[]->o∉ids
theorem sN:∀{ids:Zv}{rows:Zt},ids.length=rows.length->(refs ids rows).length=rows.length
 |[],[],_=>rfl|_::ids,_::rows,h=>by simp only[refs,length_cons,sN (ids:=ids) (rows:=rows) (by simpa using h)]
theorem ET:∀{ids:Zv}{rows:Zt}(id:Nat)(r:Zu),ids.length=rows.length->refs (ids++[id]) (rows++[r])=refs ids rows++[[V.hsl id 1 0 r.length]]
 |[],[],_,_,_=>rfl|_::ids,_::rows,id,r,h=>by simp only[refs,List.cons_append,ET (ids:=ids) (rows:=rows) id r (by simpa using h)]
theorem AS:∀{ids:Zv}{rows:Zt}{i id:Nat}{r:Zu},ids[i]?=some id->rows[i]?=some r->(refs ids rows)[i]?=some [V.hsl id 1 0 r.length]
 |[],_,_,_,_,h,_=>by simp at h|_::_,[],_,_,_,_,h=>by simp at h|a::ids,b::rows,0,id,r,h1,B=>by simp at h1 B;subst h1 B;rfl|a::ids,b::rows,i+1,id,r,h1,B=>by simpa[refs]using AS (ids:=ids) (rows:=rows) (i:=i) (by simpa using h1) (by simpa using B)
theorem E0:∀{ids:Zv}{rows:Zt}{i:Nat}{r B:Zu},rows[i]?=some r->B.length=r.length->refs ids (rows.set i B)=refs ids rows
 |[],_,_,_,_,_,_=>by simp[refs]|_::_,[],_,_,_,_,_=>by simp[refs]|a::ids,b::rows,0,r,B,h,D=>by simp at h;subst h;simp only[List.set_cons_zero,refs,D]|a::ids,b::rows,i+1,r,B,h,D=>by simp only[List.set_cons_succ,refs,E0 (ids:=ids) (rows:=rows) (i:=i) (by simpa using h) D]
section
variable{H H':bC}{v:V}{o:Nat}{ids:Zv}{rows:Zt}
theorem lB.nil(H:bC)(o:Nat):lB H .bL o [] []:=⟨rfl,λh=>absurd rfl h,rfl,λi id r h=>by simp at h,.nil,λh=>absurd rfl h⟩
theorem lB.heap(n:lB H v o ids rows)(B:rows≠[]->H'[o]?=H[o]?)(D:∀id∈ids,H'[id]?=H[id]?):lB H' v o ids rows:=⟨n.v,λh=>by rw[B h];exact n.ob h,n.len,λi id r h1 u=>by rw[D id (mem_of_getElem? h1)];exact n.r i id r h1 u,n.nd,n.ne⟩
theorem lB.lt(n:lB H v o ids rows):(rows≠[]->o<H.length)/\∀id∈ids,id<H.length:=by refine⟨λh=>(ζe.1 (n.ob h)).1,λid u=>?_⟩;have⟨i,w⟩:=getElem?_of_mem u;have z:=(ζe.1 w).1;have:=n.r i id _ w (ζd (show i<rows.length from n.len▸z));exact(ζe.1 this).1
theorem lB.more(n:lB H v o ids rows)(X:bC):lB (H++X) v o ids rows:=n.heap (λh=>getElem?_append_left (n.lt.1 h)) λid u=>getElem?_append_left (n.lt.2 id u)
theorem lB.push(n:lB H v o ids rows)(r:Zu)(U:rows.length+1<=2147483648):
 ∃H',eU (H++[.row 1 (jb r)]++[.row 1 [[.hsl H.length 1 0 r.length]]]) (.append 1) [v,.hsl (H.length+1) 1 0 1]=some (.hsl (H.length+2) 1 0 (rows.length+1),H')/\
  lB H' (.hsl (H.length+2) 1 0 (rows.length+1)) (H.length+2) (ids++[H.length]) (rows++[r])/\H.length<=H'.length/\(∀id,id<H.length->id≠o\/rows=[]->H'[id]?=H[id]?):=by
 generalize D:H++[.row 1 (jb r)]++[.row 1 [[.hsl H.length 1 0 r.length]]]=H2;have u:H2.length=H.length+2:=by subst D;simp
 have B:∀id,id<H.length->H2[id]?=H[id]?:=λid h=>by subst D;rw[append_assoc,getElem?_append_left h]
 have g:H2[H.length]?=some (.row 1 (jb r)):=by subst D;simp
 have W:H2[H.length+1]?=some (.row 1 [[.hsl H.length 1 0 r.length]]):=by subst D;simp
 have f:=n.v;have e2:dH H2 1 (.hsl (H.length+1) 1 0 1)=some [[.hsl H.length 1 0 r.length]]:=by simp[dH,W,Ob.rows]
 by_cases c:rows=[]
 .subst c;rw[if_pos rfl]at f;subst f;have:ids=[]:=List.eq_nil_of_length_eq_zero n.len;subst this;refine⟨H2++[.row 1 [[.hsl H.length 1 0 r.length]]],?_,⟨Zc,λ_=>by rw[<-u];simp[refs],rfl,λi id Q z w=>?_,Zc,λ_=>Zc⟩,by simp[u];omega,λid G _=>?_⟩
  .have e1:dH H2 1 .bL=some []:=rfl;simp only[eU,e1,e2,gE,List.length_nil,length_singleton,map_some,u];simp
  .cases i with
   |zero=>simp at z w;subst z w;rw[getElem?_append_left Za];exact g|succ i=>simp at z
  rw[getElem?_append_left Za];exact B id G
 rw[if_neg c]at f;subst f;have S:=n.ob c;have J:=n.lt.1 c;have e1:dH H2 1 (.hsl o 1 0 rows.length)=some (refs ids rows):=by simp only[dH,if_true,B o J,S,ζb,Ob.rows,sN n.len,zero_add,le_refl,drop_zero];rw[take_of_length_le (by rw[sN n.len];exact le_refl _)]
 have X:gE H2 (.hsl o 1 0 rows.length)=some (H2.set o .dead):=by simp only[gE,B o J,S]
 have C:∀id,id≠o->(H2.set o Ob.dead++[Ob.row 1 (refs ids rows++[[.hsl H.length 1 0 r.length]])])[id]?=if id<H2.length then H2[id]?else(H2.set o Ob.dead++[Ob.row 1 (refs ids rows++[[.hsl H.length 1 0 r.length]])])[id]?:=λid I=>by split;(next h=>rw[getElem?_append_left (by simpa using h),getElem?_set_ne (Ne.symm I)]);rfl
 refine⟨H2.set o .dead++[.row 1 (refs ids rows++[[.hsl H.length 1 0 r.length]])],?_,⟨Zc,λ_=>?_,by simp[n.len],λi id Q z w=>?_,?_,λ_ d=>?_⟩,by simp[u];omega,λid G I=>?_⟩
 .simp only[eU,e1,e2,X,sN n.len,length_singleton,U,if_true,map_some,u]
 .rw[ET _ _ n.len,<-u];simp
 .have L:id≠o:=by
   rcases Nat.lt_or_ge i ids.length with h|h
   .rw[getElem?_append_left h]at z;intro e;subst e;exact n.ne c (mem_of_getElem? z)
   have:i=ids.length:=by have:=(ζe.1 z).1;simp at this;omega
   subst this;simp at z;subst z;omega
  rcases Nat.lt_or_ge i ids.length with h|h
  .rw[getElem?_append_left h]at z;rw[getElem?_append_left (by rw[<-n.len];exact h)]at w
   have O:=n.lt.2 id (mem_of_getElem? z);rw[C id L,if_pos Za,B id O]
   exact n.r i id Q z w
  have:i=ids.length:=by have:=(ζe.1 z).1;simp at this;omega
  subst this;simp at z;subst z;rw[n.len]at w;simp at w;subst w;rw[C _ L,if_pos Za];exact g
 .rw[List.nodup_append];exact⟨n.nd,Zc,λa Y b T=>by simp at T;subst T;exact Nat.ne_of_lt (n.lt.2 a Y)⟩
 .rcases mem_append.1 d with d|d
  .have:=n.lt.2 _ d;omega
  simp at d
 rw[C id (I.resolve_right c),if_pos Za];exact B id G
end
theorem zy{E:Env}{N:Nat->Zk}{F:Zo}{H H1:bC}{call:dw}{b:bt Nat}{o:RO}{l:Zx}{v:V}{r:Zo×bC}(a:o.gd=none)(c:f_ E N call b o.now o.k (o.az.map (dS N F)) H=some (v,H1))(h:cw E N call b l (gj F o.dst v) H1=some r):cw E N call b (o::l) F H=some r:=by simp only[cw,a,c];exact h
theorem vp{E:Env}{N:Nat->Zk}{F:Zo}{H:bC}{call:dw}{b:bt Nat}{o:RO}{l:Zx}{v:V}{r:Zo×bC}(a:o.gd=none)(c:f_ E N call b o.now o.k (o.az.map (dS N F)) H=some (v,H))(h:cw E N call b l (gj F o.dst v) H=some r):cw E N call b (o::l) F H=some r:=zy a c h
theorem qz{E:Env}{N:Nat->Zk}{F:Zo}{H:bC}{call:dw}{b:bt Nat}:cw E N call b [] F H=some (F,H):=rfl
theorem wq{n:Nat}(h:n<=2147483648):wrap .i64 ((n:Int)+1)=((n+1:Nat):Int):=by simp[wrap,IntKind.bits,signed];omega
theorem Tl{n:Nat}(h:n<=2147483648):wrap .i64 (((n+1:Nat):Int)-1)=(n:Int):=by simp[wrap,IntKind.bits,signed];omega
theorem AB(H:bC):H.take H.length=H:=List.take_length
theorem A3{E:Env}{nm:Zk->bt Nat}{f:Zk}{a:RC}{n:Nat}{rs:a_ ResultVar}(h:((E.ft f).map λfi=>(bQ ⟨E,nm,fi.ntmps⟩ false fi.body,ble n fi.ntmps,fi.results))=some (some a,true,rs)):
 ∃fi,E.ft f=some fi/\bQ ⟨E,nm,fi.ntmps⟩ false fi.body=some a/\n<=fi.ntmps/\fi.results=rs:=by
 have⟨fi,b,u⟩:=ζf.1 h;simp only[ζc]at u;exact⟨fi,b,u.1,Nat.le_of_ble_eq_true u.2.1,u.2.2⟩
theorem Dn{x:V}(h:x.one=true):x.cells=[x]:=by cases x<;>first|rfl|(simp[V.one]at h)
theorem Sj{call:dw}{f:Zk}{args az:Zu}{H:bC}(h:borrows call.lv H args=some az)(a:∀x∈az,x.closed=true):bY call f args H=bY call f az []:=by
 have:borrows call.lv [] az=some az:=by clear h;unfold borrows;induction az with|nil=>rfl|cons x l u=>simp only[gO,ei call.lv [] (a x Zc),u λy w=>a y (List.mem_cons_of_mem _ w)]
 unfold bY;rw[h,this]
def kept(t:Nat->Zl)(n:Nat):Zv:=(range n).filter λi=>i==0|| !t i
theorem uZ(t:Nat->Zl)(n:Nat):kept t (n+1)=kept t n++if n==0|| !t n then[n]else[]:=by unfold kept;rw[List.range_succ,List.filter_append,List.filter_cons];rfl
theorem zo(t:Nat->Zl):∀n,(kept t n).length<=n:=λn=>by unfold kept;exact Nat.le_trans (List.length_filter_le ..) Zc
theorem HS{t:Nat->Zl}{n i:Nat}(h:i∈kept t n):i<n:=by unfold kept at h;exact mem_range.1 (List.mem_filter.1 h).1
theorem AM{t:Nat->Zl}:∀n,(∀i,0<i->i<n->t i=false)->kept t n=range n
 |0,_=>rfl|n+1,h=>by rw[uZ,AM n λi a B=>h i a Za,List.range_succ];congr 1;cases n with|zero=>rfl|succ n=>rw[h (n+1) Za Za];simp
theorem xZ{t:Nat->Zl}{k:Nat}(b:0<k)(a:t k=true):∀n,k<n->(kept t n).length+1<=n
 |0,h=>Za|n+1,h=>by rw[uZ];by_cases e:n=k;subst e;have:(n==0|| !t n)=false:=(by simp[a];omega);rw[this];have:=zo t n;simp;omega;have:=xZ b a n Za;split<;>simp<;>omega
namespace cmpX
instance{n:Nat}:OfNat Arg n:=⟨.s n⟩
def r1:Zx:=[o1 4 (.k (.bL)) []]
def r2:Zx:=[o1 8 0 [],o2 9 (.p .lenSl) [8] [],o2 10 (.p (.bin (some .int) none .lss)) [9,.k (.int .i64 2)] []]
def r3:Zx:=[o1 11 0 [],o1 4 11 []]
def r4:Zx:=[o1 5 (.k (.int .i64 1)) []]
def r5:Zx:=[o1 12 5 [],o1 13 0 [],o2 14 (.p .lenSl) [13] [],o2 15 (.p (.bin (some .int) none .lss)) [12,14] []]
def on(d:Nat)(k:K)(az:Z4):RO:=⟨some d,none,true,k,az,[],[]⟩
def r6:Zx:=[o1 18 1 [],o1 19 0 [],o1 20 5 [],o2 21 (.p (.idxS 1)) [19,20] [],o2 22 (.r (.load 1 false)) [21] [],o1 23 0 [],o1 24 5 [],o2 25 (.p (.bin (some .int) none .sub)) [24,.k (.int .i64 1)] [],o2 26 (.p (.idxS 1)) [23,25] [],o2 27 (.r (.load 1 false)) [26] [],on 28 .c [18,22,27]]
def r7:Zx:=[o1 29 0 [],o1 30 5 [],o2 31 (.p (.slice 1 true false)) [29,30] [],o1 6 31 []]
def r8:Zx:=[o1 7 (.k (.int .i64 1)) []]
def r9:Zx:=[o1 32 7 [],o1 33 6 [],o2 34 (.p .lenSl) [33] [],o2 35 (.p (.bin (some .int) none .lss)) [32,34] []]
def zh:Zx:=[o1 38 1 [],o1 39 6 [],o1 40 7 [],o2 41 (.p (.idxS 1)) [39,40] [],o2 42 (.r (.load 1 false)) [41] [],o1 43 6 [],o1 44 7 [],o2 45 (.p (.bin (some .int) none .sub)) [44,.k (.int .i64 1)] [],o2 46 (.p (.idxS 1)) [43,45] [],o2 47 (.r (.load 1 false)) [46] [],on 48 .c [38,42,47],on 49 (.p (.not)) [48]]
def xN:Zx:=[o1 50 0 [],o1 51 5 [],o1 52 6 [],o1 53 7 [],o2 54 (.p (.idxS 1)) [52,53] [],o2 55 (.r (.load 1 false)) [54] [],o2 56 (.p (.idxS 1)) [50,51] [],⟨none,none,false,.l (.store 1),[56,55],[],[]⟩]
def yP:Zx:=[o1 57 5 [],o2 58 (.p (.bin (some .int) none .add)) [57,.k (.int .i64 1)] [],o1 5 58 []]
def zd:Zx:=[o1 36 7 [],o2 37 (.p (.bin (some .int) none .add)) [36,.k (.int .i64 1)] [],o1 7 37 []]
def TG:RC:=.seq (.seq (.ops r9) (.cond (.s 35) (.skip) (.exit 2))) (.seq (.block 3 (.seq (.oG zh) (.cond (.s 49) (.seq (.ops xN) (.ops yP)) (.skip)))) (.ops zd))
def yX:Zx:=[o1 59 0 [],o1 60 5 [],o2 61 (.p (.slice 1 true false)) [59,60] [],⟨none,none,false,.l (.clear 1 [.bL]),[61],[],[]⟩]
def yB:Zx:=[o1 62 0 [],o1 63 5 [],o2 64 (.p (.slice 1 false true)) [62,63] [],o1 4 64 []]
def r16:Zx:=[o1 16 5 [],o2 17 (.p (.bin (some .int) none .add)) [16,.k (.int .i64 1)] [],o1 5 17 []]
def O1:RC:=.seq (.seq (.ops r5) (.cond (.s 15) (.skip) (.exit 0))) (.seq (.block 1 (.seq (.oG r6) (.cond (.s 28) (.seq (.ops r7) (.seq (.seq (.ops r8) (.block 2 (.loop TG))) (.seq (.ops yX) (.seq (.ops yB) (.ret))))) (.skip)))) (.ops r16))
def E8:Zx:=[o1 65 0 [],o1 4 65 []]
def code:RC:=.seq (.ops r1) (.seq (.seq (.ops r2) (.cond (.s 10) (.seq (.ops r3) (.ret)) (.skip))) (.seq (.seq (.ops r4) (.block 0 (.loop O1))) (.seq (.ops E8) (.ret))))
section
variable{E:Env}{N:Nat->Zk}{F:Zo}{H:bC}{call:dw}{id off L k:Nat}
theorem ld{B:Zt}{el:Nat}{v:V}(h:H[id]?=some (.row 1 B))(a:B[el]?=some [v]):dZ H (.load 1 false) [.hptr id el 0]=some v:=by simp[dZ,dX,h,Ob.rows,a,cut,mk]
theorem ON{i:Nat}(h:i<L):kE 1 (.hsl id 1 off L) (i:Int)=some (.hptr id (off+i) 0):=by unfold kE;rw[if_neg Za];simp[h]
attribute [local simp] cw f_ dS bO gj ko kK ot dZ
theorem x2(a:get F 0=.hsl id 1 off L):∃F',(∀call,cw E N call none r2 F H=some (F',H))/\get F' 10=.bool (decide ((L:Int)<2))/\(∀s,s<8->get F' s=get F s):=by refine⟨_,λcall=>by simp[r2,a,lQ];rfl,Zc,?_⟩;simp;grind
theorem x5(a:get F 0=.hsl id 1 off L)(b:get F 5=.int .i64 k):∃F',(∀call,cw E N call none r5 F H=some (F',H))/\get F' 15=.bool (decide (k<L))/\(∀s,s<8->get F' s=get F s):=by refine⟨_,λcall=>by simp[r5,a,b,lQ];rfl,Zc,?_⟩;simp;grind
theorem R5{g:Zk}{cb:Zu}{B:Zt}{o2 L2 i:Nat}{a b:V}{t:Zl}(h:H[id]?=some (.row 1 B))(G:i+1<L2)(D:i<=2147483648)(J:B[o2+(i+1)]?=some [a])(O:B[o2+i]?=some [b])(d:E.keep g=false)(e:get F 1=.clo g [] cb):
 (get F 0=.hsl id 1 o2 L2->get F 5=.int .i64 ((i+1:Nat):Int)->∃F',(∀call,bY call g (a::b::cb) H=some (.bool t)->cw E N call (some H.length) r6 F H=some (F',H))/\get F' 28=.bool t/\(∀s,s<8->get F' s=get F s))/\
 (get F 6=.hsl id 1 o2 L2->get F 7=.int .i64 ((i+1:Nat):Int)->∃F',(∀call,bY call g (a::b::cb) H=some (.bool t)->cw E N call (some H.length) zh F H=some (F',H))/\get F' 49=.bool (!t)/\(∀s,s<8->get F' s=get F s)):=by
 have u:=Tl D;have e1:=ld h J;have e2:=ld h O;have i1:=ON (id:=id) (off:=o2) (L:=L2) G;have i2:=ON (id:=id) (off:=o2) (L:=L2) (show i<L2 by omega)
 simp at i1 u;refine⟨λf j=>⟨_,λcall c=>by simp[-dZ,r6,on,f,e,j,i1,i2,e1,e2,u,d,c,V.scalar,AB];rfl,Zc,?_⟩,λf6 k=>⟨_,λcall c=>by simp[-dZ,zh,on,e,f6,k,i1,i2,e1,e2,u,d,c,V.scalar,AB];rfl,Zc,?_⟩⟩<;>
 (intro s w;simp;repeat (rw[if_neg Za]))
end
end cmpX
namespace cmpX
section
variable{E:Env}{N:Nat->Zk}{F:Zo}{H:bC}{call:dw}{id off L k:Nat}
attribute [local simp] cw f_ dS bO gj ko kK ot dZ
theorem x7(a:get F 0=.hsl id 1 off L)(b:get F 5=.int .i64 k)(c:k<=L):∃F',(∀call,cw E N call none r7 F H=some (F',H))/\get F' 6=.hsl id 1 (off+k) (L-k)/\(∀s,s<8->s≠6->get F' s=get F s):=by
 have e:gX 1 (.hsl id 1 off L) (some k) none=some (.hsl id 1 (off+k) (L-k)):=by unfold gX dW;grind
 refine⟨_,λcall=>by simp[r7,a,b,lp,e];rfl,Zc,?_⟩;simp;grind
theorem x9{o2 L2 m:Nat}(f6:get F 6=.hsl id 1 o2 L2)(a:get F 7=.int .i64 m):∃F',(∀call,cw E N call none r9 F H=some (F',H))/\get F' 35=.bool (decide (m<L2))/\(∀s,s<8->get F' s=get F s):=by refine⟨_,λcall=>by simp[r9,f6,a,lQ];rfl,Zc,?_⟩;simp;grind
theorem Sd{B:Zt}{o2 L2 m p:Nat}{a z:V}(h:H[id]?=some (.row 1 B))(c:get F 0=.hsl id 1 off L)(d:get F 5=.int .i64 p)(f6:get F 6=.hsl id 1 o2 L2)(e:get F 7=.int .i64 m)(D:m<L2)(G:p<L)
 (J:B[o2+m]?=some [a])(O:B[off+p]?=some [z])(b:a.one=true):
 ∃F',(∀call,cw E N call none xN F H=some (F',H.set id (.row 1 (B.set (off+p) [a]))))/\(∀s,s<8->get F' s=get F s):=by
 have i1:=ON (id:=id) (off:=o2) D;have i2:=ON (id:=id) (off:=off) G;have e1:=ld h J;have u:eU H (.store 1) [.hptr id (off+p) 0,a]=some (.undef,H.set id (.row 1 (B.set (off+p) [a]))):=by simp[eU,h,O,Dn b,b]
 refine⟨_,λcall=>by simp[-dZ,xN,c,d,f6,e,i1,i2,e1,u];rfl,?_⟩
 simp;grind
theorem Ik{p:Nat}(B:p<=2147483648):(get F 5=.int .i64 p->∃F',(∀call,cw E N call none yP F H=some (F',H))/\get F' 5=.int .i64 ((p+1:Nat):Int)/\(∀s,s<8->s≠5->get F' s=get F s))/\
 (get F 7=.int .i64 p->∃F',(∀call,cw E N call none zd F H=some (F',H))/\get F' 7=.int .i64 ((p+1:Nat):Int)/\(∀s,s<8->s≠7->get F' s=get F s))/\
 (get F 5=.int .i64 p->∃F',(∀call,cw E N call none r16 F H=some (F',H))/\get F' 5=.int .i64 ((p+1:Nat):Int)/\(∀s,s<8->s≠5->get F' s=get F s)):=by
 have u:=wq B;refine⟨λf=>⟨_,λcall=>by simp[yP,f,u];rfl,Zc,?_⟩,λf=>⟨_,λcall=>by simp[zd,f,u];rfl,Zc,?_⟩,λf=>⟨_,λcall=>by simp[r16,f,u];rfl,Zc,?_⟩⟩<;>
  (simp;grind)
theorem UB{B:Zt}{p:Nat}(h:H[id]?=some (.row 1 B))(a:get F 0=.hsl id 1 off L)(b:get F 5=.int .i64 p)(D:p<L)(G:off+L<=B.length):
 ∃F',(∀call,cw E N call none yX F H=some (F',H.set id (.row 1 (B.take (off+p)++replicate (L-p) [.bL]++B.drop (off+L)))))/\(∀s,s<8->get F' s=get F s):=by
 have e:gX 1 (.hsl id 1 off L) (some p) none=some (.hsl id 1 (off+p) (L-p)):=by unfold gX dW;grind
 obtain⟨q,u⟩:∃q,L-p=q+1:=⟨L-p-1,Za⟩
 have c:eU H (.clear 1 [.bL]) [.hsl id 1 (off+p) (L-p)]=some (.undef,H.set id (.row 1 (B.take (off+p)++replicate (L-p) [.bL]++B.drop (off+L)))):=by simp[eU,Bg,u,h];grind
 refine⟨_,λcall=>by simp[yX,a,b,lp,e,c];rfl,?_⟩
 simp;grind
theorem OT{p:Nat}(a:get F 0=.hsl id 1 off L)(b:get F 5=.int .i64 p)(B:p<=L):∃F',(∀call,cw E N call none yB F H=some (F',H))/\get F' 4=.hsl id 1 off p:=by
 have e:gX 1 (.hsl id 1 off L) none (some p)=some (.hsl id 1 off p):=by unfold gX dW;grind
 exact⟨_,λcall=>by simp[yB,a,b,lp,e];rfl,Zc⟩
theorem Uy:∃F',(∀call,cw E N call none E8 F H=some (F',H))/\get F' 4=get F 0:=⟨_,λcall=>by simp[E8];rfl,Zc⟩
theorem Mf:∃F',(∀call,cw E N call none r3 F H=some (F',H))/\get F' 4=get F 0:=⟨_,λcall=>by simp[r3];rfl,Zc⟩
end
structure Em(E:Env)(g:FuncId)(cb:List V)(H:bC)(id off L:Nat)(rs:List (List V))(A:Nat->V)(t:Nat->Bool):Prop where
 row:H[id]?=some (.row 1 rs)
 len:off+L<=rs.length
 small:L<=2147483648
 at_:∀i,i<L->rs[off+i]?=some [A i]
 one:∀i,i<L->(A i).one=true
 keep:E.keep g=false
 cmp:∃n,∀k,n<=k->∀i,i+1<L->∀cur,bY (run E k) g (A (i+1)::A i::cb) (H.set id (.row 1 cur))=some (.bool (t (i+1)))
structure Head(g:FuncId)(cb:List V)(id off L kk m:Nat)(rs:List (List V))(A:Nat->V)(t:Nat->Bool)(F:Frame)(cur:List (List V)):Prop where
 f0:get F 0=.hsl id 1 off L
 f1:get F 1=.clo g [] cb
 f5:get F 5=.int .i64 ((kept t (kk+m)).length:Nat)
 f6:get F 6=.hsl id 1 (off+kk) (L-kk)
 f7:get F 7=.int .i64 m
 len:cur.length=rs.length
 pre:∀p i,(kept t (kk+m))[p]?=some i->cur[off+p]?=some [A i]
 post:∀i,kk+m<=i+1->i<L->cur[off+i]?=some [A i]
 out:∀j,j<off\/off+L<=j->cur[j]?=rs[j]?
 cell:∀i,i<L->∃j,j<L/\cur[off+i]?=some [A j]
section
variable{E:Env}{N:Nat->Zk}{g:Zk}{cb:Zu}{H:bC}{id off L kk:Nat}{rs:Zt}{A:Nat->V}{t:Nat->Zl}
theorem I_(X:Em E g cb H id off L rs A t)(x:0<kk)(ah:kk<L)(y:t kk=true):∀(d m:Nat)(F:Zo)(B:Zt),kk+m+d=L->0<m->Head g cb id off L kk m rs A t F B->
 ∃F' D,kQ E N TG F (H.set id (.row 1 B)) (.exit 2) F' (H.set id (.row 1 D))/\Head g cb id off L kk (L-kk) rs A t F' D:=by
 have O:=(ζe.1 X.row).1;have G:∀B,(H.set id (.row 1 B))[id]?=some (.row 1 B):=λB=>getElem?_set_self O
 have ai:=X.small;have af:=X.len;intro d
 induction d with
 |zero=>
  intro m F B M P h;have R:m=L-kk:=Za
  subst R;obtain⟨F1,e1,e2,e3⟩:=x9 h.f6 h.f7;refine⟨F1,B,kQ.stop (Ex.sA (Ex.seq (Ex.c_ e1) (Ex.oH (by simp[dS,e2]) Ex.exit)) Zc) Zc,?_⟩
  exact⟨by rw[e3 0 Za];exact h.f0,by rw[e3 1 Za];exact h.f1,by rw[e3 5 Za];exact h.f5,by rw[e3 6 Za];exact h.f6,by rw[e3 7 Za];exact h.f7,h.len,h.pre,h.post,h.out,h.cell⟩
 |succ d ih=>
  intro m F B M P h;obtain⟨F1,a1,a2,a3⟩:=x9 h.f6 h.f7;have T:dS N F1 35=.bool true:=by show get F1 35=_;rw[a2,decide_eq_true Za]
  obtain⟨m',rfl⟩:∃m',m=m'+1:=⟨m-1,Za⟩
  obtain⟨n0,ab⟩:=X.cmp;have q:B[off+kk+(m'+1)]?=some [A (kk+m'+1)]:=by have:=h.post (kk+m'+1) Za Za;grind
  have c2:B[off+kk+m']?=some [A (kk+m')]:=by have:=h.post (kk+m') Za Za;grind
  obtain⟨F2,b1,b,b3⟩:=(R5 (L2:=L-kk) (G B) Za Za q c2 X.keep (by rw[a3 1 Za];exact h.f1)).2 (by rw[a3 6 Za];exact h.f6) (by rw[a3 7 Za];exact h.f7)
  have U:∃n,∀k,n<=k->cw E N (run E k) (some (H.set id (.row 1 B)).length) zh F1 (H.set id (.row 1 B))=some (F2,H.set id (.row 1 B)):=⟨n0,λk hk=>b1 _ (ab k hk (kk+m') Za B)⟩
  have w:=λs r=>(b3 s r).trans (a3 s r)
  have ad:(kept t (kk+(m'+1))).length+1<=kk+(m'+1):=xZ x y _ Za
  have u:kept t (kk+(m'+1)+1)=kept t (kk+(m'+1))++if t (kk+m'+1)then[]else[kk+m'+1]:=by rw[uZ];grind
  have z:kk+(m'+1+1)=kk+(m'+1)+1:=Za
  cases W:t (kk+m'+1)with
  |true=>
   rw[W]at b u;simp at u;obtain⟨v,Y,c,Q⟩:=(Ik (p:=m'+1) Za).2.1 (by rw[w 7 Za];exact h.f7)
   obtain⟨F',D,i1,i2⟩:=ih (m'+1+1) v B Za Za ⟨by rw[Q 0 Za Za,w 0 Za];exact h.f0,by rw[Q 1 Za Za,w 1 Za];exact h.f1,
    by rw[Q 5 Za Za,w 5 Za,z,u];exact h.f5,by rw[Q 6 Za Za,w 6 Za];exact h.f6,c,h.len,by rw[z,u];exact h.pre,λi a Z=>h.post i Za Z,h.out,h.cell⟩
   exact⟨F',D,kQ.step (Ex.seq (Ex.seq (Ex.c_ a1) (Ex.lW T Ex.skip)) (Ex.seq (Ex.block (Ex.seq (Ex.JJ (by decide) U) (Ex.oH (by simp[dS,b]) Ex.skip))) (Ex.c_ Y))) i1,i2⟩
  |false=>
   rw[W]at b u;generalize f:(kept t (kk+(m'+1))).length=K at *;obtain⟨_,_,hz⟩:=h.cell K Za
   obtain⟨v,Y,c⟩:=Sd (G B) (by rw[w 0 Za];exact h.f0) (by rw[w 5 Za,h.f5,f]) (by rw[w 6 Za];exact h.f6) (by rw[w 7 Za];exact h.f7) Za Za q hz (X.one _ Za)
   rw[set_set]at Y;generalize I:B.set (off+K) [A (kk+m'+1)]=J at Y;have l:∀j,J[j]?=if j=off+K then some [A (kk+m'+1)]else B[j]?:=λj=>by rw[<-I,List.getElem?_set];by_cases e:off+K=j;rw[if_pos e,if_pos e.symm,if_pos (by rw[h.len];omega)];rw[if_neg e,if_neg (Ne.symm e)]
   obtain⟨F4,Q,q4,q5⟩:=(Ik (p:=K) Za).1 (by rw[c 5 Za,w 5 Za,h.f5,f])
   have C:∀s,s<8->s≠5->get F4 s=get F s:=λs a Z=>by rw[q5 s a Z,c s a,w s a]
   obtain⟨F5,q6,q7,o⟩:=(Ik (p:=m'+1) Za).2.1 (by rw[C 7 Za Za];exact h.f7)
   obtain⟨F',D,i1,i2⟩:=ih (m'+1+1) F5 J Za Za ⟨by rw[o 0 Za Za,C 0 Za Za];exact h.f0,by rw[o 1 Za Za,C 1 Za Za];exact h.f1,
    by rw[o 5 Za Za,q4,z,u,ζi,f];rfl,by rw[o 6 Za Za,C 6 Za Za];exact h.f6,q7,by rw[<-I,List.length_set];exact h.len,
    λp i S=>by rw[z,u]at S;rw[l];by_cases e:p=K;subst e;rw[<-f,getElem?_append_right (le_refl _),Nat.sub_self]at S;cases S;rw[if_pos rfl];have ae:p<(kept t (kk+(m'+1))).length:=(by have:=(ζe.1 S).1;simp at this;omega);rw[getElem?_append_left ae]at S;rw[if_neg Za];exact h.pre p i S,
    λi a Z=>by rw[l,if_neg Za];exact h.post i Za Z,λj hj=>by rw[l,if_neg Za];exact h.out j hj,
    λi hi=>by rw[l];by_cases e:off+i=off+K;rw[if_pos e];exact⟨_,Za,rfl⟩;rw[if_neg e];exact h.cell i hi⟩
   exact⟨F',D,kQ.step (Ex.seq (Ex.seq (Ex.c_ a1) (Ex.lW T Ex.skip)) (Ex.seq (Ex.block (Ex.seq (Ex.JJ (by decide) U) (Ex.lW (by simp[dS,b]) (Ex.seq (Ex.c_ Y) (Ex.c_ Q))))) (Ex.c_ q6))) i1,i2⟩
structure Mt(off L:Nat)(rs:List (List V))(A:Nat->V)(t:Nat->Bool)(rs':List (List V)):Prop where
 len:rs'.length=rs.length
 pre:∀p i,(kept t L)[p]?=some i->rs'[off+p]?=some [A i]
 all:∀c∈rs',c∈rs\/c=[.bL]
theorem Jy(X:Em E g cb H id off L rs A t):∀(d k:Nat)(F:Zo),k+d=L->0<k->(∀i,0<i->i<k->t i=false)->get F 0=.hsl id 1 off L->get F 1=.clo g [] cb->get F 5=.int .i64 k->
 (∃F',kQ E N O1 F H (.exit 0) F' H/\get F' 0=.hsl id 1 off L/\∀i,0<i->i<L->t i=false)\/
 (∃F' D,kQ E N O1 F H .ret F' (H.set id (.row 1 D))/\get F' 4=.hsl id 1 off (kept t L).length/\Mt off L rs A t D):=by
 have Q:=(ζe.1 X.row).1;have S:=ql X.row;have ah:=X.small;have af:=X.len;intro d
 induction d with
 |zero=>
  intro k F he v l b y e;have ek:k=L:=Za
  subst ek;obtain⟨F1,e1,e2,e3⟩:=x5 (N:=N) b e;exact .inl ⟨F1,kQ.stop (Ex.sA (Ex.seq (Ex.c_ e1) (Ex.oH (by simp[dS,e2]) Ex.exit)) Zc) Zc,Zd,l⟩
 |succ d ih=>
  intro k F he v l b y e;obtain⟨F1,a1,a2,a3⟩:=x5 b e;have U:dS N F1 15=.bool true:=by show get F1 15=_;rw[a2,decide_eq_true Za]
  obtain⟨u,rfl⟩:∃u,k=u+1:=⟨k-1,Za⟩
  obtain⟨n0,ai⟩:=X.cmp;obtain⟨M,b1,f,b3⟩:=(R5 (N:=N) (cb:=cb) (g:=g) (i:=u) (L2:=L) (t:=t (u+1)) X.row Za Za (X.at_ _ Za) (X.at_ _ Za) X.keep (by rw[a3 1 Za];omega)).1 Zd Zd
  have W:∃n,∀k,n<=k->cw E N (run E k) (some H.length) r6 F1 H=some (M,H):=⟨n0,λk v=>b1 _ (by
   grind)⟩
  have Y:=λs P=>(b3 s P).trans (a3 s P)
  cases w:t (u+1)with
  |false=>
   rw[w]at f;obtain⟨T,m,o,h⟩:=(Ik (E:=E) (F:=M) (p:=u+1) Za).2.2 Zd
   have z:Ex E N O1 F H .norm T H:=Ex.seq (Ex.seq (Ex.c_ a1) (Ex.lW U Ex.skip)) (Ex.seq (Ex.block (Ex.seq (Ex.JJ (by decide) W) (Ex.oH (by simp[dS,f]) Ex.skip))) (Ex.c_ m))
   rcases ih (u+1+1) T Za Za (λi R Z=>by
    grind) Zd Ze o with⟨F',i1,i2⟩|⟨F',D,i1,i2⟩
   .exact .inl ⟨F',kQ.step z i1,i2⟩
   exact .inr ⟨F',D,kQ.step z i1,i2⟩
  |true=>
   rw[w]at f;refine .inr ?_;obtain⟨T,m,o,h⟩:=x7 (E:=E) (N:=N) (H:=H) (k:=u+1) (by rw[Y 0 Za];exact b) (by rw[Y 5 Za];exact e) Za
   have G:kept t (u+1)=range (u+1):=AM _ l;have V:kept t (u+1+1)=range (u+1):=by rw[uZ,G,w];simp
   have q4:∀call,cw E N call none r8 T H=some (set T 7 (.int .i64 1),H):=λcall=>vp rfl (by simp[f_,dS,bO]) qz
   have h0:Head g cb id off L (u+1) 1 rs A t (set T 7 (.int .i64 1)) rs:=⟨by rw[iV _ _ Za,h 0 Za Za,Y 0 Za];exact b,by rw[iV _ _ Za,h 1 Za Za,Y 1 Za];exact y,
    by rw[iV _ _ Za,h 5 Za Za,Y 5 Za,V,length_range];exact e,by rw[iV _ _ Za];exact o,by rw[rJ];rfl,rfl,
    λp i B=>by rw[V]at B;obtain⟨R,Z⟩:=ζe.1 B;simp at R Z;subst Z;exact X.at_ p Za,λi _ Z=>X.at_ i Z,λ_ _=>rfl,λi hi=>⟨i,hi,X.at_ i hi⟩⟩
   obtain⟨F5,C,l1,I⟩:=I_ (N:=N) X Za Za w (L-(u+1)-1) 1 _ rs Za Za h0
   rw[S]at l1;have eL:u+1+(L-(u+1))=L:=Za
   have ae:=xZ (t:=t) (k:=u+1) Za w L Za
   have r:=I.f5;have J:=I.pre;rw[eL]at r J;generalize hK:(kept t L).length=K at *;have ab:(H.set id (.row 1 C))[id]?=some (.row 1 C):=getElem?_set_self Q;obtain⟨F6,w1,w2⟩:=UB (E:=E) (N:=N) (p:=K) ab I.f0 r Za (by rw[I.len];omega)
   rw[set_set]at w1;obtain⟨F7,w3,w4⟩:=OT (E:=E) (by rw[w2 0 Za];exact I.f0) (by rw[w2 5 Za];exact r) Za
   have aj:=I.len;refine⟨F7,C.take (off+K)++replicate (L-K) [.bL]++C.drop (off+L),kQ.stop (Ex.seq (Ex.seq (Ex.c_ a1) (Ex.lW U Ex.skip)) (Ex.sA (Ex.LS (Ex.seq (Ex.JJ (by decide) W) (Ex.lW (by simp[dS,f]) (Ex.seq (Ex.c_ m) (Ex.seq (Ex.seq (Ex.c_ q4) (Ex.tA (Ex.loop l1))) (Ex.seq (Ex.c_ w1) (Ex.seq (Ex.c_ w3) Ex.ret))))))) Zc)) Zc,w4,?_,λp i B=>?_,λc a=>?_⟩
   .simp;omega
   .have ak:p<K:=by rw[<-hK];exact(ζe.1 B).1
    rw[append_assoc,getElem?_append_left (by simp;omega),getElem?_take,if_pos Za]
    exact J p i B
   have ad:∀j x,C[j]?=some x->x∈rs:=λj x O=>by by_cases ho:j<off\/off+L<=j;rw[I.out j ho]at O;exact mem_of_getElem? O;obtain⟨i,rfl⟩:∃i,j=off+i:=⟨j-off,Za⟩;obtain⟨q,hq,a⟩:=I.cell i Za;rw[a]at O;cases O;exact mem_of_getElem? (X.at_ q hq)
   rcases mem_append.1 a with a|a
   .rcases mem_append.1 a with a|a
    .obtain⟨j,O⟩:=getElem?_of_mem (List.mem_of_mem_take a);exact .inl (ad j c O)
    exact .inr (List.eq_of_mem_replicate a)
   obtain⟨j,O⟩:=getElem?_of_mem (List.mem_of_mem_drop a);exact .inl (ad j c O)
end
end cmpX
def xD(E:Env)(g:Zk)(cb:Zu)(a b:V):bt Zl:=match Az E g cb a b with|some (.bool c)=>some c|_=>none
theorem Rt{E:Env}{g:Zk}{cb:Zu}{a b:V}{c:Zl}(h:xD E g cb a b=some c):∃n,∀k,n<=k->bY (run E k) g (a::b::cb) []=some (.bool c):=by
 unfold xD at h;split at h;next c' d=>cases h;exact CK d
 cases h
def kP(xs:Zt)(i:Nat):V:=iW ((xs[i]?).getD [])
def wz(E:Env)(es:Nat)(xs:Zt):Zu->bt Zt
 |[.clo g [] cb]=>if xs.isEmpty then some []else if sP es xs&& !E.keep g then
  if(range xs.length).all λi=>i==0||(xD E g cb (kP xs i) (kP xs (i-1))).isSome then
   some ((kept (λi=>(xD E g cb (kP xs i) (kP xs (i-1))).getD false) xs.length).map λi=>(xs[i]?).getD [])
  else none
  else none
 |_=>none
def rE(E:Env):De:=⟨true,wz E⟩
namespace cmpX
section
variable{E:Env}{N:Nat->Zk}{g:Zk}{cb:Zu}{H:bC}{id off L:Nat}{rs:Zt}{A:Nat->V}{t:Nat->Zl}
theorem whole(X:Em E g cb H id off L rs A t):∃F' B,Ex E N code [.hsl id 1 off L,.clo g [] cb] H .ret F' (H.set id (.row 1 B))/\get F' 4=.hsl id 1 off (kept t L).length/\Mt off L rs A t B:=by
 have u:H.set id (.row 1 rs)=H:=ql X.row;have same:(∀i,0<i->i<L->t i=false)->(kept t L).length=L/\Mt off L rs A t rs:=λh=>by have d:=AM L h;rw[d,length_range];exact⟨rfl,rfl,λp i Q=>by rw[d]at Q;have⟨a,w⟩:=ζe.1 Q;simp at a w;subst w;exact X.at_ p a,λc b=>.inl b⟩
 have g1:∀call,cw E N call none r1 [.hsl id 1 off L,.clo g [] cb] H=some (set [.hsl id 1 off L,.clo g [] cb] 4 .bL,H):=λcall=>vp (v:=.bL) rfl (by simp[f_,dS,bO]) qz;have k0:get (set [V.hsl id 1 off L,.clo g [] cb] 4 .bL) 0=.hsl id 1 off L:=rfl;have k1:get (set [V.hsl id 1 off L,.clo g [] cb] 4 .bL) 1=.clo g [] cb:=rfl;generalize set [V.hsl id 1 off L,.clo g [] cb] 4 .bL=S at *;have⟨F1,a1,a2,z⟩:=x2 (E:=E) (N:=N) (H:=H) k0;by_cases T:L<2;have⟨C,D,G⟩:=Mf (E:=E) (N:=N) (F:=F1) (H:=H);have⟨e1,e2⟩:=same λi a w=>by omega
 refine⟨C,rs,?_,by rw[e1,G,z 0 Za];exact k0,e2⟩;rw[u];exact Ex.seq (Ex.c_ g1) (Ex.sA (Ex.seq (Ex.c_ a1) (Ex.lW (by show get F1 10=_;rw[a2,decide_eq_true Za]) (Ex.seq (Ex.c_ D) Ex.ret))) Zc);have g4:∀call,cw E N call none r4 F1 H=some (set F1 5 (.int .i64 1),H):=λcall=>vp (v:=.int .i64 1) rfl (by simp[f_,dS,bO]) qz;have b:Ex E N (.seq (.ops r2) (.cond (.s 10) (.seq (.ops r3) (.ret)) (.skip))) S H .norm F1 H:=Ex.seq (Ex.c_ a1) (Ex.oH (by show get F1 10=_;rw[a2,decide_eq_false Za]) Ex.skip);rcases Jy (N:=N) X (L-1) 1 (set F1 5 (.int .i64 1)) Za Za (λi a w=>Za) (by rw[iV _ _ Za,z 0 Za];exact k0) (by rw[iV _ _ Za,z 1 Za];exact k1) (by rw[rJ];rfl)with⟨F',I,J,O⟩|⟨F',B,I,J,O⟩;have⟨C,D,G⟩:=Uy (E:=E) (N:=N) (F:=F') (H:=H);have⟨e1,e2⟩:=same O;refine⟨C,rs,?_,by rw[e1,G];exact J,e2⟩;rw[u];exact Ex.seq (Ex.c_ g1) (Ex.seq b (Ex.seq (Ex.seq (Ex.c_ g4) (Ex.tA (Ex.loop I))) (Ex.seq (Ex.c_ D) Ex.ret)));exact⟨F',B,Ex.seq (Ex.c_ g1) (Ex.seq b (Ex.sA (Ex.seq (Ex.c_ g4) (Ex.LS (Ex.loop I))) Zc)),J,O⟩
theorem empty{w:V}(c:V)(B:w=.bL\/w=.dF):∃F',Ex E N code [w,c] H .ret F' H/\get F' 4=w:=by
 have g1:∀call,cw E N call none r1 [w,c] H=some (set [w,c] 4 .bL,H):=λcall=>vp (v:=.bL) rfl (by simp[f_,dS,bO]) qz;have k0:get (set [w,c] 4 .bL) 0=w:=rfl;generalize set [w,c] 4 .bL=u at *;have z:lQ w=some (.int .i64 0):=by rcases B with rfl|rfl<;>rfl
 have a1:∃F1,(∀call,cw E N call none r2 u H=some (F1,H))/\get F1 10=.bool true/\get F1 0=w:=by refine⟨_,λcall=>vp (v:=w) rfl ?_<|vp (v:=.int .i64 0) rfl ?_<|vp (v:=.bool true) rfl ?_ qz,?_,?_⟩;simp[f_,dS,bO,k0];simp[f_,dS,bO,gj,z];simp[f_,dS,bO,gj,kK,ot];simp[gj];simp[gj,k0]
 have⟨F1,a1,a2,C⟩:=a1;have⟨D,G,I⟩:=Mf (E:=E) (N:=N) (F:=F1) (H:=H);exact⟨D,Ex.seq (Ex.c_ g1) (Ex.sA (Ex.seq (Ex.c_ a1) (Ex.lW a2 (Ex.seq (Ex.c_ G) Ex.ret))) Zc),by rw[I,C]⟩
end
end cmpX
theorem Mn{E:Env}{f:Zk}{nm:Zk->bt Nat}{N:Nat->Zk}(hN:∀f s,nm f=some s->N s=f)(d:E.keep f=true)(ho:E.own f=false)
 (hf:∃fi,E.ft f=some fi/\bQ ⟨E,nm,fi.ntmps⟩ false fi.body=some cmpX.code/\2<=fi.ntmps/\fi.results=[.tmp 4]):nN E f (rE E):=by
 have⟨fi,h1,h2,h3,h4⟩:=hf;have G:∀{w c:V}{H H':bC}{F':Zo}{r:V},Ex E N cmpX.code [w,c] H .ret F' H'->get F' 4=r->∃n,∀k,n<=k->run E k (.fn f) [w,c] H=some (r,H'):=λ{w c H H' F' r}K P=>by have⟨n,I⟩:=Ex.run hN h1 h2 (args:=[w,c]) (by simpa using h3) K (vs:=[r]) (by rw[h4];simp[gT,P]);exact⟨n,λk d=>(mN E d).go _ _ _ _ I⟩
 refine⟨d,ho,?_,?_,?_⟩
 .intro es z vs ys h;simp only[rE,wz]at h;refine⟨?_,λe=>by simp[rE]at e⟩
  split at h
  .split at h
   .cases h;simp
   split at h
   .split at h
    .cases h;simpa using zo _ _
    cases h
   cases h
  cases h
 .intro es vs ys h H Z ws w hw he;simp only[rE,wz]at h;split at h
  .obtain⟨q,r,rfl,R,t⟩:=hw.inv;rw[t.c8];have⟨F',e1,e2⟩:=cmpX.empty (E:=E) (N:=N) (H:=H) q he;have⟨n,I⟩:=G e1 e2;exact⟨n,[],λk d=>by rw[append_nil];exact I k d⟩
  cases h
 intro es z vs ys h H Z ws id off rs hw T U af L hz;simp only[rE,wz]at h;split at h
 .rename_i g cb;obtain⟨q,r,rfl,R,t⟩:=hw.inv;rw[t.c8];obtain⟨a',B,rfl,ha,ah⟩:∃a' B,q=.clo g a' B/\dn H Z [] a'/\dn H Z cb B:=R.jD;rw[ha.c8]at *;split at h
  .rename_i he;cases h;have:z=[]:=by simpa using he
   subst this;have e2:∃F',Ex E N cmpX.code [.hsl id es off 0,.clo g [] B] H .ret F' H/\get F' 4=.hsl id es off 0:=by have g1:∀call,cw E N call none cmpX.r1 [.hsl id es off 0,.clo g [] B] H=some (set [.hsl id es off 0,.clo g [] B] 4 .bL,H):=λcall=>vp (v:=.bL) rfl (by simp[f_,dS,bO]) qz;have k0:get (set [V.hsl id es off 0,.clo g [] B] 4 .bL) 0=.hsl id es off 0:=rfl;generalize set [V.hsl id es off 0,.clo g [] B] 4 .bL=F0 at *;have a1:∃F1,(∀call,cw E N call none cmpX.r2 F0 H=some (F1,H))/\get F1 10=.bool true/\get F1 0=.hsl id es off 0:=(by refine⟨_,λcall=>vp (v:=.hsl id es off 0) rfl ?_<|vp (v:=.int .i64 0) rfl ?_<|vp (v:=.bool true) rfl ?_ qz,?_,?_⟩;simp[f_,dS,bO,k0];simp[f_,dS,bO,gj,lQ];simp[f_,dS,bO,gj,kK,ot];simp[gj];simp[gj,k0]);have⟨F1,a1,a2,a3⟩:=a1;have⟨F2,b1,b2⟩:=cmpX.Mf (E:=E) (N:=N) (F:=F1) (H:=H);exact⟨F2,Ex.seq (Ex.c_ g1) (Ex.sA (Ex.seq (Ex.c_ a1) (Ex.lW a2 (Ex.seq (Ex.c_ b1) Ex.ret))) Zc),by rw[b2,a3]⟩
   have⟨F',e1,e3⟩:=e2;have⟨n,I⟩:=G e1 e3;refine⟨n,rs,[],λk d=>?_,rfl,⟨rfl,λj u v l=>by simp at l⟩,L⟩
   rw[append_nil,ql T];exact I k d
  rename_i am;split at h
  .rename_i O;simp only[ζh,Bool.not_eq_true']at O;have⟨c1,c3⟩:=O;obtain⟨rfl,W,Y⟩:=wP c1;split at h
   .rename_i aa;cases h;have Q:∀i,i<z.length->∃a,rs[off+i]?=some [a]/\FR H Z (kP z i) a/\a.one=true:=λi C=>by
     have⟨e,p2⟩:=Y i z[i] (ζd C);have S:off+i<rs.length:=Za
     have:=af.2 i z[i] rs[off+i] (ζd C) (by rw[getElem?_take,if_pos C,getElem?_drop,ζd S])
     rw[e]at this;have⟨y,ys,e2,r1,r2⟩:=this.inv;rw[r2.c8]at e2;have e3:kP z i=iW z[i]:=by unfold kP;rw[ζd C];rfl
     exact⟨y,by rw[ζd S,e2],by rw[e3];exact r1,by rw[r1.one];exact p2⟩
    let A:Nat->V:=λi=>match rs[off+i]?with|some (a::_)=>a|_=>.undef
    have m:∀i,i<z.length->rs[off+i]?=some [A i]/\FR H Z (kP z i) (A i)/\(A i).one=true:=λi C=>by have⟨a,p1,p2,p4⟩:=Q i C;have:A i=a:=(by show(match rs[off+i]?with|some (a::_)=>a|_=>V.undef)=a;rw[p1]);rw[this];exact⟨p1,p2,p4⟩
    have ab:∀i,i+1<z.length->∃b,xD E g cb (kP z (i+1)) (kP z i)=some b:=λi C=>by have:=all_eq_true.1 aa (i+1) (mem_range.2 C);simp only[Nat.add_sub_cancel,Bool.or_eq_true]at this;rcases this with h|h;simp at h;exact Option.isSome_iff_exists.1 h
    have X:cmpX.Em E g B H id off z.length rs A (λi=>(xD E g cb (kP z i) (kP z (i-1))).getD false):=by refine⟨T,U,W,λi C=>(m i C).1,λi C=>(m i C).2.2,c3,?_⟩;have⟨M,hM⟩:=CE (n:=z.length-1) (p:=λi k=>bY (run E k) g (kP z (i.1+1)::kP z i.1::cb) []=some (.bool ((xD E g cb (kP z (i.1+1)) (kP z i.1)).getD false))) (λi=>by have⟨b,S⟩:=ab i.1 (by have:=i.2;omega);have⟨n,I⟩:=Rt S;exact⟨n,λk d=>by rw[I k d,S];rfl⟩);have⟨L1,ai⟩:=kT ((range z.length).map (kP z));have⟨L2,aj⟩:=kT cb;have ad:∀i k,i<z.length->L1<=k->(kP z i).lvl k=true:=λi k C d=>vS d (lq.1 ai i _ (by simp[C]));refine⟨max M (max L1 L2),λk d i C ae=>?_⟩;have D:∀j,Z j->Z j/\bD (H.set id (.row 1 ae)) j=bD H j:=λj o=>⟨o,by unfold bD;rw[getElem?_set_ne];rintro rfl;exact hz o⟩;have hl:dn (H.set id (.row 1 ae)) Z (kP z (i+1)::kP z i::cb) (A (i+1)::A i::B):=.cons ((m _ C).2.1.mono D) (.cons ((m i Za).2.1.mono D) (ah.mono D));have S:=hl.Hq (k:=k) (by simp only[V.kq,ad _ k C Za,ad i k Za Za,nW (by omega:L2<=k) aj,Bool.and_self]);rw[Sj (by rw[mW];exact S) (λx K=>?_)];exact hM ⟨i,Za⟩ k Za;have⟨j,o⟩:=getElem?_of_mem K;have⟨y,hy,P⟩:=hl.get o;exact V.jW P.good
    have⟨F',ak,e1,e2,e3⟩:=cmpX.whole (N:=N) X;have⟨n,I⟩:=G e1 e2;refine⟨n,ak,[],λk d=>?_,e3.len,?_,?_⟩
    .simp only[rE,if_true,length_map,append_nil];exact I k d
    .refine⟨by simp[e3.len];have:=zo (λi=>(xD E g cb (kP z i) (kP z (i-1))).getD false) z.length;omega,λp a b hp hq=>?_⟩
     rw[getElem?_map]at hp;obtain⟨i,C,rfl⟩:=ζf.1 hp;have J:=HS (mem_of_getElem? C);have al:=(ζe.1 C).1;rw[getElem?_take,if_pos (by simpa using al),getElem?_drop,e3.pre p i C]at hq
     cases hq;rw[ζd J,getD_some];have e4:=(Y i z[i] (ζd J)).1;have e5:kP z i=iW z[i]:=by unfold kP;rw[ζd J];rfl
     rw[e4,<-e5];exact .cons (m i J).2.1 .nil
    intro c hc u l;rcases e3.all c hc with h|rfl
    .exact L c h u l
    simp at l;subst l;exact⟨.bL,.same _ rfl⟩
   cases h
  cases h
 cases h
def Sl.re{α:Type}(s:Sl α)(l:a_ α):Sl α:=match s with|.nil=>.nil|.emp=>.emp|.row _=>.row l|.part _=>.part l
def Sl.rI{α:Type}(s:Sl α)(l:a_ α):Sl α:=match s with|.nil=>.nil|.emp=>.emp|.row _|.part _=>.part l
def wS{α:Type}(s:Sl α)(p:α->α->Z6):bt (Sl α):=
 match s.l with
 |[]=>some s|x::l=>if l.length<2147483648 then
  let t:_root_.Fin (l.length+1)->_root_.Fin (l.length+1)->Z6:=λi j=>p (x::l)[i.1] (x::l)[j.1]
  if zQ t then some (s.re ((pO l.length (oC t)).toList.map λi=>(x::l)[i.1]))else none
  else none
def rW{α:Type}(l:a_ α)(p:α->α->bt Zl)(i:Nat):bt Zl:=match l[i]?,l[i-1]?with|some a,some b=>p a b|_,_=>none
def vB{α:Type}(s:Sl α)(p:α->α->bt Zl):bt (Sl α):=
 if s.l.length<=2147483648/\((range s.l.length).all λi=>i==0||(rW s.l p i).isSome)=true then
  some (s.rI ((kept (λi=>(rW s.l p i).getD false) s.l.length).filterMap (s.l[·]?)))
 else none
section
variable{S:Sys}{T:oN}{β γ δ α:Type}{Q:Out×St->bt β}{e:γ->bt β}{cf:Cf}
theorem kz.Kb(B:qq S T)(D:∀f a b xs,S.items f a b=some xs->fm S f a b xs){fn:Zk}{A:δ->Zu}{E:α->Zu}{p:δ->bt α}{sc:Zl}(F:kz S (dg S T) fn A E p sc){z:δ}{r:α}(h:p z=some r)(d:V.cG (A z)=true):
 ∃n,bY (run S.E n) fn (A z) []=some (result (E r)):=by
 have e:=F.h z (E r) Ze
 have⟨⟨rs,m'⟩,u,w⟩:=ζg.1 e;have⟨n,y,H2,e1,e2,e3⟩:=AW (vH B D) d u w;refine⟨n,?_⟩;have C:borrows n [] (A z)=some (A z):=by have c:=V.mU d;generalize A z=l at c;unfold borrows;induction l with|nil=>rfl|cons x l G=>simp[V.gP]at c;simp[gO,ei n [] c.1,G c.2]
 unfold bY;rw[mW,C];simp[e1 n (le_refl _),e2 n (le_refl _),V.jW e3]
section
variable[bF α]
theorem B1(b:bF.size α=1){l:a_ α}(B:l.length<=2147483648):sP (bF.size α) (rows l)=true:=by unfold sP;simp;refine⟨⟨b,λx u=>?_⟩,by simpa[rows]using B⟩;obtain⟨a,_,rfl⟩:=mem_map.1 u;exact⟨by rw[fF,b],all_eq_true.1 (bF.one a)⟩
theorem DX(b:bF.agg α=false)(a:α):iW (cells a)=enc a:=by unfold enc;rw[if_neg Zd];rfl
theorem AF(l:a_ α)(i:Nat)(h:i<l.length):(rows l)[i]?=some (cells l[i]):=by unfold rows;grind
theorem Pu(O:qq S T)(U:∀f a b xs,S.items f a b=some xs->fm S f a b xs){g:Zk}{p:α->α->Z6}(F:kz S (dg S T) g (λz:α×α=>[enc z.1,enc z.2]) (λr:Int=>[.int .i64 r]) (λz=>p z.1 z.2) true)
 (c:bF.size α=1)(W:bF.agg α=false){s D:Sl α}(h:wS s p=some D):xI S.E (bF.size α) (rows s.l) [.clo g [] []]=some (rows D.l)/\D.k=s.k:=by
 unfold wS at h;split at h
 next B=>cases h;rw[B];exact⟨rfl,rfl⟩
 rename_i x l B;split at h
 .dsimp only at h;split at h
  .rename_i I;cases h;rw[B];have⟨u,J⟩:=pP I;have C:=B1 c (l:=x::l) Zd
   have key:∀m,m=l.length->(if zQ (λi j:_root_.Fin (m+1)=>rR S.E g [] (iW (((rows (x::l))[i.1]?).getD [])) (iW (((rows (x::l))[j.1]?).getD [])))then
    some ((pO m (oC (λi j:_root_.Fin (m+1)=>rR S.E g [] (iW (((rows (x::l))[i.1]?).getD [])) (iW (((rows (x::l))[j.1]?).getD []))))).toList.map λi=>((rows (x::l))[i.1]?).getD [])else none)=
    some (rows ((pO l.length (oC λi j:_root_.Fin (l.length+1)=>p (x::l)[i.1] (x::l)[j.1])).toList.map λi=>(x::l)[i.1])):=by
    rintro m rfl;have e1:∀i:_root_.Fin (l.length+1),iW (((rows (x::l))[i.1]?).getD [])=enc (x::l)[i.1]:=λi=>by rw[AF (x::l) i.1 i.2,getD_some,DX W]
    have e2:(λi j:_root_.Fin (l.length+1)=>rR S.E g [] (iW (((rows (x::l))[i.1]?).getD [])) (iW (((rows (x::l))[j.1]?).getD [])))=λi j=>p (x::l)[i.1] (x::l)[j.1]:=by funext i j;have⟨z,L⟩:=u i j;rw[e1 i,e1 j,L];have⟨n,Q⟩:=F.Kb O U (z:=((x::l)[i.1],(x::l)[j.1])) L (by simp[V.cG,jP]);unfold rR;rw[Hz Q];rfl
    rw[e2,if_pos I]
    congr 1
    unfold rows;rw[List.map_map];refine List.map_congr_left λi _=>?_
    grind
   have w:(s.re ((pO l.length (oC λi j:_root_.Fin (l.length+1)=>p (x::l)[i.1] (x::l)[j.1])).toList.map λi=>(x::l)[i.1])).l=(pO l.length (oC λi j:_root_.Fin (l.length+1)=>p (x::l)[i.1] (x::l)[j.1])).toList.map (λi=>(x::l)[i.1])/\(s.re ((pO l.length (oC λi j:_root_.Fin (l.length+1)=>p (x::l)[i.1] (x::l)[j.1])).toList.map λi=>(x::l)[i.1])).k=s.k:=by cases s<;>simp[Sl.l]at B<;>exact⟨rfl,rfl⟩
   refine⟨?_,w.2⟩;rw[w.1,<-key (rows l).length (gC l)];have d:(sP (bF.size α) (rows (x::l))&& !S.E.keep g)=true:=by rw[C,F.k];rfl
   have G:=d;exact(if_pos G).trans rfl
  simp_all
 simp_all
theorem Pz(Y:qq S T)(d:∀f a b xs,S.items f a b=some xs->fm S f a b xs){g:Zk}{p:α->α->bt Zl}(F:kz S (dg S T) g (λz:α×α=>[enc z.1,enc z.2]) (λr:Zl=>[.bool r]) (λz=>p z.1 z.2) true)
 (e:bF.size α=1)(k:bF.agg α=false){s D:Sl α}(h:vB s p=some D):wz S.E (bF.size α) (rows s.l) [.clo g [] []]=some (rows D.l)/\D=s.rI D.l:=by
 have U:∀l:a_ α,(s.rI l)=s.rI (s.rI l).l:=λl=>by cases s<;>rfl
 refine⟨?_,by
  unfold vB at h;grind⟩
 unfold vB at h;split at h
 .rename_i hc;cases h;have⟨X,w⟩:=hc;have J:=B1 e X;simp only[wz]
  by_cases L:s.l=[]
  .have:(s.rI ((kept (λi=>(rW s.l p i).getD false) s.l.length).filterMap (s.l[·]?))).l=[]:=by
    cases s<;>simp[Sl.l]at L<;>simp[Sl.rI,Sl.l,L,kept]
   rw[this,L];rfl
  have O:(rows s.l).isEmpty=false:=by cases o:s.l with|nil=>grind|cons a l=>rfl
  rw[O,if_neg Zc,J,F.k,if_pos (by rfl),gC]
  have e1:∀i,0<i->i<s.l.length->∃b,rW s.l p i=some b/\xD S.E g [] (kP (rows s.l) i) (kP (rows s.l) (i-1))=some b:=λi m u=>by have:=all_eq_true.1 w i (mem_range.2 u);simp at this;have⟨b,G⟩:=Option.isSome_iff_exists.1 (this.resolve_left Za);refine⟨b,G,?_⟩;have B:i-1<s.l.length:=Za;unfold rW at G;rw[ζd u,ζd B]at G;have W:∀j(I:j<s.l.length),kP (rows s.l) j=enc s.l[j]:=λj I=>(by unfold kP;rw[AF _ _ I,getD_some,DX k]);rw[W i u,W (i-1) B];have⟨n,Z⟩:=F.Kb Y d (z:=(s.l[i],s.l[i-1])) G (by simp only[V.cG,jP,Bool.and_self]);unfold xD;rw[Hz Z];rfl
  have e2:((range s.l.length).all λi=>i==0||(xD S.E g [] (kP (rows s.l) i) (kP (rows s.l) (i-1))).isSome)=true:=by grind
  rw[if_pos e2];have e3:kept (λi=>(xD S.E g [] (kP (rows s.l) i) (kP (rows s.l) (i-1))).getD false) s.l.length=kept (λi=>(rW s.l p i).getD false) s.l.length:=by refine List.filter_congr λi u=>?_;by_cases m:i=0;grind;have⟨b,q,t⟩:=e1 i Za (mem_range.1 u);simp_all
  rw[e3];have e4:(s.rI ((kept (λi=>(rW s.l p i).getD false) s.l.length).filterMap (s.l[·]?))).l=(kept (λi=>(rW s.l p i).getD false) s.l.length).filterMap (s.l[·]?):=by cases s<;>first|rfl|grind
  rw[e4]
  congr 1
  generalize c:kept (λi=>(rW s.l p i).getD false) s.l.length=Q
  have C:∀i∈Q,i<s.l.length:=λi u=>HS (c▸u)
  clear c e3 e4
  induction Q with
  |nil=>rfl|cons i Q ih=>
   have u:=C i Zc
   rw[map_cons,ih λj I=>C j (List.mem_cons_of_mem _ I),AF _ _ u,List.filterMap_cons,ζd u]
   rfl
 simp_all
theorem N9{s B:Sl α}{p:α->α->Z6}(h:wS s p=some B)(a:cN s.k=false):B=s:=by cases s<;>simp[Sl.k,cN]at a<;>simpa[wS,Sl.l]using h.symm
theorem SP(n d:Nat)(D:qq S T)(J:∀f a b xs,S.items f a b=some xs->fm S f a b xs){fn g:Zk}(G:S.prm fn=some (rS S.E)){p:α->α->Z6}
 (F:kz S (dg S T) g (λz:α×α=>[enc z.1,enc z.2]) (λr:Int=>[.int .i64 r]) (λz=>p z.1 z.2) true){s:Sl α}{f:Sl α->bt γ}
 (h:∀B,wS s p=some B->Le ((f B).bind e) (cF S (dg S T) Q (nx S (dg S T) n cf λq=>dy {q.st with m:=bR q.st.m d (cU B)} q.d (.v .undef))))
 (i:bF.size α=1:=by rfl)(O:bF.agg α=false:=by rfl)
 (U:(iD S (dg S T) n cf).map (λq=>(q.k,cn S.N q.st.g q.az,bB q.st.m d,q.dr))=some (.c,some [.v (.clo fn [] []),.own d,.v (.clo g [] [])],some (cU s),false):=by kernel_rfl):Le (((wS s p).bind f).bind e) (cF S (dg S T) Q cf):=by
 have⟨q,C,c⟩:=gx U;simp at c;have⟨I,L,W,X⟩:=c;refine uB C ?_ h;rw[I,X];intro y w;have⟨B,u,w⟩:=ζg.1 w;have⟨e1,e2⟩:=Pu D J F i O u;have j:=(D.prm fn _ G).keep;have Y:=(D.prm fn _ G).own;rw[Cj false _ _ _ _ _ _ fn [.own d,.v (.clo g [] [])] L rfl];have l:fV S (dg S T) q.d false (!false||q.now) (gb q.st.m q.fr) fn [.own d,.v (.clo g [] [])] q.st=some (.v .undef,{q.st with m:=bR q.st.m d (cU B)}):=by unfold fV;simp[j,Y,G,AX,W,cU,dA];have e3:=e1;simp[rS];cases k:cN s.k with|true=>grind|false=>have:=N9 u k;grind
 grind
theorem SQ(n d t:Nat)(D:qq S T)(J:∀f a b xs,S.items f a b=some xs->fm S f a b xs){fn g:Zk}(G:S.prm fn=some (rE S.E)){p:α->α->bt Zl}
 (F:kz S (dg S T) g (λz:α×α=>[enc z.1,enc z.2]) (λr:Zl=>[.bool r]) (λz=>p z.1 z.2) true){s:Sl α}{f:Sl α->bt γ}
 (h:∀B,vB s p=some B->Le ((f B).bind e) (cF S (dg S T) Q (nx S (dg S T) n cf λq=>{q.st with g:=bR q.st.g t (.own t),m:=bR (dY d q.st.m) t (cU B)})))
 (i:bF.size α=1:=by rfl)(O:bF.agg α=false:=by rfl)
 (U:(iD S (dg S T) n cf).map (λq=>(q.k,cn S.N q.st.g q.az,bB q.st.m d,q.dr,q.d,St.new {q.st with m:=dY d q.st.m} t))=some (.c,some [.v (.clo fn [] []),.own d,.v (.clo g [] [])],some (cU s),false,some t,true):=by kernel_rfl):Le (((vB s p).bind f).bind e) (cF S (dg S T) Q cf):=by
 have⟨q,C,c⟩:=gx U;simp at c;have⟨I,L,W,X,Y,Z⟩:=c;refine uB C ?_ h;rw[I,X,Y];intro y u;have⟨B,w,u⟩:=ζg.1 u;cases u;have⟨e1,e2⟩:=Pz D J F i O w;have j:=(D.prm fn _ G).keep;have k:=(D.prm fn _ G).own;rw[Cj false _ _ _ _ _ _ fn [.own d,.v (.clo g [] [])] L rfl];have l:fV S (dg S T) (some t) false (!false||q.now) (gb q.st.m q.fr) fn [.own d,.v (.clo g [] [])] q.st=some (.own t,{q.st with m:=bR (dY d q.st.m) t (cU B)}):=by unfold fV;simp[j,k,G,AX,W,cU,dA];have e3:(rE S.E).go (bF.size α) (rows s.l) [.clo g [] []]=some (rows B.l):=e1;rw[e3];simp[rE,Z];have e4:(if cN s.k=true then bN.sl .part (bF.size α) (rows B.l)else .sl s.k (bF.size α) (rows s.l))=.sl B.k (bF.size α) (rows B.l):=(by rw[e2];cases s<;>rfl);rw[e4]
 rw[l];rfl
end
end
section
variable{H H':bC}{w:V}{o:Nat}{ids:Zv}{rows:Zt}
theorem lB.cell(n:lB H w o ids rows){p j:Nat}{r:Zu}{u:V}(a:rows[p]?=some r)(c:r[j]?=some u):
 ∃id,ids[p]?=some id/\kE 1 w (p:Int)=some (.hptr o p 0)/\dZ H (.load 1 false) [.hptr o p 0]=some (.hsl id 1 0 r.length)/\kE 1 (.hsl id 1 0 r.length) (j:Int)=some (.hptr id j 0)/\dZ H (.load 1 false) [.hptr id j 0]=some u:=by
 have D:=(ζe.1 a).1;have G:=(ζe.1 c).1;have B:rows≠[]:=by intro e;subst e;simp at a
 have C:p<ids.length:=by rw[n.len];exact D
 have z:=ζd C;refine⟨ids[p],z,?_,?_,?_,?_⟩
 .have:=n.v;rw[if_neg B]at this;subst this;simp[kE,D]
 .have b:=n.ob B;have I:=AS z a;simp[dZ,dX,b,Ob.rows,I,cut];rfl
 .simp[kE,G]
 have b:=n.r p _ r z a;simp[dZ,dX,b,Ob.rows,jb,c,cut];rfl
theorem LU{ids:Zv}(h:ids.Nodup){i j:Nat}{a:Nat}(B:ids[i]?=some a)(D:ids[j]?=some a):i=j:=by have b:=(ζe.1 B);have u:=(ζe.1 D);have⟨b,e1⟩:=b;have⟨u,e2⟩:=u;exact(List.getElem_inj h).1 (e1.trans e2.symm)
theorem lB.set(n:lB H w o ids rows){p j id:Nat}{r:Zu}{u:V}(a:rows[p]?=some r)(O:j<r.length)(B:ids[p]?=some id)(c:V.one u=true)(d:u.cells=[u]):
 ∃H',eU H (.store 1) [.hptr id j 0,u]=some (.undef,H')/\lB H' w o ids (rows.set p (r.set j u))/\H'.length=H.length/\(∀i,i≠id->H'[i]?=H[i]?):=by
 have Q:=(ζe.1 a).1;have z:rows≠[]:=by intro e;subst e;simp at a
 have b:=n.r p id r B a;have S:id<H.length:=(ζe.1 b).1;have G:(jb r).set j [u]=jb (r.set j u):=by simp[jb,List.map_set]
 have I:o≠id:=λe=>n.ne z (e▸mem_of_getElem? B)
 refine⟨H.set id (.row 1 (jb (r.set j u))),?_,⟨?_,λ_=>?_,by simp[n.len],λi J T D C=>?_,n.nd,λ_=>n.ne z⟩,Zc,λi D=>getElem?_set_ne (Ne.symm D)⟩
 .have U:(jb r)[j]?=some [r[j]]:=by simp[jb,O]
  simp only[eU,b,U,d,length_singleton,zero_add,le_refl,all_cons,c,List.all_nil,Bool.and_self,and_self,if_true,List.take_zero,nil_append];rw[<-G];simp
 .rw[n.v];have:rows.set p (r.set j u)≠[]:=by intro e;apply z;simpa using e
  rw[if_neg z,if_neg this,List.length_set]
 .rw[getElem?_set_ne (Ne.symm I),E0 a Zc];exact n.ob z
 by_cases e:i=p
 .subst e;rw[B]at D;cases D;rw[getElem?_set_self Q]at C;cases C;rw[getElem?_set_self S]
 rw[getElem?_set_ne (Ne.symm e)]at C;have L:id≠J:=λW=>e (LU n.nd (W▸D) B)
 rw[getElem?_set_ne L];exact n.r i J T D C
end
structure jH(H:bC)(w:V)(l:List (List V))(id:Nat):Prop where
 c:∀c∈l,c.length=2/\c.all V.one=true
 v:(w=.bL/\l=[])\/∃off xs,w=.hsl id 2 off l.length/\H[id]?=some (.row 2 xs)/\off+l.length<=xs.length/\(xs.drop off).take l.length=l
section
variable{H H':bC}{w:V}{l:Zt}{id:Nat}
theorem jH.heap(n:jH H w l id)(h:∀off n,w=.hsl id 2 off n->H'[id]?=H[id]?):jH H' w l id:=⟨n.c,n.v.imp (λh=>h) λ⟨off,u,e1,e2,e3,e4⟩=>⟨off,u,e1,by rw[h _ _ e1];exact e2,e3,e4⟩⟩
theorem jH.lt(n:jH H w l id){off m:Nat}(h:w=.hsl id 2 off m):id<H.length:=by rcases n.v with⟨e,_⟩|⟨_,u,_,e2,_⟩;rw[e]at h;cases h;exact(ζe.1 e2).1
theorem jH.more(n:jH H w l id)(X:bC):jH (H++X) w l id:=n.heap λ_ _ e=>getElem?_append_left (n.lt e)
theorem jH.len(n:jH H w l id):lQ w=some (.int .i64 l.length):=by rcases n.v with⟨rfl,rfl⟩|⟨off,u,rfl,_⟩<;>rfl
theorem jH.get(n:jH H w l id){i:Nat}{c:Zu}(a:l[i]?=some c):∃p,kE 2 w (i:Int)=some p/\dZ H (.load 2 true) [p]=some (.agg c):=by
 have z:=(ζe.1 a).1;have u:=(n.c c (mem_of_getElem? a)).1;rcases n.v with⟨_,rfl⟩|⟨off,B,rfl,e2,e3,e4⟩;simp at a;refine⟨.hptr id (off+i) 0,by simp[kE,z],?_⟩;have:B[off+i]?=some c:=by rw[<-e4,getElem?_take,if_pos z,getElem?_drop]at a;exact a
 simp[dZ,dX,e2,Ob.rows,this,cut,<-u];rfl
theorem jH.tail{c:Zu}(n:jH H w (c::l) id):∃w',gX 2 w (some 1) none=some w'/\jH H w' l id/\∃off m B,w=.hsl id 2 off m/\w'=.hsl id 2 B l.length:=by
 rcases n.v with⟨_,e⟩|⟨off,u,rfl,e2,e3,e4⟩;cases e;refine⟨.hsl id 2 (off+1) l.length,?_,⟨λc a=>n.c c (List.mem_cons_of_mem _ a),.inr ⟨off+1,u,rfl,e2,by simp at e3;omega,?_⟩⟩,⟨_,_,_,rfl,rfl⟩⟩;simp[gX,dW];omega;have z:(u.drop off).drop 1=u.drop (off+1):=by rw[List.drop_drop]
 rw[<-z];have:=congrArg (List.drop 1) e4;rw[List.drop_take]at this;simpa using this
theorem jH.push(n:jH H w l id){c:Zu}(a:c.length=2/\c.all V.one=true)(D:l.length+1<=2147483648):
 ∃H',eU (H++[.row 2 [c]]) (.append 2) [w,.hsl H.length 2 0 1]=some (.hsl (H.length+1) 2 0 (l.length+1),H')/\jH H' (.hsl (H.length+1) 2 0 (l.length+1)) (l++[c]) (H.length+1)/\H'.length=H.length+2/\(∀i,i<H.length->(∀off m,w=.hsl id 2 off m->i≠id)->H'[i]?=H[i]?):=by
 have e2:dH (H++[.row 2 [c]]) 2 (.hsl H.length 2 0 1)=some [c]:=by simp[dH,Ob.rows]
 have u:∀c'∈l++[c],c'.length=2/\c'.all V.one=true:=λc' h=>by rcases mem_append.1 h with h|h;exact n.c c' h;simp at h;subst h;exact a
 rcases n.v with⟨rfl,rfl⟩|⟨off,G,rfl,g2,g3,g4⟩
 .have e1:dH (H++[.row 2 [c]]) 2 .bL=some []:=rfl;refine⟨H++[.row 2 [c]]++[.row 2 [c]],?_,⟨u,.inr ⟨0,[c],rfl,Zc,Zc,rfl⟩⟩,Zc,λi B _=>by rw[append_assoc,getElem?_append_left B]⟩
  simp only[eU,e1,e2,gE,List.length_nil,length_singleton,map_some];simp
 have z:=(ζe.1 g2).1;have e1:dH (H++[.row 2 [c]]) 2 (.hsl id 2 off l.length)=some l:=by simp only[dH,if_true,getElem?_append_left z,g2,ζb,Ob.rows,g3,g4]
 have C:gE (H++[.row 2 [c]]) (.hsl id 2 off l.length)=some (List.set (H++[Ob.row 2 [c]]) id Ob.dead):=by simp only[gE,getElem?_append_left z,g2]
 refine⟨List.set (H++[Ob.row 2 [c]]) id Ob.dead++[Ob.row 2 (l++[c])],?_,⟨u,.inr ⟨0,l++[c],Zc,Zc,Zc,take_of_length_le Zc⟩⟩,Zc,λi B h=>?_⟩
 .simp only[eU,e1,e2,C,length_singleton,D,if_true,map_some,ζi]
 rw[getElem?_append_left (by simp;omega),getElem?_set_ne (Ne.symm (h _ _ rfl)),getElem?_append_left B]
end
def y_(rs:a_ RV):Out×St->bt bN
 |(.exit _,_)=>none|(_,st)=>(kj st rs).bind λl=>match l with
  |[.own d]=>bB st.m d|_=>none
theorem RA{S:Sys}{c:cg}{rs:a_ RV}{a:RC}{st:St}{ob:bN}(h:jT S c (y_ rs) a [] st=some ob):∃o st' d,cM S c a st=some (o,st')/\(∀id,o≠.exit id)/\kj st' rs=some [.own d]/\bB st'.m d=some ob:=by
 rw[pI]at h;have⟨⟨o,st'⟩,b,u⟩:=ζg.1 h;have z:∀id,o≠.exit id:=by rintro id rfl;simp[y_]at u
 have B:(kj st' rs).bind (λl=>match l with|[.own d]=>bB st'.m d|_=>none)=some ob:=by cases o with|exit id=>exact absurd rfl (z id)|norm=>exact u|ret=>exact u
 have⟨l,C,w⟩:=ζg.1 B;split at w;exact⟨o,st',_,b,z,C,w⟩;cases w
theorem RZ{S:Sys}{T:oN}(U:qq S T)(W:∀f a b xs,S.items f a b=some xs->fm S f a b xs){f:Zk}{rf:RF}(Y:T f=some rf){B:Zu}(c:V.cG B=true)(g:B.length<=rf.na){k:Fl}{es:Nat}{xs:Zt}
 (l:∀x∈xs,x.all V.scalar=true)(m:k=.row\/k=.nil/\xs=[])(h:jT S (dg S T) (y_ rf.rs) rf.body [] (start (B.map .v) [])=some (.sl k es xs)):
 ∃n y H',run S.E n (.fn f) B []=some (y,H')/\((k=.nil/\y=.bL)\/(∃id,y=.hsl id es 0 xs.length/\H'[id]?=some (.row es xs))):=by
 have⟨o,st',d,r,Q,G,I⟩:=RA h;have s:dg S T f (B.map .v) []=some ([.own d],st'.m):=by rw[qA Y];unfold l8;rw[if_pos (by simpa using g),r];cases o with|exit id=>exact absurd rfl (Q id)|norm=>simp only[G,map_some]|ret=>simp only[G,map_some]
 have⟨X,r1⟩:=ve c;obtain⟨n,y,H2,ν',Z',st2,F',J,g1,rfl,g3,g4,g5,_⟩:=vH U W f _ _ _ _ s _ _ B [] (.inr rfl) X r1;obtain⟨z,F,rfl,e1,e2⟩:=g4.inv;have:=e2.c8;subst this;refine⟨n,_,H2,g1,?_⟩
 cases e1 with
 |own d y Z=>
  have⟨H,K,M,e,u⟩:=Z _ I;cases e;have w:=g5.obj d _ (by rw[g3];exact I)
  rcases m with rfl|⟨rfl,rfl⟩
  .right;simp only[dV,cN,if_true]at w;have⟨J,t,N,D,P,C⟩:=w;have⟨C,v⟩:=C trivial;rw[C,drop_zero,<-v,take_of_length_le (le_refl _)]at D;have:xs=J:=by
    refine List.ext_getElem D.1 λi p q=>?_
    have L:=D.2 i _ _ (ζd p) (ζd q);refine List.ext_getElem L.1 λj O A=>?_
    have E:=L.2 j _ _ (ζd O) (ζd A);exact((E.scalar).1 (all_eq_true.1 (l _ (getElem_mem p)) _ (getElem_mem O))).symm
   subst this;refine⟨(ν' d).1,?_,t⟩;show result [_]=_;rw[u];simp[result,ri,C]
  left;exact⟨rfl,by show result [_]=_;rw[u];rfl⟩
theorem FZ{E:Env}{f:Zk}{B:Zu}{l:Zt}{y:V}{H1:bC}(d:E.own f=true)(e:V.cG B=true)(D:∀c∈l,c.length=2/\c.all V.one=true/\c.all V.scalar=true)
 (b:∃n,∀k,n<=k->run E k (.fn f) B []=some (y,H1))(G:(l=[]/\y=.bL)\/(∃id,y=.hsl id 2 0 l.length/\H1[id]?=some (.row 2 l)))(H:bC):
 ∃w X id,(∃n,∀k,n<=k->eX E (run E k) f B H=some (w,H++X))/\jH (H++X) w l id/\(∀off m,w=.hsl id 2 off m->id=H.length):=by
 have⟨n,b⟩:=b;have C:∀{k:Nat}{l:Zu},V.cG l=true->borrows k H l=some l:=by intro k l;unfold borrows;induction l with|nil=>intro _;rfl|cons a l I=>intro h;have g:V.good a=true/\V.cG l=true:=(by simpa[V.cG]using h);simp only[gO,ei k H (V.jW g.1),I g.2]
 rcases G with⟨rfl,rfl⟩|⟨id,rfl,z⟩
 .refine⟨.bL,[],0,⟨n,λk u=>?_⟩,⟨λc h=>by simp at h,.inl ⟨rfl,rfl⟩⟩,λoff m h=>by cases h⟩
  simp only[eX,d,if_true,jR,C e,b k u,V.scalar,append_nil]
 refine⟨.hsl H.length 2 0 l.length,[.row 2 l],H.length,⟨n,λk u=>?_⟩,⟨λc h=>⟨(D c h).1,(D c h).2.1⟩,.inr ⟨0,l,rfl,Zc,Zc,Zc⟩⟩,λoff m h=>rfl⟩
 have J:(l.all λx=>x.all V.scalar)=true:=all_eq_true.2 λc h=>(D c h).2.2
 simp only[eX,d,if_true,jR,C e,b k u,V.scalar,false_eq_true,if_false,qa,z,J,and_self,map_some]
def Sl.whole{α:Type}(s:Sl α):bt (Sl α):=match s with|.part _=>none|s=>some s
structure Fe(S:Sys)(c:cg){α δ:Type}[bF δ](fn:FuncId)(A:α->List V)(p:α->Option (Sl δ)):Prop where
 k:S.E.keep fn=true
 o:S.E.own fn=true
 h:∀z s,p z=some s->∃e m',c fn ((A z).map .v) []=some ([.own e],m')/\bB m' e=some (cU s)
 sc:∀x:δ,(cells x).all V.scalar=true
theorem Fe.mk'{S:Sys}{T:oN}{α δ:Type}[bF δ](rf:RF){fn:Zk}{A:α->Zu}{p:α->bt (Sl δ)}(h:∀z,Le ((p z).bind λr=>some (cU r)) (cF S (dg S T) (y_ rf.rs) (.rc rf.body,[],start ((A z).map .v) [])))
 (B:T fn=some rf:=by kernel_rfl)(b:S.E.keep fn=true:=by kernel_rfl)(D:S.E.own fn=true:=by kernel_rfl)(G:∀z,(A z).length<=rf.na:=by intro z;exact Nat.le_of_ble_eq_true (by kernel_rfl))
 (sc:∀x:δ,(cells x).all V.scalar=true:=by intro x;rfl):Fe S (dg S T) fn A p where
 k:=b
 o:=D
 sc:=sc
 h z s u:=by have a:=h z (cU s) (by rw[u];rfl);change jT S (dg S T) (y_ rf.rs) rf.body [] (start ((A z).map .v) [])=some (cU s)at a;have⟨o,st',d,g1,g2,g3,g4⟩:=RA a;refine⟨d,st'.m,?_,g4⟩;rw[qA B];unfold l8;rw[if_pos (by simpa using G z),g1];cases o with|exit id=>exact absurd rfl (g2 id)|norm=>simp only[g3,map_some]|ret=>simp only[g3,map_some]
section
variable{S:Sys}{c:cg}{β γ δ α:Type}[bF δ]{Q:Out×St->bt β}{e:γ->bt β}{cf:Cf}
theorem RX(n u:Nat){fn:Zk}{A:α->Zu}{p:α->bt (Sl δ)}(F:Fe S c fn A p)(z:α){f:Sl δ->bt γ}
 (h:∀x,(p z).bind Sl.whole=some x->Le ((f x).bind e) (cF S c Q (nx S c n cf λq=>{q.st with g:=bR q.st.g u (.own u),m:=bR q.st.m u (cU x)})))
 (J:(iD S c n cf).map (λq=>(q.d,q.k,(cn S.N q.st.g q.az).bind n_,(!q.dr||q.now),q.st.new u))=some (some u,.c,some (fn,(A z).map .v),true,true):=by kernel_rfl):Le ((((p z).bind Sl.whole).bind f).bind e) (cF S c Q cf):=by
 have⟨q,L,b⟩:=gx J;simp only[ζc]at b;have⟨O,T,U,W,I⟩:=b;have⟨C,g1,g2⟩:=ζg.1 U;refine uB L ?_ h;rw[O,T];intro y D;have⟨X,G,D⟩:=ζg.1 D;cases D;have⟨s,Y,B⟩:=ζg.1 G;have⟨e0,m',d,Z⟩:=F.h z s Y;rw[Cj q.dr _ _ _ _ _ C fn ((A z).map .v) g1 g2];have w:fV S c (some u) q.dr (!q.dr||q.now) (gb q.st.m q.fr) fn ((A z).map .v) q.st=some (.own u,{q.st with m:=bR q.st.m u (cU X)}):=by unfold fV;simp only[F.k,F.o,if_true,W,vo,d,dA,Z,cU,I];cases s with|nil=>cases B;rfl|emp=>cases B;rfl|row l=>cases B;have:nH (rows l)=true:=(by unfold nH;rw[all_eq_true];intro x i;obtain⟨a,_,rfl⟩:=mem_map.1 i;exact F.sc a);simp only[Sl.k,Sl.l,dA,V.cZ,this,Bool.and_self,I,if_true];rfl|part l=>cases B
 rw[w];rfl
end
structure GD where
 m:Nat
 pre:List (Nat×List Gh)
 nd:List (Nat×List Gh×List Gh)
structure GI where
 m:Nat
 i:Nat
 j:Nat
def T5{α:Type}(l:a_ (Nat×a_ α))(i:Nat):a_ α:=match l with
 |[]=>[]|(k,x)::r=>bif beq k i then x else T5 r i
def yY(l:a_ (Nat×Z5×Z5))(i:Nat):Z5×Z5:=match l with
 |[]=>([],[])|(k,x)::r=>bif beq k i then x else yY r i
def Im(m:Nat):Zv->Zv
 |[]=>[]|x::l=>bif beq (m % 2) 1 then x::Im (m / 2) l else Im (m / 2) l
def Na:Z4->Zv
 |[]=>[]|.s n::r=>n::Na r|_::r=>Na r
def S8(o:RO):Zv:=(match o.dst with|some d=>[d]|none=>[])++(match o.gd with|some g=>[g.1]|none=>[])++Na o.az
def T_(G:GD)(s:GI)(o:RO):RO:={o with dead:=Im (bif beq (s.m % 16) 15 then s.m / 16 % 65536 else s.m % 16) (S8 o),pre:=T5 G.pre s.i}
def GI.op(s:GI):GI:=⟨bif beq (s.m % 16) 15 then s.m / 1048576 else s.m / 16,s.i+1,s.j⟩
def yg(G:GD):Zx->GI->Zx×GI
 |[],s=>([],s)|o::r,s=>(T_ G s o::(yg G r s.op).1,(yg G r s.op).2)
def yo:Z5->RC->RC
 |[],c=>c|g::l,c=>.gh g (yo l c)
def KL:Z5->RC->RC
 |[],c=>c|g::l,c=>KL l (.hg c g)
def GI.nd(s:GI):GI:=⟨s.m,s.i,s.j+1⟩
def iZ(G:GD):RC->GI->RC×GI
 |.seq a b,s=>(yo (yY G.nd s.j).1 (.seq (iZ G a s.nd).1 (iZ G b (iZ G a s.nd).2).1),(iZ G b (iZ G a s.nd).2).2)|.cond x a b,s=>(yo (yY G.nd s.j).1 (.cond x (iZ G a s.nd).1 (iZ G b (iZ G a s.nd).2).1),(iZ G b (iZ G a s.nd).2).2)|.block id a,s=>(yo (yY G.nd s.j).1 (.block id (iZ G a s.nd).1),(iZ G a s.nd).2)|.loop a,s=>(yo (yY G.nd s.j).1 (.loop (KL (yY G.nd s.j).2 (iZ G a s.nd).1)),(iZ G a s.nd).2)|.each g ps a b,s=>(yo (yY G.nd s.j).1 (.each g ps (iZ G a s.nd).1 (KL (yY G.nd s.j).2 (iZ G b (iZ G a s.nd).2).1)),(iZ G b (iZ G a s.nd).2).2)|.ops l,s=>(yo (yY G.nd s.j).1 (.ops (yg G l s.nd).1),(yg G l s.nd).2)|.oG l,s=>(yo (yY G.nd s.j).1 (.oG (yg G l s.nd).1),(yg G l s.nd).2)|.gh g c,s=>(.gh g c,s)|.hg c g,s=>(.hg c g,s)|c,s=>(yo (yY G.nd s.j).1 c,s.nd)
theorem jY(c:RC):∀l,erase (yo l c)=erase c
 |[]=>rfl|g::l=>by simp only[yo,erase,jY c l]
theorem yb:∀l(c:RC),erase (KL l c)=erase c
 |[],c=>rfl|g::l,c=>by simp only[KL,yb l,erase]
theorem xh(G:GD):∀(l:Zx)s,((yg G l s).1).map RO.strip=l.map RO.strip
 |[],s=>rfl|o::r,s=>by simp only[yg,map_cons,xh G r];rfl
theorem kM(G:GD):∀(c:RC)s,erase (iZ G c s).1=erase c
 |.seq a b,s=>by simp only[iZ,jY,erase,kM G a,kM G b]|.cond x a b,s=>by simp only[iZ,jY,erase,kM G a,kM G b]|.block id a,s=>by simp only[iZ,jY,erase,kM G a]|.loop a,s=>by simp only[iZ,jY,erase,yb,kM G a]|.each g ps a b,s=>by simp only[iZ,jY,erase,yb,kM G a,kM G b]|.ops l,s=>by simp only[iZ,jY,erase,xh]|.oG l,s=>by simp only[iZ,jY,erase,xh]|.gh g c,s=>rfl|.hg c g,s=>rfl|.skip,s=>by simp only[iZ,jY]|.ret,s=>by simp only[iZ,jY]|.exit _,s=>by simp only[iZ,jY]
theorem Hg{X:CX}{dr:Zl}{ops:Zz}{i:Nat}{o:Oper}{r:RO}(h:lF X dr ops i o=some r):r.strip=r:=by obtain⟨_,_,_,_,_,_,rfl⟩:=Bx h;rfl
theorem vE{X:CX}{dr:Zl}{ops:Zz}:∀{l:Zz}{i:Nat}{r:Zx},ki X dr ops i l=some r->r.map RO.strip=r
 |[],i,r,h=>by cases h;rfl|o::l,i,r,h=>by simp only[ki]at h;split at h;(next a b B D=>cases h;simp only[map_cons,Hg B,vE D]);cases h
theorem GR{X:CX}:∀{c:Code}{ro:Zl}{r:RC},bQ X ro c=some r->erase r=r:=by intro c;induction c with|region _ ops dr=>intro ro r h;simp only[bQ]at h;split at h;split at h;obtain⟨l,d,rfl⟩:=ζf.1 h;simp only[erase,vE d];cases h;obtain⟨l,d,rfl⟩:=ζf.1 h;simp only[erase,vE d]|seq a b u w=>intro ro r h;simp only[bQ]at h;split at h;(next d z=>cases h;simp only[erase,u d,w z]);cases h|cond c a b u w=>intro ro r h;simp only[bQ]at h;split at h;(next d z=>cases h;simp only[erase,u d,w z]);cases h|block id a u=>intro ro r h;simp only[bQ]at h;obtain⟨l,d,rfl⟩:=ζf.1 h;simp only[erase,u d]|loop a u=>intro ro r h;simp only[bQ]at h;obtain⟨l,d,rfl⟩:=ζf.1 h;simp only[erase,u d]|rangeFunc g ps a b u w=>intro ro r h;simp only[bQ]at h;split at h;cases h;split at h;(next d z=>cases h;simp only[erase,u d,w z]);cases h|_=>intro ro r h;first|cases h;rfl|(simp only[bQ]at h;cases h;rfl)|(simp only[bQ]at h;cases h)
def Mx(E:Env)(nm:Zk->bt Nat)(G:Zk->bt GD):oN:=λf=>(G f).bind λg=>(E.ft f).bind λu=>(bQ ⟨E,nm,u.ntmps⟩ false u.body).bind λc=>(u.results.mapM (zk E)).bind λrs=>some ⟨u.ntmps,rs,(iZ g c ⟨g.m,0,0⟩).1⟩
theorem NB{E:Env}{nm:Zk->bt Nat}{G:Zk->bt GD}{f:Zk}{rf:RF}(h:Mx E nm G f=some rf):∃fi,E.ft f=some fi/\xx E nm fi rf:=by unfold Mx at h;have⟨g,_,h⟩:=ζg.1 h;have⟨fi,a,h⟩:=ζg.1 h;have⟨c,u,h⟩:=ζg.1 h;have⟨rs,w,h⟩:=ζg.1 h;cases h;exact⟨fi,a,by rw[u,kM,GR u],w,rfl⟩
theorem zm:∀(g:Zk)(s:Nat),some g=some s->(λn=>n) s=g:=λ_ _ h=>(Option.some.inj h).symm
def rV(o:bt RF):RF:=o.getD ⟨0,[],.skip⟩
def tb(T:oN)(f:Zk):RC:=(rV (T f)).body
def tr(T:oN)(f:Zk):a_ RV:=(rV (T f)).rs
theorem BX{o:bt RF}(h:o.isSome=true):o=some (rV o):=by cases o with
 |none=>cases h|some r=>rfl
class iX(δ:Type)where
 e:δ->List V
instance UQ{α:Type}[bF α]:iX α:=⟨λx=>[enc x]⟩
instance UT:iX Unit:=⟨λ_=>[]⟩
instance UR{α β:Type}[bF α][iX β]:iX (α×β):=⟨λx=>enc x.1::iX.e x.2⟩
@[simp] theorem Uq{α:Type}[bF α](x:α):iX.e x=[enc x]:=rfl
@[simp] theorem Ur(x:Unit):iX.e x=[]:=rfl
@[simp] theorem Ut{α β:Type}[bF α][iX β](x:α×β):iX.e x=enc x.1::iX.e x.2:=rfl
class Fc(S:Sys)(c:cg){δ:Type}(m:Option δ)where
 n:FuncId
 az:List V
 E:δ->List V
 sc:Bool
 F:kz S c n (λ_:Unit=>az) E (λ_=>m) sc
section
variable{S:Sys}{T:oN}{δ:Type}{m:bt δ}
theorem kz.Mr{E:δ->Zu}(fn:Zk)(az:Zu)(h:Le (m.bind λr=>some (E r)) (cF S (dg S T) (qB (tr T fn)) (.rc (tb T fn),[],start (az.map .v) [])))
 (B:(T fn).isSome=true)(a:S.E.keep fn=false)(D:ble az.length (rV (T fn)).na=true)
 {sc:Zl}(s:sc=true->∀r,(result (E r)).scalar=true):kz S (dg S T) fn (λ_:Unit=>az) E (λ_=>m) sc where
 k:=a
 h z:=T8 (BX B) (Nat.le_of_ble_eq_true D) h
 s:=s
abbrev Fc.NE(E:δ->a_ V)(fn:FuncId)(az:a_ V)(h:Le (m.bind λr=>some (E r)) (cF S (dg S T) (qB (tr T fn)) (.rc (tb T fn),[],start (az.map .v) [])))
 (B:(T fn).isSome=true:=by kernel_rfl)(a:S.E.keep fn=false:=by kernel_rfl)(D:ble az.length (rV (T fn)).na=true:=by kernel_rfl)
 :Fc S (dg S T) m:=
 ⟨fn,az,E,false,kz.Mr fn az h B a D λh=>nomatch h⟩
abbrev Fc.M[iX δ](fn:FuncId)(az:a_ V)(h:Le (m.bind λr=>some (iX.e r)) (cF S (dg S T) (qB (tr T fn)) (.rc (tb T fn),[],start (az.map .v) [])))
 (B:(T fn).isSome=true:=by kernel_rfl)(a:S.E.keep fn=false:=by kernel_rfl)(D:ble az.length (rV (T fn)).na=true:=by kernel_rfl)
 (s:∀r:δ,(result (iX.e r)).scalar=true:=by intro r;kernel_rfl):Fc S (dg S T) m:=
 ⟨fn,az,iX.e,true,kz.Mr fn az h B a D λ_=>s⟩
abbrev Fc.N[iX δ](fn:FuncId)(az:a_ V)(h:Le (m.bind λr=>some (iX.e r)) (cF S (dg S T) (qB (tr T fn)) (.rc (tb T fn),[],start (az.map .v) [])))
 (B:(T fn).isSome=true:=by kernel_rfl)(a:S.E.keep fn=false:=by kernel_rfl)(D:ble az.length (rV (T fn)).na=true:=by kernel_rfl)
 :Fc S (dg S T) m:=
 ⟨fn,az,iX.e,false,kz.Mr fn az h B a D λh=>nomatch h⟩
end
abbrev Fc.of{S:Sys}{c:cg}{α δ:Type}{p:α->bt δ}{n:FuncId}{A:α->a_ V}{E:δ->a_ V}{b:Bool}(z:α)(F:kz S c n A E p b):Fc S c (p z):=⟨n,A z,E,b,⟨F.k,λ_=>F.h z,F.s⟩⟩
theorem kz.uC{S:Sys}{c:cg}{α δ:Type}{p:α->bt δ}{n:Zk}{A:α->Zu}{E:δ->Zu}{b:Zl}(F:∀z,Fc S c (p z))(i:α)(B:∀z,(F z).n=n)(G:∀z,(F z).az=A z)(D:∀z,(F z).E=E)(J:∀z,(F z).sc=b):kz S c n A E p b where
 k:=by rw[<-B i];exact(F i).F.k
 h z:=by rw[<-B z,<-G z,<-D z];exact(F z).F.h ()
 s:=by rw[<-J i,<-D i];exact(F i).F.s
theorem nk.uC{S:Sys}{c:cg}{α δ:Type}{p:α->bt δ}{g:Zk}{w e:Zu}{A:α->Zu}{R:δ->Zu}{b:Zl}[i:Inhabited α][F:∀z,Fc S c (p z)](B:∀z,(F z).n=g:=by intro _;kernel_rfl)(D:∀z,(F z).az=w++A z++e:=by intro _;kernel_rfl)
 (G:∀z,(F z).E=R:=by intro _;kernel_rfl)(J:∀z,(F z).sc=b:=by intro _;kernel_rfl):nk S c g w e A R p b:=
 ⟨kz.uC F default B D G J⟩
section
variable{S:Sys}{c:cg}{β γ δ α:Type}{Q:Out×St->bt β}{e:γ->bt β}{cf:Cf}
theorem yE(n:Nat){m:bt β}(h:Le m (cF S c Q (je S c n cf)))(B:gR S c n cf.1 cf.2.1 cf.2.2=some (je S c n cf):=by kernel_rfl):Le m (cF S c Q cf):=CL B h
theorem bT(n:Nat){m:bt δ}[F:Fc S c m]{f:δ->bt γ}(h:∀x,m=some x->Le ((f x).bind e) (cF S c Q (nx S c n cf λp=>dy p.st p.d (.v (result (F.E x))))))
 (B:(iD S c n cf).map (λp=>(p.k,(cn S.N p.st.g p.az).bind n_,(!p.dr||p.now||gb p.st.m p.fr [])))=some (.c,some (F.n,F.az.map .v),true):=by kernel_rfl):Le ((m.bind f).bind e) (cF S c Q cf):=vm n F.F () h B
theorem kr(n:Nat){m:bt δ}[F:Fc S c m]{f:δ->bt γ}(h:∀x,m=some x->Le ((f x).bind e) (cF S c Q (nx S c n cf λp=>dy p.st p.d (.v (result (F.E x))))))
 (B:(iD S c n cf).map (λp=>(p.k,((cn S.N p.st.g p.az).bind n_).bind λq=>(nG (iQ p.st.m 8) q.2).map λvs=>(q.1,vs,((!p.dr||p.now)||gb p.st.m p.fr q.2))))=some (.c,some (F.n,F.az,true)):=by kernel_rfl)(D:F.sc=true:=by kernel_rfl):Le ((m.bind f).bind e) (cF S c Q cf):=
 RQ n (u D F.F) () h B
where
 u {b:Zl} {fn:Zk} {az:Zu} {E:δ->Zu} {m:bt δ} (h:b=true) (F:kz S c fn (λ_:Unit=>az) E (λ_=>m) b):kz S c fn (λ_:Unit=>az) E (λ_=>m) true:=h▸F
def Ox(cf:Cf):RC:=match cf.1 with|.rc (.loop c)=>c|_=>.skip
def BG(cf:Cf):Arg×Zv×RC×RC:=match cf.1 with|.rc (.each g ps a b)=>(g,ps,a,b)|_=>(.s 0,[],.skip,.skip)
theorem ey{σ ε ρ:Type}{step:σ->bt (Fw σ ε ρ)}(n:Nat)(eσ:σ->St)(eε:ε->Nat×St)(eρ:ρ->St){s:σ}{B:ε->bt γ}{fr:ρ->bt γ}
 (h:∀s,Le ((step s).bind λw=>some (Fw.out eσ eε eρ w)) (cF S c some (.rc (Ox (je S c n cf)),[],eσ s)))
 (D:∀x,Le ((B x).bind e) (cF S c Q (.ex (eε x).1,(je S c n cf).2.1,(eε x).2)))(a:∀b,Le ((fr b).bind e) (Q (.ret,eρ b)))
 (G:gR S c n cf.1 cf.2.1 cf.2.2=some (.rc (.loop (Ox (je S c n cf))),(je S c n cf).2.1,eσ s):=by kernel_rfl):Le (((b8 step s).bind (Fw.elim B fr)).bind e) (cF S c Q cf):=
 LM G h D a
theorem jN{σ ε:Type}{step:σ->bt (Fw σ ε Empty)}(n:Nat)(eσ:σ->St)(eε:ε->Nat×St){s:σ}{B:ε->bt γ}{fr:Empty->bt γ}
 (h:∀s,Le ((step s).bind λw=>some (Fw.out eσ eε (λe=>Empty.elim e) w)) (cF S c some (.rc (Ox (je S c n cf)),[],eσ s)))
 (D:∀x,Le ((B x).bind e) (cF S c Q (.ex (eε x).1,(je S c n cf).2.1,(eε x).2)))
 (G:gR S c n cf.1 cf.2.1 cf.2.2=some (.rc (.loop (Ox (je S c n cf))),(je S c n cf).2.1,eσ s):=by kernel_rfl):Le (((b8 step s).bind (Fw.elim B fr)).bind e) (cF S c Q cf):=
 LM G h D λb=>Empty.elim b
theorem Es{σ ε ρ:Type}{f:Zk}{x y:Zu}{a:a_ α}{eI:α->Zu}{step:α->σ->bt (Fw σ ε ρ)}(n:Nat)(d:Tb SV)(eσ:σ->Tb bN)(eε:ε->Nat×Tb bN)(eρ:ρ->Tb bN){s:σ}{fn:σ->bt γ}{B:ε->bt γ}{fr:ρ->bt γ}
 (D:S.items f x y=some (a.map eI))
 (h:∀x s,Le ((step x s).bind λw=>some (Fw.uI eσ eε eρ w)) (cF S c (wQ S c (BG (je S c n cf)).2.2.2) (.rc (BG (je S c n cf)).2.2.1,[],⟨vl d (BG (je S c n cf)).2.1 ((eI x).map .v),eσ s,oM d,[],true,0⟩)))
 (G:∀s,Le ((fn s).bind e) (cF S c Q (.nx,(je S c n cf).2.1,bS d (eσ s))))(J:∀x,Le ((B x).bind e) (cF S c Q (.ex (eε x).1,(je S c n cf).2.1,bS d (eε x).2)))(g:∀b,Le ((fr b).bind e) (Q (.ret,bS d (eρ b))))
 (O:∀x,(eI x).length=(BG (je S c n cf)).2.1.length:=by intro _;kernel_rfl)(i:pT S.N d (BG (je S c n cf)).1=some (.v (.clo f x y)):=by kernel_rfl)
 (U:gR S c n cf.1 cf.2.1 cf.2.2=some (.rc (.each (BG (je S c n cf)).1 (BG (je S c n cf)).2.1 (BG (je S c n cf)).2.2.1 (BG (je S c n cf)).2.2.2),(je S c n cf).2.1,bS d (eσ s)):=by kernel_rfl):Le (((nJ step a s).bind (Fw.uY fn B fr)).bind e) (cF S c Q cf):=
 Sc U i D O h G J g
def Q6(n k:Nat)(B:Zv)(d:Nat)(S:Sys)(c:cg)(cf:Cf)(v:SV):Cf:=jmp k [] (je S c n cf) {(je S c n cf).2.2 with g:=bR (oF B (je S c n cf).2.2.g) d v}
theorem ck[bF δ](n k:Nat)(B:Zv)(d:Nat){m:bt δ}{f:δ->bt γ}(D:Le (m.bind λr=>cF S c Q (Q6 n k B d S c cf (cv r))) (cF S c Q cf))(a:∀r,Le ((f r).bind e) (cF S c Q (Q6 n k B d S c cf (cv r)))):Le ((m.bind f).bind e) (cF S c Q cf):=OX _ D a
end
instance{n:Nat}:DecidableEq (cB n Int):=λa b=>if h:a.l=b.l then .isTrue (by cases a;cases b;cases h;rfl)else .isFalse λe=>h (by rw[e])
theorem tR:∀l:Zy,gY ((l.map (cells (α:=Int))).flatten)=some l
 |[]=>rfl|a::l=>by show gY (.int .i64 a::(l.map (cells (α:=Int))).flatten)=_;simp only[gY,tR l,map_some]
theorem KR(l:Zy):(l.map (cells (α:=Int))).flatten=l.map (V.int .i64):=by induction l with|nil=>rfl|cons a l u=>simp only[map_cons,List.flatten_cons,u];rfl
instance{n:Nat}:Key (cB n Int)where
 kk:=.ints n
 ok a:=by show((a.l.map (cells (α:=Int))).flatten.length==n&&(gY (a.l.map (cells (α:=Int))).flatten).isSome)=true;rw[tR,KR,length_map,a.len];simp
 eq a b:=by show j8 (a.l.map (cells (α:=Int))).flatten (b.l.map (cells (α:=Int))).flatten=_;unfold j8;rw[tR,tR];simp only[a.len,b.len,if_true];congr 1;rw[Bool.eq_iff_iff,beq_iff_eq,decide_eq_true_iff];exact⟨λh=>by cases a;cases b;cases h;rfl,λh=>by rw[h]⟩
section
variable{S:Sys}{c:cg}{β γ δ α:Type}{Q:Out×St->bt β}{e:γ->bt β}{cf:Cf}
end
section
variable{S:Sys}{c:cg}{β γ δ:Type}{Q:Out×St->bt β}{e:γ->bt β}{cf:Cf}{κ ν:Type}[bF κ][DecidableEq κ][Key κ][bF ν]
structure TR(κ ν:Type)where
 o:Option (Mo κ ν)
 deriving Inhabited
def Sp(m:TR κ ν):V:=match m.o with|none=>.fZ|some l=>.fmap (nE l)
theorem Km(m:Mo κ ν):V.rG (nE m)=true:=by induction m with|nil=>rfl|cons x r u=>show V.rG ((enc x.1,enc x.2)::nE r)=true;simp only[V.rG,jP,u,Bool.and_self]
instance:bF (TR κ ν)where
 cells m:=[Sp m]
 agg:=false
 size:=1
 len _:=rfl
 good m:=by unfold Sp;split;rfl;simp only[V.cG,V.good,Km,Bool.and_self]
 one m:=by unfold Sp;split<;>rfl
 plain _:=rfl
end
theorem kz.scalar{S:Sys}{c:cg}{α δ:Type}{fn:Zk}{A:α->Zu}{E:δ->Zu}{p:α->bt δ}{b:Zl}(F:kz S c fn A E p b)(h:∀r,(result (E r)).scalar=true):kz S c fn A E p true:=⟨F.k,F.h,λ_=>h⟩
section
variable{S:Sys}{c:cg}{β γ δ α:Type}[bF α]{Q:Out×St->bt β}{e:γ->bt β}{cf:Cf}
theorem Oa{ω:Type}[bF ω](n u:Nat){N:Nat}(a:cB N α)(i:Int)(o:Nat)(x:α)(D:a.at i=some x)(y:α)(w:ω)(G:cells y=(cells x).take o++cells w++(cells x).drop (o+bF.size ω)){m:bt β}(h:Le m (cF S c Q (nx S c n cf λp=>dy {p.st with m:=bR p.st.m u (bx (a.set i y))} p.d (.v .undef))))
 (J:(iD S c n cf).map (λp=>(p.k,cn S.N p.st.g p.az,bB p.st.m u,(!p.dr||p.now),ble (o+bF.size ω) (bF.size α)))=some (.l (.store (bF.size ω)),some [.ptr u (i.toNat*bF.size α+o),cv w],some (bx a),true,true):=by kernel_rfl):Le m (cF S c Q cf):=by
 have⟨p,B,z⟩:=gx J;simp only[ζc]at z;have⟨b,C⟩:=jw B;have⟨dr,fr,d,gd,now,U,az,dd,l,fs,st⟩:=p;obtain⟨rfl,I,L,O,T⟩:=z;exact Tu n dr fr (⟨d,gd,now,.l (.store (bF.size ω)),az,dd,[]⟩::l) fs st u a i o x D y (enc w) (by rw[lS];exact G) rfl (by(try dsimp only at *);simp only[b,C,I,L,O,T,lS,fF,pH]) (by
  simp only[nx,B]at h;exact h)
end
def Ed(rs:a_ RV):Out×St->bt (bN×Zu)
 |(.exit _,_)=>none|(_,st)=>(kj st rs).bind λl=>match l with
  |.own d::r=>(bB st.m d).bind λob=>(dA r).map λys=>(ob,ys)|_=>none
theorem zP:∀{l:Zw}{ys:Zu},dA l=some ys->l=ys.map .v
 |[],ys,h=>by cases h;rfl|.v x::r,ys,h=>by simp only[dA]at h;obtain⟨B,a,rfl⟩:=ζf.1 h;rw[zP a];rfl|.own _::_,_,h|.ptr ..::_,_,h|.el ..::_,_,h|.mp _::_,_,h|.clo ..::_,_,h|.tup _::_,_,h|.agg _::_,_,h|.yl _::_,_,h=>by cases h
theorem Ua{S:Sys}{c:cg}{rs:a_ RV}{a:RC}{st:St}{ob:bN}{ys:Zu}(h:jT S c (Ed rs) a [] st=some (ob,ys)):∃o st' d,cM S c a st=some (o,st')/\(∀id,o≠.exit id)/\kj st' rs=some (.own d::ys.map .v)/\bB st'.m d=some ob:=by
 rw[pI]at h;have⟨⟨o,st'⟩,b,u⟩:=ζg.1 h;have z:∀id,o≠.exit id:=by rintro id rfl;simp[Ed]at u
 have B:(kj st' rs).bind (λl=>match l with|.own d::r=>(bB st'.m d).bind λob=>(dA r).map λys=>(ob,ys)|_=>none)=some (ob,ys):=by cases o with|exit id=>exact absurd rfl (z id)|norm=>exact u|ret=>exact u
 have⟨l,C,w⟩:=ζg.1 B;split at w;have⟨D,G,I⟩:=ζg.1 w;have⟨O,J,L⟩:=ζf.1 I;cases L;exact⟨o,st',_,b,z,by rw[C,zP J],G⟩;cases w
structure TT(S:Sys)(c:cg){δ ε:Type}[bF δ][iX ε](m:Option (Sl δ×ε))where
 n:FuncId
 az:List V
 k:S.E.keep n=true
 o:S.E.own n=true
 h:∀s r,m=some (s,r)->∃e m',c n (az.map .v) []=some (.own e::(iX.e r).map .v,m')/\bB m' e=some (cU s)
 sc:∀x:δ,(cells x).all V.scalar=true
 sr:∀r:ε,V.cZ (iX.e r)=true
abbrev TT.mk'{S:Sys}{T:oN}{δ ε:Type}[bF δ][iX ε]{m:bt (Sl δ×ε)}(fn:FuncId)(az:a_ V)(h:Le (m.bind λr=>some (cU r.1,iX.e r.2)) (cF S (dg S T) (Ed (tr T fn)) (.rc (tb T fn),[],start (az.map .v) [])))
 (B:(T fn).isSome=true:=by kernel_rfl)(b:S.E.keep fn=true:=by kernel_rfl)(D:S.E.own fn=true:=by kernel_rfl)(G:ble az.length (rV (T fn)).na=true:=by kernel_rfl)
 (sc:∀x:δ,(cells x).all V.scalar=true:=by intro x;rfl)(sr:∀r:ε,V.cZ (iX.e r)=true:=by intro r;rfl):TT S (dg S T) m where
 n:=fn
 az:=az
 k:=b
 o:=D
 sc:=sc
 sr:=sr
 h s r w:=by have u:=BX B;have a:=h (cU s,iX.e r) (by rw[w];rfl);change jT S (dg S T) (Ed (rV (T fn)).rs) (rV (T fn)).body [] (start (az.map .v) [])=some (cU s,iX.e r)at a;have⟨o,st',d,g1,g2,g3,g4⟩:=Ua a;refine⟨d,st'.m,?_,g4⟩;rw[qA u];unfold l8;rw[if_pos (by simpa using Nat.le_of_ble_eq_true G),g1];cases o with|exit id=>exact absurd rfl (g2 id)|norm=>simp only[g3,map_some]|ret=>simp only[g3,map_some]
section
variable{S:Sys}{c:cg}{β γ δ α:Type}{Q:Out×St->bt β}{e:γ->bt β}{cf:Cf}
end
def IU(rs:a_ RV)(B:Zv):Out×St->bt (Zu×dQ)
 |(.exit _,_)=>none|(_,st)=>(kj st rs).bind λl=>(dA l).bind λys=>(kF st.m B).map λos=>(ys,os)
theorem UH{S:Sys}{c:cg}{rs:a_ RV}{B:Zv}{a:RC}{st:St}{os:dQ}{ys:Zu}(h:jT S c (IU rs B) a [] st=some (ys,os)):∃o st',cM S c a st=some (o,st')/\(∀id,o≠.exit id)/\kj st' rs=some (ys.map .v)/\kF st'.m B=some os:=by
 rw[pI]at h;have⟨⟨o,st'⟩,b,u⟩:=ζg.1 h;have w:∀id,o≠.exit id:=by rintro id rfl;simp[IU]at u
 have z:(kj st' rs).bind (λl=>(dA l).bind λys=>(kF st'.m B).map λos=>(ys,os))=some (ys,os):=by cases o with|exit id=>exact absurd rfl (w id)|norm=>exact u|ret=>exact u
 have⟨l,C,D⟩:=ζg.1 z;have⟨O,G,I⟩:=ζg.1 D;have⟨q,J,L⟩:=ζf.1 I;cases L;exact⟨o,st',b,w,by rw[C,zP G],J⟩
def t_:Tb bN->dQ->Tb bN
 |m,[]=>m|m,(d,ob)::r=>t_ (bR m d ob) r
theorem EX{m':dQ}{G:Zv}:∀{B:Zv}{os m:dQ},kF m' B=some os->(os.all λx=>within G x.2)=true->xd G m' B m=some (t_ m os)
 |[],os,m,h,_=>by cases h;rfl|k::B,os,m,h,D=>by simp only[kF]at h;split at h;(next v t a J=>cases h;simp only[all_cons,ζh]at D;simp only[xd,a,D.1,if_true,t_];exact EX J D.2);cases h
theorem back_eq{m':dQ}{B:Zv}{os m:dQ}(h:kF m' B=some os)(D:(os.all λx=>within B x.2)=true):mq m' B m=some (t_ m os):=EX h D
structure Ez(S:Sys)(c:cg){δ:Type}(m:Option δ)where
 n:FuncId
 az:List SV
 os:dQ
 E:δ->List V
 M:δ->dQ
 k:S.E.keep n=true
 o:S.E.own n=false
 q:(S.prm n).isNone=true
 h:∀r,m=some r->∃m',c n az os=some ((E r).map .v,m')/\∀m0,mq m' (os.map (·.1)) m0=some (t_ m0 (M r))
abbrev Ez.mk'{S:Sys}{T:oN}{δ:Type}{m:bt δ}(fn:FuncId)(az:a_ SV)(os:dQ)(E:δ->a_ V)(M:δ->dQ)(h:Le (m.bind λr=>some (E r,M r)) (cF S (dg S T) (IU (tr T fn) (os.map (·.1))) (.rc (tb T fn),[],start az os)))
 (B:(T fn).isSome=true:=by kernel_rfl)(b:S.E.keep fn=true:=by kernel_rfl)(D:S.E.own fn=false:=by kernel_rfl)(G:(S.prm fn).isNone=true:=by kernel_rfl)(J:ble az.length (rV (T fn)).na=true:=by kernel_rfl)
 (O:∀r,((M r).all λx=>within (os.map (·.1)) x.2)=true:=by intro r;kernel_rfl):Ez S (dg S T) m where
 n:=fn
 az:=az
 os:=os
 E:=E
 M:=M
 k:=b
 o:=D
 q:=G
 h r hr:=by have u:=BX B;have a:=h (E r,M r) (by rw[hr];rfl);change jT S (dg S T) (IU (rV (T fn)).rs (os.map (·.1))) (rV (T fn)).body [] (start az os)=some (E r,M r)at a;have⟨o,st',g1,g2,g3,g4⟩:=UH a;refine⟨st'.m,?_,λw=>back_eq g4 (O r)⟩;rw[qA u];unfold l8;rw[if_pos (Nat.le_of_ble_eq_true J),g1];cases o with|exit id=>exact absurd rfl (g2 id)|norm=>simp only[g3,map_some]|ret=>simp only[g3,map_some]
section
variable{S:Sys}{c:cg}{β γ δ:Type}{Q:Out×St->bt β}{e:γ->bt β}{cf:Cf}
theorem vV(n:Nat){m:bt δ}(F:Ez S c m){f:δ->bt γ}(h:∀x,m=some x->Le ((f x).bind e) (cF S c Q (nx S c n cf λp=>dy {p.st with m:=t_ p.st.m (F.M x)} p.d (.v (result (F.E x))))))
 (B:(iD S c n cf).map (λp=>(p.k,((cn S.N p.st.g p.az).bind n_).bind λq=>(handed p.st.m q.2).map λos=>(q.1,q.2,os),p.dr))=some (.c,some (F.n,F.az,F.os),false):=by kernel_rfl):Le ((m.bind f).bind e) (cF S c Q cf):=by
 have⟨p,z,a⟩:=gx B;simp only[ζc]at a;have⟨C,D,G⟩:=a;have⟨q,g1,g2⟩:=ζg.1 D;have⟨u,g3,g4⟩:=ζg.1 g1;have⟨os,g5,g6⟩:=ζf.1 g2;simp only[ζc]at g6;obtain⟨e1,e2,rfl⟩:=g6;refine uB z ?_ h;rw[C,G,Cj _ _ _ _ _ _ u q.1 q.2 g3 g4];intro y w;have⟨r,b,w⟩:=ζg.1 w;cases w;have⟨m',k1,k2⟩:=F.h r b;have I:S.prm F.n=none:=by have:=F.q;cases J:S.prm F.n with|none=>rfl|some _=>rw[J]at this;cases this
 have:fV S c p.d false (!false||p.now) (gb p.st.m p.fr) q.1 q.2 p.st=some (.v (result (F.E r)),{p.st with m:=t_ p.st.m (F.M r)}):=by unfold fV;rw[e1,e2]at *;simp only[F.k,F.o,I,g5,k1,qC,k2,if_true,Bool.not_false,Bool.true_or,Bool.false_and,false_eq_true,if_false]
 rw[this];rfl
instance:Key Zq where
 kk:=.str
 ok _:=rfl
 eq a b:=by show some (a==b)=some (decide (a=b));rw[show(a==b)=decide (a=b)from Bool.eq_iff_iff.2 (by cases a;cases b;rename_i x y;show(x==y)=true↔_;simp)]
def IS(s:Sl U8):Zq:=pU (s.l.map U8.v)
theorem Gl:∀l:a_ U8,kC (rows l)=some (l.map U8.v)
 |[]=>rfl|a::l=>by show(kC (rows l)).map (a.v::·)=_;rw[Gl l];rfl
theorem Tp(n u:Nat)(s:Sl U8){m:bt β}(h:Le m (cF S c Q (nx S c n cf λp=>dy p.st p.d (.v (.str (IS s))))))
 (B:(iD S c n cf).map (λp=>(p.k,cn S.N p.st.g p.az,bB p.st.m u,p.dr))=some (.b,some [.own u],some (cU s),false):=by kernel_rfl):Le m (cF S c Q cf):=by
 have⟨p,z,a⟩:=gx B;simp only[ζc]at a;have⟨C,D,G,I⟩:=a;refine AP z ?_ h;rw[C,I];have J:(iM p.st.m 1 (.own u)).bind (λL=>(kC L).map λl=>((SV.v (.str (pU l)),p.st):SV×St))=some (.v (.str (IS s)),p.st):=by have O:kC (rows s.l)=some (s.l.map U8.v):=Gl _;have w:iM p.st.m 1 (.own u)=some (rows s.l):=(by unfold iM;simp only[G];cases s<;>rfl);rw[w];show((kC (rows s.l)).map λl=>_)=_;rw[O];rfl
 unfold fq kN;have T:fE S.N p.st.g ⟨p.d,none,p.now,.b,p.az,[],[]⟩=none:=rfl;simp only[wanted,T,D,false_eq_true,if_false,J];rfl
end
def Jz(rs:a_ RV)(B:Zv):Out×St->bt (bN×Zu×dQ)
 |(.exit _,_)=>none|(_,st)=>(kj st rs).bind λl=>match l with
  |.own d::r=>if B.contains d then none else(bB st.m d).bind λob=>(dA r).bind λys=>(kF st.m B).map λos=>(ob,ys,os)|_=>none
theorem Uu{S:Sys}{c:cg}{rs:a_ RV}{B:Zv}{a:RC}{st:St}{ob:bN}{ys:Zu}{os:dQ}(h:jT S c (Jz rs B) a [] st=some (ob,ys,os)):
 ∃o st' d,cM S c a st=some (o,st')/\(∀id,o≠.exit id)/\kj st' rs=some (.own d::ys.map .v)/\B.contains d=false/\bB st'.m d=some ob/\kF st'.m B=some os:=by
 rw[pI]at h;have⟨⟨o,st'⟩,b,w⟩:=ζg.1 h;have D:∀id,o≠.exit id:=by rintro id rfl;simp[Jz]at w
 have G:(kj st' rs).bind (λl=>match l with|.own d::r=>if B.contains d then none else(bB st'.m d).bind λob=>(dA r).bind λys=>(kF st'.m B).map λos=>(ob,ys,os)|_=>none)=some (ob,ys,os):=by cases o with|exit id=>exact absurd rfl (D id)|norm=>exact w|ret=>exact w
 have⟨l,I,u⟩:=ζg.1 G;split at u
 .split at u
  .cases u
  rename_i e;have⟨J,L,O⟩:=ζg.1 u;have⟨U,Q,T⟩:=ζg.1 O;have⟨q,z,C⟩:=ζf.1 T;cases C;exact⟨o,st',_,b,D,by rw[I,zP Q],by simpa using e,L,z⟩
 cases u
structure TM(S:Sys)(c:cg){δ ε:Type}[bF δ][iX ε](m:Option (Sl δ×ε))where
 n:FuncId
 az:List SV
 os:dQ
 M:Sl δ×ε->dQ
 k:S.E.keep n=true
 o:S.E.own n=false
 q:(S.prm n).isNone=true
 h:∀r,m=some r->∃e m',c n az os=some (.own e::(iX.e r.2).map .v,m')/\bB m' e=some (cU r.1)/\(os.map (·.1)).contains e=false/\∀m0,mq m' (os.map (·.1)) m0=some (t_ m0 (M r))
abbrev TM.mk'{S:Sys}{T:oN}{δ ε:Type}[bF δ][iX ε]{m:bt (Sl δ×ε)}(fn:FuncId)(az:a_ SV)(os:dQ)(M:Sl δ×ε->dQ)
 (h:Le (m.bind λr=>some (cU r.1,iX.e r.2,M r)) (cF S (dg S T) (Jz (tr T fn) (os.map (·.1))) (.rc (tb T fn),[],start az os)))
 (B:(T fn).isSome=true:=by kernel_rfl)(b:S.E.keep fn=true:=by kernel_rfl)(D:S.E.own fn=false:=by kernel_rfl)(G:(S.prm fn).isNone=true:=by kernel_rfl)(J:ble az.length (rV (T fn)).na=true:=by kernel_rfl)
 (O:∀r,((M r).all λx=>within (os.map (·.1)) x.2)=true:=by intro r;kernel_rfl):TM S (dg S T) m where
 n:=fn
 az:=az
 os:=os
 M:=M
 k:=b
 o:=D
 q:=G
 h r hr:=by have u:=BX B;have a:=h (cU r.1,iX.e r.2,M r) (by rw[hr];rfl);change jT S (dg S T) (Jz (rV (T fn)).rs (os.map (·.1))) (rV (T fn)).body [] (start az os)=some (cU r.1,iX.e r.2,M r)at a;have⟨o,st',d,g1,g2,g3,g4,g5,g6⟩:=Uu a;refine⟨d,st'.m,?_,g5,g4,λw=>back_eq g6 (O r)⟩;rw[qA u];unfold l8;rw[if_pos (Nat.le_of_ble_eq_true J),g1];cases o with|exit id=>exact absurd rfl (g2 id)|norm=>simp only[g3,map_some]|ret=>simp only[g3,map_some]
section
variable{S:Sys}{c:cg}{β γ:Type}{Q:Out×St->bt β}{e:γ->bt β}{cf:Cf}
end
structure Sr(S:Sys)(c:cg){α δ:Type}[bF δ](fn:FuncId)(A:α->List V)(p:α->Option (Sl δ)):Prop where
 k:S.E.keep fn=true
 o:S.E.own fn=false
 q:(S.prm fn).isNone=true
 h:∀z s,p z=some s->∃e m',c fn ((A z).map .v) []=some ([.own e],m')/\bB m' e=some (cU s)
theorem Sr.mk'{S:Sys}{T:oN}{α δ:Type}[bF δ](rf:RF){fn:Zk}{A:α->Zu}{p:α->bt (Sl δ)}(h:∀z,Le ((p z).bind λr=>some (cU r)) (cF S (dg S T) (y_ rf.rs) (.rc rf.body,[],start ((A z).map .v) [])))
 (B:T fn=some rf:=by kernel_rfl)(b:S.E.keep fn=true:=by kernel_rfl)(D:S.E.own fn=false:=by kernel_rfl)(G:(S.prm fn).isNone=true:=by kernel_rfl)(J:∀z,(A z).length<=rf.na:=by intro z;exact Nat.le_of_ble_eq_true (by kernel_rfl)):Sr S (dg S T) fn A p where
 k:=b
 o:=D
 q:=G
 h z s u:=by have a:=h z (cU s) (by rw[u];rfl);change jT S (dg S T) (y_ rf.rs) rf.body [] (start ((A z).map .v) [])=some (cU s)at a;have⟨o,st',d,g1,g2,g3,g4⟩:=RA a;refine⟨d,st'.m,?_,g4⟩;rw[qA B];unfold l8;rw[if_pos (by simpa using J z),g1];cases o with|exit id=>exact absurd rfl (g2 id)|norm=>simp only[g3,map_some]|ret=>simp only[g3,map_some]
section
variable{S:Sys}{c:cg}{β γ δ α:Type}[bF δ]{Q:Out×St->bt β}{e:γ->bt β}{cf:Cf}
end
section
variable{S:Sys}{c:cg}{β γ δ:Type}{Q:Out×St->bt β}{e:γ->bt β}{cf:Cf}
end
structure Uo(S:Sys)(c:cg){α δ:Type}(fn:FuncId)(A:α->List SV)(O:α->dQ)(E:δ->List V)(M:α->δ->dQ)(p:α->Option δ):Prop where
 k:S.E.keep fn=true
 o:S.E.own fn=false
 q:(S.prm fn).isNone=true
 h:∀z r,p z=some r->∃m',c fn (A z) (O z)=some ((E r).map .v,m')/\∀m0,mq m' ((O z).map (·.1)) m0=some (t_ m0 (M z r))
abbrev Ez.of{S:Sys}{c:cg}{α δ:Type}{fn:FuncId}{A:α->a_ SV}{O:α->dQ}{E:δ->a_ V}{M:α->δ->dQ}{p:α->bt δ}(z:α)(F:Uo S c fn A O E M p):Ez S c (p z):=⟨fn,A z,O z,E,M z,F.k,F.o,F.q,F.h z⟩
section
variable{S:Sys}{c:cg}{α σ:Type}[bF α]{g:Zk}
end
section
variable{S:Sys}{c:cg}{α σ β γ:Type}[bF α]{g:Zk}{Q:Out×St->bt β}{e:γ->bt β}{cf:Cf}
end
section
variable{S:Sys}{c:cg}{β γ δ α:Type}[bF δ]{Q:Out×St->bt β}{e:γ->bt β}{cf:Cf}
end
def yl(B:Zt)(more:Zl)(xs:Zu):bt (Zl×Zt):=match B with
 |w::r=>open Classical in if w=xs then some (more|| !r.isEmpty,r)else none|[]=>none
section
variable{S:Sys}{c:cg}{β γ:Type}{Q:Out×St->bt β}{e:γ->bt β}{cf:Cf}
end
section
variable{S:Sys}{c:cg}{β γ α:Type}[bF α]{Q:Out×St->bt β}{e:γ->bt β}{cf:Cf}
end
theorem OP{n:Int}(a:0<=n)(h:n<=4611686018427387904):wrap .i64 n=n:=by simp[wrap,IntKind.bits,signed];omega
namespace catX
instance{n:Nat}:OfNat Arg n:=⟨.s n⟩
def ln:K:=.p .lenSl
def ix:K:=.p (.idxS 1)
def bI(o:BinOp):K:=.p (.bin (some .int) none o)
def ld:K:=.r (.load 1 false)
def g1:Zx:=[o1 4 (.k (.bL)) []]
def g2:Zx:=[o1 5 1 [],o2 6 (bI .lss) [5,.k (.int .i64 0)] []]
def g3:Zx:=[o2 7 (.p (.bad)) [] [],⟨none,none,false,.p .bad,[],[],[]⟩]
def g4:Zx:=[o1 8 1 [],o1 9 0 [],o2 10 (.p (.capSl)) [9] [],o1 11 0 [],o2 12 ln [11] [],o2 13 (bI .sub) [10,12] [],o2 14 (bI .sub) [8,13] [],o1 1 14 []]
def g5:Zx:=[o1 15 1 [],o2 16 (bI .gtr) [15,.k (.int .i64 0)] []]
def g6:Zx:=[o1 17 0 [],o1 18 0 [],o2 19 (.p (.capSl)) [18] [],o2 20 (.p (.slice 1 false true)) [17,19] [],o1 21 1 [],o2 22 (.l (.appMk 1 24 [.bL])) [20,21] [],o1 23 0 [],o2 24 ln [23] [],o2 25 (.p (.slice 1 false true)) [22,24] [],o1 0 25 []]
def g7:Zx:=[o1 26 0 [],o1 4 26 []]
def grow:RC:=.seq (.ops g1) (.seq (.seq (.ops g2) (.cond (.s 6) (.ops g3) (.skip))) (.seq (.seq (.ops g4) (.seq (.ops g5) (.cond (.s 16) (.ops g6) (.skip)))) (.seq (.ops g7) (.ret))))
section
variable{E:Env}{N:Nat->Zk}{t:Nat}
attribute [local simp] cw f_ dS bO gj ko kK ot bI ln
theorem QB(Y:t<=2147483648):∃F',Ex E N grow [.bL,.int .i64 t] [] .ret F' (if t=0 then[]else[.row 1 (replicate t [.bL])])/\get F' 4=if t=0 then .bL else .hsl 0 1 0 0:=by
 have e1:∀call,cw E N call none g1 [.bL,.int .i64 t] []=some (set [.bL,.int .i64 t] 4 .bL,[]):=λcall=>vp (v:=.bL) rfl (by simp[f_,dS,bO]) qz;have k0:get (set [V.bL,.int .i64 t] 4 .bL) 0=.bL:=rfl;have k1:get (set [V.bL,.int .i64 t] 4 .bL) 1=.int .i64 t:=rfl;generalize set [V.bL,.int .i64 t] 4 .bL=D at *;have e2:∃F1,(∀call,cw E N call none g2 D []=some (F1,[]))/\get F1 6=.bool false/\get F1 0=.bL/\get F1 1=.int .i64 t:=by exact⟨_,λcall=>by simp[g2,k1];rfl,Zc,by simp[k0],by simp[k1]⟩
 have⟨F1,a1,a2,G,S⟩:=e2;have e4:∃z,(∀call,cw E N call none g4 F1 []=some (z,[]))/\get z 0=.bL/\get z 1=.int .i64 t:=by exact⟨_,λcall=>by simp[g4,G,S,Gq,lQ,OP (n:=t) Za Za,show wrap .i64 0=0 from by decide];rfl,by simp[G],Zc⟩
 have⟨z,I,T,J⟩:=e4;have e5:∃u,(∀call,cw E N call none g5 z []=some (u,[]))/\get u 16=.bool (decide (t>0))/\get u 0=.bL/\get u 1=.int .i64 t:=by exact⟨_,λcall=>by simp[g5,J];rfl,Zc,by simp[T],by simp[J]⟩
 have⟨u,L,O,Q,U⟩:=e5;have d:Ex E N (.seq (.ops g2) (.cond (.s 6) (.ops g3) (.skip))) D [] .norm F1 []:=Ex.seq (Ex.c_ a1) (Ex.oH a2 Ex.skip);have e7:∀(F:Zo)(H:bC),∃F',(∀call,cw E N call none g7 F H=some (F',H))/\get F' 4=get F 0:=λF H=>⟨_,λcall=>by simp[g7];rfl,Zc⟩
 by_cases a:t=0;subst a;have⟨C,b,c⟩:=e7 u [];refine⟨C,?_,by rw[c,Q];rfl⟩;exact Ex.seq (Ex.c_ e1) (Ex.seq d (Ex.seq (Ex.seq (Ex.c_ I) (Ex.seq (Ex.c_ L) (Ex.oH O Ex.skip))) (Ex.seq (Ex.c_ b) Ex.ret)));have w:0<t:=Za;have e6:∃B,(∀call,cw E N call none g6 u []=some (B,[.row 1 (replicate t [.bL])]))/\get B 0=.hsl 0 1 0 0:=by exact⟨_,λcall=>by simp[g6,Q,U,Gq,lQ,lp,gX,dW,eU,mkApp,w,a,show(t:Int)<=2147483648 from Za];rfl,Zc⟩
 have⟨B,W,X⟩:=e6;have⟨C,b,c⟩:=e7 B [.row 1 (replicate t [.bL])];rw[if_neg a,if_neg a];refine⟨C,?_,by rw[c,X]⟩;exact Ex.seq (Ex.c_ e1) (Ex.seq d (Ex.seq (Ex.seq (Ex.c_ I) (Ex.seq (Ex.c_ L) (Ex.lW (by show get u 16=_;rw[O,decide_eq_true w]) (Ex.c_ W)))) (Ex.seq (Ex.c_ b) Ex.ret)))
end
end catX
def AH{α:Type}(s:Sl (Sl α)):Sl α:=if(s.l.flatMap Sl.l).length=0 then .nil else .row (s.l.flatMap Sl.l)
namespace catX
def r1:Zx:=[o1 2 (.k (.bL)) []]
def r2:Zx:=[o1 3 (.k (.int .i64 0)) []]
def r3:Zx:=[o1 9 0 [],o2 10 ln [9] [],o1 11 (.k (.int .i64 0)) []]
def r4:Zx:=[o2 12 (bI .lss) [11,10] []]
def r5:Zx:=[o2 13 ix [9,11] [],o2 14 ld [13] [],o1 5 14 []]
def r6:Zx:=[o1 15 3 [],o1 16 5 [],o2 17 ln [16] [],o2 18 (bI .add) [15,17] [],o1 3 18 []]
def r7:Zx:=[o1 19 3 [],o2 20 (bI .lss) [19,.k (.int .i64 0)] []]
def r8:Zx:=[o2 21 (.p (.bad)) [] [],⟨none,none,false,.p .bad,[],[],[]⟩]
def r9:Zx:=[o2 22 (bI .add) [11,.k (.int .i64 1)] [],o1 11 22 []]
def L9:RC:=.seq (.ops r4) (.seq (.cond (.s 12) (.skip) (.exit 0)) (.seq (.block 1 (.seq (.ops r5) (.seq (.ops r6) (.seq (.ops r7) (.cond (.s 20) (.ops r8) (.skip)))))) (.ops r9)))
def zh(gid:Nat):Zx:=[o1 23 3 [],o2 24 .c [.f gid,.k (.bL),23] [],o1 6 24 []]
def xN:Zx:=[o1 25 0 [],o2 26 ln [25] [],o1 27 (.k (.int .i64 0)) []]
def yP:Zx:=[o2 28 (bI .lss) [27,26] []]
def zd:Zx:=[o2 29 ix [25,27] [],o2 30 ld [29] [],o1 8 30 []]
def yX:Zx:=[o1 31 6 [],o1 32 8 [],o2 33 (.l (.append 1)) [31,32] [],o1 6 33 []]
def yB:Zx:=[o2 34 (bI .add) [27,.k (.int .i64 1)] [],o1 27 34 []]
def TW:RC:=.seq (.ops yP) (.seq (.cond (.s 28) (.skip) (.exit 2)) (.seq (.block 3 (.seq (.ops zd) (.ops yX))) (.ops yB)))
def r16:Zx:=[o1 35 6 [],o1 2 35 []]
def cat(gid:Nat):RC:=.seq (.ops r1) (.seq (.ops r2) (.seq (.seq (.ops r3) (.block 0 (.loop L9))) (.seq (.ops (zh gid)) (.seq (.seq (.ops xN) (.block 2 (.loop TW))) (.seq (.ops r16) (.ret))))))
section
variable{E:Env}{N:Nat->Zk}{F:Zo}{H:bC}{α:Type}[bF α]{s:Sl (Sl α)}{i:Nat}
theorem el{u:Sl α}(h:s.l[i]?=some u):kE 1 (cr s) (i:Int)=some (.fptr [cr u]):=by have:=CS (N:=λn=>n) s .i64 (i:Int) 1 rfl;simp only[bO]at this;rw[this,show idx s (i:Int)=some u from by unfold idx;grind];rfl
theorem UF(s:Sl α):lQ (cr s)=some (.int .i64 s.l.length):=by have:=E5 (N:=λn=>n) s;simpa only[bO]using this
attribute [local simp] cw f_ dS bO gj ko kK ot UF bI ln ix ld
theorem y3:(get F 0=cr s->∃F',(∀call,cw E N call none r3 F H=some (F',H))/\get F' 9=cr s/\get F' 10=.int .i64 s.l.length/\get F' 11=.int .i64 0/\∀j,j<9->get F' j=get F j)/\
 (get F 0=cr s->∃F',(∀call,cw E N call none xN F H=some (F',H))/\get F' 25=cr s/\get F' 26=.int .i64 s.l.length/\get F' 27=.int .i64 0/\∀j,j<9->get F' j=get F j):=by
 refine⟨λa=>⟨_,λcall=>by simp[r3,a];rfl,?_⟩,λa=>⟨_,λcall=>by simp[xN,a];rfl,?_⟩⟩<;>
  (simp;grind)
theorem y4{n:Nat}:(get F 11=.int .i64 i->get F 10=.int .i64 n->∃F',(∀call,cw E N call none r4 F H=some (F',H))/\get F' 12=.bool (decide (i<n))/\∀j,j<12->get F' j=get F j)/\
 (get F 27=.int .i64 i->get F 26=.int .i64 n->∃F',(∀call,cw E N call none yP F H=some (F',H))/\get F' 28=.bool (decide (i<n))/\∀j,j<28->get F' j=get F j):=by
 refine⟨λf u=>⟨_,λcall=>by simp[r4,f,u];rfl,?_⟩,λf u=>⟨_,λcall=>by simp[yP,f,u];rfl,?_⟩⟩<;>
  (simp;grind)
theorem y5{u:Sl α}(h:s.l[i]?=some u):(get F 9=cr s->get F 11=.int .i64 i->∃F',(∀call,cw E N call none r5 F H=some (F',H))/\get F' 5=cr u/\∀j,j<12->j≠5->get F' j=get F j)/\
 (get F 25=cr s->get F 27=.int .i64 i->∃F',(∀call,cw E N call none zd F H=some (F',H))/\get F' 8=cr u/\∀j,j<28->j≠8->get F' j=get F j):=by
 have e:=el h;have e2:dZ H (.load 1 false) [.fptr [cr u]]=some (cr u):=by simp[dZ,dX,cut,mk]
 refine⟨λf w=>⟨_,λcall=>by simp[r5,f,w,e,e2];rfl,?_⟩,λf w=>⟨_,λcall=>by simp[zd,f,w,e,e2];rfl,?_⟩⟩<;>
  (simp;grind)
theorem y6{u:Sl α}{t:Nat}(a:get F 3=.int .i64 t)(b:get F 5=cr u)(B:t+u.l.length<=2147483648):∃F',(∀call,cw E N call none r6 F H=some (F',H))/\get F' 3=.int .i64 ((t+u.l.length:Nat):Int)/\∀j,j<12->j≠3->get F' j=get F j:=by
 have w:wrap .i64 ((t:Int)+(u.l.length:Int))=((t+u.l.length:Nat):Int):=by rw[OP Za Za];simp
 refine⟨_,λcall=>by simp[r6,a,b,w];rfl,Zc,?_⟩;simp;grind
theorem y7{t:Nat}(a:get F 3=.int .i64 t):∃F',(∀call,cw E N call none r7 F H=some (F',H))/\get F' 20=.bool false/\∀j,j<12->get F' j=get F j:=by refine⟨_,λcall=>by simp[r7,a];rfl,Zc,?_⟩;simp;grind
theorem y9(B:i<=2147483648):(get F 11=.int .i64 i->∃F',(∀call,cw E N call none r9 F H=some (F',H))/\get F' 11=.int .i64 ((i+1:Nat):Int)/\∀j,j<11->get F' j=get F j)/\
 (get F 27=.int .i64 i->∃F',(∀call,cw E N call none yB F H=some (F',H))/\get F' 27=.int .i64 ((i+1:Nat):Int)/\∀j,j<27->get F' j=get F j):=by
 have u:=wq B;refine⟨λf=>⟨_,λcall=>by simp[r9,f,u];rfl,?_⟩,λf=>⟨_,λcall=>by simp[yB,f,u];rfl,?_⟩⟩<;>
  (simp;grind)
structure Acc(H:bC)(w:V)(acc:List (List V)):Prop where
 el:dH H 1 w=some acc
 gr:∃H1,gE H w=some H1/\H1.length=H.length
 sh:w=.bL/\acc=[]\/∃id xs,w=.hsl id 1 0 acc.length/\H[id]?=some (.row 1 xs)/\(acc≠[]->xs=acc)
theorem Pr(H:bC)(u:Sl α)(a:bF.size α=1):dH H 1 (cr u)=some (rows u.l):=by cases u<;>simp[cr,Sl.k,Sl.l,nQ,dH,rows,a]
theorem UA{w:V}{b:Zt}{u:Sl α}(f:bF.size α=1)(a:Acc H w b)(f6:get F 6=w)(D:get F 8=cr u)(J:b.length+u.l.length<=2147483648):
 ∃F' H' w',(∀call,cw E N call none yX F H=some (F',H'))/\get F' 6=w'/\Acc H' w' (b++rows u.l)/\(u.l=[]->w'=w)/\∀j,j<28->j≠6->get F' j=get F j:=by
 have c:=Pr H u f;have C:(rows u.l).length=u.l.length:=by simp[rows]
 have key:∃H' w',eU H (.append 1) [w,cr u]=some (w',H')/\Acc H' w' (b++rows u.l)/\(u.l=[]->w'=w):=by have⟨H1,g1,g2⟩:=a.gr;cases d:rows u.l with|nil=>exact⟨H,w,by simp only[eU,a.el,c,d],Zd,λ_=>rfl⟩|cons y B=>have G:b.length+(y::B).length<=2147483648:=Zd;refine⟨H1++[.row 1 (b++y::B)],.hsl H.length 1 0 (b.length+(y::B).length),by simp only[eU,a.el,c,d];grind,?_⟩;have z:(H1++[Ob.row 1 (b++y::B)])[H.length]?=some (.row 1 (b++y::B)):=Zd;refine⟨⟨?_,⟨_,by simp only[gE,z];rfl,Zc⟩,.inr ⟨H.length,b++y::B,Zc,z,λ_=>rfl⟩⟩,λe=>Zd⟩;simp only[dH,z,ζb,Ob.rows,if_true,zero_add,drop_zero];grind
 have⟨H',w',k1,k2,k3⟩:=key;refine⟨_,H',w',λcall=>by simp[yX,f6,D,k1];rfl,Zc,k2,k3,?_⟩
 simp;grind
def upto(s:Sl (Sl α))(i:Nat):a_ α:=(s.l.take i).flatMap Sl.l
theorem DU{u:Sl α}(h:s.l[i]?=some u):upto s (i+1)=upto s i++u.l:=by unfold upto;obtain⟨w,rfl⟩:=ζe.1 h;rw[List.take_succ_eq_append_getElem w,List.flatMap_append];simp
theorem Hx(s:Sl (Sl α))(i:Nat):(upto s i).length<=(s.l.flatMap Sl.l).length:=by
 have:s.l.flatMap Sl.l=upto s i++(s.l.drop i).flatMap Sl.l:=by unfold upto;rw[<-List.flatMap_append,List.take_append_drop]
 grind
theorem UG(m:s.l.length<=2147483648)(o:(s.l.flatMap Sl.l).length<=2147483648):∀(d i:Nat)(F:Zo),i+d=s.l.length->get F 9=cr s->get F 10=.int .i64 s.l.length->get F 11=.int .i64 i->get F 3=.int .i64 (upto s i).length->
 ∃F',kQ E N L9 F H (.exit 0) F' H/\get F' 3=.int .i64 (s.l.flatMap Sl.l).length/\get F' 0=get F 0:=by
 intro d
 induction d with
 |zero=>
  intro i F L O a w c;have⟨F1,a1,a2,z⟩:=(y4 (E:=E) (N:=N) (H:=H) (n:=s.l.length)).1 w a;refine⟨F1,kQ.stop (Ex.seq (Ex.c_ a1) (Ex.sA (Ex.oH (by show get F1 12=_;grind) Ex.exit) Zc)) Zc,?_,z 0 Za⟩
  rw[z 3 Za,c]
  have:upto s i=s.l.flatMap Sl.l:=by unfold upto;grind
  simp_all
 |succ d Q=>
  intro i F L O a w c;have⟨F1,a1,a2,z⟩:=(y4 (E:=E) (N:=N) (H:=H) (n:=s.l.length)).1 w a;have e:s.l[i]?=some s.l[i]:=ζd Za
  have⟨S,T,U,W⟩:=(y5 (E:=E) (N:=N) (F:=F1) (H:=H) e).1 Zd Zd
  have C:=Hx s (i+1);have D:=DU e;rw[D,ζi]at C;have⟨X,Y,G,Z⟩:=y6 (E:=E) (N:=N) (F:=S) (H:=H) (u:=s.l[i]) (t:=(upto s i).length) Ze U Za
  have⟨I,f,g,J⟩:=y7 (E:=E) (N:=N) (F:=X) (H:=H) G;have B:∀j,j<12->j≠3->j≠5->get I j=get F j:=λj b h k=>by rw[J j b,Z j b h,W j b k,z j b]
  have⟨l,e1,e2,e3⟩:=(y9 (E:=E) (N:=N) (F:=I) (H:=H) (i:=i) Za).1 (by rw[B 11 Za Za Za];exact w)
  have⟨F',g1,g2,g3⟩:=Q (i+1) l Za (by rw[e3 9 Za,B 9 Za Za Za];omega) (by rw[e3 10 Za,B 10 Za Za Za];exact a) e2 (by rw[e3 3 Za,J 3 Za,G,D,ζi])
  exact⟨F',kQ.step (Ex.seq (Ex.c_ a1) (Ex.seq (Ex.lW (by show get F1 12=_;rw[a2,decide_eq_true Za]) Ex.skip) (Ex.seq (Ex.block (Ex.seq (Ex.c_ T) (Ex.seq (Ex.c_ Y) (Ex.seq (Ex.c_ f) (Ex.oH g Ex.skip))))) (Ex.c_ e1)))) g1,g2,by rw[g3,e3 0 Za,B 0 Za Za Za]⟩
theorem UC(b:bF.size α=1)(k:s.l.length<=2147483648)(l:(s.l.flatMap Sl.l).length<=2147483648):∀(d i:Nat)(F:Zo)(H:bC)(w:V),i+d=s.l.length->get F 25=cr s->get F 26=.int .i64 s.l.length->get F 27=.int .i64 i->get F 6=w->Acc H w (rows (upto s i))->
 ∃F' H' w',kQ E N TW F H (.exit 2) F' H'/\get F' 6=w'/\Acc H' w' (rows (s.l.flatMap Sl.l))/\((s.l.flatMap Sl.l).length=0->w'=w):=by
 intro d
 induction d with
 |zero=>
  intro i F H w O C B z f6 a;have⟨F1,a1,a2,Q⟩:=(y4 (E:=E) (N:=N) (H:=H) (n:=s.l.length)).2 z B;have:upto s i=s.l.flatMap Sl.l:=by unfold upto;grind
  rw[this]at a;exact⟨F1,H,w,kQ.stop (Ex.seq (Ex.c_ a1) (Ex.sA (Ex.oH (by show get F1 28=_;grind) Ex.exit) Zc)) Zc,Zd,a,λ_=>rfl⟩
 |succ d S=>
  intro i F H w O C B z f6 a;have⟨F1,a1,a2,Q⟩:=(y4 (E:=E) (N:=N) (H:=H) (n:=s.l.length)).2 z B;have c:s.l[i]?=some s.l[i]:=ζd Za
  have⟨T,U,W,m⟩:=(y5 (E:=E) (N:=N) (F:=F1) (H:=H) c).2 Zd Zd
  have D:=Hx s (i+1);have I:=DU c;rw[I,ζi]at D;have⟨J,H',w',X,Y,L,Z,o⟩:=UA (E:=E) (N:=N) (F:=T) (H:=H) (u:=s.l[i]) b a Zd W (by simp only[gC];omega)
  have G:∀j,j<28->j≠6->j≠8->get J j=get F j:=λj b p q=>Zd
  have⟨f,e1,e2,e3⟩:=(y9 (E:=E) (N:=N) (F:=J) (H:=H') (i:=i) Za).2 (by rw[G 27 Za Za Za];exact z)
  have g:rows (upto s i)++rows s.l[i].l=rows (upto s (i+1)):=by rw[I];simp[rows]
  rw[g]at L;have⟨F',H2,h,g1,g2,g3,g4⟩:=S (i+1) f H' w' Za (by rw[e3 25 Za,G 25 Za Za Za];omega) (by rw[e3 26 Za,G 26 Za Za Za];omega) e2 (by rw[e3 6 Za];exact Y) L
  exact⟨F',H2,h,kQ.step (Ex.seq (Ex.c_ a1) (Ex.seq (Ex.lW (by show get F1 28=_;rw[a2,decide_eq_true Za]) Ex.skip) (Ex.seq (Ex.block (Ex.seq (Ex.c_ U) (Ex.c_ X))) (Ex.c_ e1)))) g1,g2,g3,λe=>(g4 e).trans (Z (List.eq_nil_of_length_eq_zero Za))⟩
end
end catX
theorem PW{E:Env}{f O:Zk}{nm:Zk->bt Nat}{N:Nat->Zk}{gid:Nat}(K:∀f s,nm f=some s->N s=f)(hg:N gid=O)(aa:E.keep O=true)(U:E.own O=true)
 (hf:∃fi,E.ft f=some fi/\bQ ⟨E,nm,fi.ntmps⟩ false fi.body=some (catX.cat gid)/\2<=fi.ntmps/\fi.results=[.tmp 2])
 (ab:∃fi,E.ft O=some fi/\bQ ⟨E,nm,fi.ntmps⟩ false fi.body=some catX.grow/\2<=fi.ntmps/\fi.results=[.tmp 4])
 {α:Type}[bF α](M:bF.size α=1)(s:Sl (Sl α))(P:s.l.length<=2147483648)(ht:(s.l.flatMap Sl.l).length<=2147483648):yh E f [cr s] (cr (AH s)):=by
 have⟨fi,p1,p2,p3,p4⟩:=hf;have⟨gi,q1,q2,q3,q4⟩:=ab;generalize R:(s.l.flatMap Sl.l).length=T at *;have⟨Fg,ad,ae⟩:=catX.QB (E:=E) (N:=N) ht;have⟨n0,L⟩:=Ex.run K q1 q2 (args:=[.bL,.int .i64 T]) Zd ad (vs:=[if T=0 then .bL else .hsl 0 1 0 0]) (by rw[q4];simp[gT,ae])
 have Q:∀l,borrows l [] [.bL,.int .i64 (T:Int)]=some [.bL,.int .i64 (T:Int)]:=λl=>by unfold borrows;simp only[gO,iP l [] (x:=V.bL) rfl,iP l [] (x:=V.int .i64 T) rfl]
 have C:∃w D,(∀k,n0<=k->eX E (run E k) O [.bL,.int .i64 T] []=some (w,D))/\catX.Acc D w []/\(T=0->w=.bL):=by by_cases d:T=0;refine⟨.bL,[],λk g=>?_,⟨rfl,⟨[],rfl,rfl⟩,.inl ⟨rfl,rfl⟩⟩,λ_=>rfl⟩;have:=(mN E g).go _ _ _ _ L;rw[if_pos d,if_pos d]at this;unfold eX jR;rw[if_pos U];simp[Q,this,result,V.scalar];refine⟨.hsl 0 1 0 0,[.row 1 (replicate T [.bL])],λk g=>?_,⟨by simp[dH,Ob.rows],⟨_,rfl,Zc⟩,.inr ⟨0,_,rfl,rfl,λh=>absurd rfl h⟩⟩,λh=>absurd h d⟩;have:=(mN E g).go _ _ _ _ L;rw[if_neg d,if_neg d]at this;unfold eX jR;rw[if_pos U];simp only[Q,if_true,this,result,V.scalar,false_eq_true,if_false,qa,List.getElem?_cons_zero,true_and];rw[if_pos (by simp[List.all_replicate,V.scalar])];simp
 have⟨w,D,aj,af,S⟩:=C;have W:T≠0->rows (s.l.flatMap Sl.l)≠[]:=λh e=>h (by rw[<-R,<-gC,e];rfl)
 have z:∀c∈rows (s.l.flatMap Sl.l),V.cG c=true:=λc p=>by obtain⟨x,_,rfl⟩:=mem_map.1 p;exact bF.good x
 have g1:∀call,cw E N call none catX.r1 [cr s] []=some (set [cr s] 2 .bL,[]):=λcall=>vp (v:=.bL) rfl (by simp[f_,dS,bO]) qz
 have k0:get (set [cr s] 2 .bL) 0=cr s:=rfl;generalize set [cr s] 2 .bL=F0 at *;have g2:∀call,cw E N call none catX.r2 F0 []=some (set F0 3 (.int .i64 0),[]):=λcall=>vp (v:=.int .i64 0) rfl (by simp[f_,dS,bO]) qz
 have⟨F2,a1,a2,a3,a4,a5⟩:=(catX.y3 (E:=E) (N:=N) (F:=set F0 3 (.int .i64 0)) (H:=[]) (s:=s)).1 Ze
 have⟨F3,b1,b2,b3⟩:=catX.UG (E:=E) (N:=N) (H:=[]) P Za s.l.length 0 F2 Za a2 a3 a4 (by rw[a5 3 Za,rJ];rfl)
 rw[R]at b2;have ak:get F3 0=cr s:=Ze
 have q:∃X,(∃n,∀k,n<=k->cw E N (run E k) none (catX.zh gid) F3 []=some (X,D))/\get X 6=w/\get X 0=cr s:=by refine⟨_,⟨n0,λk g=>vp (v:=.int .i64 T) rfl ?_<|zy (v:=w) (H1:=D) rfl ?_<|vp (v:=w) rfl ?_ qz⟩,?_,?_⟩;simp[f_,dS,bO,b2];simp only[f_,map_cons,map_nil,dS,gj,ko,Nat.reduceEqDiff,if_true,if_false,hg,aa,nil_append,append_nil];grind;simp[f_,dS,bO,gj];simp[gj];simp only[gj,ko,Nat.reduceEqDiff,if_false];omega
 have⟨X,q,c2,c3⟩:=q;have⟨F5,d1,d2,d3,d4,d5⟩:=(catX.y3 (E:=E) (N:=N) (F:=X) (H:=D) (s:=s)).2 c3;have⟨F6,Y,I,e1,e2,e3,e4⟩:=catX.UC (E:=E) (N:=N) M P Za s.l.length 0 F5 D w Za d2 d3 d4 Ze af
 have r:∃t,(∀call,cw E N call none catX.r16 F6 Y=some (t,Y))/\get t 2=I:=⟨_,λcall=>vp (v:=I) rfl (by simp[f_,dS,bO,e2])<|vp (v:=I) rfl (by simp[f_,dS,bO,gj]) qz,by simp[gj]⟩
 have⟨t,r,f2⟩:=r;have⟨n,ah⟩:=Ex.run K p1 p2 (args:=[cr s]) (by simp;omega) (Ex.seq (Ex.c_ g1) (Ex.seq (Ex.c_ g2) (Ex.seq (Ex.seq (Ex.c_ a1) (Ex.tA (Ex.loop b1))) (Ex.seq (Ex.ops q) (Ex.seq (Ex.seq (Ex.c_ d1) (Ex.tA (Ex.loop e1))) (Ex.seq (Ex.c_ r) Ex.ret)))))) (vs:=[I]) (by rw[p4];simp[gT,f2])
 refine⟨n,I,Y,λid=>∃m,I=.hsl id 1 0 m,ah,?_,?_,?_⟩
 .rcases e3.sh with⟨h,J⟩|⟨id,xs,h,J,A⟩
  .have:T=0:=by grind
   rw[h];unfold AH;rw[if_pos Za]
   exact .same _ rfl
  by_cases d:T=0
  .have:=e4 Za
   rw[S d]at this;rw[this]at h;cases h
  have y:=A (W d);subst y;unfold AH;rw[if_neg Za,h]
  show FR Y _ (.fsl (bF.size α) (rows (s.l.flatMap Sl.l))) _;rw[M];exact .fsl 1 _ id 0 _ ⟨_,rfl⟩ (by unfold bD;rw[J];rfl) Za (λi a b Z G=>by rw[zero_add]at G;rw[Z]at G;cases G;rfl) (λi j a b u v Z G o hv=>by
   rw[zero_add]at G;rw[Z]at G;cases G;rw[o]at hv;cases hv;exact .same _ (gG.1 (z a (mem_of_getElem? Z)) j u o))
 .rintro id ⟨m,h⟩;rcases e3.sh with⟨B,_⟩|⟨ai,xs,B,J,_⟩
  .rw[B]at h;cases h
  rw[B]at h;cases h;unfold bD;rw[J];rfl
 refine⟨λid es ys hz hr c p u o=>?_⟩
 have⟨m,h⟩:=hz;rcases e3.sh with⟨B,_⟩|⟨ai,xs,B,J,A⟩
 .rw[B]at h;cases h
 rw[B]at h;cases h
 by_cases d:T=0
 .have:=e4 Za
  rw[S d]at this;rw[this]at B;cases B
 have y:=A (W d);subst y;unfold bD at hr;rw[J]at hr;cases hr;have⟨j,hj⟩:=getElem?_of_mem o;exact⟨u,.same _ (gG.1 (z c p) j u hj)⟩
def xo(op:Zl)(x y:Int):Int:=cond op x y
@[simp] theorem TC(x y:Int):xo true x y=x:=rfl
@[simp] theorem Tz(x y:Int):xo false x y=y:=rfl
namespace setX
instance{n:Nat}:OfNat Arg n:=⟨.s n⟩
def fa(k:Nat):K:=.p (.fieldAddr k)
def ld:K:=.r (.load 1 false)
def r1:Zx:=[o2 4 (.a .box) [1] [],o2 5 (.a .box) [2] []]
def r2:Zx:=[o1 6 0 [],o2 7 (fa 0) [4] [],o2 8 ld [7] [],o2 9 (fa 1) [4] [],o2 10 ld [9] [],o2 11 (.p (.idxS 1)) [6,8] [],⟨none,none,false,.l (.store 1),[11,10],[],[]⟩]
def r3:Zx:=[o1 6 0 [],o2 7 (fa 0) [5] [],o2 8 ld [7] [],o2 9 (fa 1) [5] [],o2 10 ld [9] [],o2 11 (.p (.bin (some .int) none .sub)) [10,.k (.int .i64 1)] [],o2 12 (.p (.idxS 1)) [6,8] [],⟨none,none,false,.l (.store 1),[12,11],[],[]⟩]
def code(op:Zl):RC:=.seq (.ops r1) (.ops (if op then r3 else r2))
section
variable{E:Env}{N:Nat->Zk}{H:bC}{id off L:Nat}{rs:Zt}
theorem OD{h:Nat}{x y:V}{i:Nat}{v:V}(B:H[h]?=some (.row 2 [[x,y]]))(a:[x,y][i]?=some v):dZ H (.load 1 false) [.hptr h 0 i]=some v:=by match i,a with|0,a=>cases a;simp[dZ,dX,B,Ob.rows,cut,mk]|1,a=>cases a;simp[dZ,dX,B,Ob.rows,cut,mk]|i+2,a=>simp at a
attribute [local simp] cw f_ dS bO gj ko kK ot
theorem whole(op:Zl){a b c d:Int}(G:H[id]?=some (.row 1 rs))(J:0<=(xo op c a))(B:(xo op c a).toNat<L){z:V}(D:rs[off+(xo op c a).toNat]?=some [z]):
 ∃F' X,Ex E N (code op) [.hsl id 1 off L,.agg [.int .i64 a,.int .i64 b],.agg [.int .i64 c,.int .i64 d]] H .norm F' ((H++X).set id (.row 1 (rs.set (off+(xo op c a).toNat) [.int .i64 (xo op (wrap .i64 (d-1)) b)]))):=by
 let X:bC:=[.row 2 [[.int .i64 a,.int .i64 b]],.row 2 [[.int .i64 c,.int .i64 d]]]
 have I:=(ζe.1 G).1;have e1:∃F1,(∀call,cw E N call none r1 [.hsl id 1 off L,.agg [.int .i64 a,.int .i64 b],.agg [.int .i64 c,.int .i64 d]] H=some (F1,H++X))/\get F1 0=.hsl id 1 off L/\get F1 4=.hptr H.length 0 0/\get F1 5=.hptr (H.length+1) 0 0:=by exact⟨_,λcall=>by simp[r1,get,set,iF,V.cells,V.one,Mk.val,X];rfl,rfl,rfl,rfl⟩
 have⟨F1,p1,p2,p3,p4⟩:=e1;have e:(H++X)[id]?=some (.row 1 rs):=by rw[getElem?_append_left I];exact G
 have O:(H++X)[H.length]?=some (.row 2 [[.int .i64 a,.int .i64 b]]):=by simp[X]
 have Q:(H++X)[H.length+1]?=some (.row 2 [[.int .i64 c,.int .i64 d]]):=by rw[getElem?_append_right Za];simp[X]
 obtain⟨H1,S⟩:∃H1,H1=H++X:=⟨_,rfl⟩;rw[<-S]at e O Q;rw[<-S]at p1
 suffices Y:∃F',Ex E N (code op) [.hsl id 1 off L,.agg [.int .i64 a,.int .i64 b],.agg [.int .i64 c,.int .i64 d]] H .norm F' (H1.set id (.row 1 (rs.set (off+(xo op c a).toNat) [.int .i64 (xo op (wrap .i64 (d-1)) b)])))by have⟨F',Z⟩:=Y;exact⟨F',X,by rw[<-S];exact Z⟩
 have w:∀p:Int,0<=p->p.toNat<L->kE 1 (.hsl id 1 off L) p=some (.hptr id (off+p.toNat) 0):=λp h g=>by unfold kE;rw[if_neg Za];simp[g]
 have C:∀(q:Nat)(z v:V),rs[q]?=some [z]->v.one=true->eU H1 (.store 1) [.hptr id q 0,v]=some (.undef,H1.set id (.row 1 (rs.set q [v]))):=λq z v D f=>by simp[eU,e,D,Dn f,f]
 cases op with
 |false=>
  simp only[Tz]at J B D⊢;have T:=OD (i:=0) O rfl;have U:=OD (i:=1) O rfl;have e2:∃u,(∀call,cw E N call none r2 F1 H1=some (u,H1.set id (.row 1 (rs.set (off+a.toNat) [.int .i64 b])))):=by exact⟨_,λcall=>by simp[r2,p2,p3,fa,ld,kH,T,U,w a J B,C _ z (.int .i64 _) D rfl];rfl⟩
  have⟨u,W⟩:=e2;exact⟨u,Ex.seq (Ex.c_ p1) (Ex.c_ (l:=_) W)⟩
 |true=>
  simp only[TC]at J B D⊢;have T:=OD (i:=0) Q rfl;have U:=OD (i:=1) Q rfl;have e2:∃u,(∀call,cw E N call none r3 F1 H1=some (u,H1.set id (.row 1 (rs.set (off+c.toNat) [.int .i64 (wrap .i64 (d-1))])))):=by exact⟨_,λcall=>by simp[r3,p2,p4,fa,ld,kH,T,U,w c J B,C _ z (.int .i64 _) D rfl];rfl⟩
  have⟨u,W⟩:=e2;exact⟨u,Ex.seq (Ex.c_ p1) (Ex.c_ (l:=_) W)⟩
end
end setX
section
variable{S:Sys}{c:cg}{β γ δ α:Type}[bF δ]{Q:Out×St->bt β}{e:γ->bt β}{cf:Cf}
end
def snap(w:World):cu:=λb=>match w.heap[b]?with
 |some (.cells c _ _)=>some (.cells c)|some (.map es _)=>some (.map es)|_=>none
theorem N3{w:World}(a:s8 (snap w)):c9 (snap w) (λ_=>none) [] w where
 dom _ _:=rfl
 imm b x h:=by unfold snap at h;split at h;(next c el fr u=>cases h;exact⟨el,fr,u⟩);(next es d u=>cases h;exact⟨d,u⟩);cases h
 obs id ob h:=by simp at h
 inj id z ob B p C h:=by simp at h
 gl:=a
def fK(I:cu)(xs:Zu)(vs:a_ Zp):Prop:=xs.length=vs.length/\∀(j:Nat)a b,xs[j]?=some a->vs[j]?=some b->eD I a b
theorem fK.nil{I:cu}:fK I [] []:=⟨rfl,Zc⟩
theorem fK.one{I:cu}{x:V}{v:Zp}(h:eD I x v):fK I [x] [v]:=⟨rfl,λj a b c u=>by
 cases j with
 |zero=>simp at c u;subst c u;exact h|succ j=>simp at c⟩
theorem fK.append{I:cu}{xs ys:Zu}{B vs:a_ Zp}(h:fK I xs B)(k:fK I ys vs):fK I (xs++ys) (B++vs):=by refine⟨by simp[h.1,k.1],λj a b c u=>?_⟩;by_cases w:j<xs.length;rw[getElem?_append_left w]at c;rw[getElem?_append_left (by rw[<-h.1];exact w)]at u;exact h.2 j a b c u;rw[getElem?_append_right Za]at c;rw[getElem?_append_right (by rw[<-h.1];omega),<-h.1]at u;exact k.2 _ a b c u
theorem AZ{α β:Type}{f:α->bt β}:∀{l:a_ α}{r:a_ β},l.mapM f=some r->r.length=l.length/\∀(i:Nat)a b,l[i]?=some a->r[i]?=some b->f a=some b
 |[],r,h=>by simp only[List.mapM_nil,pure_def,ζa]at h;subst h;simp|x::l,r,h=>by simp only[List.mapM_cons,Option.bind_eq_bind,pure_def,ζg,ζa]at h;obtain⟨y,D,ys,B,rfl⟩:=h;have⟨c,z⟩:=AZ B;refine⟨by simp[c],λi a b u w=>?_⟩;cases i with|zero=>simp at u w;subst u w;exact D|succ i=>exact z i a b (by simpa using u) (by simpa using w)
structure ru{H:Type}(b:DataW H->Nat):Prop where
 lit:∀l,1<=b (.lit l)
 str:∀s,s.length+1<=b (.lit (.string s))
 nil:1<=b .nil
 slice:∀es sp,(es.map b).sum+1<=b (.slice es sp)
 agg:∀ps,(ps.map b).sum+1<=b (.agg ps)
class cD(α:Type)where
 wt:α->Nat
 ok:α->Prop
instance:cD Int where
 wt _:=1
 ok n:=-9223372036854775808<=n/\n<=9223372036854775807
instance:cD Zl where
 wt _:=1
 ok _:=True
instance:cD Zq where
 wt s:=s.size+1
 ok s:=s.size<=maxLen
instance{α:Type}[cD α]:cD (Sl α)where
 wt s:=(s.l.map cD.wt).sum+1
 ok s:=(∀x∈s.l,cD.ok x)/\s≠.emp
class Reads(P:Program)(t:TypeId)(α:Type)[bF α][cD α]:Prop where
 size:P.cellsOf t=bF.size α
 rd:∀{H:Type}{enc:TypeId×Value->H}{w:World}{base:Nat}{spare:Nat->Bool}{held:Bool}{fuel:Nat}{cs:List Value}{d:DataW H}{ps:List MemPlace},
  trod enc P w base spare held fuel t cs=some (d,ps)->∃a:α,fK (snap w) (cells a) cs/\cD.ok a/\∀b:DataW H->Nat,ru b->cD.wt a<=b d
 shape:∀{w:World}{r:_root_.Go.Reach}{base:Nat}{v:Value},okWide P w r base t v->if bF.agg α then∃cs,v=.agg cs else v.cells=#[v]
section
variable{P:Program}
theorem qe{w:World}{r:_root_.Go.Reach}{base:Nat}{t:Zm}{v:Zp}{u:_}(a:P.underlying t=some u)(b:∀fs,u≠.struct fs)(B:∀n e,u≠.array n e)(h:okWide P w r base t v):v.cells=#[v]:=by cases v with|agg C=>exfalso;unfold okWide at h;rw[a]at h;split at h;(next fs z=>cases z;exact b _ rfl);(next n e z=>cases z;exact B _ _ rfl);(unfold Cell.okWide at h;rw[a]at h;split at h<;>first|(simp at *;done)|skip);unfold Cell.ok at h;rw[a]at h;cases u<;>simp at h|_=>rfl
theorem Reads.int{t:Zm}(a:P.underlying t=some (.int .i64))(c:P.cellsOf t=1):Reads P t Int where
 size:=c
 rd {H enc w base spare held z D d ps} h:=by cases z with|zero=>simp[trod]at h|succ z=>(simp only[trod,a]at h;split at h<;>first|(simp at h;done)|skip);(next u=>cases u);rename_i k G n u;simp only[ζa,TypeDesc.int.injEq]at u;split at h;(next e=>obtain⟨rfl,B⟩:=e;subst u;cases h;exact⟨n,fK.one (.int _ n),show _/\_ by simpa[Lit.wf,IntKind.min,IntKind.max,signed,IntKind.bits]using B,λb C=>C.lit _⟩);simp at h;all_goals (rename_i u;cases u)
 shape h:=by simp only[show bF.agg Int=false from rfl];exact qe a Zc Zc h
theorem Reads.bool{t:Zm}(a:P.underlying t=some .bool)(c:P.cellsOf t=1):Reads P t Zl where
 size:=c
 rd {H enc w base spare held u C d ps} h:=by cases u with|zero=>simp[trod]at h|succ u=>(simp only[trod,a]at h;split at h<;>first|(simp at h;done)|skip);(next b _=>cases h;exact⟨b,fK.one (.bool b),trivial,λb B=>B.lit _⟩);all_goals (rename_i z;cases z)
 shape h:=by simp only[show bF.agg Zl=false from rfl];exact qe a Zc Zc h
theorem Reads.str{t:Zm}(a:P.underlying t=some .string)(c:P.cellsOf t=1):Reads P t Zq where
 size:=c
 rd {H enc w base spare held u D d ps} h:=by cases u with|zero=>simp[trod]at h|succ u=>(simp only[trod,a]at h;split at h<;>first|(simp at h;done)|skip);(all_goals (first|(rename_i z;cases z;done)|skip));rename_i s _;split at h;(next B=>cases h;exact⟨s,fK.one (.str s),B,λb C=>C.str _⟩);simp at h
 shape h:=by simp only[show bF.agg Zq=false from rfl];exact qe a Zc Zc h
theorem MZ{w:World}{a:Addr}{n:Nat}{v:Zp}(h:w.cell? (a.add n)=some v)(B:n=0\/True):∃c el fr,w.heap[a.block]?=some (.cells c el fr)/\c[a.off+n]?=some v/\(n=0->a.spot=none):=by
 unfold cell? Addr.add at h;by_cases b:n=0;subst b;simp only[if_true]at h;split at h;rename_i c el fr u;split at h;simp at h;rename_i z;exact⟨c,el,fr,u,h,λ_=>by simpa using z⟩;simp at h;simp only[if_neg b]at h;split at h;next c el fr u=>simp only[Option.isSome_none,false_eq_true,if_false]at h;exact⟨c,el,fr,u,h,λe=>absurd e b⟩
 simp at h
def tI(P:Program)(t:Zm)(α:Type)[bF α][cD α](B:Nat):Prop:=∀{H:Type}{enc:Zm×Zp->H}{w:World}{base:Nat}{c:Nat->Zl}{e:Zl}{u:a_ Zp}{d:DataW H}{ps:a_ MemPlace},trod enc P w base c e B t u=some (d,ps)->∃a:α,fK (snap w) (cells a) u/\cD.ok a/\∀b:DataW H->Nat,ru b->cD.wt a<=b d
theorem tI.sl{t e:Zm}{α:Type}[bF α][cD α]{J:Nat}(R:P.underlying t=some (.slice e))(V:P.cellsOf e=bF.size α)(U:0<bF.size α)(p:tI P e α J):tI P t (Sl α) (J+1):=by
 intro H enc w base A K cs d ps h;simp only[trod,R]at h;split at h<;>first|(simp at h;done)|skip
 all_goals (first|(rename_i I;cases I;done)|skip)
 cases h;exact⟨.nil,fK.one .bL,⟨λx W=>by simp[Sl.l]at W,Zc⟩,λb X=>X.nil⟩;rename_i e' a len E I;cases I;split at h
 .rename_i Y;obtain⟨f,ah,h⟩:=ζg.1 h;obtain⟨rest,_,h⟩:=ζf.1 h;cases h;obtain⟨Z,aa⟩:=AZ ah;simp only[length_range]at Z;have W:∀i,i<len->∃x:α,∃u:a_ Zp,w.cells? base (a.add (i*P.cellsOf e)) (P.cellsOf e)=some u/\fK (snap w) (cells x) u/\cD.ok x/\∀b:DataW H->Nat,ru b->∀y,f[i]?=some y->cD.wt x<=b y.1:=λi L=>(by have:=aa i i (f[i]' Za) (by simp[L]) (ζd Za);obtain⟨u,l,O⟩:=ζg.1 this;obtain⟨x,W,F,X⟩:=p (show _=some ((f[i]' Za).1,(f[i]' Za).2)from O);exact⟨x,u,l,W,F,λb Q y g=>by rw[ζd Za]at g;cases g;exact X b Q⟩);have ab:∀n,n<=len->∃z:a_ α,z.length=n/\(∀i x,z[i]?=some x->∃u:a_ Zp,w.cells? base (a.add (i*P.cellsOf e)) (P.cellsOf e)=some u/\fK (snap w) (cells x) u)/\(∀x∈z,cD.ok x)/\∀b:DataW H->Nat,ru b->(z.map cD.wt).sum<=(((f.take n).map (·.1)).map b).sum:=(by intro n;induction n with|zero=>intro _;exact⟨[],rfl,Zc,Zc,Zc⟩|succ n ih=>intro hn;obtain⟨z,l,O,h5,h6⟩:=ih Za;obtain⟨x,u,h3,h4,h7,h8⟩:=W n Za;refine⟨z++[x],by simp[l],λi y g=>?_,λy g=>?_,λb Q=>?_⟩;rotate_left;rcases mem_append.1 g with g|g;exact h5 y g;simp at g;subst g;exact h7;have k1:=h6 b Q;have k2:=h8 b Q _ (ζd Za);rw[List.take_succ,ζd (by omega:n<f.length)];simp only[List.map_append,List.sum_append,Option.toList_some,map_cons,map_nil,List.sum_cons,List.sum_nil];omega;by_cases L:i<z.length;rw[getElem?_append_left L]at g;exact O i y g;rw[getElem?_append_right Za]at g;have:i-z.length=0:=(by cases F:i-z.length with|zero=>rfl|succ k=>rw[F]at g;simp at g);rw[this]at g;simp at g;subst g;have:i=n:=Za;subst this;exact⟨u,h3,h4⟩);obtain⟨z,C,ai,ad,aj⟩:=ab len (le_refl _);refine⟨.row z,fK.one ?_,⟨ad,Zc⟩,λb Q=>?_⟩;rotate_left;have k:=aj b Q;rw[take_of_length_le Za]at k;have k2:=Q.slice (f.map (·.1)) (rest.map (·.1));show(z.map cD.wt).sum+1<=_;omega;show eD _ (.fsl (bF.size α) (rows z)) _;cases q:z with|nil=>subst q;simp at C;subst C;exact .fsl0 _ _ _|cons x0 xr=>rw[<-q];have ap:0<len:=(by rw[<-C,q];simp);have S:∀i x,z[i]?=some x->∀j y,(cells x)[j]?=some y->∃v,w.cell? ((a.add (i*bF.size α)).add j)=some v/\eD (snap w) y v:=(by intro i x L j y g;obtain⟨u,l,O⟩:=ai i x L;rw[V]at l;unfold World.cells? at l;split at l;obtain⟨g1,g2⟩:=AZ l;have M:j<bF.size α:=(by rw[<-fF x];exact(ζe.1 g).1);obtain⟨v,s⟩:∃v,u[j]?=some v:=⟨_,ζd (by rw[g1];simpa using M)⟩;exact⟨v,g2 j j v (by simp[M]) s,O.2 j y v g s⟩;simp at l);have ao:∀i j,(a.add (i*bF.size α)).add j=a.add (i*bF.size α+j)\/True:=λ_ _=>.inr trivial;have B:∀i x,z[i]?=some x->∀j y,(cells x)[j]?=some y->∃c el fr v,w.heap[a.block]?=some (.cells c el fr)/\c[a.off+i*bF.size α+j]?=some v/\eD (snap w) y v/\(i=0->j=0->a.spot=none):=(by intro i x L j y g;obtain⟨v,l,O⟩:=S i x L j y g;obtain⟨c,el,fr,g1,g2,g3⟩:=MZ l (.inr trivial);have X:(a.add (i*bF.size α)).block=a.block:=(by unfold Addr.add;split<;>rfl);have ho:(a.add (i*bF.size α)).off=a.off+i*bF.size α:=(by unfold Addr.add;split<;>simp_all);rw[X]at g1;rw[ho]at g2;refine⟨c,el,fr,v,g1,g2,O,?_⟩;rintro rfl rfl;have:=g3 rfl;simpa[Addr.add]using this);have ak:∃y,(cells x0)[0]?=some y:=⟨_,ζd (by rw[fF];exact U)⟩;obtain⟨y0,al⟩:=ak;obtain⟨c,el,fr,v0,D,_,_,G⟩:=B 0 x0 (by rw[q];rfl) 0 y0 al;have G:=G rfl rfl;obtain⟨b,o,sp⟩:=a;simp only at G D;subst G;have hI:snap w b=some (.cells c):=(by unfold snap;rw[D]);have T:(rows z).length=len:=(by rw[gC,C]);rw[<-T];refine .fsl _ _ b o E c hI (by rw[T];exact Y.2.1) (λr p=>?_) (λr p y g=>?_) ?_ (λi j r y v p g s=>?_);obtain⟨x,_,rfl⟩:=mem_map.1 p;exact fF x;obtain⟨x,_,rfl⟩:=mem_map.1 p;exact all_eq_true.1 (pH x) y g;obtain⟨N,ae⟩:∃x,z[len-1]?=some x:=⟨_,ζd Za⟩;obtain⟨yl,am⟩:∃y,(cells N)[bF.size α-1]?=some y:=⟨_,ζd (by rw[fF];omega)⟩;obtain⟨c2,_,_,v2,k1,k2,_,_⟩:=B (len-1) N ae (bF.size α-1) yl am;simp only at k1 k2;rw[D]at k1;cases k1;have:=(Array.getElem?_eq_some_iff.1 k2).1;rw[T];have e:len*bF.size α=(len-1)*bF.size α+bF.size α:=(by obtain⟨m,rfl⟩:∃m,len=m+1:=⟨len-1,Za⟩;simp[Nat.add_mul]);omega;simp only[rows,getElem?_map,ζf]at p;obtain⟨x,an,rfl⟩:=p;obtain⟨c2,_,_,v2,k1,k2,k3,_⟩:=B i x an j y g;simp only at k1 k2;rw[D]at k1;cases k1;rw[s]at k2;cases k2;exact k3
 simp at h
theorem tI.UI{t e:Zm}{α:Type}[bF α][cD α]{B:Nat}(c:P.underlying t=some (.slice e))(G:P.cellsOf e=bF.size α)(D:0<bF.size α)(i:∀g,g<B->tI P e α g):tI P t (Sl α) B:=by cases B with|zero=>intro H enc w base a b u d ps h;simp[trod]at h|succ f=>exact tI.sl c G D (i f (Nat.lt_succ_self f))
theorem Reads.sl{t e:Zm}{α:Type}[bF α][cD α][Reads P e α](a:P.underlying t=some (.slice e))(b:P.cellsOf t=1)(B:0<bF.size α):Reads P t (Sl α)where
 size:=b
 rd h:=tI.UI a (Reads.size (α:=α)) B (λ_ _{_ _ _ _ _ _ _ _ _}=>Reads.rd (P:=P) (t:=e) (α:=α)) h
 shape h:=by simp only[show bF.agg (Sl α)=false from rfl];exact qe a Zc Zc h
theorem fK.seg{I:cu}{a xs:Zu}{cs:a_ Zp}{o n:Nat}(h:fK I a (cs.take o))(k:fK I xs ((cs.drop o).take n)):fK I (a++xs) (cs.take (o+n)):=by rw[List.take_add];exact h.append k
theorem fK.fin{I:cu}{xs:Zu}{cs:a_ Zp}{n:Nat}(h:fK I xs (cs.take n))(B:cs.length=n):fK I xs cs:=by rw[take_of_length_le Za]at h;exact h
theorem tI.st{t:Zm}{fs:Array Field}{α:Type}[bF α][cD α]{B:Nat}(i:P.underlying t=some (.struct fs))(j:P.cellsOf t=bF.size α)
 (h:∀{H:Type}{enc:Zm×Zp->H}{w:World}{base:Nat}{c:Nat->Zl}{e:Zl}{cs:a_ Zp}{l:a_ (DataW H×a_ MemPlace)},cs.length=bF.size α->
  (fs.toList.mapM λf=>trod enc P w base c e B f.type ((cs.drop f.offset).take (P.cellsOf f.type)))=some l->∃a:α,fK (snap w) (cells a) cs/\cD.ok a/\∀b:DataW H->Nat,ru b->cD.wt a<=((l.map (·.1)).map b).sum+1):tI P t α (B+1):=by
 intro H enc w base c e cs d ps g;simp only[trod,i]at g;split at g<;>first|(simp at g;done)|skip
 all_goals (first|(rename_i u;cases u;done)|skip)
 rename_i C;have⟨l,k,D⟩:=ζf.1 g;cases D;have⟨a,k1,k2,k3⟩:=h (by rw[C,j]) k
 exact⟨a,k1,k2,λb z=>Nat.le_trans (k3 b z) (z.agg _)⟩
theorem Reads.of{t:Zm}{fs:Array Field}{α:Type}[bF α][cD α](a:P.underlying t=some (.struct fs))(b:P.cellsOf t=bF.size α)(D:bF.agg α=true)(h:∀B,tI P t α B):Reads P t α where
 size:=b
 rd hr:=h _ hr
 shape hv:=by rw[if_pos D];unfold okWide at hv;rw[a]at hv;have⟨u,c,_⟩:=hv;exact⟨u,c⟩
theorem Reads.st{t:Zm}{fs:Array Field}{α:Type}[bF α][cD α](g:P.underlying t=some (.struct fs))(i:P.cellsOf t=bF.size α)(D:bF.agg α=true)
 (h:∀{H:Type}{enc:Zm×Zp->H}{w:World}{base:Nat}{c:Nat->Zl}{e:Zl}{B:Nat}{cs:a_ Zp}{l:a_ (DataW H×a_ MemPlace)},cs.length=bF.size α->
  (fs.toList.mapM λf=>trod enc P w base c e B f.type ((cs.drop f.offset).take (P.cellsOf f.type)))=some l->∃a:α,fK (snap w) (cells a) cs/\cD.ok a/\∀b:DataW H->Nat,ru b->cD.wt a<=((l.map (·.1)).map b).sum+1):Reads P t α:=
 Reads.of g i D λB=>by cases B with|zero=>intro H enc w base c e cs d ps h;simp[trod]at h|succ f=>exact tI.st g i h
theorem Reads.arg{t:Zm}{α:Type}[bF α][cD α][Reads P t α]{H:Type}{B:Zm×Zp->H}{w:World}{base:Nat}{c:Nat->Zl}{e:Zl}{r:_root_.Go.Reach}{b:Nat}{v:Zp}{d:DataW H}{ps:a_ MemPlace}
 (f:okWide P w r b t v)(h:Trod B P w base c e t v d ps):∃a:α,bM (snap w) (λ_=>none) (enc a) v/\cD.ok a/\∀b:DataW H->Nat,ru b->cD.wt a<=b d:=by
 have⟨I,h⟩:=h;have⟨a,⟨g,z⟩,D,G⟩:=Reads.rd (P:=P) (t:=t) (α:=α) h;have u:=Reads.shape (P:=P) (t:=t) (α:=α) f;refine⟨a,?_,D,G⟩
 cases C:bF.agg α with
 |true=>rw[C,if_pos rfl]at u;obtain⟨O,rfl⟩:=u;rw[zx C];refine .c _ _ (.agg _ _ (by simpa[Value.cells]using g) (λj x y J L=>z j x y J (by simpa[Value.cells]using L)))|false=>rw[C]at u;simp only[false_eq_true,if_false]at u;rw[u]at z;rw[vj C]at z;exact .c _ _ (z 0 _ _ rfl rfl)
end
end Go.VE
namespace Go.VE
variable[bV]
open Go.ChangeShapes Go.WideShapes Go.ChangeAt Go.RowKit
structure FA(w w':World):Prop where
 kept:w.keptBut w' (λ_=>False)
 fz:∀a:Addr,a.block<w.heap.size->w'.frozen? a=w.frozen? a
theorem D_{I I':cu}{μ':Mu}{H':bC}{w w':World}(s:Step I (λ_=>none) [] w I' μ' H' w'):FA w w':=by
 have B:∀b,b<w.heap.size->w'.heap[b]?=w.heap[b]?:=λb z=>s.frame b z (by rintro⟨id,p,ob,h,_⟩;simp at h);refine⟨⟨s.os,s.out.out,λi C=>?_⟩,λa z=>?_⟩;rw[B i C];split;next c u=>rw[c]at u;cases u;exact⟨rfl,rfl,rfl,λ_ _=>rfl⟩
 next c u=>rw[c]at u;cases u;exact .inr ⟨rfl,rfl⟩
 rfl;unfold World.frozen?;rw[B _ z]
theorem EL{P:Program}{call:dw}(a:j9 P call){f:Zk}{args:Zu}{b:Zl}{H':bC}(h:call (.fn f) args []=some (.bool b,H')){w:World}{vs:a_ Zp}
 (D:s8 (snap w))(d:cR (snap w) (λ_=>none) args vs):Calls P f vs.toArray w λe w'=>e=.returned (.bool b)/\FA w w':=by
 intro C;have k:=((a.fn f args [] _ H' h).2 (snap w) (λ_=>none) w vs (N3 D) d)
 obtain⟨e,w',fr,⟨u,I',μ',rfl,g,_,G⟩,z,i,I⟩:=k.2 C (by simp[Fence.room,fr])
 refine⟨_,w',fr,⟨?_,D_ G⟩,z.comes,i,I⟩
 cases g with
 |c _ _ B=>cases B;rfl
variable{P:Program}{H:Type}{enc:Zm×Zp->H}
theorem D3{B:a_ Zm}{vs:a_ Zp}{ds:a_ (DataW H)}{ps:a_ MemPlace}{w w':World}(e:FA w w')(h:TrodAll enc P w 0 (λ_=>true) true B vs ds ps):TrodAll enc P w' 0 (λ_=>true) true B vs ds ps:=by
 have z:∀p:MemPlace,p.block<w.heap.size->w.sameAt w' p:=by intro p C;have k:=e.kept.2.2 p.block C;cases p with|cell b off=>simp only[sameAt,cell?];simp only[MemPlace.block]at k C;split at k;rename_i c t fr c' G D a u;rw[a,u];simp only;have:=k.2.2.2 off (λx=>x);simpa using this;(next a u=>rw[a,u]);rw[k]|map b=>simp only[sameAt];simp only[MemPlace.block]at k C;split at k;rename_i c t fr c' G D a u;obtain⟨rfl,rfl,O,I⟩:=k;rw[a,u];have:c'=c:=Array.ext_getElem? λi=>I i (λx=>x);rw[this];rename_i a u;rcases k with k|⟨rfl,rfl⟩;exact k.elim;rw[a,u];exact k
 induction B generalizing vs ds ps with|nil=>cases vs<;>cases ds<;>simp_all [TrodAll]|cons t B J=>cases vs with|nil=>simp[TrodAll]at h|cons v vs=>cases ds with|nil=>simp[TrodAll]at h|cons d ds=>obtain⟨p,q,⟨n,a⟩,u,rfl⟩:=h;exact⟨p,q,⟨n,DataW.trod_carry n _ _ _ a λx L=>z x (DataW.trod_lt n _ _ _ a x L)⟩,J u,rfl⟩
theorem Lh{T:Zm->Prop}(K:Kids P T)(l:∀t e,T t->P.underlying t=some (.slice e)->0<P.cellsOf e){f:Func}{s:ChangeSpec}{apart c a d:Zl}{W G:World}{args:Array Zp}{ds i:a_ (DataW H)}{before:a_ MemPlace}{tb:Zm}
 (m:∀t∈f.params.toList,T t)(B:s.vars=[])(D:s.fn H (ds++i)={results:=[.lit (.bool true)],args:=ds})(J:f.resultTypes=#[tb])(U:P.underlying tb=some .bool)
 (Y:DataW.Whole enc P f.params.toList s.vars apart W args.toList ds i before)(g:FA W G):s.post enc P f apart c a d W args (.bool true) G:=by
 have z:=Y;obtain⟨p,q,Z,S,rfl,L,O⟩:=Y;rw[B]at S;obtain⟨rfl,rfl⟩:=trodVars_none S;have j:∀(b:Nat)(w:Nat->Zl)(n:Zl),TrodAll enc P G b w n f.resultTypes.toList ((Value.bool true).resultList f.resultTypes.size) (s.fn H (ds++[])).results []:=λ_ _ _=>by rw[J,D];exact trodAll_cons_mk (shut_bool U _) trodAll_mk0
 have X:∀w:Nat->Zl,(∀x∈p++[],w x.block=true)->TrodAll enc P G 0 w true f.params.toList args.toList (s.fn H (ds++[])).args p:=λw Q=>by rw[D];exact TrodAll.respare K l m (D3 g Z) (λx u=>Q x (List.mem_append_left _ u))
 have k:∀w:Nat->Zl,DataW.TrodVars enc P G w s.vars (s.fn H (ds++[])).vars []:=λw=>by rw[D,B];rfl
 have C:=λx u=>z.lt x u
 refine⟨ds,[],p++[],[],p,[],z,j _ _ _,X _ λx u=>by simpa using C x u,k _,World.keptBut_mono (λx u=>u.elim) g.kept,λ_=>⟨ok_one J rfl (okWide_bool_mk U _),?_⟩⟩
 refine⟨_,_,[]++p++[],⟨[]++p,[],trodAll_append (X _ λ_ _=>rfl) (j _ _ _),k _,rfl,λb off u=>?_,λh=>by simpa using O h⟩,λx u _=>by simpa using u⟩
 have I:MemPlace.cell b off∈p++[]:=by simpa using u
 rw[g.fz _ (C _ I)];exact L b off I
end Go.VE
namespace Go.VE
variable[bV]
instance:cD U8 where
 wt _:=1
 ok n:=0<=n.v/\n.v<=255
theorem Reads.u8{P:Program}{t:Zm}(a:P.underlying t=some (.int .u8))(c:P.cellsOf t=1):Reads P t U8 where
 size:=c
 rd {H enc w base spare held z D d ps} h:=by cases z with|zero=>simp[trod]at h|succ z=>(simp only[trod,a]at h;split at h<;>first|(simp at h;done)|skip);(next u=>cases u);rename_i k G n u;simp only[ζa,TypeDesc.int.injEq]at u;split at h;(next e=>obtain⟨rfl,B⟩:=e;subst u;cases h;exact⟨⟨n⟩,fK.one (.int _ n),show _/\_ by simpa[Lit.wf,IntKind.min,IntKind.max,signed,IntKind.bits]using B,λb C=>C.lit _⟩);simp at h;all_goals (rename_i u;cases u)
 shape h:=by simp only[show bF.agg U8=false from rfl];exact qe a Zc Zc h
theorem Jx{m:Tb bN}{n:Nat}{rs:Zw}{b:Zl}(h:dh m n rs=some [.bool b]):rs=[.v (.bool b)]:=by
 cases rs with
 |nil=>cases n<;>simp[dh]at h|cons x r=>
  have c:shut m n x=some (.bool b)/\dh m n r=some []:=by unfold dh at h;split at h;(next y s c w=>simp only[ζa,List.cons.injEq]at h;obtain⟨rfl,rfl⟩:=h;exact⟨c,w⟩);cases h
  have w:r=[]:=by cases r with|nil=>rfl|cons y r=>have:=c.2;unfold dh at this;split at this<;>simp at this
  subst w;have u:=c.1
  cases x with
  |v y=>unfold shut at u;simp only[ζa]at u;rw[u]|own d=>unfold shut at u;split at u<;>simp only[ζa,reduceCtorEq]at u;rename_i k es B _;cases k<;>simp[nQ]at u|ptr d o=>cases n with|zero=>simp[shut]at u|succ n=>(unfold shut at u;split at u<;>try cases u);(split at u<;>try cases u);split at u<;>cases u
  |mp d=>unfold shut at u;split at u<;>cases u|clo f a b=>cases n with|zero=>simp[shut]at u|succ n=>unfold shut at u;split at u<;>cases u
  |tup l=>cases n with|zero=>simp[shut]at u|succ n=>unfold shut at u;have⟨_,_,z⟩:=ζf.1 u;cases z
  |_=>cases n<;>simp[shut]at u
theorem Mq{S:Sys}{T:oN}(B:qq S T)(D:∀f a b xs,S.items f a b=some xs->fm S f a b xs){f:Zk}{xs:Zu}(c:V.cG xs=true)(h:mA (dg S T) f xs=some [.bool true]):
 ∃n H',run S.E n (.fn f) xs []=some (.bool true,H'):=by
 unfold mA at h;have⟨⟨rs,m⟩,d,u⟩:=ζg.1 h;have:=Jx u;simp only at this;subst this;exact Qw B D c d rfl
theorem Jv{S:Sys}{T:oN}{P:Program}(B:qq S T)(D:∀f a b xs,S.items f a b=some xs->fm S f a b xs)(c:∀n,j9 P (run S.E n)){f:Zk}{xs:Zu}(d:V.cG xs=true)(h:mA (dg S T) f xs=some [.bool true])
 {w:World}{args:Array Zp}(G:s8 (snap w))(g:cR (snap w) (λ_=>none) xs args.toList):Calls P f args w λe w'=>e=.returned (.bool true)/\FA w w':=by
 have⟨n,H',i⟩:=Mq B D d h;have:=EL (c n) i G g;simpa using this
theorem Reads.Od{P:Program}{t:Zm}{α:Type}[bF α][cD α][Reads P t α]{H:Type}{B:Zm×Zp->H}{w:World}{base b:Nat}{c:Nat->Zl}{e:Zl}{v:Zp}{d:DataW H}{ps:a_ MemPlace}{params:Array Zm}{args:Array Zp}(D:∀(j:Nat)t v,params[j]?=some t->args[j]?=some v->okWide P w .any b t v)(j:Nat)(f:params[j]?=some t)(G:args[j]?=some v)(h:Trod B P w base c e t v d ps):∃a:α,bM (snap w) (λ_=>none) (enc a) v/\cD.ok a/\∀b:DataW H->Nat,ru b->cD.wt a<=b d:=Reads.arg (D j t v f G) h
end Go.VE
namespace Go.VE
theorem MR{w:World}{g:Nat}{l:Zy}(h:∀i,i<l.length->w.cell? ⟨g,i,none⟩=some (.int .i64 (l.getD i 0)))(e:0<l.length):eD (snap w) (.fptr (l.map (V.int .i64))) (.pointer (some ⟨g,0,none⟩)):=by
 have a:=h 0 e;unfold cell? at a;split at a;rename_i c t fr u;have D:snap w g=some (.cells c):=by unfold snap;simp only at u;rw[u]
 have d:∀i,w.cell? ⟨g,i,none⟩=c[i]?:=λi=>by unfold cell?;simp only at u⊢;rw[u];rfl
 refine .fptr _ _ _ c D ?_ ?_;rw[zero_add,length_map];have:=h (l.length-1) Za;rw[d]at this;have:=(Array.getElem?_eq_some_iff.1 this).1;omega;intro j y v B b;rw[zero_add,<-d]at b;rw[getElem?_map]at B;obtain⟨z,C,rfl⟩:=ζf.1 B;have G:=(ζe.1 C).1;rw[h j G]at b;cases b;have:l.getD j 0=z:=by simp[List.getD,C]
 rw[this];exact .int _ _;cases a
variable[bV]
theorem dB(n:Nat)(h:n<9223372036854775807):wrap .i64 ((n:Int)+1)=((n+1:Nat):Int):=by simp[wrap,IntKind.bits,signed];omega
theorem mE(n:Int)(a:-9223372036854775808<=n)(B:n<=9223372036854775807):wrap .i64 n=n:=by simp[wrap,IntKind.bits,signed];omega
section
variable{α β:Type}{P:β->Prop}
theorem lG(s:Sl α)(i:Nat):idx s (i:Int)=s.l[i]?:=by unfold idx;rw[if_pos Za];rfl
theorem bX{s:Sl α}{i:Nat}(h:i<s.l.length):idx s (i:Int)=some s.l[i]:=by rw[lG,ζd h]
theorem MV{s:Sl α}{i:Int}(a:0<=i):idx s i=s.l[i.toNat]?:=by unfold idx;rw[if_pos a]
theorem vh(s:Sl α)(i:Nat)(h:i<=s.l.length):∃x,jL s none (some (i:Int))=some x/\x.l=s.l.take i:=by unfold jL dW;simp only[Option.getD_none,getD_some];rw[if_pos Za];cases s<;>simp[Sl.l]at h⊢ <;>simp[h]
theorem b9{γ:Type}{a b:γ}:bE true a b=a:=rfl
theorem cK{γ:Type}{a b:γ}:bE false a b=b:=rfl
theorem mT(a b:Zl):bE a (some b) (some false)=some (a&&b):=by cases a<;>rfl
theorem ku(a b:Zl):bE a (some true) (some b)=some (a||b):=by cases a<;>rfl
theorem sn(a:Zl)(x y:β):bE a (some x) (some y)=some (if a then x else y):=by cases a<;>rfl
end
def place{α:Type}(f:α->Zl)(l:a_ α):Int:=match l.findIdx? f with
 |some i=>i|none=>-1
theorem yO{α:Type}{f:α->Zl}{l:a_ α}{i:Nat}(h:∀j,j<i->∀x,l[j]?=some x->f x=false)(B:l.length<=i):l.findIdx? f=none:=by rw[List.findIdx?_eq_none_iff];intro x w;have⟨j,u⟩:=getElem?_of_mem w;have:j<l.length:=(ζe.1 u).1;exact h j Za x u
theorem G5{α:Type}{f:α->Zl}{l:a_ α}{i:Nat}{x:α}(h:∀j,j<i->∀x,l[j]?=some x->f x=false)(B:l[i]?=some x)(D:f x=true):l.findIdx? f=some i:=by rw[List.findIdx?_eq_some_iff_getElem];obtain⟨u,rfl⟩:=ζe.1 B;exact⟨u,D,λj w=>by rw[h j w _ (ζd Za)];simp⟩
theorem oK{α:Type}{step:Int->bt (Fw Int Unit Int)}{s:Sl α}{p:α->bt Zl}{f:α->Zl}(J:∀x∈s.l,p x=some (f x))(U:s.l.length<9223372036854775807)
 (O:∀i,step i=bE (decide (i<len s)) ((idx s i).bind λB=>(p B).bind λD=>bE D (some (.r i)) (some (.n (wrap .i64 (i+1))))) (some (.x ()))):
 (b8 step 0).bind (Fw.elim (λ_=>some (-1)) (λe=>some e))=some (place f s.l):=by
 refine Wp.eq (ga (λi:Int=>∃n:Nat,i=n/\n<=s.l.length/\∀j,j<n->∀x,s.l[j]?=some x->f x=false) (λi:Int=>s.l.length-i.toNat) ⟨0,rfl,zero_le _,λj I=>absurd I Za⟩ ?_)
 rintro i ⟨n,rfl,L,w⟩;rw[O,cA];refine⟨λh=>?_,λh=>?_⟩
 .have u:n<s.l.length:=by simpa[len]using h
  rw[bX u,ζb,J _ (getElem_mem u),ζb,cA];refine⟨λz=>?_,λz=>?_⟩
  .rw[bz];show Wp (some (n:Int)) _;rw[bz];unfold place;rw[G5 w (ζd u) z]
  rw[bz];refine⟨⟨n+1,dB n Za,Za,λj I x C=>?_⟩,?_⟩
  .by_cases e:j=n
   .subst e;rw[ζd u]at C;cases C;exact z
   exact w j Za x C
  rw[dB n Za];simp;omega
 have G:s.l.length<=n:=by simpa[len]using h
 rw[bz];show Wp (some (-1:Int)) _;rw[bz];unfold place;rw[yO w G]
theorem qQ{α:Type}(f:α->Zl)(l:a_ α):decide (place f l>=0)=l.any f:=by unfold place;cases h:l.findIdx? f with|none=>rw[List.findIdx?_eq_none_iff]at h;have:l.any f=false:=(by rw[List.any_eq_false];intro x u;simp[h x u]);rw[this];rfl|some i=>have⟨w,z,_⟩:=List.findIdx?_eq_some_iff_getElem.1 h;have:l.any f=true:=List.any_eq_true.2 ⟨_,getElem_mem w,z⟩;rw[this];simp
theorem NJ{α σ ε ρ:Type}{step:α->σ->bt (Fw σ ε ρ)}{l:a_ α}(I:Nat->σ->Prop)(D:ε->Prop)(G:ρ->Prop){s:σ}(c:I 0 s)
 (h:∀i a s,l[i]?=some a->I i s->Wp (step a s) λw=>match w with|.n B=>I (i+1) B|.x e=>D e|.r b=>G b):
 Wp (nJ step l s) λw=>match w with|.n B=>I l.length B|.x e=>D e|.r b=>G b:=by
 have key:∀(r:a_ α)(i:Nat)(s:σ),l.drop i=r->i<=l.length->I i s->Wp (nJ step r s) λw=>match w with|.n B=>I l.length B|.x e=>D e|.r b=>G b:=by intro r;induction r with|nil=>intro i s u L C;have:i=l.length:=(by have:=List.drop_eq_nil_iff.1 u;omega);subst this;exact⟨_,rfl,C⟩|cons a r O=>intro i s u L C;have z:i<l.length:=(by apply Classical.byContradiction;intro T;rw[List.drop_eq_nil_of_le Za]at u;cases u);have Q:=List.drop_eq_getElem_cons z;rw[Q]at u;simp only[List.cons.injEq]at u;have⟨w,S,J⟩:=h i a s (by rw[ζd z,u.1]) C;simp only[nJ,S,ζb];cases w with|n B=>exact O (i+1) B u.2 Za J|x e=>exact⟨_,rfl,J⟩|r b=>exact⟨_,rfl,J⟩
 exact key l 0 s rfl (zero_le _) c
theorem zG{α σ ε ρ γ:Type}{step:α->σ->bt (Fw σ ε ρ)}{l:a_ α}{fn:σ->bt γ}{B:ε->bt γ}{fr:ρ->bt γ}{P:γ->Prop}(I:Nat->σ->Prop){s:σ}(c:I 0 s)
 (h:∀i a s,l[i]?=some a->I i s->Wp (step a s) λw=>match w with|.n D=>I (i+1) D|.x e=>Wp (B e) P|.r b=>Wp (fr b) P)
 (G:∀s,I l.length s->Wp (fn s) P):Wp ((nJ step l s).bind (Fw.uY fn B fr)) P:=by
 rw[fC];refine(NJ I _ _ c h).mono ?_;intro w u
 cases w with
 |n s=>exact G s u|x e=>exact u|r b=>exact u
end Go.VE
