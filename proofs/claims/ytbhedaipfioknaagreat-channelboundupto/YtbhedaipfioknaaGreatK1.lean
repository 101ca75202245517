/-
 Certificates; functions by hand; readings; plain laws.
-/
import Derived.JoinedCond
import Derived.ReadAgain
import Derived.WalkKit
import Derived.ProofKit
import Derived.OpenShut
import Derived.ChangeSame
import Derived.RowKit3
import Derived.Test.YtbhedaipfioknaaGreatV2
import Derived.Test.YtbhedaipfioknaaGreatN2
import Derived.Test.YtbhedaipfioknaaGreatS1
set_option linter.all false
noncomputable section
open Nat(beq ble le_refl reduceEqDiff zero_add zero_le)
open Option(getD_some map_some pure_def)
open List(all_cons all_eq_true append_assoc append_nil cons_append drop_zero getElem?_append_left getElem?_append_right getElem?_drop getElem?_map getElem?_of_mem getElem?_set getElem?_set_ne getElem?_set_self getElem?_take getElem_mem length_cons length_map length_range length_set length_singleton map_cons map_nil map_set mem_append mem_map mem_of_getElem? mem_range nil_append range range' replicate set_set take_of_length_le)
open Classical(choose_spec)
open Bool(false_eq_true)
open Ne(symm)
open Go.IntKind(signed wrap)
open Empty(elim)
open Go.DataW(Trod TrodAll trod)
open Go.Value(okWide)
namespace Go.VE
variable[bV]
abbrev Cf:=Fo×aZ Fm×St
section
variable(S:Sys)(c:b9){β:Type}(Q:Out×St->a_ β)
abbrev cr(cf:Cf):a_ β:=rn S c Q cf.1 cf.2.1 cf.2.2
def iL(n:Nat)(cf:Cf):Cf:=(gR S c n cf.1 cf.2.1 cf.2.2).getD cf
structure DH where
 dr:Bool
 fr:List Nat
 d:Option Nat
 gd:Option (Nat×Bool)
 now:Bool
 k:K
 az:List Arg
 dd:List Nat
 l:List RO
 fs:List Fm
 st:St
def gW(n:Nat)(cf:Cf):a_ DH:=match gR S c n cf.1 cf.2.1 cf.2.2 with
 |some (.ops dr fr (⟨d,gd,now,k,az,dd,[]⟩::l),fs,st)=>match wanted st.g gd with
  |some true=>some ⟨dr,fr,d,gd,now,k,az,dd,l,fs,st⟩|_=>none
 |_=>none
def nx(n:Nat)(cf:Cf)(φ:DH->St):Cf:=match gW S c n cf with
 |some p=>(.ops p.dr (if p.dr then(match p.k with|.p _|.r _=>p.fr|_=>match p.d with|some d=>d::p.fr|none=>p.fr)else p.fr) p.l,p.fs,oE p.dd (φ p))|none=>cf
end
def tR(s:Nat)(b:Zl)(cf:Cf):Cf:=(cf.1,cf.2.1,{cf.2.2 with g:=bR cf.2.2.g s (.v (.bool b))})
def jmp(k:Nat)(fr:Zv)(cf:Cf)(st:St):Cf:=match cf with
 |(.ops dr _ l,fs,_)=>(.ops dr fr (l.drop k),fs,st)|_=>(.rt,[],st)
def tS:RC->Zv->Z3->St->Cf
 |c,[],fs,st=>(.rc c,fs,st)|.seq a b,i::p,fs,st=>if i=0 then tS a p (.seq b::fs) st else tS b p fs st|.cond _ a b,i::p,fs,st=>if i=0 then tS a p fs st else tS b p fs st|.block id c,_::p,fs,st=>tS c p (.blk id::fs) st|.gh _ c,_::p,fs,st=>tS c p fs st|.hg c g,_::p,fs,st=>tS c p (.gst g::fs) st|.loop c,_::p,_,st=>tS c p [] st|.each _ _ _ b,_::p,_,st=>tS b p [] st|c,_,fs,st=>(.rc c,fs,st)
section
variable{S:Sys}{c:b9}{β γ δ α:Type}{Q:Out×St->a_ β}{e:γ->a_ β}{cf:Cf}
theorem jE{n:Nat}{p:DH}(h:gW S c n cf=some p):gR S c n cf.1 cf.2.1 cf.2.2=some (.ops p.dr p.fr (⟨p.d,p.gd,p.now,p.k,p.az,p.dd,[]⟩::p.l),p.fs,p.st)/\wanted p.st.g p.gd=some true:=by unfold gW at h;grind
theorem rM{n:Nat}{m:a_ δ}{φ:δ->DH->St}{f:δ->a_ γ}{p:DH}(a:gW S c n cf=some p)(B:Le (m.bind λx=>some (φ x p)) (fq S c p.dr p.fr ⟨p.d,none,p.now,p.k,p.az,[],[]⟩ p.st))
 (h:∀x,m=some x->Le ((f x).bind e) (cr S c Q (nx S c n cf (φ x)))):Le ((m.bind f).bind e) (cr S c Q cf):=by
 have⟨b,t⟩:=jE a;refine Dh b rfl t B λx u=>?_
 have:=h x u;simp[nx,a]at this;omega
theorem Dv{n:Nat}{m:a_ β}{φ:DH->St}{p:DH}(a:gW S c n cf=some p)(B:fq S c p.dr p.fr ⟨p.d,none,p.now,p.k,p.az,[],[]⟩ p.st=some (φ p))
 (h:Le m (cr S c Q (nx S c n cf φ))):Le m (cr S c Q cf):=by
 have⟨b,t⟩:=jE a;refine qi b rfl t B ?_;simp[nx,a]at h;omega
theorem fU{α β:Type}{o:a_ α}{f:α->β}{b:β}(h:o.map f=some b):∃a,o=some a/\f a=b:=ζf.1 h
theorem C3(n:Nat){m:a_ β}{B:Cf}(h:Le m (cr S c Q B))(D:gR S c n cf.1 cf.2.1 cf.2.2=some B:=by kernel_rfl):Le m (cr S c Q cf):=Dq D h
theorem bE(n s:Nat){t:Zl}{x y:a_ γ}(B:Le (x.bind e) (cr S c Q (tR s true (iL S c n cf))))(D:Le (y.bind e) (cr S c Q (tR s false (iL S c n cf))))
 (G:(gR S c n cf.1 cf.2.1 cf.2.2).map (λp=>bl p.2.2.g s)=some (some (.v (.bool t))):=by kernel_rfl):Le ((bq t x y).bind e) (cr S c Q cf):=by
 have⟨p,b,a⟩:=fU G;have d:iL S c n cf=p:=by unfold iL;grind
 rw[d]at B D;refine Dq b ?_;cases t
 .have:tR s false p=p:=by unfold tR;rw[qQ a]
  rw[this]at D;exact D
 have:tR s true p=p:=by unfold tR;rw[qQ a]
 rw[this]at B;exact B
theorem dU(n s:Nat){t:Zl}{x y:a_ γ}(B:Le (x.bind e) (cr S c Q (tR s false (iL S c n cf))))(D:Le (y.bind e) (cr S c Q (tR s true (iL S c n cf))))
 (G:(gR S c n cf.1 cf.2.1 cf.2.2).map (λp=>bl p.2.2.g s)=some (some (.v (.bool (!t)))):=by kernel_rfl):Le ((bq t x y).bind e) (cr S c Q cf):=by
 have⟨p,b,a⟩:=fU G;have d:iL S c n cf=p:=by unfold iL;grind
 rw[d]at B D;refine Dq b ?_;cases t
 .have:tR s true p=p:=by unfold tR;rw[show V.bool true=V.bool (!false)from rfl,qQ a]
  rw[this]at D;exact D
 have:tR s false p=p:=by unfold tR;rw[show V.bool false=V.bool (!true)from rfl,qQ a]
 rw[this]at B;exact B
theorem O9(n k:Nat)(fr:Zv)(st:δ->St){m:a_ δ}{f:δ->a_ γ}(B:Le (m.bind λr=>cr S c Q (jmp k fr (iL S c n cf) (st r))) (cr S c Q cf))(a:∀r,Le ((f r).bind e) (cr S c Q (jmp k fr (iL S c n cf) (st r)))):Le ((m.bind f).bind e) (cr S c Q cf):=OQ _ B a
theorem bD(n:Nat){r:δ}{k:δ->Cf}(B:gR S c n cf.1 cf.2.1 cf.2.2=some (k r):=by kernel_rfl):Le ((some r).bind λr=>cr S c Q (k r)) (cr S c Q cf):=UM B rfl
theorem bh{r:γ}{L:a_ β}(h:L=e r:=by kernel_rfl):Le ((some r).bind e) L:=Le.of_eq h
theorem BZ(n:Nat){b:RC}{m:a_ (Out×Tb bK)}(h:Le m (cr S c uV (.rc b,[],(iL S c n cf).2.2)))(B:gR S c n cf.1 cf.2.1 cf.2.2=some (.nx,[],(iL S c n cf).2.2):=by kernel_rfl):Le m (cr S c (xC S c b) cf):=Td B h
theorem US(n:Nat){o:a_ α}(A:a_ α->St){f:α->a_ γ}(B:∀x,o=some x->Le ((f x).bind e) (cr S c Q ((iL S c n cf).1,(iL S c n cf).2.1,A (some x))))
 (D:gR S c n cf.1 cf.2.1 cf.2.2=some ((iL S c n cf).1,(iL S c n cf).2.1,A o):=by kernel_rfl):Le ((o.bind f).bind e) (cr S c Q cf):=TL D B
theorem kG.R7{S:Sys}{T:oR}[bB δ]{f:Zk}{A:α->Zu}{p:α->a_ δ}(B:T f=none)(a:S.E.keep f=false)(D:∀z r,p z=some r->S.yf f (A z)=some (enc r))
 :kG S (c7 S T) f A (λr=>[enc r]) p false where
 k:=a
 h z:=by intro y t;have⟨r,b,u⟩:=ζg.1 t;cases u;have h:=DE B a (D z r b);unfold mE;rw[h];exact tq 8 [enc r]
 s h:=by cases h
def Gr:K->a_ BinOp
 |.p (.bin _ _ o)=>some o|_=>none
theorem Iy{k:K}{o:BinOp}(h:Gr k=some o):∃t u,k=.p (.bin t u o):=by cases k with|p p=>cases p<;>simp[Gr]at h;simp_all|_=>simp[Gr]at h
def On:K->a_ BinOp
 |.p (.bin (some .slice) _ o)=>some o|_=>none
theorem QC{k:K}{o:BinOp}(h:On k=some o):∃u,k=.p (.bin (some .slice) u o):=by unfold On at h;grind
def R5:K->a_ (Nat×Nat×Zv)
 |.a (.buildSl sz ln _ ix)=>some (sz,ln,ix)|_=>none
theorem Sw{k:K}{r:Nat×Nat×Zv}(h:R5 k=some r):∃z,k=.a (.buildSl r.1 r.2.1 z r.2.2):=by unfold R5 at h;grind
def Sm:K->a_ Zu
 |.a (.alloc _ zero)=>some zero|_=>none
theorem Sp{k:K}{z:Zu}(h:Sm k=some z):∃n,k=.a (.alloc n z):=by unfold Sm at h;grind
section
variable[bB α]
theorem T0(k:Zs)(n:Nat){s:Sl α}{i:Int}{f:α->a_ γ}(h:∀x,idx s i=some x->Le ((f x).bind e) (cr S c Q (nx S c n cf λp=>dh p.st p.d (cp x))))
 (B:(gW S c n cf).map (λp=>(p.k,bZ S.N p.st.g p.az))=some (.p (.idxS (bB.size α)),some [.v (b7 s),.v (.int k i)]):=by kernel_rfl):Le (((idx s i).bind f).bind e) (cr S c Q cf):=by
 have⟨p,b,a⟩:=fU B;simp at a;refine rM b ?_ h;rw[a.1];exact Le.of_eq (OW a.2 rfl)
theorem ck(n:Nat){s:Sl α}{i:Int}{f:α->a_ γ}(h:∀x,idx s i=some x->Le ((f x).bind e) (cr S c Q (nx S c n cf λp=>dh p.st p.d (cp x))))
 (B:(gW S c n cf).map (λp=>(p.k,bZ S.N p.st.g p.az))=some (.p (.idxS (bB.size α)),some [.v (b7 s),.v (.int .i64 i)]):=by kernel_rfl):Le (((idx s i).bind f).bind e) (cr S c Q cf):=T0 .i64 n h B
theorem mJ(k:Zs)(n u:Nat){s:Sl α}{i:Int}{f:Nat->a_ γ}(h:∀x,s.lY i=some x->Le ((f x).bind e) (cr S c Q (nx S c n cf λp=>dh p.st p.d (.el u x 0))))
 (B:(gW S c n cf).map (λp=>(p.k,bZ S.N p.st.g p.az,bl p.st.m u))=some (.p (.idxS (bB.size α)),some [.own u,.v (.int k i)],some (cB s)):=by kernel_rfl):Le (((s.lY i).bind f).bind e) (cr S c Q cf):=by
 have⟨p,b,a⟩:=fU B;simp at a;refine rM b ?_ h;rw[a.1];exact Le.of_eq (TS a.2.1 a.2.2 rfl)
theorem uS(n u o b:Nat)(a:Zl)(v:α->V){s:Sl α}{i:Nat}{f:α->a_ γ}(h:∀x,s.get i=some x->Le ((f x).bind e) (cr S c Q (nx S c n cf λp=>dh p.st p.d (.v (v x)))))
 (B:(gW S c n cf).map (λp=>(p.k,bZ S.N p.st.g p.az,bl p.st.m u,(!p.dr||p.now||eZ p.fr [.el u i o])))=some (.r (.load b a),some [.el u i o],some (cB s),true):=by kernel_rfl)(d:∀x:α,(cut (cells x) o b).bind (mk a)=some (v x):=by intro _;rfl):Le (((s.get i).bind f).bind e) (cr S c Q cf):=by
 have⟨p,g,t⟩:=fU B;simp only[ζc]at t;refine rM g ?_ h;rw[t.1];exact Le.of_eq (Se t.2.1 t.2.2.2 t.2.2.1 d)
theorem yU(n u:Nat)(x:V){s:Sl α}{i:Nat}{a:α}{f:Sl α->a_ γ}(h:∀B,s.put i a=some B->Le ((f B).bind e) (cr S c Q (nx S c n cf λp=>dh {p.st with m:=bR p.st.m u (cB B)} p.d (.v .undef))))
 (D:(gW S c n cf).map (λp=>(p.k,bZ S.N p.st.g p.az,bl p.st.m u,(!p.dr||p.now),x.cells))=some (.l (.store (bB.size α)),some [.el u i 0,.v x],some (cB s),true,cells a):=by kernel_rfl):Le (((s.put i a).bind f).bind e) (cr S c Q cf):=by
 have⟨p,d,b⟩:=fU D;simp only[ζc]at b;refine rM d ?_ h;rw[b.1];exact Le.of_eq (Ik b.2.1 b.2.2.2.1 b.2.2.1 b.2.2.2.2 rfl)
theorem FG(n u:Nat){i:Int}{z:α}{f:Sl α->a_ γ}(h:∀B,nG i z=some B->Le ((f B).bind e) (cr S c Q (nx S c n cf λp=>{p.st with g:=bR p.st.g u (.own u),m:=bR p.st.m u (cB B)})))
 (D:(gW S c n cf).map (λp=>(p.d,p.k,bZ S.N p.st.g p.az,p.st.new u))=some (some u,.a (.makeSl (bB.size α) (cells z)),some [.v (.int .i64 i),.v (.int .i64 i)],true):=by kernel_rfl):Le (((nG i z).bind f).bind e) (cr S c Q cf):=by
 have⟨p,b,a⟩:=fU D;simp at a;refine rM b ?_ h;rw[a.1,a.2.1];exact Le.of_eq (Sr a.2.2.1 rfl rfl a.2.2.2)
theorem oS(n o w u:Nat){s:Sl α}{x:α}{f:Sl α->a_ γ}(h:∀B,gZ s x=some B->Le ((f B).bind e) (cr S c Q (nx S c n cf λp=>{p.st with g:=bR p.st.g u (.own u),m:=bR (dZ o p.st.m) u (cB B)})))
 (D:(gW S c n cf).map (λp=>(p.d,p.k,bZ S.N p.st.g p.az,(!p.dr||p.now),bl p.st.m o,bl p.st.m w,St.new {p.st with m:=dZ o p.st.m} u))=some (some u,.l (.append (bB.size α)),some [.own o,.own w],true,some (cB s),some (cB (.row [x])),true):=by kernel_rfl):Le (((gZ s x).bind f).bind e) (cr S c Q cf):=by
 have⟨p,b,a⟩:=fU D;simp only[ζc]at a;refine rM b ?_ h;rw[a.1,a.2.1];exact Le.of_eq (T8 a.2.2.1 a.2.2.2.1 a.2.2.2.2.1 a.2.2.2.2.2.1 rfl a.2.2.2.2.2.2)
theorem Pc(n w u:Nat)(v:V)(x:α){m:a_ β}(h:Le m (cr S c Q (nx S c n cf λp=>{p.st with g:=bR p.st.g u (.own u),m:=bR p.st.m u (cB (.row [x]))})))(b:v=.bJ\/v=.dG:=by first|exact .inl rfl|exact .inr rfl)
 (B:(gW S c n cf).map (λp=>(p.d,p.k,bZ S.N p.st.g p.az,(!p.dr||p.now),bl p.st.m w,p.st.new u))=some (some u,.l (.append (bB.size α)),some [.v v,.own w],true,some (cB (.row [x])),true):=by kernel_rfl):Le m (cr S c Q cf):=by
 have⟨p,d,a⟩:=fU B;simp only[ζc]at a;refine Dv d ?_ h;rw[a.1,a.2.1];exact RT b a.2.2.1 a.2.2.2.1 a.2.2.2.2.1 rfl a.2.2.2.2.2
theorem bW(n:Nat)(s:Sl α){m:a_ β}(h:Le m (cr S c Q (nx S c n cf λp=>dh p.st p.d (.v (.int .i64 s.l.length)))))
 (B:(gW S c n cf).map (λp=>(p.k,bZ S.N p.st.g p.az))=some (.p .lenSl,some [.v (b7 s)]):=by kernel_rfl):Le m (cr S c Q cf):=by
 have⟨p,b,a⟩:=fU B;simp at a;refine Dv b ?_ h;rw[a.1];exact O3 a.2
theorem Cu(n u:Nat)(s:Sl α){m:a_ β}(h:Le m (cr S c Q (nx S c n cf λp=>dh p.st p.d (.v (.int .i64 s.l.length)))))
 (B:(gW S c n cf).map (λp=>(p.k,bZ S.N p.st.g p.az,bl p.st.m u))=some (.p .lenSl,some [.own u],some (cB s)):=by kernel_rfl):Le m (cr S c Q cf):=by
 have⟨p,b,a⟩:=fU B;simp at a;refine Dv b ?_ h;rw[a.1];exact Sn a.2.1 a.2.2
theorem U0(n:Nat){s:Sl α}{f:Zl->a_ γ}(h:∀t,s.isNil=some t->Le ((f t).bind e) (cr S c Q (nx S c n cf λp=>dh p.st p.d (.v (.bool t)))))
 (B:(gW S c n cf).map (λp=>(On p.k,bZ S.N p.st.g p.az))=some (some .eql,some [.v (b7 s),.v .bJ]):=by kernel_rfl):Le ((s.isNil.bind f).bind e) (cr S c Q cf):=by
 have⟨p,b,a⟩:=fU B;simp at a;have⟨u,d⟩:=QC a.1;refine rM b ?_ h;rw[d];exact Le.of_eq (PM a.2)
theorem Bg(n:Nat)(B D:Zl)(G:Zu){s:Sl α}{a b:Z6}{f:Sl α->a_ γ}(h:∀x,fQ s a b=some x->Le ((f x).bind e) (cr S c Q (nx S c n cf λp=>dh p.st p.d (.v (b7 x)))))
 (J:(gW S c n cf).map (λp=>(p.k,bZ S.N p.st.g p.az,kV B D G))=some (.p (.slice (bB.size α) B D),some (.v (b7 s)::G.map .v),some (a,b)):=by kernel_rfl):Le (((fQ s a b).bind f).bind e) (cr S c Q cf):=by
 have⟨p,g,i⟩:=fU J;simp at i;have⟨j,w⟩:=jE g;have⟨dr,fr,d,gd,now,k,az,dd,l,fs,st⟩:=p;obtain⟨rfl,z,C⟩:=i;exact UO n dr fr (⟨d,gd,now,.p (.slice (bB.size α) B D),az,dd,[]⟩::l) fs st B D G rfl Zd λt u=>by have:=h t u;simp only[nx,g]at this;omega
theorem TW(n:Nat)(B D:Zl)(u t:Nat)(G:Zu){s:Sl α}{a b:Z6}{f:Sl α->a_ γ}(h:∀x,nN s a b=some x->Le ((f x).bind e) (cr S c Q (nx S c n cf λp=>{p.st with g:=bR p.st.g t (.own t),m:=bR (dZ u p.st.m) t (cB x)})))
 (J:(gW S c n cf).map (λp=>(p.d,p.k,p.dr,bZ S.N p.st.g p.az,kV B D G,bl p.st.m u,St.new {p.st with m:=dZ u p.st.m} t))=some (some t,.p (.slice (bB.size α) B D),false,some (.own u::G.map .v),some (a,b),some (cB s),true):=by kernel_rfl):Le (((nN s a b).bind f).bind e) (cr S c Q cf):=by
 have⟨p,i,j⟩:=fU J;simp at j;have⟨o,I⟩:=jE i;have⟨dr,fr,d,gd,now,k,az,dd,l,fs,st⟩:=p;obtain⟨rfl,rfl,rfl,L,O,T,w⟩:=j;exact TQ n fr (⟨some t,gd,now,.p (.slice (bB.size α) B D),az,dd,[]⟩::l) fs st B D u G rfl w Zd λz C=>by have:=h z C;simp only[nx,i]at this;omega
theorem dc(n u:Nat)(x:α){m:a_ β}(h:Le m (cr S c Q (nx S c n cf λp=>{p.st with g:=bR p.st.g u (.ptr u 0),m:=bR p.st.m u (bx x)})))
 (B:(gW S c n cf).map (λp=>(p.d,p.k,bZ S.N p.st.g p.az,p.st.new u))=some (some u,.a .box,some [cv x],true):=by kernel_rfl):Le m (cr S c Q cf):=by
 have⟨p,b,a⟩:=fU B;simp at a;refine Dv b ?_ h;rw[a.1,a.2.1,BW,a.2.2.1];simp only[ζb,a.2.2.2,if_true,oW,jg,pN]
def UD(u o a:Nat)(xs:Zw)(p:DH):St:=match bl p.st.m u with
 |some (.box t)=>dh {p.st with m:=bR p.st.m u (.box (t.take o++xs++t.drop (o+a)))} p.d (.v .undef)|_=>p.st
theorem jB(n u o:Nat)(x:α){m:a_ β}(h:Le m (cr S c Q (nx S c n cf (UD u o (bB.size α) ((cells x).map .v)))))
 (B:(gW S c n cf).map (λp=>(p.k,bZ S.N p.st.g p.az,(!p.dr||p.now),match bl p.st.m u with|some (.box cs)=>ble (o+bB.size α) cs.length|_=>false))=some (.l (.store (bB.size α)),some [.ptr u o,cv x],true,true):=by kernel_rfl):Le m (cr S c Q cf):=by
 have⟨p,b,a⟩:=fU B;simp only[ζc]at a;refine Dv b ?_ h;have⟨d,z,C,w⟩:=a;split at w
 next cs t=>have D:=Nat.le_of_ble_eq_true w;rw[d,vH,z];simp only[ζb,C,if_true,mh,t,putCells,jg,fH,pN,D,and_self,map_some,UD]
 simp_all
theorem yh(n u:Nat)(xs:aZ α){m:a_ β}(h:Le m (cr S c Q (nx S c n cf λp=>{p.st with g:=bR p.st.g u (.own u),m:=bR p.st.m u (cB (.row xs))})))
 (B:(gW S c n cf).map (λp=>(p.d,R5 p.k,bZ S.N p.st.g p.az,p.st.new u))=some (some u,some (bB.size α,xs.length,range' 0 xs.length),some ((xs.map enc).map .v),true):=by kernel_rfl):Le m (cr S c Q cf):=by
 have⟨p,a,b⟩:=fU B;simp at b;have⟨e,C⟩:=jE a;have⟨dr,fr,d,gd,now,k,az,dd,l,fs,st⟩:=p;obtain⟨rfl,t,D,w⟩:=b;obtain⟨z,rfl⟩:=Sw t;exact U_ n dr fr (⟨some u,gd,now,.a (.buildSl (bB.size α) xs.length z (range' 0 xs.length)),az,dd,[]⟩::l) fs st xs rfl w Zd (by
  simp[nx,a]at h;omega)
theorem Jt(n:Nat)(x:α)(vs z:Zu)(pl:aZ (Nat×Nat)){m:a_ β}(B:jZ z pl vs=some (cells x))(D:bB.agg α=true)(h:Le m (cr S c Q (nx S c n cf λp=>dh p.st p.d (cv x))))
 (G:(gW S c n cf).map (λp=>(p.k,bZ S.N p.st.g p.az))=some (.p (.build z pl),some (vs.map .v)):=by kernel_rfl):Le m (cr S c Q cf):=by
 have⟨p,a,b⟩:=fU G;simp at b;have⟨e,t⟩:=jE a;have⟨dr,fr,d,gd,now,k,az,dd,l,fs,st⟩:=p;obtain⟨rfl,u⟩:=b;exact UR n dr fr (⟨d,gd,now,.p (.build z pl),az,dd,[]⟩::l) fs st x vs rfl B D Zd (by
  simp only[nx,a]at h;omega)
end
theorem Kp(n:Nat)(k:Zs){a b:Int}{f:Int->a_ γ}(h:∀x,tX a b=some x->Le ((f x).bind e) (cr S c Q (nx S c n cf λp=>dh p.st p.d (.v (.int k x)))))
 (B:(gW S c n cf).map (λp=>(Gr p.k,bZ S.N p.st.g p.az))=some (some .rem,some [.v (.int k a),.v (.int k b)]):=by kernel_rfl):Le (((tX a b).bind f).bind e) (cr S c Q cf):=by
 have⟨p,g,d⟩:=fU B;simp at d;have⟨t,u,i⟩:=Iy d.1;refine rM g ?_ h;rw[i];exact Le.of_eq (TR d.2)
theorem UG(n:Nat)(B:Zs){k:Zs}{a b:Int}{f:Int->a_ γ}(h:∀x,zu k a b=some x->Le ((f x).bind e) (cr S c Q (nx S c n cf λp=>dh p.st p.d (.v (.int k x)))))
 (D:(gW S c n cf).map (λp=>(Gr p.k,bZ S.N p.st.g p.az))=some (some .shr,some [.v (.int k a),.v (.int B b)]):=by kernel_rfl):Le (((zu k a b).bind f).bind e) (cr S c Q cf):=by
 have⟨p,g,d⟩:=fU D;simp at d;have⟨t,u,i⟩:=Iy d.1;refine rM g ?_ h;rw[i];exact Le.of_eq (Ug d.2)
theorem yT(n:Nat)(k:Zs){a:Zq}{b:Int}{f:Int->a_ γ}(h:∀x,j_ a b=some x->Le ((f x).bind e) (cr S c Q (nx S c n cf λp=>dh p.st p.d (.v (.int .u8 x)))))
 (B:(gW S c n cf).map (λp=>(p.k,bZ S.N p.st.g p.az))=some (.p .idxStr,some [.v (.str a),.v (.int k b)]):=by kernel_rfl):Le (((j_ a b).bind f).bind e) (cr S c Q cf):=by
 have⟨p,g,d⟩:=fU B;simp at d;refine rM g ?_ h;rw[d.1];exact Le.of_eq (NA d.2)
section
variable{A:α->Zu}{E:δ->Zu}{pl:α->a_ δ}{fn:Zk}{sc:Zl}
theorem xk(n:Nat)(F:kG S c fn A E pl sc)(z:α){f:δ->a_ γ}(h:∀x,pl z=some x->Le ((f x).bind e) (cr S c Q (nx S c n cf λp=>dh p.st p.d (.v (result (E x))))))
 (B:(gW S c n cf).map (λp=>(p.k,(bZ S.N p.st.g p.az).bind nV,(!p.dr||p.now||fS p.st.m p.fr [])))=some (.c,some (fn,(A z).map .v),true):=by kernel_rfl):Le (((pl z).bind f).bind e) (cr S c Q cf):=by
 have⟨p,g,b⟩:=fU B;simp at b;have⟨w,C,J⟩:=b;have⟨D,g1,g2⟩:=ζg.1 C;have t:∀d(u:Zu),SV.dB d (u.map .v)=false:=λd u=>by induction u with|nil=>rfl|cons a l G=>simp[SV.dB,SV.cQ,G]
 have I:(!p.dr||p.now||fS p.st.m p.fr ((A z).map .v))=true:=by have:fS p.st.m p.fr ((A z).map .v)=fS p.st.m p.fr []:=(by unfold fS;simp[t];rfl);grind
 refine rM g ?_ h;rw[w];exact Hl (F.h z) F.k g1 g2 (Gi _ _ _) I (λr=>by rw[oM];simp)
theorem SR(n:Nat)(F:kG S c fn A E pl true)(z:α){f:δ->a_ γ}(h:∀x,pl z=some x->Le ((f x).bind e) (cr S c Q (nx S c n cf λp=>dh p.st p.d (.v (result (E x))))))
 (B:(gW S c n cf).map (λp=>(p.k,((bZ S.N p.st.g p.az).bind nV).bind λq=>(nL (iX p.st.m 8) q.2).map λvs=>(q.1,vs,((!p.dr||p.now)||fS p.st.m p.fr q.2))))=some (.c,some (fn,A z,true)):=by kernel_rfl):Le (((pl z).bind f).bind e) (cr S c Q cf):=by
 have⟨p,b,a⟩:=fU B;simp at a;have⟨t,u⟩:=a;have⟨q,g1,g2⟩:=ζg.1 u;have⟨w,g3,g4⟩:=ζg.1 g1;have⟨vs,g5,g6⟩:=ζf.1 g2;simp only[ζc]at g6;obtain⟨e1,rfl,e3⟩:=g6;refine rM b ?_ h;rw[t];exact Hl (F.h z) F.k g3 Zd g5 e3 (λr=>by rw[F.s rfl];rfl)
end
section
variable{N:Nat}[bB α]
theorem Pa(n:Nat)(k:Zs){a:cu N α}{i:Int}{f:α->a_ γ}(h:∀x,a.at i=some x->Le ((f x).bind e) (cr S c Q (nx S c n cf λp=>dh p.st p.d (.v (.fptr (pa a i))))))
 (B:(gW S c n cf).map (λp=>(p.k,bZ S.N p.st.g p.az))=some (.p (.idxA N (bB.size α)),some [cp a,.v (.int k i)]):=by kernel_rfl):Le (((a.at i).bind f).bind e) (cr S c Q cf):=by
 have⟨p,b,g⟩:=fU B;simp at g;have⟨j,u⟩:=jE b;have⟨dr,fr,d,gd,now,w,az,dd,l,fs,st⟩:=p;obtain⟨rfl,z⟩:=g;exact TP n dr fr (⟨d,gd,now,.p (.idxA N (bB.size α)),az,dd,[]⟩::l) fs st k rfl Zd λx t=>by have:=h x t;simp only[nx,b]at this;omega
theorem MN(n k:Nat)(a:cu N α)(i:Int)(o:Nat)(x:α)(B:a.at i=some x){m:a_ β}(h:Le m (cr S c Q (nx S c n cf λp=>dh p.st p.d (.v (.fptr ((pa a i).drop (o+k)))))))
 (D:(gW S c n cf).map (λp=>(p.k,bZ S.N p.st.g p.az,ble (o+k) (bB.size α)))=some (.p (.fieldAddr k),some [.v (.fptr ((pa a i).drop o))],true):=by kernel_rfl):Le m (cr S c Q cf):=by
 have⟨p,b,e⟩:=fU D;simp at e;have⟨f,t⟩:=jE b;have⟨dr,fr,d,gd,now,u,az,dd,l,fs,st⟩:=p;obtain⟨rfl,w,z⟩:=e;exact UZ n dr fr (⟨d,gd,now,.p (.fieldAddr k),az,dd,[]⟩::l) fs st a i o x B rfl Zd (by
  simp only[nx,b]at h;omega)
theorem OR(n b:Nat)(ag:Zl)(a:cu N α)(i:Int)(o:Nat)(x:α)(B:a.at i=some x)(v:V)(f:(cut (cells x) o b).bind (mk ag)=some v){m:a_ β}(h:Le m (cr S c Q (nx S c n cf λp=>dh p.st p.d (.v v))))
 (D:(gW S c n cf).map (λp=>(p.k,bZ S.N p.st.g p.az))=some (.r (.load b ag),some [.v (.fptr ((pa a i).drop o))]):=by kernel_rfl):Le m (cr S c Q cf):=by
 have⟨p,e,t⟩:=fU D;simp at t;have⟨g,u⟩:=jE e;have⟨dr,fr,d,gd,now,w,az,dd,l,fs,st⟩:=p;obtain⟨rfl,z⟩:=t;exact Ue n dr fr (⟨d,gd,now,.r (.load b ag),az,dd,[]⟩::l) fs st a i o x B f v rfl Zd (by
  simp only[nx,e]at h;omega)
theorem Sg(n u:Nat)(st:St)(cs:Zw){m:a_ β}(B:st.new u=true)(h:Le m (cr S c Q (nx S c n cf λ_=>{st with g:=bR st.g u (.ptr u 0),m:=bR st.m u (.box cs)})))
 (D:(gW S c n cf).map (λp=>(p.d,(Sm p.k).map (λz=>z.map SV.v),bZ S.N p.st.g p.az,p.st))=some (some u,some cs,some [],st):=by kernel_rfl):Le m (cr S c Q cf):=by
 have⟨p,b,a⟩:=fU D;simp only[ζc]at a;have⟨z,w,t⟩:=fU a.2.1;have⟨k,d⟩:=Sp w;refine Dv b ?_ h;rw[a.1,d,BW,a.2.2.1,a.2.2.2];simp[B,oW,t]
theorem E8(n:Nat)(k:Zs)(u:Nat){a:cu N α}{i:Int}{f:α->a_ γ}(h:∀x,a.at i=some x->Le ((f x).bind e) (cr S c Q (nx S c n cf λp=>dh p.st p.d (.ptr u (i.toNat*bB.size α+0)))))
 (B:(gW S c n cf).map (λp=>(p.k,bZ S.N p.st.g p.az,bl p.st.m u))=some (.p (.idxA N (bB.size α)),some [.ptr u 0,.v (.int k i)],some (bx a)):=by kernel_rfl):Le (((a.at i).bind f).bind e) (cr S c Q cf):=by
 have⟨p,b,g⟩:=fU B;simp at g;have⟨j,w⟩:=jE b;have⟨dr,fr,d,gd,now,z,az,dd,l,fs,st⟩:=p;obtain⟨rfl,C,D⟩:=g;exact TN n dr fr (⟨d,gd,now,.p (.idxA N (bB.size α)),az,dd,[]⟩::l) fs st k u rfl Zd λx t=>by have:=h x t;simp only[nx,b]at this;omega
theorem Pp(n b:Nat)(ag:Zl)(u:Nat)(a:cu N α)(i:Int)(o:Nat)(x:α)(B:a.at i=some x)(v:V)(f:(cut (cells x) o b).bind (mk ag)=some v){m:a_ β}(h:Le m (cr S c Q (nx S c n cf λp=>dh p.st p.d (.v v))))
 (D:(gW S c n cf).map (λp=>(p.k,bZ S.N p.st.g p.az,bl p.st.m u,(!p.dr||p.now||eZ p.fr [.ptr u 0])))=some (.r (.load b ag),some [.ptr u (i.toNat*bB.size α+o)],some (bx a),true):=by kernel_rfl):Le m (cr S c Q cf):=by
 have⟨p,e,t⟩:=fU D;simp at t;have⟨g,w⟩:=jE e;have⟨dr,fr,d,gd,now,z,az,dd,l,fs,st⟩:=p;obtain⟨rfl,C,G,I⟩:=t;exact T5 n dr fr (⟨d,gd,now,.r (.load b ag),az,dd,[]⟩::l) fs st u a i o x B f v rfl Zd (by
  simp only[nx,e]at h;omega)
end
section
variable{κ ν:Type}[bB κ][DecidableEq κ][Key κ][bB ν]
theorem TO(n u:Nat)(mp:Mo κ ν)(k:κ)(z:ν){m:a_ β}(h:Le m (cr S c Q (nx S c n cf λp=>dh p.st p.d (cv (Ds mp k z)))))
 (B:(gW S c n cf).map (λp=>(p.k,bZ S.N p.st.g p.az,bl p.st.m u,(!p.dr||p.now||eZ p.fr [.mp u,cv k])))=some (.r (.lookup (Key.kk κ) (enc z) false),some [.mp u,cv k],some (u6 mp),true):=by kernel_rfl):Le m (cr S c Q cf):=by
 have⟨p,a,b⟩:=fU B;simp at b;have⟨e,t⟩:=jE a;have⟨dr,fr,d,gd,now,w,az,dd,l,fs,st⟩:=p;obtain⟨rfl,C,D,G⟩:=b;exact TV n dr fr (⟨d,gd,now,.r (.lookup (Key.kk κ) (enc z) false),az,dd,[]⟩::l) fs st u mp k z rfl Zd (by
  simp only[nx,a]at h;omega)
theorem UU(n u:Nat)(mp:Mo κ ν)(k:κ)(v:ν){m:a_ β}(h:Le m (cr S c Q (nx S c n cf λp=>dh {p.st with m:=bR p.st.m u (u6 (qB mp k v))} p.d (.v .undef))))
 (B:(gW S c n cf).map (λp=>(p.k,bZ S.N p.st.g p.az,bl p.st.m u,(!p.dr||p.now)))=some (.l (.mapUp (Key.kk κ)),some [.mp u,cv k,cv v],some (u6 mp),true):=by kernel_rfl):Le m (cr S c Q cf):=by
 have⟨p,a,t⟩:=fU B;simp at t;have⟨b,w⟩:=jE a;have⟨dr,fr,d,gd,now,z,az,dd,l,fs,st⟩:=p;obtain⟨rfl,C,D,G⟩:=t;exact UK n dr fr (⟨d,gd,now,.l (.mapUp (Key.kk κ)),az,dd,[]⟩::l) fs st u mp k v rfl Zd (by
  simp[nx,a]at h;omega)
end
theorem Ty(n:Nat)(st:St){rs:aZ RV}{e:γ->a_ Zu}{r:γ}(svs:Zw){ys:Zu}(B:nL (iX st.m 8) svs=some ys)(D:e r=some ys)
 (h:(gR S c n cf.1 cf.2.1 cf.2.2).map (λq=>(q.1,q.2.2,kD q.2.2 rs))=some (.rt,st,some svs):=by kernel_rfl):Le ((some r).bind e) (cr S c (qH rs) cf):=by
 have⟨⟨fo,fs,st'⟩,b,a⟩:=fU h;simp at a;obtain⟨rfl,rfl,t⟩:=a;exact Tw n svs B (by rw[b,t]) D
end
end Go.VE
namespace Go.VE
variable[bV]
section
variable{S:Sys}{c:b9}{β γ δ α:Type}[bB α]{Q:Out×St->a_ β}{e:γ->a_ β}{cf:Cf}
def ny(s x:Sl α):a_ (Sl α):=if x.l=[]then some s else if s.l.length+x.l.length<=2147483648 then some (.row (s.l++x.l))else none
theorem Qw(m:Tb bK)(n w:Nat)(x:Sl α)(B:n=bB.size α)(D:bl m w=some (cB x)):jQ m n (.own w)=some (rows x.l):=by rw[C2,D,Ak n x B]
theorem Ho(l:aZ α):rows l=[]↔l=[]:=by unfold rows;simp
theorem MP(a b:aZ α):rows a++rows b=rows (a++b):=by unfold rows;simp
theorem FD(a:aZ α):(rows a).length=a.length:=by unfold rows;simp
theorem Sz{st:St}{dr now:Zl}{fr:Zv}{az:Z4}{d n o:Nat}{s x:Sl α}{B:SV}(O:bZ S.N st.g az=some [.own o,B])(U:(!dr||now)=true)(D:bl st.m o=some (cB s))(W:jQ st.m n B=some (rows x.l))(G:n=bB.size α)(J:St.new {st with m:=dZ o st.m} d=true):
 fq S c dr fr ⟨some d,none,now,.l (.append n),az,[],[]⟩ st=(ny s x).bind λY=>some {st with g:=bR st.g d (.own d),m:=bR (dZ o st.m) d (cB Y)}:=by
 rw[vH,O];simp only[ζb,U,if_true,zc,Qw st.m n o s G D,W];unfold ny
 by_cases h:x.l=[]
 .rw[if_pos h,(Ho x.l).2 h];simp only[xW,D,if_pos J,ζb];rfl
 rw[if_neg h];have a:rows x.l≠[]:=λe=>h ((Ho _).1 e)
 have u:xW st d n (.own o) (some (rows s.l)) (some (rows x.l))=if(rows s.l).length+(rows x.l).length<=2147483648/\Hg (.own o)=true then(if St.new {st with m:=giveUp st.m (.own o)} d then some (.own d,{st with m:=bR (giveUp st.m (.own o)) d (.sl .row n (rows s.l++rows x.l))})else none)else none:=by unfold xW;generalize rows x.l=r at *;cases r with|nil=>exact absurd rfl a|cons y r=>rfl
 rw[u,FD,FD,MP]
 by_cases t:s.l.length+x.l.length<=2147483648
 .rw[if_pos ⟨t,rfl⟩,if_pos (show St.new {st with m:=giveUp st.m (.own o)} d=true from J),if_pos t];rw[ζb,ζb,G];rfl
 rw[if_neg (λk=>t k.1),if_neg t];rfl
theorem TG(n o u:Nat)(D:SV){s x:Sl α}{f:Sl α->a_ γ}(G:∀p,gW S c n cf=some p->jQ p.st.m (bB.size α) D=some (rows x.l))
 (h:∀B,ny s x=some B->Le ((f B).bind e) (cr S c Q (nx S c n cf λp=>{p.st with g:=bR p.st.g u (.own u),m:=bR (dZ o p.st.m) u (cB B)})))
 (J:(gW S c n cf).map (λp=>(p.d,p.k,bZ S.N p.st.g p.az,(!p.dr||p.now),bl p.st.m o,St.new {p.st with m:=dZ o p.st.m} u))=some (some u,.l (.append (bB.size α)),some [.own o,D],true,some (cB s),true):=by kernel_rfl):Le (((ny s x).bind f).bind e) (cr S c Q cf):=by
 have⟨p,b,a⟩:=fU J;simp only[ζc]at a;refine rM b ?_ h;rw[a.1,a.2.1];exact Le.of_eq (Sz a.2.2.1 a.2.2.2.1 a.2.2.2.2.1 (G p b) rfl a.2.2.2.2.2)
theorem Jq(m:Tb bK)(x:Sl α):jQ m (bB.size α) (.v (b7 x))=some (rows x.l):=by cases x<;>simp[b7,Sl.k,Sl.l,nP,jQ,rows]
theorem yI(n o u:Nat){s x:Sl α}{f:Sl α->a_ γ}
 (h:∀B,ny s x=some B->Le ((f B).bind e) (cr S c Q (nx S c n cf λp=>{p.st with g:=bR p.st.g u (.own u),m:=bR (dZ o p.st.m) u (cB B)})))
 (D:(gW S c n cf).map (λp=>(p.d,p.k,bZ S.N p.st.g p.az,(!p.dr||p.now),bl p.st.m o,St.new {p.st with m:=dZ o p.st.m} u))=some (some u,.l (.append (bB.size α)),some [.own o,.v (b7 x)],true,some (cB s),true):=by kernel_rfl):Le (((ny s x).bind f).bind e) (cr S c Q cf):=
 TG n o u _ (λp _=>Jq p.st.m x) h D
end
theorem ql{α:Type}{l:aZ α}{i:Nat}{x:α}(h:l[i]?=some x):l.set i x=l:=by obtain⟨t,rfl⟩:=ζe.1 h;exact List.set_getElem_self t
open Classical in
def A9(E:Env)(g:Zk)(cb:Zu)(a b:V):a_ V:=if h:∃n y,b8 (run E n) g (a::b::cb) []=some y then some (Classical.choose (choose_spec h))else none
theorem C1{E:Env}{g:Zk}{cb:Zu}{a b y:V}(h:A9 E g cb a b=some y):∃n,∀k,n<=k->b8 (run E k) g (a::b::cb) []=some y:=by
 unfold A9 at h;split at h;next c=>cases h;exact⟨_,λk d=>mR (l8 E d) (choose_spec (choose_spec c))⟩
 cases h
theorem IZ{E:Env}{g:Zk}{cb:Zu}{a b y:V}{n:Nat}(h:b8 (run E n) g (a::b::cb) []=some y):A9 E g cb a b=some y:=by have d:∃n y,b8 (run E n) g (a::b::cb) []=some y:=⟨n,y,h⟩;cases c:A9 E g cb a b with|none=>unfold A9 at c;rw[dif_pos d]at c;cases c|some z=>have⟨m,t⟩:=C1 c;have:=t _ (Nat.le_max_right n m);rw[mR (l8 E (Nat.le_max_left n m)) h]at this;cases this;rfl
theorem DB{n:Nat}{p:_root_.Fin n->Nat->Prop}(h:∀i,∃N,∀k,N<=k->p i k):∃N,∀i k,N<=k->p i k:=by induction n with|zero=>exact⟨0,λi=>i.elim0⟩|succ n t=>have⟨N,u⟩:=t (p:=λi=>p i.succ) λi=>h i.succ;have⟨M,w⟩:=h 0;refine⟨max N M,λi k a=>?_⟩;refine _root_.Fin.cases (w k Za) (λj=>u j k Za) i
def iZ(x:Zu):V:=x.headD .undef
def sZ(es:Nat)(xs:Zt):Zl:=es==1&&xs.all (λx=>x.length==1&&x.all V.one)&&decide (xs.length<=2147483648)
theorem xm{es:Nat}{xs:Zt}(h:sZ es xs=true):es=1/\xs.length<=2147483648/\∀(i:Nat)x,xs[i]?=some x->x=[iZ x]/\(iZ x).one=true:=by unfold sZ at h;simp only[ζh,beq_iff_eq,all_eq_true,decide_eq_true_eq]at h;refine⟨h.1.1,h.2,λi x t=>?_⟩;have⟨a,w⟩:=h.1.2 x (mem_of_getElem? t);obtain⟨u,rfl⟩:=List.length_eq_one_iff.1 a;exact⟨rfl,w u Zc⟩
section
variable{H:bp}{Z:Nat->Prop}
theorem di.IE{k:Nat}{xs ys:Zu}(h:di H Z xs ys)(B:V.kC k xs=true):borrows k H ys=some xs:=jU h.1 λj u v a b=>(h.2 j u v a b).borrow k (lI.1 B j u a)
theorem di.borrows{xs ys:Zu}(h:di H Z xs ys):∃n,∀k,n<=k->borrows k H ys=some xs:=by have⟨n,t⟩:=k_ xs;exact⟨n,λk a=>h.IE (nW a t)⟩
theorem Ln{es:Nat}{xs:Zt}(h:sZ es xs=true){rs:Zt}(B:fR H Z xs rs):di H Z (xs.map iZ) rs.flatten:=by induction xs generalizing rs with|nil=>have:=B.1;simp at this;have:rs=[]:=List.eq_nil_of_length_eq_zero (by simpa using this.symm);subst this;exact .nil|cons x xs C=>have⟨d,J,D⟩:=xm h;cases rs with|nil=>have:=B.1;simp at this|cons r rs=>have⟨e,_⟩:=D 0 x rfl;have z:=B.2 0 x r rfl rfl;rw[e]at z;obtain⟨u,L,rfl,c,t⟩:=z.inv;rw[t.cU];have w:sZ es xs=true:=(by unfold sZ at h⊢;simp only[all_cons,ζh,length_cons,decide_eq_true_eq]at h⊢;exact⟨⟨h.1.1,h.1.2.2⟩,Za⟩);exact .cons c (C w (rs:=rs) ⟨by have:=B.1;simpa using this,λj a b G I=>B.2 (j+1) a b G I⟩)
end
def rD(E:Env)(g:Zk)(cb:Zu)(a b:V):Z6:=match A9 E g cb a b with|some (.int .i64 c)=>some c|_=>none
theorem Nf{E:Env}{g:Zk}{cb:Zu}{a b:V}{c:Int}(h:rD E g cb a b=some c):∃n,∀k,n<=k->b8 (run E k) g (a::b::cb) []=some (.int .i64 c):=by
 unfold rD at h;split at h;next c' d=>cases h;exact C1 d
 cases h
def zC(E:Env)(es:Nat)(xs:Zt):Zu->a_ Zt
 |[.clo g [] cb]=>match xs with
  |[]=>some []|x::l=>if sZ es (x::l)&& !E.keep g then
   let t:_root_.Fin (l.length+1)->_root_.Fin (l.length+1)->Z6:=λi j=>rD E g cb (iZ (((x::l)[i.1]?).getD [])) (iZ (((x::l)[j.1]?).getD []))
   if zU t then some ((pg l.length (oC t)).toList.map λi=>((x::l)[i.1]?).getD [])else none
   else none
 |_=>none
def rH(E:Env):BM:=⟨false,zC E⟩
theorem Cb{n:Nat}{lt:_root_.Fin (n+1)->_root_.Fin (n+1)->Zl}(h:Sort.SWO lt):(pg n lt).size=n+1:=by rw[A_];have:=(Sort.pdq_sorts lt h (List.finRange (n+1)).toArray 0 (n+1) (Lib.bitLen (n+1)) true true (zero_le _) Zc (Or.inl rfl)).1.1;simpa using this
theorem Ng{E:Env}{f:Zk}(m:E.keep f=true)(ho:E.own f=false)(F:E.sort f=true)(K:E.ft f=none):mw E f (rH E)where
 keep:=m
 own:=ho
 le:=by intro es xs vs ys h;simp only[rH,zC]at h;split at h;split at h;cases h;exact⟨le_refl _,λ_=>rfl⟩;split at h;split at h;(next Y=>cases h;have:=Cb (pO Y).2;simp only[length_map,Array.length_toList,length_cons,this];exact⟨le_refl _,λ_=>trivial⟩);cases h;cases h;cases h
 none:=by intro es vs ys h H Z ws w M he;simp only[rH,zC]at h;split at h;obtain⟨V,r,rfl,h1,P⟩:=M.inv;rw[P.cU];refine⟨1,[],λk m=>?_⟩;(cases k with|zero=>omega|succ k=>rcases he with rfl|rfl<;>simp[run,jm,K,F,pU,rH]);cases h
 row:=by
  intro es xs vs ys h H Z ws id off rs M J B G t hz;simp only[rH,zC]at h;split at h;rename_i g cb;obtain⟨V,r,rfl,h1,P⟩:=M.inv;rw[P.cU];obtain⟨a',I,rfl,q,aa⟩:∃a' I,V=.clo g a' I/\di H Z [] a'/\di H Z cb I:=h1.jI;rw[q.cU]at *;split at h;cases h;refine⟨1,rs,[],λk m=>?_,rfl,⟨rfl,λj u v o=>by simp at o⟩,t⟩;cases k with|zero=>omega|succ k=>have:H.set id (.row es rs)=H:=ql J;simp[run,jm,K,F,pU,rH,this]
  rename_i x l;split at h;rename_i C;simp only[ζh,Bool.not_eq_true']at C;obtain⟨c1,c3⟩:=C;obtain⟨rfl,O,ae⟩:=xm c1;split at h;rename_i Y;cases h;obtain⟨D,Q⟩:=pO Y;have z:∀i,Z i->Z i/\br (H.set id .dead) i=br H i:=λi s=>⟨s,by unfold br;rw[getElem?_set_ne];rintro rfl;exact hz s⟩;have S:=G.mono z;obtain⟨M1,T⟩:=(Ln c1 S).borrows;simp only[length_cons]at T;obtain⟨M2,U⟩:=(aa.mono z).borrows;obtain⟨N,R⟩:=DB (p:=λi k=>∀j:_root_.Fin (l.length+1),b8 (run E k) g (iZ (((x::l)[i.1]?).getD [])::iZ (((x::l)[j.1]?).getD [])::cb) []=some (.int .i64 ((rD E g cb (iZ (((x::l)[i.1]?).getD [])) (iZ (((x::l)[j.1]?).getD []))).getD 0))) (λi=>by
   obtain⟨N,R⟩:=DB (p:=λ(j:_root_.Fin (l.length+1))k=>b8 (run E k) g (iZ (((x::l)[i.1]?).getD [])::iZ (((x::l)[j.1]?).getD [])::cb) []=some (.int .i64 ((rD E g cb (iZ (((x::l)[i.1]?).getD [])) (iZ (((x::l)[j.1]?).getD []))).getD 0))) (λj=>by
    obtain⟨c,d⟩:=D i j;obtain⟨n,hn⟩:=Nf d;exact⟨n,λk m=>by rw[hn k m,d];rfl⟩)
   exact⟨N,λk m j=>R j k m⟩)
  have W:∀k,N<=k->iN (run E k) g ((x::l).map iZ) cb l.length=λi j=>rD E g cb (iZ (((x::l)[i.1]?).getD [])) (iZ (((x::l)[j.1]?).getD [])):=λk m=>by funext i j;obtain⟨c,d⟩:=D i j;have e1:∀i:_root_.Fin (l.length+1),((x::l).map iZ)[i.1]?=some (iZ (((x::l)[i.1]?).getD [])):=λi=>(by have:i.1<(x::l).length:=i.2;rw[getElem?_map,ζd this];rfl);unfold iN;rw[e1 i,e1 j];simp only[R i k m j];rw[d];rfl
  have ab:=Cb Q;generalize hL:(pg l.length (oC λi j:_root_.Fin (l.length+1)=>rD E g cb (iZ (((x::l)[i.1]?).getD [])) (iZ (((x::l)[j.1]?).getD [])))).toList=L at *;have ad:L.length=l.length+1:=by rw[<-hL];simpa using ab
  simp only[length_cons]at B G O;refine⟨max N (max M1 M2)+1,qo rs off l.length L,[],λk m=>?_,?_,?_,?_⟩;cases k with|zero=>omega|succ k=>simp only[run,jm,K,F,if_true,pU,J,rH,false_eq_true,if_false,length_cons];rw[if_pos ⟨trivial,trivial,B,Za,c3⟩,show(run E k).lv=k from mV E k,T k Za,U k Za];simp only[W k Za,Y,if_true,hL,append_nil]
  simp[qo,ad];omega;have e:((qo rs off l.length L).drop off).take (L.map λi=>((x::l)[i.1]?).getD []).length=L.map λi=>(rs[off+i.1]?).getD []:=by unfold qo;have h0:(rs.take off).length=off:=(by simp;omega);rw[append_assoc,List.drop_append_of_le_length Za,List.drop_eq_nil_of_le Za,nil_append,length_map,List.take_append_of_le_length Zc,take_of_length_le Zc]
  rw[e];refine⟨Zc,λj a b q y=>?_⟩;rw[getElem?_map]at q y;obtain⟨i,s,rfl⟩:=ζf.1 q;rw[s]at y;simp only[map_some,ζa]at y;subst y;have X:i.1<(x::l).length:=i.2;have A:off+i.1<rs.length:=by have:=i.2;omega
  refine G.2 i.1 _ _ (by rw[ζd X];rfl) ?_;rw[getElem?_take,if_pos i.2,getElem?_drop,ζd A];rfl;intro c d u o;unfold qo at d;rcases mem_append.1 d with d|d;rcases mem_append.1 d with d|d;exact t c (List.mem_of_mem_take d) u o;obtain⟨i,_,rfl⟩:=mem_map.1 d;have A:off+i.1<rs.length:=by have:=i.2;omega
  rw[ζd A]at o;exact t _ (getElem_mem A) u o;exact t c (List.mem_of_mem_drop d) u o;cases h;cases h;cases h
def bz(N:Nat->Zk)(F:Zo):Arg->V
 |.s n=>get F n|.k c=>c|.f s=>.clo (N s) [] []
def bF(E:Env)(N:Nat->Zk)(call:dw)(b:a_ Nat)(now:Zl)(k:K)(vs:Zu)(H:bp):a_ (V×bp):=
 match k,b with
 |.p p,_=>(bn N p vs).map λv=>(v,H)|.r r,none=>(eP H r vs).map λv=>(v,H)|.r r,some b=>(eP (H.take b) r vs).map λv=>(v,H)|.a a,none=>(gT a vs).map λx=>(x.2.val H.length,H++[x.1])|.l l,none=>eV H l vs|.l (.store n),some _=>if now then eV H (.store n) vs else none|.c,none=>match vs with
  |.clo g a c::t=>if E.keep g then eO E call g (a++t++c) H else match b8 call g (a++t++c) H with
   |some y=>if y.scalar then some (y,H)else none|none=>none
  |_=>none
 |.c,some b=>match vs with
  |.clo g a c::t=>if E.keep g then none else match b8 call g (a++t++c) (H.take b)with
   |some y=>if y.scalar then some (y,H)else none|none=>none
  |_=>none
 |_,_=>none
def bu(F:Zo):a_ Nat->V->Zo
 |none,_=>F|some d,v=>set F d v
def cD(E:Env)(N:Nat->Zk)(call:dw)(b:a_ Nat):Zx->Zo->bp->a_ (Zo×bp)
 |[],F,H=>some (F,H)|o::r,F,H=>match o.gd with
  |none=>match bF E N call b o.now o.k (o.az.map (bz N F)) H with
   |some (v,H')=>cD E N call b r (bu F o.dst v) H'|none=>none
  |some _=>none
section
variable{X:CX}{N:Nat->Zk}{call:dw}{F F':Zo}{H H':bp}
theorem Il(B:∀f s,X.nm f=some s->N s=f){o:Zr}{x:Arg}(h:oe X.nm o=some x):ev F o=some (bz N F x):=by cases o with|tmp t=>simp[oe]at h;subst h;rfl|const w=>simp[oe]at h;split at h;rename_i c a;split at h;simp at h;subst h;exact a;grind;grind|func f=>obtain⟨s,u,rfl⟩:=ζf.1 h;show some (V.clo f [] [])=some (.clo (N s) [] []);grind|global i=>simp[oe]at h;split at h;rename_i c a;split at h;simp at h;subst h;simp[ev,a];rfl;grind;grind
theorem uW(G:∀f s,X.nm f=some s->N s=f):∀{os:aZ Zr}{B:Z4},os.mapM (oe X.nm)=some B->fA F os=some (B.map (bz N F))
 |[],B,h=>by simp at h;subst h;rfl|o::os,B,h=>by simp[ζg]at h;obtain⟨x,J,xs,D,rfl⟩:=h;simp[fA,Il G J,uW G D]
theorem zJ(D:∀f s,X.nm f=some s->N s=f){B:Zl}{ops:Zz}{i:Nat}{o:Oper}{ro:RO}(h:mG X B ops i o=some ro)(g:ro.gd=none):
 o.dst=ro.dst/\xD X.nt o.dst=true/\fE ops F o=true/\((z6 X.E N F o.op (ro.az.map (bz N F)) ro.k/\ro.now=(B&&dA ops i)/\(B=true->dA ops i=false->∀a',ot ops i a'=[]\/∀t,o.op≠.load t (.tmp a')))\/(∃n,ro.k=.l (.storeF n))\/(∃n a,ro.k=.r (.loadF n a))\/(B=true/\BD X.E ops i=true/\c_ o.op=.alloc/\(∃p,ro.k=.p p/\(p=.emptyC\/(∃a b,p=.makeC a b)\/∃a b c d,p=.buildC a b c d)/\∀y,bn N p (ro.az.map (bz N F))=some y->oD X.E F o.op=some y))\/∃n,ro.k=.e n):=by
 unfold mG at h;split at h
 .rename_i I;split at h
  .rename_i gd k os u hr;split at h
   .split at h
    .rename_i z;simp only[ζh]at z;have L:∀{gd:a_ (Nat×Zl)},Bt ops o=some gd->gd=none->fE ops F o=true:=λ{gd}u g=>by
      subst g;unfold fE;unfold Bt at u
      cases G:o.guard with
      |none=>rfl|some O=>rw[G]at u;have⟨j,b⟩:=O;have⟨d,_,e⟩:=ζf.1 u;cases e
     split at h
     next Q=>obtain⟨S,C,rfl⟩:=ζf.1 h;have w:=iV D hr (uW (F:=F) D C);exact⟨rfl,I,L u g,.inr (.inr (.inr (.inl ⟨z.1,z.2,w.1,_,rfl,.inr (.inl ⟨_,_,rfl⟩),λy J=>Cp ⟨_,_,_,by assumption⟩ w J⟩)))⟩
     .rename_i Q;split at h
      next T=>obtain⟨U,rfl,rfl⟩:=T;obtain⟨S,C,rfl⟩:=ζf.1 h;have w:=iV D hr (uW (F:=F) D C);exact⟨rfl,I,L u g,.inr (.inr (.inr (.inl ⟨z.1,z.2,w.1,_,rfl,.inl rfl,λy J=>BN ⟨_,_,_,by assumption⟩ w U J⟩)))⟩
      obtain⟨S,C,rfl⟩:=ζf.1 h;have w:=iV D hr (uW (F:=F) D C);exact⟨rfl,I,L u g,.inr (.inr (.inr (.inl ⟨z.1,z.2,w.1,_,rfl,.inr (.inr ⟨_,_,_,_,rfl⟩),λy J=>B_ ⟨_,_,_,by assumption⟩ w J⟩)))⟩
     cases h
    obtain⟨S,C,rfl⟩:=ζf.1 h;simp only at g;subst g;refine⟨rfl,I,?_,?_⟩
    .unfold fE;unfold Bt at u
     cases G:o.guard with
     |none=>rfl|some O=>rw[G]at u;have⟨j,b⟩:=O;have⟨d,_,e⟩:=ζf.1 u;cases e
    rcases B0 B ops i k os with⟨e,W⟩|⟨_,_,n,a,l,Y,_,_,_,e⟩|⟨_,_,n,ag,a,_,_,e⟩|⟨_,_,_,n,_,e⟩
    .rw[e]at C⊢;refine .inl ⟨iV D hr (uW D C),rfl,λI Z a'=>?_⟩
     by_cases m:∃t,o.op=.load t (.tmp a')
     .have⟨t,m⟩:=m;rw[m]at hr;simp only[resolve]at hr;have⟨d,_,e⟩:=ζf.1 hr;simp only[ζc]at e;exact .inl (W _ _ a' I Z e.1.symm e.2.symm)
     exact .inr λt h=>m ⟨t,h⟩
    .rw[e];exact .inr (.inl ⟨n,rfl⟩)
    .rw[e];exact .inr (.inr (.inl ⟨n,ag,rfl⟩))
    rw[e];exact .inr (.inr (.inr (.inr ⟨n,rfl⟩)))
   simp at h
  simp at h
 simp at h
theorem Ga{a:Nat}{dst:a_ Nat}(h:xD a dst=true)(v:V):jD a F dst v=some (bu F dst v):=by cases dst with|none=>rfl|some d=>simp[xD]at h;simp[jD,if_pos h,bu]
theorem Tc(G:∀f s,X.nm f=some s->N s=f){ops:Zz}{i:Nat}{o:Oper}{ro:RO}(h:mG X false ops i o=some ro)(q:ro.gd=none){v:V}(d:bF X.E N call none ro.now ro.k (ro.az.map (bz N F)) H=some (v,H')):
 fW X.E call X.nt ops none o F H=some (bu F ro.dst v,H'):=by
 have⟨j,I,J,t⟩:=zJ (F:=F) G h q;have L:dm X.E call ops none F H o.op=some (v,H'):=by
  rcases t with⟨t,_⟩|⟨n,t⟩|⟨n,a,t⟩|⟨t,_⟩|⟨n,t⟩;generalize x:ro.k=k at d t;generalize ro.az.map (bz N F)=U at d t;unfold dm;cases k with|p p=>have⟨c,e⟩:=t;have⟨w,z,B⟩:=ζf.1 d;rw[c];simp only[xJ (e w z),map_some];rw[B]|r r=>have⟨c,e⟩:=t;have⟨w,z,B⟩:=ζf.1 d;rw[c];simp only[e H w z,map_some];rw[B]|a a=>have⟨c,e⟩:=t;have⟨⟨ob,m⟩,z,B⟩:=ζf.1 d;rw[c];simp only[qv,false_eq_true,if_false,e _ z];exact congrArg some B|l l=>have⟨c,e⟩:=t;rw[c];exact e H _ d|e n=>exact t.elim|b=>simp[bF]at d|c=>obtain⟨c,f,O,rfl,e⟩:=t;rw[c];simp only[bF]at d;split at d;rename_i g a b Q C;simp only[List.cons.injEq]at C;obtain⟨rfl,rfl⟩:=C;split at d;(next u=>simp only[e,kH,u,Bool.and_self,if_true];exact d);rename_i u;split at d;rename_i y S;split at d;(next D=>simp only[e,kH,u,Bool.false_and,false_eq_true,if_false,S,D,if_true];exact d);simp at d;simp at d;simp at d
  .rw[t]at d;exfalso;have:∀ops i k os,(wB false ops i k os).1=k:=λ_ _ _ _=>rfl;unfold mG at h;simp only[Bool.false_and,false_eq_true,if_false]at h;split at h
   .split at h
    .rename_i gd k os T hr;split at h
     .obtain⟨O,W,rfl⟩:=ζf.1 h;simp only[this]at t;subst t;unfold resolve at hr;(repeat' split at hr)<;>first|(simp at hr;done)|(have⟨_,_,e⟩:=ζf.1 hr;simp at e;done)
     simp at h
    simp at h
   first|(simp at h;done)|contradiction
  rw[t]at d;simp[bF,eP]at d;cases t;rw[t]at d;simp[bF]at d
 unfold fW;rw[J,if_pos rfl,L];simp only[j,Ga (j▸I),map_some]
theorem Fk(D:∀f s,X.nm f=some s->N s=f){ops:Zz}:∀(rest:Zz){i:Nat}{B:Zx}{F:Zo}{H:bp},kz X false ops i rest=some B->cD X.E N call none B F H=some (F',H')->lC X.E call X.nt ops rest F H=some (F',H')
 |[],i,B,F,H,hc,h=>by simp[kz]at hc;subst hc;exact h|o::rest,i,B,F,H,hc,h=>by simp[kz]at hc;split at hc;rename_i ro rs a G;simp at hc;subst hc;simp[cD]at h;split at h;rename_i b;split at h;(next v H1 c=>simp[lC,Tc D a b c];exact Fk D rest G h);grind;grind;grind
theorem Q0{ops:Zz}{i:Nat}{op:Op}(h:∀t a',op=.load t (.tmp a')->ot ops i a'=[]):mL ops i F op=true:=by unfold mL;grind
theorem S3(Y:∀f s,X.nm f=some s->N s=f){ops:Zz}{b i:Nat}{o:Oper}(m:ops[i]?=some o){ro:RO}(h:mG X true ops i o=some ro)(q:ro.gd=none){v:V}(d:bF X.E N call (some b) ro.now ro.k (ro.az.map (bz N F)) H=some (v,H')):
 fW X.E call X.nt ops (some (b,i)) o F H=some (bu F ro.dst v,H'):=by
 have⟨j,Z,x,u⟩:=zJ (F:=F) Y h q;have A:dm X.E call ops (some (b,i)) F H o.op=some (v,H'):=by
  rcases u with⟨u,z,B⟩|⟨n,u⟩|⟨n,a,u⟩|⟨_,I,J,p,u,_,L⟩|⟨n,u⟩;generalize K:ro.k=k at d u;generalize ro.az.map (bz N F)=vs at d u;unfold dm
  cases k with
  |p p=>have⟨c,e⟩:=u;have⟨w,C,D⟩:=ζf.1 d;rw[c];simp only[xJ (e w C),map_some];rw[D]|r r=>have⟨c,e⟩:=u;have⟨w,C,D⟩:=ζf.1 d;have O:mL ops i F o.op=true:=Q0 λt a' e=>(by by_cases U:dA ops i=true;exact CI m e U;rcases B rfl (by simpa using U) a' with h|h;exact h;exact absurd e (h t));rw[c];simp only[e _ w C,O,if_true];rw[D]|a a=>simp[bF]at d|l l=>have⟨c,e⟩:=u;cases l with|store n=>simp only[bF]at d;split at d;(next W=>rw[z,Bool.true_and]at W;rw[c];simp only[W,Bool.true_or,if_true];exact e H _ d);simp at d|_=>simp[bF]at d
  |e n=>exact u.elim|b=>simp[bF]at d|c=>obtain⟨c,f,M,rfl,e⟩:=u;rw[c];simp only[bF]at d;split at d;rename_i g a b P G;simp only[List.cons.injEq]at G;obtain⟨rfl,rfl⟩:=G;split at d;simp at d;rename_i Q;split at d;rename_i y E;split at d;(next S=>simp only[e,kH,Q,Bool.false_and,false_eq_true,if_false,E,S,if_true];exact d);simp at d;simp at d;simp at d
  rw[u]at d;simp[bF]at d;rw[u]at d;simp[bF,eP]at d;rw[u]at d;have⟨w,C,D⟩:=ζf.1 d;have T:=L w C;unfold dm;rw[J];simp only[qv,I,if_true,T,map_some];exact congrArg some D;rw[u]at d;simp[bF]at d
 unfold fW;rw[x,if_pos rfl,A];simp only[j,Ga (j▸Z),map_some]
theorem Gc(D:∀f s,X.nm f=some s->N s=f){ops:Zz}{b:Nat}:∀(rest:Zz){i:Nat}{B:Zx}{F:Zo}{H:bp},ops.drop i=rest->kz X true ops i rest=some B->cD X.E N call (some b) B F H=some (F',H')->
 jy X.E call X.nt ops b (range' i rest.length) F H=some (F',H')
 |[],i,B,F,H,_,hc,h=>by simp[kz]at hc;subst hc;exact h|o::rest,i,B,F,H,J,hc,h=>by simp[kz]at hc;split at hc;rename_i ro rs a O;simp at hc;subst hc;simp[cD]at h;split at h;rename_i c;split at h;rename_i v H1 d;have G:ops[i]?=some o:=(by have:(ops.drop i)[0]?=some o:=Zd;grind);have t:ops.drop (i+1)=rest:=(by rw[<-List.drop_drop,J];rfl);simp[List.range'_succ,jy,G,S3 D G a c d];exact Gc D rest t O h;grind;grind;grind
def wP(l:Zx):Zl:=l.all λo=>(match o.k with|.a _|.l (.storeF _)|.r (.loadF ..)|.p (.makeC ..)|.p (.buildC ..)|.p .emptyC|.e _=>false|_=>true)&&o.gd.isNone
theorem B6(J:∀f s,X.nm f=some s->N s=f){ops:Zz}:∀(rest:Zz){i:Nat}{G:Zx},kz X true ops i rest=some G->wP G=true->rest.any (λo=>c_ o.op==.alloc)=false
 |[],_,_,_,_=>rfl|o::rest,i,G,hc,D=>by simp only[kz]at hc;split at hc;rename_i ro rs c O;simp only[ζa]at hc;subst hc;simp only[wP,all_cons,ζh,Option.isNone_iff_eq_none]at D;have⟨_,_,_,B⟩:=zJ (F:=[]) J c D.1.2;rw[List.any_cons,B6 J rest O D.2,Bool.or_false];rcases B with⟨B,_⟩|⟨n,B⟩|⟨n,a,B⟩|⟨_,_,_,p,B,t,_⟩|⟨n,B⟩;(cases b:ro.k with|a p=>have:=D.1.1;rw[b]at this;cases this|e p=>have:=D.1.1;rw[b]at this;cases this|_=>rw[b]at B;rw[B.1];rfl);have:=D.1.1;rw[B]at this;cases this;have:=D.1.1;rw[B]at this;cases this;have:=D.1.1;rw[B]at this;rcases t with rfl|⟨_,_,rfl⟩|⟨_,_,_,_,rfl⟩<;>cases this;have:=D.1.1;rw[B]at this;cases this;simp at hc
def gO(E:Env)(N:Nat->Zk)(call:dw)(lf:Nat):RC->Zo->bp->a_ (Out×Zo×bp)
 |.skip,F,H=>some (.norm,F,H)|.ops l,F,H=>(cD E N call none l F H).map λx=>(.norm,x.1,x.2)|.ox l,F,H=>if wP l then(cD E N call (some H.length) l F H).map λx=>(.norm,x.1,x.2)else none|.seq a b,F,H=>match gO E N call lf a F H with
  |some (.norm,F',H')=>gO E N call lf b F' H'|r=>r
 |.cond x a b,F,H=>match bz N F x with
  |.bool t=>if t then gO E N call lf a F H else gO E N call lf b F H|_=>none
 |.block id c,F,H=>match gO E N call lf c F H with
  |some (.exit B,F',H')=>if B=id then some (.norm,F',H')else some (.exit B,F',H')|r=>r
 |.loop c,F,H=>j9 (gO E N call lf c) lf F H|.exit id,F,H=>some (.exit id,F,H)|.ret,F,H=>some (.ret,F,H)|_,_,_=>none
theorem GF{f g:Zo->bp->a_ (Out×Zo×bp)}(h:∀F H r,f F H=some r->g F H=some r):∀(k:Nat)(F:Zo)(H:bp)(r:Out×Zo×bp),j9 f k F H=some r->j9 g k F H=some r
 |0,F,H,r,hr=>by simp[j9]at hr|k+1,F,H,r,hr=>by simp only[j9]at hr⊢;cases B:f F H with|none=>rw[B]at hr;simp at hr|some q=>rw[B]at hr;rw[h F H q B];have⟨o,F1,H1⟩:=q;cases o with|norm=>exact GF h k F1 H1 r hr|exit _=>exact hr|ret=>exact hr
theorem Gv(D:∀f s,X.nm f=some s->N s=f){lf:Nat}:∀(j:RC)(code:Code)(F:Zo)(H:bp)(r:Out×Zo×bp),bQ X false code=some j->gO X.E N call lf j F H=some r->exec X.E call lf false X.nt code F H=some r:=by
 intro j
 induction j with
 |skip=>
  intro code F H r d h;simp only[gO,ζa]at h;subst h
  cases code with
  |skip=>rfl|label _=>rfl|region id ops u=>simp only[bQ]at d;(repeat' split at d)<;>first|(simp at d;done)|(have⟨_,_,e⟩:=ζf.1 d;cases e)
  |_=>simp only[bQ]at d;(repeat' split at d)<;>first|(simp at d;done)|(have⟨_,_,e⟩:=ζf.1 d;cases e)|cases d
 |ops l=>intro code F H r d h;cases code with|region id ops u=>simp only[bQ]at d;split at d;split at d;have⟨_,_,e⟩:=ζf.1 d;cases e;simp at d;rename_i I;have⟨U,G,e⟩:=ζf.1 d;cases e;simp only[gO]at h;obtain⟨⟨F',H'⟩,k,rfl⟩:=ζf.1 h;simp only[exec,ji,I];rw[if_neg Zc,Fk D _ G k];rfl|_=>simp only[bQ]at d;(repeat' split at d)<;>first|(simp at d;done)|(have⟨_,_,e⟩:=ζf.1 d;cases e)|cases d
 |ox l=>intro code F H r d h;cases code with|region id ops u=>simp only[bQ]at d;split at d;rename_i I;split at d;rename_i J;have⟨U,G,e⟩:=ζf.1 d;cases e;simp only[gO]at h;split at h;(next W=>obtain⟨⟨F',H'⟩,k,rfl⟩:=ζf.1 h;have Y:qA ops.toList=false:=B6 D _ G W;have:=Gc D ops.toList (i:=0) rfl G k;rw[<-List.range_eq_range']at this;simp only[exec,ji,I,J,if_true,Y,false_eq_true,if_false,this];rfl);simp at h;simp at d;have⟨_,_,e⟩:=ζf.1 d;cases e|_=>simp only[bQ]at d;(repeat' split at d)<;>first|(simp at d;done)|(have⟨_,_,e⟩:=ζf.1 d;cases e)|cases d
 |seq a b w B=>
  intro code F H r d h
  cases code with
  |seq L O=>simp only[bQ]at d;split at d;rename_i x y C Q;cases d;simp only[gO]at h;simp only[exec];(cases g:gO X.E N call lf a F H with|none=>rw[g]at h;simp at h|some q=>rw[g]at h;rw[w L F H q C g];have⟨o,F1,H1⟩:=q;cases o with|norm=>exact B O F1 H1 r Q h|exit _=>exact h|ret=>exact h);simp at d
  |region id ops u=>simp only[bQ]at d;(repeat' split at d)<;>first|(simp at d;done)|(have⟨_,_,e⟩:=ζf.1 d;cases e)
  |_=>simp only[bQ]at d;(repeat' split at d)<;>first|(simp at d;done)|(have⟨_,_,e⟩:=ζf.1 d;cases e)|cases d
 |cond x a b w B=>
  intro code F H r d h
  cases code with
  |cond c L O=>simp only[bQ]at d;split at d;rename_i p y z C Q Z;cases d;simp only[gO]at h;simp only[exec,Il (F:=F) D C];split at h;rename_i t m;rw[m];(cases t with|true=>simp only[if_true]at h⊢;exact w L F H r Q h|false=>simp only[false_eq_true,if_false]at h⊢;exact B O F H r Z h);simp at h;simp at d
  |region id ops u=>simp only[bQ]at d;(repeat' split at d)<;>first|(simp at d;done)|(have⟨_,_,e⟩:=ζf.1 d;cases e)
  |_=>simp only[bQ]at d;(repeat' split at d)<;>first|(simp at d;done)|(have⟨_,_,e⟩:=ζf.1 d;cases e)|cases d
 |block id c S=>
  intro code F H r d h
  cases code with
  |block T c'=>simp only[bQ]at d;have⟨x,C,e⟩:=ζf.1 d;cases e;simp only[gO]at h;simp only[exec];cases g:gO X.E N call lf c F H with|none=>rw[g]at h;simp at h|some q=>rw[g]at h;rw[S c' F H q C g];exact h
  |region id ops u=>simp only[bQ]at d;(repeat' split at d)<;>first|(simp at d;done)|(have⟨_,_,e⟩:=ζf.1 d;cases e)
  |_=>simp only[bQ]at d;(repeat' split at d)<;>first|(simp at d;done)|(have⟨_,_,e⟩:=ζf.1 d;cases e)|cases d
 |loop c S=>
  intro code F H r d h
  cases code with
  |loop c'=>simp only[bQ]at d;have⟨x,C,e⟩:=ζf.1 d;cases e;simp only[gO]at h;simp only[exec];exact GF (λF H r n=>S c' F H r C n) lf F H r h|region id ops u=>simp only[bQ]at d;(repeat' split at d)<;>first|(simp at d;done)|(have⟨_,_,e⟩:=ζf.1 d;cases e)
  |_=>simp only[bQ]at d;(repeat' split at d)<;>first|(simp at d;done)|(have⟨_,_,e⟩:=ζf.1 d;cases e)|cases d
 |exit id=>
  intro code F H r d h
  cases code with
  |exit T=>simp only[bQ,ζa,RC.exit.injEq]at d;subst d;exact h|region id ops u=>simp only[bQ]at d;(repeat' split at d)<;>first|(simp at d;done)|(have⟨_,_,e⟩:=ζf.1 d;cases e)
  |_=>simp only[bQ]at d;(repeat' split at d)<;>first|(simp at d;done)|(have⟨_,_,e⟩:=ζf.1 d;cases e)|cases d
 |ret=>
  intro code F H r d h
  cases code with
  |ret=>exact h|region id ops u=>simp only[bQ]at d;(repeat' split at d)<;>first|(simp at d;done)|(have⟨_,_,e⟩:=ζf.1 d;cases e)
  |_=>simp only[bQ]at d;(repeat' split at d)<;>first|(simp at d;done)|(have⟨_,_,e⟩:=ζf.1 d;cases e)|cases d
 |_=>intro code F H r d h;simp[gO]at h
end
def Ex(E:Env)(N:Nat->Zk)(a:RC)(F:Zo)(H:bp)(o:Out)(F':Zo)(H':bp):Prop:=∃n,∀k,n<=k->gO E N (run E k) k a F H=some (o,F',H')
def k7(E:Env)(N:Nat->Zk)(a:RC)(F:Zo)(H:bp)(o:Out)(F':Zo)(H':bp):Prop:=∃n,∀k,n<=k->∀lf,n<=lf->j9 (gO E N (run E k) k a) lf F H=some (o,F',H')
section
variable{E:Env}{N:Nat->Zk}{a b c:RC}{F F1 F':Zo}{H H1 H':bp}{o:Out}{x:Arg}{id:Nat}
theorem Ex.ops{l:Zx}(h:∃n,∀k,n<=k->cD E N (run E k) none l F H=some (F',H')):Ex E N (.ops l) F H .norm F' H':=let⟨n,h⟩:=h;⟨n,λk a=>by simp only[gO,h k a,map_some]⟩
theorem Ex.cZ{l:Zx}(h:∀call,cD E N call none l F H=some (F',H')):Ex E N (.ops l) F H .norm F' H':=Ex.ops ⟨0,λk _=>h _⟩
theorem Ex.ox{l:Zx}(B:wP l=true)(h:∀call,cD E N call (some H.length) l F H=some (F',H')):Ex E N (.ox l) F H .norm F' H':=⟨0,λk _=>by simp only[gO,B,if_true,h,map_some]⟩
theorem Ex.JK{l:Zx}(B:wP l=true)(h:∃n,∀k,n<=k->cD E N (run E k) (some H.length) l F H=some (F',H')):Ex E N (.ox l) F H .norm F' H':=let⟨n,h⟩:=h;⟨n,λk a=>by simp only[gO,B,if_true,h k a,map_some]⟩
theorem Ex.skip:Ex E N .skip F H .norm F H:=⟨0,λ_ _=>rfl⟩
theorem Ex.exit:Ex E N (.exit id) F H (.exit id) F H:=⟨0,λ_ _=>rfl⟩
theorem Ex.ret:Ex E N .ret F H .ret F H:=⟨0,λ_ _=>rfl⟩
theorem Ex.seq(c:Ex E N a F H .norm F1 H1)(B:Ex E N b F1 H1 o F' H'):Ex E N (.seq a b) F H o F' H':=by have⟨n,c⟩:=c;have⟨m,B⟩:=B;exact⟨max n m,λk d=>by simp only[gO,c k Za];exact B k Za⟩
theorem Ex.sE(c:Ex E N a F H o F' H')(B:o≠.norm):Ex E N (.seq a b) F H o F' H':=by have⟨n,c⟩:=c;refine⟨n,λk d=>?_⟩;simp only[gO,c k d];cases o<;>first|exact absurd rfl B|rfl
theorem Ex.mb(B:bz N F x=.bool true)(h:Ex E N a F H o F' H'):Ex E N (.cond x a b) F H o F' H':=by have⟨n,h⟩:=h;exact⟨n,λk c=>by simp only[gO,B,if_true,h k c]⟩
theorem Ex.oA(B:bz N F x=.bool false)(h:Ex E N b F H o F' H'):Ex E N (.cond x a b) F H o F' H':=by have⟨n,h⟩:=h;exact⟨n,λk c=>by simp only[gO,B,false_eq_true,if_false,h k c]⟩
theorem Ex.block(h:Ex E N c F H .norm F' H'):Ex E N (.block id c) F H .norm F' H':=by have⟨n,h⟩:=h;exact⟨n,λk a=>by simp only[gO,h k a]⟩
theorem Ex.tF(h:Ex E N c F H (.exit id) F' H'):Ex E N (.block id c) F H .norm F' H':=by have⟨n,h⟩:=h;exact⟨n,λk a=>by simp only[gO,h k a,if_true]⟩
theorem Ex.Li(h:Ex E N c F H .ret F' H'):Ex E N (.block id c) F H .ret F' H':=by have⟨n,h⟩:=h;exact⟨n,λk a=>by simp only[gO,h k a]⟩
theorem Ex.loop(h:k7 E N c F H o F' H'):Ex E N (.loop c) F H o F' H':=by have⟨n,h⟩:=h;exact⟨n,λk a=>h k a k a⟩
theorem k7.step(a:Ex E N c F H .norm F1 H1)(B:k7 E N c F1 H1 o F' H'):k7 E N c F H o F' H':=by have⟨n,a⟩:=a;have⟨m,B⟩:=B;refine⟨max n m+1,λk b lf t=>?_⟩;cases lf with|zero=>omega|succ lf=>simp only[j9,a k Za];exact B k Za lf Za
theorem k7.stop(a:Ex E N c F H o F' H')(B:o≠.norm):k7 E N c F H o F' H':=by have⟨n,a⟩:=a;refine⟨n+1,λk b lf t=>?_⟩;cases lf with|zero=>omega|succ lf=>simp only[j9,a k Za];cases o<;>first|exact absurd rfl B|rfl
end
theorem Ex.run{E:Env}{nm:Zk->a_ Nat}{N:Nat->Zk}(B:∀f s,nm f=some s->N s=f){f:Zk}{fi:FI}{a:RC}(D:E.ft f=some fi)(b:bQ ⟨E,nm,fi.ntmps⟩ false fi.body=some a){args:Zu}(G:args.length<=fi.ntmps){H H':bp}{F':Zo}
 (h:Ex E N a args H .ret F' H'){vs:Zu}(c:gG E F' H' fi.results=some vs):∃n,run E n (.fn f) args H=some (result vs,H'):=by
 have⟨n,h⟩:=h;refine⟨n+1,?_⟩;have:=Gv (X:=⟨E,nm,fi.ntmps⟩) (call:=Go.VE.run E n) B (lf:=n) a fi.body args H _ b (h n (le_refl _));simp only[Go.VE.run,jm,D,if_pos G,this,c,map_some]
@[simp] theorem bA(F:Zo)(i j:Nat)(v:V):get (set F i v) j=if i=j then v else get F j:=by
 split;next h=>subst h;exact rF F i v
 rename_i h;exact iW F v h
def refs:Zv->Zt->Zt
 |id::ids,r::rs=>[V.hsl id 1 0 r.length]::refs ids rs|_,_=>[]
def iT(r:Zu):Zt:=r.map λu=>[u]
structure lG(H:bp)(w:V)(o:Nat)(ids:List Nat)(rows:List (List V)):Prop where
 v:w=if rows=[]then .bJ else .hsl o 1 0 rows.length
 ob:rows≠[]->H[o]?=some (.row 1 (refs ids rows))
 len:ids.length=rows.length
 r:∀(i id:Nat)(r:List V),ids[i]?=some id->rows[i]?=some r->H[id]?=some (.row 1 (iT r))
 nd:ids.Nodup
 ne:rows≠[]->o∉ids
theorem sx:∀{ids:Zv}{rows:Zt},ids.length=rows.length->(refs ids rows).length=rows.length
 |[],[],_=>rfl|_::ids,_::rows,h=>by simp only[refs,length_cons,sx (ids:=ids) (rows:=rows) (by simpa using h)]
theorem GZ:∀{ids:Zv}{rows:Zt}(id:Nat)(r:Zu),ids.length=rows.length->refs (ids++[id]) (rows++[r])=refs ids rows++[[V.hsl id 1 0 r.length]]
 |[],[],_,_,_=>rfl|_::ids,_::rows,id,r,h=>by simp only[refs,cons_append,GZ (ids:=ids) (rows:=rows) id r (by simpa using h)]
theorem Bf:∀{ids:Zv}{rows:Zt}{i id:Nat}{r:Zu},ids[i]?=some id->rows[i]?=some r->(refs ids rows)[i]?=some [V.hsl id 1 0 r.length]
 |[],_,_,_,_,h,_=>by simp at h|_::_,[],_,_,_,_,h=>by simp at h|a::ids,b::rows,0,id,r,h1,B=>by simp at h1 B;subst h1 B;rfl|a::ids,b::rows,i+1,id,r,h1,B=>by simpa[refs]using Bf (ids:=ids) (rows:=rows) (i:=i) (by simpa using h1) (by simpa using B)
theorem GW:∀{ids:Zv}{rows:Zt}{i:Nat}{r B:Zu},rows[i]?=some r->B.length=r.length->refs ids (rows.set i B)=refs ids rows
 |[],_,_,_,_,_,_=>by simp[refs]|_::_,[],_,_,_,_,_=>by simp[refs]|a::ids,b::rows,0,r,B,h,D=>by simp at h;subst h;simp only[List.set_cons_zero,refs,D]|a::ids,b::rows,i+1,r,B,h,D=>by simp only[List.set_cons_succ,refs,GW (ids:=ids) (rows:=rows) (i:=i) (by simpa using h) D]
section
variable{H H':bp}{v:V}{o:Nat}{ids:Zv}{rows:Zt}
theorem lG.nil(H:bp)(o:Nat):lG H .bJ o [] []:=⟨rfl,λh=>absurd rfl h,rfl,λi id r h=>by simp at h,.nil,λh=>absurd rfl h⟩
theorem lG.heap(n:lG H v o ids rows)(B:rows≠[]->H'[o]?=H[o]?)(D:∀id∈ids,H'[id]?=H[id]?):lG H' v o ids rows:=⟨n.v,λh=>by rw[B h];exact n.ob h,n.len,λi id r h1 t=>by rw[D id (mem_of_getElem? h1)];exact n.r i id r h1 t,n.nd,n.ne⟩
theorem lG.lt(n:lG H v o ids rows):(rows≠[]->o<H.length)/\∀id∈ids,id<H.length:=by refine⟨λh=>(ζe.1 (n.ob h)).1,λid t=>?_⟩;have⟨i,u⟩:=getElem?_of_mem t;have w:=(ζe.1 u).1;have:=n.r i id _ u (ζd (show i<rows.length from n.len▸w));exact(ζe.1 this).1
theorem lG.more(n:lG H v o ids rows)(X:bp):lG (H++X) v o ids rows:=n.heap (λh=>getElem?_append_left (n.lt.1 h)) λid t=>getElem?_append_left (n.lt.2 id t)
theorem lG.push(n:lG H v o ids rows)(r:Zu)(U:rows.length+1<=2147483648):
 ∃H',eV (H++[.row 1 (iT r)]++[.row 1 [[.hsl H.length 1 0 r.length]]]) (.append 1) [v,.hsl (H.length+1) 1 0 1]=some (.hsl (H.length+2) 1 0 (rows.length+1),H')/\
  lG H' (.hsl (H.length+2) 1 0 (rows.length+1)) (H.length+2) (ids++[H.length]) (rows++[r])/\H.length<=H'.length/\(∀id,id<H.length->id≠o\/rows=[]->H'[id]?=H[id]?):=by
 generalize C:H++[.row 1 (iT r)]++[.row 1 [[.hsl H.length 1 0 r.length]]]=H2;have t:H2.length=H.length+2:=by subst C;simp
 have z:∀id,id<H.length->H2[id]?=H[id]?:=λid h=>by subst C;rw[append_assoc,getElem?_append_left h]
 have g:H2[H.length]?=some (.row 1 (iT r)):=by subst C;simp
 have T:H2[H.length+1]?=some (.row 1 [[.hsl H.length 1 0 r.length]]):=by subst C;simp
 have f:=n.v;have e2:dD H2 1 (.hsl (H.length+1) 1 0 1)=some [[.hsl H.length 1 0 r.length]]:=by simp[dD,T,Ob.rows]
 by_cases c:rows=[]
 .subst c;rw[if_pos rfl]at f;subst f;have:ids=[]:=List.eq_nil_of_length_eq_zero n.len;subst this;refine⟨H2++[.row 1 [[.hsl H.length 1 0 r.length]]],?_,⟨Zc,λ_=>by rw[<-t];simp[refs],rfl,λi id O w u=>?_,Zc,λ_=>Zc⟩,by simp[t];omega,λid D _=>?_⟩
  .have e1:dD H2 1 .bJ=some []:=rfl;simp only[eV,e1,e2,gB,List.length_nil,length_singleton,map_some,t];simp
  .cases i with
   |zero=>simp at w u;subst w u;rw[getElem?_append_left Za];exact g|succ i=>simp at w
  rw[getElem?_append_left Za];exact z id D
 rw[if_neg c]at f;subst f;have Q:=n.ob c;have I:=n.lt.1 c;have e1:dD H2 1 (.hsl o 1 0 rows.length)=some (refs ids rows):=by simp only[dD,if_true,z o I,Q,ζb,Ob.rows,sx n.len,zero_add,le_refl,drop_zero];rw[take_of_length_le (by rw[sx n.len];exact le_refl _)]
 have W:gB H2 (.hsl o 1 0 rows.length)=some (H2.set o .dead):=by simp only[gB,z o I,Q]
 have B:∀id,id≠o->(H2.set o Ob.dead++[Ob.row 1 (refs ids rows++[[.hsl H.length 1 0 r.length]])])[id]?=if id<H2.length then H2[id]?else(H2.set o Ob.dead++[Ob.row 1 (refs ids rows++[[.hsl H.length 1 0 r.length]])])[id]?:=λid G=>by split;(next h=>rw[getElem?_append_left (by simpa using h),getElem?_set_ne (symm G)]);rfl
 refine⟨H2.set o .dead++[.row 1 (refs ids rows++[[.hsl H.length 1 0 r.length]])],?_,⟨Zc,λ_=>?_,by simp[n.len],λi id O w u=>?_,?_,λ_ d=>?_⟩,by simp[t];omega,λid D G=>?_⟩
 .simp only[eV,e1,e2,W,sx n.len,length_singleton,U,if_true,map_some,t]
 .rw[GZ _ _ n.len,<-t];simp
 .have J:id≠o:=by
   rcases Nat.lt_or_ge i ids.length with h|h
   .rw[getElem?_append_left h]at w;intro e;subst e;exact n.ne c (mem_of_getElem? w)
   have:i=ids.length:=by have:=(ζe.1 w).1;simp at this;omega
   subst this;simp at w;subst w;omega
  rcases Nat.lt_or_ge i ids.length with h|h
  .rw[getElem?_append_left h]at w;rw[getElem?_append_left (by rw[<-n.len];exact h)]at u
   have L:=n.lt.2 id (mem_of_getElem? w);rw[B id J,if_pos Za,z id L]
   exact n.r i id O w u
  have:i=ids.length:=by have:=(ζe.1 w).1;simp at this;omega
  subst this;simp at w;subst w;rw[n.len]at u;simp at u;subst u;rw[B _ J,if_pos Za];exact g
 .rw[List.nodup_append];exact⟨n.nd,Zc,λa X b S=>by simp at S;subst S;exact Nat.ne_of_lt (n.lt.2 a X)⟩
 .rcases mem_append.1 d with d|d
  .have:=n.lt.2 _ d;omega
  simp at d
 rw[B id (G.resolve_right c),if_pos Za];exact z id D
end
theorem jo{E:Env}{N:Nat->Zk}{F:Zo}{H H1:bp}{call:dw}{b:a_ Nat}{o:RO}{l:Zx}{v:V}{r:Zo×bp}(a:o.gd=none)(c:bF E N call b o.now o.k (o.az.map (bz N F)) H=some (v,H1))(h:cD E N call b l (bu F o.dst v) H1=some r):cD E N call b (o::l) F H=some r:=by simp only[cD,a,c];exact h
theorem vp{E:Env}{N:Nat->Zk}{F:Zo}{H:bp}{call:dw}{b:a_ Nat}{o:RO}{l:Zx}{v:V}{r:Zo×bp}(a:o.gd=none)(c:bF E N call b o.now o.k (o.az.map (bz N F)) H=some (v,H))(h:cD E N call b l (bu F o.dst v) H=some r):cD E N call b (o::l) F H=some r:=jo a c h
theorem dX{E:Env}{N:Nat->Zk}{F:Zo}{H:bp}{call:dw}{b:a_ Nat}:cD E N call b [] F H=some (F,H):=rfl
theorem wG{n:Nat}(h:n<=2147483648):wrap .i64 ((n:Int)+1)=((n+1:Nat):Int):=by simp[wrap,IntKind.bits,signed];omega
theorem T4{n:Nat}(h:n<=2147483648):wrap .i64 (((n+1:Nat):Int)-1)=(n:Int):=by simp[wrap,IntKind.bits,signed];omega
theorem js(H:bp):H.take H.length=H:=List.take_length
theorem uT{E:Env}{nm:Zk->a_ Nat}{f:Zk}{a:RC}{n:Nat}{rs:aZ ResultVar}(h:((E.ft f).map λfi=>(bQ ⟨E,nm,fi.ntmps⟩ false fi.body,ble n fi.ntmps,fi.results))=some (some a,true,rs)):
 ∃fi,E.ft f=some fi/\bQ ⟨E,nm,fi.ntmps⟩ false fi.body=some a/\n<=fi.ntmps/\fi.results=rs:=by
 have⟨fi,b,t⟩:=ζf.1 h;simp only[ζc]at t;exact⟨fi,b,t.1,Nat.le_of_ble_eq_true t.2.1,t.2.2⟩
theorem DL{x:V}(h:x.one=true):x.cells=[x]:=by cases x<;>first|rfl|(simp[V.one]at h)
theorem Sc{call:dw}{f:Zk}{args az:Zu}{H:bp}(h:borrows call.lv H args=some az)(a:∀x∈az,x.closed=true):b8 call f args H=b8 call f az []:=by
 have:borrows call.lv [] az=some az:=by clear h;unfold borrows;induction az with|nil=>rfl|cons x l t=>simp only[gX,d_ call.lv [] (a x Zc),t λy u=>a y (List.mem_cons_of_mem _ u)]
 unfold b8;rw[h,this]
def kept(t:Nat->Zl)(n:Nat):Zv:=(range n).filter λi=>i==0|| !t i
theorem vA(t:Nat->Zl)(n:Nat):kept t (n+1)=kept t n++if n==0|| !t n then[n]else[]:=by unfold kept;rw[List.range_succ,List.filter_append,List.filter_cons];rfl
theorem Av(t:Nat->Zl):∀n,(kept t n).length<=n:=λn=>by unfold kept;exact Nat.le_trans (List.length_filter_le ..) Zc
theorem Io{t:Nat->Zl}{n i:Nat}(h:i∈kept t n):i<n:=by unfold kept at h;exact mem_range.1 (List.mem_filter.1 h).1
theorem Bs{t:Nat->Zl}:∀n,(∀i,0<i->i<n->t i=false)->kept t n=range n
 |0,_=>rfl|n+1,h=>by rw[vA,Bs n λi a B=>h i a Za,List.range_succ];congr 1;cases n with|zero=>rfl|succ n=>rw[h (n+1) Za Za];simp
theorem yV{t:Nat->Zl}{k:Nat}(b:0<k)(a:t k=true):∀n,k<n->(kept t n).length+1<=n
 |0,h=>Za|n+1,h=>by rw[vA];by_cases e:n=k;subst e;have:(n==0|| !t n)=false:=(by simp[a];omega);rw[this];have:=Av t n;simp;omega;have:=yV b a n Za;split<;>simp<;>omega
namespace cmpX
instance{n:Nat}:OfNat Arg n:=⟨.s n⟩
def r1:Zx:=[o1 4 (.k (.bJ)) []]
def r2:Zx:=[o1 8 0 [],o2 9 (.p .lenSl) [8] [],o2 10 (.p (.bin (some .int) none .lss)) [9,.k (.int .i64 2)] []]
def r3:Zx:=[o1 11 0 [],o1 4 11 []]
def r4:Zx:=[o1 5 (.k (.int .i64 1)) []]
def r5:Zx:=[o1 12 5 [],o1 13 0 [],o2 14 (.p .lenSl) [13] [],o2 15 (.p (.bin (some .int) none .lss)) [12,14] []]
def on(d:Nat)(k:K)(az:Z4):RO:=⟨some d,none,true,k,az,[],[]⟩
def r6:Zx:=[o1 18 1 [],o1 19 0 [],o1 20 5 [],o2 21 (.p (.idxS 1)) [19,20] [],o2 22 (.r (.load 1 false)) [21] [],o1 23 0 [],o1 24 5 [],o2 25 (.p (.bin (some .int) none .sub)) [24,.k (.int .i64 1)] [],o2 26 (.p (.idxS 1)) [23,25] [],o2 27 (.r (.load 1 false)) [26] [],on 28 .c [18,22,27]]
def r7:Zx:=[o1 29 0 [],o1 30 5 [],o2 31 (.p (.slice 1 true false)) [29,30] [],o1 6 31 []]
def r8:Zx:=[o1 7 (.k (.int .i64 1)) []]
def r9:Zx:=[o1 32 7 [],o1 33 6 [],o2 34 (.p .lenSl) [33] [],o2 35 (.p (.bin (some .int) none .lss)) [32,34] []]
def CT:Zx:=[o1 38 1 [],o1 39 6 [],o1 40 7 [],o2 41 (.p (.idxS 1)) [39,40] [],o2 42 (.r (.load 1 false)) [41] [],o1 43 6 [],o1 44 7 [],o2 45 (.p (.bin (some .int) none .sub)) [44,.k (.int .i64 1)] [],o2 46 (.p (.idxS 1)) [43,45] [],o2 47 (.r (.load 1 false)) [46] [],on 48 .c [38,42,47],on 49 (.p (.not)) [48]]
def Ei:Zx:=[o1 50 0 [],o1 51 5 [],o1 52 6 [],o1 53 7 [],o2 54 (.p (.idxS 1)) [52,53] [],o2 55 (.r (.load 1 false)) [54] [],o2 56 (.p (.idxS 1)) [50,51] [],⟨none,none,false,.l (.store 1),[56,55],[],[]⟩]
def D_:Zx:=[o1 57 5 [],o2 58 (.p (.bin (some .int) none .add)) [57,.k (.int .i64 1)] [],o1 5 58 []]
def Ef:Zx:=[o1 36 7 [],o2 37 (.p (.bin (some .int) none .add)) [36,.k (.int .i64 1)] [],o1 7 37 []]
def UC:RC:=.seq (.seq (.ops r9) (.cond (.s 35) (.skip) (.exit 2))) (.seq (.block 3 (.seq (.ox CT) (.cond (.s 49) (.seq (.ops Ei) (.ops D_)) (.skip)))) (.ops Ef))
def CL:Zx:=[o1 59 0 [],o1 60 5 [],o2 61 (.p (.slice 1 true false)) [59,60] [],⟨none,none,false,.l (.clear 1 [.bJ]),[61],[],[]⟩]
def DU:Zx:=[o1 62 0 [],o1 63 5 [],o2 64 (.p (.slice 1 false true)) [62,63] [],o1 4 64 []]
def DD:Zx:=[o1 16 5 [],o2 17 (.p (.bin (some .int) none .add)) [16,.k (.int .i64 1)] [],o1 5 17 []]
def OU:RC:=.seq (.seq (.ops r5) (.cond (.s 15) (.skip) (.exit 0))) (.seq (.block 1 (.seq (.ox r6) (.cond (.s 28) (.seq (.ops r7) (.seq (.seq (.ops r8) (.block 2 (.loop UC))) (.seq (.ops CL) (.seq (.ops DU) (.ret))))) (.skip)))) (.ops DD))
def Lj:Zx:=[o1 65 0 [],o1 4 65 []]
def code:RC:=.seq (.ops r1) (.seq (.seq (.ops r2) (.cond (.s 10) (.seq (.ops r3) (.ret)) (.skip))) (.seq (.seq (.ops r4) (.block 0 (.loop OU))) (.seq (.ops Lj) (.ret))))
section
variable{E:Env}{N:Nat->Zk}{F:Zo}{H:bp}{call:dw}{id off L k:Nat}
theorem ld{B:Zt}{el:Nat}{v:V}(h:H[id]?=some (.row 1 B))(a:B[el]?=some [v]):eP H (.load 1 false) [.hptr id el 0]=some v:=by simp[eP,eo,h,Ob.rows,a,cut,mk]
theorem O8{i:Nat}(h:i<L):kU 1 (.hsl id 1 off L) (i:Int)=some (.hptr id (off+i) 0):=by unfold kU;rw[if_neg Za];simp[h]
theorem x2(a:get F 0=.hsl id 1 off L):∃F',(∀call,cD E N call none r2 F H=some (F',H))/\get F' 10=.bool (decide ((L:Int)<2))/\(∀s,s<8->get F' s=get F s):=by refine⟨_,λcall=>vp (v:=.hsl id 1 off L) rfl ?_<|vp (v:=.int .i64 L) rfl ?_<|vp (v:=.bool (decide ((L:Int)<2))) rfl ?_ dX,?_,?_⟩;simp[bF,bz,bn,a];simp[bF,bz,bn,bu,mN];simp[bF,bz,bn,bu,gq,mT];simp[bu];intro s t;simp only[bu,bA];repeat (rw[if_neg Za])
theorem x5(a:get F 0=.hsl id 1 off L)(b:get F 5=.int .i64 k):∃F',(∀call,cD E N call none r5 F H=some (F',H))/\get F' 15=.bool (decide (k<L))/\(∀s,s<8->get F' s=get F s):=by refine⟨_,λcall=>vp (v:=.int .i64 k) rfl ?_<|vp (v:=.hsl id 1 off L) rfl ?_<|vp (v:=.int .i64 L) rfl ?_<|vp (v:=.bool (decide (k<L))) rfl ?_ dX,?_,?_⟩;simp[bF,bz,bn,b];simp[bF,bz,bn,bu,a];simp[bF,bz,bn,bu,mN];simp[bF,bz,bn,bu,gq,mT];simp[bu];intro s t;simp only[bu,bA];repeat (rw[if_neg Za])
theorem RL{g:Zk}{cb:Zu}{B:Zt}{o2 L2 i:Nat}{a b:V}{t:Zl}(h:H[id]?=some (.row 1 B))(G:i+1<L2)(D:i<=2147483648)(J:B[o2+(i+1)]?=some [a])(O:B[o2+i]?=some [b])(d:E.keep g=false)(e:get F 1=.clo g [] cb):
 (get F 0=.hsl id 1 o2 L2->get F 5=.int .i64 ((i+1:Nat):Int)->∃F',(∀call,b8 call g (a::b::cb) H=some (.bool t)->cD E N call (some H.length) r6 F H=some (F',H))/\get F' 28=.bool t/\(∀s,s<8->get F' s=get F s))/\
 (get F 6=.hsl id 1 o2 L2->get F 7=.int .i64 ((i+1:Nat):Int)->∃F',(∀call,b8 call g (a::b::cb) H=some (.bool t)->cD E N call (some H.length) CT F H=some (F',H))/\get F' 49=.bool (!t)/\(∀s,s<8->get F' s=get F s)):=by
 have u:=T4 D;have e1:=ld h J;have e2:=ld h O;have i1:=O8 (id:=id) (off:=o2) (L:=L2) G;have i2:=O8 (id:=id) (off:=o2) (L:=L2) (show i<L2 by omega)
 refine⟨λf j=>⟨_,λcall c=>vp (v:=.clo g [] cb) rfl ?_<|vp (v:=.hsl id 1 o2 L2) rfl ?_<|vp (v:=.int .i64 ((i+1:Nat):Int)) rfl ?_<|vp (v:=.hptr id (o2+(i+1)) 0) rfl ?_<|vp (v:=a) rfl ?_<|vp (v:=.hsl id 1 o2 L2) rfl ?_<|vp (v:=.int .i64 ((i+1:Nat):Int)) rfl ?_<|
  vp (v:=.int .i64 (i:Int)) rfl ?_<|vp (v:=.hptr id (o2+i) 0) rfl ?_<|vp (v:=b) rfl ?_<|vp (v:=.bool t) rfl ?_ dX,?_,?_⟩,λf6 k=>⟨_,λcall c=>vp (v:=.clo g [] cb) rfl ?_<|vp (v:=.hsl id 1 o2 L2) rfl ?_<|vp (v:=.int .i64 ((i+1:Nat):Int)) rfl ?_<|vp (v:=.hptr id (o2+(i+1)) 0) rfl ?_<|vp (v:=a) rfl ?_<|vp (v:=.hsl id 1 o2 L2) rfl ?_<|vp (v:=.int .i64 ((i+1:Nat):Int)) rfl ?_<|
  vp (v:=.int .i64 (i:Int)) rfl ?_<|vp (v:=.hptr id (o2+i) 0) rfl ?_<|vp (v:=b) rfl ?_<|vp (v:=.bool t) rfl ?_<|vp (v:=.bool (!t)) rfl ?_ dX,?_,?_⟩⟩
 .simp[bF,bz,bn,e]
 .simp[bF,bz,bn,bu,f]
 .simp only[bF,map_cons,map_nil,bz,bu,bA,reduceEqDiff,if_true,if_false,j,bn];rfl
 .simp only[bF,map_cons,map_nil,bz,bu,bA,reduceEqDiff,if_true,if_false,bn];rw[i1];rfl
 .simp only[bF,map_cons,map_nil,bz,bu,bA,reduceEqDiff,if_true,if_false,js];rw[e1];rfl
 .simp[bF,bz,bn,bu,f]
 .simp only[bF,map_cons,map_nil,bz,bu,bA,reduceEqDiff,if_true,if_false,j,bn];rfl
 .simp only[bF,map_cons,map_nil,bz,bu,bA,reduceEqDiff,if_true,if_false,bn,gq,u];rfl
 .simp only[bF,map_cons,map_nil,bz,bu,bA,reduceEqDiff,if_true,if_false,bn];rw[i2];rfl
 .simp only[bF,map_cons,map_nil,bz,bu,bA,reduceEqDiff,if_true,if_false,js];rw[e2];rfl
 .simp only[bF,on,map_cons,map_nil,bz,bu,bA,reduceEqDiff,if_true,if_false,js,d,false_eq_true,nil_append,cons_append,c,V.scalar]
 .simp[bu,on]
 .intro s w;simp only[bu,on,bA]
  repeat (rw[if_neg Za])
 .simp[bF,bz,bn,e]
 .simp[bF,bz,bn,bu,f6]
 .simp only[bF,map_cons,map_nil,bz,bu,bA,reduceEqDiff,if_true,if_false,k,bn];rfl
 .simp only[bF,map_cons,map_nil,bz,bu,bA,reduceEqDiff,if_true,if_false,bn];rw[i1];rfl
 .simp only[bF,map_cons,map_nil,bz,bu,bA,reduceEqDiff,if_true,if_false,js];rw[e1];rfl
 .simp[bF,bz,bn,bu,f6]
 .simp only[bF,map_cons,map_nil,bz,bu,bA,reduceEqDiff,if_true,if_false,k,bn];rfl
 .simp only[bF,map_cons,map_nil,bz,bu,bA,reduceEqDiff,if_true,if_false,bn,gq,u];rfl
 .simp only[bF,map_cons,map_nil,bz,bu,bA,reduceEqDiff,if_true,if_false,bn];rw[i2];rfl
 .simp only[bF,map_cons,map_nil,bz,bu,bA,reduceEqDiff,if_true,if_false,js];rw[e2];rfl
 .simp only[bF,on,map_cons,map_nil,bz,bu,bA,reduceEqDiff,if_true,if_false,js,d,false_eq_true,nil_append,cons_append,c,V.scalar]
 .simp[bF,on,bz,bn,bu]
 .simp[bu,on]
 intro s w;simp only[bu,on,bA]
 repeat (rw[if_neg Za])
end
end cmpX
namespace cmpX
section
variable{E:Env}{N:Nat->Zk}{F:Zo}{H:bp}{call:dw}{id off L k:Nat}
theorem x7(a:get F 0=.hsl id 1 off L)(b:get F 5=.int .i64 k)(c:k<=L):∃F',(∀call,cD E N call none r7 F H=some (F',H))/\get F' 6=.hsl id 1 (off+k) (L-k)/\(∀s,s<8->s≠6->get F' s=get F s):=by
 have e:gM 1 (.hsl id 1 off L) (some k) none=some (.hsl id 1 (off+k) (L-k)):=by unfold gM dO;grind
 refine⟨_,λcall=>vp (v:=.hsl id 1 off L) rfl ?_<|vp (v:=.int .i64 k) rfl ?_<|vp (v:=.hsl id 1 (off+k) (L-k)) rfl ?_<|vp (v:=.hsl id 1 (off+k) (L-k)) rfl ?_ dX,?_,?_⟩;simp[bF,bz,bn,a];simp[bF,bz,bn,bu,b];simp[bF,bz,bu,bA,bn,kV,e];simp[bF,bz,bn,bu];simp[bu];simp[bu,bA];grind
theorem x9{o2 L2 m:Nat}(f6:get F 6=.hsl id 1 o2 L2)(a:get F 7=.int .i64 m):∃F',(∀call,cD E N call none r9 F H=some (F',H))/\get F' 35=.bool (decide (m<L2))/\(∀s,s<8->get F' s=get F s):=by refine⟨_,λcall=>vp (v:=.int .i64 m) rfl ?_<|vp (v:=.hsl id 1 o2 L2) rfl ?_<|vp (v:=.int .i64 L2) rfl ?_<|vp (v:=.bool (decide (m<L2))) rfl ?_ dX,?_,?_⟩;simp[bF,bz,bn,a];simp[bF,bz,bn,bu,f6];simp[bF,bz,bn,bu,mN];simp[bF,bz,bn,bu,gq,mT];simp[bu];simp[bu,bA];grind
theorem R1{B:Zt}{o2 L2 m p:Nat}{a z:V}(h:H[id]?=some (.row 1 B))(c:get F 0=.hsl id 1 off L)(d:get F 5=.int .i64 p)(f6:get F 6=.hsl id 1 o2 L2)(e:get F 7=.int .i64 m)(D:m<L2)(f:p<L)
 (G:B[o2+m]?=some [a])(J:B[off+p]?=some [z])(b:a.one=true):
 ∃F',(∀call,cD E N call none Ei F H=some (F',H.set id (.row 1 (B.set (off+p) [a]))))/\(∀s,s<8->get F' s=get F s):=by
 have i1:=O8 (id:=id) (off:=o2) D;have i2:=O8 (id:=id) (off:=off) f;have e1:=ld h G;have t:eV H (.store 1) [.hptr id (off+p) 0,a]=some (.undef,H.set id (.row 1 (B.set (off+p) [a]))):=by simp[eV,h,J,DL b,b]
 refine⟨_,λcall=>vp (v:=.hsl id 1 off L) rfl ?_<|vp (v:=.int .i64 p) rfl ?_<|vp (v:=.hsl id 1 o2 L2) rfl ?_<|vp (v:=.int .i64 m) rfl ?_<|vp (v:=.hptr id (o2+m) 0) rfl ?_<|vp (v:=a) rfl ?_<|vp (v:=.hptr id (off+p) 0) rfl ?_<|jo (v:=.undef) rfl ?_ dX,?_⟩
 .simp[bF,bz,bn,c]
 .simp[bF,bz,bn,bu,d]
 .simp[bF,bz,bn,bu,f6]
 .simp[bF,bz,bn,bu,e]
 .simp[bF,bz,bu,bA,bn];grind
 .simp[bF,bz,bu,bA];grind
 .simp[bF,bz,bu,bA,bn];grind
 .simp[bF,bz,bu,bA];omega
 simp[bu,bA]
 grind
theorem I4{p:Nat}(a:p<=2147483648):(get F 5=.int .i64 p->∃F',(∀call,cD E N call none D_ F H=some (F',H))/\get F' 5=.int .i64 ((p+1:Nat):Int)/\(∀s,s<8->s≠5->get F' s=get F s))/\
 (get F 7=.int .i64 p->∃F',(∀call,cD E N call none Ef F H=some (F',H))/\get F' 7=.int .i64 ((p+1:Nat):Int)/\(∀s,s<8->s≠7->get F' s=get F s))/\
 (get F 5=.int .i64 p->∃F',(∀call,cD E N call none DD F H=some (F',H))/\get F' 5=.int .i64 ((p+1:Nat):Int)/\(∀s,s<8->s≠5->get F' s=get F s)):=by
 have t:=wG a;refine⟨λf=>⟨_,λcall=>vp (v:=.int .i64 p) rfl ?_<|vp (v:=.int .i64 (p+1:Nat)) rfl ?_<|vp (v:=.int .i64 (p+1:Nat)) rfl ?_ dX,?_,?_⟩,
  λf=>⟨_,λcall=>vp (v:=.int .i64 p) rfl ?_<|vp (v:=.int .i64 (p+1:Nat)) rfl ?_<|vp (v:=.int .i64 (p+1:Nat)) rfl ?_ dX,?_,?_⟩,
  λf=>⟨_,λcall=>vp (v:=.int .i64 p) rfl ?_<|vp (v:=.int .i64 (p+1:Nat)) rfl ?_<|vp (v:=.int .i64 (p+1:Nat)) rfl ?_ dX,?_,?_⟩⟩<;>
 first
 |(simp[bF,bz,bn,f];done)|(simp only[bF,map_cons,map_nil,bz,bu,bA,if_true,bn,gq,t];rfl)|grind|(simp[bu];done)|(simp[bu,bA];grind)
theorem Vm{B:Zt}{p:Nat}(h:H[id]?=some (.row 1 B))(a:get F 0=.hsl id 1 off L)(b:get F 5=.int .i64 p)(d:p<L)(D:off+L<=B.length):
 ∃F',(∀call,cD E N call none CL F H=some (F',H.set id (.row 1 (B.take (off+p)++replicate (L-p) [.bJ]++B.drop (off+L)))))/\(∀s,s<8->get F' s=get F s):=by
 have e:gM 1 (.hsl id 1 off L) (some p) none=some (.hsl id 1 (off+p) (L-p)):=by unfold gM dO;grind
 obtain⟨q,c⟩:∃q,L-p=q+1:=⟨L-p-1,Za⟩
 have f:eV H (.clear 1 [.bJ]) [.hsl id 1 (off+p) (L-p)]=some (.undef,H.set id (.row 1 (B.take (off+p)++replicate (L-p) [.bJ]++B.drop (off+L)))):=by simp[eV,BQ,c,h];grind
 refine⟨_,λcall=>vp (v:=.hsl id 1 off L) rfl ?_<|vp (v:=.int .i64 p) rfl ?_<|vp (v:=.hsl id 1 (off+p) (L-p)) rfl ?_<|jo (v:=.undef) rfl ?_ dX,?_⟩
 .simp[bF,bz,bn,a]
 .simp[bF,bz,bn,bu,b]
 .simp[bF,bz,bu,bA,bn,kV,e]
 .simp only[bF,map_cons,map_nil,bz,bu,bA,if_true];omega
 simp[bu,bA]
 grind
theorem Pb{p:Nat}(a:get F 0=.hsl id 1 off L)(b:get F 5=.int .i64 p)(c:p<=L):∃F',(∀call,cD E N call none DU F H=some (F',H))/\get F' 4=.hsl id 1 off p:=by
 have e:gM 1 (.hsl id 1 off L) none (some p)=some (.hsl id 1 off p):=by unfold gM dO;grind
 refine⟨_,λcall=>vp (v:=.hsl id 1 off L) rfl ?_<|vp (v:=.int .i64 p) rfl ?_<|vp (v:=.hsl id 1 off p) rfl ?_<|vp (v:=.hsl id 1 off p) rfl ?_ dX,?_⟩;simp[bF,bz,bn,a];simp[bF,bz,bn,bu,b];simp[bF,bz,bu,bA,bn,kV,e];simp[bF,bz,bn,bu];simp[bu]
theorem Vp:∃F',(∀call,cD E N call none Lj F H=some (F',H))/\get F' 4=get F 0:=⟨_,λcall=>vp (v:=get F 0) rfl (by simp[bF,bz,bn])<|vp (v:=get F 0) rfl (by simp[bF,bz,bn,bu]) dX,by simp[bu]⟩
theorem M0:∃F',(∀call,cD E N call none r3 F H=some (F',H))/\get F' 4=get F 0:=⟨_,λcall=>vp (v:=get F 0) rfl (by simp[bF,bz,bn])<|vp (v:=get F 0) rfl (by simp[bF,bz,bn,bu]) dX,by simp[bu]⟩
end
structure E6(E:Env)(g:FuncId)(cb:List V)(H:bp)(id off L:Nat)(rs:List (List V))(A:Nat->V)(t:Nat->Bool):Prop where
 row:H[id]?=some (.row 1 rs)
 len:off+L<=rs.length
 small:L<=2147483648
 at_:∀i,i<L->rs[off+i]?=some [A i]
 one:∀i,i<L->(A i).one=true
 keep:E.keep g=false
 cmp:∃n,∀k,n<=k->∀i,i+1<L->∀cur,b8 (run E k) g (A (i+1)::A i::cb) (H.set id (.row 1 cur))=some (.bool (t (i+1)))
structure Head(g:FuncId)(cb:List V)(id off L kk m:Nat)(rs:List (List V))(A:Nat->V)(t:Nat->Bool)(F:Frame)(cur:List (List V)):Prop where
 f0:get F 0=.hsl id 1 off L
 f1:get F 1=.clo g [] cb
 f5:get F 5=.int .i64 ((kept t (kk+m)).length:Nat)
 f6:get F 6=.hsl id 1 (off+kk) (L-kk)
 f7:get F 7=.int .i64 m
 len:cur.length=rs.length
 pre:∀p i,(kept t (kk+m))[p]?=some i->cur[off+p]?=some [A i]
 post:∀i,kk+m<=i+1->i<L->cur[off+i]?=some [A i]
 out:∀j,j<off\/off+L<=j->cur[j]?=rs[j]?
 cell:∀i,i<L->∃j,j<L/\cur[off+i]?=some [A j]
section
variable{E:Env}{N:Nat->Zk}{g:Zk}{cb:Zu}{H:bp}{id off L kk:Nat}{rs:Zt}{A:Nat->V}{t:Nat->Zl}
theorem Kb(X:E6 E g cb H id off L rs A t)(M:0<kk)(ah:kk<L)(P:t kk=true):∀(d m:Nat)(F:Zo)(B:Zt),kk+m+d=L->0<m->Head g cb id off L kk m rs A t F B->
 ∃F' D,k7 E N UC F (H.set id (.row 1 B)) (.exit 2) F' (H.set id (.row 1 D))/\Head g cb id off L kk (L-kk) rs A t F' D:=by
 have O:=(ζe.1 X.row).1;have G:∀B,(H.set id (.row 1 B))[id]?=some (.row 1 B):=λB=>getElem?_set_self O
 have ai:=X.small;have af:=X.len;intro d
 induction d with
 |zero=>
  intro m F B R hm h;have em:m=L-kk:=Za
  subst em;obtain⟨F1,e1,e2,e3⟩:=x9 h.f6 h.f7;refine⟨F1,B,k7.stop (Ex.sE (Ex.seq (Ex.cZ e1) (Ex.oA (by simp[bz,e2]) Ex.exit)) Zc) Zc,?_⟩
  exact⟨by rw[e3 0 Za];exact h.f0,by rw[e3 1 Za];exact h.f1,by rw[e3 5 Za];exact h.f5,by rw[e3 6 Za];exact h.f6,by rw[e3 7 Za];exact h.f7,h.len,h.pre,h.post,h.out,h.cell⟩
 |succ d ih=>
  intro m F B R hm h;obtain⟨F1,r,a2,Z⟩:=x9 h.f6 h.f7;have S:bz N F1 35=.bool true:=by show get F1 35=_;rw[a2,decide_eq_true Za]
  obtain⟨m',rfl⟩:∃m',m=m'+1:=⟨m-1,Za⟩
  obtain⟨n0,ab⟩:=X.cmp;have v:B[off+kk+(m'+1)]?=some [A (kk+m'+1)]:=by have:=h.post (kk+m'+1) Za Za;grind
  have c2:B[off+kk+m']?=some [A (kk+m')]:=by have:=h.post (kk+m') Za Za;grind
  obtain⟨F2,b1,c,b3⟩:=(RL (L2:=L-kk) (G B) Za Za v c2 X.keep (by rw[Z 1 Za];exact h.f1)).2 (by rw[Z 6 Za];exact h.f6) (by rw[Z 7 Za];exact h.f7)
  have T:∃n,∀k,n<=k->cD E N (run E k) (some (H.set id (.row 1 B)).length) CT F1 (H.set id (.row 1 B))=some (F2,H.set id (.row 1 B)):=⟨n0,λk hk=>b1 _ (ab k hk (kk+m') Za B)⟩
  have w:=λs x=>(b3 s x).trans (Z s x)
  have ad:(kept t (kk+(m'+1))).length+1<=kk+(m'+1):=yV M P _ Za
  have u:kept t (kk+(m'+1)+1)=kept t (kk+(m'+1))++if t (kk+m'+1)then[]else[kk+m'+1]:=by rw[vA];grind
  have z:kk+(m'+1+1)=kk+(m'+1)+1:=Za
  cases U:t (kk+m'+1)with
  |true=>
   rw[U]at c u;simp at u;obtain⟨y,W,f,Q⟩:=(I4 (p:=m'+1) Za).2.1 (by rw[w 7 Za];exact h.f7)
   obtain⟨F',D,i1,i2⟩:=ih (m'+1+1) y B Za Za ⟨by rw[Q 0 Za Za,w 0 Za];exact h.f0,by rw[Q 1 Za Za,w 1 Za];exact h.f1,
    by rw[Q 5 Za Za,w 5 Za,z,u];exact h.f5,by rw[Q 6 Za Za,w 6 Za];exact h.f6,f,h.len,by rw[z,u];exact h.pre,λi b Y=>h.post i Za Y,h.out,h.cell⟩
   exact⟨F',D,k7.step (Ex.seq (Ex.seq (Ex.cZ r) (Ex.mb S Ex.skip)) (Ex.seq (Ex.block (Ex.seq (Ex.JK (by decide) T) (Ex.oA (by simp[bz,c]) Ex.skip))) (Ex.cZ W))) i1,i2⟩
  |false=>
   rw[U]at c u;generalize l:(kept t (kk+(m'+1))).length=K at *;obtain⟨_,_,hz⟩:=h.cell K Za
   obtain⟨y,W,f⟩:=R1 (G B) (by rw[w 0 Za];exact h.f0) (by rw[w 5 Za,h.f5,l]) (by rw[w 6 Za];exact h.f6) (by rw[w 7 Za];exact h.f7) Za Za v hz (X.one _ Za)
   rw[set_set]at W;generalize I:B.set (off+K) [A (kk+m'+1)]=J at W;have o:∀j,J[j]?=if j=off+K then some [A (kk+m'+1)]else B[j]?:=λj=>by rw[<-I,getElem?_set];by_cases e:off+K=j;rw[if_pos e,if_pos e.symm,if_pos (by rw[h.len];omega)];rw[if_neg e,if_neg (symm e)]
   obtain⟨F4,Q,q4,q5⟩:=(I4 (p:=K) Za).1 (by rw[f 5 Za,w 5 Za,h.f5,l])
   have C:∀s,s<8->s≠5->get F4 s=get F s:=λs b Y=>by rw[q5 s b Y,f s b,w s b]
   obtain⟨F5,q6,q7,q⟩:=(I4 (p:=m'+1) Za).2.1 (by rw[C 7 Za Za];exact h.f7)
   obtain⟨F',D,i1,i2⟩:=ih (m'+1+1) F5 J Za Za ⟨by rw[q 0 Za Za,C 0 Za Za];exact h.f0,by rw[q 1 Za Za,C 1 Za Za];exact h.f1,
    by rw[q 5 Za Za,q4,z,u,ζi,l];rfl,by rw[q 6 Za Za,C 6 Za Za];exact h.f6,q7,by rw[<-I,length_set];exact h.len,
    λp i a=>by rw[z,u]at a;rw[o];by_cases e:p=K;subst e;rw[<-l,getElem?_append_right (le_refl _),Nat.sub_self]at a;cases a;rw[if_pos rfl];have ae:p<(kept t (kk+(m'+1))).length:=(by have:=(ζe.1 a).1;simp at this;omega);rw[getElem?_append_left ae]at a;rw[if_neg Za];exact h.pre p i a,
    λi b Y=>by rw[o,if_neg Za];exact h.post i Za Y,λj hj=>by rw[o,if_neg Za];exact h.out j hj,
    λi hi=>by rw[o];by_cases e:off+i=off+K;rw[if_pos e];exact⟨_,Za,rfl⟩;rw[if_neg e];exact h.cell i hi⟩
   exact⟨F',D,k7.step (Ex.seq (Ex.seq (Ex.cZ r) (Ex.mb S Ex.skip)) (Ex.seq (Ex.block (Ex.seq (Ex.JK (by decide) T) (Ex.mb (by simp[bz,c]) (Ex.seq (Ex.cZ W) (Ex.cZ Q))))) (Ex.cZ q6))) i1,i2⟩
structure MF(off L:Nat)(rs:List (List V))(A:Nat->V)(t:Nat->Bool)(rs':List (List V)):Prop where
 len:rs'.length=rs.length
 pre:∀p i,(kept t L)[p]?=some i->rs'[off+p]?=some [A i]
 all:∀c∈rs',c∈rs\/c=[.bJ]
theorem Jr(X:E6 E g cb H id off L rs A t):∀(d k:Nat)(F:Zo),k+d=L->0<k->(∀i,0<i->i<k->t i=false)->get F 0=.hsl id 1 off L->get F 1=.clo g [] cb->get F 5=.int .i64 k->
 (∃F',k7 E N OU F H (.exit 0) F' H/\get F' 0=.hsl id 1 off L/\∀i,0<i->i<L->t i=false)\/
 (∃F' D,k7 E N OU F H .ret F' (H.set id (.row 1 D))/\get F' 4=.hsl id 1 off (kept t L).length/\MF off L rs A t D):=by
 have Q:=(ζe.1 X.row).1;have S:=ql X.row;have ah:=X.small;have af:=X.len;intro d
 induction d with
 |zero=>
  intro k F he v l b y e;have ek:k=L:=Za
  subst ek;obtain⟨F1,e1,e2,e3⟩:=x5 (N:=N) b e;exact .inl ⟨F1,k7.stop (Ex.sE (Ex.seq (Ex.cZ e1) (Ex.oA (by simp[bz,e2]) Ex.exit)) Zc) Zc,Zd,l⟩
 |succ d ih=>
  intro k F he v l b y e;obtain⟨F1,M,a2,a3⟩:=x5 b e;have U:bz N F1 15=.bool true:=by show get F1 15=_;rw[a2,decide_eq_true Za]
  obtain⟨u,rfl⟩:∃u,k=u+1:=⟨k-1,Za⟩
  obtain⟨n0,ai⟩:=X.cmp;obtain⟨P,b1,f,b3⟩:=(RL (N:=N) (cb:=cb) (g:=g) (i:=u) (L2:=L) (t:=t (u+1)) X.row Za Za (X.at_ _ Za) (X.at_ _ Za) X.keep (by rw[a3 1 Za];omega)).1 Zd Zd
  have W:∃n,∀k,n<=k->cD E N (run E k) (some H.length) r6 F1 H=some (P,H):=⟨n0,λk v=>b1 _ (by
   grind)⟩
  have Y:=λs R=>(b3 s R).trans (a3 s R)
  cases w:t (u+1)with
  |false=>
   rw[w]at f;obtain⟨T,m,o,h⟩:=(I4 (E:=E) (F:=P) (p:=u+1) Za).2.2 Zd
   have z:Ex E N OU F H .norm T H:=Ex.seq (Ex.seq (Ex.cZ M) (Ex.mb U Ex.skip)) (Ex.seq (Ex.block (Ex.seq (Ex.JK (by decide) W) (Ex.oA (by simp[bz,f]) Ex.skip))) (Ex.cZ m))
   rcases ih (u+1+1) T Za Za (λi V Z=>by
    grind) Zd Ze o with⟨F',i1,i2⟩|⟨F',D,i1,i2⟩
   .exact .inl ⟨F',k7.step z i1,i2⟩
   exact .inr ⟨F',D,k7.step z i1,i2⟩
  |true=>
   rw[w]at f;refine .inr ?_;obtain⟨T,m,o,h⟩:=x7 (E:=E) (N:=N) (H:=H) (k:=u+1) (by rw[Y 0 Za];exact b) (by rw[Y 5 Za];exact e) Za
   have G:kept t (u+1)=range (u+1):=Bs _ l;have aa:kept t (u+1+1)=range (u+1):=by rw[vA,G,w];simp
   have q4:∀call,cD E N call none r8 T H=some (set T 7 (.int .i64 1),H):=λcall=>vp rfl (by simp[bF,bz,bn]) dX
   have h0:Head g cb id off L (u+1) 1 rs A t (set T 7 (.int .i64 1)) rs:=⟨by rw[iW _ _ Za,h 0 Za Za,Y 0 Za];exact b,by rw[iW _ _ Za,h 1 Za Za,Y 1 Za];exact y,
    by rw[iW _ _ Za,h 5 Za Za,Y 5 Za,aa,length_range];exact e,by rw[iW _ _ Za];exact o,by rw[rF];rfl,rfl,
    λp i B=>by rw[aa]at B;obtain⟨V,Z⟩:=ζe.1 B;simp at V Z;subst Z;exact X.at_ p Za,λi _ Z=>X.at_ i Z,λ_ _=>rfl,λi hi=>⟨i,hi,X.at_ i hi⟩⟩
   obtain⟨F5,C,l1,I⟩:=Kb (N:=N) X Za Za w (L-(u+1)-1) 1 _ rs Za Za h0
   rw[S]at l1;have eL:u+1+(L-(u+1))=L:=Za
   have ae:=yV (t:=t) (k:=u+1) Za w L Za
   have r:=I.f5;have J:=I.pre;rw[eL]at r J;generalize hK:(kept t L).length=K at *;have ab:(H.set id (.row 1 C))[id]?=some (.row 1 C):=getElem?_set_self Q;obtain⟨F6,w1,w2⟩:=Vm (E:=E) (N:=N) (p:=K) ab I.f0 r Za (by rw[I.len];omega)
   rw[set_set]at w1;obtain⟨F7,w3,w4⟩:=Pb (E:=E) (by rw[w2 0 Za];exact I.f0) (by rw[w2 5 Za];exact r) Za
   have aj:=I.len;refine⟨F7,C.take (off+K)++replicate (L-K) [.bJ]++C.drop (off+L),k7.stop (Ex.seq (Ex.seq (Ex.cZ M) (Ex.mb U Ex.skip)) (Ex.sE (Ex.Li (Ex.seq (Ex.JK (by decide) W) (Ex.mb (by simp[bz,f]) (Ex.seq (Ex.cZ m) (Ex.seq (Ex.seq (Ex.cZ q4) (Ex.tF (Ex.loop l1))) (Ex.seq (Ex.cZ w1) (Ex.seq (Ex.cZ w3) Ex.ret))))))) Zc)) Zc,w4,?_,λp i B=>?_,λc a=>?_⟩
   .simp;omega
   .have ak:p<K:=by rw[<-hK];exact(ζe.1 B).1
    rw[append_assoc,getElem?_append_left (by simp;omega),getElem?_take,if_pos Za]
    exact J p i B
   have ad:∀j x,C[j]?=some x->x∈rs:=λj x O=>by by_cases ho:j<off\/off+L<=j;rw[I.out j ho]at O;exact mem_of_getElem? O;obtain⟨i,rfl⟩:∃i,j=off+i:=⟨j-off,Za⟩;obtain⟨q,hq,a⟩:=I.cell i Za;rw[a]at O;cases O;exact mem_of_getElem? (X.at_ q hq)
   rcases mem_append.1 a with a|a
   .rcases mem_append.1 a with a|a
    .obtain⟨j,O⟩:=getElem?_of_mem (List.mem_of_mem_take a);exact .inl (ad j c O)
    exact .inr (List.eq_of_mem_replicate a)
   obtain⟨j,O⟩:=getElem?_of_mem (List.mem_of_mem_drop a);exact .inl (ad j c O)
end
end cmpX
def yj(E:Env)(g:Zk)(cb:Zu)(a b:V):a_ Zl:=match A9 E g cb a b with|some (.bool c)=>some c|_=>none
theorem SP{E:Env}{g:Zk}{cb:Zu}{a b:V}{c:Zl}(h:yj E g cb a b=some c):∃n,∀k,n<=k->b8 (run E k) g (a::b::cb) []=some (.bool c):=by
 unfold yj at h;split at h;next c' d=>cases h;exact C1 d
 cases h
def kZ(xs:Zt)(i:Nat):V:=iZ ((xs[i]?).getD [])
def wW(E:Env)(es:Nat)(xs:Zt):Zu->a_ Zt
 |[.clo g [] cb]=>if xs.isEmpty then some []else if sZ es xs&& !E.keep g then
  if(range xs.length).all λi=>i==0||(yj E g cb (kZ xs i) (kZ xs (i-1))).isSome then
   some ((kept (λi=>(yj E g cb (kZ xs i) (kZ xs (i-1))).getD false) xs.length).map λi=>(xs[i]?).getD [])
  else none
  else none
 |_=>none
def rA(E:Env):BM:=⟨true,wW E⟩
namespace cmpX
section
variable{E:Env}{N:Nat->Zk}{g:Zk}{cb:Zu}{H:bp}{id off L:Nat}{rs:Zt}{A:Nat->V}{t:Nat->Zl}
theorem whole(X:E6 E g cb H id off L rs A t):∃F' B,Ex E N code [.hsl id 1 off L,.clo g [] cb] H .ret F' (H.set id (.row 1 B))/\get F' 4=.hsl id 1 off (kept t L).length/\MF off L rs A t B:=by
 have u:H.set id (.row 1 rs)=H:=ql X.row;have same:(∀i,0<i->i<L->t i=false)->(kept t L).length=L/\MF off L rs A t rs:=λh=>by have d:=Bs L h;rw[d,length_range];exact⟨rfl,rfl,λp i e=>by rw[d]at e;have⟨a,w⟩:=ζe.1 e;simp at a w;subst w;exact X.at_ p a,λc b=>.inl b⟩
 have g1:∀call,cD E N call none r1 [.hsl id 1 off L,.clo g [] cb] H=some (set [.hsl id 1 off L,.clo g [] cb] 4 .bJ,H):=λcall=>vp (v:=.bJ) rfl (by simp[bF,bz,bn]) dX;have k0:get (set [V.hsl id 1 off L,.clo g [] cb] 4 .bJ) 0=.hsl id 1 off L:=rfl;have T:get (set [V.hsl id 1 off L,.clo g [] cb] 4 .bJ) 1=.clo g [] cb:=rfl;generalize set [V.hsl id 1 off L,.clo g [] cb] 4 .bJ=U at *;have⟨F1,Q,S,z⟩:=x2 (E:=E) (N:=N) (H:=H) k0;by_cases W:L<2;have⟨C,D,G⟩:=M0 (E:=E) (N:=N) (F:=F1) (H:=H);have⟨e1,e2⟩:=same λi a w=>by omega
 refine⟨C,rs,?_,by rw[e1,G,z 0 Za];exact k0,e2⟩;rw[u];exact Ex.seq (Ex.cZ g1) (Ex.sE (Ex.seq (Ex.cZ Q) (Ex.mb (by show get F1 10=_;rw[S,decide_eq_true Za]) (Ex.seq (Ex.cZ D) Ex.ret))) Zc);have g4:∀call,cD E N call none r4 F1 H=some (set F1 5 (.int .i64 1),H):=λcall=>vp (v:=.int .i64 1) rfl (by simp[bF,bz,bn]) dX;have b:Ex E N (.seq (.ops r2) (.cond (.s 10) (.seq (.ops r3) (.ret)) (.skip))) U H .norm F1 H:=Ex.seq (Ex.cZ Q) (Ex.oA (by show get F1 10=_;rw[S,decide_eq_false Za]) Ex.skip);rcases Jr (N:=N) X (L-1) 1 (set F1 5 (.int .i64 1)) Za Za (λi a w=>Za) (by rw[iW _ _ Za,z 0 Za];exact k0) (by rw[iW _ _ Za,z 1 Za];exact T) (by rw[rF];rfl)with⟨F',I,J,O⟩|⟨F',B,I,J,O⟩;have⟨C,D,G⟩:=Vp (E:=E) (N:=N) (F:=F') (H:=H);have⟨e1,e2⟩:=same O;refine⟨C,rs,?_,by rw[e1,G];exact J,e2⟩;rw[u];exact Ex.seq (Ex.cZ g1) (Ex.seq b (Ex.seq (Ex.seq (Ex.cZ g4) (Ex.tF (Ex.loop I))) (Ex.seq (Ex.cZ D) Ex.ret)));exact⟨F',B,Ex.seq (Ex.cZ g1) (Ex.seq b (Ex.sE (Ex.seq (Ex.cZ g4) (Ex.Li (Ex.loop I))) Zc)),J,O⟩
theorem empty{w:V}(c:V)(B:w=.bJ\/w=.dG):∃F',Ex E N code [w,c] H .ret F' H/\get F' 4=w:=by
 have g1:∀call,cD E N call none r1 [w,c] H=some (set [w,c] 4 .bJ,H):=λcall=>vp (v:=.bJ) rfl (by simp[bF,bz,bn]) dX;have k0:get (set [w,c] 4 .bJ) 0=w:=rfl;generalize set [w,c] 4 .bJ=u at *;have z:mN w=some (.int .i64 0):=by rcases B with rfl|rfl<;>rfl
 have t:∃F1,(∀call,cD E N call none r2 u H=some (F1,H))/\get F1 10=.bool true/\get F1 0=w:=by refine⟨_,λcall=>vp (v:=w) rfl ?_<|vp (v:=.int .i64 0) rfl ?_<|vp (v:=.bool true) rfl ?_ dX,?_,?_⟩;simp[bF,bz,bn,k0];simp[bF,bz,bn,bu,z];simp[bF,bz,bn,bu,gq,mT];simp[bu];simp[bu,k0]
 have⟨F1,t,C,D⟩:=t;have⟨G,I,J⟩:=M0 (E:=E) (N:=N) (F:=F1) (H:=H);exact⟨G,Ex.seq (Ex.cZ g1) (Ex.sE (Ex.seq (Ex.cZ t) (Ex.mb C (Ex.seq (Ex.cZ I) Ex.ret))) Zc),by rw[J,D]⟩
end
end cmpX
theorem MY{E:Env}{f:Zk}{nm:Zk->a_ Nat}{N:Nat->Zk}(hN:∀f s,nm f=some s->N s=f)(d:E.keep f=true)(ho:E.own f=false)
 (hf:∃fi,E.ft f=some fi/\bQ ⟨E,nm,fi.ntmps⟩ false fi.body=some cmpX.code/\2<=fi.ntmps/\fi.results=[.tmp 4]):mw E f (rA E):=by
 have⟨fi,h1,h2,h3,h4⟩:=hf;have D:∀{w c:V}{H H':bp}{F':Zo}{r:V},Ex E N cmpX.code [w,c] H .ret F' H'->get F' 4=r->∃n,∀k,n<=k->run E k (.fn f) [w,c] H=some (r,H'):=λ{w c H H' F' r}R hr=>by have⟨n,G⟩:=Ex.run hN h1 h2 (args:=[w,c]) (by simpa using h3) R (vs:=[r]) (by rw[h4];simp[gG,hr]);exact⟨n,λk d=>(l8 E d).go _ _ _ _ G⟩
 refine⟨d,ho,?_,?_,?_⟩
 .intro es t vs ys h;simp only[rA,wW]at h;refine⟨?_,λe=>by simp[rA]at e⟩
  split at h
  .split at h
   .cases h;simp
   split at h
   .split at h
    .cases h;simpa using Av _ _
    cases h
   cases h
  cases h
 .intro es vs ys h H Z ws w hw he;simp only[rA,wW]at h;split at h
  .obtain⟨q,r,rfl,q1,K⟩:=hw.inv;rw[K.cU];have⟨F',e1,e2⟩:=cmpX.empty (E:=E) (N:=N) (H:=H) q he;have⟨n,G⟩:=D e1 e2;exact⟨n,[],λk d=>by rw[append_nil];exact G k d⟩
  cases h
 intro es t vs ys h H Z ws id off rs hw S T ae J hz;simp only[rA,wW]at h;split at h
 .rename_i g cb;obtain⟨q,r,rfl,q1,K⟩:=hw.inv;rw[K.cU];obtain⟨a',z,rfl,ha,af⟩:∃a' z,q=.clo g a' z/\di H Z [] a'/\di H Z cb z:=q1.jI;rw[ha.cU]at *;split at h
  .rename_i he;cases h;have:t=[]:=by simpa using he
   subst this;have e2:∃F',Ex E N cmpX.code [.hsl id es off 0,.clo g [] z] H .ret F' H/\get F' 4=.hsl id es off 0:=by have g1:∀call,cD E N call none cmpX.r1 [.hsl id es off 0,.clo g [] z] H=some (set [.hsl id es off 0,.clo g [] z] 4 .bJ,H):=λcall=>vp (v:=.bJ) rfl (by simp[bF,bz,bn]) dX;have k0:get (set [V.hsl id es off 0,.clo g [] z] 4 .bJ) 0=.hsl id es off 0:=rfl;generalize set [V.hsl id es off 0,.clo g [] z] 4 .bJ=F0 at *;have P:∃F1,(∀call,cD E N call none cmpX.r2 F0 H=some (F1,H))/\get F1 10=.bool true/\get F1 0=.hsl id es off 0:=(by refine⟨_,λcall=>vp (v:=.hsl id es off 0) rfl ?_<|vp (v:=.int .i64 0) rfl ?_<|vp (v:=.bool true) rfl ?_ dX,?_,?_⟩;simp[bF,bz,bn,k0];simp[bF,bz,bn,bu,mN];simp[bF,bz,bn,bu,gq,mT];simp[bu];simp[bu,k0]);have⟨F1,P,a2,a3⟩:=P;have⟨F2,b1,b2⟩:=cmpX.M0 (E:=E) (N:=N) (F:=F1) (H:=H);exact⟨F2,Ex.seq (Ex.cZ g1) (Ex.sE (Ex.seq (Ex.cZ P) (Ex.mb a2 (Ex.seq (Ex.cZ b1) Ex.ret))) Zc),by rw[b2,a3]⟩
   have⟨F',e1,e3⟩:=e2;have⟨n,G⟩:=D e1 e3;refine⟨n,rs,[],λk d=>?_,rfl,⟨rfl,λj u v l=>by simp at l⟩,J⟩
   rw[append_nil,ql S];exact G k d
  rename_i al;split at h
  .rename_i L;simp only[ζh,Bool.not_eq_true']at L;have⟨c1,c3⟩:=L;obtain⟨rfl,U,W⟩:=xm c1;split at h
   .rename_i Y;cases h;have O:∀i,i<t.length->∃a,rs[off+i]?=some [a]/\FR H Z (kZ t i) a/\a.one=true:=λi B=>by
     have⟨e,p2⟩:=W i t[i] (ζd B);have Q:off+i<rs.length:=Za
     have:=ae.2 i t[i] rs[off+i] (ζd B) (by rw[getElem?_take,if_pos B,getElem?_drop,ζd Q])
     rw[e]at this;have⟨y,ys,e2,r1,r2⟩:=this.inv;rw[r2.cU]at e2;have e3:kZ t i=iZ t[i]:=by unfold kZ;rw[ζd B];rfl
     exact⟨y,by rw[ζd Q,e2],by rw[e3];exact r1,by rw[r1.one];exact p2⟩
    let A:Nat->V:=λi=>match rs[off+i]?with|some (a::_)=>a|_=>.undef
    have m:∀i,i<t.length->rs[off+i]?=some [A i]/\FR H Z (kZ t i) (A i)/\(A i).one=true:=λi B=>by have⟨a,p1,p2,p4⟩:=O i B;have:A i=a:=(by show(match rs[off+i]?with|some (a::_)=>a|_=>V.undef)=a;rw[p1]);rw[this];exact⟨p1,p2,p4⟩
    have aa:∀i,i+1<t.length->∃b,yj E g cb (kZ t (i+1)) (kZ t i)=some b:=λi B=>by have:=all_eq_true.1 Y (i+1) (mem_range.2 B);simp only[Nat.add_sub_cancel,Bool.or_eq_true]at this;rcases this with h|h;simp at h;exact Option.isSome_iff_exists.1 h
    have X:cmpX.E6 E g z H id off t.length rs A (λi=>(yj E g cb (kZ t i) (kZ t (i-1))).getD false):=by refine⟨S,T,U,λi B=>(m i B).1,λi B=>(m i B).2.2,c3,?_⟩;have⟨M,hM⟩:=DB (n:=t.length-1) (p:=λi k=>b8 (run E k) g (kZ t (i.1+1)::kZ t i.1::cb) []=some (.bool ((yj E g cb (kZ t (i.1+1)) (kZ t i.1)).getD false))) (λi=>by have⟨b,Q⟩:=aa i.1 (by have:=i.2;omega);have⟨n,G⟩:=SP Q;exact⟨n,λk d=>by rw[G k d,Q];rfl⟩);have⟨L1,ah⟩:=k_ ((range t.length).map (kZ t));have⟨L2,ai⟩:=k_ cb;have ab:∀i k,i<t.length->L1<=k->(kZ t i).lvl k=true:=λi k B d=>wS d (lI.1 ah i _ (by simp[B]));refine⟨max M (max L1 L2),λk d i B ad=>?_⟩;have C:∀j,Z j->Z j/\br (H.set id (.row 1 ad)) j=br H j:=λj o=>⟨o,by unfold br;rw[getElem?_set_ne];rintro rfl;exact hz o⟩;have hl:di (H.set id (.row 1 ad)) Z (kZ t (i+1)::kZ t i::cb) (A (i+1)::A i::z):=.cons ((m _ B).2.1.mono C) (.cons ((m i Za).2.1.mono C) (af.mono C));have Q:=hl.IE (k:=k) (by simp only[V.kC,ab _ k B Za,ab i k Za Za,nW (by omega:L2<=k) ai,Bool.and_self]);rw[Sc (by rw[mV];exact Q) (λx R=>?_)];exact hM ⟨i,Za⟩ k Za;have⟨j,o⟩:=getElem?_of_mem R;have⟨y,hy,hr⟩:=hl.get o;exact V.j8 hr.good
    have⟨F',aj,e1,e2,e3⟩:=cmpX.whole (N:=N) X;have⟨n,G⟩:=D e1 e2;refine⟨n,aj,[],λk d=>?_,e3.len,?_,?_⟩
    .simp only[rA,if_true,length_map,append_nil];exact G k d
    .refine⟨by simp[e3.len];have:=Av (λi=>(yj E g cb (kZ t i) (kZ t (i-1))).getD false) t.length;omega,λp a b hp hq=>?_⟩
     rw[getElem?_map]at hp;obtain⟨i,B,rfl⟩:=ζf.1 hp;have I:=Io (mem_of_getElem? B);have ak:=(ζe.1 B).1;rw[getElem?_take,if_pos (by simpa using ak),getElem?_drop,e3.pre p i B]at hq
     cases hq;rw[ζd I,getD_some];have e4:=(W i t[i] (ζd I)).1;have e5:kZ t i=iZ t[i]:=by unfold kZ;rw[ζd I];rfl
     rw[e4,<-e5];exact .cons (m i I).2.1 .nil
    intro c hc u l;rcases e3.all c hc with h|rfl
    .exact J c h u l
    simp at l;subst l;exact⟨.bJ,.same _ rfl⟩
   cases h
  cases h
 cases h
def Sl.re{α:Type}(s:Sl α)(l:aZ α):Sl α:=match s with|.nil=>.nil|.emp=>.emp|.row _=>.row l|.part _=>.part l
def Sl.rQ{α:Type}(s:Sl α)(l:aZ α):Sl α:=match s with|.nil=>.nil|.emp=>.emp|.row _|.part _=>.part l
def xX{α:Type}(s:Sl α)(p:α->α->Z6):a_ (Sl α):=
 match s.l with
 |[]=>some s|x::l=>if l.length<2147483648 then
  let t:_root_.Fin (l.length+1)->_root_.Fin (l.length+1)->Z6:=λi j=>p (x::l)[i.1] (x::l)[j.1]
  if zU t then some (s.re ((pg l.length (oC t)).toList.map λi=>(x::l)[i.1]))else none
  else none
def rY{α:Type}(l:aZ α)(p:α->α->a_ Zl)(i:Nat):a_ Zl:=match l[i]?,l[i-1]?with|some a,some b=>p a b|_,_=>none
def wA{α:Type}(s:Sl α)(p:α->α->a_ Zl):a_ (Sl α):=
 if s.l.length<=2147483648/\((range s.l.length).all λi=>i==0||(rY s.l p i).isSome)=true then
  some (s.rQ ((kept (λi=>(rY s.l p i).getD false) s.l.length).filterMap (s.l[·]?)))
 else none
section
variable{S:Sys}{T:oR}{β γ δ α:Type}{Q:Out×St->a_ β}{e:γ->a_ β}{cf:Cf}
theorem kG.Mr(B:qj S T)(D:∀f a b xs,S.items f a b=some xs->fu S f a b xs){fn:Zk}{A:δ->Zu}{E:α->Zu}{p:δ->a_ α}{sc:Zl}(F:kG S (c7 S T) fn A E p sc){z:δ}{r:α}(h:p z=some r)(d:V.cE (A z)=true):
 ∃n,b8 (run S.E n) fn (A z) []=some (result (E r)):=by
 have e:=F.h z (E r) Ze
 have⟨⟨rs,m'⟩,t,u⟩:=ζg.1 e;have⟨n,y,H2,e1,e2,e3⟩:=Bw (vY B D) d t u;refine⟨n,?_⟩;have w:borrows n [] (A z)=some (A z):=by have c:=V.mS d;generalize A z=l at c;unfold borrows;induction l with|nil=>rfl|cons x l C=>simp[V.kr]at c;simp[gX,d_ n [] c.1,C c.2]
 unfold b8;rw[mV,w];simp[e1 n (le_refl _),e2 n (le_refl _),V.j8 e3]
section
variable[bB α]
theorem Cd(b:bB.size α=1){l:aZ α}(B:l.length<=2147483648):sZ (bB.size α) (rows l)=true:=by unfold sZ;simp;refine⟨⟨b,λx t=>?_⟩,by simpa[rows]using B⟩;obtain⟨a,_,rfl⟩:=mem_map.1 t;exact⟨by rw[fH,b],all_eq_true.1 (bB.one a)⟩
theorem Eh(b:bB.agg α=false)(a:α):iZ (cells a)=enc a:=by unfold enc;rw[if_neg Zd];rfl
theorem A3(l:aZ α)(i:Nat)(h:i<l.length):(rows l)[i]?=some (cells l[i]):=by unfold rows;grind
theorem Ra(O:qj S T)(U:∀f a b xs,S.items f a b=some xs->fu S f a b xs){g:Zk}{p:α->α->Z6}(F:kG S (c7 S T) g (λz:α×α=>[enc z.1,enc z.2]) (λr:Int=>[.int .i64 r]) (λz=>p z.1 z.2) true)
 (c:bB.size α=1)(W:bB.agg α=false){s B:Sl α}(h:xX s p=some B):zC S.E (bB.size α) (rows s.l) [.clo g [] []]=some (rows B.l)/\B.k=s.k:=by
 unfold xX at h;split at h
 next w=>cases h;rw[w];exact⟨rfl,rfl⟩
 rename_i x l w;split at h
 .dsimp only at h;split at h
  .rename_i G;cases h;rw[w];have⟨t,I⟩:=pO G;have C:=Cd c (l:=x::l) Zd
   have key:∀m,m=l.length->(if zU (λi j:_root_.Fin (m+1)=>rD S.E g [] (iZ (((rows (x::l))[i.1]?).getD [])) (iZ (((rows (x::l))[j.1]?).getD [])))then
    some ((pg m (oC (λi j:_root_.Fin (m+1)=>rD S.E g [] (iZ (((rows (x::l))[i.1]?).getD [])) (iZ (((rows (x::l))[j.1]?).getD []))))).toList.map λi=>((rows (x::l))[i.1]?).getD [])else none)=
    some (rows ((pg l.length (oC λi j:_root_.Fin (l.length+1)=>p (x::l)[i.1] (x::l)[j.1])).toList.map λi=>(x::l)[i.1])):=by
    rintro m rfl;have e1:∀i:_root_.Fin (l.length+1),iZ (((rows (x::l))[i.1]?).getD [])=enc (x::l)[i.1]:=λi=>by rw[A3 (x::l) i.1 i.2,getD_some,Eh W]
    have e2:(λi j:_root_.Fin (l.length+1)=>rD S.E g [] (iZ (((rows (x::l))[i.1]?).getD [])) (iZ (((rows (x::l))[j.1]?).getD [])))=λi j=>p (x::l)[i.1] (x::l)[j.1]:=by funext i j;have⟨z,J⟩:=t i j;rw[e1 i,e1 j,J];have⟨n,L⟩:=F.Mr O U (z:=((x::l)[i.1],(x::l)[j.1])) J (by simp[V.cE,jw]);unfold rD;rw[IZ L];rfl
    rw[e2,if_pos G]
    congr 1
    unfold rows;rw[List.map_map];refine List.map_congr_left λi _=>?_
    grind
   have u:(s.re ((pg l.length (oC λi j:_root_.Fin (l.length+1)=>p (x::l)[i.1] (x::l)[j.1])).toList.map λi=>(x::l)[i.1])).l=(pg l.length (oC λi j:_root_.Fin (l.length+1)=>p (x::l)[i.1] (x::l)[j.1])).toList.map (λi=>(x::l)[i.1])/\(s.re ((pg l.length (oC λi j:_root_.Fin (l.length+1)=>p (x::l)[i.1] (x::l)[j.1])).toList.map λi=>(x::l)[i.1])).k=s.k:=by cases s<;>simp[Sl.l]at w<;>exact⟨rfl,rfl⟩
   refine⟨?_,u.2⟩;rw[u.1,<-key (rows l).length (ga l)];have d:(sZ (bB.size α) (rows (x::l))&& !S.E.keep g)=true:=by rw[C,F.k];rfl
   have D:=d;exact(if_pos D).trans rfl
  simp_all
 simp_all
theorem Px(W:qj S T)(Y:∀f a b xs,S.items f a b=some xs->fu S f a b xs){g:Zk}{p:α->α->a_ Zl}(F:kG S (c7 S T) g (λz:α×α=>[enc z.1,enc z.2]) (λr:Zl=>[.bool r]) (λz=>p z.1 z.2) true)
 (d:bB.size α=1)(e:bB.agg α=false){s D:Sl α}(h:wA s p=some D):wW S.E (bB.size α) (rows s.l) [.clo g [] []]=some (rows D.l)/\D=s.rQ D.l:=by
 have Q:∀l:aZ α,(s.rQ l)=s.rQ (s.rQ l).l:=λl=>by cases s<;>rfl
 refine⟨?_,by
  unfold wA at h;grind⟩
 unfold wA at h;split at h
 .rename_i hc;cases h;have⟨X,u⟩:=hc;have I:=Cd d X;simp only[wW]
  by_cases J:s.l=[]
  .have:(s.rQ ((kept (λi=>(rY s.l p i).getD false) s.l.length).filterMap (s.l[·]?))).l=[]:=by
    cases s<;>simp[Sl.l]at J<;>simp[Sl.rQ,Sl.l,J,kept]
   rw[this,J];rfl
  have L:(rows s.l).isEmpty=false:=by cases m:s.l with|nil=>grind|cons a l=>rfl
  rw[L,if_neg Zc,I,F.k,if_pos (by rfl),ga]
  have e1:∀i,0<i->i<s.l.length->∃b,rY s.l p i=some b/\yj S.E g [] (kZ (rows s.l) i) (kZ (rows s.l) (i-1))=some b:=λi k t=>by have:=all_eq_true.1 u i (mem_range.2 t);simp at this;have⟨b,C⟩:=Option.isSome_iff_exists.1 (this.resolve_left Za);refine⟨b,C,?_⟩;have w:i-1<s.l.length:=Za;unfold rY at C;rw[ζd t,ζd w]at C;have U:∀j(G:j<s.l.length),kZ (rows s.l) j=enc s.l[j]:=λj G=>(by unfold kZ;rw[A3 _ _ G,getD_some,Eh e]);rw[U i t,U (i-1) w];have⟨n,Z⟩:=F.Mr W Y (z:=(s.l[i],s.l[i-1])) C (by simp only[V.cE,jw,Bool.and_self]);unfold yj;rw[IZ Z];rfl
  have e2:((range s.l.length).all λi=>i==0||(yj S.E g [] (kZ (rows s.l) i) (kZ (rows s.l) (i-1))).isSome)=true:=by grind
  rw[if_pos e2];have e3:kept (λi=>(yj S.E g [] (kZ (rows s.l) i) (kZ (rows s.l) (i-1))).getD false) s.l.length=kept (λi=>(rY s.l p i).getD false) s.l.length:=by refine List.filter_congr λi t=>?_;by_cases k:i=0;grind;have⟨b,o,q⟩:=e1 i Za (mem_range.1 t);simp_all
  rw[e3];have e4:(s.rQ ((kept (λi=>(rY s.l p i).getD false) s.l.length).filterMap (s.l[·]?))).l=(kept (λi=>(rY s.l p i).getD false) s.l.length).filterMap (s.l[·]?):=by cases s<;>first|rfl|grind
  rw[e4]
  congr 1
  generalize c:kept (λi=>(rY s.l p i).getD false) s.l.length=O
  have B:∀i∈O,i<s.l.length:=λi t=>Io (c▸t)
  clear c e3 e4
  induction O with
  |nil=>rfl|cons i O ih=>
   have t:=B i Zc
   rw[map_cons,ih λj G=>B j (List.mem_cons_of_mem _ G),A3 _ _ t,List.filterMap_cons,ζd t]
   rfl
 simp_all
theorem OF{s B:Sl α}{p:α->α->Z6}(h:xX s p=some B)(a:cG s.k=false):B=s:=by cases s<;>simp[Sl.k,cG]at a<;>simpa[xX,Sl.l]using h.symm
theorem TA(n d:Nat)(D:qj S T)(G:∀f a b xs,S.items f a b=some xs->fu S f a b xs){fn g:Zk}(c:S.prm fn=some (rH S.E)){p:α->α->Z6}
 (F:kG S (c7 S T) g (λz:α×α=>[enc z.1,enc z.2]) (λr:Int=>[.int .i64 r]) (λz=>p z.1 z.2) true){s:Sl α}{f:Sl α->a_ γ}
 (h:∀B,xX s p=some B->Le ((f B).bind e) (cr S (c7 S T) Q (nx S (c7 S T) n cf λq=>dh {q.st with m:=bR q.st.m d (cB B)} q.d (.v .undef))))
 (j:bB.size α=1:=by rfl)(J:bB.agg α=false:=by rfl)
 (O:(gW S (c7 S T) n cf).map (λq=>(q.k,bZ S.N q.st.g q.az,bl q.st.m d,q.dr))=some (.c,some [.v (.clo fn [] []),.own d,.v (.clo g [] [])],some (cB s),false):=by kernel_rfl):Le (((xX s p).bind f).bind e) (cr S (c7 S T) Q cf):=by
 have⟨q,k,i⟩:=fU O;simp at i;have⟨w,C,I,L⟩:=i;refine rM k ?_ h;rw[w,L];intro y u;have⟨B,t,u⟩:=ζg.1 u;have⟨e1,e2⟩:=Ra D G F j J t;have l:=(D.prm fn _ c).keep;have U:=(D.prm fn _ c).own;rw[zW false _ _ _ _ _ _ fn [.own d,.v (.clo g [] [])] C rfl];have v:fF S (c7 S T) q.d false (!false||q.now) (fS q.st.m q.fr) fn [.own d,.v (.clo g [] [])] q.st=some (.v .undef,{q.st with m:=bR q.st.m d (cB B)}):=by unfold fF;simp[l,U,c,zI,I,cB,dy];have e3:=e1;simp[rH];cases o:cG s.k with|true=>grind|false=>have:=OF t o;grind
 grind
theorem TM(n d t:Nat)(D:qj S T)(G:∀f a b xs,S.items f a b=some xs->fu S f a b xs){fn g:Zk}(c:S.prm fn=some (rA S.E)){p:α->α->a_ Zl}
 (F:kG S (c7 S T) g (λz:α×α=>[enc z.1,enc z.2]) (λr:Zl=>[.bool r]) (λz=>p z.1 z.2) true){s:Sl α}{f:Sl α->a_ γ}
 (h:∀B,wA s p=some B->Le ((f B).bind e) (cr S (c7 S T) Q (nx S (c7 S T) n cf λq=>{q.st with g:=bR q.st.g t (.own t),m:=bR (dZ d q.st.m) t (cB B)})))
 (j:bB.size α=1:=by rfl)(J:bB.agg α=false:=by rfl)
 (O:(gW S (c7 S T) n cf).map (λq=>(q.k,bZ S.N q.st.g q.az,bl q.st.m d,q.dr,q.d,St.new {q.st with m:=dZ d q.st.m} t))=some (.c,some [.v (.clo fn [] []),.own d,.v (.clo g [] [])],some (cB s),false,some t,true):=by kernel_rfl):Le (((wA s p).bind f).bind e) (cr S (c7 S T) Q cf):=by
 have⟨q,k,i⟩:=fU O;simp at i;have⟨C,I,L,U,W,X⟩:=i;refine rM k ?_ h;rw[C,U,W];intro y u;have⟨B,w,u⟩:=ζg.1 u;cases u;have⟨e1,e2⟩:=Px D G F j J w;have l:=(D.prm fn _ c).keep;have Y:=(D.prm fn _ c).own;rw[zW false _ _ _ _ _ _ fn [.own d,.v (.clo g [] [])] I rfl];have o:fF S (c7 S T) (some t) false (!false||q.now) (fS q.st.m q.fr) fn [.own d,.v (.clo g [] [])] q.st=some (.own t,{q.st with m:=bR (dZ d q.st.m) t (cB B)}):=by unfold fF;simp[l,Y,c,zI,L,cB,dy];have e3:(rA S.E).go (bB.size α) (rows s.l) [.clo g [] []]=some (rows B.l):=e1;rw[e3];simp[rA,X];have e4:(if cG s.k=true then bK.sl .part (bB.size α) (rows B.l)else .sl s.k (bB.size α) (rows s.l))=.sl B.k (bB.size α) (rows B.l):=(by rw[e2];cases s<;>rfl);rw[e4]
 rw[o];rfl
end
end
section
variable{H H':bp}{w:V}{o:Nat}{ids:Zv}{rows:Zt}
theorem lG.cell(n:lG H w o ids rows){p j:Nat}{r:Zu}{u:V}(a:rows[p]?=some r)(c:r[j]?=some u):
 ∃id,ids[p]?=some id/\kU 1 w (p:Int)=some (.hptr o p 0)/\eP H (.load 1 false) [.hptr o p 0]=some (.hsl id 1 0 r.length)/\kU 1 (.hsl id 1 0 r.length) (j:Int)=some (.hptr id j 0)/\eP H (.load 1 false) [.hptr id j 0]=some u:=by
 have d:=(ζe.1 a).1;have C:=(ζe.1 c).1;have z:rows≠[]:=by intro e;subst e;simp at a
 have B:p<ids.length:=by rw[n.len];exact d
 have t:=ζd B;refine⟨ids[p],t,?_,?_,?_,?_⟩
 .have:=n.v;rw[if_neg z]at this;subst this;simp[kU,d]
 .have b:=n.ob z;have D:=Bf t a;simp[eP,eo,b,Ob.rows,D,cut];rfl
 .simp[kU,C]
 have b:=n.r p _ r t a;simp[eP,eo,b,Ob.rows,iT,c,cut];rfl
theorem Lw{ids:Zv}(h:ids.Nodup){i j:Nat}{a:Nat}(B:ids[i]?=some a)(D:ids[j]?=some a):i=j:=by have b:=(ζe.1 B);have t:=(ζe.1 D);have⟨b,e1⟩:=b;have⟨t,e2⟩:=t;exact(List.getElem_inj h).1 (e1.trans e2.symm)
theorem lG.set(n:lG H w o ids rows){p j id:Nat}{r:Zu}{u:V}(a:rows[p]?=some r)(O:j<r.length)(B:ids[p]?=some id)(c:V.one u=true)(d:u.cells=[u]):
 ∃H',eV H (.store 1) [.hptr id j 0,u]=some (.undef,H')/\lG H' w o ids (rows.set p (r.set j u))/\H'.length=H.length/\(∀i,i≠id->H'[i]?=H[i]?):=by
 have f:=(ζe.1 a).1;have t:rows≠[]:=by intro e;subst e;simp at a
 have b:=n.r p id r B a;have L:id<H.length:=(ζe.1 b).1;have D:(iT r).set j [u]=iT (r.set j u):=by simp[iT,map_set]
 have G:o≠id:=λe=>n.ne t (e▸mem_of_getElem? B)
 refine⟨H.set id (.row 1 (iT (r.set j u))),?_,⟨?_,λ_=>?_,by simp[n.len],λi I Q C z=>?_,n.nd,λ_=>n.ne t⟩,Zc,λi C=>getElem?_set_ne (symm C)⟩
 .have S:(iT r)[j]?=some [r[j]]:=by simp[iT,O]
  simp only[eV,b,S,d,length_singleton,zero_add,le_refl,all_cons,c,List.all_nil,Bool.and_self,and_self,if_true,List.take_zero,nil_append];rw[<-D];simp
 .rw[n.v];have:rows.set p (r.set j u)≠[]:=by intro e;apply t;simpa using e
  rw[if_neg t,if_neg this,length_set]
 .rw[getElem?_set_ne (symm G),GW a Zc];exact n.ob t
 by_cases e:i=p
 .subst e;rw[B]at C;cases C;rw[getElem?_set_self f]at z;cases z;rw[getElem?_set_self L]
 rw[getElem?_set_ne (symm e)]at z;have J:id≠I:=λT=>e (Lw n.nd (T▸C) B)
 rw[getElem?_set_ne J];exact n.r i I Q C z
end
structure jN(H:bp)(w:V)(l:List (List V))(id:Nat):Prop where
 c:∀c∈l,c.length=2/\c.all V.one=true
 v:(w=.bJ/\l=[])\/∃off xs,w=.hsl id 2 off l.length/\H[id]?=some (.row 2 xs)/\off+l.length<=xs.length/\(xs.drop off).take l.length=l
section
variable{H H':bp}{w:V}{l:Zt}{id:Nat}
theorem jN.heap(n:jN H w l id)(h:∀off n,w=.hsl id 2 off n->H'[id]?=H[id]?):jN H' w l id:=⟨n.c,n.v.imp (λh=>h) λ⟨off,t,e1,e2,e3,e4⟩=>⟨off,t,e1,by rw[h _ _ e1];exact e2,e3,e4⟩⟩
theorem jN.lt(n:jN H w l id){off m:Nat}(h:w=.hsl id 2 off m):id<H.length:=by rcases n.v with⟨e,_⟩|⟨_,t,_,e2,_⟩;rw[e]at h;cases h;exact(ζe.1 e2).1
theorem jN.more(n:jN H w l id)(X:bp):jN (H++X) w l id:=n.heap λ_ _ e=>getElem?_append_left (n.lt e)
theorem jN.len(n:jN H w l id):mN w=some (.int .i64 l.length):=by rcases n.v with⟨rfl,rfl⟩|⟨off,t,rfl,_⟩<;>rfl
theorem jN.get(n:jN H w l id){i:Nat}{c:Zu}(a:l[i]?=some c):∃p,kU 2 w (i:Int)=some p/\eP H (.load 2 true) [p]=some (.agg c):=by
 have u:=(ζe.1 a).1;have t:=(n.c c (mem_of_getElem? a)).1;rcases n.v with⟨_,rfl⟩|⟨off,z,rfl,e2,e3,e4⟩;simp at a;refine⟨.hptr id (off+i) 0,by simp[kU,u],?_⟩;have:z[off+i]?=some c:=by rw[<-e4,getElem?_take,if_pos u,getElem?_drop]at a;exact a
 simp[eP,eo,e2,Ob.rows,this,cut,<-t];rfl
theorem jN.tail{c:Zu}(n:jN H w (c::l) id):∃w',gM 2 w (some 1) none=some w'/\jN H w' l id/\∃off m B,w=.hsl id 2 off m/\w'=.hsl id 2 B l.length:=by
 rcases n.v with⟨_,e⟩|⟨off,t,rfl,e2,e3,e4⟩;cases e;refine⟨.hsl id 2 (off+1) l.length,?_,⟨λc a=>n.c c (List.mem_cons_of_mem _ a),.inr ⟨off+1,t,rfl,e2,by simp at e3;omega,?_⟩⟩,⟨_,_,_,rfl,rfl⟩⟩;simp[gM,dO];omega;have u:(t.drop off).drop 1=t.drop (off+1):=by rw[List.drop_drop]
 rw[<-u];have:=congrArg (List.drop 1) e4;rw[List.drop_take]at this;simpa using this
theorem jN.push(n:jN H w l id){c:Zu}(a:c.length=2/\c.all V.one=true)(B:l.length+1<=2147483648):
 ∃H',eV (H++[.row 2 [c]]) (.append 2) [w,.hsl H.length 2 0 1]=some (.hsl (H.length+1) 2 0 (l.length+1),H')/\jN H' (.hsl (H.length+1) 2 0 (l.length+1)) (l++[c]) (H.length+1)/\H'.length=H.length+2/\(∀i,i<H.length->(∀off m,w=.hsl id 2 off m->i≠id)->H'[i]?=H[i]?):=by
 have e2:dD (H++[.row 2 [c]]) 2 (.hsl H.length 2 0 1)=some [c]:=by simp[dD,Ob.rows]
 have t:∀c'∈l++[c],c'.length=2/\c'.all V.one=true:=λc' h=>by rcases mem_append.1 h with h|h;exact n.c c' h;simp at h;subst h;exact a
 rcases n.v with⟨rfl,rfl⟩|⟨off,D,rfl,g2,g3,g4⟩
 .have e1:dD (H++[.row 2 [c]]) 2 .bJ=some []:=rfl;refine⟨H++[.row 2 [c]]++[.row 2 [c]],?_,⟨t,.inr ⟨0,[c],rfl,Zc,Zc,rfl⟩⟩,Zc,λi z _=>by rw[append_assoc,getElem?_append_left z]⟩
  simp only[eV,e1,e2,gB,List.length_nil,length_singleton,map_some];simp
 have u:=(ζe.1 g2).1;have e1:dD (H++[.row 2 [c]]) 2 (.hsl id 2 off l.length)=some l:=by simp only[dD,if_true,getElem?_append_left u,g2,ζb,Ob.rows,g3,g4]
 have C:gB (H++[.row 2 [c]]) (.hsl id 2 off l.length)=some (List.set (H++[Ob.row 2 [c]]) id Ob.dead):=by simp only[gB,getElem?_append_left u,g2]
 refine⟨List.set (H++[Ob.row 2 [c]]) id Ob.dead++[Ob.row 2 (l++[c])],?_,⟨t,.inr ⟨0,l++[c],Zc,Zc,Zc,take_of_length_le Zc⟩⟩,Zc,λi z h=>?_⟩
 .simp only[eV,e1,e2,C,length_singleton,B,if_true,map_some,ζi]
 rw[getElem?_append_left (by simp;omega),getElem?_set_ne (symm (h _ _ rfl)),getElem?_append_left z]
end
def yS(rs:aZ RV):Out×St->a_ bK
 |(.exit _,_)=>none|(_,st)=>(kD st rs).bind λl=>match l with
  |[.own d]=>bl st.m d|_=>none
theorem SB{S:Sys}{c:b9}{rs:aZ RV}{a:RC}{st:St}{ob:bK}(h:jX S c (yS rs) a [] st=some ob):∃o st' d,cI S c a st=some (o,st')/\(∀id,o≠.exit id)/\kD st' rs=some [.own d]/\bl st'.m d=some ob:=by
 rw[pQ]at h;have⟨⟨o,st'⟩,b,t⟩:=ζg.1 h;have w:∀id,o≠.exit id:=by rintro id rfl;simp[yS]at t
 have z:(kD st' rs).bind (λl=>match l with|[.own d]=>bl st'.m d|_=>none)=some ob:=by cases o with|exit id=>exact absurd rfl (w id)|norm=>exact t|ret=>exact t
 have⟨l,B,u⟩:=ζg.1 z;split at u;exact⟨o,st',_,b,w,B,u⟩;cases u
theorem Ta{S:Sys}{T:oR}(O:qj S T)(U:∀f a b xs,S.items f a b=some xs->fu S f a b xs){f:Zk}{rf:RF}(W:T f=some rf){B:Zu}(c:V.cE B=true)(Y:B.length<=rf.na){k:Fl}{es:Nat}{xs:Zt}
 (g:∀x∈xs,x.all V.scalar=true)(l:k=.row\/k=.nil/\xs=[])(h:jX S (c7 S T) (yS rf.rs) rf.body [] (start (B.map .v) [])=some (.sl k es xs)):
 ∃n y H',run S.E n (.fn f) B []=some (y,H')/\((k=.nil/\y=.bJ)\/(∃id,y=.hsl id es 0 xs.length/\H'[id]?=some (.row es xs))):=by
 have⟨o,st',d,m,Q,D,G⟩:=SB h;have r:c7 S T f (B.map .v) []=some ([.own d],st'.m):=by rw[qD W];unfold lU;rw[if_pos (by simpa using Y),m];cases o with|exit id=>exact absurd rfl (Q id)|norm=>simp only[D,map_some]|ret=>simp only[D,map_some]
 have⟨X,r1⟩:=vM c;obtain⟨n,y,H2,ν',Z',st2,F',I,g1,rfl,g3,g4,g5,_⟩:=vY O U f _ _ _ _ r _ _ B [] (.inr rfl) X r1;obtain⟨z,F,rfl,e1,e2⟩:=g4.inv;have:=e2.cU;subst this;refine⟨n,_,H2,g1,?_⟩
 cases e1 with
 |own d y Z=>
  have⟨H,K,M,e,t⟩:=Z _ G;cases e;have u:=g5.obj d _ (by rw[g3];exact G)
  rcases l with rfl|⟨rfl,rfl⟩
  .right;simp only[dY,cG,if_true]at u;have⟨I,s,N,C,P,w⟩:=u;have⟨w,v⟩:=w trivial;rw[w,drop_zero,<-v,take_of_length_le (le_refl _)]at C;have:xs=I:=by
    refine List.ext_getElem C.1 λi p q=>?_
    have J:=C.2 i _ _ (ζd p) (ζd q);refine List.ext_getElem J.1 λj L A=>?_
    have E:=J.2 j _ _ (ζd L) (ζd A);exact((E.scalar).1 (all_eq_true.1 (g _ (getElem_mem p)) _ (getElem_mem L))).symm
   subst this;refine⟨(ν' d).1,?_,s⟩;show result [_]=_;rw[t];simp[result,qP,w]
  left;exact⟨rfl,by show result [_]=_;rw[t];rfl⟩
theorem Gs{E:Env}{f:Zk}{B:Zu}{l:Zt}{y:V}{H1:bp}(d:E.own f=true)(e:V.cE B=true)(D:∀c∈l,c.length=2/\c.all V.one=true/\c.all V.scalar=true)
 (b:∃n,∀k,n<=k->run E k (.fn f) B []=some (y,H1))(G:(l=[]/\y=.bJ)\/(∃id,y=.hsl id 2 0 l.length/\H1[id]?=some (.row 2 l)))(H:bp):
 ∃w X id,(∃n,∀k,n<=k->eO E (run E k) f B H=some (w,H++X))/\jN (H++X) w l id/\(∀off m,w=.hsl id 2 off m->id=H.length):=by
 have⟨n,b⟩:=b;have z:∀{k:Nat}{l:Zu},V.cE l=true->borrows k H l=some l:=by intro k l;unfold borrows;induction l with|nil=>intro _;rfl|cons a l C=>intro h;have g:V.good a=true/\V.cE l=true:=(by simpa[V.cE]using h);simp only[gX,d_ k H (V.j8 g.1),C g.2]
 rcases G with⟨rfl,rfl⟩|⟨id,rfl,u⟩
 .refine⟨.bJ,[],0,⟨n,λk t=>?_⟩,⟨λc h=>by simp at h,.inl ⟨rfl,rfl⟩⟩,λoff m h=>by cases h⟩
  simp only[eO,d,if_true,jW,z e,b k t,V.scalar,append_nil]
 refine⟨.hsl H.length 2 0 l.length,[.row 2 l],H.length,⟨n,λk t=>?_⟩,⟨λc h=>⟨(D c h).1,(D c h).2.1⟩,.inr ⟨0,l,rfl,Zc,Zc,Zc⟩⟩,λoff m h=>rfl⟩
 have I:(l.all λx=>x.all V.scalar)=true:=all_eq_true.2 λc h=>(D c h).2.2
 simp only[eO,d,if_true,jW,z e,b k t,V.scalar,false_eq_true,if_false,qd,u,I,and_self,map_some]
def Sl.whole{α:Type}(s:Sl α):a_ (Sl α):=match s with|.part _=>none|s=>some s
structure Fq(S:Sys)(c:b9){α δ:Type}[bB δ](fn:FuncId)(A:α->List V)(p:α->Option (Sl δ)):Prop where
 k:S.E.keep fn=true
 o:S.E.own fn=true
 h:∀z s,p z=some s->∃e m',c fn ((A z).map .v) []=some ([.own e],m')/\bl m' e=some (cB s)
 sc:∀x:δ,(cells x).all V.scalar=true
theorem Fq.mk'{S:Sys}{T:oR}{α δ:Type}[bB δ](rf:RF){fn:Zk}{A:α->Zu}{p:α->a_ (Sl δ)}(h:∀z,Le ((p z).bind λr=>some (cB r)) (cr S (c7 S T) (yS rf.rs) (.rc rf.body,[],start ((A z).map .v) [])))
 (B:T fn=some rf:=by kernel_rfl)(b:S.E.keep fn=true:=by kernel_rfl)(D:S.E.own fn=true:=by kernel_rfl)(G:∀z,(A z).length<=rf.na:=by intro z;exact Nat.le_of_ble_eq_true (by kernel_rfl))
 (sc:∀x:δ,(cells x).all V.scalar=true:=by intro x;rfl):Fq S (c7 S T) fn A p where
 k:=b
 o:=D
 sc:=sc
 h z s t:=by have a:=h z (cB s) (by rw[t];rfl);change jX S (c7 S T) (yS rf.rs) rf.body [] (start ((A z).map .v) [])=some (cB s)at a;have⟨o,st',d,g1,g2,g3,g4⟩:=SB a;refine⟨d,st'.m,?_,g4⟩;rw[qD B];unfold lU;rw[if_pos (by simpa using G z),g1];cases o with|exit id=>exact absurd rfl (g2 id)|norm=>simp only[g3,map_some]|ret=>simp only[g3,map_some]
section
variable{S:Sys}{c:b9}{β γ δ α:Type}[bB δ]{Q:Out×St->a_ β}{e:γ->a_ β}{cf:Cf}
theorem RM(n u:Nat){fn:Zk}{A:α->Zu}{p:α->a_ (Sl δ)}(F:Fq S c fn A p)(z:α){f:Sl δ->a_ γ}
 (h:∀x,(p z).bind Sl.whole=some x->Le ((f x).bind e) (cr S c Q (nx S c n cf λq=>{q.st with g:=bR q.st.g u (.own u),m:=bR q.st.m u (cB x)})))
 (J:(gW S c n cf).map (λq=>(q.d,q.k,(bZ S.N q.st.g q.az).bind nV,(!q.dr||q.now),q.st.new u))=some (some u,.c,some (fn,(A z).map .v),true,true):=by kernel_rfl):Le ((((p z).bind Sl.whole).bind f).bind e) (cr S c Q cf):=by
 have⟨q,d,b⟩:=fU J;simp only[ζc]at b;have⟨I,L,O,T,G⟩:=b;have⟨B,g1,g2⟩:=ζg.1 O;refine rM d ?_ h;rw[I,L];intro y C;have⟨U,D,C⟩:=ζg.1 C;cases C;have⟨s,W,w⟩:=ζg.1 D;have⟨e0,m',i,X⟩:=F.h z s W;rw[zW q.dr _ _ _ _ _ B fn ((A z).map .v) g1 g2];have t:fF S c (some u) q.dr (!q.dr||q.now) (fS q.st.m q.fr) fn ((A z).map .v) q.st=some (.own u,{q.st with m:=bR q.st.m u (cB U)}):=by unfold fF;simp only[F.k,F.o,if_true,T,tq,i,dy,X,cB,G];cases s with|nil=>cases w;rfl|emp=>cases w;rfl|row l=>cases w;have:kS (rows l)=true:=(by unfold kS;rw[all_eq_true];intro x Y;obtain⟨a,_,rfl⟩:=mem_map.1 Y;exact F.sc a);simp only[Sl.k,Sl.l,dy,V.cO,this,Bool.and_self,G,if_true];rfl|part l=>cases w
 rw[t];rfl
end
structure GD where
 m:Nat
 pre:List (Nat×List Gh)
 nd:List (Nat×List Gh×List Gh)
structure GI where
 m:Nat
 i:Nat
 j:Nat
def Ur{α:Type}(l:aZ (Nat×aZ α))(i:Nat):aZ α:=match l with
 |[]=>[]|(k,x)::r=>bif beq k i then x else Ur r i
def yJ(l:aZ (Nat×Z5×Z5))(i:Nat):Z5×Z5:=match l with
 |[]=>([],[])|(k,x)::r=>bif beq k i then x else yJ r i
def Kq(m:Nat):Zv->Zv
 |[]=>[]|x::l=>bif beq (m % 2) 1 then x::Kq (m / 2) l else Kq (m / 2) l
def Nq:Z4->Zv
 |[]=>[]|.s n::r=>n::Nq r|_::r=>Nq r
def Tr(o:RO):Zv:=(match o.dst with|some d=>[d]|none=>[])++(match o.gd with|some g=>[g.1]|none=>[])++Nq o.az
def UN(G:GD)(s:GI)(o:RO):RO:={o with dead:=Kq (bif beq (s.m % 16) 15 then s.m / 16 % 65536 else s.m % 16) (Tr o),pre:=Ur G.pre s.i}
def GI.op(s:GI):GI:=⟨bif beq (s.m % 16) 15 then s.m / 1048576 else s.m / 16,s.i+1,s.j⟩
def yG(G:GD):Zx->GI->Zx×GI
 |[],s=>([],s)|o::r,s=>(UN G s o::(yG G r s.op).1,(yG G r s.op).2)
def yX:Z5->RC->RC
 |[],c=>c|g::l,c=>.gh g (yX l c)
def Lc:Z5->RC->RC
 |[],c=>c|g::l,c=>Lc l (.hg c g)
def GI.nd(s:GI):GI:=⟨s.m,s.i,s.j+1⟩
def ja(G:GD):RC->GI->RC×GI
 |.seq a b,s=>(yX (yJ G.nd s.j).1 (.seq (ja G a s.nd).1 (ja G b (ja G a s.nd).2).1),(ja G b (ja G a s.nd).2).2)|.cond x a b,s=>(yX (yJ G.nd s.j).1 (.cond x (ja G a s.nd).1 (ja G b (ja G a s.nd).2).1),(ja G b (ja G a s.nd).2).2)|.block id a,s=>(yX (yJ G.nd s.j).1 (.block id (ja G a s.nd).1),(ja G a s.nd).2)|.loop a,s=>(yX (yJ G.nd s.j).1 (.loop (Lc (yJ G.nd s.j).2 (ja G a s.nd).1)),(ja G a s.nd).2)|.each g ps a b,s=>(yX (yJ G.nd s.j).1 (.each g ps (ja G a s.nd).1 (Lc (yJ G.nd s.j).2 (ja G b (ja G a s.nd).2).1)),(ja G b (ja G a s.nd).2).2)|.ops l,s=>(yX (yJ G.nd s.j).1 (.ops (yG G l s.nd).1),(yG G l s.nd).2)|.ox l,s=>(yX (yJ G.nd s.j).1 (.ox (yG G l s.nd).1),(yG G l s.nd).2)|.gh g c,s=>(.gh g c,s)|.hg c g,s=>(.hg c g,s)|c,s=>(yX (yJ G.nd s.j).1 c,s.nd)
theorem kj(c:RC):∀l,erase (yX l c)=erase c
 |[]=>rfl|g::l=>by simp only[yX,erase,kj c l]
theorem y8:∀l(c:RC),erase (Lc l c)=erase c
 |[],c=>rfl|g::l,c=>by simp only[Lc,y8 l,erase]
theorem xQ(G:GD):∀(l:Zx)s,((yG G l s).1).map RO.strip=l.map RO.strip
 |[],s=>rfl|o::r,s=>by simp only[yG,map_cons,xQ G r];rfl
theorem kP(G:GD):∀(c:RC)s,erase (ja G c s).1=erase c
 |.seq a b,s=>by simp only[ja,kj,erase,kP G a,kP G b]|.cond x a b,s=>by simp only[ja,kj,erase,kP G a,kP G b]|.block id a,s=>by simp only[ja,kj,erase,kP G a]|.loop a,s=>by simp only[ja,kj,erase,y8,kP G a]|.each g ps a b,s=>by simp only[ja,kj,erase,y8,kP G a,kP G b]|.ops l,s=>by simp only[ja,kj,erase,xQ]|.ox l,s=>by simp only[ja,kj,erase,xQ]|.gh g c,s=>rfl|.hg c g,s=>rfl|.skip,s=>by simp only[ja,kj]|.ret,s=>by simp only[ja,kj]|.exit _,s=>by simp only[ja,kj]
theorem HC{X:CX}{dr:Zl}{ops:Zz}{i:Nat}{o:Oper}{r:RO}(h:mG X dr ops i o=some r):r.strip=r:=by obtain⟨_,_,_,_,_,_,rfl⟩:=BE h;rfl
theorem vZ{X:CX}{dr:Zl}{ops:Zz}:∀{l:Zz}{i:Nat}{r:Zx},kz X dr ops i l=some r->r.map RO.strip=r
 |[],i,r,h=>by cases h;rfl|o::l,i,r,h=>by simp only[kz]at h;split at h;(next a b B D=>cases h;simp only[map_cons,HC B,vZ D]);cases h
theorem HL{X:CX}:∀{c:Code}{ro:Zl}{r:RC},bQ X ro c=some r->erase r=r:=by intro c;induction c with|region _ ops dr=>intro ro r h;simp only[bQ]at h;split at h;split at h;obtain⟨l,d,rfl⟩:=ζf.1 h;simp only[erase,vZ d];cases h;obtain⟨l,d,rfl⟩:=ζf.1 h;simp only[erase,vZ d]|seq a b t u=>intro ro r h;simp only[bQ]at h;split at h;(next d w=>cases h;simp only[erase,t d,u w]);cases h|cond c a b t u=>intro ro r h;simp only[bQ]at h;split at h;(next d w=>cases h;simp only[erase,t d,u w]);cases h|block id a t=>intro ro r h;simp only[bQ]at h;obtain⟨l,d,rfl⟩:=ζf.1 h;simp only[erase,t d]|loop a t=>intro ro r h;simp only[bQ]at h;obtain⟨l,d,rfl⟩:=ζf.1 h;simp only[erase,t d]|rangeFunc g z a b t u=>intro ro r h;simp only[bQ]at h;split at h;cases h;split at h;(next d w=>cases h;simp only[erase,t d,u w]);cases h|_=>intro ro r h;first|cases h;rfl|(simp only[bQ]at h;cases h;rfl)|(simp only[bQ]at h;cases h)
def N3(E:Env)(nm:Zk->a_ Nat)(G:Zk->a_ GD):oR:=λf=>(G f).bind λg=>(E.ft f).bind λt=>(bQ ⟨E,nm,t.ntmps⟩ false t.body).bind λc=>(t.results.mapM (Aq E)).bind λrs=>some ⟨t.ntmps,rs,(ja g c ⟨g.m,0,0⟩).1⟩
theorem Ns{E:Env}{nm:Zk->a_ Nat}{G:Zk->a_ GD}{f:Zk}{rf:RF}(h:N3 E nm G f=some rf):∃fi,E.ft f=some fi/\xh E nm fi rf:=by unfold N3 at h;have⟨g,_,h⟩:=ζg.1 h;have⟨fi,a,h⟩:=ζg.1 h;have⟨c,t,h⟩:=ζg.1 h;have⟨rs,u,h⟩:=ζg.1 h;cases h;exact⟨fi,a,by rw[t,kP,HL t],u,rfl⟩
theorem uI:∀(g:Zk)(s:Nat),some g=some s->(λn=>n) s=g:=λ_ _ h=>(Option.some.inj h).symm
def rZ(o:a_ RF):RF:=o.getD ⟨0,[],.skip⟩
def tb(T:oR)(f:Zk):RC:=(rZ (T f)).body
def tr(T:oR)(f:Zk):aZ RV:=(rZ (T f)).rs
theorem CQ{o:a_ RF}(h:o.isSome=true):o=some (rZ o):=by cases o with
 |none=>cases h|some r=>rfl
class iB(δ:Type)where
 e:δ->List V
instance Vt{α:Type}[bB α]:iB α:=⟨λx=>[enc x]⟩
instance Vu:iB Unit:=⟨λ_=>[]⟩
instance Vv{α β:Type}[bB α][iB β]:iB (α×β):=⟨λx=>enc x.1::iB.e x.2⟩
@[simp] theorem U5{α:Type}[bB α](x:α):iB.e x=[enc x]:=rfl
@[simp] theorem U4(x:Unit):iB.e x=[]:=rfl
@[simp] theorem U7{α β:Type}[bB α][iB β](x:α×β):iB.e x=enc x.1::iB.e x.2:=rfl
class Fc(S:Sys)(c:b9){δ:Type}(m:Option δ)where
 n:FuncId
 az:List V
 E:δ->List V
 sc:Bool
 F:kG S c n (λ_:Unit=>az) E (λ_=>m) sc
section
variable{S:Sys}{T:oR}{δ:Type}{m:a_ δ}
theorem kG.ME{E:δ->Zu}(fn:Zk)(az:Zu)(h:Le (m.bind λr=>some (E r)) (cr S (c7 S T) (qH (tr T fn)) (.rc (tb T fn),[],start (az.map .v) [])))
 (B:(T fn).isSome=true)(a:S.E.keep fn=false)(D:ble az.length (rZ (T fn)).na=true)
 {sc:Zl}(s:sc=true->∀r,(result (E r)).scalar=true):kG S (c7 S T) fn (λ_:Unit=>az) E (λ_=>m) sc where
 k:=a
 h z:=UW (CQ B) (Nat.le_of_ble_eq_true D) h
 s:=s
abbrev Fc.NE(E:δ->aZ V)(fn:FuncId)(az:aZ V)(h:Le (m.bind λr=>some (E r)) (cr S (c7 S T) (qH (tr T fn)) (.rc (tb T fn),[],start (az.map .v) [])))
 (B:(T fn).isSome=true:=by kernel_rfl)(a:S.E.keep fn=false:=by kernel_rfl)(D:ble az.length (rZ (T fn)).na=true:=by kernel_rfl)
 :Fc S (c7 S T) m:=
 ⟨fn,az,E,false,kG.ME fn az h B a D λh=>nomatch h⟩
abbrev Fc.M[iB δ](fn:FuncId)(az:aZ V)(h:Le (m.bind λr=>some (iB.e r)) (cr S (c7 S T) (qH (tr T fn)) (.rc (tb T fn),[],start (az.map .v) [])))
 (B:(T fn).isSome=true:=by kernel_rfl)(a:S.E.keep fn=false:=by kernel_rfl)(D:ble az.length (rZ (T fn)).na=true:=by kernel_rfl)
 (s:∀r:δ,(result (iB.e r)).scalar=true:=by intro r;kernel_rfl):Fc S (c7 S T) m:=
 ⟨fn,az,iB.e,true,kG.ME fn az h B a D λ_=>s⟩
abbrev Fc.N[iB δ](fn:FuncId)(az:aZ V)(h:Le (m.bind λr=>some (iB.e r)) (cr S (c7 S T) (qH (tr T fn)) (.rc (tb T fn),[],start (az.map .v) [])))
 (B:(T fn).isSome=true:=by kernel_rfl)(a:S.E.keep fn=false:=by kernel_rfl)(D:ble az.length (rZ (T fn)).na=true:=by kernel_rfl)
 :Fc S (c7 S T) m:=
 ⟨fn,az,iB.e,false,kG.ME fn az h B a D λh=>nomatch h⟩
end
abbrev Fc.of{S:Sys}{c:b9}{α δ:Type}{p:α->a_ δ}{n:FuncId}{A:α->aZ V}{E:δ->aZ V}{b:Bool}(z:α)(F:kG S c n A E p b):Fc S c (p z):=⟨n,A z,E,b,⟨F.k,λ_=>F.h z,F.s⟩⟩
theorem kG.uX{S:Sys}{c:b9}{α δ:Type}{p:α->a_ δ}{n:Zk}{A:α->Zu}{E:δ->Zu}{b:Zl}(F:∀z,Fc S c (p z))(i:α)(B:∀z,(F z).n=n)(G:∀z,(F z).az=A z)(D:∀z,(F z).E=E)(J:∀z,(F z).sc=b):kG S c n A E p b where
 k:=by rw[<-B i];exact(F i).F.k
 h z:=by rw[<-B z,<-G z,<-D z];exact(F z).F.h ()
 s:=by rw[<-J i,<-D i];exact(F i).F.s
theorem oq.uX{S:Sys}{c:b9}{α δ:Type}{p:α->a_ δ}{g:Zk}{w e:Zu}{A:α->Zu}{R:δ->Zu}{b:Zl}[i:Inhabited α][F:∀z,Fc S c (p z)](B:∀z,(F z).n=g:=by intro _;kernel_rfl)(D:∀z,(F z).az=w++A z++e:=by intro _;kernel_rfl)
 (G:∀z,(F z).E=R:=by intro _;kernel_rfl)(J:∀z,(F z).sc=b:=by intro _;kernel_rfl):oq S c g w e A R p b:=
 ⟨kG.uX F default B D G J⟩
section
variable{S:Sys}{c:b9}{β γ δ α:Type}{Q:Out×St->a_ β}{e:γ->a_ β}{cf:Cf}
theorem yz(n:Nat){m:a_ β}(h:Le m (cr S c Q (iL S c n cf)))(B:gR S c n cf.1 cf.2.1 cf.2.2=some (iL S c n cf):=by kernel_rfl):Le m (cr S c Q cf):=Dq B h
theorem bG(n:Nat){m:a_ δ}[F:Fc S c m]{f:δ->a_ γ}(h:∀x,m=some x->Le ((f x).bind e) (cr S c Q (nx S c n cf λp=>dh p.st p.d (.v (result (F.E x))))))
 (B:(gW S c n cf).map (λp=>(p.k,(bZ S.N p.st.g p.az).bind nV,(!p.dr||p.now||fS p.st.m p.fr [])))=some (.c,some (F.n,F.az.map .v),true):=by kernel_rfl):Le ((m.bind f).bind e) (cr S c Q cf):=xk n F.F () h B
theorem gf(n:Nat){m:a_ δ}[F:Fc S c m]{f:δ->a_ γ}(h:∀x,m=some x->Le ((f x).bind e) (cr S c Q (nx S c n cf λp=>dh p.st p.d (.v (result (F.E x))))))
 (B:(gW S c n cf).map (λp=>(p.k,((bZ S.N p.st.g p.az).bind nV).bind λq=>(nL (iX p.st.m 8) q.2).map λvs=>(q.1,vs,((!p.dr||p.now)||fS p.st.m p.fr q.2))))=some (.c,some (F.n,F.az,true)):=by kernel_rfl)(D:F.sc=true:=by kernel_rfl):Le ((m.bind f).bind e) (cr S c Q cf):=
 SR n (t D F.F) () h B
where
 t {b:Zl} {fn:Zk} {az:Zu} {E:δ->Zu} {m:a_ δ} (h:b=true) (F:kG S c fn (λ_:Unit=>az) E (λ_=>m) b):kG S c fn (λ_:Unit=>az) E (λ_=>m) true:=h▸F
def IY(cf:Cf):RC:=match cf.1 with|.rc (.loop c)=>c|_=>.skip
def Cr(cf:Cf):Arg×Zv×RC×RC:=match cf.1 with|.rc (.each g t a b)=>(g,t,a,b)|_=>(.s 0,[],.skip,.skip)
theorem dR{σ ε ρ:Type}{step:σ->a_ (Fw σ ε ρ)}(n:Nat)(eσ:σ->St)(eε:ε->Nat×St)(eρ:ρ->St){s:σ}{B:ε->a_ γ}{fr:ρ->a_ γ}
 (h:∀s,Le ((step s).bind λw=>some (Fw.out eσ eε eρ w)) (cr S c some (.rc (IY (iL S c n cf)),[],eσ s)))
 (D:∀x,Le ((B x).bind e) (cr S c Q (.ex (eε x).1,(iL S c n cf).2.1,(eε x).2)))(a:∀b,Le ((fr b).bind e) (Q (.ret,eρ b)))
 (G:gR S c n cf.1 cf.2.1 cf.2.2=some (.rc (.loop (IY (iL S c n cf))),(iL S c n cf).2.1,eσ s):=by kernel_rfl):Le (((bT step s).bind (Fw.elim B fr)).bind e) (cr S c Q cf):=
 Ge G h D a
theorem iE{σ ε:Type}{step:σ->a_ (Fw σ ε Empty)}(n:Nat)(eσ:σ->St)(eε:ε->Nat×St){s:σ}{B:ε->a_ γ}{fr:Empty->a_ γ}
 (h:∀s,Le ((step s).bind λw=>some (Fw.out eσ eε (λe=>elim e) w)) (cr S c some (.rc (IY (iL S c n cf)),[],eσ s)))
 (D:∀x,Le ((B x).bind e) (cr S c Q (.ex (eε x).1,(iL S c n cf).2.1,(eε x).2)))
 (G:gR S c n cf.1 cf.2.1 cf.2.2=some (.rc (.loop (IY (iL S c n cf))),(iL S c n cf).2.1,eσ s):=by kernel_rfl):Le (((bT step s).bind (Fw.elim B fr)).bind e) (cr S c Q cf):=
 Ge G h D λb=>elim b
theorem RQ{σ ρ:Type}{step:σ->a_ (Fw σ Empty ρ)}(n:Nat)(eσ:σ->St)(eρ:ρ->St){s:σ}{B:Empty->a_ γ}{fr:ρ->a_ γ}
 (h:∀s,Le ((step s).bind λw=>some (Fw.out eσ (λe=>elim e) eρ w)) (cr S c some (.rc (IY (iL S c n cf)),[],eσ s)))
 (a:∀b,Le ((fr b).bind e) (Q (.ret,eρ b)))
 (D:gR S c n cf.1 cf.2.1 cf.2.2=some (.rc (.loop (IY (iL S c n cf))),(iL S c n cf).2.1,eσ s):=by kernel_rfl):Le (((bT step s).bind (Fw.elim B fr)).bind e) (cr S c Q cf):=
 Ge D h (λx=>elim x) a
theorem E9{σ ε ρ:Type}{f:Zk}{x y:Zu}{a:aZ α}{eI:α->Zu}{step:α->σ->a_ (Fw σ ε ρ)}(n:Nat)(d:Tb SV)(eσ:σ->Tb bK)(eε:ε->Nat×Tb bK)(eρ:ρ->Tb bK){s:σ}{fn:σ->a_ γ}{B:ε->a_ γ}{fr:ρ->a_ γ}
 (D:S.items f x y=some (a.map eI))
 (h:∀x s,Le ((step x s).bind λw=>some (Fw.uV eσ eε eρ w)) (cr S c (xC S c (Cr (iL S c n cf)).2.2.2) (.rc (Cr (iL S c n cf)).2.2.1,[],⟨vT d (Cr (iL S c n cf)).2.1 ((eI x).map .v),eσ s,o4 d,[],true,0⟩)))
 (G:∀s,Le ((fn s).bind e) (cr S c Q (.nx,(iL S c n cf).2.1,bN d (eσ s))))(J:∀x,Le ((B x).bind e) (cr S c Q (.ex (eε x).1,(iL S c n cf).2.1,bN d (eε x).2)))(g:∀b,Le ((fr b).bind e) (Q (.ret,bN d (eρ b))))
 (O:∀x,(eI x).length=(Cr (iL S c n cf)).2.1.length:=by intro _;kernel_rfl)(i:pW S.N d (Cr (iL S c n cf)).1=some (.v (.clo f x y)):=by kernel_rfl)
 (U:gR S c n cf.1 cf.2.1 cf.2.2=some (.rc (.each (Cr (iL S c n cf)).1 (Cr (iL S c n cf)).2.1 (Cr (iL S c n cf)).2.2.1 (Cr (iL S c n cf)).2.2.2),(iL S c n cf).2.1,bN d (eσ s)):=by kernel_rfl):Le (((nv step a s).bind (Fw.vI fn B fr)).bind e) (cr S c Q cf):=
 Su U i D O h G J g
def Ss(n k:Nat)(B:Zv)(d:Nat)(S:Sys)(c:b9)(cf:Cf)(v:SV):Cf:=jmp k [] (iL S c n cf) {(iL S c n cf).2.2 with g:=bR (ov B (iL S c n cf).2.2.g) d v}
theorem b_[bB δ](n k:Nat)(B:Zv)(d:Nat){m:a_ δ}{f:δ->a_ γ}(D:Le (m.bind λr=>cr S c Q (Ss n k B d S c cf (cv r))) (cr S c Q cf))(a:∀r,Le ((f r).bind e) (cr S c Q (Ss n k B d S c cf (cv r)))):Le ((m.bind f).bind e) (cr S c Q cf):=OQ _ D a
end
instance{n:Nat}:DecidableEq (cu n Int):=λa b=>if h:a.l=b.l then .isTrue (by cases a;cases b;cases h;rfl)else .isFalse λe=>h (by rw[e])
theorem uf:∀l:Zy,g_ ((l.map (cells (α:=Int))).flatten)=some l
 |[]=>rfl|a::l=>by show g_ (.int .i64 a::(l.map (cells (α:=Int))).flatten)=_;simp only[g_,uf l,map_some]
theorem L_(l:Zy):(l.map (cells (α:=Int))).flatten=l.map (V.int .i64):=by induction l with|nil=>rfl|cons a l t=>simp only[map_cons,List.flatten_cons,t];rfl
instance{n:Nat}:Key (cu n Int)where
 kk:=.ints n
 ok a:=by show((a.l.map (cells (α:=Int))).flatten.length==n&&(g_ (a.l.map (cells (α:=Int))).flatten).isSome)=true;rw[uf,L_,length_map,a.len];simp
 eq a b:=by show kf (a.l.map (cells (α:=Int))).flatten (b.l.map (cells (α:=Int))).flatten=_;unfold kf;rw[uf,uf];simp only[a.len,b.len,if_true];congr 1;rw[Bool.eq_iff_iff,beq_iff_eq,decide_eq_true_iff];exact⟨λh=>by cases a;cases b;cases h;rfl,λh=>by rw[h]⟩
section
variable{S:Sys}{c:b9}{β γ δ α:Type}{Q:Out×St->a_ β}{e:γ->a_ β}{cf:Cf}
end
section
variable{S:Sys}{c:b9}{β γ δ:Type}{Q:Out×St->a_ β}{e:γ->a_ β}{cf:Cf}{κ ν:Type}[bB κ][DecidableEq κ][Key κ][bB ν]
structure Um(κ ν:Type)where
 o:Option (Mo κ ν)
 deriving Inhabited
def R_(m:Um κ ν):V:=match m.o with|none=>.gb|some l=>.fmap (nq l)
theorem Mj(m:Mo κ ν):V.rC (nq m)=true:=by induction m with|nil=>rfl|cons x r t=>show V.rC ((enc x.1,enc x.2)::nq r)=true;simp only[V.rC,jw,t,Bool.and_self]
instance:bB (Um κ ν)where
 cells m:=[R_ m]
 agg:=false
 size:=1
 len _:=rfl
 good m:=by unfold R_;split;rfl;simp only[V.cE,V.good,Mj,Bool.and_self]
 one m:=by unfold R_;split<;>rfl
 plain _:=rfl
end
theorem kG.scalar{S:Sys}{c:b9}{α δ:Type}{fn:Zk}{A:α->Zu}{E:δ->Zu}{p:α->a_ δ}{b:Zl}(F:kG S c fn A E p b)(h:∀r,(result (E r)).scalar=true):kG S c fn A E p true:=⟨F.k,F.h,λ_=>h⟩
section
variable{S:Sys}{c:b9}{β γ δ α:Type}[bB α]{Q:Out×St->a_ β}{e:γ->a_ β}{cf:Cf}
theorem OT{ω:Type}[bB ω](n u:Nat){N:Nat}(a:cu N α)(i:Int)(o:Nat)(x:α)(B:a.at i=some x)(y:α)(w:ω)(D:cells y=(cells x).take o++cells w++(cells x).drop (o+bB.size ω)){m:a_ β}(h:Le m (cr S c Q (nx S c n cf λp=>dh {p.st with m:=bR p.st.m u (bx (a.set i y))} p.d (.v .undef))))
 (G:(gW S c n cf).map (λp=>(p.k,bZ S.N p.st.g p.az,bl p.st.m u,(!p.dr||p.now),ble (o+bB.size ω) (bB.size α)))=some (.l (.store (bB.size ω)),some [.ptr u (i.toNat*bB.size α+o),cv w],some (bx a),true,true):=by kernel_rfl):Le m (cr S c Q cf):=by
 have⟨p,b,t⟩:=fU G;simp only[ζc]at t;have⟨e,z⟩:=jE b;have⟨dr,fr,d,gd,now,O,az,dd,l,fs,st⟩:=p;obtain⟨rfl,C,I,J,L⟩:=t;exact Tt n dr fr (⟨d,gd,now,.l (.store (bB.size ω)),az,dd,[]⟩::l) fs st u a i o x B y (enc w) (by rw[jg];exact D) rfl (by(try dsimp only at *);simp only[e,z,C,I,J,L,jg,fH,pN]) (by
  simp only[nx,b]at h;exact h)
end
def Fa(rs:aZ RV):Out×St->a_ (bK×Zu)
 |(.exit _,_)=>none|(_,st)=>(kD st rs).bind λl=>match l with
  |.own d::r=>(bl st.m d).bind λob=>(dy r).map λys=>(ob,ys)|_=>none
theorem Aj:∀{l:Zw}{ys:Zu},dy l=some ys->l=ys.map .v
 |[],ys,h=>by cases h;rfl|.v x::r,ys,h=>by simp only[dy]at h;obtain⟨B,a,rfl⟩:=ζf.1 h;rw[Aj a];rfl|.own _::_,_,h|.ptr ..::_,_,h|.el ..::_,_,h|.mp _::_,_,h|.clo ..::_,_,h|.tup _::_,_,h|.agg _::_,_,h|.yl _::_,_,h=>by cases h
theorem UQ{S:Sys}{c:b9}{rs:aZ RV}{a:RC}{st:St}{ob:bK}{ys:Zu}(h:jX S c (Fa rs) a [] st=some (ob,ys)):∃o st' d,cI S c a st=some (o,st')/\(∀id,o≠.exit id)/\kD st' rs=some (.own d::ys.map .v)/\bl st'.m d=some ob:=by
 rw[pQ]at h;have⟨⟨o,st'⟩,b,t⟩:=ζg.1 h;have w:∀id,o≠.exit id:=by rintro id rfl;simp[Fa]at t
 have z:(kD st' rs).bind (λl=>match l with|.own d::r=>(bl st'.m d).bind λob=>(dy r).map λys=>(ob,ys)|_=>none)=some (ob,ys):=by cases o with|exit id=>exact absurd rfl (w id)|norm=>exact t|ret=>exact t
 have⟨l,B,u⟩:=ζg.1 z;split at u;have⟨C,D,G⟩:=ζg.1 u;have⟨L,I,J⟩:=ζf.1 G;cases J;exact⟨o,st',_,b,w,by rw[B,Aj I],D⟩;cases u
structure BA(S:Sys)(c:b9){δ ε:Type}[bB δ][iB ε](m:Option (Sl δ×ε))where
 n:FuncId
 az:List V
 k:S.E.keep n=true
 o:S.E.own n=true
 h:∀s r,m=some (s,r)->∃e m',c n (az.map .v) []=some (.own e::(iB.e r).map .v,m')/\bl m' e=some (cB s)
 sc:∀x:δ,(cells x).all V.scalar=true
 sr:∀r:ε,V.cO (iB.e r)=true
abbrev BA.mk'{S:Sys}{T:oR}{δ ε:Type}[bB δ][iB ε]{m:a_ (Sl δ×ε)}(fn:FuncId)(az:aZ V)(h:Le (m.bind λr=>some (cB r.1,iB.e r.2)) (cr S (c7 S T) (Fa (tr T fn)) (.rc (tb T fn),[],start (az.map .v) [])))
 (B:(T fn).isSome=true:=by kernel_rfl)(b:S.E.keep fn=true:=by kernel_rfl)(D:S.E.own fn=true:=by kernel_rfl)(G:ble az.length (rZ (T fn)).na=true:=by kernel_rfl)
 (sc:∀x:δ,(cells x).all V.scalar=true:=by intro x;rfl)(sr:∀r:ε,V.cO (iB.e r)=true:=by intro r;rfl):BA S (c7 S T) m where
 n:=fn
 az:=az
 k:=b
 o:=D
 sc:=sc
 sr:=sr
 h s r u:=by have t:=CQ B;have a:=h (cB s,iB.e r) (by rw[u];rfl);change jX S (c7 S T) (Fa (rZ (T fn)).rs) (rZ (T fn)).body [] (start (az.map .v) [])=some (cB s,iB.e r)at a;have⟨o,st',d,g1,g2,g3,g4⟩:=UQ a;refine⟨d,st'.m,?_,g4⟩;rw[qD t];unfold lU;rw[if_pos (by simpa using Nat.le_of_ble_eq_true G),g1];cases o with|exit id=>exact absurd rfl (g2 id)|norm=>simp only[g3,map_some]|ret=>simp only[g3,map_some]
def mU{δ ε:Type}(p:Sl δ×ε):a_ (Sl δ×ε):=p.1.whole.map λs=>(s,p.2)
theorem E7{S:Sys}{c:b9}{β γ δ ε:Type}[bB δ][iB ε]{Q:Out×St->a_ β}{e:γ->a_ β}{cf:Cf}{m:a_ (Sl δ×ε)}(F:BA S c m)(n u:Nat){f:Sl δ×ε->a_ γ}
 (h:∀x,m.bind mU=some x->Le ((f x).bind e) (cr S c Q (nx S c n cf λq=>{q.st with g:=bR q.st.g u (vw (.own u::(iB.e x.2).map .v)),m:=bR q.st.m u (cB x.1)})))
 (J:(gW S c n cf).map (λq=>(q.d,q.k,(bZ S.N q.st.g q.az).bind nV,(!q.dr||q.now),q.st.new u))=some (some u,.c,some (F.n,F.az.map .v),true,true):=by kernel_rfl):Le (((m.bind mU).bind f).bind e) (cr S c Q cf):=by
 have⟨q,d,b⟩:=fU J;simp only[ζc]at b;have⟨I,L,O,T,z⟩:=b;have⟨B,g1,g2⟩:=ζg.1 O;refine rM d ?_ h;rw[I,L];intro y C;have⟨⟨U,r⟩,D,C⟩:=ζg.1 C;cases C;have⟨⟨s,G⟩,W,t⟩:=ζg.1 D;unfold mU at t;have⟨Z,t,i⟩:=ζf.1 t;cases i;have⟨e0,m',j,X⟩:=F.h s G W;rw[zW q.dr _ _ _ _ _ B F.n (F.az.map .v) g1 g2];have w:fF S c (some u) q.dr (!q.dr||q.now) (fS q.st.m q.fr) F.n (F.az.map .v) q.st=some (vw (.own u::(iB.e G).map .v),{q.st with m:=bR q.st.m u (cB U)}):=by unfold fF;simp only[F.k,F.o,if_true,T,tq,j,dy,oM,X,cB,z];cases s with|nil=>cases t;simp only[Sl.k,F.sr,z,Bool.and_self,if_true];rfl|emp=>cases t;simp only[Sl.k,F.sr,z,Bool.and_self,if_true];rfl|row l=>cases t;have:kS (rows l)=true:=(by unfold kS;rw[all_eq_true];intro x Y;obtain⟨a,_,rfl⟩:=mem_map.1 Y;exact F.sc a);simp only[Sl.k,Sl.l,F.sr,this,Bool.and_self,z,if_true]|part l=>cases t
 rw[w];rfl
section
variable{S:Sys}{c:b9}{β γ δ α:Type}{Q:Out×St->a_ β}{e:γ->a_ β}{cf:Cf}
end
def KD(rs:aZ RV)(B:Zv):Out×St->a_ (Zu×dV)
 |(.exit _,_)=>none|(_,st)=>(kD st rs).bind λl=>(dy l).bind λys=>(kQ st.m B).map λos=>(ys,os)
theorem Vh{S:Sys}{c:b9}{rs:aZ RV}{B:Zv}{a:RC}{st:St}{os:dV}{ys:Zu}(h:jX S c (KD rs B) a [] st=some (ys,os)):∃o st',cI S c a st=some (o,st')/\(∀id,o≠.exit id)/\kD st' rs=some (ys.map .v)/\kQ st'.m B=some os:=by
 rw[pQ]at h;have⟨⟨o,st'⟩,b,t⟩:=ζg.1 h;have u:∀id,o≠.exit id:=by rintro id rfl;simp[KD]at t
 have w:(kD st' rs).bind (λl=>(dy l).bind λys=>(kQ st'.m B).map λos=>(ys,os))=some (ys,os):=by cases o with|exit id=>exact absurd rfl (u id)|norm=>exact t|ret=>exact t
 have⟨l,z,C⟩:=ζg.1 w;have⟨L,D,G⟩:=ζg.1 C;have⟨q,I,J⟩:=ζf.1 G;cases J;exact⟨o,st',b,u,by rw[z,Aj D],I⟩
def xF:Tb bK->dV->Tb bK
 |m,[]=>m|m,(d,ob)::r=>xF (bR m d ob) r
theorem Hf{m':dV}{D:Zv}:∀{B:Zv}{os m:dV},kQ m' B=some os->(os.all λx=>within D x.2)=true->xq D m' B m=some (xF m os)
 |[],os,m,h,_=>by cases h;rfl|k::B,os,m,h,hp=>by simp only[kQ]at h;split at h;(next v t a G=>cases h;simp only[all_cons,ζh]at hp;simp only[xq,a,hp.1,if_true,xF];exact Hf G hp.2);cases h
theorem back_eq{m':dV}{B:Zv}{os m:dV}(h:kQ m' B=some os)(a:(os.all λx=>within B x.2)=true):mz m' B m=some (xF m os):=Hf h a
structure Po(S:Sys)(c:b9){δ:Type}(m:Option δ)where
 n:FuncId
 az:List SV
 os:dV
 E:δ->List V
 M:δ->dV
 k:S.E.keep n=true
 o:S.E.own n=false
 q:(S.prm n).isNone=true
 h:∀r,m=some r->∃m',c n az os=some ((E r).map .v,m')/\∀m0,mz m' (os.map (·.1)) m0=some (xF m0 (M r))
abbrev Po.mk'{S:Sys}{T:oR}{δ:Type}{m:a_ δ}(fn:FuncId)(az:aZ SV)(os:dV)(E:δ->aZ V)(M:δ->dV)(h:Le (m.bind λr=>some (E r,M r)) (cr S (c7 S T) (KD (tr T fn) (os.map (·.1))) (.rc (tb T fn),[],start az os)))
 (B:(T fn).isSome=true:=by kernel_rfl)(b:S.E.keep fn=true:=by kernel_rfl)(D:S.E.own fn=false:=by kernel_rfl)(c:(S.prm fn).isNone=true:=by kernel_rfl)(G:ble az.length (rZ (T fn)).na=true:=by kernel_rfl)
 (d:∀r,((M r).all λx=>within (os.map (·.1)) x.2)=true:=by intro r;kernel_rfl):Po S (c7 S T) m where
 n:=fn
 az:=az
 os:=os
 E:=E
 M:=M
 k:=b
 o:=D
 q:=c
 h r hr:=by have t:=CQ B;have a:=h (E r,M r) (by rw[hr];rfl);change jX S (c7 S T) (KD (rZ (T fn)).rs (os.map (·.1))) (rZ (T fn)).body [] (start az os)=some (E r,M r)at a;have⟨o,st',g1,g2,g3,g4⟩:=Vh a;refine⟨st'.m,?_,λu=>back_eq g4 (d r)⟩;rw[qD t];unfold lU;rw[if_pos (Nat.le_of_ble_eq_true G),g1];cases o with|exit id=>exact absurd rfl (g2 id)|norm=>simp only[g3,map_some]|ret=>simp only[g3,map_some]
section
variable{S:Sys}{c:b9}{β γ δ:Type}{Q:Out×St->a_ β}{e:γ->a_ β}{cf:Cf}
instance:Key Zq where
 kk:=.str
 ok _:=rfl
 eq a b:=by show some (a==b)=some (decide (a=b));rw[show(a==b)=decide (a=b)from Bool.eq_iff_iff.2 (by cases a;cases b;rename_i x y;show(x==y)=true↔_;simp)]
end
def Je(rs:aZ RV)(B:Zv):Out×St->a_ (bK×Zu×dV)
 |(.exit _,_)=>none|(_,st)=>(kD st rs).bind λl=>match l with
  |.own d::r=>if B.contains d then none else(bl st.m d).bind λob=>(dy r).bind λys=>(kQ st.m B).map λos=>(ob,ys,os)|_=>none
theorem Vb{S:Sys}{c:b9}{rs:aZ RV}{B:Zv}{a:RC}{st:St}{ob:bK}{ys:Zu}{os:dV}(h:jX S c (Je rs B) a [] st=some (ob,ys,os)):
 ∃o st' d,cI S c a st=some (o,st')/\(∀id,o≠.exit id)/\kD st' rs=some (.own d::ys.map .v)/\B.contains d=false/\bl st'.m d=some ob/\kQ st'.m B=some os:=by
 rw[pQ]at h;have⟨⟨o,st'⟩,b,u⟩:=ζg.1 h;have C:∀id,o≠.exit id:=by rintro id rfl;simp[Je]at u
 have D:(kD st' rs).bind (λl=>match l with|.own d::r=>if B.contains d then none else(bl st'.m d).bind λob=>(dy r).bind λys=>(kQ st'.m B).map λos=>(ob,ys,os)|_=>none)=some (ob,ys,os):=by cases o with|exit id=>exact absurd rfl (C id)|norm=>exact u|ret=>exact u
 have⟨l,G,t⟩:=ζg.1 D;split at t
 .split at t
  .cases t
  rename_i e;have⟨I,J,L⟩:=ζg.1 t;have⟨T,O,Q⟩:=ζg.1 L;have⟨q,w,z⟩:=ζf.1 Q;cases z;exact⟨o,st',_,b,C,by rw[G,Aj O],by simpa using e,J,w⟩
 cases t
structure Uw(S:Sys)(c:b9){δ ε:Type}[bB δ][iB ε](m:Option (Sl δ×ε))where
 n:FuncId
 az:List SV
 os:dV
 M:Sl δ×ε->dV
 k:S.E.keep n=true
 o:S.E.own n=false
 q:(S.prm n).isNone=true
 h:∀r,m=some r->∃e m',c n az os=some (.own e::(iB.e r.2).map .v,m')/\bl m' e=some (cB r.1)/\(os.map (·.1)).contains e=false/\∀m0,mz m' (os.map (·.1)) m0=some (xF m0 (M r))
abbrev Uw.mk'{S:Sys}{T:oR}{δ ε:Type}[bB δ][iB ε]{m:a_ (Sl δ×ε)}(fn:FuncId)(az:aZ SV)(os:dV)(M:Sl δ×ε->dV)
 (h:Le (m.bind λr=>some (cB r.1,iB.e r.2,M r)) (cr S (c7 S T) (Je (tr T fn) (os.map (·.1))) (.rc (tb T fn),[],start az os)))
 (B:(T fn).isSome=true:=by kernel_rfl)(b:S.E.keep fn=true:=by kernel_rfl)(D:S.E.own fn=false:=by kernel_rfl)(c:(S.prm fn).isNone=true:=by kernel_rfl)(G:ble az.length (rZ (T fn)).na=true:=by kernel_rfl)
 (e:∀r,((M r).all λx=>within (os.map (·.1)) x.2)=true:=by intro r;kernel_rfl):Uw S (c7 S T) m where
 n:=fn
 az:=az
 os:=os
 M:=M
 k:=b
 o:=D
 q:=c
 h r hr:=by have t:=CQ B;have a:=h (cB r.1,iB.e r.2,M r) (by rw[hr];rfl);change jX S (c7 S T) (Je (rZ (T fn)).rs (os.map (·.1))) (rZ (T fn)).body [] (start az os)=some (cB r.1,iB.e r.2,M r)at a;have⟨o,st',d,g1,g2,g3,g4,g5,g6⟩:=Vb a;refine⟨d,st'.m,?_,g5,g4,λu=>back_eq g6 (e r)⟩;rw[qD t];unfold lU;rw[if_pos (Nat.le_of_ble_eq_true G),g1];cases o with|exit id=>exact absurd rfl (g2 id)|norm=>simp only[g3,map_some]|ret=>simp only[g3,map_some]
section
variable{S:Sys}{c:b9}{β γ:Type}{Q:Out×St->a_ β}{e:γ->a_ β}{cf:Cf}
end
structure Sa(S:Sys)(c:b9){α δ:Type}[bB δ](fn:FuncId)(A:α->List V)(p:α->Option (Sl δ)):Prop where
 k:S.E.keep fn=true
 o:S.E.own fn=false
 q:(S.prm fn).isNone=true
 h:∀z s,p z=some s->∃e m',c fn ((A z).map .v) []=some ([.own e],m')/\bl m' e=some (cB s)
theorem Sa.mk'{S:Sys}{T:oR}{α δ:Type}[bB δ](rf:RF){fn:Zk}{A:α->Zu}{p:α->a_ (Sl δ)}(h:∀z,Le ((p z).bind λr=>some (cB r)) (cr S (c7 S T) (yS rf.rs) (.rc rf.body,[],start ((A z).map .v) [])))
 (B:T fn=some rf:=by kernel_rfl)(b:S.E.keep fn=true:=by kernel_rfl)(D:S.E.own fn=false:=by kernel_rfl)(c:(S.prm fn).isNone=true:=by kernel_rfl)(G:∀z,(A z).length<=rf.na:=by intro z;exact Nat.le_of_ble_eq_true (by kernel_rfl)):Sa S (c7 S T) fn A p where
 k:=b
 o:=D
 q:=c
 h z s t:=by have a:=h z (cB s) (by rw[t];rfl);change jX S (c7 S T) (yS rf.rs) rf.body [] (start ((A z).map .v) [])=some (cB s)at a;have⟨o,st',d,g1,g2,g3,g4⟩:=SB a;refine⟨d,st'.m,?_,g4⟩;rw[qD B];unfold lU;rw[if_pos (by simpa using G z),g1];cases o with|exit id=>exact absurd rfl (g2 id)|norm=>simp only[g3,map_some]|ret=>simp only[g3,map_some]
section
variable{S:Sys}{c:b9}{β γ δ α:Type}[bB δ]{Q:Out×St->a_ β}{e:γ->a_ β}{cf:Cf}
end
section
variable{S:Sys}{c:b9}{β γ δ:Type}{Q:Out×St->a_ β}{e:γ->a_ β}{cf:Cf}
end
structure UJ(S:Sys)(c:b9){α δ:Type}(fn:FuncId)(A:α->List SV)(O:α->dV)(E:δ->List V)(M:α->δ->dV)(p:α->Option δ):Prop where
 k:S.E.keep fn=true
 o:S.E.own fn=false
 q:(S.prm fn).isNone=true
 h:∀z r,p z=some r->∃m',c fn (A z) (O z)=some ((E r).map .v,m')/\∀m0,mz m' ((O z).map (·.1)) m0=some (xF m0 (M z r))
abbrev Po.of{S:Sys}{c:b9}{α δ:Type}{fn:FuncId}{A:α->aZ SV}{O:α->dV}{E:δ->aZ V}{M:α->δ->dV}{p:α->a_ δ}(z:α)(F:UJ S c fn A O E M p):Po S c (p z):=⟨fn,A z,O z,E,M z,F.k,F.o,F.q,F.h z⟩
section
variable{S:Sys}{c:b9}{α σ:Type}[bB α]{g:Zk}
end
section
variable{S:Sys}{c:b9}{α σ β γ:Type}[bB α]{g:Zk}{Q:Out×St->a_ β}{e:γ->a_ β}{cf:Cf}
end
section
variable{S:Sys}{c:b9}{β γ δ α:Type}[bB δ]{Q:Out×St->a_ β}{e:γ->a_ β}{cf:Cf}
end
def yl(B:Zt)(more:Zl)(xs:Zu):a_ (Zl×Zt):=match B with
 |w::r=>open Classical in if w=xs then some (more|| !r.isEmpty,r)else none|[]=>none
section
variable{S:Sys}{c:b9}{β γ:Type}{Q:Out×St->a_ β}{e:γ->a_ β}{cf:Cf}
end
section
variable{S:Sys}{c:b9}{β γ α:Type}[bB α]{Q:Out×St->a_ β}{e:γ->a_ β}{cf:Cf}
theorem Tu(n u:Nat){s:Sl α}{i:Nat}{a:α}{f:Sl α->a_ γ}(h:∀B,s.put i a=some B->Le ((f B).bind e) (cr S c Q (nx S c n cf λp=>dh {p.st with m:=bR p.st.m u (cB B)} p.d (.v .undef))))
 (D:(gW S c n cf).map (λp=>(p.k,bZ S.N p.st.g p.az,bl p.st.m u,(!p.dr||p.now)))=some (.l (.store (bB.size α)),some [.el u i 0,cv a],some (cB s),true):=by kernel_rfl):Le (((s.put i a).bind f).bind e) (cr S c Q cf):=by
 have⟨p,d,b⟩:=fU D;simp only[ζc]at b;refine rM d ?_ h;rw[b.1];exact Le.of_eq (Ik b.2.1 b.2.2.2 b.2.2.1 (jg a) rfl)
end
theorem Pr{n:Int}(a:0<=n)(h:n<=4611686018427387904):wrap .i64 n=n:=by simp[wrap,IntKind.bits,signed];omega
namespace catX
instance{n:Nat}:OfNat Arg n:=⟨.s n⟩
def ln:K:=.p .lenSl
def ix:K:=.p (.idxS 1)
def bI(o:BinOp):K:=.p (.bin (some .int) none o)
def ld:K:=.r (.load 1 false)
def g1:Zx:=[o1 4 (.k (.bJ)) []]
def g2:Zx:=[o1 5 1 [],o2 6 (bI .lss) [5,.k (.int .i64 0)] []]
def g3:Zx:=[o2 7 (.p (.bad)) [] [],⟨none,none,false,.p .bad,[],[],[]⟩]
def g4:Zx:=[o1 8 1 [],o1 9 0 [],o2 10 (.p (.capSl)) [9] [],o1 11 0 [],o2 12 ln [11] [],o2 13 (bI .sub) [10,12] [],o2 14 (bI .sub) [8,13] [],o1 1 14 []]
def g5:Zx:=[o1 15 1 [],o2 16 (bI .gtr) [15,.k (.int .i64 0)] []]
def g6:Zx:=[o1 17 0 [],o1 18 0 [],o2 19 (.p (.capSl)) [18] [],o2 20 (.p (.slice 1 false true)) [17,19] [],o1 21 1 [],o2 22 (.l (.appMk 1 24 [.bJ])) [20,21] [],o1 23 0 [],o2 24 ln [23] [],o2 25 (.p (.slice 1 false true)) [22,24] [],o1 0 25 []]
def g7:Zx:=[o1 26 0 [],o1 4 26 []]
def grow:RC:=.seq (.ops g1) (.seq (.seq (.ops g2) (.cond (.s 6) (.ops g3) (.skip))) (.seq (.seq (.ops g4) (.seq (.ops g5) (.cond (.s 16) (.ops g6) (.skip)))) (.seq (.ops g7) (.ret))))
section
variable{E:Env}{N:Nat->Zk}{t:Nat}
theorem PU(h:t<=2147483648):∃F',Ex E N grow [.bJ,.int .i64 t] [] .ret F' (if t=0 then[]else[.row 1 (replicate t [.bJ])])/\get F' 4=if t=0 then .bJ else .hsl 0 1 0 0:=by
 have e1:∀call,cD E N call none g1 [.bJ,.int .i64 t] []=some (set [.bJ,.int .i64 t] 4 .bJ,[]):=λcall=>vp (v:=.bJ) rfl (by simp[bF,bz,bn]) dX;have k0:get (set [V.bJ,.int .i64 t] 4 .bJ) 0=.bJ:=rfl;have J:get (set [V.bJ,.int .i64 t] 4 .bJ) 1=.int .i64 t:=rfl;generalize set [V.bJ,.int .i64 t] 4 .bJ=L at *;have U:wrap .i64 ((t:Int)-0)=t:=by rw[Int.sub_zero];exact Pr Za Za
 have D:wrap .i64 ((0:Int)-0)=0:=by decide
 have e2:∃F1,(∀call,cD E N call none g2 L []=some (F1,[]))/\get F1 6=.bool false/\get F1 0=.bJ/\get F1 1=.int .i64 t:=by refine⟨_,λcall=>vp (v:=.int .i64 t) rfl ?_<|vp (v:=.bool false) rfl ?_ dX,?_,?_,?_⟩;simp[bF,bz,bn,J];simp[bF,bz,bn,bu,bI,gq,mT];all_goals simp[bu,k0,J]
 have⟨F1,W,X,G,Y⟩:=e2;have e4:∃w,(∀call,cD E N call none g4 F1 []=some (w,[]))/\get w 0=.bJ/\get w 1=.int .i64 t:=by refine⟨_,λcall=>vp (v:=.int .i64 t) rfl ?_<|vp (v:=.bJ) rfl ?_<|vp (v:=.int .i64 0) rfl ?_<|vp (v:=.bJ) rfl ?_<|vp (v:=.int .i64 0) rfl ?_<|vp (v:=.int .i64 0) rfl ?_<|vp (v:=.int .i64 t) rfl ?_<|vp (v:=.int .i64 t) rfl ?_ dX,?_,?_⟩;simp[bF,bz,bn,Y];simp[bF,bz,bn,bu,G];simp[bF,bz,bn,bu,G9];simp[bF,bz,bn,bu,G];simp[bF,bz,bn,bu,ln,mN];simp only[bF,map_cons,map_nil,bz,bu,bA,reduceEqDiff,if_true,if_false,bn,bI,gq,D];rfl;simp only[bF,map_cons,map_nil,bz,bu,bA,reduceEqDiff,if_true,if_false,bn,bI,gq,U];rfl;simp[bF,bz,bn,bu];all_goals simp[bu,G]
 have⟨w,O,Z,Q⟩:=e4;have e5:∃u,(∀call,cD E N call none g5 w []=some (u,[]))/\get u 16=.bool (decide (t>0))/\get u 0=.bJ/\get u 1=.int .i64 t:=by refine⟨_,λcall=>vp (v:=.int .i64 t) rfl ?_<|vp (v:=.bool (decide (t>0))) rfl ?_ dX,?_,?_,?_⟩;simp[bF,bz,bn,Q];simp[bF,bz,bn,bu,bI,gq,mT];all_goals simp[bu,Z,Q]
 have⟨u,S,T,B,e⟩:=e5;have d:Ex E N (.seq (.ops g2) (.cond (.s 6) (.ops g3) (.skip))) L [] .norm F1 []:=Ex.seq (Ex.cZ W) (Ex.oA X Ex.skip);have e7:∀(F:Zo)(H:bp),∃F',(∀call,cD E N call none g7 F H=some (F',H))/\get F' 4=get F 0:=λF H=>⟨_,λcall=>vp (v:=get F 0) rfl (by simp[bF,bz,bn])<|vp (v:=get F 0) rfl (by simp[bF,bz,bn,bu]) dX,by simp[bu]⟩
 by_cases a:t=0;subst a;have⟨I,b,c⟩:=e7 u [];refine⟨I,?_,by rw[c,B];rfl⟩;exact Ex.seq (Ex.cZ e1) (Ex.seq d (Ex.seq (Ex.seq (Ex.cZ O) (Ex.seq (Ex.cZ S) (Ex.oA T Ex.skip))) (Ex.seq (Ex.cZ b) Ex.ret)));have z:0<t:=Za;have e6:∃C,(∀call,cD E N call none g6 u []=some (C,[.row 1 (replicate t [.bJ])]))/\get C 0=.hsl 0 1 0 0:=by refine⟨_,λcall=>vp (v:=.bJ) rfl ?_<|vp (v:=.bJ) rfl ?_<|vp (v:=.int .i64 0) rfl ?_<|vp (v:=.bJ) rfl ?_<|vp (v:=.int .i64 t) rfl ?_<|jo (v:=.hsl 0 1 0 t) (H1:=[.row 1 (replicate t [.bJ])]) rfl ?_<|vp (v:=.bJ) rfl ?_<|vp (v:=.int .i64 0) rfl ?_<|vp (v:=.hsl 0 1 0 0) rfl ?_<|vp (v:=.hsl 0 1 0 0) rfl ?_ dX,?_⟩;simp[bF,bz,bn,B];simp[bF,bz,bn,bu,B];simp[bF,bz,bn,bu,G9];simp[bF,bz,bn,bu,kV,gM,dO];simp[bF,bz,bn,bu,e];simp only[bF,map_cons,map_nil,bz,bu,bA,reduceEqDiff,if_true,if_false,eV,mkApp];rw[if_neg Za,if_pos ⟨Za,Za,Za,Za⟩];simp;simp[bF,bz,bn,bu,B];simp[bF,bz,bn,bu,ln,mN];simp[bF,bz,bn,bu,kV,gM,dO];simp[bF,bz,bn,bu];simp[bu]
 have⟨C,f,g⟩:=e6;have⟨I,b,c⟩:=e7 C [.row 1 (replicate t [.bJ])];rw[if_neg a,if_neg a];refine⟨I,?_,by rw[c,g]⟩;exact Ex.seq (Ex.cZ e1) (Ex.seq d (Ex.seq (Ex.seq (Ex.cZ O) (Ex.seq (Ex.cZ S) (Ex.mb (by show get u 16=_;rw[T,decide_eq_true z]) (Ex.cZ f)))) (Ex.seq (Ex.cZ b) Ex.ret)))
end
end catX
def xx{α:Type}(s:Sl (Sl α)):Sl α:=if(s.l.flatMap Sl.l).length=0 then .nil else .row (s.l.flatMap Sl.l)
namespace catX
def r1:Zx:=[o1 2 (.k (.bJ)) []]
def r2:Zx:=[o1 3 (.k (.int .i64 0)) []]
def r3:Zx:=[o1 9 0 [],o2 10 ln [9] [],o1 11 (.k (.int .i64 0)) []]
def r4:Zx:=[o2 12 (bI .lss) [11,10] []]
def r5:Zx:=[o2 13 ix [9,11] [],o2 14 ld [13] [],o1 5 14 []]
def r6:Zx:=[o1 15 3 [],o1 16 5 [],o2 17 ln [16] [],o2 18 (bI .add) [15,17] [],o1 3 18 []]
def r7:Zx:=[o1 19 3 [],o2 20 (bI .lss) [19,.k (.int .i64 0)] []]
def r8:Zx:=[o2 21 (.p (.bad)) [] [],⟨none,none,false,.p .bad,[],[],[]⟩]
def r9:Zx:=[o2 22 (bI .add) [11,.k (.int .i64 1)] [],o1 11 22 []]
def L9:RC:=.seq (.ops r4) (.seq (.cond (.s 12) (.skip) (.exit 0)) (.seq (.block 1 (.seq (.ops r5) (.seq (.ops r6) (.seq (.ops r7) (.cond (.s 20) (.ops r8) (.skip)))))) (.ops r9)))
def CT(gid:Nat):Zx:=[o1 23 3 [],o2 24 .c [.f gid,.k (.bJ),23] [],o1 6 24 []]
def Ei:Zx:=[o1 25 0 [],o2 26 ln [25] [],o1 27 (.k (.int .i64 0)) []]
def D_:Zx:=[o2 28 (bI .lss) [27,26] []]
def Ef:Zx:=[o2 29 ix [25,27] [],o2 30 ld [29] [],o1 8 30 []]
def CL:Zx:=[o1 31 6 [],o1 32 8 [],o2 33 (.l (.append 1)) [31,32] [],o1 6 33 []]
def DU:Zx:=[o2 34 (bI .add) [27,.k (.int .i64 1)] [],o1 27 34 []]
def Un:RC:=.seq (.ops D_) (.seq (.cond (.s 28) (.skip) (.exit 2)) (.seq (.block 3 (.seq (.ops Ef) (.ops CL))) (.ops DU)))
def DD:Zx:=[o1 35 6 [],o1 2 35 []]
def cat(gid:Nat):RC:=.seq (.ops r1) (.seq (.ops r2) (.seq (.seq (.ops r3) (.block 0 (.loop L9))) (.seq (.ops (CT gid)) (.seq (.seq (.ops Ei) (.block 2 (.loop Un))) (.seq (.ops DD) (.ret))))))
section
variable{E:Env}{N:Nat->Zk}{F:Zo}{H:bp}{α:Type}[bB α]{s:Sl (Sl α)}{i:Nat}
theorem el{u:Sl α}(h:s.l[i]?=some u):kU 1 (b7 s) (i:Int)=some (.fptr [b7 u]):=by have:=Dd (N:=λn=>n) s .i64 (i:Int) 1 rfl;simp only[bn]at this;rw[this,show idx s (i:Int)=some u from by unfold idx;grind];rfl
theorem Uz(s:Sl α):mN (b7 s)=some (.int .i64 s.l.length):=by have:=xz (N:=λn=>n) s;simpa only[bn]using this
theorem y3:(get F 0=b7 s->∃F',(∀call,cD E N call none r3 F H=some (F',H))/\get F' 9=b7 s/\get F' 10=.int .i64 s.l.length/\get F' 11=.int .i64 0/\∀j,j<9->get F' j=get F j)/\
 (get F 0=b7 s->∃F',(∀call,cD E N call none Ei F H=some (F',H))/\get F' 25=b7 s/\get F' 26=.int .i64 s.l.length/\get F' 27=.int .i64 0/\∀j,j<9->get F' j=get F j):=by
 have h:=Uz s;refine⟨λa=>⟨_,λcall=>vp (v:=b7 s) rfl ?_<|vp (v:=.int .i64 s.l.length) rfl ?_<|vp (v:=.int .i64 0) rfl ?_ dX,?_,?_,?_,?_⟩,λa=>⟨_,λcall=>vp (v:=b7 s) rfl ?_<|vp (v:=.int .i64 s.l.length) rfl ?_<|vp (v:=.int .i64 0) rfl ?_ dX,?_,?_,?_,?_⟩⟩<;>
 first
 |(simp[bF,bz,bn,a];done)|(simp only[bF,map_cons,map_nil,bz,bu,bA,reduceEqDiff,if_true,if_false,bn,ln,h];rfl)|grind|(simp[bu];done)|(intro j t;simp only[bu,bA];grind)
theorem y4{n:Nat}:(get F 11=.int .i64 i->get F 10=.int .i64 n->∃F',(∀call,cD E N call none r4 F H=some (F',H))/\get F' 12=.bool (decide (i<n))/\∀j,j<12->get F' j=get F j)/\
 (get F 27=.int .i64 i->get F 26=.int .i64 n->∃F',(∀call,cD E N call none D_ F H=some (F',H))/\get F' 28=.bool (decide (i<n))/\∀j,j<28->get F' j=get F j):=by
 refine⟨λf t=>⟨_,λcall=>vp (v:=.bool (decide (i<n))) rfl ?_ dX,?_,?_⟩,λf t=>⟨_,λcall=>vp (v:=.bool (decide (i<n))) rfl ?_ dX,?_,?_⟩⟩<;>
 first
 |(simp[bF,bz,bn,bu,bI,gq,mT,f,t];done)|grind|(intro j u;simp only[bu,bA];grind)
theorem y5{u:Sl α}(h:s.l[i]?=some u):(get F 9=b7 s->get F 11=.int .i64 i->∃F',(∀call,cD E N call none r5 F H=some (F',H))/\get F' 5=b7 u/\∀j,j<12->j≠5->get F' j=get F j)/\
 (get F 25=b7 s->get F 27=.int .i64 i->∃F',(∀call,cD E N call none Ef F H=some (F',H))/\get F' 8=b7 u/\∀j,j<28->j≠8->get F' j=get F j):=by
 have e:=el h;have e2:eP H (.load 1 false) [.fptr [b7 u]]=some (b7 u):=by simp[eP,eo,cut,mk]
 refine⟨λf t=>⟨_,λcall=>vp (v:=.fptr [b7 u]) rfl ?_<|vp (v:=b7 u) rfl ?_<|vp (v:=b7 u) rfl ?_ dX,?_,?_⟩,λf t=>⟨_,λcall=>vp (v:=.fptr [b7 u]) rfl ?_<|vp (v:=b7 u) rfl ?_<|vp (v:=b7 u) rfl ?_ dX,?_,?_⟩⟩<;>
 first
 |(simp only[bF,map_cons,map_nil,bz,bu,bA,reduceEqDiff,if_true,if_false,bn,ix,f,t,e,map_some];done)|(simp only[bF,map_cons,map_nil,bz,bu,bA,reduceEqDiff,if_true,if_false,ld];grind)|grind|grind|grind
theorem y6{u:Sl α}{t:Nat}(a:get F 3=.int .i64 t)(b:get F 5=b7 u)(B:t+u.l.length<=2147483648):∃F',(∀call,cD E N call none r6 F H=some (F',H))/\get F' 3=.int .i64 ((t+u.l.length:Nat):Int)/\∀j,j<12->j≠3->get F' j=get F j:=by
 have h:=Uz u;have w:wrap .i64 ((t:Int)+(u.l.length:Int))=((t+u.l.length:Nat):Int):=by rw[Pr Za Za];simp
 refine⟨_,λcall=>vp (v:=.int .i64 t) rfl ?_<|vp (v:=b7 u) rfl ?_<|vp (v:=.int .i64 u.l.length) rfl ?_<|vp (v:=.int .i64 ((t+u.l.length:Nat):Int)) rfl ?_<|vp (v:=.int .i64 ((t+u.l.length:Nat):Int)) rfl ?_ dX,?_,?_⟩;simp[bF,bz,bn,a];simp[bF,bz,bn,bu,b];simp only[bF,map_cons,map_nil,bz,bu,bA,reduceEqDiff,if_true,if_false,bn,ln,h];rfl;simp only[bF,map_cons,map_nil,bz,bu,bA,reduceEqDiff,if_true,if_false,bn,bI,gq,w];rfl;simp[bF,bz,bn,bu];simp[bu];intro j z C;simp only[bu,bA];grind
theorem y7{t:Nat}(a:get F 3=.int .i64 t):∃F',(∀call,cD E N call none r7 F H=some (F',H))/\get F' 20=.bool false/\∀j,j<12->get F' j=get F j:=by refine⟨_,λcall=>vp (v:=.int .i64 t) rfl ?_<|vp (v:=.bool false) rfl ?_ dX,?_,?_⟩;simp[bF,bz,bn,a];simp[bF,bz,bn,bu,bI,gq,mT];simp[bu];intro j u;simp only[bu,bA];grind
theorem y9(B:i<=2147483648):(get F 11=.int .i64 i->∃F',(∀call,cD E N call none r9 F H=some (F',H))/\get F' 11=.int .i64 ((i+1:Nat):Int)/\∀j,j<11->get F' j=get F j)/\
 (get F 27=.int .i64 i->∃F',(∀call,cD E N call none DU F H=some (F',H))/\get F' 27=.int .i64 ((i+1:Nat):Int)/\∀j,j<27->get F' j=get F j):=by
 have t:=wG B;refine⟨λf=>⟨_,λcall=>vp (v:=.int .i64 ((i+1:Nat):Int)) rfl ?_<|vp (v:=.int .i64 ((i+1:Nat):Int)) rfl ?_ dX,?_,?_⟩,λf=>⟨_,λcall=>vp (v:=.int .i64 ((i+1:Nat):Int)) rfl ?_<|vp (v:=.int .i64 ((i+1:Nat):Int)) rfl ?_ dX,?_,?_⟩⟩<;>
 first
 |(simp only[bF,map_cons,map_nil,bz,bu,bA,reduceEqDiff,if_true,if_false,bn,bI,gq,f,t];rfl)|grind|(simp[bu];done)|(intro j u;simp only[bu,bA];grind)
structure Acc(H:bp)(w:V)(acc:List (List V)):Prop where
 el:dD H 1 w=some acc
 gr:∃H1,gB H w=some H1/\H1.length=H.length
 sh:w=.bJ/\acc=[]\/∃id xs,w=.hsl id 1 0 acc.length/\H[id]?=some (.row 1 xs)/\(acc≠[]->xs=acc)
theorem Qo(H:bp)(u:Sl α)(a:bB.size α=1):dD H 1 (b7 u)=some (rows u.l):=by cases u<;>simp[b7,Sl.k,Sl.l,nP,dD,rows,a]
theorem Vc{w:V}{b:Zt}{u:Sl α}(f:bB.size α=1)(a:Acc H w b)(f6:get F 6=w)(B:get F 8=b7 u)(O:b.length+u.l.length<=2147483648):
 ∃F' H' w',(∀call,cD E N call none CL F H=some (F',H'))/\get F' 6=w'/\Acc H' w' (b++rows u.l)/\(u.l=[]->w'=w)/\∀j,j<28->j≠6->get F' j=get F j:=by
 have c:=Qo H u f;have C:(rows u.l).length=u.l.length:=by simp[rows]
 have key:∃H' w',eV H (.append 1) [w,b7 u]=some (w',H')/\Acc H' w' (b++rows u.l)/\(u.l=[]->w'=w):=by have⟨H1,g1,g2⟩:=a.gr;cases d:rows u.l with|nil=>exact⟨H,w,by simp only[eV,a.el,c,d],Zd,λ_=>rfl⟩|cons y z=>have D:b.length+(y::z).length<=2147483648:=Zd;refine⟨H1++[.row 1 (b++y::z)],.hsl H.length 1 0 (b.length+(y::z).length),by simp only[eV,a.el,c,d];grind,?_⟩;have t:(H1++[Ob.row 1 (b++y::z)])[H.length]?=some (.row 1 (b++y::z)):=Zd;refine⟨⟨?_,⟨_,by simp only[gB,t];rfl,Zc⟩,.inr ⟨H.length,b++y::z,Zc,t,λ_=>rfl⟩⟩,λe=>Zd⟩;simp only[dD,t,ζb,Ob.rows,if_true,zero_add,drop_zero];grind
 have⟨H',w',G,I,J⟩:=key;refine⟨_,H',w',λcall=>vp (v:=w) rfl ?_<|vp (v:=b7 u) rfl ?_<|jo (v:=w') (H1:=H') rfl ?_<|vp (v:=w') rfl ?_ dX,?_,I,J,?_⟩
 .simp[bF,bz,bn,f6]
 .simp[bF,bz,bn,bu,B]
 .simp only[bF,map_cons,map_nil,bz,bu,bA,reduceEqDiff,if_true,if_false];exact G
 .simp[bF,bz,bn,bu]
 .simp[bu]
 intro j L Q;simp only[bu,bA]
 grind
def upto(s:Sl (Sl α))(i:Nat):aZ α:=(s.l.take i).flatMap Sl.l
theorem Er{u:Sl α}(h:s.l[i]?=some u):upto s (i+1)=upto s i++u.l:=by unfold upto;obtain⟨t,rfl⟩:=ζe.1 h;rw[List.take_succ_eq_append_getElem t,List.flatMap_append];simp
theorem IQ(s:Sl (Sl α))(i:Nat):(upto s i).length<=(s.l.flatMap Sl.l).length:=by
 have:s.l.flatMap Sl.l=upto s i++(s.l.drop i).flatMap Sl.l:=by unfold upto;rw[<-List.flatMap_append,List.take_append_drop]
 grind
theorem Vk(p:s.l.length<=2147483648)(q:(s.l.flatMap Sl.l).length<=2147483648):∀(d i:Nat)(F:Zo),i+d=s.l.length->get F 9=b7 s->get F 10=.int .i64 s.l.length->get F 11=.int .i64 i->get F 3=.int .i64 (upto s i).length->
 ∃F',k7 E N L9 F H (.exit 0) F' H/\get F' 3=.int .i64 (s.l.flatMap Sl.l).length/\get F' 0=get F 0:=by
 intro d
 induction d with
 |zero=>
  intro i F O Q a w c;have⟨F1,C,G,z⟩:=(y4 (E:=E) (N:=N) (H:=H) (n:=s.l.length)).1 w a;refine⟨F1,k7.stop (Ex.seq (Ex.cZ C) (Ex.sE (Ex.oA (by show get F1 12=_;grind) Ex.exit) Zc)) Zc,?_,z 0 Za⟩
  rw[z 3 Za,c]
  have:upto s i=s.l.flatMap Sl.l:=by unfold upto;grind
  simp_all
 |succ d S=>
  intro i F O Q a w c;have⟨F1,C,G,z⟩:=(y4 (E:=E) (N:=N) (H:=H) (n:=s.l.length)).1 w a;have e:s.l[i]?=some s.l[i]:=ζd Za
  have⟨T,U,W,X⟩:=(y5 (E:=E) (N:=N) (F:=F1) (H:=H) e).1 Zd Zd
  have D:=IQ s (i+1);have I:=Er e;rw[I,ζi]at D;have⟨Y,Z,J,g⟩:=y6 (E:=E) (N:=N) (F:=T) (H:=H) (u:=s.l[i]) (t:=(upto s i).length) Ze W Za
  have⟨L,h,k,f⟩:=y7 (E:=E) (N:=N) (F:=Y) (H:=H) J;have B:∀j,j<12->j≠3->j≠5->get L j=get F j:=λj b l m=>by rw[f j b,g j b l,X j b m,z j b]
  have⟨o,e1,e2,e3⟩:=(y9 (E:=E) (N:=N) (F:=L) (H:=H) (i:=i) Za).1 (by rw[B 11 Za Za Za];exact w)
  have⟨F',g1,g2,g3⟩:=S (i+1) o Za (by rw[e3 9 Za,B 9 Za Za Za];omega) (by rw[e3 10 Za,B 10 Za Za Za];exact a) e2 (by rw[e3 3 Za,f 3 Za,J,I,ζi])
  exact⟨F',k7.step (Ex.seq (Ex.cZ C) (Ex.seq (Ex.mb (by show get F1 12=_;rw[G,decide_eq_true Za]) Ex.skip) (Ex.seq (Ex.block (Ex.seq (Ex.cZ U) (Ex.seq (Ex.cZ Z) (Ex.seq (Ex.cZ h) (Ex.oA k Ex.skip))))) (Ex.cZ e1)))) g1,g2,by rw[g3,e3 0 Za,B 0 Za Za Za]⟩
theorem Vi(b:bB.size α=1)(l:s.l.length<=2147483648)(m:(s.l.flatMap Sl.l).length<=2147483648):∀(d i:Nat)(F:Zo)(H:bp)(w:V),i+d=s.l.length->get F 25=b7 s->get F 26=.int .i64 s.l.length->get F 27=.int .i64 i->get F 6=w->Acc H w (rows (upto s i))->
 ∃F' H' w',k7 E N Un F H (.exit 2) F' H'/\get F' 6=w'/\Acc H' w' (rows (s.l.flatMap Sl.l))/\((s.l.flatMap Sl.l).length=0->w'=w):=by
 intro d
 induction d with
 |zero=>
  intro i F H w Q B z t f6 a;have⟨F1,C,I,S⟩:=(y4 (E:=E) (N:=N) (H:=H) (n:=s.l.length)).2 t z;have:upto s i=s.l.flatMap Sl.l:=by unfold upto;grind
  rw[this]at a;exact⟨F1,H,w,k7.stop (Ex.seq (Ex.cZ C) (Ex.sE (Ex.oA (by show get F1 28=_;grind) Ex.exit) Zc)) Zc,Zd,a,λ_=>rfl⟩
 |succ d T=>
  intro i F H w Q B z t f6 a;have⟨F1,C,I,S⟩:=(y4 (E:=E) (N:=N) (H:=H) (n:=s.l.length)).2 t z;have c:s.l[i]?=some s.l[i]:=ζd Za
  have⟨U,W,X,o⟩:=(y5 (E:=E) (N:=N) (F:=F1) (H:=H) c).2 Zd Zd
  have D:=IQ s (i+1);have J:=Er c;rw[J,ζi]at D;have⟨L,H',w',Y,Z,O,f,p⟩:=Vc (E:=E) (N:=N) (F:=U) (H:=H) (u:=s.l[i]) b a Zd X (by simp only[ga];omega)
  have G:∀j,j<28->j≠6->j≠8->get L j=get F j:=λj b q r=>Zd
  have⟨g,e1,e2,e3⟩:=(y9 (E:=E) (N:=N) (F:=L) (H:=H') (i:=i) Za).2 (by rw[G 27 Za Za Za];exact t)
  have h:rows (upto s i)++rows s.l[i].l=rows (upto s (i+1)):=by rw[J];simp[rows]
  rw[h]at O;have⟨F',H2,k,g1,g2,g3,g4⟩:=T (i+1) g H' w' Za (by rw[e3 25 Za,G 25 Za Za Za];omega) (by rw[e3 26 Za,G 26 Za Za Za];omega) e2 (by rw[e3 6 Za];exact Z) O
  exact⟨F',H2,k,k7.step (Ex.seq (Ex.cZ C) (Ex.seq (Ex.mb (by show get F1 28=_;rw[I,decide_eq_true Za]) Ex.skip) (Ex.seq (Ex.block (Ex.seq (Ex.cZ W) (Ex.cZ Y))) (Ex.cZ e1)))) g1,g2,g3,λe=>(g4 e).trans (f (List.eq_nil_of_length_eq_zero Za))⟩
end
end catX
theorem PN{E:Env}{f J:Zk}{nm:Zk->a_ Nat}{N:Nat->Zk}{gid:Nat}(M:∀f s,nm f=some s->N s=f)(hg:N gid=J)(aa:E.keep J=true)(O:E.own J=true)
 (hf:∃fi,E.ft f=some fi/\bQ ⟨E,nm,fi.ntmps⟩ false fi.body=some (catX.cat gid)/\2<=fi.ntmps/\fi.results=[.tmp 2])
 (ab:∃fi,E.ft J=some fi/\bQ ⟨E,nm,fi.ntmps⟩ false fi.body=some catX.grow/\2<=fi.ntmps/\fi.results=[.tmp 4])
 {α:Type}[bB α](P:bB.size α=1)(s:Sl (Sl α))(R:s.l.length<=2147483648)(ht:(s.l.flatMap Sl.l).length<=2147483648):zh E f [b7 s] (b7 (xx s)):=by
 have⟨fi,p1,p2,p3,p4⟩:=hf;have⟨gi,q1,q2,q3,q4⟩:=ab;generalize hT:(s.l.flatMap Sl.l).length=T at *;have⟨Fg,Z,ad⟩:=catX.PU (E:=E) (N:=N) ht;have⟨n0,L⟩:=Ex.run M q1 q2 (args:=[.bJ,.int .i64 T]) Zd Z (vs:=[if T=0 then .bJ else .hsl 0 1 0 0]) (by rw[q4];simp[gG,ad])
 have Q:∀l,borrows l [] [.bJ,.int .i64 (T:Int)]=some [.bJ,.int .i64 (T:Int)]:=λl=>by unfold borrows;simp only[gX,jM l [] (x:=V.bJ) rfl,jM l [] (x:=V.int .i64 T) rfl]
 have B:∃w C,(∀k,n0<=k->eO E (run E k) J [.bJ,.int .i64 T] []=some (w,C))/\catX.Acc C w []/\(T=0->w=.bJ):=by by_cases d:T=0;refine⟨.bJ,[],λk g=>?_,⟨rfl,⟨[],rfl,rfl⟩,.inl ⟨rfl,rfl⟩⟩,λ_=>rfl⟩;have:=(l8 E g).go _ _ _ _ L;rw[if_pos d,if_pos d]at this;unfold eO jW;rw[if_pos O];simp[Q,this,result,V.scalar];refine⟨.hsl 0 1 0 0,[.row 1 (replicate T [.bJ])],λk g=>?_,⟨by simp[dD,Ob.rows],⟨_,rfl,Zc⟩,.inr ⟨0,_,rfl,rfl,λh=>absurd rfl h⟩⟩,λh=>absurd h d⟩;have:=(l8 E g).go _ _ _ _ L;rw[if_neg d,if_neg d]at this;unfold eO jW;rw[if_pos O];simp only[Q,if_true,this,result,V.scalar,false_eq_true,if_false,qd,List.getElem?_cons_zero,true_and];rw[if_pos (by simp[List.all_replicate,V.scalar])];simp
 have⟨w,C,ai,ae,S⟩:=B;have U:T≠0->rows (s.l.flatMap Sl.l)≠[]:=λh e=>h (by rw[<-hT,<-ga,e];rfl)
 have t:∀c∈rows (s.l.flatMap Sl.l),V.cE c=true:=λc p=>by obtain⟨x,_,rfl⟩:=mem_map.1 p;exact bB.good x
 have g1:∀call,cD E N call none catX.r1 [b7 s] []=some (set [b7 s] 2 .bJ,[]):=λcall=>vp (v:=.bJ) rfl (by simp[bF,bz,bn]) dX
 have k0:get (set [b7 s] 2 .bJ) 0=b7 s:=rfl;generalize set [b7 s] 2 .bJ=F0 at *;have g2:∀call,cD E N call none catX.r2 F0 []=some (set F0 3 (.int .i64 0),[]):=λcall=>vp (v:=.int .i64 0) rfl (by simp[bF,bz,bn]) dX
 have⟨F2,a1,a2,a3,a4,a5⟩:=(catX.y3 (E:=E) (N:=N) (F:=set F0 3 (.int .i64 0)) (H:=[]) (s:=s)).1 Ze
 have⟨F3,b1,b2,b3⟩:=catX.Vk (E:=E) (N:=N) (H:=[]) R Za s.l.length 0 F2 Za a2 a3 a4 (by rw[a5 3 Za,rF];rfl)
 rw[hT]at b2;have aj:get F3 0=b7 s:=Ze
 have q:∃W,(∃n,∀k,n<=k->cD E N (run E k) none (catX.CT gid) F3 []=some (W,C))/\get W 6=w/\get W 0=b7 s:=by refine⟨_,⟨n0,λk g=>vp (v:=.int .i64 T) rfl ?_<|jo (v:=w) (H1:=C) rfl ?_<|vp (v:=w) rfl ?_ dX⟩,?_,?_⟩;simp[bF,bz,bn,b2];simp only[bF,map_cons,map_nil,bz,bu,bA,reduceEqDiff,if_true,if_false,hg,aa,nil_append,append_nil];grind;simp[bF,bz,bn,bu];simp[bu];simp only[bu,bA,reduceEqDiff,if_false];omega
 have⟨W,q,c2,c3⟩:=q;have⟨F5,d1,d2,d3,d4,d5⟩:=(catX.y3 (E:=E) (N:=N) (F:=W) (H:=C) (s:=s)).2 c3;have⟨F6,X,G,e1,e2,e3,e4⟩:=catX.Vi (E:=E) (N:=N) P R Za s.l.length 0 F5 C w Za d2 d3 d4 Ze ae
 have r:∃y,(∀call,cD E N call none catX.DD F6 X=some (y,X))/\get y 2=G:=⟨_,λcall=>vp (v:=G) rfl (by simp[bF,bz,bn,e2])<|vp (v:=G) rfl (by simp[bF,bz,bn,bu]) dX,by simp[bu]⟩
 have⟨y,r,f2⟩:=r;have⟨n,af⟩:=Ex.run M p1 p2 (args:=[b7 s]) (by simp;omega) (Ex.seq (Ex.cZ g1) (Ex.seq (Ex.cZ g2) (Ex.seq (Ex.seq (Ex.cZ a1) (Ex.tF (Ex.loop b1))) (Ex.seq (Ex.ops q) (Ex.seq (Ex.seq (Ex.cZ d1) (Ex.tF (Ex.loop e1))) (Ex.seq (Ex.cZ r) Ex.ret)))))) (vs:=[G]) (by rw[p4];simp[gG,f2])
 refine⟨n,G,X,λid=>∃m,G=.hsl id 1 0 m,af,?_,?_,?_⟩
 .rcases e3.sh with⟨h,I⟩|⟨id,xs,h,I,K⟩
  .have:T=0:=by grind
   rw[h];unfold xx;rw[if_pos Za]
   exact .same _ rfl
  by_cases d:T=0
  .have:=e4 Za
   rw[S d]at this;rw[this]at h;cases h
  have A:=K (U d);subst A;unfold xx;rw[if_neg Za,h]
  show FR X _ (.fsl (bB.size α) (rows (s.l.flatMap Sl.l))) _;rw[P];exact .fsl 1 _ id 0 _ ⟨_,rfl⟩ (by unfold br;rw[I];rfl) Za (λi a b Y D=>by rw[zero_add]at D;rw[Y]at D;cases D;rfl) (λi j a b u v Y D o hv=>by
   rw[zero_add]at D;rw[Y]at D;cases D;rw[o]at hv;cases hv;exact .same _ (gF.1 (t a (mem_of_getElem? Y)) j u o))
 .rintro id ⟨m,h⟩;rcases e3.sh with⟨z,_⟩|⟨ah,xs,z,I,_⟩
  .rw[z]at h;cases h
  rw[z]at h;cases h;unfold br;rw[I];rfl
 refine⟨λid es ys hz hr c p u o=>?_⟩
 have⟨m,h⟩:=hz;rcases e3.sh with⟨z,_⟩|⟨ah,xs,z,I,K⟩
 .rw[z]at h;cases h
 rw[z]at h;cases h
 by_cases d:T=0
 .have:=e4 Za
  rw[S d]at this;rw[this]at z;cases z
 have A:=K (U d);subst A;unfold br at hr;rw[I]at hr;cases hr;have⟨j,hj⟩:=getElem?_of_mem o;exact⟨u,.same _ (gF.1 (t c p) j u hj)⟩
def mW(op:Zl)(x y:Int):Int:=cond op x y
@[simp] theorem Uc(x y:Int):mW true x y=x:=rfl
@[simp] theorem TX(x y:Int):mW false x y=y:=rfl
def Sl.setAt(s:Zg)(p v:Int):a_ Zg:=if 0<=p/\p.toNat<s.l.length then some (s.re (s.l.set p.toNat v))else none
def zR(op:Zl)(es:Nat)(xs:Zt):Zu->a_ Zt
 |[.agg [.int .i64 a,.int .i64 b],.agg [.int .i64 c,.int .i64 d]]=>
  if es=1/\(xs.all λx=>x.length==1)=true/\0<=(mW op c a)/\(mW op c a).toNat<xs.length then
   some (xs.set (mW op c a).toNat [.int .i64 (mW op (wrap .i64 (d-1)) b)])else none
 |_=>none
def sy(op:Zl):BM:=⟨false,zR op⟩
namespace setX
instance{n:Nat}:OfNat Arg n:=⟨.s n⟩
def fa(k:Nat):K:=.p (.fieldAddr k)
def ld:K:=.r (.load 1 false)
def r1:Zx:=[o2 4 (.a .box) [1] [],o2 5 (.a .box) [2] []]
def r2:Zx:=[o1 6 0 [],o2 7 (fa 0) [4] [],o2 8 ld [7] [],o2 9 (fa 1) [4] [],o2 10 ld [9] [],o2 11 (.p (.idxS 1)) [6,8] [],⟨none,none,false,.l (.store 1),[11,10],[],[]⟩]
def r3:Zx:=[o1 6 0 [],o2 7 (fa 0) [5] [],o2 8 ld [7] [],o2 9 (fa 1) [5] [],o2 10 ld [9] [],o2 11 (.p (.bin (some .int) none .sub)) [10,.k (.int .i64 1)] [],o2 12 (.p (.idxS 1)) [6,8] [],⟨none,none,false,.l (.store 1),[12,11],[],[]⟩]
def code(op:Zl):RC:=.seq (.ops r1) (.ops (if op then r3 else r2))
section
variable{E:Env}{N:Nat->Zk}{H:bp}{id off L:Nat}{rs:Zt}
theorem Pt{h:Nat}{x y:V}{i:Nat}{v:V}(B:H[h]?=some (.row 2 [[x,y]]))(a:[x,y][i]?=some v):eP H (.load 1 false) [.hptr h 0 i]=some v:=by match i,a with|0,a=>cases a;simp[eP,eo,B,Ob.rows,cut,mk]|1,a=>cases a;simp[eP,eo,B,Ob.rows,cut,mk]|i+2,a=>simp at a
theorem whole(op:Zl){a b c d:Int}(G:H[id]?=some (.row 1 rs))(e:0<=(mW op c a))(B:(mW op c a).toNat<L){z:V}(D:rs[off+(mW op c a).toNat]?=some [z]):
 ∃F' X,Ex E N (code op) [.hsl id 1 off L,.agg [.int .i64 a,.int .i64 b],.agg [.int .i64 c,.int .i64 d]] H .norm F' ((H++X).set id (.row 1 (rs.set (off+(mW op c a).toNat) [.int .i64 (mW op (wrap .i64 (d-1)) b)]))):=by
 let X:bp:=[.row 2 [[.int .i64 a,.int .i64 b]],.row 2 [[.int .i64 c,.int .i64 d]]]
 have C:=(ζe.1 G).1;have e1:∃F1,(∀call,cD E N call none r1 [.hsl id 1 off L,.agg [.int .i64 a,.int .i64 b],.agg [.int .i64 c,.int .i64 d]] H=some (F1,H++X))/\get F1 0=.hsl id 1 off L/\get F1 4=.hptr H.length 0 0/\get F1 5=.hptr (H.length+1) 0 0:=by refine⟨_,λcall=>jo (v:=.hptr H.length 0 0) (H1:=H++[.row 2 [[.int .i64 a,.int .i64 b]]]) rfl ?_<|jo (v:=.hptr (H.length+1) 0 0) (H1:=H++X) rfl ?_ dX,?_,?_,?_⟩;simp[bF,bz,get,gT,V.cells,V.one,Mk.val];simp[bF,bz,get,bu,set,gT,V.cells,V.one,Mk.val,X];simp[bu];rfl;simp[bu];simp[bu]
 have⟨F1,p1,p2,p3,p4⟩:=e1;have f:(H++X)[id]?=some (.row 1 rs):=by rw[getElem?_append_left C];exact G
 have I:(H++X)[H.length]?=some (.row 2 [[.int .i64 a,.int .i64 b]]):=by simp[X]
 have J:(H++X)[H.length+1]?=some (.row 2 [[.int .i64 c,.int .i64 d]]):=by rw[getElem?_append_right Za];simp[X]
 obtain⟨H1,O⟩:∃H1,H1=H++X:=⟨_,rfl⟩;rw[<-O]at f I J;rw[<-O]at p1
 suffices U:∃F',Ex E N (code op) [.hsl id 1 off L,.agg [.int .i64 a,.int .i64 b],.agg [.int .i64 c,.int .i64 d]] H .norm F' (H1.set id (.row 1 (rs.set (off+(mW op c a).toNat) [.int .i64 (mW op (wrap .i64 (d-1)) b)])))by have⟨F',W⟩:=U;exact⟨F',X,by rw[<-O];exact W⟩
 have u:∀p:Int,0<=p->p.toNat<L->kU 1 (.hsl id 1 off L) p=some (.hptr id (off+p.toNat) 0):=λp h Y=>by unfold kU;rw[if_neg Za];simp[Y]
 have w:∀(q:Nat)(z v:V),rs[q]?=some [z]->v.one=true->eV H1 (.store 1) [.hptr id q 0,v]=some (.undef,H1.set id (.row 1 (rs.set q [v]))):=λq z v D g=>by simp[eV,f,D,DL g,g]
 cases op with
 |false=>
  simp only[TX]at e B D⊢;have Q:=Pt (i:=0) I rfl;have S:=Pt (i:=1) I rfl;have e2:∃t,(∀call,cD E N call none r2 F1 H1=some (t,H1.set id (.row 1 (rs.set (off+a.toNat) [.int .i64 b])))):=by refine⟨_,λcall=>vp (v:=.hsl id 1 off L) rfl ?_<|vp (v:=.hptr H.length 0 0) rfl ?_<|vp (v:=.int .i64 a) rfl ?_<|vp (v:=.hptr H.length 0 1) rfl ?_<|vp (v:=.int .i64 b) rfl ?_<|vp (v:=.hptr id (off+a.toNat) 0) rfl ?_<|jo (v:=.undef) rfl ?_ dX⟩;simp[bF,bz,bn,p2];simp[bF,bz,bn,bu,fa,gJ,p3];simp only[bF,map_cons,map_nil,bz,bu,bA,reduceEqDiff,if_true,if_false,ld,Q,map_some];simp[bF,bz,bn,bu,fa,gJ,p3];simp only[bF,map_cons,map_nil,bz,bu,bA,reduceEqDiff,if_true,if_false,ld,S,map_some];simp only[bF,map_cons,map_nil,bz,bu,bA,reduceEqDiff,if_true,if_false,bn,u a e B,map_some];simp only[bF,map_cons,map_nil,bz,bu,bA,reduceEqDiff,if_true,if_false];exact w _ z _ D rfl
  have⟨t,T⟩:=e2;exact⟨t,Ex.seq (Ex.cZ p1) (Ex.cZ (l:=_) T)⟩
 |true=>
  simp only[Uc]at e B D⊢;have Q:=Pt (i:=0) J rfl;have S:=Pt (i:=1) J rfl;have e2:∃t,(∀call,cD E N call none r3 F1 H1=some (t,H1.set id (.row 1 (rs.set (off+c.toNat) [.int .i64 (wrap .i64 (d-1))])))):=by refine⟨_,λcall=>vp (v:=.hsl id 1 off L) rfl ?_<|vp (v:=.hptr (H.length+1) 0 0) rfl ?_<|vp (v:=.int .i64 c) rfl ?_<|vp (v:=.hptr (H.length+1) 0 1) rfl ?_<|vp (v:=.int .i64 d) rfl ?_<|vp (v:=.int .i64 (wrap .i64 (d-1))) rfl ?_<|vp (v:=.hptr id (off+c.toNat) 0) rfl ?_<|jo (v:=.undef) rfl ?_ dX⟩;simp[bF,bz,bn,p2];simp[bF,bz,bn,bu,fa,gJ,p4];simp only[bF,map_cons,map_nil,bz,bu,bA,reduceEqDiff,if_true,if_false,ld,Q,map_some];simp[bF,bz,bn,bu,fa,gJ,p4];simp only[bF,map_cons,map_nil,bz,bu,bA,reduceEqDiff,if_true,if_false,ld,S,map_some];simp[bF,bz,bn,bu,gq];simp only[bF,map_cons,map_nil,bz,bu,bA,reduceEqDiff,if_true,if_false,bn,u c e B,map_some];simp only[bF,map_cons,map_nil,bz,bu,bA,reduceEqDiff,if_true,if_false];exact w _ z _ D rfl
  have⟨t,T⟩:=e2;exact⟨t,Ex.seq (Ex.cZ p1) (Ex.cZ (l:=_) T)⟩
end
end setX
theorem Ex.runN{E:Env}{nm:Zk->a_ Nat}{N:Nat->Zk}(B:∀f s,nm f=some s->N s=f){f:Zk}{fi:FI}{a:RC}(D:E.ft f=some fi)(b:bQ ⟨E,nm,fi.ntmps⟩ false fi.body=some a){args:Zu}(G:args.length<=fi.ntmps){H H':bp}{F':Zo}
 (h:Ex E N a args H .norm F' H'){vs:Zu}(c:gG E F' H' fi.results=some vs):∃n,Go.VE.run E n (.fn f) args H=some (result vs,H'):=by
 have⟨n,h⟩:=h;refine⟨n+1,?_⟩;have:=Gv (X:=⟨E,nm,fi.ntmps⟩) (call:=Go.VE.run E n) B (lf:=n) a fi.body args H _ b (h n (le_refl _));simp only[Go.VE.run,jm,D,if_pos G,this,c,map_some]
theorem Ii{E:Env}{f:Zk}{nm:Zk->a_ Nat}{N:Nat->Zk}(op:Zl)(o:∀f s,nm f=some s->N s=f)(g:E.keep f=true)(p:E.own f=false)
 (q:∃fi,E.ft f=some fi/\bQ ⟨E,nm,fi.ntmps⟩ false fi.body=some (setX.code op)/\3<=fi.ntmps/\fi.results=[]):mw E f (sy op):=by
 have⟨fi,r,v,y,A⟩:=q;refine⟨g,p,?_,?_,?_⟩
 .intro es t vs ys h;simp only[sy,zR]at h;split at h
  .split at h
   .cases h;simp
   cases h
  cases h
 .intro es vs ys h H Z F w hw Q;simp only[sy,zR]at h;split at h
  .split at h
   next i=>simp at i
   cases h
  cases h
 intro es t vs ys h H Z F id off rs hw S aa G I m;simp only[sy,zR]at h;split at h
 .rename_i a b c d;split at h
  .rename_i i;cases h;obtain⟨rfl,J,K,B⟩:=i;obtain⟨w1,r1,rfl,M,R⟩:=hw.inv;obtain⟨w2,r2,rfl,q3,q4⟩:=R.inv;rw[q4.cU];have e1:=(M.scalar).1 rfl;have e2:=(q3.scalar).1 rfl;subst e1 e2;generalize T:(mW op c a).toNat=P at *;have U:off+P<rs.length:=by omega
   have W:∃z,rs[off+P]?=some [z]:=by have D:t[P]?=some t[P]:=ζd B;have:=(G.2 P _ _ D (by rw[getElem?_take,if_pos B,getElem?_drop,ζd U])).1;have C:=all_eq_true.1 J t[P] (getElem_mem B);simp only[beq_iff_eq]at C;rw[C]at this;have⟨z,m⟩:=List.length_eq_one_iff.1 this.symm;exact⟨z,by rw[ζd U,m]⟩
   have⟨z,Y⟩:=W;have⟨F',X,D⟩:=setX.whole (E:=E) (N:=N) (H:=H) (id:=id) (off:=off) (L:=t.length) op (a:=a) (b:=b) (c:=c) (d:=d) S K (by rw[T];exact B) (z:=z) (by rw[T];exact Y)
   rw[T]at D;have⟨n,hn⟩:=Ex.runN o r v (args:=[.hsl id 1 off t.length,.agg [.int .i64 a,.int .i64 b],.agg [.int .i64 c,.int .i64 d]]) (by simpa using y) D (vs:=[]) (by rw[A];rfl)
   refine⟨n,rs.set (off+P) [.int .i64 (mW op (wrap .i64 (d-1)) b)],X,λk g=>?_,Zc,?_,?_⟩
   .simp only[sy,false_eq_true,if_false];exact(l8 E g).go _ _ _ _ hn
   .have e:((rs.set (off+P) [V.int .i64 (mW op (wrap .i64 (d-1)) b)]).drop off).take (t.set P [V.int .i64 (mW op (wrap .i64 (d-1)) b)]).length=((rs.drop off).take t.length).set P [.int .i64 (mW op (wrap .i64 (d-1)) b)]:=by
     apply List.ext_getElem?;intro j;rw[length_set,getElem?_take,getElem?_set,getElem?_take,getElem?_drop,getElem?_drop,getElem?_set]
     by_cases O:j<t.length
     .rw[if_pos O,if_pos O]
      by_cases Q:P=j
      .subst Q;rw[if_pos rfl,if_pos U,if_pos rfl,if_pos (by simp;omega)]
      rw[if_neg Q,if_neg Za]
     rw[if_neg O,if_neg O,if_neg Za]
    rw[e];exact G.set P (.cons (.same _ rfl) .nil)
   intro x D u l;rcases List.mem_or_eq_of_mem_set D with h|rfl
   .exact I x h u l
   simp at l;subst l;exact⟨_,.same _ rfl⟩
  cases h
 cases h
structure Ir(S:Sys){α δ:Type}[bB δ](g:FuncId)(e:List V)(A:α->List V)(p:Sl δ->α->Option (Sl δ)):Prop where
 f:∃q,S.prm g=some q/\q.part=false/\S.E.keep g=true/\S.E.own g=false/\∀s z s',p s z=some s'->q.go (bB.size δ) (rows s.l) (A z++e)=some (rows s'.l)/\s'=s.re s'.l
theorem Ir.sy{S:Sys}{g:Zk}{op:Zl}(a:S.prm g=some (sy op))(b:S.E.keep g=true)(B:S.E.own g=false):
 Ir S g [] (λz:bf×bf=>[enc z.1,enc z.2]) (λs z=>s.setAt (mW op z.2.proc z.1.proc) (mW op (wrap .i64 (z.2.index-1)) z.1.index))where
 f:=by
  refine⟨_,a,rfl,b,B,λs z w h=>?_⟩;unfold Sl.setAt at h;split at h
  .rename_i hc;cases h;have u:∀l:Zy,s.l≠[]->(s.re l).l=l:=λl t=>(by cases s<;>first|rfl|exact absurd rfl t);have t:s.l≠[]:=λe=>(by rw[e]at hc;simp at hc);refine⟨?_,by rw[u _ t]⟩;rw[u _ t];show zR op 1 (rows s.l) [.agg [.int .i64 z.1.proc,.int .i64 z.1.index],.agg [.int .i64 z.2.proc,.int .i64 z.2.index]]=_;unfold zR;simp only;rw[if_pos ⟨trivial,by simp[rows],hc.1,by rw[ga];exact hc.2⟩];congr 1;unfold rows;rw[map_set];rfl
  cases h
section
variable{S:Sys}{c:b9}{β γ δ α:Type}[bB δ]{Q:Out×St->a_ β}{e:γ->a_ β}{cf:Cf}
theorem S8(n d:Nat){g:Zk}{ev:Zu}{A:α->Zu}{p:Sl δ->α->a_ (Sl δ)}(F:Ir S g ev A p)(z:α){s:Sl δ}{f:Sl δ->a_ γ}
 (h:∀B,p s z=some B->Le ((f B).bind e) (cr S c Q (nx S c n cf λq=>dh {q.st with m:=bR q.st.m d (cB B)} q.d (.v .undef))))
 (D:(gW S c n cf).map (λq=>(q.k,bZ S.N q.st.g q.az,bl q.st.m d,q.dr))=some (.c,some (.v (.clo g [] ev)::.own d::(A z).map .v),some (cB s),false):=by kernel_rfl):Le (((p s z).bind f).bind e) (cr S c Q cf):=by
 have⟨q,b,a⟩:=fU D;simp only[ζc]at a;have⟨C,G,I,J⟩:=a;have⟨O,i,j,k,L,l⟩:=F.f;refine rM b ?_ h;rw[C,J];intro y u;have⟨B,w,u⟩:=ζg.1 u;cases u;have⟨e1,e2⟩:=l s z B w;rw[zW false _ _ _ _ _ _ g (.own d::(A z).map .v++ev.map .v) G rfl];have t:dy ((A z).map SV.v++ev.map .v)=some (A z++ev):=by rw[<-List.map_append];exact oM _
 have o:fF S c q.d false (!false||q.now) (fS q.st.m q.fr) g (.own d::(A z).map .v++ev.map .v) q.st=some (.v .undef,{q.st with m:=bR q.st.m d (cB B)}):=by unfold fF;simp only[k,L,Bool.not_false,Bool.true_or,if_true,false_eq_true,if_false,i,zI,cons_append,I,cB,t,e1,j];have e4:(if cG s.k=true then bK.sl s.k (bB.size δ) (rows B.l)else .sl s.k (bB.size δ) (rows s.l))=.sl B.k (bB.size δ) (rows B.l):=(by rw[e2];cases s<;>rfl);rw[e4]
 rw[o];rfl
end
def snap(w:World):ct:=λb=>match w.heap[b]?with
 |some (.cells c _ _)=>some (.cells c)|some (.map es _)=>some (.map es)|_=>none
theorem NL{w:World}(a:uo (snap w)):cV (snap w) (λ_=>none) [] w where
 dom _ _:=rfl
 imm b x h:=by unfold snap at h;split at h;(next c el fr t=>cases h;exact⟨el,fr,t⟩);(next es d t=>cases h;exact⟨d,t⟩);cases h
 obs id ob h:=by simp at h
 inj id u ob z p B h:=by simp at h
 gl:=a
def fP(I:ct)(xs:Zu)(vs:aZ Zp):Prop:=xs.length=vs.length/\∀(j:Nat)a b,xs[j]?=some a->vs[j]?=some b->eE I a b
theorem fP.nil{I:ct}:fP I [] []:=⟨rfl,Zc⟩
theorem fP.one{I:ct}{x:V}{v:Zp}(h:eE I x v):fP I [x] [v]:=⟨rfl,λj a b c t=>by
 cases j with
 |zero=>simp at c t;subst c t;exact h|succ j=>simp at c⟩
theorem fP.append{I:ct}{xs ys:Zu}{B vs:aZ Zp}(h:fP I xs B)(k:fP I ys vs):fP I (xs++ys) (B++vs):=by refine⟨by simp[h.1,k.1],λj a b c t=>?_⟩;by_cases u:j<xs.length;rw[getElem?_append_left u]at c;rw[getElem?_append_left (by rw[<-h.1];exact u)]at t;exact h.2 j a b c t;rw[getElem?_append_right Za]at c;rw[getElem?_append_right (by rw[<-h.1];omega),<-h.1]at t;exact k.2 _ a b c t
theorem Bl{α β:Type}{f:α->a_ β}:∀{l:aZ α}{r:aZ β},l.mapM f=some r->r.length=l.length/\∀(i:Nat)a b,l[i]?=some a->r[i]?=some b->f a=some b
 |[],r,h=>by simp only[List.mapM_nil,pure_def,ζa]at h;subst h;simp|x::l,r,h=>by simp only[List.mapM_cons,Option.bind_eq_bind,pure_def,ζg,ζa]at h;obtain⟨y,D,ys,B,rfl⟩:=h;have⟨c,w⟩:=Bl B;refine⟨by simp[c],λi a b t u=>?_⟩;cases i with|zero=>simp at t u;subst t u;exact D|succ i=>exact w i a b (by simpa using t) (by simpa using u)
structure rK{H:Type}(b:DataW H->Nat):Prop where
 lit:∀l,1<=b (.lit l)
 str:∀s,s.length+1<=b (.lit (.string s))
 nil:1<=b .nil
 slice:∀es sp,(es.map b).sum+1<=b (.slice es sp)
 agg:∀ps,(ps.map b).sum+1<=b (.agg ps)
class cw(α:Type)where
 wt:α->Nat
 ok:α->Prop
instance:cw Int where
 wt _:=1
 ok n:=-9223372036854775808<=n/\n<=9223372036854775807
instance:cw Zl where
 wt _:=1
 ok _:=True
instance:cw Zq where
 wt s:=s.size+1
 ok s:=s.size<=maxLen
instance{α:Type}[cw α]:cw (Sl α)where
 wt s:=(s.l.map cw.wt).sum+1
 ok s:=(∀x∈s.l,cw.ok x)/\s≠.emp
class Reads(P:Program)(t:TypeId)(α:Type)[bB α][cw α]:Prop where
 size:P.cellsOf t=bB.size α
 rd:∀{H:Type}{enc:TypeId×Value->H}{w:World}{base:Nat}{spare:Nat->Bool}{held:Bool}{fuel:Nat}{cs:List Value}{d:DataW H}{ps:List MemPlace},
  trod enc P w base spare held fuel t cs=some (d,ps)->∃a:α,fP (snap w) (cells a) cs/\cw.ok a/\∀b:DataW H->Nat,rK b->cw.wt a<=b d
 shape:∀{w:World}{r:_root_.Go.Reach}{base:Nat}{v:Value},okWide P w r base t v->if bB.agg α then∃cs,v=.agg cs else v.cells=#[v]
section
variable{P:Program}
theorem qb{w:World}{r:_root_.Go.Reach}{base:Nat}{t:Zm}{v:Zp}{u:_}(a:P.underlying t=some u)(b:∀fs,u≠.struct fs)(B:∀n e,u≠.array n e)(h:okWide P w r base t v):v.cells=#[v]:=by cases v with|agg C=>exfalso;unfold okWide at h;rw[a]at h;split at h;(next fs z=>cases z;exact b _ rfl);(next n e z=>cases z;exact B _ _ rfl);(unfold Cell.okWide at h;rw[a]at h;split at h<;>first|(simp at *;done)|skip);unfold Cell.ok at h;rw[a]at h;cases u<;>simp at h|_=>rfl
theorem Reads.int{t:Zm}(a:P.underlying t=some (.int .i64))(c:P.cellsOf t=1):Reads P t Int where
 size:=c
 rd {H enc w base spare held z D d G} h:=by cases z with|zero=>simp[trod]at h|succ z=>(simp only[trod,a]at h;split at h<;>first|(simp at h;done)|skip);(next u=>cases u);rename_i k I n u;simp only[ζa,TypeDesc.int.injEq]at u;split at h;(next e=>obtain⟨rfl,B⟩:=e;subst u;cases h;exact⟨n,fP.one (.int _ n),show _/\_ by simpa[Lit.wf,IntKind.min,IntKind.max,signed,IntKind.bits]using B,λb C=>C.lit _⟩);simp at h;all_goals (rename_i u;cases u)
 shape h:=by simp only[show bB.agg Int=false from rfl];exact qb a Zc Zc h
theorem Reads.bool{t:Zm}(a:P.underlying t=some .bool)(c:P.cellsOf t=1):Reads P t Zl where
 size:=c
 rd {H enc w base spare held u C d D} h:=by cases u with|zero=>simp[trod]at h|succ u=>(simp only[trod,a]at h;split at h<;>first|(simp at h;done)|skip);(next b _=>cases h;exact⟨b,fP.one (.bool b),trivial,λb B=>B.lit _⟩);all_goals (rename_i z;cases z)
 shape h:=by simp only[show bB.agg Zl=false from rfl];exact qb a Zc Zc h
theorem Reads.str{t:Zm}(a:P.underlying t=some .string)(c:P.cellsOf t=1):Reads P t Zq where
 size:=c
 rd {H enc w base spare held u D d G} h:=by cases u with|zero=>simp[trod]at h|succ u=>(simp only[trod,a]at h;split at h<;>first|(simp at h;done)|skip);(all_goals (first|(rename_i z;cases z;done)|skip));rename_i s _;split at h;(next B=>cases h;exact⟨s,fP.one (.str s),B,λb C=>C.str _⟩);simp at h
 shape h:=by simp only[show bB.agg Zq=false from rfl];exact qb a Zc Zc h
theorem OB{w:World}{a:Addr}{n:Nat}{v:Zp}(h:w.cell? (a.add n)=some v)(B:n=0\/True):∃c el fr,w.heap[a.block]?=some (.cells c el fr)/\c[a.off+n]?=some v/\(n=0->a.spot=none):=by
 unfold World.cell? Addr.add at h;by_cases b:n=0;subst b;simp only[if_true]at h;split at h;rename_i c el fr t;split at h;simp at h;rename_i u;exact⟨c,el,fr,t,h,λ_=>by simpa using u⟩;simp at h;simp only[if_neg b]at h;split at h;next c el fr t=>simp only[Option.isSome_none,false_eq_true,if_false]at h;exact⟨c,el,fr,t,h,λe=>absurd e b⟩
 simp at h
def tU(P:Program)(t:Zm)(α:Type)[bB α][cw α](B:Nat):Prop:=∀{H:Type}{enc:Zm×Zp->H}{w:World}{base:Nat}{c:Nat->Zl}{e:Zl}{u:aZ Zp}{d:DataW H}{z:aZ MemPlace},trod enc P w base c e B t u=some (d,z)->∃a:α,fP (snap w) (cells a) u/\cw.ok a/\∀b:DataW H->Nat,rK b->cw.wt a<=b d
theorem tU.sl{t e:Zm}{α:Type}[bB α][cw α]{J:Nat}(R:P.underlying t=some (.slice e))(V:P.cellsOf e=bB.size α)(Y:0<bB.size α)(p:tU P e α J):tU P t (Sl α) (J+1):=by
 intro H enc w base A K cs d ps h;simp only[trod,R]at h;split at h<;>first|(simp at h;done)|skip
 all_goals (first|(rename_i O;cases O;done)|skip)
 cases h;exact⟨.nil,fP.one .bJ,⟨λx X=>by simp[Sl.l]at X,Zc⟩,λb Z=>Z.nil⟩;rename_i e' a len E O;cases O;split at h
 .rename_i aa;obtain⟨f,aj,h⟩:=ζg.1 h;obtain⟨rest,_,h⟩:=ζf.1 h;cases h;obtain⟨ab,ad⟩:=Bl aj;simp only[length_range]at ab;have X:∀i,i<len->∃x:α,∃u:aZ Zp,w.cells? base (a.add (i*P.cellsOf e)) (P.cellsOf e)=some u/\fP (snap w) (cells x) u/\cw.ok x/\∀b:DataW H->Nat,rK b->∀y,f[i]?=some y->cw.wt x<=b y.1:=λi Q=>(by have:=ad i i (f[i]' Za) (by simp[Q]) (ζd Za);obtain⟨u,l,S⟩:=ζg.1 this;obtain⟨x,X,F,Z⟩:=p (show _=some ((f[i]' Za).1,(f[i]' Za).2)from S);exact⟨x,u,l,X,F,λb T y g=>by rw[ζd Za]at g;cases g;exact Z b T⟩);have ae:∀n,n<=len->∃z:aZ α,z.length=n/\(∀i x,z[i]?=some x->∃u:aZ Zp,w.cells? base (a.add (i*P.cellsOf e)) (P.cellsOf e)=some u/\fP (snap w) (cells x) u)/\(∀x∈z,cw.ok x)/\∀b:DataW H->Nat,rK b->(z.map cw.wt).sum<=(((f.take n).map (·.1)).map b).sum:=(by intro n;induction n with|zero=>intro _;exact⟨[],rfl,Zc,Zc,Zc⟩|succ n ih=>intro hn;obtain⟨z,l,S,h5,h6⟩:=ih Za;obtain⟨x,u,h3,h4,h7,h8⟩:=X n Za;refine⟨z++[x],by simp[l],λi y g=>?_,λy g=>?_,λb T=>?_⟩;rotate_left;rcases mem_append.1 g with g|g;exact h5 y g;simp at g;subst g;exact h7;have I:=h6 b T;have L:=h8 b T _ (ζd Za);rw[List.take_succ,ζd (by omega:n<f.length)];simp only[List.map_append,List.sum_append,Option.toList_some,map_cons,map_nil,List.sum_cons,List.sum_nil];omega;by_cases Q:i<z.length;rw[getElem?_append_left Q]at g;exact S i y g;rw[getElem?_append_right Za]at g;have:i-z.length=0:=(by cases F:i-z.length with|zero=>rfl|succ k=>rw[F]at g;simp at g);rw[this]at g;simp at g;subst g;have:i=n:=Za;subst this;exact⟨u,h3,h4⟩);obtain⟨z,C,ak,af,al⟩:=ae len (le_refl _);refine⟨.row z,fP.one ?_,⟨af,Zc⟩,λb T=>?_⟩;rotate_left;have k:=al b T;rw[take_of_length_le Za]at k;have L:=T.slice (f.map (·.1)) (rest.map (·.1));show(z.map cw.wt).sum+1<=_;omega;show eE _ (.fsl (bB.size α) (rows z)) _;cases q:z with|nil=>subst q;simp at C;subst C;exact .fsl0 _ _ _|cons x0 xr=>rw[<-q];have ar:0<len:=(by rw[<-C,q];simp);have U:∀i x,z[i]?=some x->∀j y,(cells x)[j]?=some y->∃v,w.cell? ((a.add (i*bB.size α)).add j)=some v/\eE (snap w) y v:=(by intro i x Q j y g;obtain⟨u,l,S⟩:=ak i x Q;rw[V]at l;unfold World.cells? at l;split at l;obtain⟨g1,g2⟩:=Bl l;have M:j<bB.size α:=(by rw[<-fH x];exact(ζe.1 g).1);obtain⟨v,s⟩:∃v,u[j]?=some v:=⟨_,ζd (by rw[g1];simpa using M)⟩;exact⟨v,g2 j j v (by simp[M]) s,S.2 j y v g s⟩;simp at l);have aq:∀i j,(a.add (i*bB.size α)).add j=a.add (i*bB.size α+j)\/True:=λ_ _=>.inr trivial;have B:∀i x,z[i]?=some x->∀j y,(cells x)[j]?=some y->∃c el fr v,w.heap[a.block]?=some (.cells c el fr)/\c[a.off+i*bB.size α+j]?=some v/\eE (snap w) y v/\(i=0->j=0->a.spot=none):=(by intro i x Q j y g;obtain⟨v,l,S⟩:=U i x Q j y g;obtain⟨c,el,fr,g1,g2,g3⟩:=OB l (.inr trivial);have Z:(a.add (i*bB.size α)).block=a.block:=(by unfold Addr.add;split<;>rfl);have ho:(a.add (i*bB.size α)).off=a.off+i*bB.size α:=(by unfold Addr.add;split<;>simp_all);rw[Z]at g1;rw[ho]at g2;refine⟨c,el,fr,v,g1,g2,S,?_⟩;rintro rfl rfl;have:=g3 rfl;simpa[Addr.add]using this);have am:∃y,(cells x0)[0]?=some y:=⟨_,ζd (by rw[fH];exact Y)⟩;obtain⟨y0,an⟩:=am;obtain⟨c,el,fr,v0,D,_,_,G⟩:=B 0 x0 (by rw[q];rfl) 0 y0 an;have G:=G rfl rfl;obtain⟨b,o,sp⟩:=a;simp only at G D;subst G;have hI:snap w b=some (.cells c):=(by unfold snap;rw[D]);have W:(rows z).length=len:=(by rw[ga,C]);rw[<-W];refine .fsl _ _ b o E c hI (by rw[W];exact aa.2.1) (λr p=>?_) (λr p y g=>?_) ?_ (λi j r y v p g s=>?_);obtain⟨x,_,rfl⟩:=mem_map.1 p;exact fH x;obtain⟨x,_,rfl⟩:=mem_map.1 p;exact all_eq_true.1 (pN x) y g;obtain⟨N,ah⟩:∃x,z[len-1]?=some x:=⟨_,ζd Za⟩;obtain⟨yl,ao⟩:∃y,(cells N)[bB.size α-1]?=some y:=⟨_,ζd (by rw[fH];omega)⟩;obtain⟨c2,_,_,v2,I,L,_,_⟩:=B (len-1) N ah (bB.size α-1) yl ao;simp only at I L;rw[D]at I;cases I;have:=(Array.getElem?_eq_some_iff.1 L).1;rw[W];have e:len*bB.size α=(len-1)*bB.size α+bB.size α:=(by obtain⟨m,rfl⟩:∃m,len=m+1:=⟨len-1,Za⟩;simp[Nat.add_mul]);omega;simp only[rows,getElem?_map,ζf]at p;obtain⟨x,ap,rfl⟩:=p;obtain⟨c2,_,_,v2,I,L,k3,_⟩:=B i x ap j y g;simp only at I L;rw[D]at I;cases I;rw[s]at L;cases L;exact k3
 simp at h
theorem tU.Ve{t e:Zm}{α:Type}[bB α][cw α]{B:Nat}(c:P.underlying t=some (.slice e))(G:P.cellsOf e=bB.size α)(D:0<bB.size α)(i:∀g,g<B->tU P e α g):tU P t (Sl α) B:=by cases B with|zero=>intro H enc w base a b u d z h;simp[trod]at h|succ f=>exact tU.sl c G D (i f (Nat.lt_succ_self f))
theorem Reads.sl{t e:Zm}{α:Type}[bB α][cw α][Reads P e α](a:P.underlying t=some (.slice e))(b:P.cellsOf t=1)(B:0<bB.size α):Reads P t (Sl α)where
 size:=b
 rd h:=tU.Ve a (Reads.size (α:=α)) B (λ_ _{_ _ _ _ _ _ _ _ _}=>Reads.rd (P:=P) (t:=e) (α:=α)) h
 shape h:=by simp only[show bB.agg (Sl α)=false from rfl];exact qb a Zc Zc h
theorem fP.seg{I:ct}{a xs:Zu}{cs:aZ Zp}{o n:Nat}(h:fP I a (cs.take o))(k:fP I xs ((cs.drop o).take n)):fP I (a++xs) (cs.take (o+n)):=by rw[List.take_add];exact h.append k
theorem fP.fin{I:ct}{xs:Zu}{cs:aZ Zp}{n:Nat}(h:fP I xs (cs.take n))(B:cs.length=n):fP I xs cs:=by rw[take_of_length_le Za]at h;exact h
theorem tU.st{t:Zm}{fs:Array Field}{α:Type}[bB α][cw α]{B:Nat}(i:P.underlying t=some (.struct fs))(j:P.cellsOf t=bB.size α)
 (h:∀{H:Type}{enc:Zm×Zp->H}{w:World}{base:Nat}{c:Nat->Zl}{e:Zl}{cs:aZ Zp}{l:aZ (DataW H×aZ MemPlace)},cs.length=bB.size α->
  (fs.toList.mapM λf=>trod enc P w base c e B f.type ((cs.drop f.offset).take (P.cellsOf f.type)))=some l->∃a:α,fP (snap w) (cells a) cs/\cw.ok a/\∀b:DataW H->Nat,rK b->cw.wt a<=((l.map (·.1)).map b).sum+1):tU P t α (B+1):=by
 intro H enc w base c e cs d L g;simp only[trod,i]at g;split at g<;>first|(simp at g;done)|skip
 all_goals (first|(rename_i u;cases u;done)|skip)
 rename_i C;have⟨l,k,D⟩:=ζf.1 g;cases D;have⟨a,G,I,J⟩:=h (by rw[C,j]) k
 exact⟨a,G,I,λb z=>Nat.le_trans (J b z) (z.agg _)⟩
theorem Reads.of{t:Zm}{fs:Array Field}{α:Type}[bB α][cw α](a:P.underlying t=some (.struct fs))(b:P.cellsOf t=bB.size α)(D:bB.agg α=true)(h:∀B,tU P t α B):Reads P t α where
 size:=b
 rd hr:=h _ hr
 shape hv:=by rw[if_pos D];unfold okWide at hv;rw[a]at hv;have⟨u,c,_⟩:=hv;exact⟨u,c⟩
theorem Reads.st{t:Zm}{fs:Array Field}{α:Type}[bB α][cw α](g:P.underlying t=some (.struct fs))(i:P.cellsOf t=bB.size α)(D:bB.agg α=true)
 (h:∀{H:Type}{enc:Zm×Zp->H}{w:World}{base:Nat}{c:Nat->Zl}{e:Zl}{B:Nat}{cs:aZ Zp}{l:aZ (DataW H×aZ MemPlace)},cs.length=bB.size α->
  (fs.toList.mapM λf=>trod enc P w base c e B f.type ((cs.drop f.offset).take (P.cellsOf f.type)))=some l->∃a:α,fP (snap w) (cells a) cs/\cw.ok a/\∀b:DataW H->Nat,rK b->cw.wt a<=((l.map (·.1)).map b).sum+1):Reads P t α:=
 Reads.of g i D λB=>by cases B with|zero=>intro H enc w base c e cs d u h;simp[trod]at h|succ f=>exact tU.st g i h
theorem Reads.arg{t:Zm}{α:Type}[bB α][cw α][Reads P t α]{H:Type}{B:Zm×Zp->H}{w:World}{base:Nat}{c:Nat->Zl}{e:Zl}{r:_root_.Go.Reach}{b:Nat}{v:Zp}{d:DataW H}{ps:aZ MemPlace}
 (f:okWide P w r b t v)(h:Trod B P w base c e t v d ps):∃a:α,bH (snap w) (λ_=>none) (enc a) v/\cw.ok a/\∀b:DataW H->Nat,rK b->cw.wt a<=b d:=by
 have⟨I,h⟩:=h;have⟨a,⟨g,z⟩,D,G⟩:=Reads.rd (P:=P) (t:=t) (α:=α) h;have u:=Reads.shape (P:=P) (t:=t) (α:=α) f;refine⟨a,?_,D,G⟩
 cases C:bB.agg α with
 |true=>rw[C,if_pos rfl]at u;obtain⟨O,rfl⟩:=u;rw[Ag C];refine .c _ _ (.agg _ _ (by simpa[Value.cells]using g) (λj x y J L=>z j x y J (by simpa[Value.cells]using L)))|false=>rw[C]at u;simp only[false_eq_true,if_false]at u;rw[u]at z;rw[vz C]at z;exact .c _ _ (z 0 _ _ rfl rfl)
end
end Go.VE
namespace Go.VE
variable[bV]
open Go.ChangeShapes Go.WideShapes Go.ChangeAt Go.RowKit
structure Hj(w w':World):Prop where
 kept:w.keptBut w' (λ_=>False)
 fz:∀a:Addr,a.block<w.heap.size->w'.frozen? a=w.frozen? a
theorem EN{I I':ct}{μ':Mu}{H':bp}{w w':World}(s:Step I (λ_=>none) [] w I' μ' H' w'):Hj w w':=by
 have z:∀b,b<w.heap.size->w'.heap[b]?=w.heap[b]?:=λb u=>s.frame b u (by rintro⟨id,p,ob,h,_⟩;simp at h);refine⟨⟨s.os,s.out.out,λi B=>?_⟩,λa u=>?_⟩;rw[z i B];split;next c t=>rw[c]at t;cases t;exact⟨rfl,rfl,rfl,λ_ _=>rfl⟩
 next c t=>rw[c]at t;cases t;exact .inr ⟨rfl,rfl⟩
 rfl;unfold World.frozen?;rw[z _ u]
theorem G4{P:Program}{call:dw}(a:ki P call){f:Zk}{args:Zu}{b:Zl}{H':bp}(h:call (.fn f) args []=some (.bool b,H')){w:World}{vs:aZ Zp}
 (B:uo (snap w))(d:cK (snap w) (λ_=>none) args vs):Calls P f vs.toArray w λe w'=>e=.returned (.bool b)/\Hj w w':=by
 intro C;have k:=((a.fn f args [] _ H' h).2 (snap w) (λ_=>none) w vs (NL B) d)
 obtain⟨e,w',fr,⟨u,I',μ',rfl,g,_,D⟩,t,i,G⟩:=k.2 C (by simp[Fence.room,fr])
 refine⟨_,w',fr,⟨?_,EN D⟩,t.comes,i,G⟩
 cases g with
 |c _ _ z=>cases z;rfl
variable{P:Program}{H:Type}{enc:Zm×Zp->H}
theorem EL{B:aZ Zm}{vs:aZ Zp}{ds:aZ (DataW H)}{ps:aZ MemPlace}{w w':World}(f:Hj w w')(h:TrodAll enc P w 0 (λ_=>true) true B vs ds ps):TrodAll enc P w' 0 (λ_=>true) true B vs ds ps:=by
 have z:∀p:MemPlace,p.block<w.heap.size->w.sameAt w' p:=by intro p e;have k:=f.kept.2.2 p.block e;cases p with|cell b off=>simp only[World.sameAt,World.cell?];simp only[MemPlace.block]at k e;split at k;rename_i c t fr c' D C a u;rw[a,u];simp only;have:=k.2.2.2 off (λx=>x);simpa using this;(next a u=>rw[a,u]);rw[k]|map b=>simp only[World.sameAt];simp only[MemPlace.block]at k e;split at k;rename_i c t fr c' D C a u;obtain⟨rfl,rfl,L,G⟩:=k;rw[a,u];have:c'=c:=Array.ext_getElem? λi=>G i (λx=>x);rw[this];rename_i a u;rcases k with k|⟨rfl,rfl⟩;exact k.elim;rw[a,u];exact k
 induction B generalizing vs ds ps with|nil=>cases vs<;>cases ds<;>simp_all [TrodAll]|cons t B I=>cases vs with|nil=>simp[TrodAll]at h|cons v vs=>cases ds with|nil=>simp[TrodAll]at h|cons d ds=>obtain⟨p,q,⟨n,a⟩,u,rfl⟩:=h;exact⟨p,q,⟨n,DataW.trod_carry n _ _ _ a λx J=>z x (DataW.trod_lt n _ _ _ a x J)⟩,I u,rfl⟩
theorem LG{T:Zm->Prop}(K:Kids P T)(l:∀t e,T t->P.underlying t=some (.slice e)->0<P.cellsOf e){f:Func}{s:ChangeSpec}{apart c a d:Zl}{W G:World}{args:Array Zp}{ds i:aZ (DataW H)}{before:aZ MemPlace}{tb:Zm}
 (m:∀t∈f.params.toList,T t)(B:s.vars=[])(D:s.fn H (ds++i)={results:=[.lit (.bool true)],args:=ds})(J:f.resultTypes=#[tb])(U:P.underlying tb=some .bool)
 (Y:DataW.Whole enc P f.params.toList s.vars apart W args.toList ds i before)(g:Hj W G):s.post enc P f apart c a d W args (.bool true) G:=by
 have z:=Y;obtain⟨p,q,Z,S,rfl,L,O⟩:=Y;rw[B]at S;obtain⟨rfl,rfl⟩:=trodVars_none S;have j:∀(b:Nat)(w:Nat->Zl)(n:Zl),TrodAll enc P G b w n f.resultTypes.toList ((Value.bool true).resultList f.resultTypes.size) (s.fn H (ds++[])).results []:=λ_ _ _=>by rw[J,D];exact trodAll_cons_mk (shut_bool U _) trodAll_mk0
 have X:∀w:Nat->Zl,(∀x∈p++[],w x.block=true)->TrodAll enc P G 0 w true f.params.toList args.toList (s.fn H (ds++[])).args p:=λw Q=>by rw[D];exact TrodAll.respare K l m (EL g Z) (λx u=>Q x (List.mem_append_left _ u))
 have k:∀w:Nat->Zl,DataW.TrodVars enc P G w s.vars (s.fn H (ds++[])).vars []:=λw=>by rw[D,B];rfl
 have C:=λx u=>z.lt x u
 refine⟨ds,[],p++[],[],p,[],z,j _ _ _,X _ λx u=>by simpa using C x u,k _,World.keptBut_mono (λx u=>u.elim) g.kept,λ_=>⟨ok_one J rfl (okWide_bool_mk U _),?_⟩⟩
 refine⟨_,_,[]++p++[],⟨[]++p,[],trodAll_append (X _ λ_ _=>rfl) (j _ _ _),k _,rfl,λb off u=>?_,λh=>by simpa using O h⟩,λx u _=>by simpa using u⟩
 have I:MemPlace.cell b off∈p++[]:=by simpa using u
 rw[g.fz _ (C _ I)];exact L b off I
end Go.VE
namespace Go.VE
variable[bV]
instance:cw U8 where
 wt _:=1
 ok n:=0<=n.v/\n.v<=255
theorem Reads.u8{P:Program}{t:Zm}(a:P.underlying t=some (.int .u8))(c:P.cellsOf t=1):Reads P t U8 where
 size:=c
 rd {H enc w base spare held z D d G} h:=by cases z with|zero=>simp[trod]at h|succ z=>(simp only[trod,a]at h;split at h<;>first|(simp at h;done)|skip);(next u=>cases u);rename_i k I n u;simp only[ζa,TypeDesc.int.injEq]at u;split at h;(next e=>obtain⟨rfl,B⟩:=e;subst u;cases h;exact⟨⟨n⟩,fP.one (.int _ n),show _/\_ by simpa[Lit.wf,IntKind.min,IntKind.max,signed,IntKind.bits]using B,λb C=>C.lit _⟩);simp at h;all_goals (rename_i u;cases u)
 shape h:=by simp only[show bB.agg U8=false from rfl];exact qb a Zc Zc h
theorem J5{m:Tb bK}{n:Nat}{rs:Zw}{b:Zl}(h:c6 m n rs=some [.bool b]):rs=[.v (.bool b)]:=by
 cases rs with
 |nil=>cases n<;>simp[c6]at h|cons x r=>
  have c:shut m n x=some (.bool b)/\c6 m n r=some []:=by unfold c6 at h;split at h;(next y s c u=>simp only[ζa,List.cons.injEq]at h;obtain⟨rfl,rfl⟩:=h;exact⟨c,u⟩);cases h
  have u:r=[]:=by cases r with|nil=>rfl|cons y r=>have:=c.2;unfold c6 at this;split at this<;>simp at this
  subst u;have t:=c.1
  cases x with
  |v y=>unfold shut at t;simp only[ζa]at t;rw[t]|own d=>unfold shut at t;split at t<;>simp only[ζa,reduceCtorEq]at t;rename_i k es w _;cases k<;>simp[nP]at t|ptr d o=>cases n with|zero=>simp[shut]at t|succ n=>(unfold shut at t;split at t<;>try cases t);(split at t<;>try cases t);split at t<;>cases t
  |mp d=>unfold shut at t;split at t<;>cases t|clo f a b=>cases n with|zero=>simp[shut]at t|succ n=>unfold shut at t;split at t<;>cases t
  |tup l=>cases n with|zero=>simp[shut]at t|succ n=>unfold shut at t;have⟨_,_,e⟩:=ζf.1 t;cases e
  |_=>cases n<;>simp[shut]at t
theorem NS{S:Sys}{T:oR}(B:qj S T)(D:∀f a b xs,S.items f a b=some xs->fu S f a b xs){f:Zk}{xs:Zu}(c:V.cE xs=true)(h:mE (c7 S T) f xs=some [.bool true]):
 ∃n H',run S.E n (.fn f) xs []=some (.bool true,H'):=by
 unfold mE at h;have⟨⟨rs,m⟩,d,t⟩:=ζg.1 h;have:=J5 t;simp only at this;subst this;exact PL B D c d rfl
theorem Jz{S:Sys}{T:oR}{P:Program}(B:qj S T)(D:∀f a b xs,S.items f a b=some xs->fu S f a b xs)(c:∀n,ki P (run S.E n)){f:Zk}{xs:Zu}(d:V.cE xs=true)(h:mE (c7 S T) f xs=some [.bool true])
 {w:World}{args:Array Zp}(G:uo (snap w))(g:cK (snap w) (λ_=>none) xs args.toList):Calls P f args w λe w'=>e=.returned (.bool true)/\Hj w w':=by
 have⟨n,H',i⟩:=NS B D d h;have:=G4 (c n) i G g;simpa using this
theorem Reads.E_{P:Program}{t:Zm}{α:Type}[bB α][cw α][Reads P t α]{H:Type}{B:Zm×Zp->H}{w:World}{base b:Nat}{c:Nat->Zl}{e:Zl}{v:Zp}{d:DataW H}{ps:aZ MemPlace}{params:Array Zm}{args:Array Zp}(D:∀(j:Nat)t v,params[j]?=some t->args[j]?=some v->okWide P w .any b t v)(j:Nat)(f:params[j]?=some t)(G:args[j]?=some v)(h:Trod B P w base c e t v d ps):∃a:α,bH (snap w) (λ_=>none) (enc a) v/\cw.ok a/\∀b:DataW H->Nat,rK b->cw.wt a<=b d:=Reads.arg (D j t v f G) h
theorem cT(n:Nat)(h:n<9223372036854775807):wrap .i64 ((n:Int)+1)=((n+1:Nat):Int):=by simp[wrap,IntKind.bits,signed];omega
theorem gU(n:Int)(a:-9223372036854775808<=n)(B:n<=9223372036854775807):wrap .i64 n=n:=by simp[wrap,IntKind.bits,signed];omega
section
variable{α β:Type}{P:β->Prop}
theorem mK(s:Sl α)(i:Nat):idx s (i:Int)=s.l[i]?:=by unfold idx;rw[if_pos Za];rfl
theorem bM{s:Sl α}{i:Nat}(h:i<s.l.length):idx s (i:Int)=some s.l[i]:=by rw[mK,ζd h]
theorem NG{s:Sl α}{i:Int}(a:0<=i):idx s i=s.l[i.toNat]?:=by unfold idx;rw[if_pos a]
theorem qY(s:Sl α)(i:Nat)(h:i<=s.l.length):∃x,fQ s none (some (i:Int))=some x/\x.l=s.l.take i:=by unfold fQ dO;simp only[Option.getD_none,getD_some];rw[if_pos Za];cases s<;>simp[Sl.l]at h⊢ <;>simp[h]
theorem bS{γ:Type}{a b:γ}:bq true a b=a:=rfl
theorem bX{γ:Type}{a b:γ}:bq false a b=b:=rfl
theorem kA(a b:Zl):bq a (some b) (some false)=some (a&&b):=by cases a<;>rfl
theorem kI(a b:Zl):bq a (some true) (some b)=some (a||b):=by cases a<;>rfl
theorem qC(a:Zl)(x y:β):bq a (some x) (some y)=some (if a then x else y):=by cases a<;>rfl
end
def place{α:Type}(f:α->Zl)(l:aZ α):Int:=match l.findIdx? f with
 |some i=>i|none=>-1
theorem zL{α:Type}{f:α->Zl}{l:aZ α}{i:Nat}(h:∀j,j<i->∀x,l[j]?=some x->f x=false)(B:l.length<=i):l.findIdx? f=none:=by rw[List.findIdx?_eq_none_iff];intro x u;have⟨j,t⟩:=getElem?_of_mem u;have:j<l.length:=(ζe.1 t).1;exact h j Za x t
theorem Hx{α:Type}{f:α->Zl}{l:aZ α}{i:Nat}{x:α}(h:∀j,j<i->∀x,l[j]?=some x->f x=false)(B:l[i]?=some x)(D:f x=true):l.findIdx? f=some i:=by rw[List.findIdx?_eq_some_iff_getElem];obtain⟨t,rfl⟩:=ζe.1 B;exact⟨t,D,λj u=>by rw[h j u _ (ζd Za)];simp⟩
theorem tM{α:Type}{step:Int->a_ (Fw Int Unit Int)}{s:Sl α}{p:α->a_ Zl}{f:α->Zl}(a:∀x∈s.l,p x=some (f x))(O:s.l.length<9223372036854775807)
 (J:∀i,step i=bq (decide (i<len s)) ((idx s i).bind λB=>(p B).bind λD=>bq D (some (.r i)) (some (.n (wrap .i64 (i+1))))) (some (.x ()))):
 (bT step 0).bind (Fw.elim (λ_=>some (-1)) (λe=>some e))=some (place f s.l):=by
 refine Wp.eq (ei (λi:Int=>∃n:Nat,i=n/\n<=s.l.length/\∀j,j<n->∀x,s.l[j]?=some x->f x=false) (λi:Int=>s.l.length-i.toNat) ⟨0,rfl,zero_le _,λj G=>absurd G Za⟩ ?_)
 rintro i ⟨n,rfl,I,u⟩;rw[J,bU];refine⟨λh=>?_,λh=>?_⟩
 .have t:n<s.l.length:=by simpa[len]using h
  rw[bM t,ζb,a _ (getElem_mem t),ζb,bU];refine⟨λw=>?_,λw=>?_⟩
  .rw[bg];show Wp (some (n:Int)) _;rw[bg];unfold place;rw[Hx u (ζd t) w]
  rw[bg];refine⟨⟨n+1,cT n Za,Za,λj G x z=>?_⟩,?_⟩
  .by_cases e:j=n
   .subst e;rw[ζd t]at z;cases z;exact w
   exact u j Za x z
  rw[cT n Za];simp;omega
 have C:s.l.length<=n:=by simpa[len]using h
 rw[bg];show Wp (some (-1:Int)) _;rw[bg];unfold place;rw[zL u C]
theorem tB{α:Type}(f:α->Zl)(l:aZ α):decide (place f l>=0)=l.any f:=by unfold place;cases h:l.findIdx? f with|none=>rw[List.findIdx?_eq_none_iff]at h;have:l.any f=false:=(by rw[List.any_eq_false];intro x t;simp[h x t]);rw[this];rfl|some i=>have⟨u,w,_⟩:=List.findIdx?_eq_some_iff_getElem.1 h;have:l.any f=true:=List.any_eq_true.2 ⟨_,getElem_mem u,w⟩;rw[this];simp
theorem N4{α σ ε ρ:Type}{step:α->σ->a_ (Fw σ ε ρ)}{l:aZ α}(I:Nat->σ->Prop)(D:ε->Prop)(G:ρ->Prop){s:σ}(d:I 0 s)
 (h:∀i a s,l[i]?=some a->I i s->Wp (step a s) λw=>match w with|.n B=>I (i+1) B|.x e=>D e|.r b=>G b):
 Wp (nv step l s) λw=>match w with|.n B=>I l.length B|.x e=>D e|.r b=>G b:=by
 have key:∀(r:aZ α)(i:Nat)(s:σ),l.drop i=r->i<=l.length->I i s->Wp (nv step r s) λw=>match w with|.n B=>I l.length B|.x e=>D e|.r b=>G b:=by intro r;induction r with|nil=>intro i s t C z;have:i=l.length:=(by have:=List.drop_eq_nil_iff.1 t;omega);subst this;exact⟨_,rfl,z⟩|cons a r J=>intro i s t C z;have u:i<l.length:=(by apply Classical.byContradiction;intro Q;rw[List.drop_eq_nil_of_le Za]at t;cases t);have L:=List.drop_eq_getElem_cons u;rw[L]at t;simp only[List.cons.injEq]at t;have⟨w,O,c⟩:=h i a s (by rw[ζd u,t.1]) z;simp only[nv,O,ζb];cases w with|n B=>exact J (i+1) B t.2 Za c|x e=>exact⟨_,rfl,c⟩|r b=>exact⟨_,rfl,c⟩
 exact key l 0 s rfl (zero_le _) d
theorem wM{α σ ε ρ γ:Type}{step:α->σ->a_ (Fw σ ε ρ)}{l:aZ α}{fn:σ->a_ γ}{B:ε->a_ γ}{fr:ρ->a_ γ}{P:γ->Prop}(I:Nat->σ->Prop){s:σ}(c:I 0 s)
 (h:∀i a s,l[i]?=some a->I i s->Wp (step a s) λw=>match w with|.n D=>I (i+1) D|.x e=>Wp (B e) P|.r b=>Wp (fr b) P)
 (G:∀s,I l.length s->Wp (fn s) P):Wp ((nv step l s).bind (Fw.vI fn B fr)) P:=by
 rw[cR];refine(N4 I _ _ c h).mono ?_;intro w t
 cases w with
 |n s=>exact G s t|x e=>exact t|r b=>exact t
end Go.VE
