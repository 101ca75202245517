/-
 Certificates; functions by hand; readings; plain laws.
-/
import Derived.JoinedCond
import Derived.ReadAgain
import Derived.WalkKit
import Derived.ProofKit
import Derived.OpenShut
import Derived.ChangeSame
import Derived.RowKit3
import Derived.Lib.LaidTab
import Derived.Test.YtfjedefhlilglaaGreatDoorV2
import Derived.Test.YtfjedefhlilglaaGreatDoorN2
import Derived.Test.YtfjedefhlilglaaGreatDoorS1
set_option linter.all false
open Nat(beq ble le_refl reduceEqDiff zero_add zero_le)
open Option(getD_some map_some pure_def)
open List(all_cons all_eq_true append_assoc append_nil cons_append drop_zero getElem?_append_left getElem?_append_right getElem?_drop getElem?_map getElem?_of_mem getElem?_set getElem?_set_ne getElem?_set_self getElem?_take getElem_mem length_cons length_map length_range length_set length_singleton map_cons map_nil map_set mem_append mem_map mem_of_getElem? mem_range nil_append range range' replicate set_set take_of_length_le)
open Classical(choose_spec)
open Bool(false_eq_true)
open Go.IntKind(i64 signed wrap)
open Empty(elim)
open Go.DataW(Trod TrodAll trod)
open Go.Value(okWide)
open Go.World(cell? sameAt)
namespace Go.VE
variable[b8]
abbrev Cf:=Fo×aZ Fm×St
section
variable(S:Sys)(c:cm){β:Type}(Q:Out×St->a_ β)
noncomputable abbrev cg(cf:Cf):a_ β:=rn S c Q cf.1 cf.2.1 cf.2.2
noncomputable def jc(n:Nat)(cf:Cf):Cf:=(iz S c n cf.1 cf.2.1 cf.2.2).getD cf
structure GX where
 dr:Bool
 fr:List Nat
 d:Option Nat
 gd:Option (Nat×Bool)
 now:Bool
 k:K
 az:List Arg
 dd:List Nat
 l:List RO
 fs:List Fm
 st:St
noncomputable def fT(n:Nat)(cf:Cf):a_ GX:=match iz S c n cf.1 cf.2.1 cf.2.2 with
 |some (.ops dr fr (⟨d,gd,now,k,az,dd,[]⟩::l),fs,st)=>match wanted st.g gd with
  |some true=>some ⟨dr,fr,d,gd,now,k,az,dd,l,fs,st⟩|_=>none
 |_=>none
noncomputable def nx(n:Nat)(cf:Cf)(φ:GX->St):Cf:=match fT S c n cf with
 |some p=>(.ops p.dr (if p.dr then(match p.k with|.p _|.r _=>p.fr|_=>match p.d with|some d=>d::p.fr|none=>p.fr)else p.fr) p.l,p.fs,qM p.dd (φ p))|none=>cf
end
def wI(s:Nat)(b:X')(cf:Cf):Cf:=(cf.1,cf.2.1,{cf.2.2 with g:=bQ cf.2.2.g s (.v (.bool b))})
def jmp(k:Nat)(fr:S')(cf:Cf)(st:St):Cf:=match cf with
 |(.ops dr _ l,fs,_)=>(.ops dr fr (l.drop k),fs,st)|_=>(.rt,[],st)
def uJ:RC->S'->Rd->St->Cf
 |c,[],fs,st=>(.rc c,fs,st)|.seq a b,i::p,fs,st=>if i=0 then uJ a p (.seq b::fs) st else uJ b p fs st|.cond _ a b,i::p,fs,st=>if i=0 then uJ a p fs st else uJ b p fs st|.block id c,_::p,fs,st=>uJ c p (.blk id::fs) st|.gh _ c,_::p,fs,st=>uJ c p fs st|.hg c g,_::p,fs,st=>uJ c p (.gst g::fs) st|.loop c,_::p,_,st=>uJ c p [] st|.each _ _ _ b,_::p,_,st=>uJ b p [] st|c,_,fs,st=>(.rc c,fs,st)
section
variable{S:Sys}{c:cm}{β γ δ α:Type}{Q:Out×St->a_ β}{e:γ->a_ β}{cf:Cf}
theorem kf{n:Nat}{p:GX}(h:fT S c n cf=some p):iz S c n cf.1 cf.2.1 cf.2.2=some (.ops p.dr p.fr (⟨p.d,p.gd,p.now,p.k,p.az,p.dd,[]⟩::p.l),p.fs,p.st)/\wanted p.st.g p.gd=some true:=by unfold fT at h;grind
theorem qi{n:Nat}{m:a_ δ}{φ:δ->GX->St}{f:δ->a_ γ}{p:GX}(hp:fT S c n cf=some p)(B:Le (m.bind λx=>some (φ x p)) (f_ S c p.dr p.fr ⟨p.d,none,p.now,p.k,p.az,[],[]⟩ p.st))
 (h:∀x,m=some x->Le ((f x).bind e) (cg S c Q (nx S c n cf (φ x)))):Le ((m.bind f).bind e) (cg S c Q cf):=by
 have⟨a,u⟩:=kf hp;refine DR a rfl u B λx w=>?_
 have:=h x w;simp[nx,hp]at this;omega
theorem wJ{n:Nat}{m:a_ β}{φ:GX->St}{p:GX}(hp:fT S c n cf=some p)(B:f_ S c p.dr p.fr ⟨p.d,none,p.now,p.k,p.az,[],[]⟩ p.st=some (φ p))
 (h:Le m (cg S c Q (nx S c n cf φ))):Le m (cg S c Q cf):=by
 have⟨a,u⟩:=kf hp;refine sV a rfl u B ?_;simp[nx,hp]at h;omega
theorem eR{α β:Type}{o:a_ α}{f:α->β}{b:β}(h:o.map f=some b):∃a,o=some a/\f a=b:=ζf.1 h
theorem zl(n:Nat){m:a_ β}{B:Cf}(h:Le m (cg S c Q B))(D:iz S c n cf.1 cf.2.1 cf.2.2=some B:=by kernel_rfl):Le m (cg S c Q cf):=B7 D h
theorem bB(n s:Nat){t:X'}{x y:a_ γ}(B:Le (x.bind e) (cg S c Q (wI s true (jc S c n cf))))(D:Le (y.bind e) (cg S c Q (wI s false (jc S c n cf))))
 (G:(iz S c n cf.1 cf.2.1 cf.2.2).map (λp=>bn p.2.2.g s)=some (some (.v (.bool t))):=by kernel_rfl):Le ((bl t x y).bind e) (cg S c Q cf):=by
 have⟨p,u,a⟩:=eR G;have b:jc S c n cf=p:=by unfold jc;grind
 rw[b]at B D;refine B7 u ?_;cases t
 .have:wI s false p=p:=by unfold wI;rw[qT a]
  rw[this]at D;exact D
 have:wI s true p=p:=by unfold wI;rw[qT a]
 rw[this]at B;exact B
theorem cZ(n s:Nat){t:X'}{x y:a_ γ}(B:Le (x.bind e) (cg S c Q (wI s false (jc S c n cf))))(D:Le (y.bind e) (cg S c Q (wI s true (jc S c n cf))))
 (G:(iz S c n cf.1 cf.2.1 cf.2.2).map (λp=>bn p.2.2.g s)=some (some (.v (.bool (!t)))):=by kernel_rfl):Le ((bl t x y).bind e) (cg S c Q cf):=by
 have⟨p,u,a⟩:=eR G;have b:jc S c n cf=p:=by unfold jc;grind
 rw[b]at B D;refine B7 u ?_;cases t
 .have:wI s true p=p:=by unfold wI;rw[show V.bool true=V.bool (!false)from rfl,qT a]
  rw[this]at D;exact D
 have:wI s false p=p:=by unfold wI;rw[show V.bool false=V.bool (!true)from rfl,qT a]
 rw[this]at B;exact B
theorem vI(n k:Nat)(fr:S')(st:δ->St){m:a_ δ}{f:δ->a_ γ}(B:Le (m.bind λr=>cg S c Q (jmp k fr (jc S c n cf) (st r))) (cg S c Q cf))(a:∀r,Le ((f r).bind e) (cg S c Q (jmp k fr (jc S c n cf) (st r)))):Le ((m.bind f).bind e) (cg S c Q cf):=Vo _ B a
theorem bF(n:Nat){r:δ}{k:δ->Cf}(B:iz S c n cf.1 cf.2.1 cf.2.2=some (k r):=by kernel_rfl):Le ((some r).bind λr=>cg S c Q (k r)) (cg S c Q cf):=abg B rfl
theorem bh{r:γ}{L:a_ β}(h:L=e r:=by kernel_rfl):Le ((some r).bind e) L:=Le.of_eq h
theorem zL(n:Nat){b:RC}{m:a_ (Out×Tb bM)}(h:Le m (cg S c xJ (.rc b,[],(jc S c n cf).2.2)))(B:iz S c n cf.1 cf.2.1 cf.2.2=some (.nx,[],(jc S c n cf).2.2):=by kernel_rfl):Le m (cg S c (AQ S c b) cf):=YR B h
theorem F9(n:Nat){o:a_ α}(A:a_ α->St){f:α->a_ γ}(B:∀x,o=some x->Le ((f x).bind e) (cg S c Q ((jc S c n cf).1,(jc S c n cf).2.1,A (some x))))
 (D:iz S c n cf.1 cf.2.1 cf.2.2=some ((jc S c n cf).1,(jc S c n cf).2.1,A o):=by kernel_rfl):Le ((o.bind f).bind e) (cg S c Q cf):=aab D B
theorem hG.X3{S:Sys}{T:qN}[bC δ]{f:Y'}{A:α->T2}{p:α->a_ δ}(B:T f=none)(a:S.E.keep f=false)(D:∀z r,p z=some r->S.yH f (A z)=some (enc r))
 :hG S (dm S T) f A (λr=>[enc r]) p false where
 k:=a
 h z:=by intro y u;have⟨r,b,w⟩:=ζg.1 u;cases w;have h:=Hr B a (D z r b);unfold jW;rw[h];exact vT 8 [enc r]
 s h:=by cases h
def Ny:K->a_ BinOp
 |.p (.bin _ _ o)=>some o|_=>none
theorem V0{k:K}{o:BinOp}(h:Ny k=some o):∃t u,k=.p (.bin t u o):=by cases k with|p p=>cases p<;>simp[Ny]at h;simp_all|_=>simp[Ny]at h
def OP:K->a_ BinOp
 |.p (.bin (some .slice) _ o)=>some o|_=>none
theorem M_{k:K}{o:BinOp}(h:OP k=some o):∃u,k=.p (.bin (some .slice) u o):=by unfold OP at h;grind
def Yi:K->a_ (Nat×Nat×S')
 |.a (.buildSl sz ln _ ix)=>some (sz,ln,ix)|_=>none
theorem YO{k:K}{r:Nat×Nat×S'}(h:Yi k=some r):∃z,k=.a (.buildSl r.1 r.2.1 z r.2.2):=by unfold Yi at h;grind
def Y_:K->a_ T2
 |.a (.alloc _ zero)=>some zero|_=>none
theorem Zh{k:K}{z:T2}(h:Y_ k=some z):∃n,k=.a (.alloc n z):=by unfold Y_ at h;grind
section
variable[bC α]
theorem Z8(k:IntKind)(n:Nat){s:Sl α}{i:Int}{f:α->a_ γ}(h:∀x,idx s i=some x->Le ((f x).bind e) (cg S c Q (nx S c n cf λp=>cW p.st p.d (cp x))))
 (B:(fT S c n cf).map (λp=>(p.k,bY S.N p.st.g p.az))=some (.p (.idxS (bC.size α)),some [.v (b7 s),.v (.int k i)]):=by kernel_rfl):Le (((idx s i).bind f).bind e) (cg S c Q cf):=by
 have⟨p,u,a⟩:=eR B;simp at a;refine qi u ?_ h;rw[a.1];exact Le.of_eq (UH a.2 rfl)
theorem bP(n:Nat){s:Sl α}{i:Int}{f:α->a_ γ}(h:∀x,idx s i=some x->Le ((f x).bind e) (cg S c Q (nx S c n cf λp=>cW p.st p.d (cp x))))
 (B:(fT S c n cf).map (λp=>(p.k,bY S.N p.st.g p.az))=some (.p (.idxS (bC.size α)),some [.v (b7 s),.v (.int .i64 i)]):=by kernel_rfl):Le (((idx s i).bind f).bind e) (cg S c Q cf):=Z8 .i64 n h B
theorem kg(k:IntKind)(n u:Nat){s:Sl α}{i:Int}{f:Nat->a_ γ}(h:∀x,s.jR i=some x->Le ((f x).bind e) (cg S c Q (nx S c n cf λp=>cW p.st p.d (.el u x 0))))
 (B:(fT S c n cf).map (λp=>(p.k,bY S.N p.st.g p.az,bn p.st.m u))=some (.p (.idxS (bC.size α)),some [.own u,.v (.int k i)],some (cG s)):=by kernel_rfl):Le (((s.jR i).bind f).bind e) (cg S c Q cf):=by
 have⟨p,w,a⟩:=eR B;simp at a;refine qi w ?_ h;rw[a.1];exact Le.of_eq (ZV a.2.1 a.2.2 rfl)
theorem qA(n u o sz:Nat)(a:X')(v:α->V){s:Sl α}{i:Nat}{f:α->a_ γ}(h:∀x,s.get i=some x->Le ((f x).bind e) (cg S c Q (nx S c n cf λp=>cW p.st p.d (.v (v x)))))
 (B:(fT S c n cf).map (λp=>(p.k,bY S.N p.st.g p.az,bn p.st.m u,(!p.dr||p.now||fK p.fr [.el u i o])))=some (.r (.load sz a),some [.el u i o],some (cG s),true):=by kernel_rfl)(b:∀x:α,(cut (cells x) o sz).bind (mk a)=some (v x):=by intro _;rfl):Le (((s.get i).bind f).bind e) (cg S c Q cf):=by
 have⟨p,z,w⟩:=eR B;simp only[ζc]at w;refine qi z ?_ h;rw[w.1];exact Le.of_eq (YZ w.2.1 w.2.2.2 w.2.2.1 b)
theorem AR(n u:Nat)(x:V){s:Sl α}{i:Nat}{a:α}{f:Sl α->a_ γ}(h:∀B,s.put i a=some B->Le ((f B).bind e) (cg S c Q (nx S c n cf λp=>cW {p.st with m:=bQ p.st.m u (cG B)} p.d (.v .undef))))
 (D:(fT S c n cf).map (λp=>(p.k,bY S.N p.st.g p.az,bn p.st.m u,(!p.dr||p.now),x.cells))=some (.l (.store (bC.size α)),some [.el u i 0,.v x],some (cG s),true,cells a):=by kernel_rfl):Le (((s.put i a).bind f).bind e) (cg S c Q cf):=by
 have⟨p,w,b⟩:=eR D;simp only[ζc]at b;refine qi w ?_ h;rw[b.1];exact Le.of_eq (MT b.2.1 b.2.2.2.1 b.2.2.1 b.2.2.2.2 rfl)
theorem UT(n u:Nat){i:Int}{z:α}{f:Sl α->a_ γ}(h:∀B,oL i z=some B->Le ((f B).bind e) (cg S c Q (nx S c n cf λp=>{p.st with g:=bQ p.st.g u (.own u),m:=bQ p.st.m u (cG B)})))
 (D:(fT S c n cf).map (λp=>(p.d,p.k,bY S.N p.st.g p.az,p.st.new u))=some (some u,.a (.makeSl (bC.size α) (cells z)),some [.v (.int .i64 i),.v (.int .i64 i)],true):=by kernel_rfl):Le (((oL i z).bind f).bind e) (cg S c Q cf):=by
 have⟨p,w,a⟩:=eR D;simp at a;refine qi w ?_ h;rw[a.1,a.2.1];exact Le.of_eq (Yp a.2.2.1 rfl rfl a.2.2.2)
theorem abf(n u:Nat){i:Int}{z:α}{zero:T2}{f:Sl α->a_ γ}(h:∀B,v7 i z=some B->Le ((f B).bind e) (cg S c Q (nx S c n cf λp=>{p.st with g:=bQ p.st.g u (.own u),m:=bQ p.st.m u (cG B)})))
 (D:(fT S c n cf).map (λp=>(p.d,p.k,bY S.N p.st.g p.az,p.st.new u))=some (some u,.a (.makeSl (bC.size α) (cells z)),some [.v (.int .i64 0),.v (.int .i64 i)],true):=by kernel_rfl):Le (((v7 i z).bind f).bind e) (cg S c Q cf):=by
 have⟨p,w,a⟩:=eR D;simp at a;have⟨b,I⟩:=kf w;have⟨dr,fr,d,gd,now,k,az,dd,l,fs,st⟩:=p;obtain⟨rfl,rfl,J,C⟩:=a;exact aba n dr fr (⟨some u,gd,now,.a (.makeSl (bC.size α) (cells z)),az,dd,[]⟩::l) fs st rfl C Zac λB G=>by have:=h B G;simp[nx,w]at this;simp_all
theorem ow(n o w u:Nat){s:Sl α}{x:α}{f:Sl α->a_ γ}(h:∀B,gw s x=some B->Le ((f B).bind e) (cg S c Q (nx S c n cf λp=>{p.st with g:=bQ p.st.g u (.own u),m:=bQ (eG o p.st.m) u (cG B)})))
 (D:(fT S c n cf).map (λp=>(p.d,p.k,bY S.N p.st.g p.az,(!p.dr||p.now),bn p.st.m o,bn p.st.m w,St.new {p.st with m:=eG o p.st.m} u))=some (some u,.l (.append (bC.size α)),some [.own o,.own w],true,some (cG s),some (cG (.row [x])),true):=by kernel_rfl):Le (((gw s x).bind f).bind e) (cg S c Q cf):=by
 have⟨p,z,a⟩:=eR D;simp only[ζc]at a;refine qi z ?_ h;rw[a.1,a.2.1];exact Le.of_eq (aal a.2.2.1 a.2.2.2.1 a.2.2.2.2.1 a.2.2.2.2.2.1 rfl a.2.2.2.2.2.2)
theorem Vf(n w u:Nat)(v:V)(x:α){m:a_ β}(h:Le m (cg S c Q (nx S c n cf λp=>{p.st with g:=bQ p.st.g u (.own u),m:=bQ p.st.m u (cG (.row [x]))})))(a:v=.bO\/v=.dU:=by first|exact .inl rfl|exact .inr rfl)
 (B:(fT S c n cf).map (λp=>(p.d,p.k,bY S.N p.st.g p.az,(!p.dr||p.now),bn p.st.m w,p.st.new u))=some (some u,.l (.append (bC.size α)),some [.v v,.own w],true,some (cG (.row [x])),true):=by kernel_rfl):Le m (cg S c Q cf):=by
 have⟨p,C,z⟩:=eR B;simp only[ζc]at z;refine wJ C ?_ h;rw[z.1,z.2.1];exact Zc a z.2.2.1 z.2.2.2.1 z.2.2.2.2.1 rfl z.2.2.2.2.2
theorem bZ(n:Nat)(s:Sl α){m:a_ β}(h:Le m (cg S c Q (nx S c n cf λp=>cW p.st p.d (.v (.int .i64 s.l.length)))))
 (B:(fT S c n cf).map (λp=>(p.k,bY S.N p.st.g p.az))=some (.p .lenSl,some [.v (b7 s)]):=by kernel_rfl):Le m (cg S c Q cf):=by
 have⟨p,u,a⟩:=eR B;simp at a;refine wJ u ?_ h;rw[a.1];exact UK a.2
theorem Ed(n u:Nat)(s:Sl α){m:a_ β}(h:Le m (cg S c Q (nx S c n cf λp=>cW p.st p.d (.v (.int .i64 s.l.length)))))
 (B:(fT S c n cf).map (λp=>(p.k,bY S.N p.st.g p.az,bn p.st.m u))=some (.p .lenSl,some [.own u],some (cG s)):=by kernel_rfl):Le m (cg S c Q cf):=by
 have⟨p,w,a⟩:=eR B;simp at a;refine wJ w ?_ h;rw[a.1];exact Y1 a.2.1 a.2.2
theorem J6(n:Nat){s:Sl α}{f:X'->a_ γ}(h:∀t,s.isNil=some t->Le ((f t).bind e) (cg S c Q (nx S c n cf λp=>cW p.st p.d (.v (.bool t)))))
 (B:(fT S c n cf).map (λp=>(OP p.k,bY S.N p.st.g p.az))=some (some .eql,some [.v (b7 s),.v .bO]):=by kernel_rfl):Le ((s.isNil.bind f).bind e) (cg S c Q cf):=by
 have⟨p,w,a⟩:=eR B;simp at a;have⟨u,b⟩:=M_ a.1;refine qi w ?_ h;rw[b];exact Le.of_eq (V9 a.2)
theorem aae(n:Nat){s:Sl α}{f:X'->a_ γ}(h:∀t,s.isNil=some t->Le ((f t).bind e) (cg S c Q (nx S c n cf λp=>cW p.st p.d (.v (.bool !t)))))
 (B:(fT S c n cf).map (λp=>(OP p.k,bY S.N p.st.g p.az))=some (some .neq,some [.v (b7 s),.v .bO]):=by kernel_rfl):Le ((s.isNil.bind f).bind e) (cg S c Q cf):=by
 have⟨p,w,a⟩:=eR B;simp at a;have⟨u,b⟩:=M_ a.1;refine qi w ?_ h;rw[b];exact Le.of_eq (RW a.2)
theorem AJ(n:Nat)(lo hi:X')(B:T2){s:Sl α}{a b:QQ}{f:Sl α->a_ γ}(h:∀x,fZ s a b=some x->Le ((f x).bind e) (cg S c Q (nx S c n cf λp=>cW p.st p.d (.v (b7 x)))))
 (D:(fT S c n cf).map (λp=>(p.k,bY S.N p.st.g p.az,mL lo hi B))=some (.p (.slice (bC.size α) lo hi),some (.v (b7 s)::B.map .v),some (a,b)):=by kernel_rfl):Le (((fZ s a b).bind f).bind e) (cg S c Q cf):=by
 have⟨p,u,g⟩:=eR D;simp at g;have⟨i,C⟩:=kf u;have⟨dr,fr,d,gd,now,k,az,dd,l,fs,st⟩:=p;obtain⟨rfl,G,I⟩:=g;exact abh n dr fr (⟨d,gd,now,.p (.slice (bC.size α) lo hi),az,dd,[]⟩::l) fs st lo hi B rfl Zac λw z=>by have:=h w z;simp only[nx,u]at this;omega
theorem aay(n:Nat)(lo hi:X')(u t:Nat)(B:T2){s:Sl α}{a b:QQ}{f:Sl α->a_ γ}(h:∀x,qa s a b=some x->Le ((f x).bind e) (cg S c Q (nx S c n cf λp=>{p.st with g:=bQ p.st.g t (.own t),m:=bQ (eG u p.st.m) t (cG x)})))
 (D:(fT S c n cf).map (λp=>(p.d,p.k,p.dr,bY S.N p.st.g p.az,mL lo hi B,bn p.st.m u,St.new {p.st with m:=eG u p.st.m} t))=some (some t,.p (.slice (bC.size α) lo hi),false,some (.own u::B.map .v),some (a,b),some (cG s),true):=by kernel_rfl):Le (((qa s a b).bind f).bind e) (cg S c Q cf):=by
 have⟨p,w,i⟩:=eR D;simp at i;have⟨j,I⟩:=kf w;have⟨dr,fr,d,gd,now,k,az,dd,l,fs,st⟩:=p;obtain⟨rfl,rfl,rfl,J,L,O,z⟩:=i;exact ZG n fr (⟨some t,gd,now,.p (.slice (bC.size α) lo hi),az,dd,[]⟩::l) fs st lo hi u B rfl z Zac λC G=>by have:=h C G;simp only[nx,w]at this;omega
theorem cu(n u:Nat)(x:α){m:a_ β}(h:Le m (cg S c Q (nx S c n cf λp=>{p.st with g:=bQ p.st.g u (.ptr u 0),m:=bQ p.st.m u (bx x)})))
 (B:(fT S c n cf).map (λp=>(p.d,p.k,bY S.N p.st.g p.az,p.st.new u))=some (some u,.a .box,some [cv x],true):=by kernel_rfl):Le m (cg S c Q cf):=by
 have⟨p,w,a⟩:=eR B;simp at a;refine wJ w ?_ h;rw[a.1,a.2.1,AL,a.2.2.1];simp only[ζb,a.2.2.2,if_true,o9,l_,rY]
def stB(u o sz:Nat)(xs:So)(p:GX):St:=match bn p.st.m u with
 |some (.box cs)=>cW {p.st with m:=bQ p.st.m u (.box (cs.take o++xs++cs.drop (o+sz)))} p.d (.v .undef)|_=>p.st
theorem pM(n u o:Nat)(x:α){m:a_ β}(h:Le m (cg S c Q (nx S c n cf (stB u o (bC.size α) ((cells x).map .v)))))
 (B:(fT S c n cf).map (λp=>(p.k,bY S.N p.st.g p.az,(!p.dr||p.now),match bn p.st.m u with|some (.box cs)=>ble (o+bC.size α) cs.length|_=>false))=some (.l (.store (bC.size α)),some [.ptr u o,cv x],true,true):=by kernel_rfl):Le m (cg S c Q cf):=by
 have⟨p,C,a⟩:=eR B;simp only[ζc]at a;refine wJ C ?_ h;have⟨b,D,G,z⟩:=a;split at z
 next cs w=>have I:=Nat.le_of_ble_eq_true z;rw[b,yW,D];simp only[ζb,G,if_true,n_,w,putCells,l_,gH,rY,I,and_self,map_some,stB]
 simp_all
theorem wQ(n u:Nat)(xs:aZ α){m:a_ β}(h:Le m (cg S c Q (nx S c n cf λp=>{p.st with g:=bQ p.st.g u (.own u),m:=bQ p.st.m u (cG (.row xs))})))
 (B:(fT S c n cf).map (λp=>(p.d,Yi p.k,bY S.N p.st.g p.az,p.st.new u))=some (some u,some (bC.size α,xs.length,range' 0 xs.length),some ((xs.map enc).map .v),true):=by kernel_rfl):Le m (cg S c Q cf):=by
 have⟨p,w,a⟩:=eR B;simp at a;have⟨b,G⟩:=kf w;have⟨dr,fr,d,gd,now,k,az,dd,l,fs,st⟩:=p;obtain⟨rfl,C,I,D⟩:=a;obtain⟨z,rfl⟩:=YO C;exact Abs n dr fr (⟨some u,gd,now,.a (.buildSl (bC.size α) xs.length z (range' 0 xs.length)),az,dd,[]⟩::l) fs st xs rfl D Zac (by
  simp[nx,w]at h;omega)
theorem abj(n:Nat)(x:α)(vs z:T2)(pl:aZ (Nat×Nat)){m:a_ β}(B:lR z pl vs=some (cells x))(D:bC.agg α=true)(h:Le m (cg S c Q (nx S c n cf λp=>cW p.st p.d (cv x))))
 (G:(fT S c n cf).map (λp=>(p.k,bY S.N p.st.g p.az))=some (.p (.build z pl),some (vs.map .v)):=by kernel_rfl):Le m (cg S c Q cf):=by
 have⟨p,u,a⟩:=eR G;simp at a;have⟨b,w⟩:=kf u;have⟨dr,fr,d,gd,now,k,az,dd,l,fs,st⟩:=p;obtain⟨rfl,C⟩:=a;exact abb n dr fr (⟨d,gd,now,.p (.build z pl),az,dd,[]⟩::l) fs st x vs rfl B D Zac (by
  simp only[nx,u]at h;omega)
end
theorem abu(n:Nat){k:IntKind}{a b:Int}{f:Int->a_ γ}(h:∀x,AB k a b=some x->Le ((f x).bind e) (cg S c Q (nx S c n cf λp=>cW p.st p.d (.v (.int k x)))))
 (B:(fT S c n cf).map (λp=>(Ny p.k,bY S.N p.st.g p.az))=some (some .quo,some [.v (.int k a),.v (.int k b)]):=by kernel_rfl):Le (((AB k a b).bind f).bind e) (cg S c Q cf):=by
 have⟨p,w,d⟩:=eR B;simp at d;have⟨t,u,g⟩:=V0 d.1;refine qi w ?_ h;rw[g];exact Le.of_eq (ZT d.2)
theorem BQ(n:Nat)(k:IntKind){a:U'}{b:Int}{f:Int->a_ γ}(h:∀x,lY a b=some x->Le ((f x).bind e) (cg S c Q (nx S c n cf λp=>cW p.st p.d (.v (.int .u8 x)))))
 (B:(fT S c n cf).map (λp=>(p.k,bY S.N p.st.g p.az))=some (.p .idxStr,some [.v (.str a),.v (.int k b)]):=by kernel_rfl):Le (((lY a b).bind f).bind e) (cg S c Q cf):=by
 have⟨p,u,d⟩:=eR B;simp at d;refine qi u ?_ h;rw[d.1];exact Le.of_eq (RZ d.2)
section
variable{A:α->T2}{E:δ->T2}{pl:α->a_ δ}{fn:Y'}{sc:X'}
theorem yJ(n:Nat)(F:hG S c fn A E pl sc)(z:α){f:δ->a_ γ}(h:∀x,pl z=some x->Le ((f x).bind e) (cg S c Q (nx S c n cf λp=>cW p.st p.d (.v (result (E x))))))
 (B:(fT S c n cf).map (λp=>(p.k,(bY S.N p.st.g p.az).bind lH,(!p.dr||p.now||fV p.st.m p.fr [])))=some (.c,some (fn,(A z).map .v),true):=by kernel_rfl):Le (((pl z).bind f).bind e) (cg S c Q cf):=by
 have⟨p,C,b⟩:=eR B;simp at b;have⟨D,G,O⟩:=b;have⟨I,g1,g2⟩:=ζg.1 G;have u:∀d(w:T2),SV.dP d (w.map .v)=false:=λd w=>by induction w with|nil=>rfl|cons a l J=>simp[SV.dP,SV.c_,J]
 have L:(!p.dr||p.now||fV p.st.m p.fr ((A z).map .v))=true:=by have:fV p.st.m p.fr ((A z).map .v)=fV p.st.m p.fr []:=(by unfold fV;simp[u];rfl);grind
 refine qi C ?_ h;rw[D];exact KS (F.h z) F.k g1 g2 (JV _ _ _) L (λr=>by rw[mA];simp)
theorem X2(n:Nat)(F:hG S c fn A E pl true)(z:α){f:δ->a_ γ}(h:∀x,pl z=some x->Le ((f x).bind e) (cg S c Q (nx S c n cf λp=>cW p.st p.d (.v (result (E x))))))
 (B:(fT S c n cf).map (λp=>(p.k,((bY S.N p.st.g p.az).bind lH).bind λq=>(nL (iW p.st.m 8) q.2).map λvs=>(q.1,vs,((!p.dr||p.now)||fV p.st.m p.fr q.2))))=some (.c,some (fn,A z,true)):=by kernel_rfl):Le (((pl z).bind f).bind e) (cg S c Q cf):=by
 have⟨p,u,a⟩:=eR B;simp at a;have⟨w,C⟩:=a;have⟨q,g1,g2⟩:=ζg.1 C;have⟨D,g3,g4⟩:=ζg.1 g1;have⟨vs,g5,g6⟩:=ζf.1 g2;simp only[ζc]at g6;obtain⟨e1,rfl,e3⟩:=g6;refine qi u ?_ h;rw[w];exact KS (F.h z) F.k g3 Zac g5 e3 (λr=>by rw[F.s rfl];rfl)
end
section
variable{N:Nat}[bC α]
theorem NZ(n:Nat)(k:IntKind){a:cq N α}{i:Int}{f:α->a_ γ}(h:∀x,a.at i=some x->Le ((f x).bind e) (cg S c Q (nx S c n cf λp=>cW p.st p.d (.v (.fptr (pa a i))))))
 (B:(fT S c n cf).map (λp=>(p.k,bY S.N p.st.g p.az))=some (.p (.idxA N (bC.size α)),some [cp a,.v (.int k i)]):=by kernel_rfl):Le (((a.at i).bind f).bind e) (cg S c Q cf):=by
 have⟨p,u,b⟩:=eR B;simp at b;have⟨g,z⟩:=kf u;have⟨dr,fr,d,gd,now,C,az,dd,l,fs,st⟩:=p;obtain⟨rfl,D⟩:=b;exact aaf n dr fr (⟨d,gd,now,.p (.idxA N (bC.size α)),az,dd,[]⟩::l) fs st k rfl Zac λx w=>by have:=h x w;simp only[nx,u]at this;omega
theorem Td(n k:Nat)(a:cq N α)(i:Int)(o:Nat)(x:α)(B:a.at i=some x){m:a_ β}(h:Le m (cg S c Q (nx S c n cf λp=>cW p.st p.d (.v (.fptr ((pa a i).drop (o+k)))))))
 (D:(fT S c n cf).map (λp=>(p.k,bY S.N p.st.g p.az,ble (o+k) (bC.size α)))=some (.p (.fieldAddr k),some [.v (.fptr ((pa a i).drop o))],true):=by kernel_rfl):Le m (cg S c Q cf):=by
 have⟨p,u,b⟩:=eR D;simp at b;have⟨e,w⟩:=kf u;have⟨dr,fr,d,gd,now,z,az,dd,l,fs,st⟩:=p;obtain⟨rfl,C,G⟩:=b;exact abe n dr fr (⟨d,gd,now,.p (.fieldAddr k),az,dd,[]⟩::l) fs st a i o x B rfl Zac (by
  simp only[nx,u]at h;omega)
theorem Nw(n sz:Nat)(ag:X')(a:cq N α)(i:Int)(o:Nat)(x:α)(B:a.at i=some x)(v:V)(b:(cut (cells x) o sz).bind (mk ag)=some v){m:a_ β}(h:Le m (cg S c Q (nx S c n cf λp=>cW p.st p.d (.v v))))
 (D:(fT S c n cf).map (λp=>(p.k,bY S.N p.st.g p.az))=some (.r (.load sz ag),some [.v (.fptr ((pa a i).drop o))]):=by kernel_rfl):Le m (cg S c Q cf):=by
 have⟨p,w,u⟩:=eR D;simp at u;have⟨e,z⟩:=kf w;have⟨dr,fr,d,gd,now,C,az,dd,l,fs,st⟩:=p;obtain⟨rfl,G⟩:=u;exact ZS n dr fr (⟨d,gd,now,.r (.load sz ag),az,dd,[]⟩::l) fs st a i o x B b v rfl Zac (by
  simp only[nx,w]at h;omega)
theorem Y9(n u:Nat)(st:St)(cs:So){m:a_ β}(B:st.new u=true)(h:Le m (cg S c Q (nx S c n cf λ_=>{st with g:=bQ st.g u (.ptr u 0),m:=bQ st.m u (.box cs)})))
 (D:(fT S c n cf).map (λp=>(p.d,(Y_ p.k).map (λz=>z.map SV.v),bY S.N p.st.g p.az,p.st))=some (some u,some cs,some [],st):=by kernel_rfl):Le m (cg S c Q cf):=by
 have⟨p,C,a⟩:=eR D;simp only[ζc]at a;have⟨z,G,w⟩:=eR a.2.1;have⟨k,b⟩:=Zh G;refine wJ C ?_ h;rw[a.1,b,AL,a.2.2.1,a.2.2.2];simp[B,o9,w]
theorem IY(n:Nat)(k:IntKind)(u:Nat){a:cq N α}{i:Int}{f:α->a_ γ}(h:∀x,a.at i=some x->Le ((f x).bind e) (cg S c Q (nx S c n cf λp=>cW p.st p.d (.ptr u (i.toNat*bC.size α+0)))))
 (B:(fT S c n cf).map (λp=>(p.k,bY S.N p.st.g p.az,bn p.st.m u))=some (.p (.idxA N (bC.size α)),some [.ptr u 0,.v (.int k i)],some (bx a)):=by kernel_rfl):Le (((a.at i).bind f).bind e) (cg S c Q cf):=by
 have⟨p,w,b⟩:=eR B;simp at b;have⟨g,C⟩:=kf w;have⟨dr,fr,d,gd,now,D,az,dd,l,fs,st⟩:=p;obtain⟨rfl,G,I⟩:=b;exact aat n dr fr (⟨d,gd,now,.p (.idxA N (bC.size α)),az,dd,[]⟩::l) fs st k u rfl Zac λx z=>by have:=h x z;simp only[nx,w]at this;omega
theorem UZ(n sz:Nat)(ag:X')(u:Nat)(a:cq N α)(i:Int)(o:Nat)(x:α)(B:a.at i=some x)(v:V)(b:(cut (cells x) o sz).bind (mk ag)=some v){m:a_ β}(h:Le m (cg S c Q (nx S c n cf λp=>cW p.st p.d (.v v))))
 (D:(fT S c n cf).map (λp=>(p.k,bY S.N p.st.g p.az,bn p.st.m u,(!p.dr||p.now||fK p.fr [.ptr u 0])))=some (.r (.load sz ag),some [.ptr u (i.toNat*bC.size α+o)],some (bx a),true):=by kernel_rfl):Le m (cg S c Q cf):=by
 have⟨p,z,w⟩:=eR D;simp at w;have⟨e,C⟩:=kf z;have⟨dr,fr,d,gd,now,G,az,dd,l,fs,st⟩:=p;obtain⟨rfl,I,J,L⟩:=w;exact ZN n dr fr (⟨d,gd,now,.r (.load sz ag),az,dd,[]⟩::l) fs st u a i o x B b v rfl Zac (by
  simp only[nx,z]at h;omega)
end
section
variable{κ ν:Type}[bC κ][DecidableEq κ][Key κ][bC ν]
theorem ZM(n u:Nat)(mp:Mo κ ν)(k:κ)(z:ν){m:a_ β}(h:Le m (cg S c Q (nx S c n cf λp=>cW p.st p.d (cv (ov mp k z)))))
 (B:(fT S c n cf).map (λp=>(p.k,bY S.N p.st.g p.az,bn p.st.m u,(!p.dr||p.now||fK p.fr [.mp u,cv k])))=some (.r (.lookup (Key.kk κ) (enc z) false),some [.mp u,cv k],some (vu mp),true):=by kernel_rfl):Le m (cg S c Q cf):=by
 have⟨p,w,a⟩:=eR B;simp at a;have⟨b,C⟩:=kf w;have⟨dr,fr,d,gd,now,D,az,dd,l,fs,st⟩:=p;obtain⟨rfl,G,I,J⟩:=a;exact aaw n dr fr (⟨d,gd,now,.r (.lookup (Key.kk κ) (enc z) false),az,dd,[]⟩::l) fs st u mp k z rfl Zac (by
  simp only[nx,w]at h;omega)
theorem Ya(n u:Nat)(mp:Mo κ ν)(k:κ)(v:ν){m:a_ β}(h:Le m (cg S c Q (nx S c n cf λp=>cW {p.st with m:=bQ p.st.m u (vu (mP mp k v))} p.d (.v .undef))))
 (B:(fT S c n cf).map (λp=>(p.k,bY S.N p.st.g p.az,bn p.st.m u,(!p.dr||p.now)))=some (.l (.mapUp (Key.kk κ)),some [.mp u,cv k,cv v],some (vu mp),true):=by kernel_rfl):Le m (cg S c Q cf):=by
 have⟨p,z,w⟩:=eR B;simp at w;have⟨a,C⟩:=kf z;have⟨dr,fr,d,gd,now,D,az,dd,l,fs,st⟩:=p;obtain⟨rfl,G,I,J⟩:=w;exact abp n dr fr (⟨d,gd,now,.l (.mapUp (Key.kk κ)),az,dd,[]⟩::l) fs st u mp k v rfl Zac (by
  simp[nx,z]at h;omega)
end
theorem aau(n:Nat)(st:St){rs:aZ RV}{e:γ->a_ T2}{r:γ}(svs:So){ys:T2}(B:nL (iW st.m 8) svs=some ys)(D:e r=some ys)
 (h:(iz S c n cf.1 cf.2.1 cf.2.2).map (λq=>(q.1,q.2.2,lg q.2.2 rs))=some (.rt,st,some svs):=by kernel_rfl):Le ((some r).bind e) (cg S c (qZ rs) cf):=by
 have⟨⟨fo,fs,st'⟩,u,a⟩:=eR h;simp at a;obtain⟨rfl,rfl,w⟩:=a;exact Z5 n svs B (by rw[u,w]) D
end
end Go.VE
namespace Go.VE
variable[b8]
section
variable{S:Sys}{c:cm}{β γ δ α:Type}[bC α]{Q:Out×St->a_ β}{e:γ->a_ β}{cf:Cf}
def oH(s x:Sl α):a_ (Sl α):=if x.l=[]then some s else if s.l.length+x.l.length<=2147483648 then some (.row (s.l++x.l))else none
theorem Wq(m:Tb bM)(n w:Nat)(x:Sl α)(B:n=bC.size α)(D:bn m w=some (cG x)):jP m n (.own w)=some (rows x.l):=by rw[FX,D,Cm n x B]
theorem Ls(l:aZ α):rows l=[]↔l=[]:=by unfold rows;simp
theorem T7(a b:aZ α):rows a++rows b=rows (a++b):=by unfold rows;simp
theorem K4(a:aZ α):(rows a).length=a.length:=by unfold rows;simp
theorem X7{st:St}{dr now:X'}{fr:S'}{az:R0}{d n o:Nat}{s x:Sl α}{B:SV}(U:bY S.N st.g az=some [.own o,B])(hd:(!dr||now)=true)(D:bn st.m o=some (cG s))(W:jP st.m n B=some (rows x.l))(G:n=bC.size α)(J:St.new {st with m:=eG o st.m} d=true):
 f_ S c dr fr ⟨some d,none,now,.l (.append n),az,[],[]⟩ st=(oH s x).bind λY=>some {st with g:=bQ st.g d (.own d),m:=bQ (eG o st.m) d (cG Y)}:=by
 rw[yW,U];simp only[ζb,hd,if_true,A6,Wq st.m n o s G D,W];unfold oH
 by_cases h:x.l=[]
 .rw[if_pos h,(Ls x.l).2 h];simp only[Ak,D,if_pos J,ζb];rfl
 rw[if_neg h];have a:rows x.l≠[]:=λe=>h ((Ls _).1 e)
 have w:Ak st d n (.own o) (some (rows s.l)) (some (rows x.l))=if(rows s.l).length+(rows x.l).length<=2147483648/\Lr (.own o)=true then(if St.new {st with m:=giveUp st.m (.own o)} d then some (.own d,{st with m:=bQ (giveUp st.m (.own o)) d (.sl .row n (rows s.l++rows x.l))})else none)else none:=by unfold Ak;generalize rows x.l=r at *;cases r with|nil=>exact absurd rfl a|cons y r=>rfl
 rw[w,K4,K4,T7]
 by_cases u:s.l.length+x.l.length<=2147483648
 .rw[if_pos ⟨u,rfl⟩,if_pos (show St.new {st with m:=giveUp st.m (.own o)} d=true from J),if_pos u];rw[ζb,ζb,G];rfl
 rw[if_neg (λk=>u k.1),if_neg u];rfl
theorem ZH(n o u:Nat)(D:SV){s x:Sl α}{f:Sl α->a_ γ}(G:∀p,fT S c n cf=some p->jP p.st.m (bC.size α) D=some (rows x.l))
 (h:∀B,oH s x=some B->Le ((f B).bind e) (cg S c Q (nx S c n cf λp=>{p.st with g:=bQ p.st.g u (.own u),m:=bQ (eG o p.st.m) u (cG B)})))
 (J:(fT S c n cf).map (λp=>(p.d,p.k,bY S.N p.st.g p.az,(!p.dr||p.now),bn p.st.m o,St.new {p.st with m:=eG o p.st.m} u))=some (some u,.l (.append (bC.size α)),some [.own o,D],true,some (cG s),true):=by kernel_rfl):Le (((oH s x).bind f).bind e) (cg S c Q cf):=by
 have⟨p,w,a⟩:=eR J;simp only[ζc]at a;refine qi w ?_ h;rw[a.1,a.2.1];exact Le.of_eq (X7 a.2.2.1 a.2.2.2.1 a.2.2.2.2.1 (G p w) rfl a.2.2.2.2.2)
theorem N1(m:Tb bM)(x:Sl α):jP m (bC.size α) (.v (b7 x))=some (rows x.l):=by cases x<;>simp[b7,Sl.k,Sl.l,pF,jP,rows]
theorem zO(n o u:Nat){s x:Sl α}{f:Sl α->a_ γ}
 (h:∀B,oH s x=some B->Le ((f B).bind e) (cg S c Q (nx S c n cf λp=>{p.st with g:=bQ p.st.g u (.own u),m:=bQ (eG o p.st.m) u (cG B)})))
 (D:(fT S c n cf).map (λp=>(p.d,p.k,bY S.N p.st.g p.az,(!p.dr||p.now),bn p.st.m o,St.new {p.st with m:=eG o p.st.m} u))=some (some u,.l (.append (bC.size α)),some [.own o,.v (b7 x)],true,some (cG s),true):=by kernel_rfl):Le (((oH s x).bind f).bind e) (cg S c Q cf):=
 ZH n o u _ (λp _=>N1 p.st.m x) h D
end
theorem sX{α:Type}{l:aZ α}{i:Nat}{x:α}(h:l[i]?=some x):l.set i x=l:=by obtain⟨hi,rfl⟩:=ζe.1 h;exact List.set_getElem_self hi
open Classical in
noncomputable def DV(E:Env)(g:Y')(cb:T2)(a b:V):a_ V:=if h:∃n y,ct (run E n) g (a::b::cb) []=some y then some (Classical.choose (choose_spec h))else none
theorem GK{E:Env}{g:Y'}{cb:T2}{a b y:V}(h:DV E g cb a b=some y):∃n,∀k,n<=k->ct (run E k) g (a::b::cb) []=some y:=by
 unfold DV at h;split at h;next c=>cases h;exact⟨_,λk d=>pL (n9 E d) (choose_spec (choose_spec c))⟩
 cases h
theorem Ng{E:Env}{g:Y'}{cb:T2}{a b y:V}{n:Nat}(h:ct (run E n) g (a::b::cb) []=some y):DV E g cb a b=some y:=by have d:∃n y,ct (run E n) g (a::b::cb) []=some y:=⟨n,y,h⟩;cases c:DV E g cb a b with|none=>unfold DV at c;rw[dif_pos d]at c;cases c|some z=>have⟨m,u⟩:=GK c;have:=u _ (Nat.le_max_right n m);rw[pL (n9 E (Nat.le_max_left n m)) h]at this;cases this;rfl
theorem Gj{n:Nat}{p:_root_.Fin n->Nat->Prop}(h:∀i,∃N,∀k,N<=k->p i k):∃N,∀i k,N<=k->p i k:=by induction n with|zero=>exact⟨0,λi=>i.elim0⟩|succ n u=>have⟨N,w⟩:=u (p:=λi=>p i.succ) λi=>h i.succ;have⟨M,a⟩:=h 0;refine⟨max N M,λi k b=>?_⟩;refine _root_.Fin.cases (a k Zaa) (λj=>w j k Zaa) i
def jL(x:T2):V:=x.headD .undef
def vJ(es:Nat)(xs:T'):X':=es==1&&xs.all (λx=>x.length==1&&x.all V.one)&&decide (xs.length<=2147483648)
theorem Aa{es:Nat}{xs:T'}(h:vJ es xs=true):es=1/\xs.length<=2147483648/\∀(i:Nat)x,xs[i]?=some x->x=[jL x]/\(jL x).one=true:=by unfold vJ at h;simp only[ζh,beq_iff_eq,all_eq_true,decide_eq_true_eq]at h;refine⟨h.1.1,h.2,λi x w=>?_⟩;have⟨a,z⟩:=h.1.2 x (mem_of_getElem? w);obtain⟨u,rfl⟩:=List.length_eq_one_iff.1 a;exact⟨rfl,z u Zab⟩
section
variable{H:bp}{Z:Nat->Prop}
theorem dI.Mh{k:Nat}{xs ys:T2}(h:dI H Z xs ys)(B:V.mm k xs=true):borrows k H ys=some xs:=lF h.1 λj u v a b=>(h.2 j u v a b).borrow k (nD.1 B j u a)
theorem dI.borrows{xs ys:T2}(h:dI H Z xs ys):∃n,∀k,n<=k->borrows k H ys=some xs:=by have⟨n,u⟩:=m_ xs;exact⟨n,λk a=>h.Mh (qn a u)⟩
theorem PL{es:Nat}{xs:T'}(h:vJ es xs=true){rs:T'}(B:gQ H Z xs rs):dI H Z (xs.map jL) rs.flatten:=by induction xs generalizing rs with|nil=>have:=B.1;simp at this;have:rs=[]:=List.eq_nil_of_length_eq_zero (by simpa using this.symm);subst this;exact .nil|cons x xs D=>have⟨d,L,G⟩:=Aa h;cases rs with|nil=>have:=B.1;simp at this|cons r rs=>have⟨e,_⟩:=G 0 x rfl;have C:=B.2 0 x r rfl rfl;rw[e]at C;obtain⟨u,O,rfl,c,w⟩:=C.inv;rw[w.dg];have z:vJ es xs=true:=(by unfold vJ at h⊢;simp only[all_cons,ζh,length_cons,decide_eq_true_eq]at h⊢;exact⟨⟨h.1.1,h.1.2.2⟩,Zaa⟩);exact .cons c (D z (rs:=rs) ⟨by have:=B.1;simpa using this,λj a b I J=>B.2 (j+1) a b I J⟩)
end
noncomputable def uD(E:Env)(g:Y')(cb:T2)(a b:V):QQ:=match DV E g cb a b with|some (.int .i64 c)=>some c|_=>none
theorem R7{E:Env}{g:Y'}{cb:T2}{a b:V}{c:Int}(h:uD E g cb a b=some c):∃n,∀k,n<=k->ct (run E k) g (a::b::cb) []=some (.int .i64 c):=by
 unfold uD at h;split at h;next c' d=>cases h;exact GK d
 cases h
noncomputable def BA(E:Env)(es:Nat)(xs:T'):T2->a_ T'
 |[.clo g [] cb]=>match xs with
  |[]=>some []|x::l=>if vJ es (x::l)&& !E.keep g then
   let t:_root_.Fin (l.length+1)->_root_.Fin (l.length+1)->QQ:=λi j=>uD E g cb (jL (((x::l)[i.1]?).getD [])) (jL (((x::l)[j.1]?).getD []))
   if CE t then some ((rK l.length (qG t)).toList.map λi=>((x::l)[i.1]?).getD [])else none
   else none
 |_=>none
noncomputable def uB(E:Env):FJ:=⟨false,BA E⟩
theorem Ff{n:Nat}{lt:_root_.Fin (n+1)->_root_.Fin (n+1)->X'}(h:Sort.SWO lt):(rK n lt).size=n+1:=by rw[DW];have:=(Sort.pdq_sorts lt h (List.finRange (n+1)).toArray 0 (n+1) (Lib.bitLen (n+1)) true true (zero_le _) Zab (Or.inl rfl)).1.1;simpa using this
theorem Tm{E:Env}{f:Y'}(m:E.keep f=true)(ho:E.own f=false)(A:E.sort f=true)(F:E.ft f=none):nr E f (uB E)where
 keep:=m
 own:=ho
 le:=by intro es xs vs ys h;simp only[uB,BA]at h;split at h;split at h;cases h;exact⟨le_refl _,λ_=>rfl⟩;split at h;split at h;(next q=>cases h;have:=Ff (rW q).2;simp only[length_map,Array.length_toList,length_cons,this];exact⟨le_refl _,λ_=>trivial⟩);cases h;cases h;cases h
 none:=by intro es vs ys h H Z ws w K he;simp only[uB,BA]at h;split at h;obtain⟨R,r,rfl,V,M⟩:=K.inv;rw[M.dg];refine⟨1,[],λk m=>?_⟩;(cases k with|zero=>omega|succ k=>rcases he with rfl|rfl<;>simp[run,kB,F,A,rS,uB]);cases h
 row:=by
  intro es xs vs ys h H Z ws id off rs K O C I z hz;simp only[uB,BA]at h;split at h;rename_i g cb;obtain⟨R,r,rfl,V,M⟩:=K.inv;rw[M.dg];obtain⟨a',J,rfl,s,aa⟩:∃a' J,R=.clo g a' J/\dI H Z [] a'/\dI H Z cb J:=V.kU;rw[s.dg]at *;split at h;cases h;refine⟨1,rs,[],λk m=>?_,rfl,⟨rfl,λj u v o=>by simp at o⟩,z⟩;cases k with|zero=>omega|succ k=>have:H.set id (.row es rs)=H:=sX O;simp[run,kB,F,A,rS,uB,this]
  rename_i x l;split at h;rename_i D;simp only[ζh,Bool.not_eq_true']at D;obtain⟨c1,c3⟩:=D;obtain⟨rfl,Q,ae⟩:=Aa c1;split at h;rename_i q;cases h;obtain⟨G,S⟩:=rW q;have B:∀i,Z i->Z i/\bt (H.set id .dead) i=bt H i:=λi hi=>⟨hi,by unfold bt;rw[getElem?_set_ne];rintro rfl;exact hz hi⟩;have T:=I.mono B;obtain⟨M1,U⟩:=(PL c1 T).borrows;simp only[length_cons]at U;obtain⟨M2,W⟩:=(aa.mono B).borrows;obtain⟨N,P⟩:=Gj (p:=λi k=>∀j:_root_.Fin (l.length+1),ct (run E k) g (jL (((x::l)[i.1]?).getD [])::jL (((x::l)[j.1]?).getD [])::cb) []=some (.int .i64 ((uD E g cb (jL (((x::l)[i.1]?).getD [])) (jL (((x::l)[j.1]?).getD []))).getD 0))) (λi=>by
   obtain⟨N,P⟩:=Gj (p:=λ(j:_root_.Fin (l.length+1))k=>ct (run E k) g (jL (((x::l)[i.1]?).getD [])::jL (((x::l)[j.1]?).getD [])::cb) []=some (.int .i64 ((uD E g cb (jL (((x::l)[i.1]?).getD [])) (jL (((x::l)[j.1]?).getD []))).getD 0))) (λj=>by
    obtain⟨c,d⟩:=G i j;obtain⟨n,hn⟩:=R7 d;exact⟨n,λk m=>by rw[hn k m,d];rfl⟩)
   exact⟨N,λk m j=>P j k m⟩)
  have X:∀k,N<=k->jE (run E k) g ((x::l).map jL) cb l.length=λi j=>uD E g cb (jL (((x::l)[i.1]?).getD [])) (jL (((x::l)[j.1]?).getD [])):=λk m=>by funext i j;obtain⟨c,d⟩:=G i j;have e1:∀i:_root_.Fin (l.length+1),((x::l).map jL)[i.1]?=some (jL (((x::l)[i.1]?).getD [])):=λi=>(by have:i.1<(x::l).length:=i.2;rw[getElem?_map,ζd this];rfl);unfold jE;rw[e1 i,e1 j];simp only[P i k m j];rw[d];rfl
  have ab:=Ff S;generalize hL:(rK l.length (qG λi j:_root_.Fin (l.length+1)=>uD E g cb (jL (((x::l)[i.1]?).getD [])) (jL (((x::l)[j.1]?).getD [])))).toList=L at *;have ad:L.length=l.length+1:=by rw[<-hL];simpa using ab
  simp only[length_cons]at C I Q;refine⟨max N (max M1 M2)+1,sQ rs off l.length L,[],λk m=>?_,?_,?_,?_⟩;cases k with|zero=>omega|succ k=>simp only[run,kB,F,A,if_true,rS,O,uB,false_eq_true,if_false,length_cons];rw[if_pos ⟨trivial,trivial,C,Zaa,c3⟩,show(run E k).lv=k from pG E k,U k Zaa,W k Zaa];simp only[X k Zaa,q,if_true,hL,append_nil]
  simp[sQ,ad];omega;have e:((sQ rs off l.length L).drop off).take (L.map λi=>((x::l)[i.1]?).getD []).length=L.map λi=>(rs[off+i.1]?).getD []:=by unfold sQ;have h0:(rs.take off).length=off:=(by simp;omega);rw[append_assoc,List.drop_append_of_le_length Zaa,List.drop_eq_nil_of_le Zaa,nil_append,length_map,List.take_append_of_le_length Zab,take_of_length_le Zab]
  rw[e];refine⟨Zab,λj a b s t=>?_⟩;rw[getElem?_map]at s t;obtain⟨i,hi,rfl⟩:=ζf.1 s;rw[hi]at t;simp only[map_some,ζa]at t;subst t;have Y:i.1<(x::l).length:=i.2;have y:off+i.1<rs.length:=by have:=i.2;omega
  refine I.2 i.1 _ _ (by rw[ζd Y];rfl) ?_;rw[getElem?_take,if_pos i.2,getElem?_drop,ζd y];rfl;intro c d u o;unfold sQ at d;rcases mem_append.1 d with d|d;rcases mem_append.1 d with d|d;exact z c (List.mem_of_mem_take d) u o;obtain⟨i,_,rfl⟩:=mem_map.1 d;have y:off+i.1<rs.length:=by have:=i.2;omega
  rw[ζd y]at o;exact z _ (getElem_mem y) u o;exact z c (List.mem_of_mem_drop d) u o;cases h;cases h;cases h
def bz(N:Nat->Y')(F:WP):Arg->V
 |.s n=>get F n|.k c=>c|.f s=>.clo (N s) [] []
def bK(E:Env)(N:Nat->Y')(call:dL)(b:a_ Nat)(now:X')(k:K)(vs:T2)(H:bp):a_ (V×bp):=
 match k,b with
 |.p p,_=>(bq N p vs).map λv=>(v,H)|.r r,none=>(fA H r vs).map λv=>(v,H)|.r r,some b=>(fA (H.take b) r vs).map λv=>(v,H)|.a a,none=>(iU a vs).map λx=>(x.2.val H.length,H++[x.1])|.l l,none=>fP H l vs|.l (.store n),some _=>if now then fP H (.store n) vs else none|.c,none=>match vs with
  |.clo g a c::u=>if E.keep g then fI E call g (a++u++c) H else match ct call g (a++u++c) H with
   |some y=>if y.scalar then some (y,H)else none|none=>none
  |_=>none
 |.c,some b=>match vs with
  |.clo g a c::u=>if E.keep g then none else match ct call g (a++u++c) (H.take b)with
   |some y=>if y.scalar then some (y,H)else none|none=>none
  |_=>none
 |_,_=>none
def bu(F:WP):a_ Nat->V->WP
 |none,_=>F|some d,v=>set F d v
def cK(E:Env)(N:Nat->Y')(call:dL)(b:a_ Nat):SW->WP->bp->a_ (WP×bp)
 |[],F,H=>some (F,H)|o::r,F,H=>match o.gd with
  |none=>match bK E N call b o.now o.k (o.az.map (bz N F)) H with
   |some (v,H')=>cK E N call b r (bu F o.dst v) H'|none=>none
  |some _=>none
section
variable{X:CX}{N:Nat->Y'}{call:dL}{F F':WP}{H H':bp}
theorem Na(B:∀f s,X.nm f=some s->N s=f){o:UV}{x:Arg}(h:qy X.nm o=some x):ev F o=some (bz N F x):=by cases o with|tmp t=>simp[qy]at h;subst h;rfl|const w=>simp[qy]at h;split at h;rename_i c a;split at h;simp at h;subst h;exact a;grind;grind|func f=>obtain⟨s,u,rfl⟩:=ζf.1 h;show some (V.clo f [] [])=some (.clo (N s) [] []);grind|global i=>simp[qy]at h;split at h;rename_i c a;split at h;simp at h;subst h;simp[ev,a];rfl;grind;grind
theorem xO(G:∀f s,X.nm f=some s->N s=f):∀{os:aZ UV}{B:R0},os.mapM (qy X.nm)=some B->fU F os=some (B.map (bz N F))
 |[],B,h=>by simp at h;subst h;rfl|o::os,B,h=>by simp[ζg]at h;obtain⟨x,J,xs,D,rfl⟩:=h;simp[fU,Na G J,xO G D]
theorem B8(D:∀f s,X.nm f=some s->N s=f){B:X'}{ops:R'}{i:Nat}{o:Oper}{ro:RO}(h:oT X B ops i o=some ro)(g:ro.gd=none):
 o.dst=ro.dst/\Ac X.nt o.dst=true/\gD ops F o=true/\((CU X.E N F o.op (ro.az.map (bz N F)) ro.k/\ro.now=(B&&dO ops i)/\(B=true->dO ops i=false->∀a',qL ops i a'=[]\/∀t,o.op≠.load t (.tmp a')))\/(∃n,ro.k=.l (.storeF n))\/(∃n a,ro.k=.r (.loadF n a))\/(B=true/\FB X.E ops i=true/\dF o.op=.alloc/\(∃p,ro.k=.p p/\(p=.emptyC\/(∃a b,p=.makeC a b)\/∃a b c d,p=.buildC a b c d)/\∀y,bq N p (ro.az.map (bz N F))=some y->qH X.E F o.op=some y))\/∃n,ro.k=.e n):=by
 unfold oT at h;split at h
 .rename_i hd;split at h
  .rename_i gd k os u hr;split at h
   .split at h
    .rename_i z;simp only[ζh]at z;have L:∀{gd:a_ (Nat×X')},DC ops o=some gd->gd=none->gD ops F o=true:=λ{gd}u g=>by
      subst g;unfold gD;unfold DC at u
      cases G:o.guard with
      |none=>rfl|some O=>rw[G]at u;have⟨j,b⟩:=O;have⟨d,_,e⟩:=ζf.1 u;cases e
     split at h
     next Q=>obtain⟨S,C,rfl⟩:=ζf.1 h;have w:=jU D hr (xO (F:=F) D C);exact⟨rfl,hd,L u g,.inr (.inr (.inr (.inl ⟨z.1,z.2,w.1,_,rfl,.inr (.inl ⟨_,_,rfl⟩),λy I=>E8 ⟨_,_,_,by assumption⟩ w I⟩)))⟩
     .rename_i Q;split at h
      next T=>obtain⟨U,rfl,rfl⟩:=T;obtain⟨S,C,rfl⟩:=ζf.1 h;have w:=jU D hr (xO (F:=F) D C);exact⟨rfl,hd,L u g,.inr (.inr (.inr (.inl ⟨z.1,z.2,w.1,_,rfl,.inl rfl,λy I=>Fs ⟨_,_,_,by assumption⟩ w U I⟩)))⟩
      obtain⟨S,C,rfl⟩:=ζf.1 h;have w:=jU D hr (xO (F:=F) D C);exact⟨rfl,hd,L u g,.inr (.inr (.inr (.inl ⟨z.1,z.2,w.1,_,rfl,.inr (.inr ⟨_,_,_,_,rfl⟩),λy I=>Fa ⟨_,_,_,by assumption⟩ w I⟩)))⟩
     cases h
    obtain⟨S,C,rfl⟩:=ζf.1 h;simp only at g;subst g;refine⟨rfl,hd,?_,?_⟩
    .unfold gD;unfold DC at u
     cases G:o.guard with
     |none=>rfl|some O=>rw[G]at u;have⟨j,b⟩:=O;have⟨d,_,e⟩:=ζf.1 u;cases e
    rcases EP B ops i k os with⟨e,W⟩|⟨_,_,n,a,l,Y,_,_,_,e⟩|⟨_,_,n,ag,a,_,_,e⟩|⟨_,_,_,n,_,e⟩
    .rw[e]at C⊢;refine .inl ⟨jU D hr (xO D C),rfl,λhd Z a'=>?_⟩
     by_cases J:∃t,o.op=.load t (.tmp a')
     .have⟨t,J⟩:=J;rw[J]at hr;simp only[resolve]at hr;have⟨d,_,e⟩:=ζf.1 hr;simp only[ζc]at e;exact .inl (W _ _ a' hd Z e.1.symm e.2.symm)
     exact .inr λt h=>J ⟨t,h⟩
    .rw[e];exact .inr (.inl ⟨n,rfl⟩)
    .rw[e];exact .inr (.inr (.inl ⟨n,ag,rfl⟩))
    rw[e];exact .inr (.inr (.inr (.inr ⟨n,rfl⟩)))
   simp at h
  simp at h
 simp at h
theorem Kb{a:Nat}{dst:a_ Nat}(h:Ac a dst=true)(v:V):kO a F dst v=some (bu F dst v):=by cases dst with|none=>rfl|some d=>simp[Ac]at h;simp[kO,if_pos h,bu]
theorem YN(J:∀f s,X.nm f=some s->N s=f){ops:R'}{i:Nat}{o:Oper}{ro:RO}(h:oT X false ops i o=some ro)(q:ro.gd=none){v:V}(d:bK X.E N call none ro.now ro.k (ro.az.map (bz N F)) H=some (v,H')):
 gW X.E call X.nt ops none o F H=some (bu F ro.dst v,H'):=by
 have⟨j,I,L,u⟩:=B8 (F:=F) J h q;have hd:dJ X.E call ops none F H o.op=some (v,H'):=by
  rcases u with⟨u,_⟩|⟨n,u⟩|⟨n,a,u⟩|⟨u,_⟩|⟨n,u⟩;generalize t:ro.k=k at d u;generalize ro.az.map (bz N F)=U at d u;unfold dJ;cases k with|p p=>have⟨c,e⟩:=u;have⟨w,B,C⟩:=ζf.1 d;rw[c];simp only[AV (e w B),map_some];rw[C]|r r=>have⟨c,e⟩:=u;have⟨w,B,C⟩:=ζf.1 d;rw[c];simp only[e H w B,map_some];rw[C]|a a=>have⟨c,e⟩:=u;have⟨⟨ob,m⟩,B,C⟩:=ζf.1 d;rw[c];simp only[sR,false_eq_true,if_false,e _ B];exact congrArg some C|l l=>have⟨c,e⟩:=u;rw[c];exact e H _ d|e n=>exact u.elim|b=>simp[bK]at d|c=>obtain⟨c,f,O,rfl,e⟩:=u;rw[c];simp only[bK]at d;split at d;rename_i g a b Q D;simp only[List.cons.injEq]at D;obtain⟨rfl,rfl⟩:=D;split at d;(next z=>simp only[e,mD,z,Bool.and_self,if_true];exact d);rename_i z;split at d;rename_i y S;split at d;(next G=>simp only[e,mD,z,Bool.false_and,false_eq_true,if_false,S,G,if_true];exact d);simp at d;simp at d;simp at d
  .rw[u]at d;exfalso;have:∀ops i k os,(zf false ops i k os).1=k:=λ_ _ _ _=>rfl;unfold oT at h;simp only[Bool.false_and,false_eq_true,if_false]at h;split at h
   .split at h
    .rename_i gd k os T hr;split at h
     .obtain⟨O,W,rfl⟩:=ζf.1 h;simp only[this]at u;subst u;unfold resolve at hr;(repeat' split at hr)<;>first|(simp at hr;done)|(have⟨_,_,e⟩:=ζf.1 hr;simp at e;done)
     simp at h
    simp at h
   first|(simp at h;done)|contradiction
  rw[u]at d;simp[bK,fA]at d;cases u;rw[u]at d;simp[bK]at d
 unfold gW;rw[L,if_pos rfl,hd];simp only[j,Kb (j▸I),map_some]
theorem Lj(D:∀f s,X.nm f=some s->N s=f){ops:R'}:∀(rest:R'){i:Nat}{B:SW}{F:WP}{H:bp},mb X false ops i rest=some B->cK X.E N call none B F H=some (F',H')->nk X.E call X.nt ops rest F H=some (F',H')
 |[],i,B,F,H,hc,h=>by simp[mb]at hc;subst hc;exact h|o::rest,i,B,F,H,hc,h=>by simp[mb]at hc;split at hc;rename_i ro rs a G;simp at hc;subst hc;simp[cK]at h;split at h;rename_i b;split at h;(next v H1 c=>simp[nk,YN D a b c];exact Lj D rest G h);grind;grind;grind
theorem VU{ops:R'}{i:Nat}{op:Op}(h:∀t a',op=.load t (.tmp a')->qL ops i a'=[]):pK ops i F op=true:=by unfold pK;grind
theorem Ye(Y:∀f s,X.nm f=some s->N s=f){ops:R'}{b i:Nat}{o:Oper}(m:ops[i]?=some o){ro:RO}(h:oT X true ops i o=some ro)(q:ro.gd=none){v:V}(d:bK X.E N call (some b) ro.now ro.k (ro.az.map (bz N F)) H=some (v,H')):
 gW X.E call X.nt ops (some (b,i)) o F H=some (bu F ro.dst v,H'):=by
 have⟨j,Z,x,u⟩:=B8 (F:=F) Y h q;have hd:dJ X.E call ops (some (b,i)) F H o.op=some (v,H'):=by
  rcases u with⟨u,z,B⟩|⟨n,u⟩|⟨n,a,u⟩|⟨_,I,J,p,u,_,L⟩|⟨n,u⟩;generalize E:ro.k=k at d u;generalize ro.az.map (bz N F)=vs at d u;unfold dJ
  cases k with
  |p p=>have⟨c,e⟩:=u;have⟨w,C,D⟩:=ζf.1 d;rw[c];simp only[AV (e w C),map_some];rw[D]|r r=>have⟨c,e⟩:=u;have⟨w,C,D⟩:=ζf.1 d;have O:pK ops i F o.op=true:=VU λt a' e=>(by by_cases U:dO ops i=true;exact Ft m e U;rcases B rfl (by simpa using U) a' with h|h;exact h;exact absurd e (h t));rw[c];simp only[e _ w C,O,if_true];rw[D]|a a=>simp[bK]at d|l l=>have⟨c,e⟩:=u;cases l with|store n=>simp only[bK]at d;split at d;(next W=>rw[z,Bool.true_and]at W;rw[c];simp only[W,Bool.true_or,if_true];exact e H _ d);simp at d|_=>simp[bK]at d
  |e n=>exact u.elim|b=>simp[bK]at d|c=>obtain⟨c,f,K,rfl,e⟩:=u;rw[c];simp only[bK]at d;split at d;rename_i g a b M G;simp only[List.cons.injEq]at G;obtain⟨rfl,rfl⟩:=G;split at d;simp at d;rename_i Q;split at d;rename_i y A;split at d;(next S=>simp only[e,mD,Q,Bool.false_and,false_eq_true,if_false,A,S,if_true];exact d);simp at d;simp at d;simp at d
  rw[u]at d;simp[bK]at d;rw[u]at d;simp[bK,fA]at d;rw[u]at d;have⟨w,C,D⟩:=ζf.1 d;have T:=L w C;unfold dJ;rw[J];simp only[sR,I,if_true,T,map_some];exact congrArg some D;rw[u]at d;simp[bK]at d
 unfold gW;rw[x,if_pos rfl,hd];simp only[j,Kb (j▸Z),map_some]
theorem Kk(D:∀f s,X.nm f=some s->N s=f){ops:R'}{b:Nat}:∀(rest:R'){i:Nat}{B:SW}{F:WP}{H:bp},ops.drop i=rest->mb X true ops i rest=some B->cK X.E N call (some b) B F H=some (F',H')->
 kH X.E call X.nt ops b (range' i rest.length) F H=some (F',H')
 |[],i,B,F,H,_,hc,h=>by simp[mb]at hc;subst hc;exact h|o::rest,i,B,F,H,hd,hc,h=>by simp[mb]at hc;split at hc;rename_i ro rs a J;simp at hc;subst hc;simp[cK]at h;split at h;rename_i c;split at h;rename_i v H1 d;have G:ops[i]?=some o:=(by have:(ops.drop i)[0]?=some o:=Zac;grind);have u:ops.drop (i+1)=rest:=(by rw[<-List.drop_drop,hd];rfl);simp[List.range'_succ,kH,G,Ye D G a c d];exact Kk D rest u J h;grind;grind;grind
def zw(l:SW):X':=l.all λo=>(match o.k with|.a _|.l (.storeF _)|.r (.loadF ..)|.p (.makeC ..)|.p (.buildC ..)|.p .emptyC|.e _=>false|_=>true)&&o.gd.isNone
theorem EO(J:∀f s,X.nm f=some s->N s=f){ops:R'}:∀(rest:R'){i:Nat}{G:SW},mb X true ops i rest=some G->zw G=true->rest.any (λo=>dF o.op==.alloc)=false
 |[],_,_,_,_=>rfl|o::rest,i,G,hc,D=>by simp only[mb]at hc;split at hc;rename_i ro rs c U;simp only[ζa]at hc;subst hc;simp only[zw,all_cons,ζh,Option.isNone_iff_eq_none]at D;have⟨_,_,_,B⟩:=B8 (F:=[]) J c D.1.2;rw[List.any_cons,EO J rest U D.2,Bool.or_false];rcases B with⟨B,_⟩|⟨n,B⟩|⟨n,a,B⟩|⟨_,_,_,p,B,u,_⟩|⟨n,B⟩;(cases b:ro.k with|a p=>have:=D.1.1;rw[b]at this;cases this|e p=>have:=D.1.1;rw[b]at this;cases this|_=>rw[b]at B;rw[B.1];rfl);have:=D.1.1;rw[B]at this;cases this;have:=D.1.1;rw[B]at this;cases this;have:=D.1.1;rw[B]at this;rcases u with rfl|⟨_,_,rfl⟩|⟨_,_,_,_,rfl⟩<;>cases this;have:=D.1.1;rw[B]at this;cases this;simp at hc
def iO(E:Env)(N:Nat->Y')(call:dL)(lf:Nat):RC->WP->bp->a_ (Out×WP×bp)
 |.skip,F,H=>some (.norm,F,H)|.ops l,F,H=>(cK E N call none l F H).map λx=>(.norm,x.1,x.2)|.qK l,F,H=>if zw l then(cK E N call (some H.length) l F H).map λx=>(.norm,x.1,x.2)else none|.seq a b,F,H=>match iO E N call lf a F H with
  |some (.norm,F',H')=>iO E N call lf b F' H'|r=>r
 |.cond x a b,F,H=>match bz N F x with
  |.bool t=>if t then iO E N call lf a F H else iO E N call lf b F H|_=>none
 |.block id c,F,H=>match iO E N call lf c F H with
  |some (.exit B,F',H')=>if B=id then some (.norm,F',H')else some (.exit B,F',H')|r=>r
 |.loop c,F,H=>lQ (iO E N call lf c) lf F H|.exit id,F,H=>some (.exit id,F,H)|.ret,F,H=>some (.ret,F,H)|_,_,_=>none
theorem Kw{f g:WP->bp->a_ (Out×WP×bp)}(h:∀F H r,f F H=some r->g F H=some r):∀(k:Nat)(F:WP)(H:bp)(r:Out×WP×bp),lQ f k F H=some r->lQ g k F H=some r
 |0,F,H,r,hr=>by simp[lQ]at hr|k+1,F,H,r,hr=>by simp only[lQ]at hr⊢;cases B:f F H with|none=>rw[B]at hr;simp at hr|some q=>rw[B]at hr;rw[h F H q B];have⟨o,F1,H1⟩:=q;cases o with|norm=>exact Kw h k F1 H1 r hr|exit _=>exact hr|ret=>exact hr
theorem Kc(D:∀f s,X.nm f=some s->N s=f){lf:Nat}:∀(j:RC)(code:Code)(F:WP)(H:bp)(r:Out×WP×bp),bW X false code=some j->iO X.E N call lf j F H=some r->exec X.E call lf false X.nt code F H=some r:=by
 intro j
 induction j with
 |skip=>
  intro code F H r d h;simp only[iO,ζa]at h;subst h
  cases code with
  |skip=>rfl|label _=>rfl|region id ops u=>simp only[bW]at d;(repeat' split at d)<;>first|(simp at d;done)|(have⟨_,_,e⟩:=ζf.1 d;cases e)
  |_=>simp only[bW]at d;(repeat' split at d)<;>first|(simp at d;done)|(have⟨_,_,e⟩:=ζf.1 d;cases e)|cases d
 |ops l=>intro code F H r d h;cases code with|region id ops u=>simp only[bW]at d;split at d;split at d;have⟨_,_,e⟩:=ζf.1 d;cases e;simp at d;rename_i hd;have⟨T,G,e⟩:=ζf.1 d;cases e;simp only[iO]at h;obtain⟨⟨F',H'⟩,k,rfl⟩:=ζf.1 h;simp only[exec,kq,hd];rw[if_neg Zab,Lj D _ G k];rfl|_=>simp only[bW]at d;(repeat' split at d)<;>first|(simp at d;done)|(have⟨_,_,e⟩:=ζf.1 d;cases e)|cases d
 |qK l=>intro code F H r d h;cases code with|region id ops u=>simp only[bW]at d;split at d;rename_i hd;split at d;rename_i I;have⟨T,G,e⟩:=ζf.1 d;cases e;simp only[iO]at h;split at h;(next U=>obtain⟨⟨F',H'⟩,k,rfl⟩:=ζf.1 h;have W:tn ops.toList=false:=EO D _ G U;have:=Kk D ops.toList (i:=0) rfl G k;rw[<-List.range_eq_range']at this;simp only[exec,kq,hd,I,if_true,W,false_eq_true,if_false,this];rfl);simp at h;simp at d;have⟨_,_,e⟩:=ζf.1 d;cases e|_=>simp only[bW]at d;(repeat' split at d)<;>first|(simp at d;done)|(have⟨_,_,e⟩:=ζf.1 d;cases e)|cases d
 |seq a b w B=>
  intro code F H r d h
  cases code with
  |seq J L=>simp only[bW]at d;split at d;rename_i x y C O;cases d;simp only[iO]at h;simp only[exec];(cases g:iO X.E N call lf a F H with|none=>rw[g]at h;simp at h|some q=>rw[g]at h;rw[w J F H q C g];have⟨o,F1,H1⟩:=q;cases o with|norm=>exact B L F1 H1 r O h|exit _=>exact h|ret=>exact h);simp at d
  |region id ops u=>simp only[bW]at d;(repeat' split at d)<;>first|(simp at d;done)|(have⟨_,_,e⟩:=ζf.1 d;cases e)
  |_=>simp only[bW]at d;(repeat' split at d)<;>first|(simp at d;done)|(have⟨_,_,e⟩:=ζf.1 d;cases e)|cases d
 |cond x a b w B=>
  intro code F H r d h
  cases code with
  |cond c J L=>simp only[bW]at d;split at d;rename_i n y z C O Y;cases d;simp only[iO]at h;simp only[exec,Na (F:=F) D C];split at h;rename_i t Z;rw[Z];(cases t with|true=>simp only[if_true]at h⊢;exact w J F H r O h|false=>simp only[false_eq_true,if_false]at h⊢;exact B L F H r Y h);simp at h;simp at d
  |region id ops u=>simp only[bW]at d;(repeat' split at d)<;>first|(simp at d;done)|(have⟨_,_,e⟩:=ζf.1 d;cases e)
  |_=>simp only[bW]at d;(repeat' split at d)<;>first|(simp at d;done)|(have⟨_,_,e⟩:=ζf.1 d;cases e)|cases d
 |block id c Q=>
  intro code F H r d h
  cases code with
  |block S c'=>simp only[bW]at d;have⟨x,C,e⟩:=ζf.1 d;cases e;simp only[iO]at h;simp only[exec];cases g:iO X.E N call lf c F H with|none=>rw[g]at h;simp at h|some q=>rw[g]at h;rw[Q c' F H q C g];exact h
  |region id ops u=>simp only[bW]at d;(repeat' split at d)<;>first|(simp at d;done)|(have⟨_,_,e⟩:=ζf.1 d;cases e)
  |_=>simp only[bW]at d;(repeat' split at d)<;>first|(simp at d;done)|(have⟨_,_,e⟩:=ζf.1 d;cases e)|cases d
 |loop c Q=>
  intro code F H r d h
  cases code with
  |loop c'=>simp only[bW]at d;have⟨x,C,e⟩:=ζf.1 d;cases e;simp only[iO]at h;simp only[exec];exact Kw (λF H r m=>Q c' F H r C m) lf F H r h|region id ops u=>simp only[bW]at d;(repeat' split at d)<;>first|(simp at d;done)|(have⟨_,_,e⟩:=ζf.1 d;cases e)
  |_=>simp only[bW]at d;(repeat' split at d)<;>first|(simp at d;done)|(have⟨_,_,e⟩:=ζf.1 d;cases e)|cases d
 |exit id=>
  intro code F H r d h
  cases code with
  |exit S=>simp only[bW,ζa,RC.exit.injEq]at d;subst d;exact h|region id ops u=>simp only[bW]at d;(repeat' split at d)<;>first|(simp at d;done)|(have⟨_,_,e⟩:=ζf.1 d;cases e)
  |_=>simp only[bW]at d;(repeat' split at d)<;>first|(simp at d;done)|(have⟨_,_,e⟩:=ζf.1 d;cases e)|cases d
 |ret=>
  intro code F H r d h
  cases code with
  |ret=>exact h|region id ops u=>simp only[bW]at d;(repeat' split at d)<;>first|(simp at d;done)|(have⟨_,_,e⟩:=ζf.1 d;cases e)
  |_=>simp only[bW]at d;(repeat' split at d)<;>first|(simp at d;done)|(have⟨_,_,e⟩:=ζf.1 d;cases e)|cases d
 |_=>intro code F H r d h;simp[iO]at h
end
def Ex(E:Env)(N:Nat->Y')(a:RC)(F:WP)(H:bp)(o:Out)(F':WP)(H':bp):Prop:=∃n,∀k,n<=k->iO E N (run E k) k a F H=some (o,F',H')
def mX(E:Env)(N:Nat->Y')(a:RC)(F:WP)(H:bp)(o:Out)(F':WP)(H':bp):Prop:=∃n,∀k,n<=k->∀u,n<=u->lQ (iO E N (run E k) k a) u F H=some (o,F',H')
section
variable{E:Env}{N:Nat->Y'}{a b c:RC}{F F1 F':WP}{H H1 H':bp}{o:Out}{x:Arg}{id:Nat}
theorem Ex.ops{l:SW}(h:∃n,∀k,n<=k->cK E N (run E k) none l F H=some (F',H')):Ex E N (.ops l) F H .norm F' H':=let⟨n,h⟩:=h;⟨n,λk a=>by simp only[iO,h k a,map_some]⟩
theorem Ex.dw{l:SW}(h:∀call,cK E N call none l F H=some (F',H')):Ex E N (.ops l) F H .norm F' H':=Ex.ops ⟨0,λk _=>h _⟩
theorem Ex.qK{l:SW}(B:zw l=true)(h:∀call,cK E N call (some H.length) l F H=some (F',H')):Ex E N (.qK l) F H .norm F' H':=⟨0,λk _=>by simp only[iO,B,if_true,h,map_some]⟩
theorem Ex.OH{l:SW}(B:zw l=true)(h:∃n,∀k,n<=k->cK E N (run E k) (some H.length) l F H=some (F',H')):Ex E N (.qK l) F H .norm F' H':=let⟨n,h⟩:=h;⟨n,λk a=>by simp only[iO,B,if_true,h k a,map_some]⟩
theorem Ex.skip:Ex E N .skip F H .norm F H:=⟨0,λ_ _=>rfl⟩
theorem Ex.exit:Ex E N (.exit id) F H (.exit id) F H:=⟨0,λ_ _=>rfl⟩
theorem Ex.ret:Ex E N .ret F H .ret F H:=⟨0,λ_ _=>rfl⟩
theorem Ex.seq(c:Ex E N a F H .norm F1 H1)(B:Ex E N b F1 H1 o F' H'):Ex E N (.seq a b) F H o F' H':=by have⟨n,c⟩:=c;have⟨m,B⟩:=B;exact⟨max n m,λk d=>by simp only[iO,c k Zaa];exact B k Zaa⟩
theorem Ex.uR(c:Ex E N a F H o F' H')(B:o≠.norm):Ex E N (.seq a b) F H o F' H':=by have⟨n,c⟩:=c;refine⟨n,λk d=>?_⟩;simp only[iO,c k d];cases o<;>first|exact absurd rfl B|rfl
theorem Ex.om(B:bz N F x=.bool true)(h:Ex E N a F H o F' H'):Ex E N (.cond x a b) F H o F' H':=by have⟨n,h⟩:=h;exact⟨n,λk c=>by simp only[iO,B,if_true,h k c]⟩
theorem Ex.qI(B:bz N F x=.bool false)(h:Ex E N b F H o F' H'):Ex E N (.cond x a b) F H o F' H':=by have⟨n,h⟩:=h;exact⟨n,λk c=>by simp only[iO,B,false_eq_true,if_false,h k c]⟩
theorem Ex.block(h:Ex E N c F H .norm F' H'):Ex E N (.block id c) F H .norm F' H':=by have⟨n,h⟩:=h;exact⟨n,λk a=>by simp only[iO,h k a]⟩
theorem Ex.wu(h:Ex E N c F H (.exit id) F' H'):Ex E N (.block id c) F H .norm F' H':=by have⟨n,h⟩:=h;exact⟨n,λk a=>by simp only[iO,h k a,if_true]⟩
theorem Ex.QE(h:Ex E N c F H .ret F' H'):Ex E N (.block id c) F H .ret F' H':=by have⟨n,h⟩:=h;exact⟨n,λk a=>by simp only[iO,h k a]⟩
theorem Ex.loop(h:mX E N c F H o F' H'):Ex E N (.loop c) F H o F' H':=by have⟨n,h⟩:=h;exact⟨n,λk a=>h k a k a⟩
theorem mX.step(a:Ex E N c F H .norm F1 H1)(B:mX E N c F1 H1 o F' H'):mX E N c F H o F' H':=by have⟨n,a⟩:=a;have⟨m,B⟩:=B;refine⟨max n m+1,λk b u w=>?_⟩;cases u with|zero=>omega|succ u=>simp only[lQ,a k Zaa];exact B k Zaa u Zaa
theorem mX.stop(a:Ex E N c F H o F' H')(B:o≠.norm):mX E N c F H o F' H':=by have⟨n,a⟩:=a;refine⟨n+1,λk b u w=>?_⟩;cases u with|zero=>omega|succ u=>simp only[lQ,a k Zaa];cases o<;>first|exact absurd rfl B|rfl
end
theorem Ex.run{E:Env}{nm:Y'->a_ Nat}{N:Nat->Y'}(B:∀f s,nm f=some s->N s=f){f:Y'}{fi:FI}{a:RC}(D:E.ft f=some fi)(b:bW ⟨E,nm,fi.ntmps⟩ false fi.body=some a){args:T2}(G:args.length<=fi.ntmps){H H':bp}{F':WP}
 (h:Ex E N a args H .ret F' H'){vs:T2}(c:iK E F' H' fi.results=some vs):∃n,run E n (.fn f) args H=some (result vs,H'):=by
 have⟨n,h⟩:=h;refine⟨n+1,?_⟩;have:=Kc (X:=⟨E,nm,fi.ntmps⟩) (call:=Go.VE.run E n) B (lf:=n) a fi.body args H _ b (h n (le_refl _));simp only[Go.VE.run,kB,D,if_pos G,this,c,map_some]
@[simp] theorem bA(F:WP)(i j:Nat)(v:V):get (set F i v) j=if i=j then v else get F j:=by
 split;next h=>subst h;exact uf F i v
 rename_i h;exact jY F v h
def refs:S'->T'->T'
 |id::ids,r::rs=>[V.hsl id 1 0 r.length]::refs ids rs|_,_=>[]
def jT(r:T2):T':=r.map λu=>[u]
structure nu(H:bp)(w:V)(o:Nat)(ids:List Nat)(rows:List (List V)):Prop where
 v:w=if rows=[]then .bO else .hsl o 1 0 rows.length
 ob:rows≠[]->H[o]?=some (.row 1 (refs ids rows))
 len:ids.length=rows.length
 r:∀(i id:Nat)(r:List V),ids[i]?=some id->rows[i]?=some r->H[id]?=some (.row 1 (jT r))
 nd:ids.Nodup
 ne:rows≠[]->o∉ids
theorem u7:∀{ids:S'}{rows:T'},ids.length=rows.length->(refs ids rows).length=rows.length
 |[],[],_=>rfl|_::ids,_::rows,h=>by simp only[refs,length_cons,u7 (ids:=ids) (rows:=rows) (by simpa using h)]
theorem Km:∀{ids:S'}{rows:T'}(id:Nat)(r:T2),ids.length=rows.length->refs (ids++[id]) (rows++[r])=refs ids rows++[[V.hsl id 1 0 r.length]]
 |[],[],_,_,_=>rfl|_::ids,_::rows,id,r,h=>by simp only[refs,cons_append,Km (ids:=ids) (rows:=rows) id r (by simpa using h)]
theorem D2:∀{ids:S'}{rows:T'}{i id:Nat}{r:T2},ids[i]?=some id->rows[i]?=some r->(refs ids rows)[i]?=some [V.hsl id 1 0 r.length]
 |[],_,_,_,_,h,_=>by simp at h|_::_,[],_,_,_,_,h=>by simp at h|a::ids,b::rows,0,id,r,h1,B=>by simp at h1 B;subst h1 B;rfl|a::ids,b::rows,i+1,id,r,h1,B=>by simpa[refs]using D2 (ids:=ids) (rows:=rows) (i:=i) (by simpa using h1) (by simpa using B)
theorem Jt:∀{ids:S'}{rows:T'}{i:Nat}{r B:T2},rows[i]?=some r->B.length=r.length->refs ids (rows.set i B)=refs ids rows
 |[],_,_,_,_,_,_=>by simp[refs]|_::_,[],_,_,_,_,_=>by simp[refs]|a::ids,b::rows,0,r,B,h,D=>by simp at h;subst h;simp only[List.set_cons_zero,refs,D]|a::ids,b::rows,i+1,r,B,h,D=>by simp only[List.set_cons_succ,refs,Jt (ids:=ids) (rows:=rows) (i:=i) (by simpa using h) D]
section
variable{H H':bp}{v:V}{o:Nat}{ids:S'}{rows:T'}
theorem nu.nil(H:bp)(o:Nat):nu H .bO o [] []:=⟨rfl,λh=>absurd rfl h,rfl,λi id r h=>by simp at h,.nil,λh=>absurd rfl h⟩
theorem nu.heap(n:nu H v o ids rows)(B:rows≠[]->H'[o]?=H[o]?)(hi:∀id∈ids,H'[id]?=H[id]?):nu H' v o ids rows:=⟨n.v,λh=>by rw[B h];exact n.ob h,n.len,λi id r h1 u=>by rw[hi id (mem_of_getElem? h1)];exact n.r i id r h1 u,n.nd,n.ne⟩
theorem nu.lt(n:nu H v o ids rows):(rows≠[]->o<H.length)/\∀id∈ids,id<H.length:=by refine⟨λh=>(ζe.1 (n.ob h)).1,λid u=>?_⟩;have⟨i,hi⟩:=getElem?_of_mem u;have w:=(ζe.1 hi).1;have:=n.r i id _ hi (ζd (show i<rows.length from n.len▸w));exact(ζe.1 this).1
theorem nu.more(n:nu H v o ids rows)(X:bp):nu (H++X) v o ids rows:=n.heap (λh=>getElem?_append_left (n.lt.1 h)) λid u=>getElem?_append_left (n.lt.2 id u)
theorem nu.push(n:nu H v o ids rows)(r:T2)(U:rows.length+1<=2147483648):
 ∃H',fP (H++[.row 1 (jT r)]++[.row 1 [[.hsl H.length 1 0 r.length]]]) (.append 1) [v,.hsl (H.length+1) 1 0 1]=some (.hsl (H.length+2) 1 0 (rows.length+1),H')/\
  nu H' (.hsl (H.length+2) 1 0 (rows.length+1)) (H.length+2) (ids++[H.length]) (rows++[r])/\H.length<=H'.length/\(∀id,id<H.length->id≠o\/rows=[]->H'[id]?=H[id]?):=by
 generalize C:H++[.row 1 (jT r)]++[.row 1 [[.hsl H.length 1 0 r.length]]]=H2;have u:H2.length=H.length+2:=by subst C;simp
 have z:∀id,id<H.length->H2[id]?=H[id]?:=λid h=>by subst C;rw[append_assoc,getElem?_append_left h]
 have g:H2[H.length]?=some (.row 1 (jT r)):=by subst C;simp
 have T:H2[H.length+1]?=some (.row 1 [[.hsl H.length 1 0 r.length]]):=by subst C;simp
 have f:=n.v;have e2:dQ H2 1 (.hsl (H.length+1) 1 0 1)=some [[.hsl H.length 1 0 r.length]]:=by simp[dQ,T,Ob.rows]
 by_cases c:rows=[]
 .subst c;rw[if_pos rfl]at f;subst f;have:ids=[]:=List.eq_nil_of_length_eq_zero n.len;subst this;refine⟨H2++[.row 1 [[.hsl H.length 1 0 r.length]]],?_,⟨Zab,λ_=>by rw[<-u];simp[refs],rfl,λi id O hi w=>?_,Zab,λ_=>Zab⟩,by simp[u];omega,λid D _=>?_⟩
  .have e1:dQ H2 1 .bO=some []:=rfl;simp only[fP,e1,e2,iG,List.length_nil,length_singleton,map_some,u];simp
  .cases i with
   |zero=>simp at hi w;subst hi w;rw[getElem?_append_left Zaa];exact g|succ i=>simp at hi
  rw[getElem?_append_left Zaa];exact z id D
 rw[if_neg c]at f;subst f;have Q:=n.ob c;have I:=n.lt.1 c;have e1:dQ H2 1 (.hsl o 1 0 rows.length)=some (refs ids rows):=by simp only[dQ,if_true,z o I,Q,ζb,Ob.rows,u7 n.len,zero_add,le_refl,drop_zero];rw[take_of_length_le (by rw[u7 n.len];exact le_refl _)]
 have W:iG H2 (.hsl o 1 0 rows.length)=some (H2.set o .dead):=by simp only[iG,z o I,Q]
 have B:∀id,id≠o->(H2.set o Ob.dead++[Ob.row 1 (refs ids rows++[[.hsl H.length 1 0 r.length]])])[id]?=if id<H2.length then H2[id]?else(H2.set o Ob.dead++[Ob.row 1 (refs ids rows++[[.hsl H.length 1 0 r.length]])])[id]?:=λid G=>by split;(next h=>rw[getElem?_append_left (by simpa using h),getElem?_set_ne (Ne.symm G)]);rfl
 refine⟨H2.set o .dead++[.row 1 (refs ids rows++[[.hsl H.length 1 0 r.length]])],?_,⟨Zab,λ_=>?_,by simp[n.len],λi id O hi w=>?_,?_,λ_ d=>?_⟩,by simp[u];omega,λid D G=>?_⟩
 .simp only[fP,e1,e2,W,u7 n.len,length_singleton,U,if_true,map_some,u]
 .rw[Km _ _ n.len,<-u];simp
 .have J:id≠o:=by
   rcases Nat.lt_or_ge i ids.length with h|h
   .rw[getElem?_append_left h]at hi;intro e;subst e;exact n.ne c (mem_of_getElem? hi)
   have:i=ids.length:=by have:=(ζe.1 hi).1;simp at this;omega
   subst this;simp at hi;subst hi;omega
  rcases Nat.lt_or_ge i ids.length with h|h
  .rw[getElem?_append_left h]at hi;rw[getElem?_append_left (by rw[<-n.len];exact h)]at w
   have L:=n.lt.2 id (mem_of_getElem? hi);rw[B id J,if_pos Zaa,z id L]
   exact n.r i id O hi w
  have:i=ids.length:=by have:=(ζe.1 hi).1;simp at this;omega
  subst this;simp at hi;subst hi;rw[n.len]at w;simp at w;subst w;rw[B _ J,if_pos Zaa];exact g
 .rw[List.nodup_append];exact⟨n.nd,Zab,λa X b S=>by simp at S;subst S;exact Nat.ne_of_lt (n.lt.2 a X)⟩
 .rcases mem_append.1 d with d|d
  .have:=n.lt.2 _ d;omega
  simp at d
 rw[B id (G.resolve_right c),if_pos Zaa];exact z id D
end
theorem kC{E:Env}{N:Nat->Y'}{F:WP}{H H1:bp}{call:dL}{b:a_ Nat}{o:RO}{l:SW}{v:V}{r:WP×bp}(a:o.gd=none)(c:bK E N call b o.now o.k (o.az.map (bz N F)) H=some (v,H1))(h:cK E N call b l (bu F o.dst v) H1=some r):cK E N call b (o::l) F H=some r:=by simp only[cK,a,c];exact h
theorem vp{E:Env}{N:Nat->Y'}{F:WP}{H:bp}{call:dL}{b:a_ Nat}{o:RO}{l:SW}{v:V}{r:WP×bp}(a:o.gd=none)(c:bK E N call b o.now o.k (o.az.map (bz N F)) H=some (v,H))(h:cK E N call b l (bu F o.dst v) H=some r):cK E N call b (o::l) F H=some r:=kC a c h
theorem eA{E:Env}{N:Nat->Y'}{F:WP}{H:bp}{call:dL}{b:a_ Nat}:cK E N call b [] F H=some (F,H):=rfl
theorem zA{n:Nat}(h:n<=2147483648):wrap .i64 ((n:Int)+1)=((n+1:Nat):Int):=by simp[wrap,IntKind.bits,signed];omega
theorem Z6{n:Nat}(h:n<=2147483648):wrap .i64 (((n+1:Nat):Int)-1)=(n:Int):=by simp[wrap,IntKind.bits,signed];omega
theorem kJ(H:bp):H.take H.length=H:=List.take_length
theorem Ai{E:Env}{nm:Y'->a_ Nat}{f:Y'}{a:RC}{n:Nat}{rs:aZ ResultVar}(h:((E.ft f).map λfi=>(bW ⟨E,nm,fi.ntmps⟩ false fi.body,ble n fi.ntmps,fi.results))=some (some a,true,rs)):
 ∃fi,E.ft f=some fi/\bW ⟨E,nm,fi.ntmps⟩ false fi.body=some a/\n<=fi.ntmps/\fi.results=rs:=by
 have⟨fi,b,u⟩:=ζf.1 h;simp only[ζc]at u;exact⟨fi,b,u.1,Nat.le_of_ble_eq_true u.2.1,u.2.2⟩
theorem Ip{x:V}(h:x.one=true):x.cells=[x]:=by cases x<;>first|rfl|(simp[V.one]at h)
theorem XT{call:dL}{f:Y'}{args az:T2}{H:bp}(h:borrows call.lv H args=some az)(a:∀x∈az,x.closed=true):ct call f args H=ct call f az []:=by
 have:borrows call.lv [] az=some az:=by clear h;unfold borrows;induction az with|nil=>rfl|cons x l u=>simp only[je,eH call.lv [] (a x Zab),u λy w=>a y (List.mem_cons_of_mem _ w)]
 unfold ct;rw[h,this]
def kept(t:Nat->X')(n:Nat):S':=(range n).filter λi=>i==0|| !t i
theorem yV(t:Nat->X')(n:Nat):kept t (n+1)=kept t n++if n==0|| !t n then[n]else[]:=by unfold kept;rw[List.range_succ,List.filter_append,List.filter_cons];rfl
theorem Cz(t:Nat->X'):∀n,(kept t n).length<=n:=λn=>by unfold kept;exact Nat.le_trans (List.length_filter_le ..) Zab
theorem MJ{t:Nat->X'}{n i:Nat}(h:i∈kept t n):i<n:=by unfold kept at h;exact mem_range.1 (List.mem_filter.1 h).1
theorem DE{t:Nat->X'}:∀n,(∀i,0<i->i<n->t i=false)->kept t n=range n
 |0,_=>rfl|n+1,h=>by rw[yV,DE n λi a B=>h i a Zaa,List.range_succ];congr 1;cases n with|zero=>rfl|succ n=>rw[h (n+1) Zaa Zaa];simp
theorem Bs{t:Nat->X'}{k:Nat}(b:0<k)(a:t k=true):∀n,k<n->(kept t n).length+1<=n
 |0,h=>Zaa|n+1,h=>by rw[yV];by_cases e:n=k;subst e;have:(n==0|| !t n)=false:=(by simp[a];omega);rw[this];have:=Cz t n;simp;omega;have:=Bs b a n Zaa;split<;>simp<;>omega
namespace cmpX
instance{n:Nat}:OfNat Arg n:=⟨.s n⟩
def r1:SW:=[o1 4 (.k (.bO)) []]
def r2:SW:=[o1 8 0 [],o2 9 (.p .lenSl) [8] [],o2 10 (.p (.bin (some .int) none .lss)) [9,.k (.int .i64 2)] []]
def r3:SW:=[o1 11 0 [],o1 4 11 []]
def r4:SW:=[o1 5 (.k (.int .i64 1)) []]
def r5:SW:=[o1 12 5 [],o1 13 0 [],o2 14 (.p .lenSl) [13] [],o2 15 (.p (.bin (some .int) none .lss)) [12,14] []]
def on(d:Nat)(k:K)(az:R0):RO:=⟨some d,none,true,k,az,[],[]⟩
def r6:SW:=[o1 18 1 [],o1 19 0 [],o1 20 5 [],o2 21 (.p (.idxS 1)) [19,20] [],o2 22 (.r (.load 1 false)) [21] [],o1 23 0 [],o1 24 5 [],o2 25 (.p (.bin (some .int) none .sub)) [24,.k (.int .i64 1)] [],o2 26 (.p (.idxS 1)) [23,25] [],o2 27 (.r (.load 1 false)) [26] [],on 28 .c [18,22,27]]
def r7:SW:=[o1 29 0 [],o1 30 5 [],o2 31 (.p (.slice 1 true false)) [29,30] [],o1 6 31 []]
def r8:SW:=[o1 7 (.k (.int .i64 1)) []]
def r9:SW:=[o1 32 7 [],o1 33 6 [],o2 34 (.p .lenSl) [33] [],o2 35 (.p (.bin (some .int) none .lss)) [32,34] []]
def Fp:SW:=[o1 38 1 [],o1 39 6 [],o1 40 7 [],o2 41 (.p (.idxS 1)) [39,40] [],o2 42 (.r (.load 1 false)) [41] [],o1 43 6 [],o1 44 7 [],o2 45 (.p (.bin (some .int) none .sub)) [44,.k (.int .i64 1)] [],o2 46 (.p (.idxS 1)) [43,45] [],o2 47 (.r (.load 1 false)) [46] [],on 48 .c [38,42,47],on 49 (.p (.not)) [48]]
def HG:SW:=[o1 50 0 [],o1 51 5 [],o1 52 6 [],o1 53 7 [],o2 54 (.p (.idxS 1)) [52,53] [],o2 55 (.r (.load 1 false)) [54] [],o2 56 (.p (.idxS 1)) [50,51] [],⟨none,none,false,.l (.store 1),[56,55],[],[]⟩]
def HU:SW:=[o1 57 5 [],o2 58 (.p (.bin (some .int) none .add)) [57,.k (.int .i64 1)] [],o1 5 58 []]
def Ia:SW:=[o1 36 7 [],o2 37 (.p (.bin (some .int) none .add)) [36,.k (.int .i64 1)] [],o1 7 37 []]
def L13:RC:=.seq (.seq (.ops r9) (.cond (.s 35) (.skip) (.exit 2))) (.seq (.block 3 (.seq (.qK Fp) (.cond (.s 49) (.seq (.ops HG) (.ops HU)) (.skip)))) (.ops Ia))
def Fv:SW:=[o1 59 0 [],o1 60 5 [],o2 61 (.p (.slice 1 true false)) [59,60] [],⟨none,none,false,.l (.clear 1 [.bO]),[61],[],[]⟩]
def GO:SW:=[o1 62 0 [],o1 63 5 [],o2 64 (.p (.slice 1 false true)) [62,63] [],o1 4 64 []]
def r16:SW:=[o1 16 5 [],o2 17 (.p (.bin (some .int) none .add)) [16,.k (.int .i64 1)] [],o1 5 17 []]
def UI:RC:=.seq (.seq (.ops r5) (.cond (.s 15) (.skip) (.exit 0))) (.seq (.block 1 (.seq (.qK r6) (.cond (.s 28) (.seq (.ops r7) (.seq (.seq (.ops r8) (.block 2 (.loop L13))) (.seq (.ops Fv) (.seq (.ops GO) (.ret))))) (.skip)))) (.ops r16))
def QD:SW:=[o1 65 0 [],o1 4 65 []]
def code:RC:=.seq (.ops r1) (.seq (.seq (.ops r2) (.cond (.s 10) (.seq (.ops r3) (.ret)) (.skip))) (.seq (.seq (.ops r4) (.block 0 (.loop UI))) (.seq (.ops QD) (.ret))))
section
variable{E:Env}{N:Nat->Y'}{F:WP}{H:bp}{call:dL}{id off L k:Nat}
theorem ld{B:T'}{el:Nat}{v:V}(h:H[id]?=some (.row 1 B))(a:B[el]?=some [v]):fA H (.load 1 false) [.hptr id el 0]=some v:=by simp[fA,eO,h,Ob.rows,a,cut,mk]
theorem Vr{i:Nat}(h:i<L):mN 1 (.hsl id 1 off L) (i:Int)=some (.hptr id (off+i) 0):=by unfold mN;rw[if_neg Zaa];simp[h]
theorem x2(a:get F 0=.hsl id 1 off L):∃F',(∀call,cK E N call none r2 F H=some (F',H))/\get F' 10=.bool (decide ((L:Int)<2))/\(∀s,s<8->get F' s=get F s):=by refine⟨_,λcall=>vp (v:=.hsl id 1 off L) rfl ?_<|vp (v:=.int .i64 L) rfl ?_<|vp (v:=.bool (decide ((L:Int)<2))) rfl ?_ eA,?_,?_⟩;simp[bK,bz,bq,a];simp[bK,bz,bq,bu,pI];simp[bK,bz,bq,bu,iA,o8];simp[bu];intro s u;simp only[bu,bA];repeat (rw[if_neg Zaa])
theorem x5(a:get F 0=.hsl id 1 off L)(b:get F 5=.int .i64 k):∃F',(∀call,cK E N call none r5 F H=some (F',H))/\get F' 15=.bool (decide (k<L))/\(∀s,s<8->get F' s=get F s):=by refine⟨_,λcall=>vp (v:=.int .i64 k) rfl ?_<|vp (v:=.hsl id 1 off L) rfl ?_<|vp (v:=.int .i64 L) rfl ?_<|vp (v:=.bool (decide (k<L))) rfl ?_ eA,?_,?_⟩;simp[bK,bz,bq,b];simp[bK,bz,bq,bu,a];simp[bK,bz,bq,bu,pI];simp[bK,bz,bq,bu,iA,o8];simp[bu];intro s u;simp only[bu,bA];repeat (rw[if_neg Zaa])
theorem YH{g:Y'}{cb:T2}{B:T'}{o2 L2 i:Nat}{a b:V}{t:X'}(h:H[id]?=some (.row 1 B))(hi:i+1<L2)(D:i<=2147483648)(G:B[o2+(i+1)]?=some [a])(J:B[o2+i]?=some [b])(d:E.keep g=false)(e:get F 1=.clo g [] cb):
 (get F 0=.hsl id 1 o2 L2->get F 5=.int .i64 ((i+1:Nat):Int)->∃F',(∀call,ct call g (a::b::cb) H=some (.bool t)->cK E N call (some H.length) r6 F H=some (F',H))/\get F' 28=.bool t/\(∀s,s<8->get F' s=get F s))/\
 (get F 6=.hsl id 1 o2 L2->get F 7=.int .i64 ((i+1:Nat):Int)->∃F',(∀call,ct call g (a::b::cb) H=some (.bool t)->cK E N call (some H.length) Fp F H=some (F',H))/\get F' 49=.bool (!t)/\(∀s,s<8->get F' s=get F s)):=by
 have hd:=Z6 D;have e1:=ld h G;have e2:=ld h J;have i1:=Vr (id:=id) (off:=o2) (L:=L2) hi;have i2:=Vr (id:=id) (off:=o2) (L:=L2) (show i<L2 by omega)
 refine⟨λf j=>⟨_,λcall c=>vp (v:=.clo g [] cb) rfl ?_<|vp (v:=.hsl id 1 o2 L2) rfl ?_<|vp (v:=.int .i64 ((i+1:Nat):Int)) rfl ?_<|vp (v:=.hptr id (o2+(i+1)) 0) rfl ?_<|vp (v:=a) rfl ?_<|vp (v:=.hsl id 1 o2 L2) rfl ?_<|vp (v:=.int .i64 ((i+1:Nat):Int)) rfl ?_<|
  vp (v:=.int .i64 (i:Int)) rfl ?_<|vp (v:=.hptr id (o2+i) 0) rfl ?_<|vp (v:=b) rfl ?_<|vp (v:=.bool t) rfl ?_ eA,?_,?_⟩,λf6 k=>⟨_,λcall c=>vp (v:=.clo g [] cb) rfl ?_<|vp (v:=.hsl id 1 o2 L2) rfl ?_<|vp (v:=.int .i64 ((i+1:Nat):Int)) rfl ?_<|vp (v:=.hptr id (o2+(i+1)) 0) rfl ?_<|vp (v:=a) rfl ?_<|vp (v:=.hsl id 1 o2 L2) rfl ?_<|vp (v:=.int .i64 ((i+1:Nat):Int)) rfl ?_<|
  vp (v:=.int .i64 (i:Int)) rfl ?_<|vp (v:=.hptr id (o2+i) 0) rfl ?_<|vp (v:=b) rfl ?_<|vp (v:=.bool t) rfl ?_<|vp (v:=.bool (!t)) rfl ?_ eA,?_,?_⟩⟩
 .simp[bK,bz,bq,e]
 .simp[bK,bz,bq,bu,f]
 .simp only[bK,map_cons,map_nil,bz,bu,bA,reduceEqDiff,if_true,if_false,j,bq];rfl
 .simp only[bK,map_cons,map_nil,bz,bu,bA,reduceEqDiff,if_true,if_false,bq];rw[i1];rfl
 .simp only[bK,map_cons,map_nil,bz,bu,bA,reduceEqDiff,if_true,if_false,kJ];rw[e1];rfl
 .simp[bK,bz,bq,bu,f]
 .simp only[bK,map_cons,map_nil,bz,bu,bA,reduceEqDiff,if_true,if_false,j,bq];rfl
 .simp only[bK,map_cons,map_nil,bz,bu,bA,reduceEqDiff,if_true,if_false,bq,iA,hd];rfl
 .simp only[bK,map_cons,map_nil,bz,bu,bA,reduceEqDiff,if_true,if_false,bq];rw[i2];rfl
 .simp only[bK,map_cons,map_nil,bz,bu,bA,reduceEqDiff,if_true,if_false,kJ];rw[e2];rfl
 .simp only[bK,on,map_cons,map_nil,bz,bu,bA,reduceEqDiff,if_true,if_false,kJ,d,false_eq_true,nil_append,cons_append,c,V.scalar]
 .simp[bu,on]
 .intro s u;simp only[bu,on,bA]
  repeat (rw[if_neg Zaa])
 .simp[bK,bz,bq,e]
 .simp[bK,bz,bq,bu,f6]
 .simp only[bK,map_cons,map_nil,bz,bu,bA,reduceEqDiff,if_true,if_false,k,bq];rfl
 .simp only[bK,map_cons,map_nil,bz,bu,bA,reduceEqDiff,if_true,if_false,bq];rw[i1];rfl
 .simp only[bK,map_cons,map_nil,bz,bu,bA,reduceEqDiff,if_true,if_false,kJ];rw[e1];rfl
 .simp[bK,bz,bq,bu,f6]
 .simp only[bK,map_cons,map_nil,bz,bu,bA,reduceEqDiff,if_true,if_false,k,bq];rfl
 .simp only[bK,map_cons,map_nil,bz,bu,bA,reduceEqDiff,if_true,if_false,bq,iA,hd];rfl
 .simp only[bK,map_cons,map_nil,bz,bu,bA,reduceEqDiff,if_true,if_false,bq];rw[i2];rfl
 .simp only[bK,map_cons,map_nil,bz,bu,bA,reduceEqDiff,if_true,if_false,kJ];rw[e2];rfl
 .simp only[bK,on,map_cons,map_nil,bz,bu,bA,reduceEqDiff,if_true,if_false,kJ,d,false_eq_true,nil_append,cons_append,c,V.scalar]
 .simp[bK,on,bz,bq,bu]
 .simp[bu,on]
 intro s u;simp only[bu,on,bA]
 repeat (rw[if_neg Zaa])
end
end cmpX
namespace cmpX
section
variable{E:Env}{N:Nat->Y'}{F:WP}{H:bp}{call:dL}{id off L k:Nat}
theorem x7(a:get F 0=.hsl id 1 off L)(b:get F 5=.int .i64 k)(c:k<=L):∃F',(∀call,cK E N call none r7 F H=some (F',H))/\get F' 6=.hsl id 1 (off+k) (L-k)/\(∀s,s<8->s≠6->get F' s=get F s):=by
 have e:iQ 1 (.hsl id 1 off L) (some k) none=some (.hsl id 1 (off+k) (L-k)):=by unfold iQ eu;grind
 refine⟨_,λcall=>vp (v:=.hsl id 1 off L) rfl ?_<|vp (v:=.int .i64 k) rfl ?_<|vp (v:=.hsl id 1 (off+k) (L-k)) rfl ?_<|vp (v:=.hsl id 1 (off+k) (L-k)) rfl ?_ eA,?_,?_⟩;simp[bK,bz,bq,a];simp[bK,bz,bq,bu,b];simp[bK,bz,bu,bA,bq,mL,e];simp[bK,bz,bq,bu];simp[bu];simp[bu,bA];grind
theorem x9{o2 L2 m:Nat}(f6:get F 6=.hsl id 1 o2 L2)(a:get F 7=.int .i64 m):∃F',(∀call,cK E N call none r9 F H=some (F',H))/\get F' 35=.bool (decide (m<L2))/\(∀s,s<8->get F' s=get F s):=by refine⟨_,λcall=>vp (v:=.int .i64 m) rfl ?_<|vp (v:=.hsl id 1 o2 L2) rfl ?_<|vp (v:=.int .i64 L2) rfl ?_<|vp (v:=.bool (decide (m<L2))) rfl ?_ eA,?_,?_⟩;simp[bK,bz,bq,a];simp[bK,bz,bq,bu,f6];simp[bK,bz,bq,bu,pI];simp[bK,bz,bq,bu,iA,o8];simp[bu];simp[bu,bA];grind
theorem Yv{B:T'}{o2 L2 m p:Nat}{a z:V}(h:H[id]?=some (.row 1 B))(c:get F 0=.hsl id 1 off L)(d:get F 5=.int .i64 p)(f6:get F 6=.hsl id 1 o2 L2)(e:get F 7=.int .i64 m)(D:m<L2)(hp:p<L)
 (G:B[o2+m]?=some [a])(J:B[off+p]?=some [z])(b:a.one=true):
 ∃F',(∀call,cK E N call none HG F H=some (F',H.set id (.row 1 (B.set (off+p) [a]))))/\(∀s,s<8->get F' s=get F s):=by
 have i1:=Vr (id:=id) (off:=o2) D;have i2:=Vr (id:=id) (off:=off) hp;have e1:=ld h G;have u:fP H (.store 1) [.hptr id (off+p) 0,a]=some (.undef,H.set id (.row 1 (B.set (off+p) [a]))):=by simp[fP,h,J,Ip b,b]
 refine⟨_,λcall=>vp (v:=.hsl id 1 off L) rfl ?_<|vp (v:=.int .i64 p) rfl ?_<|vp (v:=.hsl id 1 o2 L2) rfl ?_<|vp (v:=.int .i64 m) rfl ?_<|vp (v:=.hptr id (o2+m) 0) rfl ?_<|vp (v:=a) rfl ?_<|vp (v:=.hptr id (off+p) 0) rfl ?_<|kC (v:=.undef) rfl ?_ eA,?_⟩
 .simp[bK,bz,bq,c]
 .simp[bK,bz,bq,bu,d]
 .simp[bK,bz,bq,bu,f6]
 .simp[bK,bz,bq,bu,e]
 .simp[bK,bz,bu,bA,bq];grind
 .simp[bK,bz,bu,bA];grind
 .simp[bK,bz,bu,bA,bq];grind
 .simp[bK,bz,bu,bA];omega
 simp[bu,bA]
 grind
theorem ON{p:Nat}(hp:p<=2147483648):(get F 5=.int .i64 p->∃F',(∀call,cK E N call none HU F H=some (F',H))/\get F' 5=.int .i64 ((p+1:Nat):Int)/\(∀s,s<8->s≠5->get F' s=get F s))/\
 (get F 7=.int .i64 p->∃F',(∀call,cK E N call none Ia F H=some (F',H))/\get F' 7=.int .i64 ((p+1:Nat):Int)/\(∀s,s<8->s≠7->get F' s=get F s))/\
 (get F 5=.int .i64 p->∃F',(∀call,cK E N call none r16 F H=some (F',H))/\get F' 5=.int .i64 ((p+1:Nat):Int)/\(∀s,s<8->s≠5->get F' s=get F s)):=by
 have u:=zA hp;refine⟨λf=>⟨_,λcall=>vp (v:=.int .i64 p) rfl ?_<|vp (v:=.int .i64 (p+1:Nat)) rfl ?_<|vp (v:=.int .i64 (p+1:Nat)) rfl ?_ eA,?_,?_⟩,
  λf=>⟨_,λcall=>vp (v:=.int .i64 p) rfl ?_<|vp (v:=.int .i64 (p+1:Nat)) rfl ?_<|vp (v:=.int .i64 (p+1:Nat)) rfl ?_ eA,?_,?_⟩,
  λf=>⟨_,λcall=>vp (v:=.int .i64 p) rfl ?_<|vp (v:=.int .i64 (p+1:Nat)) rfl ?_<|vp (v:=.int .i64 (p+1:Nat)) rfl ?_ eA,?_,?_⟩⟩<;>
 first
 |(simp[bK,bz,bq,f];done)|(simp only[bK,map_cons,map_nil,bz,bu,bA,if_true,bq,iA,u];rfl)|grind|(simp[bu];done)|(simp[bu,bA];grind)
theorem x14{B:T'}{p:Nat}(h:H[id]?=some (.row 1 B))(a:get F 0=.hsl id 1 off L)(b:get F 5=.int .i64 p)(hp:p<L)(D:off+L<=B.length):
 ∃F',(∀call,cK E N call none Fv F H=some (F',H.set id (.row 1 (B.take (off+p)++replicate (L-p) [.bO]++B.drop (off+L)))))/\(∀s,s<8->get F' s=get F s):=by
 have e:iQ 1 (.hsl id 1 off L) (some p) none=some (.hsl id 1 (off+p) (L-p)):=by unfold iQ eu;grind
 obtain⟨q,u⟩:∃q,L-p=q+1:=⟨L-p-1,Zaa⟩
 have c:fP H (.clear 1 [.bO]) [.hsl id 1 (off+p) (L-p)]=some (.undef,H.set id (.row 1 (B.take (off+p)++replicate (L-p) [.bO]++B.drop (off+L)))):=by simp[fP,EH,u,h];grind
 refine⟨_,λcall=>vp (v:=.hsl id 1 off L) rfl ?_<|vp (v:=.int .i64 p) rfl ?_<|vp (v:=.hsl id 1 (off+p) (L-p)) rfl ?_<|kC (v:=.undef) rfl ?_ eA,?_⟩
 .simp[bK,bz,bq,a]
 .simp[bK,bz,bq,bu,b]
 .simp[bK,bz,bu,bA,bq,mL,e]
 .simp only[bK,map_cons,map_nil,bz,bu,bA,if_true];omega
 simp[bu,bA]
 grind
theorem UA{p:Nat}(a:get F 0=.hsl id 1 off L)(b:get F 5=.int .i64 p)(hp:p<=L):∃F',(∀call,cK E N call none GO F H=some (F',H))/\get F' 4=.hsl id 1 off p:=by
 have e:iQ 1 (.hsl id 1 off L) none (some p)=some (.hsl id 1 off p):=by unfold iQ eu;grind
 refine⟨_,λcall=>vp (v:=.hsl id 1 off L) rfl ?_<|vp (v:=.int .i64 p) rfl ?_<|vp (v:=.hsl id 1 off p) rfl ?_<|vp (v:=.hsl id 1 off p) rfl ?_ eA,?_⟩;simp[bK,bz,bq,a];simp[bK,bz,bq,bu,b];simp[bK,bz,bu,bA,bq,mL,e];simp[bK,bz,bq,bu];simp[bu]
theorem xmv:∃F',(∀call,cK E N call none QD F H=some (F',H))/\get F' 4=get F 0:=⟨_,λcall=>vp (v:=get F 0) rfl (by simp[bK,bz,bq])<|vp (v:=get F 0) rfl (by simp[bK,bz,bq,bu]) eA,by simp[bu]⟩
theorem Th:∃F',(∀call,cK E N call none r3 F H=some (F',H))/\get F' 4=get F 0:=⟨_,λcall=>vp (v:=get F 0) rfl (by simp[bK,bz,bq])<|vp (v:=get F 0) rfl (by simp[bK,bz,bq,bu]) eA,by simp[bu]⟩
end
structure IG(E:Env)(g:FuncId)(cb:List V)(H:bp)(id off L:Nat)(rs:List (List V))(A:Nat->V)(t:Nat->Bool):Prop where
 row:H[id]?=some (.row 1 rs)
 len:off+L<=rs.length
 small:L<=2147483648
 at_:∀i,i<L->rs[off+i]?=some [A i]
 one:∀i,i<L->(A i).one=true
 keep:E.keep g=false
 cmp:∃n,∀k,n<=k->∀i,i+1<L->∀cur,ct (run E k) g (A (i+1)::A i::cb) (H.set id (.row 1 cur))=some (.bool (t (i+1)))
structure Head(g:FuncId)(cb:List V)(id off L kk m:Nat)(rs:List (List V))(A:Nat->V)(t:Nat->Bool)(F:Frame)(cur:List (List V)):Prop where
 f0:get F 0=.hsl id 1 off L
 f1:get F 1=.clo g [] cb
 f5:get F 5=.int .i64 ((kept t (kk+m)).length:Nat)
 f6:get F 6=.hsl id 1 (off+kk) (L-kk)
 f7:get F 7=.int .i64 m
 len:cur.length=rs.length
 pre:∀p i,(kept t (kk+m))[p]?=some i->cur[off+p]?=some [A i]
 post:∀i,kk+m<=i+1->i<L->cur[off+i]?=some [A i]
 out:∀j,j<off\/off+L<=j->cur[j]?=rs[j]?
 cell:∀i,i<L->∃j,j<L/\cur[off+i]?=some [A j]
section
variable{E:Env}{N:Nat->Y'}{g:Y'}{cb:T2}{H:bp}{id off L kk:Nat}{rs:T'}{A:Nat->V}{t:Nat->X'}
theorem Oh(X:IG E g cb H id off L rs A t)(x:0<kk)(ah:kk<L)(y:t kk=true):∀(d m:Nat)(F:WP)(B:T'),kk+m+d=L->0<m->Head g cb id off L kk m rs A t F B->
 ∃F' D,mX E N L13 F (H.set id (.row 1 B)) (.exit 2) F' (H.set id (.row 1 D))/\Head g cb id off L kk (L-kk) rs A t F' D:=by
 have O:=(ζe.1 X.row).1;have G:∀B,(H.set id (.row 1 B))[id]?=some (.row 1 B):=λB=>getElem?_set_self O
 have ai:=X.small;have af:=X.len;intro d
 induction d with
 |zero=>
  intro m F B M P h;have R:m=L-kk:=Zaa
  subst R;obtain⟨F1,e1,e2,e3⟩:=x9 h.f6 h.f7;refine⟨F1,B,mX.stop (Ex.uR (Ex.seq (Ex.dw e1) (Ex.qI (by simp[bz,e2]) Ex.exit)) Zab) Zab,?_⟩
  exact⟨by rw[e3 0 Zaa];exact h.f0,by rw[e3 1 Zaa];exact h.f1,by rw[e3 5 Zaa];exact h.f5,by rw[e3 6 Zaa];exact h.f6,by rw[e3 7 Zaa];exact h.f7,h.len,h.pre,h.post,h.out,h.cell⟩
 |succ d ih=>
  intro m F B M P h;obtain⟨F1,a1,a2,a3⟩:=x9 h.f6 h.f7;have T:bz N F1 35=.bool true:=by show get F1 35=_;rw[a2,decide_eq_true Zaa]
  obtain⟨m',rfl⟩:∃m',m=m'+1:=⟨m-1,Zaa⟩
  obtain⟨n0,ab⟩:=X.cmp;have q:B[off+kk+(m'+1)]?=some [A (kk+m'+1)]:=by have:=h.post (kk+m'+1) Zaa Zaa;grind
  have c2:B[off+kk+m']?=some [A (kk+m')]:=by have:=h.post (kk+m') Zaa Zaa;grind
  obtain⟨F2,b1,b,b3⟩:=(YH (L2:=L-kk) (G B) Zaa Zaa q c2 X.keep (by rw[a3 1 Zaa];exact h.f1)).2 (by rw[a3 6 Zaa];exact h.f6) (by rw[a3 7 Zaa];exact h.f7)
  have U:∃n,∀k,n<=k->cK E N (run E k) (some (H.set id (.row 1 B)).length) Fp F1 (H.set id (.row 1 B))=some (F2,H.set id (.row 1 B)):=⟨n0,λk hk=>b1 _ (ab k hk (kk+m') Zaa B)⟩
  have w:=λs r=>(b3 s r).trans (a3 s r)
  have ad:(kept t (kk+(m'+1))).length+1<=kk+(m'+1):=Bs x y _ Zaa
  have u:kept t (kk+(m'+1)+1)=kept t (kk+(m'+1))++if t (kk+m'+1)then[]else[kk+m'+1]:=by rw[yV];grind
  have z:kk+(m'+1+1)=kk+(m'+1)+1:=Zaa
  cases W:t (kk+m'+1)with
  |true=>
   rw[W]at b u;simp at u;obtain⟨v,Y,c,Q⟩:=(ON (p:=m'+1) Zaa).2.1 (by rw[w 7 Zaa];exact h.f7)
   obtain⟨F',D,i1,i2⟩:=ih (m'+1+1) v B Zaa Zaa ⟨by rw[Q 0 Zaa Zaa,w 0 Zaa];exact h.f0,by rw[Q 1 Zaa Zaa,w 1 Zaa];exact h.f1,
    by rw[Q 5 Zaa Zaa,w 5 Zaa,z,u];exact h.f5,by rw[Q 6 Zaa Zaa,w 6 Zaa];exact h.f6,c,h.len,by rw[z,u];exact h.pre,λi a Z=>h.post i Zaa Z,h.out,h.cell⟩
   exact⟨F',D,mX.step (Ex.seq (Ex.seq (Ex.dw a1) (Ex.om T Ex.skip)) (Ex.seq (Ex.block (Ex.seq (Ex.OH (by decide) U) (Ex.qI (by simp[bz,b]) Ex.skip))) (Ex.dw Y))) i1,i2⟩
  |false=>
   rw[W]at b u;generalize f:(kept t (kk+(m'+1))).length=K at *;obtain⟨_,_,hz⟩:=h.cell K Zaa
   obtain⟨v,Y,c⟩:=Yv (G B) (by rw[w 0 Zaa];exact h.f0) (by rw[w 5 Zaa,h.f5,f]) (by rw[w 6 Zaa];exact h.f6) (by rw[w 7 Zaa];exact h.f7) Zaa Zaa q hz (X.one _ Zaa)
   rw[set_set]at Y;generalize I:B.set (off+K) [A (kk+m'+1)]=J at Y;have l:∀j,J[j]?=if j=off+K then some [A (kk+m'+1)]else B[j]?:=λj=>by rw[<-I,getElem?_set];by_cases e:off+K=j;rw[if_pos e,if_pos e.symm,if_pos (by rw[h.len];omega)];rw[if_neg e,if_neg (Ne.symm e)]
   obtain⟨F4,Q,q4,q5⟩:=(ON (p:=K) Zaa).1 (by rw[c 5 Zaa,w 5 Zaa,h.f5,f])
   have C:∀s,s<8->s≠5->get F4 s=get F s:=λs a Z=>by rw[q5 s a Z,c s a,w s a]
   obtain⟨F5,q6,q7,o⟩:=(ON (p:=m'+1) Zaa).2.1 (by rw[C 7 Zaa Zaa];exact h.f7)
   obtain⟨F',D,i1,i2⟩:=ih (m'+1+1) F5 J Zaa Zaa ⟨by rw[o 0 Zaa Zaa,C 0 Zaa Zaa];exact h.f0,by rw[o 1 Zaa Zaa,C 1 Zaa Zaa];exact h.f1,
    by rw[o 5 Zaa Zaa,q4,z,u,ζi,f];rfl,by rw[o 6 Zaa Zaa,C 6 Zaa Zaa];exact h.f6,q7,by rw[<-I,length_set];exact h.len,
    λp i S=>by rw[z,u]at S;rw[l];by_cases e:p=K;subst e;rw[<-f,getElem?_append_right (le_refl _),Nat.sub_self]at S;cases S;rw[if_pos rfl];have ae:p<(kept t (kk+(m'+1))).length:=(by have:=(ζe.1 S).1;simp at this;omega);rw[getElem?_append_left ae]at S;rw[if_neg Zaa];exact h.pre p i S,
    λi a Z=>by rw[l,if_neg Zaa];exact h.post i Zaa Z,λj hj=>by rw[l,if_neg Zaa];exact h.out j hj,
    λi hi=>by rw[l];by_cases e:off+i=off+K;rw[if_pos e];exact⟨_,Zaa,rfl⟩;rw[if_neg e];exact h.cell i hi⟩
   exact⟨F',D,mX.step (Ex.seq (Ex.seq (Ex.dw a1) (Ex.om T Ex.skip)) (Ex.seq (Ex.block (Ex.seq (Ex.OH (by decide) U) (Ex.om (by simp[bz,b]) (Ex.seq (Ex.dw Y) (Ex.dw Q))))) (Ex.dw q6))) i1,i2⟩
structure TT(off L:Nat)(rs:List (List V))(A:Nat->V)(t:Nat->Bool)(rs':List (List V)):Prop where
 len:rs'.length=rs.length
 pre:∀p i,(kept t L)[p]?=some i->rs'[off+p]?=some [A i]
 all:∀c∈rs',c∈rs\/c=[.bO]
theorem OU(X:IG E g cb H id off L rs A t):∀(d k:Nat)(F:WP),k+d=L->0<k->(∀i,0<i->i<k->t i=false)->get F 0=.hsl id 1 off L->get F 1=.clo g [] cb->get F 5=.int .i64 k->
 (∃F',mX E N UI F H (.exit 0) F' H/\get F' 0=.hsl id 1 off L/\∀i,0<i->i<L->t i=false)\/
 (∃F' D,mX E N UI F H .ret F' (H.set id (.row 1 D))/\get F' 4=.hsl id 1 off (kept t L).length/\TT off L rs A t D):=by
 have Q:=(ζe.1 X.row).1;have S:=sX X.row;have ah:=X.small;have af:=X.len;intro d
 induction d with
 |zero=>
  intro k F he r hp b v e;have ek:k=L:=Zaa
  subst ek;obtain⟨F1,e1,e2,e3⟩:=x5 (N:=N) b e;exact .inl ⟨F1,mX.stop (Ex.uR (Ex.seq (Ex.dw e1) (Ex.qI (by simp[bz,e2]) Ex.exit)) Zab) Zab,Zac,hp⟩
 |succ d ih=>
  intro k F he r hp b v e;obtain⟨F1,a1,a2,a3⟩:=x5 b e;have U:bz N F1 15=.bool true:=by show get F1 15=_;rw[a2,decide_eq_true Zaa]
  obtain⟨u,rfl⟩:∃u,k=u+1:=⟨k-1,Zaa⟩
  obtain⟨n0,ai⟩:=X.cmp;obtain⟨y,b1,f,b3⟩:=(YH (N:=N) (cb:=cb) (g:=g) (i:=u) (L2:=L) (t:=t (u+1)) X.row Zaa Zaa (X.at_ _ Zaa) (X.at_ _ Zaa) X.keep (by rw[a3 1 Zaa];omega)).1 Zac Zac
  have W:∃n,∀k,n<=k->cK E N (run E k) (some H.length) r6 F1 H=some (y,H):=⟨n0,λk r=>b1 _ (by
   grind)⟩
  have Y:=λs M=>(b3 s M).trans (a3 s M)
  cases w:t (u+1)with
  |false=>
   rw[w]at f;obtain⟨T,l,m,h⟩:=(ON (E:=E) (F:=y) (p:=u+1) Zaa).2.2 Zac
   have z:Ex E N UI F H .norm T H:=Ex.seq (Ex.seq (Ex.dw a1) (Ex.om U Ex.skip)) (Ex.seq (Ex.block (Ex.seq (Ex.OH (by decide) W) (Ex.qI (by simp[bz,f]) Ex.skip))) (Ex.dw l))
   rcases ih (u+1+1) T Zaa Zaa (λi P Z=>by
    grind) Zac Zad m with⟨F',i1,i2⟩|⟨F',D,i1,i2⟩
   .exact .inl ⟨F',mX.step z i1,i2⟩
   exact .inr ⟨F',D,mX.step z i1,i2⟩
  |true=>
   rw[w]at f;refine .inr ?_;obtain⟨T,l,m,h⟩:=x7 (E:=E) (N:=N) (H:=H) (k:=u+1) (by rw[Y 0 Zaa];exact b) (by rw[Y 5 Zaa];exact e) Zaa
   have G:kept t (u+1)=range (u+1):=DE _ hp;have R:kept t (u+1+1)=range (u+1):=by rw[yV,G,w];simp
   have q4:∀call,cK E N call none r8 T H=some (set T 7 (.int .i64 1),H):=λcall=>vp rfl (by simp[bK,bz,bq]) eA
   have h0:Head g cb id off L (u+1) 1 rs A t (set T 7 (.int .i64 1)) rs:=⟨by rw[jY _ _ Zaa,h 0 Zaa Zaa,Y 0 Zaa];exact b,by rw[jY _ _ Zaa,h 1 Zaa Zaa,Y 1 Zaa];exact v,
    by rw[jY _ _ Zaa,h 5 Zaa Zaa,Y 5 Zaa,R,length_range];exact e,by rw[jY _ _ Zaa];exact m,by rw[uf];rfl,rfl,
    λp i B=>by rw[R]at B;obtain⟨P,Z⟩:=ζe.1 B;simp at P Z;subst Z;exact X.at_ p Zaa,λi _ Z=>X.at_ i Z,λ_ _=>rfl,λi hi=>⟨i,hi,X.at_ i hi⟩⟩
   obtain⟨F5,C,V,I⟩:=Oh (N:=N) X Zaa Zaa w (L-(u+1)-1) 1 _ rs Zaa Zaa h0
   rw[S]at V;have eL:u+1+(L-(u+1))=L:=Zaa
   have ae:=Bs (t:=t) (k:=u+1) Zaa w L Zaa
   have o:=I.f5;have J:=I.pre;rw[eL]at o J;generalize hK:(kept t L).length=K at *;have ab:(H.set id (.row 1 C))[id]?=some (.row 1 C):=getElem?_set_self Q;obtain⟨F6,w1,w2⟩:=x14 (E:=E) (N:=N) (p:=K) ab I.f0 o Zaa (by rw[I.len];omega)
   rw[set_set]at w1;obtain⟨F7,w3,w4⟩:=UA (E:=E) (by rw[w2 0 Zaa];exact I.f0) (by rw[w2 5 Zaa];exact o) Zaa
   have aj:=I.len;refine⟨F7,C.take (off+K)++replicate (L-K) [.bO]++C.drop (off+L),mX.stop (Ex.seq (Ex.seq (Ex.dw a1) (Ex.om U Ex.skip)) (Ex.uR (Ex.QE (Ex.seq (Ex.OH (by decide) W) (Ex.om (by simp[bz,f]) (Ex.seq (Ex.dw l) (Ex.seq (Ex.seq (Ex.dw q4) (Ex.wu (Ex.loop V))) (Ex.seq (Ex.dw w1) (Ex.seq (Ex.dw w3) Ex.ret))))))) Zab)) Zab,w4,?_,λp i B=>?_,λc a=>?_⟩
   .simp;omega
   .have ak:p<K:=by rw[<-hK];exact(ζe.1 B).1
    rw[append_assoc,getElem?_append_left (by simp;omega),getElem?_take,if_pos Zaa]
    exact J p i B
   have ad:∀j x,C[j]?=some x->x∈rs:=λj x O=>by by_cases ho:j<off\/off+L<=j;rw[I.out j ho]at O;exact mem_of_getElem? O;obtain⟨i,rfl⟩:∃i,j=off+i:=⟨j-off,Zaa⟩;obtain⟨q,hq,a⟩:=I.cell i Zaa;rw[a]at O;cases O;exact mem_of_getElem? (X.at_ q hq)
   rcases mem_append.1 a with a|a
   .rcases mem_append.1 a with a|a
    .obtain⟨j,O⟩:=getElem?_of_mem (List.mem_of_mem_take a);exact .inl (ad j c O)
    exact .inr (List.eq_of_mem_replicate a)
   obtain⟨j,O⟩:=getElem?_of_mem (List.mem_of_mem_drop a);exact .inl (ad j c O)
end
end cmpX
noncomputable def A0(E:Env)(g:Y')(cb:T2)(a b:V):a_ X':=match DV E g cb a b with|some (.bool c)=>some c|_=>none
theorem YF{E:Env}{g:Y'}{cb:T2}{a b:V}{c:X'}(h:A0 E g cb a b=some c):∃n,∀k,n<=k->ct (run E k) g (a::b::cb) []=some (.bool c):=by
 unfold A0 at h;split at h;next c' d=>cases h;exact GK d
 cases h
def mU(xs:T')(i:Nat):V:=jL ((xs[i]?).getD [])
noncomputable def zx(E:Env)(es:Nat)(xs:T'):T2->a_ T'
 |[.clo g [] cb]=>if xs.isEmpty then some []else if vJ es xs&& !E.keep g then
  if(range xs.length).all λi=>i==0||(A0 E g cb (mU xs i) (mU xs (i-1))).isSome then
   some ((kept (λi=>(A0 E g cb (mU xs i) (mU xs (i-1))).getD false) xs.length).map λi=>(xs[i]?).getD [])
  else none
  else none
 |_=>none
noncomputable def ua(E:Env):FJ:=⟨true,zx E⟩
namespace cmpX
section
variable{E:Env}{N:Nat->Y'}{g:Y'}{cb:T2}{H:bp}{id off L:Nat}{rs:T'}{A:Nat->V}{t:Nat->X'}
theorem whole(X:IG E g cb H id off L rs A t):∃F' B,Ex E N code [.hsl id 1 off L,.clo g [] cb] H .ret F' (H.set id (.row 1 B))/\get F' 4=.hsl id 1 off (kept t L).length/\TT off L rs A t B:=by
 have u:H.set id (.row 1 rs)=H:=sX X.row;have same:(∀i,0<i->i<L->t i=false)->(kept t L).length=L/\TT off L rs A t rs:=λh=>by have d:=DE L h;rw[d,length_range];exact⟨rfl,rfl,λp i O=>by rw[d]at O;have⟨a,w⟩:=ζe.1 O;simp at a w;subst w;exact X.at_ p a,λc b=>.inl b⟩
 have g1:∀call,cK E N call none r1 [.hsl id 1 off L,.clo g [] cb] H=some (set [.hsl id 1 off L,.clo g [] cb] 4 .bO,H):=λcall=>vp (v:=.bO) rfl (by simp[bK,bz,bq]) eA;have k0:get (set [V.hsl id 1 off L,.clo g [] cb] 4 .bO) 0=.hsl id 1 off L:=rfl;have k1:get (set [V.hsl id 1 off L,.clo g [] cb] 4 .bO) 1=.clo g [] cb:=rfl;generalize set [V.hsl id 1 off L,.clo g [] cb] 4 .bO=Q at *;have⟨F1,a1,a2,a3⟩:=x2 (E:=E) (N:=N) (H:=H) k0;by_cases S:L<2;have⟨z,C,D⟩:=Th (E:=E) (N:=N) (F:=F1) (H:=H);have⟨e1,e2⟩:=same λi a w=>by omega
 refine⟨z,rs,?_,by rw[e1,D,a3 0 Zaa];exact k0,e2⟩;rw[u];exact Ex.seq (Ex.dw g1) (Ex.uR (Ex.seq (Ex.dw a1) (Ex.om (by show get F1 10=_;rw[a2,decide_eq_true Zaa]) (Ex.seq (Ex.dw C) Ex.ret))) Zab);have g4:∀call,cK E N call none r4 F1 H=some (set F1 5 (.int .i64 1),H):=λcall=>vp (v:=.int .i64 1) rfl (by simp[bK,bz,bq]) eA;have b:Ex E N (.seq (.ops r2) (.cond (.s 10) (.seq (.ops r3) (.ret)) (.skip))) Q H .norm F1 H:=Ex.seq (Ex.dw a1) (Ex.qI (by show get F1 10=_;rw[a2,decide_eq_false Zaa]) Ex.skip);rcases OU (N:=N) X (L-1) 1 (set F1 5 (.int .i64 1)) Zaa Zaa (λi a w=>Zaa) (by rw[jY _ _ Zaa,a3 0 Zaa];exact k0) (by rw[jY _ _ Zaa,a3 1 Zaa];exact k1) (by rw[uf];rfl)with⟨F',G,I,J⟩|⟨F',B,G,I,J⟩;have⟨z,C,D⟩:=xmv (E:=E) (N:=N) (F:=F') (H:=H);have⟨e1,e2⟩:=same J;refine⟨z,rs,?_,by rw[e1,D];exact I,e2⟩;rw[u];exact Ex.seq (Ex.dw g1) (Ex.seq b (Ex.seq (Ex.seq (Ex.dw g4) (Ex.wu (Ex.loop G))) (Ex.seq (Ex.dw C) Ex.ret)));exact⟨F',B,Ex.seq (Ex.dw g1) (Ex.seq b (Ex.uR (Ex.seq (Ex.dw g4) (Ex.QE (Ex.loop G))) Zab)),I,J⟩
theorem empty{w:V}(c:V)(B:w=.bO\/w=.dU):∃F',Ex E N code [w,c] H .ret F' H/\get F' 4=w:=by
 have g1:∀call,cK E N call none r1 [w,c] H=some (set [w,c] 4 .bO,H):=λcall=>vp (v:=.bO) rfl (by simp[bK,bz,bq]) eA;have k0:get (set [w,c] 4 .bO) 0=w:=rfl;generalize set [w,c] 4 .bO=u at *;have z:pI w=some (.int .i64 0):=by rcases B with rfl|rfl<;>rfl
 have a1:∃F1,(∀call,cK E N call none r2 u H=some (F1,H))/\get F1 10=.bool true/\get F1 0=w:=by refine⟨_,λcall=>vp (v:=w) rfl ?_<|vp (v:=.int .i64 0) rfl ?_<|vp (v:=.bool true) rfl ?_ eA,?_,?_⟩;simp[bK,bz,bq,k0];simp[bK,bz,bq,bu,z];simp[bK,bz,bq,bu,iA,o8];simp[bu];simp[bu,k0]
 have⟨F1,a1,a2,a3⟩:=a1;have⟨C,D,G⟩:=Th (E:=E) (N:=N) (F:=F1) (H:=H);exact⟨C,Ex.seq (Ex.dw g1) (Ex.uR (Ex.seq (Ex.dw a1) (Ex.om a2 (Ex.seq (Ex.dw D) Ex.ret))) Zab),by rw[G,a3]⟩
end
end cmpX
theorem Sv{E:Env}{f:Y'}{nm:Y'->a_ Nat}{N:Nat->Y'}(hN:∀f s,nm f=some s->N s=f)(d:E.keep f=true)(ho:E.own f=false)
 (hf:∃fi,E.ft f=some fi/\bW ⟨E,nm,fi.ntmps⟩ false fi.body=some cmpX.code/\2<=fi.ntmps/\fi.results=[.tmp 4]):nr E f (ua E):=by
 have⟨fi,h1,h2,h3,h4⟩:=hf;have D:∀{w c:V}{H H':bp}{F':WP}{r:V},Ex E N cmpX.code [w,c] H .ret F' H'->get F' 4=r->∃n,∀k,n<=k->run E k (.fn f) [w,c] H=some (r,H'):=λ{w c H H' F' r}K P=>by have⟨n,G⟩:=Ex.run hN h1 h2 (args:=[w,c]) (by simpa using h3) K (vs:=[r]) (by rw[h4];simp[iK,P]);exact⟨n,λk d=>(n9 E d).go _ _ _ _ G⟩
 refine⟨d,ho,?_,?_,?_⟩
 .intro es z vs ys h;simp only[ua,zx]at h;refine⟨?_,λe=>by simp[ua]at e⟩
  split at h
  .split at h
   .cases h;simp
   split at h
   .split at h
    .cases h;simpa using Cz _ _
    cases h
   cases h
  cases h
 .intro es vs ys h H Z ws w hw he;simp only[ua,zx]at h;split at h
  .obtain⟨q,r,rfl,R,t⟩:=hw.inv;rw[t.dg];have⟨F',e1,e2⟩:=cmpX.empty (E:=E) (N:=N) (H:=H) q he;have⟨n,G⟩:=D e1 e2;exact⟨n,[],λk d=>by rw[append_nil];exact G k d⟩
  cases h
 intro es z vs ys h H Z ws id off rs hw S T ae J hz;simp only[ua,zx]at h;split at h
 .rename_i g cb;obtain⟨q,r,rfl,R,t⟩:=hw.inv;rw[t.dg];obtain⟨a',B,rfl,ha,af⟩:∃a' B,q=.clo g a' B/\dI H Z [] a'/\dI H Z cb B:=R.kU;rw[ha.dg]at *;split at h
  .rename_i he;cases h;have:z=[]:=by simpa using he
   subst this;have e2:∃F',Ex E N cmpX.code [.hsl id es off 0,.clo g [] B] H .ret F' H/\get F' 4=.hsl id es off 0:=by have g1:∀call,cK E N call none cmpX.r1 [.hsl id es off 0,.clo g [] B] H=some (set [.hsl id es off 0,.clo g [] B] 4 .bO,H):=λcall=>vp (v:=.bO) rfl (by simp[bK,bz,bq]) eA;have k0:get (set [V.hsl id es off 0,.clo g [] B] 4 .bO) 0=.hsl id es off 0:=rfl;generalize set [V.hsl id es off 0,.clo g [] B] 4 .bO=F0 at *;have a1:∃F1,(∀call,cK E N call none cmpX.r2 F0 H=some (F1,H))/\get F1 10=.bool true/\get F1 0=.hsl id es off 0:=(by refine⟨_,λcall=>vp (v:=.hsl id es off 0) rfl ?_<|vp (v:=.int .i64 0) rfl ?_<|vp (v:=.bool true) rfl ?_ eA,?_,?_⟩;simp[bK,bz,bq,k0];simp[bK,bz,bq,bu,pI];simp[bK,bz,bq,bu,iA,o8];simp[bu];simp[bu,k0]);have⟨F1,a1,a2,a3⟩:=a1;have⟨F2,b1,b2⟩:=cmpX.Th (E:=E) (N:=N) (F:=F1) (H:=H);exact⟨F2,Ex.seq (Ex.dw g1) (Ex.uR (Ex.seq (Ex.dw a1) (Ex.om a2 (Ex.seq (Ex.dw b1) Ex.ret))) Zab),by rw[b2,a3]⟩
   have⟨F',e1,e3⟩:=e2;have⟨n,G⟩:=D e1 e3;refine⟨n,rs,[],λk d=>?_,rfl,⟨rfl,λj u v l=>by simp at l⟩,J⟩
   rw[append_nil,sX S];exact G k d
  rename_i al;split at h
  .rename_i L;simp only[ζh,Bool.not_eq_true']at L;have⟨c1,c3⟩:=L;obtain⟨rfl,U,W⟩:=Aa c1;split at h
   .rename_i Y;cases h;have O:∀i,i<z.length->∃a,rs[off+i]?=some [a]/\FR H Z (mU z i) a/\a.one=true:=λi hi=>by
     have⟨e,p2⟩:=W i z[i] (ζd hi);have Q:off+i<rs.length:=Zaa
     have:=ae.2 i z[i] rs[off+i] (ζd hi) (by rw[getElem?_take,if_pos hi,getElem?_drop,ζd Q])
     rw[e]at this;have⟨y,ys,e2,r1,r2⟩:=this.inv;rw[r2.dg]at e2;have e3:mU z i=jL z[i]:=by unfold mU;rw[ζd hi];rfl
     exact⟨y,by rw[ζd Q,e2],by rw[e3];exact r1,by rw[r1.one];exact p2⟩
    let A:Nat->V:=λi=>match rs[off+i]?with|some (a::_)=>a|_=>.undef
    have m:∀i,i<z.length->rs[off+i]?=some [A i]/\FR H Z (mU z i) (A i)/\(A i).one=true:=λi hi=>by have⟨a,p1,p2,p4⟩:=O i hi;have:A i=a:=(by show(match rs[off+i]?with|some (a::_)=>a|_=>V.undef)=a;rw[p1]);rw[this];exact⟨p1,p2,p4⟩
    have aa:∀i,i+1<z.length->∃b,A0 E g cb (mU z (i+1)) (mU z i)=some b:=λi hi=>by have:=all_eq_true.1 Y (i+1) (mem_range.2 hi);simp only[Nat.add_sub_cancel,Bool.or_eq_true]at this;rcases this with h|h;simp at h;exact Option.isSome_iff_exists.1 h
    have X:cmpX.IG E g B H id off z.length rs A (λi=>(A0 E g cb (mU z i) (mU z (i-1))).getD false):=by refine⟨S,T,U,λi hi=>(m i hi).1,λi hi=>(m i hi).2.2,c3,?_⟩;have⟨M,hM⟩:=Gj (n:=z.length-1) (p:=λi k=>ct (run E k) g (mU z (i.1+1)::mU z i.1::cb) []=some (.bool ((A0 E g cb (mU z (i.1+1)) (mU z i.1)).getD false))) (λi=>by have⟨b,Q⟩:=aa i.1 (by have:=i.2;omega);have⟨n,G⟩:=YF Q;exact⟨n,λk d=>by rw[G k d,Q];rfl⟩);have⟨L1,ah⟩:=m_ ((range z.length).map (mU z));have⟨L2,ai⟩:=m_ cb;have ab:∀i k,i<z.length->L1<=k->(mU z i).lvl k=true:=λi k hi d=>z6 d (nD.1 ah i _ (by simp[hi]));refine⟨max M (max L1 L2),λk d i hi ad=>?_⟩;have C:∀j,Z j->Z j/\bt (H.set id (.row 1 ad)) j=bt H j:=λj o=>⟨o,by unfold bt;rw[getElem?_set_ne];rintro rfl;exact hz o⟩;have hl:dI (H.set id (.row 1 ad)) Z (mU z (i+1)::mU z i::cb) (A (i+1)::A i::B):=.cons ((m _ hi).2.1.mono C) (.cons ((m i Zaa).2.1.mono C) (af.mono C));have Q:=hl.Mh (k:=k) (by simp only[V.mm,ab _ k hi Zaa,ab i k Zaa Zaa,qn (by omega:L2<=k) ai,Bool.and_self]);rw[XT (by rw[pG];exact Q) (λx K=>?_)];exact hM ⟨i,Zaa⟩ k Zaa;have⟨j,o⟩:=getElem?_of_mem K;have⟨y,hy,P⟩:=hl.get o;exact V.lN P.good
    have⟨F',aj,e1,e2,e3⟩:=cmpX.whole (N:=N) X;have⟨n,G⟩:=D e1 e2;refine⟨n,aj,[],λk d=>?_,e3.len,?_,?_⟩
    .simp only[ua,if_true,length_map,append_nil];exact G k d
    .refine⟨by simp[e3.len];have:=Cz (λi=>(A0 E g cb (mU z i) (mU z (i-1))).getD false) z.length;omega,λp a b hp hq=>?_⟩
     rw[getElem?_map]at hp;obtain⟨i,hi,rfl⟩:=ζf.1 hp;have I:=MJ (mem_of_getElem? hi);have ak:=(ζe.1 hi).1;rw[getElem?_take,if_pos (by simpa using ak),getElem?_drop,e3.pre p i hi]at hq
     cases hq;rw[ζd I,getD_some];have e4:=(W i z[i] (ζd I)).1;have e5:mU z i=jL z[i]:=by unfold mU;rw[ζd I];rfl
     rw[e4,<-e5];exact .cons (m i I).2.1 .nil
    intro c hc u l;rcases e3.all c hc with h|rfl
    .exact J c h u l
    simp at l;subst l;exact⟨.bO,.same _ rfl⟩
   cases h
  cases h
 cases h
def Sl.re{α:Type}(s:Sl α)(l:aZ α):Sl α:=match s with|.nil=>.nil|.emp=>.emp|.row _=>.row l|.part _=>.part l
def Sl.uC{α:Type}(s:Sl α)(l:aZ α):Sl α:=match s with|.nil=>.nil|.emp=>.emp|.row _|.part _=>.part l
noncomputable def Ae{α:Type}(s:Sl α)(p:α->α->QQ):a_ (Sl α):=
 match s.l with
 |[]=>some s|x::l=>if l.length<2147483648 then
  let t:_root_.Fin (l.length+1)->_root_.Fin (l.length+1)->QQ:=λi j=>p (x::l)[i.1] (x::l)[j.1]
  if CE t then some (s.re ((rK l.length (qG t)).toList.map λi=>(x::l)[i.1]))else none
  else none
def uK{α:Type}(l:aZ α)(p:α->α->a_ X')(i:Nat):a_ X':=match l[i]?,l[i-1]?with|some a,some b=>p a b|_,_=>none
def y8{α:Type}(s:Sl α)(p:α->α->a_ X'):a_ (Sl α):=
 if s.l.length<=2147483648/\((range s.l.length).all λi=>i==0||(uK s.l p i).isSome)=true then
  some (s.uC ((kept (λi=>(uK s.l p i).getD false) s.l.length).filterMap (s.l[·]?)))
 else none
section
variable{S:Sys}{T:qN}{β γ δ α:Type}{Q:Out×St->a_ β}{e:γ->a_ β}{cf:Cf}
theorem hG.QA(B:rJ S T)(D:∀f a b xs,S.items f a b=some xs->eS S f a b xs){fn:Y'}{A:δ->T2}{E:α->T2}{p:δ->a_ α}{sc:X'}(F:hG S (dm S T) fn A E p sc){z:δ}{r:α}(h:p z=some r)(d:V.cI (A z)=true):
 ∃n,ct (run S.E n) fn (A z) []=some (result (E r)):=by
 have e:=F.h z (E r) Zad
 have⟨⟨rs,m'⟩,u,w⟩:=ζg.1 e;have⟨n,y,H2,e1,e2,e3⟩:=D9 (vM B D) d u w;refine⟨n,?_⟩;have C:borrows n [] (A z)=some (A z):=by have c:=V.pq d;generalize A z=l at c;unfold borrows;induction l with|nil=>rfl|cons x l G=>simp[V.mg]at c;simp[je,eH n [] c.1,G c.2]
 unfold ct;rw[pG,C];simp[e1 n (le_refl _),e2 n (le_refl _),V.lN e3]
section
variable[bC α]
theorem ES(b:bC.size α=1){l:aZ α}(B:l.length<=2147483648):vJ (bC.size α) (rows l)=true:=by unfold vJ;simp;refine⟨⟨b,λx u=>?_⟩,by simpa[rows]using B⟩;obtain⟨a,_,rfl⟩:=mem_map.1 u;exact⟨by rw[gH,b],all_eq_true.1 (bC.one a)⟩
theorem Iq(b:bC.agg α=false)(a:α):jL (cells a)=enc a:=by unfold enc;rw[if_neg Zac];rfl
theorem Ec(l:aZ α)(i:Nat)(h:i<l.length):(rows l)[i]?=some (cells l[i]):=by unfold rows;grind
theorem Xa(U:rJ S T)(W:∀f a b xs,S.items f a b=some xs->eS S f a b xs){g:Y'}{p:α->α->QQ}(F:hG S (dm S T) g (λz:α×α=>[enc z.1,enc z.2]) (λr:Int=>[.int .i64 r]) (λz=>p z.1 z.2) true)
 (c:bC.size α=1)(Y:bC.agg α=false){s D:Sl α}(h:Ae s p=some D):BA S.E (bC.size α) (rows s.l) [.clo g [] []]=some (rows D.l)/\D.k=s.k:=by
 unfold Ae at h;split at h
 next B=>cases h;rw[B];exact⟨rfl,rfl⟩
 rename_i x l B;split at h
 .dsimp only at h;split at h
  .rename_i I;cases h;rw[B];have⟨u,J⟩:=rW I;have C:=ES c (l:=x::l) Zac
   have key:∀m,m=l.length->(if CE (λi j:_root_.Fin (m+1)=>uD S.E g [] (jL (((rows (x::l))[i.1]?).getD [])) (jL (((rows (x::l))[j.1]?).getD [])))then
    some ((rK m (qG (λi j:_root_.Fin (m+1)=>uD S.E g [] (jL (((rows (x::l))[i.1]?).getD [])) (jL (((rows (x::l))[j.1]?).getD []))))).toList.map λi=>((rows (x::l))[i.1]?).getD [])else none)=
    some (rows ((rK l.length (qG λi j:_root_.Fin (l.length+1)=>p (x::l)[i.1] (x::l)[j.1])).toList.map λi=>(x::l)[i.1])):=by
    rintro m rfl;have e1:∀i:_root_.Fin (l.length+1),jL (((rows (x::l))[i.1]?).getD [])=enc (x::l)[i.1]:=λi=>by rw[Ec (x::l) i.1 i.2,getD_some,Iq Y]
    have e2:(λi j:_root_.Fin (l.length+1)=>uD S.E g [] (jL (((rows (x::l))[i.1]?).getD [])) (jL (((rows (x::l))[j.1]?).getD [])))=λi j=>p (x::l)[i.1] (x::l)[j.1]:=by funext i j;have⟨z,L⟩:=u i j;rw[e1 i,e1 j,L];have⟨n,O⟩:=F.QA U W (z:=((x::l)[i.1],(x::l)[j.1])) L (by simp[V.cI,j8]);unfold uD;rw[Ng O];rfl
    rw[e2,if_pos I]
    congr 1
    unfold rows;rw[List.map_map];refine List.map_congr_left λi _=>?_
    grind
   have w:(s.re ((rK l.length (qG λi j:_root_.Fin (l.length+1)=>p (x::l)[i.1] (x::l)[j.1])).toList.map λi=>(x::l)[i.1])).l=(rK l.length (qG λi j:_root_.Fin (l.length+1)=>p (x::l)[i.1] (x::l)[j.1])).toList.map (λi=>(x::l)[i.1])/\(s.re ((rK l.length (qG λi j:_root_.Fin (l.length+1)=>p (x::l)[i.1] (x::l)[j.1])).toList.map λi=>(x::l)[i.1])).k=s.k:=by cases s<;>simp[Sl.l]at B<;>exact⟨rfl,rfl⟩
   refine⟨?_,w.2⟩;rw[w.1,<-key (rows l).length (gZ l)];have d:(vJ (bC.size α) (rows (x::l))&& !S.E.keep g)=true:=by rw[C,F.k];rfl
   have G:=d;exact(if_pos G).trans rfl
  simp_all
 simp_all
theorem VS(W:rJ S T)(Y:∀f a b xs,S.items f a b=some xs->eS S f a b xs){g:Y'}{p:α->α->a_ X'}(F:hG S (dm S T) g (λz:α×α=>[enc z.1,enc z.2]) (λr:X'=>[.bool r]) (λz=>p z.1 z.2) true)
 (d:bC.size α=1)(e:bC.agg α=false){s D:Sl α}(h:y8 s p=some D):zx S.E (bC.size α) (rows s.l) [.clo g [] []]=some (rows D.l)/\D=s.uC D.l:=by
 have Q:∀l:aZ α,(s.uC l)=s.uC (s.uC l).l:=λl=>by cases s<;>rfl
 refine⟨?_,by
  unfold y8 at h;grind⟩
 unfold y8 at h;split at h
 .rename_i hc;cases h;have⟨X,u⟩:=hc;have I:=ES d X;simp only[zx]
  by_cases J:s.l=[]
  .have:(s.uC ((kept (λi=>(uK s.l p i).getD false) s.l.length).filterMap (s.l[·]?))).l=[]:=by
    cases s<;>simp[Sl.l]at J<;>simp[Sl.uC,Sl.l,J,kept]
   rw[this,J];rfl
  have L:(rows s.l).isEmpty=false:=by cases m:s.l with|nil=>grind|cons a l=>rfl
  rw[L,if_neg Zab,I,F.k,if_pos (by rfl),gZ]
  have e1:∀i,0<i->i<s.l.length->∃b,uK s.l p i=some b/\A0 S.E g [] (mU (rows s.l) i) (mU (rows s.l) (i-1))=some b:=λi k hi=>by have:=all_eq_true.1 u i (mem_range.2 hi);simp at this;have⟨b,C⟩:=Option.isSome_iff_exists.1 (this.resolve_left Zaa);refine⟨b,C,?_⟩;have w:i-1<s.l.length:=Zaa;unfold uK at C;rw[ζd hi,ζd w]at C;have U:∀j(G:j<s.l.length),mU (rows s.l) j=enc s.l[j]:=λj G=>(by unfold mU;rw[Ec _ _ G,getD_some,Iq e]);rw[U i hi,U (i-1) w];have⟨n,Z⟩:=F.QA W Y (z:=(s.l[i],s.l[i-1])) C (by simp only[V.cI,j8,Bool.and_self]);unfold A0;rw[Ng Z];rfl
  have e2:((range s.l.length).all λi=>i==0||(A0 S.E g [] (mU (rows s.l) i) (mU (rows s.l) (i-1))).isSome)=true:=by grind
  rw[if_pos e2];have e3:kept (λi=>(A0 S.E g [] (mU (rows s.l) i) (mU (rows s.l) (i-1))).getD false) s.l.length=kept (λi=>(uK s.l p i).getD false) s.l.length:=by refine List.filter_congr λi hi=>?_;by_cases k:i=0;grind;have⟨b,o,q⟩:=e1 i Zaa (mem_range.1 hi);simp_all
  rw[e3];have e4:(s.uC ((kept (λi=>(uK s.l p i).getD false) s.l.length).filterMap (s.l[·]?))).l=(kept (λi=>(uK s.l p i).getD false) s.l.length).filterMap (s.l[·]?):=by cases s<;>first|rfl|grind
  rw[e4]
  congr 1
  generalize c:kept (λi=>(uK s.l p i).getD false) s.l.length=O
  have B:∀i∈O,i<s.l.length:=λi hi=>MJ (c▸hi)
  clear c e3 e4
  induction O with
  |nil=>rfl|cons i O ih=>
   have hi:=B i Zab
   rw[map_cons,ih λj G=>B j (List.mem_cons_of_mem _ G),Ec _ _ hi,List.filterMap_cons,ζd hi]
   rfl
 simp_all
theorem SP{s B:Sl α}{p:α->α->QQ}(h:Ae s p=some B)(a:cQ s.k=false):B=s:=by cases s<;>simp[Sl.k,cQ]at a<;>simpa[Ae,Sl.l]using h.symm
theorem aan(n d:Nat)(D:rJ S T)(G:∀f a b xs,S.items f a b=some xs->eS S f a b xs){fn g:Y'}(hp:S.prm fn=some (uB S.E)){p:α->α->QQ}
 (F:hG S (dm S T) g (λz:α×α=>[enc z.1,enc z.2]) (λr:Int=>[.int .i64 r]) (λz=>p z.1 z.2) true){s:Sl α}{f:Sl α->a_ γ}
 (h:∀B,Ae s p=some B->Le ((f B).bind e) (cg S (dm S T) Q (nx S (dm S T) n cf λq=>cW {q.st with m:=bQ q.st.m d (cG B)} q.d (.v .undef))))
 (i:bC.size α=1:=by rfl)(J:bC.agg α=false:=by rfl)
 (U:(fT S (dm S T) n cf).map (λq=>(q.k,bY S.N q.st.g q.az,bn q.st.m d,q.dr))=some (.c,some [.v (.clo fn [] []),.own d,.v (.clo g [] [])],some (cG s),false):=by kernel_rfl):Le (((Ae s p).bind f).bind e) (cg S (dm S T) Q cf):=by
 have⟨q,C,c⟩:=eR U;simp at c;have⟨I,L,O,W⟩:=c;refine qi C ?_ h;rw[I,W];intro y w;have⟨B,u,w⟩:=ζg.1 w;have⟨e1,e2⟩:=Xa D G F i J u;have j:=(D.prm fn _ hp).keep;have X:=(D.prm fn _ hp).own;rw[vK false _ _ _ _ _ _ fn [.own d,.v (.clo g [] [])] L rfl];have l:fu S (dm S T) q.d false (!false||q.now) (fV q.st.m q.fr) fn [.own d,.v (.clo g [] [])] q.st=some (.v .undef,{q.st with m:=bQ q.st.m d (cG B)}):=by unfold fu;simp[j,X,hp,B0,O,cG,dB];have e3:=e1;simp[uB];cases k:cQ s.k with|true=>grind|false=>have:=SP u k;grind
 grind
theorem ZU(n d t:Nat)(D:rJ S T)(G:∀f a b xs,S.items f a b=some xs->eS S f a b xs){fn g:Y'}(hp:S.prm fn=some (ua S.E)){p:α->α->a_ X'}
 (F:hG S (dm S T) g (λz:α×α=>[enc z.1,enc z.2]) (λr:X'=>[.bool r]) (λz=>p z.1 z.2) true){s:Sl α}{f:Sl α->a_ γ}
 (h:∀B,y8 s p=some B->Le ((f B).bind e) (cg S (dm S T) Q (nx S (dm S T) n cf λq=>{q.st with g:=bQ q.st.g t (.own t),m:=bQ (eG d q.st.m) t (cG B)})))
 (i:bC.size α=1:=by rfl)(J:bC.agg α=false:=by rfl)
 (U:(fT S (dm S T) n cf).map (λq=>(q.k,bY S.N q.st.g q.az,bn q.st.m d,q.dr,q.d,St.new {q.st with m:=eG d q.st.m} t))=some (.c,some [.v (.clo fn [] []),.own d,.v (.clo g [] [])],some (cG s),false,some t,true):=by kernel_rfl):Le (((y8 s p).bind f).bind e) (cg S (dm S T) Q cf):=by
 have⟨q,C,c⟩:=eR U;simp at c;have⟨I,L,O,W,X,Y⟩:=c;refine qi C ?_ h;rw[I,W,X];intro y u;have⟨B,w,u⟩:=ζg.1 u;cases u;have⟨e1,e2⟩:=VS D G F i J w;have j:=(D.prm fn _ hp).keep;have Z:=(D.prm fn _ hp).own;rw[vK false _ _ _ _ _ _ fn [.own d,.v (.clo g [] [])] L rfl];have k:fu S (dm S T) (some t) false (!false||q.now) (fV q.st.m q.fr) fn [.own d,.v (.clo g [] [])] q.st=some (.own t,{q.st with m:=bQ (eG d q.st.m) t (cG B)}):=by unfold fu;simp[j,Z,hp,B0,O,cG,dB];have e3:(ua S.E).go (bC.size α) (rows s.l) [.clo g [] []]=some (rows B.l):=e1;rw[e3];simp[ua,Y];have e4:(if cQ s.k=true then bM.sl .part (bC.size α) (rows B.l)else .sl s.k (bC.size α) (rows s.l))=.sl B.k (bC.size α) (rows B.l):=(by rw[e2];cases s<;>rfl);rw[e4]
 rw[k];rfl
end
end
section
variable{H H':bp}{w:V}{o:Nat}{ids:S'}{rows:T'}
theorem nu.cell(n:nu H w o ids rows){p j:Nat}{r:T2}{u:V}(a:rows[p]?=some r)(c:r[j]?=some u):
 ∃id,ids[p]?=some id/\mN 1 w (p:Int)=some (.hptr o p 0)/\fA H (.load 1 false) [.hptr o p 0]=some (.hsl id 1 0 r.length)/\mN 1 (.hsl id 1 0 r.length) (j:Int)=some (.hptr id j 0)/\fA H (.load 1 false) [.hptr id j 0]=some u:=by
 have D:=(ζe.1 a).1;have G:=(ζe.1 c).1;have B:rows≠[]:=by intro e;subst e;simp at a
 have C:p<ids.length:=by rw[n.len];exact D
 have z:=ζd C;refine⟨ids[p],z,?_,?_,?_,?_⟩
 .have:=n.v;rw[if_neg B]at this;subst this;simp[mN,D]
 .have b:=n.ob B;have I:=D2 z a;simp[fA,eO,b,Ob.rows,I,cut];rfl
 .simp[mN,G]
 have b:=n.r p _ r z a;simp[fA,eO,b,Ob.rows,jT,c,cut];rfl
theorem Pz{ids:S'}(h:ids.Nodup){i j:Nat}{a:Nat}(hi:ids[i]?=some a)(B:ids[j]?=some a):i=j:=by have b:=(ζe.1 hi);have u:=(ζe.1 B);have⟨b,e1⟩:=b;have⟨u,e2⟩:=u;exact(List.getElem_inj h).1 (e1.trans e2.symm)
theorem nu.set(n:nu H w o ids rows){p j id:Nat}{r:T2}{u:V}(a:rows[p]?=some r)(U:j<r.length)(B:ids[p]?=some id)(c:V.one u=true)(d:u.cells=[u]):
 ∃H',fP H (.store 1) [.hptr id j 0,u]=some (.undef,H')/\nu H' w o ids (rows.set p (r.set j u))/\H'.length=H.length/\(∀i,i≠id->H'[i]?=H[i]?):=by
 have L:=(ζe.1 a).1;have z:rows≠[]:=by intro e;subst e;simp at a
 have b:=n.r p id r B a;have O:id<H.length:=(ζe.1 b).1;have D:(jT r).set j [u]=jT (r.set j u):=by simp[jT,map_set]
 have G:o≠id:=λe=>n.ne z (e▸mem_of_getElem? B)
 refine⟨H.set id (.row 1 (jT (r.set j u))),?_,⟨?_,λ_=>?_,by simp[n.len],λi I Q hi C=>?_,n.nd,λ_=>n.ne z⟩,Zab,λi hi=>getElem?_set_ne (Ne.symm hi)⟩
 .have S:(jT r)[j]?=some [r[j]]:=by simp[jT,U]
  simp only[fP,b,S,d,length_singleton,zero_add,le_refl,all_cons,c,List.all_nil,Bool.and_self,and_self,if_true,List.take_zero,nil_append];rw[<-D];simp
 .rw[n.v];have:rows.set p (r.set j u)≠[]:=by intro e;apply z;simpa using e
  rw[if_neg z,if_neg this,length_set]
 .rw[getElem?_set_ne (Ne.symm G),Jt a Zab];exact n.ob z
 by_cases e:i=p
 .subst e;rw[B]at hi;cases hi;rw[getElem?_set_self L]at C;cases C;rw[getElem?_set_self O]
 rw[getElem?_set_ne (Ne.symm e)]at C;have J:id≠I:=λT=>e (Pz n.nd (T▸hi) B)
 rw[getElem?_set_ne J];exact n.r i I Q hi C
end
structure kY(H:bp)(w:V)(l:List (List V))(id:Nat):Prop where
 c:∀c∈l,c.length=2/\c.all V.one=true
 v:(w=.bO/\l=[])\/∃off xs,w=.hsl id 2 off l.length/\H[id]?=some (.row 2 xs)/\off+l.length<=xs.length/\(xs.drop off).take l.length=l
section
variable{H H':bp}{w:V}{l:T'}{id:Nat}
theorem kY.heap(n:kY H w l id)(h:∀off n,w=.hsl id 2 off n->H'[id]?=H[id]?):kY H' w l id:=⟨n.c,n.v.imp (λh=>h) λ⟨off,u,e1,e2,e3,e4⟩=>⟨off,u,e1,by rw[h _ _ e1];exact e2,e3,e4⟩⟩
theorem kY.lt(n:kY H w l id){off m:Nat}(h:w=.hsl id 2 off m):id<H.length:=by rcases n.v with⟨e,_⟩|⟨_,u,_,e2,_⟩;rw[e]at h;cases h;exact(ζe.1 e2).1
theorem kY.more(n:kY H w l id)(X:bp):kY (H++X) w l id:=n.heap λ_ _ e=>getElem?_append_left (n.lt e)
theorem kY.len(n:kY H w l id):pI w=some (.int .i64 l.length):=by rcases n.v with⟨rfl,rfl⟩|⟨off,u,rfl,_⟩<;>rfl
theorem kY.get(n:kY H w l id){i:Nat}{c:T2}(a:l[i]?=some c):∃p,mN 2 w (i:Int)=some p/\fA H (.load 2 true) [p]=some (.agg c):=by
 have hi:=(ζe.1 a).1;have u:=(n.c c (mem_of_getElem? a)).1;rcases n.v with⟨_,rfl⟩|⟨off,z,rfl,e2,e3,e4⟩;simp at a;refine⟨.hptr id (off+i) 0,by simp[mN,hi],?_⟩;have:z[off+i]?=some c:=by rw[<-e4,getElem?_take,if_pos hi,getElem?_drop]at a;exact a
 simp[fA,eO,e2,Ob.rows,this,cut,<-u];rfl
theorem kY.tail{c:T2}(n:kY H w (c::l) id):∃w',iQ 2 w (some 1) none=some w'/\kY H w' l id/\∃off m B,w=.hsl id 2 off m/\w'=.hsl id 2 B l.length:=by
 rcases n.v with⟨_,e⟩|⟨off,u,rfl,e2,e3,e4⟩;cases e;refine⟨.hsl id 2 (off+1) l.length,?_,⟨λc a=>n.c c (List.mem_cons_of_mem _ a),.inr ⟨off+1,u,rfl,e2,by simp at e3;omega,?_⟩⟩,⟨_,_,_,rfl,rfl⟩⟩;simp[iQ,eu];omega;have hd:(u.drop off).drop 1=u.drop (off+1):=by rw[List.drop_drop]
 rw[<-hd];have:=congrArg (List.drop 1) e4;rw[List.drop_take]at this;simpa using this
theorem kY.push(n:kY H w l id){c:T2}(a:c.length=2/\c.all V.one=true)(B:l.length+1<=2147483648):
 ∃H',fP (H++[.row 2 [c]]) (.append 2) [w,.hsl H.length 2 0 1]=some (.hsl (H.length+1) 2 0 (l.length+1),H')/\kY H' (.hsl (H.length+1) 2 0 (l.length+1)) (l++[c]) (H.length+1)/\H'.length=H.length+2/\(∀i,i<H.length->(∀off m,w=.hsl id 2 off m->i≠id)->H'[i]?=H[i]?):=by
 have e2:dQ (H++[.row 2 [c]]) 2 (.hsl H.length 2 0 1)=some [c]:=by simp[dQ,Ob.rows]
 have u:∀c'∈l++[c],c'.length=2/\c'.all V.one=true:=λc' h=>by rcases mem_append.1 h with h|h;exact n.c c' h;simp at h;subst h;exact a
 rcases n.v with⟨rfl,rfl⟩|⟨off,D,rfl,g2,g3,g4⟩
 .have e1:dQ (H++[.row 2 [c]]) 2 .bO=some []:=rfl;refine⟨H++[.row 2 [c]]++[.row 2 [c]],?_,⟨u,.inr ⟨0,[c],rfl,Zab,Zab,rfl⟩⟩,Zab,λi hi _=>by rw[append_assoc,getElem?_append_left hi]⟩
  simp only[fP,e1,e2,iG,List.length_nil,length_singleton,map_some];simp
 have z:=(ζe.1 g2).1;have e1:dQ (H++[.row 2 [c]]) 2 (.hsl id 2 off l.length)=some l:=by simp only[dQ,if_true,getElem?_append_left z,g2,ζb,Ob.rows,g3,g4]
 have C:iG (H++[.row 2 [c]]) (.hsl id 2 off l.length)=some (List.set (H++[Ob.row 2 [c]]) id Ob.dead):=by simp only[iG,getElem?_append_left z,g2]
 refine⟨List.set (H++[Ob.row 2 [c]]) id Ob.dead++[Ob.row 2 (l++[c])],?_,⟨u,.inr ⟨0,l++[c],Zab,Zab,Zab,take_of_length_le Zab⟩⟩,Zab,λi hi h=>?_⟩
 .simp only[fP,e1,e2,C,length_singleton,B,if_true,map_some,ζi]
 rw[getElem?_append_left (by simp;omega),getElem?_set_ne (Ne.symm (h _ _ rfl)),getElem?_append_left hi]
end
noncomputable def B6(rs:aZ RV):Out×St->a_ bM
 |(.exit _,_)=>none|(_,st)=>(lg st rs).bind λl=>match l with
  |[.own d]=>bn st.m d|_=>none
theorem Zn{S:Sys}{c:cm}{rs:aZ RV}{a:RC}{st:St}{ob:bM}(h:lz S c (B6 rs) a [] st=some ob):∃o st' d,cR S c a st=some (o,st')/\(∀id,o≠.exit id)/\lg st' rs=some [.own d]/\bn st'.m d=some ob:=by
 rw[qj]at h;have⟨⟨o,st'⟩,b,u⟩:=ζg.1 h;have z:∀id,o≠.exit id:=by rintro id rfl;simp[B6]at u
 have B:(lg st' rs).bind (λl=>match l with|[.own d]=>bn st'.m d|_=>none)=some ob:=by cases o with|exit id=>exact absurd rfl (z id)|norm=>exact u|ret=>exact u
 have⟨l,C,w⟩:=ζg.1 B;split at w;exact⟨o,st',_,b,z,C,w⟩;cases w
theorem Zq{S:Sys}{T:qN}(U:rJ S T)(W:∀f a b xs,S.items f a b=some xs->eS S f a b xs){f:Y'}{rf:RF}(Y:T f=some rf){B:T2}(c:V.cI B=true)(g:B.length<=rf.na){k:Fl}{es:Nat}{xs:T'}
 (l:∀x∈xs,x.all V.scalar=true)(m:k=.row\/k=.nil/\xs=[])(h:lz S (dm S T) (B6 rf.rs) rf.body [] (start (B.map .v) [])=some (.sl k es xs)):
 ∃n y H',run S.E n (.fn f) B []=some (y,H')/\((k=.nil/\y=.bO)\/(∃id,y=.hsl id es 0 xs.length/\H'[id]?=some (.row es xs))):=by
 have⟨o,st',d,r,O,G,I⟩:=Zn h;have s:dm S T f (B.map .v) []=some ([.own d],st'.m):=by rw[tu Y];unfold oh;rw[if_pos (by simpa using g),r];cases o with|exit id=>exact absurd rfl (O id)|norm=>simp only[G,map_some]|ret=>simp only[G,map_some]
 have⟨Q,r1⟩:=yI c;obtain⟨n,y,H2,ν',Z',st2,F',J,g1,rfl,g3,g4,g5,_⟩:=vM U W f _ _ _ _ s _ _ B [] (.inr rfl) Q r1;obtain⟨z,F,rfl,e1,e2⟩:=g4.inv;have:=e2.dg;subst this;refine⟨n,_,H2,g1,?_⟩
 cases e1 with
 |own d y X=>
  have⟨H,Z,K,e,u⟩:=X _ I;cases e;have w:=g5.obj d _ (by rw[g3];exact I)
  rcases m with rfl|⟨rfl,rfl⟩
  .right;simp only[eE,cQ,if_true]at w;have⟨J,t,M,D,N,C⟩:=w;have⟨C,v⟩:=C trivial;rw[C,drop_zero,<-v,take_of_length_le (le_refl _)]at D;have:xs=J:=by
    refine List.ext_getElem D.1 λi p q=>?_
    have hi:=D.2 i _ _ (ζd p) (ζd q);refine List.ext_getElem hi.1 λj L A=>?_
    have E:=hi.2 j _ _ (ζd L) (ζd A);exact((E.scalar).1 (all_eq_true.1 (l _ (getElem_mem p)) _ (getElem_mem L))).symm
   subst this;refine⟨(ν' d).1,?_,t⟩;show result [_]=_;rw[u];simp[result,tT,C]
  left;exact⟨rfl,by show result [_]=_;rw[u];rfl⟩
theorem KL{E:Env}{f:Y'}{B:T2}{l:T'}{y:V}{H1:bp}(d:E.own f=true)(e:V.cI B=true)(D:∀c∈l,c.length=2/\c.all V.one=true/\c.all V.scalar=true)
 (b:∃n,∀k,n<=k->run E k (.fn f) B []=some (y,H1))(G:(l=[]/\y=.bO)\/(∃id,y=.hsl id 2 0 l.length/\H1[id]?=some (.row 2 l)))(H:bp):
 ∃w X id,(∃n,∀k,n<=k->fI E (run E k) f B H=some (w,H++X))/\kY (H++X) w l id/\(∀off m,w=.hsl id 2 off m->id=H.length):=by
 have⟨n,b⟩:=b;have C:∀{k:Nat}{l:T2},V.cI l=true->borrows k H l=some l:=by intro k l;unfold borrows;induction l with|nil=>intro _;rfl|cons a l I=>intro h;have g:V.good a=true/\V.cI l=true:=(by simpa[V.cI]using h);simp only[je,eH k H (V.lN g.1),I g.2]
 rcases G with⟨rfl,rfl⟩|⟨id,rfl,z⟩
 .refine⟨.bO,[],0,⟨n,λk u=>?_⟩,⟨λc h=>by simp at h,.inl ⟨rfl,rfl⟩⟩,λoff m h=>by cases h⟩
  simp only[fI,d,if_true,lI,C e,b k u,V.scalar,append_nil]
 refine⟨.hsl H.length 2 0 l.length,[.row 2 l],H.length,⟨n,λk u=>?_⟩,⟨λc h=>⟨(D c h).1,(D c h).2.1⟩,.inr ⟨0,l,rfl,Zab,Zab,Zab⟩⟩,λoff m h=>rfl⟩
 have J:(l.all λx=>x.all V.scalar)=true:=all_eq_true.2 λc h=>(D c h).2.2
 simp only[fI,d,if_true,lI,C e,b k u,V.scalar,false_eq_true,if_false,sH,z,J,and_self,map_some]
def Sl.whole{α:Type}(s:Sl α):a_ (Sl α):=match s with|.part _=>none|s=>some s
structure B_(S:Sys)(c:cm){α δ:Type}[bC δ](fn:FuncId)(A:α->List V)(p:α->Option (Sl δ)):Prop where
 k:S.E.keep fn=true
 o:S.E.own fn=true
 h:∀z s,p z=some s->∃e m',c fn ((A z).map .v) []=some ([.own e],m')/\bn m' e=some (cG s)
 sc:∀x:δ,(cells x).all V.scalar=true
theorem B_.mk'{S:Sys}{T:qN}{α δ:Type}[bC δ](rf:RF){fn:Y'}{A:α->T2}{p:α->a_ (Sl δ)}(h:∀z,Le ((p z).bind λr=>some (cG r)) (cg S (dm S T) (B6 rf.rs) (.rc rf.body,[],start ((A z).map .v) [])))
 (B:T fn=some rf:=by kernel_rfl)(b:S.E.keep fn=true:=by kernel_rfl)(D:S.E.own fn=true:=by kernel_rfl)(G:∀z,(A z).length<=rf.na:=by intro z;exact Nat.le_of_ble_eq_true (by kernel_rfl))
 (sc:∀x:δ,(cells x).all V.scalar=true:=by intro x;rfl):B_ S (dm S T) fn A p where
 k:=b
 o:=D
 sc:=sc
 h z s u:=by have a:=h z (cG s) (by rw[u];rfl);change lz S (dm S T) (B6 rf.rs) rf.body [] (start ((A z).map .v) [])=some (cG s)at a;have⟨o,st',d,g1,g2,g3,g4⟩:=Zn a;refine⟨d,st'.m,?_,g4⟩;rw[tu B];unfold oh;rw[if_pos (by simpa using G z),g1];cases o with|exit id=>exact absurd rfl (g2 id)|norm=>simp only[g3,map_some]|ret=>simp only[g3,map_some]
section
variable{S:Sys}{c:cm}{β γ δ α:Type}[bC δ]{Q:Out×St->a_ β}{e:γ->a_ β}{cf:Cf}
theorem Ce(n u:Nat){fn:Y'}{A:α->T2}{p:α->a_ (Sl δ)}(F:B_ S c fn A p)(z:α){f:Sl δ->a_ γ}
 (h:∀x,(p z).bind Sl.whole=some x->Le ((f x).bind e) (cg S c Q (nx S c n cf λq=>{q.st with g:=bQ q.st.g u (.own u),m:=bQ q.st.m u (cG x)})))
 (J:(fT S c n cf).map (λq=>(q.d,q.k,(bY S.N q.st.g q.az).bind lH,(!q.dr||q.now),q.st.new u))=some (some u,.c,some (fn,(A z).map .v),true,true):=by kernel_rfl):Le ((((p z).bind Sl.whole).bind f).bind e) (cg S c Q cf):=by
 have⟨q,L,b⟩:=eR J;simp only[ζc]at b;have⟨O,T,U,W,I⟩:=b;have⟨C,g1,g2⟩:=ζg.1 U;refine qi L ?_ h;rw[O,T];intro y D;have⟨X,G,D⟩:=ζg.1 D;cases D;have⟨s,Y,B⟩:=ζg.1 G;have⟨e0,m',d,Z⟩:=F.h z s Y;rw[vK q.dr _ _ _ _ _ C fn ((A z).map .v) g1 g2];have w:fu S c (some u) q.dr (!q.dr||q.now) (fV q.st.m q.fr) fn ((A z).map .v) q.st=some (.own u,{q.st with m:=bQ q.st.m u (cG X)}):=by unfold fu;simp only[F.k,F.o,if_true,W,vT,d,dB,Z,cG,I];cases s with|nil=>cases B;rfl|emp=>cases B;rfl|row l=>cases B;have:mI (rows l)=true:=(by unfold mI;rw[all_eq_true];intro x i;obtain⟨a,_,rfl⟩:=mem_map.1 i;exact F.sc a);simp only[Sl.k,Sl.l,dB,V.c8,this,Bool.and_self,I,if_true];rfl|part l=>cases B
 rw[w];rfl
end
structure GD where
 m:Nat
 pre:List (Nat×List Gh)
 nd:List (Nat×List Gh×List Gh)
structure GI where
 m:Nat
 i:Nat
 j:Nat
def lkL{α:Type}(l:aZ (Nat×aZ α))(i:Nat):aZ α:=match l with
 |[]=>[]|(k,x)::r=>bif beq k i then x else lkL r i
def A9(l:aZ (Nat×QP×QP))(i:Nat):QP×QP:=match l with
 |[]=>([],[])|(k,x)::r=>bif beq k i then x else A9 r i
def OJ(m:Nat):S'->S'
 |[]=>[]|x::l=>bif beq (m % 2) 1 then x::OJ (m / 2) l else OJ (m / 2) l
def TS:R0->S'
 |[]=>[]|.s n::r=>n::TS r|_::r=>TS r
def ZY(o:RO):S':=(match o.dst with|some d=>[d]|none=>[])++(match o.gd with|some g=>[g.1]|none=>[])++TS o.az
def abn(G:GD)(s:GI)(o:RO):RO:={o with dead:=OJ (bif beq (s.m % 16) 15 then s.m / 16 % 65536 else s.m % 16) (ZY o),pre:=lkL G.pre s.i}
def GI.op(s:GI):GI:=⟨bif beq (s.m % 16) 15 then s.m / 1048576 else s.m / 16,s.i+1,s.j⟩
def A_(G:GD):SW->GI->SW×GI
 |[],s=>([],s)|o::r,s=>(abn G s o::(A_ G r s.op).1,(A_ G r s.op).2)
def Ch:QP->RC->RC
 |[],c=>c|g::l,c=>.gh g (Ch l c)
def QZ:QP->RC->RC
 |[],c=>c|g::l,c=>QZ l (.hg c g)
def GI.nd(s:GI):GI:=⟨s.m,s.i,s.j+1⟩
def ki(G:GD):RC->GI->RC×GI
 |.seq a b,s=>(Ch (A9 G.nd s.j).1 (.seq (ki G a s.nd).1 (ki G b (ki G a s.nd).2).1),(ki G b (ki G a s.nd).2).2)|.cond x a b,s=>(Ch (A9 G.nd s.j).1 (.cond x (ki G a s.nd).1 (ki G b (ki G a s.nd).2).1),(ki G b (ki G a s.nd).2).2)|.block id a,s=>(Ch (A9 G.nd s.j).1 (.block id (ki G a s.nd).1),(ki G a s.nd).2)|.loop a,s=>(Ch (A9 G.nd s.j).1 (.loop (QZ (A9 G.nd s.j).2 (ki G a s.nd).1)),(ki G a s.nd).2)|.each g ps a b,s=>(Ch (A9 G.nd s.j).1 (.each g ps (ki G a s.nd).1 (QZ (A9 G.nd s.j).2 (ki G b (ki G a s.nd).2).1)),(ki G b (ki G a s.nd).2).2)|.ops l,s=>(Ch (A9 G.nd s.j).1 (.ops (A_ G l s.nd).1),(A_ G l s.nd).2)|.qK l,s=>(Ch (A9 G.nd s.j).1 (.qK (A_ G l s.nd).1),(A_ G l s.nd).2)|.gh g c,s=>(.gh g c,s)|.hg c g,s=>(.hg c g,s)|c,s=>(Ch (A9 G.nd s.j).1 c,s.nd)
theorem lV(c:RC):∀l,erase (Ch l c)=erase c
 |[]=>rfl|g::l=>by simp only[Ch,erase,lV c l]
theorem BL:∀l(c:RC),erase (QZ l c)=erase c
 |[],c=>rfl|g::l,c=>by simp only[QZ,BL l,erase]
theorem Av(G:GD):∀(l:SW)s,((A_ G l s).1).map RO.strip=l.map RO.strip
 |[],s=>rfl|o::r,s=>by simp only[A_,map_cons,Av G r];rfl
theorem mQ(G:GD):∀(c:RC)s,erase (ki G c s).1=erase c
 |.seq a b,s=>by simp only[ki,lV,erase,mQ G a,mQ G b]|.cond x a b,s=>by simp only[ki,lV,erase,mQ G a,mQ G b]|.block id a,s=>by simp only[ki,lV,erase,mQ G a]|.loop a,s=>by simp only[ki,lV,erase,BL,mQ G a]|.each g ps a b,s=>by simp only[ki,lV,erase,BL,mQ G a,mQ G b]|.ops l,s=>by simp only[ki,lV,erase,Av]|.qK l,s=>by simp only[ki,lV,erase,Av]|.gh g c,s=>rfl|.hg c g,s=>rfl|.skip,s=>by simp only[ki,lV]|.ret,s=>by simp only[ki,lV]|.exit _,s=>by simp only[ki,lV]
theorem LR{X:CX}{dr:X'}{ops:R'}{i:Nat}{o:Oper}{r:RO}(h:oT X dr ops i o=some r):r.strip=r:=by obtain⟨_,_,_,_,_,_,rfl⟩:=Fu h;rfl
theorem zc{X:CX}{dr:X'}{ops:R'}:∀{l:R'}{i:Nat}{r:SW},mb X dr ops i l=some r->r.map RO.strip=r
 |[],i,r,h=>by cases h;rfl|o::l,i,r,h=>by simp only[mb]at h;split at h;(next a b B D=>cases h;simp only[map_cons,LR B,zc D]);cases h
theorem LA{X:CX}:∀{c:Code}{ro:X'}{r:RC},bW X ro c=some r->erase r=r:=by intro c;induction c with|region _ ops dr=>intro ro r h;simp only[bW]at h;split at h;split at h;obtain⟨l,d,rfl⟩:=ζf.1 h;simp only[erase,zc d];cases h;obtain⟨l,d,rfl⟩:=ζf.1 h;simp only[erase,zc d]|seq a b u w=>intro ro r h;simp only[bW]at h;split at h;(next d z=>cases h;simp only[erase,u d,w z]);cases h|cond c a b u w=>intro ro r h;simp only[bW]at h;split at h;(next d z=>cases h;simp only[erase,u d,w z]);cases h|block id a u=>intro ro r h;simp only[bW]at h;obtain⟨l,d,rfl⟩:=ζf.1 h;simp only[erase,u d]|loop a u=>intro ro r h;simp only[bW]at h;obtain⟨l,d,rfl⟩:=ζf.1 h;simp only[erase,u d]|rangeFunc g ps a b u w=>intro ro r h;simp only[bW]at h;split at h;cases h;split at h;(next d z=>cases h;simp only[erase,u d,w z]);cases h|_=>intro ro r h;first|cases h;rfl|(simp only[bW]at h;cases h;rfl)|(simp only[bW]at h;cases h)
def SA(E:Env)(nm:Y'->a_ Nat)(G:Y'->a_ GD):qN:=λf=>(G f).bind λg=>(E.ft f).bind λu=>(bW ⟨E,nm,u.ntmps⟩ false u.body).bind λc=>(u.results.mapM (CM E)).bind λrs=>some ⟨u.ntmps,rs,(ki g c ⟨g.m,0,0⟩).1⟩
theorem DO{E:Env}{nm:Y'->a_ Nat}{G:Y'->a_ GD}{f:Y'}{rf:RF}(h:SA E nm G f=some rf):∃fi,E.ft f=some fi/\yx E nm fi rf:=by unfold SA at h;have⟨g,_,h⟩:=ζg.1 h;have⟨fi,a,h⟩:=ζg.1 h;have⟨c,u,h⟩:=ζg.1 h;have⟨rs,w,h⟩:=ζg.1 h;cases h;exact⟨fi,a,by rw[u,mQ,LA u],w,rfl⟩
theorem u9:∀(g:Y')(s:Nat),some g=some s->(λn=>n) s=g:=λ_ _ h=>(Option.some.inj h).symm
def sq(o:a_ RF):RF:=o.getD ⟨0,[],.skip⟩
def tb(T:qN)(f:Y'):RC:=(sq (T f)).body
def tr(T:qN)(f:Y'):aZ RV:=(sq (T f)).rs
theorem Bq{o:a_ RF}(h:o.isSome=true):o=some (sq o):=by cases o with
 |none=>cases h|some r=>rfl
class j9(δ:Type)where
 e:δ->List V
instance abV{α:Type}[bC α]:j9 α:=⟨λx=>[enc x]⟩
instance abW:j9 Unit:=⟨λ_=>[]⟩
instance abU{α β:Type}[bC α][j9 β]:j9 (α×β):=⟨λx=>enc x.1::j9.e x.2⟩
@[simp] theorem abw{α:Type}[bC α](x:α):j9.e x=[enc x]:=rfl
@[simp] theorem abx(x:Unit):j9.e x=[]:=rfl
@[simp] theorem aby{α β:Type}[bC α][j9 β](x:α×β):j9.e x=enc x.1::j9.e x.2:=rfl
class Fc(S:Sys)(c:cm){δ:Type}(m:Option δ)where
 n:FuncId
 az:List V
 E:δ->List V
 sc:Bool
 F:hG S c n (λ_:Unit=>az) E (λ_=>m) sc
section
variable{S:Sys}{T:qN}{δ:Type}{m:a_ δ}
theorem hG.Sw{E:δ->T2}(fn:Y')(az:T2)(h:Le (m.bind λr=>some (E r)) (cg S (dm S T) (qZ (tr T fn)) (.rc (tb T fn),[],start (az.map .v) [])))
 (B:(T fn).isSome=true)(a:S.E.keep fn=false)(D:ble az.length (sq (T fn)).na=true)
 {sc:X'}(s:sc=true->∀r,(result (E r)).scalar=true):hG S (dm S T) fn (λ_:Unit=>az) E (λ_=>m) sc where
 k:=a
 h z:=abk (Bq B) (Nat.le_of_ble_eq_true D) h
 s:=s
abbrev Fc.NE(E:δ->aZ V)(fn:FuncId)(az:aZ V)(h:Le (m.bind λr=>some (E r)) (cg S (dm S T) (qZ (tr T fn)) (.rc (tb T fn),[],start (az.map .v) [])))
 (B:(T fn).isSome=true:=by kernel_rfl)(a:S.E.keep fn=false:=by kernel_rfl)(D:ble az.length (sq (T fn)).na=true:=by kernel_rfl)
 :Fc S (dm S T) m:=
 ⟨fn,az,E,false,hG.Sw fn az h B a D λh=>nomatch h⟩
abbrev Fc.M[j9 δ](fn:FuncId)(az:aZ V)(h:Le (m.bind λr=>some (j9.e r)) (cg S (dm S T) (qZ (tr T fn)) (.rc (tb T fn),[],start (az.map .v) [])))
 (B:(T fn).isSome=true:=by kernel_rfl)(a:S.E.keep fn=false:=by kernel_rfl)(D:ble az.length (sq (T fn)).na=true:=by kernel_rfl)
 (s:∀r:δ,(result (j9.e r)).scalar=true:=by intro r;kernel_rfl):Fc S (dm S T) m:=
 ⟨fn,az,j9.e,true,hG.Sw fn az h B a D λ_=>s⟩
abbrev Fc.N[j9 δ](fn:FuncId)(az:aZ V)(h:Le (m.bind λr=>some (j9.e r)) (cg S (dm S T) (qZ (tr T fn)) (.rc (tb T fn),[],start (az.map .v) [])))
 (B:(T fn).isSome=true:=by kernel_rfl)(a:S.E.keep fn=false:=by kernel_rfl)(D:ble az.length (sq (T fn)).na=true:=by kernel_rfl)
 :Fc S (dm S T) m:=
 ⟨fn,az,j9.e,false,hG.Sw fn az h B a D λh=>nomatch h⟩
end
abbrev Fc.of{S:Sys}{c:cm}{α δ:Type}{p:α->a_ δ}{n:FuncId}{A:α->aZ V}{E:δ->aZ V}{b:Bool}(z:α)(F:hG S c n A E p b):Fc S c (p z):=⟨n,A z,E,b,⟨F.k,λ_=>F.h z,F.s⟩⟩
theorem hG.sw{S:Sys}{c:cm}{α δ:Type}{p:α->a_ δ}{n:Y'}{A:α->T2}{E:δ->T2}{b:X'}(F:∀z,Fc S c (p z))(i:α)(B:∀z,(F z).n=n)(G:∀z,(F z).az=A z)(D:∀z,(F z).E=E)(J:∀z,(F z).sc=b):hG S c n A E p b where
 k:=by rw[<-B i];exact(F i).F.k
 h z:=by rw[<-B z,<-G z,<-D z];exact(F z).F.h ()
 s:=by rw[<-J i,<-D i];exact(F i).F.s
theorem lW.sw{S:Sys}{c:cm}{α δ:Type}{p:α->a_ δ}{g:Y'}{w e:T2}{A:α->T2}{R:δ->T2}{b:X'}[i:Inhabited α][F:∀z,Fc S c (p z)](B:∀z,(F z).n=g:=by intro _;kernel_rfl)(D:∀z,(F z).az=w++A z++e:=by intro _;kernel_rfl)
 (G:∀z,(F z).E=R:=by intro _;kernel_rfl)(J:∀z,(F z).sc=b:=by intro _;kernel_rfl):lW S c g w e A R p b:=
 ⟨hG.sw F default B D G J⟩
section
variable{S:Sys}{c:cm}{β γ δ α:Type}{Q:Out×St->a_ β}{e:γ->a_ β}{cf:Cf}
theorem ud(n:Nat){m:a_ β}(h:Le m (cg S c Q (jc S c n cf)))(B:iz S c n cf.1 cf.2.1 cf.2.2=some (jc S c n cf):=by kernel_rfl):Le m (cg S c Q cf):=B7 B h
theorem bG(n:Nat){m:a_ δ}[F:Fc S c m]{f:δ->a_ γ}(h:∀x,m=some x->Le ((f x).bind e) (cg S c Q (nx S c n cf λp=>cW p.st p.d (.v (result (F.E x))))))
 (B:(fT S c n cf).map (λp=>(p.k,(bY S.N p.st.g p.az).bind lH,(!p.dr||p.now||fV p.st.m p.fr [])))=some (.c,some (F.n,F.az.map .v),true):=by kernel_rfl):Le ((m.bind f).bind e) (cg S c Q cf):=yJ n F.F () h B
theorem cV(n:Nat){m:a_ δ}[F:Fc S c m]{f:δ->a_ γ}(h:∀x,m=some x->Le ((f x).bind e) (cg S c Q (nx S c n cf λp=>cW p.st p.d (.v (result (F.E x))))))
 (B:(fT S c n cf).map (λp=>(p.k,((bY S.N p.st.g p.az).bind lH).bind λq=>(nL (iW p.st.m 8) q.2).map λvs=>(q.1,vs,((!p.dr||p.now)||fV p.st.m p.fr q.2))))=some (.c,some (F.n,F.az,true)):=by kernel_rfl)(D:F.sc=true:=by kernel_rfl):Le ((m.bind f).bind e) (cg S c Q cf):=
 X2 n (u D F.F) () h B
where
 u {b:X'} {fn:Y'} {az:T2} {E:δ->T2} {m:a_ δ} (h:b=true) (F:hG S c fn (λ_:Unit=>az) E (λ_=>m) b):hG S c fn (λ_:Unit=>az) E (λ_=>m) true:=h▸F
def Ni(cf:Cf):RC:=match cf.1 with|.rc (.loop c)=>c|_=>.skip
def FD(cf:Cf):Arg×S'×RC×RC:=match cf.1 with|.rc (.each g ps a b)=>(g,ps,a,b)|_=>(.s 0,[],.skip,.skip)
theorem dZ{σ ε ρ:Type}{step:σ->a_ (Fw σ ε ρ)}(n:Nat)(eσ:σ->St)(eε:ε->Nat×St)(eρ:ρ->St){s:σ}{fx:ε->a_ γ}{fr:ρ->a_ γ}
 (h:∀s,Le ((step s).bind λw=>some (Fw.out eσ eε eρ w)) (cg S c some (.rc (Ni (jc S c n cf)),[],eσ s)))
 (B:∀x,Le ((fx x).bind e) (cg S c Q (.ex (eε x).1,(jc S c n cf).2.1,(eε x).2)))(a:∀b,Le ((fr b).bind e) (Q (.ret,eρ b)))
 (D:iz S c n cf.1 cf.2.1 cf.2.2=some (.rc (.loop (Ni (jc S c n cf))),(jc S c n cf).2.1,eσ s):=by kernel_rfl):Le (((bS step s).bind (Fw.elim fx fr)).bind e) (cg S c Q cf):=
 Jy D h B a
theorem ga{σ ε:Type}{step:σ->a_ (Fw σ ε Empty)}(n:Nat)(eσ:σ->St)(eε:ε->Nat×St){s:σ}{fx:ε->a_ γ}{fr:Empty->a_ γ}
 (h:∀s,Le ((step s).bind λw=>some (Fw.out eσ eε (λe=>elim e) w)) (cg S c some (.rc (Ni (jc S c n cf)),[],eσ s)))
 (B:∀x,Le ((fx x).bind e) (cg S c Q (.ex (eε x).1,(jc S c n cf).2.1,(eε x).2)))
 (D:iz S c n cf.1 cf.2.1 cf.2.2=some (.rc (.loop (Ni (jc S c n cf))),(jc S c n cf).2.1,eσ s):=by kernel_rfl):Le (((bS step s).bind (Fw.elim fx fr)).bind e) (cg S c Q cf):=
 Jy D h B λb=>elim b
theorem Q2{σ ρ:Type}{step:σ->a_ (Fw σ Empty ρ)}(n:Nat)(eσ:σ->St)(eρ:ρ->St){s:σ}{fx:Empty->a_ γ}{fr:ρ->a_ γ}
 (h:∀s,Le ((step s).bind λw=>some (Fw.out eσ (λe=>elim e) eρ w)) (cg S c some (.rc (Ni (jc S c n cf)),[],eσ s)))
 (a:∀b,Le ((fr b).bind e) (Q (.ret,eρ b)))
 (B:iz S c n cf.1 cf.2.1 cf.2.2=some (.rc (.loop (Ni (jc S c n cf))),(jc S c n cf).2.1,eσ s):=by kernel_rfl):Le (((bS step s).bind (Fw.elim fx fr)).bind e) (cg S c Q cf):=
 Jy B h (λx=>elim x) a
theorem Ct{σ ε ρ:Type}{f:Y'}{x y:T2}{a:aZ α}{eI:α->T2}{step:α->σ->a_ (Fw σ ε ρ)}(n:Nat)(d:Tb SV)(eσ:σ->Tb bM)(eε:ε->Nat×Tb bM)(eρ:ρ->Tb bM){s:σ}{fn:σ->a_ γ}{fx:ε->a_ γ}{fr:ρ->a_ γ}
 (hi:S.items f x y=some (a.map eI))
 (h:∀x s,Le ((step x s).bind λw=>some (Fw.xJ eσ eε eρ w)) (cg S c (AQ S c (FD (jc S c n cf)).2.2.2) (.rc (FD (jc S c n cf)).2.2.1,[],⟨yK d (FD (jc S c n cf)).2.1 ((eI x).map .v),eσ s,rq d,[],true,0⟩)))
 (B:∀s,Le ((fn s).bind e) (cg S c Q (.nx,(jc S c n cf).2.1,bL d (eσ s))))(D:∀x,Le ((fx x).bind e) (cg S c Q (.ex (eε x).1,(jc S c n cf).2.1,bL d (eε x).2)))(g:∀b,Le ((fr b).bind e) (Q (.ret,bL d (eρ b))))
 (G:∀x,(eI x).length=(FD (jc S c n cf)).2.1.length:=by intro _;kernel_rfl)(i:sy S.N d (FD (jc S c n cf)).1=some (.v (.clo f x y)):=by kernel_rfl)
 (J:iz S c n cf.1 cf.2.1 cf.2.2=some (.rc (.each (FD (jc S c n cf)).1 (FD (jc S c n cf)).2.1 (FD (jc S c n cf)).2.2.1 (FD (jc S c n cf)).2.2.2),(jc S c n cf).2.1,bL d (eσ s)):=by kernel_rfl):Le (((lq step a s).bind (Fw.rV fn fx fr)).bind e) (cg S c Q cf):=
 XY J i hi G h B D g
noncomputable def YE(n k:Nat)(B:S')(d:Nat)(S:Sys)(c:cm)(cf:Cf)(v:SV):Cf:=jmp k [] (jc S c n cf) {(jc S c n cf).2.2 with g:=bQ (oS B (jc S c n cf).2.2.g) d v}
theorem ck[bC δ](n k:Nat)(B:S')(d:Nat){m:a_ δ}{f:δ->a_ γ}(D:Le (m.bind λr=>cg S c Q (YE n k B d S c cf (cv r))) (cg S c Q cf))(a:∀r,Le ((f r).bind e) (cg S c Q (YE n k B d S c cf (cv r)))):Le ((m.bind f).bind e) (cg S c Q cf):=Vo _ D a
end
theorem N8{α β:Type}{P:α ⊕ β->Prop}(c:∀a,P (.inl a))(B:∀b,P (.inr b)):∀x,P x
 |.inl a=>c a|.inr b=>B b
instance{n:Nat}:DecidableEq (cq n Int):=λa b=>if h:a.l=b.l then .isTrue (by cases a;cases b;cases h;rfl)else .isFalse λe=>h (by rw[e])
theorem wV:∀l:ST,i_ ((l.map (cells (α:=Int))).flatten)=some l
 |[]=>rfl|a::l=>by show i_ (.int .i64 a::(l.map (cells (α:=Int))).flatten)=_;simp only[i_,wV l,map_some]
theorem Q7(l:ST):(l.map (cells (α:=Int))).flatten=l.map (V.int .i64):=by induction l with|nil=>rfl|cons a l u=>simp only[map_cons,List.flatten_cons,u];rfl
instance{n:Nat}:Key (cq n Int)where
 kk:=.ints n
 ok a:=by show((a.l.map (cells (α:=Int))).flatten.length==n&&(i_ (a.l.map (cells (α:=Int))).flatten).isSome)=true;rw[wV,Q7,length_map,a.len];simp
 eq a b:=by show lX (a.l.map (cells (α:=Int))).flatten (b.l.map (cells (α:=Int))).flatten=_;unfold lX;rw[wV,wV];simp only[a.len,b.len,if_true];congr 1;rw[Bool.eq_iff_iff,beq_iff_eq,decide_eq_true_iff];exact⟨λh=>by cases a;cases b;cases h;rfl,λh=>by rw[h]⟩
def CN(m:Tb bM):SV->X'
 |.v _|.agg _=>true|x=>mj m x
def pH:SV->So
 |.v x=>x.cells.map .v|.agg l=>l|x=>[x]
def CQ(cells:So):aZ (Nat×Nat)->So->a_ So
 |[],[]=>some cells|(off,size)::pl,v::vs=>if(pH v).length=size/\off+(pH v).length<=cells.length then CQ (cells.take off++pH v++cells.drop (off+(pH v).length)) pl vs else none|_,_=>none
theorem Px(cells:So):CQ cells [] []=some cells:=rfl
theorem EU(cells:So)(off size:Nat)(pl:aZ (Nat×Nat))(v:SV)(vs:So):CQ cells ((off,size)::pl) (v::vs)=if(pH v).length=size/\off+(pH v).length<=cells.length then CQ (cells.take off++pH v++cells.drop (off+(pH v).length)) pl vs else none:=rfl
theorem Tv(x:V):pH (.v x)=x.cells.map .v:=rfl
theorem ND(d:Nat):pH (.own d)=[.own d]:=rfl
theorem Rl(d:Nat):pH (.mp d)=[.mp d]:=rfl
theorem NS(d o:Nat):pH (.ptr d o)=[.ptr d o]:=rfl
theorem TU{m:Tb bM}{v:SV}(h:CN m v=true):zy m v=some (pH v):=by cases v<;>first|rfl|(unfold zy;exact if_pos h)|(simp[CN,mj]at h)
theorem M6{m:Tb bM}:∀{pl:aZ (Nat×Nat)}{vs cells l:So},vs.all (CN m)=true->CQ cells pl vs=some l->t_ m cells pl vs=some l
 |[],[],_,_,_,h=>h|[],_::_,_,_,_,h=>by cases h|_::_,[],_,_,_,h=>by cases h|(off,size)::pl,v::vs,cells,l,B,h=>by rw[all_cons,ζh]at B;rw[EU]at h;show(match zy m v with|some c=>if c.length=size/\off+c.length<=cells.length then t_ m (cells.take off++c++cells.drop (off+c.length)) pl vs else none|none=>none)=some l;rw[TU B.1];simp only;split at h;(next a=>rw[if_pos a];exact M6 B.2 h);cases h
def FV:SV->X'
 |.v x=>x.one|.agg _=>false|_=>true
theorem YB(x:V):FV (.v x)=x.one:=rfl
theorem Ti(d:Nat):FV (.own d)=true:=rfl
theorem Wh(d:Nat):FV (.mp d)=true:=rfl
theorem T0(d o:Nat):FV (.ptr d o)=true:=rfl
theorem M8{m:Tb bM}:∀{l:So},l.all FV=true->l.all (CN m)=true->l.all (yA m)=true
 |[],_,_=>rfl|x::l,h,k=>by rw[all_cons,ζh]at h k⊢;refine⟨?_,M8 h.2 k.2⟩;cases x<;>first|exact h.1|exact k.1|(have:=h.1;cases this)
section
variable{S:Sys}{c:cm}{β γ δ α:Type}{Q:Out×St->a_ β}{e:γ->a_ β}{cf:Cf}
theorem Qq{N:Nat->Y'}{m:Tb bM}{z:T2}{pl:aZ (Nat×Nat)}{svs l:So}(B:(dB svs).isNone=true)(h:t_ m (z.map .v) pl svs=some l):jC N m (.build z pl) svs=some (.agg l):=by unfold jC;cases a:dB svs with|some x=>rw[a]at B;cases B|none=>have:yz N m (.build z pl) svs=(t_ m (z.map .v) pl svs).map .agg:=(by unfold yz;split<;>first|contradiction|(rename_i e _;cases e;rfl)|simp_all);simp only[this,h,map_some]
theorem Z3(n:Nat)(svs l:So)(z:T2)(pl:aZ (Nat×Nat)){m:a_ β}(B:CQ (z.map .v) pl svs=some l)(h:Le m (cg S c Q (nx S c n cf λp=>cW p.st p.d (.agg l))))
 (D:(fT S c n cf).map (λp=>(p.k,bY S.N p.st.g p.az,(dB svs).isNone,svs.all (CN p.st.m)))=some (.p (.build z pl),some svs,true,true):=by kernel_rfl):Le m (cg S c Q cf):=by
 have⟨p,u,a⟩:=eR D;simp only[ζc]at a;refine wJ u ?_ h;rw[a.1];exact BV a.2.1 rfl (Qq a.2.2.1 (M6 a.2.2.2 B))
theorem Z_(n u:Nat)(l:So){m:a_ β}(B:l.all FV=true)(h:Le m (cg S c Q (nx S c n cf λp=>{p.st with g:=bQ p.st.g u (.ptr u 0),m:=bQ p.st.m u (.box l)})))
 (D:(fT S c n cf).map (λp=>(p.d,p.k,bY S.N p.st.g p.az,p.st.new u,l.all (CN p.st.m)))=some (some u,.a .box,some [.agg l],true,true):=by kernel_rfl):Le m (cg S c Q cf):=by
 have⟨p,w,a⟩:=eR D;simp only[ζc]at a;refine wJ w ?_ h;rw[a.1,a.2.1,AL,a.2.2.1];simp only[ζb,a.2.2.2.1,if_true,o9,M8 B a.2.2.2.2]
end
section
variable{S:Sys}{c:cm}{β γ δ:Type}{Q:Out×St->a_ β}{e:γ->a_ β}{cf:Cf}{κ ν:Type}[bC κ][DecidableEq κ][Key κ][bC ν]
structure Ep(κ ν:Type)where
 o:Option (Mo κ ν)
 deriving Inhabited
def Y6(m:Ep κ ν):V:=match m.o with|none=>.gM|some l=>.fmap (oB l)
theorem PJ(m:Mo κ ν):V.uH (oB m)=true:=by induction m with|nil=>rfl|cons x r u=>show V.uH ((enc x.1,enc x.2)::oB r)=true;simp only[V.uH,j8,u,Bool.and_self]
instance:bC (Ep κ ν)where
 cells m:=[Y6 m]
 agg:=false
 size:=1
 len _:=rfl
 good m:=by unfold Y6;split;rfl;simp only[V.cI,V.good,PJ,Bool.and_self]
 one m:=by unfold Y6;split<;>rfl
 plain _:=rfl
theorem Nd(m:Ep κ ν):V.one (enc m)=true:=by have⟨o⟩:=m;cases o<;>rfl
def nF(m:Ep κ ν):Mo κ ν:=m.o.getD []
theorem Sf(m:Ep κ ν):nJ [] (enc m)=some (oB (nF m)):=by have⟨o⟩:=m;cases o<;>rfl
theorem Ju(m:Ep κ ν)(k:κ)(z:ν)(ok:X'):fA [] (.lookup (Key.kk κ) (enc z) ok) [enc m,enc k]=some (if ok then .tup [enc (ov (nF m) k z),.bool (uT (nF m) k)]else enc (ov (nF m) k z)):=by
 simp only[fA,Sf,Key.ok,if_true];have:=Gi k (nF m) 0;simp only[ov,uT]
 cases B:iT (enc k) (oB (nF m)) 0 with
 |none=>rw[B]at this;cases this|some r=>
  rw[B]at this;simp only[map_some,ζa]at this
  cases r with
  |none=>cases u:jV k (nF m)with|none=>rfl|some w=>rw[u]at this;cases this
  |some w=>cases u:jV k (nF m)with|none=>rw[u]at this;cases this|some C=>rw[u]at this;simp only[map_some,ζa]at this;simp only[this];rfl
theorem Qn(n:Nat)(mp:Ep κ ν)(k:κ)(z:ν){m:a_ β}(h:Le m (cg S c Q (nx S c n cf λp=>cW p.st p.d (cv (ov (nF mp) k z)))))
 (B:(fT S c n cf).map (λp=>(p.k,bY S.N p.st.g p.az))=some (.r (.lookup (Key.kk κ) (enc z) false),some [cv mp,cv k]):=by kernel_rfl):Le m (cg S c Q cf):=by
 have⟨p,u,a⟩:=eR B;simp only[ζc]at a;refine wJ u ?_ h;rw[a.1,Cp,a.2];simp only[ζb,fK,Bool.or_true,if_true,oN,Ju,map_some];rfl
theorem Vs(n:Nat)(mp:Ep κ ν)(k:κ)(z:ν){m:a_ β}(h:Le m (cg S c Q (nx S c n cf λp=>cW p.st p.d (.v (.tup [enc (ov (nF mp) k z),.bool (uT (nF mp) k)])))))
 (B:(fT S c n cf).map (λp=>(p.k,bY S.N p.st.g p.az))=some (.r (.lookup (Key.kk κ) (enc z) true),some [cv mp,cv k]):=by kernel_rfl):Le m (cg S c Q cf):=by
 have⟨p,u,a⟩:=eR B;simp only[ζc]at a;refine wJ u ?_ h;rw[a.1,Cp,a.2];simp only[ζb,fK,Bool.or_true,if_true,oN,Ju,map_some]
end
theorem hG.scalar{S:Sys}{c:cm}{α δ:Type}{fn:Y'}{A:α->T2}{E:δ->T2}{p:α->a_ δ}{b:X'}(F:hG S c fn A E p b)(h:∀r,(result (E r)).scalar=true):hG S c fn A E p true:=⟨F.k,F.h,λ_=>h⟩
section
variable{S:Sys}{c:cm}{β γ δ α:Type}[bC α]{Q:Out×St->a_ β}{e:γ->a_ β}{cf:Cf}
theorem U4{ω:Type}[bC ω](n u:Nat){N:Nat}(a:cq N α)(i:Int)(o:Nat)(x:α)(D:a.at i=some x)(y:α)(w:ω)(G:cells y=(cells x).take o++cells w++(cells x).drop (o+bC.size ω)){m:a_ β}(h:Le m (cg S c Q (nx S c n cf λp=>cW {p.st with m:=bQ p.st.m u (bx (a.set i y))} p.d (.v .undef))))
 (J:(fT S c n cf).map (λp=>(p.k,bY S.N p.st.g p.az,bn p.st.m u,(!p.dr||p.now),ble (o+bC.size ω) (bC.size α)))=some (.l (.store (bC.size ω)),some [.ptr u (i.toNat*bC.size α+o),cv w],some (bx a),true,true):=by kernel_rfl):Le m (cg S c Q cf):=by
 have⟨p,B,z⟩:=eR J;simp only[ζc]at z;have⟨b,C⟩:=kf B;have⟨dr,fr,d,gd,now,U,az,dd,l,fs,st⟩:=p;obtain⟨rfl,I,L,O,T⟩:=z;exact aac n dr fr (⟨d,gd,now,.l (.store (bC.size ω)),az,dd,[]⟩::l) fs st u a i o x D y (enc w) (by rw[l_];exact G) rfl (by(try dsimp only at *);simp only[b,C,I,L,O,T,l_,gH,rY]) (by
  simp only[nx,B]at h;exact h)
end
noncomputable def IK(rs:aZ RV):Out×St->a_ (bM×T2)
 |(.exit _,_)=>none|(_,st)=>(lg st rs).bind λl=>match l with
  |.own d::r=>(bn st.m d).bind λob=>(dB r).map λys=>(ob,ys)|_=>none
theorem CK:∀{l:So}{ys:T2},dB l=some ys->l=ys.map .v
 |[],ys,h=>by cases h;rfl|.v x::r,ys,h=>by simp only[dB]at h;obtain⟨B,a,rfl⟩:=ζf.1 h;rw[CK a];rfl|.own _::_,_,h|.ptr ..::_,_,h|.el ..::_,_,h|.mp _::_,_,h|.clo ..::_,_,h|.tup _::_,_,h|.agg _::_,_,h|.yl _::_,_,h=>by cases h
theorem abm{S:Sys}{c:cm}{rs:aZ RV}{a:RC}{st:St}{ob:bM}{ys:T2}(h:lz S c (IK rs) a [] st=some (ob,ys)):∃o st' d,cR S c a st=some (o,st')/\(∀id,o≠.exit id)/\lg st' rs=some (.own d::ys.map .v)/\bn st'.m d=some ob:=by
 rw[qj]at h;have⟨⟨o,st'⟩,b,u⟩:=ζg.1 h;have z:∀id,o≠.exit id:=by rintro id rfl;simp[IK]at u
 have B:(lg st' rs).bind (λl=>match l with|.own d::r=>(bn st'.m d).bind λob=>(dB r).map λys=>(ob,ys)|_=>none)=some (ob,ys):=by cases o with|exit id=>exact absurd rfl (z id)|norm=>exact u|ret=>exact u
 have⟨l,C,w⟩:=ζg.1 B;split at w;have⟨D,G,I⟩:=ζg.1 w;have⟨O,J,L⟩:=ζf.1 I;cases L;exact⟨o,st',_,b,z,by rw[C,CK J],G⟩;cases w
structure FcO(S:Sys)(c:cm){δ ε:Type}[bC δ][j9 ε](m:Option (Sl δ×ε))where
 n:FuncId
 az:List V
 k:S.E.keep n=true
 o:S.E.own n=true
 h:∀s r,m=some (s,r)->∃e m',c n (az.map .v) []=some (.own e::(j9.e r).map .v,m')/\bn m' e=some (cG s)
 sc:∀x:δ,(cells x).all V.scalar=true
 sr:∀r:ε,V.c8 (j9.e r)=true
abbrev FcO.mk'{S:Sys}{T:qN}{δ ε:Type}[bC δ][j9 ε]{m:a_ (Sl δ×ε)}(fn:FuncId)(az:aZ V)(h:Le (m.bind λr=>some (cG r.1,j9.e r.2)) (cg S (dm S T) (IK (tr T fn)) (.rc (tb T fn),[],start (az.map .v) [])))
 (B:(T fn).isSome=true:=by kernel_rfl)(b:S.E.keep fn=true:=by kernel_rfl)(D:S.E.own fn=true:=by kernel_rfl)(G:ble az.length (sq (T fn)).na=true:=by kernel_rfl)
 (sc:∀x:δ,(cells x).all V.scalar=true:=by intro x;rfl)(sr:∀r:ε,V.c8 (j9.e r)=true:=by intro r;rfl):FcO S (dm S T) m where
 n:=fn
 az:=az
 k:=b
 o:=D
 sc:=sc
 sr:=sr
 h s r w:=by have u:=Bq B;have a:=h (cG s,j9.e r) (by rw[w];rfl);change lz S (dm S T) (IK (sq (T fn)).rs) (sq (T fn)).body [] (start (az.map .v) [])=some (cG s,j9.e r)at a;have⟨o,st',d,g1,g2,g3,g4⟩:=abm a;refine⟨d,st'.m,?_,g4⟩;rw[tu u];unfold oh;rw[if_pos (by simpa using Nat.le_of_ble_eq_true G),g1];cases o with|exit id=>exact absurd rfl (g2 id)|norm=>simp only[g3,map_some]|ret=>simp only[g3,map_some]
section
variable{S:Sys}{c:cm}{β γ δ α:Type}{Q:Out×St->a_ β}{e:γ->a_ β}{cf:Cf}
theorem Ys[bC α]{N:Nat->Y'}{m:Tb bM}{i:Int}{z:α}(B:(cells z).all V.scalar=true):jC N m (.makeC (bC.size α) (cells z)) [.v (.int .i64 i),.v (.int .i64 i)]=(oL i z).bind λs=>some (cv s):=by show(if i64=.i64/\i64=.i64/\0<=i/\i=i/\i<=2147483648/\(cells z).all V.scalar=true then some (V.fsl (bC.size α) (replicate i.toNat (cells z)))else none).map SV.v=_;unfold oL;by_cases h:0<=i/\i<=2147483648;rw[if_pos h,if_pos ⟨rfl,rfl,h.1,rfl,h.2,B⟩];show some (SV.v (.fsl _ (replicate _ (cells z))))=some (SV.v (.fsl _ (rows (replicate i.toNat z))));simp[rows];rw[if_neg h,if_neg λk=>h ⟨k.2.2.1,k.2.2.2.2.1⟩];rfl
theorem abr[bC α](n:Nat){i:Int}{z:α}{f:Sl α->a_ γ}(h:∀B,oL i z=some B->Le ((f B).bind e) (cg S c Q (nx S c n cf λp=>cW p.st p.d (cv B))))
 (D:(fT S c n cf).map (λp=>(p.k,bY S.N p.st.g p.az))=some (.p (.makeC (bC.size α) (cells z)),some [.v (.int .i64 i),.v (.int .i64 i)]):=by kernel_rfl)(G:(cells z).all V.scalar=true:=by rfl):Le (((oL i z).bind f).bind e) (cg S c Q cf):=by
 have⟨p,u,a⟩:=eR D;simp only[ζc]at a;refine qi u ?_ h;rw[a.1];exact Le.of_eq (K7 a.2 rfl (Ys G))
theorem Yo(n:Nat)(ds:S'){m:a_ δ}[F:Fc S c m]{f:δ->a_ γ}(h:∀x,m=some x->Le ((f x).bind e) (cg S c Q (nx S c n cf λp=>cW {p.st with m:=if(result (F.E x)).scalar then p.st.m else oS ds p.st.m} p.d (.v (result (F.E x))))))
 (B:(fT S c n cf).map (λp=>(p.k,((bY S.N p.st.g p.az).bind lH).bind λq=>(nL (iW p.st.m 8) q.2).map λvs=>(q.1,vs,!p.dr||p.now,(dB q.2).isSome,rowsOf q.2)))=some (.c,some (F.n,F.az,true,false,some ds)):=by kernel_rfl):Le ((m.bind f).bind e) (cg S c Q cf):=by
 have⟨p,z,a⟩:=eR B;simp only[ζc]at a;have⟨C,D⟩:=a;have⟨q,g1,g2⟩:=ζg.1 D;have⟨u,g3,g4⟩:=ζg.1 g1;have⟨vs,g5,g6⟩:=ζf.1 g2;simp only[ζc]at g6;obtain⟨e1,rfl,e3,e4,e5⟩:=g6;refine qi z ?_ h;rw[C,vK _ _ _ _ _ _ u q.1 q.2 g3 g4,Mz _ _ _ _ _ _ _ (by rw[e1];exact F.F.k),(xA p.st.m 8).2,g5]
 simp only[ζb,e3,Bool.true_or,Bool.and_self,if_true];intro y w;have⟨r,b,w⟩:=ζg.1 w;cases w;have:=F.F.h () (F.E r) (ζg.2 ⟨r,b,rfl⟩);rw[e1,this];simp only[ζb,KW,e4,Bool.or_false]
 cases(result (F.E r)).scalar with
 |true=>rfl|false=>simp only[false_eq_true,if_false,if_true,e5,map_some,ζb]
theorem Xs(n:Nat)(ds:S'){m:a_ δ}[F:Fc S c m]{f:δ->a_ γ}
 (h:∀x,m=some x->Le ((f x).bind e) (cg S c Q (nx S c n cf λp=>cW p.st p.d (.v (result (F.E x)))))/\Le ((f x).bind e) (cg S c Q (nx S c n cf λp=>cW {p.st with m:=oS ds p.st.m} p.d (.v (result (F.E x))))))
 (B:(fT S c n cf).map (λp=>(p.k,((bY S.N p.st.g p.az).bind lH).bind λq=>(nL (iW p.st.m 8) q.2).map λvs=>(q.1,vs,!p.dr||p.now,(dB q.2).isSome,rowsOf q.2)))=some (.c,some (F.n,F.az,true,false,some ds)):=by kernel_rfl):Le ((m.bind f).bind e) (cg S c Q cf):=
 Yo n ds (λx u=>by
  cases(result (F.E x)).scalar with
  |true=>exact(h x u).1|false=>exact(h x u).2) B
end
noncomputable def FY(rs:aZ RV)(B:S'):Out×St->a_ (T2×dK)
 |(.exit _,_)=>none|(_,st)=>(lg st rs).bind λl=>(dB l).bind λys=>(kN st.m B).map λos=>(ys,os)
theorem goK{S:Sys}{c:cm}{rs:aZ RV}{B:S'}{a:RC}{st:St}{os:dK}{ys:T2}(h:lz S c (FY rs B) a [] st=some (ys,os)):∃o st',cR S c a st=some (o,st')/\(∀id,o≠.exit id)/\lg st' rs=some (ys.map .v)/\kN st'.m B=some os:=by
 rw[qj]at h;have⟨⟨o,st'⟩,b,u⟩:=ζg.1 h;have w:∀id,o≠.exit id:=by rintro id rfl;simp[FY]at u
 have z:(lg st' rs).bind (λl=>(dB l).bind λys=>(kN st'.m B).map λos=>(ys,os))=some (ys,os):=by cases o with|exit id=>exact absurd rfl (w id)|norm=>exact u|ret=>exact u
 have⟨l,C,D⟩:=ζg.1 z;have⟨O,G,I⟩:=ζg.1 D;have⟨q,J,L⟩:=ζf.1 I;cases L;exact⟨o,st',b,w,by rw[C,CK G],J⟩
def pX:Tb bM->dK->Tb bM
 |m,[]=>m|m,(d,ob)::r=>pX (bQ m d ob) r
theorem JQ{m':dK}{D:S'}:∀{B:S'}{os m:dK},kN m' B=some os->(os.all λx=>within D x.2)=true->Ap D m' B m=some (pX m os)
 |[],os,m,h,_=>by cases h;rfl|k::B,os,m,h,hp=>by simp only[kN]at h;split at h;(next v t a G=>cases h;simp only[all_cons,ζh]at hp;simp only[Ap,a,hp.1,if_true,pX];exact JQ G hp.2);cases h
theorem back_eq{m':dK}{B:S'}{os m:dK}(h:kN m' B=some os)(hp:(os.all λx=>within B x.2)=true):lC m' B m=some (pX m os):=JQ h hp
structure ou(S:Sys)(c:cm){δ:Type}(m:Option δ)where
 n:FuncId
 az:List SV
 os:dK
 E:δ->List V
 M:δ->dK
 k:S.E.keep n=true
 o:S.E.own n=false
 q:(S.prm n).isNone=true
 h:∀r,m=some r->∃m',c n az os=some ((E r).map .v,m')/\∀m0,lC m' (os.map (·.1)) m0=some (pX m0 (M r))
abbrev ou.mk'{S:Sys}{T:qN}{δ:Type}{m:a_ δ}(fn:FuncId)(az:aZ SV)(os:dK)(E:δ->aZ V)(M:δ->dK)(h:Le (m.bind λr=>some (E r,M r)) (cg S (dm S T) (FY (tr T fn) (os.map (·.1))) (.rc (tb T fn),[],start az os)))
 (B:(T fn).isSome=true:=by kernel_rfl)(b:S.E.keep fn=true:=by kernel_rfl)(D:S.E.own fn=false:=by kernel_rfl)(G:(S.prm fn).isNone=true:=by kernel_rfl)(J:ble az.length (sq (T fn)).na=true:=by kernel_rfl)
 (hp:∀r,((M r).all λx=>within (os.map (·.1)) x.2)=true:=by intro r;kernel_rfl):ou S (dm S T) m where
 n:=fn
 az:=az
 os:=os
 E:=E
 M:=M
 k:=b
 o:=D
 q:=G
 h r hr:=by have u:=Bq B;have a:=h (E r,M r) (by rw[hr];rfl);change lz S (dm S T) (FY (sq (T fn)).rs (os.map (·.1))) (sq (T fn)).body [] (start az os)=some (E r,M r)at a;have⟨o,st',g1,g2,g3,g4⟩:=goK a;refine⟨st'.m,?_,λw=>back_eq g4 (hp r)⟩;rw[tu u];unfold oh;rw[if_pos (Nat.le_of_ble_eq_true J),g1];cases o with|exit id=>exact absurd rfl (g2 id)|norm=>simp only[g3,map_some]|ret=>simp only[g3,map_some]
section
variable{S:Sys}{c:cm}{β γ δ:Type}{Q:Out×St->a_ β}{e:γ->a_ β}{cf:Cf}
theorem uo(n:Nat){m:a_ δ}(F:ou S c m){f:δ->a_ γ}(h:∀x,m=some x->Le ((f x).bind e) (cg S c Q (nx S c n cf λp=>cW {p.st with m:=pX p.st.m (F.M x)} p.d (.v (result (F.E x))))))
 (B:(fT S c n cf).map (λp=>(p.k,((bY S.N p.st.g p.az).bind lH).bind λq=>(handed p.st.m q.2).map λos=>(q.1,q.2,os),p.dr))=some (.c,some (F.n,F.az,F.os),false):=by kernel_rfl):Le ((m.bind f).bind e) (cg S c Q cf):=by
 have⟨p,z,a⟩:=eR B;simp only[ζc]at a;have⟨C,D,G⟩:=a;have⟨q,g1,g2⟩:=ζg.1 D;have⟨u,g3,g4⟩:=ζg.1 g1;have⟨os,g5,g6⟩:=ζf.1 g2;simp only[ζc]at g6;obtain⟨e1,e2,rfl⟩:=g6;refine qi z ?_ h;rw[C,G,vK _ _ _ _ _ _ u q.1 q.2 g3 g4];intro y w;have⟨r,b,w⟩:=ζg.1 w;cases w;have⟨m',k1,k2⟩:=F.h r b;have I:S.prm F.n=none:=by have:=F.q;cases J:S.prm F.n with|none=>rfl|some _=>rw[J]at this;cases this
 have:fu S c p.d false (!false||p.now) (fV p.st.m p.fr) q.1 q.2 p.st=some (.v (result (F.E r)),{p.st with m:=pX p.st.m (F.M r)}):=by unfold fu;rw[e1,e2]at *;simp only[F.k,F.o,I,g5,k1,mA,k2,if_true,Bool.not_false,Bool.true_or,Bool.false_and,false_eq_true,if_false]
 rw[this];rfl
instance:Key U' where
 kk:=.str
 ok _:=rfl
 eq a b:=by show some (a==b)=some (decide (a=b));rw[show(a==b)=decide (a=b)from Bool.eq_iff_iff.2 (by cases a;cases b;rename_i x y;show(x==y)=true↔_;simp)]
def O7(s:Sl U8):U':=nG (s.l.map U8.v)
theorem Jp:∀l:aZ U8,mE (rows l)=some (l.map U8.v)
 |[]=>rfl|a::l=>by show(mE (rows l)).map (a.v::·)=_;rw[Jp l];rfl
theorem aaB(n u:Nat)(s:Sl U8){m:a_ β}(h:Le m (cg S c Q (nx S c n cf λp=>cW p.st p.d (.v (.str (O7 s))))))
 (B:(fT S c n cf).map (λp=>(p.k,bY S.N p.st.g p.az,bn p.st.m u,p.dr))=some (.b,some [.own u],some (cG s),false):=by kernel_rfl):Le m (cg S c Q cf):=by
 have⟨p,z,a⟩:=eR B;simp only[ζc]at a;have⟨C,D,G,I⟩:=a;refine wJ z ?_ h;rw[C,I];have J:(jP p.st.m 1 (.own u)).bind (λL=>(mE L).map λl=>((SV.v (.str (nG l)),p.st):SV×St))=some (.v (.str (O7 s)),p.st):=by have O:mE (rows s.l)=some (s.l.map U8.v):=Jp _;have w:jP p.st.m 1 (.own u)=some (rows s.l):=(by unfold jP;simp only[G];cases s<;>rfl);rw[w];show((mE (rows s.l)).map λl=>_)=_;rw[O];rfl
 unfold f_ mV;have T:gz S.N p.st.g ⟨p.d,none,p.now,.b,p.az,[],[]⟩=none:=rfl;simp only[wanted,T,D,false_eq_true,if_false,J];rfl
end
noncomputable def NI(rs:aZ RV)(B:S'):Out×St->a_ (bM×T2×dK)
 |(.exit _,_)=>none|(_,st)=>(lg st rs).bind λl=>match l with
  |.own d::r=>if B.contains d then none else(bn st.m d).bind λob=>(dB r).bind λys=>(kN st.m B).map λos=>(ob,ys,os)|_=>none
theorem goR{S:Sys}{c:cm}{rs:aZ RV}{B:S'}{a:RC}{st:St}{ob:bM}{ys:T2}{os:dK}(h:lz S c (NI rs B) a [] st=some (ob,ys,os)):
 ∃o st' d,cR S c a st=some (o,st')/\(∀id,o≠.exit id)/\lg st' rs=some (.own d::ys.map .v)/\B.contains d=false/\bn st'.m d=some ob/\kN st'.m B=some os:=by
 rw[qj]at h;have⟨⟨o,st'⟩,b,w⟩:=ζg.1 h;have D:∀id,o≠.exit id:=by rintro id rfl;simp[NI]at w
 have G:(lg st' rs).bind (λl=>match l with|.own d::r=>if B.contains d then none else(bn st'.m d).bind λob=>(dB r).bind λys=>(kN st'.m B).map λos=>(ob,ys,os)|_=>none)=some (ob,ys,os):=by cases o with|exit id=>exact absurd rfl (D id)|norm=>exact w|ret=>exact w
 have⟨l,I,u⟩:=ζg.1 G;split at u
 .split at u
  .cases u
  rename_i e;have⟨J,L,O⟩:=ζg.1 u;have⟨U,Q,T⟩:=ζg.1 O;have⟨q,z,C⟩:=ζf.1 T;cases C;exact⟨o,st',_,b,D,by rw[I,CK Q],by simpa using e,L,z⟩
 cases u
structure FcR(S:Sys)(c:cm){δ ε:Type}[bC δ][j9 ε](m:Option (Sl δ×ε))where
 n:FuncId
 az:List SV
 os:dK
 M:Sl δ×ε->dK
 k:S.E.keep n=true
 o:S.E.own n=false
 q:(S.prm n).isNone=true
 h:∀r,m=some r->∃e m',c n az os=some (.own e::(j9.e r.2).map .v,m')/\bn m' e=some (cG r.1)/\(os.map (·.1)).contains e=false/\∀m0,lC m' (os.map (·.1)) m0=some (pX m0 (M r))
abbrev FcR.mk'{S:Sys}{T:qN}{δ ε:Type}[bC δ][j9 ε]{m:a_ (Sl δ×ε)}(fn:FuncId)(az:aZ SV)(os:dK)(M:Sl δ×ε->dK)
 (h:Le (m.bind λr=>some (cG r.1,j9.e r.2,M r)) (cg S (dm S T) (NI (tr T fn) (os.map (·.1))) (.rc (tb T fn),[],start az os)))
 (B:(T fn).isSome=true:=by kernel_rfl)(b:S.E.keep fn=true:=by kernel_rfl)(D:S.E.own fn=false:=by kernel_rfl)(G:(S.prm fn).isNone=true:=by kernel_rfl)(J:ble az.length (sq (T fn)).na=true:=by kernel_rfl)
 (hp:∀r,((M r).all λx=>within (os.map (·.1)) x.2)=true:=by intro r;kernel_rfl):FcR S (dm S T) m where
 n:=fn
 az:=az
 os:=os
 M:=M
 k:=b
 o:=D
 q:=G
 h r hr:=by have u:=Bq B;have a:=h (cG r.1,j9.e r.2,M r) (by rw[hr];rfl);change lz S (dm S T) (NI (sq (T fn)).rs (os.map (·.1))) (sq (T fn)).body [] (start az os)=some (cG r.1,j9.e r.2,M r)at a;have⟨o,st',d,g1,g2,g3,g4,g5,g6⟩:=goR a;refine⟨d,st'.m,?_,g5,g4,λw=>back_eq g6 (hp r)⟩;rw[tu u];unfold oh;rw[if_pos (Nat.le_of_ble_eq_true J),g1];cases o with|exit id=>exact absurd rfl (g2 id)|norm=>simp only[g3,map_some]|ret=>simp only[g3,map_some]
section
variable{S:Sys}{c:cm}{β γ:Type}{Q:Out×St->a_ β}{e:γ->a_ β}{cf:Cf}
end
structure Yz(S:Sys)(c:cm){α δ:Type}[bC δ](fn:FuncId)(A:α->List V)(p:α->Option (Sl δ)):Prop where
 k:S.E.keep fn=true
 o:S.E.own fn=false
 q:(S.prm fn).isNone=true
 h:∀z s,p z=some s->∃e m',c fn ((A z).map .v) []=some ([.own e],m')/\bn m' e=some (cG s)
theorem Yz.mk'{S:Sys}{T:qN}{α δ:Type}[bC δ](rf:RF){fn:Y'}{A:α->T2}{p:α->a_ (Sl δ)}(h:∀z,Le ((p z).bind λr=>some (cG r)) (cg S (dm S T) (B6 rf.rs) (.rc rf.body,[],start ((A z).map .v) [])))
 (B:T fn=some rf:=by kernel_rfl)(b:S.E.keep fn=true:=by kernel_rfl)(D:S.E.own fn=false:=by kernel_rfl)(G:(S.prm fn).isNone=true:=by kernel_rfl)(J:∀z,(A z).length<=rf.na:=by intro z;exact Nat.le_of_ble_eq_true (by kernel_rfl)):Yz S (dm S T) fn A p where
 k:=b
 o:=D
 q:=G
 h z s u:=by have a:=h z (cG s) (by rw[u];rfl);change lz S (dm S T) (B6 rf.rs) rf.body [] (start ((A z).map .v) [])=some (cG s)at a;have⟨o,st',d,g1,g2,g3,g4⟩:=Zn a;refine⟨d,st'.m,?_,g4⟩;rw[tu B];unfold oh;rw[if_pos (by simpa using J z),g1];cases o with|exit id=>exact absurd rfl (g2 id)|norm=>simp only[g3,map_some]|ret=>simp only[g3,map_some]
theorem KJ:∀l:T2,SV.th (l.map .v)=[]
 |[]=>rfl|a::l=>by simp only[map_cons,SV.th,SV.C9,KJ l,append_nil]
theorem Og{m:Tb bM}(l:T2):handed m (l.map .v)=some []:=by unfold handed;rw[KJ];rfl
section
variable{S:Sys}{c:cm}{β γ δ α:Type}[bC δ]{Q:Out×St->a_ β}{e:γ->a_ β}{cf:Cf}
end
def TI(s:Nat)(v:SV)(cf:Cf):Cf:=(cf.1,cf.2.1,{cf.2.2 with g:=bQ cf.2.2.g s v})
section
variable{S:Sys}{c:cm}{β γ δ:Type}{Q:Out×St->a_ β}{e:γ->a_ β}{cf:Cf}
theorem jF(n s:Nat){v B:V}(a:v=B){m:a_ β}(h:Le m (cg S c Q (TI s (.v B) (jc S c n cf))))
 (D:(iz S c n cf.1 cf.2.1 cf.2.2).map (λp=>bn p.2.2.g s)=some (some (.v v)):=by kernel_rfl):Le m (cg S c Q cf):=by
 subst a;have⟨p,u,a⟩:=eR D;have b:jc S c n cf=p:=by unfold jc;grind
 rw[b]at h;refine B7 u ?_;have:TI s (.v v) p=p:=by unfold TI;rw[qT a]
 rw[this]at h;exact h
end
def iw{α δ:Type}(b:(α->a_ δ)->α->a_ δ):Nat->α->a_ δ
 |0,_=>none|n+1,z=>b (iw b n) z
theorem hG.fix{S:Sys}{c:cm}{α δ:Type}{fn:Y'}{A:α->T2}{E:δ->T2}{sc:X'}{b:(α->a_ δ)->α->a_ δ}(a:S.E.keep fn=false)(B:sc=true->∀r,(result (E r)).scalar=true)
 (h:∀r,hG S c fn A E r sc->∀z,Le ((b r z).bind λr=>some (E r)) (jW c fn (A z))):∀n,hG S c fn A E (iw b n) sc
 |0=>⟨a,λ_=>Le.none _,B⟩|n+1=>⟨a,h _ (hG.fix a B h n),B⟩
structure yf(S:Sys)(c:cm){α δ:Type}(fn:FuncId)(A:α->List SV)(O:α->dK)(E:δ->List V)(M:α->δ->dK)(p:α->Option δ):Prop where
 k:S.E.keep fn=true
 o:S.E.own fn=false
 q:(S.prm fn).isNone=true
 h:∀z r,p z=some r->∃m',c fn (A z) (O z)=some ((E r).map .v,m')/\∀m0,lC m' ((O z).map (·.1)) m0=some (pX m0 (M z r))
abbrev ou.of{S:Sys}{c:cm}{α δ:Type}{fn:FuncId}{A:α->aZ SV}{O:α->dK}{E:δ->aZ V}{M:α->δ->dK}{p:α->a_ δ}(z:α)(F:yf S c fn A O E M p):ou S c (p z):=⟨fn,A z,O z,E,M z,F.k,F.o,F.q,F.h z⟩
theorem yf.fix{S:Sys}{c:cm}{α δ:Type}{fn:Y'}{A:α->So}{O:α->dK}{E:δ->T2}{M:α->δ->dK}{b:(α->a_ δ)->α->a_ δ}(k:S.E.keep fn=true)(o:S.E.own fn=false)(q:(S.prm fn).isNone=true)
 (h:∀r,yf S c fn A O E M r->∀z B,b r z=some B->∃m',c fn (A z) (O z)=some ((E B).map .v,m')/\∀D,lC m' ((O z).map (·.1)) D=some (pX D (M z B))):∀n,yf S c fn A O E M (iw b n)
 |0=>⟨k,o,q,λ_ _ h=>by cases h⟩|n+1=>⟨k,o,q,h _ (yf.fix k o q h n)⟩
structure yC(S:Sys)(c:cm){α σ:Type}[bC α](cl:SV)(g:FuncId)(e:List SV)(os:σ->dK)(p:α->σ->Option (Bool×σ)):Prop where
 cs:∀vs,lH (cl::vs)=some (g,vs++e)
 hd:∀(s:σ)(a:V),handed (os s) [.v a,cl]=some (os s)
 tk:∀s s',kN (os s') ((os s).map (·.1))=some (os s')
 wi:∀s s',((os s').all λx=>within ((os s).map (·.1)) x.2)=true
 put:∀s s',pX (os s) (os s')=os s'
 h:∀x s r,p x s=some r->∀(dst:Option Nat)(old:List SV->Bool)(st:St),st.m=os s->fu S c dst false true old g (.v (enc x)::e) st=some (.v (.bool r.1),{st with m:=os r.2})
section
variable{S:Sys}{c:cm}{α σ:Type}[bC α]{g:Y'}
theorem yC.Zm{e:T2}{p:α->a_ X'}(F:lW S c g [] e (λz:α=>[enc z]) (λr:X'=>[.bool r]) p true):yC S c (.v (.clo g [] e)) g (e.map .v) (λ_:Unit=>[]) (λx u=>(p x).map λb=>(b,u))where
 cs vs:=rfl
 hd s a:=Og [a,.clo g [] e]
 tk _ _:=rfl
 wi _ _:=rfl
 put _ _:=rfl
 h x s r hr dst C st w:=by obtain⟨b,D,rfl⟩:=ζf.1 hr;have B:jW c g (enc x::e)=some [.bool b]:=F.f.h x [.bool b] (by rw[D];rfl);have e1:{st with m:=([]:dK)}=st:=(by cases st;simp only at w;subst w;rfl);rw[e1];unfold jW at B;have⟨⟨rs,m'⟩,d,G⟩:=ζg.1 B;have f:=F.f.k;unfold fu;have I:dh st.m 8 (.v (enc x)::e.map .v)=some (enc x::e):=vT 8 (enc x::e);simp only[f,I,d,G,false_eq_true,if_false,Bool.true_or,if_true,result,V.scalar]
theorem yC.ofK{e:So}{os:σ->dK}{p:α->σ->a_ (X'×σ)}[Inhabited α][Inhabited σ](F:∀x s,ou S c (p x s))(G:∀x s,(F x s).n=g:=by intro _ _;kernel_rfl)(J:∀x s,(F x s).az=.v (enc x)::e:=by intro _ _;kernel_rfl)(D:∀x s,(F x s).os=os s:=by intro _ _;kernel_rfl)
 (U:∀x s,(F x s).E=λr=>[.bool r.1]:=by intro _ _;kernel_rfl)(d:∀x s,(F x s).M=λr=>os r.2:=by intro _ _;kernel_rfl)
 (hd:∀s:σ,kN (os s) (reach (os s) 32 (SV.th e) [])=some (os s):=by intro _;kernel_rfl)
 (tk:∀s B,kN (os B) ((os s).map (·.1))=some (os B):=by intro _ _;kernel_rfl)(wi:∀s B,((os B).all λx=>within ((os s).map (·.1)) x.2)=true:=by intro _ _;kernel_rfl)(put:∀s B,pX (os s) (os B)=os B:=by intro _ _;kernel_rfl):yC S c (.clo g [] e) g e os p where
 cs vs:=rfl
 hd s a:=by have:SV.th [.v a,.clo g [] e]=SV.th e:=(by simp[SV.th,SV.C9]);unfold handed;rw[this];exact hd s
 tk:=tk
 wi:=wi
 put:=put
 h x s r hr dst I st u:=by have⟨m',k1,k2⟩:=(F x s).h r hr;have b:=(F x s).k;have w:=(F x s).o;have z:S.prm (F x s).n=none:=(by have:=(F x s).q;cases L:S.prm (F x s).n with|none=>rfl|some _=>rw[L]at this;cases this);rw[G]at b w z k1;rw[J,D,U]at k1;rw[D,d]at k2;have C:handed st.m (.v (enc x)::e)=some (os s):=(by rw[u];exact hd s);have k2:=k2 (os s);rw[put]at k2;rw[<-u]at k2;unfold fu;rw[u]at C k2⊢;simp only[b,w,z,C,k1,k2,mA,map_cons,map_nil,dB,map_some,if_true,Bool.false_and,false_eq_true,if_false,result]
end
def Eg{α σ:Type}(s0:Sl α)(p:α->σ->a_ (X'×σ))(q:Int×σ):a_ (Fw (Int×σ) σ (Int×σ)):=bl (decide (q.1<len s0)) ((idx s0 q.1).bind λx=>(p x q.2).bind λy=>bl y.1 (some (.r (q.1,y.2))) (some (.n (wrap .i64 (q.1+1),y.2)))) (some (.x q.2))
noncomputable def S3{α σ:Type}(s0:Sl α)(p:α->σ->a_ (X'×σ))(x:σ):a_ (Int×σ):=(bS (Eg s0 p) (0,x)).bind (Fw.elim (λe=>some (-1,e)) λe=>some e)
noncomputable def AS{α σ:Type}(s0:Sl α)(p:α->σ->a_ (X'×σ))(x:σ):a_ (X'×σ):=(S3 s0 p x).bind λy=>some (decide (y.1>=0),y.2)
section
variable{S:Sys}{c:cm}{α σ β γ:Type}[bC α]{g:Y'}{Q:Out×St->a_ β}{e:γ->a_ β}{cf:Cf}
theorem PG(n:Nat){a:SV}{ex:So}{os:σ->dK}{p:α->σ->a_ (X'×σ)}(F:yC S c a g ex os p)(x:α)(s:σ){f:X'×σ->a_ γ}(h:∀r,p x s=some r->Le ((f r).bind e) (cg S c Q (nx S c n cf λq=>cW {q.st with m:=os r.2} q.d (.v (.bool r.1)))))
 (B:(fT S c n cf).map (λq=>(q.k,bY S.N q.st.g q.az,q.dr,q.st.m))=some (.c,some [a,.v (enc x)],false,os s):=by kernel_rfl):Le (((p x s).bind f).bind e) (cg S c Q cf):=by
 have⟨q,w,b⟩:=eR B;simp only[ζc]at b;have⟨d,z,C,D⟩:=b;refine qi w ?_ h;rw[d,C,vK _ _ _ _ _ _ _ g ([.v (enc x)]++ex) z (F.cs [.v (enc x)])];intro y u;have⟨r,i,u⟩:=ζg.1 u;cases u;have:=F.h x s r i q.d (fV q.st.m q.fr) q.st D;rw[show(!false||q.now)=true from rfl,List.singleton_append,this];rfl
theorem I7{a:SV}{ex:So}{os:σ->dK}{p:α->σ->a_ (X'×σ)}(F:yC S c a g ex os p){rs:aZ RV}{st:St}{s B:σ}{ys:T2}(b:lg st rs=some (ys.map .v))(D:st.m=os B):FY rs ((os s).map (·.1)) (.ret,st)=some (ys,os B):=by show((lg st rs).bind λl=>(dB l).bind λys=>(kN st.m ((os s).map (·.1))).map λos=>(ys,os))=_;rw[b,D,F.tk s B];simp only[ζb,mA,map_some]
theorem IT(n:Nat){b:SV}{ex:So}{os:σ->dK}{p:α->σ->a_ (X'×σ)}(F:yC S c b g ex os p){rs:aZ RV}{s B:σ}{r:γ}{e:γ->a_ (T2×dK)}(ys:T2)(D:e r=some (ys,os B))
 (G:(iz S c n cf.1 cf.2.1 cf.2.2).map (λq=>(q.1,lg q.2.2 rs,q.2.2.m))=some (.rt,some (ys.map .v),os B):=by kernel_rfl):Le ((some r).bind e) (cg S c (FY rs ((os s).map (·.1))) cf):=by
 have⟨⟨fo,fs,st'⟩,u,a⟩:=eR G;simp only[ζc]at a;obtain⟨rfl,w,z⟩:=a;refine B7 u (Le.of_eq ?_);show rn S c _ Fo.rt fs st'=e r;rw[D];exact I7 F w z
theorem MN(n:Nat){δ:Type}{m:a_ δ}(F:ou S c m)(D:handed F.os F.az=some F.os)(hp:∀x,pX F.os (F.M x)=F.M x){f:δ->a_ γ}(h:∀x,m=some x->Le ((f x).bind e) (cg S c Q (nx S c n cf λp=>cW {p.st with m:=F.M x} p.d (.v (result (F.E x))))))
 (G:(fT S c n cf).map (λp=>(p.k,(bY S.N p.st.g p.az).bind lH,p.dr,p.st.m))=some (.c,some (F.n,F.az),false,F.os):=by kernel_rfl):Le ((m.bind f).bind e) (cg S c Q cf):=by
 have⟨p,u,a⟩:=eR G;simp only[ζc]at a;have⟨C,I,J,B⟩:=a;have⟨w,g3,g4⟩:=ζg.1 I;refine qi u ?_ h;rw[C,J,vK _ _ _ _ _ _ w F.n F.az g3 g4];intro y z;have⟨r,b,z⟩:=ζg.1 z;cases z;have⟨m',k1,k2⟩:=F.h r b;have u:S.prm F.n=none:=by have:=F.q;cases L:S.prm F.n with|none=>rfl|some _=>rw[L]at this;cases this
 have k2:=k2 p.st.m;rw[B,hp]at k2;have:fu S c p.d false (!false||p.now) (fV p.st.m p.fr) F.n F.az p.st=some (.v (result (F.E r)),{p.st with m:=F.M r}):=by unfold fu;rw[B];simp only[F.k,F.o,u,D,k1,k2,mA,if_true,Bool.not_false,Bool.true_or,Bool.false_and,false_eq_true,if_false]
 rw[this];rfl
end
section
variable{S:Sys}{c:cm}{β γ δ α:Type}[bC δ]{Q:Out×St->a_ β}{e:γ->a_ β}{cf:Cf}
theorem UL(n u:Nat){fn:Y'}{A:α->T2}{p:α->a_ (Sl δ)}(F:B_ S c fn A p)(z:α){f:Sl δ->a_ γ}
 (h:∀x,(p z).bind Sl.whole=some x->Le ((f x).bind e) (cg S c Q (nx S c n cf λq=>{q.st with g:=bQ q.st.g u (.own u),m:=bQ q.st.m u (cG x)})))
 (U:(fT S c n cf).map (λq=>(q.d,q.k,((bY S.N q.st.g q.az).bind lH).bind λr=>(nL (iW q.st.m 8) r.2).map λvs=>(r.1,vs),(!q.dr||q.now),q.st.new u))=some (some u,.c,some (fn,A z),true,true):=by kernel_rfl):Le ((((p z).bind Sl.whole).bind f).bind e) (cg S c Q cf):=by
 have⟨q,T,b⟩:=eR U;simp only[ζc]at b;have⟨W,X,Y,Z,O⟩:=b;have⟨⟨B,args⟩,D,g3⟩:=ζg.1 Y;have⟨G,g1,g2⟩:=ζg.1 D;have⟨vs,g4,g5⟩:=ζf.1 g3;simp only[ζc]at g5;obtain⟨rfl,rfl⟩:=g5;refine qi T ?_ h;rw[W,X];intro y I;have⟨d,J,I⟩:=ζg.1 I;cases I;have⟨s,i,C⟩:=ζg.1 J;have⟨e0,m',j,k⟩:=F.h z s i;rw[vK q.dr _ _ _ _ _ G B args g1 g2];have L:dh q.st.m 8 args=some (A z):=by rw[(xA q.st.m 8).2];exact g4
 have w:fu S c (some u) q.dr (!q.dr||q.now) (fV q.st.m q.fr) B args q.st=some (.own u,{q.st with m:=bQ q.st.m u (cG d)}):=by unfold fu;simp only[F.k,F.o,if_true,Z,L,j,dB,k,cG,O];cases s with|nil=>cases C;rfl|emp=>cases C;rfl|row l=>cases C;have:mI (rows l)=true:=(by unfold mI;rw[all_eq_true];intro x o;obtain⟨a,_,rfl⟩:=mem_map.1 o;exact F.sc a);simp only[Sl.k,Sl.l,dB,V.c8,this,Bool.and_self,O,if_true];rfl|part l=>cases C
 rw[w];rfl
theorem Yy{α:Type}[bC α](n:Nat)(l:aZ α)(q:wz)(svs:So){m:a_ β}(h:Le m (cg S c Q (nx S c n cf λp=>cW p.st p.d (cv (Sl.row l:Sl α)))))
 (B:(fT S c n cf).map (λp=>(p.k,bY S.N p.st.g p.az))=some (.p q,some svs):=by kernel_rfl)(D:isSlice q=false:=by rfl)(hp:∀m,jC S.N m q svs=some (cv (Sl.row l:Sl α)):=by intro m;kernel_rfl):Le m (cg S c Q cf):=by
 have⟨p,u,a⟩:=eR B;simp only[ζc]at a;refine wJ u ?_ h;rw[a.1];exact BV a.2 D (hp _)
end
def Qw:Out×St->a_ T'
 |(.exit _,_)=>none|(_,st)=>some st.want
noncomputable def yl(B:T')(more:X')(xs:T2):a_ (X'×T'):=match B with
 |w::r=>open Classical in if w=xs then some (more|| !r.isEmpty,r)else none|[]=>none
section
variable{S:Sys}{c:cm}{β γ:Type}{Q:Out×St->a_ β}{e:γ->a_ β}{cf:Cf}
theorem Byl(n:Nat){B:T'}{more:X'}(xs:T2){f:X'×T'->a_ γ}
 (h:∀r,yl B more xs=some r->Le ((f r).bind e) (cg S c Q (nx S c n cf λq=>cW {q.st with want:=r.2} q.d (.v (.bool r.1)))))
 (D:(fT S c n cf).map (λq=>(q.k,bY S.N q.st.g q.az,q.st.want,q.st.more,q.dr))=some (.c,some (.yl ((fT S c n cf).elim 0 λq=>q.st.yid)::xs.map .v),B,more,false):=by kernel_rfl):Le (((yl B more xs).bind f).bind e) (cg S c Q cf):=by
 have⟨q,C,b⟩:=eR D;simp only[ζc]at b;have⟨d,u,G,I,J⟩:=b;rw[C]at u;refine qi C ?_ h;intro y z;have⟨r,a,z⟩:=ζg.1 z;cases z;unfold yl at a;split at a
 .rename_i w O;split at a
  next L=>cases a;rw[d,J];unfold f_;have u:bY S.N q.st.g q.az=some (.yl q.st.yid::xs.map .v):=u;simp only[wanted,gz,u,mA,G,L,I,if_true,and_self,false_eq_true,if_false]
  cases a
 cases a
theorem Tl{S G:Sys}{c:cm}(Y:G.E=S.E)(e:∀f q,S.prm f=some q->nr S.E f q)(i:jQ S c)(j:∀f a b xs,S.items f a b=some xs->eS S f a b xs){f:Y'}{fi:FI}{nm:Y'->a_ Nat}{rf:RF}(U:S.E.ft f=some fi)(l:∀g s,nm g=some s->S.N s=g)(m:yx S.E nm fi rf){a b:T2}{xs:T'}(D:a.length+1+b.length<=rf.na)(W:rf.rs=[])
 (h:∀B more,vX B xs more->∀yid,cg S c Qw (.rc rf.body,[],⟨wH 0 (a.map .v++.yl yid::b.map .v),[],[],B,more,yid⟩)=some []):eS G f a b xs:=by
 have k:eS S f a b xs:=MB e i j U l m D W (λB more w yid=>by
  have d:=h B more w yid;change lz S c Qw rf.body [] _=some []at d;rw[qj]at d;have⟨⟨o,st'⟩,z,u⟩:=ζg.1 d;refine⟨o,st',z,?_,?_,rfl⟩
  .rintro id rfl;simp[Qw]at u
  cases o<;>simp[Qw]at u<;>exact u)
 have⟨Q,T,n,yH,prm⟩:=G;simp only at Y;subst Y;intro B more w yid J y Z C I H d z u L O;exact k B more w yid J ⟨y.xY,y.yield⟩ Z C I H d z u L O
end
section
variable{S:Sys}{c:cm}{β γ α:Type}[bC α]{Q:Out×St->a_ β}{e:γ->a_ β}{cf:Cf}
theorem I4(n u:Nat){s:Sl α}{i:Nat}{a:α}{f:Sl α->a_ γ}(h:∀B,s.put i a=some B->Le ((f B).bind e) (cg S c Q (nx S c n cf λp=>cW {p.st with m:=bQ p.st.m u (cG B)} p.d (.v .undef))))
 (D:(fT S c n cf).map (λp=>(p.k,bY S.N p.st.g p.az,bn p.st.m u,(!p.dr||p.now)))=some (.l (.store (bC.size α)),some [.el u i 0,cv a],some (cG s),true):=by kernel_rfl):Le (((s.put i a).bind f).bind e) (cg S c Q cf):=by
 have⟨p,w,b⟩:=eR D;simp only[ζc]at b;refine qi w ?_ h;rw[b.1];exact Le.of_eq (MT b.2.1 b.2.2.2 b.2.2.1 (l_ a) rfl)
end
theorem UC{n:Int}(a:0<=n)(h:n<=4611686018427387904):wrap .i64 n=n:=by simp[wrap,IntKind.bits,signed];omega
namespace catX
instance{n:Nat}:OfNat Arg n:=⟨.s n⟩
def ln:K:=.p .lenSl
def ix:K:=.p (.idxS 1)
def bI(o:BinOp):K:=.p (.bin (some .int) none o)
def ld:K:=.r (.load 1 false)
def g1:SW:=[o1 4 (.k (.bO)) []]
def g2:SW:=[o1 5 1 [],o2 6 (bI .lss) [5,.k (.int .i64 0)] []]
def g3:SW:=[o2 7 (.p (.bad)) [] [],⟨none,none,false,.p .bad,[],[],[]⟩]
def g4:SW:=[o1 8 1 [],o1 9 0 [],o2 10 (.p (.capSl)) [9] [],o1 11 0 [],o2 12 ln [11] [],o2 13 (bI .sub) [10,12] [],o2 14 (bI .sub) [8,13] [],o1 1 14 []]
def g5:SW:=[o1 15 1 [],o2 16 (bI .gtr) [15,.k (.int .i64 0)] []]
def g6:SW:=[o1 17 0 [],o1 18 0 [],o2 19 (.p (.capSl)) [18] [],o2 20 (.p (.slice 1 false true)) [17,19] [],o1 21 1 [],o2 22 (.l (.appMk 1 24 [.bO])) [20,21] [],o1 23 0 [],o2 24 ln [23] [],o2 25 (.p (.slice 1 false true)) [22,24] [],o1 0 25 []]
def g7:SW:=[o1 26 0 [],o1 4 26 []]
def grow:RC:=.seq (.ops g1) (.seq (.seq (.ops g2) (.cond (.s 6) (.ops g3) (.skip))) (.seq (.seq (.ops g4) (.seq (.ops g5) (.cond (.s 16) (.ops g6) (.skip)))) (.seq (.ops g7) (.ret))))
section
variable{E:Env}{N:Nat->Y'}{t:Nat}
theorem VD(Y:t<=2147483648):∃F',Ex E N grow [.bO,.int .i64 t] [] .ret F' (if t=0 then[]else[.row 1 (replicate t [.bO])])/\get F' 4=if t=0 then .bO else .hsl 0 1 0 0:=by
 have e1:∀call,cK E N call none g1 [.bO,.int .i64 t] []=some (set [.bO,.int .i64 t] 4 .bO,[]):=λcall=>vp (v:=.bO) rfl (by simp[bK,bz,bq]) eA;have k0:get (set [V.bO,.int .i64 t] 4 .bO) 0=.bO:=rfl;have k1:get (set [V.bO,.int .i64 t] 4 .bO) 1=.int .i64 t:=rfl;generalize set [V.bO,.int .i64 t] 4 .bO=I at *;have S:wrap .i64 ((t:Int)-0)=t:=by rw[Int.sub_zero];exact UC Zaa Zaa
 have D:wrap .i64 ((0:Int)-0)=0:=by decide
 have e2:∃F1,(∀call,cK E N call none g2 I []=some (F1,[]))/\get F1 6=.bool false/\get F1 0=.bO/\get F1 1=.int .i64 t:=by refine⟨_,λcall=>vp (v:=.int .i64 t) rfl ?_<|vp (v:=.bool false) rfl ?_ eA,?_,?_,?_⟩;simp[bK,bz,bq,k1];simp[bK,bz,bq,bu,bI,iA,o8];all_goals simp[bu,k0,k1]
 have⟨F1,a1,a2,a3,a4⟩:=e2;have e4:∃w,(∀call,cK E N call none g4 F1 []=some (w,[]))/\get w 0=.bO/\get w 1=.int .i64 t:=by refine⟨_,λcall=>vp (v:=.int .i64 t) rfl ?_<|vp (v:=.bO) rfl ?_<|vp (v:=.int .i64 0) rfl ?_<|vp (v:=.bO) rfl ?_<|vp (v:=.int .i64 0) rfl ?_<|vp (v:=.int .i64 0) rfl ?_<|vp (v:=.int .i64 t) rfl ?_<|vp (v:=.int .i64 t) rfl ?_ eA,?_,?_⟩;simp[bK,bz,bq,a4];simp[bK,bz,bq,bu,a3];simp[bK,bz,bq,bu,K9];simp[bK,bz,bq,bu,a3];simp[bK,bz,bq,bu,ln,pI];simp only[bK,map_cons,map_nil,bz,bu,bA,reduceEqDiff,if_true,if_false,bq,bI,iA,D];rfl;simp only[bK,map_cons,map_nil,bz,bu,bA,reduceEqDiff,if_true,if_false,bq,bI,iA,S];rfl;simp[bK,bz,bq,bu];all_goals simp[bu,a3]
 have⟨w,J,T,L⟩:=e4;have e5:∃u,(∀call,cK E N call none g5 w []=some (u,[]))/\get u 16=.bool (decide (t>0))/\get u 0=.bO/\get u 1=.int .i64 t:=by refine⟨_,λcall=>vp (v:=.int .i64 t) rfl ?_<|vp (v:=.bool (decide (t>0))) rfl ?_ eA,?_,?_,?_⟩;simp[bK,bz,bq,L];simp[bK,bz,bq,bu,bI,iA,o8];all_goals simp[bu,T,L]
 have⟨u,O,Q,B,U⟩:=e5;have d:Ex E N (.seq (.ops g2) (.cond (.s 6) (.ops g3) (.skip))) I [] .norm F1 []:=Ex.seq (Ex.dw a1) (Ex.qI a2 Ex.skip);have e7:∀(F:WP)(H:bp),∃F',(∀call,cK E N call none g7 F H=some (F',H))/\get F' 4=get F 0:=λF H=>⟨_,λcall=>vp (v:=get F 0) rfl (by simp[bK,bz,bq])<|vp (v:=get F 0) rfl (by simp[bK,bz,bq,bu]) eA,by simp[bu]⟩
 by_cases a:t=0;subst a;have⟨G,b,c⟩:=e7 u [];refine⟨G,?_,by rw[c,B];rfl⟩;exact Ex.seq (Ex.dw e1) (Ex.seq d (Ex.seq (Ex.seq (Ex.dw J) (Ex.seq (Ex.dw O) (Ex.qI Q Ex.skip))) (Ex.seq (Ex.dw b) Ex.ret)));have z:0<t:=Zaa;have e6:∃C,(∀call,cK E N call none g6 u []=some (C,[.row 1 (replicate t [.bO])]))/\get C 0=.hsl 0 1 0 0:=by refine⟨_,λcall=>vp (v:=.bO) rfl ?_<|vp (v:=.bO) rfl ?_<|vp (v:=.int .i64 0) rfl ?_<|vp (v:=.bO) rfl ?_<|vp (v:=.int .i64 t) rfl ?_<|kC (v:=.hsl 0 1 0 t) (H1:=[.row 1 (replicate t [.bO])]) rfl ?_<|vp (v:=.bO) rfl ?_<|vp (v:=.int .i64 0) rfl ?_<|vp (v:=.hsl 0 1 0 0) rfl ?_<|vp (v:=.hsl 0 1 0 0) rfl ?_ eA,?_⟩;simp[bK,bz,bq,B];simp[bK,bz,bq,bu,B];simp[bK,bz,bq,bu,K9];simp[bK,bz,bq,bu,mL,iQ,eu];simp[bK,bz,bq,bu,U];simp only[bK,map_cons,map_nil,bz,bu,bA,reduceEqDiff,if_true,if_false,fP,mkApp];rw[if_neg Zaa,if_pos ⟨Zaa,Zaa,Zaa,Zaa⟩];simp;simp[bK,bz,bq,bu,B];simp[bK,bz,bq,bu,ln,pI];simp[bK,bz,bq,bu,mL,iQ,eu];simp[bK,bz,bq,bu];simp[bu]
 have⟨C,W,X⟩:=e6;have⟨G,b,c⟩:=e7 C [.row 1 (replicate t [.bO])];rw[if_neg a,if_neg a];refine⟨G,?_,by rw[c,X]⟩;exact Ex.seq (Ex.dw e1) (Ex.seq d (Ex.seq (Ex.seq (Ex.dw J) (Ex.seq (Ex.dw O) (Ex.om (by show get u 16=_;rw[Q,decide_eq_true z]) (Ex.dw W)))) (Ex.seq (Ex.dw b) Ex.ret)))
end
end catX
def D_{α:Type}(s:Sl (Sl α)):Sl α:=if(s.l.flatMap Sl.l).length=0 then .nil else .row (s.l.flatMap Sl.l)
namespace catX
def r1:SW:=[o1 2 (.k (.bO)) []]
def r2:SW:=[o1 3 (.k (.int .i64 0)) []]
def r3:SW:=[o1 9 0 [],o2 10 ln [9] [],o1 11 (.k (.int .i64 0)) []]
def r4:SW:=[o2 12 (bI .lss) [11,10] []]
def r5:SW:=[o2 13 ix [9,11] [],o2 14 ld [13] [],o1 5 14 []]
def r6:SW:=[o1 15 3 [],o1 16 5 [],o2 17 ln [16] [],o2 18 (bI .add) [15,17] [],o1 3 18 []]
def r7:SW:=[o1 19 3 [],o2 20 (bI .lss) [19,.k (.int .i64 0)] []]
def r8:SW:=[o2 21 (.p (.bad)) [] [],⟨none,none,false,.p .bad,[],[],[]⟩]
def r9:SW:=[o2 22 (bI .add) [11,.k (.int .i64 1)] [],o1 11 22 []]
def L9:RC:=.seq (.ops r4) (.seq (.cond (.s 12) (.skip) (.exit 0)) (.seq (.block 1 (.seq (.ops r5) (.seq (.ops r6) (.seq (.ops r7) (.cond (.s 20) (.ops r8) (.skip)))))) (.ops r9)))
def Fp(gid:Nat):SW:=[o1 23 3 [],o2 24 .c [.f gid,.k (.bO),23] [],o1 6 24 []]
def HG:SW:=[o1 25 0 [],o2 26 ln [25] [],o1 27 (.k (.int .i64 0)) []]
def HU:SW:=[o2 28 (bI .lss) [27,26] []]
def Ia:SW:=[o2 29 ix [25,27] [],o2 30 ld [29] [],o1 8 30 []]
def Fv:SW:=[o1 31 6 [],o1 32 8 [],o2 33 (.l (.append 1)) [31,32] [],o1 6 33 []]
def GO:SW:=[o2 34 (bI .add) [27,.k (.int .i64 1)] [],o1 27 34 []]
def L15:RC:=.seq (.ops HU) (.seq (.cond (.s 28) (.skip) (.exit 2)) (.seq (.block 3 (.seq (.ops Ia) (.ops Fv))) (.ops GO)))
def r16:SW:=[o1 35 6 [],o1 2 35 []]
def cat(gid:Nat):RC:=.seq (.ops r1) (.seq (.ops r2) (.seq (.seq (.ops r3) (.block 0 (.loop L9))) (.seq (.ops (Fp gid)) (.seq (.seq (.ops HG) (.block 2 (.loop L15))) (.seq (.ops r16) (.ret))))))
section
variable{E:Env}{N:Nat->Y'}{F:WP}{H:bp}{α:Type}[bC α]{s:Sl (Sl α)}{i:Nat}
theorem el{u:Sl α}(h:s.l[i]?=some u):mN 1 (b7 s) (i:Int)=some (.fptr [b7 u]):=by have:=Ge (N:=λn=>n) s .i64 (i:Int) 1 rfl;simp only[bq]at this;rw[this,show idx s (i:Int)=some u from by unfold idx;grind];rfl
theorem lnS(s:Sl α):pI (b7 s)=some (.int .i64 s.l.length):=by have:=AI (N:=λn=>n) s;simpa only[bq]using this
theorem y3:(get F 0=b7 s->∃F',(∀call,cK E N call none r3 F H=some (F',H))/\get F' 9=b7 s/\get F' 10=.int .i64 s.l.length/\get F' 11=.int .i64 0/\∀j,j<9->get F' j=get F j)/\
 (get F 0=b7 s->∃F',(∀call,cK E N call none HG F H=some (F',H))/\get F' 25=b7 s/\get F' 26=.int .i64 s.l.length/\get F' 27=.int .i64 0/\∀j,j<9->get F' j=get F j):=by
 have h:=lnS s;refine⟨λa=>⟨_,λcall=>vp (v:=b7 s) rfl ?_<|vp (v:=.int .i64 s.l.length) rfl ?_<|vp (v:=.int .i64 0) rfl ?_ eA,?_,?_,?_,?_⟩,λa=>⟨_,λcall=>vp (v:=b7 s) rfl ?_<|vp (v:=.int .i64 s.l.length) rfl ?_<|vp (v:=.int .i64 0) rfl ?_ eA,?_,?_,?_,?_⟩⟩<;>
 first
 |(simp[bK,bz,bq,a];done)|(simp only[bK,map_cons,map_nil,bz,bu,bA,reduceEqDiff,if_true,if_false,bq,ln,h];rfl)|grind|(simp[bu];done)|(intro j u;simp only[bu,bA];grind)
theorem y4{n:Nat}:(get F 11=.int .i64 i->get F 10=.int .i64 n->∃F',(∀call,cK E N call none r4 F H=some (F',H))/\get F' 12=.bool (decide (i<n))/\∀j,j<12->get F' j=get F j)/\
 (get F 27=.int .i64 i->get F 26=.int .i64 n->∃F',(∀call,cK E N call none HU F H=some (F',H))/\get F' 28=.bool (decide (i<n))/\∀j,j<28->get F' j=get F j):=by
 refine⟨λf u=>⟨_,λcall=>vp (v:=.bool (decide (i<n))) rfl ?_ eA,?_,?_⟩,λf u=>⟨_,λcall=>vp (v:=.bool (decide (i<n))) rfl ?_ eA,?_,?_⟩⟩<;>
 first
 |(simp[bK,bz,bq,bu,bI,iA,o8,f,u];done)|grind|(intro j w;simp only[bu,bA];grind)
theorem y5{u:Sl α}(h:s.l[i]?=some u):(get F 9=b7 s->get F 11=.int .i64 i->∃F',(∀call,cK E N call none r5 F H=some (F',H))/\get F' 5=b7 u/\∀j,j<12->j≠5->get F' j=get F j)/\
 (get F 25=b7 s->get F 27=.int .i64 i->∃F',(∀call,cK E N call none Ia F H=some (F',H))/\get F' 8=b7 u/\∀j,j<28->j≠8->get F' j=get F j):=by
 have e:=el h;have e2:fA H (.load 1 false) [.fptr [b7 u]]=some (b7 u):=by simp[fA,eO,cut,mk]
 refine⟨λf w=>⟨_,λcall=>vp (v:=.fptr [b7 u]) rfl ?_<|vp (v:=b7 u) rfl ?_<|vp (v:=b7 u) rfl ?_ eA,?_,?_⟩,λf w=>⟨_,λcall=>vp (v:=.fptr [b7 u]) rfl ?_<|vp (v:=b7 u) rfl ?_<|vp (v:=b7 u) rfl ?_ eA,?_,?_⟩⟩<;>
 first
 |(simp only[bK,map_cons,map_nil,bz,bu,bA,reduceEqDiff,if_true,if_false,bq,ix,f,w,e,map_some];done)|(simp only[bK,map_cons,map_nil,bz,bu,bA,reduceEqDiff,if_true,if_false,ld];grind)|grind|grind|grind
theorem y6{u:Sl α}{t:Nat}(a:get F 3=.int .i64 t)(b:get F 5=b7 u)(B:t+u.l.length<=2147483648):∃F',(∀call,cK E N call none r6 F H=some (F',H))/\get F' 3=.int .i64 ((t+u.l.length:Nat):Int)/\∀j,j<12->j≠3->get F' j=get F j:=by
 have h:=lnS u;have w:wrap .i64 ((t:Int)+(u.l.length:Int))=((t+u.l.length:Nat):Int):=by rw[UC Zaa Zaa];simp
 refine⟨_,λcall=>vp (v:=.int .i64 t) rfl ?_<|vp (v:=b7 u) rfl ?_<|vp (v:=.int .i64 u.l.length) rfl ?_<|vp (v:=.int .i64 ((t+u.l.length:Nat):Int)) rfl ?_<|vp (v:=.int .i64 ((t+u.l.length:Nat):Int)) rfl ?_ eA,?_,?_⟩;simp[bK,bz,bq,a];simp[bK,bz,bq,bu,b];simp only[bK,map_cons,map_nil,bz,bu,bA,reduceEqDiff,if_true,if_false,bq,ln,h];rfl;simp only[bK,map_cons,map_nil,bz,bu,bA,reduceEqDiff,if_true,if_false,bq,bI,iA,w];rfl;simp[bK,bz,bq,bu];simp[bu];intro j z C;simp only[bu,bA];grind
theorem y7{t:Nat}(a:get F 3=.int .i64 t):∃F',(∀call,cK E N call none r7 F H=some (F',H))/\get F' 20=.bool false/\∀j,j<12->get F' j=get F j:=by refine⟨_,λcall=>vp (v:=.int .i64 t) rfl ?_<|vp (v:=.bool false) rfl ?_ eA,?_,?_⟩;simp[bK,bz,bq,a];simp[bK,bz,bq,bu,bI,iA,o8];simp[bu];intro j u;simp only[bu,bA];grind
theorem y9(hi:i<=2147483648):(get F 11=.int .i64 i->∃F',(∀call,cK E N call none r9 F H=some (F',H))/\get F' 11=.int .i64 ((i+1:Nat):Int)/\∀j,j<11->get F' j=get F j)/\
 (get F 27=.int .i64 i->∃F',(∀call,cK E N call none GO F H=some (F',H))/\get F' 27=.int .i64 ((i+1:Nat):Int)/\∀j,j<27->get F' j=get F j):=by
 have u:=zA hi;refine⟨λf=>⟨_,λcall=>vp (v:=.int .i64 ((i+1:Nat):Int)) rfl ?_<|vp (v:=.int .i64 ((i+1:Nat):Int)) rfl ?_ eA,?_,?_⟩,λf=>⟨_,λcall=>vp (v:=.int .i64 ((i+1:Nat):Int)) rfl ?_<|vp (v:=.int .i64 ((i+1:Nat):Int)) rfl ?_ eA,?_,?_⟩⟩<;>
 first
 |(simp only[bK,map_cons,map_nil,bz,bu,bA,reduceEqDiff,if_true,if_false,bq,bI,iA,f,u];rfl)|grind|(simp[bu];done)|(intro j w;simp only[bu,bA];grind)
structure Acc(H:bp)(w:V)(acc:List (List V)):Prop where
 el:dQ H 1 w=some acc
 gr:∃H1,iG H w=some H1/\H1.length=H.length
 sh:w=.bO/\acc=[]\/∃id xs,w=.hsl id 1 0 acc.length/\H[id]?=some (.row 1 xs)/\(acc≠[]->xs=acc)
theorem VF(H:bp)(u:Sl α)(a:bC.size α=1):dQ H 1 (b7 u)=some (rows u.l):=by cases u<;>simp[b7,Sl.k,Sl.l,pF,dQ,rows,a]
theorem y14{w:V}{b:T'}{u:Sl α}(f:bC.size α=1)(a:Acc H w b)(f6:get F 6=w)(D:get F 8=b7 u)(J:b.length+u.l.length<=2147483648):
 ∃F' H' w',(∀call,cK E N call none Fv F H=some (F',H'))/\get F' 6=w'/\Acc H' w' (b++rows u.l)/\(u.l=[]->w'=w)/\∀j,j<28->j≠6->get F' j=get F j:=by
 have c:=VF H u f;have C:(rows u.l).length=u.l.length:=by simp[rows]
 have key:∃H' w',fP H (.append 1) [w,b7 u]=some (w',H')/\Acc H' w' (b++rows u.l)/\(u.l=[]->w'=w):=by have⟨H1,g1,g2⟩:=a.gr;cases d:rows u.l with|nil=>exact⟨H,w,by simp only[fP,a.el,c,d],Zac,λ_=>rfl⟩|cons y B=>have G:b.length+(y::B).length<=2147483648:=Zac;refine⟨H1++[.row 1 (b++y::B)],.hsl H.length 1 0 (b.length+(y::B).length),by simp only[fP,a.el,c,d];grind,?_⟩;have z:(H1++[Ob.row 1 (b++y::B)])[H.length]?=some (.row 1 (b++y::B)):=Zac;refine⟨⟨?_,⟨_,by simp only[iG,z];rfl,Zab⟩,.inr ⟨H.length,b++y::B,Zab,z,λ_=>rfl⟩⟩,λe=>Zac⟩;simp only[dQ,z,ζb,Ob.rows,if_true,zero_add,drop_zero];grind
 have⟨H',w',k1,k2,k3⟩:=key;refine⟨_,H',w',λcall=>vp (v:=w) rfl ?_<|vp (v:=b7 u) rfl ?_<|kC (v:=w') (H1:=H') rfl ?_<|vp (v:=w') rfl ?_ eA,?_,k2,k3,?_⟩
 .simp[bK,bz,bq,f6]
 .simp[bK,bz,bq,bu,D]
 .simp only[bK,map_cons,map_nil,bz,bu,bA,reduceEqDiff,if_true,if_false];exact k1
 .simp[bK,bz,bq,bu]
 .simp[bu]
 intro j I L;simp only[bu,bA]
 grind
def upto(s:Sl (Sl α))(i:Nat):aZ α:=(s.l.take i).flatMap Sl.l
theorem HA{u:Sl α}(h:s.l[i]?=some u):upto s (i+1)=upto s i++u.l:=by unfold upto;obtain⟨hi,rfl⟩:=ζe.1 h;rw[List.take_succ_eq_append_getElem hi,List.flatMap_append];simp
theorem Mq(s:Sl (Sl α))(i:Nat):(upto s i).length<=(s.l.flatMap Sl.l).length:=by
 have:s.l.flatMap Sl.l=upto s i++(s.l.drop i).flatMap Sl.l:=by unfold upto;rw[<-List.flatMap_append,List.take_append_drop]
 grind
theorem lp1(k:s.l.length<=2147483648)(l:(s.l.flatMap Sl.l).length<=2147483648):∀(d i:Nat)(F:WP),i+d=s.l.length->get F 9=b7 s->get F 10=.int .i64 s.l.length->get F 11=.int .i64 i->get F 3=.int .i64 (upto s i).length->
 ∃F',mX E N L9 F H (.exit 0) F' H/\get F' 3=.int .i64 (s.l.flatMap Sl.l).length/\get F' 0=get F 0:=by
 intro d
 induction d with
 |zero=>
  intro i F hi I a w c;have⟨F1,a1,a2,a3⟩:=(y4 (E:=E) (N:=N) (H:=H) (n:=s.l.length)).1 w a;refine⟨F1,mX.stop (Ex.seq (Ex.dw a1) (Ex.uR (Ex.qI (by show get F1 12=_;grind) Ex.exit) Zab)) Zab,?_,a3 0 Zaa⟩
  rw[a3 3 Zaa,c]
  have:upto s i=s.l.flatMap Sl.l:=by unfold upto;grind
  simp_all
 |succ d J=>
  intro i F hi I a w c;have⟨F1,a1,a2,a3⟩:=(y4 (E:=E) (N:=N) (H:=H) (n:=s.l.length)).1 w a;have e:s.l[i]?=some s.l[i]:=ζd Zaa
  have⟨L,O,Q,S⟩:=(y5 (E:=E) (N:=N) (F:=F1) (H:=H) e).1 Zac Zac
  have B:=Mq s (i+1);have C:=HA e;rw[C,ζi]at B;have⟨T,U,D,W⟩:=y6 (E:=E) (N:=N) (F:=L) (H:=H) (u:=s.l[i]) (t:=(upto s i).length) Zad Q Zaa
  have⟨G,g,h,f⟩:=y7 (E:=E) (N:=N) (F:=T) (H:=H) D;have z:∀j,j<12->j≠3->j≠5->get G j=get F j:=λj b X Y=>by rw[f j b,W j b X,S j b Y,a3 j b]
  have⟨Z,e1,e2,e3⟩:=(y9 (E:=E) (N:=N) (F:=G) (H:=H) (i:=i) Zaa).1 (by rw[z 11 Zaa Zaa Zaa];exact w)
  have⟨F',g1,g2,g3⟩:=J (i+1) Z Zaa (by rw[e3 9 Zaa,z 9 Zaa Zaa Zaa];omega) (by rw[e3 10 Zaa,z 10 Zaa Zaa Zaa];exact a) e2 (by rw[e3 3 Zaa,f 3 Zaa,D,C,ζi])
  exact⟨F',mX.step (Ex.seq (Ex.dw a1) (Ex.seq (Ex.om (by show get F1 12=_;rw[a2,decide_eq_true Zaa]) Ex.skip) (Ex.seq (Ex.block (Ex.seq (Ex.dw O) (Ex.seq (Ex.dw U) (Ex.seq (Ex.dw g) (Ex.qI h Ex.skip))))) (Ex.dw e1)))) g1,g2,by rw[g3,e3 0 Zaa,z 0 Zaa Zaa Zaa]⟩
theorem lp2(b:bC.size α=1)(g:s.l.length<=2147483648)(h:(s.l.flatMap Sl.l).length<=2147483648):∀(d i:Nat)(F:WP)(H:bp)(w:V),i+d=s.l.length->get F 25=b7 s->get F 26=.int .i64 s.l.length->get F 27=.int .i64 i->get F 6=w->Acc H w (rows (upto s i))->
 ∃F' H' w',mX E N L15 F H (.exit 2) F' H'/\get F' 6=w'/\Acc H' w' (rows (s.l.flatMap Sl.l))/\((s.l.flatMap Sl.l).length=0->w'=w):=by
 intro d
 induction d with
 |zero=>
  intro i F H w hi C B z f6 a;have⟨F1,a1,a2,a3⟩:=(y4 (E:=E) (N:=N) (H:=H) (n:=s.l.length)).2 z B;have:upto s i=s.l.flatMap Sl.l:=by unfold upto;grind
  rw[this]at a;exact⟨F1,H,w,mX.stop (Ex.seq (Ex.dw a1) (Ex.uR (Ex.qI (by show get F1 28=_;grind) Ex.exit) Zab)) Zab,Zac,a,λ_=>rfl⟩
 |succ d O=>
  intro i F H w hi C B z f6 a;have⟨F1,a1,a2,a3⟩:=(y4 (E:=E) (N:=N) (H:=H) (n:=s.l.length)).2 z B;have c:s.l[i]?=some s.l[i]:=ζd Zaa
  have⟨Q,S,T,k⟩:=(y5 (E:=E) (N:=N) (F:=F1) (H:=H) c).2 Zac Zac
  have D:=Mq s (i+1);have I:=HA c;rw[I,ζi]at D;have⟨J,H',w',U,W,L,X,l⟩:=y14 (E:=E) (N:=N) (F:=Q) (H:=H) (u:=s.l[i]) b a Zac T (by simp only[gZ];omega)
  have G:∀j,j<28->j≠6->j≠8->get J j=get F j:=λj b m o=>Zac
  have⟨Y,e1,e2,e3⟩:=(y9 (E:=E) (N:=N) (F:=J) (H:=H') (i:=i) Zaa).2 (by rw[G 27 Zaa Zaa Zaa];exact z)
  have f:rows (upto s i)++rows s.l[i].l=rows (upto s (i+1)):=by rw[I];simp[rows]
  rw[f]at L;have⟨F',H2,Z,g1,g2,g3,g4⟩:=O (i+1) Y H' w' Zaa (by rw[e3 25 Zaa,G 25 Zaa Zaa Zaa];omega) (by rw[e3 26 Zaa,G 26 Zaa Zaa Zaa];omega) e2 (by rw[e3 6 Zaa];exact W) L
  exact⟨F',H2,Z,mX.step (Ex.seq (Ex.dw a1) (Ex.seq (Ex.om (by show get F1 28=_;rw[a2,decide_eq_true Zaa]) Ex.skip) (Ex.seq (Ex.block (Ex.seq (Ex.dw S) (Ex.dw U))) (Ex.dw e1)))) g1,g2,g3,λe=>(g4 e).trans (X (List.eq_nil_of_length_eq_zero Zaa))⟩
end
end catX
theorem WQ{E:Env}{f gf:Y'}{nm:Y'->a_ Nat}{N:Nat->Y'}{gid:Nat}(K:∀f s,nm f=some s->N s=f)(hg:N gid=gf)(aa:E.keep gf=true)(U:E.own gf=true)
 (hf:∃fi,E.ft f=some fi/\bW ⟨E,nm,fi.ntmps⟩ false fi.body=some (catX.cat gid)/\2<=fi.ntmps/\fi.results=[.tmp 2])
 (ab:∃fi,E.ft gf=some fi/\bW ⟨E,nm,fi.ntmps⟩ false fi.body=some catX.grow/\2<=fi.ntmps/\fi.results=[.tmp 4])
 {α:Type}[bC α](M:bC.size α=1)(s:Sl (Sl α))(P:s.l.length<=2147483648)(ht:(s.l.flatMap Sl.l).length<=2147483648):BF E f [b7 s] (b7 (D_ s)):=by
 have⟨fi,p1,p2,p3,p4⟩:=hf;have⟨gi,q1,q2,q3,q4⟩:=ab;generalize R:(s.l.flatMap Sl.l).length=T at *;have⟨Fg,Z,ad⟩:=catX.VD (E:=E) (N:=N) ht;have⟨n0,L⟩:=Ex.run K q1 q2 (args:=[.bO,.int .i64 T]) Zac Z (vs:=[if T=0 then .bO else .hsl 0 1 0 0]) (by rw[q4];simp[iK,ad])
 have O:∀l,borrows l [] [.bO,.int .i64 (T:Int)]=some [.bO,.int .i64 (T:Int)]:=λl=>by unfold borrows;simp only[je,k_ l [] (x:=V.bO) rfl,k_ l [] (x:=V.int .i64 T) rfl]
 have C:∃w D,(∀k,n0<=k->fI E (run E k) gf [.bO,.int .i64 T] []=some (w,D))/\catX.Acc D w []/\(T=0->w=.bO):=by by_cases d:T=0;refine⟨.bO,[],λk g=>?_,⟨rfl,⟨[],rfl,rfl⟩,.inl ⟨rfl,rfl⟩⟩,λ_=>rfl⟩;have:=(n9 E g).go _ _ _ _ L;rw[if_pos d,if_pos d]at this;unfold fI lI;rw[if_pos U];simp[O,this,result,V.scalar];refine⟨.hsl 0 1 0 0,[.row 1 (replicate T [.bO])],λk g=>?_,⟨by simp[dQ,Ob.rows],⟨_,rfl,Zab⟩,.inr ⟨0,_,rfl,rfl,λh=>absurd rfl h⟩⟩,λh=>absurd h d⟩;have:=(n9 E g).go _ _ _ _ L;rw[if_neg d,if_neg d]at this;unfold fI lI;rw[if_pos U];simp only[O,if_true,this,result,V.scalar,false_eq_true,if_false,sH,List.getElem?_cons_zero,true_and];rw[if_pos (by simp[List.all_replicate,V.scalar])];simp
 have⟨w,D,ai,ae,Q⟩:=C;have S:T≠0->rows (s.l.flatMap Sl.l)≠[]:=λh e=>h (by rw[<-R,<-gZ,e];rfl)
 have z:∀c∈rows (s.l.flatMap Sl.l),V.cI c=true:=λc p=>by obtain⟨x,_,rfl⟩:=mem_map.1 p;exact bC.good x
 have g1:∀call,cK E N call none catX.r1 [b7 s] []=some (set [b7 s] 2 .bO,[]):=λcall=>vp (v:=.bO) rfl (by simp[bK,bz,bq]) eA
 have k0:get (set [b7 s] 2 .bO) 0=b7 s:=rfl;generalize set [b7 s] 2 .bO=F0 at *;have g2:∀call,cK E N call none catX.r2 F0 []=some (set F0 3 (.int .i64 0),[]):=λcall=>vp (v:=.int .i64 0) rfl (by simp[bK,bz,bq]) eA
 have⟨F2,a1,a2,a3,a4,a5⟩:=(catX.y3 (E:=E) (N:=N) (F:=set F0 3 (.int .i64 0)) (H:=[]) (s:=s)).1 Zad
 have⟨F3,b1,b2,b3⟩:=catX.lp1 (E:=E) (N:=N) (H:=[]) P Zaa s.l.length 0 F2 Zaa a2 a3 a4 (by rw[a5 3 Zaa,uf];rfl)
 rw[R]at b2;have aj:get F3 0=b7 s:=Zad
 have q:∃W,(∃n,∀k,n<=k->cK E N (run E k) none (catX.Fp gid) F3 []=some (W,D))/\get W 6=w/\get W 0=b7 s:=by refine⟨_,⟨n0,λk g=>vp (v:=.int .i64 T) rfl ?_<|kC (v:=w) (H1:=D) rfl ?_<|vp (v:=w) rfl ?_ eA⟩,?_,?_⟩;simp[bK,bz,bq,b2];simp only[bK,map_cons,map_nil,bz,bu,bA,reduceEqDiff,if_true,if_false,hg,aa,nil_append,append_nil];grind;simp[bK,bz,bq,bu];simp[bu];simp only[bu,bA,reduceEqDiff,if_false];omega
 have⟨W,q,c2,c3⟩:=q;have⟨F5,d1,d2,d3,d4,d5⟩:=(catX.y3 (E:=E) (N:=N) (F:=W) (H:=D) (s:=s)).2 c3;have⟨F6,X,I,e1,e2,e3,e4⟩:=catX.lp2 (E:=E) (N:=N) M P Zaa s.l.length 0 F5 D w Zaa d2 d3 d4 Zad ae
 have r:∃t,(∀call,cK E N call none catX.r16 F6 X=some (t,X))/\get t 2=I:=⟨_,λcall=>vp (v:=I) rfl (by simp[bK,bz,bq,e2])<|vp (v:=I) rfl (by simp[bK,bz,bq,bu]) eA,by simp[bu]⟩
 have⟨t,r,f2⟩:=r;have⟨n,af⟩:=Ex.run K p1 p2 (args:=[b7 s]) (by simp;omega) (Ex.seq (Ex.dw g1) (Ex.seq (Ex.dw g2) (Ex.seq (Ex.seq (Ex.dw a1) (Ex.wu (Ex.loop b1))) (Ex.seq (Ex.ops q) (Ex.seq (Ex.seq (Ex.dw d1) (Ex.wu (Ex.loop e1))) (Ex.seq (Ex.dw r) Ex.ret)))))) (vs:=[I]) (by rw[p4];simp[iK,f2])
 refine⟨n,I,X,λid=>∃m,I=.hsl id 1 0 m,af,?_,?_,?_⟩
 .rcases e3.sh with⟨h,J⟩|⟨id,xs,h,J,A⟩
  .have:T=0:=by grind
   rw[h];unfold D_;rw[if_pos Zaa]
   exact .same _ rfl
  by_cases d:T=0
  .have:=e4 Zaa
   rw[Q d]at this;rw[this]at h;cases h
  have y:=A (S d);subst y;unfold D_;rw[if_neg Zaa,h]
  show FR X _ (.fsl (bC.size α) (rows (s.l.flatMap Sl.l))) _;rw[M];exact .fsl 1 _ id 0 _ ⟨_,rfl⟩ (by unfold bt;rw[J];rfl) Zaa (λi a b Y G=>by rw[zero_add]at G;rw[Y]at G;cases G;rfl) (λi j a b u v Y G o hv=>by
   rw[zero_add]at G;rw[Y]at G;cases G;rw[o]at hv;cases hv;exact .same _ (iI.1 (z a (mem_of_getElem? Y)) j u o))
 .rintro id ⟨m,h⟩;rcases e3.sh with⟨B,_⟩|⟨ah,xs,B,J,_⟩
  .rw[B]at h;cases h
  rw[B]at h;cases h;unfold bt;rw[J];rfl
 refine⟨λid es ys hz hr c p u o=>?_⟩
 have⟨m,h⟩:=hz;rcases e3.sh with⟨B,_⟩|⟨ah,xs,B,J,A⟩
 .rw[B]at h;cases h
 rw[B]at h;cases h
 by_cases d:T=0
 .have:=e4 Zaa
  rw[Q d]at this;rw[this]at B;cases B
 have y:=A (S d);subst y;unfold bt at hr;rw[J]at hr;cases hr;have⟨j,hj⟩:=getElem?_of_mem o;exact⟨u,.same _ (iI.1 (z c p) j u hj)⟩
def o_(op:X')(x y:Int):Int:=cond op x y
@[simp] theorem ZD(x y:Int):o_ true x y=x:=rfl
@[simp] theorem aak(x y:Int):o_ false x y=y:=rfl
def Sl.setAt(s:Zg)(p v:Int):a_ Zg:=if 0<=p/\p.toNat<s.l.length then some (s.re (s.l.set p.toNat v))else none
def Ck(op:X')(es:Nat)(xs:T'):T2->a_ T'
 |[.agg [.int .i64 a,.int .i64 b],.agg [.int .i64 c,.int .i64 d]]=>
  if es=1/\(xs.all λx=>x.length==1)=true/\0<=(o_ op c a)/\(o_ op c a).toNat<xs.length then
   some (xs.set (o_ op c a).toNat [.int .i64 (o_ op (wrap .i64 (d-1)) b)])else none
 |_=>none
def ze(op:X'):FJ:=⟨false,Ck op⟩
namespace setX
instance{n:Nat}:OfNat Arg n:=⟨.s n⟩
def fa(k:Nat):K:=.p (.fieldAddr k)
def ld:K:=.r (.load 1 false)
def r1:SW:=[o2 4 (.a .box) [1] [],o2 5 (.a .box) [2] []]
def r2:SW:=[o1 6 0 [],o2 7 (fa 0) [4] [],o2 8 ld [7] [],o2 9 (fa 1) [4] [],o2 10 ld [9] [],o2 11 (.p (.idxS 1)) [6,8] [],⟨none,none,false,.l (.store 1),[11,10],[],[]⟩]
def r3:SW:=[o1 6 0 [],o2 7 (fa 0) [5] [],o2 8 ld [7] [],o2 9 (fa 1) [5] [],o2 10 ld [9] [],o2 11 (.p (.bin (some .int) none .sub)) [10,.k (.int .i64 1)] [],o2 12 (.p (.idxS 1)) [6,8] [],⟨none,none,false,.l (.store 1),[12,11],[],[]⟩]
def code(op:X'):RC:=.seq (.ops r1) (.ops (if op then r3 else r2))
section
variable{E:Env}{N:Nat->Y'}{H:bp}{id off L:Nat}{rs:T'}
theorem U_{h:Nat}{x y:V}{i:Nat}{v:V}(B:H[h]?=some (.row 2 [[x,y]]))(a:[x,y][i]?=some v):fA H (.load 1 false) [.hptr h 0 i]=some v:=by match i,a with|0,a=>cases a;simp[fA,eO,B,Ob.rows,cut,mk]|1,a=>cases a;simp[fA,eO,B,Ob.rows,cut,mk]|i+2,a=>simp at a
theorem whole(op:X'){a b c d:Int}(G:H[id]?=some (.row 1 rs))(hp:0<=(o_ op c a))(B:(o_ op c a).toNat<L){z:V}(D:rs[off+(o_ op c a).toNat]?=some [z]):
 ∃F' X,Ex E N (code op) [.hsl id 1 off L,.agg [.int .i64 a,.int .i64 b],.agg [.int .i64 c,.int .i64 d]] H .norm F' ((H++X).set id (.row 1 (rs.set (off+(o_ op c a).toNat) [.int .i64 (o_ op (wrap .i64 (d-1)) b)]))):=by
 let X:bp:=[.row 2 [[.int .i64 a,.int .i64 b]],.row 2 [[.int .i64 c,.int .i64 d]]]
 have I:=(ζe.1 G).1;have e1:∃F1,(∀call,cK E N call none r1 [.hsl id 1 off L,.agg [.int .i64 a,.int .i64 b],.agg [.int .i64 c,.int .i64 d]] H=some (F1,H++X))/\get F1 0=.hsl id 1 off L/\get F1 4=.hptr H.length 0 0/\get F1 5=.hptr (H.length+1) 0 0:=by refine⟨_,λcall=>kC (v:=.hptr H.length 0 0) (H1:=H++[.row 2 [[.int .i64 a,.int .i64 b]]]) rfl ?_<|kC (v:=.hptr (H.length+1) 0 0) (H1:=H++X) rfl ?_ eA,?_,?_,?_⟩;simp[bK,bz,get,iU,V.cells,V.one,Mk.val];simp[bK,bz,get,bu,set,iU,V.cells,V.one,Mk.val,X];simp[bu];rfl;simp[bu];simp[bu]
 have⟨F1,p1,p2,p3,p4⟩:=e1;have e:(H++X)[id]?=some (.row 1 rs):=by rw[getElem?_append_left I];exact G
 have J:(H++X)[H.length]?=some (.row 2 [[.int .i64 a,.int .i64 b]]):=by simp[X]
 have O:(H++X)[H.length+1]?=some (.row 2 [[.int .i64 c,.int .i64 d]]):=by rw[getElem?_append_right Zaa];simp[X]
 obtain⟨H1,Q⟩:∃H1,H1=H++X:=⟨_,rfl⟩;rw[<-Q]at e J O;rw[<-Q]at p1
 suffices W:∃F',Ex E N (code op) [.hsl id 1 off L,.agg [.int .i64 a,.int .i64 b],.agg [.int .i64 c,.int .i64 d]] H .norm F' (H1.set id (.row 1 (rs.set (off+(o_ op c a).toNat) [.int .i64 (o_ op (wrap .i64 (d-1)) b)])))by have⟨F',Y⟩:=W;exact⟨F',X,by rw[<-Q];exact Y⟩
 have w:∀p:Int,0<=p->p.toNat<L->mN 1 (.hsl id 1 off L) p=some (.hptr id (off+p.toNat) 0):=λp g Z=>by unfold mN;rw[if_neg Zaa];simp[Z]
 have C:∀(q:Nat)(z v:V),rs[q]?=some [z]->v.one=true->fP H1 (.store 1) [.hptr id q 0,v]=some (.undef,H1.set id (.row 1 (rs.set q [v]))):=λq z v D f=>by simp[fP,e,D,Ip f,f]
 cases op with
 |false=>
  simp only[aak]at hp B D⊢;have S:=U_ (i:=0) J rfl;have T:=U_ (i:=1) J rfl;have e2:∃u,(∀call,cK E N call none r2 F1 H1=some (u,H1.set id (.row 1 (rs.set (off+a.toNat) [.int .i64 b])))):=by refine⟨_,λcall=>vp (v:=.hsl id 1 off L) rfl ?_<|vp (v:=.hptr H.length 0 0) rfl ?_<|vp (v:=.int .i64 a) rfl ?_<|vp (v:=.hptr H.length 0 1) rfl ?_<|vp (v:=.int .i64 b) rfl ?_<|vp (v:=.hptr id (off+a.toNat) 0) rfl ?_<|kC (v:=.undef) rfl ?_ eA⟩;simp[bK,bz,bq,p2];simp[bK,bz,bq,bu,fa,iP,p3];simp only[bK,map_cons,map_nil,bz,bu,bA,reduceEqDiff,if_true,if_false,ld,S,map_some];simp[bK,bz,bq,bu,fa,iP,p3];simp only[bK,map_cons,map_nil,bz,bu,bA,reduceEqDiff,if_true,if_false,ld,T,map_some];simp only[bK,map_cons,map_nil,bz,bu,bA,reduceEqDiff,if_true,if_false,bq,w a hp B,map_some];simp only[bK,map_cons,map_nil,bz,bu,bA,reduceEqDiff,if_true,if_false];exact C _ z _ D rfl
  have⟨u,U⟩:=e2;exact⟨u,Ex.seq (Ex.dw p1) (Ex.dw (l:=_) U)⟩
 |true=>
  simp only[ZD]at hp B D⊢;have S:=U_ (i:=0) O rfl;have T:=U_ (i:=1) O rfl;have e2:∃u,(∀call,cK E N call none r3 F1 H1=some (u,H1.set id (.row 1 (rs.set (off+c.toNat) [.int .i64 (wrap .i64 (d-1))])))):=by refine⟨_,λcall=>vp (v:=.hsl id 1 off L) rfl ?_<|vp (v:=.hptr (H.length+1) 0 0) rfl ?_<|vp (v:=.int .i64 c) rfl ?_<|vp (v:=.hptr (H.length+1) 0 1) rfl ?_<|vp (v:=.int .i64 d) rfl ?_<|vp (v:=.int .i64 (wrap .i64 (d-1))) rfl ?_<|vp (v:=.hptr id (off+c.toNat) 0) rfl ?_<|kC (v:=.undef) rfl ?_ eA⟩;simp[bK,bz,bq,p2];simp[bK,bz,bq,bu,fa,iP,p4];simp only[bK,map_cons,map_nil,bz,bu,bA,reduceEqDiff,if_true,if_false,ld,S,map_some];simp[bK,bz,bq,bu,fa,iP,p4];simp only[bK,map_cons,map_nil,bz,bu,bA,reduceEqDiff,if_true,if_false,ld,T,map_some];simp[bK,bz,bq,bu,iA];simp only[bK,map_cons,map_nil,bz,bu,bA,reduceEqDiff,if_true,if_false,bq,w c hp B,map_some];simp only[bK,map_cons,map_nil,bz,bu,bA,reduceEqDiff,if_true,if_false];exact C _ z _ D rfl
  have⟨u,U⟩:=e2;exact⟨u,Ex.seq (Ex.dw p1) (Ex.dw (l:=_) U)⟩
end
end setX
theorem Ex.runN{E:Env}{nm:Y'->a_ Nat}{N:Nat->Y'}(B:∀f s,nm f=some s->N s=f){f:Y'}{fi:FI}{a:RC}(D:E.ft f=some fi)(b:bW ⟨E,nm,fi.ntmps⟩ false fi.body=some a){args:T2}(G:args.length<=fi.ntmps){H H':bp}{F':WP}
 (h:Ex E N a args H .norm F' H'){vs:T2}(c:iK E F' H' fi.results=some vs):∃n,Go.VE.run E n (.fn f) args H=some (result vs,H'):=by
 have⟨n,h⟩:=h;refine⟨n+1,?_⟩;have:=Kc (X:=⟨E,nm,fi.ntmps⟩) (call:=Go.VE.run E n) B (lf:=n) a fi.body args H _ b (h n (le_refl _));simp only[Go.VE.run,kB,D,if_pos G,this,c,map_some]
theorem V5{E:Env}{f:Y'}{nm:Y'->a_ Nat}{N:Nat->Y'}(op:X')(o:∀f s,nm f=some s->N s=f)(g:E.keep f=true)(p:E.own f=false)
 (q:∃fi,E.ft f=some fi/\bW ⟨E,nm,fi.ntmps⟩ false fi.body=some (setX.code op)/\3<=fi.ntmps/\fi.results=[]):nr E f (ze op):=by
 have⟨fi,r,t,v,y⟩:=q;refine⟨g,p,?_,?_,?_⟩
 .intro es B vs ys h;simp only[ze,Ck]at h;split at h
  .split at h
   .cases h;simp
   cases h
  cases h
 .intro es vs ys h H Z A w hw S;simp only[ze,Ck]at h;split at h
  .split at h
   next i=>simp at i
   cases h
  cases h
 intro es B vs ys h H Z A id off rs hw T ab I J m;simp only[ze,Ck]at h;split at h
 .rename_i a b c d;split at h
  .rename_i i;cases h;obtain⟨rfl,O,hp,C⟩:=i;obtain⟨w1,r1,rfl,F,K⟩:=hw.inv;obtain⟨w2,r2,rfl,M,R⟩:=K.inv;rw[R.dg];have e1:=(F.scalar).1 rfl;have e2:=(M.scalar).1 rfl;subst e1 e2;generalize U:(o_ op c a).toNat=P at *;have W:off+P<rs.length:=by omega
   have Y:∃z,rs[off+P]?=some [z]:=by have G:B[P]?=some B[P]:=ζd C;have:=(I.2 P _ _ G (by rw[getElem?_take,if_pos C,getElem?_drop,ζd W])).1;have D:=all_eq_true.1 O B[P] (getElem_mem C);simp only[beq_iff_eq]at D;rw[D]at this;have⟨z,m⟩:=List.length_eq_one_iff.1 this.symm;exact⟨z,by rw[ζd W,m]⟩
   have⟨z,aa⟩:=Y;have⟨F',X,G⟩:=setX.whole (E:=E) (N:=N) (H:=H) (id:=id) (off:=off) (L:=B.length) op (a:=a) (b:=b) (c:=c) (d:=d) T hp (by rw[U];exact C) (z:=z) (by rw[U];exact aa)
   rw[U]at G;have⟨n,hn⟩:=Ex.runN o r t (args:=[.hsl id 1 off B.length,.agg [.int .i64 a,.int .i64 b],.agg [.int .i64 c,.int .i64 d]]) (by simpa using v) G (vs:=[]) (by rw[y];rfl)
   refine⟨n,rs.set (off+P) [.int .i64 (o_ op (wrap .i64 (d-1)) b)],X,λk g=>?_,Zab,?_,?_⟩
   .simp only[ze,false_eq_true,if_false];exact(n9 E g).go _ _ _ _ hn
   .have e:((rs.set (off+P) [V.int .i64 (o_ op (wrap .i64 (d-1)) b)]).drop off).take (B.set P [V.int .i64 (o_ op (wrap .i64 (d-1)) b)]).length=((rs.drop off).take B.length).set P [.int .i64 (o_ op (wrap .i64 (d-1)) b)]:=by
     apply List.ext_getElem?;intro j;rw[length_set,getElem?_take,getElem?_set,getElem?_take,getElem?_drop,getElem?_drop,getElem?_set]
     by_cases Q:j<B.length
     .rw[if_pos Q,if_pos Q]
      by_cases S:P=j
      .subst S;rw[if_pos rfl,if_pos W,if_pos rfl,if_pos (by simp;omega)]
      rw[if_neg S,if_neg Zaa]
     rw[if_neg Q,if_neg Q,if_neg Zaa]
    rw[e];exact I.set P (.cons (.same _ rfl) .nil)
   intro x G u l;rcases List.mem_or_eq_of_mem_set G with h|rfl
   .exact J x h u l
   simp at l;subst l;exact⟨_,.same _ rfl⟩
  cases h
 cases h
structure PD(S:Sys){α δ:Type}[bC δ](g:FuncId)(e:List V)(A:α->List V)(p:Sl δ->α->Option (Sl δ)):Prop where
 f:∃q,S.prm g=some q/\q.part=false/\S.E.keep g=true/\S.E.own g=false/\∀s z s',p s z=some s'->q.go (bC.size δ) (rows s.l) (A z++e)=some (rows s'.l)/\s'=s.re s'.l
theorem PD.ze{S:Sys}{g:Y'}{op:X'}(hp:S.prm g=some (ze op))(a:S.E.keep g=true)(B:S.E.own g=false):
 PD S g [] (λz:bf×bf=>[enc z.1,enc z.2]) (λs z=>s.setAt (o_ op z.2.proc z.1.proc) (o_ op (wrap .i64 (z.2.index-1)) z.1.index))where
 f:=by
  refine⟨_,hp,rfl,a,B,λs z C h=>?_⟩;unfold Sl.setAt at h;split at h
  .rename_i hc;cases h;have w:∀l:ST,s.l≠[]->(s.re l).l=l:=λl u=>(by cases s<;>first|rfl|exact absurd rfl u);have u:s.l≠[]:=λe=>(by rw[e]at hc;simp at hc);refine⟨?_,by rw[w _ u]⟩;rw[w _ u];show Ck op 1 (rows s.l) [.agg [.int .i64 z.1.proc,.int .i64 z.1.index],.agg [.int .i64 z.2.proc,.int .i64 z.2.index]]=_;unfold Ck;simp only;rw[if_pos ⟨trivial,by simp[rows],hc.1,by rw[gZ];exact hc.2⟩];congr 1;unfold rows;rw[map_set];rfl
  cases h
section
variable{S:Sys}{c:cm}{β γ δ α:Type}[bC δ]{Q:Out×St->a_ β}{e:γ->a_ β}{cf:Cf}
theorem XV(n d:Nat){g:Y'}{ev:T2}{A:α->T2}{p:Sl δ->α->a_ (Sl δ)}(F:PD S g ev A p)(z:α){s:Sl δ}{f:Sl δ->a_ γ}
 (h:∀B,p s z=some B->Le ((f B).bind e) (cg S c Q (nx S c n cf λq=>cW {q.st with m:=bQ q.st.m d (cG B)} q.d (.v .undef))))
 (D:(fT S c n cf).map (λq=>(q.k,bY S.N q.st.g q.az,bn q.st.m d,q.dr))=some (.c,some (.v (.clo g [] ev)::.own d::(A z).map .v),some (cG s),false):=by kernel_rfl):Le (((p s z).bind f).bind e) (cg S c Q cf):=by
 have⟨q,G,a⟩:=eR D;simp only[ζc]at a;have⟨I,J,L,O⟩:=a;have⟨U,b,i,j,T,k⟩:=F.f;refine qi G ?_ h;rw[I,O];intro y w;have⟨B,C,w⟩:=ζg.1 w;cases w;have⟨e1,e2⟩:=k s z B C;rw[vK false _ _ _ _ _ _ g (.own d::(A z).map .v++ev.map .v) J rfl];have u:dB ((A z).map SV.v++ev.map .v)=some (A z++ev):=by rw[<-List.map_append];exact mA _
 have l:fu S c q.d false (!false||q.now) (fV q.st.m q.fr) g (.own d::(A z).map .v++ev.map .v) q.st=some (.v .undef,{q.st with m:=bQ q.st.m d (cG B)}):=by unfold fu;simp only[j,T,Bool.not_false,Bool.true_or,if_true,false_eq_true,if_false,b,B0,cons_append,L,cG,u,e1,i];have e4:(if cQ s.k=true then bM.sl s.k (bC.size δ) (rows B.l)else .sl s.k (bC.size δ) (rows s.l))=.sl B.k (bC.size δ) (rows B.l):=(by rw[e2];cases s<;>rfl);rw[e4]
 rw[l];rfl
end
def snap(w:World):cE:=λb=>match w.heap[b]?with
 |some (.cells c _ _)=>some (.cells c)|some (.map es _)=>some (.map es)|_=>none
theorem TJ{w:World}(a:vH (snap w)):di (snap w) (λ_=>none) [] w where
 dom _ _:=rfl
 imm b x h:=by unfold snap at h;split at h;(next c el fr u=>cases h;exact⟨el,fr,u⟩);(next es d u=>cases h;exact⟨d,u⟩);cases h
 obs id ob h:=by simp at h
 inj id z ob B p C h:=by simp at h
 gl:=a
def fR(I:cE)(xs:T2)(vs:aZ V'):Prop:=xs.length=vs.length/\∀(j:Nat)a b,xs[j]?=some a->vs[j]?=some b->eY I a b
theorem fR.nil{I:cE}:fR I [] []:=⟨rfl,Zab⟩
theorem fR.one{I:cE}{x:V}{v:V'}(h:eY I x v):fR I [x] [v]:=⟨rfl,λj a b c u=>by
 cases j with
 |zero=>simp at c u;subst c u;exact h|succ j=>simp at c⟩
theorem fR.append{I:cE}{xs ys:T2}{B vs:aZ V'}(h:fR I xs B)(k:fR I ys vs):fR I (xs++ys) (B++vs):=by refine⟨by simp[h.1,k.1],λj a b c u=>?_⟩;by_cases w:j<xs.length;rw[getElem?_append_left w]at c;rw[getElem?_append_left (by rw[<-h.1];exact w)]at u;exact h.2 j a b c u;rw[getElem?_append_right Zaa]at c;rw[getElem?_append_right (by rw[<-h.1];omega),<-h.1]at u;exact k.2 _ a b c u
theorem DM{α β:Type}{f:α->a_ β}:∀{l:aZ α}{r:aZ β},l.mapM f=some r->r.length=l.length/\∀(i:Nat)a b,l[i]?=some a->r[i]?=some b->f a=some b
 |[],r,h=>by simp only[List.mapM_nil,pure_def,ζa]at h;subst h;simp|x::l,r,h=>by simp only[List.mapM_cons,Option.bind_eq_bind,pure_def,ζg,ζa]at h;obtain⟨y,D,ys,B,rfl⟩:=h;have⟨c,z⟩:=DM B;refine⟨by simp[c],λi a b u w=>?_⟩;cases i with|zero=>simp at u w;subst u w;exact D|succ i=>exact z i a b (by simpa using u) (by simpa using w)
structure uG{H:Type}(b:DataW H->Nat):Prop where
 lit:∀l,1<=b (.lit l)
 str:∀s,s.length+1<=b (.lit (.string s))
 nil:1<=b .nil
 slice:∀es sp,(es.map b).sum+1<=b (.slice es sp)
 agg:∀ps,(ps.map b).sum+1<=b (.agg ps)
class cA(α:Type)where
 wt:α->Nat
 ok:α->Prop
instance:cA Int where
 wt _:=1
 ok n:=-9223372036854775808<=n/\n<=9223372036854775807
instance:cA X' where
 wt _:=1
 ok _:=True
instance:cA U' where
 wt s:=s.size+1
 ok s:=s.size<=maxLen
instance{α:Type}[cA α]:cA (Sl α)where
 wt s:=(s.l.map cA.wt).sum+1
 ok s:=(∀x∈s.l,cA.ok x)/\s≠.emp
class Reads(P:Program)(t:TypeId)(α:Type)[bC α][cA α]:Prop where
 size:P.cellsOf t=bC.size α
 rd:∀{H:Type}{enc:TypeId×Value->H}{w:World}{base:Nat}{spare:Nat->Bool}{held:Bool}{fuel:Nat}{cs:List Value}{d:DataW H}{ps:List MemPlace},
  trod enc P w base spare held fuel t cs=some (d,ps)->∃a:α,fR (snap w) (cells a) cs/\cA.ok a/\∀b:DataW H->Nat,uG b->cA.wt a<=b d
 shape:∀{w:World}{r:_root_.Go.Reach}{base:Nat}{v:Value},okWide P w r base t v->if bC.agg α then∃cs,v=.agg cs else v.cells=#[v]
section
variable{P:Program}
theorem sD{w:World}{r:_root_.Go.Reach}{base:Nat}{t:W'}{v:V'}{u:_}(a:P.underlying t=some u)(b:∀fs,u≠.struct fs)(B:∀n e,u≠.array n e)(h:okWide P w r base t v):v.cells=#[v]:=by cases v with|agg cs=>exfalso;unfold okWide at h;rw[a]at h;split at h;(next fs z=>cases z;exact b _ rfl);(next n e z=>cases z;exact B _ _ rfl);(unfold Cell.okWide at h;rw[a]at h;split at h<;>first|(simp at *;done)|skip);unfold Cell.ok at h;rw[a]at h;cases u<;>simp at h|_=>rfl
theorem Reads.int{t:W'}(a:P.underlying t=some (.int .i64))(c:P.cellsOf t=1):Reads P t Int where
 size:=c
 rd {H enc w base spare held z cs d ps} h:=by cases z with|zero=>simp[trod]at h|succ z=>(simp only[trod,a]at h;split at h<;>first|(simp at h;done)|skip);(next u=>cases u);rename_i k D n u;simp only[ζa,TypeDesc.int.injEq]at u;split at h;(next e=>obtain⟨rfl,B⟩:=e;subst u;cases h;exact⟨n,fR.one (.int _ n),show _/\_ by simpa[Lit.wf,IntKind.min,IntKind.max,signed,IntKind.bits]using B,λb C=>C.lit _⟩);simp at h;all_goals (rename_i u;cases u)
 shape h:=by simp only[show bC.agg Int=false from rfl];exact sD a Zab Zab h
theorem Reads.bool{t:W'}(a:P.underlying t=some .bool)(c:P.cellsOf t=1):Reads P t X' where
 size:=c
 rd {H enc w base spare held u cs d ps} h:=by cases u with|zero=>simp[trod]at h|succ u=>(simp only[trod,a]at h;split at h<;>first|(simp at h;done)|skip);(next b _=>cases h;exact⟨b,fR.one (.bool b),trivial,λb B=>B.lit _⟩);all_goals (rename_i z;cases z)
 shape h:=by simp only[show bC.agg X'=false from rfl];exact sD a Zab Zab h
theorem Reads.str{t:W'}(a:P.underlying t=some .string)(c:P.cellsOf t=1):Reads P t U' where
 size:=c
 rd {H enc w base spare held u cs d ps} h:=by cases u with|zero=>simp[trod]at h|succ u=>(simp only[trod,a]at h;split at h<;>first|(simp at h;done)|skip);(all_goals (first|(rename_i z;cases z;done)|skip));rename_i s _;split at h;(next B=>cases h;exact⟨s,fR.one (.str s),B,λb C=>C.str _⟩);simp at h
 shape h:=by simp only[show bC.agg U'=false from rfl];exact sD a Zab Zab h
theorem TP{w:World}{a:Addr}{n:Nat}{v:V'}(h:w.cell? (a.add n)=some v)(B:n=0\/True):∃c el fr,w.heap[a.block]?=some (.cells c el fr)/\c[a.off+n]?=some v/\(n=0->a.spot=none):=by
 unfold cell? Addr.add at h;by_cases b:n=0;subst b;simp only[if_true]at h;split at h;rename_i c el fr u;split at h;simp at h;rename_i z;exact⟨c,el,fr,u,h,λ_=>by simpa using z⟩;simp at h;simp only[if_neg b]at h;split at h;next c el fr u=>simp only[Option.isSome_none,false_eq_true,if_false]at h;exact⟨c,el,fr,u,h,λe=>absurd e b⟩
 simp at h
def s9(P:Program)(t:W')(α:Type)[bC α][cA α](B:Nat):Prop:=∀{H:Type}{enc:W'×V'->H}{w:World}{base:Nat}{c:Nat->X'}{e:X'}{cs:aZ V'}{d:DataW H}{ps:aZ MemPlace},trod enc P w base c e B t cs=some (d,ps)->∃a:α,fR (snap w) (cells a) cs/\cA.ok a/\∀b:DataW H->Nat,uG b->cA.wt a<=b d
theorem s9.sl{t e:W'}{α:Type}[bC α][cA α]{J:Nat}(R:P.underlying t=some (.slice e))(V:P.cellsOf e=bC.size α)(U:0<bC.size α)(p:s9 P e α J):s9 P t (Sl α) (J+1):=by
 intro H enc w base A K cs d ps h;simp only[trod,R]at h;split at h<;>first|(simp at h;done)|skip
 all_goals (first|(rename_i I;cases I;done)|skip)
 cases h;exact⟨.nil,fR.one .bO,⟨λx T=>by simp[Sl.l]at T,Zab⟩,λb W=>W.nil⟩;rename_i e' a len E I;cases I;split at h
 .rename_i X;obtain⟨f,af,h⟩:=ζg.1 h;obtain⟨rest,_,h⟩:=ζf.1 h;cases h;obtain⟨Y,Z⟩:=DM af;simp only[length_range]at Y;have T:∀i,i<len->∃x:α,∃u:aZ V',w.cells? base (a.add (i*P.cellsOf e)) (P.cellsOf e)=some u/\fR (snap w) (cells x) u/\cA.ok x/\∀b:DataW H->Nat,uG b->∀y,f[i]?=some y->cA.wt x<=b y.1:=λi hi=>(by have:=Z i i (f[i]' Zaa) (by simp[hi]) (ζd Zaa);obtain⟨u,l,L⟩:=ζg.1 this;obtain⟨x,T,F,W⟩:=p (show _=some ((f[i]' Zaa).1,(f[i]' Zaa).2)from L);exact⟨x,u,l,T,F,λb O y g=>by rw[ζd Zaa]at g;cases g;exact W b O⟩);have aa:∀n,n<=len->∃z:aZ α,z.length=n/\(∀i x,z[i]?=some x->∃u:aZ V',w.cells? base (a.add (i*P.cellsOf e)) (P.cellsOf e)=some u/\fR (snap w) (cells x) u)/\(∀x∈z,cA.ok x)/\∀b:DataW H->Nat,uG b->(z.map cA.wt).sum<=(((f.take n).map (·.1)).map b).sum:=(by intro n;induction n with|zero=>intro _;exact⟨[],rfl,Zab,Zab,Zab⟩|succ n ih=>intro hn;obtain⟨z,l,L,h5,h6⟩:=ih Zaa;obtain⟨x,u,h3,h4,h7,h8⟩:=T n Zaa;refine⟨z++[x],by simp[l],λi y g=>?_,λy g=>?_,λb O=>?_⟩;rotate_left;rcases mem_append.1 g with g|g;exact h5 y g;simp at g;subst g;exact h7;have k1:=h6 b O;have k2:=h8 b O _ (ζd Zaa);rw[List.take_succ,ζd (by omega:n<f.length)];simp only[List.map_append,List.sum_append,Option.toList_some,map_cons,map_nil,List.sum_cons,List.sum_nil];omega;by_cases hi:i<z.length;rw[getElem?_append_left hi]at g;exact L i y g;rw[getElem?_append_right Zaa]at g;have:i-z.length=0:=(by cases F:i-z.length with|zero=>rfl|succ k=>rw[F]at g;simp at g);rw[this]at g;simp at g;subst g;have:i=n:=Zaa;subst this;exact⟨u,h3,h4⟩);obtain⟨z,C,ah,ab,ai⟩:=aa len (le_refl _);refine⟨.row z,fR.one ?_,⟨ab,Zab⟩,λb O=>?_⟩;rotate_left;have k:=ai b O;rw[take_of_length_le Zaa]at k;have k2:=O.slice (f.map (·.1)) (rest.map (·.1));show(z.map cA.wt).sum+1<=_;omega;show eY _ (.fsl (bC.size α) (rows z)) _;cases q:z with|nil=>subst q;simp at C;subst C;exact .fsl0 _ _ _|cons x0 xr=>rw[<-q];have ao:0<len:=(by rw[<-C,q];simp);have Q:∀i x,z[i]?=some x->∀j y,(cells x)[j]?=some y->∃v,w.cell? ((a.add (i*bC.size α)).add j)=some v/\eY (snap w) y v:=(by intro i x hi j y g;obtain⟨u,l,L⟩:=ah i x hi;rw[V]at l;unfold World.cells? at l;split at l;obtain⟨g1,g2⟩:=DM l;have M:j<bC.size α:=(by rw[<-gH x];exact(ζe.1 g).1);obtain⟨v,s⟩:∃v,u[j]?=some v:=⟨_,ζd (by rw[g1];simpa using M)⟩;exact⟨v,g2 j j v (by simp[M]) s,L.2 j y v g s⟩;simp at l);have an:∀i j,(a.add (i*bC.size α)).add j=a.add (i*bC.size α+j)\/True:=λ_ _=>.inr trivial;have B:∀i x,z[i]?=some x->∀j y,(cells x)[j]?=some y->∃c el fr v,w.heap[a.block]?=some (.cells c el fr)/\c[a.off+i*bC.size α+j]?=some v/\eY (snap w) y v/\(i=0->j=0->a.spot=none):=(by intro i x hi j y g;obtain⟨v,l,L⟩:=Q i x hi j y g;obtain⟨c,el,fr,g1,g2,g3⟩:=TP l (.inr trivial);have W:(a.add (i*bC.size α)).block=a.block:=(by unfold Addr.add;split<;>rfl);have ho:(a.add (i*bC.size α)).off=a.off+i*bC.size α:=(by unfold Addr.add;split<;>simp_all);rw[W]at g1;rw[ho]at g2;refine⟨c,el,fr,v,g1,g2,L,?_⟩;rintro rfl rfl;have:=g3 rfl;simpa[Addr.add]using this);have aj:∃y,(cells x0)[0]?=some y:=⟨_,ζd (by rw[gH];exact U)⟩;obtain⟨y0,ak⟩:=aj;obtain⟨c,el,fr,v0,D,_,_,G⟩:=B 0 x0 (by rw[q];rfl) 0 y0 ak;have G:=G rfl rfl;obtain⟨b,o,sp⟩:=a;simp only at G D;subst G;have hI:snap w b=some (.cells c):=(by unfold snap;rw[D]);have S:(rows z).length=len:=(by rw[gZ,C]);rw[<-S];refine .fsl _ _ b o E c hI (by rw[S];exact X.2.1) (λr p=>?_) (λr p y g=>?_) ?_ (λi j r y v p g s=>?_);obtain⟨x,_,rfl⟩:=mem_map.1 p;exact gH x;obtain⟨x,_,rfl⟩:=mem_map.1 p;exact all_eq_true.1 (rY x) y g;obtain⟨N,ad⟩:∃x,z[len-1]?=some x:=⟨_,ζd Zaa⟩;obtain⟨yl,al⟩:∃y,(cells N)[bC.size α-1]?=some y:=⟨_,ζd (by rw[gH];omega)⟩;obtain⟨c2,_,_,v2,k1,k2,_,_⟩:=B (len-1) N ad (bC.size α-1) yl al;simp only at k1 k2;rw[D]at k1;cases k1;have:=(Array.getElem?_eq_some_iff.1 k2).1;rw[S];have e:len*bC.size α=(len-1)*bC.size α+bC.size α:=(by obtain⟨m,rfl⟩:∃m,len=m+1:=⟨len-1,Zaa⟩;simp[Nat.add_mul]);omega;simp only[rows,getElem?_map,ζf]at p;obtain⟨x,am,rfl⟩:=p;obtain⟨c2,_,_,v2,k1,k2,k3,_⟩:=B i x am j y g;simp only at k1 k2;rw[D]at k1;cases k1;rw[s]at k2;cases k2;exact k3
 simp at h
theorem s9.slF{t e:W'}{α:Type}[bC α][cA α]{B:Nat}(c:P.underlying t=some (.slice e))(G:P.cellsOf e=bC.size α)(D:0<bC.size α)(i:∀g,g<B->s9 P e α g):s9 P t (Sl α) B:=by cases B with|zero=>intro H enc w base a b cs d ps h;simp[trod]at h|succ f=>exact s9.sl c G D (i f (Nat.lt_succ_self f))
theorem Reads.sl{t e:W'}{α:Type}[bC α][cA α][Reads P e α](a:P.underlying t=some (.slice e))(b:P.cellsOf t=1)(B:0<bC.size α):Reads P t (Sl α)where
 size:=b
 rd h:=s9.slF a (Reads.size (α:=α)) B (λ_ _{_ _ _ _ _ _ _ _ _}=>Reads.rd (P:=P) (t:=e) (α:=α)) h
 shape h:=by simp only[show bC.agg (Sl α)=false from rfl];exact sD a Zab Zab h
theorem fR.seg{I:cE}{a xs:T2}{cs:aZ V'}{o n:Nat}(h:fR I a (cs.take o))(k:fR I xs ((cs.drop o).take n)):fR I (a++xs) (cs.take (o+n)):=by rw[List.take_add];exact h.append k
theorem fR.fin{I:cE}{xs:T2}{cs:aZ V'}{n:Nat}(h:fR I xs (cs.take n))(B:cs.length=n):fR I xs cs:=by rw[take_of_length_le Zaa]at h;exact h
theorem s9.st{t:W'}{fs:Array Field}{α:Type}[bC α][cA α]{B:Nat}(i:P.underlying t=some (.struct fs))(j:P.cellsOf t=bC.size α)
 (h:∀{H:Type}{enc:W'×V'->H}{w:World}{base:Nat}{c:Nat->X'}{e:X'}{cs:aZ V'}{l:aZ (DataW H×aZ MemPlace)},cs.length=bC.size α->
  (fs.toList.mapM λf=>trod enc P w base c e B f.type ((cs.drop f.offset).take (P.cellsOf f.type)))=some l->∃a:α,fR (snap w) (cells a) cs/\cA.ok a/\∀b:DataW H->Nat,uG b->cA.wt a<=((l.map (·.1)).map b).sum+1):s9 P t α (B+1):=by
 intro H enc w base c e cs d ps g;simp only[trod,i]at g;split at g<;>first|(simp at g;done)|skip
 all_goals (first|(rename_i u;cases u;done)|skip)
 rename_i C;have⟨l,k,D⟩:=ζf.1 g;cases D;have⟨a,k1,k2,k3⟩:=h (by rw[C,j]) k
 exact⟨a,k1,k2,λb z=>Nat.le_trans (k3 b z) (z.agg _)⟩
theorem Reads.of{t:W'}{fs:Array Field}{α:Type}[bC α][cA α](a:P.underlying t=some (.struct fs))(b:P.cellsOf t=bC.size α)(D:bC.agg α=true)(h:∀B,s9 P t α B):Reads P t α where
 size:=b
 rd hr:=h _ hr
 shape hv:=by rw[if_pos D];unfold okWide at hv;rw[a]at hv;have⟨cs,c,_⟩:=hv;exact⟨cs,c⟩
theorem Reads.st{t:W'}{fs:Array Field}{α:Type}[bC α][cA α](g:P.underlying t=some (.struct fs))(i:P.cellsOf t=bC.size α)(D:bC.agg α=true)
 (h:∀{H:Type}{enc:W'×V'->H}{w:World}{base:Nat}{c:Nat->X'}{e:X'}{B:Nat}{cs:aZ V'}{l:aZ (DataW H×aZ MemPlace)},cs.length=bC.size α->
  (fs.toList.mapM λf=>trod enc P w base c e B f.type ((cs.drop f.offset).take (P.cellsOf f.type)))=some l->∃a:α,fR (snap w) (cells a) cs/\cA.ok a/\∀b:DataW H->Nat,uG b->cA.wt a<=((l.map (·.1)).map b).sum+1):Reads P t α:=
 Reads.of g i D λB=>by cases B with|zero=>intro H enc w base c e cs d ps h;simp[trod]at h|succ f=>exact s9.st g i h
theorem Reads.arg{t:W'}{α:Type}[bC α][cA α][Reads P t α]{H:Type}{B:W'×V'->H}{w:World}{base:Nat}{c:Nat->X'}{e:X'}{r:_root_.Go.Reach}{b:Nat}{v:V'}{d:DataW H}{ps:aZ MemPlace}
 (f:okWide P w r b t v)(h:Trod B P w base c e t v d ps):∃a:α,bN (snap w) (λ_=>none) (enc a) v/\cA.ok a/\∀b:DataW H->Nat,uG b->cA.wt a<=b d:=by
 have⟨I,h⟩:=h;have⟨a,⟨g,z⟩,D,G⟩:=Reads.rd (P:=P) (t:=t) (α:=α) h;have u:=Reads.shape (P:=P) (t:=t) (α:=α) f;refine⟨a,?_,D,G⟩
 cases C:bC.agg α with
 |true=>rw[C,if_pos rfl]at u;obtain⟨cs,rfl⟩:=u;rw[Cj C];refine .c _ _ (.agg _ _ (by simpa[Value.cells]using g) (λj x y J L=>z j x y J (by simpa[Value.cells]using L)))|false=>rw[C]at u;simp only[false_eq_true,if_false]at u;rw[u]at z;rw[wA C]at z;exact .c _ _ (z 0 _ _ rfl rfl)
end
end Go.VE
namespace Go.VE
variable[b8]
open Go.ChangeShapes Go.WideShapes Go.ChangeAt Go.RowKit
structure KX(w w':World):Prop where
 kept:w.keptBut w' (λ_=>False)
 fz:∀a:Addr,a.block<w.heap.size->w'.frozen? a=w.frozen? a
theorem IA{I I':cE}{μ':Mu}{H':bp}{w w':World}(s:Step I (λ_=>none) [] w I' μ' H' w'):KX w w':=by
 have B:∀b,b<w.heap.size->w'.heap[b]?=w.heap[b]?:=λb z=>s.frame b z (by rintro⟨id,p,ob,h,_⟩;simp at h);refine⟨⟨s.os,s.out.out,λi hi=>?_⟩,λa z=>?_⟩;rw[B i hi];split;next c u=>rw[c]at u;cases u;exact⟨rfl,rfl,rfl,λ_ _=>rfl⟩
 next c u=>rw[c]at u;cases u;exact .inr ⟨rfl,rfl⟩
 rfl;unfold World.frozen?;rw[B _ z]
theorem JE{P:Program}{call:dL}(a:lZ P call){f:Y'}{args:T2}{b:X'}{H':bp}(h:call (.fn f) args []=some (.bool b,H')){w:World}{vs:aZ V'}
 (D:vH (snap w))(d:cU (snap w) (λ_=>none) args vs):Calls P f vs.toArray w λe w'=>e=.returned (.bool b)/\KX w w':=by
 intro cs;have k:=((a.fn f args [] _ H' h).2 (snap w) (λ_=>none) w vs (TJ D) d)
 obtain⟨e,w',fr,⟨u,I',μ',rfl,g,_,C⟩,z,i,G⟩:=k.2 cs (by simp[Fence.room,fr])
 refine⟨_,w',fr,⟨?_,IA C⟩,z.comes,i,G⟩
 cases g with
 |c _ _ B=>cases B;rfl
variable{P:Program}{H:Type}{enc:W'×V'->H}
theorem It{B:aZ W'}{vs:aZ V'}{ds:aZ (DataW H)}{ps:aZ MemPlace}{w w':World}(e:KX w w')(h:TrodAll enc P w 0 (λ_=>true) true B vs ds ps):TrodAll enc P w' 0 (λ_=>true) true B vs ds ps:=by
 have z:∀p:MemPlace,p.block<w.heap.size->w.sameAt w' p:=by intro p C;have k:=e.kept.2.2 p.block C;cases p with|cell b off=>simp only[sameAt,cell?];simp only[MemPlace.block]at k C;split at k;rename_i c t fr c' G D a u;rw[a,u];simp only;have:=k.2.2.2 off (λx=>x);simpa using this;(next a u=>rw[a,u]);rw[k]|map b=>simp only[sameAt];simp only[MemPlace.block]at k C;split at k;rename_i c t fr c' G D a u;obtain⟨rfl,rfl,O,I⟩:=k;rw[a,u];have:c'=c:=Array.ext_getElem? λi=>I i (λx=>x);rw[this];rename_i a u;rcases k with k|⟨rfl,rfl⟩;exact k.elim;rw[a,u];exact k
 induction B generalizing vs ds ps with|nil=>cases vs<;>cases ds<;>simp_all [TrodAll]|cons t B J=>cases vs with|nil=>simp[TrodAll]at h|cons v vs=>cases ds with|nil=>simp[TrodAll]at h|cons d ds=>obtain⟨p,q,⟨n,a⟩,u,rfl⟩:=h;exact⟨p,q,⟨n,DataW.trod_carry n _ _ _ a λx L=>z x (DataW.trod_lt n _ _ _ a x L)⟩,J u,rfl⟩
theorem Qh{T:W'->Prop}(K:Kids P T)(m:∀t e,T t->P.underlying t=some (.slice e)->0<P.cellsOf e){f:Func}{s:ChangeSpec}{apart c a d:X'}{W G:World}{args:Array V'}{ds i:aZ (DataW H)}{before:aZ MemPlace}{tb:W'}
 (n:∀t∈f.params.toList,T t)(B:s.vars=[])(D:s.fn H (ds++i)={results:=[.lit (.bool true)],args:=ds})(J:f.resultTypes=#[tb])(U:P.underlying tb=some .bool)
 (Y:DataW.Whole enc P f.params.toList s.vars apart W args.toList ds i before)(g:KX W G):s.post enc P f apart c a d W args (.bool true) G:=by
 have z:=Y;obtain⟨p,q,X,j,rfl,L,O⟩:=Y;rw[B]at j;obtain⟨rfl,rfl⟩:=trodVars_none j;have k:∀(b:Nat)(w:Nat->X')(hd:X'),TrodAll enc P G b w hd f.resultTypes.toList ((Value.bool true).resultList f.resultTypes.size) (s.fn H (ds++[])).results []:=λ_ _ _=>by rw[J,D];exact trodAll_cons_mk (shut_bool U _) trodAll_mk0
 have S:∀w:Nat->X',(∀x∈p++[],w x.block=true)->TrodAll enc P G 0 w true f.params.toList args.toList (s.fn H (ds++[])).args p:=λw Q=>by rw[D];exact TrodAll.respare K m n (It g X) (λx u=>Q x (List.mem_append_left _ u))
 have l:∀w:Nat->X',DataW.TrodVars enc P G w s.vars (s.fn H (ds++[])).vars []:=λw=>by rw[D,B];rfl
 have C:=λx u=>z.lt x u
 refine⟨ds,[],p++[],[],p,[],z,k _ _ _,S _ λx u=>by simpa using C x u,l _,World.keptBut_mono (λx u=>u.elim) g.kept,λ_=>⟨ok_one J rfl (okWide_bool_mk U _),?_⟩⟩
 refine⟨_,_,[]++p++[],⟨[]++p,[],trodAll_append (S _ λ_ _=>rfl) (k _ _ _),l _,rfl,λb off u=>?_,λh=>by simpa using O h⟩,λx u _=>by simpa using u⟩
 have I:MemPlace.cell b off∈p++[]:=by simpa using u
 rw[g.fz _ (C _ I)];exact L b off I
end Go.VE
namespace Go.VE
variable[b8]
instance:cA U8 where
 wt _:=1
 ok n:=0<=n.v/\n.v<=255
theorem Reads.u8{P:Program}{t:W'}(a:P.underlying t=some (.int .u8))(c:P.cellsOf t=1):Reads P t U8 where
 size:=c
 rd {H enc w base spare held z cs d ps} h:=by cases z with|zero=>simp[trod]at h|succ z=>(simp only[trod,a]at h;split at h<;>first|(simp at h;done)|skip);(next u=>cases u);rename_i k D n u;simp only[ζa,TypeDesc.int.injEq]at u;split at h;(next e=>obtain⟨rfl,B⟩:=e;subst u;cases h;exact⟨⟨n⟩,fR.one (.int _ n),show _/\_ by simpa[Lit.wf,IntKind.min,IntKind.max,signed,IntKind.bits]using B,λb C=>C.lit _⟩);simp at h;all_goals (rename_i u;cases u)
 shape h:=by simp only[show bC.agg U8=false from rfl];exact sD a Zab Zab h
theorem Oq{m:Tb bM}{n:Nat}{rs:So}{b:X'}(h:dh m n rs=some [.bool b]):rs=[.v (.bool b)]:=by
 cases rs with
 |nil=>cases n<;>simp[dh]at h|cons x r=>
  have c:shut m n x=some (.bool b)/\dh m n r=some []:=by unfold dh at h;split at h;(next y s c w=>simp only[ζa,List.cons.injEq]at h;obtain⟨rfl,rfl⟩:=h;exact⟨c,w⟩);cases h
  have w:r=[]:=by cases r with|nil=>rfl|cons y r=>have:=c.2;unfold dh at this;split at this<;>simp at this
  subst w;have u:=c.1
  cases x with
  |v y=>unfold shut at u;simp only[ζa]at u;rw[u]|own d=>unfold shut at u;split at u<;>simp only[ζa,reduceCtorEq]at u;rename_i k es B _;cases k<;>simp[pF]at u|ptr d o=>cases n with|zero=>simp[shut]at u|succ n=>(unfold shut at u;split at u<;>try cases u);(split at u<;>try cases u);split at u<;>cases u
  |mp d=>unfold shut at u;split at u<;>cases u|clo f a b=>cases n with|zero=>simp[shut]at u|succ n=>unfold shut at u;split at u<;>cases u
  |tup l=>cases n with|zero=>simp[shut]at u|succ n=>unfold shut at u;have⟨_,_,z⟩:=ζf.1 u;cases z
  |_=>cases n<;>simp[shut]at u
theorem SF{S:Sys}{T:qN}(B:rJ S T)(D:∀f a b xs,S.items f a b=some xs->eS S f a b xs){f:Y'}{xs:T2}(c:V.cI xs=true)(h:jW (dm S T) f xs=some [.bool true]):
 ∃n H',run S.E n (.fn f) xs []=some (.bool true,H'):=by
 unfold jW at h;have⟨⟨rs,m⟩,d,u⟩:=ζg.1 h;have:=Oq u;simp only at this;subst this;exact VB B D c d rfl
theorem Nv{S:Sys}{T:qN}{P:Program}(B:rJ S T)(D:∀f a b xs,S.items f a b=some xs->eS S f a b xs)(c:∀n,lZ P (run S.E n)){f:Y'}{xs:T2}(d:V.cI xs=true)(h:jW (dm S T) f xs=some [.bool true])
 {w:World}{args:Array V'}(G:vH (snap w))(g:cU (snap w) (λ_=>none) xs args.toList):Calls P f args w λe w'=>e=.returned (.bool true)/\KX w w':=by
 have⟨n,H',i⟩:=SF B D d h;have:=JE (c n) i G g;simpa using this
theorem Reads.Vg{P:Program}{t:W'}{α:Type}[bC α][cA α][Reads P t α]{H:Type}{B:W'×V'->H}{w:World}{base b:Nat}{c:Nat->X'}{e:X'}{v:V'}{d:DataW H}{ps:aZ MemPlace}{params:Array W'}{args:Array V'}(D:∀(j:Nat)t v,params[j]?=some t->args[j]?=some v->okWide P w .any b t v)(j:Nat)(f:params[j]?=some t)(G:args[j]?=some v)(h:Trod B P w base c e t v d ps):∃a:α,bN (snap w) (λ_=>none) (enc a) v/\cA.ok a/\∀b:DataW H->Nat,uG b->cA.wt a<=b d:=Reads.arg (D j t v f G) h
end Go.VE
namespace Go.VE
theorem TL{w:World}{g:Nat}{l:ST}(h:∀i,i<l.length->w.cell? ⟨g,i,none⟩=some (.int .i64 (l.getD i 0)))(e:0<l.length):eY (snap w) (.fptr (l.map (V.int .i64))) (.pointer (some ⟨g,0,none⟩)):=by
 have a:=h 0 e;unfold cell? at a;split at a;rename_i c t fr u;have D:snap w g=some (.cells c):=by unfold snap;simp only at u;rw[u]
 have d:∀i,w.cell? ⟨g,i,none⟩=c[i]?:=λi=>by unfold cell?;simp only at u⊢;rw[u];rfl
 refine .fptr _ _ _ c D ?_ ?_;rw[zero_add,length_map];have:=h (l.length-1) Zaa;rw[d]at this;have:=(Array.getElem?_eq_some_iff.1 this).1;omega;intro j y v B b;rw[zero_add,<-d]at b;rw[getElem?_map]at B;obtain⟨z,C,rfl⟩:=ζf.1 B;have G:=(ζe.1 C).1;rw[h j G]at b;cases b;have:l.getD j 0=z:=by simp[List.getD,C]
 rw[this];exact .int _ _;cases a
variable[b8]
theorem cM(n:Nat)(h:n<9223372036854775807):wrap .i64 ((n:Int)+1)=((n+1:Nat):Int):=by simp[wrap,IntKind.bits,signed];omega
theorem eB(n:Int)(a:-9223372036854775808<=n)(B:n<=9223372036854775807):wrap .i64 n=n:=by simp[wrap,IntKind.bits,signed];omega
section
variable{α β:Type}{P:β->Prop}
theorem jd(s:Sl α)(i:Nat):idx s (i:Int)=s.l[i]?:=by unfold idx;rw[if_pos Zaa];rfl
theorem bJ{s:Sl α}{i:Nat}(h:i<s.l.length):idx s (i:Int)=some s.l[i]:=by rw[jd,ζd h]
theorem TW{s:Sl α}{i:Int}(a:0<=i):idx s i=s.l[i.toNat]?:=by unfold idx;rw[if_pos a]
theorem qW(s:Sl α)(i:Nat)(h:i<=s.l.length):∃x,fZ s none (some (i:Int))=some x/\x.l=s.l.take i:=by unfold fZ eu;simp only[Option.getD_none,getD_some];rw[if_pos Zaa];cases s<;>simp[Sl.l]at h⊢ <;>simp[h]
theorem bH{γ:Type}{a b:γ}:bl true a b=a:=rfl
theorem bE{γ:Type}{a b:γ}:bl false a b=b:=rfl
theorem nS(a b:X'):bl a (some b) (some false)=some (a&&b):=by cases a<;>rfl
theorem mG(a b:X'):bl a (some true) (some b)=some (a||b):=by cases a<;>rfl
theorem uS(a:X')(x y:β):bl a (some x) (some y)=some (if a then x else y):=by cases a<;>rfl
end
def place{α:Type}(f:α->X')(l:aZ α):Int:=match l.findIdx? f with
 |some i=>i|none=>-1
theorem B5{α:Type}{f:α->X'}{l:aZ α}{i:Nat}(h:∀j,j<i->∀x,l[j]?=some x->f x=false)(hi:l.length<=i):l.findIdx? f=none:=by rw[List.findIdx?_eq_none_iff];intro x w;have⟨j,u⟩:=getElem?_of_mem w;have:j<l.length:=(ζe.1 u).1;exact h j Zaa x u
theorem L7{α:Type}{f:α->X'}{l:aZ α}{i:Nat}{x:α}(h:∀j,j<i->∀x,l[j]?=some x->f x=false)(B:l[i]?=some x)(D:f x=true):l.findIdx? f=some i:=by rw[List.findIdx?_eq_some_iff_getElem];obtain⟨hi,rfl⟩:=ζe.1 B;exact⟨hi,D,λj u=>by rw[h j u _ (ζd Zaa)];simp⟩
theorem vR{α:Type}{step:Int->a_ (Fw Int Unit Int)}{s:Sl α}{p:α->a_ X'}{f:α->X'}(hp:∀x∈s.l,p x=some (f x))(U:s.l.length<9223372036854775807)
 (J:∀i,step i=bl (decide (i<len s)) ((idx s i).bind λB=>(p B).bind λD=>bl D (some (.r i)) (some (.n (wrap .i64 (i+1))))) (some (.x ()))):
 (bS step 0).bind (Fw.elim (λ_=>some (-1)) (λe=>some e))=some (place f s.l):=by
 refine Wp.eq (fJ (λi:Int=>∃n:Nat,i=n/\n<=s.l.length/\∀j,j<n->∀x,s.l[j]?=some x->f x=false) (λi:Int=>s.l.length-i.toNat) ⟨0,rfl,zero_le _,λj I=>absurd I Zaa⟩ ?_)
 rintro i ⟨n,rfl,L,w⟩;rw[J,b9];refine⟨λh=>?_,λh=>?_⟩
 .have u:n<s.l.length:=by simpa[len]using h
  rw[bJ u,ζb,hp _ (getElem_mem u),ζb,b9];refine⟨λz=>?_,λz=>?_⟩
  .rw[bg];show Wp (some (n:Int)) _;rw[bg];unfold place;rw[L7 w (ζd u) z]
  rw[bg];refine⟨⟨n+1,cM n Zaa,Zaa,λj I x C=>?_⟩,?_⟩
  .by_cases e:j=n
   .subst e;rw[ζd u]at C;cases C;exact z
   exact w j Zaa x C
  rw[cM n Zaa];simp;omega
 have G:s.l.length<=n:=by simpa[len]using h
 rw[bg];show Wp (some (-1:Int)) _;rw[bg];unfold place;rw[B5 w G]
theorem wv{α:Type}(f:α->X')(l:aZ α):decide (place f l>=0)=l.any f:=by unfold place;cases h:l.findIdx? f with|none=>rw[List.findIdx?_eq_none_iff]at h;have:l.any f=false:=(by rw[List.any_eq_false];intro x u;simp[h x u]);rw[this];rfl|some i=>have⟨hi,w,_⟩:=List.findIdx?_eq_some_iff_getElem.1 h;have:l.any f=true:=List.any_eq_true.2 ⟨_,getElem_mem hi,w⟩;rw[this];simp
theorem T5{α σ ε ρ:Type}{step:α->σ->a_ (Fw σ ε ρ)}{l:aZ α}(I:Nat->σ->Prop)(D:ε->Prop)(G:ρ->Prop){s:σ}(c:I 0 s)
 (h:∀i a s,l[i]?=some a->I i s->Wp (step a s) λw=>match w with|.n B=>I (i+1) B|.x e=>D e|.r b=>G b):
 Wp (lq step l s) λw=>match w with|.n B=>I l.length B|.x e=>D e|.r b=>G b:=by
 have key:∀(r:aZ α)(i:Nat)(s:σ),l.drop i=r->i<=l.length->I i s->Wp (lq step r s) λw=>match w with|.n B=>I l.length B|.x e=>D e|.r b=>G b:=by intro r;induction r with|nil=>intro i s hd hi z;have:i=l.length:=(by have:=List.drop_eq_nil_iff.1 hd;omega);subst this;exact⟨_,rfl,z⟩|cons a r J=>intro i s hd hi z;have u:i<l.length:=(by apply Classical.byContradiction;intro Q;rw[List.drop_eq_nil_of_le Zaa]at hd;cases hd);have L:=List.drop_eq_getElem_cons u;rw[L]at hd;simp only[List.cons.injEq]at hd;have⟨w,O,C⟩:=h i a s (by rw[ζd u,hd.1]) z;simp only[lq,O,ζb];cases w with|n B=>exact J (i+1) B hd.2 Zaa C|x e=>exact⟨_,rfl,C⟩|r b=>exact⟨_,rfl,C⟩
 exact key l 0 s rfl (zero_le _) c
theorem zX{α σ ε ρ γ:Type}{step:α->σ->a_ (Fw σ ε ρ)}{l:aZ α}{fn:σ->a_ γ}{fx:ε->a_ γ}{fr:ρ->a_ γ}{P:γ->Prop}(I:Nat->σ->Prop){s:σ}(c:I 0 s)
 (h:∀i a s,l[i]?=some a->I i s->Wp (step a s) λw=>match w with|.n B=>I (i+1) B|.x e=>Wp (fx e) P|.r b=>Wp (fr b) P)
 (D:∀s,I l.length s->Wp (fn s) P):Wp ((lq step l s).bind (Fw.rV fn fx fr)) P:=by
 rw[dX];refine(T5 I _ _ c h).mono ?_;intro w u
 cases w with
 |n s=>exact D s u|x e=>exact u|r b=>exact u
end Go.VE
