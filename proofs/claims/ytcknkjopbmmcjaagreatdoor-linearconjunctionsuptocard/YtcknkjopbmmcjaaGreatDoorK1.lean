/-
 Certificates; functions by hand; readings; plain laws.
-/
import Derived.JoinedCond
import Derived.ReadAgain
import Derived.WalkKit
import Derived.ProofKit
import Derived.OpenShut
import Derived.ChangeSame
import Derived.RowKit3
import Derived.Lib.LaidTab
import Derived.Test.YtcknkjopbmmcjaaGreatDoorV2
import Derived.Test.YtcknkjopbmmcjaaGreatDoorN2
import Derived.Test.YtcknkjopbmmcjaaGreatDoorS1
set_option linter.all false
noncomputable section
open Nat(beq ble le_refl reduceEqDiff zero_add zero_le)
open Option(getD_some map_some pure_def)
open List(all_cons all_eq_true append_assoc append_nil cons_append drop_zero getElem?_append_left getElem?_append_right getElem?_drop getElem?_map getElem?_of_mem getElem?_set_ne getElem?_set_self getElem?_take getElem_mem length_cons length_map length_range length_singleton map_cons map_nil mem_append mem_map mem_of_getElem? mem_range nil_append range range' replicate set_set take_of_length_le)
open Classical(choose_spec)
open Bool(false_eq_true)
open Go.IntKind(signed wrap)
open Go.DataW(Trod TrodAll trod)
open Go.Value(okWide)
open Go.World(cell? sameAt)
namespace Go.VE
variable[b_]
abbrev Cf:=Fo×aZ Fm×St
section
variable(S:Sys)(c:cr){β:Type}(Q:Out×St->a_ β)
abbrev cn(cf:Cf):a_ β:=rn S c Q cf.1 cf.2.1 cf.2.2
def jR(n:Nat)(cf:Cf):Cf:=(iR S c n cf.1 cf.2.1 cf.2.2).getD cf
structure IT where
 dr:Bool
 fr:List Nat
 d:Option Nat
 gd:Option (Nat×Bool)
 now:Bool
 k:K
 az:List Arg
 dd:List Nat
 l:List RO
 fs:List Fm
 st:St
def gw(n:Nat)(cf:Cf):a_ IT:=match iR S c n cf.1 cf.2.1 cf.2.2 with
 |some (.ops dr fr (⟨d,gd,now,k,az,dd,[]⟩::l),fs,st)=>match wanted st.g gd with
  |some true=>some ⟨dr,fr,d,gd,now,k,az,dd,l,fs,st⟩|_=>none
 |_=>none
def nx(n:Nat)(cf:Cf)(φ:IT->St):Cf:=match gw S c n cf with
 |some p=>(.ops p.dr (if p.dr then(match p.k with|.p _|.r _=>p.fr|_=>match p.d with|some d=>d::p.fr|none=>p.fr)else p.fr) p.l,p.fs,qR p.dd (φ p))|none=>cf
end
def xd(s:Nat)(b:X')(cf:Cf):Cf:=(cf.1,cf.2.1,{cf.2.2 with g:=bR cf.2.2.g s (.v (.bool b))})
def jmp(k:Nat)(fr:ST)(cf:Cf)(st:St):Cf:=match cf with
 |(.ops dr _ l,fs,_)=>(.ops dr fr (l.drop k),fs,st)|_=>(.rt,[],st)
def sQ:RC->ST->QP->St->Cf
 |c,[],fs,st=>(.rc c,fs,st)|.seq a b,i::p,fs,st=>if i=0 then sQ a p (.seq b::fs) st else sQ b p fs st|.cond _ a b,i::p,fs,st=>if i=0 then sQ a p fs st else sQ b p fs st|.block id c,_::p,fs,st=>sQ c p (.blk id::fs) st|.gh _ c,_::p,fs,st=>sQ c p fs st|.hg c g,_::p,fs,st=>sQ c p (.gst g::fs) st|.loop c,_::p,_,st=>sQ c p [] st|.each _ _ _ b,_::p,_,st=>sQ b p [] st|c,_,fs,st=>(.rc c,fs,st)
section
variable{S:Sys}{c:cr}{β γ δ α:Type}{Q:Out×St->a_ β}{e:γ->a_ β}{cf:Cf}
theorem kG{n:Nat}{p:IT}(h:gw S c n cf=some p):iR S c n cf.1 cf.2.1 cf.2.2=some (.ops p.dr p.fr (⟨p.d,p.gd,p.now,p.k,p.az,p.dd,[]⟩::p.l),p.fs,p.st)/\wanted p.st.g p.gd=some true:=by unfold gw at h;grind
theorem rK{n:Nat}{m:a_ δ}{φ:δ->IT->St}{f:δ->a_ γ}{p:IT}(hp:gw S c n cf=some p)(B:Le (m.bind λx=>some (φ x p)) (gx S c p.dr p.fr ⟨p.d,none,p.now,p.k,p.az,[],[]⟩ p.st))
 (h:∀x,m=some x->Le ((f x).bind e) (cn S c Q (nx S c n cf (φ x)))):Le ((m.bind f).bind e) (cn S c Q cf):=by
 have⟨a,u⟩:=kG hp;refine DQ a rfl u B λx w=>?_
 have:=h x w;simp[nx,hp]at this;omega
theorem vo{n:Nat}{m:a_ β}{φ:IT->St}{p:IT}(hp:gw S c n cf=some p)(B:gx S c p.dr p.fr ⟨p.d,none,p.now,p.k,p.az,[],[]⟩ p.st=some (φ p))
 (h:Le m (cn S c Q (nx S c n cf φ))):Le m (cn S c Q cf):=by
 have⟨a,u⟩:=kG hp;refine tn a rfl u B ?_;simp[nx,hp]at h;omega
theorem fc{α β:Type}{o:a_ α}{f:α->β}{b:β}(h:o.map f=some b):∃a,o=some a/\f a=b:=ζf.1 h
theorem rS(n:Nat){m:a_ β}{B:Cf}(h:Le m (cn S c Q B))(D:iR S c n cf.1 cf.2.1 cf.2.2=some B:=by kernel_rfl):Le m (cn S c Q cf):=BT D h
theorem bA(n s:Nat){t:X'}{x y:a_ γ}(B:Le (x.bind e) (cn S c Q (xd s true (jR S c n cf))))(D:Le (y.bind e) (cn S c Q (xd s false (jR S c n cf))))
 (G:(iR S c n cf.1 cf.2.1 cf.2.2).map (λp=>bn p.2.2.g s)=some (some (.v (.bool t))):=by kernel_rfl):Le ((bl t x y).bind e) (cn S c Q cf):=by
 have⟨p,u,a⟩:=fc G;have b:jR S c n cf=p:=by unfold jR;grind
 rw[b]at B D;refine BT u ?_;cases t
 .have:xd s false p=p:=by unfold xd;rw[rC a]
  rw[this]at D;exact D
 have:xd s true p=p:=by unfold xd;rw[rC a]
 rw[this]at B;exact B
theorem di(n s:Nat){t:X'}{x y:a_ γ}(B:Le (x.bind e) (cn S c Q (xd s false (jR S c n cf))))(D:Le (y.bind e) (cn S c Q (xd s true (jR S c n cf))))
 (G:(iR S c n cf.1 cf.2.1 cf.2.2).map (λp=>bn p.2.2.g s)=some (some (.v (.bool (!t)))):=by kernel_rfl):Le ((bl t x y).bind e) (cn S c Q cf):=by
 have⟨p,u,a⟩:=fc G;have b:jR S c n cf=p:=by unfold jR;grind
 rw[b]at B D;refine BT u ?_;cases t
 .have:xd s true p=p:=by unfold xd;rw[show V.bool true=V.bool (!false)from rfl,rC a]
  rw[this]at D;exact D
 have:xd s false p=p:=by unfold xd;rw[show V.bool false=V.bool (!true)from rfl,rC a]
 rw[this]at B;exact B
theorem yS(n k:Nat)(fr:ST)(st:δ->St){m:a_ δ}{f:δ->a_ γ}(B:Le (m.bind λr=>cn S c Q (jmp k fr (jR S c n cf) (st r))) (cn S c Q cf))(a:∀r,Le ((f r).bind e) (cn S c Q (jmp k fr (jR S c n cf) (st r)))):Le ((m.bind f).bind e) (cn S c Q cf):=Vf _ B a
theorem bE(n:Nat){r:δ}{k:δ->Cf}(B:iR S c n cf.1 cf.2.1 cf.2.2=some (k r):=by kernel_rfl):Le ((some r).bind λr=>cn S c Q (k r)) (cn S c Q cf):=abx B rfl
theorem bh{r:γ}{L:a_ β}(h:L=e r:=by kernel_rfl):Le ((some r).bind e) L:=Le.of_eq h
theorem Ac(n:Nat){b:RC}{m:a_ (Out×Tb bN)}(h:Le m (cn S c yx (.rc b,[],(jR S c n cf).2.2)))(B:iR S c n cf.1 cf.2.1 cf.2.2=some (.nx,[],(jR S c n cf).2.2):=by kernel_rfl):Le m (cn S c (Az S c b) cf):=Zm B h
theorem Jx(n:Nat){o:a_ α}(A:a_ α->St){f:α->a_ γ}(B:∀x,o=some x->Le ((f x).bind e) (cn S c Q ((jR S c n cf).1,(jR S c n cf).2.1,A (some x))))
 (D:iR S c n cf.1 cf.2.1 cf.2.2=some ((jR S c n cf).1,(jR S c n cf).2.1,A o):=by kernel_rfl):Le ((o.bind f).bind e) (cn S c Q cf):=aaF D B
theorem gC.Zw{S:Sys}{T:rG}[bH δ]{f:Y'}{A:α->So}{p:α->a_ δ}(B:T f=none)(a:S.E.keep f=false)(D:∀z r,p z=some r->S.yR f (A z)=some (enc r))
 :gC S (dw S T) f A (λr=>[enc r]) p false where
 k:=a
 h z:=by intro y u;have⟨r,b,w⟩:=ζg.1 u;cases w;have h:=Ir B a (D z r b);unfold jA;rw[h];exact wm 8 [enc r]
 s h:=by cases h
def OZ:K->a_ BinOp
 |.p (.bin _ _ o)=>some o|_=>none
theorem Xd{k:K}{o:BinOp}(h:OZ k=some o):∃t u,k=.p (.bin t u o):=by cases k with|p p=>cases p<;>simp[OZ]at h;simp_all|_=>simp[OZ]at h
def PI:K->a_ BinOp
 |.p (.bin (some .slice) _ o)=>some o|_=>none
theorem NT{k:K}{o:BinOp}(h:PI k=some o):∃u,k=.p (.bin (some .slice) u o):=by unfold PI at h;grind
def YJ:K->a_ (Nat×Nat×ST)
 |.a (.buildSl sz ln _ ix)=>some (sz,ln,ix)|_=>none
theorem YE{k:K}{r:Nat×Nat×ST}(h:YJ k=some r):∃z,k=.a (.buildSl r.1 r.2.1 z r.2.2):=by unfold YJ at h;grind
def Zt:K->a_ So
 |.a (.alloc _ zero)=>some zero|_=>none
theorem Yo{k:K}{z:So}(h:Zt k=some z):∃n,k=.a (.alloc n z):=by unfold Zt at h;grind
section
variable[bH α]
theorem Z3(k:T2)(n:Nat){s:Sl α}{i:Int}{f:α->a_ γ}(h:∀x,idx s i=some x->Le ((f x).bind e) (cn S c Q (nx S c n cf λp=>c8 p.st p.d (cp x))))
 (B:(gw S c n cf).map (λp=>(p.k,b7 S.N p.st.g p.az))=some (.p (.idxS (bH.size α)),some [.v (b9 s),.v (.int k i)]):=by kernel_rfl):Le (((idx s i).bind f).bind e) (cn S c Q cf):=by
 have⟨p,u,a⟩:=fc B;simp at a;refine rK u ?_ h;rw[a.1];exact Le.of_eq (UP a.2 rfl)
theorem bP(n:Nat){s:Sl α}{i:Int}{f:α->a_ γ}(h:∀x,idx s i=some x->Le ((f x).bind e) (cn S c Q (nx S c n cf λp=>c8 p.st p.d (cp x))))
 (B:(gw S c n cf).map (λp=>(p.k,b7 S.N p.st.g p.az))=some (.p (.idxS (bH.size α)),some [.v (b9 s),.v (.int .i64 i)]):=by kernel_rfl):Le (((idx s i).bind f).bind e) (cn S c Q cf):=Z3 .i64 n h B
theorem iE(k:T2)(n u:Nat){s:Sl α}{i:Int}{f:Nat->a_ γ}(h:∀x,s.jc i=some x->Le ((f x).bind e) (cn S c Q (nx S c n cf λp=>c8 p.st p.d (.el u x 0))))
 (B:(gw S c n cf).map (λp=>(p.k,b7 S.N p.st.g p.az,bn p.st.m u))=some (.p (.idxS (bH.size α)),some [.own u,.v (.int k i)],some (cO s)):=by kernel_rfl):Le (((s.jc i).bind f).bind e) (cn S c Q cf):=by
 have⟨p,w,a⟩:=fc B;simp at a;refine rK w ?_ h;rw[a.1];exact Le.of_eq (aaR a.2.1 a.2.2 rfl)
theorem pg(n u o sz:Nat)(a:X')(v:α->V){s:Sl α}{i:Nat}{f:α->a_ γ}(h:∀x,s.get i=some x->Le ((f x).bind e) (cn S c Q (nx S c n cf λp=>c8 p.st p.d (.v (v x)))))
 (B:(gw S c n cf).map (λp=>(p.k,b7 S.N p.st.g p.az,bn p.st.m u,(!p.dr||p.now||fL p.fr [.el u i o])))=some (.r (.load sz a),some [.el u i o],some (cO s),true):=by kernel_rfl)(b:∀x:α,(cut (cells x) o sz).bind (mk a)=some (v x):=by intro _;rfl):Le (((s.get i).bind f).bind e) (cn S c Q cf):=by
 have⟨p,z,w⟩:=fc B;simp only[ζc]at w;refine rK z ?_ h;rw[w.1];exact Le.of_eq (Zk w.2.1 w.2.2.2 w.2.2.1 b)
theorem BQ(n u:Nat)(x:V){s:Sl α}{i:Nat}{a:α}{f:Sl α->a_ γ}(h:∀B,s.put i a=some B->Le ((f B).bind e) (cn S c Q (nx S c n cf λp=>c8 {p.st with m:=bR p.st.m u (cO B)} p.d (.v .undef))))
 (D:(gw S c n cf).map (λp=>(p.k,b7 S.N p.st.g p.az,bn p.st.m u,(!p.dr||p.now),x.cells))=some (.l (.store (bH.size α)),some [.el u i 0,.v x],some (cO s),true,cells a):=by kernel_rfl):Le (((s.put i a).bind f).bind e) (cn S c Q cf):=by
 have⟨p,w,b⟩:=fc D;simp only[ζc]at b;refine rK w ?_ h;rw[b.1];exact Le.of_eq (MY b.2.1 b.2.2.2.1 b.2.2.1 b.2.2.2.2 rfl)
theorem J5(n u:Nat){i:Int}{z:α}{f:Sl α->a_ γ}(h:∀B,o_ i z=some B->Le ((f B).bind e) (cn S c Q (nx S c n cf λp=>{p.st with g:=bR p.st.g u (.own u),m:=bR p.st.m u (cO B)})))
 (D:(gw S c n cf).map (λp=>(p.d,p.k,b7 S.N p.st.g p.az,p.st.new u))=some (some u,.a (.makeSl (bH.size α) (cells z)),some [.v (.int .i64 i),.v (.int .i64 i)],true):=by kernel_rfl):Le (((o_ i z).bind f).bind e) (cn S c Q cf):=by
 have⟨p,w,a⟩:=fc D;simp at a;refine rK w ?_ h;rw[a.1,a.2.1];exact Le.of_eq (YY a.2.2.1 rfl rfl a.2.2.2)
theorem abu(n u:Nat){i:Int}{z:α}{zero:So}{f:Sl α->a_ γ}(h:∀B,s7 i z=some B->Le ((f B).bind e) (cn S c Q (nx S c n cf λp=>{p.st with g:=bR p.st.g u (.own u),m:=bR p.st.m u (cO B)})))
 (D:(gw S c n cf).map (λp=>(p.d,p.k,b7 S.N p.st.g p.az,p.st.new u))=some (some u,.a (.makeSl (bH.size α) (cells z)),some [.v (.int .i64 0),.v (.int .i64 i)],true):=by kernel_rfl):Le (((s7 i z).bind f).bind e) (cn S c Q cf):=by
 have⟨p,w,a⟩:=fc D;simp at a;have⟨b,I⟩:=kG w;have⟨dr,fr,d,gd,now,k,az,dd,l,fs,st⟩:=p;obtain⟨rfl,rfl,J,C⟩:=a;exact abr n dr fr (⟨some u,gd,now,.a (.makeSl (bH.size α) (cells z)),az,dd,[]⟩::l) fs st rfl C Zac λB G=>by have:=h B G;simp[nx,w]at this;simp_all
theorem o9(n o w u:Nat){s:Sl α}{x:α}{f:Sl α->a_ γ}(h:∀B,gm s x=some B->Le ((f B).bind e) (cn S c Q (nx S c n cf λp=>{p.st with g:=bR p.st.g u (.own u),m:=bR (eR o p.st.m) u (cO B)})))
 (D:(gw S c n cf).map (λp=>(p.d,p.k,b7 S.N p.st.g p.az,(!p.dr||p.now),bn p.st.m o,bn p.st.m w,St.new {p.st with m:=eR o p.st.m} u))=some (some u,.l (.append (bH.size α)),some [.own o,.own w],true,some (cO s),some (cO (.row [x])),true):=by kernel_rfl):Le (((gm s x).bind f).bind e) (cn S c Q cf):=by
 have⟨p,z,a⟩:=fc D;simp only[ζc]at a;refine rK z ?_ h;rw[a.1,a.2.1];exact Le.of_eq (aal a.2.2.1 a.2.2.2.1 a.2.2.2.2.1 a.2.2.2.2.2.1 rfl a.2.2.2.2.2.2)
theorem Vk(n w u:Nat)(v:V)(x:α){m:a_ β}(h:Le m (cn S c Q (nx S c n cf λp=>{p.st with g:=bR p.st.g u (.own u),m:=bR p.st.m u (cO (.row [x]))})))(a:v=.bM\/v=.dX:=by first|exact .inl rfl|exact .inr rfl)
 (B:(gw S c n cf).map (λp=>(p.d,p.k,b7 S.N p.st.g p.az,(!p.dr||p.now),bn p.st.m w,p.st.new u))=some (some u,.l (.append (bH.size α)),some [.v v,.own w],true,some (cO (.row [x])),true):=by kernel_rfl):Le m (cn S c Q cf):=by
 have⟨p,C,z⟩:=fc B;simp only[ζc]at z;refine vo C ?_ h;rw[z.1,z.2.1];exact Y6 a z.2.2.1 z.2.2.2.1 z.2.2.2.2.1 rfl z.2.2.2.2.2
theorem bZ(n:Nat)(s:Sl α){m:a_ β}(h:Le m (cn S c Q (nx S c n cf λp=>c8 p.st p.d (.v (.int .i64 s.l.length)))))
 (B:(gw S c n cf).map (λp=>(p.k,b7 S.N p.st.g p.az))=some (.p .lenSl,some [.v (b9 s)]):=by kernel_rfl):Le m (cn S c Q cf):=by
 have⟨p,u,a⟩:=fc B;simp at a;refine vo u ?_ h;rw[a.1];exact U9 a.2
theorem E9(n u:Nat)(s:Sl α){m:a_ β}(h:Le m (cn S c Q (nx S c n cf λp=>c8 p.st p.d (.v (.int .i64 s.l.length)))))
 (B:(gw S c n cf).map (λp=>(p.k,b7 S.N p.st.g p.az,bn p.st.m u))=some (.p .lenSl,some [.own u],some (cO s)):=by kernel_rfl):Le m (cn S c Q cf):=by
 have⟨p,w,a⟩:=fc B;simp at a;refine vo w ?_ h;rw[a.1];exact Yh a.2.1 a.2.2
theorem Eb(n:Nat){s:Sl α}{f:X'->a_ γ}(h:∀t,s.isNil=some t->Le ((f t).bind e) (cn S c Q (nx S c n cf λp=>c8 p.st p.d (.v (.bool t)))))
 (B:(gw S c n cf).map (λp=>(PI p.k,b7 S.N p.st.g p.az))=some (some .eql,some [.v (b9 s),.v .bM]):=by kernel_rfl):Le ((s.isNil.bind f).bind e) (cn S c Q cf):=by
 have⟨p,w,a⟩:=fc B;simp at a;have⟨u,b⟩:=NT a.1;refine rK w ?_ h;rw[b];exact Le.of_eq (Xo a.2)
theorem Z5(n:Nat){s:Sl α}{f:X'->a_ γ}(h:∀t,s.isNil=some t->Le ((f t).bind e) (cn S c Q (nx S c n cf λp=>c8 p.st p.d (.v (.bool !t)))))
 (B:(gw S c n cf).map (λp=>(PI p.k,b7 S.N p.st.g p.az))=some (some .neq,some [.v (b9 s),.v .bM]):=by kernel_rfl):Le ((s.isNil.bind f).bind e) (cn S c Q cf):=by
 have⟨p,w,a⟩:=fc B;simp at a;have⟨u,b⟩:=NT a.1;refine rK w ?_ h;rw[b];exact Le.of_eq (Tz a.2)
theorem Bq(n:Nat)(lo hi:X')(B:So){s:Sl α}{a b:Pi}{f:Sl α->a_ γ}(h:∀x,gu s a b=some x->Le ((f x).bind e) (cn S c Q (nx S c n cf λp=>c8 p.st p.d (.v (b9 x)))))
 (D:(gw S c n cf).map (λp=>(p.k,b7 S.N p.st.g p.az,ny lo hi B))=some (.p (.slice (bH.size α) lo hi),some (.v (b9 s)::B.map .v),some (a,b)):=by kernel_rfl):Le (((gu s a b).bind f).bind e) (cn S c Q cf):=by
 have⟨p,u,g⟩:=fc D;simp at g;have⟨i,C⟩:=kG u;have⟨dr,fr,d,gd,now,k,az,dd,l,fs,st⟩:=p;obtain⟨rfl,G,I⟩:=g;exact abB n dr fr (⟨d,gd,now,.p (.slice (bH.size α) lo hi),az,dd,[]⟩::l) fs st lo hi B rfl Zac λw z=>by have:=h w z;simp only[nx,u]at this;omega
theorem aam(n:Nat)(lo hi:X')(u t:Nat)(B:So){s:Sl α}{a b:Pi}{f:Sl α->a_ γ}(h:∀x,qx s a b=some x->Le ((f x).bind e) (cn S c Q (nx S c n cf λp=>{p.st with g:=bR p.st.g t (.own t),m:=bR (eR u p.st.m) t (cO x)})))
 (D:(gw S c n cf).map (λp=>(p.d,p.k,p.dr,b7 S.N p.st.g p.az,ny lo hi B,bn p.st.m u,St.new {p.st with m:=eR u p.st.m} t))=some (some t,.p (.slice (bH.size α) lo hi),false,some (.own u::B.map .v),some (a,b),some (cO s),true):=by kernel_rfl):Le (((qx s a b).bind f).bind e) (cn S c Q cf):=by
 have⟨p,w,i⟩:=fc D;simp at i;have⟨j,I⟩:=kG w;have⟨dr,fr,d,gd,now,k,az,dd,l,fs,st⟩:=p;obtain⟨rfl,rfl,rfl,J,L,O,z⟩:=i;exact ZY n fr (⟨some t,gd,now,.p (.slice (bH.size α) lo hi),az,dd,[]⟩::l) fs st lo hi u B rfl z Zac λC G=>by have:=h C G;simp only[nx,w]at this;omega
theorem cu(n u:Nat)(x:α){m:a_ β}(h:Le m (cn S c Q (nx S c n cf λp=>{p.st with g:=bR p.st.g u (.ptr u 0),m:=bR p.st.m u (bx x)})))
 (B:(gw S c n cf).map (λp=>(p.d,p.k,b7 S.N p.st.g p.az,p.st.new u))=some (some u,.a .box,some [cv x],true):=by kernel_rfl):Le m (cn S c Q cf):=by
 have⟨p,w,a⟩:=fc B;simp at a;refine vo w ?_ h;rw[a.1,a.2.1,As,a.2.2.1];simp only[ζb,a.2.2.2,if_true,pS,kJ,sq]
def UW(u o sz:Nat)(xs:SW)(p:IT):St:=match bn p.st.m u with
 |some (.box cs)=>c8 {p.st with m:=bR p.st.m u (.box (cs.take o++xs++cs.drop (o+sz)))} p.d (.v .undef)|_=>p.st
theorem oh(n u o:Nat)(x:α){m:a_ β}(h:Le m (cn S c Q (nx S c n cf (UW u o (bH.size α) ((cells x).map .v)))))
 (B:(gw S c n cf).map (λp=>(p.k,b7 S.N p.st.g p.az,(!p.dr||p.now),match bn p.st.m u with|some (.box cs)=>ble (o+bH.size α) cs.length|_=>false))=some (.l (.store (bH.size α)),some [.ptr u o,cv x],true,true):=by kernel_rfl):Le m (cn S c Q cf):=by
 have⟨p,C,a⟩:=fc B;simp only[ζc]at a;refine vo C ?_ h;have⟨b,D,G,z⟩:=a;split at z
 next cs w=>have I:=Nat.le_of_ble_eq_true z;rw[b,xF,D];simp only[ζb,G,if_true,oe,w,putCells,kJ,gT,sq,I,and_self,map_some,UW]
 simp_all
theorem yZ(n u:Nat)(xs:aZ α){m:a_ β}(h:Le m (cn S c Q (nx S c n cf λp=>{p.st with g:=bR p.st.g u (.own u),m:=bR p.st.m u (cO (.row xs))})))
 (B:(gw S c n cf).map (λp=>(p.d,YJ p.k,b7 S.N p.st.g p.az,p.st.new u))=some (some u,some (bH.size α,xs.length,range' 0 xs.length),some ((xs.map enc).map .v),true):=by kernel_rfl):Le m (cn S c Q cf):=by
 have⟨p,w,a⟩:=fc B;simp at a;have⟨b,G⟩:=kG w;have⟨dr,fr,d,gd,now,k,az,dd,l,fs,st⟩:=p;obtain⟨rfl,C,I,D⟩:=a;obtain⟨z,rfl⟩:=YE C;exact Abs n dr fr (⟨some u,gd,now,.a (.buildSl (bH.size α) xs.length z (range' 0 xs.length)),az,dd,[]⟩::l) fs st xs rfl D Zac (by
  simp[nx,w]at h;omega)
theorem Y3(n:Nat)(x:α)(vs z:So)(pl:aZ (Nat×Nat)){m:a_ β}(B:mq z pl vs=some (cells x))(D:bH.agg α=true)(h:Le m (cn S c Q (nx S c n cf λp=>c8 p.st p.d (cv x))))
 (G:(gw S c n cf).map (λp=>(p.k,b7 S.N p.st.g p.az))=some (.p (.build z pl),some (vs.map .v)):=by kernel_rfl):Le m (cn S c Q cf):=by
 have⟨p,u,a⟩:=fc G;simp at a;have⟨b,w⟩:=kG u;have⟨dr,fr,d,gd,now,k,az,dd,l,fs,st⟩:=p;obtain⟨rfl,C⟩:=a;exact abp n dr fr (⟨d,gd,now,.p (.build z pl),az,dd,[]⟩::l) fs st x vs rfl B D Zac (by
  simp only[nx,u]at h;omega)
end
theorem abA(n:Nat){k:T2}{a b:Int}{f:Int->a_ γ}(h:∀x,AL k a b=some x->Le ((f x).bind e) (cn S c Q (nx S c n cf λp=>c8 p.st p.d (.v (.int k x)))))
 (B:(gw S c n cf).map (λp=>(OZ p.k,b7 S.N p.st.g p.az))=some (some .quo,some [.v (.int k a),.v (.int k b)]):=by kernel_rfl):Le (((AL k a b).bind f).bind e) (cn S c Q cf):=by
 have⟨p,w,d⟩:=fc B;simp at d;have⟨t,u,g⟩:=Xd d.1;refine rK w ?_ h;rw[g];exact Le.of_eq (ZX d.2)
theorem Ce(n:Nat)(k:T2){a:U'}{b:Int}{f:Int->a_ γ}(h:∀x,mD a b=some x->Le ((f x).bind e) (cn S c Q (nx S c n cf λp=>c8 p.st p.d (.v (.int .u8 x)))))
 (B:(gw S c n cf).map (λp=>(p.k,b7 S.N p.st.g p.az))=some (.p .idxStr,some [.v (.str a),.v (.int k b)]):=by kernel_rfl):Le (((mD a b).bind f).bind e) (cn S c Q cf):=by
 have⟨p,u,d⟩:=fc B;simp at d;refine rK u ?_ h;rw[d.1];exact Le.of_eq (Sg d.2)
section
variable{A:α->So}{E:δ->So}{pl:α->a_ δ}{fn:Y'}{sc:X'}
theorem yX(n:Nat)(F:gC S c fn A E pl sc)(z:α){f:δ->a_ γ}(h:∀x,pl z=some x->Le ((f x).bind e) (cn S c Q (nx S c n cf λp=>c8 p.st p.d (.v (result (E x))))))
 (B:(gw S c n cf).map (λp=>(p.k,(b7 S.N p.st.g p.az).bind mb,(!p.dr||p.now||gF p.st.m p.fr [])))=some (.c,some (fn,(A z).map .v),true):=by kernel_rfl):Le (((pl z).bind f).bind e) (cn S c Q cf):=by
 have⟨p,C,b⟩:=fc B;simp at b;have⟨D,G,O⟩:=b;have⟨I,g1,g2⟩:=ζg.1 G;have u:∀d(w:So),SV.dW d (w.map .v)=false:=λd w=>by induction w with|nil=>rfl|cons a l J=>simp[SV.dW,SV.dc,J]
 have L:(!p.dr||p.now||gF p.st.m p.fr ((A z).map .v))=true:=by have:gF p.st.m p.fr ((A z).map .v)=gF p.st.m p.fr []:=(by unfold gF;simp[u];rfl);grind
 refine rK C ?_ h;rw[D];exact JP (F.h z) F.k g1 g2 (JY _ _ _) L (λr=>by rw[n9];simp)
theorem Zx(n:Nat)(F:gC S c fn A E pl true)(z:α){f:δ->a_ γ}(h:∀x,pl z=some x->Le ((f x).bind e) (cn S c Q (nx S c n cf λp=>c8 p.st p.d (.v (result (E x))))))
 (B:(gw S c n cf).map (λp=>(p.k,((b7 S.N p.st.g p.az).bind mb).bind λq=>(om (jf p.st.m 8) q.2).map λvs=>(q.1,vs,((!p.dr||p.now)||gF p.st.m p.fr q.2))))=some (.c,some (fn,A z,true)):=by kernel_rfl):Le (((pl z).bind f).bind e) (cn S c Q cf):=by
 have⟨p,u,a⟩:=fc B;simp at a;have⟨w,C⟩:=a;have⟨q,g1,g2⟩:=ζg.1 C;have⟨D,g3,g4⟩:=ζg.1 g1;have⟨vs,g5,g6⟩:=ζf.1 g2;simp only[ζc]at g6;obtain⟨e1,rfl,e3⟩:=g6;refine rK u ?_ h;rw[w];exact JP (F.h z) F.k g3 Zac g5 e3 (λr=>by rw[F.s rfl];rfl)
end
section
variable{N:Nat}[bH α]
theorem Pm(n:Nat)(k:T2){a:cz N α}{i:Int}{f:α->a_ γ}(h:∀x,a.at i=some x->Le ((f x).bind e) (cn S c Q (nx S c n cf λp=>c8 p.st p.d (.v (.fptr (pa a i))))))
 (B:(gw S c n cf).map (λp=>(p.k,b7 S.N p.st.g p.az))=some (.p (.idxA N (bH.size α)),some [cp a,.v (.int k i)]):=by kernel_rfl):Le (((a.at i).bind f).bind e) (cn S c Q cf):=by
 have⟨p,u,b⟩:=fc B;simp at b;have⟨g,z⟩:=kG u;have⟨dr,fr,d,gd,now,C,az,dd,l,fs,st⟩:=p;obtain⟨rfl,D⟩:=b;exact aap n dr fr (⟨d,gd,now,.p (.idxA N (bH.size α)),az,dd,[]⟩::l) fs st k rfl Zac λx w=>by have:=h x w;simp only[nx,u]at this;omega
theorem Ur(n k:Nat)(a:cz N α)(i:Int)(o:Nat)(x:α)(B:a.at i=some x){m:a_ β}(h:Le m (cn S c Q (nx S c n cf λp=>c8 p.st p.d (.v (.fptr ((pa a i).drop (o+k)))))))
 (D:(gw S c n cf).map (λp=>(p.k,b7 S.N p.st.g p.az,ble (o+k) (bH.size α)))=some (.p (.fieldAddr k),some [.v (.fptr ((pa a i).drop o))],true):=by kernel_rfl):Le m (cn S c Q cf):=by
 have⟨p,u,b⟩:=fc D;simp at b;have⟨e,w⟩:=kG u;have⟨dr,fr,d,gd,now,z,az,dd,l,fs,st⟩:=p;obtain⟨rfl,C,G⟩:=b;exact abz n dr fr (⟨d,gd,now,.p (.fieldAddr k),az,dd,[]⟩::l) fs st a i o x B rfl Zac (by
  simp only[nx,u]at h;omega)
theorem PF(n sz:Nat)(ag:X')(a:cz N α)(i:Int)(o:Nat)(x:α)(B:a.at i=some x)(v:V)(b:(cut (cells x) o sz).bind (mk ag)=some v){m:a_ β}(h:Le m (cn S c Q (nx S c n cf λp=>c8 p.st p.d (.v v))))
 (D:(gw S c n cf).map (λp=>(p.k,b7 S.N p.st.g p.az))=some (.r (.load sz ag),some [.v (.fptr ((pa a i).drop o))]):=by kernel_rfl):Le m (cn S c Q cf):=by
 have⟨p,w,u⟩:=fc D;simp at u;have⟨e,z⟩:=kG w;have⟨dr,fr,d,gd,now,C,az,dd,l,fs,st⟩:=p;obtain⟨rfl,G⟩:=u;exact aaM n dr fr (⟨d,gd,now,.r (.load sz ag),az,dd,[]⟩::l) fs st a i o x B b v rfl Zac (by
  simp only[nx,w]at h;omega)
theorem ZH(n u:Nat)(st:St)(cs:SW){m:a_ β}(B:st.new u=true)(h:Le m (cn S c Q (nx S c n cf λ_=>{st with g:=bR st.g u (.ptr u 0),m:=bR st.m u (.box cs)})))
 (D:(gw S c n cf).map (λp=>(p.d,(Zt p.k).map (λz=>z.map SV.v),b7 S.N p.st.g p.az,p.st))=some (some u,some cs,some [],st):=by kernel_rfl):Le m (cn S c Q cf):=by
 have⟨p,C,a⟩:=fc D;simp only[ζc]at a;have⟨z,G,w⟩:=fc a.2.1;have⟨k,b⟩:=Yo G;refine vo C ?_ h;rw[a.1,b,As,a.2.2.1,a.2.2.2];simp[B,pS,w]
theorem Jl(n:Nat)(k:T2)(u:Nat){a:cz N α}{i:Int}{f:α->a_ γ}(h:∀x,a.at i=some x->Le ((f x).bind e) (cn S c Q (nx S c n cf λp=>c8 p.st p.d (.ptr u (i.toNat*bH.size α+0)))))
 (B:(gw S c n cf).map (λp=>(p.k,b7 S.N p.st.g p.az,bn p.st.m u))=some (.p (.idxA N (bH.size α)),some [.ptr u 0,.v (.int k i)],some (bx a)):=by kernel_rfl):Le (((a.at i).bind f).bind e) (cn S c Q cf):=by
 have⟨p,w,b⟩:=fc B;simp at b;have⟨g,C⟩:=kG w;have⟨dr,fr,d,gd,now,D,az,dd,l,fs,st⟩:=p;obtain⟨rfl,G,I⟩:=b;exact ZW n dr fr (⟨d,gd,now,.p (.idxA N (bH.size α)),az,dd,[]⟩::l) fs st k u rfl Zac λx z=>by have:=h x z;simp only[nx,w]at this;omega
theorem Vv(n sz:Nat)(ag:X')(u:Nat)(a:cz N α)(i:Int)(o:Nat)(x:α)(B:a.at i=some x)(v:V)(b:(cut (cells x) o sz).bind (mk ag)=some v){m:a_ β}(h:Le m (cn S c Q (nx S c n cf λp=>c8 p.st p.d (.v v))))
 (D:(gw S c n cf).map (λp=>(p.k,b7 S.N p.st.g p.az,bn p.st.m u,(!p.dr||p.now||fL p.fr [.ptr u 0])))=some (.r (.load sz ag),some [.ptr u (i.toNat*bH.size α+o)],some (bx a),true):=by kernel_rfl):Le m (cn S c Q cf):=by
 have⟨p,z,w⟩:=fc D;simp at w;have⟨e,C⟩:=kG z;have⟨dr,fr,d,gd,now,G,az,dd,l,fs,st⟩:=p;obtain⟨rfl,I,J,L⟩:=w;exact aaD n dr fr (⟨d,gd,now,.r (.load sz ag),az,dd,[]⟩::l) fs st u a i o x B b v rfl Zac (by
  simp only[nx,z]at h;omega)
end
section
variable{κ ν:Type}[bH κ][DecidableEq κ][Key κ][bH ν]
theorem aav(n u:Nat)(mp:Mo κ ν)(k:κ)(z:ν){m:a_ β}(h:Le m (cn S c Q (nx S c n cf λp=>c8 p.st p.d (cv (pe mp k z)))))
 (B:(gw S c n cf).map (λp=>(p.k,b7 S.N p.st.g p.az,bn p.st.m u,(!p.dr||p.now||fL p.fr [.mp u,cv k])))=some (.r (.lookup (Key.kk κ) (enc z) false),some [.mp u,cv k],some (vM mp),true):=by kernel_rfl):Le m (cn S c Q cf):=by
 have⟨p,w,a⟩:=fc B;simp at a;have⟨b,C⟩:=kG w;have⟨dr,fr,d,gd,now,D,az,dd,l,fs,st⟩:=p;obtain⟨rfl,G,I,J⟩:=a;exact aar n dr fr (⟨d,gd,now,.r (.lookup (Key.kk κ) (enc z) false),az,dd,[]⟩::l) fs st u mp k z rfl Zac (by
  simp only[nx,w]at h;omega)
theorem Yf(n u:Nat)(mp:Mo κ ν)(k:κ)(v:ν){m:a_ β}(h:Le m (cn S c Q (nx S c n cf λp=>c8 {p.st with m:=bR p.st.m u (vM (nu mp k v))} p.d (.v .undef))))
 (B:(gw S c n cf).map (λp=>(p.k,b7 S.N p.st.g p.az,bn p.st.m u,(!p.dr||p.now)))=some (.l (.mapUp (Key.kk κ)),some [.mp u,cv k,cv v],some (vM mp),true):=by kernel_rfl):Le m (cn S c Q cf):=by
 have⟨p,z,w⟩:=fc B;simp at w;have⟨a,C⟩:=kG z;have⟨dr,fr,d,gd,now,D,az,dd,l,fs,st⟩:=p;obtain⟨rfl,G,I,J⟩:=w;exact abG n dr fr (⟨d,gd,now,.l (.mapUp (Key.kk κ)),az,dd,[]⟩::l) fs st u mp k v rfl Zac (by
  simp[nx,z]at h;omega)
end
theorem aao(n:Nat)(st:St){rs:aZ RV}{e:γ->a_ So}{r:γ}(svs:SW){ys:So}(B:om (jf st.m 8) svs=some ys)(D:e r=some ys)
 (h:(iR S c n cf.1 cf.2.1 cf.2.2).map (λq=>(q.1,q.2.2,lS q.2.2 rs))=some (.rt,st,some svs):=by kernel_rfl):Le ((some r).bind e) (cn S c (qj rs) cf):=by
 have⟨⟨fo,fs,st'⟩,u,a⟩:=fc h;simp at a;obtain⟨rfl,rfl,w⟩:=a;exact Z6 n svs B (by rw[u,w]) D
end
end Go.VE
namespace Go.VE
variable[b_]
section
variable{S:Sys}{c:cr}{β γ δ α:Type}[bH α]{Q:Out×St->a_ β}{e:γ->a_ β}{cf:Cf}
def oV(s x:Sl α):a_ (Sl α):=if x.l=[]then some s else if s.l.length+x.l.length<=2147483648 then some (.row (s.l++x.l))else none
theorem Ws(m:Tb bN)(n w:Nat)(x:Sl α)(B:n=bH.size α)(D:bn m w=some (cO x)):ki m n (.own w)=some (rows x.l):=by rw[GK,D,CQ n x B]
theorem KF(l:aZ α):rows l=[]↔l=[]:=by unfold rows;simp
theorem Uc(a b:aZ α):rows a++rows b=rows (a++b):=by unfold rows;simp
theorem LJ(a:aZ α):(rows a).length=a.length:=by unfold rows;simp
theorem ZI{st:St}{dr now:X'}{fr:ST}{az:QQ}{d n o:Nat}{s x:Sl α}{B:SV}(U:b7 S.N st.g az=some [.own o,B])(hd:(!dr||now)=true)(D:bn st.m o=some (cO s))(W:ki st.m n B=some (rows x.l))(G:n=bH.size α)(J:St.new {st with m:=eR o st.m} d=true):
 gx S c dr fr ⟨some d,none,now,.l (.append n),az,[],[]⟩ st=(oV s x).bind λY=>some {st with g:=bR st.g d (.own d),m:=bR (eR o st.m) d (cO Y)}:=by
 rw[xF,U];simp only[ζb,hd,if_true,Bu,Ws st.m n o s G D,W];unfold oV
 by_cases h:x.l=[]
 .rw[if_pos h,(KF x.l).2 h];simp only[AX,D,if_pos J,ζb];rfl
 rw[if_neg h];have a:rows x.l≠[]:=λe=>h ((KF _).1 e)
 have w:AX st d n (.own o) (some (rows s.l)) (some (rows x.l))=if(rows s.l).length+(rows x.l).length<=2147483648/\Kz (.own o)=true then(if St.new {st with m:=giveUp st.m (.own o)} d then some (.own d,{st with m:=bR (giveUp st.m (.own o)) d (.sl .row n (rows s.l++rows x.l))})else none)else none:=by unfold AX;generalize rows x.l=r at *;cases r with|nil=>exact absurd rfl a|cons y r=>rfl
 rw[w,LJ,LJ,Uc]
 by_cases u:s.l.length+x.l.length<=2147483648
 .rw[if_pos ⟨u,rfl⟩,if_pos (show St.new {st with m:=giveUp st.m (.own o)} d=true from J),if_pos u];rw[ζb,ζb,G];rfl
 rw[if_neg (λk=>u k.1),if_neg u];rfl
theorem aaQ(n o u:Nat)(D:SV){s x:Sl α}{f:Sl α->a_ γ}(G:∀p,gw S c n cf=some p->ki p.st.m (bH.size α) D=some (rows x.l))
 (h:∀B,oV s x=some B->Le ((f B).bind e) (cn S c Q (nx S c n cf λp=>{p.st with g:=bR p.st.g u (.own u),m:=bR (eR o p.st.m) u (cO B)})))
 (J:(gw S c n cf).map (λp=>(p.d,p.k,b7 S.N p.st.g p.az,(!p.dr||p.now),bn p.st.m o,St.new {p.st with m:=eR o p.st.m} u))=some (some u,.l (.append (bH.size α)),some [.own o,D],true,some (cO s),true):=by kernel_rfl):Le (((oV s x).bind f).bind e) (cn S c Q cf):=by
 have⟨p,w,a⟩:=fc J;simp only[ζc]at a;refine rK w ?_ h;rw[a.1,a.2.1];exact Le.of_eq (ZI a.2.2.1 a.2.2.2.1 a.2.2.2.2.1 (G p w) rfl a.2.2.2.2.2)
theorem Pz(m:Tb bN)(x:Sl α):ki m (bH.size α) (.v (b9 x))=some (rows x.l):=by cases x<;>simp[b9,Sl.k,Sl.l,qc,ki,rows]
theorem z6(n o u:Nat){s x:Sl α}{f:Sl α->a_ γ}
 (h:∀B,oV s x=some B->Le ((f B).bind e) (cn S c Q (nx S c n cf λp=>{p.st with g:=bR p.st.g u (.own u),m:=bR (eR o p.st.m) u (cO B)})))
 (D:(gw S c n cf).map (λp=>(p.d,p.k,b7 S.N p.st.g p.az,(!p.dr||p.now),bn p.st.m o,St.new {p.st with m:=eR o p.st.m} u))=some (some u,.l (.append (bH.size α)),some [.own o,.v (b9 x)],true,some (cO s),true):=by kernel_rfl):Le (((oV s x).bind f).bind e) (cn S c Q cf):=
 aaQ n o u _ (λp _=>Pz p.st.m x) h D
end
theorem th{α:Type}{l:aZ α}{i:Nat}{x:α}(h:l[i]?=some x):l.set i x=l:=by obtain⟨hi,rfl⟩:=ζe.1 h;exact List.set_getElem_self hi
open Classical in
def DV(E:Env)(g:Y')(cb:So)(a b:V):a_ V:=if h:∃n y,cw (run E n) g (a::b::cb) []=some y then some (Classical.choose (choose_spec h))else none
theorem GC{E:Env}{g:Y'}{cb:So}{a b y:V}(h:DV E g cb a b=some y):∃n,∀k,n<=k->cw (run E k) g (a::b::cb) []=some y:=by
 unfold DV at h;split at h;next c=>cases h;exact⟨_,λk d=>pX (pY E d) (choose_spec (choose_spec c))⟩
 cases h
theorem Nd{E:Env}{g:Y'}{cb:So}{a b y:V}{n:Nat}(h:cw (run E n) g (a::b::cb) []=some y):DV E g cb a b=some y:=by have d:∃n y,cw (run E n) g (a::b::cb) []=some y:=⟨n,y,h⟩;cases c:DV E g cb a b with|none=>unfold DV at c;rw[dif_pos d]at c;cases c|some z=>have⟨m,u⟩:=GC c;have:=u _ (Nat.le_max_right n m);rw[pX (pY E (Nat.le_max_left n m)) h]at this;cases this;rfl
theorem GO{n:Nat}{p:_root_.Fin n->Nat->Prop}(h:∀i,∃N,∀k,N<=k->p i k):∃N,∀i k,N<=k->p i k:=by induction n with|zero=>exact⟨0,λi=>i.elim0⟩|succ n u=>have⟨N,w⟩:=u (p:=λi=>p i.succ) λi=>h i.succ;have⟨M,a⟩:=h 0;refine⟨max N M,λi k b=>?_⟩;refine _root_.Fin.cases (a k Zaa) (λj=>w j k Zaa) i
def jy(x:So):V:=x.headD .undef
def v8(es:Nat)(xs:S'):X':=es==1&&xs.all (λx=>x.length==1&&x.all V.one)&&decide (xs.length<=2147483648)
theorem AM{es:Nat}{xs:S'}(h:v8 es xs=true):es=1/\xs.length<=2147483648/\∀(i:Nat)x,xs[i]?=some x->x=[jy x]/\(jy x).one=true:=by unfold v8 at h;simp only[ζh,beq_iff_eq,all_eq_true,decide_eq_true_eq]at h;refine⟨h.1.1,h.2,λi x w=>?_⟩;have⟨a,z⟩:=h.1.2 x (mem_of_getElem? w);obtain⟨u,rfl⟩:=List.length_eq_one_iff.1 a;exact⟨rfl,z u Zab⟩
section
variable{H:bp}{Z:Nat->Prop}
theorem dK.NP{k:Nat}{xs ys:So}(h:dK H Z xs ys)(B:V.mS k xs=true):borrows k H ys=some xs:=mh h.1 λj u v a b=>(h.2 j u v a b).borrow k (oa.1 B j u a)
theorem dK.borrows{xs ys:So}(h:dK H Z xs ys):∃n,∀k,n<=k->borrows k H ys=some xs:=by have⟨n,u⟩:=nS xs;exact⟨n,λk a=>h.NP (qF a u)⟩
theorem Q6{es:Nat}{xs:S'}(h:v8 es xs=true){rs:S'}(B:hU H Z xs rs):dK H Z (xs.map jy) rs.flatten:=by induction xs generalizing rs with|nil=>have:=B.1;simp at this;have:rs=[]:=List.eq_nil_of_length_eq_zero (by simpa using this.symm);subst this;exact .nil|cons x xs D=>have⟨d,L,G⟩:=AM h;cases rs with|nil=>have:=B.1;simp at this|cons r rs=>have⟨e,_⟩:=G 0 x rfl;have C:=B.2 0 x r rfl rfl;rw[e]at C;obtain⟨u,O,rfl,c,w⟩:=C.inv;rw[w.dh];have z:v8 es xs=true:=(by unfold v8 at h⊢;simp only[all_cons,ζh,length_cons,decide_eq_true_eq]at h⊢;exact⟨⟨h.1.1,h.1.2.2⟩,Zaa⟩);exact .cons c (D z (rs:=rs) ⟨by have:=B.1;simpa using this,λj a b I J=>B.2 (j+1) a b I J⟩)
end
def ve(E:Env)(g:Y')(cb:So)(a b:V):Pi:=match DV E g cb a b with|some (.int .i64 c)=>some c|_=>none
theorem Uj{E:Env}{g:Y'}{cb:So}{a b:V}{c:Int}(h:ve E g cb a b=some c):∃n,∀k,n<=k->cw (run E k) g (a::b::cb) []=some (.int .i64 c):=by
 unfold ve at h;split at h;next c' d=>cases h;exact GC d
 cases h
def Bt(E:Env)(es:Nat)(xs:S'):So->a_ S'
 |[.clo g [] cb]=>match xs with
  |[]=>some []|x::l=>if v8 es (x::l)&& !E.keep g then
   let t:_root_.Fin (l.length+1)->_root_.Fin (l.length+1)->Pi:=λi j=>ve E g cb (jy (((x::l)[i.1]?).getD [])) (jy (((x::l)[j.1]?).getD []))
   if De t then some ((sJ l.length (qY t)).toList.map λi=>((x::l)[i.1]?).getD [])else none
   else none
 |_=>none
def uV(E:Env):Hy:=⟨false,Bt E⟩
theorem FA{n:Nat}{lt:_root_.Fin (n+1)->_root_.Fin (n+1)->X'}(h:Sort.SWO lt):(sJ n lt).size=n+1:=by rw[Ey];have:=(Sort.pdq_sorts lt h (List.finRange (n+1)).toArray 0 (n+1) (Lib.bitLen (n+1)) true true (zero_le _) Zab (Or.inl rfl)).1.1;simpa using this
theorem TR{E:Env}{f:Y'}(m:E.keep f=true)(ho:E.own f=false)(A:E.sort f=true)(F:E.ft f=none):oU E f (uV E)where
 keep:=m
 own:=ho
 le:=by intro es xs vs ys h;simp only[uV,Bt]at h;split at h;split at h;cases h;exact⟨le_refl _,λ_=>rfl⟩;split at h;split at h;(next q=>cases h;have:=FA (rW q).2;simp only[length_map,Array.length_toList,length_cons,this];exact⟨le_refl _,λ_=>trivial⟩);cases h;cases h;cases h
 none:=by intro es vs ys h H Z ws w K he;simp only[uV,Bt]at h;split at h;obtain⟨R,r,rfl,V,M⟩:=K.inv;rw[M.dh];refine⟨1,[],λk m=>?_⟩;(cases k with|zero=>omega|succ k=>rcases he with rfl|rfl<;>simp[run,lg,F,A,sC,uV]);cases h
 row:=by
  intro es xs vs ys h H Z ws id off rs K O C I z hz;simp only[uV,Bt]at h;split at h;rename_i g cb;obtain⟨R,r,rfl,V,M⟩:=K.inv;rw[M.dh];obtain⟨a',J,rfl,s,aa⟩:∃a' J,R=.clo g a' J/\dK H Z [] a'/\dK H Z cb J:=V.lG;rw[s.dh]at *;split at h;cases h;refine⟨1,rs,[],λk m=>?_,rfl,⟨rfl,λj u v o=>by simp at o⟩,z⟩;cases k with|zero=>omega|succ k=>have:H.set id (.row es rs)=H:=th O;simp[run,lg,F,A,sC,uV,this]
  rename_i x l;split at h;rename_i D;simp only[ζh,Bool.not_eq_true']at D;obtain⟨c1,c3⟩:=D;obtain⟨rfl,Q,ae⟩:=AM c1;split at h;rename_i q;cases h;obtain⟨G,S⟩:=rW q;have B:∀i,Z i->Z i/\bt (H.set id .dead) i=bt H i:=λi hi=>⟨hi,by unfold bt;rw[getElem?_set_ne];rintro rfl;exact hz hi⟩;have T:=I.mono B;obtain⟨M1,U⟩:=(Q6 c1 T).borrows;simp only[length_cons]at U;obtain⟨M2,W⟩:=(aa.mono B).borrows;obtain⟨N,P⟩:=GO (p:=λi k=>∀j:_root_.Fin (l.length+1),cw (run E k) g (jy (((x::l)[i.1]?).getD [])::jy (((x::l)[j.1]?).getD [])::cb) []=some (.int .i64 ((ve E g cb (jy (((x::l)[i.1]?).getD [])) (jy (((x::l)[j.1]?).getD []))).getD 0))) (λi=>by
   obtain⟨N,P⟩:=GO (p:=λ(j:_root_.Fin (l.length+1))k=>cw (run E k) g (jy (((x::l)[i.1]?).getD [])::jy (((x::l)[j.1]?).getD [])::cb) []=some (.int .i64 ((ve E g cb (jy (((x::l)[i.1]?).getD [])) (jy (((x::l)[j.1]?).getD []))).getD 0))) (λj=>by
    obtain⟨c,d⟩:=G i j;obtain⟨n,hn⟩:=Uj d;exact⟨n,λk m=>by rw[hn k m,d];rfl⟩)
   exact⟨N,λk m j=>P j k m⟩)
  have X:∀k,N<=k->jS (run E k) g ((x::l).map jy) cb l.length=λi j=>ve E g cb (jy (((x::l)[i.1]?).getD [])) (jy (((x::l)[j.1]?).getD [])):=λk m=>by funext i j;obtain⟨c,d⟩:=G i j;have e1:∀i:_root_.Fin (l.length+1),((x::l).map jy)[i.1]?=some (jy (((x::l)[i.1]?).getD [])):=λi=>(by have:i.1<(x::l).length:=i.2;rw[getElem?_map,ζd this];rfl);unfold jS;rw[e1 i,e1 j];simp only[P i k m j];rw[d];rfl
  have ab:=FA S;generalize hL:(sJ l.length (qY λi j:_root_.Fin (l.length+1)=>ve E g cb (jy (((x::l)[i.1]?).getD [])) (jy (((x::l)[j.1]?).getD [])))).toList=L at *;have ad:L.length=l.length+1:=by rw[<-hL];simpa using ab
  simp only[length_cons]at C I Q;refine⟨max N (max M1 M2)+1,tC rs off l.length L,[],λk m=>?_,?_,?_,?_⟩;cases k with|zero=>omega|succ k=>simp only[run,lg,F,A,if_true,sC,O,uV,false_eq_true,if_false,length_cons];rw[if_pos ⟨trivial,trivial,C,Zaa,c3⟩,show(run E k).lv=k from pV E k,U k Zaa,W k Zaa];simp only[X k Zaa,q,if_true,hL,append_nil]
  simp[tC,ad];omega;have e:((tC rs off l.length L).drop off).take (L.map λi=>((x::l)[i.1]?).getD []).length=L.map λi=>(rs[off+i.1]?).getD []:=by unfold tC;have h0:(rs.take off).length=off:=(by simp;omega);rw[append_assoc,List.drop_append_of_le_length Zaa,List.drop_eq_nil_of_le Zaa,nil_append,length_map,List.take_append_of_le_length Zab,take_of_length_le Zab]
  rw[e];refine⟨Zab,λj a b s t=>?_⟩;rw[getElem?_map]at s t;obtain⟨i,hi,rfl⟩:=ζf.1 s;rw[hi]at t;simp only[map_some,ζa]at t;subst t;have Y:i.1<(x::l).length:=i.2;have y:off+i.1<rs.length:=by have:=i.2;omega
  refine I.2 i.1 _ _ (by rw[ζd Y];rfl) ?_;rw[getElem?_take,if_pos i.2,getElem?_drop,ζd y];rfl;intro c d u o;unfold tC at d;rcases mem_append.1 d with d|d;rcases mem_append.1 d with d|d;exact z c (List.mem_of_mem_take d) u o;obtain⟨i,_,rfl⟩:=mem_map.1 d;have y:off+i.1<rs.length:=by have:=i.2;omega
  rw[ζd y]at o;exact z _ (getElem_mem y) u o;exact z c (List.mem_of_mem_drop d) u o;cases h;cases h;cases h
def bB(N:Nat->Y')(F:WP):Arg->V
 |.s n=>get F n|.k c=>c|.f s=>.clo (N s) [] []
def bK(E:Env)(N:Nat->Y')(call:dQ)(b:a_ Nat)(now:X')(k:K)(vs:So)(H:bp):a_ (V×bp):=
 match k,b with
 |.p p,_=>(bq N p vs).map λv=>(v,H)|.r r,none=>(fE H r vs).map λv=>(v,H)|.r r,some b=>(fE (H.take b) r vs).map λv=>(v,H)|.a a,none=>(jg a vs).map λx=>(x.2.val H.length,H++[x.1])|.l l,none=>fT H l vs|.l (.store n),some _=>if now then fT H (.store n) vs else none|.c,none=>match vs with
  |.clo g a c::u=>if E.keep g then fM E call g (a++u++c) H else match cw call g (a++u++c) H with
   |some y=>if y.scalar then some (y,H)else none|none=>none
  |_=>none
 |.c,some b=>match vs with
  |.clo g a c::u=>if E.keep g then none else match cw call g (a++u++c) (H.take b)with
   |some y=>if y.scalar then some (y,H)else none|none=>none
  |_=>none
 |_,_=>none
def bz(F:WP):a_ Nat->V->WP
 |none,_=>F|some d,v=>set F d v
def cQ(E:Env)(N:Nat->Y')(call:dQ)(b:a_ Nat):Rd->WP->bp->a_ (WP×bp)
 |[],F,H=>some (F,H)|o::r,F,H=>match o.gd with
  |none=>match bK E N call b o.now o.k (o.az.map (bB N F)) H with
   |some (v,H')=>cQ E N call b r (bz F o.dst v) H'|none=>none
  |some _=>none
section
variable{X:CX}{N:Nat->Y'}{call:dQ}{F F':WP}{H H':bp}
theorem NK(B:∀f s,X.nm f=some s->N s=f){o:UV}{x:Arg}(h:qQ X.nm o=some x):ev F o=some (bB N F x):=by cases o with|tmp t=>simp[qQ]at h;subst h;rfl|const w=>simp[qQ]at h;split at h;rename_i c a;split at h;simp at h;subst h;exact a;grind;grind|func f=>obtain⟨s,u,rfl⟩:=ζf.1 h;show some (V.clo f [] [])=some (.clo (N s) [] []);grind|global i=>simp[qQ]at h;split at h;rename_i c a;split at h;simp at h;subst h;simp[ev,a];rfl;grind;grind
theorem yu(G:∀f s,X.nm f=some s->N s=f):∀{os:aZ UV}{B:QQ},os.mapM (qQ X.nm)=some B->gj F os=some (B.map (bB N F))
 |[],B,h=>by simp at h;subst h;rfl|o::os,B,h=>by simp[ζg]at h;obtain⟨x,J,xs,D,rfl⟩:=h;simp[gj,NK G J,yu G D]
theorem B5(D:∀f s,X.nm f=some s->N s=f){B:X'}{ops:R0}{i:Nat}{o:Oper}{ro:RO}(h:pK X B ops i o=some ro)(g:ro.gd=none):
 o.dst=ro.dst/\AE X.nt o.dst=true/\gO ops F o=true/\((Dd X.E N F o.op (ro.az.map (bB N F)) ro.k/\ro.now=(B&&dV ops i)/\(B=true->dV ops i=false->∀a',rm ops i a'=[]\/∀t,o.op≠.load t (.tmp a')))\/(∃n,ro.k=.l (.storeF n))\/(∃n a,ro.k=.r (.loadF n a))\/(B=true/\EU X.E ops i=true/\dF o.op=.alloc/\(∃p,ro.k=.p p/\(p=.emptyC\/(∃a b,p=.makeC a b)\/∃a b c d,p=.buildC a b c d)/\∀y,bq N p (ro.az.map (bB N F))=some y->qW X.E F o.op=some y))\/∃n,ro.k=.e n):=by
 unfold pK at h;split at h
 .rename_i hd;split at h
  .rename_i gd k os u hr;split at h
   .split at h
    .rename_i z;simp only[ζh]at z;have L:∀{gd:a_ (Nat×X')},D0 ops o=some gd->gd=none->gO ops F o=true:=λ{gd}u g=>by
      subst g;unfold gO;unfold D0 at u
      cases G:o.guard with
      |none=>rfl|some O=>rw[G]at u;have⟨j,b⟩:=O;have⟨d,_,e⟩:=ζf.1 u;cases e
     split at h
     next Q=>obtain⟨S,C,rfl⟩:=ζf.1 h;have w:=ku D hr (yu (F:=F) D C);exact⟨rfl,hd,L u g,.inr (.inr (.inr (.inl ⟨z.1,z.2,w.1,_,rfl,.inr (.inl ⟨_,_,rfl⟩),λy I=>FC ⟨_,_,_,by assumption⟩ w I⟩)))⟩
     .rename_i Q;split at h
      next T=>obtain⟨U,rfl,rfl⟩:=T;obtain⟨S,C,rfl⟩:=ζf.1 h;have w:=ku D hr (yu (F:=F) D C);exact⟨rfl,hd,L u g,.inr (.inr (.inr (.inl ⟨z.1,z.2,w.1,_,rfl,.inl rfl,λy I=>FX ⟨_,_,_,by assumption⟩ w U I⟩)))⟩
      obtain⟨S,C,rfl⟩:=ζf.1 h;have w:=ku D hr (yu (F:=F) D C);exact⟨rfl,hd,L u g,.inr (.inr (.inr (.inl ⟨z.1,z.2,w.1,_,rfl,.inr (.inr ⟨_,_,_,_,rfl⟩),λy I=>E0 ⟨_,_,_,by assumption⟩ w I⟩)))⟩
     cases h
    obtain⟨S,C,rfl⟩:=ζf.1 h;simp only at g;subst g;refine⟨rfl,hd,?_,?_⟩
    .unfold gO;unfold D0 at u
     cases G:o.guard with
     |none=>rfl|some O=>rw[G]at u;have⟨j,b⟩:=O;have⟨d,_,e⟩:=ζf.1 u;cases e
    rcases Fa B ops i k os with⟨e,W⟩|⟨_,_,n,a,l,Y,_,_,_,e⟩|⟨_,_,n,ag,a,_,_,e⟩|⟨_,_,_,n,_,e⟩
    .rw[e]at C⊢;refine .inl ⟨ku D hr (yu D C),rfl,λhd Z a'=>?_⟩
     by_cases J:∃t,o.op=.load t (.tmp a')
     .have⟨t,J⟩:=J;rw[J]at hr;simp only[resolve]at hr;have⟨d,_,e⟩:=ζf.1 hr;simp only[ζc]at e;exact .inl (W _ _ a' hd Z e.1.symm e.2.symm)
     exact .inr λt h=>J ⟨t,h⟩
    .rw[e];exact .inr (.inl ⟨n,rfl⟩)
    .rw[e];exact .inr (.inr (.inl ⟨n,ag,rfl⟩))
    rw[e];exact .inr (.inr (.inr (.inr ⟨n,rfl⟩)))
   simp at h
  simp at h
 simp at h
theorem Lu{a:Nat}{dst:a_ Nat}(h:AE a dst=true)(v:V):kX a F dst v=some (bz F dst v):=by cases dst with|none=>rfl|some d=>simp[AE]at h;simp[kX,if_pos h,bz]
theorem Y_(J:∀f s,X.nm f=some s->N s=f){ops:R0}{i:Nat}{o:Oper}{ro:RO}(h:pK X false ops i o=some ro)(q:ro.gd=none){v:V}(d:bK X.E N call none ro.now ro.k (ro.az.map (bB N F)) H=some (v,H')):
 iu X.E call X.nt ops none o F H=some (bz F ro.dst v,H'):=by
 have⟨j,I,L,u⟩:=B5 (F:=F) J h q;have hd:dN X.E call ops none F H o.op=some (v,H'):=by
  rcases u with⟨u,_⟩|⟨n,u⟩|⟨n,a,u⟩|⟨u,_⟩|⟨n,u⟩;generalize t:ro.k=k at d u;generalize ro.az.map (bB N F)=U at d u;unfold dN;cases k with|p p=>have⟨c,e⟩:=u;have⟨w,B,C⟩:=ζf.1 d;rw[c];simp only[AU (e w B),map_some];rw[C]|r r=>have⟨c,e⟩:=u;have⟨w,B,C⟩:=ζf.1 d;rw[c];simp only[e H w B,map_some];rw[C]|a a=>have⟨c,e⟩:=u;have⟨⟨ob,m⟩,B,C⟩:=ζf.1 d;rw[c];simp only[tw,false_eq_true,if_false,e _ B];exact congrArg some C|l l=>have⟨c,e⟩:=u;rw[c];exact e H _ d|e n=>exact u.elim|b=>simp[bK]at d|c=>obtain⟨c,f,O,rfl,e⟩:=u;rw[c];simp only[bK]at d;split at d;rename_i g a b Q D;simp only[List.cons.injEq]at D;obtain⟨rfl,rfl⟩:=D;split at d;(next z=>simp only[e,mY,z,Bool.and_self,if_true];exact d);rename_i z;split at d;rename_i y S;split at d;(next G=>simp only[e,mY,z,Bool.false_and,false_eq_true,if_false,S,G,if_true];exact d);simp at d;simp at d;simp at d
  .rw[u]at d;exfalso;have:∀ops i k os,(zJ false ops i k os).1=k:=λ_ _ _ _=>rfl;unfold pK at h;simp only[Bool.false_and,false_eq_true,if_false]at h;split at h
   .split at h
    .rename_i gd k os T hr;split at h
     .obtain⟨O,W,rfl⟩:=ζf.1 h;simp only[this]at u;subst u;unfold resolve at hr;(repeat' split at hr)<;>first|(simp at hr;done)|(have⟨_,_,e⟩:=ζf.1 hr;simp at e;done)
     simp at h
    simp at h
   first|(simp at h;done)|contradiction
  rw[u]at d;simp[bK,fE]at d;cases u;rw[u]at d;simp[bK]at d
 unfold iu;rw[L,if_pos rfl,hd];simp only[j,Lu (j▸I),map_some]
theorem Ky(D:∀f s,X.nm f=some s->N s=f){ops:R0}:∀(rest:R0){i:Nat}{B:Rd}{F:WP}{H:bp},mP X false ops i rest=some B->cQ X.E N call none B F H=some (F',H')->n_ X.E call X.nt ops rest F H=some (F',H')
 |[],i,B,F,H,hc,h=>by simp[mP]at hc;subst hc;exact h|o::rest,i,B,F,H,hc,h=>by simp[mP]at hc;split at hc;rename_i ro rs a G;simp at hc;subst hc;simp[cQ]at h;split at h;rename_i b;split at h;(next v H1 c=>simp[n_,Y_ D a b c];exact Ky D rest G h);grind;grind;grind
theorem XO{ops:R0}{i:Nat}{op:Op}(h:∀t a',op=.load t (.tmp a')->rm ops i a'=[]):qa ops i F op=true:=by unfold qa;grind
theorem Yp(Y:∀f s,X.nm f=some s->N s=f){ops:R0}{b i:Nat}{o:Oper}(m:ops[i]?=some o){ro:RO}(h:pK X true ops i o=some ro)(q:ro.gd=none){v:V}(d:bK X.E N call (some b) ro.now ro.k (ro.az.map (bB N F)) H=some (v,H')):
 iu X.E call X.nt ops (some (b,i)) o F H=some (bz F ro.dst v,H'):=by
 have⟨j,Z,x,u⟩:=B5 (F:=F) Y h q;have hd:dN X.E call ops (some (b,i)) F H o.op=some (v,H'):=by
  rcases u with⟨u,z,B⟩|⟨n,u⟩|⟨n,a,u⟩|⟨_,I,J,p,u,_,L⟩|⟨n,u⟩;generalize E:ro.k=k at d u;generalize ro.az.map (bB N F)=vs at d u;unfold dN
  cases k with
  |p p=>have⟨c,e⟩:=u;have⟨w,C,D⟩:=ζf.1 d;rw[c];simp only[AU (e w C),map_some];rw[D]|r r=>have⟨c,e⟩:=u;have⟨w,C,D⟩:=ζf.1 d;have O:qa ops i F o.op=true:=XO λt a' e=>(by by_cases U:dV ops i=true;exact EP m e U;rcases B rfl (by simpa using U) a' with h|h;exact h;exact absurd e (h t));rw[c];simp only[e _ w C,O,if_true];rw[D]|a a=>simp[bK]at d|l l=>have⟨c,e⟩:=u;cases l with|store n=>simp only[bK]at d;split at d;(next W=>rw[z,Bool.true_and]at W;rw[c];simp only[W,Bool.true_or,if_true];exact e H _ d);simp at d|_=>simp[bK]at d
  |e n=>exact u.elim|b=>simp[bK]at d|c=>obtain⟨c,f,K,rfl,e⟩:=u;rw[c];simp only[bK]at d;split at d;rename_i g a b M G;simp only[List.cons.injEq]at G;obtain⟨rfl,rfl⟩:=G;split at d;simp at d;rename_i Q;split at d;rename_i y A;split at d;(next S=>simp only[e,mY,Q,Bool.false_and,false_eq_true,if_false,A,S,if_true];exact d);simp at d;simp at d;simp at d
  rw[u]at d;simp[bK]at d;rw[u]at d;simp[bK,fE]at d;rw[u]at d;have⟨w,C,D⟩:=ζf.1 d;have T:=L w C;unfold dN;rw[J];simp only[tw,I,if_true,T,map_some];exact congrArg some D;rw[u]at d;simp[bK]at d
 unfold iu;rw[x,if_pos rfl,hd];simp only[j,Lu (j▸Z),map_some]
theorem Ld(D:∀f s,X.nm f=some s->N s=f){ops:R0}{b:Nat}:∀(rest:R0){i:Nat}{B:Rd}{F:WP}{H:bp},ops.drop i=rest->mP X true ops i rest=some B->cQ X.E N call (some b) B F H=some (F',H')->
 lu X.E call X.nt ops b (range' i rest.length) F H=some (F',H')
 |[],i,B,F,H,_,hc,h=>by simp[mP]at hc;subst hc;exact h|o::rest,i,B,F,H,hd,hc,h=>by simp[mP]at hc;split at hc;rename_i ro rs a J;simp at hc;subst hc;simp[cQ]at h;split at h;rename_i c;split at h;rename_i v H1 d;have G:ops[i]?=some o:=(by have:(ops.drop i)[0]?=some o:=Zac;grind);have u:ops.drop (i+1)=rest:=(by rw[<-List.drop_drop,hd];rfl);simp[List.range'_succ,lu,G,Yp D G a c d];exact Ld D rest u J h;grind;grind;grind
def Ab(l:Rd):X':=l.all λo=>(match o.k with|.a _|.l (.storeF _)|.r (.loadF ..)|.p (.makeC ..)|.p (.buildC ..)|.p .emptyC|.e _=>false|_=>true)&&o.gd.isNone
theorem EO(J:∀f s,X.nm f=some s->N s=f){ops:R0}:∀(rest:R0){i:Nat}{G:Rd},mP X true ops i rest=some G->Ab G=true->rest.any (λo=>dF o.op==.alloc)=false
 |[],_,_,_,_=>rfl|o::rest,i,G,hc,D=>by simp only[mP]at hc;split at hc;rename_i ro rs c U;simp only[ζa]at hc;subst hc;simp only[Ab,all_cons,ζh,Option.isNone_iff_eq_none]at D;have⟨_,_,_,B⟩:=B5 (F:=[]) J c D.1.2;rw[List.any_cons,EO J rest U D.2,Bool.or_false];rcases B with⟨B,_⟩|⟨n,B⟩|⟨n,a,B⟩|⟨_,_,_,p,B,u,_⟩|⟨n,B⟩;(cases b:ro.k with|a p=>have:=D.1.1;rw[b]at this;cases this|e p=>have:=D.1.1;rw[b]at this;cases this|_=>rw[b]at B;rw[B.1];rfl);have:=D.1.1;rw[B]at this;cases this;have:=D.1.1;rw[B]at this;cases this;have:=D.1.1;rw[B]at this;rcases u with rfl|⟨_,_,rfl⟩|⟨_,_,_,_,rfl⟩<;>cases this;have:=D.1.1;rw[B]at this;cases this;simp at hc
def iY(E:Env)(N:Nat->Y')(call:dQ)(lf:Nat):RC->WP->bp->a_ (Out×WP×bp)
 |.skip,F,H=>some (.norm,F,H)|.ops l,F,H=>(cQ E N call none l F H).map λx=>(.norm,x.1,x.2)|.qZ l,F,H=>if Ab l then(cQ E N call (some H.length) l F H).map λx=>(.norm,x.1,x.2)else none|.seq a b,F,H=>match iY E N call lf a F H with
  |some (.norm,F',H')=>iY E N call lf b F' H'|r=>r
 |.cond x a b,F,H=>match bB N F x with
  |.bool t=>if t then iY E N call lf a F H else iY E N call lf b F H|_=>none
 |.block id c,F,H=>match iY E N call lf c F H with
  |some (.exit B,F',H')=>if B=id then some (.norm,F',H')else some (.exit B,F',H')|r=>r
 |.loop c,F,H=>mo (iY E N call lf c) lf F H|.exit id,F,H=>some (.exit id,F,H)|.ret,F,H=>some (.ret,F,H)|_,_,_=>none
theorem Lc{f g:WP->bp->a_ (Out×WP×bp)}(h:∀F H r,f F H=some r->g F H=some r):∀(k:Nat)(F:WP)(H:bp)(r:Out×WP×bp),mo f k F H=some r->mo g k F H=some r
 |0,F,H,r,hr=>by simp[mo]at hr|k+1,F,H,r,hr=>by simp only[mo]at hr⊢;cases B:f F H with|none=>rw[B]at hr;simp at hr|some q=>rw[B]at hr;rw[h F H q B];have⟨o,F1,H1⟩:=q;cases o with|norm=>exact Lc h k F1 H1 r hr|exit _=>exact hr|ret=>exact hr
theorem SG(D:∀f s,X.nm f=some s->N s=f){lf:Nat}:∀(j:RC)(code:Code)(F:WP)(H:bp)(r:Out×WP×bp),bX X false code=some j->iY X.E N call lf j F H=some r->exec X.E call lf false X.nt code F H=some r:=by
 intro j
 induction j with
 |skip=>
  intro code F H r d h;simp only[iY,ζa]at h;subst h
  cases code with
  |skip=>rfl|label _=>rfl|region id ops u=>simp only[bX]at d;(repeat' split at d)<;>first|(simp at d;done)|(have⟨_,_,e⟩:=ζf.1 d;cases e)
  |_=>simp only[bX]at d;(repeat' split at d)<;>first|(simp at d;done)|(have⟨_,_,e⟩:=ζf.1 d;cases e)|cases d
 |ops l=>intro code F H r d h;cases code with|region id ops u=>simp only[bX]at d;split at d;split at d;have⟨_,_,e⟩:=ζf.1 d;cases e;simp at d;rename_i hd;have⟨T,G,e⟩:=ζf.1 d;cases e;simp only[iY]at h;obtain⟨⟨F',H'⟩,k,rfl⟩:=ζf.1 h;simp only[exec,kK,hd];rw[if_neg Zab,Ky D _ G k];rfl|_=>simp only[bX]at d;(repeat' split at d)<;>first|(simp at d;done)|(have⟨_,_,e⟩:=ζf.1 d;cases e)|cases d
 |qZ l=>intro code F H r d h;cases code with|region id ops u=>simp only[bX]at d;split at d;rename_i hd;split at d;rename_i I;have⟨T,G,e⟩:=ζf.1 d;cases e;simp only[iY]at h;split at h;(next U=>obtain⟨⟨F',H'⟩,k,rfl⟩:=ζf.1 h;have W:tK ops.toList=false:=EO D _ G U;have:=Ld D ops.toList (i:=0) rfl G k;rw[<-List.range_eq_range']at this;simp only[exec,kK,hd,I,if_true,W,false_eq_true,if_false,this];rfl);simp at h;simp at d;have⟨_,_,e⟩:=ζf.1 d;cases e|_=>simp only[bX]at d;(repeat' split at d)<;>first|(simp at d;done)|(have⟨_,_,e⟩:=ζf.1 d;cases e)|cases d
 |seq a b w B=>
  intro code F H r d h
  cases code with
  |seq J L=>simp only[bX]at d;split at d;rename_i x y C O;cases d;simp only[iY]at h;simp only[exec];(cases g:iY X.E N call lf a F H with|none=>rw[g]at h;simp at h|some q=>rw[g]at h;rw[w J F H q C g];have⟨o,F1,H1⟩:=q;cases o with|norm=>exact B L F1 H1 r O h|exit _=>exact h|ret=>exact h);simp at d
  |region id ops u=>simp only[bX]at d;(repeat' split at d)<;>first|(simp at d;done)|(have⟨_,_,e⟩:=ζf.1 d;cases e)
  |_=>simp only[bX]at d;(repeat' split at d)<;>first|(simp at d;done)|(have⟨_,_,e⟩:=ζf.1 d;cases e)|cases d
 |cond x a b w B=>
  intro code F H r d h
  cases code with
  |cond c J L=>simp only[bX]at d;split at d;rename_i n y z C O Y;cases d;simp only[iY]at h;simp only[exec,NK (F:=F) D C];split at h;rename_i t Z;rw[Z];(cases t with|true=>simp only[if_true]at h⊢;exact w J F H r O h|false=>simp only[false_eq_true,if_false]at h⊢;exact B L F H r Y h);simp at h;simp at d
  |region id ops u=>simp only[bX]at d;(repeat' split at d)<;>first|(simp at d;done)|(have⟨_,_,e⟩:=ζf.1 d;cases e)
  |_=>simp only[bX]at d;(repeat' split at d)<;>first|(simp at d;done)|(have⟨_,_,e⟩:=ζf.1 d;cases e)|cases d
 |block id c Q=>
  intro code F H r d h
  cases code with
  |block S c'=>simp only[bX]at d;have⟨x,C,e⟩:=ζf.1 d;cases e;simp only[iY]at h;simp only[exec];cases g:iY X.E N call lf c F H with|none=>rw[g]at h;simp at h|some q=>rw[g]at h;rw[Q c' F H q C g];exact h
  |region id ops u=>simp only[bX]at d;(repeat' split at d)<;>first|(simp at d;done)|(have⟨_,_,e⟩:=ζf.1 d;cases e)
  |_=>simp only[bX]at d;(repeat' split at d)<;>first|(simp at d;done)|(have⟨_,_,e⟩:=ζf.1 d;cases e)|cases d
 |loop c Q=>
  intro code F H r d h
  cases code with
  |loop c'=>simp only[bX]at d;have⟨x,C,e⟩:=ζf.1 d;cases e;simp only[iY]at h;simp only[exec];exact Lc (λF H r m=>Q c' F H r C m) lf F H r h|region id ops u=>simp only[bX]at d;(repeat' split at d)<;>first|(simp at d;done)|(have⟨_,_,e⟩:=ζf.1 d;cases e)
  |_=>simp only[bX]at d;(repeat' split at d)<;>first|(simp at d;done)|(have⟨_,_,e⟩:=ζf.1 d;cases e)|cases d
 |exit id=>
  intro code F H r d h
  cases code with
  |exit S=>simp only[bX,ζa,RC.exit.injEq]at d;subst d;exact h|region id ops u=>simp only[bX]at d;(repeat' split at d)<;>first|(simp at d;done)|(have⟨_,_,e⟩:=ζf.1 d;cases e)
  |_=>simp only[bX]at d;(repeat' split at d)<;>first|(simp at d;done)|(have⟨_,_,e⟩:=ζf.1 d;cases e)|cases d
 |ret=>
  intro code F H r d h
  cases code with
  |ret=>exact h|region id ops u=>simp only[bX]at d;(repeat' split at d)<;>first|(simp at d;done)|(have⟨_,_,e⟩:=ζf.1 d;cases e)
  |_=>simp only[bX]at d;(repeat' split at d)<;>first|(simp at d;done)|(have⟨_,_,e⟩:=ζf.1 d;cases e)|cases d
 |_=>intro code F H r d h;simp[iY]at h
end
def Ex(E:Env)(N:Nat->Y')(a:RC)(F:WP)(H:bp)(o:Out)(F':WP)(H':bp):Prop:=∃n,∀k,n<=k->iY E N (run E k) k a F H=some (o,F',H')
def nJ(E:Env)(N:Nat->Y')(a:RC)(F:WP)(H:bp)(o:Out)(F':WP)(H':bp):Prop:=∃n,∀k,n<=k->∀u,n<=u->mo (iY E N (run E k) k a) u F H=some (o,F',H')
section
variable{E:Env}{N:Nat->Y'}{a b c:RC}{F F1 F':WP}{H H1 H':bp}{o:Out}{x:Arg}{id:Nat}
theorem Ex.ops{l:Rd}(h:∃n,∀k,n<=k->cQ E N (run E k) none l F H=some (F',H')):Ex E N (.ops l) F H .norm F' H':=let⟨n,h⟩:=h;⟨n,λk a=>by simp only[iY,h k a,map_some]⟩
theorem Ex.dy{l:Rd}(h:∀call,cQ E N call none l F H=some (F',H')):Ex E N (.ops l) F H .norm F' H':=Ex.ops ⟨0,λk _=>h _⟩
theorem Ex.qZ{l:Rd}(B:Ab l=true)(h:∀call,cQ E N call (some H.length) l F H=some (F',H')):Ex E N (.qZ l) F H .norm F' H':=⟨0,λk _=>by simp only[iY,B,if_true,h,map_some]⟩
theorem Ex.Ph{l:Rd}(B:Ab l=true)(h:∃n,∀k,n<=k->cQ E N (run E k) (some H.length) l F H=some (F',H')):Ex E N (.qZ l) F H .norm F' H':=let⟨n,h⟩:=h;⟨n,λk a=>by simp only[iY,B,if_true,h k a,map_some]⟩
theorem Ex.skip:Ex E N .skip F H .norm F H:=⟨0,λ_ _=>rfl⟩
theorem Ex.exit:Ex E N (.exit id) F H (.exit id) F H:=⟨0,λ_ _=>rfl⟩
theorem Ex.ret:Ex E N .ret F H .ret F H:=⟨0,λ_ _=>rfl⟩
theorem Ex.seq(c:Ex E N a F H .norm F1 H1)(B:Ex E N b F1 H1 o F' H'):Ex E N (.seq a b) F H o F' H':=by have⟨n,c⟩:=c;have⟨m,B⟩:=B;exact⟨max n m,λk d=>by simp only[iY,c k Zaa];exact B k Zaa⟩
theorem Ex.vK(c:Ex E N a F H o F' H')(B:o≠.norm):Ex E N (.seq a b) F H o F' H':=by have⟨n,c⟩:=c;refine⟨n,λk d=>?_⟩;simp only[iY,c k d];cases o<;>first|exact absurd rfl B|rfl
theorem Ex.oN(B:bB N F x=.bool true)(h:Ex E N a F H o F' H'):Ex E N (.cond x a b) F H o F' H':=by have⟨n,h⟩:=h;exact⟨n,λk c=>by simp only[iY,B,if_true,h k c]⟩
theorem Ex.qU(B:bB N F x=.bool false)(h:Ex E N b F H o F' H'):Ex E N (.cond x a b) F H o F' H':=by have⟨n,h⟩:=h;exact⟨n,λk c=>by simp only[iY,B,false_eq_true,if_false,h k c]⟩
theorem Ex.block(h:Ex E N c F H .norm F' H'):Ex E N (.block id c) F H .norm F' H':=by have⟨n,h⟩:=h;exact⟨n,λk a=>by simp only[iY,h k a]⟩
theorem Ex.wJ(h:Ex E N c F H (.exit id) F' H'):Ex E N (.block id c) F H .norm F' H':=by have⟨n,h⟩:=h;exact⟨n,λk a=>by simp only[iY,h k a,if_true]⟩
theorem Ex.QI(h:Ex E N c F H .ret F' H'):Ex E N (.block id c) F H .ret F' H':=by have⟨n,h⟩:=h;exact⟨n,λk a=>by simp only[iY,h k a]⟩
theorem Ex.loop(h:nJ E N c F H o F' H'):Ex E N (.loop c) F H o F' H':=by have⟨n,h⟩:=h;exact⟨n,λk a=>h k a k a⟩
theorem nJ.step(a:Ex E N c F H .norm F1 H1)(B:nJ E N c F1 H1 o F' H'):nJ E N c F H o F' H':=by have⟨n,a⟩:=a;have⟨m,B⟩:=B;refine⟨max n m+1,λk b u w=>?_⟩;cases u with|zero=>omega|succ u=>simp only[mo,a k Zaa];exact B k Zaa u Zaa
theorem nJ.stop(a:Ex E N c F H o F' H')(B:o≠.norm):nJ E N c F H o F' H':=by have⟨n,a⟩:=a;refine⟨n+1,λk b u w=>?_⟩;cases u with|zero=>omega|succ u=>simp only[mo,a k Zaa];cases o<;>first|exact absurd rfl B|rfl
end
theorem Ex.run{E:Env}{nm:Y'->a_ Nat}{N:Nat->Y'}(B:∀f s,nm f=some s->N s=f){f:Y'}{fi:FI}{a:RC}(D:E.ft f=some fi)(b:bX ⟨E,nm,fi.ntmps⟩ false fi.body=some a){args:So}(G:args.length<=fi.ntmps){H H':bp}{F':WP}
 (h:Ex E N a args H .ret F' H'){vs:So}(c:js E F' H' fi.results=some vs):∃n,run E n (.fn f) args H=some (result vs,H'):=by
 have⟨n,h⟩:=h;refine⟨n+1,?_⟩;have:=SG (X:=⟨E,nm,fi.ntmps⟩) (call:=Go.VE.run E n) B (lf:=n) a fi.body args H _ b (h n (le_refl _));simp only[Go.VE.run,lg,D,if_pos G,this,c,map_some]
@[simp] theorem bC(F:WP)(i j:Nat)(v:V):get (set F i v) j=if i=j then v else get F j:=by
 split;next h=>subst h;exact uK F i v
 rename_i h;exact kA F v h
def refs:ST->S'->S'
 |id::ids,r::rs=>[V.hsl id 1 0 r.length]::refs ids rs|_,_=>[]
def j7(r:So):S':=r.map λu=>[u]
structure nX(H:bp)(w:V)(o:Nat)(ids:List Nat)(rows:List (List V)):Prop where
 v:w=if rows=[]then .bM else .hsl o 1 0 rows.length
 ob:rows≠[]->H[o]?=some (.row 1 (refs ids rows))
 len:ids.length=rows.length
 r:∀(i id:Nat)(r:List V),ids[i]?=some id->rows[i]?=some r->H[id]?=some (.row 1 (j7 r))
 nd:ids.Nodup
 ne:rows≠[]->o∉ids
theorem vz:∀{ids:ST}{rows:S'},ids.length=rows.length->(refs ids rows).length=rows.length
 |[],[],_=>rfl|_::ids,_::rows,h=>by simp only[refs,length_cons,vz (ids:=ids) (rows:=rows) (by simpa using h)]
theorem LH:∀{ids:ST}{rows:S'}(id:Nat)(r:So),ids.length=rows.length->refs (ids++[id]) (rows++[r])=refs ids rows++[[V.hsl id 1 0 r.length]]
 |[],[],_,_,_=>rfl|_::ids,_::rows,id,r,h=>by simp only[refs,cons_append,LH (ids:=ids) (rows:=rows) id r (by simpa using h)]
theorem D6:∀{ids:ST}{rows:S'}{i id:Nat}{r:So},ids[i]?=some id->rows[i]?=some r->(refs ids rows)[i]?=some [V.hsl id 1 0 r.length]
 |[],_,_,_,_,h,_=>by simp at h|_::_,[],_,_,_,_,h=>by simp at h|a::ids,b::rows,0,id,r,h1,B=>by simp at h1 B;subst h1 B;rfl|a::ids,b::rows,i+1,id,r,h1,B=>by simpa[refs]using D6 (ids:=ids) (rows:=rows) (i:=i) (by simpa using h1) (by simpa using B)
theorem Lh:∀{ids:ST}{rows:S'}{i:Nat}{r B:So},rows[i]?=some r->B.length=r.length->refs ids (rows.set i B)=refs ids rows
 |[],_,_,_,_,_,_=>by simp[refs]|_::_,[],_,_,_,_,_=>by simp[refs]|a::ids,b::rows,0,r,B,h,D=>by simp at h;subst h;simp only[List.set_cons_zero,refs,D]|a::ids,b::rows,i+1,r,B,h,D=>by simp only[List.set_cons_succ,refs,Lh (ids:=ids) (rows:=rows) (i:=i) (by simpa using h) D]
section
variable{H H':bp}{v:V}{o:Nat}{ids:ST}{rows:S'}
theorem nX.nil(H:bp)(o:Nat):nX H .bM o [] []:=⟨rfl,λh=>absurd rfl h,rfl,λi id r h=>by simp at h,.nil,λh=>absurd rfl h⟩
theorem nX.heap(n:nX H v o ids rows)(B:rows≠[]->H'[o]?=H[o]?)(hi:∀id∈ids,H'[id]?=H[id]?):nX H' v o ids rows:=⟨n.v,λh=>by rw[B h];exact n.ob h,n.len,λi id r h1 u=>by rw[hi id (mem_of_getElem? h1)];exact n.r i id r h1 u,n.nd,n.ne⟩
theorem nX.lt(n:nX H v o ids rows):(rows≠[]->o<H.length)/\∀id∈ids,id<H.length:=by refine⟨λh=>(ζe.1 (n.ob h)).1,λid u=>?_⟩;have⟨i,hi⟩:=getElem?_of_mem u;have w:=(ζe.1 hi).1;have:=n.r i id _ hi (ζd (show i<rows.length from n.len▸w));exact(ζe.1 this).1
theorem nX.more(n:nX H v o ids rows)(X:bp):nX (H++X) v o ids rows:=n.heap (λh=>getElem?_append_left (n.lt.1 h)) λid u=>getElem?_append_left (n.lt.2 id u)
theorem nX.push(n:nX H v o ids rows)(r:So)(U:rows.length+1<=2147483648):
 ∃H',fT (H++[.row 1 (j7 r)]++[.row 1 [[.hsl H.length 1 0 r.length]]]) (.append 1) [v,.hsl (H.length+1) 1 0 1]=some (.hsl (H.length+2) 1 0 (rows.length+1),H')/\
  nX H' (.hsl (H.length+2) 1 0 (rows.length+1)) (H.length+2) (ids++[H.length]) (rows++[r])/\H.length<=H'.length/\(∀id,id<H.length->id≠o\/rows=[]->H'[id]?=H[id]?):=by
 generalize C:H++[.row 1 (j7 r)]++[.row 1 [[.hsl H.length 1 0 r.length]]]=H2;have u:H2.length=H.length+2:=by subst C;simp
 have z:∀id,id<H.length->H2[id]?=H[id]?:=λid h=>by subst C;rw[append_assoc,getElem?_append_left h]
 have g:H2[H.length]?=some (.row 1 (j7 r)):=by subst C;simp
 have T:H2[H.length+1]?=some (.row 1 [[.hsl H.length 1 0 r.length]]):=by subst C;simp
 have f:=n.v;have e2:dY H2 1 (.hsl (H.length+1) 1 0 1)=some [[.hsl H.length 1 0 r.length]]:=by simp[dY,T,Ob.rows]
 by_cases c:rows=[]
 .subst c;rw[if_pos rfl]at f;subst f;have:ids=[]:=List.eq_nil_of_length_eq_zero n.len;subst this;refine⟨H2++[.row 1 [[.hsl H.length 1 0 r.length]]],?_,⟨Zab,λ_=>by rw[<-u];simp[refs],rfl,λi id O hi w=>?_,Zab,λ_=>Zab⟩,by simp[u];omega,λid D _=>?_⟩
  .have e1:dY H2 1 .bM=some []:=rfl;simp only[fT,e1,e2,iK,List.length_nil,length_singleton,map_some,u];simp
  .cases i with
   |zero=>simp at hi w;subst hi w;rw[getElem?_append_left Zaa];exact g|succ i=>simp at hi
  rw[getElem?_append_left Zaa];exact z id D
 rw[if_neg c]at f;subst f;have Q:=n.ob c;have I:=n.lt.1 c;have e1:dY H2 1 (.hsl o 1 0 rows.length)=some (refs ids rows):=by simp only[dY,if_true,z o I,Q,ζb,Ob.rows,vz n.len,zero_add,le_refl,drop_zero];rw[take_of_length_le (by rw[vz n.len];exact le_refl _)]
 have W:iK H2 (.hsl o 1 0 rows.length)=some (H2.set o .dead):=by simp only[iK,z o I,Q]
 have B:∀id,id≠o->(H2.set o Ob.dead++[Ob.row 1 (refs ids rows++[[.hsl H.length 1 0 r.length]])])[id]?=if id<H2.length then H2[id]?else(H2.set o Ob.dead++[Ob.row 1 (refs ids rows++[[.hsl H.length 1 0 r.length]])])[id]?:=λid G=>by split;(next h=>rw[getElem?_append_left (by simpa using h),getElem?_set_ne (Ne.symm G)]);rfl
 refine⟨H2.set o .dead++[.row 1 (refs ids rows++[[.hsl H.length 1 0 r.length]])],?_,⟨Zab,λ_=>?_,by simp[n.len],λi id O hi w=>?_,?_,λ_ d=>?_⟩,by simp[u];omega,λid D G=>?_⟩
 .simp only[fT,e1,e2,W,vz n.len,length_singleton,U,if_true,map_some,u]
 .rw[LH _ _ n.len,<-u];simp
 .have J:id≠o:=by
   rcases Nat.lt_or_ge i ids.length with h|h
   .rw[getElem?_append_left h]at hi;intro e;subst e;exact n.ne c (mem_of_getElem? hi)
   have:i=ids.length:=by have:=(ζe.1 hi).1;simp at this;omega
   subst this;simp at hi;subst hi;omega
  rcases Nat.lt_or_ge i ids.length with h|h
  .rw[getElem?_append_left h]at hi;rw[getElem?_append_left (by rw[<-n.len];exact h)]at w
   have L:=n.lt.2 id (mem_of_getElem? hi);rw[B id J,if_pos Zaa,z id L]
   exact n.r i id O hi w
  have:i=ids.length:=by have:=(ζe.1 hi).1;simp at this;omega
  subst this;simp at hi;subst hi;rw[n.len]at w;simp at w;subst w;rw[B _ J,if_pos Zaa];exact g
 .rw[List.nodup_append];exact⟨n.nd,Zab,λa X b S=>by simp at S;subst S;exact Nat.ne_of_lt (n.lt.2 a X)⟩
 .rcases mem_append.1 d with d|d
  .have:=n.lt.2 _ d;omega
  simp at d
 rw[B id (G.resolve_right c),if_pos Zaa];exact z id D
end
theorem kQ{E:Env}{N:Nat->Y'}{F:WP}{H H1:bp}{call:dQ}{b:a_ Nat}{o:RO}{l:Rd}{v:V}{r:WP×bp}(a:o.gd=none)(c:bK E N call b o.now o.k (o.az.map (bB N F)) H=some (v,H1))(h:cQ E N call b l (bz F o.dst v) H1=some r):cQ E N call b (o::l) F H=some r:=by simp only[cQ,a,c];exact h
theorem vp{E:Env}{N:Nat->Y'}{F:WP}{H:bp}{call:dQ}{b:a_ Nat}{o:RO}{l:Rd}{v:V}{r:WP×bp}(a:o.gd=none)(c:bK E N call b o.now o.k (o.az.map (bB N F)) H=some (v,H))(h:cQ E N call b l (bz F o.dst v) H=some r):cQ E N call b (o::l) F H=some r:=kQ a c h
theorem eH{E:Env}{N:Nat->Y'}{F:WP}{H:bp}{call:dQ}{b:a_ Nat}:cQ E N call b [] F H=some (F,H):=rfl
theorem z8{n:Nat}(h:n<=2147483648):wrap .i64 ((n:Int)+1)=((n+1:Nat):Int):=by simp[wrap,IntKind.bits,signed];omega
theorem aaq{n:Nat}(h:n<=2147483648):wrap .i64 (((n+1:Nat):Int)-1)=(n:Int):=by simp[wrap,IntKind.bits,signed];omega
theorem kZ(H:bp):H.take H.length=H:=List.take_length
theorem En{E:Env}{nm:Y'->a_ Nat}{f:Y'}{a:RC}{n:Nat}{rs:aZ ResultVar}(h:((E.ft f).map λfi=>(bX ⟨E,nm,fi.ntmps⟩ false fi.body,ble n fi.ntmps,fi.results))=some (some a,true,rs)):
 ∃fi,E.ft f=some fi/\bX ⟨E,nm,fi.ntmps⟩ false fi.body=some a/\n<=fi.ntmps/\fi.results=rs:=by
 have⟨fi,b,u⟩:=ζf.1 h;simp only[ζc]at u;exact⟨fi,b,u.1,Nat.le_of_ble_eq_true u.2.1,u.2.2⟩
theorem Ix{x:V}(h:x.one=true):x.cells=[x]:=by cases x<;>first|rfl|(simp[V.one]at h)
theorem YV{call:dQ}{f:Y'}{args az:So}{H:bp}(h:borrows call.lv H args=some az)(a:∀x∈az,x.closed=true):cw call f args H=cw call f az []:=by
 have:borrows call.lv [] az=some az:=by clear h;unfold borrows;induction az with|nil=>rfl|cons x l u=>simp only[jm,eT call.lv [] (a x Zab),u λy w=>a y (List.mem_cons_of_mem _ w)]
 unfold cw;rw[h,this]
def kept(t:Nat->X')(n:Nat):ST:=(range n).filter λi=>i==0|| !t i
theorem zf(t:Nat->X')(n:Nat):kept t (n+1)=kept t n++if n==0|| !t n then[n]else[]:=by unfold kept;rw[List.range_succ,List.filter_append,List.filter_cons];rfl
theorem C0(t:Nat->X'):∀n,(kept t n).length<=n:=λn=>by unfold kept;exact Nat.le_trans (List.length_filter_le ..) Zab
theorem Nh{t:Nat->X'}{n i:Nat}(h:i∈kept t n):i<n:=by unfold kept at h;exact mem_range.1 (List.mem_filter.1 h).1
theorem D_{t:Nat->X'}:∀n,(∀i,0<i->i<n->t i=false)->kept t n=range n
 |0,_=>rfl|n+1,h=>by rw[zf,D_ n λi a B=>h i a Zaa,List.range_succ];congr 1;cases n with|zero=>rfl|succ n=>rw[h (n+1) Zaa Zaa];simp
theorem BD{t:Nat->X'}{k:Nat}(b:0<k)(a:t k=true):∀n,k<n->(kept t n).length+1<=n
 |0,h=>Zaa|n+1,h=>by rw[zf];by_cases e:n=k;subst e;have:(n==0|| !t n)=false:=(by simp[a];omega);rw[this];have:=C0 t n;simp;omega;have:=BD b a n Zaa;split<;>simp<;>omega
namespace cmpX
instance{n:Nat}:OfNat Arg n:=⟨.s n⟩
def r1:Rd:=[o1 4 (.k (.bM)) []]
def r2:Rd:=[o1 8 0 [],o2 9 (.p .lenSl) [8] [],o2 10 (.p (.bin (some .int) none .lss)) [9,.k (.int .i64 2)] []]
def r3:Rd:=[o1 11 0 [],o1 4 11 []]
def r4:Rd:=[o1 5 (.k (.int .i64 1)) []]
def r5:Rd:=[o1 12 5 [],o1 13 0 [],o2 14 (.p .lenSl) [13] [],o2 15 (.p (.bin (some .int) none .lss)) [12,14] []]
def on(d:Nat)(k:K)(az:QQ):RO:=⟨some d,none,true,k,az,[],[]⟩
def r6:Rd:=[o1 18 1 [],o1 19 0 [],o1 20 5 [],o2 21 (.p (.idxS 1)) [19,20] [],o2 22 (.r (.load 1 false)) [21] [],o1 23 0 [],o1 24 5 [],o2 25 (.p (.bin (some .int) none .sub)) [24,.k (.int .i64 1)] [],o2 26 (.p (.idxS 1)) [23,25] [],o2 27 (.r (.load 1 false)) [26] [],on 28 .c [18,22,27]]
def r7:Rd:=[o1 29 0 [],o1 30 5 [],o2 31 (.p (.slice 1 true false)) [29,30] [],o1 6 31 []]
def r8:Rd:=[o1 7 (.k (.int .i64 1)) []]
def r9:Rd:=[o1 32 7 [],o1 33 6 [],o2 34 (.p .lenSl) [33] [],o2 35 (.p (.bin (some .int) none .lss)) [32,34] []]
def EF:Rd:=[o1 38 1 [],o1 39 6 [],o1 40 7 [],o2 41 (.p (.idxS 1)) [39,40] [],o2 42 (.r (.load 1 false)) [41] [],o1 43 6 [],o1 44 7 [],o2 45 (.p (.bin (some .int) none .sub)) [44,.k (.int .i64 1)] [],o2 46 (.p (.idxS 1)) [43,45] [],o2 47 (.r (.load 1 false)) [46] [],on 48 .c [38,42,47],on 49 (.p (.not)) [48]]
def HZ:Rd:=[o1 50 0 [],o1 51 5 [],o1 52 6 [],o1 53 7 [],o2 54 (.p (.idxS 1)) [52,53] [],o2 55 (.r (.load 1 false)) [54] [],o2 56 (.p (.idxS 1)) [50,51] [],⟨none,none,false,.l (.store 1),[56,55],[],[]⟩]
def HD:Rd:=[o1 57 5 [],o2 58 (.p (.bin (some .int) none .add)) [57,.k (.int .i64 1)] [],o1 5 58 []]
def IW:Rd:=[o1 36 7 [],o2 37 (.p (.bin (some .int) none .add)) [36,.k (.int .i64 1)] [],o1 7 37 []]
def L13:RC:=.seq (.seq (.ops r9) (.cond (.s 35) (.skip) (.exit 2))) (.seq (.block 3 (.seq (.qZ EF) (.cond (.s 49) (.seq (.ops HZ) (.ops HD)) (.skip)))) (.ops IW))
def FW:Rd:=[o1 59 0 [],o1 60 5 [],o2 61 (.p (.slice 1 true false)) [59,60] [],⟨none,none,false,.l (.clear 1 [.bM]),[61],[],[]⟩]
def Ig:Rd:=[o1 62 0 [],o1 63 5 [],o2 64 (.p (.slice 1 false true)) [62,63] [],o1 4 64 []]
def r16:Rd:=[o1 16 5 [],o2 17 (.p (.bin (some .int) none .add)) [16,.k (.int .i64 1)] [],o1 5 17 []]
def Vw:RC:=.seq (.seq (.ops r5) (.cond (.s 15) (.skip) (.exit 0))) (.seq (.block 1 (.seq (.qZ r6) (.cond (.s 28) (.seq (.ops r7) (.seq (.seq (.ops r8) (.block 2 (.loop L13))) (.seq (.ops FW) (.seq (.ops Ig) (.ret))))) (.skip)))) (.ops r16))
def Rk:Rd:=[o1 65 0 [],o1 4 65 []]
def code:RC:=.seq (.ops r1) (.seq (.seq (.ops r2) (.cond (.s 10) (.seq (.ops r3) (.ret)) (.skip))) (.seq (.seq (.ops r4) (.block 0 (.loop Vw))) (.seq (.ops Rk) (.ret))))
section
variable{E:Env}{N:Nat->Y'}{F:WP}{H:bp}{call:dQ}{id off L k:Nat}
theorem ld{B:S'}{el:Nat}{v:V}(h:H[id]?=some (.row 1 B))(a:B[el]?=some [v]):fE H (.load 1 false) [.hptr id el 0]=some v:=by simp[fE,eU,h,Ob.rows,a,cut,mk]
theorem Vn{i:Nat}(h:i<L):nq 1 (.hsl id 1 off L) (i:Int)=some (.hptr id (off+i) 0):=by unfold nq;rw[if_neg Zaa];simp[h]
theorem x2(a:get F 0=.hsl id 1 off L):∃F',(∀call,cQ E N call none r2 F H=some (F',H))/\get F' 10=.bool (decide ((L:Int)<2))/\(∀s,s<8->get F' s=get F s):=by refine⟨_,λcall=>vp (v:=.hsl id 1 off L) rfl ?_<|vp (v:=.int .i64 L) rfl ?_<|vp (v:=.bool (decide ((L:Int)<2))) rfl ?_ eH,?_,?_⟩;simp[bK,bB,bq,a];simp[bK,bB,bq,bz,pO];simp[bK,bB,bq,bz,iG,pU];simp[bz];intro s u;simp only[bz,bC];repeat (rw[if_neg Zaa])
theorem x5(a:get F 0=.hsl id 1 off L)(b:get F 5=.int .i64 k):∃F',(∀call,cQ E N call none r5 F H=some (F',H))/\get F' 15=.bool (decide (k<L))/\(∀s,s<8->get F' s=get F s):=by refine⟨_,λcall=>vp (v:=.int .i64 k) rfl ?_<|vp (v:=.hsl id 1 off L) rfl ?_<|vp (v:=.int .i64 L) rfl ?_<|vp (v:=.bool (decide (k<L))) rfl ?_ eH,?_,?_⟩;simp[bK,bB,bq,b];simp[bK,bB,bq,bz,a];simp[bK,bB,bq,bz,pO];simp[bK,bB,bq,bz,iG,pU];simp[bz];intro s u;simp only[bz,bC];repeat (rw[if_neg Zaa])
theorem Zu{g:Y'}{cb:So}{B:S'}{o2 L2 i:Nat}{a b:V}{t:X'}(h:H[id]?=some (.row 1 B))(hi:i+1<L2)(D:i<=2147483648)(G:B[o2+(i+1)]?=some [a])(J:B[o2+i]?=some [b])(d:E.keep g=false)(e:get F 1=.clo g [] cb):
 (get F 0=.hsl id 1 o2 L2->get F 5=.int .i64 ((i+1:Nat):Int)->∃F',(∀call,cw call g (a::b::cb) H=some (.bool t)->cQ E N call (some H.length) r6 F H=some (F',H))/\get F' 28=.bool t/\(∀s,s<8->get F' s=get F s))/\
 (get F 6=.hsl id 1 o2 L2->get F 7=.int .i64 ((i+1:Nat):Int)->∃F',(∀call,cw call g (a::b::cb) H=some (.bool t)->cQ E N call (some H.length) EF F H=some (F',H))/\get F' 49=.bool (!t)/\(∀s,s<8->get F' s=get F s)):=by
 have hd:=aaq D;have e1:=ld h G;have e2:=ld h J;have i1:=Vn (id:=id) (off:=o2) (L:=L2) hi;have i2:=Vn (id:=id) (off:=o2) (L:=L2) (show i<L2 by omega)
 refine⟨λf j=>⟨_,λcall c=>vp (v:=.clo g [] cb) rfl ?_<|vp (v:=.hsl id 1 o2 L2) rfl ?_<|vp (v:=.int .i64 ((i+1:Nat):Int)) rfl ?_<|vp (v:=.hptr id (o2+(i+1)) 0) rfl ?_<|vp (v:=a) rfl ?_<|vp (v:=.hsl id 1 o2 L2) rfl ?_<|vp (v:=.int .i64 ((i+1:Nat):Int)) rfl ?_<|
  vp (v:=.int .i64 (i:Int)) rfl ?_<|vp (v:=.hptr id (o2+i) 0) rfl ?_<|vp (v:=b) rfl ?_<|vp (v:=.bool t) rfl ?_ eH,?_,?_⟩,λf6 k=>⟨_,λcall c=>vp (v:=.clo g [] cb) rfl ?_<|vp (v:=.hsl id 1 o2 L2) rfl ?_<|vp (v:=.int .i64 ((i+1:Nat):Int)) rfl ?_<|vp (v:=.hptr id (o2+(i+1)) 0) rfl ?_<|vp (v:=a) rfl ?_<|vp (v:=.hsl id 1 o2 L2) rfl ?_<|vp (v:=.int .i64 ((i+1:Nat):Int)) rfl ?_<|
  vp (v:=.int .i64 (i:Int)) rfl ?_<|vp (v:=.hptr id (o2+i) 0) rfl ?_<|vp (v:=b) rfl ?_<|vp (v:=.bool t) rfl ?_<|vp (v:=.bool (!t)) rfl ?_ eH,?_,?_⟩⟩
 .simp[bK,bB,bq,e]
 .simp[bK,bB,bq,bz,f]
 .simp only[bK,map_cons,map_nil,bB,bz,bC,reduceEqDiff,if_true,if_false,j,bq];rfl
 .simp only[bK,map_cons,map_nil,bB,bz,bC,reduceEqDiff,if_true,if_false,bq];rw[i1];rfl
 .simp only[bK,map_cons,map_nil,bB,bz,bC,reduceEqDiff,if_true,if_false,kZ];rw[e1];rfl
 .simp[bK,bB,bq,bz,f]
 .simp only[bK,map_cons,map_nil,bB,bz,bC,reduceEqDiff,if_true,if_false,j,bq];rfl
 .simp only[bK,map_cons,map_nil,bB,bz,bC,reduceEqDiff,if_true,if_false,bq,iG,hd];rfl
 .simp only[bK,map_cons,map_nil,bB,bz,bC,reduceEqDiff,if_true,if_false,bq];rw[i2];rfl
 .simp only[bK,map_cons,map_nil,bB,bz,bC,reduceEqDiff,if_true,if_false,kZ];rw[e2];rfl
 .simp only[bK,on,map_cons,map_nil,bB,bz,bC,reduceEqDiff,if_true,if_false,kZ,d,false_eq_true,nil_append,cons_append,c,V.scalar]
 .simp[bz,on]
 .intro s u;simp only[bz,on,bC]
  repeat (rw[if_neg Zaa])
 .simp[bK,bB,bq,e]
 .simp[bK,bB,bq,bz,f6]
 .simp only[bK,map_cons,map_nil,bB,bz,bC,reduceEqDiff,if_true,if_false,k,bq];rfl
 .simp only[bK,map_cons,map_nil,bB,bz,bC,reduceEqDiff,if_true,if_false,bq];rw[i1];rfl
 .simp only[bK,map_cons,map_nil,bB,bz,bC,reduceEqDiff,if_true,if_false,kZ];rw[e1];rfl
 .simp[bK,bB,bq,bz,f6]
 .simp only[bK,map_cons,map_nil,bB,bz,bC,reduceEqDiff,if_true,if_false,k,bq];rfl
 .simp only[bK,map_cons,map_nil,bB,bz,bC,reduceEqDiff,if_true,if_false,bq,iG,hd];rfl
 .simp only[bK,map_cons,map_nil,bB,bz,bC,reduceEqDiff,if_true,if_false,bq];rw[i2];rfl
 .simp only[bK,map_cons,map_nil,bB,bz,bC,reduceEqDiff,if_true,if_false,kZ];rw[e2];rfl
 .simp only[bK,on,map_cons,map_nil,bB,bz,bC,reduceEqDiff,if_true,if_false,kZ,d,false_eq_true,nil_append,cons_append,c,V.scalar]
 .simp[bK,on,bB,bq,bz]
 .simp[bz,on]
 intro s u;simp only[bz,on,bC]
 repeat (rw[if_neg Zaa])
end
end cmpX
namespace cmpX
section
variable{E:Env}{N:Nat->Y'}{F:WP}{H:bp}{call:dQ}{id off L k:Nat}
theorem x7(a:get F 0=.hsl id 1 off L)(b:get F 5=.int .i64 k)(c:k<=L):∃F',(∀call,cQ E N call none r7 F H=some (F',H))/\get F' 6=.hsl id 1 (off+k) (L-k)/\(∀s,s<8->s≠6->get F' s=get F s):=by
 have e:iX 1 (.hsl id 1 off L) (some k) none=some (.hsl id 1 (off+k) (L-k)):=by unfold iX eD;grind
 refine⟨_,λcall=>vp (v:=.hsl id 1 off L) rfl ?_<|vp (v:=.int .i64 k) rfl ?_<|vp (v:=.hsl id 1 (off+k) (L-k)) rfl ?_<|vp (v:=.hsl id 1 (off+k) (L-k)) rfl ?_ eH,?_,?_⟩;simp[bK,bB,bq,a];simp[bK,bB,bq,bz,b];simp[bK,bB,bz,bC,bq,ny,e];simp[bK,bB,bq,bz];simp[bz];simp[bz,bC];grind
theorem x9{o2 L2 m:Nat}(f6:get F 6=.hsl id 1 o2 L2)(a:get F 7=.int .i64 m):∃F',(∀call,cQ E N call none r9 F H=some (F',H))/\get F' 35=.bool (decide (m<L2))/\(∀s,s<8->get F' s=get F s):=by refine⟨_,λcall=>vp (v:=.int .i64 m) rfl ?_<|vp (v:=.hsl id 1 o2 L2) rfl ?_<|vp (v:=.int .i64 L2) rfl ?_<|vp (v:=.bool (decide (m<L2))) rfl ?_ eH,?_,?_⟩;simp[bK,bB,bq,a];simp[bK,bB,bq,bz,f6];simp[bK,bB,bq,bz,pO];simp[bK,bB,bq,bz,iG,pU];simp[bz];simp[bz,bC];grind
theorem Y5{B:S'}{o2 L2 m p:Nat}{a z:V}(h:H[id]?=some (.row 1 B))(c:get F 0=.hsl id 1 off L)(d:get F 5=.int .i64 p)(f6:get F 6=.hsl id 1 o2 L2)(e:get F 7=.int .i64 m)(D:m<L2)(hp:p<L)
 (G:B[o2+m]?=some [a])(J:B[off+p]?=some [z])(b:a.one=true):
 ∃F',(∀call,cQ E N call none HZ F H=some (F',H.set id (.row 1 (B.set (off+p) [a]))))/\(∀s,s<8->get F' s=get F s):=by
 have i1:=Vn (id:=id) (off:=o2) D;have i2:=Vn (id:=id) (off:=off) hp;have e1:=ld h G;have u:fT H (.store 1) [.hptr id (off+p) 0,a]=some (.undef,H.set id (.row 1 (B.set (off+p) [a]))):=by simp[fT,h,J,Ix b,b]
 refine⟨_,λcall=>vp (v:=.hsl id 1 off L) rfl ?_<|vp (v:=.int .i64 p) rfl ?_<|vp (v:=.hsl id 1 o2 L2) rfl ?_<|vp (v:=.int .i64 m) rfl ?_<|vp (v:=.hptr id (o2+m) 0) rfl ?_<|vp (v:=a) rfl ?_<|vp (v:=.hptr id (off+p) 0) rfl ?_<|kQ (v:=.undef) rfl ?_ eH,?_⟩
 .simp[bK,bB,bq,c]
 .simp[bK,bB,bq,bz,d]
 .simp[bK,bB,bq,bz,f6]
 .simp[bK,bB,bq,bz,e]
 .simp[bK,bB,bz,bC,bq];grind
 .simp[bK,bB,bz,bC];grind
 .simp[bK,bB,bz,bC,bq];grind
 .simp[bK,bB,bz,bC];omega
 simp[bz,bC]
 grind
theorem Pj{p:Nat}(hp:p<=2147483648):(get F 5=.int .i64 p->∃F',(∀call,cQ E N call none HD F H=some (F',H))/\get F' 5=.int .i64 ((p+1:Nat):Int)/\(∀s,s<8->s≠5->get F' s=get F s))/\
 (get F 7=.int .i64 p->∃F',(∀call,cQ E N call none IW F H=some (F',H))/\get F' 7=.int .i64 ((p+1:Nat):Int)/\(∀s,s<8->s≠7->get F' s=get F s))/\
 (get F 5=.int .i64 p->∃F',(∀call,cQ E N call none r16 F H=some (F',H))/\get F' 5=.int .i64 ((p+1:Nat):Int)/\(∀s,s<8->s≠5->get F' s=get F s)):=by
 have u:=z8 hp;refine⟨λf=>⟨_,λcall=>vp (v:=.int .i64 p) rfl ?_<|vp (v:=.int .i64 (p+1:Nat)) rfl ?_<|vp (v:=.int .i64 (p+1:Nat)) rfl ?_ eH,?_,?_⟩,
  λf=>⟨_,λcall=>vp (v:=.int .i64 p) rfl ?_<|vp (v:=.int .i64 (p+1:Nat)) rfl ?_<|vp (v:=.int .i64 (p+1:Nat)) rfl ?_ eH,?_,?_⟩,
  λf=>⟨_,λcall=>vp (v:=.int .i64 p) rfl ?_<|vp (v:=.int .i64 (p+1:Nat)) rfl ?_<|vp (v:=.int .i64 (p+1:Nat)) rfl ?_ eH,?_,?_⟩⟩<;>
 first
 |(simp[bK,bB,bq,f];done)|(simp only[bK,map_cons,map_nil,bB,bz,bC,if_true,bq,iG,u];rfl)|grind|(simp[bz];done)|(simp[bz,bC];grind)
theorem x14{B:S'}{p:Nat}(h:H[id]?=some (.row 1 B))(a:get F 0=.hsl id 1 off L)(b:get F 5=.int .i64 p)(hp:p<L)(D:off+L<=B.length):
 ∃F',(∀call,cQ E N call none FW F H=some (F',H.set id (.row 1 (B.take (off+p)++replicate (L-p) [.bM]++B.drop (off+L)))))/\(∀s,s<8->get F' s=get F s):=by
 have e:iX 1 (.hsl id 1 off L) (some p) none=some (.hsl id 1 (off+p) (L-p)):=by unfold iX eD;grind
 obtain⟨q,u⟩:∃q,L-p=q+1:=⟨L-p-1,Zaa⟩
 have c:fT H (.clear 1 [.bM]) [.hsl id 1 (off+p) (L-p)]=some (.undef,H.set id (.row 1 (B.take (off+p)++replicate (L-p) [.bM]++B.drop (off+L)))):=by simp[fT,EL,u,h];grind
 refine⟨_,λcall=>vp (v:=.hsl id 1 off L) rfl ?_<|vp (v:=.int .i64 p) rfl ?_<|vp (v:=.hsl id 1 (off+p) (L-p)) rfl ?_<|kQ (v:=.undef) rfl ?_ eH,?_⟩
 .simp[bK,bB,bq,a]
 .simp[bK,bB,bq,bz,b]
 .simp[bK,bB,bz,bC,bq,ny,e]
 .simp only[bK,map_cons,map_nil,bB,bz,bC,if_true];omega
 simp[bz,bC]
 grind
theorem Vi{p:Nat}(a:get F 0=.hsl id 1 off L)(b:get F 5=.int .i64 p)(hp:p<=L):∃F',(∀call,cQ E N call none Ig F H=some (F',H))/\get F' 4=.hsl id 1 off p:=by
 have e:iX 1 (.hsl id 1 off L) none (some p)=some (.hsl id 1 off p):=by unfold iX eD;grind
 refine⟨_,λcall=>vp (v:=.hsl id 1 off L) rfl ?_<|vp (v:=.int .i64 p) rfl ?_<|vp (v:=.hsl id 1 off p) rfl ?_<|vp (v:=.hsl id 1 off p) rfl ?_ eH,?_⟩;simp[bK,bB,bq,a];simp[bK,bB,bq,bz,b];simp[bK,bB,bz,bC,bq,ny,e];simp[bK,bB,bq,bz];simp[bz]
theorem xmv:∃F',(∀call,cQ E N call none Rk F H=some (F',H))/\get F' 4=get F 0:=⟨_,λcall=>vp (v:=get F 0) rfl (by simp[bK,bB,bq])<|vp (v:=get F 0) rfl (by simp[bK,bB,bq,bz]) eH,by simp[bz]⟩
theorem SO:∃F',(∀call,cQ E N call none r3 F H=some (F',H))/\get F' 4=get F 0:=⟨_,λcall=>vp (v:=get F 0) rfl (by simp[bK,bB,bq])<|vp (v:=get F 0) rfl (by simp[bK,bB,bq,bz]) eH,by simp[bz]⟩
end
structure Jj(E:Env)(g:FuncId)(cb:List V)(H:bp)(id off L:Nat)(rs:List (List V))(A:Nat->V)(t:Nat->Bool):Prop where
 row:H[id]?=some (.row 1 rs)
 len:off+L<=rs.length
 small:L<=2147483648
 at_:∀i,i<L->rs[off+i]?=some [A i]
 one:∀i,i<L->(A i).one=true
 keep:E.keep g=false
 cmp:∃n,∀k,n<=k->∀i,i+1<L->∀cur,cw (run E k) g (A (i+1)::A i::cb) (H.set id (.row 1 cur))=some (.bool (t (i+1)))
structure Head(g:FuncId)(cb:List V)(id off L kk m:Nat)(rs:List (List V))(A:Nat->V)(t:Nat->Bool)(F:Frame)(cur:List (List V)):Prop where
 f0:get F 0=.hsl id 1 off L
 f1:get F 1=.clo g [] cb
 f5:get F 5=.int .i64 ((kept t (kk+m)).length:Nat)
 f6:get F 6=.hsl id 1 (off+kk) (L-kk)
 f7:get F 7=.int .i64 m
 len:cur.length=rs.length
 pre:∀p i,(kept t (kk+m))[p]?=some i->cur[off+p]?=some [A i]
 post:∀i,kk+m<=i+1->i<L->cur[off+i]?=some [A i]
 out:∀j,j<off\/off+L<=j->cur[j]?=rs[j]?
 cell:∀i,i<L->∃j,j<L/\cur[off+i]?=some [A j]
section
variable{E:Env}{N:Nat->Y'}{g:Y'}{cb:So}{H:bp}{id off L kk:Nat}{rs:S'}{A:Nat->V}{t:Nat->X'}
theorem Pa(X:Jj E g cb H id off L rs A t)(x:0<kk)(ah:kk<L)(y:t kk=true):∀(d m:Nat)(F:WP)(B:S'),kk+m+d=L->0<m->Head g cb id off L kk m rs A t F B->
 ∃F' D,nJ E N L13 F (H.set id (.row 1 B)) (.exit 2) F' (H.set id (.row 1 D))/\Head g cb id off L kk (L-kk) rs A t F' D:=by
 have O:=(ζe.1 X.row).1;have G:∀B,(H.set id (.row 1 B))[id]?=some (.row 1 B):=λB=>getElem?_set_self O
 have ai:=X.small;have af:=X.len;intro d
 induction d with
 |zero=>
  intro m F B M P h;have R:m=L-kk:=Zaa
  subst R;obtain⟨F1,e1,e2,e3⟩:=x9 h.f6 h.f7;refine⟨F1,B,nJ.stop (Ex.vK (Ex.seq (Ex.dy e1) (Ex.qU (by simp[bB,e2]) Ex.exit)) Zab) Zab,?_⟩
  exact⟨by rw[e3 0 Zaa];exact h.f0,by rw[e3 1 Zaa];exact h.f1,by rw[e3 5 Zaa];exact h.f5,by rw[e3 6 Zaa];exact h.f6,by rw[e3 7 Zaa];exact h.f7,h.len,h.pre,h.post,h.out,h.cell⟩
 |succ d ih=>
  intro m F B M P h;obtain⟨F1,a1,a2,a3⟩:=x9 h.f6 h.f7;have T:bB N F1 35=.bool true:=by show get F1 35=_;rw[a2,decide_eq_true Zaa]
  obtain⟨m',rfl⟩:∃m',m=m'+1:=⟨m-1,Zaa⟩
  obtain⟨n0,ab⟩:=X.cmp;have q:B[off+kk+(m'+1)]?=some [A (kk+m'+1)]:=by have:=h.post (kk+m'+1) Zaa Zaa;grind
  have c2:B[off+kk+m']?=some [A (kk+m')]:=by have:=h.post (kk+m') Zaa Zaa;grind
  obtain⟨F2,b1,b,b3⟩:=(Zu (L2:=L-kk) (G B) Zaa Zaa q c2 X.keep (by rw[a3 1 Zaa];exact h.f1)).2 (by rw[a3 6 Zaa];exact h.f6) (by rw[a3 7 Zaa];exact h.f7)
  have U:∃n,∀k,n<=k->cQ E N (run E k) (some (H.set id (.row 1 B)).length) EF F1 (H.set id (.row 1 B))=some (F2,H.set id (.row 1 B)):=⟨n0,λk hk=>b1 _ (ab k hk (kk+m') Zaa B)⟩
  have w:=λs r=>(b3 s r).trans (a3 s r)
  have ad:(kept t (kk+(m'+1))).length+1<=kk+(m'+1):=BD x y _ Zaa
  have u:kept t (kk+(m'+1)+1)=kept t (kk+(m'+1))++if t (kk+m'+1)then[]else[kk+m'+1]:=by rw[zf];grind
  have z:kk+(m'+1+1)=kk+(m'+1)+1:=Zaa
  cases W:t (kk+m'+1)with
  |true=>
   rw[W]at b u;simp at u;obtain⟨v,Y,c,Q⟩:=(Pj (p:=m'+1) Zaa).2.1 (by rw[w 7 Zaa];exact h.f7)
   obtain⟨F',D,i1,i2⟩:=ih (m'+1+1) v B Zaa Zaa ⟨by rw[Q 0 Zaa Zaa,w 0 Zaa];exact h.f0,by rw[Q 1 Zaa Zaa,w 1 Zaa];exact h.f1,
    by rw[Q 5 Zaa Zaa,w 5 Zaa,z,u];exact h.f5,by rw[Q 6 Zaa Zaa,w 6 Zaa];exact h.f6,c,h.len,by rw[z,u];exact h.pre,λi a Z=>h.post i Zaa Z,h.out,h.cell⟩
   exact⟨F',D,nJ.step (Ex.seq (Ex.seq (Ex.dy a1) (Ex.oN T Ex.skip)) (Ex.seq (Ex.block (Ex.seq (Ex.Ph (by decide) U) (Ex.qU (by simp[bB,b]) Ex.skip))) (Ex.dy Y))) i1,i2⟩
  |false=>
   rw[W]at b u;generalize f:(kept t (kk+(m'+1))).length=K at *;obtain⟨_,_,hz⟩:=h.cell K Zaa
   obtain⟨v,Y,c⟩:=Y5 (G B) (by rw[w 0 Zaa];exact h.f0) (by rw[w 5 Zaa,h.f5,f]) (by rw[w 6 Zaa];exact h.f6) (by rw[w 7 Zaa];exact h.f7) Zaa Zaa q hz (X.one _ Zaa)
   rw[set_set]at Y;generalize I:B.set (off+K) [A (kk+m'+1)]=J at Y;have l:∀j,J[j]?=if j=off+K then some [A (kk+m'+1)]else B[j]?:=λj=>by rw[<-I,List.getElem?_set];by_cases e:off+K=j;rw[if_pos e,if_pos e.symm,if_pos (by rw[h.len];omega)];rw[if_neg e,if_neg (Ne.symm e)]
   obtain⟨F4,Q,q4,q5⟩:=(Pj (p:=K) Zaa).1 (by rw[c 5 Zaa,w 5 Zaa,h.f5,f])
   have C:∀s,s<8->s≠5->get F4 s=get F s:=λs a Z=>by rw[q5 s a Z,c s a,w s a]
   obtain⟨F5,q6,q7,o⟩:=(Pj (p:=m'+1) Zaa).2.1 (by rw[C 7 Zaa Zaa];exact h.f7)
   obtain⟨F',D,i1,i2⟩:=ih (m'+1+1) F5 J Zaa Zaa ⟨by rw[o 0 Zaa Zaa,C 0 Zaa Zaa];exact h.f0,by rw[o 1 Zaa Zaa,C 1 Zaa Zaa];exact h.f1,
    by rw[o 5 Zaa Zaa,q4,z,u,ζi,f];rfl,by rw[o 6 Zaa Zaa,C 6 Zaa Zaa];exact h.f6,q7,by rw[<-I,List.length_set];exact h.len,
    λp i S=>by rw[z,u]at S;rw[l];by_cases e:p=K;subst e;rw[<-f,getElem?_append_right (le_refl _),Nat.sub_self]at S;cases S;rw[if_pos rfl];have ae:p<(kept t (kk+(m'+1))).length:=(by have:=(ζe.1 S).1;simp at this;omega);rw[getElem?_append_left ae]at S;rw[if_neg Zaa];exact h.pre p i S,
    λi a Z=>by rw[l,if_neg Zaa];exact h.post i Zaa Z,λj hj=>by rw[l,if_neg Zaa];exact h.out j hj,
    λi hi=>by rw[l];by_cases e:off+i=off+K;rw[if_pos e];exact⟨_,Zaa,rfl⟩;rw[if_neg e];exact h.cell i hi⟩
   exact⟨F',D,nJ.step (Ex.seq (Ex.seq (Ex.dy a1) (Ex.oN T Ex.skip)) (Ex.seq (Ex.block (Ex.seq (Ex.Ph (by decide) U) (Ex.oN (by simp[bB,b]) (Ex.seq (Ex.dy Y) (Ex.dy Q))))) (Ex.dy q6))) i1,i2⟩
structure Tn(off L:Nat)(rs:List (List V))(A:Nat->V)(t:Nat->Bool)(rs':List (List V)):Prop where
 len:rs'.length=rs.length
 pre:∀p i,(kept t L)[p]?=some i->rs'[off+p]?=some [A i]
 all:∀c∈rs',c∈rs\/c=[.bM]
theorem Ot(X:Jj E g cb H id off L rs A t):∀(d k:Nat)(F:WP),k+d=L->0<k->(∀i,0<i->i<k->t i=false)->get F 0=.hsl id 1 off L->get F 1=.clo g [] cb->get F 5=.int .i64 k->
 (∃F',nJ E N Vw F H (.exit 0) F' H/\get F' 0=.hsl id 1 off L/\∀i,0<i->i<L->t i=false)\/
 (∃F' D,nJ E N Vw F H .ret F' (H.set id (.row 1 D))/\get F' 4=.hsl id 1 off (kept t L).length/\Tn off L rs A t D):=by
 have Q:=(ζe.1 X.row).1;have S:=th X.row;have ah:=X.small;have af:=X.len;intro d
 induction d with
 |zero=>
  intro k F he r hp b v e;have ek:k=L:=Zaa
  subst ek;obtain⟨F1,e1,e2,e3⟩:=x5 (N:=N) b e;exact .inl ⟨F1,nJ.stop (Ex.vK (Ex.seq (Ex.dy e1) (Ex.qU (by simp[bB,e2]) Ex.exit)) Zab) Zab,Zac,hp⟩
 |succ d ih=>
  intro k F he r hp b v e;obtain⟨F1,a1,a2,a3⟩:=x5 b e;have U:bB N F1 15=.bool true:=by show get F1 15=_;rw[a2,decide_eq_true Zaa]
  obtain⟨u,rfl⟩:∃u,k=u+1:=⟨k-1,Zaa⟩
  obtain⟨n0,ai⟩:=X.cmp;obtain⟨y,b1,f,b3⟩:=(Zu (N:=N) (cb:=cb) (g:=g) (i:=u) (L2:=L) (t:=t (u+1)) X.row Zaa Zaa (X.at_ _ Zaa) (X.at_ _ Zaa) X.keep (by rw[a3 1 Zaa];omega)).1 Zac Zac
  have W:∃n,∀k,n<=k->cQ E N (run E k) (some H.length) r6 F1 H=some (y,H):=⟨n0,λk r=>b1 _ (by
   grind)⟩
  have Y:=λs M=>(b3 s M).trans (a3 s M)
  cases w:t (u+1)with
  |false=>
   rw[w]at f;obtain⟨T,l,m,h⟩:=(Pj (E:=E) (F:=y) (p:=u+1) Zaa).2.2 Zac
   have z:Ex E N Vw F H .norm T H:=Ex.seq (Ex.seq (Ex.dy a1) (Ex.oN U Ex.skip)) (Ex.seq (Ex.block (Ex.seq (Ex.Ph (by decide) W) (Ex.qU (by simp[bB,f]) Ex.skip))) (Ex.dy l))
   rcases ih (u+1+1) T Zaa Zaa (λi P Z=>by
    grind) Zac Zad m with⟨F',i1,i2⟩|⟨F',D,i1,i2⟩
   .exact .inl ⟨F',nJ.step z i1,i2⟩
   exact .inr ⟨F',D,nJ.step z i1,i2⟩
  |true=>
   rw[w]at f;refine .inr ?_;obtain⟨T,l,m,h⟩:=x7 (E:=E) (N:=N) (H:=H) (k:=u+1) (by rw[Y 0 Zaa];exact b) (by rw[Y 5 Zaa];exact e) Zaa
   have G:kept t (u+1)=range (u+1):=D_ _ hp;have R:kept t (u+1+1)=range (u+1):=by rw[zf,G,w];simp
   have q4:∀call,cQ E N call none r8 T H=some (set T 7 (.int .i64 1),H):=λcall=>vp rfl (by simp[bK,bB,bq]) eH
   have h0:Head g cb id off L (u+1) 1 rs A t (set T 7 (.int .i64 1)) rs:=⟨by rw[kA _ _ Zaa,h 0 Zaa Zaa,Y 0 Zaa];exact b,by rw[kA _ _ Zaa,h 1 Zaa Zaa,Y 1 Zaa];exact v,
    by rw[kA _ _ Zaa,h 5 Zaa Zaa,Y 5 Zaa,R,length_range];exact e,by rw[kA _ _ Zaa];exact m,by rw[uK];rfl,rfl,
    λp i B=>by rw[R]at B;obtain⟨P,Z⟩:=ζe.1 B;simp at P Z;subst Z;exact X.at_ p Zaa,λi _ Z=>X.at_ i Z,λ_ _=>rfl,λi hi=>⟨i,hi,X.at_ i hi⟩⟩
   obtain⟨F5,C,V,I⟩:=Pa (N:=N) X Zaa Zaa w (L-(u+1)-1) 1 _ rs Zaa Zaa h0
   rw[S]at V;have eL:u+1+(L-(u+1))=L:=Zaa
   have ae:=BD (t:=t) (k:=u+1) Zaa w L Zaa
   have o:=I.f5;have J:=I.pre;rw[eL]at o J;generalize hK:(kept t L).length=K at *;have ab:(H.set id (.row 1 C))[id]?=some (.row 1 C):=getElem?_set_self Q;obtain⟨F6,w1,w2⟩:=x14 (E:=E) (N:=N) (p:=K) ab I.f0 o Zaa (by rw[I.len];omega)
   rw[set_set]at w1;obtain⟨F7,w3,w4⟩:=Vi (E:=E) (by rw[w2 0 Zaa];exact I.f0) (by rw[w2 5 Zaa];exact o) Zaa
   have aj:=I.len;refine⟨F7,C.take (off+K)++replicate (L-K) [.bM]++C.drop (off+L),nJ.stop (Ex.seq (Ex.seq (Ex.dy a1) (Ex.oN U Ex.skip)) (Ex.vK (Ex.QI (Ex.seq (Ex.Ph (by decide) W) (Ex.oN (by simp[bB,f]) (Ex.seq (Ex.dy l) (Ex.seq (Ex.seq (Ex.dy q4) (Ex.wJ (Ex.loop V))) (Ex.seq (Ex.dy w1) (Ex.seq (Ex.dy w3) Ex.ret))))))) Zab)) Zab,w4,?_,λp i B=>?_,λc a=>?_⟩
   .simp;omega
   .have ak:p<K:=by rw[<-hK];exact(ζe.1 B).1
    rw[append_assoc,getElem?_append_left (by simp;omega),getElem?_take,if_pos Zaa]
    exact J p i B
   have ad:∀j x,C[j]?=some x->x∈rs:=λj x O=>by by_cases ho:j<off\/off+L<=j;rw[I.out j ho]at O;exact mem_of_getElem? O;obtain⟨i,rfl⟩:∃i,j=off+i:=⟨j-off,Zaa⟩;obtain⟨q,hq,a⟩:=I.cell i Zaa;rw[a]at O;cases O;exact mem_of_getElem? (X.at_ q hq)
   rcases mem_append.1 a with a|a
   .rcases mem_append.1 a with a|a
    .obtain⟨j,O⟩:=getElem?_of_mem (List.mem_of_mem_take a);exact .inl (ad j c O)
    exact .inr (List.eq_of_mem_replicate a)
   obtain⟨j,O⟩:=getElem?_of_mem (List.mem_of_mem_drop a);exact .inl (ad j c O)
end
end cmpX
def Bj(E:Env)(g:Y')(cb:So)(a b:V):a_ X':=match DV E g cb a b with|some (.bool c)=>some c|_=>none
theorem YA{E:Env}{g:Y'}{cb:So}{a b:V}{c:X'}(h:Bj E g cb a b=some c):∃n,∀k,n<=k->cw (run E k) g (a::b::cb) []=some (.bool c):=by
 unfold Bj at h;split at h;next c' d=>cases h;exact GC d
 cases h
def nK(xs:S')(i:Nat):V:=jy ((xs[i]?).getD [])
def zP(E:Env)(es:Nat)(xs:S'):So->a_ S'
 |[.clo g [] cb]=>if xs.isEmpty then some []else if v8 es xs&& !E.keep g then
  if(range xs.length).all λi=>i==0||(Bj E g cb (nK xs i) (nK xs (i-1))).isSome then
   some ((kept (λi=>(Bj E g cb (nK xs i) (nK xs (i-1))).getD false) xs.length).map λi=>(xs[i]?).getD [])
  else none
  else none
 |_=>none
def uU(E:Env):Hy:=⟨true,zP E⟩
namespace cmpX
section
variable{E:Env}{N:Nat->Y'}{g:Y'}{cb:So}{H:bp}{id off L:Nat}{rs:S'}{A:Nat->V}{t:Nat->X'}
theorem whole(X:Jj E g cb H id off L rs A t):∃F' B,Ex E N code [.hsl id 1 off L,.clo g [] cb] H .ret F' (H.set id (.row 1 B))/\get F' 4=.hsl id 1 off (kept t L).length/\Tn off L rs A t B:=by
 have u:H.set id (.row 1 rs)=H:=th X.row;have same:(∀i,0<i->i<L->t i=false)->(kept t L).length=L/\Tn off L rs A t rs:=λh=>by have d:=D_ L h;rw[d,length_range];exact⟨rfl,rfl,λp i O=>by rw[d]at O;have⟨a,w⟩:=ζe.1 O;simp at a w;subst w;exact X.at_ p a,λc b=>.inl b⟩
 have g1:∀call,cQ E N call none r1 [.hsl id 1 off L,.clo g [] cb] H=some (set [.hsl id 1 off L,.clo g [] cb] 4 .bM,H):=λcall=>vp (v:=.bM) rfl (by simp[bK,bB,bq]) eH;have k0:get (set [V.hsl id 1 off L,.clo g [] cb] 4 .bM) 0=.hsl id 1 off L:=rfl;have k1:get (set [V.hsl id 1 off L,.clo g [] cb] 4 .bM) 1=.clo g [] cb:=rfl;generalize set [V.hsl id 1 off L,.clo g [] cb] 4 .bM=Q at *;have⟨F1,a1,a2,a3⟩:=x2 (E:=E) (N:=N) (H:=H) k0;by_cases S:L<2;have⟨z,C,D⟩:=SO (E:=E) (N:=N) (F:=F1) (H:=H);have⟨e1,e2⟩:=same λi a w=>by omega
 refine⟨z,rs,?_,by rw[e1,D,a3 0 Zaa];exact k0,e2⟩;rw[u];exact Ex.seq (Ex.dy g1) (Ex.vK (Ex.seq (Ex.dy a1) (Ex.oN (by show get F1 10=_;rw[a2,decide_eq_true Zaa]) (Ex.seq (Ex.dy C) Ex.ret))) Zab);have g4:∀call,cQ E N call none r4 F1 H=some (set F1 5 (.int .i64 1),H):=λcall=>vp (v:=.int .i64 1) rfl (by simp[bK,bB,bq]) eH;have b:Ex E N (.seq (.ops r2) (.cond (.s 10) (.seq (.ops r3) (.ret)) (.skip))) Q H .norm F1 H:=Ex.seq (Ex.dy a1) (Ex.qU (by show get F1 10=_;rw[a2,decide_eq_false Zaa]) Ex.skip);rcases Ot (N:=N) X (L-1) 1 (set F1 5 (.int .i64 1)) Zaa Zaa (λi a w=>Zaa) (by rw[kA _ _ Zaa,a3 0 Zaa];exact k0) (by rw[kA _ _ Zaa,a3 1 Zaa];exact k1) (by rw[uK];rfl)with⟨F',G,I,J⟩|⟨F',B,G,I,J⟩;have⟨z,C,D⟩:=xmv (E:=E) (N:=N) (F:=F') (H:=H);have⟨e1,e2⟩:=same J;refine⟨z,rs,?_,by rw[e1,D];exact I,e2⟩;rw[u];exact Ex.seq (Ex.dy g1) (Ex.seq b (Ex.seq (Ex.seq (Ex.dy g4) (Ex.wJ (Ex.loop G))) (Ex.seq (Ex.dy C) Ex.ret)));exact⟨F',B,Ex.seq (Ex.dy g1) (Ex.seq b (Ex.vK (Ex.seq (Ex.dy g4) (Ex.QI (Ex.loop G))) Zab)),I,J⟩
theorem empty{w:V}(c:V)(B:w=.bM\/w=.dX):∃F',Ex E N code [w,c] H .ret F' H/\get F' 4=w:=by
 have g1:∀call,cQ E N call none r1 [w,c] H=some (set [w,c] 4 .bM,H):=λcall=>vp (v:=.bM) rfl (by simp[bK,bB,bq]) eH;have k0:get (set [w,c] 4 .bM) 0=w:=rfl;generalize set [w,c] 4 .bM=u at *;have z:pO w=some (.int .i64 0):=by rcases B with rfl|rfl<;>rfl
 have a1:∃F1,(∀call,cQ E N call none r2 u H=some (F1,H))/\get F1 10=.bool true/\get F1 0=w:=by refine⟨_,λcall=>vp (v:=w) rfl ?_<|vp (v:=.int .i64 0) rfl ?_<|vp (v:=.bool true) rfl ?_ eH,?_,?_⟩;simp[bK,bB,bq,k0];simp[bK,bB,bq,bz,z];simp[bK,bB,bq,bz,iG,pU];simp[bz];simp[bz,k0]
 have⟨F1,a1,a2,a3⟩:=a1;have⟨C,D,G⟩:=SO (E:=E) (N:=N) (F:=F1) (H:=H);exact⟨C,Ex.seq (Ex.dy g1) (Ex.vK (Ex.seq (Ex.dy a1) (Ex.oN a2 (Ex.seq (Ex.dy D) Ex.ret))) Zab),by rw[G,a3]⟩
end
end cmpX
theorem SB{E:Env}{f:Y'}{nm:Y'->a_ Nat}{N:Nat->Y'}(hN:∀f s,nm f=some s->N s=f)(d:E.keep f=true)(ho:E.own f=false)
 (hf:∃fi,E.ft f=some fi/\bX ⟨E,nm,fi.ntmps⟩ false fi.body=some cmpX.code/\2<=fi.ntmps/\fi.results=[.tmp 4]):oU E f (uU E):=by
 have⟨fi,h1,h2,h3,h4⟩:=hf;have D:∀{w c:V}{H H':bp}{F':WP}{r:V},Ex E N cmpX.code [w,c] H .ret F' H'->get F' 4=r->∃n,∀k,n<=k->run E k (.fn f) [w,c] H=some (r,H'):=λ{w c H H' F' r}K P=>by have⟨n,G⟩:=Ex.run hN h1 h2 (args:=[w,c]) (by simpa using h3) K (vs:=[r]) (by rw[h4];simp[js,P]);exact⟨n,λk d=>(pY E d).go _ _ _ _ G⟩
 refine⟨d,ho,?_,?_,?_⟩
 .intro es z vs ys h;simp only[uU,zP]at h;refine⟨?_,λe=>by simp[uU]at e⟩
  split at h
  .split at h
   .cases h;simp
   split at h
   .split at h
    .cases h;simpa using C0 _ _
    cases h
   cases h
  cases h
 .intro es vs ys h H Z ws w hw he;simp only[uU,zP]at h;split at h
  .obtain⟨q,r,rfl,R,t⟩:=hw.inv;rw[t.dh];have⟨F',e1,e2⟩:=cmpX.empty (E:=E) (N:=N) (H:=H) q he;have⟨n,G⟩:=D e1 e2;exact⟨n,[],λk d=>by rw[append_nil];exact G k d⟩
  cases h
 intro es z vs ys h H Z ws id off rs hw S T ae J hz;simp only[uU,zP]at h;split at h
 .rename_i g cb;obtain⟨q,r,rfl,R,t⟩:=hw.inv;rw[t.dh];obtain⟨a',B,rfl,ha,af⟩:∃a' B,q=.clo g a' B/\dK H Z [] a'/\dK H Z cb B:=R.lG;rw[ha.dh]at *;split at h
  .rename_i he;cases h;have:z=[]:=by simpa using he
   subst this;have e2:∃F',Ex E N cmpX.code [.hsl id es off 0,.clo g [] B] H .ret F' H/\get F' 4=.hsl id es off 0:=by have g1:∀call,cQ E N call none cmpX.r1 [.hsl id es off 0,.clo g [] B] H=some (set [.hsl id es off 0,.clo g [] B] 4 .bM,H):=λcall=>vp (v:=.bM) rfl (by simp[bK,bB,bq]) eH;have k0:get (set [V.hsl id es off 0,.clo g [] B] 4 .bM) 0=.hsl id es off 0:=rfl;generalize set [V.hsl id es off 0,.clo g [] B] 4 .bM=F0 at *;have a1:∃F1,(∀call,cQ E N call none cmpX.r2 F0 H=some (F1,H))/\get F1 10=.bool true/\get F1 0=.hsl id es off 0:=(by refine⟨_,λcall=>vp (v:=.hsl id es off 0) rfl ?_<|vp (v:=.int .i64 0) rfl ?_<|vp (v:=.bool true) rfl ?_ eH,?_,?_⟩;simp[bK,bB,bq,k0];simp[bK,bB,bq,bz,pO];simp[bK,bB,bq,bz,iG,pU];simp[bz];simp[bz,k0]);have⟨F1,a1,a2,a3⟩:=a1;have⟨F2,b1,b2⟩:=cmpX.SO (E:=E) (N:=N) (F:=F1) (H:=H);exact⟨F2,Ex.seq (Ex.dy g1) (Ex.vK (Ex.seq (Ex.dy a1) (Ex.oN a2 (Ex.seq (Ex.dy b1) Ex.ret))) Zab),by rw[b2,a3]⟩
   have⟨F',e1,e3⟩:=e2;have⟨n,G⟩:=D e1 e3;refine⟨n,rs,[],λk d=>?_,rfl,⟨rfl,λj u v l=>by simp at l⟩,J⟩
   rw[append_nil,th S];exact G k d
  rename_i al;split at h
  .rename_i L;simp only[ζh,Bool.not_eq_true']at L;have⟨c1,c3⟩:=L;obtain⟨rfl,U,W⟩:=AM c1;split at h
   .rename_i Y;cases h;have O:∀i,i<z.length->∃a,rs[off+i]?=some [a]/\FR H Z (nK z i) a/\a.one=true:=λi hi=>by
     have⟨e,p2⟩:=W i z[i] (ζd hi);have Q:off+i<rs.length:=Zaa
     have:=ae.2 i z[i] rs[off+i] (ζd hi) (by rw[getElem?_take,if_pos hi,getElem?_drop,ζd Q])
     rw[e]at this;have⟨y,ys,e2,r1,r2⟩:=this.inv;rw[r2.dh]at e2;have e3:nK z i=jy z[i]:=by unfold nK;rw[ζd hi];rfl
     exact⟨y,by rw[ζd Q,e2],by rw[e3];exact r1,by rw[r1.one];exact p2⟩
    let A:Nat->V:=λi=>match rs[off+i]?with|some (a::_)=>a|_=>.undef
    have m:∀i,i<z.length->rs[off+i]?=some [A i]/\FR H Z (nK z i) (A i)/\(A i).one=true:=λi hi=>by have⟨a,p1,p2,p4⟩:=O i hi;have:A i=a:=(by show(match rs[off+i]?with|some (a::_)=>a|_=>V.undef)=a;rw[p1]);rw[this];exact⟨p1,p2,p4⟩
    have aa:∀i,i+1<z.length->∃b,Bj E g cb (nK z (i+1)) (nK z i)=some b:=λi hi=>by have:=all_eq_true.1 Y (i+1) (mem_range.2 hi);simp only[Nat.add_sub_cancel,Bool.or_eq_true]at this;rcases this with h|h;simp at h;exact Option.isSome_iff_exists.1 h
    have X:cmpX.Jj E g B H id off z.length rs A (λi=>(Bj E g cb (nK z i) (nK z (i-1))).getD false):=by refine⟨S,T,U,λi hi=>(m i hi).1,λi hi=>(m i hi).2.2,c3,?_⟩;have⟨M,hM⟩:=GO (n:=z.length-1) (p:=λi k=>cw (run E k) g (nK z (i.1+1)::nK z i.1::cb) []=some (.bool ((Bj E g cb (nK z (i.1+1)) (nK z i.1)).getD false))) (λi=>by have⟨b,Q⟩:=aa i.1 (by have:=i.2;omega);have⟨n,G⟩:=YA Q;exact⟨n,λk d=>by rw[G k d,Q];rfl⟩);have⟨L1,ah⟩:=nS ((range z.length).map (nK z));have⟨L2,ai⟩:=nS cb;have ab:∀i k,i<z.length->L1<=k->(nK z i).lvl k=true:=λi k hi d=>Aa d (oa.1 ah i _ (by simp[hi]));refine⟨max M (max L1 L2),λk d i hi ad=>?_⟩;have C:∀j,Z j->Z j/\bt (H.set id (.row 1 ad)) j=bt H j:=λj o=>⟨o,by unfold bt;rw[getElem?_set_ne];rintro rfl;exact hz o⟩;have hl:dK (H.set id (.row 1 ad)) Z (nK z (i+1)::nK z i::cb) (A (i+1)::A i::B):=.cons ((m _ hi).2.1.mono C) (.cons ((m i Zaa).2.1.mono C) (af.mono C));have Q:=hl.NP (k:=k) (by simp only[V.mS,ab _ k hi Zaa,ab i k Zaa Zaa,qF (by omega:L2<=k) ai,Bool.and_self]);rw[YV (by rw[pV];exact Q) (λx K=>?_)];exact hM ⟨i,Zaa⟩ k Zaa;have⟨j,o⟩:=getElem?_of_mem K;have⟨y,hy,P⟩:=hl.get o;exact V.mw P.good
    have⟨F',aj,e1,e2,e3⟩:=cmpX.whole (N:=N) X;have⟨n,G⟩:=D e1 e2;refine⟨n,aj,[],λk d=>?_,e3.len,?_,?_⟩
    .simp only[uU,if_true,length_map,append_nil];exact G k d
    .refine⟨by simp[e3.len];have:=C0 (λi=>(Bj E g cb (nK z i) (nK z (i-1))).getD false) z.length;omega,λp a b hp hq=>?_⟩
     rw[getElem?_map]at hp;obtain⟨i,hi,rfl⟩:=ζf.1 hp;have I:=Nh (mem_of_getElem? hi);have ak:=(ζe.1 hi).1;rw[getElem?_take,if_pos (by simpa using ak),getElem?_drop,e3.pre p i hi]at hq
     cases hq;rw[ζd I,getD_some];have e4:=(W i z[i] (ζd I)).1;have e5:nK z i=jy z[i]:=by unfold nK;rw[ζd I];rfl
     rw[e4,<-e5];exact .cons (m i I).2.1 .nil
    intro c hc u l;rcases e3.all c hc with h|rfl
    .exact J c h u l
    simp at l;subst l;exact⟨.bM,.same _ rfl⟩
   cases h
  cases h
 cases h
def Sl.re{α:Type}(s:Sl α)(l:aZ α):Sl α:=match s with|.nil=>.nil|.emp=>.emp|.row _=>.row l|.part _=>.part l
def Sl.u6{α:Type}(s:Sl α)(l:aZ α):Sl α:=match s with|.nil=>.nil|.emp=>.emp|.row _|.part _=>.part l
def A9{α:Type}(s:Sl α)(p:α->α->Pi):a_ (Sl α):=
 match s.l with
 |[]=>some s|x::l=>if l.length<2147483648 then
  let t:_root_.Fin (l.length+1)->_root_.Fin (l.length+1)->Pi:=λi j=>p (x::l)[i.1] (x::l)[j.1]
  if De t then some (s.re ((sJ l.length (qY t)).toList.map λi=>(x::l)[i.1]))else none
  else none
def vf{α:Type}(l:aZ α)(p:α->α->a_ X')(i:Nat):a_ X':=match l[i]?,l[i-1]?with|some a,some b=>p a b|_,_=>none
def zO{α:Type}(s:Sl α)(p:α->α->a_ X'):a_ (Sl α):=
 if s.l.length<=2147483648/\((range s.l.length).all λi=>i==0||(vf s.l p i).isSome)=true then
  some (s.u6 ((kept (λi=>(vf s.l p i).getD false) s.l.length).filterMap (s.l[·]?)))
 else none
section
variable{S:Sys}{T:rG}{β γ δ α:Type}{Q:Out×St->a_ β}{e:γ->a_ β}{cf:Cf}
theorem gC.QH(B:rV S T)(D:∀f a b xs,S.items f a b=some xs->eZ S f a b xs){fn:Y'}{A:δ->So}{E:α->So}{p:δ->a_ α}{sc:X'}(F:gC S (dw S T) fn A E p sc){z:δ}{r:α}(h:p z=some r)(d:V.cM (A z)=true):
 ∃n,cw (run S.E n) fn (A z) []=some (result (E r)):=by
 have e:=F.h z (E r) Zad
 have⟨⟨rs,m'⟩,u,w⟩:=ζg.1 e;have⟨n,y,H2,e1,e2,e3⟩:=Eg (vR B D) d u w;refine⟨n,?_⟩;have C:borrows n [] (A z)=some (A z):=by have c:=V.pT d;generalize A z=l at c;unfold borrows;induction l with|nil=>rfl|cons x l G=>simp[V.mL]at c;simp[jm,eT n [] c.1,G c.2]
 unfold cw;rw[pV,C];simp[e1 n (le_refl _),e2 n (le_refl _),V.mw e3]
section
variable[bH α]
theorem FP(b:bH.size α=1){l:aZ α}(B:l.length<=2147483648):v8 (bH.size α) (rows l)=true:=by unfold v8;simp;refine⟨⟨b,λx u=>?_⟩,by simpa[rows]using B⟩;obtain⟨a,_,rfl⟩:=mem_map.1 u;exact⟨by rw[gT,b],all_eq_true.1 (bH.one a)⟩
theorem HU(b:bH.agg α=false)(a:α):jy (cells a)=enc a:=by unfold enc;rw[if_neg Zac];rfl
theorem Er(l:aZ α)(i:Nat)(h:i<l.length):(rows l)[i]?=some (cells l[i]):=by unfold rows;grind
theorem Wx(U:rV S T)(W:∀f a b xs,S.items f a b=some xs->eZ S f a b xs){g:Y'}{p:α->α->Pi}(F:gC S (dw S T) g (λz:α×α=>[enc z.1,enc z.2]) (λr:Int=>[.int .i64 r]) (λz=>p z.1 z.2) true)
 (c:bH.size α=1)(Y:bH.agg α=false){s D:Sl α}(h:A9 s p=some D):Bt S.E (bH.size α) (rows s.l) [.clo g [] []]=some (rows D.l)/\D.k=s.k:=by
 unfold A9 at h;split at h
 next B=>cases h;rw[B];exact⟨rfl,rfl⟩
 rename_i x l B;split at h
 .dsimp only at h;split at h
  .rename_i I;cases h;rw[B];have⟨u,J⟩:=rW I;have C:=FP c (l:=x::l) Zac
   have key:∀m,m=l.length->(if De (λi j:_root_.Fin (m+1)=>ve S.E g [] (jy (((rows (x::l))[i.1]?).getD [])) (jy (((rows (x::l))[j.1]?).getD [])))then
    some ((sJ m (qY (λi j:_root_.Fin (m+1)=>ve S.E g [] (jy (((rows (x::l))[i.1]?).getD [])) (jy (((rows (x::l))[j.1]?).getD []))))).toList.map λi=>((rows (x::l))[i.1]?).getD [])else none)=
    some (rows ((sJ l.length (qY λi j:_root_.Fin (l.length+1)=>p (x::l)[i.1] (x::l)[j.1])).toList.map λi=>(x::l)[i.1])):=by
    rintro m rfl;have e1:∀i:_root_.Fin (l.length+1),jy (((rows (x::l))[i.1]?).getD [])=enc (x::l)[i.1]:=λi=>by rw[Er (x::l) i.1 i.2,getD_some,HU Y]
    have e2:(λi j:_root_.Fin (l.length+1)=>ve S.E g [] (jy (((rows (x::l))[i.1]?).getD [])) (jy (((rows (x::l))[j.1]?).getD [])))=λi j=>p (x::l)[i.1] (x::l)[j.1]:=by funext i j;have⟨z,L⟩:=u i j;rw[e1 i,e1 j,L];have⟨n,O⟩:=F.QH U W (z:=((x::l)[i.1],(x::l)[j.1])) L (by simp[V.cM,kC]);unfold ve;rw[Nd O];rfl
    rw[e2,if_pos I]
    congr 1
    unfold rows;rw[List.map_map];refine List.map_congr_left λi _=>?_
    grind
   have w:(s.re ((sJ l.length (qY λi j:_root_.Fin (l.length+1)=>p (x::l)[i.1] (x::l)[j.1])).toList.map λi=>(x::l)[i.1])).l=(sJ l.length (qY λi j:_root_.Fin (l.length+1)=>p (x::l)[i.1] (x::l)[j.1])).toList.map (λi=>(x::l)[i.1])/\(s.re ((sJ l.length (qY λi j:_root_.Fin (l.length+1)=>p (x::l)[i.1] (x::l)[j.1])).toList.map λi=>(x::l)[i.1])).k=s.k:=by cases s<;>simp[Sl.l]at B<;>exact⟨rfl,rfl⟩
   refine⟨?_,w.2⟩;rw[w.1,<-key (rows l).length (iP l)];have d:(v8 (bH.size α) (rows (x::l))&& !S.E.keep g)=true:=by rw[C,F.k];rfl
   have G:=d;exact(if_pos G).trans rfl
  simp_all
 simp_all
theorem Xa(W:rV S T)(Y:∀f a b xs,S.items f a b=some xs->eZ S f a b xs){g:Y'}{p:α->α->a_ X'}(F:gC S (dw S T) g (λz:α×α=>[enc z.1,enc z.2]) (λr:X'=>[.bool r]) (λz=>p z.1 z.2) true)
 (d:bH.size α=1)(e:bH.agg α=false){s D:Sl α}(h:zO s p=some D):zP S.E (bH.size α) (rows s.l) [.clo g [] []]=some (rows D.l)/\D=s.u6 D.l:=by
 have Q:∀l:aZ α,(s.u6 l)=s.u6 (s.u6 l).l:=λl=>by cases s<;>rfl
 refine⟨?_,by
  unfold zO at h;grind⟩
 unfold zO at h;split at h
 .rename_i hc;cases h;have⟨X,u⟩:=hc;have I:=FP d X;simp only[zP]
  by_cases J:s.l=[]
  .have:(s.u6 ((kept (λi=>(vf s.l p i).getD false) s.l.length).filterMap (s.l[·]?))).l=[]:=by
    cases s<;>simp[Sl.l]at J<;>simp[Sl.u6,Sl.l,J,kept]
   rw[this,J];rfl
  have L:(rows s.l).isEmpty=false:=by cases m:s.l with|nil=>grind|cons a l=>rfl
  rw[L,if_neg Zab,I,F.k,if_pos (by rfl),iP]
  have e1:∀i,0<i->i<s.l.length->∃b,vf s.l p i=some b/\Bj S.E g [] (nK (rows s.l) i) (nK (rows s.l) (i-1))=some b:=λi k hi=>by have:=all_eq_true.1 u i (mem_range.2 hi);simp at this;have⟨b,C⟩:=Option.isSome_iff_exists.1 (this.resolve_left Zaa);refine⟨b,C,?_⟩;have w:i-1<s.l.length:=Zaa;unfold vf at C;rw[ζd hi,ζd w]at C;have U:∀j(G:j<s.l.length),nK (rows s.l) j=enc s.l[j]:=λj G=>(by unfold nK;rw[Er _ _ G,getD_some,HU e]);rw[U i hi,U (i-1) w];have⟨n,Z⟩:=F.QH W Y (z:=(s.l[i],s.l[i-1])) C (by simp only[V.cM,kC,Bool.and_self]);unfold Bj;rw[Nd Z];rfl
  have e2:((range s.l.length).all λi=>i==0||(Bj S.E g [] (nK (rows s.l) i) (nK (rows s.l) (i-1))).isSome)=true:=by grind
  rw[if_pos e2];have e3:kept (λi=>(Bj S.E g [] (nK (rows s.l) i) (nK (rows s.l) (i-1))).getD false) s.l.length=kept (λi=>(vf s.l p i).getD false) s.l.length:=by refine List.filter_congr λi hi=>?_;by_cases k:i=0;grind;have⟨b,o,q⟩:=e1 i Zaa (mem_range.1 hi);simp_all
  rw[e3];have e4:(s.u6 ((kept (λi=>(vf s.l p i).getD false) s.l.length).filterMap (s.l[·]?))).l=(kept (λi=>(vf s.l p i).getD false) s.l.length).filterMap (s.l[·]?):=by cases s<;>first|rfl|grind
  rw[e4]
  congr 1
  generalize c:kept (λi=>(vf s.l p i).getD false) s.l.length=O
  have B:∀i∈O,i<s.l.length:=λi hi=>Nh (c▸hi)
  clear c e3 e4
  induction O with
  |nil=>rfl|cons i O ih=>
   have hi:=B i Zab
   rw[map_cons,ih λj G=>B j (List.mem_cons_of_mem _ G),Er _ _ hi,List.filterMap_cons,ζd hi]
   rfl
 simp_all
theorem Sj{s B:Sl α}{p:α->α->Pi}(h:A9 s p=some B)(a:cV s.k=false):B=s:=by cases s<;>simp[Sl.k,cV]at a<;>simpa[A9,Sl.l]using h.symm
theorem aae(n d:Nat)(D:rV S T)(G:∀f a b xs,S.items f a b=some xs->eZ S f a b xs){fn g:Y'}(hp:S.prm fn=some (uV S.E)){p:α->α->Pi}
 (F:gC S (dw S T) g (λz:α×α=>[enc z.1,enc z.2]) (λr:Int=>[.int .i64 r]) (λz=>p z.1 z.2) true){s:Sl α}{f:Sl α->a_ γ}
 (h:∀B,A9 s p=some B->Le ((f B).bind e) (cn S (dw S T) Q (nx S (dw S T) n cf λq=>c8 {q.st with m:=bR q.st.m d (cO B)} q.d (.v .undef))))
 (i:bH.size α=1:=by rfl)(J:bH.agg α=false:=by rfl)
 (U:(gw S (dw S T) n cf).map (λq=>(q.k,b7 S.N q.st.g q.az,bn q.st.m d,q.dr))=some (.c,some [.v (.clo fn [] []),.own d,.v (.clo g [] [])],some (cO s),false):=by kernel_rfl):Le (((A9 s p).bind f).bind e) (cn S (dw S T) Q cf):=by
 have⟨q,C,c⟩:=fc U;simp at c;have⟨I,L,O,W⟩:=c;refine rK C ?_ h;rw[I,W];intro y w;have⟨B,u,w⟩:=ζg.1 w;have⟨e1,e2⟩:=Wx D G F i J u;have j:=(D.prm fn _ hp).keep;have X:=(D.prm fn _ hp).own;rw[xk false _ _ _ _ _ _ fn [.own d,.v (.clo g [] [])] L rfl];have l:fP S (dw S T) q.d false (!false||q.now) (gF q.st.m q.fr) fn [.own d,.v (.clo g [] [])] q.st=some (.v .undef,{q.st with m:=bR q.st.m d (cO B)}):=by unfold fP;simp[j,X,hp,D7,O,cO,dG];have e3:=e1;simp[uV];cases k:cV s.k with|true=>grind|false=>have:=Sj u k;grind
 grind
theorem aah(n d t:Nat)(D:rV S T)(G:∀f a b xs,S.items f a b=some xs->eZ S f a b xs){fn g:Y'}(hp:S.prm fn=some (uU S.E)){p:α->α->a_ X'}
 (F:gC S (dw S T) g (λz:α×α=>[enc z.1,enc z.2]) (λr:X'=>[.bool r]) (λz=>p z.1 z.2) true){s:Sl α}{f:Sl α->a_ γ}
 (h:∀B,zO s p=some B->Le ((f B).bind e) (cn S (dw S T) Q (nx S (dw S T) n cf λq=>{q.st with g:=bR q.st.g t (.own t),m:=bR (eR d q.st.m) t (cO B)})))
 (i:bH.size α=1:=by rfl)(J:bH.agg α=false:=by rfl)
 (U:(gw S (dw S T) n cf).map (λq=>(q.k,b7 S.N q.st.g q.az,bn q.st.m d,q.dr,q.d,St.new {q.st with m:=eR d q.st.m} t))=some (.c,some [.v (.clo fn [] []),.own d,.v (.clo g [] [])],some (cO s),false,some t,true):=by kernel_rfl):Le (((zO s p).bind f).bind e) (cn S (dw S T) Q cf):=by
 have⟨q,C,c⟩:=fc U;simp at c;have⟨I,L,O,W,X,Y⟩:=c;refine rK C ?_ h;rw[I,W,X];intro y u;have⟨B,w,u⟩:=ζg.1 u;cases u;have⟨e1,e2⟩:=Xa D G F i J w;have j:=(D.prm fn _ hp).keep;have Z:=(D.prm fn _ hp).own;rw[xk false _ _ _ _ _ _ fn [.own d,.v (.clo g [] [])] L rfl];have k:fP S (dw S T) (some t) false (!false||q.now) (gF q.st.m q.fr) fn [.own d,.v (.clo g [] [])] q.st=some (.own t,{q.st with m:=bR (eR d q.st.m) t (cO B)}):=by unfold fP;simp[j,Z,hp,D7,O,cO,dG];have e3:(uU S.E).go (bH.size α) (rows s.l) [.clo g [] []]=some (rows B.l):=e1;rw[e3];simp[uU,Y];have e4:(if cV s.k=true then bN.sl .part (bH.size α) (rows B.l)else .sl s.k (bH.size α) (rows s.l))=.sl B.k (bH.size α) (rows B.l):=(by rw[e2];cases s<;>rfl);rw[e4]
 rw[k];rfl
end
end
section
variable{H H':bp}{w:V}{o:Nat}{ids:ST}{rows:S'}
theorem nX.cell(n:nX H w o ids rows){p j:Nat}{r:So}{u:V}(a:rows[p]?=some r)(c:r[j]?=some u):
 ∃id,ids[p]?=some id/\nq 1 w (p:Int)=some (.hptr o p 0)/\fE H (.load 1 false) [.hptr o p 0]=some (.hsl id 1 0 r.length)/\nq 1 (.hsl id 1 0 r.length) (j:Int)=some (.hptr id j 0)/\fE H (.load 1 false) [.hptr id j 0]=some u:=by
 have D:=(ζe.1 a).1;have G:=(ζe.1 c).1;have B:rows≠[]:=by intro e;subst e;simp at a
 have C:p<ids.length:=by rw[n.len];exact D
 have z:=ζd C;refine⟨ids[p],z,?_,?_,?_,?_⟩
 .have:=n.v;rw[if_neg B]at this;subst this;simp[nq,D]
 .have b:=n.ob B;have I:=D6 z a;simp[fE,eU,b,Ob.rows,I,cut];rfl
 .simp[nq,G]
 have b:=n.r p _ r z a;simp[fE,eU,b,Ob.rows,j7,c,cut];rfl
theorem RN{ids:ST}(h:ids.Nodup){i j:Nat}{a:Nat}(hi:ids[i]?=some a)(B:ids[j]?=some a):i=j:=by have b:=(ζe.1 hi);have u:=(ζe.1 B);have⟨b,e1⟩:=b;have⟨u,e2⟩:=u;exact(List.getElem_inj h).1 (e1.trans e2.symm)
theorem nX.set(n:nX H w o ids rows){p j id:Nat}{r:So}{u:V}(a:rows[p]?=some r)(U:j<r.length)(B:ids[p]?=some id)(c:V.one u=true)(d:u.cells=[u]):
 ∃H',fT H (.store 1) [.hptr id j 0,u]=some (.undef,H')/\nX H' w o ids (rows.set p (r.set j u))/\H'.length=H.length/\(∀i,i≠id->H'[i]?=H[i]?):=by
 have L:=(ζe.1 a).1;have z:rows≠[]:=by intro e;subst e;simp at a
 have b:=n.r p id r B a;have O:id<H.length:=(ζe.1 b).1;have D:(j7 r).set j [u]=j7 (r.set j u):=by simp[j7,List.map_set]
 have G:o≠id:=λe=>n.ne z (e▸mem_of_getElem? B)
 refine⟨H.set id (.row 1 (j7 (r.set j u))),?_,⟨?_,λ_=>?_,by simp[n.len],λi I Q hi C=>?_,n.nd,λ_=>n.ne z⟩,Zab,λi hi=>getElem?_set_ne (Ne.symm hi)⟩
 .have S:(j7 r)[j]?=some [r[j]]:=by simp[j7,U]
  simp only[fT,b,S,d,length_singleton,zero_add,le_refl,all_cons,c,List.all_nil,Bool.and_self,and_self,if_true,List.take_zero,nil_append];rw[<-D];simp
 .rw[n.v];have:rows.set p (r.set j u)≠[]:=by intro e;apply z;simpa using e
  rw[if_neg z,if_neg this,List.length_set]
 .rw[getElem?_set_ne (Ne.symm G),Lh a Zab];exact n.ob z
 by_cases e:i=p
 .subst e;rw[B]at hi;cases hi;rw[getElem?_set_self L]at C;cases C;rw[getElem?_set_self O]
 rw[getElem?_set_ne (Ne.symm e)]at C;have J:id≠I:=λT=>e (RN n.nd (T▸hi) B)
 rw[getElem?_set_ne J];exact n.r i I Q hi C
end
structure lR(H:bp)(w:V)(l:List (List V))(id:Nat):Prop where
 c:∀c∈l,c.length=2/\c.all V.one=true
 v:(w=.bM/\l=[])\/∃off xs,w=.hsl id 2 off l.length/\H[id]?=some (.row 2 xs)/\off+l.length<=xs.length/\(xs.drop off).take l.length=l
section
variable{H H':bp}{w:V}{l:S'}{id:Nat}
theorem lR.heap(n:lR H w l id)(h:∀off n,w=.hsl id 2 off n->H'[id]?=H[id]?):lR H' w l id:=⟨n.c,n.v.imp (λh=>h) λ⟨off,u,e1,e2,e3,e4⟩=>⟨off,u,e1,by rw[h _ _ e1];exact e2,e3,e4⟩⟩
theorem lR.lt(n:lR H w l id){off m:Nat}(h:w=.hsl id 2 off m):id<H.length:=by rcases n.v with⟨e,_⟩|⟨_,u,_,e2,_⟩;rw[e]at h;cases h;exact(ζe.1 e2).1
theorem lR.more(n:lR H w l id)(X:bp):lR (H++X) w l id:=n.heap λ_ _ e=>getElem?_append_left (n.lt e)
theorem lR.len(n:lR H w l id):pO w=some (.int .i64 l.length):=by rcases n.v with⟨rfl,rfl⟩|⟨off,u,rfl,_⟩<;>rfl
theorem lR.get(n:lR H w l id){i:Nat}{c:So}(a:l[i]?=some c):∃p,nq 2 w (i:Int)=some p/\fE H (.load 2 true) [p]=some (.agg c):=by
 have hi:=(ζe.1 a).1;have u:=(n.c c (mem_of_getElem? a)).1;rcases n.v with⟨_,rfl⟩|⟨off,z,rfl,e2,e3,e4⟩;simp at a;refine⟨.hptr id (off+i) 0,by simp[nq,hi],?_⟩;have:z[off+i]?=some c:=by rw[<-e4,getElem?_take,if_pos hi,getElem?_drop]at a;exact a
 simp[fE,eU,e2,Ob.rows,this,cut,<-u];rfl
theorem lR.tail{c:So}(n:lR H w (c::l) id):∃w',iX 2 w (some 1) none=some w'/\lR H w' l id/\∃off m B,w=.hsl id 2 off m/\w'=.hsl id 2 B l.length:=by
 rcases n.v with⟨_,e⟩|⟨off,u,rfl,e2,e3,e4⟩;cases e;refine⟨.hsl id 2 (off+1) l.length,?_,⟨λc a=>n.c c (List.mem_cons_of_mem _ a),.inr ⟨off+1,u,rfl,e2,by simp at e3;omega,?_⟩⟩,⟨_,_,_,rfl,rfl⟩⟩;simp[iX,eD];omega;have hd:(u.drop off).drop 1=u.drop (off+1):=by rw[List.drop_drop]
 rw[<-hd];have:=congrArg (List.drop 1) e4;rw[List.drop_take]at this;simpa using this
theorem lR.push(n:lR H w l id){c:So}(a:c.length=2/\c.all V.one=true)(B:l.length+1<=2147483648):
 ∃H',fT (H++[.row 2 [c]]) (.append 2) [w,.hsl H.length 2 0 1]=some (.hsl (H.length+1) 2 0 (l.length+1),H')/\lR H' (.hsl (H.length+1) 2 0 (l.length+1)) (l++[c]) (H.length+1)/\H'.length=H.length+2/\(∀i,i<H.length->(∀off m,w=.hsl id 2 off m->i≠id)->H'[i]?=H[i]?):=by
 have e2:dY (H++[.row 2 [c]]) 2 (.hsl H.length 2 0 1)=some [c]:=by simp[dY,Ob.rows]
 have u:∀c'∈l++[c],c'.length=2/\c'.all V.one=true:=λc' h=>by rcases mem_append.1 h with h|h;exact n.c c' h;simp at h;subst h;exact a
 rcases n.v with⟨rfl,rfl⟩|⟨off,D,rfl,g2,g3,g4⟩
 .have e1:dY (H++[.row 2 [c]]) 2 .bM=some []:=rfl;refine⟨H++[.row 2 [c]]++[.row 2 [c]],?_,⟨u,.inr ⟨0,[c],rfl,Zab,Zab,rfl⟩⟩,Zab,λi hi _=>by rw[append_assoc,getElem?_append_left hi]⟩
  simp only[fT,e1,e2,iK,List.length_nil,length_singleton,map_some];simp
 have z:=(ζe.1 g2).1;have e1:dY (H++[.row 2 [c]]) 2 (.hsl id 2 off l.length)=some l:=by simp only[dY,if_true,getElem?_append_left z,g2,ζb,Ob.rows,g3,g4]
 have C:iK (H++[.row 2 [c]]) (.hsl id 2 off l.length)=some (List.set (H++[Ob.row 2 [c]]) id Ob.dead):=by simp only[iK,getElem?_append_left z,g2]
 refine⟨List.set (H++[Ob.row 2 [c]]) id Ob.dead++[Ob.row 2 (l++[c])],?_,⟨u,.inr ⟨0,l++[c],Zab,Zab,Zab,take_of_length_le Zab⟩⟩,Zab,λi hi h=>?_⟩
 .simp only[fT,e1,e2,C,length_singleton,B,if_true,map_some,ζi]
 rw[getElem?_append_left (by simp;omega),getElem?_set_ne (Ne.symm (h _ _ rfl)),getElem?_append_left hi]
end
def BG(rs:aZ RV):Out×St->a_ bN
 |(.exit _,_)=>none|(_,st)=>(lS st rs).bind λl=>match l with
  |[.own d]=>bn st.m d|_=>none
theorem YF{S:Sys}{c:cr}{rs:aZ RV}{a:RC}{st:St}{ob:bN}(h:lZ S c (BG rs) a [] st=some ob):∃o st' d,cU S c a st=some (o,st')/\(∀id,o≠.exit id)/\lS st' rs=some [.own d]/\bn st'.m d=some ob:=by
 rw[qD]at h;have⟨⟨o,st'⟩,b,u⟩:=ζg.1 h;have z:∀id,o≠.exit id:=by rintro id rfl;simp[BG]at u
 have B:(lS st' rs).bind (λl=>match l with|[.own d]=>bn st'.m d|_=>none)=some ob:=by cases o with|exit id=>exact absurd rfl (z id)|norm=>exact u|ret=>exact u
 have⟨l,C,w⟩:=ζg.1 B;split at w;exact⟨o,st',_,b,z,C,w⟩;cases w
theorem YH{S:Sys}{T:rG}(U:rV S T)(W:∀f a b xs,S.items f a b=some xs->eZ S f a b xs){f:Y'}{rf:RF}(Y:T f=some rf){B:So}(c:V.cM B=true)(g:B.length<=rf.na){k:Fl}{es:Nat}{xs:S'}
 (l:∀x∈xs,x.all V.scalar=true)(m:k=.row\/k=.nil/\xs=[])(h:lZ S (dw S T) (BG rf.rs) rf.body [] (start (B.map .v) [])=some (.sl k es xs)):
 ∃n y H',run S.E n (.fn f) B []=some (y,H')/\((k=.nil/\y=.bM)\/(∃id,y=.hsl id es 0 xs.length/\H'[id]?=some (.row es xs))):=by
 have⟨o,st',d,r,O,G,I⟩:=YF h;have s:dw S T f (B.map .v) []=some ([.own d],st'.m):=by rw[tG Y];unfold oM;rw[if_pos (by simpa using g),r];cases o with|exit id=>exact absurd rfl (O id)|norm=>simp only[G,map_some]|ret=>simp only[G,map_some]
 have⟨Q,r1⟩:=zo c;obtain⟨n,y,H2,ν',Z',st2,F',J,g1,rfl,g3,g4,g5,_⟩:=vR U W f _ _ _ _ s _ _ B [] (.inr rfl) Q r1;obtain⟨z,F,rfl,e1,e2⟩:=g4.inv;have:=e2.dh;subst this;refine⟨n,_,H2,g1,?_⟩
 cases e1 with
 |own d y X=>
  have⟨H,Z,K,e,u⟩:=X _ I;cases e;have w:=g5.obj d _ (by rw[g3];exact I)
  rcases m with rfl|⟨rfl,rfl⟩
  .right;simp only[eP,cV,if_true]at w;have⟨J,t,M,D,N,C⟩:=w;have⟨C,v⟩:=C trivial;rw[C,drop_zero,<-v,take_of_length_le (le_refl _)]at D;have:xs=J:=by
    refine List.ext_getElem D.1 λi p q=>?_
    have hi:=D.2 i _ _ (ζd p) (ζd q);refine List.ext_getElem hi.1 λj L A=>?_
    have E:=hi.2 j _ _ (ζd L) (ζd A);exact((E.scalar).1 (all_eq_true.1 (l _ (getElem_mem p)) _ (getElem_mem L))).symm
   subst this;refine⟨(ν' d).1,?_,t⟩;show result [_]=_;rw[u];simp[result,tZ,C]
  left;exact⟨rfl,by show result [_]=_;rw[u];rfl⟩
theorem JZ{E:Env}{f:Y'}{B:So}{l:S'}{y:V}{H1:bp}(d:E.own f=true)(e:V.cM B=true)(D:∀c∈l,c.length=2/\c.all V.one=true/\c.all V.scalar=true)
 (b:∃n,∀k,n<=k->run E k (.fn f) B []=some (y,H1))(G:(l=[]/\y=.bM)\/(∃id,y=.hsl id 2 0 l.length/\H1[id]?=some (.row 2 l)))(H:bp):
 ∃w X id,(∃n,∀k,n<=k->fM E (run E k) f B H=some (w,H++X))/\lR (H++X) w l id/\(∀off m,w=.hsl id 2 off m->id=H.length):=by
 have⟨n,b⟩:=b;have C:∀{k:Nat}{l:So},V.cM l=true->borrows k H l=some l:=by intro k l;unfold borrows;induction l with|nil=>intro _;rfl|cons a l I=>intro h;have g:V.good a=true/\V.cM l=true:=(by simpa[V.cM]using h);simp only[jm,eT k H (V.mw g.1),I g.2]
 rcases G with⟨rfl,rfl⟩|⟨id,rfl,z⟩
 .refine⟨.bM,[],0,⟨n,λk u=>?_⟩,⟨λc h=>by simp at h,.inl ⟨rfl,rfl⟩⟩,λoff m h=>by cases h⟩
  simp only[fM,d,if_true,mj,C e,b k u,V.scalar,append_nil]
 refine⟨.hsl H.length 2 0 l.length,[.row 2 l],H.length,⟨n,λk u=>?_⟩,⟨λc h=>⟨(D c h).1,(D c h).2.1⟩,.inr ⟨0,l,rfl,Zab,Zab,Zab⟩⟩,λoff m h=>rfl⟩
 have J:(l.all λx=>x.all V.scalar)=true:=all_eq_true.2 λc h=>(D c h).2.2
 simp only[fM,d,if_true,mj,C e,b k u,V.scalar,false_eq_true,if_false,s6,z,J,and_self,map_some]
def Sl.whole{α:Type}(s:Sl α):a_ (Sl α):=match s with|.part _=>none|s=>some s
structure Ck(S:Sys)(c:cr){α δ:Type}[bH δ](fn:FuncId)(A:α->List V)(p:α->Option (Sl δ)):Prop where
 k:S.E.keep fn=true
 o:S.E.own fn=true
 h:∀z s,p z=some s->∃e m',c fn ((A z).map .v) []=some ([.own e],m')/\bn m' e=some (cO s)
 sc:∀x:δ,(cells x).all V.scalar=true
theorem Ck.mk'{S:Sys}{T:rG}{α δ:Type}[bH δ](rf:RF){fn:Y'}{A:α->So}{p:α->a_ (Sl δ)}(h:∀z,Le ((p z).bind λr=>some (cO r)) (cn S (dw S T) (BG rf.rs) (.rc rf.body,[],start ((A z).map .v) [])))
 (B:T fn=some rf:=by kernel_rfl)(b:S.E.keep fn=true:=by kernel_rfl)(D:S.E.own fn=true:=by kernel_rfl)(G:∀z,(A z).length<=rf.na:=by intro z;exact Nat.le_of_ble_eq_true (by kernel_rfl))
 (sc:∀x:δ,(cells x).all V.scalar=true:=by intro x;rfl):Ck S (dw S T) fn A p where
 k:=b
 o:=D
 sc:=sc
 h z s u:=by have a:=h z (cO s) (by rw[u];rfl);change lZ S (dw S T) (BG rf.rs) rf.body [] (start ((A z).map .v) [])=some (cO s)at a;have⟨o,st',d,g1,g2,g3,g4⟩:=YF a;refine⟨d,st'.m,?_,g4⟩;rw[tG B];unfold oM;rw[if_pos (by simpa using G z),g1];cases o with|exit id=>exact absurd rfl (g2 id)|norm=>simp only[g3,map_some]|ret=>simp only[g3,map_some]
section
variable{S:Sys}{c:cr}{β γ δ α:Type}[bH δ]{Q:Out×St->a_ β}{e:γ->a_ β}{cf:Cf}
theorem Om(n u:Nat){fn:Y'}{A:α->So}{p:α->a_ (Sl δ)}(F:Ck S c fn A p)(z:α){f:Sl δ->a_ γ}
 (h:∀x,(p z).bind Sl.whole=some x->Le ((f x).bind e) (cn S c Q (nx S c n cf λq=>{q.st with g:=bR q.st.g u (.own u),m:=bR q.st.m u (cO x)})))
 (J:(gw S c n cf).map (λq=>(q.d,q.k,(b7 S.N q.st.g q.az).bind mb,(!q.dr||q.now),q.st.new u))=some (some u,.c,some (fn,(A z).map .v),true,true):=by kernel_rfl):Le ((((p z).bind Sl.whole).bind f).bind e) (cn S c Q cf):=by
 have⟨q,L,b⟩:=fc J;simp only[ζc]at b;have⟨O,T,U,W,I⟩:=b;have⟨C,g1,g2⟩:=ζg.1 U;refine rK L ?_ h;rw[O,T];intro y D;have⟨X,G,D⟩:=ζg.1 D;cases D;have⟨s,Y,B⟩:=ζg.1 G;have⟨e0,m',d,Z⟩:=F.h z s Y;rw[xk q.dr _ _ _ _ _ C fn ((A z).map .v) g1 g2];have w:fP S c (some u) q.dr (!q.dr||q.now) (gF q.st.m q.fr) fn ((A z).map .v) q.st=some (.own u,{q.st with m:=bR q.st.m u (cO X)}):=by unfold fP;simp only[F.k,F.o,if_true,W,wm,d,dG,Z,cO,I];cases s with|nil=>cases B;rfl|emp=>cases B;rfl|row l=>cases B;have:nj (rows l)=true:=(by unfold nj;rw[all_eq_true];intro x i;obtain⟨a,_,rfl⟩:=mem_map.1 i;exact F.sc a);simp only[Sl.k,Sl.l,dG,V.c9,this,Bool.and_self,I,if_true];rfl|part l=>cases B
 rw[w];rfl
end
structure GD where
 m:Nat
 pre:List (Nat×List Gh)
 nd:List (Nat×List Gh×List Gh)
structure GI where
 m:Nat
 i:Nat
 j:Nat
def lkL{α:Type}(l:aZ (Nat×aZ α))(i:Nat):aZ α:=match l with
 |[]=>[]|(k,x)::r=>bif beq k i then x else lkL r i
def Ct(l:aZ (Nat×QR×QR))(i:Nat):QR×QR:=match l with
 |[]=>([],[])|(k,x)::r=>bif beq k i then x else Ct r i
def NY(m:Nat):ST->ST
 |[]=>[]|x::l=>bif beq (m % 2) 1 then x::NY (m / 2) l else NY (m / 2) l
def Uv:QQ->ST
 |[]=>[]|.s n::r=>n::Uv r|_::r=>Uv r
def ZU(o:RO):ST:=(match o.dst with|some d=>[d]|none=>[])++(match o.gd with|some g=>[g.1]|none=>[])++Uv o.az
def abq(G:GD)(s:GI)(o:RO):RO:={o with dead:=NY (bif beq (s.m % 16) 15 then s.m / 16 % 65536 else s.m % 16) (ZU o),pre:=lkL G.pre s.i}
def GI.op(s:GI):GI:=⟨bif beq (s.m % 16) 15 then s.m / 1048576 else s.m / 16,s.i+1,s.j⟩
def Cy(G:GD):Rd->GI->Rd×GI
 |[],s=>([],s)|o::r,s=>(abq G s o::(Cy G r s.op).1,(Cy G r s.op).2)
def Cz:QR->RC->RC
 |[],c=>c|g::l,c=>.gh g (Cz l c)
def QC:QR->RC->RC
 |[],c=>c|g::l,c=>QC l (.hg c g)
def GI.nd(s:GI):GI:=⟨s.m,s.i,s.j+1⟩
def kB(G:GD):RC->GI->RC×GI
 |.seq a b,s=>(Cz (Ct G.nd s.j).1 (.seq (kB G a s.nd).1 (kB G b (kB G a s.nd).2).1),(kB G b (kB G a s.nd).2).2)|.cond x a b,s=>(Cz (Ct G.nd s.j).1 (.cond x (kB G a s.nd).1 (kB G b (kB G a s.nd).2).1),(kB G b (kB G a s.nd).2).2)|.block id a,s=>(Cz (Ct G.nd s.j).1 (.block id (kB G a s.nd).1),(kB G a s.nd).2)|.loop a,s=>(Cz (Ct G.nd s.j).1 (.loop (QC (Ct G.nd s.j).2 (kB G a s.nd).1)),(kB G a s.nd).2)|.each g ps a b,s=>(Cz (Ct G.nd s.j).1 (.each g ps (kB G a s.nd).1 (QC (Ct G.nd s.j).2 (kB G b (kB G a s.nd).2).1)),(kB G b (kB G a s.nd).2).2)|.ops l,s=>(Cz (Ct G.nd s.j).1 (.ops (Cy G l s.nd).1),(Cy G l s.nd).2)|.qZ l,s=>(Cz (Ct G.nd s.j).1 (.qZ (Cy G l s.nd).1),(Cy G l s.nd).2)|.gh g c,s=>(.gh g c,s)|.hg c g,s=>(.hg c g,s)|c,s=>(Cz (Ct G.nd s.j).1 c,s.nd)
theorem mB(c:RC):∀l,erase (Cz l c)=erase c
 |[]=>rfl|g::l=>by simp only[Cz,erase,mB c l]
theorem BF:∀l(c:RC),erase (QC l c)=erase c
 |[],c=>rfl|g::l,c=>by simp only[QC,BF l,erase]
theorem AT(G:GD):∀(l:Rd)s,((Cy G l s).1).map RO.strip=l.map RO.strip
 |[],s=>rfl|o::r,s=>by simp only[Cy,map_cons,AT G r];rfl
theorem ng(G:GD):∀(c:RC)s,erase (kB G c s).1=erase c
 |.seq a b,s=>by simp only[kB,mB,erase,ng G a,ng G b]|.cond x a b,s=>by simp only[kB,mB,erase,ng G a,ng G b]|.block id a,s=>by simp only[kB,mB,erase,ng G a]|.loop a,s=>by simp only[kB,mB,erase,BF,ng G a]|.each g ps a b,s=>by simp only[kB,mB,erase,BF,ng G a,ng G b]|.ops l,s=>by simp only[kB,mB,erase,AT]|.qZ l,s=>by simp only[kB,mB,erase,AT]|.gh g c,s=>rfl|.hg c g,s=>rfl|.skip,s=>by simp only[kB,mB]|.ret,s=>by simp only[kB,mB]|.exit _,s=>by simp only[kB,mB]
theorem Mx{X:CX}{dr:X'}{ops:R0}{i:Nat}{o:Oper}{r:RO}(h:pK X dr ops i o=some r):r.strip=r:=by obtain⟨_,_,_,_,_,_,rfl⟩:=Gb h;rfl
theorem zx{X:CX}{dr:X'}{ops:R0}:∀{l:R0}{i:Nat}{r:Rd},mP X dr ops i l=some r->r.map RO.strip=r
 |[],i,r,h=>by cases h;rfl|o::l,i,r,h=>by simp only[mP]at h;split at h;(next a b B D=>cases h;simp only[map_cons,Mx B,zx D]);cases h
theorem Mt{X:CX}:∀{c:Code}{ro:X'}{r:RC},bX X ro c=some r->erase r=r:=by intro c;induction c with|region _ ops dr=>intro ro r h;simp only[bX]at h;split at h;split at h;obtain⟨l,d,rfl⟩:=ζf.1 h;simp only[erase,zx d];cases h;obtain⟨l,d,rfl⟩:=ζf.1 h;simp only[erase,zx d]|seq a b u w=>intro ro r h;simp only[bX]at h;split at h;(next d z=>cases h;simp only[erase,u d,w z]);cases h|cond c a b u w=>intro ro r h;simp only[bX]at h;split at h;(next d z=>cases h;simp only[erase,u d,w z]);cases h|block id a u=>intro ro r h;simp only[bX]at h;obtain⟨l,d,rfl⟩:=ζf.1 h;simp only[erase,u d]|loop a u=>intro ro r h;simp only[bX]at h;obtain⟨l,d,rfl⟩:=ζf.1 h;simp only[erase,u d]|rangeFunc g ps a b u w=>intro ro r h;simp only[bX]at h;split at h;cases h;split at h;(next d z=>cases h;simp only[erase,u d,w z]);cases h|_=>intro ro r h;first|cases h;rfl|(simp only[bX]at h;cases h;rfl)|(simp only[bX]at h;cases h)
def To(E:Env)(nm:Y'->a_ Nat)(G:Y'->a_ GD):rG:=λf=>(G f).bind λg=>(E.ft f).bind λu=>(bX ⟨E,nm,u.ntmps⟩ false u.body).bind λc=>(u.results.mapM (C5 E)).bind λrs=>some ⟨u.ntmps,rs,(kB g c ⟨g.m,0,0⟩).1⟩
theorem EB{E:Env}{nm:Y'->a_ Nat}{G:Y'->a_ GD}{f:Y'}{rf:RF}(h:To E nm G f=some rf):∃fi,E.ft f=some fi/\zd E nm fi rf:=by unfold To at h;have⟨g,_,h⟩:=ζg.1 h;have⟨fi,a,h⟩:=ζg.1 h;have⟨c,u,h⟩:=ζg.1 h;have⟨rs,w,h⟩:=ζg.1 h;cases h;exact⟨fi,a,by rw[u,ng,Mt u],w,rfl⟩
theorem xX:∀(g:Y')(s:Nat),some g=some s->(λn=>n) s=g:=λ_ _ h=>(Option.some.inj h).symm
def sO(o:a_ RF):RF:=o.getD ⟨0,[],.skip⟩
def tb(T:rG)(f:Y'):RC:=(sO (T f)).body
def tr(T:rG)(f:Y'):aZ RV:=(sO (T f)).rs
theorem BB{o:a_ RF}(h:o.isSome=true):o=some (sO o):=by cases o with
 |none=>cases h|some r=>rfl
class kD(δ:Type)where
 e:δ->List V
instance ab5{α:Type}[bH α]:kD α:=⟨λx=>[enc x]⟩
instance ab6:kD Unit:=⟨λ_=>[]⟩
instance ab4{α β:Type}[bH α][kD β]:kD (α×β):=⟨λx=>enc x.1::kD.e x.2⟩
@[simp] theorem abI{α:Type}[bH α](x:α):kD.e x=[enc x]:=rfl
@[simp] theorem abJ(x:Unit):kD.e x=[]:=rfl
@[simp] theorem abH{α β:Type}[bH α][kD β](x:α×β):kD.e x=enc x.1::kD.e x.2:=rfl
class Fc(S:Sys)(c:cr){δ:Type}(m:Option δ)where
 n:FuncId
 az:List V
 E:δ->List V
 sc:Bool
 F:gC S c n (λ_:Unit=>az) E (λ_=>m) sc
section
variable{S:Sys}{T:rG}{δ:Type}{m:a_ δ}
theorem gC.Tf{E:δ->So}(fn:Y')(az:So)(h:Le (m.bind λr=>some (E r)) (cn S (dw S T) (qj (tr T fn)) (.rc (tb T fn),[],start (az.map .v) [])))
 (B:(T fn).isSome=true)(a:S.E.keep fn=false)(D:ble az.length (sO (T fn)).na=true)
 {sc:X'}(s:sc=true->∀r,(result (E r)).scalar=true):gC S (dw S T) fn (λ_:Unit=>az) E (λ_=>m) sc where
 k:=a
 h z:=abC (BB B) (Nat.le_of_ble_eq_true D) h
 s:=s
abbrev Fc.NE(E:δ->aZ V)(fn:FuncId)(az:aZ V)(h:Le (m.bind λr=>some (E r)) (cn S (dw S T) (qj (tr T fn)) (.rc (tb T fn),[],start (az.map .v) [])))
 (B:(T fn).isSome=true:=by kernel_rfl)(a:S.E.keep fn=false:=by kernel_rfl)(D:ble az.length (sO (T fn)).na=true:=by kernel_rfl)
 :Fc S (dw S T) m:=
 ⟨fn,az,E,false,gC.Tf fn az h B a D λh=>nomatch h⟩
abbrev Fc.M[kD δ](fn:FuncId)(az:aZ V)(h:Le (m.bind λr=>some (kD.e r)) (cn S (dw S T) (qj (tr T fn)) (.rc (tb T fn),[],start (az.map .v) [])))
 (B:(T fn).isSome=true:=by kernel_rfl)(a:S.E.keep fn=false:=by kernel_rfl)(D:ble az.length (sO (T fn)).na=true:=by kernel_rfl)
 (s:∀r:δ,(result (kD.e r)).scalar=true:=by intro r;kernel_rfl):Fc S (dw S T) m:=
 ⟨fn,az,kD.e,true,gC.Tf fn az h B a D λ_=>s⟩
abbrev Fc.N[kD δ](fn:FuncId)(az:aZ V)(h:Le (m.bind λr=>some (kD.e r)) (cn S (dw S T) (qj (tr T fn)) (.rc (tb T fn),[],start (az.map .v) [])))
 (B:(T fn).isSome=true:=by kernel_rfl)(a:S.E.keep fn=false:=by kernel_rfl)(D:ble az.length (sO (T fn)).na=true:=by kernel_rfl)
 :Fc S (dw S T) m:=
 ⟨fn,az,kD.e,false,gC.Tf fn az h B a D λh=>nomatch h⟩
end
abbrev Fc.of{S:Sys}{c:cr}{α δ:Type}{p:α->a_ δ}{n:FuncId}{A:α->aZ V}{E:δ->aZ V}{b:Bool}(z:α)(F:gC S c n A E p b):Fc S c (p z):=⟨n,A z,E,b,⟨F.k,λ_=>F.h z,F.s⟩⟩
theorem gC.qS{S:Sys}{c:cr}{α δ:Type}{p:α->a_ δ}{n:Y'}{A:α->So}{E:δ->So}{b:X'}(F:∀z,Fc S c (p z))(i:α)(B:∀z,(F z).n=n)(G:∀z,(F z).az=A z)(D:∀z,(F z).E=E)(J:∀z,(F z).sc=b):gC S c n A E p b where
 k:=by rw[<-B i];exact(F i).F.k
 h z:=by rw[<-B z,<-G z,<-D z];exact(F z).F.h ()
 s:=by rw[<-J i,<-D i];exact(F i).F.s
theorem lY.qS{S:Sys}{c:cr}{α δ:Type}{p:α->a_ δ}{g:Y'}{w e:So}{A:α->So}{R:δ->So}{b:X'}[i:Inhabited α][F:∀z,Fc S c (p z)](B:∀z,(F z).n=g:=by intro _;kernel_rfl)(D:∀z,(F z).az=w++A z++e:=by intro _;kernel_rfl)
 (G:∀z,(F z).E=R:=by intro _;kernel_rfl)(J:∀z,(F z).sc=b:=by intro _;kernel_rfl):lY S c g w e A R p b:=
 ⟨gC.qS F default B D G J⟩
section
variable{S:Sys}{c:cr}{β γ δ α:Type}{Q:Out×St->a_ β}{e:γ->a_ β}{cf:Cf}
theorem uR(n:Nat){m:a_ β}(h:Le m (cn S c Q (jR S c n cf)))(B:iR S c n cf.1 cf.2.1 cf.2.2=some (jR S c n cf):=by kernel_rfl):Le m (cn S c Q cf):=BT B h
theorem bF(n:Nat){m:a_ δ}[F:Fc S c m]{f:δ->a_ γ}(h:∀x,m=some x->Le ((f x).bind e) (cn S c Q (nx S c n cf λp=>c8 p.st p.d (.v (result (F.E x))))))
 (B:(gw S c n cf).map (λp=>(p.k,(b7 S.N p.st.g p.az).bind mb,(!p.dr||p.now||gF p.st.m p.fr [])))=some (.c,some (F.n,F.az.map .v),true):=by kernel_rfl):Le ((m.bind f).bind e) (cn S c Q cf):=yX n F.F () h B
theorem dz(n:Nat){m:a_ δ}[F:Fc S c m]{f:δ->a_ γ}(h:∀x,m=some x->Le ((f x).bind e) (cn S c Q (nx S c n cf λp=>c8 p.st p.d (.v (result (F.E x))))))
 (B:(gw S c n cf).map (λp=>(p.k,((b7 S.N p.st.g p.az).bind mb).bind λq=>(om (jf p.st.m 8) q.2).map λvs=>(q.1,vs,((!p.dr||p.now)||gF p.st.m p.fr q.2))))=some (.c,some (F.n,F.az,true)):=by kernel_rfl)(D:F.sc=true:=by kernel_rfl):Le ((m.bind f).bind e) (cn S c Q cf):=
 Zx n (u D F.F) () h B
where
 u {b:X'} {fn:Y'} {az:So} {E:δ->So} {m:a_ δ} (h:b=true) (F:gC S c fn (λ_:Unit=>az) E (λ_=>m) b):gC S c fn (λ_:Unit=>az) E (λ_=>m) true:=h▸F
def VA(cf:Cf):RC:=match cf.1 with|.rc (.loop c)=>c|_=>.skip
def E_(cf:Cf):Arg×ST×RC×RC:=match cf.1 with|.rc (.each g ps a b)=>(g,ps,a,b)|_=>(.s 0,[],.skip,.skip)
theorem eE{σ ε ρ:Type}{step:σ->a_ (Fw σ ε ρ)}(n:Nat)(eσ:σ->St)(eε:ε->Nat×St)(eρ:ρ->St){s:σ}{B:ε->a_ γ}{fr:ρ->a_ γ}
 (h:∀s,Le ((step s).bind λw=>some (Fw.out eσ eε eρ w)) (cn S c some (.rc (VA (jR S c n cf)),[],eσ s)))
 (D:∀x,Le ((B x).bind e) (cn S c Q (.ex (eε x).1,(jR S c n cf).2.1,(eε x).2)))(a:∀b,Le ((fr b).bind e) (Q (.ret,eρ b)))
 (G:iR S c n cf.1 cf.2.1 cf.2.2=some (.rc (.loop (VA (jR S c n cf))),(jR S c n cf).2.1,eσ s):=by kernel_rfl):Le (((bY step s).bind (Fw.elim B fr)).bind e) (cn S c Q cf):=
 Q3 G h D a
theorem fK{σ ε:Type}{step:σ->a_ (Fw σ ε Empty)}(n:Nat)(eσ:σ->St)(eε:ε->Nat×St){s:σ}{B:ε->a_ γ}{fr:Empty->a_ γ}
 (h:∀s,Le ((step s).bind λw=>some (Fw.out eσ eε (λe=>Empty.elim e) w)) (cn S c some (.rc (VA (jR S c n cf)),[],eσ s)))
 (D:∀x,Le ((B x).bind e) (cn S c Q (.ex (eε x).1,(jR S c n cf).2.1,(eε x).2)))
 (G:iR S c n cf.1 cf.2.1 cf.2.2=some (.rc (.loop (VA (jR S c n cf))),(jR S c n cf).2.1,eσ s):=by kernel_rfl):Le (((bY step s).bind (Fw.elim B fr)).bind e) (cn S c Q cf):=
 Q3 G h D λb=>Empty.elim b
theorem CI{σ ε ρ:Type}{f:Y'}{x y:So}{a:aZ α}{eI:α->So}{step:α->σ->a_ (Fw σ ε ρ)}(n:Nat)(d:Tb SV)(eσ:σ->Tb bN)(eε:ε->Nat×Tb bN)(eρ:ρ->Tb bN){s:σ}{fn:σ->a_ γ}{B:ε->a_ γ}{fr:ρ->a_ γ}
 (hi:S.items f x y=some (a.map eI))
 (h:∀x s,Le ((step x s).bind λw=>some (Fw.yx eσ eε eρ w)) (cn S c (Az S c (E_ (jR S c n cf)).2.2.2) (.rc (E_ (jR S c n cf)).2.2.1,[],⟨yY d (E_ (jR S c n cf)).2.1 ((eI x).map .v),eσ s,rL d,[],true,0⟩)))
 (D:∀s,Le ((fn s).bind e) (cn S c Q (.nx,(jR S c n cf).2.1,bL d (eσ s))))(G:∀x,Le ((B x).bind e) (cn S c Q (.ex (eε x).1,(jR S c n cf).2.1,bL d (eε x).2)))(g:∀b,Le ((fr b).bind e) (Q (.ret,bL d (eρ b))))
 (J:∀x,(eI x).length=(E_ (jR S c n cf)).2.1.length:=by intro _;kernel_rfl)(i:sR S.N d (E_ (jR S c n cf)).1=some (.v (.clo f x y)):=by kernel_rfl)
 (U:iR S c n cf.1 cf.2.1 cf.2.2=some (.rc (.each (E_ (jR S c n cf)).1 (E_ (jR S c n cf)).2.1 (E_ (jR S c n cf)).2.2.1 (E_ (jR S c n cf)).2.2.2),(jR S c n cf).2.1,bL d (eσ s)):=by kernel_rfl):Le (((lV step a s).bind (Fw.si fn B fr)).bind e) (cn S c Q cf):=
 Yu U i hi J h D G g
def Ym(n k:Nat)(B:ST)(d:Nat)(S:Sys)(c:cr)(cf:Cf)(v:SV):Cf:=jmp k [] (jR S c n cf) {(jR S c n cf).2.2 with g:=bR (pL B (jR S c n cf).2.2.g) d v}
theorem cg[bH δ](n k:Nat)(B:ST)(d:Nat){m:a_ δ}{f:δ->a_ γ}(D:Le (m.bind λr=>cn S c Q (Ym n k B d S c cf (cv r))) (cn S c Q cf))(a:∀r,Le ((f r).bind e) (cn S c Q (Ym n k B d S c cf (cv r)))):Le ((m.bind f).bind e) (cn S c Q cf):=Vf _ D a
end
theorem Ow{α β:Type}{P:α ⊕ β->Prop}(c:∀a,P (.inl a))(B:∀b,P (.inr b)):∀x,P x
 |.inl a=>c a|.inr b=>B b
instance{n:Nat}:DecidableEq (cz n Int):=λa b=>if h:a.l=b.l then .isTrue (by cases a;cases b;cases h;rfl)else .isFalse λe=>h (by rw[e])
theorem xo:∀l:R',jr ((l.map (cells (α:=Int))).flatten)=some l
 |[]=>rfl|a::l=>by show jr (.int .i64 a::(l.map (cells (α:=Int))).flatten)=_;simp only[jr,xo l,map_some]
theorem Q9(l:R'):(l.map (cells (α:=Int))).flatten=l.map (V.int .i64):=by induction l with|nil=>rfl|cons a l u=>simp only[map_cons,List.flatten_cons,u];rfl
instance{n:Nat}:Key (cz n Int)where
 kk:=.ints n
 ok a:=by show((a.l.map (cells (α:=Int))).flatten.length==n&&(jr (a.l.map (cells (α:=Int))).flatten).isSome)=true;rw[xo,Q9,length_map,a.len];simp
 eq a b:=by show mA (a.l.map (cells (α:=Int))).flatten (b.l.map (cells (α:=Int))).flatten=_;unfold mA;rw[xo,xo];simp only[a.len,b.len,if_true];congr 1;rw[Bool.eq_iff_iff,beq_iff_eq,decide_eq_true_iff];exact⟨λh=>by cases a;cases b;cases h;rfl,λh=>by rw[h]⟩
def A1(m:Tb bN):SV->X'
 |.v _|.agg _=>true|x=>mM m x
def p8:SV->SW
 |.v x=>x.cells.map .v|.agg l=>l|x=>[x]
def CY(cells:SW):aZ (Nat×Nat)->SW->a_ SW
 |[],[]=>some cells|(off,size)::pl,v::vs=>if(p8 v).length=size/\off+(p8 v).length<=cells.length then CY (cells.take off++p8 v++cells.drop (off+(p8 v).length)) pl vs else none|_,_=>none
theorem HG(cells:SW):CY cells [] []=some cells:=rfl
theorem AK(cells:SW)(off size:Nat)(pl:aZ (Nat×Nat))(v:SV)(vs:SW):CY cells ((off,size)::pl) (v::vs)=if(p8 v).length=size/\off+(p8 v).length<=cells.length then CY (cells.take off++p8 v++cells.drop (off+(p8 v).length)) pl vs else none:=rfl
theorem K6(x:V):p8 (.v x)=x.cells.map .v:=rfl
theorem Gr(d:Nat):p8 (.own d)=[.own d]:=rfl
theorem Io(d:Nat):p8 (.mp d)=[.mp d]:=rfl
theorem FH(d o:Nat):p8 (.ptr d o)=[.ptr d o]:=rfl
theorem SE{m:Tb bN}{v:SV}(h:A1 m v=true):Ad m v=some (p8 v):=by cases v<;>first|rfl|(unfold Ad;exact if_pos h)|(simp[A1,mM]at h)
theorem M4{m:Tb bN}:∀{pl:aZ (Nat×Nat)}{vs cells l:SW},vs.all (A1 m)=true->CY cells pl vs=some l->uH m cells pl vs=some l
 |[],[],_,_,_,h=>h|[],_::_,_,_,_,h=>by cases h|_::_,[],_,_,_,h=>by cases h|(off,size)::pl,v::vs,cells,l,B,h=>by rw[all_cons,ζh]at B;rw[AK]at h;show(match Ad m v with|some c=>if c.length=size/\off+c.length<=cells.length then uH m (cells.take off++c++cells.drop (off+c.length)) pl vs else none|none=>none)=some l;rw[SE B.1];simp only;split at h;(next a=>rw[if_pos a];exact M4 B.2 h);cases h
def Ef:SV->X'
 |.v x=>x.one|.agg _=>false|_=>true
theorem PY(x:V):Ef (.v x)=x.one:=rfl
theorem KG(d:Nat):Ef (.own d)=true:=rfl
theorem Nn(d:Nat):Ef (.mp d)=true:=rfl
theorem Kp(d o:Nat):Ef (.ptr d o)=true:=rfl
theorem GA{m:Tb bN}:∀{l:SW},l.all Ef=true->l.all (A1 m)=true->l.all (zn m)=true
 |[],_,_=>rfl|x::l,h,k=>by rw[all_cons,ζh]at h k⊢;refine⟨?_,GA h.2 k.2⟩;cases x<;>first|exact h.1|exact k.1|(have:=h.1;cases this)
section
variable{S:Sys}{c:cr}{β γ δ α:Type}{Q:Out×St->a_ β}{e:γ->a_ β}{cf:Cf}
theorem QW{N:Nat->Y'}{m:Tb bN}{z:So}{pl:aZ (Nat×Nat)}{svs l:SW}(B:(dG svs).isNone=true)(h:uH m (z.map .v) pl svs=some l):kr N m (.build z pl) svs=some (.agg l):=by unfold kr;cases a:dG svs with|some x=>rw[a]at B;cases B|none=>have:zh N m (.build z pl) svs=(uH m (z.map .v) pl svs).map .agg:=(by unfold zh;split<;>first|contradiction|(rename_i e _;cases e;rfl)|simp_all);simp only[this,h,map_some]
theorem Vp(n:Nat)(svs l:SW)(z:So)(pl:aZ (Nat×Nat)){m:a_ β}(B:CY (z.map .v) pl svs=some l)(h:Le m (cn S c Q (nx S c n cf λp=>c8 p.st p.d (.agg l))))
 (D:(gw S c n cf).map (λp=>(p.k,b7 S.N p.st.g p.az,(dG svs).isNone,svs.all (A1 p.st.m)))=some (.p (.build z pl),some svs,true,true):=by kernel_rfl):Le m (cn S c Q cf):=by
 have⟨p,u,a⟩:=fc D;simp only[ζc]at a;refine vo u ?_ h;rw[a.1];exact B3 a.2.1 rfl (QW a.2.2.1 (M4 a.2.2.2 B))
theorem abn(n u o:Nat)(l:SW){m:a_ β}(D:l.all Ef=true)(h:Le m (cn S c Q (nx S c n cf (UW u o l.length l))))
 (G:(gw S c n cf).map (λp=>(p.k,b7 S.N p.st.g p.az,(!p.dr||p.now),l.all (A1 p.st.m),match bn p.st.m u with|some (.box cs)=>ble (o+l.length) cs.length|_=>false))=some (.l (.store l.length),some [.ptr u o,.agg l],true,true,true):=by kernel_rfl):Le m (cn S c Q cf):=by
 have⟨p,C,a⟩:=fc G;simp only[ζc]at a;refine vo C ?_ h;have⟨b,I,J,L,w⟩:=a;have z:=GA D L;split at w
 next cs B=>have O:=Nat.le_of_ble_eq_true w;rw[b,xF,I];simp only[ζb,J,if_true,oe,B,putCells,z,O,and_self,map_some,UW]
 cases w
theorem aaf(n u:Nat)(l:SW){m:a_ β}(B:l.all Ef=true)(h:Le m (cn S c Q (nx S c n cf λp=>{p.st with g:=bR p.st.g u (.ptr u 0),m:=bR p.st.m u (.box l)})))
 (D:(gw S c n cf).map (λp=>(p.d,p.k,b7 S.N p.st.g p.az,p.st.new u,l.all (A1 p.st.m)))=some (some u,.a .box,some [.agg l],true,true):=by kernel_rfl):Le m (cn S c Q cf):=by
 have⟨p,w,a⟩:=fc D;simp only[ζc]at a;refine vo w ?_ h;rw[a.1,a.2.1,As,a.2.2.1];simp only[ζb,a.2.2.2.1,if_true,pS,GA B a.2.2.2.2]
end
section
variable{S:Sys}{c:cr}{β γ δ:Type}{Q:Out×St->a_ β}{e:γ->a_ β}{cf:Cf}{κ ν:Type}[bH κ][DecidableEq κ][Key κ][bH ν]
structure EW(κ ν:Type)where
 o:Option (Mo κ ν)
 deriving Inhabited
def Ze(m:EW κ ν):V:=match m.o with|none=>.hG|some l=>.fmap (o7 l)
theorem Qj(m:Mo κ ν):V.uT (o7 m)=true:=by induction m with|nil=>rfl|cons x r u=>show V.uT ((enc x.1,enc x.2)::o7 r)=true;simp only[V.uT,kC,u,Bool.and_self]
instance:bH (EW κ ν)where
 cells m:=[Ze m]
 agg:=false
 size:=1
 len _:=rfl
 good m:=by unfold Ze;split;rfl;simp only[V.cM,V.good,Qj,Bool.and_self]
 one m:=by unfold Ze;split<;>rfl
 plain _:=rfl
theorem Gz(m:EW κ ν):V.one (enc m)=true:=by have⟨o⟩:=m;cases o<;>rfl
def lT(m:EW κ ν):Mo κ ν:=m.o.getD []
theorem TB(m:EW κ ν):og [] (enc m)=some (o7 (lT m)):=by have⟨o⟩:=m;cases o<;>rfl
theorem JH(m:EW κ ν)(k:κ)(z:ν)(ok:X'):fE [] (.lookup (Key.kk κ) (enc z) ok) [enc m,enc k]=some (if ok then .tup [enc (pe (lT m) k z),.bool (tH (lT m) k)]else enc (pe (lT m) k z)):=by
 simp only[fE,TB,Key.ok,if_true];have:=GG k (lT m) 0;simp only[pe,tH]
 cases B:jd (enc k) (o7 (lT m)) 0 with
 |none=>rw[B]at this;cases this|some r=>
  rw[B]at this;simp only[map_some,ζa]at this
  cases r with
  |none=>cases u:kn k (lT m)with|none=>rfl|some w=>rw[u]at this;cases this
  |some w=>cases u:kn k (lT m)with|none=>rw[u]at this;cases this|some C=>rw[u]at this;simp only[map_some,ζa]at this;simp only[this];rfl
theorem Zy(n:Nat)(mp:EW κ ν)(k:κ)(z:ν){m:a_ β}(h:Le m (cn S c Q (nx S c n cf λp=>c8 p.st p.d (cv (pe (lT mp) k z)))))
 (B:(gw S c n cf).map (λp=>(p.k,b7 S.N p.st.g p.az))=some (.r (.lookup (Key.kk κ) (enc z) false),some [cv mp,cv k]):=by kernel_rfl):Le m (cn S c Q cf):=by
 have⟨p,u,a⟩:=fc B;simp only[ζc]at a;refine vo u ?_ h;rw[a.1,CK,a.2];simp only[ζb,fL,Bool.or_true,if_true,pq,JH,map_some];rfl
theorem Wz(n:Nat)(mp:EW κ ν)(k:κ)(z:ν){m:a_ β}(h:Le m (cn S c Q (nx S c n cf λp=>c8 p.st p.d (.v (.tup [enc (pe (lT mp) k z),.bool (tH (lT mp) k)])))))
 (B:(gw S c n cf).map (λp=>(p.k,b7 S.N p.st.g p.az))=some (.r (.lookup (Key.kk κ) (enc z) true),some [cv mp,cv k]):=by kernel_rfl):Le m (cn S c Q cf):=by
 have⟨p,u,a⟩:=fc B;simp only[ζc]at a;refine vo u ?_ h;rw[a.1,CK,a.2];simp only[ζb,fL,Bool.or_true,if_true,pq,JH,map_some]
end
theorem gC.scalar{S:Sys}{c:cr}{α δ:Type}{fn:Y'}{A:α->So}{E:δ->So}{p:α->a_ δ}{b:X'}(F:gC S c fn A E p b)(h:∀r,(result (E r)).scalar=true):gC S c fn A E p true:=⟨F.k,F.h,λ_=>h⟩
section
variable{S:Sys}{c:cr}{β γ δ α:Type}[bH α]{Q:Out×St->a_ β}{e:γ->a_ β}{cf:Cf}
theorem UQ{ω:Type}[bH ω](n u:Nat){N:Nat}(a:cz N α)(i:Int)(o:Nat)(x:α)(D:a.at i=some x)(y:α)(w:ω)(G:cells y=(cells x).take o++cells w++(cells x).drop (o+bH.size ω)){m:a_ β}(h:Le m (cn S c Q (nx S c n cf λp=>c8 {p.st with m:=bR p.st.m u (bx (a.set i y))} p.d (.v .undef))))
 (J:(gw S c n cf).map (λp=>(p.k,b7 S.N p.st.g p.az,bn p.st.m u,(!p.dr||p.now),ble (o+bH.size ω) (bH.size α)))=some (.l (.store (bH.size ω)),some [.ptr u (i.toNat*bH.size α+o),cv w],some (bx a),true,true):=by kernel_rfl):Le m (cn S c Q cf):=by
 have⟨p,B,z⟩:=fc J;simp only[ζc]at z;have⟨b,C⟩:=kG B;have⟨dr,fr,d,gd,now,U,az,dd,l,fs,st⟩:=p;obtain⟨rfl,I,L,O,T⟩:=z;exact aac n dr fr (⟨d,gd,now,.l (.store (bH.size ω)),az,dd,[]⟩::l) fs st u a i o x D y (enc w) (by rw[kJ];exact G) rfl (by(try dsimp only at *);simp only[b,C,I,L,O,T,kJ,gT,sq]) (by
  simp only[nx,B]at h;exact h)
end
def Jf(rs:aZ RV):Out×St->a_ (bN×So)
 |(.exit _,_)=>none|(_,st)=>(lS st rs).bind λl=>match l with
  |.own d::r=>(bn st.m d).bind λob=>(dG r).map λys=>(ob,ys)|_=>none
theorem Db:∀{l:SW}{ys:So},dG l=some ys->l=ys.map .v
 |[],ys,h=>by cases h;rfl|.v x::r,ys,h=>by simp only[dG]at h;obtain⟨B,a,rfl⟩:=ζf.1 h;rw[Db a];rfl|.own _::_,_,h|.ptr ..::_,_,h|.el ..::_,_,h|.mp _::_,_,h|.clo ..::_,_,h|.tup _::_,_,h|.agg _::_,_,h|.yl _::_,_,h=>by cases h
theorem abE{S:Sys}{c:cr}{rs:aZ RV}{a:RC}{st:St}{ob:bN}{ys:So}(h:lZ S c (Jf rs) a [] st=some (ob,ys)):∃o st' d,cU S c a st=some (o,st')/\(∀id,o≠.exit id)/\lS st' rs=some (.own d::ys.map .v)/\bn st'.m d=some ob:=by
 rw[qD]at h;have⟨⟨o,st'⟩,b,u⟩:=ζg.1 h;have z:∀id,o≠.exit id:=by rintro id rfl;simp[Jf]at u
 have B:(lS st' rs).bind (λl=>match l with|.own d::r=>(bn st'.m d).bind λob=>(dG r).map λys=>(ob,ys)|_=>none)=some (ob,ys):=by cases o with|exit id=>exact absurd rfl (z id)|norm=>exact u|ret=>exact u
 have⟨l,C,w⟩:=ζg.1 B;split at w;have⟨D,G,I⟩:=ζg.1 w;have⟨O,J,L⟩:=ζf.1 I;cases L;exact⟨o,st',_,b,z,by rw[C,Db J],G⟩;cases w
structure FcO(S:Sys)(c:cr){δ ε:Type}[bH δ][kD ε](m:Option (Sl δ×ε))where
 n:FuncId
 az:List V
 k:S.E.keep n=true
 o:S.E.own n=true
 h:∀s r,m=some (s,r)->∃e m',c n (az.map .v) []=some (.own e::(kD.e r).map .v,m')/\bn m' e=some (cO s)
 sc:∀x:δ,(cells x).all V.scalar=true
 sr:∀r:ε,V.c9 (kD.e r)=true
abbrev FcO.mk'{S:Sys}{T:rG}{δ ε:Type}[bH δ][kD ε]{m:a_ (Sl δ×ε)}(fn:FuncId)(az:aZ V)(h:Le (m.bind λr=>some (cO r.1,kD.e r.2)) (cn S (dw S T) (Jf (tr T fn)) (.rc (tb T fn),[],start (az.map .v) [])))
 (B:(T fn).isSome=true:=by kernel_rfl)(b:S.E.keep fn=true:=by kernel_rfl)(D:S.E.own fn=true:=by kernel_rfl)(G:ble az.length (sO (T fn)).na=true:=by kernel_rfl)
 (sc:∀x:δ,(cells x).all V.scalar=true:=by intro x;rfl)(sr:∀r:ε,V.c9 (kD.e r)=true:=by intro r;rfl):FcO S (dw S T) m where
 n:=fn
 az:=az
 k:=b
 o:=D
 sc:=sc
 sr:=sr
 h s r w:=by have u:=BB B;have a:=h (cO s,kD.e r) (by rw[w];rfl);change lZ S (dw S T) (Jf (sO (T fn)).rs) (sO (T fn)).body [] (start (az.map .v) [])=some (cO s,kD.e r)at a;have⟨o,st',d,g1,g2,g3,g4⟩:=abE a;refine⟨d,st'.m,?_,g4⟩;rw[tG u];unfold oM;rw[if_pos (by simpa using Nat.le_of_ble_eq_true G),g1];cases o with|exit id=>exact absurd rfl (g2 id)|norm=>simp only[g3,map_some]|ret=>simp only[g3,map_some]
section
variable{S:Sys}{c:cr}{β γ δ α:Type}{Q:Out×St->a_ β}{e:γ->a_ β}{cf:Cf}
theorem Y2(n:Nat)(ds:ST){m:a_ δ}[F:Fc S c m]{f:δ->a_ γ}(h:∀x,m=some x->Le ((f x).bind e) (cn S c Q (nx S c n cf λp=>c8 {p.st with m:=if(result (F.E x)).scalar then p.st.m else pL ds p.st.m} p.d (.v (result (F.E x))))))
 (B:(gw S c n cf).map (λp=>(p.k,((b7 S.N p.st.g p.az).bind mb).bind λq=>(om (jf p.st.m 8) q.2).map λvs=>(q.1,vs,!p.dr||p.now,(dG q.2).isSome,rowsOf q.2)))=some (.c,some (F.n,F.az,true,false,some ds)):=by kernel_rfl):Le ((m.bind f).bind e) (cn S c Q cf):=by
 have⟨p,z,a⟩:=fc B;simp only[ζc]at a;have⟨C,D⟩:=a;have⟨q,g1,g2⟩:=ζg.1 D;have⟨u,g3,g4⟩:=ζg.1 g1;have⟨vs,g5,g6⟩:=ζf.1 g2;simp only[ζc]at g6;obtain⟨e1,rfl,e3,e4,e5⟩:=g6;refine rK z ?_ h;rw[C,xk _ _ _ _ _ _ u q.1 q.2 g3 g4,Na _ _ _ _ _ _ _ (by rw[e1];exact F.F.k),(xW p.st.m 8).2,g5]
 simp only[ζb,e3,Bool.true_or,Bool.and_self,if_true];intro y w;have⟨r,b,w⟩:=ζg.1 w;cases w;have:=F.F.h () (F.E r) (ζg.2 ⟨r,b,rfl⟩);rw[e1,this];simp only[ζb,JD,e4,Bool.or_false]
 cases(result (F.E r)).scalar with
 |true=>rfl|false=>simp only[false_eq_true,if_false,if_true,e5,map_some,ζb]
theorem MN(n:Nat)(ds:ST){m:a_ δ}[F:Fc S c m]{f:δ->a_ γ}
 (h:∀x,m=some x->Le ((f x).bind e) (cn S c Q (nx S c n cf λp=>c8 p.st p.d (.v (result (F.E x)))))/\Le ((f x).bind e) (cn S c Q (nx S c n cf λp=>c8 {p.st with m:=pL ds p.st.m} p.d (.v (result (F.E x))))))
 (B:(gw S c n cf).map (λp=>(p.k,((b7 S.N p.st.g p.az).bind mb).bind λq=>(om (jf p.st.m 8) q.2).map λvs=>(q.1,vs,!p.dr||p.now,(dG q.2).isSome,rowsOf q.2)))=some (.c,some (F.n,F.az,true,false,some ds)):=by kernel_rfl):Le ((m.bind f).bind e) (cn S c Q cf):=
 Y2 n ds (λx u=>by
  cases(result (F.E x)).scalar with
  |true=>exact(h x u).1|false=>exact(h x u).2) B
end
def Gu(rs:aZ RV)(B:ST):Out×St->a_ (So×dO)
 |(.exit _,_)=>none|(_,st)=>(lS st rs).bind λl=>(dG l).bind λys=>(kY st.m B).map λos=>(ys,os)
theorem goK{S:Sys}{c:cr}{rs:aZ RV}{B:ST}{a:RC}{st:St}{os:dO}{ys:So}(h:lZ S c (Gu rs B) a [] st=some (ys,os)):∃o st',cU S c a st=some (o,st')/\(∀id,o≠.exit id)/\lS st' rs=some (ys.map .v)/\kY st'.m B=some os:=by
 rw[qD]at h;have⟨⟨o,st'⟩,b,u⟩:=ζg.1 h;have w:∀id,o≠.exit id:=by rintro id rfl;simp[Gu]at u
 have z:(lS st' rs).bind (λl=>(dG l).bind λys=>(kY st'.m B).map λos=>(ys,os))=some (ys,os):=by cases o with|exit id=>exact absurd rfl (w id)|norm=>exact u|ret=>exact u
 have⟨l,C,D⟩:=ζg.1 z;have⟨O,G,I⟩:=ζg.1 D;have⟨q,J,L⟩:=ζf.1 I;cases L;exact⟨o,st',b,w,by rw[C,Db G],J⟩
def ql:Tb bN->dO->Tb bN
 |m,[]=>m|m,(d,ob)::r=>ql (bR m d ob) r
theorem J_{m':dO}{D:ST}:∀{B:ST}{os m:dO},kY m' B=some os->(os.all λx=>within D x.2)=true->AN D m' B m=some (ql m os)
 |[],os,m,h,_=>by cases h;rfl|k::B,os,m,h,hp=>by simp only[kY]at h;split at h;(next v t a G=>cases h;simp only[all_cons,ζh]at hp;simp only[AN,a,hp.1,if_true,ql];exact J_ G hp.2);cases h
theorem back_eq{m':dO}{B:ST}{os m:dO}(h:kY m' B=some os)(hp:(os.all λx=>within B x.2)=true):mm m' B m=some (ql m os):=J_ h hp
structure oK(S:Sys)(c:cr){δ:Type}(m:Option δ)where
 n:FuncId
 az:List SV
 os:dO
 E:δ->List V
 M:δ->dO
 k:S.E.keep n=true
 o:S.E.own n=false
 q:(S.prm n).isNone=true
 h:∀r,m=some r->∃m',c n az os=some ((E r).map .v,m')/\∀m0,mm m' (os.map (·.1)) m0=some (ql m0 (M r))
abbrev oK.mk'{S:Sys}{T:rG}{δ:Type}{m:a_ δ}(fn:FuncId)(az:aZ SV)(os:dO)(E:δ->aZ V)(M:δ->dO)(h:Le (m.bind λr=>some (E r,M r)) (cn S (dw S T) (Gu (tr T fn) (os.map (·.1))) (.rc (tb T fn),[],start az os)))
 (B:(T fn).isSome=true:=by kernel_rfl)(b:S.E.keep fn=true:=by kernel_rfl)(D:S.E.own fn=false:=by kernel_rfl)(G:(S.prm fn).isNone=true:=by kernel_rfl)(J:ble az.length (sO (T fn)).na=true:=by kernel_rfl)
 (hp:∀r,((M r).all λx=>within (os.map (·.1)) x.2)=true:=by intro r;kernel_rfl):oK S (dw S T) m where
 n:=fn
 az:=az
 os:=os
 E:=E
 M:=M
 k:=b
 o:=D
 q:=G
 h r hr:=by have u:=BB B;have a:=h (E r,M r) (by rw[hr];rfl);change lZ S (dw S T) (Gu (sO (T fn)).rs (os.map (·.1))) (sO (T fn)).body [] (start az os)=some (E r,M r)at a;have⟨o,st',g1,g2,g3,g4⟩:=goK a;refine⟨st'.m,?_,λw=>back_eq g4 (hp r)⟩;rw[tG u];unfold oM;rw[if_pos (Nat.le_of_ble_eq_true J),g1];cases o with|exit id=>exact absurd rfl (g2 id)|norm=>simp only[g3,map_some]|ret=>simp only[g3,map_some]
section
variable{S:Sys}{c:cr}{β γ δ:Type}{Q:Out×St->a_ β}{e:γ->a_ β}{cf:Cf}
theorem rN(n:Nat){m:a_ δ}(F:oK S c m){f:δ->a_ γ}(h:∀x,m=some x->Le ((f x).bind e) (cn S c Q (nx S c n cf λp=>c8 {p.st with m:=ql p.st.m (F.M x)} p.d (.v (result (F.E x))))))
 (B:(gw S c n cf).map (λp=>(p.k,((b7 S.N p.st.g p.az).bind mb).bind λq=>(handed p.st.m q.2).map λos=>(q.1,q.2,os),p.dr))=some (.c,some (F.n,F.az,F.os),false):=by kernel_rfl):Le ((m.bind f).bind e) (cn S c Q cf):=by
 have⟨p,z,a⟩:=fc B;simp only[ζc]at a;have⟨C,D,G⟩:=a;have⟨q,g1,g2⟩:=ζg.1 D;have⟨u,g3,g4⟩:=ζg.1 g1;have⟨os,g5,g6⟩:=ζf.1 g2;simp only[ζc]at g6;obtain⟨e1,e2,rfl⟩:=g6;refine rK z ?_ h;rw[C,G,xk _ _ _ _ _ _ u q.1 q.2 g3 g4];intro y w;have⟨r,b,w⟩:=ζg.1 w;cases w;have⟨m',k1,k2⟩:=F.h r b;have I:S.prm F.n=none:=by have:=F.q;cases J:S.prm F.n with|none=>rfl|some _=>rw[J]at this;cases this
 have:fP S c p.d false (!false||p.now) (gF p.st.m p.fr) q.1 q.2 p.st=some (.v (result (F.E r)),{p.st with m:=ql p.st.m (F.M r)}):=by unfold fP;rw[e1,e2]at *;simp only[F.k,F.o,I,g5,k1,n9,k2,if_true,Bool.not_false,Bool.true_or,Bool.false_and,false_eq_true,if_false]
 rw[this];rfl
instance:Key U' where
 kk:=.str
 ok _:=rfl
 eq a b:=by show some (a==b)=some (decide (a=b));rw[show(a==b)=decide (a=b)from Bool.eq_iff_iff.2 (by cases a;cases b;rename_i x y;show(x==y)=true↔_;simp)]
def LD(s:Sl U8):U':=mc (s.l.map U8.v)
theorem KK:∀l:aZ U8,mX (rows l)=some (l.map U8.v)
 |[]=>rfl|a::l=>by show(mX (rows l)).map (a.v::·)=_;rw[KK l];rfl
theorem aag(n u:Nat)(s:Sl U8){m:a_ β}(h:Le m (cn S c Q (nx S c n cf λp=>c8 p.st p.d (.v (.str (LD s))))))
 (B:(gw S c n cf).map (λp=>(p.k,b7 S.N p.st.g p.az,bn p.st.m u,p.dr))=some (.b,some [.own u],some (cO s),false):=by kernel_rfl):Le m (cn S c Q cf):=by
 have⟨p,z,a⟩:=fc B;simp only[ζc]at a;have⟨C,D,G,I⟩:=a;refine vo z ?_ h;rw[C,I];have J:(ki p.st.m 1 (.own u)).bind (λL=>(mX L).map λl=>((SV.v (.str (mc l)),p.st):SV×St))=some (.v (.str (LD s)),p.st):=by have O:mX (rows s.l)=some (s.l.map U8.v):=KK _;have w:ki p.st.m 1 (.own u)=some (rows s.l):=(by unfold ki;simp only[G];cases s<;>rfl);rw[w];show((mX (rows s.l)).map λl=>_)=_;rw[O];rfl
 unfold gx nG;have T:gJ S.N p.st.g ⟨p.d,none,p.now,.b,p.az,[],[]⟩=none:=rfl;simp only[wanted,T,D,false_eq_true,if_false,J];rfl
end
def PB(rs:aZ RV)(B:ST):Out×St->a_ (bN×So×dO)
 |(.exit _,_)=>none|(_,st)=>(lS st rs).bind λl=>match l with
  |.own d::r=>if B.contains d then none else(bn st.m d).bind λob=>(dG r).bind λys=>(kY st.m B).map λos=>(ob,ys,os)|_=>none
theorem goR{S:Sys}{c:cr}{rs:aZ RV}{B:ST}{a:RC}{st:St}{ob:bN}{ys:So}{os:dO}(h:lZ S c (PB rs B) a [] st=some (ob,ys,os)):
 ∃o st' d,cU S c a st=some (o,st')/\(∀id,o≠.exit id)/\lS st' rs=some (.own d::ys.map .v)/\B.contains d=false/\bn st'.m d=some ob/\kY st'.m B=some os:=by
 rw[qD]at h;have⟨⟨o,st'⟩,b,w⟩:=ζg.1 h;have D:∀id,o≠.exit id:=by rintro id rfl;simp[PB]at w
 have G:(lS st' rs).bind (λl=>match l with|.own d::r=>if B.contains d then none else(bn st'.m d).bind λob=>(dG r).bind λys=>(kY st'.m B).map λos=>(ob,ys,os)|_=>none)=some (ob,ys,os):=by cases o with|exit id=>exact absurd rfl (D id)|norm=>exact w|ret=>exact w
 have⟨l,I,u⟩:=ζg.1 G;split at u
 .split at u
  .cases u
  rename_i e;have⟨J,L,O⟩:=ζg.1 u;have⟨U,Q,T⟩:=ζg.1 O;have⟨q,z,C⟩:=ζf.1 T;cases C;exact⟨o,st',_,b,D,by rw[I,Db Q],by simpa using e,L,z⟩
 cases u
structure FcR(S:Sys)(c:cr){δ ε:Type}[bH δ][kD ε](m:Option (Sl δ×ε))where
 n:FuncId
 az:List SV
 os:dO
 M:Sl δ×ε->dO
 k:S.E.keep n=true
 o:S.E.own n=false
 q:(S.prm n).isNone=true
 h:∀r,m=some r->∃e m',c n az os=some (.own e::(kD.e r.2).map .v,m')/\bn m' e=some (cO r.1)/\(os.map (·.1)).contains e=false/\∀m0,mm m' (os.map (·.1)) m0=some (ql m0 (M r))
abbrev FcR.mk'{S:Sys}{T:rG}{δ ε:Type}[bH δ][kD ε]{m:a_ (Sl δ×ε)}(fn:FuncId)(az:aZ SV)(os:dO)(M:Sl δ×ε->dO)
 (h:Le (m.bind λr=>some (cO r.1,kD.e r.2,M r)) (cn S (dw S T) (PB (tr T fn) (os.map (·.1))) (.rc (tb T fn),[],start az os)))
 (B:(T fn).isSome=true:=by kernel_rfl)(b:S.E.keep fn=true:=by kernel_rfl)(D:S.E.own fn=false:=by kernel_rfl)(G:(S.prm fn).isNone=true:=by kernel_rfl)(J:ble az.length (sO (T fn)).na=true:=by kernel_rfl)
 (hp:∀r,((M r).all λx=>within (os.map (·.1)) x.2)=true:=by intro r;kernel_rfl):FcR S (dw S T) m where
 n:=fn
 az:=az
 os:=os
 M:=M
 k:=b
 o:=D
 q:=G
 h r hr:=by have u:=BB B;have a:=h (cO r.1,kD.e r.2,M r) (by rw[hr];rfl);change lZ S (dw S T) (PB (sO (T fn)).rs (os.map (·.1))) (sO (T fn)).body [] (start az os)=some (cO r.1,kD.e r.2,M r)at a;have⟨o,st',d,g1,g2,g3,g4,g5,g6⟩:=goR a;refine⟨d,st'.m,?_,g5,g4,λw=>back_eq g6 (hp r)⟩;rw[tG u];unfold oM;rw[if_pos (Nat.le_of_ble_eq_true J),g1];cases o with|exit id=>exact absurd rfl (g2 id)|norm=>simp only[g3,map_some]|ret=>simp only[g3,map_some]
section
variable{S:Sys}{c:cr}{β γ:Type}{Q:Out×St->a_ β}{e:γ->a_ β}{cf:Cf}
end
structure ZK(S:Sys)(c:cr){α δ:Type}[bH δ](fn:FuncId)(A:α->List V)(p:α->Option (Sl δ)):Prop where
 k:S.E.keep fn=true
 o:S.E.own fn=false
 q:(S.prm fn).isNone=true
 h:∀z s,p z=some s->∃e m',c fn ((A z).map .v) []=some ([.own e],m')/\bn m' e=some (cO s)
theorem ZK.mk'{S:Sys}{T:rG}{α δ:Type}[bH δ](rf:RF){fn:Y'}{A:α->So}{p:α->a_ (Sl δ)}(h:∀z,Le ((p z).bind λr=>some (cO r)) (cn S (dw S T) (BG rf.rs) (.rc rf.body,[],start ((A z).map .v) [])))
 (B:T fn=some rf:=by kernel_rfl)(b:S.E.keep fn=true:=by kernel_rfl)(D:S.E.own fn=false:=by kernel_rfl)(G:(S.prm fn).isNone=true:=by kernel_rfl)(J:∀z,(A z).length<=rf.na:=by intro z;exact Nat.le_of_ble_eq_true (by kernel_rfl)):ZK S (dw S T) fn A p where
 k:=b
 o:=D
 q:=G
 h z s u:=by have a:=h z (cO s) (by rw[u];rfl);change lZ S (dw S T) (BG rf.rs) rf.body [] (start ((A z).map .v) [])=some (cO s)at a;have⟨o,st',d,g1,g2,g3,g4⟩:=YF a;refine⟨d,st'.m,?_,g4⟩;rw[tG B];unfold oM;rw[if_pos (by simpa using J z),g1];cases o with|exit id=>exact absurd rfl (g2 id)|norm=>simp only[g3,map_some]|ret=>simp only[g3,map_some]
theorem Kk:∀l:So,SV.tS (l.map .v)=[]
 |[]=>rfl|a::l=>by simp only[map_cons,SV.tS,SV.DL,Kk l,append_nil]
theorem NZ{m:Tb bN}(l:So):handed m (l.map .v)=some []:=by unfold handed;rw[Kk];rfl
section
variable{S:Sys}{c:cr}{β γ δ α:Type}[bH δ]{Q:Out×St->a_ β}{e:γ->a_ β}{cf:Cf}
end
def Uw(s:Nat)(v:SV)(cf:Cf):Cf:=(cf.1,cf.2.1,{cf.2.2 with g:=bR cf.2.2.g s v})
section
variable{S:Sys}{c:cr}{β γ δ:Type}{Q:Out×St->a_ β}{e:γ->a_ β}{cf:Cf}
theorem jv(n s:Nat){v B:V}(a:v=B){m:a_ β}(h:Le m (cn S c Q (Uw s (.v B) (jR S c n cf))))
 (D:(iR S c n cf.1 cf.2.1 cf.2.2).map (λp=>bn p.2.2.g s)=some (some (.v v)):=by kernel_rfl):Le m (cn S c Q cf):=by
 subst a;have⟨p,u,a⟩:=fc D;have b:jR S c n cf=p:=by unfold jR;grind
 rw[b]at h;refine BT u ?_;have:Uw s (.v v) p=p:=by unfold Uw;rw[rC a]
 rw[this]at h;exact h
end
def dU{α δ:Type}(b:(α->a_ δ)->α->a_ δ):Nat->α->a_ δ
 |0,_=>none|n+1,z=>b (dU b n) z
theorem gC.fix{S:Sys}{c:cr}{α δ:Type}{fn:Y'}{A:α->So}{E:δ->So}{sc:X'}{b:(α->a_ δ)->α->a_ δ}(a:S.E.keep fn=false)(B:sc=true->∀r,(result (E r)).scalar=true)
 (h:∀r,gC S c fn A E r sc->∀z,Le ((b r z).bind λr=>some (E r)) (jA c fn (A z))):∀n,gC S c fn A E (dU b n) sc
 |0=>⟨a,λ_=>Le.none _,B⟩|n+1=>⟨a,h _ (gC.fix a B h n),B⟩
structure yE(S:Sys)(c:cr){α δ:Type}(fn:FuncId)(A:α->List SV)(O:α->dO)(E:δ->List V)(M:α->δ->dO)(p:α->Option δ):Prop where
 k:S.E.keep fn=true
 o:S.E.own fn=false
 q:(S.prm fn).isNone=true
 h:∀z r,p z=some r->∃m',c fn (A z) (O z)=some ((E r).map .v,m')/\∀m0,mm m' ((O z).map (·.1)) m0=some (ql m0 (M z r))
abbrev oK.of{S:Sys}{c:cr}{α δ:Type}{fn:FuncId}{A:α->aZ SV}{O:α->dO}{E:δ->aZ V}{M:α->δ->dO}{p:α->a_ δ}(z:α)(F:yE S c fn A O E M p):oK S c (p z):=⟨fn,A z,O z,E,M z,F.k,F.o,F.q,F.h z⟩
theorem yE.fix{S:Sys}{c:cr}{α δ:Type}{fn:Y'}{A:α->SW}{O:α->dO}{E:δ->So}{M:α->δ->dO}{b:(α->a_ δ)->α->a_ δ}(k:S.E.keep fn=true)(o:S.E.own fn=false)(q:(S.prm fn).isNone=true)
 (h:∀r,yE S c fn A O E M r->∀z B,b r z=some B->∃m',c fn (A z) (O z)=some ((E B).map .v,m')/\∀D,mm m' ((O z).map (·.1)) D=some (ql D (M z B))):∀n,yE S c fn A O E M (dU b n)
 |0=>⟨k,o,q,λ_ _ h=>by cases h⟩|n+1=>⟨k,o,q,h _ (yE.fix k o q h n)⟩
structure ym(S:Sys)(c:cr){α σ:Type}[bH α](cl:SV)(g:FuncId)(e:List SV)(os:σ->dO)(p:α->σ->Option (Bool×σ)):Prop where
 cs:∀vs,mb (cl::vs)=some (g,vs++e)
 hd:∀(s:σ)(a:V),handed (os s) [.v a,cl]=some (os s)
 tk:∀s s',kY (os s') ((os s).map (·.1))=some (os s')
 wi:∀s s',((os s').all λx=>within ((os s).map (·.1)) x.2)=true
 put:∀s s',ql (os s) (os s')=os s'
 h:∀x s r,p x s=some r->∀(dst:Option Nat)(old:List SV->Bool)(st:St),st.m=os s->fP S c dst false true old g (.v (enc x)::e) st=some (.v (.bool r.1),{st with m:=os r.2})
section
variable{S:Sys}{c:cr}{α σ:Type}[bH α]{g:Y'}
theorem ym.U4{e:So}{p:α->a_ X'}(F:lY S c g [] e (λz:α=>[enc z]) (λr:X'=>[.bool r]) p true):ym S c (.v (.clo g [] e)) g (e.map .v) (λ_:Unit=>[]) (λx u=>(p x).map λb=>(b,u))where
 cs vs:=rfl
 hd s a:=NZ [a,.clo g [] e]
 tk _ _:=rfl
 wi _ _:=rfl
 put _ _:=rfl
 h x s r hr dst C st w:=by obtain⟨b,D,rfl⟩:=ζf.1 hr;have B:jA c g (enc x::e)=some [.bool b]:=F.f.h x [.bool b] (by rw[D];rfl);have e1:{st with m:=([]:dO)}=st:=(by cases st;simp only at w;subst w;rfl);rw[e1];unfold jA at B;have⟨⟨rs,m'⟩,d,G⟩:=ζg.1 B;have f:=F.f.k;unfold fP;have I:dg st.m 8 (.v (enc x)::e.map .v)=some (enc x::e):=wm 8 (enc x::e);simp only[f,I,d,G,false_eq_true,if_false,Bool.true_or,if_true,result,V.scalar]
theorem ym.ofK{e:SW}{os:σ->dO}{p:α->σ->a_ (X'×σ)}[Inhabited α][Inhabited σ](F:∀x s,oK S c (p x s))(G:∀x s,(F x s).n=g:=by intro _ _;kernel_rfl)(J:∀x s,(F x s).az=.v (enc x)::e:=by intro _ _;kernel_rfl)(D:∀x s,(F x s).os=os s:=by intro _ _;kernel_rfl)
 (U:∀x s,(F x s).E=λr=>[.bool r.1]:=by intro _ _;kernel_rfl)(d:∀x s,(F x s).M=λr=>os r.2:=by intro _ _;kernel_rfl)
 (hd:∀s:σ,kY (os s) (reach (os s) 32 (SV.tS e) [])=some (os s):=by intro _;kernel_rfl)
 (tk:∀s B,kY (os B) ((os s).map (·.1))=some (os B):=by intro _ _;kernel_rfl)(wi:∀s B,((os B).all λx=>within ((os s).map (·.1)) x.2)=true:=by intro _ _;kernel_rfl)(put:∀s B,ql (os s) (os B)=os B:=by intro _ _;kernel_rfl):ym S c (.clo g [] e) g e os p where
 cs vs:=rfl
 hd s a:=by have:SV.tS [.v a,.clo g [] e]=SV.tS e:=(by simp[SV.tS,SV.DL]);unfold handed;rw[this];exact hd s
 tk:=tk
 wi:=wi
 put:=put
 h x s r hr dst I st u:=by have⟨m',k1,k2⟩:=(F x s).h r hr;have b:=(F x s).k;have w:=(F x s).o;have z:S.prm (F x s).n=none:=(by have:=(F x s).q;cases L:S.prm (F x s).n with|none=>rfl|some _=>rw[L]at this;cases this);rw[G]at b w z k1;rw[J,D,U]at k1;rw[D,d]at k2;have C:handed st.m (.v (enc x)::e)=some (os s):=(by rw[u];exact hd s);have k2:=k2 (os s);rw[put]at k2;rw[<-u]at k2;unfold fP;rw[u]at C k2⊢;simp only[b,w,z,C,k1,k2,n9,map_cons,map_nil,dG,map_some,if_true,Bool.false_and,false_eq_true,if_false,result]
end
def Gf{α σ:Type}(s0:Sl α)(p:α->σ->a_ (X'×σ))(q:Int×σ):a_ (Fw (Int×σ) σ (Int×σ)):=bl (decide (q.1<len s0)) ((idx s0 q.1).bind λx=>(p x q.2).bind λy=>bl y.1 (some (.r (q.1,y.2))) (some (.n (wrap .i64 (q.1+1),y.2)))) (some (.x q.2))
def TQ{α σ:Type}(s0:Sl α)(p:α->σ->a_ (X'×σ))(x:σ):a_ (Int×σ):=(bY (Gf s0 p) (0,x)).bind (Fw.elim (λe=>some (-1,e)) λe=>some e)
def zw{α σ:Type}(s0:Sl α)(p:α->σ->a_ (X'×σ))(x:σ):a_ (X'×σ):=(TQ s0 p x).bind λy=>some (decide (y.1>=0),y.2)
section
variable{S:Sys}{c:cr}{α σ β γ:Type}[bH α]{g:Y'}{Q:Out×St->a_ β}{e:γ->a_ β}{cf:Cf}
theorem RH(n:Nat){a:SV}{ex:SW}{os:σ->dO}{p:α->σ->a_ (X'×σ)}(F:ym S c a g ex os p)(x:α)(s:σ){f:X'×σ->a_ γ}(h:∀r,p x s=some r->Le ((f r).bind e) (cn S c Q (nx S c n cf λq=>c8 {q.st with m:=os r.2} q.d (.v (.bool r.1)))))
 (B:(gw S c n cf).map (λq=>(q.k,b7 S.N q.st.g q.az,q.dr,q.st.m))=some (.c,some [a,.v (enc x)],false,os s):=by kernel_rfl):Le (((p x s).bind f).bind e) (cn S c Q cf):=by
 have⟨q,w,b⟩:=fc B;simp only[ζc]at b;have⟨d,z,C,D⟩:=b;refine rK w ?_ h;rw[d,C,xk _ _ _ _ _ _ _ g ([.v (enc x)]++ex) z (F.cs [.v (enc x)])];intro y u;have⟨r,i,u⟩:=ζg.1 u;cases u;have:=F.h x s r i q.d (gF q.st.m q.fr) q.st D;rw[show(!false||q.now)=true from rfl,List.singleton_append,this];rfl
theorem K_{a:SV}{ex:SW}{os:σ->dO}{p:α->σ->a_ (X'×σ)}(F:ym S c a g ex os p){rs:aZ RV}{st:St}{s B:σ}{ys:So}(b:lS st rs=some (ys.map .v))(D:st.m=os B):Gu rs ((os s).map (·.1)) (.ret,st)=some (ys,os B):=by show((lS st rs).bind λl=>(dG l).bind λys=>(kY st.m ((os s).map (·.1))).map λos=>(ys,os))=_;rw[b,D,F.tk s B];simp only[ζb,n9,map_some]
theorem Jp(n:Nat){b:SV}{ex:SW}{os:σ->dO}{p:α->σ->a_ (X'×σ)}(F:ym S c b g ex os p){rs:aZ RV}{s B:σ}{r:γ}{e:γ->a_ (So×dO)}(ys:So)(D:e r=some (ys,os B))
 (G:(iR S c n cf.1 cf.2.1 cf.2.2).map (λq=>(q.1,lS q.2.2 rs,q.2.2.m))=some (.rt,some (ys.map .v),os B):=by kernel_rfl):Le ((some r).bind e) (cn S c (Gu rs ((os s).map (·.1))) cf):=by
 have⟨⟨fo,fs,st'⟩,u,a⟩:=fc G;simp only[ζc]at a;obtain⟨rfl,w,z⟩:=a;refine BT u (Le.of_eq ?_);show rn S c _ Fo.rt fs st'=e r;rw[D];exact K_ F w z
theorem Nf(n:Nat){δ:Type}{m:a_ δ}(F:oK S c m)(D:handed F.os F.az=some F.os)(hp:∀x,ql F.os (F.M x)=F.M x){f:δ->a_ γ}(h:∀x,m=some x->Le ((f x).bind e) (cn S c Q (nx S c n cf λp=>c8 {p.st with m:=F.M x} p.d (.v (result (F.E x))))))
 (G:(gw S c n cf).map (λp=>(p.k,(b7 S.N p.st.g p.az).bind mb,p.dr,p.st.m))=some (.c,some (F.n,F.az),false,F.os):=by kernel_rfl):Le ((m.bind f).bind e) (cn S c Q cf):=by
 have⟨p,u,a⟩:=fc G;simp only[ζc]at a;have⟨C,I,J,B⟩:=a;have⟨w,g3,g4⟩:=ζg.1 I;refine rK u ?_ h;rw[C,J,xk _ _ _ _ _ _ w F.n F.az g3 g4];intro y z;have⟨r,b,z⟩:=ζg.1 z;cases z;have⟨m',k1,k2⟩:=F.h r b;have u:S.prm F.n=none:=by have:=F.q;cases L:S.prm F.n with|none=>rfl|some _=>rw[L]at this;cases this
 have k2:=k2 p.st.m;rw[B,hp]at k2;have:fP S c p.d false (!false||p.now) (gF p.st.m p.fr) F.n F.az p.st=some (.v (result (F.E r)),{p.st with m:=F.M r}):=by unfold fP;rw[B];simp only[F.k,F.o,u,D,k1,k2,n9,if_true,Bool.not_false,Bool.true_or,Bool.false_and,false_eq_true,if_false]
 rw[this];rfl
end
section
variable{S:Sys}{c:cr}{β γ δ α:Type}[bH δ]{Q:Out×St->a_ β}{e:γ->a_ β}{cf:Cf}
theorem VF(n u:Nat){fn:Y'}{A:α->So}{p:α->a_ (Sl δ)}(F:Ck S c fn A p)(z:α){f:Sl δ->a_ γ}
 (h:∀x,(p z).bind Sl.whole=some x->Le ((f x).bind e) (cn S c Q (nx S c n cf λq=>{q.st with g:=bR q.st.g u (.own u),m:=bR q.st.m u (cO x)})))
 (U:(gw S c n cf).map (λq=>(q.d,q.k,((b7 S.N q.st.g q.az).bind mb).bind λr=>(om (jf q.st.m 8) r.2).map λvs=>(r.1,vs),(!q.dr||q.now),q.st.new u))=some (some u,.c,some (fn,A z),true,true):=by kernel_rfl):Le ((((p z).bind Sl.whole).bind f).bind e) (cn S c Q cf):=by
 have⟨q,T,b⟩:=fc U;simp only[ζc]at b;have⟨W,X,Y,Z,O⟩:=b;have⟨⟨B,args⟩,D,g3⟩:=ζg.1 Y;have⟨G,g1,g2⟩:=ζg.1 D;have⟨vs,g4,g5⟩:=ζf.1 g3;simp only[ζc]at g5;obtain⟨rfl,rfl⟩:=g5;refine rK T ?_ h;rw[W,X];intro y I;have⟨d,J,I⟩:=ζg.1 I;cases I;have⟨s,i,C⟩:=ζg.1 J;have⟨e0,m',j,k⟩:=F.h z s i;rw[xk q.dr _ _ _ _ _ G B args g1 g2];have L:dg q.st.m 8 args=some (A z):=by rw[(xW q.st.m 8).2];exact g4
 have w:fP S c (some u) q.dr (!q.dr||q.now) (gF q.st.m q.fr) B args q.st=some (.own u,{q.st with m:=bR q.st.m u (cO d)}):=by unfold fP;simp only[F.k,F.o,if_true,Z,L,j,dG,k,cO,O];cases s with|nil=>cases C;rfl|emp=>cases C;rfl|row l=>cases C;have:nj (rows l)=true:=(by unfold nj;rw[all_eq_true];intro x o;obtain⟨a,_,rfl⟩:=mem_map.1 o;exact F.sc a);simp only[Sl.k,Sl.l,dG,V.c9,this,Bool.and_self,O,if_true];rfl|part l=>cases C
 rw[w];rfl
theorem ZB{α:Type}[bH α](n:Nat)(l:aZ α)(q:wE)(svs:SW){m:a_ β}(h:Le m (cn S c Q (nx S c n cf λp=>c8 p.st p.d (cv (Sl.row l:Sl α)))))
 (B:(gw S c n cf).map (λp=>(p.k,b7 S.N p.st.g p.az))=some (.p q,some svs):=by kernel_rfl)(D:isSlice q=false:=by rfl)(hp:∀m,kr S.N m q svs=some (cv (Sl.row l:Sl α)):=by intro m;kernel_rfl):Le m (cn S c Q cf):=by
 have⟨p,u,a⟩:=fc B;simp only[ζc]at a;refine vo u ?_ h;rw[a.1];exact B3 a.2 D (hp _)
end
def Qw:Out×St->a_ S'
 |(.exit _,_)=>none|(_,st)=>some st.want
def yl(B:S')(more:X')(xs:So):a_ (X'×S'):=match B with
 |w::r=>open Classical in if w=xs then some (more|| !r.isEmpty,r)else none|[]=>none
section
variable{S:Sys}{c:cr}{β γ:Type}{Q:Out×St->a_ β}{e:γ->a_ β}{cf:Cf}
theorem Byl(n:Nat){B:S'}{more:X'}(xs:So){f:X'×S'->a_ γ}
 (h:∀r,yl B more xs=some r->Le ((f r).bind e) (cn S c Q (nx S c n cf λq=>c8 {q.st with want:=r.2} q.d (.v (.bool r.1)))))
 (D:(gw S c n cf).map (λq=>(q.k,b7 S.N q.st.g q.az,q.st.want,q.st.more,q.dr))=some (.c,some (.yl ((gw S c n cf).elim 0 λq=>q.st.yid)::xs.map .v),B,more,false):=by kernel_rfl):Le (((yl B more xs).bind f).bind e) (cn S c Q cf):=by
 have⟨q,C,b⟩:=fc D;simp only[ζc]at b;have⟨d,u,G,I,J⟩:=b;rw[C]at u;refine rK C ?_ h;intro y z;have⟨r,a,z⟩:=ζg.1 z;cases z;unfold yl at a;split at a
 .rename_i w O;split at a
  next L=>cases a;rw[d,J];unfold gx;have u:b7 S.N q.st.g q.az=some (.yl q.st.yid::xs.map .v):=u;simp only[wanted,gJ,u,n9,G,L,I,if_true,and_self,false_eq_true,if_false]
  cases a
 cases a
theorem S8{S G:Sys}{c:cr}(Y:G.E=S.E)(e:∀f q,S.prm f=some q->oU S.E f q)(i:j8 S c)(j:∀f a b xs,S.items f a b=some xs->eZ S f a b xs){f:Y'}{fi:FI}{nm:Y'->a_ Nat}{rf:RF}(U:S.E.ft f=some fi)(l:∀g s,nm g=some s->S.N s=g)(m:zd S.E nm fi rf){a b:So}{xs:S'}(D:a.length+1+b.length<=rf.na)(W:rf.rs=[])
 (h:∀B more,wQ B xs more->∀yid,cn S c Qw (.rc rf.body,[],⟨wU 0 (a.map .v++.yl yid::b.map .v),[],[],B,more,yid⟩)=some []):eZ G f a b xs:=by
 have k:eZ S f a b xs:=M6 e i j U l m D W (λB more w yid=>by
  have d:=h B more w yid;change lZ S c Qw rf.body [] _=some []at d;rw[qD]at d;have⟨⟨o,st'⟩,z,u⟩:=ζg.1 d;refine⟨o,st',z,?_,?_,rfl⟩
  .rintro id rfl;simp[Qw]at u
  cases o<;>simp[Qw]at u<;>exact u)
 have⟨Q,T,n,yR,prm⟩:=G;simp only at Y;subst Y;intro B more w yid J y Z C I H d z u L O;exact k B more w yid J ⟨y.yf,y.yield⟩ Z C I H d z u L O
end
section
variable{S:Sys}{c:cr}{β γ α:Type}[bH α]{Q:Out×St->a_ β}{e:γ->a_ β}{cf:Cf}
theorem xL(n u:Nat){s:Sl α}{i:Nat}{a:α}{f:Sl α->a_ γ}(h:∀B,s.put i a=some B->Le ((f B).bind e) (cn S c Q (nx S c n cf λp=>c8 {p.st with m:=bR p.st.m u (cO B)} p.d (.v .undef))))
 (D:(gw S c n cf).map (λp=>(p.k,b7 S.N p.st.g p.az,bn p.st.m u,(!p.dr||p.now)))=some (.l (.store (bH.size α)),some [.el u i 0,cv a],some (cO s),true):=by kernel_rfl):Le (((s.put i a).bind f).bind e) (cn S c Q cf):=by
 have⟨p,w,b⟩:=fc D;simp only[ζc]at b;refine rK w ?_ h;rw[b.1];exact Le.of_eq (MY b.2.1 b.2.2.2 b.2.2.1 (kJ a) rfl)
end
theorem VK{n:Int}(a:0<=n)(h:n<=4611686018427387904):wrap .i64 n=n:=by simp[wrap,IntKind.bits,signed];omega
namespace catX
instance{n:Nat}:OfNat Arg n:=⟨.s n⟩
def ln:K:=.p .lenSl
def ix:K:=.p (.idxS 1)
def bI(o:BinOp):K:=.p (.bin (some .int) none o)
def ld:K:=.r (.load 1 false)
def g1:Rd:=[o1 4 (.k (.bM)) []]
def g2:Rd:=[o1 5 1 [],o2 6 (bI .lss) [5,.k (.int .i64 0)] []]
def g3:Rd:=[o2 7 (.p (.bad)) [] [],⟨none,none,false,.p .bad,[],[],[]⟩]
def g4:Rd:=[o1 8 1 [],o1 9 0 [],o2 10 (.p (.capSl)) [9] [],o1 11 0 [],o2 12 ln [11] [],o2 13 (bI .sub) [10,12] [],o2 14 (bI .sub) [8,13] [],o1 1 14 []]
def g5:Rd:=[o1 15 1 [],o2 16 (bI .gtr) [15,.k (.int .i64 0)] []]
def g6:Rd:=[o1 17 0 [],o1 18 0 [],o2 19 (.p (.capSl)) [18] [],o2 20 (.p (.slice 1 false true)) [17,19] [],o1 21 1 [],o2 22 (.l (.appMk 1 24 [.bM])) [20,21] [],o1 23 0 [],o2 24 ln [23] [],o2 25 (.p (.slice 1 false true)) [22,24] [],o1 0 25 []]
def g7:Rd:=[o1 26 0 [],o1 4 26 []]
def grow:RC:=.seq (.ops g1) (.seq (.seq (.ops g2) (.cond (.s 6) (.ops g3) (.skip))) (.seq (.seq (.ops g4) (.seq (.ops g5) (.cond (.s 16) (.ops g6) (.skip)))) (.seq (.ops g7) (.ret))))
section
variable{E:Env}{N:Nat->Y'}{t:Nat}
theorem XP(Y:t<=2147483648):∃F',Ex E N grow [.bM,.int .i64 t] [] .ret F' (if t=0 then[]else[.row 1 (replicate t [.bM])])/\get F' 4=if t=0 then .bM else .hsl 0 1 0 0:=by
 have e1:∀call,cQ E N call none g1 [.bM,.int .i64 t] []=some (set [.bM,.int .i64 t] 4 .bM,[]):=λcall=>vp (v:=.bM) rfl (by simp[bK,bB,bq]) eH;have k0:get (set [V.bM,.int .i64 t] 4 .bM) 0=.bM:=rfl;have k1:get (set [V.bM,.int .i64 t] 4 .bM) 1=.int .i64 t:=rfl;generalize set [V.bM,.int .i64 t] 4 .bM=I at *;have S:wrap .i64 ((t:Int)-0)=t:=by rw[Int.sub_zero];exact VK Zaa Zaa
 have D:wrap .i64 ((0:Int)-0)=0:=by decide
 have e2:∃F1,(∀call,cQ E N call none g2 I []=some (F1,[]))/\get F1 6=.bool false/\get F1 0=.bM/\get F1 1=.int .i64 t:=by refine⟨_,λcall=>vp (v:=.int .i64 t) rfl ?_<|vp (v:=.bool false) rfl ?_ eH,?_,?_,?_⟩;simp[bK,bB,bq,k1];simp[bK,bB,bq,bz,bI,iG,pU];all_goals simp[bz,k0,k1]
 have⟨F1,a1,a2,a3,a4⟩:=e2;have e4:∃w,(∀call,cQ E N call none g4 F1 []=some (w,[]))/\get w 0=.bM/\get w 1=.int .i64 t:=by refine⟨_,λcall=>vp (v:=.int .i64 t) rfl ?_<|vp (v:=.bM) rfl ?_<|vp (v:=.int .i64 0) rfl ?_<|vp (v:=.bM) rfl ?_<|vp (v:=.int .i64 0) rfl ?_<|vp (v:=.int .i64 0) rfl ?_<|vp (v:=.int .i64 t) rfl ?_<|vp (v:=.int .i64 t) rfl ?_ eH,?_,?_⟩;simp[bK,bB,bq,a4];simp[bK,bB,bq,bz,a3];simp[bK,bB,bq,bz,Kl];simp[bK,bB,bq,bz,a3];simp[bK,bB,bq,bz,ln,pO];simp only[bK,map_cons,map_nil,bB,bz,bC,reduceEqDiff,if_true,if_false,bq,bI,iG,D];rfl;simp only[bK,map_cons,map_nil,bB,bz,bC,reduceEqDiff,if_true,if_false,bq,bI,iG,S];rfl;simp[bK,bB,bq,bz];all_goals simp[bz,a3]
 have⟨w,J,T,L⟩:=e4;have e5:∃u,(∀call,cQ E N call none g5 w []=some (u,[]))/\get u 16=.bool (decide (t>0))/\get u 0=.bM/\get u 1=.int .i64 t:=by refine⟨_,λcall=>vp (v:=.int .i64 t) rfl ?_<|vp (v:=.bool (decide (t>0))) rfl ?_ eH,?_,?_,?_⟩;simp[bK,bB,bq,L];simp[bK,bB,bq,bz,bI,iG,pU];all_goals simp[bz,T,L]
 have⟨u,O,Q,B,U⟩:=e5;have d:Ex E N (.seq (.ops g2) (.cond (.s 6) (.ops g3) (.skip))) I [] .norm F1 []:=Ex.seq (Ex.dy a1) (Ex.qU a2 Ex.skip);have e7:∀(F:WP)(H:bp),∃F',(∀call,cQ E N call none g7 F H=some (F',H))/\get F' 4=get F 0:=λF H=>⟨_,λcall=>vp (v:=get F 0) rfl (by simp[bK,bB,bq])<|vp (v:=get F 0) rfl (by simp[bK,bB,bq,bz]) eH,by simp[bz]⟩
 by_cases a:t=0;subst a;have⟨G,b,c⟩:=e7 u [];refine⟨G,?_,by rw[c,B];rfl⟩;exact Ex.seq (Ex.dy e1) (Ex.seq d (Ex.seq (Ex.seq (Ex.dy J) (Ex.seq (Ex.dy O) (Ex.qU Q Ex.skip))) (Ex.seq (Ex.dy b) Ex.ret)));have z:0<t:=Zaa;have e6:∃C,(∀call,cQ E N call none g6 u []=some (C,[.row 1 (replicate t [.bM])]))/\get C 0=.hsl 0 1 0 0:=by refine⟨_,λcall=>vp (v:=.bM) rfl ?_<|vp (v:=.bM) rfl ?_<|vp (v:=.int .i64 0) rfl ?_<|vp (v:=.bM) rfl ?_<|vp (v:=.int .i64 t) rfl ?_<|kQ (v:=.hsl 0 1 0 t) (H1:=[.row 1 (replicate t [.bM])]) rfl ?_<|vp (v:=.bM) rfl ?_<|vp (v:=.int .i64 0) rfl ?_<|vp (v:=.hsl 0 1 0 0) rfl ?_<|vp (v:=.hsl 0 1 0 0) rfl ?_ eH,?_⟩;simp[bK,bB,bq,B];simp[bK,bB,bq,bz,B];simp[bK,bB,bq,bz,Kl];simp[bK,bB,bq,bz,ny,iX,eD];simp[bK,bB,bq,bz,U];simp only[bK,map_cons,map_nil,bB,bz,bC,reduceEqDiff,if_true,if_false,fT,mkApp];rw[if_neg Zaa,if_pos ⟨Zaa,Zaa,Zaa,Zaa⟩];simp;simp[bK,bB,bq,bz,B];simp[bK,bB,bq,bz,ln,pO];simp[bK,bB,bq,bz,ny,iX,eD];simp[bK,bB,bq,bz];simp[bz]
 have⟨C,W,X⟩:=e6;have⟨G,b,c⟩:=e7 C [.row 1 (replicate t [.bM])];rw[if_neg a,if_neg a];refine⟨G,?_,by rw[c,X]⟩;exact Ex.seq (Ex.dy e1) (Ex.seq d (Ex.seq (Ex.seq (Ex.dy J) (Ex.seq (Ex.dy O) (Ex.oN (by show get u 16=_;rw[Q,decide_eq_true z]) (Ex.dy W)))) (Ex.seq (Ex.dy b) Ex.ret)))
end
end catX
def DW{α:Type}(s:Sl (Sl α)):Sl α:=if(s.l.flatMap Sl.l).length=0 then .nil else .row (s.l.flatMap Sl.l)
namespace catX
def r1:Rd:=[o1 2 (.k (.bM)) []]
def r2:Rd:=[o1 3 (.k (.int .i64 0)) []]
def r3:Rd:=[o1 9 0 [],o2 10 ln [9] [],o1 11 (.k (.int .i64 0)) []]
def r4:Rd:=[o2 12 (bI .lss) [11,10] []]
def r5:Rd:=[o2 13 ix [9,11] [],o2 14 ld [13] [],o1 5 14 []]
def r6:Rd:=[o1 15 3 [],o1 16 5 [],o2 17 ln [16] [],o2 18 (bI .add) [15,17] [],o1 3 18 []]
def r7:Rd:=[o1 19 3 [],o2 20 (bI .lss) [19,.k (.int .i64 0)] []]
def r8:Rd:=[o2 21 (.p (.bad)) [] [],⟨none,none,false,.p .bad,[],[],[]⟩]
def r9:Rd:=[o2 22 (bI .add) [11,.k (.int .i64 1)] [],o1 11 22 []]
def L9:RC:=.seq (.ops r4) (.seq (.cond (.s 12) (.skip) (.exit 0)) (.seq (.block 1 (.seq (.ops r5) (.seq (.ops r6) (.seq (.ops r7) (.cond (.s 20) (.ops r8) (.skip)))))) (.ops r9)))
def EF(gid:Nat):Rd:=[o1 23 3 [],o2 24 .c [.f gid,.k (.bM),23] [],o1 6 24 []]
def HZ:Rd:=[o1 25 0 [],o2 26 ln [25] [],o1 27 (.k (.int .i64 0)) []]
def HD:Rd:=[o2 28 (bI .lss) [27,26] []]
def IW:Rd:=[o2 29 ix [25,27] [],o2 30 ld [29] [],o1 8 30 []]
def FW:Rd:=[o1 31 6 [],o1 32 8 [],o2 33 (.l (.append 1)) [31,32] [],o1 6 33 []]
def Ig:Rd:=[o2 34 (bI .add) [27,.k (.int .i64 1)] [],o1 27 34 []]
def L15:RC:=.seq (.ops HD) (.seq (.cond (.s 28) (.skip) (.exit 2)) (.seq (.block 3 (.seq (.ops IW) (.ops FW))) (.ops Ig)))
def r16:Rd:=[o1 35 6 [],o1 2 35 []]
def cat(gid:Nat):RC:=.seq (.ops r1) (.seq (.ops r2) (.seq (.seq (.ops r3) (.block 0 (.loop L9))) (.seq (.ops (EF gid)) (.seq (.seq (.ops HZ) (.block 2 (.loop L15))) (.seq (.ops r16) (.ret))))))
section
variable{E:Env}{N:Nat->Y'}{F:WP}{H:bp}{α:Type}[bH α]{s:Sl (Sl α)}{i:Nat}
theorem el{u:Sl α}(h:s.l[i]?=some u):nq 1 (b9 s) (i:Int)=some (.fptr [b9 u]):=by have:=GZ (N:=λn=>n) s .i64 (i:Int) 1 rfl;simp only[bq]at this;rw[this,show idx s (i:Int)=some u from by unfold idx;grind];rfl
theorem lnS(s:Sl α):pO (b9 s)=some (.int .i64 s.l.length):=by have:=AA (N:=λn=>n) s;simpa only[bq]using this
theorem y3:(get F 0=b9 s->∃F',(∀call,cQ E N call none r3 F H=some (F',H))/\get F' 9=b9 s/\get F' 10=.int .i64 s.l.length/\get F' 11=.int .i64 0/\∀j,j<9->get F' j=get F j)/\
 (get F 0=b9 s->∃F',(∀call,cQ E N call none HZ F H=some (F',H))/\get F' 25=b9 s/\get F' 26=.int .i64 s.l.length/\get F' 27=.int .i64 0/\∀j,j<9->get F' j=get F j):=by
 have h:=lnS s;refine⟨λa=>⟨_,λcall=>vp (v:=b9 s) rfl ?_<|vp (v:=.int .i64 s.l.length) rfl ?_<|vp (v:=.int .i64 0) rfl ?_ eH,?_,?_,?_,?_⟩,λa=>⟨_,λcall=>vp (v:=b9 s) rfl ?_<|vp (v:=.int .i64 s.l.length) rfl ?_<|vp (v:=.int .i64 0) rfl ?_ eH,?_,?_,?_,?_⟩⟩<;>
 first
 |(simp[bK,bB,bq,a];done)|(simp only[bK,map_cons,map_nil,bB,bz,bC,reduceEqDiff,if_true,if_false,bq,ln,h];rfl)|grind|(simp[bz];done)|(intro j u;simp only[bz,bC];grind)
theorem y4{n:Nat}:(get F 11=.int .i64 i->get F 10=.int .i64 n->∃F',(∀call,cQ E N call none r4 F H=some (F',H))/\get F' 12=.bool (decide (i<n))/\∀j,j<12->get F' j=get F j)/\
 (get F 27=.int .i64 i->get F 26=.int .i64 n->∃F',(∀call,cQ E N call none HD F H=some (F',H))/\get F' 28=.bool (decide (i<n))/\∀j,j<28->get F' j=get F j):=by
 refine⟨λf u=>⟨_,λcall=>vp (v:=.bool (decide (i<n))) rfl ?_ eH,?_,?_⟩,λf u=>⟨_,λcall=>vp (v:=.bool (decide (i<n))) rfl ?_ eH,?_,?_⟩⟩<;>
 first
 |(simp[bK,bB,bq,bz,bI,iG,pU,f,u];done)|grind|(intro j w;simp only[bz,bC];grind)
theorem y5{u:Sl α}(h:s.l[i]?=some u):(get F 9=b9 s->get F 11=.int .i64 i->∃F',(∀call,cQ E N call none r5 F H=some (F',H))/\get F' 5=b9 u/\∀j,j<12->j≠5->get F' j=get F j)/\
 (get F 25=b9 s->get F 27=.int .i64 i->∃F',(∀call,cQ E N call none IW F H=some (F',H))/\get F' 8=b9 u/\∀j,j<28->j≠8->get F' j=get F j):=by
 have e:=el h;have e2:fE H (.load 1 false) [.fptr [b9 u]]=some (b9 u):=by simp[fE,eU,cut,mk]
 refine⟨λf w=>⟨_,λcall=>vp (v:=.fptr [b9 u]) rfl ?_<|vp (v:=b9 u) rfl ?_<|vp (v:=b9 u) rfl ?_ eH,?_,?_⟩,λf w=>⟨_,λcall=>vp (v:=.fptr [b9 u]) rfl ?_<|vp (v:=b9 u) rfl ?_<|vp (v:=b9 u) rfl ?_ eH,?_,?_⟩⟩<;>
 first
 |(simp only[bK,map_cons,map_nil,bB,bz,bC,reduceEqDiff,if_true,if_false,bq,ix,f,w,e,map_some];done)|(simp only[bK,map_cons,map_nil,bB,bz,bC,reduceEqDiff,if_true,if_false,ld];grind)|grind|grind|grind
theorem y6{u:Sl α}{t:Nat}(a:get F 3=.int .i64 t)(b:get F 5=b9 u)(B:t+u.l.length<=2147483648):∃F',(∀call,cQ E N call none r6 F H=some (F',H))/\get F' 3=.int .i64 ((t+u.l.length:Nat):Int)/\∀j,j<12->j≠3->get F' j=get F j:=by
 have h:=lnS u;have w:wrap .i64 ((t:Int)+(u.l.length:Int))=((t+u.l.length:Nat):Int):=by rw[VK Zaa Zaa];simp
 refine⟨_,λcall=>vp (v:=.int .i64 t) rfl ?_<|vp (v:=b9 u) rfl ?_<|vp (v:=.int .i64 u.l.length) rfl ?_<|vp (v:=.int .i64 ((t+u.l.length:Nat):Int)) rfl ?_<|vp (v:=.int .i64 ((t+u.l.length:Nat):Int)) rfl ?_ eH,?_,?_⟩;simp[bK,bB,bq,a];simp[bK,bB,bq,bz,b];simp only[bK,map_cons,map_nil,bB,bz,bC,reduceEqDiff,if_true,if_false,bq,ln,h];rfl;simp only[bK,map_cons,map_nil,bB,bz,bC,reduceEqDiff,if_true,if_false,bq,bI,iG,w];rfl;simp[bK,bB,bq,bz];simp[bz];intro j z C;simp only[bz,bC];grind
theorem y7{t:Nat}(a:get F 3=.int .i64 t):∃F',(∀call,cQ E N call none r7 F H=some (F',H))/\get F' 20=.bool false/\∀j,j<12->get F' j=get F j:=by refine⟨_,λcall=>vp (v:=.int .i64 t) rfl ?_<|vp (v:=.bool false) rfl ?_ eH,?_,?_⟩;simp[bK,bB,bq,a];simp[bK,bB,bq,bz,bI,iG,pU];simp[bz];intro j u;simp only[bz,bC];grind
theorem y9(hi:i<=2147483648):(get F 11=.int .i64 i->∃F',(∀call,cQ E N call none r9 F H=some (F',H))/\get F' 11=.int .i64 ((i+1:Nat):Int)/\∀j,j<11->get F' j=get F j)/\
 (get F 27=.int .i64 i->∃F',(∀call,cQ E N call none Ig F H=some (F',H))/\get F' 27=.int .i64 ((i+1:Nat):Int)/\∀j,j<27->get F' j=get F j):=by
 have u:=z8 hi;refine⟨λf=>⟨_,λcall=>vp (v:=.int .i64 ((i+1:Nat):Int)) rfl ?_<|vp (v:=.int .i64 ((i+1:Nat):Int)) rfl ?_ eH,?_,?_⟩,λf=>⟨_,λcall=>vp (v:=.int .i64 ((i+1:Nat):Int)) rfl ?_<|vp (v:=.int .i64 ((i+1:Nat):Int)) rfl ?_ eH,?_,?_⟩⟩<;>
 first
 |(simp only[bK,map_cons,map_nil,bB,bz,bC,reduceEqDiff,if_true,if_false,bq,bI,iG,f,u];rfl)|grind|(simp[bz];done)|(intro j w;simp only[bz,bC];grind)
structure Acc(H:bp)(w:V)(acc:List (List V)):Prop where
 el:dY H 1 w=some acc
 gr:∃H1,iK H w=some H1/\H1.length=H.length
 sh:w=.bM/\acc=[]\/∃id xs,w=.hsl id 1 0 acc.length/\H[id]?=some (.row 1 xs)/\(acc≠[]->xs=acc)
theorem Xf(H:bp)(u:Sl α)(a:bH.size α=1):dY H 1 (b9 u)=some (rows u.l):=by cases u<;>simp[b9,Sl.k,Sl.l,qc,dY,rows,a]
theorem y14{w:V}{b:S'}{u:Sl α}(f:bH.size α=1)(a:Acc H w b)(f6:get F 6=w)(D:get F 8=b9 u)(J:b.length+u.l.length<=2147483648):
 ∃F' H' w',(∀call,cQ E N call none FW F H=some (F',H'))/\get F' 6=w'/\Acc H' w' (b++rows u.l)/\(u.l=[]->w'=w)/\∀j,j<28->j≠6->get F' j=get F j:=by
 have c:=Xf H u f;have C:(rows u.l).length=u.l.length:=by simp[rows]
 have key:∃H' w',fT H (.append 1) [w,b9 u]=some (w',H')/\Acc H' w' (b++rows u.l)/\(u.l=[]->w'=w):=by have⟨H1,g1,g2⟩:=a.gr;cases d:rows u.l with|nil=>exact⟨H,w,by simp only[fT,a.el,c,d],Zac,λ_=>rfl⟩|cons y B=>have G:b.length+(y::B).length<=2147483648:=Zac;refine⟨H1++[.row 1 (b++y::B)],.hsl H.length 1 0 (b.length+(y::B).length),by simp only[fT,a.el,c,d];grind,?_⟩;have z:(H1++[Ob.row 1 (b++y::B)])[H.length]?=some (.row 1 (b++y::B)):=Zac;refine⟨⟨?_,⟨_,by simp only[iK,z];rfl,Zab⟩,.inr ⟨H.length,b++y::B,Zab,z,λ_=>rfl⟩⟩,λe=>Zac⟩;simp only[dY,z,ζb,Ob.rows,if_true,zero_add,drop_zero];grind
 have⟨H',w',k1,k2,k3⟩:=key;refine⟨_,H',w',λcall=>vp (v:=w) rfl ?_<|vp (v:=b9 u) rfl ?_<|kQ (v:=w') (H1:=H') rfl ?_<|vp (v:=w') rfl ?_ eH,?_,k2,k3,?_⟩
 .simp[bK,bB,bq,f6]
 .simp[bK,bB,bq,bz,D]
 .simp only[bK,map_cons,map_nil,bB,bz,bC,reduceEqDiff,if_true,if_false];exact k1
 .simp[bK,bB,bq,bz]
 .simp[bz]
 intro j I L;simp only[bz,bC]
 grind
def upto(s:Sl (Sl α))(i:Nat):aZ α:=(s.l.take i).flatMap Sl.l
theorem H9{u:Sl α}(h:s.l[i]?=some u):upto s (i+1)=upto s i++u.l:=by unfold upto;obtain⟨hi,rfl⟩:=ζe.1 h;rw[List.take_succ_eq_append_getElem hi,List.flatMap_append];simp
theorem NR(s:Sl (Sl α))(i:Nat):(upto s i).length<=(s.l.flatMap Sl.l).length:=by
 have:s.l.flatMap Sl.l=upto s i++(s.l.drop i).flatMap Sl.l:=by unfold upto;rw[<-List.flatMap_append,List.take_append_drop]
 grind
theorem lp1(k:s.l.length<=2147483648)(l:(s.l.flatMap Sl.l).length<=2147483648):∀(d i:Nat)(F:WP),i+d=s.l.length->get F 9=b9 s->get F 10=.int .i64 s.l.length->get F 11=.int .i64 i->get F 3=.int .i64 (upto s i).length->
 ∃F',nJ E N L9 F H (.exit 0) F' H/\get F' 3=.int .i64 (s.l.flatMap Sl.l).length/\get F' 0=get F 0:=by
 intro d
 induction d with
 |zero=>
  intro i F hi J a w c;have⟨F1,a1,a2,a3⟩:=(y4 (E:=E) (N:=N) (H:=H) (n:=s.l.length)).1 w a;refine⟨F1,nJ.stop (Ex.seq (Ex.dy a1) (Ex.vK (Ex.qU (by show get F1 12=_;grind) Ex.exit) Zab)) Zab,?_,a3 0 Zaa⟩
  rw[a3 3 Zaa,c]
  have:upto s i=s.l.flatMap Sl.l:=by unfold upto;grind
  simp_all
 |succ d L=>
  intro i F hi J a w c;have⟨F1,a1,a2,a3⟩:=(y4 (E:=E) (N:=N) (H:=H) (n:=s.l.length)).1 w a;have e:s.l[i]?=some s.l[i]:=ζd Zaa
  have⟨O,Q,S,T⟩:=(y5 (E:=E) (N:=N) (F:=F1) (H:=H) e).1 Zac Zac
  have B:=NR s (i+1);have C:=H9 e;rw[C,ζi]at B;have⟨U,W,D,X⟩:=y6 (E:=E) (N:=N) (F:=O) (H:=H) (u:=s.l[i]) (t:=(upto s i).length) Zad S Zaa
  have⟨G,f,g,I⟩:=y7 (E:=E) (N:=N) (F:=U) (H:=H) D;have z:∀j,j<12->j≠3->j≠5->get G j=get F j:=λj b Y Z=>by rw[I j b,X j b Y,T j b Z,a3 j b]
  have⟨h,e1,e2,e3⟩:=(y9 (E:=E) (N:=N) (F:=G) (H:=H) (i:=i) Zaa).1 (by rw[z 11 Zaa Zaa Zaa];exact w)
  have⟨F',g1,g2,g3⟩:=L (i+1) h Zaa (by rw[e3 9 Zaa,z 9 Zaa Zaa Zaa];omega) (by rw[e3 10 Zaa,z 10 Zaa Zaa Zaa];exact a) e2 (by rw[e3 3 Zaa,I 3 Zaa,D,C,ζi])
  exact⟨F',nJ.step (Ex.seq (Ex.dy a1) (Ex.seq (Ex.oN (by show get F1 12=_;rw[a2,decide_eq_true Zaa]) Ex.skip) (Ex.seq (Ex.block (Ex.seq (Ex.dy Q) (Ex.seq (Ex.dy W) (Ex.seq (Ex.dy f) (Ex.qU g Ex.skip))))) (Ex.dy e1)))) g1,g2,by rw[g3,e3 0 Zaa,z 0 Zaa Zaa Zaa]⟩
theorem lp2(b:bH.size α=1)(g:s.l.length<=2147483648)(h:(s.l.flatMap Sl.l).length<=2147483648):∀(d i:Nat)(F:WP)(H:bp)(w:V),i+d=s.l.length->get F 25=b9 s->get F 26=.int .i64 s.l.length->get F 27=.int .i64 i->get F 6=w->Acc H w (rows (upto s i))->
 ∃F' H' w',nJ E N L15 F H (.exit 2) F' H'/\get F' 6=w'/\Acc H' w' (rows (s.l.flatMap Sl.l))/\((s.l.flatMap Sl.l).length=0->w'=w):=by
 intro d
 induction d with
 |zero=>
  intro i F H w hi C B z f6 a;have⟨F1,a1,a2,a3⟩:=(y4 (E:=E) (N:=N) (H:=H) (n:=s.l.length)).2 z B;have:upto s i=s.l.flatMap Sl.l:=by unfold upto;grind
  rw[this]at a;exact⟨F1,H,w,nJ.stop (Ex.seq (Ex.dy a1) (Ex.vK (Ex.qU (by show get F1 28=_;grind) Ex.exit) Zab)) Zab,Zac,a,λ_=>rfl⟩
 |succ d O=>
  intro i F H w hi C B z f6 a;have⟨F1,a1,a2,a3⟩:=(y4 (E:=E) (N:=N) (H:=H) (n:=s.l.length)).2 z B;have c:s.l[i]?=some s.l[i]:=ζd Zaa
  have⟨Q,S,T,k⟩:=(y5 (E:=E) (N:=N) (F:=F1) (H:=H) c).2 Zac Zac
  have D:=NR s (i+1);have I:=H9 c;rw[I,ζi]at D;have⟨J,H',w',U,W,L,X,l⟩:=y14 (E:=E) (N:=N) (F:=Q) (H:=H) (u:=s.l[i]) b a Zac T (by simp only[iP];omega)
  have G:∀j,j<28->j≠6->j≠8->get J j=get F j:=λj b m o=>Zac
  have⟨Y,e1,e2,e3⟩:=(y9 (E:=E) (N:=N) (F:=J) (H:=H') (i:=i) Zaa).2 (by rw[G 27 Zaa Zaa Zaa];exact z)
  have f:rows (upto s i)++rows s.l[i].l=rows (upto s (i+1)):=by rw[I];simp[rows]
  rw[f]at L;have⟨F',H2,Z,g1,g2,g3,g4⟩:=O (i+1) Y H' w' Zaa (by rw[e3 25 Zaa,G 25 Zaa Zaa Zaa];omega) (by rw[e3 26 Zaa,G 26 Zaa Zaa Zaa];omega) e2 (by rw[e3 6 Zaa];exact W) L
  exact⟨F',H2,Z,nJ.step (Ex.seq (Ex.dy a1) (Ex.seq (Ex.oN (by show get F1 28=_;rw[a2,decide_eq_true Zaa]) Ex.skip) (Ex.seq (Ex.block (Ex.seq (Ex.dy S) (Ex.dy U))) (Ex.dy e1)))) g1,g2,g3,λe=>(g4 e).trans (X (List.eq_nil_of_length_eq_zero Zaa))⟩
end
end catX
theorem Wn{E:Env}{f gf:Y'}{nm:Y'->a_ Nat}{N:Nat->Y'}{gid:Nat}(K:∀f s,nm f=some s->N s=f)(hg:N gid=gf)(aa:E.keep gf=true)(U:E.own gf=true)
 (hf:∃fi,E.ft f=some fi/\bX ⟨E,nm,fi.ntmps⟩ false fi.body=some (catX.cat gid)/\2<=fi.ntmps/\fi.results=[.tmp 2])
 (ab:∃fi,E.ft gf=some fi/\bX ⟨E,nm,fi.ntmps⟩ false fi.body=some catX.grow/\2<=fi.ntmps/\fi.results=[.tmp 4])
 {α:Type}[bH α](M:bH.size α=1)(s:Sl (Sl α))(P:s.l.length<=2147483648)(ht:(s.l.flatMap Sl.l).length<=2147483648):Cm E f [b9 s] (b9 (DW s)):=by
 have⟨fi,p1,p2,p3,p4⟩:=hf;have⟨gi,q1,q2,q3,q4⟩:=ab;generalize R:(s.l.flatMap Sl.l).length=T at *;have⟨Fg,Z,ad⟩:=catX.XP (E:=E) (N:=N) ht;have⟨n0,L⟩:=Ex.run K q1 q2 (args:=[.bM,.int .i64 T]) Zac Z (vs:=[if T=0 then .bM else .hsl 0 1 0 0]) (by rw[q4];simp[js,ad])
 have O:∀l,borrows l [] [.bM,.int .i64 (T:Int)]=some [.bM,.int .i64 (T:Int)]:=λl=>by unfold borrows;simp only[jm,lN l [] (x:=V.bM) rfl,lN l [] (x:=V.int .i64 T) rfl]
 have C:∃w D,(∀k,n0<=k->fM E (run E k) gf [.bM,.int .i64 T] []=some (w,D))/\catX.Acc D w []/\(T=0->w=.bM):=by by_cases d:T=0;refine⟨.bM,[],λk g=>?_,⟨rfl,⟨[],rfl,rfl⟩,.inl ⟨rfl,rfl⟩⟩,λ_=>rfl⟩;have:=(pY E g).go _ _ _ _ L;rw[if_pos d,if_pos d]at this;unfold fM mj;rw[if_pos U];simp[O,this,result,V.scalar];refine⟨.hsl 0 1 0 0,[.row 1 (replicate T [.bM])],λk g=>?_,⟨by simp[dY,Ob.rows],⟨_,rfl,Zab⟩,.inr ⟨0,_,rfl,rfl,λh=>absurd rfl h⟩⟩,λh=>absurd h d⟩;have:=(pY E g).go _ _ _ _ L;rw[if_neg d,if_neg d]at this;unfold fM mj;rw[if_pos U];simp only[O,if_true,this,result,V.scalar,false_eq_true,if_false,s6,List.getElem?_cons_zero,true_and];rw[if_pos (by simp[List.all_replicate,V.scalar])];simp
 have⟨w,D,ai,ae,Q⟩:=C;have S:T≠0->rows (s.l.flatMap Sl.l)≠[]:=λh e=>h (by rw[<-R,<-iP,e];rfl)
 have z:∀c∈rows (s.l.flatMap Sl.l),V.cM c=true:=λc p=>by obtain⟨x,_,rfl⟩:=mem_map.1 p;exact bH.good x
 have g1:∀call,cQ E N call none catX.r1 [b9 s] []=some (set [b9 s] 2 .bM,[]):=λcall=>vp (v:=.bM) rfl (by simp[bK,bB,bq]) eH
 have k0:get (set [b9 s] 2 .bM) 0=b9 s:=rfl;generalize set [b9 s] 2 .bM=F0 at *;have g2:∀call,cQ E N call none catX.r2 F0 []=some (set F0 3 (.int .i64 0),[]):=λcall=>vp (v:=.int .i64 0) rfl (by simp[bK,bB,bq]) eH
 have⟨F2,a1,a2,a3,a4,a5⟩:=(catX.y3 (E:=E) (N:=N) (F:=set F0 3 (.int .i64 0)) (H:=[]) (s:=s)).1 Zad
 have⟨F3,b1,b2,b3⟩:=catX.lp1 (E:=E) (N:=N) (H:=[]) P Zaa s.l.length 0 F2 Zaa a2 a3 a4 (by rw[a5 3 Zaa,uK];rfl)
 rw[R]at b2;have aj:get F3 0=b9 s:=Zad
 have q:∃W,(∃n,∀k,n<=k->cQ E N (run E k) none (catX.EF gid) F3 []=some (W,D))/\get W 6=w/\get W 0=b9 s:=by refine⟨_,⟨n0,λk g=>vp (v:=.int .i64 T) rfl ?_<|kQ (v:=w) (H1:=D) rfl ?_<|vp (v:=w) rfl ?_ eH⟩,?_,?_⟩;simp[bK,bB,bq,b2];simp only[bK,map_cons,map_nil,bB,bz,bC,reduceEqDiff,if_true,if_false,hg,aa,nil_append,append_nil];grind;simp[bK,bB,bq,bz];simp[bz];simp only[bz,bC,reduceEqDiff,if_false];omega
 have⟨W,q,c2,c3⟩:=q;have⟨F5,d1,d2,d3,d4,d5⟩:=(catX.y3 (E:=E) (N:=N) (F:=W) (H:=D) (s:=s)).2 c3;have⟨F6,X,I,e1,e2,e3,e4⟩:=catX.lp2 (E:=E) (N:=N) M P Zaa s.l.length 0 F5 D w Zaa d2 d3 d4 Zad ae
 have r:∃t,(∀call,cQ E N call none catX.r16 F6 X=some (t,X))/\get t 2=I:=⟨_,λcall=>vp (v:=I) rfl (by simp[bK,bB,bq,e2])<|vp (v:=I) rfl (by simp[bK,bB,bq,bz]) eH,by simp[bz]⟩
 have⟨t,r,f2⟩:=r;have⟨n,af⟩:=Ex.run K p1 p2 (args:=[b9 s]) (by simp;omega) (Ex.seq (Ex.dy g1) (Ex.seq (Ex.dy g2) (Ex.seq (Ex.seq (Ex.dy a1) (Ex.wJ (Ex.loop b1))) (Ex.seq (Ex.ops q) (Ex.seq (Ex.seq (Ex.dy d1) (Ex.wJ (Ex.loop e1))) (Ex.seq (Ex.dy r) Ex.ret)))))) (vs:=[I]) (by rw[p4];simp[js,f2])
 refine⟨n,I,X,λid=>∃m,I=.hsl id 1 0 m,af,?_,?_,?_⟩
 .rcases e3.sh with⟨h,J⟩|⟨id,xs,h,J,A⟩
  .have:T=0:=by grind
   rw[h];unfold DW;rw[if_pos Zaa]
   exact .same _ rfl
  by_cases d:T=0
  .have:=e4 Zaa
   rw[Q d]at this;rw[this]at h;cases h
  have y:=A (S d);subst y;unfold DW;rw[if_neg Zaa,h]
  show FR X _ (.fsl (bH.size α) (rows (s.l.flatMap Sl.l))) _;rw[M];exact .fsl 1 _ id 0 _ ⟨_,rfl⟩ (by unfold bt;rw[J];rfl) Zaa (λi a b Y G=>by rw[zero_add]at G;rw[Y]at G;cases G;rfl) (λi j a b u v Y G o hv=>by
   rw[zero_add]at G;rw[Y]at G;cases G;rw[o]at hv;cases hv;exact .same _ (iS.1 (z a (mem_of_getElem? Y)) j u o))
 .rintro id ⟨m,h⟩;rcases e3.sh with⟨B,_⟩|⟨ah,xs,B,J,_⟩
  .rw[B]at h;cases h
  rw[B]at h;cases h;unfold bt;rw[J];rfl
 refine⟨λid es ys hz hr c p u o=>?_⟩
 have⟨m,h⟩:=hz;rcases e3.sh with⟨B,_⟩|⟨ah,xs,B,J,A⟩
 .rw[B]at h;cases h
 rw[B]at h;cases h
 by_cases d:T=0
 .have:=e4 Zaa
  rw[Q d]at this;rw[this]at B;cases B
 have y:=A (S d);subst y;unfold bt at hr;rw[J]at hr;cases hr;have⟨j,hj⟩:=getElem?_of_mem o;exact⟨u,.same _ (iS.1 (z c p) j u hj)⟩
def Ax(op:X')(x y:Int):Int:=cond op x y
@[simp] theorem Z9(x y:Int):Ax true x y=x:=rfl
@[simp] theorem Z8(x y:Int):Ax false x y=y:=rfl
namespace setX
instance{n:Nat}:OfNat Arg n:=⟨.s n⟩
def fa(k:Nat):K:=.p (.fieldAddr k)
def ld:K:=.r (.load 1 false)
def r1:Rd:=[o2 4 (.a .box) [1] [],o2 5 (.a .box) [2] []]
def r2:Rd:=[o1 6 0 [],o2 7 (fa 0) [4] [],o2 8 ld [7] [],o2 9 (fa 1) [4] [],o2 10 ld [9] [],o2 11 (.p (.idxS 1)) [6,8] [],⟨none,none,false,.l (.store 1),[11,10],[],[]⟩]
def r3:Rd:=[o1 6 0 [],o2 7 (fa 0) [5] [],o2 8 ld [7] [],o2 9 (fa 1) [5] [],o2 10 ld [9] [],o2 11 (.p (.bin (some .int) none .sub)) [10,.k (.int .i64 1)] [],o2 12 (.p (.idxS 1)) [6,8] [],⟨none,none,false,.l (.store 1),[12,11],[],[]⟩]
def code(op:X'):RC:=.seq (.ops r1) (.ops (if op then r3 else r2))
section
variable{E:Env}{N:Nat->Y'}{H:bp}{id off L:Nat}{rs:S'}
theorem Vu{h:Nat}{x y:V}{i:Nat}{v:V}(B:H[h]?=some (.row 2 [[x,y]]))(a:[x,y][i]?=some v):fE H (.load 1 false) [.hptr h 0 i]=some v:=by match i,a with|0,a=>cases a;simp[fE,eU,B,Ob.rows,cut,mk]|1,a=>cases a;simp[fE,eU,B,Ob.rows,cut,mk]|i+2,a=>simp at a
theorem whole(op:X'){a b c d:Int}(G:H[id]?=some (.row 1 rs))(hp:0<=(Ax op c a))(B:(Ax op c a).toNat<L){z:V}(D:rs[off+(Ax op c a).toNat]?=some [z]):
 ∃F' X,Ex E N (code op) [.hsl id 1 off L,.agg [.int .i64 a,.int .i64 b],.agg [.int .i64 c,.int .i64 d]] H .norm F' ((H++X).set id (.row 1 (rs.set (off+(Ax op c a).toNat) [.int .i64 (Ax op (wrap .i64 (d-1)) b)]))):=by
 let X:bp:=[.row 2 [[.int .i64 a,.int .i64 b]],.row 2 [[.int .i64 c,.int .i64 d]]]
 have I:=(ζe.1 G).1;have e1:∃F1,(∀call,cQ E N call none r1 [.hsl id 1 off L,.agg [.int .i64 a,.int .i64 b],.agg [.int .i64 c,.int .i64 d]] H=some (F1,H++X))/\get F1 0=.hsl id 1 off L/\get F1 4=.hptr H.length 0 0/\get F1 5=.hptr (H.length+1) 0 0:=by refine⟨_,λcall=>kQ (v:=.hptr H.length 0 0) (H1:=H++[.row 2 [[.int .i64 a,.int .i64 b]]]) rfl ?_<|kQ (v:=.hptr (H.length+1) 0 0) (H1:=H++X) rfl ?_ eH,?_,?_,?_⟩;simp[bK,bB,get,jg,V.cells,V.one,Mk.val];simp[bK,bB,get,bz,set,jg,V.cells,V.one,Mk.val,X];simp[bz];rfl;simp[bz];simp[bz]
 have⟨F1,p1,p2,p3,p4⟩:=e1;have e:(H++X)[id]?=some (.row 1 rs):=by rw[getElem?_append_left I];exact G
 have J:(H++X)[H.length]?=some (.row 2 [[.int .i64 a,.int .i64 b]]):=by simp[X]
 have O:(H++X)[H.length+1]?=some (.row 2 [[.int .i64 c,.int .i64 d]]):=by rw[getElem?_append_right Zaa];simp[X]
 obtain⟨H1,Q⟩:∃H1,H1=H++X:=⟨_,rfl⟩;rw[<-Q]at e J O;rw[<-Q]at p1
 suffices W:∃F',Ex E N (code op) [.hsl id 1 off L,.agg [.int .i64 a,.int .i64 b],.agg [.int .i64 c,.int .i64 d]] H .norm F' (H1.set id (.row 1 (rs.set (off+(Ax op c a).toNat) [.int .i64 (Ax op (wrap .i64 (d-1)) b)])))by have⟨F',Y⟩:=W;exact⟨F',X,by rw[<-Q];exact Y⟩
 have w:∀p:Int,0<=p->p.toNat<L->nq 1 (.hsl id 1 off L) p=some (.hptr id (off+p.toNat) 0):=λp g Z=>by unfold nq;rw[if_neg Zaa];simp[Z]
 have C:∀(q:Nat)(z v:V),rs[q]?=some [z]->v.one=true->fT H1 (.store 1) [.hptr id q 0,v]=some (.undef,H1.set id (.row 1 (rs.set q [v]))):=λq z v D f=>by simp[fT,e,D,Ix f,f]
 cases op with
 |false=>
  simp only[Z8]at hp B D⊢;have S:=Vu (i:=0) J rfl;have T:=Vu (i:=1) J rfl;have e2:∃u,(∀call,cQ E N call none r2 F1 H1=some (u,H1.set id (.row 1 (rs.set (off+a.toNat) [.int .i64 b])))):=by refine⟨_,λcall=>vp (v:=.hsl id 1 off L) rfl ?_<|vp (v:=.hptr H.length 0 0) rfl ?_<|vp (v:=.int .i64 a) rfl ?_<|vp (v:=.hptr H.length 0 1) rfl ?_<|vp (v:=.int .i64 b) rfl ?_<|vp (v:=.hptr id (off+a.toNat) 0) rfl ?_<|kQ (v:=.undef) rfl ?_ eH⟩;simp[bK,bB,bq,p2];simp[bK,bB,bq,bz,fa,iZ,p3];simp only[bK,map_cons,map_nil,bB,bz,bC,reduceEqDiff,if_true,if_false,ld,S,map_some];simp[bK,bB,bq,bz,fa,iZ,p3];simp only[bK,map_cons,map_nil,bB,bz,bC,reduceEqDiff,if_true,if_false,ld,T,map_some];simp only[bK,map_cons,map_nil,bB,bz,bC,reduceEqDiff,if_true,if_false,bq,w a hp B,map_some];simp only[bK,map_cons,map_nil,bB,bz,bC,reduceEqDiff,if_true,if_false];exact C _ z _ D rfl
  have⟨u,U⟩:=e2;exact⟨u,Ex.seq (Ex.dy p1) (Ex.dy (l:=_) U)⟩
 |true=>
  simp only[Z9]at hp B D⊢;have S:=Vu (i:=0) O rfl;have T:=Vu (i:=1) O rfl;have e2:∃u,(∀call,cQ E N call none r3 F1 H1=some (u,H1.set id (.row 1 (rs.set (off+c.toNat) [.int .i64 (wrap .i64 (d-1))])))):=by refine⟨_,λcall=>vp (v:=.hsl id 1 off L) rfl ?_<|vp (v:=.hptr (H.length+1) 0 0) rfl ?_<|vp (v:=.int .i64 c) rfl ?_<|vp (v:=.hptr (H.length+1) 0 1) rfl ?_<|vp (v:=.int .i64 d) rfl ?_<|vp (v:=.int .i64 (wrap .i64 (d-1))) rfl ?_<|vp (v:=.hptr id (off+c.toNat) 0) rfl ?_<|kQ (v:=.undef) rfl ?_ eH⟩;simp[bK,bB,bq,p2];simp[bK,bB,bq,bz,fa,iZ,p4];simp only[bK,map_cons,map_nil,bB,bz,bC,reduceEqDiff,if_true,if_false,ld,S,map_some];simp[bK,bB,bq,bz,fa,iZ,p4];simp only[bK,map_cons,map_nil,bB,bz,bC,reduceEqDiff,if_true,if_false,ld,T,map_some];simp[bK,bB,bq,bz,iG];simp only[bK,map_cons,map_nil,bB,bz,bC,reduceEqDiff,if_true,if_false,bq,w c hp B,map_some];simp only[bK,map_cons,map_nil,bB,bz,bC,reduceEqDiff,if_true,if_false];exact C _ z _ D rfl
  have⟨u,U⟩:=e2;exact⟨u,Ex.seq (Ex.dy p1) (Ex.dy (l:=_) U)⟩
end
end setX
section
variable{S:Sys}{c:cr}{β γ δ α:Type}[bH δ]{Q:Out×St->a_ β}{e:γ->a_ β}{cf:Cf}
end
def snap(w:World):cG:=λb=>match w.heap[b]?with
 |some (.cells c _ _)=>some (.cells c)|some (.map es _)=>some (.map es)|_=>none
theorem T7{w:World}(a:wh (snap w)):dm (snap w) (λ_=>none) [] w where
 dom _ _:=rfl
 imm b x h:=by unfold snap at h;split at h;(next c el fr u=>cases h;exact⟨el,fr,u⟩);(next es d u=>cases h;exact⟨d,u⟩);cases h
 obs id ob h:=by simp at h
 inj id z ob B p C h:=by simp at h
 gl:=a
def fU(I:cG)(xs:So)(vs:aZ V'):Prop:=xs.length=vs.length/\∀(j:Nat)a b,xs[j]?=some a->vs[j]?=some b->e9 I a b
theorem fU.nil{I:cG}:fU I [] []:=⟨rfl,Zab⟩
theorem fU.one{I:cG}{x:V}{v:V'}(h:e9 I x v):fU I [x] [v]:=⟨rfl,λj a b c u=>by
 cases j with
 |zero=>simp at c u;subst c u;exact h|succ j=>simp at c⟩
theorem fU.append{I:cG}{xs ys:So}{B vs:aZ V'}(h:fU I xs B)(k:fU I ys vs):fU I (xs++ys) (B++vs):=by refine⟨by simp[h.1,k.1],λj a b c u=>?_⟩;by_cases w:j<xs.length;rw[getElem?_append_left w]at c;rw[getElem?_append_left (by rw[<-h.1];exact w)]at u;exact h.2 j a b c u;rw[getElem?_append_right Zaa]at c;rw[getElem?_append_right (by rw[<-h.1];omega),<-h.1]at u;exact k.2 _ a b c u
theorem Em{α β:Type}{f:α->a_ β}:∀{l:aZ α}{r:aZ β},l.mapM f=some r->r.length=l.length/\∀(i:Nat)a b,l[i]?=some a->r[i]?=some b->f a=some b
 |[],r,h=>by simp only[List.mapM_nil,pure_def,ζa]at h;subst h;simp|x::l,r,h=>by simp only[List.mapM_cons,Option.bind_eq_bind,pure_def,ζg,ζa]at h;obtain⟨y,D,ys,B,rfl⟩:=h;have⟨c,z⟩:=Em B;refine⟨by simp[c],λi a b u w=>?_⟩;cases i with|zero=>simp at u w;subst u w;exact D|succ i=>exact z i a b (by simpa using u) (by simpa using w)
structure uG{H:Type}(b:DataW H->Nat):Prop where
 lit:∀l,1<=b (.lit l)
 str:∀s,s.length+1<=b (.lit (.string s))
 nil:1<=b .nil
 slice:∀es sp,(es.map b).sum+1<=b (.slice es sp)
 agg:∀ps,(ps.map b).sum+1<=b (.agg ps)
class cD(α:Type)where
 wt:α->Nat
 ok:α->Prop
instance:cD Int where
 wt _:=1
 ok n:=-9223372036854775808<=n/\n<=9223372036854775807
instance:cD X' where
 wt _:=1
 ok _:=True
instance:cD U' where
 wt s:=s.size+1
 ok s:=s.size<=maxLen
instance{α:Type}[cD α]:cD (Sl α)where
 wt s:=(s.l.map cD.wt).sum+1
 ok s:=(∀x∈s.l,cD.ok x)/\s≠.emp
class Reads(P:Program)(t:TypeId)(α:Type)[bH α][cD α]:Prop where
 size:P.cellsOf t=bH.size α
 rd:∀{H:Type}{enc:TypeId×Value->H}{w:World}{base:Nat}{spare:Nat->Bool}{held:Bool}{fuel:Nat}{cs:List Value}{d:DataW H}{ps:List MemPlace},
  trod enc P w base spare held fuel t cs=some (d,ps)->∃a:α,fU (snap w) (cells a) cs/\cD.ok a/\∀b:DataW H->Nat,uG b->cD.wt a<=b d
 shape:∀{w:World}{r:_root_.Go.Reach}{base:Nat}{v:Value},okWide P w r base t v->if bH.agg α then∃cs,v=.agg cs else v.cells=#[v]
section
variable{P:Program}
theorem ta{w:World}{r:_root_.Go.Reach}{base:Nat}{t:W'}{v:V'}{u:_}(a:P.underlying t=some u)(b:∀fs,u≠.struct fs)(B:∀n e,u≠.array n e)(h:okWide P w r base t v):v.cells=#[v]:=by cases v with|agg cs=>exfalso;unfold okWide at h;rw[a]at h;split at h;(next fs z=>cases z;exact b _ rfl);(next n e z=>cases z;exact B _ _ rfl);(unfold Cell.okWide at h;rw[a]at h;split at h<;>first|(simp at *;done)|skip);unfold Cell.ok at h;rw[a]at h;cases u<;>simp at h|_=>rfl
theorem Reads.int{t:W'}(a:P.underlying t=some (.int .i64))(c:P.cellsOf t=1):Reads P t Int where
 size:=c
 rd {H enc w base spare held z cs d ps} h:=by cases z with|zero=>simp[trod]at h|succ z=>(simp only[trod,a]at h;split at h<;>first|(simp at h;done)|skip);(next u=>cases u);rename_i k D n u;simp only[ζa,TypeDesc.int.injEq]at u;split at h;(next e=>obtain⟨rfl,B⟩:=e;subst u;cases h;exact⟨n,fU.one (.int _ n),show _/\_ by simpa[Lit.wf,IntKind.min,IntKind.max,signed,IntKind.bits]using B,λb C=>C.lit _⟩);simp at h;all_goals (rename_i u;cases u)
 shape h:=by simp only[show bH.agg Int=false from rfl];exact ta a Zab Zab h
theorem Reads.bool{t:W'}(a:P.underlying t=some .bool)(c:P.cellsOf t=1):Reads P t X' where
 size:=c
 rd {H enc w base spare held u cs d ps} h:=by cases u with|zero=>simp[trod]at h|succ u=>(simp only[trod,a]at h;split at h<;>first|(simp at h;done)|skip);(next b _=>cases h;exact⟨b,fU.one (.bool b),trivial,λb B=>B.lit _⟩);all_goals (rename_i z;cases z)
 shape h:=by simp only[show bH.agg X'=false from rfl];exact ta a Zab Zab h
theorem Reads.str{t:W'}(a:P.underlying t=some .string)(c:P.cellsOf t=1):Reads P t U' where
 size:=c
 rd {H enc w base spare held u cs d ps} h:=by cases u with|zero=>simp[trod]at h|succ u=>(simp only[trod,a]at h;split at h<;>first|(simp at h;done)|skip);(all_goals (first|(rename_i z;cases z;done)|skip));rename_i s _;split at h;(next B=>cases h;exact⟨s,fU.one (.str s),B,λb C=>C.str _⟩);simp at h
 shape h:=by simp only[show bH.agg U'=false from rfl];exact ta a Zab Zab h
theorem TO{w:World}{a:Addr}{n:Nat}{v:V'}(h:w.cell? (a.add n)=some v)(B:n=0\/True):∃c el fr,w.heap[a.block]?=some (.cells c el fr)/\c[a.off+n]?=some v/\(n=0->a.spot=none):=by
 unfold cell? Addr.add at h;by_cases b:n=0;subst b;simp only[if_true]at h;split at h;rename_i c el fr u;split at h;simp at h;rename_i z;exact⟨c,el,fr,u,h,λ_=>by simpa using z⟩;simp at h;simp only[if_neg b]at h;split at h;next c el fr u=>simp only[Option.isSome_none,false_eq_true,if_false]at h;exact⟨c,el,fr,u,h,λe=>absurd e b⟩
 simp at h
def tO(P:Program)(t:W')(α:Type)[bH α][cD α](B:Nat):Prop:=∀{H:Type}{enc:W'×V'->H}{w:World}{base:Nat}{c:Nat->X'}{e:X'}{cs:aZ V'}{d:DataW H}{ps:aZ MemPlace},trod enc P w base c e B t cs=some (d,ps)->∃a:α,fU (snap w) (cells a) cs/\cD.ok a/\∀b:DataW H->Nat,uG b->cD.wt a<=b d
theorem tO.sl{t e:W'}{α:Type}[bH α][cD α]{J:Nat}(R:P.underlying t=some (.slice e))(V:P.cellsOf e=bH.size α)(U:0<bH.size α)(p:tO P e α J):tO P t (Sl α) (J+1):=by
 intro H enc w base A K cs d ps h;simp only[trod,R]at h;split at h<;>first|(simp at h;done)|skip
 all_goals (first|(rename_i I;cases I;done)|skip)
 cases h;exact⟨.nil,fU.one .bM,⟨λx T=>by simp[Sl.l]at T,Zab⟩,λb W=>W.nil⟩;rename_i e' a len E I;cases I;split at h
 .rename_i X;obtain⟨f,af,h⟩:=ζg.1 h;obtain⟨rest,_,h⟩:=ζf.1 h;cases h;obtain⟨Y,Z⟩:=Em af;simp only[length_range]at Y;have T:∀i,i<len->∃x:α,∃u:aZ V',w.cells? base (a.add (i*P.cellsOf e)) (P.cellsOf e)=some u/\fU (snap w) (cells x) u/\cD.ok x/\∀b:DataW H->Nat,uG b->∀y,f[i]?=some y->cD.wt x<=b y.1:=λi hi=>(by have:=Z i i (f[i]' Zaa) (by simp[hi]) (ζd Zaa);obtain⟨u,l,L⟩:=ζg.1 this;obtain⟨x,T,F,W⟩:=p (show _=some ((f[i]' Zaa).1,(f[i]' Zaa).2)from L);exact⟨x,u,l,T,F,λb O y g=>by rw[ζd Zaa]at g;cases g;exact W b O⟩);have aa:∀n,n<=len->∃z:aZ α,z.length=n/\(∀i x,z[i]?=some x->∃u:aZ V',w.cells? base (a.add (i*P.cellsOf e)) (P.cellsOf e)=some u/\fU (snap w) (cells x) u)/\(∀x∈z,cD.ok x)/\∀b:DataW H->Nat,uG b->(z.map cD.wt).sum<=(((f.take n).map (·.1)).map b).sum:=(by intro n;induction n with|zero=>intro _;exact⟨[],rfl,Zab,Zab,Zab⟩|succ n ih=>intro hn;obtain⟨z,l,L,h5,h6⟩:=ih Zaa;obtain⟨x,u,h3,h4,h7,h8⟩:=T n Zaa;refine⟨z++[x],by simp[l],λi y g=>?_,λy g=>?_,λb O=>?_⟩;rotate_left;rcases mem_append.1 g with g|g;exact h5 y g;simp at g;subst g;exact h7;have k1:=h6 b O;have k2:=h8 b O _ (ζd Zaa);rw[List.take_succ,ζd (by omega:n<f.length)];simp only[List.map_append,List.sum_append,Option.toList_some,map_cons,map_nil,List.sum_cons,List.sum_nil];omega;by_cases hi:i<z.length;rw[getElem?_append_left hi]at g;exact L i y g;rw[getElem?_append_right Zaa]at g;have:i-z.length=0:=(by cases F:i-z.length with|zero=>rfl|succ k=>rw[F]at g;simp at g);rw[this]at g;simp at g;subst g;have:i=n:=Zaa;subst this;exact⟨u,h3,h4⟩);obtain⟨z,C,ah,ab,ai⟩:=aa len (le_refl _);refine⟨.row z,fU.one ?_,⟨ab,Zab⟩,λb O=>?_⟩;rotate_left;have k:=ai b O;rw[take_of_length_le Zaa]at k;have k2:=O.slice (f.map (·.1)) (rest.map (·.1));show(z.map cD.wt).sum+1<=_;omega;show e9 _ (.fsl (bH.size α) (rows z)) _;cases q:z with|nil=>subst q;simp at C;subst C;exact .fsl0 _ _ _|cons x0 xr=>rw[<-q];have ao:0<len:=(by rw[<-C,q];simp);have Q:∀i x,z[i]?=some x->∀j y,(cells x)[j]?=some y->∃v,w.cell? ((a.add (i*bH.size α)).add j)=some v/\e9 (snap w) y v:=(by intro i x hi j y g;obtain⟨u,l,L⟩:=ah i x hi;rw[V]at l;unfold World.cells? at l;split at l;obtain⟨g1,g2⟩:=Em l;have M:j<bH.size α:=(by rw[<-gT x];exact(ζe.1 g).1);obtain⟨v,s⟩:∃v,u[j]?=some v:=⟨_,ζd (by rw[g1];simpa using M)⟩;exact⟨v,g2 j j v (by simp[M]) s,L.2 j y v g s⟩;simp at l);have an:∀i j,(a.add (i*bH.size α)).add j=a.add (i*bH.size α+j)\/True:=λ_ _=>.inr trivial;have B:∀i x,z[i]?=some x->∀j y,(cells x)[j]?=some y->∃c el fr v,w.heap[a.block]?=some (.cells c el fr)/\c[a.off+i*bH.size α+j]?=some v/\e9 (snap w) y v/\(i=0->j=0->a.spot=none):=(by intro i x hi j y g;obtain⟨v,l,L⟩:=Q i x hi j y g;obtain⟨c,el,fr,g1,g2,g3⟩:=TO l (.inr trivial);have W:(a.add (i*bH.size α)).block=a.block:=(by unfold Addr.add;split<;>rfl);have ho:(a.add (i*bH.size α)).off=a.off+i*bH.size α:=(by unfold Addr.add;split<;>simp_all);rw[W]at g1;rw[ho]at g2;refine⟨c,el,fr,v,g1,g2,L,?_⟩;rintro rfl rfl;have:=g3 rfl;simpa[Addr.add]using this);have aj:∃y,(cells x0)[0]?=some y:=⟨_,ζd (by rw[gT];exact U)⟩;obtain⟨y0,ak⟩:=aj;obtain⟨c,el,fr,v0,D,_,_,G⟩:=B 0 x0 (by rw[q];rfl) 0 y0 ak;have G:=G rfl rfl;obtain⟨b,o,sp⟩:=a;simp only at G D;subst G;have hI:snap w b=some (.cells c):=(by unfold snap;rw[D]);have S:(rows z).length=len:=(by rw[iP,C]);rw[<-S];refine .fsl _ _ b o E c hI (by rw[S];exact X.2.1) (λr p=>?_) (λr p y g=>?_) ?_ (λi j r y v p g s=>?_);obtain⟨x,_,rfl⟩:=mem_map.1 p;exact gT x;obtain⟨x,_,rfl⟩:=mem_map.1 p;exact all_eq_true.1 (sq x) y g;obtain⟨N,ad⟩:∃x,z[len-1]?=some x:=⟨_,ζd Zaa⟩;obtain⟨yl,al⟩:∃y,(cells N)[bH.size α-1]?=some y:=⟨_,ζd (by rw[gT];omega)⟩;obtain⟨c2,_,_,v2,k1,k2,_,_⟩:=B (len-1) N ad (bH.size α-1) yl al;simp only at k1 k2;rw[D]at k1;cases k1;have:=(Array.getElem?_eq_some_iff.1 k2).1;rw[S];have e:len*bH.size α=(len-1)*bH.size α+bH.size α:=(by obtain⟨m,rfl⟩:∃m,len=m+1:=⟨len-1,Zaa⟩;simp[Nat.add_mul]);omega;simp only[rows,getElem?_map,ζf]at p;obtain⟨x,am,rfl⟩:=p;obtain⟨c2,_,_,v2,k1,k2,k3,_⟩:=B i x am j y g;simp only at k1 k2;rw[D]at k1;cases k1;rw[s]at k2;cases k2;exact k3
 simp at h
theorem tO.slF{t e:W'}{α:Type}[bH α][cD α]{B:Nat}(c:P.underlying t=some (.slice e))(G:P.cellsOf e=bH.size α)(D:0<bH.size α)(i:∀g,g<B->tO P e α g):tO P t (Sl α) B:=by cases B with|zero=>intro H enc w base a b cs d ps h;simp[trod]at h|succ f=>exact tO.sl c G D (i f (Nat.lt_succ_self f))
theorem Reads.sl{t e:W'}{α:Type}[bH α][cD α][Reads P e α](a:P.underlying t=some (.slice e))(b:P.cellsOf t=1)(B:0<bH.size α):Reads P t (Sl α)where
 size:=b
 rd h:=tO.slF a (Reads.size (α:=α)) B (λ_ _{_ _ _ _ _ _ _ _ _}=>Reads.rd (P:=P) (t:=e) (α:=α)) h
 shape h:=by simp only[show bH.agg (Sl α)=false from rfl];exact ta a Zab Zab h
theorem fU.seg{I:cG}{a xs:So}{cs:aZ V'}{o n:Nat}(h:fU I a (cs.take o))(k:fU I xs ((cs.drop o).take n)):fU I (a++xs) (cs.take (o+n)):=by rw[List.take_add];exact h.append k
theorem fU.fin{I:cG}{xs:So}{cs:aZ V'}{n:Nat}(h:fU I xs (cs.take n))(B:cs.length=n):fU I xs cs:=by rw[take_of_length_le Zaa]at h;exact h
theorem tO.st{t:W'}{fs:Array Field}{α:Type}[bH α][cD α]{B:Nat}(i:P.underlying t=some (.struct fs))(j:P.cellsOf t=bH.size α)
 (h:∀{H:Type}{enc:W'×V'->H}{w:World}{base:Nat}{c:Nat->X'}{e:X'}{cs:aZ V'}{l:aZ (DataW H×aZ MemPlace)},cs.length=bH.size α->
  (fs.toList.mapM λf=>trod enc P w base c e B f.type ((cs.drop f.offset).take (P.cellsOf f.type)))=some l->∃a:α,fU (snap w) (cells a) cs/\cD.ok a/\∀b:DataW H->Nat,uG b->cD.wt a<=((l.map (·.1)).map b).sum+1):tO P t α (B+1):=by
 intro H enc w base c e cs d ps g;simp only[trod,i]at g;split at g<;>first|(simp at g;done)|skip
 all_goals (first|(rename_i u;cases u;done)|skip)
 rename_i C;have⟨l,k,D⟩:=ζf.1 g;cases D;have⟨a,k1,k2,k3⟩:=h (by rw[C,j]) k
 exact⟨a,k1,k2,λb z=>Nat.le_trans (k3 b z) (z.agg _)⟩
theorem Reads.of{t:W'}{fs:Array Field}{α:Type}[bH α][cD α](a:P.underlying t=some (.struct fs))(b:P.cellsOf t=bH.size α)(D:bH.agg α=true)(h:∀B,tO P t α B):Reads P t α where
 size:=b
 rd hr:=h _ hr
 shape hv:=by rw[if_pos D];unfold okWide at hv;rw[a]at hv;have⟨cs,c,_⟩:=hv;exact⟨cs,c⟩
theorem Reads.st{t:W'}{fs:Array Field}{α:Type}[bH α][cD α](g:P.underlying t=some (.struct fs))(i:P.cellsOf t=bH.size α)(D:bH.agg α=true)
 (h:∀{H:Type}{enc:W'×V'->H}{w:World}{base:Nat}{c:Nat->X'}{e:X'}{B:Nat}{cs:aZ V'}{l:aZ (DataW H×aZ MemPlace)},cs.length=bH.size α->
  (fs.toList.mapM λf=>trod enc P w base c e B f.type ((cs.drop f.offset).take (P.cellsOf f.type)))=some l->∃a:α,fU (snap w) (cells a) cs/\cD.ok a/\∀b:DataW H->Nat,uG b->cD.wt a<=((l.map (·.1)).map b).sum+1):Reads P t α:=
 Reads.of g i D λB=>by cases B with|zero=>intro H enc w base c e cs d ps h;simp[trod]at h|succ f=>exact tO.st g i h
theorem Reads.arg{t:W'}{α:Type}[bH α][cD α][Reads P t α]{H:Type}{B:W'×V'->H}{w:World}{base:Nat}{c:Nat->X'}{e:X'}{r:_root_.Go.Reach}{b:Nat}{v:V'}{d:DataW H}{ps:aZ MemPlace}
 (f:okWide P w r b t v)(h:Trod B P w base c e t v d ps):∃a:α,bO (snap w) (λ_=>none) (enc a) v/\cD.ok a/\∀b:DataW H->Nat,uG b->cD.wt a<=b d:=by
 have⟨I,h⟩:=h;have⟨a,⟨g,z⟩,D,G⟩:=Reads.rd (P:=P) (t:=t) (α:=α) h;have u:=Reads.shape (P:=P) (t:=t) (α:=α) f;refine⟨a,?_,D,G⟩
 cases C:bH.agg α with
 |true=>rw[C,if_pos rfl]at u;obtain⟨cs,rfl⟩:=u;rw[Dh C];refine .c _ _ (.agg _ _ (by simpa[Value.cells]using g) (λj x y J L=>z j x y J (by simpa[Value.cells]using L)))|false=>rw[C]at u;simp only[false_eq_true,if_false]at u;rw[u]at z;rw[wP C]at z;exact .c _ _ (z 0 _ _ rfl rfl)
end
end Go.VE
namespace Go.VE
variable[b_]
open Go.ChangeShapes Go.WideShapes Go.ChangeAt Go.RowKit
structure KR(w w':World):Prop where
 kept:w.keptBut w' (λ_=>False)
 fz:∀a:Addr,a.block<w.heap.size->w'.frozen? a=w.frozen? a
theorem I_{I I':cG}{μ':Mu}{H':bp}{w w':World}(s:Step I (λ_=>none) [] w I' μ' H' w'):KR w w':=by
 have B:∀b,b<w.heap.size->w'.heap[b]?=w.heap[b]?:=λb z=>s.frame b z (by rintro⟨id,p,ob,h,_⟩;simp at h);refine⟨⟨s.os,s.out.out,λi hi=>?_⟩,λa z=>?_⟩;rw[B i hi];split;next c u=>rw[c]at u;cases u;exact⟨rfl,rfl,rfl,λ_ _=>rfl⟩
 next c u=>rw[c]at u;cases u;exact .inr ⟨rfl,rfl⟩
 rfl;unfold World.frozen?;rw[B _ z]
theorem Kx{P:Program}{call:dQ}(a:mG P call){f:Y'}{args:So}{b:X'}{H':bp}(h:call (.fn f) args []=some (.bool b,H')){w:World}{vs:aZ V'}
 (D:wh (snap w))(d:c6 (snap w) (λ_=>none) args vs):Calls P f vs.toArray w λe w'=>e=.returned (.bool b)/\KR w w':=by
 intro cs;have k:=((a.fn f args [] _ H' h).2 (snap w) (λ_=>none) w vs (T7 D) d)
 obtain⟨e,w',fr,⟨u,I',μ',rfl,g,_,C⟩,z,i,G⟩:=k.2 cs (by simp[Fence.room,fr])
 refine⟨_,w',fr,⟨?_,I_ C⟩,z.comes,i,G⟩
 cases g with
 |c _ _ B=>cases B;rfl
variable{P:Program}{H:Type}{enc:W'×V'->H}
theorem Jb{B:aZ W'}{vs:aZ V'}{ds:aZ (DataW H)}{ps:aZ MemPlace}{w w':World}(e:KR w w')(h:TrodAll enc P w 0 (λ_=>true) true B vs ds ps):TrodAll enc P w' 0 (λ_=>true) true B vs ds ps:=by
 have z:∀p:MemPlace,p.block<w.heap.size->w.sameAt w' p:=by intro p C;have k:=e.kept.2.2 p.block C;cases p with|cell b off=>simp only[sameAt,cell?];simp only[MemPlace.block]at k C;split at k;rename_i c t fr c' G D a u;rw[a,u];simp only;have:=k.2.2.2 off (λx=>x);simpa using this;(next a u=>rw[a,u]);rw[k]|map b=>simp only[sameAt];simp only[MemPlace.block]at k C;split at k;rename_i c t fr c' G D a u;obtain⟨rfl,rfl,O,I⟩:=k;rw[a,u];have:c'=c:=Array.ext_getElem? λi=>I i (λx=>x);rw[this];rename_i a u;rcases k with k|⟨rfl,rfl⟩;exact k.elim;rw[a,u];exact k
 induction B generalizing vs ds ps with|nil=>cases vs<;>cases ds<;>simp_all [TrodAll]|cons t B J=>cases vs with|nil=>simp[TrodAll]at h|cons v vs=>cases ds with|nil=>simp[TrodAll]at h|cons d ds=>obtain⟨p,q,⟨n,a⟩,u,rfl⟩:=h;exact⟨p,q,⟨n,DataW.trod_carry n _ _ _ a λx L=>z x (DataW.trod_lt n _ _ _ a x L)⟩,J u,rfl⟩
theorem QM{T:W'->Prop}(K:Kids P T)(m:∀t e,T t->P.underlying t=some (.slice e)->0<P.cellsOf e){f:Func}{s:ChangeSpec}{apart c a d:X'}{W G:World}{args:Array V'}{ds i:aZ (DataW H)}{before:aZ MemPlace}{tb:W'}
 (n:∀t∈f.params.toList,T t)(B:s.vars=[])(D:s.fn H (ds++i)={results:=[.lit (.bool true)],args:=ds})(J:f.resultTypes=#[tb])(U:P.underlying tb=some .bool)
 (Y:DataW.Whole enc P f.params.toList s.vars apart W args.toList ds i before)(g:KR W G):s.post enc P f apart c a d W args (.bool true) G:=by
 have z:=Y;obtain⟨p,q,X,j,rfl,L,O⟩:=Y;rw[B]at j;obtain⟨rfl,rfl⟩:=trodVars_none j;have k:∀(b:Nat)(w:Nat->X')(hd:X'),TrodAll enc P G b w hd f.resultTypes.toList ((Value.bool true).resultList f.resultTypes.size) (s.fn H (ds++[])).results []:=λ_ _ _=>by rw[J,D];exact trodAll_cons_mk (shut_bool U _) trodAll_mk0
 have S:∀w:Nat->X',(∀x∈p++[],w x.block=true)->TrodAll enc P G 0 w true f.params.toList args.toList (s.fn H (ds++[])).args p:=λw Q=>by rw[D];exact TrodAll.respare K m n (Jb g X) (λx u=>Q x (List.mem_append_left _ u))
 have l:∀w:Nat->X',DataW.TrodVars enc P G w s.vars (s.fn H (ds++[])).vars []:=λw=>by rw[D,B];rfl
 have C:=λx u=>z.lt x u
 refine⟨ds,[],p++[],[],p,[],z,k _ _ _,S _ λx u=>by simpa using C x u,l _,World.keptBut_mono (λx u=>u.elim) g.kept,λ_=>⟨ok_one J rfl (okWide_bool_mk U _),?_⟩⟩
 refine⟨_,_,[]++p++[],⟨[]++p,[],trodAll_append (S _ λ_ _=>rfl) (k _ _ _),l _,rfl,λb off u=>?_,λh=>by simpa using O h⟩,λx u _=>by simpa using u⟩
 have I:MemPlace.cell b off∈p++[]:=by simpa using u
 rw[g.fz _ (C _ I)];exact L b off I
end Go.VE
namespace Go.VE
variable[b_]
instance:cD U8 where
 wt _:=1
 ok n:=0<=n.v/\n.v<=255
theorem Reads.u8{P:Program}{t:W'}(a:P.underlying t=some (.int .u8))(c:P.cellsOf t=1):Reads P t U8 where
 size:=c
 rd {H enc w base spare held z cs d ps} h:=by cases z with|zero=>simp[trod]at h|succ z=>(simp only[trod,a]at h;split at h<;>first|(simp at h;done)|skip);(next u=>cases u);rename_i k D n u;simp only[ζa,TypeDesc.int.injEq]at u;split at h;(next e=>obtain⟨rfl,B⟩:=e;subst u;cases h;exact⟨⟨n⟩,fU.one (.int _ n),show _/\_ by simpa[Lit.wf,IntKind.min,IntKind.max,signed,IntKind.bits]using B,λb C=>C.lit _⟩);simp at h;all_goals (rename_i u;cases u)
 shape h:=by simp only[show bH.agg U8=false from rfl];exact ta a Zab Zab h
theorem PG{m:Tb bN}{n:Nat}{rs:SW}{b:X'}(h:dg m n rs=some [.bool b]):rs=[.v (.bool b)]:=by
 cases rs with
 |nil=>cases n<;>simp[dg]at h|cons x r=>
  have c:shut m n x=some (.bool b)/\dg m n r=some []:=by unfold dg at h;split at h;(next y s c w=>simp only[ζa,List.cons.injEq]at h;obtain⟨rfl,rfl⟩:=h;exact⟨c,w⟩);cases h
  have w:r=[]:=by cases r with|nil=>rfl|cons y r=>have:=c.2;unfold dg at this;split at this<;>simp at this
  subst w;have u:=c.1
  cases x with
  |v y=>unfold shut at u;simp only[ζa]at u;rw[u]|own d=>unfold shut at u;split at u<;>simp only[ζa,reduceCtorEq]at u;rename_i k es B _;cases k<;>simp[qc]at u|ptr d o=>cases n with|zero=>simp[shut]at u|succ n=>(unfold shut at u;split at u<;>try cases u);(split at u<;>try cases u);split at u<;>cases u
  |mp d=>unfold shut at u;split at u<;>cases u|clo f a b=>cases n with|zero=>simp[shut]at u|succ n=>unfold shut at u;split at u<;>cases u
  |tup l=>cases n with|zero=>simp[shut]at u|succ n=>unfold shut at u;have⟨_,_,z⟩:=ζf.1 u;cases z
  |_=>cases n<;>simp[shut]at u
theorem SD{S:Sys}{T:rG}(B:rV S T)(D:∀f a b xs,S.items f a b=some xs->eZ S f a b xs){f:Y'}{xs:So}(c:V.cM xs=true)(h:jA (dw S T) f xs=some [.bool true]):
 ∃n H',run S.E n (.fn f) xs []=some (.bool true,H'):=by
 unfold jA at h;have⟨⟨rs,m⟩,d,u⟩:=ζg.1 h;have:=PG u;simp only at this;subst this;exact V9 B D c d rfl
theorem Oc{S:Sys}{T:rG}{P:Program}(B:rV S T)(D:∀f a b xs,S.items f a b=some xs->eZ S f a b xs)(c:∀n,mG P (run S.E n)){f:Y'}{xs:So}(d:V.cM xs=true)(h:jA (dw S T) f xs=some [.bool true])
 {w:World}{args:Array V'}(G:wh (snap w))(g:c6 (snap w) (λ_=>none) xs args.toList):Calls P f args w λe w'=>e=.returned (.bool true)/\KR w w':=by
 have⟨n,H',i⟩:=SD B D d h;have:=Kx (c n) i G g;simpa using this
theorem Reads.Vo{P:Program}{t:W'}{α:Type}[bH α][cD α][Reads P t α]{H:Type}{B:W'×V'->H}{w:World}{base b:Nat}{c:Nat->X'}{e:X'}{v:V'}{d:DataW H}{ps:aZ MemPlace}{params:Array W'}{args:Array V'}(D:∀(j:Nat)t v,params[j]?=some t->args[j]?=some v->okWide P w .any b t v)(j:Nat)(f:params[j]?=some t)(G:args[j]?=some v)(h:Trod B P w base c e t v d ps):∃a:α,bO (snap w) (λ_=>none) (enc a) v/\cD.ok a/\∀b:DataW H->Nat,uG b->cD.wt a<=b d:=Reads.arg (D j t v f G) h
end Go.VE
namespace Go.VE
theorem SX{w:World}{g:Nat}{l:R'}(h:∀i,i<l.length->w.cell? ⟨g,i,none⟩=some (.int .i64 (l.getD i 0)))(e:0<l.length):e9 (snap w) (.fptr (l.map (V.int .i64))) (.pointer (some ⟨g,0,none⟩)):=by
 have a:=h 0 e;unfold cell? at a;split at a;rename_i c t fr u;have D:snap w g=some (.cells c):=by unfold snap;simp only at u;rw[u]
 have d:∀i,w.cell? ⟨g,i,none⟩=c[i]?:=λi=>by unfold cell?;simp only at u⊢;rw[u];rfl
 refine .fptr _ _ _ c D ?_ ?_;rw[zero_add,length_map];have:=h (l.length-1) Zaa;rw[d]at this;have:=(Array.getElem?_eq_some_iff.1 this).1;omega;intro j y v B b;rw[zero_add,<-d]at b;rw[getElem?_map]at B;obtain⟨z,C,rfl⟩:=ζf.1 B;have G:=(ζe.1 C).1;rw[h j G]at b;cases b;have:l.getD j 0=z:=by simp[List.getD,C]
 rw[this];exact .int _ _;cases a
variable[b_]
theorem cH(n:Nat)(h:n<9223372036854775807):wrap .i64 ((n:Int)+1)=((n+1:Nat):Int):=by simp[wrap,IntKind.bits,signed];omega
theorem eF(n:Int)(a:-9223372036854775808<=n)(B:n<=9223372036854775807):wrap .i64 n=n:=by simp[wrap,IntKind.bits,signed];omega
section
variable{α β:Type}{P:β->Prop}
theorem iI(s:Sl α)(i:Nat):idx s (i:Int)=s.l[i]?:=by unfold idx;rw[if_pos Zaa];rfl
theorem bJ{s:Sl α}{i:Nat}(h:i<s.l.length):idx s (i:Int)=some s.l[i]:=by rw[iI,ζd h]
theorem SS{s:Sl α}{i:Int}(a:0<=i):idx s i=s.l[i.toNat]?:=by unfold idx;rw[if_pos a]
theorem uf(s:Sl α)(i:Nat)(h:i<=s.l.length):∃x,gu s none (some (i:Int))=some x/\x.l=s.l.take i:=by unfold gu eD;simp only[Option.getD_none,getD_some];rw[if_pos Zaa];cases s<;>simp[Sl.l]at h⊢ <;>simp[h]
theorem bD{γ:Type}{a b:γ}:bl true a b=a:=rfl
theorem bu{γ:Type}{a b:γ}:bl false a b=b:=rfl
theorem ov(a b:X'):bl a (some b) (some false)=some (a&&b):=by cases a<;>rfl
theorem mW(a b:X'):bl a (some true) (some b)=some (a||b):=by cases a<;>rfl
theorem vw(a:X')(x y:β):bl a (some x) (some y)=some (if a then x else y):=by cases a<;>rfl
end
def place{α:Type}(f:α->X')(l:aZ α):Int:=match l.findIdx? f with
 |some i=>i|none=>-1
theorem Cn{α:Type}{f:α->X'}{l:aZ α}{i:Nat}(h:∀j,j<i->∀x,l[j]?=some x->f x=false)(hi:l.length<=i):l.findIdx? f=none:=by rw[List.findIdx?_eq_none_iff];intro x w;have⟨j,u⟩:=getElem?_of_mem w;have:j<l.length:=(ζe.1 u).1;exact h j Zaa x u
theorem ME{α:Type}{f:α->X'}{l:aZ α}{i:Nat}{x:α}(h:∀j,j<i->∀x,l[j]?=some x->f x=false)(B:l[i]?=some x)(D:f x=true):l.findIdx? f=some i:=by rw[List.findIdx?_eq_some_iff_getElem];obtain⟨hi,rfl⟩:=ζe.1 B;exact⟨hi,D,λj u=>by rw[h j u _ (ζd Zaa)];simp⟩
theorem wK{α:Type}{step:Int->a_ (Fw Int Unit Int)}{s:Sl α}{p:α->a_ X'}{f:α->X'}(hp:∀x∈s.l,p x=some (f x))(U:s.l.length<9223372036854775807)
 (J:∀i,step i=bl (decide (i<len s)) ((idx s i).bind λB=>(p B).bind λD=>bl D (some (.r i)) (some (.n (wrap .i64 (i+1))))) (some (.x ()))):
 (bY step 0).bind (Fw.elim (λ_=>some (-1)) (λe=>some e))=some (place f s.l):=by
 refine Wp.eq (gb (λi:Int=>∃n:Nat,i=n/\n<=s.l.length/\∀j,j<n->∀x,s.l[j]?=some x->f x=false) (λi:Int=>s.l.length-i.toNat) ⟨0,rfl,zero_le _,λj I=>absurd I Zaa⟩ ?_)
 rintro i ⟨n,rfl,L,w⟩;rw[J,cq];refine⟨λh=>?_,λh=>?_⟩
 .have u:n<s.l.length:=by simpa[len]using h
  rw[bJ u,ζb,hp _ (getElem_mem u),ζb,cq];refine⟨λz=>?_,λz=>?_⟩
  .rw[bg];show Wp (some (n:Int)) _;rw[bg];unfold place;rw[ME w (ζd u) z]
  rw[bg];refine⟨⟨n+1,cH n Zaa,Zaa,λj I x C=>?_⟩,?_⟩
  .by_cases e:j=n
   .subst e;rw[ζd u]at C;cases C;exact z
   exact w j Zaa x C
  rw[cH n Zaa];simp;omega
 have G:s.l.length<=n:=by simpa[len]using h
 rw[bg];show Wp (some (-1:Int)) _;rw[bg];unfold place;rw[Cn w G]
theorem wv{α:Type}(f:α->X')(l:aZ α):decide (place f l>=0)=l.any f:=by unfold place;cases h:l.findIdx? f with|none=>rw[List.findIdx?_eq_none_iff]at h;have:l.any f=false:=(by rw[List.any_eq_false];intro x u;simp[h x u]);rw[this];rfl|some i=>have⟨hi,w,_⟩:=List.findIdx?_eq_some_iff_getElem.1 h;have:l.any f=true:=List.any_eq_true.2 ⟨_,getElem_mem hi,w⟩;rw[this];simp
theorem SU{α σ ε ρ:Type}{step:α->σ->a_ (Fw σ ε ρ)}{l:aZ α}(I:Nat->σ->Prop)(D:ε->Prop)(G:ρ->Prop){s:σ}(c:I 0 s)
 (h:∀i a s,l[i]?=some a->I i s->Wp (step a s) λw=>match w with|.n B=>I (i+1) B|.x e=>D e|.r b=>G b):
 Wp (lV step l s) λw=>match w with|.n B=>I l.length B|.x e=>D e|.r b=>G b:=by
 have key:∀(r:aZ α)(i:Nat)(s:σ),l.drop i=r->i<=l.length->I i s->Wp (lV step r s) λw=>match w with|.n B=>I l.length B|.x e=>D e|.r b=>G b:=by intro r;induction r with|nil=>intro i s hd hi z;have:i=l.length:=(by have:=List.drop_eq_nil_iff.1 hd;omega);subst this;exact⟨_,rfl,z⟩|cons a r J=>intro i s hd hi z;have u:i<l.length:=(by apply Classical.byContradiction;intro Q;rw[List.drop_eq_nil_of_le Zaa]at hd;cases hd);have L:=List.drop_eq_getElem_cons u;rw[L]at hd;simp only[List.cons.injEq]at hd;have⟨w,O,C⟩:=h i a s (by rw[ζd u,hd.1]) z;simp only[lV,O,ζb];cases w with|n B=>exact J (i+1) B hd.2 Zaa C|x e=>exact⟨_,rfl,C⟩|r b=>exact⟨_,rfl,C⟩
 exact key l 0 s rfl (zero_le _) c
theorem Al{α σ ε ρ γ:Type}{step:α->σ->a_ (Fw σ ε ρ)}{l:aZ α}{fn:σ->a_ γ}{B:ε->a_ γ}{fr:ρ->a_ γ}{P:γ->Prop}(I:Nat->σ->Prop){s:σ}(c:I 0 s)
 (h:∀i a s,l[i]?=some a->I i s->Wp (step a s) λw=>match w with|.n D=>I (i+1) D|.x e=>Wp (B e) P|.r b=>Wp (fr b) P)
 (G:∀s,I l.length s->Wp (fn s) P):Wp ((lV step l s).bind (Fw.si fn B fr)) P:=by
 rw[eM];refine(SU I _ _ c h).mono ?_;intro w u
 cases w with
 |n s=>exact G s u|x e=>exact u|r b=>exact u
end Go.VE
