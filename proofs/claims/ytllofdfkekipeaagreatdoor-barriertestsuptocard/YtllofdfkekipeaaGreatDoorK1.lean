/-
 Certificates; functions by hand; readings; plain laws.
-/
import Derived.JoinedCond
import Derived.ReadAgain
import Derived.WalkKit
import Derived.ProofKit
import Derived.OpenShut
import Derived.ChangeSame
import Derived.RowKit3
import Derived.Lib.LaidTab
import Derived.Test.YtllofdfkekipeaaGreatDoorV2
import Derived.Test.YtllofdfkekipeaaGreatDoorN2
import Derived.Test.YtllofdfkekipeaaGreatDoorS1
set_option linter.all false
noncomputable section
open Nat(beq ble le_refl zero_add zero_le)
open Option(getD_some map_some pure_def)
open List(all_cons all_eq_true append_assoc append_nil drop_zero getElem?_append_left getElem?_append_right getElem?_drop getElem?_map getElem?_of_mem getElem?_set_ne getElem?_set_self getElem?_take getElem_mem length_cons length_map length_range length_singleton map_cons map_nil mem_append mem_map mem_of_getElem? mem_range nil_append range range' replicate set_set take_of_length_le)
open Classical(choose_spec)
open Bool(false_eq_true)
open Go.IntKind(signed wrap)
open Go.DataW(Trod TrodAll trod)
open Go.Value(okWide)
open Go.World(cell? sameAt)
namespace Go.VE
variable[bT]
abbrev Cf:=Fo×aY Fm×St
section
variable(S:Sys)(c:bZ){β:Type}(Q:Out×St->aZ β)
abbrev b7(cf:Cf):aZ β:=rn S c Q cf.1 cf.2.1 cf.2.2
def jl(n:Nat)(cf:Cf):Cf:=(gQ S c n cf.1 cf.2.1 cf.2.2).getD cf
structure EX where
 dr:Bool
 fr:List Nat
 d:Option Nat
 gd:Option (Nat×Bool)
 now:Bool
 k:K
 az:List Arg
 dd:List Nat
 l:List RO
 fs:List Fm
 st:St
def gq(n:Nat)(cf:Cf):aZ EX:=match gQ S c n cf.1 cf.2.1 cf.2.2 with
 |some (.ops dr fr (⟨d,gd,now,k,az,dd,[]⟩::l),fs,st)=>match wanted st.g gd with
  |some true=>some ⟨dr,fr,d,gd,now,k,az,dd,l,fs,st⟩|_=>none
 |_=>none
def nx(n:Nat)(cf:Cf)(φ:EX->St):Cf:=match gq S c n cf with
 |some p=>(.ops p.dr (if p.dr then(match p.k with|.p _|.r _=>p.fr|_=>match p.d with|some d=>d::p.fr|none=>p.fr)else p.fr) p.l,p.fs,oZ p.dd (φ p))|none=>cf
end
def uE(s:Nat)(b:Zl)(cf:Cf):Cf:=(cf.1,cf.2.1,{cf.2.2 with g:=bH cf.2.2.g s (.v (.bool b))})
def jmp(k:Nat)(fr:Zv)(cf:Cf)(st:St):Cf:=match cf with
 |(.ops dr _ l,fs,_)=>(.ops dr fr (l.drop k),fs,st)|_=>(.rt,[],st)
def oc:RC->Zv->Z3->St->Cf
 |c,[],fs,st=>(.rc c,fs,st)|.seq a b,i::p,fs,st=>if i=0 then oc a p (.seq b::fs) st else oc b p fs st|.cond _ a b,i::p,fs,st=>if i=0 then oc a p fs st else oc b p fs st|.block id c,_::p,fs,st=>oc c p (.blk id::fs) st|.gh _ c,_::p,fs,st=>oc c p fs st|.hg c g,_::p,fs,st=>oc c p (.gst g::fs) st|.loop c,_::p,_,st=>oc c p [] st|.each _ _ _ b,_::p,_,st=>oc b p [] st|c,_,fs,st=>(.rc c,fs,st)
def GY(B:RC)(pa:Zv):RC:=match(oc B pa [] (bz [] [])).1 with|.rc (.loop c)=>c|_=>.skip
section
variable{S:Sys}{c:bZ}{β γ δ α:Type}{Q:Out×St->aZ β}{e:γ->aZ β}{cf:Cf}
theorem ig{n:Nat}{p:EX}(h:gq S c n cf=some p):gQ S c n cf.1 cf.2.1 cf.2.2=some (.ops p.dr p.fr (⟨p.d,p.gd,p.now,p.k,p.az,p.dd,[]⟩::p.l),p.fs,p.st)/\wanted p.st.g p.gd=some true:=by unfold gq at h;grind
theorem vu{n:Nat}{m:aZ δ}{φ:δ->EX->St}{f:δ->aZ γ}{p:EX}(B:gq S c n cf=some p)(G:Le (m.bind λx=>some (φ x p)) (fG S c p.dr p.fr ⟨p.d,none,p.now,p.k,p.az,[],[]⟩ p.st))
 (h:∀x,m=some x->Le ((f x).bind e) (b7 S c Q (nx S c n cf (φ x)))):Le ((m.bind f).bind e) (b7 S c Q cf):=by
 have⟨a,u⟩:=ig B;refine Bk a rfl u G λx w=>?_
 have:=h x w;simp[nx,B]at this;omega
theorem sV{n:Nat}{m:aZ β}{φ:EX->St}{p:EX}(B:gq S c n cf=some p)(G:fG S c p.dr p.fr ⟨p.d,none,p.now,p.k,p.az,[],[]⟩ p.st=some (φ p))
 (h:Le m (b7 S c Q (nx S c n cf φ))):Le m (b7 S c Q cf):=by
 have⟨a,u⟩:=ig B;refine ql a rfl u G ?_;simp[nx,B]at h;omega
theorem e_{α β:Type}{o:aZ α}{f:α->β}{b:β}(h:o.map f=some b):∃a,o=some a/\f a=b:=ζf.1 h
theorem yx(n:Nat){m:aZ β}{B:Cf}(h:Le m (b7 S c Q B))(G:gQ S c n cf.1 cf.2.1 cf.2.2=some B:=by kernel_rfl):Le m (b7 S c Q cf):=Dr G h
theorem bu(n s:Nat){t:Zl}{x y:aZ γ}(B:Le (x.bind e) (b7 S c Q (uE s true (jl S c n cf))))(G:Le (y.bind e) (b7 S c Q (uE s false (jl S c n cf))))
 (J:(gQ S c n cf.1 cf.2.1 cf.2.2).map (λp=>bh p.2.2.g s)=some (some (.v (.bool t))):=by kernel_rfl):Le ((bp t x y).bind e) (b7 S c Q cf):=by
 have⟨p,u,a⟩:=e_ J;have b:jl S c n cf=p:=by unfold jl;grind
 rw[b]at B G;refine Dr u ?_;cases t
 .have:uE s false p=p:=by unfold uE;rw[rV a]
  rw[this]at G;exact G
 have:uE s true p=p:=by unfold uE;rw[rV a]
 rw[this]at B;exact B
theorem dA(n s:Nat){t:Zl}{x y:aZ γ}(B:Le (x.bind e) (b7 S c Q (uE s false (jl S c n cf))))(G:Le (y.bind e) (b7 S c Q (uE s true (jl S c n cf))))
 (J:(gQ S c n cf.1 cf.2.1 cf.2.2).map (λp=>bh p.2.2.g s)=some (some (.v (.bool (!t)))):=by kernel_rfl):Le ((bp t x y).bind e) (b7 S c Q cf):=by
 have⟨p,u,a⟩:=e_ J;have b:jl S c n cf=p:=by unfold jl;grind
 rw[b]at B G;refine Dr u ?_;cases t
 .have:uE s true p=p:=by unfold uE;rw[show V.bool true=V.bool (!false)from rfl,rV a]
  rw[this]at G;exact G
 have:uE s false p=p:=by unfold uE;rw[show V.bool false=V.bool (!true)from rfl,rV a]
 rw[this]at B;exact B
theorem Kg(n k:Nat)(fr:Zv)(st:δ->St){m:aZ δ}{f:δ->aZ γ}(B:Le (m.bind λr=>b7 S c Q (jmp k fr (jl S c n cf) (st r))) (b7 S c Q cf))(a:∀r,Le ((f r).bind e) (b7 S c Q (jmp k fr (jl S c n cf) (st r)))):Le ((m.bind f).bind e) (b7 S c Q cf):=Qq _ B a
theorem bC(n:Nat){r:δ}{k:δ->Cf}(B:gQ S c n cf.1 cf.2.1 cf.2.2=some (k r):=by kernel_rfl):Le ((some r).bind λr=>b7 S c Q (k r)) (b7 S c Q cf):=WA B rfl
theorem bg{r:γ}{L:aZ β}(h:L=e r:=by kernel_rfl):Le ((some r).bind e) L:=Le.of_eq h
theorem Vb{σ ε ρ:Type}{B:RC}{pa:Zv}{step:σ->aZ (Fw σ ε ρ)}(eσ:σ->St)(eε:ε->Nat×St)(eρ:ρ->St){s:σ}{G:ε->aZ γ}{fr:ρ->aZ γ}{st:St}
 (h:∀s,Le ((step s).bind λw=>some (Fw.out eσ eε eρ w)) (b7 S c some (.rc (GY B pa),[],eσ s)))
 (J:∀x,Le ((G x).bind e) (b7 S c Q (.ex (eε x).1,(oc B pa [] st).2.1,(eε x).2)))(a:∀b,Le ((fr b).bind e) (Q (.ret,eρ b)))
 (O:oc B pa [] st=(.rc (.loop (GY B pa)),(oc B pa [] st).2.1,eσ s):=by kernel_rfl):Le (((bM step s).bind (Fw.elim G fr)).bind e) (b7 S c Q (oc B pa [] st)):=
 HU (n:=0) (congrArg some O) h J a
theorem Cs(n:Nat){b:RC}{m:aZ (Out×Tb bE)}(h:Le m (b7 S c vI (.rc b,[],(jl S c n cf).2.2)))(B:gQ S c n cf.1 cf.2.1 cf.2.2=some (.nx,[],(jl S c n cf).2.2):=by kernel_rfl):Le m (b7 S c (xG S c b) cf):=Uo B h
theorem JU(n:Nat){o:aZ α}(A:aZ α->St){f:α->aZ γ}(B:∀x,o=some x->Le ((f x).bind e) (b7 S c Q ((jl S c n cf).1,(jl S c n cf).2.1,A (some x))))
 (G:gQ S c n cf.1 cf.2.1 cf.2.2=some ((jl S c n cf).1,(jl S c n cf).2.1,A o):=by kernel_rfl):Le ((o.bind f).bind e) (b7 S c Q cf):=U7 G B
theorem kC.NY{S:Sys}{T:pR}[br δ]{f:Zk}{A:α->Zu}{p:α->aZ δ}(B:T f=none)(a:S.E.keep f=false)(G:∀z r,p z=some r->S.yG f (A z)=some (enc r))
 :kC S (cW S T) f A (λr=>[enc r]) p false where
 k:=a
 h z:=by intro y u;have⟨r,b,w⟩:=ζg.1 u;cases w;have h:=E0 B a (G z r b);unfold nj;rw[h];exact wm 8 [enc r]
 s h:=by cases h
def Pm:K->aZ BinOp
 |.p (.bin (some .slice) _ o)=>some o|_=>none
theorem RH{k:K}{o:BinOp}(h:Pm k=some o):∃u,k=.p (.bin (some .slice) u o):=by unfold Pm at h;grind
def TP:K->aZ (Nat×Nat×Zv)
 |.a (.buildSl sz ln _ ix)=>some (sz,ln,ix)|_=>none
theorem TJ{k:K}{r:Nat×Nat×Zv}(h:TP k=some r):∃z,k=.a (.buildSl r.1 r.2.1 z r.2.2):=by unfold TP at h;grind
def Qt:K->aZ Zu
 |.a (.alloc _ zero)=>some zero|_=>none
theorem Md{k:K}{z:Zu}(h:Qt k=some z):∃n,k=.a (.alloc n z):=by unfold Qt at h;grind
section
variable[br α]
theorem Vk(k:Zs)(n:Nat){s:Sl α}{i:Int}{f:α->aZ γ}(h:∀x,idx s i=some x->Le ((f x).bind e) (b7 S c Q (nx S c n cf λp=>c6 p.st p.d (cp x))))
 (B:(gq S c n cf).map (λp=>(p.k,bV S.N p.st.g p.az))=some (.p (.idxS (br.size α)),some [.v (ck s),.v (.int k i)]):=by kernel_rfl):Le (((idx s i).bind f).bind e) (b7 S c Q cf):=by
 have⟨p,u,a⟩:=e_ B;simp at a;refine vu u ?_ h;rw[a.1];exact Le.of_eq (P0 a.2 rfl)
theorem bR(n:Nat){s:Sl α}{i:Int}{f:α->aZ γ}(h:∀x,idx s i=some x->Le ((f x).bind e) (b7 S c Q (nx S c n cf λp=>c6 p.st p.d (cp x))))
 (B:(gq S c n cf).map (λp=>(p.k,bV S.N p.st.g p.az))=some (.p (.idxS (br.size α)),some [.v (ck s),.v (.int .i64 i)]):=by kernel_rfl):Le (((idx s i).bind f).bind e) (b7 S c Q cf):=Vk .i64 n h B
theorem jE(k:Zs)(n u:Nat){s:Sl α}{i:Int}{f:Nat->aZ γ}(h:∀x,s.jc i=some x->Le ((f x).bind e) (b7 S c Q (nx S c n cf λp=>c6 p.st p.d (.el u x 0))))
 (B:(gq S c n cf).map (λp=>(p.k,bV S.N p.st.g p.az,bh p.st.m u))=some (.p (.idxS (br.size α)),some [.own u,.v (.int k i)],some (cB s)):=by kernel_rfl):Le (((s.jc i).bind f).bind e) (b7 S c Q cf):=by
 have⟨p,w,a⟩:=e_ B;simp at a;refine vu w ?_ h;rw[a.1];exact Le.of_eq (VQ a.2.1 a.2.2 rfl)
theorem pP(n u o b:Nat)(a:Zl)(v:α->V){s:Sl α}{i:Nat}{f:α->aZ γ}(h:∀x,s.get i=some x->Le ((f x).bind e) (b7 S c Q (nx S c n cf λp=>c6 p.st p.d (.v (v x)))))
 (B:(gq S c n cf).map (λp=>(p.k,bV S.N p.st.g p.az,bh p.st.m u,(!p.dr||p.now||eH p.fr [.el u i o])))=some (.r (.load b a),some [.el u i o],some (cB s),true):=by kernel_rfl)(d:∀x:α,(cut (cells x) o b).bind (mk a)=some (v x):=by intro _;rfl):Le (((s.get i).bind f).bind e) (b7 S c Q cf):=by
 have⟨p,z,w⟩:=e_ B;simp only[ζc]at w;refine vu z ?_ h;rw[w.1];exact Le.of_eq (Ty w.2.1 w.2.2.2 w.2.2.1 d)
theorem tB(n u:Nat)(x:V){s:Sl α}{i:Nat}{a:α}{f:Sl α->aZ γ}(h:∀B,s.put i a=some B->Le ((f B).bind e) (b7 S c Q (nx S c n cf λp=>c6 {p.st with m:=bH p.st.m u (cB B)} p.d (.v .undef))))
 (G:(gq S c n cf).map (λp=>(p.k,bV S.N p.st.g p.az,bh p.st.m u,(!p.dr||p.now),x.cells))=some (.l (.store (br.size α)),some [.el u i 0,.v x],some (cB s),true,cells a):=by kernel_rfl):Le (((s.put i a).bind f).bind e) (b7 S c Q cf):=by
 have⟨p,w,b⟩:=e_ G;simp only[ζc]at b;refine vu w ?_ h;rw[b.1];exact Le.of_eq (SH b.2.1 b.2.2.2.1 b.2.2.1 b.2.2.2.2 rfl)
theorem GK(n u:Nat){i:Int}{z:α}{f:Sl α->aZ γ}(h:∀B,od i z=some B->Le ((f B).bind e) (b7 S c Q (nx S c n cf λp=>{p.st with g:=bH p.st.g u (.own u),m:=bH p.st.m u (cB B)})))
 (G:(gq S c n cf).map (λp=>(p.d,p.k,bV S.N p.st.g p.az,p.st.new u))=some (some u,.a (.makeSl (br.size α) (cells z)),some [.v (.int .i64 i),.v (.int .i64 i)],true):=by kernel_rfl):Le (((od i z).bind f).bind e) (b7 S c Q cf):=by
 have⟨p,w,a⟩:=e_ G;simp at a;refine vu w ?_ h;rw[a.1,a.2.1];exact Le.of_eq (TW a.2.2.1 rfl rfl a.2.2.2)
theorem WO(n u:Nat){i:Int}{z:α}{zero:Zu}{f:Sl α->aZ γ}(h:∀B,t_ i z=some B->Le ((f B).bind e) (b7 S c Q (nx S c n cf λp=>{p.st with g:=bH p.st.g u (.own u),m:=bH p.st.m u (cB B)})))
 (G:(gq S c n cf).map (λp=>(p.d,p.k,bV S.N p.st.g p.az,p.st.new u))=some (some u,.a (.makeSl (br.size α) (cells z)),some [.v (.int .i64 0),.v (.int .i64 i)],true):=by kernel_rfl):Le (((t_ i z).bind f).bind e) (b7 S c Q cf):=by
 have⟨p,w,a⟩:=e_ G;simp at a;have⟨b,I⟩:=ig w;have⟨dr,fr,d,gd,now,k,az,dd,l,fs,st⟩:=p;obtain⟨rfl,rfl,J,C⟩:=a;exact WL n dr fr (⟨some u,gd,now,.a (.makeSl (br.size α) (cells z)),az,dd,[]⟩::l) fs st rfl C Zd λB D=>by have:=h B D;simp[nx,w]at this;simp_all
theorem lG(n o w u:Nat){s:Sl α}{x:α}{f:Sl α->aZ γ}(h:∀B,fP s x=some B->Le ((f B).bind e) (b7 S c Q (nx S c n cf λp=>{p.st with g:=bH p.st.g u (.own u),m:=bH (eo o p.st.m) u (cB B)})))
 (G:(gq S c n cf).map (λp=>(p.d,p.k,bV S.N p.st.g p.az,(!p.dr||p.now),bh p.st.m o,bh p.st.m w,St.new {p.st with m:=eo o p.st.m} u))=some (some u,.l (.append (br.size α)),some [.own o,.own w],true,some (cB s),some (cB (.row [x])),true):=by kernel_rfl):Le (((fP s x).bind f).bind e) (b7 S c Q cf):=by
 have⟨p,z,a⟩:=e_ G;simp only[ζc]at a;refine vu z ?_ h;rw[a.1,a.2.1];exact Le.of_eq (Vh a.2.2.1 a.2.2.2.1 a.2.2.2.2.1 a.2.2.2.2.2.1 rfl a.2.2.2.2.2.2)
theorem P8(n w u:Nat)(v:V)(x:α){m:aZ β}(h:Le m (b7 S c Q (nx S c n cf λp=>{p.st with g:=bH p.st.g u (.own u),m:=bH p.st.m u (cB (.row [x]))})))(a:v=.bG\/v=.dw:=by first|exact .inl rfl|exact .inr rfl)
 (B:(gq S c n cf).map (λp=>(p.d,p.k,bV S.N p.st.g p.az,(!p.dr||p.now),bh p.st.m w,p.st.new u))=some (some u,.l (.append (br.size α)),some [.v v,.own w],true,some (cB (.row [x])),true):=by kernel_rfl):Le m (b7 S c Q cf):=by
 have⟨p,C,z⟩:=e_ B;simp only[ζc]at z;refine sV C ?_ h;rw[z.1,z.2.1];exact Uu a z.2.2.1 z.2.2.2.1 z.2.2.2.2.1 rfl z.2.2.2.2.2
theorem bN(n:Nat)(s:Sl α){m:aZ β}(h:Le m (b7 S c Q (nx S c n cf λp=>c6 p.st p.d (.v (.int .i64 s.l.length)))))
 (B:(gq S c n cf).map (λp=>(p.k,bV S.N p.st.g p.az))=some (.p .lenSl,some [.v (ck s)]):=by kernel_rfl):Le m (b7 S c Q cf):=by
 have⟨p,u,a⟩:=e_ B;simp at a;refine sV u ?_ h;rw[a.1];exact Ql a.2
theorem Dn(n u:Nat)(s:Sl α){m:aZ β}(h:Le m (b7 S c Q (nx S c n cf λp=>c6 p.st p.d (.v (.int .i64 s.l.length)))))
 (B:(gq S c n cf).map (λp=>(p.k,bV S.N p.st.g p.az,bh p.st.m u))=some (.p .lenSl,some [.own u],some (cB s)):=by kernel_rfl):Le m (b7 S c Q cf):=by
 have⟨p,w,a⟩:=e_ B;simp at a;refine sV w ?_ h;rw[a.1];exact UA a.2.1 a.2.2
theorem Wy(n:Nat){s:Sl α}{f:Zl->aZ γ}(h:∀t,s.isNil=some t->Le ((f t).bind e) (b7 S c Q (nx S c n cf λp=>c6 p.st p.d (.v (.bool t)))))
 (B:(gq S c n cf).map (λp=>(Pm p.k,bV S.N p.st.g p.az))=some (some .eql,some [.v (ck s),.v .bG]):=by kernel_rfl):Le ((s.isNil.bind f).bind e) (b7 S c Q cf):=by
 have⟨p,w,a⟩:=e_ B;simp at a;have⟨u,b⟩:=RH a.1;refine vu w ?_ h;rw[b];exact Le.of_eq (Sv a.2)
theorem z_(n:Nat)(B G:Zl)(J:Zu){s:Sl α}{a b:Z6}{f:Sl α->aZ γ}(h:∀x,fN s a b=some x->Le ((f x).bind e) (b7 S c Q (nx S c n cf λp=>c6 p.st p.d (.v (ck x)))))
 (O:(gq S c n cf).map (λp=>(p.k,bV S.N p.st.g p.az,me B G J))=some (.p (.slice (br.size α) B G),some (.v (ck s)::J.map .v),some (a,b)):=by kernel_rfl):Le (((fN s a b).bind f).bind e) (b7 S c Q cf):=by
 have⟨p,u,g⟩:=e_ O;simp at g;have⟨i,C⟩:=ig u;have⟨dr,fr,d,gd,now,k,az,dd,l,fs,st⟩:=p;obtain⟨rfl,D,I⟩:=g;exact WJ n dr fr (⟨d,gd,now,.p (.slice (br.size α) B G),az,dd,[]⟩::l) fs st B G J rfl Zd λw z=>by have:=h w z;simp only[nx,u]at this;omega
theorem VZ(n:Nat)(B G:Zl)(u t:Nat)(J:Zu){s:Sl α}{a b:Z6}{f:Sl α->aZ γ}(h:∀x,oq s a b=some x->Le ((f x).bind e) (b7 S c Q (nx S c n cf λp=>{p.st with g:=bH p.st.g t (.own t),m:=bH (eo u p.st.m) t (cB x)})))
 (O:(gq S c n cf).map (λp=>(p.d,p.k,p.dr,bV S.N p.st.g p.az,me B G J,bh p.st.m u,St.new {p.st with m:=eo u p.st.m} t))=some (some t,.p (.slice (br.size α) B G),false,some (.own u::J.map .v),some (a,b),some (cB s),true):=by kernel_rfl):Le (((oq s a b).bind f).bind e) (b7 S c Q cf):=by
 have⟨p,w,i⟩:=e_ O;simp at i;have⟨j,I⟩:=ig w;have⟨dr,fr,d,gd,now,k,az,dd,l,fs,st⟩:=p;obtain⟨rfl,rfl,rfl,L,T,U,z⟩:=i;exact V1 n fr (⟨some t,gd,now,.p (.slice (br.size α) B G),az,dd,[]⟩::l) fs st B G u J rfl z Zd λC D=>by have:=h C D;simp only[nx,w]at this;omega
theorem dm(n u:Nat)(x:α){m:aZ β}(h:Le m (b7 S c Q (nx S c n cf λp=>{p.st with g:=bH p.st.g u (.ptr u 0),m:=bH p.st.m u (bx x)})))
 (B:(gq S c n cf).map (λp=>(p.d,p.k,bV S.N p.st.g p.az,p.st.new u))=some (some u,.a .box,some [cv x],true):=by kernel_rfl):Le m (b7 S c Q cf):=by
 have⟨p,w,a⟩:=e_ B;simp at a;refine sV w ?_ h;rw[a.1,a.2.1,vW,a.2.2.1];simp only[ζb,a.2.2.2,if_true,mI,kK,oH]
def Wi(u o a:Nat)(xs:Zw)(p:EX):St:=match bh p.st.m u with
 |some (.box w)=>c6 {p.st with m:=bH p.st.m u (.box (w.take o++xs++w.drop (o+a)))} p.d (.v .undef)|_=>p.st
theorem ow(n u o:Nat)(x:α){m:aZ β}(h:Le m (b7 S c Q (nx S c n cf (Wi u o (br.size α) ((cells x).map .v)))))
 (B:(gq S c n cf).map (λp=>(p.k,bV S.N p.st.g p.az,(!p.dr||p.now),match bh p.st.m u with|some (.box cs)=>ble (o+br.size α) cs.length|_=>false))=some (.l (.store (br.size α)),some [.ptr u o,cv x],true,true):=by kernel_rfl):Le m (b7 S c Q cf):=by
 have⟨p,C,a⟩:=e_ B;simp only[ζc]at a;refine sV C ?_ h;have⟨b,D,G,z⟩:=a;split at z
 next cs w=>have I:=Nat.le_of_ble_eq_true z;rw[b,uQ,D];simp only[ζb,G,if_true,mw,w,putCells,kK,eV,oH,I,and_self,map_some,Wi]
 simp_all
theorem ua(n u:Nat)(xs:aY α){m:aZ β}(h:Le m (b7 S c Q (nx S c n cf λp=>{p.st with g:=bH p.st.g u (.own u),m:=bH p.st.m u (cB (.row xs))})))
 (B:(gq S c n cf).map (λp=>(p.d,TP p.k,bV S.N p.st.g p.az,p.st.new u))=some (some u,some (br.size α,xs.length,range' 0 xs.length),some ((xs.map enc).map .v),true):=by kernel_rfl):Le m (b7 S c Q cf):=by
 have⟨p,w,a⟩:=e_ B;simp at a;have⟨b,G⟩:=ig w;have⟨dr,fr,d,gd,now,k,az,dd,l,fs,st⟩:=p;obtain⟨rfl,C,I,D⟩:=a;obtain⟨z,rfl⟩:=TJ C;exact Xd n dr fr (⟨some u,gd,now,.a (.buildSl (br.size α) xs.length z (range' 0 xs.length)),az,dd,[]⟩::l) fs st xs rfl D Zd (by
  simp[nx,w]at h;omega)
theorem Wo(n:Nat)(x:α)(vs z:Zu)(pl:aY (Nat×Nat)){m:aZ β}(B:kn z pl vs=some (cells x))(G:br.agg α=true)(h:Le m (b7 S c Q (nx S c n cf λp=>c6 p.st p.d (cv x))))
 (J:(gq S c n cf).map (λp=>(p.k,bV S.N p.st.g p.az))=some (.p (.build z pl),some (vs.map .v)):=by kernel_rfl):Le m (b7 S c Q cf):=by
 have⟨p,u,a⟩:=e_ J;simp at a;have⟨b,w⟩:=ig u;have⟨dr,fr,d,gd,now,k,az,dd,l,fs,st⟩:=p;obtain⟨rfl,C⟩:=a;exact Ww n dr fr (⟨d,gd,now,.p (.build z pl),az,dd,[]⟩::l) fs st x vs rfl B G Zd (by
  simp only[nx,u]at h;omega)
end
theorem zK(n:Nat)(k:Zs){a:Zq}{b:Int}{f:Int->aZ γ}(h:∀x,kD a b=some x->Le ((f x).bind e) (b7 S c Q (nx S c n cf λp=>c6 p.st p.d (.v (.int .u8 x)))))
 (B:(gq S c n cf).map (λp=>(p.k,bV S.N p.st.g p.az))=some (.p .idxStr,some [.v (.str a),.v (.int k b)]):=by kernel_rfl):Le (((kD a b).bind f).bind e) (b7 S c Q cf):=by
 have⟨p,u,d⟩:=e_ B;simp at d;refine vu u ?_ h;rw[d.1];exact Le.of_eq (NW d.2)
section
variable{A:α->Zu}{E:δ->Zu}{pl:α->aZ δ}{fn:Zk}{sc:Zl}
theorem AP(n:Nat)(F:kC S c fn A E pl sc)(z:α){f:δ->aZ γ}(h:∀x,pl z=some x->Le ((f x).bind e) (b7 S c Q (nx S c n cf λp=>c6 p.st p.d (.v (result (E x))))))
 (B:(gq S c n cf).map (λp=>(p.k,(bV S.N p.st.g p.az).bind oB,(!p.dr||p.now||gw p.st.m p.fr [])))=some (.c,some (fn,(A z).map .v),true):=by kernel_rfl):Le (((pl z).bind f).bind e) (b7 S c Q cf):=by
 have⟨p,C,b⟩:=e_ B;simp at b;have⟨D,G,O⟩:=b;have⟨I,g1,g2⟩:=ζg.1 G;have u:∀d(w:Zu),SV.dy d (w.map .v)=false:=λd w=>by induction w with|nil=>rfl|cons a l J=>simp[SV.dy,SV.cM,J]
 have L:(!p.dr||p.now||gw p.st.m p.fr ((A z).map .v))=true:=by have:gw p.st.m p.fr ((A z).map .v)=gw p.st.m p.fr []:=(by unfold gw;simp[u];rfl);grind
 refine vu C ?_ h;rw[D];exact Gx (F.h z) F.k g1 g2 (HG _ _ _) L (λr=>by rw[pz];simp)
theorem Uh(n:Nat)(F:kC S c fn A E pl true)(z:α){f:δ->aZ γ}(h:∀x,pl z=some x->Le ((f x).bind e) (b7 S c Q (nx S c n cf λp=>c6 p.st p.d (.v (result (E x))))))
 (B:(gq S c n cf).map (λp=>(p.k,((bV S.N p.st.g p.az).bind oB).bind λq=>(nX (i_ p.st.m 8) q.2).map λvs=>(q.1,vs,((!p.dr||p.now)||gw p.st.m p.fr q.2))))=some (.c,some (fn,A z,true)):=by kernel_rfl):Le (((pl z).bind f).bind e) (b7 S c Q cf):=by
 have⟨p,u,a⟩:=e_ B;simp at a;have⟨w,C⟩:=a;have⟨q,g1,g2⟩:=ζg.1 C;have⟨D,g3,g4⟩:=ζg.1 g1;have⟨vs,g5,g6⟩:=ζf.1 g2;simp only[ζc]at g6;obtain⟨e1,rfl,e3⟩:=g6;refine vu u ?_ h;rw[w];exact Gx (F.h z) F.k g3 Zd g5 e3 (λr=>by rw[F.s rfl];rfl)
end
section
variable{N:Nat}[br α]
theorem P7(n:Nat)(k:Zs){a:bU N α}{i:Int}{f:α->aZ γ}(h:∀x,a.at i=some x->Le ((f x).bind e) (b7 S c Q (nx S c n cf λp=>c6 p.st p.d (.v (.fptr (pa a i))))))
 (B:(gq S c n cf).map (λp=>(p.k,bV S.N p.st.g p.az))=some (.p (.idxA N (br.size α)),some [cp a,.v (.int k i)]):=by kernel_rfl):Le (((a.at i).bind f).bind e) (b7 S c Q cf):=by
 have⟨p,u,b⟩:=e_ B;simp at b;have⟨g,z⟩:=ig u;have⟨dr,fr,d,gd,now,C,az,dd,l,fs,st⟩:=p;obtain⟨rfl,D⟩:=b;exact Vg n dr fr (⟨d,gd,now,.p (.idxA N (br.size α)),az,dd,[]⟩::l) fs st k rfl Zd λx w=>by have:=h x w;simp only[nx,u]at this;omega
theorem O4(n k:Nat)(a:bU N α)(i:Int)(o:Nat)(x:α)(B:a.at i=some x){m:aZ β}(h:Le m (b7 S c Q (nx S c n cf λp=>c6 p.st p.d (.v (.fptr ((pa a i).drop (o+k)))))))
 (G:(gq S c n cf).map (λp=>(p.k,bV S.N p.st.g p.az,ble (o+k) (br.size α)))=some (.p (.fieldAddr k),some [.v (.fptr ((pa a i).drop o))],true):=by kernel_rfl):Le m (b7 S c Q cf):=by
 have⟨p,u,b⟩:=e_ G;simp at b;have⟨e,w⟩:=ig u;have⟨dr,fr,d,gd,now,z,az,dd,l,fs,st⟩:=p;obtain⟨rfl,C,D⟩:=b;exact WB n dr fr (⟨d,gd,now,.p (.fieldAddr k),az,dd,[]⟩::l) fs st a i o x B rfl Zd (by
  simp only[nx,u]at h;omega)
theorem P6(n b:Nat)(ag:Zl)(a:bU N α)(i:Int)(o:Nat)(x:α)(B:a.at i=some x)(v:V)(e:(cut (cells x) o b).bind (mk ag)=some v){m:aZ β}(h:Le m (b7 S c Q (nx S c n cf λp=>c6 p.st p.d (.v v))))
 (G:(gq S c n cf).map (λp=>(p.k,bV S.N p.st.g p.az))=some (.r (.load b ag),some [.v (.fptr ((pa a i).drop o))]):=by kernel_rfl):Le m (b7 S c Q cf):=by
 have⟨p,w,u⟩:=e_ G;simp at u;have⟨f,z⟩:=ig w;have⟨dr,fr,d,gd,now,C,az,dd,l,fs,st⟩:=p;obtain⟨rfl,D⟩:=u;exact U5 n dr fr (⟨d,gd,now,.r (.load b ag),az,dd,[]⟩::l) fs st a i o x B e v rfl Zd (by
  simp only[nx,w]at h;omega)
theorem Si(n u:Nat)(st:St)(len:Nat)(z:α){m:aZ β}(B:st.new u=true)(h:Le m (b7 S c Q (nx S c n cf λ_=>{st with g:=bH st.g u (.ptr u 0),m:=bH st.m u (bx (bU.EO len z))})))
 (G:(gq S c n cf).map (λp=>(p.d,Qt p.k,bV S.N p.st.g p.az,p.st))=some (some u,some (cells (bU.EO len z)),some [],st):=by kernel_rfl):Le m (b7 S c Q cf):=by
 have⟨p,w,a⟩:=e_ G;simp at a;have⟨k,b⟩:=Md a.2.1;refine sV w ?_ h;rw[a.1,b,vW,a.2.2.1,a.2.2.2];simp[B,mI]
theorem TO(n u:Nat)(st:St)(cs:Zw){m:aZ β}(B:st.new u=true)(h:Le m (b7 S c Q (nx S c n cf λ_=>{st with g:=bH st.g u (.ptr u 0),m:=bH st.m u (.box cs)})))
 (G:(gq S c n cf).map (λp=>(p.d,(Qt p.k).map (λz=>z.map SV.v),bV S.N p.st.g p.az,p.st))=some (some u,some cs,some [],st):=by kernel_rfl):Le m (b7 S c Q cf):=by
 have⟨p,C,a⟩:=e_ G;simp only[ζc]at a;have⟨z,D,w⟩:=e_ a.2.1;have⟨k,b⟩:=Md D;refine sV C ?_ h;rw[a.1,b,vW,a.2.2.1,a.2.2.2];simp[B,mI,w]
theorem Ah(n:Nat)(k:Zs)(u:Nat){a:bU N α}{i:Int}{f:α->aZ γ}(h:∀x,a.at i=some x->Le ((f x).bind e) (b7 S c Q (nx S c n cf λp=>c6 p.st p.d (.ptr u (i.toNat*br.size α+0)))))
 (B:(gq S c n cf).map (λp=>(p.k,bV S.N p.st.g p.az,bh p.st.m u))=some (.p (.idxA N (br.size α)),some [.ptr u 0,.v (.int k i)],some (bx a)):=by kernel_rfl):Le (((a.at i).bind f).bind e) (b7 S c Q cf):=by
 have⟨p,w,b⟩:=e_ B;simp at b;have⟨g,C⟩:=ig w;have⟨dr,fr,d,gd,now,D,az,dd,l,fs,st⟩:=p;obtain⟨rfl,G,I⟩:=b;exact Vm n dr fr (⟨d,gd,now,.p (.idxA N (br.size α)),az,dd,[]⟩::l) fs st k u rfl Zd λx z=>by have:=h x z;simp only[nx,w]at this;omega
theorem Li(n b:Nat)(ag:Zl)(u:Nat)(a:bU N α)(i:Int)(o:Nat)(x:α)(B:a.at i=some x)(v:V)(e:(cut (cells x) o b).bind (mk ag)=some v){m:aZ β}(h:Le m (b7 S c Q (nx S c n cf λp=>c6 p.st p.d (.v v))))
 (G:(gq S c n cf).map (λp=>(p.k,bV S.N p.st.g p.az,bh p.st.m u,(!p.dr||p.now||eH p.fr [.ptr u 0])))=some (.r (.load b ag),some [.ptr u (i.toNat*br.size α+o)],some (bx a),true):=by kernel_rfl):Le m (b7 S c Q cf):=by
 have⟨p,z,w⟩:=e_ G;simp at w;have⟨f,C⟩:=ig z;have⟨dr,fr,d,gd,now,D,az,dd,l,fs,st⟩:=p;obtain⟨rfl,I,J,L⟩:=w;exact VJ n dr fr (⟨d,gd,now,.r (.load b ag),az,dd,[]⟩::l) fs st u a i o x B e v rfl Zd (by
  simp only[nx,z]at h;omega)
theorem Vw(n b u:Nat)(a:bU N α)(i:Int)(o:Nat)(x:α)(B:a.at i=some x)(y:α)(v:V)(G:cells y=(cells x).take o++v.cells++(cells x).drop (o+b)){m:aZ β}(h:Le m (b7 S c Q (nx S c n cf λp=>c6 {p.st with m:=bH p.st.m u (bx (a.set i y))} p.d (.v .undef))))
 (J:(gq S c n cf).map (λp=>(p.k,bV S.N p.st.g p.az,bh p.st.m u,(!p.dr||p.now),v.cells.length,v.cells.all V.one,ble (o+b) (br.size α)))=some (.l (.store b),some [.ptr u (i.toNat*br.size α+o),.v v],some (bx a),true,b,true,true):=by kernel_rfl):Le m (b7 S c Q cf):=by
 have⟨p,z,w⟩:=e_ J;simp at w;have⟨e,C⟩:=ig z;have⟨dr,fr,d,gd,now,D,az,dd,l,fs,st⟩:=p;obtain⟨rfl,I,L,O,T,U,W⟩:=w;exact Qc n dr fr (⟨d,gd,now,.l (.store b),az,dd,[]⟩::l) fs st u a i o x B y v G rfl Zd (by
  simp[nx,z]at h;omega)
end
section
variable{κ ν:Type}[br κ][DecidableEq κ][Key κ][br ν]
theorem JJ(n u:Nat)(mp:Mo κ ν)(k:κ)(z:ν){m:aZ β}(h:Le m (b7 S c Q (nx S c n cf λp=>c6 p.st p.d (cv (iD mp k z)))))
 (B:(gq S c n cf).map (λp=>(p.k,bV S.N p.st.g p.az,bh p.st.m u,(!p.dr||p.now||eH p.fr [.mp u,cv k])))=some (.r (.lookup (Key.kk κ) (enc z) false),some [.mp u,cv k],some (iW mp),true):=by kernel_rfl):Le m (b7 S c Q cf):=by
 have⟨p,w,a⟩:=e_ B;simp at a;have⟨b,C⟩:=ig w;have⟨dr,fr,d,gd,now,D,az,dd,l,fs,st⟩:=p;obtain⟨rfl,G,I,J⟩:=a;exact Vn n dr fr (⟨d,gd,now,.r (.lookup (Key.kk κ) (enc z) false),az,dd,[]⟩::l) fs st u mp k z rfl Zd (by
  simp only[nx,w]at h;omega)
theorem TM(n u:Nat)(mp:Mo κ ν)(k:κ)(z:ν){m:aZ β}(h:Le m (b7 S c Q (nx S c n cf λp=>c6 p.st p.d (.v (.tup [enc (iD mp k z),.bool (wK mp k)])))))
 (B:(gq S c n cf).map (λp=>(p.k,bV S.N p.st.g p.az,bh p.st.m u,(!p.dr||p.now||eH p.fr [.mp u,cv k])))=some (.r (.lookup (Key.kk κ) (enc z) true),some [.mp u,cv k],some (iW mp),true):=by kernel_rfl):Le m (b7 S c Q cf):=by
 have⟨p,w,a⟩:=e_ B;simp at a;have⟨b,C⟩:=ig w;have⟨dr,fr,d,gd,now,D,az,dd,l,fs,st⟩:=p;obtain⟨rfl,G,I,J⟩:=a;exact Ug n dr fr (⟨d,gd,now,.r (.lookup (Key.kk κ) (enc z) true),az,dd,[]⟩::l) fs st u mp k z rfl Zd (by
  simp only[nx,w]at h;omega)
theorem KX(n u:Nat)(mp:Mo κ ν)(k:κ)(v:ν){m:aZ β}(h:Le m (b7 S c Q (nx S c n cf λp=>c6 {p.st with m:=bH p.st.m u (iW (kV mp k v))} p.d (.v .undef))))
 (B:(gq S c n cf).map (λp=>(p.k,bV S.N p.st.g p.az,bh p.st.m u,(!p.dr||p.now)))=some (.l (.mapUp (Key.kk κ)),some [.mp u,cv k,cv v],some (iW mp),true):=by kernel_rfl):Le m (b7 S c Q cf):=by
 have⟨p,z,w⟩:=e_ B;simp at w;have⟨a,C⟩:=ig z;have⟨dr,fr,d,gd,now,D,az,dd,l,fs,st⟩:=p;obtain⟨rfl,G,I,J⟩:=w;exact Wt n dr fr (⟨d,gd,now,.l (.mapUp (Key.kk κ)),az,dd,[]⟩::l) fs st u mp k v rfl Zd (by
  simp[nx,z]at h;omega)
end
theorem Vc(n:Nat)(st:St){rs:aY RV}{e:γ->aZ Zu}{r:γ}(svs:Zw){ys:Zu}(B:nX (i_ st.m 8) svs=some ys)(G:e r=some ys)
 (h:(gQ S c n cf.1 cf.2.1 cf.2.2).map (λq=>(q.1,q.2.2,kR q.2.2 rs))=some (.rt,st,some svs):=by kernel_rfl):Le ((some r).bind e) (b7 S c (qu rs) cf):=by
 have⟨⟨fo,fs,st'⟩,u,a⟩:=e_ h;simp at a;obtain⟨rfl,rfl,w⟩:=a;exact Vt n svs B (by rw[u,w]) G
end
end Go.VE
namespace Go.VE
variable[bT]
section
variable{S:Sys}{c:bZ}{β γ δ α:Type}[br α]{Q:Out×St->aZ β}{e:γ->aZ β}{cf:Cf}
def mE(s x:Sl α):aZ (Sl α):=if x.l=[]then some s else if s.l.length+x.l.length<=2147483648 then some (.row (s.l++x.l))else none
theorem Q_(m:Tb bE)(n w:Nat)(x:Sl α)(B:n=br.size α)(G:bh m w=some (cB x)):iS m n (.own w)=some (rows x.l):=by rw[DZ,G,Aq n x B]
theorem HT(l:aY α):rows l=[]↔l=[]:=by unfold rows;simp
theorem OI(a b:aY α):rows a++rows b=rows (a++b):=by unfold rows;simp
theorem Hj(a:aY α):(rows a).length=a.length:=by unfold rows;simp
theorem TH{st:St}{dr now:Zl}{fr:Zv}{az:Z4}{d n o:Nat}{s x:Sl α}{B:SV}(U:bV S.N st.g az=some [.own o,B])(W:(!dr||now)=true)(G:bh st.m o=some (cB s))(Y:iS st.m n B=some (rows x.l))(J:n=br.size α)(O:St.new {st with m:=eo o st.m} d=true):
 fG S c dr fr ⟨some d,none,now,.l (.append n),az,[],[]⟩ st=(mE s x).bind λa=>some {st with g:=bH st.g d (.own d),m:=bH (eo o st.m) d (cB a)}:=by
 rw[uQ,U];simp only[ζb,W,if_true,zX,Q_ st.m n o s J G,Y];unfold mE
 by_cases h:x.l=[]
 .rw[if_pos h,(HT x.l).2 h];simp only[yo,G,if_pos O,ζb];rfl
 rw[if_neg h];have b:rows x.l≠[]:=λe=>h ((HT _).1 e)
 have w:yo st d n (.own o) (some (rows s.l)) (some (rows x.l))=if(rows s.l).length+(rows x.l).length<=2147483648/\HO (.own o)=true then(if St.new {st with m:=giveUp st.m (.own o)} d then some (.own d,{st with m:=bH (giveUp st.m (.own o)) d (.sl .row n (rows s.l++rows x.l))})else none)else none:=by unfold yo;generalize rows x.l=r at *;cases r with|nil=>exact absurd rfl b|cons y r=>rfl
 rw[w,Hj,Hj,OI]
 by_cases u:s.l.length+x.l.length<=2147483648
 .rw[if_pos ⟨u,rfl⟩,if_pos (show St.new {st with m:=giveUp st.m (.own o)} d=true from O),if_pos u];rw[ζb,ζb,J];rfl
 rw[if_neg (λk=>u k.1),if_neg u];rfl
theorem Vq(n o u:Nat)(G:SV){s x:Sl α}{f:Sl α->aZ γ}(J:∀p,gq S c n cf=some p->iS p.st.m (br.size α) G=some (rows x.l))
 (h:∀B,mE s x=some B->Le ((f B).bind e) (b7 S c Q (nx S c n cf λp=>{p.st with g:=bH p.st.g u (.own u),m:=bH (eo o p.st.m) u (cB B)})))
 (O:(gq S c n cf).map (λp=>(p.d,p.k,bV S.N p.st.g p.az,(!p.dr||p.now),bh p.st.m o,St.new {p.st with m:=eo o p.st.m} u))=some (some u,.l (.append (br.size α)),some [.own o,G],true,some (cB s),true):=by kernel_rfl):Le (((mE s x).bind f).bind e) (b7 S c Q cf):=by
 have⟨p,w,a⟩:=e_ O;simp only[ζc]at a;refine vu w ?_ h;rw[a.1,a.2.1];exact Le.of_eq (TH a.2.2.1 a.2.2.2.1 a.2.2.2.2.1 (J p w) rfl a.2.2.2.2.2)
theorem JQ(m:Tb bE)(x:Sl α):iS m (br.size α) (.v (ck x))=some (rows x.l):=by cases x<;>simp[ck,Sl.k,Sl.l,ov,iS,rows]
theorem uk(n o u:Nat){s x:Sl α}{f:Sl α->aZ γ}
 (h:∀B,mE s x=some B->Le ((f B).bind e) (b7 S c Q (nx S c n cf λp=>{p.st with g:=bH p.st.g u (.own u),m:=bH (eo o p.st.m) u (cB B)})))
 (G:(gq S c n cf).map (λp=>(p.d,p.k,bV S.N p.st.g p.az,(!p.dr||p.now),bh p.st.m o,St.new {p.st with m:=eo o p.st.m} u))=some (some u,.l (.append (br.size α)),some [.own o,.v (ck x)],true,some (cB s),true):=by kernel_rfl):Le (((mE s x).bind f).bind e) (b7 S c Q cf):=
 Vq n o u _ (λp _=>JQ p.st.m x) h G
end
theorem qS{α:Type}{l:aY α}{i:Nat}{x:α}(h:l[i]?=some x):l.set i x=l:=by obtain⟨u,rfl⟩:=ζe.1 h;exact List.set_getElem_self u
open Classical in
def Bw(E:Env)(g:Zk)(cb:Zu)(a b:V):aZ V:=if h:∃n y,bW (run E n) g (a::b::cb) []=some y then some (Classical.choose (choose_spec h))else none
theorem Dx{E:Env}{g:Zk}{cb:Zu}{a b y:V}(h:Bw E g cb a b=some y):∃n,∀k,n<=k->bW (run E k) g (a::b::cb) []=some y:=by
 unfold Bw at h;split at h;next c=>cases h;exact⟨_,λk d=>nv (nC E d) (choose_spec (choose_spec c))⟩
 cases h
theorem I9{E:Env}{g:Zk}{cb:Zu}{a b y:V}{n:Nat}(h:bW (run E n) g (a::b::cb) []=some y):Bw E g cb a b=some y:=by have c:∃n y,bW (run E n) g (a::b::cb) []=some y:=⟨n,y,h⟩;cases hc:Bw E g cb a b with|none=>unfold Bw at hc;rw[dif_pos c]at hc;cases hc|some z=>have⟨m,u⟩:=Dx hc;have:=u _ (Nat.le_max_right n m);rw[nv (nC E (Nat.le_max_left n m)) h]at this;cases this;rfl
theorem DV{n:Nat}{p:_root_.Fin n->Nat->Prop}(h:∀i,∃N,∀k,N<=k->p i k):∃N,∀i k,N<=k->p i k:=by induction n with|zero=>exact⟨0,λi=>i.elim0⟩|succ n u=>have⟨N,w⟩:=u (p:=λi=>p i.succ) λi=>h i.succ;have⟨M,z⟩:=h 0;refine⟨max N M,λi k a=>?_⟩;refine _root_.Fin.cases (z k Za) (λj=>w j k Za) i
def jd(x:Zu):V:=x.headD .undef
def tI(es:Nat)(xs:Zt):Zl:=es==1&&xs.all (λx=>x.length==1&&x.all V.one)&&decide (xs.length<=2147483648)
theorem xR{es:Nat}{xs:Zt}(h:tI es xs=true):es=1/\xs.length<=2147483648/\∀(i:Nat)x,xs[i]?=some x->x=[jd x]/\(jd x).one=true:=by unfold tI at h;simp only[ζh,beq_iff_eq,all_eq_true,decide_eq_true_eq]at h;refine⟨h.1.1,h.2,λi x w=>?_⟩;have⟨a,z⟩:=h.1.2 x (mem_of_getElem? w);obtain⟨u,rfl⟩:=List.length_eq_one_iff.1 a;exact⟨rfl,z u Zc⟩
section
variable{H:bl}{Z:Nat->Prop}
theorem c9.Jv{k:Nat}{xs ys:Zu}(h:c9 H Z xs ys)(B:V.kW k xs=true):borrows k H ys=some xs:=j7 h.1 λj u v a b=>(h.2 j u v a b).borrow k (mb.1 B j u a)
theorem c9.borrows{xs ys:Zu}(h:c9 H Z xs ys):∃n,∀k,n<=k->borrows k H ys=some xs:=by have⟨n,u⟩:=lW xs;exact⟨n,λk a=>h.Jv (oE a u)⟩
theorem Mh{es:Nat}{xs:Zt}(h:tI es xs=true){rs:Zt}(B:fZ H Z xs rs):c9 H Z (xs.map jd) rs.flatten:=by induction xs generalizing rs with|nil=>have:=B.1;simp at this;have:rs=[]:=List.eq_nil_of_length_eq_zero (by simpa using this.symm);subst this;exact .nil|cons x xs D=>have⟨d,L,G⟩:=xR h;cases rs with|nil=>have:=B.1;simp at this|cons r rs=>have⟨e,_⟩:=G 0 x rfl;have C:=B.2 0 x r rfl rfl;rw[e]at C;obtain⟨u,O,rfl,c,w⟩:=C.inv;rw[w.cQ];have z:tI es xs=true:=(by unfold tI at h⊢;simp only[all_cons,ζh,length_cons,decide_eq_true_eq]at h⊢;exact⟨⟨h.1.1,h.1.2.2⟩,Za⟩);exact .cons c (D z (rs:=rs) ⟨by have:=B.1;simpa using this,λj a b I J=>B.2 (j+1) a b I J⟩)
end
def rZ(E:Env)(g:Zk)(cb:Zu)(a b:V):Z6:=match Bw E g cb a b with|some (.int .i64 c)=>some c|_=>none
theorem Pa{E:Env}{g:Zk}{cb:Zu}{a b:V}{c:Int}(h:rZ E g cb a b=some c):∃n,∀k,n<=k->bW (run E k) g (a::b::cb) []=some (.int .i64 c):=by
 unfold rZ at h;split at h;next c' hc=>cases h;exact Dx hc
 cases h
def zp(E:Env)(es:Nat)(xs:Zt):Zu->aZ Zt
 |[.clo g [] cb]=>match xs with
  |[]=>some []|x::l=>if tI es (x::l)&& !E.keep g then
   let t:_root_.Fin (l.length+1)->_root_.Fin (l.length+1)->Z6:=λi j=>rZ E g cb (jd (((x::l)[i.1]?).getD [])) (jd (((x::l)[j.1]?).getD []))
   if Au t then some ((qe l.length (oU t)).toList.map λi=>((x::l)[i.1]?).getD [])else none
   else none
 |_=>none
def sM(E:Env):E6:=⟨false,zp E⟩
theorem C5{n:Nat}{lt:_root_.Fin (n+1)->_root_.Fin (n+1)->Zl}(h:Sort.SWO lt):(qe n lt).size=n+1:=by rw[BX];have:=(Sort.pdq_sorts lt h (List.finRange (n+1)).toArray 0 (n+1) (Lib.bitLen (n+1)) true true (zero_le _) Zc (Or.inl rfl)).1.1;simpa using this
theorem Oy{E:Env}{f:Zk}(d:E.keep f=true)(ho:E.own f=false)(A:E.sort f=true)(F:E.ft f=none):nW E f (sM E)where
 keep:=d
 own:=ho
 le:=by intro es xs vs ys h;simp only[sM,zp]at h;split at h;split at h;cases h;exact⟨le_refl _,λ_=>rfl⟩;split at h;split at h;(next o=>cases h;have:=C5 (p_ o).2;simp only[length_map,Array.length_toList,length_cons,this];exact⟨le_refl _,λ_=>trivial⟩);cases h;cases h;cases h
 none:=by intro es vs ys h H Z ws w K he;simp only[sM,zp]at h;split at h;obtain⟨R,r,rfl,V,M⟩:=K.inv;rw[M.cQ];refine⟨1,[],λk d=>?_⟩;(cases k with|zero=>omega|succ k=>rcases he with rfl|rfl<;>simp[run,jD,F,A,qb,sM]);cases h
 row:=by
  intro es xs vs ys h H Z ws id off rs K O C I z hz;simp only[sM,zp]at h;split at h;rename_i g cb;obtain⟨R,r,rfl,V,M⟩:=K.inv;rw[M.cQ];obtain⟨a',J,rfl,q,aa⟩:∃a' J,R=.clo g a' J/\c9 H Z [] a'/\c9 H Z cb J:=V.jQ;rw[q.cQ]at *;split at h;cases h;refine⟨1,rs,[],λk d=>?_,rfl,⟨rfl,λj u v m=>by simp at m⟩,z⟩;cases k with|zero=>omega|succ k=>have:H.set id (.row es rs)=H:=qS O;simp[run,jD,F,A,qb,sM,this]
  rename_i x l;split at h;rename_i D;simp only[ζh,Bool.not_eq_true']at D;obtain⟨c1,c3⟩:=D;obtain⟨rfl,Q,ae⟩:=xR c1;split at h;rename_i o;cases h;obtain⟨G,S⟩:=p_ o;have B:∀i,Z i->Z i/\bq (H.set id .dead) i=bq H i:=λi s=>⟨s,by unfold bq;rw[getElem?_set_ne];rintro rfl;exact hz s⟩;have T:=I.mono B;obtain⟨M1,U⟩:=(Mh c1 T).borrows;simp only[length_cons]at U;obtain⟨M2,W⟩:=(aa.mono B).borrows;obtain⟨N,P⟩:=DV (p:=λi k=>∀j:_root_.Fin (l.length+1),bW (run E k) g (jd (((x::l)[i.1]?).getD [])::jd (((x::l)[j.1]?).getD [])::cb) []=some (.int .i64 ((rZ E g cb (jd (((x::l)[i.1]?).getD [])) (jd (((x::l)[j.1]?).getD []))).getD 0))) (λi=>by
   obtain⟨N,P⟩:=DV (p:=λ(j:_root_.Fin (l.length+1))k=>bW (run E k) g (jd (((x::l)[i.1]?).getD [])::jd (((x::l)[j.1]?).getD [])::cb) []=some (.int .i64 ((rZ E g cb (jd (((x::l)[i.1]?).getD [])) (jd (((x::l)[j.1]?).getD []))).getD 0))) (λj=>by
    obtain⟨c,hc⟩:=G i j;obtain⟨n,hn⟩:=Pa hc;exact⟨n,λk d=>by rw[hn k d,hc];rfl⟩)
   exact⟨N,λk d j=>P j k d⟩)
  have X:∀k,N<=k->iP (run E k) g ((x::l).map jd) cb l.length=λi j=>rZ E g cb (jd (((x::l)[i.1]?).getD [])) (jd (((x::l)[j.1]?).getD [])):=λk d=>by funext i j;obtain⟨c,hc⟩:=G i j;have e1:∀i:_root_.Fin (l.length+1),((x::l).map jd)[i.1]?=some (jd (((x::l)[i.1]?).getD [])):=λi=>(by have:i.1<(x::l).length:=i.2;rw[getElem?_map,ζd this];rfl);unfold iP;rw[e1 i,e1 j];simp only[P i k d j];rw[hc];rfl
  have ab:=C5 S;generalize hL:(qe l.length (oU λi j:_root_.Fin (l.length+1)=>rZ E g cb (jd (((x::l)[i.1]?).getD [])) (jd (((x::l)[j.1]?).getD [])))).toList=L at *;have ad:L.length=l.length+1:=by rw[<-hL];simpa using ab
  simp only[length_cons]at C I Q;refine⟨max N (max M1 M2)+1,qN rs off l.length L,[],λk d=>?_,?_,?_,?_⟩;cases k with|zero=>omega|succ k=>simp only[run,jD,F,A,if_true,qb,O,sM,false_eq_true,if_false,length_cons];rw[if_pos ⟨trivial,trivial,C,Za,c3⟩,show(run E k).lv=k from nE E k,U k Za,W k Za];simp only[X k Za,o,if_true,hL,append_nil]
  simp[qN,ad];omega;have e:((qN rs off l.length L).drop off).take (L.map λi=>((x::l)[i.1]?).getD []).length=L.map λi=>(rs[off+i.1]?).getD []:=by unfold qN;have h0:(rs.take off).length=off:=(by simp;omega);rw[append_assoc,List.drop_append_of_le_length Za,List.drop_eq_nil_of_le Za,nil_append,length_map,List.take_append_of_le_length Zc,take_of_length_le Zc]
  rw[e];refine⟨Zc,λj a b q t=>?_⟩;rw[getElem?_map]at q t;obtain⟨i,s,rfl⟩:=ζf.1 q;rw[s]at t;simp only[map_some,ζa]at t;subst t;have Y:i.1<(x::l).length:=i.2;have y:off+i.1<rs.length:=by have:=i.2;omega
  refine I.2 i.1 _ _ (by rw[ζd Y];rfl) ?_;rw[getElem?_take,if_pos i.2,getElem?_drop,ζd y];rfl;intro c hc u m;unfold qN at hc;rcases mem_append.1 hc with hc|hc;rcases mem_append.1 hc with hc|hc;exact z c (List.mem_of_mem_take hc) u m;obtain⟨i,_,rfl⟩:=mem_map.1 hc;have y:off+i.1<rs.length:=by have:=i.2;omega
  rw[ζd y]at m;exact z _ (getElem_mem y) u m;exact z c (List.mem_of_mem_drop hc) u m;cases h;cases h;cases h
def dW(N:Nat->Zk)(F:Zo):Arg->V
 |.s n=>get F n|.k c=>c|.f s=>.clo (N s) [] []
def gp(E:Env)(N:Nat->Zk)(call:dg)(b:aZ Nat)(now:Zl)(k:K)(vs:Zu)(H:bl):aZ (V×bl):=
 match k,b with
 |.p p,_=>(bJ N p vs).map λv=>(v,H)|.r r,none=>(dS H r vs).map λv=>(v,H)|.r r,some b=>(dS (H.take b) r vs).map λv=>(v,H)|.a a,none=>(iM a vs).map λx=>(x.2.val H.length,H++[x.1])|.l l,none=>eY H l vs|.l (.store n),some _=>if now then eY H (.store n) vs else none|.c,none=>match vs with
  |.clo g a c::u=>if E.keep g then fc E call g (a++u++c) H else match bW call g (a++u++c) H with
   |some y=>if y.scalar then some (y,H)else none|none=>none
  |_=>none
 |.c,some b=>match vs with
  |.clo g a c::u=>if E.keep g then none else match bW call g (a++u++c) (H.take b)with
   |some y=>if y.scalar then some (y,H)else none|none=>none
  |_=>none
 |_,_=>none
def gz(F:Zo):aZ Nat->V->Zo
 |none,_=>F|some d,v=>set F d v
def cq(E:Env)(N:Nat->Zk)(call:dg)(b:aZ Nat):Zy->Zo->bl->aZ (Zo×bl)
 |[],F,H=>some (F,H)|o::r,F,H=>match o.gd with
  |none=>match gp E N call b o.now o.k (o.az.map (dW N F)) H with
   |some (v,H')=>cq E N call b r (gz F o.dst v) H'|none=>none
  |some _=>none
section
variable{X:CX}{N:Nat->Zk}{call:dg}{F F':Zo}{H H':bl}
theorem IX(B:∀f s,X.nm f=some s->N s=f){o:Zr}{x:Arg}(h:oQ X.nm o=some x):ev F o=some (dW N F x):=by cases o with|tmp t=>simp[oQ]at h;subst h;rfl|const w=>simp[oQ]at h;split at h;rename_i c hc;split at h;simp at h;subst h;exact hc;grind;grind|func f=>obtain⟨s,u,rfl⟩:=ζf.1 h;show some (V.clo f [] [])=some (.clo (N s) [] []);grind|global i=>simp[oQ]at h;split at h;rename_i c hc;split at h;simp at h;subst h;simp[ev,hc];rfl;grind;grind
theorem vF(J:∀f s,X.nm f=some s->N s=f):∀{os:aY Zr}{B:Z4},os.mapM (oQ X.nm)=some B->fH F os=some (B.map (dW N F))
 |[],B,h=>by simp at h;subst h;rfl|o::os,B,h=>by simp[ζg]at h;obtain⟨x,O,xs,G,rfl⟩:=h;simp[fH,IX J O,vF J G]
theorem zn(G:∀f s,X.nm f=some s->N s=f){B:Zl}{ops:Zz}{i:Nat}{o:Oper}{ro:RO}(h:mB X B ops i o=some ro)(g:ro.gd=none):
 o.dst=ro.dst/\yj X.nt o.dst=true/\fM ops F o=true/\((AI X.E N F o.op (ro.az.map (dW N F)) ro.k/\ro.now=(B&&dD ops i)/\(B=true->dD ops i=false->∀a',oW ops i a'=[]\/∀t,o.op≠.load t (.tmp a')))\/(∃n,ro.k=.l (.storeF n))\/(∃n a,ro.k=.r (.loadF n a))\/(B=true/\CV X.E ops i=true/\cE o.op=.alloc/\(∃p,ro.k=.p p/\(p=.emptyC\/(∃a b,p=.makeC a b)\/∃a b c d,p=.buildC a b c d)/\∀y,bJ N p (ro.az.map (dW N F))=some y->o4 X.E F o.op=some y))\/∃n,ro.k=.e n):=by
 unfold mB at h;split at h
 .rename_i C;have C:=(Bool.and_eq_true_iff.1 C).1;split at h
  .rename_i gd k os u hr;split at h
   .split at h
    .rename_i z;simp only[ζh]at z;have O:∀{gd:aZ (Nat×Zl)},BU ops o=some gd->gd=none->fM ops F o=true:=λ{gd}u g=>by
      subst g;unfold fM;unfold BU at u
      cases I:o.guard with
      |none=>rfl|some Q=>rw[I]at u;have⟨j,b⟩:=Q;have⟨d,_,e⟩:=ζf.1 u;cases e
     split at h
     next S=>obtain⟨T,D,rfl⟩:=ζf.1 h;have w:=iY G hr (vF (F:=F) G D);exact⟨rfl,C,O u g,.inr (.inr (.inr (.inl ⟨z.1,z.2,w.1,_,rfl,.inr (.inl ⟨_,_,rfl⟩),λy J=>CJ ⟨_,_,_,by assumption⟩ w J⟩)))⟩
     .rename_i S;split at h
      next U=>obtain⟨W,rfl,rfl⟩:=U;obtain⟨T,D,rfl⟩:=ζf.1 h;have w:=iY G hr (vF (F:=F) G D);exact⟨rfl,C,O u g,.inr (.inr (.inr (.inl ⟨z.1,z.2,w.1,_,rfl,.inl rfl,λy J=>CT ⟨_,_,_,by assumption⟩ w W J⟩)))⟩
      obtain⟨T,D,rfl⟩:=ζf.1 h;have w:=iY G hr (vF (F:=F) G D);exact⟨rfl,C,O u g,.inr (.inr (.inr (.inl ⟨z.1,z.2,w.1,_,rfl,.inr (.inr ⟨_,_,_,_,rfl⟩),λy J=>Dm ⟨_,_,_,by assumption⟩ w J⟩)))⟩
     cases h
    obtain⟨T,D,rfl⟩:=ζf.1 h;simp only at g;subst g;refine⟨rfl,C,?_,?_⟩
    .unfold fM;unfold BU at u
     cases I:o.guard with
     |none=>rfl|some Q=>rw[I]at u;have⟨j,b⟩:=Q;have⟨d,_,e⟩:=ζf.1 u;cases e
    rcases Ch B ops i k os with⟨e,Y⟩|⟨_,_,n,a,l,Z,_,_,_,e⟩|⟨_,_,n,ag,a,_,_,e⟩|⟨_,_,_,n,_,e⟩
    .rw[e]at D⊢;refine .inl ⟨iY G hr (vF G D),rfl,λC m a'=>?_⟩
     by_cases L:∃t,o.op=.load t (.tmp a')
     .have⟨t,L⟩:=L;rw[L]at hr;simp only[resolve]at hr;have⟨d,_,e⟩:=ζf.1 hr;simp only[ζc]at e;exact .inl (Y _ _ a' C m e.1.symm e.2.symm)
     exact .inr λt h=>L ⟨t,h⟩
    .rw[e];exact .inr (.inl ⟨n,rfl⟩)
    .rw[e];exact .inr (.inr (.inl ⟨n,ag,rfl⟩))
    rw[e];exact .inr (.inr (.inr (.inr ⟨n,rfl⟩)))
   simp at h
  simp at h
 simp at h
theorem Hi{a:Nat}{dst:aZ Nat}(h:yj a dst=true)(v:V):jM a F dst v=some (gz F dst v):=by cases dst with|none=>rfl|some d=>simp[yj]at h;simp[jM,if_pos h,gz]
theorem T0(J:∀f s,X.nm f=some s->N s=f){ops:Zz}{i:Nat}{o:Oper}{ro:RO}(h:mB X false ops i o=some ro)(q:ro.gd=none){v:V}(d:gp X.E N call none ro.now ro.k (ro.az.map (dW N F)) H=some (v,H')):
 gm X.E call X.nt ops none o F H=some (gz F ro.dst v,H'):=by
 have⟨j,I,L,u⟩:=zn (F:=F) J h q;have O:cK X.E call ops none F H o.op=some (v,H'):=by
  rcases u with⟨u,_⟩|⟨n,u⟩|⟨n,a,u⟩|⟨u,_⟩|⟨n,u⟩;generalize t:ro.k=k at d u;generalize ro.az.map (dW N F)=W at d u;unfold cK;cases k with|p p=>have⟨c,e⟩:=u;have⟨w,B,C⟩:=ζf.1 d;rw[c];simp only[yz (e w B),map_some];rw[C]|r r=>have⟨c,e⟩:=u;have⟨w,B,C⟩:=ζf.1 d;rw[c];simp only[e H w B,map_some];rw[C]|a a=>have⟨c,e⟩:=u;have⟨⟨ob,m⟩,B,C⟩:=ζf.1 d;rw[c];simp only[nk,false_eq_true,if_false,e _ B];exact congrArg some C|l l=>have⟨c,e⟩:=u;rw[c];exact e H _ d|e n=>exact u.elim|b=>simp[gp]at d|c=>obtain⟨c,f,Q,rfl,e⟩:=u;rw[c];simp only[gp]at d;split at d;rename_i g a b S D;simp only[List.cons.injEq]at D;obtain⟨rfl,rfl⟩:=D;split at d;(next z=>simp only[e,vj,dY,kG,z,Bool.and_self,if_true];exact d);rename_i z;split at d;rename_i y T;split at d;(next G=>simp only[e,vj,dY,kG,z,Bool.false_and,false_eq_true,if_false,T,G,if_true];exact d);simp at d;simp at d;simp at d
  .rw[u]at d;exfalso;have:∀ops i k os,(wO false ops i k os).1=k:=λ_ _ _ _=>rfl;unfold mB at h;simp only[Bool.false_and,false_eq_true,if_false,Bool.not_false,Bool.and_true]at h;split at h
   .split at h
    .rename_i gd k os U hr;split at h
     .obtain⟨Q,Y,rfl⟩:=ζf.1 h;simp only[this]at u;subst u;unfold resolve at hr;(repeat' split at hr)<;>first|(simp at hr;done)|(have⟨_,_,e⟩:=ζf.1 hr;simp at e;done)
     simp at h
    simp at h
   first|(simp at h;done)|contradiction
  rw[u]at d;simp[gp,dS]at d;cases u;rw[u]at d;simp[gp]at d
 unfold gm;rw[L,if_pos rfl,O];simp only[j,Hi (j▸I),map_some]
theorem Gz(G:∀f s,X.nm f=some s->N s=f){ops:Zz}:∀(rest:Zz){i:Nat}{B:Zy}{F:Zo}{H:bl},kM X false ops i rest=some B->cq X.E N call none B F H=some (F',H')->lZ X.E call X.nt ops rest F H=some (F',H')
 |[],i,B,F,H,hc,h=>by simp[kM]at hc;subst hc;exact h|o::rest,i,B,F,H,hc,h=>by simp[kM]at hc;split at hc;rename_i ro rs a J;simp at hc;subst hc;simp[cq]at h;split at h;rename_i b;split at h;(next v H1 c=>simp[lZ,T0 G a b c];exact Gz G rest J h);grind;grind;grind
theorem Sf{ops:Zz}{i:Nat}{op:Op}(h:∀t a',op=.load t (.tmp a')->oW ops i a'=[]):nM ops i F op=true:=by unfold nM;grind
theorem Un(Y:∀f s,X.nm f=some s->N s=f){ops:Zz}{b i:Nat}{o:Oper}(m:ops[i]?=some o){ro:RO}(h:mB X true ops i o=some ro)(q:ro.gd=none){v:V}(d:gp X.E N call (some b) ro.now ro.k (ro.az.map (dW N F)) H=some (v,H')):
 gm X.E call X.nt ops (some (b,i)) o F H=some (gz F ro.dst v,H'):=by
 have⟨j,Z,x,u⟩:=zn (F:=F) Y h q;have A:cK X.E call ops (some (b,i)) F H o.op=some (v,H'):=by
  rcases u with⟨u,z,B⟩|⟨n,u⟩|⟨n,a,u⟩|⟨_,I,J,p,u,_,L⟩|⟨n,u⟩;generalize K:ro.k=k at d u;generalize ro.az.map (dW N F)=vs at d u;unfold cK
  cases k with
  |p p=>have⟨c,e⟩:=u;have⟨w,C,D⟩:=ζf.1 d;rw[c];simp only[yz (e w C),map_some];rw[D]|r r=>have⟨c,e⟩:=u;have⟨w,C,D⟩:=ζf.1 d;have O:nM ops i F o.op=true:=Sf λt a' e=>(by by_cases U:dD ops i=true;exact Cz m e U;rcases B rfl (by simpa using U) a' with h|h;exact h;exact absurd e (h t));rw[c];simp only[e _ w C,O,if_true];rw[D]|a a=>simp[gp]at d|l l=>have⟨c,e⟩:=u;cases l with|store n=>simp only[gp]at d;split at d;(next W=>rw[z,Bool.true_and]at W;rw[c];simp only[W,Bool.true_or,if_true];exact e H _ d);simp at d|_=>simp[gp]at d
  |e n=>exact u.elim|b=>simp[gp]at d|c=>obtain⟨c,f,M,rfl,e⟩:=u;rw[c];simp only[gp]at d;split at d;rename_i g a b P G;simp only[List.cons.injEq]at G;obtain⟨rfl,rfl⟩:=G;split at d;simp at d;rename_i Q;split at d;rename_i y E;split at d;(next S=>simp only[e,vj,Eb h rfl c,Bool.not_false,Bool.true_or,dY,kG,Q,Bool.false_and,false_eq_true,if_false,E,S,if_true];exact d);simp at d;simp at d;simp at d
  rw[u]at d;simp[gp]at d;rw[u]at d;simp[gp,dS]at d;rw[u]at d;have⟨w,C,D⟩:=ζf.1 d;have T:=L w C;unfold cK;rw[J];simp only[nk,I,if_true,T,map_some];exact congrArg some D;rw[u]at d;simp[gp]at d
 unfold gm;rw[x,if_pos rfl,A];simp only[j,Hi (j▸Z),map_some]
theorem Hr(G:∀f s,X.nm f=some s->N s=f){ops:Zz}{b:Nat}:∀(rest:Zz){i:Nat}{B:Zy}{F:Zo}{H:bl},ops.drop i=rest->kM X true ops i rest=some B->cq X.E N call (some b) B F H=some (F',H')->
 jJ X.E call X.nt ops b (range' i rest.length) F H=some (F',H')
 |[],i,B,F,H,_,hc,h=>by simp[kM]at hc;subst hc;exact h|o::rest,i,B,F,H,O,hc,h=>by simp[kM]at hc;split at hc;rename_i ro rs a U;simp at hc;subst hc;simp[cq]at h;split at h;rename_i c;split at h;rename_i v H1 d;have J:ops[i]?=some o:=(by have:(ops.drop i)[0]?=some o:=Zd;grind);have u:ops.drop (i+1)=rest:=(by rw[<-List.drop_drop,O];rfl);simp[List.range'_succ,jJ,J,Un G J a c d];exact Hr G rest u U h;grind;grind;grind
def w6(l:Zy):Zl:=l.all λo=>(match o.k with|.a _|.l (.storeF _)|.r (.loadF ..)|.p (.makeC ..)|.p (.buildC ..)|.p .emptyC|.e _=>false|_=>true)&&o.gd.isNone
theorem Cj(O:∀f s,X.nm f=some s->N s=f){ops:Zz}:∀(rest:Zz){i:Nat}{J:Zy},kM X true ops i rest=some J->w6 J=true->rest.any (λo=>cE o.op==.alloc)=false
 |[],_,_,_,_=>rfl|o::rest,i,J,hc,G=>by simp only[kM]at hc;split at hc;rename_i ro rs c U;simp only[ζa]at hc;subst hc;simp only[w6,all_cons,ζh,Option.isNone_iff_eq_none]at G;have⟨_,_,_,B⟩:=zn (F:=[]) O c G.1.2;rw[List.any_cons,Cj O rest U G.2,Bool.or_false];rcases B with⟨B,_⟩|⟨n,B⟩|⟨n,a,B⟩|⟨_,_,_,p,B,u,_⟩|⟨n,B⟩;(cases b:ro.k with|a p=>have:=G.1.1;rw[b]at this;cases this|e p=>have:=G.1.1;rw[b]at this;cases this|_=>rw[b]at B;rw[B.1];rfl);have:=G.1.1;rw[B]at this;cases this;have:=G.1.1;rw[B]at this;cases this;have:=G.1.1;rw[B]at this;rcases u with rfl|⟨_,_,rfl⟩|⟨_,_,_,_,rfl⟩<;>cases this;have:=G.1.1;rw[B]at this;cases this;simp at hc
def gU(E:Env)(N:Nat->Zk)(call:dg)(lf:Nat):RC->Zo->bl->aZ (Out×Zo×bl)
 |.skip,F,H=>some (.norm,F,H)|.ops l,F,H=>(cq E N call none l F H).map λx=>(.norm,x.1,x.2)|.oS l,F,H=>if w6 l then(cq E N call (some H.length) l F H).map λx=>(.norm,x.1,x.2)else none|.seq a b,F,H=>match gU E N call lf a F H with
  |some (.norm,F',H')=>gU E N call lf b F' H'|r=>r
 |.cond x a b,F,H=>match dW N F x with
  |.bool t=>if t then gU E N call lf a F H else gU E N call lf b F H|_=>none
 |.block id c,F,H=>match gU E N call lf c F H with
  |some (.exit B,F',H')=>if B=id then some (.norm,F',H')else some (.exit B,F',H')|r=>r
 |.loop c,F,H=>kz (gU E N call lf c) lf F H|.exit id,F,H=>some (.exit id,F,H)|.ret,F,H=>some (.ret,F,H)|_,_,_=>none
theorem Hf{f g:Zo->bl->aZ (Out×Zo×bl)}(h:∀F H r,f F H=some r->g F H=some r):∀(k:Nat)(F:Zo)(H:bl)(r:Out×Zo×bl),kz f k F H=some r->kz g k F H=some r
 |0,F,H,r,hr=>by simp[kz]at hr|k+1,F,H,r,hr=>by simp only[kz]at hr⊢;cases B:f F H with|none=>rw[B]at hr;simp at hr|some q=>rw[B]at hr;rw[h F H q B];have⟨o,F1,H1⟩:=q;cases o with|norm=>exact Hf h k F1 H1 r hr|exit _=>exact hr|ret=>exact hr
theorem PT(G:∀f s,X.nm f=some s->N s=f){lf:Nat}:∀(g:RC)(code:Code)(F:Zo)(H:bl)(r:Out×Zo×bl),bL X false code=some g->gU X.E N call lf g F H=some r->exec X.E call lf false X.nt code F H=some r:=by
 intro g
 induction g with
 |skip=>
  intro code F H r hc h;simp only[gU,ζa]at h;subst h
  cases code with
  |skip=>rfl|label _=>rfl|region id ops u=>simp only[bL]at hc;(repeat' split at hc)<;>first|(simp at hc;done)|(have⟨_,_,e⟩:=ζf.1 hc;cases e)
  |_=>simp only[bL]at hc;(repeat' split at hc)<;>first|(simp at hc;done)|(have⟨_,_,e⟩:=ζf.1 hc;cases e)|cases hc
 |ops l=>intro code F H r hc h;cases code with|region id ops u=>simp only[bL]at hc;split at hc;split at hc;have⟨_,_,e⟩:=ζf.1 hc;cases e;simp at hc;rename_i I;have⟨U,D,e⟩:=ζf.1 hc;cases e;simp only[gU]at h;obtain⟨⟨F',H'⟩,j,rfl⟩:=ζf.1 h;simp only[exec,js,I];rw[if_neg Zc,Gz G _ D j];rfl|_=>simp only[bL]at hc;(repeat' split at hc)<;>first|(simp at hc;done)|(have⟨_,_,e⟩:=ζf.1 hc;cases e)|cases hc
 |oS l=>intro code F H r hc h;cases code with|region id ops u=>simp only[bL]at hc;split at hc;rename_i I;split at hc;rename_i J;have⟨U,D,e⟩:=ζf.1 hc;cases e;simp only[gU]at h;split at h;(next W=>obtain⟨⟨F',H'⟩,j,rfl⟩:=ζf.1 h;have Y:qY ops.toList=false:=Cj G _ D W;have:=Hr G ops.toList (i:=0) rfl D j;rw[<-List.range_eq_range']at this;simp only[exec,js,I,J,if_true,Y,false_eq_true,if_false,this];rfl);simp at h;simp at hc;have⟨_,_,e⟩:=ζf.1 hc;cases e|_=>simp only[bL]at hc;(repeat' split at hc)<;>first|(simp at hc;done)|(have⟨_,_,e⟩:=ζf.1 hc;cases e)|cases hc
 |seq a b w B=>
  intro code F H r hc h
  cases code with
  |seq L O=>simp only[bL]at hc;split at hc;rename_i x y C Q;cases hc;simp only[gU]at h;simp only[exec];(cases d:gU X.E N call lf a F H with|none=>rw[d]at h;simp at h|some q=>rw[d]at h;rw[w L F H q C d];have⟨o,F1,H1⟩:=q;cases o with|norm=>exact B O F1 H1 r Q h|exit _=>exact h|ret=>exact h);simp at hc
  |region id ops u=>simp only[bL]at hc;(repeat' split at hc)<;>first|(simp at hc;done)|(have⟨_,_,e⟩:=ζf.1 hc;cases e)
  |_=>simp only[bL]at hc;(repeat' split at hc)<;>first|(simp at hc;done)|(have⟨_,_,e⟩:=ζf.1 hc;cases e)|cases hc
 |cond x a b w B=>
  intro code F H r hc h
  cases code with
  |cond c L O=>simp only[bL]at hc;split at hc;rename_i n y z C Q Z;cases hc;simp only[gU]at h;simp only[exec,IX (F:=F) G C];split at h;rename_i t k;rw[k];(cases t with|true=>simp only[if_true]at h⊢;exact w L F H r Q h|false=>simp only[false_eq_true,if_false]at h⊢;exact B O F H r Z h);simp at h;simp at hc
  |region id ops u=>simp only[bL]at hc;(repeat' split at hc)<;>first|(simp at hc;done)|(have⟨_,_,e⟩:=ζf.1 hc;cases e)
  |_=>simp only[bL]at hc;(repeat' split at hc)<;>first|(simp at hc;done)|(have⟨_,_,e⟩:=ζf.1 hc;cases e)|cases hc
 |block id c S=>
  intro code F H r hc h
  cases code with
  |block T c'=>simp only[bL]at hc;have⟨x,C,e⟩:=ζf.1 hc;cases e;simp only[gU]at h;simp only[exec];cases d:gU X.E N call lf c F H with|none=>rw[d]at h;simp at h|some q=>rw[d]at h;rw[S c' F H q C d];exact h
  |region id ops u=>simp only[bL]at hc;(repeat' split at hc)<;>first|(simp at hc;done)|(have⟨_,_,e⟩:=ζf.1 hc;cases e)
  |_=>simp only[bL]at hc;(repeat' split at hc)<;>first|(simp at hc;done)|(have⟨_,_,e⟩:=ζf.1 hc;cases e)|cases hc
 |loop c S=>
  intro code F H r hc h
  cases code with
  |loop c'=>simp only[bL]at hc;have⟨x,C,e⟩:=ζf.1 hc;cases e;simp only[gU]at h;simp only[exec];exact Hf (λF H r m=>S c' F H r C m) lf F H r h|region id ops u=>simp only[bL]at hc;(repeat' split at hc)<;>first|(simp at hc;done)|(have⟨_,_,e⟩:=ζf.1 hc;cases e)
  |_=>simp only[bL]at hc;(repeat' split at hc)<;>first|(simp at hc;done)|(have⟨_,_,e⟩:=ζf.1 hc;cases e)|cases hc
 |exit id=>
  intro code F H r hc h
  cases code with
  |exit T=>simp only[bL,ζa,RC.exit.injEq]at hc;subst hc;exact h|region id ops u=>simp only[bL]at hc;(repeat' split at hc)<;>first|(simp at hc;done)|(have⟨_,_,e⟩:=ζf.1 hc;cases e)
  |_=>simp only[bL]at hc;(repeat' split at hc)<;>first|(simp at hc;done)|(have⟨_,_,e⟩:=ζf.1 hc;cases e)|cases hc
 |ret=>
  intro code F H r hc h
  cases code with
  |ret=>exact h|region id ops u=>simp only[bL]at hc;(repeat' split at hc)<;>first|(simp at hc;done)|(have⟨_,_,e⟩:=ζf.1 hc;cases e)
  |_=>simp only[bL]at hc;(repeat' split at hc)<;>first|(simp at hc;done)|(have⟨_,_,e⟩:=ζf.1 hc;cases e)|cases hc
 |_=>intro code F H r hc h;simp[gU]at h
end
def Ex(E:Env)(N:Nat->Zk)(a:RC)(F:Zo)(H:bl)(o:Out)(F':Zo)(H':bl):Prop:=∃n,∀k,n<=k->gU E N (run E k) k a F H=some (o,F',H')
def lP(E:Env)(N:Nat->Zk)(a:RC)(F:Zo)(H:bl)(o:Out)(F':Zo)(H':bl):Prop:=∃n,∀k,n<=k->∀u,n<=u->kz (gU E N (run E k) k a) u F H=some (o,F',H')
section
variable{E:Env}{N:Nat->Zk}{a b c:RC}{F F1 F':Zo}{H H1 H':bl}{o:Out}{x:Arg}{id:Nat}
theorem Ex.ops{l:Zy}(h:∃n,∀k,n<=k->cq E N (run E k) none l F H=some (F',H')):Ex E N (.ops l) F H .norm F' H':=let⟨n,h⟩:=h;⟨n,λk a=>by simp only[gU,h k a,map_some]⟩
theorem Ex.cR{l:Zy}(h:∀call,cq E N call none l F H=some (F',H')):Ex E N (.ops l) F H .norm F' H':=Ex.ops ⟨0,λk _=>h _⟩
theorem Ex.oS{l:Zy}(B:w6 l=true)(h:∀call,cq E N call (some H.length) l F H=some (F',H')):Ex E N (.oS l) F H .norm F' H':=⟨0,λk _=>by simp only[gU,B,if_true,h,map_some]⟩
theorem Ex.JH{l:Zy}(B:w6 l=true)(h:∃n,∀k,n<=k->cq E N (run E k) (some H.length) l F H=some (F',H')):Ex E N (.oS l) F H .norm F' H':=let⟨n,h⟩:=h;⟨n,λk a=>by simp only[gU,B,if_true,h k a,map_some]⟩
theorem Ex.skip:Ex E N .skip F H .norm F H:=⟨0,λ_ _=>rfl⟩
theorem Ex.exit:Ex E N (.exit id) F H (.exit id) F H:=⟨0,λ_ _=>rfl⟩
theorem Ex.ret:Ex E N .ret F H .ret F H:=⟨0,λ_ _=>rfl⟩
theorem Ex.seq(c:Ex E N a F H .norm F1 H1)(B:Ex E N b F1 H1 o F' H'):Ex E N (.seq a b) F H o F' H':=by have⟨n,c⟩:=c;have⟨m,B⟩:=B;exact⟨max n m,λk d=>by simp only[gU,c k Za];exact B k Za⟩
theorem Ex.tD(c:Ex E N a F H o F' H')(B:o≠.norm):Ex E N (.seq a b) F H o F' H':=by have⟨n,c⟩:=c;refine⟨n,λk d=>?_⟩;simp only[gU,c k d];cases o<;>first|exact absurd rfl B|rfl
theorem Ex.mK(B:dW N F x=.bool true)(h:Ex E N a F H o F' H'):Ex E N (.cond x a b) F H o F' H':=by have⟨n,h⟩:=h;exact⟨n,λk c=>by simp only[gU,B,if_true,h k c]⟩
theorem Ex.o9(B:dW N F x=.bool false)(h:Ex E N b F H o F' H'):Ex E N (.cond x a b) F H o F' H':=by have⟨n,h⟩:=h;exact⟨n,λk c=>by simp only[gU,B,false_eq_true,if_false,h k c]⟩
theorem Ex.block(h:Ex E N c F H .norm F' H'):Ex E N (.block id c) F H .norm F' H':=by have⟨n,h⟩:=h;exact⟨n,λk a=>by simp only[gU,h k a]⟩
theorem Ex.tW(h:Ex E N c F H (.exit id) F' H'):Ex E N (.block id c) F H .norm F' H':=by have⟨n,h⟩:=h;exact⟨n,λk a=>by simp only[gU,h k a,if_true]⟩
theorem Ex.LZ(h:Ex E N c F H .ret F' H'):Ex E N (.block id c) F H .ret F' H':=by have⟨n,h⟩:=h;exact⟨n,λk a=>by simp only[gU,h k a]⟩
theorem Ex.loop(h:lP E N c F H o F' H'):Ex E N (.loop c) F H o F' H':=by have⟨n,h⟩:=h;exact⟨n,λk a=>h k a k a⟩
theorem lP.step(a:Ex E N c F H .norm F1 H1)(B:lP E N c F1 H1 o F' H'):lP E N c F H o F' H':=by have⟨n,a⟩:=a;have⟨m,B⟩:=B;refine⟨max n m+1,λk b u w=>?_⟩;cases u with|zero=>omega|succ u=>simp only[kz,a k Za];exact B k Za u Za
theorem lP.stop(a:Ex E N c F H o F' H')(B:o≠.norm):lP E N c F H o F' H':=by have⟨n,a⟩:=a;refine⟨n+1,λk b u w=>?_⟩;cases u with|zero=>omega|succ u=>simp only[kz,a k Za];cases o<;>first|exact absurd rfl B|rfl
end
theorem Ex.run{E:Env}{nm:Zk->aZ Nat}{N:Nat->Zk}(B:∀f s,nm f=some s->N s=f){f:Zk}{fi:FI}{a:RC}(G:E.ft f=some fi)(hc:bL ⟨E,nm,fi.ntmps⟩ false fi.body=some a){args:Zu}(J:args.length<=fi.ntmps){H H':bl}{F':Zo}
 (h:Ex E N a args H .ret F' H'){vs:Zu}(b:iq E F' H' fi.results=some vs):∃n,run E n (.fn f) args H=some (result vs,H'):=by
 have⟨n,h⟩:=h;refine⟨n+1,?_⟩;have:=PT (X:=⟨E,nm,fi.ntmps⟩) (call:=Go.VE.run E n) B (lf:=n) a fi.body args H _ hc (h n (le_refl _));simp only[Go.VE.run,jD,G,if_pos J,this,b,map_some]
@[simp] theorem kS(F:Zo)(i j:Nat)(v:V):get (set F i v) j=if i=j then v else get F j:=by
 split;next h=>subst h;exact sw F i v
 rename_i h;exact ja F v h
def refs:Zv->Zt->Zt
 |id::ids,r::rs=>[V.hsl id 1 0 r.length]::refs ids rs|_,_=>[]
def jo(r:Zu):Zt:=r.map λu=>[u]
structure mj(H:bl)(w:V)(o:Nat)(ids:List Nat)(rows:List (List V)):Prop where
 v:w=if rows=[]then .bG else .hsl o 1 0 rows.length
 ob:rows≠[]->H[o]?=some (.row 1 (refs ids rows))
 len:ids.length=rows.length
 r:∀(i id:Nat)(r:List V),ids[i]?=some id->rows[i]?=some r->H[id]?=some (.row 1 (jo r))
 nd:ids.Nodup
 ne:rows≠[]->o∉ids
theorem th:∀{ids:Zv}{rows:Zt},ids.length=rows.length->(refs ids rows).length=rows.length
 |[],[],_=>rfl|_::ids,_::rows,h=>by simp only[refs,length_cons,th (ids:=ids) (rows:=rows) (by simpa using h)]
theorem Hy:∀{ids:Zv}{rows:Zt}(id:Nat)(r:Zu),ids.length=rows.length->refs (ids++[id]) (rows++[r])=refs ids rows++[[V.hsl id 1 0 r.length]]
 |[],[],_,_,_=>rfl|_::ids,_::rows,id,r,h=>by simp only[refs,List.cons_append,Hy (ids:=ids) (rows:=rows) id r (by simpa using h)]
theorem BF:∀{ids:Zv}{rows:Zt}{i id:Nat}{r:Zu},ids[i]?=some id->rows[i]?=some r->(refs ids rows)[i]?=some [V.hsl id 1 0 r.length]
 |[],_,_,_,_,h,_=>by simp at h|_::_,[],_,_,_,_,h=>by simp at h|a::ids,b::rows,0,id,r,h1,B=>by simp at h1 B;subst h1 B;rfl|a::ids,b::rows,i+1,id,r,h1,B=>by simpa[refs]using BF (ids:=ids) (rows:=rows) (i:=i) (by simpa using h1) (by simpa using B)
theorem HS:∀{ids:Zv}{rows:Zt}{i:Nat}{r B:Zu},rows[i]?=some r->B.length=r.length->refs ids (rows.set i B)=refs ids rows
 |[],_,_,_,_,_,_=>by simp[refs]|_::_,[],_,_,_,_,_=>by simp[refs]|a::ids,b::rows,0,r,B,h,G=>by simp at h;subst h;simp only[List.set_cons_zero,refs,G]|a::ids,b::rows,i+1,r,B,h,G=>by simp only[List.set_cons_succ,refs,HS (ids:=ids) (rows:=rows) (i:=i) (by simpa using h) G]
section
variable{H H':bl}{v:V}{o:Nat}{ids:Zv}{rows:Zt}
theorem mj.nil(H:bl)(o:Nat):mj H .bG o [] []:=⟨rfl,λh=>absurd rfl h,rfl,λi id r h=>by simp at h,.nil,λh=>absurd rfl h⟩
theorem mj.heap(n:mj H v o ids rows)(B:rows≠[]->H'[o]?=H[o]?)(G:∀id∈ids,H'[id]?=H[id]?):mj H' v o ids rows:=⟨n.v,λh=>by rw[B h];exact n.ob h,n.len,λi id r h1 u=>by rw[G id (mem_of_getElem? h1)];exact n.r i id r h1 u,n.nd,n.ne⟩
theorem mj.lt(n:mj H v o ids rows):(rows≠[]->o<H.length)/\∀id∈ids,id<H.length:=by refine⟨λh=>(ζe.1 (n.ob h)).1,λid u=>?_⟩;have⟨i,w⟩:=getElem?_of_mem u;have z:=(ζe.1 w).1;have:=n.r i id _ w (ζd (show i<rows.length from n.len▸z));exact(ζe.1 this).1
theorem mj.more(n:mj H v o ids rows)(X:bl):mj (H++X) v o ids rows:=n.heap (λh=>getElem?_append_left (n.lt.1 h)) λid u=>getElem?_append_left (n.lt.2 id u)
theorem mj.push(n:mj H v o ids rows)(r:Zu)(U:rows.length+1<=2147483648):
 ∃H',eY (H++[.row 1 (jo r)]++[.row 1 [[.hsl H.length 1 0 r.length]]]) (.append 1) [v,.hsl (H.length+1) 1 0 1]=some (.hsl (H.length+2) 1 0 (rows.length+1),H')/\
  mj H' (.hsl (H.length+2) 1 0 (rows.length+1)) (H.length+2) (ids++[H.length]) (rows++[r])/\H.length<=H'.length/\(∀id,id<H.length->id≠o\/rows=[]->H'[id]?=H[id]?):=by
 generalize D:H++[.row 1 (jo r)]++[.row 1 [[.hsl H.length 1 0 r.length]]]=H2;have u:H2.length=H.length+2:=by subst D;simp
 have B:∀id,id<H.length->H2[id]?=H[id]?:=λid h=>by subst D;rw[append_assoc,getElem?_append_left h]
 have g:H2[H.length]?=some (.row 1 (jo r)):=by subst D;simp
 have W:H2[H.length+1]?=some (.row 1 [[.hsl H.length 1 0 r.length]]):=by subst D;simp
 have f:=n.v;have e2:dz H2 1 (.hsl (H.length+1) 1 0 1)=some [[.hsl H.length 1 0 r.length]]:=by simp[dz,W,Ob.rows]
 by_cases c:rows=[]
 .subst c;rw[if_pos rfl]at f;subst f;have:ids=[]:=List.eq_nil_of_length_eq_zero n.len;subst this;refine⟨H2++[.row 1 [[.hsl H.length 1 0 r.length]]],?_,⟨Zc,λ_=>by rw[<-u];simp[refs],rfl,λi id Q z w=>?_,Zc,λ_=>Zc⟩,by simp[u];omega,λid G _=>?_⟩
  .have e1:dz H2 1 .bG=some []:=rfl;simp only[eY,e1,e2,gF,List.length_nil,length_singleton,map_some,u];simp
  .cases i with
   |zero=>simp at z w;subst z w;rw[getElem?_append_left Za];exact g|succ i=>simp at z
  rw[getElem?_append_left Za];exact B id G
 rw[if_neg c]at f;subst f;have S:=n.ob c;have J:=n.lt.1 c;have e1:dz H2 1 (.hsl o 1 0 rows.length)=some (refs ids rows):=by simp only[dz,if_true,B o J,S,ζb,Ob.rows,th n.len,zero_add,le_refl,drop_zero];rw[take_of_length_le (by rw[th n.len];exact le_refl _)]
 have X:gF H2 (.hsl o 1 0 rows.length)=some (H2.set o .dead):=by simp only[gF,B o J,S]
 have C:∀id,id≠o->(H2.set o Ob.dead++[Ob.row 1 (refs ids rows++[[.hsl H.length 1 0 r.length]])])[id]?=if id<H2.length then H2[id]?else(H2.set o Ob.dead++[Ob.row 1 (refs ids rows++[[.hsl H.length 1 0 r.length]])])[id]?:=λid I=>by split;(next h=>rw[getElem?_append_left (by simpa using h),getElem?_set_ne (Ne.symm I)]);rfl
 refine⟨H2.set o .dead++[.row 1 (refs ids rows++[[.hsl H.length 1 0 r.length]])],?_,⟨Zc,λ_=>?_,by simp[n.len],λi id Q z w=>?_,?_,λ_ d=>?_⟩,by simp[u];omega,λid G I=>?_⟩
 .simp only[eY,e1,e2,X,th n.len,length_singleton,U,if_true,map_some,u]
 .rw[Hy _ _ n.len,<-u];simp
 .have L:id≠o:=by
   rcases Nat.lt_or_ge i ids.length with h|h
   .rw[getElem?_append_left h]at z;intro e;subst e;exact n.ne c (mem_of_getElem? z)
   have:i=ids.length:=by have:=(ζe.1 z).1;simp at this;omega
   subst this;simp at z;subst z;omega
  rcases Nat.lt_or_ge i ids.length with h|h
  .rw[getElem?_append_left h]at z;rw[getElem?_append_left (by rw[<-n.len];exact h)]at w
   have O:=n.lt.2 id (mem_of_getElem? z);rw[C id L,if_pos Za,B id O]
   exact n.r i id Q z w
  have:i=ids.length:=by have:=(ζe.1 z).1;simp at this;omega
  subst this;simp at z;subst z;rw[n.len]at w;simp at w;subst w;rw[C _ L,if_pos Za];exact g
 .rw[List.nodup_append];exact⟨n.nd,Zc,λa Y b T=>by simp at T;subst T;exact Nat.ne_of_lt (n.lt.2 a Y)⟩
 .rcases mem_append.1 d with d|d
  .have:=n.lt.2 _ d;omega
  simp at d
 rw[C id (I.resolve_right c),if_pos Za];exact B id G
end
theorem AG{E:Env}{N:Nat->Zk}{F:Zo}{H H1:bl}{call:dg}{b:aZ Nat}{o:RO}{l:Zy}{v:V}{r:Zo×bl}(a:o.gd=none)(c:gp E N call b o.now o.k (o.az.map (dW N F)) H=some (v,H1))(h:cq E N call b l (gz F o.dst v) H1=some r):cq E N call b (o::l) F H=some r:=by simp only[cq,a,c];exact h
theorem vp{E:Env}{N:Nat->Zk}{F:Zo}{H:bl}{call:dg}{b:aZ Nat}{o:RO}{l:Zy}{v:V}{r:Zo×bl}(a:o.gd=none)(c:gp E N call b o.now o.k (o.az.map (dW N F)) H=some (v,H))(h:cq E N call b l (gz F o.dst v) H=some r):cq E N call b (o::l) F H=some r:=AG a c h
theorem qT{E:Env}{N:Nat->Zk}{F:Zo}{H:bl}{call:dg}{b:aZ Nat}:cq E N call b [] F H=some (F,H):=rfl
theorem xD{n:Nat}(h:n<=2147483648):wrap .i64 ((n:Int)+1)=((n+1:Nat):Int):=by simp[wrap,IntKind.bits,signed];omega
theorem Ve{n:Nat}(h:n<=2147483648):wrap .i64 (((n+1:Nat):Int)-1)=(n:Int):=by simp[wrap,IntKind.bits,signed];omega
theorem Br(H:bl):H.take H.length=H:=List.take_length
theorem BP{E:Env}{nm:Zk->aZ Nat}{f:Zk}{a:RC}{n:Nat}{rs:aY ResultVar}(h:((E.ft f).map λfi=>(bL ⟨E,nm,fi.ntmps⟩ false fi.body,ble n fi.ntmps,fi.results))=some (some a,true,rs)):
 ∃fi,E.ft f=some fi/\bL ⟨E,nm,fi.ntmps⟩ false fi.body=some a/\n<=fi.ntmps/\fi.results=rs:=by
 have⟨fi,b,u⟩:=ζf.1 h;simp only[ζc]at u;exact⟨fi,b,u.1,Nat.le_of_ble_eq_true u.2.1,u.2.2⟩
theorem Et{x:V}(h:x.one=true):x.cells=[x]:=by cases x<;>first|rfl|(simp[V.one]at h)
theorem T9{call:dg}{f:Zk}{args az:Zu}{H:bl}(h:borrows call.lv H args=some az)(hc:∀x∈az,x.closed=true):bW call f args H=bW call f az []:=by
 have:borrows call.lv [] az=some az:=by clear h;unfold borrows;induction az with|nil=>rfl|cons x l u=>simp only[gV,ez call.lv [] (hc x Zc),u λy w=>hc y (List.mem_cons_of_mem _ w)]
 unfold bW;rw[h,this]
def kept(t:Nat->Zl)(n:Nat):Zv:=(range n).filter λi=>i==0|| !t i
theorem v7(t:Nat->Zl)(n:Nat):kept t (n+1)=kept t n++if n==0|| !t n then[n]else[]:=by unfold kept;rw[List.range_succ,List.filter_append,List.filter_cons];rfl
theorem AH(t:Nat->Zl):∀n,(kept t n).length<=n:=λn=>by unfold kept;exact Nat.le_trans (List.length_filter_le ..) Zc
theorem Jk{t:Nat->Zl}{n i:Nat}(h:i∈kept t n):i<n:=by unfold kept at h;exact mem_range.1 (List.mem_filter.1 h).1
theorem Bn{t:Nat->Zl}:∀n,(∀i,0<i->i<n->t i=false)->kept t n=range n
 |0,_=>rfl|n+1,h=>by rw[v7,Bn n λi a B=>h i a Za,List.range_succ];congr 1;cases n with|zero=>rfl|succ n=>rw[h (n+1) Za Za];simp
theorem zz{t:Nat->Zl}{k:Nat}(b:0<k)(a:t k=true):∀n,k<n->(kept t n).length+1<=n
 |0,h=>Za|n+1,h=>by rw[v7];by_cases e:n=k;subst e;have:(n==0|| !t n)=false:=(by simp[a];omega);rw[this];have:=AH t n;simp;omega;have:=zz b a n Za;split<;>simp<;>omega
namespace cmpX
instance{n:Nat}:OfNat Arg n:=⟨.s n⟩
def r1:Zy:=[o1 4 (.k (.bG)) []]
def r2:Zy:=[o1 8 0 [],o2 9 (.p .lenSl) [8] [],o2 10 (.p (.bin (some .int) none .lss)) [9,.k (.int .i64 2)] []]
def r3:Zy:=[o1 11 0 [],o1 4 11 []]
def r4:Zy:=[o1 5 (.k (.int .i64 1)) []]
def r5:Zy:=[o1 12 5 [],o1 13 0 [],o2 14 (.p .lenSl) [13] [],o2 15 (.p (.bin (some .int) none .lss)) [12,14] []]
def on(d:Nat)(k:K)(az:Z4):RO:=⟨some d,none,true,k,az,[],[]⟩
def r6:Zy:=[o1 18 1 [],o1 19 0 [],o1 20 5 [],o2 21 (.p (.idxS 1)) [19,20] [],o2 22 (.r (.load 1 false)) [21] [],o1 23 0 [],o1 24 5 [],o2 25 (.p (.bin (some .int) none .sub)) [24,.k (.int .i64 1)] [],o2 26 (.p (.idxS 1)) [23,25] [],o2 27 (.r (.load 1 false)) [26] [],on 28 .c [18,22,27]]
def r7:Zy:=[o1 29 0 [],o1 30 5 [],o2 31 (.p (.slice 1 true false)) [29,30] [],o1 6 31 []]
def r8:Zy:=[o1 7 (.k (.int .i64 1)) []]
def r9:Zy:=[o1 32 7 [],o1 33 6 [],o2 34 (.p .lenSl) [33] [],o2 35 (.p (.bin (some .int) none .lss)) [32,34] []]
def zx:Zy:=[o1 38 1 [],o1 39 6 [],o1 40 7 [],o2 41 (.p (.idxS 1)) [39,40] [],o2 42 (.r (.load 1 false)) [41] [],o1 43 6 [],o1 44 7 [],o2 45 (.p (.bin (some .int) none .sub)) [44,.k (.int .i64 1)] [],o2 46 (.p (.idxS 1)) [43,45] [],o2 47 (.r (.load 1 false)) [46] [],on 48 .c [38,42,47],on 49 (.p (.not)) [48]]
def Ae:Zy:=[o1 50 0 [],o1 51 5 [],o1 52 6 [],o1 53 7 [],o2 54 (.p (.idxS 1)) [52,53] [],o2 55 (.r (.load 1 false)) [54] [],o2 56 (.p (.idxS 1)) [50,51] [],⟨none,none,false,.l (.store 1),[56,55],[],[]⟩]
def yV:Zy:=[o1 57 5 [],o2 58 (.p (.bin (some .int) none .add)) [57,.k (.int .i64 1)] [],o1 5 58 []]
def zQ:Zy:=[o1 36 7 [],o2 37 (.p (.bin (some .int) none .add)) [36,.k (.int .i64 1)] [],o1 7 37 []]
def Wl:RC:=.seq (.seq (.ops r9) (.cond (.s 35) (.skip) (.exit 2))) (.seq (.block 3 (.seq (.oS zx) (.cond (.s 49) (.seq (.ops Ae) (.ops yV)) (.skip)))) (.ops zQ))
def zb:Zy:=[o1 59 0 [],o1 60 5 [],o2 61 (.p (.slice 1 true false)) [59,60] [],⟨none,none,false,.l (.clear 1 [.bG]),[61],[],[]⟩]
def zy:Zy:=[o1 62 0 [],o1 63 5 [],o2 64 (.p (.slice 1 false true)) [62,63] [],o1 4 64 []]
def r16:Zy:=[o1 16 5 [],o2 17 (.p (.bin (some .int) none .add)) [16,.k (.int .i64 1)] [],o1 5 17 []]
def Qd:RC:=.seq (.seq (.ops r5) (.cond (.s 15) (.skip) (.exit 0))) (.seq (.block 1 (.seq (.oS r6) (.cond (.s 28) (.seq (.ops r7) (.seq (.seq (.ops r8) (.block 2 (.loop Wl))) (.seq (.ops zb) (.seq (.ops zy) (.ret))))) (.skip)))) (.ops r16))
def Hg:Zy:=[o1 65 0 [],o1 4 65 []]
def code:RC:=.seq (.ops r1) (.seq (.seq (.ops r2) (.cond (.s 10) (.seq (.ops r3) (.ret)) (.skip))) (.seq (.seq (.ops r4) (.block 0 (.loop Qd))) (.seq (.ops Hg) (.ret))))
section
variable{E:Env}{N:Nat->Zk}{F:Zo}{H:bl}{call:dg}{id off L k:Nat}
theorem ld{B:Zt}{el:Nat}{v:V}(h:H[id]?=some (.row 1 B))(a:B[el]?=some [v]):dS H (.load 1 false) [.hptr id el 0]=some v:=by simp[dS,ec,h,Ob.rows,a,cut,mk]
theorem Q0{i:Nat}(h:i<L):lu 1 (.hsl id 1 off L) (i:Int)=some (.hptr id (off+i) 0):=by unfold lu;rw[if_neg Za];simp[h]
attribute [local simp] cq gp dW bJ gz kS lg oP dS
theorem x2(a:get F 0=.hsl id 1 off L):∃F',(∀call,cq E N call none r2 F H=some (F',H))/\get F' 10=.bool (decide ((L:Int)<2))/\(∀s,s<8->get F' s=get F s):=by refine⟨_,λcall=>by simp[r2,a,mH];rfl,Zc,?_⟩;simp;grind
theorem x5(a:get F 0=.hsl id 1 off L)(b:get F 5=.int .i64 k):∃F',(∀call,cq E N call none r5 F H=some (F',H))/\get F' 15=.bool (decide (k<L))/\(∀s,s<8->get F' s=get F s):=by refine⟨_,λcall=>by simp[r5,a,b,mH];rfl,Zc,?_⟩;simp;grind
theorem TS{g:Zk}{cb:Zu}{B:Zt}{o2 L2 i:Nat}{a b:V}{t:Zl}(h:H[id]?=some (.row 1 B))(J:i+1<L2)(G:i<=2147483648)(O:B[o2+(i+1)]?=some [a])(U:B[o2+i]?=some [b])(c:E.keep g=false)(d:get F 1=.clo g [] cb):
 (get F 0=.hsl id 1 o2 L2->get F 5=.int .i64 ((i+1:Nat):Int)->∃F',(∀call,bW call g (a::b::cb) H=some (.bool t)->cq E N call (some H.length) r6 F H=some (F',H))/\get F' 28=.bool t/\(∀s,s<8->get F' s=get F s))/\
 (get F 6=.hsl id 1 o2 L2->get F 7=.int .i64 ((i+1:Nat):Int)->∃F',(∀call,bW call g (a::b::cb) H=some (.bool t)->cq E N call (some H.length) zx F H=some (F',H))/\get F' 49=.bool (!t)/\(∀s,s<8->get F' s=get F s)):=by
 have u:=Ve G;have e1:=ld h O;have e2:=ld h U;have i1:=Q0 (id:=id) (off:=o2) (L:=L2) J;have i2:=Q0 (id:=id) (off:=o2) (L:=L2) (show i<L2 by omega)
 simp at i1 u;refine⟨λe f=>⟨_,λcall hc=>by simp[-dS,r6,on,e,d,f,i1,i2,e1,e2,u,c,hc,V.scalar,Br];rfl,Zc,?_⟩,λf6 j=>⟨_,λcall hc=>by simp[-dS,zx,on,d,f6,j,i1,i2,e1,e2,u,c,hc,V.scalar,Br];rfl,Zc,?_⟩⟩<;>exactλs w=>by simp;repeat (rw[if_neg Za])
end
end cmpX
namespace cmpX
section
variable{E:Env}{N:Nat->Zk}{F:Zo}{H:bl}{call:dg}{id off L k:Nat}
attribute [local simp] cq gp dW bJ gz kS lg oP dS
theorem x7(a:get F 0=.hsl id 1 off L)(b:get F 5=.int .i64 k)(c:k<=L):∃F',(∀call,cq E N call none r7 F H=some (F',H))/\get F' 6=.hsl id 1 (off+k) (L-k)/\(∀s,s<8->s≠6->get F' s=get F s):=by
 have e:g_ 1 (.hsl id 1 off L) (some k) none=some (.hsl id 1 (off+k) (L-k)):=by unfold g_ dR;grind
 refine⟨_,λcall=>by simp[r7,a,b,me,e];rfl,Zc,?_⟩;simp;grind
theorem x9{o2 L2 m:Nat}(f6:get F 6=.hsl id 1 o2 L2)(a:get F 7=.int .i64 m):∃F',(∀call,cq E N call none r9 F H=some (F',H))/\get F' 35=.bool (decide (m<L2))/\(∀s,s<8->get F' s=get F s):=by refine⟨_,λcall=>by simp[r9,f6,a,mH];rfl,Zc,?_⟩;simp;grind
theorem Ux{B:Zt}{o2 L2 m p:Nat}{a z:V}(h:H[id]?=some (.row 1 B))(c:get F 0=.hsl id 1 off L)(d:get F 5=.int .i64 p)(f6:get F 6=.hsl id 1 o2 L2)(e:get F 7=.int .i64 m)(G:m<L2)(J:p<L)
 (O:B[o2+m]?=some [a])(U:B[off+p]?=some [z])(b:a.one=true):
 ∃F',(∀call,cq E N call none Ae F H=some (F',H.set id (.row 1 (B.set (off+p) [a]))))/\(∀s,s<8->get F' s=get F s):=by
 have i1:=Q0 (id:=id) (off:=o2) G;have i2:=Q0 (id:=id) (off:=off) J;have e1:=ld h O;have u:eY H (.store 1) [.hptr id (off+p) 0,a]=some (.undef,H.set id (.row 1 (B.set (off+p) [a]))):=by simp[eY,h,U,Et b,b]
 refine⟨_,λcall=>by simp[-dS,Ae,c,d,f6,e,i1,i2,e1,u];rfl,?_⟩
 simp;grind
theorem K1{p:Nat}(B:p<=2147483648):(get F 5=.int .i64 p->∃F',(∀call,cq E N call none yV F H=some (F',H))/\get F' 5=.int .i64 ((p+1:Nat):Int)/\(∀s,s<8->s≠5->get F' s=get F s))/\
 (get F 7=.int .i64 p->∃F',(∀call,cq E N call none zQ F H=some (F',H))/\get F' 7=.int .i64 ((p+1:Nat):Int)/\(∀s,s<8->s≠7->get F' s=get F s))/\
 (get F 5=.int .i64 p->∃F',(∀call,cq E N call none r16 F H=some (F',H))/\get F' 5=.int .i64 ((p+1:Nat):Int)/\(∀s,s<8->s≠5->get F' s=get F s)):=by
 have u:=xD B;refine⟨λf=>⟨_,λcall=>by simp[yV,f,u];rfl,Zc,?_⟩,λf=>⟨_,λcall=>by simp[zQ,f,u];rfl,Zc,?_⟩,λf=>⟨_,λcall=>by simp[r16,f,u];rfl,Zc,?_⟩⟩<;>
  (simp;grind)
theorem WW{B:Zt}{p:Nat}(h:H[id]?=some (.row 1 B))(a:get F 0=.hsl id 1 off L)(b:get F 5=.int .i64 p)(G:p<L)(J:off+L<=B.length):
 ∃F',(∀call,cq E N call none zb F H=some (F',H.set id (.row 1 (B.take (off+p)++replicate (L-p) [.bG]++B.drop (off+L)))))/\(∀s,s<8->get F' s=get F s):=by
 have e:g_ 1 (.hsl id 1 off L) (some p) none=some (.hsl id 1 (off+p) (L-p)):=by unfold g_ dR;grind
 obtain⟨q,u⟩:∃q,L-p=q+1:=⟨L-p-1,Za⟩
 have hc:eY H (.clear 1 [.bG]) [.hsl id 1 (off+p) (L-p)]=some (.undef,H.set id (.row 1 (B.take (off+p)++replicate (L-p) [.bG]++B.drop (off+L)))):=by simp[eY,CE,u,h];grind
 refine⟨_,λcall=>by simp[zb,a,b,me,e,hc];rfl,?_⟩
 simp;grind
theorem Qg{p:Nat}(a:get F 0=.hsl id 1 off L)(b:get F 5=.int .i64 p)(B:p<=L):∃F',(∀call,cq E N call none zy F H=some (F',H))/\get F' 4=.hsl id 1 off p:=by
 have e:g_ 1 (.hsl id 1 off L) none (some p)=some (.hsl id 1 off p):=by unfold g_ dR;grind
 exact⟨_,λcall=>by simp[zy,a,b,me,e];rfl,Zc⟩
theorem WY:∃F',(∀call,cq E N call none Hg F H=some (F',H))/\get F' 4=get F 0:=⟨_,λcall=>by simp[Hg];rfl,Zc⟩
theorem Oe:∃F',(∀call,cq E N call none r3 F H=some (F',H))/\get F' 4=get F 0:=⟨_,λcall=>by simp[r3];rfl,Zc⟩
end
structure Fu(E:Env)(g:FuncId)(cb:List V)(H:bl)(id off L:Nat)(rs:List (List V))(A:Nat->V)(t:Nat->Bool):Prop where
 row:H[id]?=some (.row 1 rs)
 len:off+L<=rs.length
 small:L<=2147483648
 at_:∀i,i<L->rs[off+i]?=some [A i]
 one:∀i,i<L->(A i).one=true
 keep:E.keep g=false
 cmp:∃n,∀k,n<=k->∀i,i+1<L->∀cur,bW (run E k) g (A (i+1)::A i::cb) (H.set id (.row 1 cur))=some (.bool (t (i+1)))
structure Head(g:FuncId)(cb:List V)(id off L kk m:Nat)(rs:List (List V))(A:Nat->V)(t:Nat->Bool)(F:Frame)(cur:List (List V)):Prop where
 f0:get F 0=.hsl id 1 off L
 f1:get F 1=.clo g [] cb
 f5:get F 5=.int .i64 ((kept t (kk+m)).length:Nat)
 f6:get F 6=.hsl id 1 (off+kk) (L-kk)
 f7:get F 7=.int .i64 m
 len:cur.length=rs.length
 pre:∀p i,(kept t (kk+m))[p]?=some i->cur[off+p]?=some [A i]
 post:∀i,kk+m<=i+1->i<L->cur[off+i]?=some [A i]
 out:∀j,j<off\/off+L<=j->cur[j]?=rs[j]?
 cell:∀i,i<L->∃j,j<L/\cur[off+i]?=some [A j]
section
variable{E:Env}{N:Nat->Zk}{g:Zk}{cb:Zu}{H:bl}{id off L kk:Nat}{rs:Zt}{A:Nat->V}{t:Nat->Zl}
theorem JA(X:Fu E g cb H id off L rs A t)(x:0<kk)(ah:kk<L)(y:t kk=true):∀(d m:Nat)(F:Zo)(B:Zt),kk+m+d=L->0<m->Head g cb id off L kk m rs A t F B->
 ∃F' G,lP E N Wl F (H.set id (.row 1 B)) (.exit 2) F' (H.set id (.row 1 G))/\Head g cb id off L kk (L-kk) rs A t F' G:=by
 have O:=(ζe.1 X.row).1;have D:∀B,(H.set id (.row 1 B))[id]?=some (.row 1 B):=λB=>getElem?_set_self O
 have ai:=X.small;have af:=X.len;intro d
 induction d with
 |zero=>
  intro m F B M P h;have R:m=L-kk:=Za
  subst R;obtain⟨F1,e1,e2,e3⟩:=x9 h.f6 h.f7;refine⟨F1,B,lP.stop (Ex.tD (Ex.seq (Ex.cR e1) (Ex.o9 (by simp[dW,e2]) Ex.exit)) Zc) Zc,?_⟩
  exact⟨by rw[e3 0 Za];exact h.f0,by rw[e3 1 Za];exact h.f1,by rw[e3 5 Za];exact h.f5,by rw[e3 6 Za];exact h.f6,by rw[e3 7 Za];exact h.f7,h.len,h.pre,h.post,h.out,h.cell⟩
 |succ d ih=>
  intro m F B M P h;obtain⟨F1,a1,a2,a3⟩:=x9 h.f6 h.f7;have T:dW N F1 35=.bool true:=by show get F1 35=_;rw[a2,decide_eq_true Za]
  obtain⟨m',rfl⟩:∃m',m=m'+1:=⟨m-1,Za⟩
  obtain⟨n0,ab⟩:=X.cmp;have q:B[off+kk+(m'+1)]?=some [A (kk+m'+1)]:=by have:=h.post (kk+m'+1) Za Za;grind
  have c2:B[off+kk+m']?=some [A (kk+m')]:=by have:=h.post (kk+m') Za Za;grind
  obtain⟨F2,b1,b,b3⟩:=(TS (L2:=L-kk) (D B) Za Za q c2 X.keep (by rw[a3 1 Za];exact h.f1)).2 (by rw[a3 6 Za];exact h.f6) (by rw[a3 7 Za];exact h.f7)
  have U:∃n,∀k,n<=k->cq E N (run E k) (some (H.set id (.row 1 B)).length) zx F1 (H.set id (.row 1 B))=some (F2,H.set id (.row 1 B)):=⟨n0,λk hk=>b1 _ (ab k hk (kk+m') Za B)⟩
  have w:=λs r=>(b3 s r).trans (a3 s r)
  have ad:(kept t (kk+(m'+1))).length+1<=kk+(m'+1):=zz x y _ Za
  have u:kept t (kk+(m'+1)+1)=kept t (kk+(m'+1))++if t (kk+m'+1)then[]else[kk+m'+1]:=by rw[v7];grind
  have z:kk+(m'+1+1)=kk+(m'+1)+1:=Za
  cases W:t (kk+m'+1)with
  |true=>
   rw[W]at b u;simp at u;obtain⟨v,Y,c,Q⟩:=(K1 (p:=m'+1) Za).2.1 (by rw[w 7 Za];exact h.f7)
   obtain⟨F',G,i1,i2⟩:=ih (m'+1+1) v B Za Za ⟨by rw[Q 0 Za Za,w 0 Za];exact h.f0,by rw[Q 1 Za Za,w 1 Za];exact h.f1,
    by rw[Q 5 Za Za,w 5 Za,z,u];exact h.f5,by rw[Q 6 Za Za,w 6 Za];exact h.f6,c,h.len,by rw[z,u];exact h.pre,λi a Z=>h.post i Za Z,h.out,h.cell⟩
   exact⟨F',G,lP.step (Ex.seq (Ex.seq (Ex.cR a1) (Ex.mK T Ex.skip)) (Ex.seq (Ex.block (Ex.seq (Ex.JH (by decide) U) (Ex.o9 (by simp[dW,b]) Ex.skip))) (Ex.cR Y))) i1,i2⟩
  |false=>
   rw[W]at b u;generalize f:(kept t (kk+(m'+1))).length=K at *;obtain⟨_,_,hz⟩:=h.cell K Za
   obtain⟨v,Y,c⟩:=Ux (D B) (by rw[w 0 Za];exact h.f0) (by rw[w 5 Za,h.f5,f]) (by rw[w 6 Za];exact h.f6) (by rw[w 7 Za];exact h.f7) Za Za q hz (X.one _ Za)
   rw[set_set]at Y;generalize I:B.set (off+K) [A (kk+m'+1)]=J at Y;have l:∀j,J[j]?=if j=off+K then some [A (kk+m'+1)]else B[j]?:=λj=>by rw[<-I,List.getElem?_set];by_cases e:off+K=j;rw[if_pos e,if_pos e.symm,if_pos (by rw[h.len];omega)];rw[if_neg e,if_neg (Ne.symm e)]
   obtain⟨F4,Q,q4,q5⟩:=(K1 (p:=K) Za).1 (by rw[c 5 Za,w 5 Za,h.f5,f])
   have C:∀s,s<8->s≠5->get F4 s=get F s:=λs a Z=>by rw[q5 s a Z,c s a,w s a]
   obtain⟨F5,q6,q7,o⟩:=(K1 (p:=m'+1) Za).2.1 (by rw[C 7 Za Za];exact h.f7)
   obtain⟨F',G,i1,i2⟩:=ih (m'+1+1) F5 J Za Za ⟨by rw[o 0 Za Za,C 0 Za Za];exact h.f0,by rw[o 1 Za Za,C 1 Za Za];exact h.f1,
    by rw[o 5 Za Za,q4,z,u,ζi,f];rfl,by rw[o 6 Za Za,C 6 Za Za];exact h.f6,q7,by rw[<-I,List.length_set];exact h.len,
    λp i S=>by rw[z,u]at S;rw[l];by_cases e:p=K;subst e;rw[<-f,getElem?_append_right (le_refl _),Nat.sub_self]at S;cases S;rw[if_pos rfl];have ae:p<(kept t (kk+(m'+1))).length:=(by have:=(ζe.1 S).1;simp at this;omega);rw[getElem?_append_left ae]at S;rw[if_neg Za];exact h.pre p i S,
    λi a Z=>by rw[l,if_neg Za];exact h.post i Za Z,λj hj=>by rw[l,if_neg Za];exact h.out j hj,
    λi hi=>by rw[l];by_cases e:off+i=off+K;rw[if_pos e];exact⟨_,Za,rfl⟩;rw[if_neg e];exact h.cell i hi⟩
   exact⟨F',G,lP.step (Ex.seq (Ex.seq (Ex.cR a1) (Ex.mK T Ex.skip)) (Ex.seq (Ex.block (Ex.seq (Ex.JH (by decide) U) (Ex.mK (by simp[dW,b]) (Ex.seq (Ex.cR Y) (Ex.cR Q))))) (Ex.cR q6))) i1,i2⟩
structure O6(off L:Nat)(rs:List (List V))(A:Nat->V)(t:Nat->Bool)(rs':List (List V)):Prop where
 len:rs'.length=rs.length
 pre:∀p i,(kept t L)[p]?=some i->rs'[off+p]?=some [A i]
 all:∀c∈rs',c∈rs\/c=[.bG]
theorem Kw(X:Fu E g cb H id off L rs A t):∀(d k:Nat)(F:Zo),k+d=L->0<k->(∀i,0<i->i<k->t i=false)->get F 0=.hsl id 1 off L->get F 1=.clo g [] cb->get F 5=.int .i64 k->
 (∃F',lP E N Qd F H (.exit 0) F' H/\get F' 0=.hsl id 1 off L/\∀i,0<i->i<L->t i=false)\/
 (∃F' G,lP E N Qd F H .ret F' (H.set id (.row 1 G))/\get F' 4=.hsl id 1 off (kept t L).length/\O6 off L rs A t G):=by
 have Q:=(ζe.1 X.row).1;have S:=qS X.row;have ah:=X.small;have af:=X.len;intro d
 induction d with
 |zero=>
  intro k F he r h a v b;have ek:k=L:=Za
  subst ek;obtain⟨F1,e1,e2,e3⟩:=x5 (N:=N) a b;exact .inl ⟨F1,lP.stop (Ex.tD (Ex.seq (Ex.cR e1) (Ex.o9 (by simp[dW,e2]) Ex.exit)) Zc) Zc,Zd,h⟩
 |succ d ih=>
  intro k F he r h a v b;obtain⟨F1,a1,a2,a3⟩:=x5 a b;have U:dW N F1 15=.bool true:=by show get F1 15=_;rw[a2,decide_eq_true Za]
  obtain⟨u,rfl⟩:∃u,k=u+1:=⟨k-1,Za⟩
  obtain⟨n0,ai⟩:=X.cmp;obtain⟨y,b1,e,b3⟩:=(TS (N:=N) (cb:=cb) (g:=g) (i:=u) (L2:=L) (t:=t (u+1)) X.row Za Za (X.at_ _ Za) (X.at_ _ Za) X.keep (by rw[a3 1 Za];omega)).1 Zd Zd
  have W:∃n,∀k,n<=k->cq E N (run E k) (some H.length) r6 F1 H=some (y,H):=⟨n0,λk r=>b1 _ (by
   grind)⟩
  have Y:=λs M=>(b3 s M).trans (a3 s M)
  cases w:t (u+1)with
  |false=>
   rw[w]at e;obtain⟨T,l,m,f⟩:=(K1 (E:=E) (F:=y) (p:=u+1) Za).2.2 Zd
   have z:Ex E N Qd F H .norm T H:=Ex.seq (Ex.seq (Ex.cR a1) (Ex.mK U Ex.skip)) (Ex.seq (Ex.block (Ex.seq (Ex.JH (by decide) W) (Ex.o9 (by simp[dW,e]) Ex.skip))) (Ex.cR l))
   rcases ih (u+1+1) T Za Za (λi P Z=>by
    grind) Zd Ze m with⟨F',i1,i2⟩|⟨F',G,i1,i2⟩
   .exact .inl ⟨F',lP.step z i1,i2⟩
   exact .inr ⟨F',G,lP.step z i1,i2⟩
  |true=>
   rw[w]at e;refine .inr ?_;obtain⟨T,l,m,f⟩:=x7 (E:=E) (N:=N) (H:=H) (k:=u+1) (by rw[Y 0 Za];exact a) (by rw[Y 5 Za];exact b) Za
   have D:kept t (u+1)=range (u+1):=Bn _ h;have R:kept t (u+1+1)=range (u+1):=by rw[v7,D,w];simp
   have q4:∀call,cq E N call none r8 T H=some (set T 7 (.int .i64 1),H):=λcall=>vp rfl (by simp[gp,dW,bJ]) qT
   have h0:Head g cb id off L (u+1) 1 rs A t (set T 7 (.int .i64 1)) rs:=⟨by rw[ja _ _ Za,f 0 Za Za,Y 0 Za];exact a,by rw[ja _ _ Za,f 1 Za Za,Y 1 Za];exact v,
    by rw[ja _ _ Za,f 5 Za Za,Y 5 Za,R,length_range];exact b,by rw[ja _ _ Za];exact m,by rw[sw];rfl,rfl,
    λp i B=>by rw[R]at B;obtain⟨P,Z⟩:=ζe.1 B;simp at P Z;subst Z;exact X.at_ p Za,λi _ Z=>X.at_ i Z,λ_ _=>rfl,λi V=>⟨i,V,X.at_ i V⟩⟩
   obtain⟨F5,C,l1,I⟩:=JA (N:=N) X Za Za w (L-(u+1)-1) 1 _ rs Za Za h0
   rw[S]at l1;have eL:u+1+(L-(u+1))=L:=Za
   have ae:=zz (t:=t) (k:=u+1) Za w L Za
   have o:=I.f5;have J:=I.pre;rw[eL]at o J;generalize hK:(kept t L).length=K at *;have ab:(H.set id (.row 1 C))[id]?=some (.row 1 C):=getElem?_set_self Q;obtain⟨F6,w1,w2⟩:=WW (E:=E) (N:=N) (p:=K) ab I.f0 o Za (by rw[I.len];omega)
   rw[set_set]at w1;obtain⟨F7,w3,w4⟩:=Qg (E:=E) (by rw[w2 0 Za];exact I.f0) (by rw[w2 5 Za];exact o) Za
   have aj:=I.len;refine⟨F7,C.take (off+K)++replicate (L-K) [.bG]++C.drop (off+L),lP.stop (Ex.seq (Ex.seq (Ex.cR a1) (Ex.mK U Ex.skip)) (Ex.tD (Ex.LZ (Ex.seq (Ex.JH (by decide) W) (Ex.mK (by simp[dW,e]) (Ex.seq (Ex.cR l) (Ex.seq (Ex.seq (Ex.cR q4) (Ex.tW (Ex.loop l1))) (Ex.seq (Ex.cR w1) (Ex.seq (Ex.cR w3) Ex.ret))))))) Zc)) Zc,w4,?_,λp i B=>?_,λc hc=>?_⟩
   .simp;omega
   .have ak:p<K:=by rw[<-hK];exact(ζe.1 B).1
    rw[append_assoc,getElem?_append_left (by simp;omega),getElem?_take,if_pos Za]
    exact J p i B
   have ad:∀j x,C[j]?=some x->x∈rs:=λj x O=>by by_cases ho:j<off\/off+L<=j;rw[I.out j ho]at O;exact mem_of_getElem? O;obtain⟨i,rfl⟩:∃i,j=off+i:=⟨j-off,Za⟩;obtain⟨q,hq,hc⟩:=I.cell i Za;rw[hc]at O;cases O;exact mem_of_getElem? (X.at_ q hq)
   rcases mem_append.1 hc with hc|hc
   .rcases mem_append.1 hc with hc|hc
    .obtain⟨j,O⟩:=getElem?_of_mem (List.mem_of_mem_take hc);exact .inl (ad j c O)
    exact .inr (List.eq_of_mem_replicate hc)
   obtain⟨j,O⟩:=getElem?_of_mem (List.mem_of_mem_drop hc);exact .inl (ad j c O)
end
end cmpX
def yI(E:Env)(g:Zk)(cb:Zu)(a b:V):aZ Zl:=match Bw E g cb a b with|some (.bool c)=>some c|_=>none
theorem UQ{E:Env}{g:Zk}{cb:Zu}{a b:V}{c:Zl}(h:yI E g cb a b=some c):∃n,∀k,n<=k->bW (run E k) g (a::b::cb) []=some (.bool c):=by
 unfold yI at h;split at h;next c' hc=>cases h;exact Dx hc
 cases h
def lJ(xs:Zt)(i:Nat):V:=jd ((xs[i]?).getD [])
def xq(E:Env)(es:Nat)(xs:Zt):Zu->aZ Zt
 |[.clo g [] cb]=>if xs.isEmpty then some []else if tI es xs&& !E.keep g then
  if(range xs.length).all λi=>i==0||(yI E g cb (lJ xs i) (lJ xs (i-1))).isSome then
   some ((kept (λi=>(yI E g cb (lJ xs i) (lJ xs (i-1))).getD false) xs.length).map λi=>(xs[i]?).getD [])
  else none
  else none
 |_=>none
def sH(E:Env):E6:=⟨true,xq E⟩
namespace cmpX
section
variable{E:Env}{N:Nat->Zk}{g:Zk}{cb:Zu}{H:bl}{id off L:Nat}{rs:Zt}{A:Nat->V}{t:Nat->Zl}
theorem whole(X:Fu E g cb H id off L rs A t):∃F' B,Ex E N code [.hsl id 1 off L,.clo g [] cb] H .ret F' (H.set id (.row 1 B))/\get F' 4=.hsl id 1 off (kept t L).length/\O6 off L rs A t B:=by
 have u:H.set id (.row 1 rs)=H:=qS X.row;have same:(∀i,0<i->i<L->t i=false)->(kept t L).length=L/\O6 off L rs A t rs:=λh=>by have b:=Bn L h;rw[b,length_range];exact⟨rfl,rfl,λp i Q=>by rw[b]at Q;have⟨a,w⟩:=ζe.1 Q;simp at a w;subst w;exact X.at_ p a,λc hc=>.inl hc⟩
 have g1:∀call,cq E N call none r1 [.hsl id 1 off L,.clo g [] cb] H=some (set [.hsl id 1 off L,.clo g [] cb] 4 .bG,H):=λcall=>vp (v:=.bG) rfl (by simp[gp,dW,bJ]) qT;have k0:get (set [V.hsl id 1 off L,.clo g [] cb] 4 .bG) 0=.hsl id 1 off L:=rfl;have k1:get (set [V.hsl id 1 off L,.clo g [] cb] 4 .bG) 1=.clo g [] cb:=rfl;generalize set [V.hsl id 1 off L,.clo g [] cb] 4 .bG=T at *;have⟨F1,a1,S,z⟩:=x2 (E:=E) (N:=N) (H:=H) k0;by_cases U:L<2;have⟨C,D,G⟩:=Oe (E:=E) (N:=N) (F:=F1) (H:=H);have⟨e1,e2⟩:=same λi a w=>by omega
 refine⟨C,rs,?_,by rw[e1,G,z 0 Za];exact k0,e2⟩;rw[u];exact Ex.seq (Ex.cR g1) (Ex.tD (Ex.seq (Ex.cR a1) (Ex.mK (by show get F1 10=_;rw[S,decide_eq_true Za]) (Ex.seq (Ex.cR D) Ex.ret))) Zc);have g4:∀call,cq E N call none r4 F1 H=some (set F1 5 (.int .i64 1),H):=λcall=>vp (v:=.int .i64 1) rfl (by simp[gp,dW,bJ]) qT;have hc:Ex E N (.seq (.ops r2) (.cond (.s 10) (.seq (.ops r3) (.ret)) (.skip))) T H .norm F1 H:=Ex.seq (Ex.cR a1) (Ex.o9 (by show get F1 10=_;rw[S,decide_eq_false Za]) Ex.skip);rcases Kw (N:=N) X (L-1) 1 (set F1 5 (.int .i64 1)) Za Za (λi a w=>Za) (by rw[ja _ _ Za,z 0 Za];exact k0) (by rw[ja _ _ Za,z 1 Za];exact k1) (by rw[sw];rfl)with⟨F',I,J,O⟩|⟨F',B,I,J,O⟩;have⟨C,D,G⟩:=WY (E:=E) (N:=N) (F:=F') (H:=H);have⟨e1,e2⟩:=same O;refine⟨C,rs,?_,by rw[e1,G];exact J,e2⟩;rw[u];exact Ex.seq (Ex.cR g1) (Ex.seq hc (Ex.seq (Ex.seq (Ex.cR g4) (Ex.tW (Ex.loop I))) (Ex.seq (Ex.cR D) Ex.ret)));exact⟨F',B,Ex.seq (Ex.cR g1) (Ex.seq hc (Ex.tD (Ex.seq (Ex.cR g4) (Ex.LZ (Ex.loop I))) Zc)),J,O⟩
theorem empty{w:V}(c:V)(B:w=.bG\/w=.dw):∃F',Ex E N code [w,c] H .ret F' H/\get F' 4=w:=by
 have g1:∀call,cq E N call none r1 [w,c] H=some (set [w,c] 4 .bG,H):=λcall=>vp (v:=.bG) rfl (by simp[gp,dW,bJ]) qT;have k0:get (set [w,c] 4 .bG) 0=w:=rfl;generalize set [w,c] 4 .bG=u at *;have z:mH w=some (.int .i64 0):=by rcases B with rfl|rfl<;>rfl
 have a1:∃F1,(∀call,cq E N call none r2 u H=some (F1,H))/\get F1 10=.bool true/\get F1 0=w:=by refine⟨_,λcall=>vp (v:=w) rfl ?_<|vp (v:=.int .i64 0) rfl ?_<|vp (v:=.bool true) rfl ?_ qT,?_,?_⟩;simp[gp,dW,bJ,k0];simp[gp,dW,bJ,gz,z];simp[gp,dW,bJ,gz,lg,oP];simp[gz];simp[gz,k0]
 have⟨F1,a1,C,D⟩:=a1;have⟨G,I,J⟩:=Oe (E:=E) (N:=N) (F:=F1) (H:=H);exact⟨G,Ex.seq (Ex.cR g1) (Ex.tD (Ex.seq (Ex.cR a1) (Ex.mK C (Ex.seq (Ex.cR I) Ex.ret))) Zc),by rw[J,D]⟩
end
end cmpX
theorem OT{E:Env}{f:Zk}{nm:Zk->aZ Nat}{N:Nat->Zk}(hN:∀f s,nm f=some s->N s=f)(d:E.keep f=true)(ho:E.own f=false)
 (hf:∃fi,E.ft f=some fi/\bL ⟨E,nm,fi.ntmps⟩ false fi.body=some cmpX.code/\2<=fi.ntmps/\fi.results=[.tmp 4]):nW E f (sH E):=by
 have⟨fi,h1,h2,h3,h4⟩:=hf;have G:∀{w c:V}{H H':bl}{F':Zo}{r:V},Ex E N cmpX.code [w,c] H .ret F' H'->get F' 4=r->∃n,∀k,n<=k->run E k (.fn f) [w,c] H=some (r,H'):=λ{w c H H' F' r}K P=>by have⟨n,I⟩:=Ex.run hN h1 h2 (args:=[w,c]) (by simpa using h3) K (vs:=[r]) (by rw[h4];simp[iq,P]);exact⟨n,λk d=>(nC E d).go _ _ _ _ I⟩
 refine⟨d,ho,?_,?_,?_⟩
 .intro es z vs ys h;simp only[sH,xq]at h;refine⟨?_,λe=>by simp[sH]at e⟩
  split at h
  .split at h
   .cases h;simp
   split at h
   .split at h
    .cases h;simpa using AH _ _
    cases h
   cases h
  cases h
 .intro es vs ys h H Z ws w hw he;simp only[sH,xq]at h;split at h
  .obtain⟨q,r,rfl,R,t⟩:=hw.inv;rw[t.cQ];have⟨F',e1,e2⟩:=cmpX.empty (E:=E) (N:=N) (H:=H) q he;have⟨n,I⟩:=G e1 e2;exact⟨n,[],λk d=>by rw[append_nil];exact I k d⟩
  cases h
 intro es z vs ys h H Z ws id off rs hw T U af L hz;simp only[sH,xq]at h;split at h
 .rename_i g cb;obtain⟨q,r,rfl,R,t⟩:=hw.inv;rw[t.cQ];obtain⟨a',B,rfl,ha,ah⟩:∃a' B,q=.clo g a' B/\c9 H Z [] a'/\c9 H Z cb B:=R.jQ;rw[ha.cQ]at *;split at h
  .rename_i he;cases h;have:z=[]:=by simpa using he
   subst this;have e2:∃F',Ex E N cmpX.code [.hsl id es off 0,.clo g [] B] H .ret F' H/\get F' 4=.hsl id es off 0:=by have g1:∀call,cq E N call none cmpX.r1 [.hsl id es off 0,.clo g [] B] H=some (set [.hsl id es off 0,.clo g [] B] 4 .bG,H):=λcall=>vp (v:=.bG) rfl (by simp[gp,dW,bJ]) qT;have k0:get (set [V.hsl id es off 0,.clo g [] B] 4 .bG) 0=.hsl id es off 0:=rfl;generalize set [V.hsl id es off 0,.clo g [] B] 4 .bG=F0 at *;have a1:∃F1,(∀call,cq E N call none cmpX.r2 F0 H=some (F1,H))/\get F1 10=.bool true/\get F1 0=.hsl id es off 0:=(by refine⟨_,λcall=>vp (v:=.hsl id es off 0) rfl ?_<|vp (v:=.int .i64 0) rfl ?_<|vp (v:=.bool true) rfl ?_ qT,?_,?_⟩;simp[gp,dW,bJ,k0];simp[gp,dW,bJ,gz,mH];simp[gp,dW,bJ,gz,lg,oP];simp[gz];simp[gz,k0]);have⟨F1,a1,a2,a3⟩:=a1;have⟨F2,b1,b2⟩:=cmpX.Oe (E:=E) (N:=N) (F:=F1) (H:=H);exact⟨F2,Ex.seq (Ex.cR g1) (Ex.tD (Ex.seq (Ex.cR a1) (Ex.mK a2 (Ex.seq (Ex.cR b1) Ex.ret))) Zc),by rw[b2,a3]⟩
   have⟨F',e1,e3⟩:=e2;have⟨n,I⟩:=G e1 e3;refine⟨n,rs,[],λk d=>?_,rfl,⟨rfl,λj u v l=>by simp at l⟩,L⟩
   rw[append_nil,qS T];exact I k d
  rename_i am;split at h
  .rename_i O;simp only[ζh,Bool.not_eq_true']at O;have⟨c1,c3⟩:=O;obtain⟨rfl,W,Y⟩:=xR c1;split at h
   .rename_i aa;cases h;have Q:∀i,i<z.length->∃a,rs[off+i]?=some [a]/\FR H Z (lJ z i) a/\a.one=true:=λi C=>by
     have⟨e,p2⟩:=Y i z[i] (ζd C);have S:off+i<rs.length:=Za
     have:=af.2 i z[i] rs[off+i] (ζd C) (by rw[getElem?_take,if_pos C,getElem?_drop,ζd S])
     rw[e]at this;have⟨y,ys,e2,r1,r2⟩:=this.inv;rw[r2.cQ]at e2;have e3:lJ z i=jd z[i]:=by unfold lJ;rw[ζd C];rfl
     exact⟨y,by rw[ζd S,e2],by rw[e3];exact r1,by rw[r1.one];exact p2⟩
    let A:Nat->V:=λi=>match rs[off+i]?with|some (a::_)=>a|_=>.undef
    have m:∀i,i<z.length->rs[off+i]?=some [A i]/\FR H Z (lJ z i) (A i)/\(A i).one=true:=λi C=>by have⟨a,p1,p2,p4⟩:=Q i C;have:A i=a:=(by show(match rs[off+i]?with|some (a::_)=>a|_=>V.undef)=a;rw[p1]);rw[this];exact⟨p1,p2,p4⟩
    have ab:∀i,i+1<z.length->∃b,yI E g cb (lJ z (i+1)) (lJ z i)=some b:=λi C=>by have:=all_eq_true.1 aa (i+1) (mem_range.2 C);simp only[Nat.add_sub_cancel,Bool.or_eq_true]at this;rcases this with h|h;simp at h;exact Option.isSome_iff_exists.1 h
    have X:cmpX.Fu E g B H id off z.length rs A (λi=>(yI E g cb (lJ z i) (lJ z (i-1))).getD false):=by refine⟨T,U,W,λi C=>(m i C).1,λi C=>(m i C).2.2,c3,?_⟩;have⟨M,hM⟩:=DV (n:=z.length-1) (p:=λi k=>bW (run E k) g (lJ z (i.1+1)::lJ z i.1::cb) []=some (.bool ((yI E g cb (lJ z (i.1+1)) (lJ z i.1)).getD false))) (λi=>by have⟨b,S⟩:=ab i.1 (by have:=i.2;omega);have⟨n,I⟩:=UQ S;exact⟨n,λk d=>by rw[I k d,S];rfl⟩);have⟨L1,ai⟩:=lW ((range z.length).map (lJ z));have⟨L2,aj⟩:=lW cb;have ad:∀i k,i<z.length->L1<=k->(lJ z i).lvl k=true:=λi k C d=>xh d (mb.1 ai i _ (by simp[C]));refine⟨max M (max L1 L2),λk d i C ae=>?_⟩;have D:∀j,Z j->Z j/\bq (H.set id (.row 1 ae)) j=bq H j:=λj o=>⟨o,by unfold bq;rw[getElem?_set_ne];rintro rfl;exact hz o⟩;have hl:c9 (H.set id (.row 1 ae)) Z (lJ z (i+1)::lJ z i::cb) (A (i+1)::A i::B):=.cons ((m _ C).2.1.mono D) (.cons ((m i Za).2.1.mono D) (ah.mono D));have S:=hl.Jv (k:=k) (by simp only[V.kW,ad _ k C Za,ad i k Za Za,oE (by omega:L2<=k) aj,Bool.and_self]);rw[T9 (by rw[nE];exact S) (λx K=>?_)];exact hM ⟨i,Za⟩ k Za;have⟨j,o⟩:=getElem?_of_mem K;have⟨y,hy,P⟩:=hl.get o;exact V.ku P.good
    have⟨F',ak,e1,e2,e3⟩:=cmpX.whole (N:=N) X;have⟨n,I⟩:=G e1 e2;refine⟨n,ak,[],λk d=>?_,e3.len,?_,?_⟩
    .simp only[sH,if_true,length_map,append_nil];exact I k d
    .refine⟨by simp[e3.len];have:=AH (λi=>(yI E g cb (lJ z i) (lJ z (i-1))).getD false) z.length;omega,λp a b hp hq=>?_⟩
     rw[getElem?_map]at hp;obtain⟨i,C,rfl⟩:=ζf.1 hp;have J:=Jk (mem_of_getElem? C);have al:=(ζe.1 C).1;rw[getElem?_take,if_pos (by simpa using al),getElem?_drop,e3.pre p i C]at hq
     cases hq;rw[ζd J,getD_some];have e4:=(Y i z[i] (ζd J)).1;have e5:lJ z i=jd z[i]:=by unfold lJ;rw[ζd J];rfl
     rw[e4,<-e5];exact .cons (m i J).2.1 .nil
    intro c hc u l;rcases e3.all c hc with h|rfl
    .exact L c h u l
    simp at l;subst l;exact⟨.bG,.same _ rfl⟩
   cases h
  cases h
 cases h
def Sl.re{α:Type}(s:Sl α)(l:aY α):Sl α:=match s with|.nil=>.nil|.emp=>.emp|.row _=>.row l|.part _=>.part l
def Sl.sq{α:Type}(s:Sl α)(l:aY α):Sl α:=match s with|.nil=>.nil|.emp=>.emp|.row _|.part _=>.part l
def xV{α:Type}(s:Sl α)(p:α->α->Z6):aZ (Sl α):=
 match s.l with
 |[]=>some s|x::l=>if l.length<2147483648 then
  let t:_root_.Fin (l.length+1)->_root_.Fin (l.length+1)->Z6:=λi j=>p (x::l)[i.1] (x::l)[j.1]
  if Au t then some (s.re ((qe l.length (oU t)).toList.map λi=>(x::l)[i.1]))else none
  else none
def sP{α:Type}(l:aY α)(p:α->α->aZ Zl)(i:Nat):aZ Zl:=match l[i]?,l[i-1]?with|some a,some b=>p a b|_,_=>none
def wM{α:Type}(s:Sl α)(p:α->α->aZ Zl):aZ (Sl α):=
 if s.l.length<=2147483648/\((range s.l.length).all λi=>i==0||(sP s.l p i).isSome)=true then
  some (s.sq ((kept (λi=>(sP s.l p i).getD false) s.l.length).filterMap (s.l[·]?)))
 else none
section
variable{S:Sys}{T:pR}{β γ δ α:Type}{Q:Out×St->aZ β}{e:γ->aZ β}{cf:Cf}
theorem kC.L0(B:qK S T)(G:∀f a b xs,S.items f a b=some xs->fE S f a b xs){fn:Zk}{A:δ->Zu}{E:α->Zu}{p:δ->aZ α}{sc:Zl}(F:kC S (cW S T) fn A E p sc){z:δ}{r:α}(h:p z=some r)(c:V.cr (A z)=true):
 ∃n,bW (run S.E n) fn (A z) []=some (result (E r)):=by
 have d:=F.h z (E r) Ze
 have⟨⟨rs,m'⟩,u,w⟩:=ζg.1 d;have⟨n,y,H2,e1,e2,e3⟩:=B0 (wC B G) c u w;refine⟨n,?_⟩;have C:borrows n [] (A z)=some (A z):=by have hc:=V.nu c;generalize A z=l at hc;unfold borrows;induction l with|nil=>rfl|cons x l D=>simp[V.gX]at hc;simp[gV,ez n [] hc.1,D hc.2]
 unfold bW;rw[nE,C];simp[e1 n (le_refl _),e2 n (le_refl _),V.ku e3]
section
variable[br α]
theorem Df(b:br.size α=1){l:aY α}(B:l.length<=2147483648):tI (br.size α) (rows l)=true:=by unfold tI;simp;refine⟨⟨b,λx u=>?_⟩,by simpa[rows]using B⟩;obtain⟨a,_,rfl⟩:=mem_map.1 u;exact⟨by rw[eV,b],all_eq_true.1 (br.one a)⟩
theorem ER(b:br.agg α=false)(a:α):jd (cells a)=enc a:=by unfold enc;rw[if_neg Zd];rfl
theorem BS(l:aY α)(i:Nat)(h:i<l.length):(rows l)[i]?=some (cells l[i]):=by unfold rows;grind
theorem Rq(O:qK S T)(U:∀f a b xs,S.items f a b=some xs->fE S f a b xs){g:Zk}{p:α->α->Z6}(F:kC S (cW S T) g (λz:α×α=>[enc z.1,enc z.2]) (λr:Int=>[.int .i64 r]) (λz=>p z.1 z.2) true)
 (c:br.size α=1)(W:br.agg α=false){s G:Sl α}(h:xV s p=some G):zp S.E (br.size α) (rows s.l) [.clo g [] []]=some (rows G.l)/\G.k=s.k:=by
 unfold xV at h;split at h
 next B=>cases h;rw[B];exact⟨rfl,rfl⟩
 rename_i x l B;split at h
 .dsimp only at h;split at h
  .rename_i I;cases h;rw[B];have⟨u,J⟩:=p_ I;have C:=Df c (l:=x::l) Zd
   have key:∀m,m=l.length->(if Au (λi j:_root_.Fin (m+1)=>rZ S.E g [] (jd (((rows (x::l))[i.1]?).getD [])) (jd (((rows (x::l))[j.1]?).getD [])))then
    some ((qe m (oU (λi j:_root_.Fin (m+1)=>rZ S.E g [] (jd (((rows (x::l))[i.1]?).getD [])) (jd (((rows (x::l))[j.1]?).getD []))))).toList.map λi=>((rows (x::l))[i.1]?).getD [])else none)=
    some (rows ((qe l.length (oU λi j:_root_.Fin (l.length+1)=>p (x::l)[i.1] (x::l)[j.1])).toList.map λi=>(x::l)[i.1])):=by
    rintro m rfl;have e1:∀i:_root_.Fin (l.length+1),jd (((rows (x::l))[i.1]?).getD [])=enc (x::l)[i.1]:=λi=>by rw[BS (x::l) i.1 i.2,getD_some,ER W]
    have e2:(λi j:_root_.Fin (l.length+1)=>rZ S.E g [] (jd (((rows (x::l))[i.1]?).getD [])) (jd (((rows (x::l))[j.1]?).getD [])))=λi j=>p (x::l)[i.1] (x::l)[j.1]:=by funext i j;have⟨z,L⟩:=u i j;rw[e1 i,e1 j,L];have⟨n,Q⟩:=F.L0 O U (z:=((x::l)[i.1],(x::l)[j.1])) L (by simp[V.cr,iu]);unfold rZ;rw[I9 Q];rfl
    rw[e2,if_pos I]
    congr 1
    unfold rows;rw[List.map_map];refine List.map_congr_left λi _=>?_
    grind
   have w:(s.re ((qe l.length (oU λi j:_root_.Fin (l.length+1)=>p (x::l)[i.1] (x::l)[j.1])).toList.map λi=>(x::l)[i.1])).l=(qe l.length (oU λi j:_root_.Fin (l.length+1)=>p (x::l)[i.1] (x::l)[j.1])).toList.map (λi=>(x::l)[i.1])/\(s.re ((qe l.length (oU λi j:_root_.Fin (l.length+1)=>p (x::l)[i.1] (x::l)[j.1])).toList.map λi=>(x::l)[i.1])).k=s.k:=by cases s<;>simp[Sl.l]at B<;>exact⟨rfl,rfl⟩
   refine⟨?_,w.2⟩;rw[w.1,<-key (rows l).length (gI l)];have hc:(tI (br.size α) (rows (x::l))&& !S.E.keep g)=true:=by rw[C,F.k];rfl
   have D:=hc;exact(if_pos D).trans rfl
  simp_all
 simp_all
theorem Sc(Y:qK S T)(d:∀f a b xs,S.items f a b=some xs->fE S f a b xs){g:Zk}{p:α->α->aZ Zl}(F:kC S (cW S T) g (λz:α×α=>[enc z.1,enc z.2]) (λr:Zl=>[.bool r]) (λz=>p z.1 z.2) true)
 (e:br.size α=1)(k:br.agg α=false){s G:Sl α}(h:wM s p=some G):xq S.E (br.size α) (rows s.l) [.clo g [] []]=some (rows G.l)/\G=s.sq G.l:=by
 have U:∀l:aY α,(s.sq l)=s.sq (s.sq l).l:=λl=>by cases s<;>rfl
 refine⟨?_,by
  unfold wM at h;grind⟩
 unfold wM at h;split at h
 .rename_i hc;cases h;have⟨X,w⟩:=hc;have J:=Df e X;simp only[xq]
  by_cases L:s.l=[]
  .have:(s.sq ((kept (λi=>(sP s.l p i).getD false) s.l.length).filterMap (s.l[·]?))).l=[]:=by
    cases s<;>simp[Sl.l]at L<;>simp[Sl.sq,Sl.l,L,kept]
   rw[this,L];rfl
  have O:(rows s.l).isEmpty=false:=by cases o:s.l with|nil=>grind|cons a l=>rfl
  rw[O,if_neg Zc,J,F.k,if_pos (by rfl),gI]
  have e1:∀i,0<i->i<s.l.length->∃b,sP s.l p i=some b/\yI S.E g [] (lJ (rows s.l) i) (lJ (rows s.l) (i-1))=some b:=λi m u=>by have:=all_eq_true.1 w i (mem_range.2 u);simp at this;have⟨b,D⟩:=Option.isSome_iff_exists.1 (this.resolve_left Za);refine⟨b,D,?_⟩;have B:i-1<s.l.length:=Za;unfold sP at D;rw[ζd u,ζd B]at D;have W:∀j(I:j<s.l.length),lJ (rows s.l) j=enc s.l[j]:=λj I=>(by unfold lJ;rw[BS _ _ I,getD_some,ER k]);rw[W i u,W (i-1) B];have⟨n,Z⟩:=F.L0 Y d (z:=(s.l[i],s.l[i-1])) D (by simp only[V.cr,iu,Bool.and_self]);unfold yI;rw[I9 Z];rfl
  have e2:((range s.l.length).all λi=>i==0||(yI S.E g [] (lJ (rows s.l) i) (lJ (rows s.l) (i-1))).isSome)=true:=by grind
  rw[if_pos e2];have e3:kept (λi=>(yI S.E g [] (lJ (rows s.l) i) (lJ (rows s.l) (i-1))).getD false) s.l.length=kept (λi=>(sP s.l p i).getD false) s.l.length:=by refine List.filter_congr λi u=>?_;by_cases m:i=0;grind;have⟨b,q,t⟩:=e1 i Za (mem_range.1 u);simp_all
  rw[e3];have e4:(s.sq ((kept (λi=>(sP s.l p i).getD false) s.l.length).filterMap (s.l[·]?))).l=(kept (λi=>(sP s.l p i).getD false) s.l.length).filterMap (s.l[·]?):=by cases s<;>first|rfl|grind
  rw[e4]
  congr 1
  generalize c:kept (λi=>(sP s.l p i).getD false) s.l.length=Q
  have C:∀i∈Q,i<s.l.length:=λi u=>Jk (c▸u)
  clear c e3 e4
  induction Q with
  |nil=>rfl|cons i Q ih=>
   have u:=C i Zc
   rw[map_cons,ih λj I=>C j (List.mem_cons_of_mem _ I),BS _ _ u,List.filterMap_cons,ζd u]
   rfl
 simp_all
theorem OX{s B:Sl α}{p:α->α->Z6}(h:xV s p=some B)(a:cD s.k=false):B=s:=by cases s<;>simp[Sl.k,cD]at a<;>simpa[xV,Sl.l]using h.symm
theorem VY(n d:Nat)(G:qK S T)(O:∀f a b xs,S.items f a b=some xs->fE S f a b xs){fn g:Zk}(J:S.prm fn=some (sM S.E)){p:α->α->Z6}
 (F:kC S (cW S T) g (λz:α×α=>[enc z.1,enc z.2]) (λr:Int=>[.int .i64 r]) (λz=>p z.1 z.2) true){s:Sl α}{f:Sl α->aZ γ}
 (h:∀B,xV s p=some B->Le ((f B).bind e) (b7 S (cW S T) Q (nx S (cW S T) n cf λq=>c6 {q.st with m:=bH q.st.m d (cB B)} q.d (.v .undef))))
 (i:br.size α=1:=by rfl)(U:br.agg α=false:=by rfl)
 (W:(gq S (cW S T) n cf).map (λq=>(q.k,bV S.N q.st.g q.az,bh q.st.m d,q.dr))=some (.c,some [.v (.clo fn [] []),.own d,.v (.clo g [] [])],some (cB s),false):=by kernel_rfl):Le (((xV s p).bind f).bind e) (b7 S (cW S T) Q cf):=by
 have⟨q,C,c⟩:=e_ W;simp at c;have⟨D,I,L,X⟩:=c;refine vu C ?_ h;rw[D,X];intro y w;have⟨B,u,w⟩:=ζg.1 w;have⟨e1,e2⟩:=Rq G O F i U u;have j:=(G.prm fn _ J).keep;have Y:=(G.prm fn _ J).own;rw[Ce false _ _ _ _ _ _ fn [.own d,.v (.clo g [] [])] I rfl];have hc:gj S (cW S T) q.d false (!false||q.now) (gw q.st.m q.fr) fn [.own d,.v (.clo g [] [])] q.st=some (.v .undef,{q.st with m:=bH q.st.m d (cB B)}):=by unfold gj;simp[j,Y,J,Bm,L,cB,di];have e3:=e1;simp[sM];cases k:cD s.k with|true=>grind|false=>have:=OX u k;grind
 grind
theorem V3(n d t:Nat)(G:qK S T)(O:∀f a b xs,S.items f a b=some xs->fE S f a b xs){fn g:Zk}(J:S.prm fn=some (sH S.E)){p:α->α->aZ Zl}
 (F:kC S (cW S T) g (λz:α×α=>[enc z.1,enc z.2]) (λr:Zl=>[.bool r]) (λz=>p z.1 z.2) true){s:Sl α}{f:Sl α->aZ γ}
 (h:∀B,wM s p=some B->Le ((f B).bind e) (b7 S (cW S T) Q (nx S (cW S T) n cf λq=>{q.st with g:=bH q.st.g t (.own t),m:=bH (eo d q.st.m) t (cB B)})))
 (i:br.size α=1:=by rfl)(U:br.agg α=false:=by rfl)
 (W:(gq S (cW S T) n cf).map (λq=>(q.k,bV S.N q.st.g q.az,bh q.st.m d,q.dr,q.d,St.new {q.st with m:=eo d q.st.m} t))=some (.c,some [.v (.clo fn [] []),.own d,.v (.clo g [] [])],some (cB s),false,some t,true):=by kernel_rfl):Le (((wM s p).bind f).bind e) (b7 S (cW S T) Q cf):=by
 have⟨q,C,c⟩:=e_ W;simp at c;have⟨D,I,L,X,Y,Z⟩:=c;refine vu C ?_ h;rw[D,X,Y];intro y u;have⟨B,w,u⟩:=ζg.1 u;cases u;have⟨e1,e2⟩:=Sc G O F i U w;have j:=(G.prm fn _ J).keep;have k:=(G.prm fn _ J).own;rw[Ce false _ _ _ _ _ _ fn [.own d,.v (.clo g [] [])] I rfl];have hc:gj S (cW S T) (some t) false (!false||q.now) (gw q.st.m q.fr) fn [.own d,.v (.clo g [] [])] q.st=some (.own t,{q.st with m:=bH (eo d q.st.m) t (cB B)}):=by unfold gj;simp[j,k,J,Bm,L,cB,di];have e3:(sH S.E).go (br.size α) (rows s.l) [.clo g [] []]=some (rows B.l):=e1;rw[e3];simp[sH,Z];have e4:(if cD s.k=true then bE.sl .part (br.size α) (rows B.l)else .sl s.k (br.size α) (rows s.l))=.sl B.k (br.size α) (rows B.l):=(by rw[e2];cases s<;>rfl);rw[e4]
 rw[hc];rfl
end
end
section
variable{H H':bl}{w:V}{o:Nat}{ids:Zv}{rows:Zt}
theorem mj.cell(n:mj H w o ids rows){p j:Nat}{r:Zu}{u:V}(a:rows[p]?=some r)(c:r[j]?=some u):
 ∃id,ids[p]?=some id/\lu 1 w (p:Int)=some (.hptr o p 0)/\dS H (.load 1 false) [.hptr o p 0]=some (.hsl id 1 0 r.length)/\lu 1 (.hsl id 1 0 r.length) (j:Int)=some (.hptr id j 0)/\dS H (.load 1 false) [.hptr id j 0]=some u:=by
 have D:=(ζe.1 a).1;have G:=(ζe.1 c).1;have B:rows≠[]:=by intro e;subst e;simp at a
 have C:p<ids.length:=by rw[n.len];exact D
 have z:=ζd C;refine⟨ids[p],z,?_,?_,?_,?_⟩
 .have:=n.v;rw[if_neg B]at this;subst this;simp[lu,D]
 .have b:=n.ob B;have I:=BF z a;simp[dS,ec,b,Ob.rows,I,cut];rfl
 .simp[lu,G]
 have b:=n.r p _ r z a;simp[dS,ec,b,Ob.rows,jo,c,cut];rfl
theorem MG{ids:Zv}(h:ids.Nodup){i j:Nat}{a:Nat}(B:ids[i]?=some a)(G:ids[j]?=some a):i=j:=by have b:=(ζe.1 B);have u:=(ζe.1 G);have⟨b,e1⟩:=b;have⟨u,e2⟩:=u;exact(List.getElem_inj h).1 (e1.trans e2.symm)
theorem mj.set(n:mj H w o ids rows){p j id:Nat}{r:Zu}{u:V}(a:rows[p]?=some r)(O:j<r.length)(B:ids[p]?=some id)(c:V.one u=true)(hc:u.cells=[u]):
 ∃H',eY H (.store 1) [.hptr id j 0,u]=some (.undef,H')/\mj H' w o ids (rows.set p (r.set j u))/\H'.length=H.length/\(∀i,i≠id->H'[i]?=H[i]?):=by
 have Q:=(ζe.1 a).1;have z:rows≠[]:=by intro e;subst e;simp at a
 have b:=n.r p id r B a;have S:id<H.length:=(ζe.1 b).1;have G:(jo r).set j [u]=jo (r.set j u):=by simp[jo,List.map_set]
 have I:o≠id:=λe=>n.ne z (e▸mem_of_getElem? B)
 refine⟨H.set id (.row 1 (jo (r.set j u))),?_,⟨?_,λ_=>?_,by simp[n.len],λi J T D C=>?_,n.nd,λ_=>n.ne z⟩,Zc,λi D=>getElem?_set_ne (Ne.symm D)⟩
 .have U:(jo r)[j]?=some [r[j]]:=by simp[jo,O]
  simp only[eY,b,U,hc,length_singleton,zero_add,le_refl,all_cons,c,List.all_nil,Bool.and_self,and_self,if_true,List.take_zero,nil_append];rw[<-G];simp
 .rw[n.v];have:rows.set p (r.set j u)≠[]:=by intro e;apply z;simpa using e
  rw[if_neg z,if_neg this,List.length_set]
 .rw[getElem?_set_ne (Ne.symm I),HS a Zc];exact n.ob z
 by_cases e:i=p
 .subst e;rw[B]at D;cases D;rw[getElem?_set_self Q]at C;cases C;rw[getElem?_set_self S]
 rw[getElem?_set_ne (Ne.symm e)]at C;have L:id≠J:=λW=>e (MG n.nd (W▸D) B)
 rw[getElem?_set_ne L];exact n.r i J T D C
end
structure jW(H:bl)(w:V)(l:List (List V))(id:Nat):Prop where
 c:∀c∈l,c.length=2/\c.all V.one=true
 v:(w=.bG/\l=[])\/∃off xs,w=.hsl id 2 off l.length/\H[id]?=some (.row 2 xs)/\off+l.length<=xs.length/\(xs.drop off).take l.length=l
section
variable{H H':bl}{w:V}{l:Zt}{id:Nat}
theorem jW.heap(n:jW H w l id)(h:∀off n,w=.hsl id 2 off n->H'[id]?=H[id]?):jW H' w l id:=⟨n.c,n.v.imp (λh=>h) λ⟨off,u,e1,e2,e3,e4⟩=>⟨off,u,e1,by rw[h _ _ e1];exact e2,e3,e4⟩⟩
theorem jW.lt(n:jW H w l id){off m:Nat}(h:w=.hsl id 2 off m):id<H.length:=by rcases n.v with⟨e,_⟩|⟨_,u,_,e2,_⟩;rw[e]at h;cases h;exact(ζe.1 e2).1
theorem jW.more(n:jW H w l id)(X:bl):jW (H++X) w l id:=n.heap λ_ _ e=>getElem?_append_left (n.lt e)
theorem jW.len(n:jW H w l id):mH w=some (.int .i64 l.length):=by rcases n.v with⟨rfl,rfl⟩|⟨off,u,rfl,_⟩<;>rfl
theorem jW.get(n:jW H w l id){i:Nat}{c:Zu}(hc:l[i]?=some c):∃p,lu 2 w (i:Int)=some p/\dS H (.load 2 true) [p]=some (.agg c):=by
 have z:=(ζe.1 hc).1;have u:=(n.c c (mem_of_getElem? hc)).1;rcases n.v with⟨_,rfl⟩|⟨off,B,rfl,e2,e3,e4⟩;simp at hc;refine⟨.hptr id (off+i) 0,by simp[lu,z],?_⟩;have:B[off+i]?=some c:=by rw[<-e4,getElem?_take,if_pos z,getElem?_drop]at hc;exact hc
 simp[dS,ec,e2,Ob.rows,this,cut,<-u];rfl
theorem jW.tail{c:Zu}(n:jW H w (c::l) id):∃w',g_ 2 w (some 1) none=some w'/\jW H w' l id/\∃off m B,w=.hsl id 2 off m/\w'=.hsl id 2 B l.length:=by
 rcases n.v with⟨_,e⟩|⟨off,u,rfl,e2,e3,e4⟩;cases e;refine⟨.hsl id 2 (off+1) l.length,?_,⟨λc hc=>n.c c (List.mem_cons_of_mem _ hc),.inr ⟨off+1,u,rfl,e2,by simp at e3;omega,?_⟩⟩,⟨_,_,_,rfl,rfl⟩⟩;simp[g_,dR];omega;have z:(u.drop off).drop 1=u.drop (off+1):=by rw[List.drop_drop]
 rw[<-z];have:=congrArg (List.drop 1) e4;rw[List.drop_take]at this;simpa using this
theorem jW.push(n:jW H w l id){c:Zu}(hc:c.length=2/\c.all V.one=true)(G:l.length+1<=2147483648):
 ∃H',eY (H++[.row 2 [c]]) (.append 2) [w,.hsl H.length 2 0 1]=some (.hsl (H.length+1) 2 0 (l.length+1),H')/\jW H' (.hsl (H.length+1) 2 0 (l.length+1)) (l++[c]) (H.length+1)/\H'.length=H.length+2/\(∀i,i<H.length->(∀off m,w=.hsl id 2 off m->i≠id)->H'[i]?=H[i]?):=by
 have e2:dz (H++[.row 2 [c]]) 2 (.hsl H.length 2 0 1)=some [c]:=by simp[dz,Ob.rows]
 have u:∀c'∈l++[c],c'.length=2/\c'.all V.one=true:=λc' h=>by rcases mem_append.1 h with h|h;exact n.c c' h;simp at h;subst h;exact hc
 rcases n.v with⟨rfl,rfl⟩|⟨off,D,rfl,g2,g3,g4⟩
 .have e1:dz (H++[.row 2 [c]]) 2 .bG=some []:=rfl;refine⟨H++[.row 2 [c]]++[.row 2 [c]],?_,⟨u,.inr ⟨0,[c],rfl,Zc,Zc,rfl⟩⟩,Zc,λi B _=>by rw[append_assoc,getElem?_append_left B]⟩
  simp only[eY,e1,e2,gF,List.length_nil,length_singleton,map_some];simp
 have z:=(ζe.1 g2).1;have e1:dz (H++[.row 2 [c]]) 2 (.hsl id 2 off l.length)=some l:=by simp only[dz,if_true,getElem?_append_left z,g2,ζb,Ob.rows,g3,g4]
 have C:gF (H++[.row 2 [c]]) (.hsl id 2 off l.length)=some (List.set (H++[Ob.row 2 [c]]) id Ob.dead):=by simp only[gF,getElem?_append_left z,g2]
 refine⟨List.set (H++[Ob.row 2 [c]]) id Ob.dead++[Ob.row 2 (l++[c])],?_,⟨u,.inr ⟨0,l++[c],Zc,Zc,Zc,take_of_length_le Zc⟩⟩,Zc,λi B h=>?_⟩
 .simp only[eY,e1,e2,C,length_singleton,G,if_true,map_some,ζi]
 rw[getElem?_append_left (by simp;omega),getElem?_set_ne (Ne.symm (h _ _ rfl)),getElem?_append_left B]
end
def yX(rs:aY RV):Out×St->aZ bE
 |(.exit _,_)=>none|(_,st)=>(kR st rs).bind λl=>match l with
  |[.own d]=>bh st.m d|_=>none
theorem UJ{S:Sys}{c:bZ}{rs:aY RV}{a:RC}{st:St}{ob:bE}(h:ki S c (yX rs) a [] st=some ob):∃o st' d,cA S c a st=some (o,st')/\(∀id,o≠.exit id)/\kR st' rs=some [.own d]/\bh st'.m d=some ob:=by
 rw[qa]at h;have⟨⟨o,st'⟩,b,u⟩:=ζg.1 h;have z:∀id,o≠.exit id:=by rintro id rfl;simp[yX]at u
 have B:(kR st' rs).bind (λl=>match l with|[.own d]=>bh st'.m d|_=>none)=some ob:=by cases o with|exit id=>exact absurd rfl (z id)|norm=>exact u|ret=>exact u
 have⟨l,C,w⟩:=ζg.1 B;split at w;exact⟨o,st',_,b,z,C,w⟩;cases w
theorem UG{S:Sys}{T:pR}(U:qK S T)(W:∀f a b xs,S.items f a b=some xs->fE S f a b xs){f:Zk}{rf:RF}(Y:T f=some rf){B:Zu}(c:V.cr B=true)(g:B.length<=rf.na){k:Fl}{es:Nat}{xs:Zt}
 (l:∀x∈xs,x.all V.scalar=true)(m:k=.row\/k=.nil/\xs=[])(h:ki S (cW S T) (yX rf.rs) rf.body [] (start (B.map .v) [])=some (.sl k es xs)):
 ∃n y H',run S.E n (.fn f) B []=some (y,H')/\((k=.nil/\y=.bG)\/(∃id,y=.hsl id es 0 xs.length/\H'[id]?=some (.row es xs))):=by
 have⟨o,st',d,r,Q,G,I⟩:=UJ h;have hc:cW S T f (B.map .v) []=some ([.own d],st'.m):=by rw[q_ Y];unfold mJ;rw[if_pos (by simpa using g),r];cases o with|exit id=>exact absurd rfl (Q id)|norm=>simp only[G,map_some]|ret=>simp only[G,map_some]
 have⟨X,r1⟩:=vO c;obtain⟨n,y,H2,ν',Z',st2,F',J,g1,rfl,g3,g4,g5,_⟩:=wC U W f _ _ _ _ hc _ _ B [] (.inr rfl) X r1;obtain⟨z,E,rfl,e1,e2⟩:=g4.inv;have:=e2.cQ;subst this;refine⟨n,_,H2,g1,?_⟩
 cases e1 with
 |own d y Z=>
  have⟨F,H,K,e,u⟩:=Z _ I;cases e;have w:=g5.obj d _ (by rw[g3];exact I)
  rcases m with rfl|⟨rfl,rfl⟩
  .right;simp only[dX,cD,if_true]at w;have⟨J,s,M,D,N,C⟩:=w;have⟨C,t⟩:=C trivial;rw[C,drop_zero,<-t,take_of_length_le (le_refl _)]at D;have:xs=J:=by
    refine List.ext_getElem D.1 λi p q=>?_
    have L:=D.2 i _ _ (ζd p) (ζd q);refine List.ext_getElem L.1 λj O v=>?_
    have A:=L.2 j _ _ (ζd O) (ζd v);exact((A.scalar).1 (all_eq_true.1 (l _ (getElem_mem p)) _ (getElem_mem O))).symm
   subst this;refine⟨(ν' d).1,?_,s⟩;show result [_]=_;rw[u];simp[result,rm,C]
  left;exact⟨rfl,by show result [_]=_;rw[u];rfl⟩
theorem GW{E:Env}{f:Zk}{B:Zu}{l:Zt}{y:V}{H1:bl}(d:E.own f=true)(e:V.cr B=true)(G:∀c∈l,c.length=2/\c.all V.one=true/\c.all V.scalar=true)
 (b:∃n,∀k,n<=k->run E k (.fn f) B []=some (y,H1))(J:(l=[]/\y=.bG)\/(∃id,y=.hsl id 2 0 l.length/\H1[id]?=some (.row 2 l)))(H:bl):
 ∃w X id,(∃n,∀k,n<=k->fc E (run E k) f B H=some (w,H++X))/\jW (H++X) w l id/\(∀off m,w=.hsl id 2 off m->id=H.length):=by
 have⟨n,b⟩:=b;have C:∀{k:Nat}{l:Zu},V.cr l=true->borrows k H l=some l:=by intro k l;unfold borrows;induction l with|nil=>intro _;rfl|cons a l D=>intro h;have g:V.good a=true/\V.cr l=true:=(by simpa[V.cr]using h);simp only[gV,ez k H (V.ku g.1),D g.2]
 rcases J with⟨rfl,rfl⟩|⟨id,rfl,z⟩
 .refine⟨.bG,[],0,⟨n,λk u=>?_⟩,⟨λc h=>by simp at h,.inl ⟨rfl,rfl⟩⟩,λoff m h=>by cases h⟩
  simp only[fc,d,if_true,j_,C e,b k u,V.scalar,append_nil]
 refine⟨.hsl H.length 2 0 l.length,[.row 2 l],H.length,⟨n,λk u=>?_⟩,⟨λc h=>⟨(G c h).1,(G c h).2.1⟩,.inr ⟨0,l,rfl,Zc,Zc,Zc⟩⟩,λoff m h=>rfl⟩
 have I:(l.all λx=>x.all V.scalar)=true:=all_eq_true.2 λc h=>(G c h).2.2
 simp only[fc,d,if_true,j_,C e,b k u,V.scalar,false_eq_true,if_false,qA,z,I,and_self,map_some]
def Sl.whole{α:Type}(s:Sl α):aZ (Sl α):=match s with|.part _=>none|s=>some s
structure FV(S:Sys)(c:bZ){α δ:Type}[br δ](fn:FuncId)(A:α->List V)(p:α->Option (Sl δ)):Prop where
 k:S.E.keep fn=true
 o:S.E.own fn=true
 h:∀z s,p z=some s->∃e m',c fn ((A z).map .v) []=some ([.own e],m')/\bh m' e=some (cB s)
 sc:∀x:δ,(cells x).all V.scalar=true
theorem FV.mk'{S:Sys}{T:pR}{α δ:Type}[br δ](rf:RF){fn:Zk}{A:α->Zu}{p:α->aZ (Sl δ)}(h:∀z,Le ((p z).bind λr=>some (cB r)) (b7 S (cW S T) (yX rf.rs) (.rc rf.body,[],start ((A z).map .v) [])))
 (B:T fn=some rf:=by kernel_rfl)(b:S.E.keep fn=true:=by kernel_rfl)(G:S.E.own fn=true:=by kernel_rfl)(J:∀z,(A z).length<=rf.na:=by intro z;exact Nat.le_of_ble_eq_true (by kernel_rfl))
 (sc:∀x:δ,(cells x).all V.scalar=true:=by intro x;rfl):FV S (cW S T) fn A p where
 k:=b
 o:=G
 sc:=sc
 h z s u:=by have a:=h z (cB s) (by rw[u];rfl);change ki S (cW S T) (yX rf.rs) rf.body [] (start ((A z).map .v) [])=some (cB s)at a;have⟨o,st',d,g1,g2,g3,g4⟩:=UJ a;refine⟨d,st'.m,?_,g4⟩;rw[q_ B];unfold mJ;rw[if_pos (by simpa using J z),g1];cases o with|exit id=>exact absurd rfl (g2 id)|norm=>simp only[g3,map_some]|ret=>simp only[g3,map_some]
section
variable{S:Sys}{c:bZ}{β γ δ α:Type}[br δ]{Q:Out×St->aZ β}{e:γ->aZ β}{cf:Cf}
theorem J6(n u:Nat){fn:Zk}{A:α->Zu}{p:α->aZ (Sl δ)}(F:FV S c fn A p)(z:α){f:Sl δ->aZ γ}
 (h:∀x,(p z).bind Sl.whole=some x->Le ((f x).bind e) (b7 S c Q (nx S c n cf λq=>{q.st with g:=bH q.st.g u (.own u),m:=bH q.st.m u (cB x)})))
 (J:(gq S c n cf).map (λq=>(q.d,q.k,(bV S.N q.st.g q.az).bind oB,(!q.dr||q.now),q.st.new u))=some (some u,.c,some (fn,(A z).map .v),true,true):=by kernel_rfl):Le ((((p z).bind Sl.whole).bind f).bind e) (b7 S c Q cf):=by
 have⟨q,L,b⟩:=e_ J;simp only[ζc]at b;have⟨O,T,U,W,I⟩:=b;have⟨C,g1,g2⟩:=ζg.1 U;refine vu L ?_ h;rw[O,T];intro y D;have⟨X,G,D⟩:=ζg.1 D;cases D;have⟨s,Y,B⟩:=ζg.1 G;have⟨e0,m',hc,Z⟩:=F.h z s Y;rw[Ce q.dr _ _ _ _ _ C fn ((A z).map .v) g1 g2];have w:gj S c (some u) q.dr (!q.dr||q.now) (gw q.st.m q.fr) fn ((A z).map .v) q.st=some (.own u,{q.st with m:=bH q.st.m u (cB X)}):=by unfold gj;simp only[F.k,F.o,if_true,W,wm,hc,di,Z,cB,I];cases s with|nil=>cases B;rfl|emp=>cases B;rfl|row l=>cases B;have:og (rows l)=true:=(by unfold og;rw[all_eq_true];intro x d;obtain⟨a,_,rfl⟩:=mem_map.1 d;exact F.sc a);simp only[Sl.k,Sl.l,di,V.cG,this,Bool.and_self,I,if_true];rfl|part l=>cases B
 rw[w];rfl
end
structure GD where
 m:Nat
 pre:List (Nat×List Gh)
 nd:List (Nat×List Gh×List Gh)
structure GI where
 m:Nat
 i:Nat
 j:Nat
def Wd{α:Type}(l:aY (Nat×aY α))(i:Nat):aY α:=match l with
 |[]=>[]|(k,x)::r=>bif beq k i then x else Wd r i
def za(l:aY (Nat×Z5×Z5))(i:Nat):Z5×Z5:=match l with
 |[]=>([],[])|(k,x)::r=>bif beq k i then x else za r i
def J8(m:Nat):Zv->Zv
 |[]=>[]|x::l=>bif beq (m % 2) 1 then x::J8 (m / 2) l else J8 (m / 2) l
def NR:Z4->Zv
 |[]=>[]|.s n::r=>n::NR r|_::r=>NR r
def VF(o:RO):Zv:=(match o.dst with|some d=>[d]|none=>[])++(match o.gd with|some g=>[g.1]|none=>[])++NR o.az
def WM(G:GD)(s:GI)(o:RO):RO:={o with dead:=J8 (bif beq (s.m % 16) 15 then s.m / 16 % 65536 else s.m % 16) (VF o),pre:=Wd G.pre s.i}
def GI.op(s:GI):GI:=⟨bif beq (s.m % 16) 15 then s.m / 1048576 else s.m / 16,s.i+1,s.j⟩
def yU(G:GD):Zy->GI->Zy×GI
 |[],s=>([],s)|o::r,s=>(WM G s o::(yU G r s.op).1,(yU G r s.op).2)
def zJ:Z5->RC->RC
 |[],c=>c|g::l,c=>.gh g (zJ l c)
def Np:Z5->RC->RC
 |[],c=>c|g::l,c=>Np l (.hg c g)
def GI.nd(s:GI):GI:=⟨s.m,s.i,s.j+1⟩
def jf(G:GD):RC->GI->RC×GI
 |.seq a b,s=>(zJ (za G.nd s.j).1 (.seq (jf G a s.nd).1 (jf G b (jf G a s.nd).2).1),(jf G b (jf G a s.nd).2).2)|.cond x a b,s=>(zJ (za G.nd s.j).1 (.cond x (jf G a s.nd).1 (jf G b (jf G a s.nd).2).1),(jf G b (jf G a s.nd).2).2)|.block id a,s=>(zJ (za G.nd s.j).1 (.block id (jf G a s.nd).1),(jf G a s.nd).2)|.loop a,s=>(zJ (za G.nd s.j).1 (.loop (Np (za G.nd s.j).2 (jf G a s.nd).1)),(jf G a s.nd).2)|.each g ps a b,s=>(zJ (za G.nd s.j).1 (.each g ps (jf G a s.nd).1 (Np (za G.nd s.j).2 (jf G b (jf G a s.nd).2).1)),(jf G b (jf G a s.nd).2).2)|.ops l,s=>(zJ (za G.nd s.j).1 (.ops (yU G l s.nd).1),(yU G l s.nd).2)|.oS l,s=>(zJ (za G.nd s.j).1 (.oS (yU G l s.nd).1),(yU G l s.nd).2)|.gh g c,s=>(.gh g c,s)|.hg c g,s=>(.hg c g,s)|c,s=>(zJ (za G.nd s.j).1 c,s.nd)
theorem kB(c:RC):∀l,erase (zJ l c)=erase c
 |[]=>rfl|g::l=>by simp only[zJ,erase,kB c l]
theorem zw:∀l(c:RC),erase (Np l c)=erase c
 |[],c=>rfl|g::l,c=>by simp only[Np,zw l,erase]
theorem ya(G:GD):∀(l:Zy)s,((yU G l s).1).map RO.strip=l.map RO.strip
 |[],s=>rfl|o::r,s=>by simp only[yU,map_cons,ya G r];rfl
theorem lE(G:GD):∀(c:RC)s,erase (jf G c s).1=erase c
 |.seq a b,s=>by simp only[jf,kB,erase,lE G a,lE G b]|.cond x a b,s=>by simp only[jf,kB,erase,lE G a,lE G b]|.block id a,s=>by simp only[jf,kB,erase,lE G a]|.loop a,s=>by simp only[jf,kB,erase,zw,lE G a]|.each g ps a b,s=>by simp only[jf,kB,erase,zw,lE G a,lE G b]|.ops l,s=>by simp only[jf,kB,erase,ya]|.oS l,s=>by simp only[jf,kB,erase,ya]|.gh g c,s=>rfl|.hg c g,s=>rfl|.skip,s=>by simp only[jf,kB]|.ret,s=>by simp only[jf,kB]|.exit _,s=>by simp only[jf,kB]
theorem Iy{X:CX}{dr:Zl}{ops:Zz}{i:Nat}{o:Oper}{r:RO}(h:mB X dr ops i o=some r):r.strip=r:=by obtain⟨_,_,_,_,_,_,rfl⟩:=CW h;rfl
theorem wN{X:CX}{dr:Zl}{ops:Zz}:∀{l:Zz}{i:Nat}{r:Zy},kM X dr ops i l=some r->r.map RO.strip=r
 |[],i,r,h=>by cases h;rfl|o::l,i,r,h=>by simp only[kM]at h;split at h;(next a b B G=>cases h;simp only[map_cons,Iy B,wN G]);cases h
theorem Ii{X:CX}:∀{c:Code}{ro:Zl}{r:RC},bL X ro c=some r->erase r=r:=by intro c;induction c with|region _ ops dr=>intro ro r h;simp only[bL]at h;split at h;split at h;obtain⟨l,d,rfl⟩:=ζf.1 h;simp only[erase,wN d];cases h;obtain⟨l,d,rfl⟩:=ζf.1 h;simp only[erase,wN d]|seq a b u w=>intro ro r h;simp only[bL]at h;split at h;(next d z=>cases h;simp only[erase,u d,w z]);cases h|cond c a b u w=>intro ro r h;simp only[bL]at h;split at h;(next d z=>cases h;simp only[erase,u d,w z]);cases h|block id a u=>intro ro r h;simp only[bL]at h;obtain⟨l,d,rfl⟩:=ζf.1 h;simp only[erase,u d]|loop a u=>intro ro r h;simp only[bL]at h;obtain⟨l,d,rfl⟩:=ζf.1 h;simp only[erase,u d]|rangeFunc g ps a b u w=>intro ro r h;simp only[bL]at h;split at h;cases h;split at h;(next d z=>cases h;simp only[erase,u d,w z]);cases h|_=>intro ro r h;first|cases h;rfl|(simp only[bL]at h;cases h;rfl)|(simp only[bL]at h;cases h)
def N0(E:Env)(nm:Zk->aZ Nat)(G:Zk->aZ GD):pR:=λf=>(G f).bind λg=>(E.ft f).bind λu=>(bL ⟨E,nm,u.ntmps⟩ false u.body).bind λc=>(u.results.mapM (Aw E)).bind λrs=>some ⟨u.ntmps,rs,(jf g c ⟨g.m,0,0⟩).1⟩
theorem Oo{E:Env}{nm:Zk->aZ Nat}{G:Zk->aZ GD}{f:Zk}{rf:RF}(h:N0 E nm G f=some rf):∃fi,E.ft f=some fi/\xK E nm fi rf:=by unfold N0 at h;have⟨g,_,h⟩:=ζg.1 h;have⟨fi,a,h⟩:=ζg.1 h;have⟨c,u,h⟩:=ζg.1 h;have⟨rs,w,h⟩:=ζg.1 h;cases h;exact⟨fi,a,by rw[u,lE,Ii u],w,rfl⟩
theorem AJ:∀(g:Zk)(s:Nat),some g=some s->(λn=>n) s=g:=λ_ _ h=>(Option.some.inj h).symm
def sQ(o:aZ RF):RF:=o.getD ⟨0,[],.skip⟩
def tb(T:pR)(f:Zk):RC:=(sQ (T f)).body
def tr(T:pR)(f:Zk):aY RV:=(sQ (T f)).rs
theorem C0{o:aZ RF}(h:o.isSome=true):o=some (sQ o):=by cases o with
 |none=>cases h|some r=>rfl
class je(δ:Type)where
 e:δ->List V
instance Xn{α:Type}[br α]:je α:=⟨λx=>[enc x]⟩
instance Xp:je Unit:=⟨λ_=>[]⟩
instance Xq{α β:Type}[br α][je β]:je (α×β):=⟨λx=>enc x.1::je.e x.2⟩
@[simp] theorem WT{α:Type}[br α](x:α):je.e x=[enc x]:=rfl
@[simp] theorem WU(x:Unit):je.e x=[]:=rfl
@[simp] theorem WQ{α β:Type}[br α][je β](x:α×β):je.e x=enc x.1::je.e x.2:=rfl
class Fc(S:Sys)(c:bZ){δ:Type}(m:Option δ)where
 n:FuncId
 az:List V
 E:δ->List V
 sc:Bool
 F:kC S c n (λ_:Unit=>az) E (λ_=>m) sc
section
variable{S:Sys}{T:pR}{δ:Type}{m:aZ δ}
theorem kC.Px{E:δ->Zu}(fn:Zk)(az:Zu)(h:Le (m.bind λr=>some (E r)) (b7 S (cW S T) (qu (tr T fn)) (.rc (tb T fn),[],start (az.map .v) [])))
 (B:(T fn).isSome=true)(a:S.E.keep fn=false)(G:ble az.length (sQ (T fn)).na=true)
 {sc:Zl}(s:sc=true->∀r,(result (E r)).scalar=true):kC S (cW S T) fn (λ_:Unit=>az) E (λ_=>m) sc where
 k:=a
 h z:=Ws (C0 B) (Nat.le_of_ble_eq_true G) h
 s:=s
abbrev Fc.NE(E:δ->aY V)(fn:FuncId)(az:aY V)(h:Le (m.bind λr=>some (E r)) (b7 S (cW S T) (qu (tr T fn)) (.rc (tb T fn),[],start (az.map .v) [])))
 (B:(T fn).isSome=true:=by kernel_rfl)(a:S.E.keep fn=false:=by kernel_rfl)(G:ble az.length (sQ (T fn)).na=true:=by kernel_rfl)
 :Fc S (cW S T) m:=
 ⟨fn,az,E,false,kC.Px fn az h B a G λh=>nomatch h⟩
abbrev Fc.M[je δ](fn:FuncId)(az:aY V)(h:Le (m.bind λr=>some (je.e r)) (b7 S (cW S T) (qu (tr T fn)) (.rc (tb T fn),[],start (az.map .v) [])))
 (B:(T fn).isSome=true:=by kernel_rfl)(a:S.E.keep fn=false:=by kernel_rfl)(G:ble az.length (sQ (T fn)).na=true:=by kernel_rfl)
 (s:∀r:δ,(result (je.e r)).scalar=true:=by intro r;kernel_rfl):Fc S (cW S T) m:=
 ⟨fn,az,je.e,true,kC.Px fn az h B a G λ_=>s⟩
abbrev Fc.N[je δ](fn:FuncId)(az:aY V)(h:Le (m.bind λr=>some (je.e r)) (b7 S (cW S T) (qu (tr T fn)) (.rc (tb T fn),[],start (az.map .v) [])))
 (B:(T fn).isSome=true:=by kernel_rfl)(a:S.E.keep fn=false:=by kernel_rfl)(G:ble az.length (sQ (T fn)).na=true:=by kernel_rfl)
 :Fc S (cW S T) m:=
 ⟨fn,az,je.e,false,kC.Px fn az h B a G λh=>nomatch h⟩
end
abbrev Fc.of{S:Sys}{c:bZ}{α δ:Type}{p:α->aZ δ}{n:FuncId}{A:α->aY V}{E:δ->aY V}{b:Bool}(z:α)(F:kC S c n A E p b):Fc S c (p z):=⟨n,A z,E,b,⟨F.k,λ_=>F.h z,F.s⟩⟩
theorem kC.wv{S:Sys}{c:bZ}{α δ:Type}{p:α->aZ δ}{n:Zk}{A:α->Zu}{E:δ->Zu}{b:Zl}(F:∀z,Fc S c (p z))(i:α)(B:∀z,(F z).n=n)(J:∀z,(F z).az=A z)(G:∀z,(F z).E=E)(O:∀z,(F z).sc=b):kC S c n A E p b where
 k:=by rw[<-B i];exact(F i).F.k
 h z:=by rw[<-B z,<-J z,<-G z];exact(F z).F.h ()
 s:=by rw[<-O i,<-G i];exact(F i).F.s
theorem qp.wv{S:Sys}{c:bZ}{α δ:Type}{p:α->aZ δ}{g:Zk}{w e:Zu}{A:α->Zu}{R:δ->Zu}{b:Zl}[i:Inhabited α][F:∀z,Fc S c (p z)](B:∀z,(F z).n=g:=by intro _;kernel_rfl)(G:∀z,(F z).az=w++A z++e:=by intro _;kernel_rfl)
 (J:∀z,(F z).E=R:=by intro _;kernel_rfl)(O:∀z,(F z).sc=b:=by intro _;kernel_rfl):qp S c g w e A R p b:=
 ⟨kC.wv F default B G J O⟩
section
variable{S:Sys}{c:bZ}{β γ δ α:Type}{Q:Out×St->aZ β}{e:γ->aZ β}{cf:Cf}
theorem wW(n:Nat){m:aZ β}(h:Le m (b7 S c Q (jl S c n cf)))(B:gQ S c n cf.1 cf.2.1 cf.2.2=some (jl S c n cf):=by kernel_rfl):Le m (b7 S c Q cf):=Dr B h
theorem bA(n:Nat){m:aZ δ}[F:Fc S c m]{f:δ->aZ γ}(h:∀x,m=some x->Le ((f x).bind e) (b7 S c Q (nx S c n cf λp=>c6 p.st p.d (.v (result (F.E x))))))
 (B:(gq S c n cf).map (λp=>(p.k,(bV S.N p.st.g p.az).bind oB,(!p.dr||p.now||gw p.st.m p.fr [])))=some (.c,some (F.n,F.az.map .v),true):=by kernel_rfl):Le ((m.bind f).bind e) (b7 S c Q cf):=AP n F.F () h B
theorem jY(n:Nat){m:aZ δ}[F:Fc S c m]{f:δ->aZ γ}(h:∀x,m=some x->Le ((f x).bind e) (b7 S c Q (nx S c n cf λp=>c6 p.st p.d (.v (result (F.E x))))))
 (B:(gq S c n cf).map (λp=>(p.k,((bV S.N p.st.g p.az).bind oB).bind λq=>(nX (i_ p.st.m 8) q.2).map λvs=>(q.1,vs,((!p.dr||p.now)||gw p.st.m p.fr q.2))))=some (.c,some (F.n,F.az,true)):=by kernel_rfl)(G:F.sc=true:=by kernel_rfl):Le ((m.bind f).bind e) (b7 S c Q cf):=
 Uh n (u G F.F) () h B
where
 u {b:Zl} {fn:Zk} {az:Zu} {E:δ->Zu} {m:aZ δ} (h:b=true) (F:kC S c fn (λ_:Unit=>az) E (λ_=>m) b):kC S c fn (λ_:Unit=>az) E (λ_=>m) true:=h▸F
def QZ(cf:Cf):RC:=match cf.1 with|.rc (.loop c)=>c|_=>.skip
def C9(cf:Cf):Arg×Zv×RC×RC:=match cf.1 with|.rc (.each g ps a b)=>(g,ps,a,b)|_=>(.s 0,[],.skip,.skip)
theorem dx{σ ε ρ:Type}{step:σ->aZ (Fw σ ε ρ)}(n:Nat)(eσ:σ->St)(eε:ε->Nat×St)(eρ:ρ->St){s:σ}{B:ε->aZ γ}{fr:ρ->aZ γ}
 (h:∀s,Le ((step s).bind λw=>some (Fw.out eσ eε eρ w)) (b7 S c some (.rc (QZ (jl S c n cf)),[],eσ s)))
 (G:∀x,Le ((B x).bind e) (b7 S c Q (.ex (eε x).1,(jl S c n cf).2.1,(eε x).2)))(a:∀b,Le ((fr b).bind e) (Q (.ret,eρ b)))
 (J:gQ S c n cf.1 cf.2.1 cf.2.2=some (.rc (.loop (QZ (jl S c n cf))),(jl S c n cf).2.1,eσ s):=by kernel_rfl):Le (((bM step s).bind (Fw.elim B fr)).bind e) (b7 S c Q cf):=
 HU J h G a
theorem eT{σ ε:Type}{step:σ->aZ (Fw σ ε Empty)}(n:Nat)(eσ:σ->St)(eε:ε->Nat×St){s:σ}{B:ε->aZ γ}{fr:Empty->aZ γ}
 (h:∀s,Le ((step s).bind λw=>some (Fw.out eσ eε (λe=>Empty.elim e) w)) (b7 S c some (.rc (QZ (jl S c n cf)),[],eσ s)))
 (G:∀x,Le ((B x).bind e) (b7 S c Q (.ex (eε x).1,(jl S c n cf).2.1,(eε x).2)))
 (J:gQ S c n cf.1 cf.2.1 cf.2.2=some (.rc (.loop (QZ (jl S c n cf))),(jl S c n cf).2.1,eσ s):=by kernel_rfl):Le (((bM step s).bind (Fw.elim B fr)).bind e) (b7 S c Q cf):=
 HU J h G λb=>Empty.elim b
theorem FJ{σ ε ρ:Type}{f:Zk}{x y:Zu}{a:aY α}{eI:α->Zu}{step:α->σ->aZ (Fw σ ε ρ)}(n:Nat)(d:Tb SV)(eσ:σ->Tb bE)(eε:ε->Nat×Tb bE)(eρ:ρ->Tb bE){s:σ}{fn:σ->aZ γ}{B:ε->aZ γ}{fr:ρ->aZ γ}
 (G:S.items f x y=some (a.map eI))
 (h:∀x s,Le ((step x s).bind λw=>some (Fw.vI eσ eε eρ w)) (b7 S c (xG S c (C9 (jl S c n cf)).2.2.2) (.rc (C9 (jl S c n cf)).2.2.1,[],⟨v8 d (C9 (jl S c n cf)).2.1 ((eI x).map .v),eσ s,pM d,[],true,0⟩)))
 (J:∀s,Le ((fn s).bind e) (b7 S c Q (.nx,(jl S c n cf).2.1,bz d (eσ s))))(O:∀x,Le ((B x).bind e) (b7 S c Q (.ex (eε x).1,(jl S c n cf).2.1,bz d (eε x).2)))(g:∀b,Le ((fr b).bind e) (Q (.ret,bz d (eρ b))))
 (U:∀x,(eI x).length=(C9 (jl S c n cf)).2.1.length:=by intro _;kernel_rfl)(i:qt S.N d (C9 (jl S c n cf)).1=some (.v (.clo f x y)):=by kernel_rfl)
 (W:gQ S c n cf.1 cf.2.1 cf.2.2=some (.rc (.each (C9 (jl S c n cf)).1 (C9 (jl S c n cf)).2.1 (C9 (jl S c n cf)).2.2.1 (C9 (jl S c n cf)).2.2.2),(jl S c n cf).2.1,bz d (eσ s)):=by kernel_rfl):Le (((nU step a s).bind (Fw.we fn B fr)).bind e) (b7 S c Q cf):=
 Uw W i G U h J O g
def Uq(n k:Nat)(B:Zv)(d:Nat)(S:Sys)(c:bZ)(cf:Cf)(v:SV):Cf:=jmp k [] (jl S c n cf) {(jl S c n cf).2.2 with g:=bH (o7 B (jl S c n cf).2.2.g) d v}
theorem cm[br δ](n k:Nat)(B:Zv)(d:Nat){m:aZ δ}{f:δ->aZ γ}(G:Le (m.bind λr=>b7 S c Q (Uq n k B d S c cf (cv r))) (b7 S c Q cf))(a:∀r,Le ((f r).bind e) (b7 S c Q (Uq n k B d S c cf (cv r)))):Le ((m.bind f).bind e) (b7 S c Q cf):=Qq _ G a
end
instance{n:Nat}:DecidableEq (bU n Int):=λa b=>if h:a.l=b.l then .isTrue (by cases a;cases b;cases h;rfl)else .isFalse λe=>h (by rw[e])
theorem uW:∀l:Zx,hG ((l.map (cells (α:=Int))).flatten)=some l
 |[]=>rfl|a::l=>by show hG (.int .i64 a::(l.map (cells (α:=Int))).flatten)=_;simp only[hG,uW l,map_some]
theorem EJ(l:Zx):(l.map (cells (α:=Int))).flatten=l.map (V.int .i64):=by induction l with|nil=>rfl|cons a l u=>simp only[map_cons,List.flatten_cons,u];rfl
instance{n:Nat}:Key (bU n Int)where
 kk:=.ints n
 ok a:=by show((a.l.map (cells (α:=Int))).flatten.length==n&&(hG (a.l.map (cells (α:=Int))).flatten).isSome)=true;rw[uW,EJ,length_map,a.len];simp
 eq a b:=by show kH (a.l.map (cells (α:=Int))).flatten (b.l.map (cells (α:=Int))).flatten=_;unfold kH;rw[uW,uW];simp only[a.len,b.len,if_true];congr 1;rw[Bool.eq_iff_iff,beq_iff_eq,decide_eq_true_iff];exact⟨λh=>by cases a;cases b;cases h;rfl,λh=>by rw[h]⟩
def mD(n:Nat)(s:Zg):bU n Int:=⟨nq n s.l,by unfold nq;simp;omega⟩
theorem wL:∀l:Zx,qc (l.map (cells (α:=Int)))=some l
 |[]=>rfl|a::l=>by show qc ([.int .i64 a]::l.map (cells (α:=Int)))=_;simp only[qc,wL l,map_some]
theorem NZ(n:Nat)(s:Zg):uy n [enc s]=some (enc (mD n s)):=by
 have e:enc (mD n s)=.agg (xO n s.l):=by show V.agg ((mD n s).l.map (cells (α:=Int))).flatten=_;rw[EJ];rfl
 rw[e];cases s with|nil=>rfl|emp=>rfl|row l=>show((qc (l.map (cells (α:=Int)))).map λl=>V.agg (xO n l))=_;rw[wL];rfl|part l=>show((qc (l.map (cells (α:=Int)))).map λl=>V.agg (xO n l))=_;rw[wL];rfl
theorem LV{E:Env}{f:Zk}{az:Zu}{y:V}(B:V.good y=true)(h:∃n H',run E n (.fn f) az []=some (y,H')):wD E f az y:=by have⟨n,H',h⟩:=h;exact⟨n,y,H',λ_=>False,h,.same _ B,λ_ h=>h.elim,⟨λ_ _ _ h=>h.elim⟩⟩
theorem Nj{E:Env}{f:Zk}{az:Zu}{y:V}(a:E.ft f=none)(B:E.sort f=false)(G:E.known f az=some y):run E 1 (.fn f) az []=some (y,[]):=by simp only[run,jD,a,B,G];rfl
theorem Q9{E:Env}{f n:Nat}(a:E.ft f=none)(B:E.sort f=false)(G:∀az,E.known f az=uy n az)(s:Zg):wD E f [enc s] (enc (mD n s)):=LV (iu _) ⟨1,[],Nj a B (by rw[G,NZ])⟩
def AB(m:Tb bE):SV->Zl
 |.v _|.agg _=>true|x=>kN m x
def nH:SV->Zw
 |.v x=>x.cells.map .v|.agg l=>l|x=>[x]
def AQ(cells:Zw):aY (Nat×Nat)->Zw->aZ Zw
 |[],[]=>some cells|(off,size)::pl,v::vs=>if(nH v).length=size/\off+(nH v).length<=cells.length then AQ (cells.take off++nH v++cells.drop (off+(nH v).length)) pl vs else none|_,_=>none
theorem LF(cells:Zw):AQ cells [] []=some cells:=rfl
theorem CH(cells:Zw)(off size:Nat)(pl:aY (Nat×Nat))(v:SV)(vs:Zw):AQ cells ((off,size)::pl) (v::vs)=if(nH v).length=size/\off+(nH v).length<=cells.length then AQ (cells.take off++nH v++cells.drop (off+(nH v).length)) pl vs else none:=rfl
theorem PA(x:V):nH (.v x)=x.cells.map .v:=rfl
theorem KC(d:Nat):nH (.own d)=[.own d]:=rfl
theorem Nr(d:Nat):nH (.mp d)=[.mp d]:=rfl
theorem Ko(d o:Nat):nH (.ptr d o)=[.ptr d o]:=rfl
theorem Pu{m:Tb bE}{v:SV}(h:AB m v=true):xy m v=some (nH v):=by cases v<;>first|rfl|(unfold xy;exact if_pos h)|(simp[AB,kN]at h)
theorem I7{m:Tb bE}:∀{pl:aY (Nat×Nat)}{vs cells l:Zw},vs.all (AB m)=true->AQ cells pl vs=some l->sL m cells pl vs=some l
 |[],[],_,_,_,h=>h|[],_::_,_,_,_,h=>by cases h|_::_,[],_,_,_,h=>by cases h|(off,size)::pl,v::vs,cells,l,B,h=>by rw[all_cons,ζh]at B;rw[CH]at h;show(match xy m v with|some c=>if c.length=size/\off+c.length<=cells.length then sL m (cells.take off++c++cells.drop (off+c.length)) pl vs else none|none=>none)=some l;rw[Pu B.1];simp only;split at h;(next hc=>rw[if_pos hc];exact I7 B.2 h);cases h
def Dv:SV->Zl
 |.v x=>x.one|.agg _=>false|_=>true
theorem UB(x:V):Dv (.v x)=x.one:=rfl
theorem Py(d:Nat):Dv (.own d)=true:=rfl
theorem SQ(d:Nat):Dv (.mp d)=true:=rfl
theorem Pc(d o:Nat):Dv (.ptr d o)=true:=rfl
theorem Je{m:Tb bE}:∀{l:Zw},l.all Dv=true->l.all (AB m)=true->l.all (vX m)=true
 |[],_,_=>rfl|x::l,h,k=>by rw[all_cons,ζh]at h k⊢;refine⟨?_,Je h.2 k.2⟩;cases x<;>first|exact h.1|exact k.1|(have:=h.1;cases this)
section
variable{S:Sys}{c:bZ}{β γ δ α:Type}{Q:Out×St->aZ β}{e:γ->aZ β}{cf:Cf}
theorem LD{N:Nat->Zk}{m:Tb bE}{z:Zu}{pl:aY (Nat×Nat)}{svs l:Zw}(B:(di svs).isNone=true)(h:sL m (z.map .v) pl svs=some l):jy N m (.build z pl) svs=some (.agg l):=by unfold jy;cases a:di svs with|some x=>rw[a]at B;cases B|none=>have:wk N m (.build z pl) svs=(sL m (z.map .v) pl svs).map .agg:=(by unfold wk;split<;>first|contradiction|(rename_i e _;cases e;rfl)|simp_all);simp only[this,h,map_some]
theorem VN(n:Nat)(svs l:Zw)(z:Zu)(pl:aY (Nat×Nat)){m:aZ β}(B:AQ (z.map .v) pl svs=some l)(h:Le m (b7 S c Q (nx S c n cf λp=>c6 p.st p.d (.agg l))))
 (G:(gq S c n cf).map (λp=>(p.k,bV S.N p.st.g p.az,(di svs).isNone,svs.all (AB p.st.m)))=some (.p (.build z pl),some svs,true,true):=by kernel_rfl):Le m (b7 S c Q cf):=by
 have⟨p,u,a⟩:=e_ G;simp only[ζc]at a;refine sV u ?_ h;rw[a.1];exact BV a.2.1 rfl (LD a.2.2.1 (I7 a.2.2.2 B))
theorem VO(n u:Nat)(l:Zw){m:aZ β}(B:l.all Dv=true)(h:Le m (b7 S c Q (nx S c n cf λp=>{p.st with g:=bH p.st.g u (.ptr u 0),m:=bH p.st.m u (.box l)})))
 (G:(gq S c n cf).map (λp=>(p.d,p.k,bV S.N p.st.g p.az,p.st.new u,l.all (AB p.st.m)))=some (some u,.a .box,some [.agg l],true,true):=by kernel_rfl):Le m (b7 S c Q cf):=by
 have⟨p,w,a⟩:=e_ G;simp only[ζc]at a;refine sV w ?_ h;rw[a.1,a.2.1,vW,a.2.2.1];simp only[ζb,a.2.2.2.1,if_true,mI,Je B a.2.2.2.2]
theorem WG[br α](n u:Nat)(y x:α){m:aZ β}(h:Le m (b7 S c Q (nx S c n cf λp=>c6 {p.st with m:=bH p.st.m u (bx x)} p.d (.v .undef))))
 (B:(gq S c n cf).map (λp=>(p.k,bV S.N p.st.g p.az,(!p.dr||p.now),bh p.st.m u))=some (.l (.store (br.size α)),some [.ptr u 0,cv x],true,some (bx y)):=by kernel_rfl):Le m (b7 S c Q cf):=by
 have⟨p,z,a⟩:=e_ B;simp only[ζc]at a;refine sV z ?_ h;have⟨b,C,D,G⟩:=a;rw[b,uQ,C];have w:((cells y).map SV.v).length=br.size α:=by rw[length_map,eV]
 simp only[ζb,D,if_true,mw,G,putCells,kK,eV,oH,w,zero_add,le_refl,and_self,map_some,List.take_zero,nil_append];rw[List.drop_of_length_le (by rw[w];exact le_refl _),append_nil]
end
section
variable{S:Sys}{c:bZ}{β γ δ:Type}{Q:Out×St->aZ β}{e:γ->aZ β}{cf:Cf}{κ ν:Type}[br κ][DecidableEq κ][Key κ][br ν]
structure yJ(κ ν:Type)where
 o:Option (Mo κ ν)
 deriving Inhabited
def Uf(m:yJ κ ν):V:=match m.o with|none=>.fV|some l=>.fmap (mC l)
theorem Nl(m:Mo κ ν):V.sF (mC m)=true:=by induction m with|nil=>rfl|cons x r u=>show V.sF ((enc x.1,enc x.2)::mC r)=true;simp only[V.sF,iu,u,Bool.and_self]
instance:br (yJ κ ν)where
 cells m:=[Uf m]
 agg:=false
 size:=1
 len _:=rfl
 good m:=by unfold Uf;split;rfl;simp only[V.cr,V.good,Nl,Bool.and_self]
 one m:=by unfold Uf;split<;>rfl
 plain _:=rfl
theorem Jh(m:yJ κ ν):V.one (enc m)=true:=by have⟨o⟩:=m;cases o<;>rfl
def uz(m:yJ κ ν):Mo κ ν:=m.o.getD []
theorem PG(m:yJ κ ν):mA [] (enc m)=some (mC (uz m)):=by have⟨o⟩:=m;cases o<;>rfl
theorem PF(m:yJ κ ν)(k:κ)(z:ν)(ok:Zl):dS [] (.lookup (Key.kk κ) (enc z) ok) [enc m,enc k]=some (if ok then .tup [enc (iD (uz m) k z),.bool (wK (uz m) k)]else enc (iD (uz m) k z)):=by
 simp only[dS,PG,Key.ok,if_true];have:=Av k (uz m) 0;simp only[iD,wK]
 cases B:gT (enc k) (mC (uz m)) 0 with
 |none=>rw[B]at this;cases this|some r=>
  rw[B]at this;simp only[map_some,ζa]at this
  cases r with
  |none=>cases u:jA k (uz m)with|none=>rfl|some w=>rw[u]at this;cases this
  |some w=>cases u:jA k (uz m)with|none=>rw[u]at this;cases this|some C=>rw[u]at this;simp only[map_some,ζa]at this;simp only[this];rfl
theorem LC(n:Nat)(mp:yJ κ ν)(k:κ)(z:ν){m:aZ β}(h:Le m (b7 S c Q (nx S c n cf λp=>c6 p.st p.d (cv (iD (uz mp) k z)))))
 (B:(gq S c n cf).map (λp=>(p.k,bV S.N p.st.g p.az))=some (.r (.lookup (Key.kk κ) (enc z) false),some [cv mp,cv k]):=by kernel_rfl):Le m (b7 S c Q cf):=by
 have⟨p,u,a⟩:=e_ B;simp only[ζc]at a;refine sV u ?_ h;rw[a.1,xJ,a.2];simp only[ζb,eH,Bool.or_true,if_true,mo,PF,map_some];rfl
end
theorem kC.scalar{S:Sys}{c:bZ}{α δ:Type}{fn:Zk}{A:α->Zu}{E:δ->Zu}{p:α->aZ δ}{b:Zl}(F:kC S c fn A E p b)(h:∀r,(result (E r)).scalar=true):kC S c fn A E p true:=⟨F.k,F.h,λ_=>h⟩
theorem A2:∀l:Zx,V.cG (l.map (cells (α:=Int))).flatten=true
 |[]=>rfl|x::l=>by show V.cG (.int .i64 x::(l.map (cells (α:=Int))).flatten)=true;simp only[V.cG,V.scalar,A2 l,Bool.and_self]
theorem K6{n:Nat}(a:bU n Int):(result [enc a]).scalar=true:=A2 a.l
section
variable{S:Sys}{c:bZ}{β γ δ α:Type}[br α]{Q:Out×St->aZ β}{e:γ->aZ β}{cf:Cf}
theorem Ro(m:Tb bE)(u:Nat)(x:α)(B:br.agg α=true)(h:bh m u=some (bx x)):mo m (.load (br.size α) true) [.ptr u 0]=some (cv x):=by
 have w:((cells x).map SV.v).length=br.size α:=by rw[length_map,eV]
 simp only[mo,h,drop_zero];rw[take_of_length_le (by rw[w];exact le_refl _)];unfold tN;rw[if_pos w,if_pos rfl,pz];simp only;rw[<-xd B]
theorem Wu(n u:Nat)(x:α)(B:br.agg α=true){m:aZ β}(h:Le m (b7 S c Q (nx S c n cf λp=>c6 p.st p.d (cv x))))
 (G:(gq S c n cf).map (λp=>(p.k,bV S.N p.st.g p.az,(!p.dr||p.now||eH p.fr [.ptr u 0]),bh p.st.m u))=some (.r (.load (br.size α) true),some [.ptr u 0],true,some (bx x)):=by kernel_rfl):Le m (b7 S c Q cf):=by
 have⟨p,w,a⟩:=e_ G;simp only[ζc]at a;have⟨b,z,C,D⟩:=a;refine sV w ?_ h;rw[b,xJ,z];simp only[ζb,C,if_true,Ro _ u x B D]
theorem QJ{ω:Type}[br ω](n u:Nat){N:Nat}(a:bU N α)(i:Int)(o:Nat)(x:α)(G:a.at i=some x)(y:α)(w:ω)(J:cells y=(cells x).take o++cells w++(cells x).drop (o+br.size ω)){m:aZ β}(h:Le m (b7 S c Q (nx S c n cf λp=>c6 {p.st with m:=bH p.st.m u (bx (a.set i y))} p.d (.v .undef))))
 (O:(gq S c n cf).map (λp=>(p.k,bV S.N p.st.g p.az,bh p.st.m u,(!p.dr||p.now),ble (o+br.size ω) (br.size α)))=some (.l (.store (br.size ω)),some [.ptr u (i.toNat*br.size α+o),cv w],some (bx a),true,true):=by kernel_rfl):Le m (b7 S c Q cf):=by
 have⟨p,B,z⟩:=e_ O;simp only[ζc]at z;have⟨b,C⟩:=ig B;have⟨dr,fr,d,gd,now,U,az,dd,l,fs,st⟩:=p;obtain⟨rfl,D,I,L,T⟩:=z;exact Qc n dr fr (⟨d,gd,now,.l (.store (br.size ω)),az,dd,[]⟩::l) fs st u a i o x G y (enc w) (by rw[kK];exact J) rfl (by(try dsimp only at *);simp only[b,C,D,I,L,T,kK,eV,oH]) (by
  simp only[nx,B]at h;exact h)
end
def FC(rs:aY RV):Out×St->aZ (bE×Zu)
 |(.exit _,_)=>none|(_,st)=>(kR st rs).bind λl=>match l with
  |.own d::r=>(bh st.m d).bind λob=>(di r).map λys=>(ob,ys)|_=>none
theorem AD:∀{l:Zw}{ys:Zu},di l=some ys->l=ys.map .v
 |[],ys,h=>by cases h;rfl|.v x::r,ys,h=>by simp only[di]at h;obtain⟨B,a,rfl⟩:=ζf.1 h;rw[AD a];rfl|.own _::_,_,h|.ptr ..::_,_,h|.el ..::_,_,h|.mp _::_,_,h|.clo ..::_,_,h|.tup _::_,_,h|.agg _::_,_,h|.yl _::_,_,h=>by cases h
theorem WH{S:Sys}{c:bZ}{rs:aY RV}{a:RC}{st:St}{ob:bE}{ys:Zu}(h:ki S c (FC rs) a [] st=some (ob,ys)):∃o st' d,cA S c a st=some (o,st')/\(∀id,o≠.exit id)/\kR st' rs=some (.own d::ys.map .v)/\bh st'.m d=some ob:=by
 rw[qa]at h;have⟨⟨o,st'⟩,b,u⟩:=ζg.1 h;have z:∀id,o≠.exit id:=by rintro id rfl;simp[FC]at u
 have B:(kR st' rs).bind (λl=>match l with|.own d::r=>(bh st'.m d).bind λob=>(di r).map λys=>(ob,ys)|_=>none)=some (ob,ys):=by cases o with|exit id=>exact absurd rfl (z id)|norm=>exact u|ret=>exact u
 have⟨l,C,w⟩:=ζg.1 B;split at w;have⟨D,G,I⟩:=ζg.1 w;have⟨O,J,L⟩:=ζf.1 I;cases L;exact⟨o,st',_,b,z,by rw[C,AD J],G⟩;cases w
structure V9(S:Sys)(c:bZ){δ ε:Type}[br δ][je ε](m:Option (Sl δ×ε))where
 n:FuncId
 az:List V
 k:S.E.keep n=true
 o:S.E.own n=true
 h:∀s r,m=some (s,r)->∃e m',c n (az.map .v) []=some (.own e::(je.e r).map .v,m')/\bh m' e=some (cB s)
 sc:∀x:δ,(cells x).all V.scalar=true
 sr:∀r:ε,V.cG (je.e r)=true
abbrev V9.mk'{S:Sys}{T:pR}{δ ε:Type}[br δ][je ε]{m:aZ (Sl δ×ε)}(fn:FuncId)(az:aY V)(h:Le (m.bind λr=>some (cB r.1,je.e r.2)) (b7 S (cW S T) (FC (tr T fn)) (.rc (tb T fn),[],start (az.map .v) [])))
 (B:(T fn).isSome=true:=by kernel_rfl)(b:S.E.keep fn=true:=by kernel_rfl)(G:S.E.own fn=true:=by kernel_rfl)(J:ble az.length (sQ (T fn)).na=true:=by kernel_rfl)
 (sc:∀x:δ,(cells x).all V.scalar=true:=by intro x;rfl)(sr:∀r:ε,V.cG (je.e r)=true:=by intro r;rfl):V9 S (cW S T) m where
 n:=fn
 az:=az
 k:=b
 o:=G
 sc:=sc
 sr:=sr
 h s r w:=by have u:=C0 B;have a:=h (cB s,je.e r) (by rw[w];rfl);change ki S (cW S T) (FC (sQ (T fn)).rs) (sQ (T fn)).body [] (start (az.map .v) [])=some (cB s,je.e r)at a;have⟨o,st',d,g1,g2,g3,g4⟩:=WH a;refine⟨d,st'.m,?_,g4⟩;rw[q_ u];unfold mJ;rw[if_pos (by simpa using Nat.le_of_ble_eq_true J),g1];cases o with|exit id=>exact absurd rfl (g2 id)|norm=>simp only[g3,map_some]|ret=>simp only[g3,map_some]
section
variable{S:Sys}{c:bZ}{β γ δ α:Type}{Q:Out×St->aZ β}{e:γ->aZ β}{cf:Cf}
end
def J5(rs:aY RV)(B:Zv):Out×St->aZ (Zu×dP)
 |(.exit _,_)=>none|(_,st)=>(kR st rs).bind λl=>(di l).bind λys=>(k_ st.m B).map λos=>(ys,os)
theorem Xj{S:Sys}{c:bZ}{rs:aY RV}{B:Zv}{a:RC}{st:St}{os:dP}{ys:Zu}(h:ki S c (J5 rs B) a [] st=some (ys,os)):∃o st',cA S c a st=some (o,st')/\(∀id,o≠.exit id)/\kR st' rs=some (ys.map .v)/\k_ st'.m B=some os:=by
 rw[qa]at h;have⟨⟨o,st'⟩,b,u⟩:=ζg.1 h;have w:∀id,o≠.exit id:=by rintro id rfl;simp[J5]at u
 have z:(kR st' rs).bind (λl=>(di l).bind λys=>(k_ st'.m B).map λos=>(ys,os))=some (ys,os):=by cases o with|exit id=>exact absurd rfl (w id)|norm=>exact u|ret=>exact u
 have⟨l,C,D⟩:=ζg.1 z;have⟨O,G,I⟩:=ζg.1 D;have⟨q,J,L⟩:=ζf.1 I;cases L;exact⟨o,st',b,w,by rw[C,AD G],J⟩
def uY:Tb bE->dP->Tb bE
 |m,[]=>m|m,(d,ob)::r=>uY (bH m d ob) r
theorem HC{m':dP}{J:Zv}:∀{B:Zv}{os m:dP},k_ m' B=some os->(os.all λx=>within J x.2)=true->yC J m' B m=some (uY m os)
 |[],os,m,h,_=>by cases h;rfl|k::B,os,m,h,G=>by simp only[k_]at h;split at h;(next v t a O=>cases h;simp only[all_cons,ζh]at G;simp only[yC,a,G.1,if_true,uY];exact HC O G.2);cases h
theorem back_eq{m':dP}{B:Zv}{os m:dP}(h:k_ m' B=some os)(G:(os.all λx=>within B x.2)=true):nh m' B m=some (uY m os):=HC h G
structure HV(S:Sys)(c:bZ){δ:Type}(m:Option δ)where
 n:FuncId
 az:List SV
 os:dP
 E:δ->List V
 M:δ->dP
 k:S.E.keep n=true
 o:S.E.own n=false
 q:(S.prm n).isNone=true
 h:∀r,m=some r->∃m',c n az os=some ((E r).map .v,m')/\∀m0,nh m' (os.map (·.1)) m0=some (uY m0 (M r))
abbrev HV.mk'{S:Sys}{T:pR}{δ:Type}{m:aZ δ}(fn:FuncId)(az:aY SV)(os:dP)(E:δ->aY V)(M:δ->dP)(h:Le (m.bind λr=>some (E r,M r)) (b7 S (cW S T) (J5 (tr T fn) (os.map (·.1))) (.rc (tb T fn),[],start az os)))
 (B:(T fn).isSome=true:=by kernel_rfl)(b:S.E.keep fn=true:=by kernel_rfl)(G:S.E.own fn=false:=by kernel_rfl)(J:(S.prm fn).isNone=true:=by kernel_rfl)(O:ble az.length (sQ (T fn)).na=true:=by kernel_rfl)
 (U:∀r,((M r).all λx=>within (os.map (·.1)) x.2)=true:=by intro r;kernel_rfl):HV S (cW S T) m where
 n:=fn
 az:=az
 os:=os
 E:=E
 M:=M
 k:=b
 o:=G
 q:=J
 h r hr:=by have u:=C0 B;have a:=h (E r,M r) (by rw[hr];rfl);change ki S (cW S T) (J5 (sQ (T fn)).rs (os.map (·.1))) (sQ (T fn)).body [] (start az os)=some (E r,M r)at a;have⟨o,st',g1,g2,g3,g4⟩:=Xj a;refine⟨st'.m,?_,λw=>back_eq g4 (U r)⟩;rw[q_ u];unfold mJ;rw[if_pos (Nat.le_of_ble_eq_true O),g1];cases o with|exit id=>exact absurd rfl (g2 id)|norm=>simp only[g3,map_some]|ret=>simp only[g3,map_some]
section
variable{S:Sys}{c:bZ}{β γ δ:Type}{Q:Out×St->aZ β}{e:γ->aZ β}{cf:Cf}
theorem TA(n:Nat){m:aZ δ}(F:HV S c m){f:δ->aZ γ}(h:∀x,m=some x->Le ((f x).bind e) (b7 S c Q (nx S c n cf λp=>c6 {p.st with m:=uY p.st.m (F.M x)} p.d (.v (result (F.E x))))))
 (B:(gq S c n cf).map (λp=>(p.k,((bV S.N p.st.g p.az).bind oB).bind λq=>(handed p.st.m q.2).map λos=>(q.1,q.2,os),p.dr))=some (.c,some (F.n,F.az,F.os),false):=by kernel_rfl):Le ((m.bind f).bind e) (b7 S c Q cf):=by
 have⟨p,z,a⟩:=e_ B;simp only[ζc]at a;have⟨C,D,G⟩:=a;have⟨q,g1,g2⟩:=ζg.1 D;have⟨u,g3,g4⟩:=ζg.1 g1;have⟨os,g5,g6⟩:=ζf.1 g2;simp only[ζc]at g6;obtain⟨e1,e2,rfl⟩:=g6;refine vu z ?_ h;rw[C,G,Ce _ _ _ _ _ _ u q.1 q.2 g3 g4];intro y w;have⟨r,b,w⟩:=ζg.1 w;cases w;have⟨m',k1,k2⟩:=F.h r b;have I:S.prm F.n=none:=by have:=F.q;cases J:S.prm F.n with|none=>rfl|some _=>rw[J]at this;cases this
 have:gj S c p.d false (!false||p.now) (gw p.st.m p.fr) q.1 q.2 p.st=some (.v (result (F.E r)),{p.st with m:=uY p.st.m (F.M r)}):=by unfold gj;rw[e1,e2]at *;simp only[F.k,F.o,I,g5,k1,pz,k2,if_true,Bool.not_false,Bool.true_or,Bool.false_and,false_eq_true,if_false]
 rw[this];rfl
instance:Key Zq where
 kk:=.str
 ok _:=rfl
 eq a b:=by show some (a==b)=some (decide (a=b));rw[show(a==b)=decide (a=b)from Bool.eq_iff_iff.2 (by cases a;cases b;rename_i x y;show(x==y)=true↔_;simp)]
def KV(s:Sl U8):Zq:=lF (s.l.map U8.v)
theorem G6:∀l:aY U8,kY (rows l)=some (l.map U8.v)
 |[]=>rfl|a::l=>by show(kY (rows l)).map (a.v::·)=_;rw[G6 l];rfl
theorem VB(n u:Nat)(s:Sl U8){m:aZ β}(h:Le m (b7 S c Q (nx S c n cf λp=>c6 p.st p.d (.v (.str (KV s))))))
 (B:(gq S c n cf).map (λp=>(p.k,bV S.N p.st.g p.az,bh p.st.m u,p.dr))=some (.b,some [.own u],some (cB s),false):=by kernel_rfl):Le m (b7 S c Q cf):=by
 have⟨p,z,a⟩:=e_ B;simp only[ζc]at a;have⟨C,D,G,I⟩:=a;refine sV z ?_ h;rw[C,I];have J:(iS p.st.m 1 (.own u)).bind (λL=>(kY L).map λl=>((SV.v (.str (lF l)),p.st):SV×St))=some (.v (.str (KV s)),p.st):=by have O:kY (rows s.l)=some (s.l.map U8.v):=G6 _;have w:iS p.st.m 1 (.own u)=some (rows s.l):=(by unfold iS;simp only[G];cases s<;>rfl);rw[w];show((kY (rows s.l)).map λl=>_)=_;rw[O];rfl
 unfold fG lN;have T:fQ S.N p.st.g ⟨p.d,none,p.now,.b,p.az,[],[]⟩=none:=rfl;simp only[wanted,T,D,false_eq_true,if_false,J];rfl
end
def J_(rs:aY RV)(B:Zv):Out×St->aZ (bE×Zu×dP)
 |(.exit _,_)=>none|(_,st)=>(kR st rs).bind λl=>match l with
  |.own d::r=>if B.contains d then none else(bh st.m d).bind λob=>(di r).bind λys=>(k_ st.m B).map λos=>(ob,ys,os)|_=>none
theorem W9{S:Sys}{c:bZ}{rs:aY RV}{B:Zv}{a:RC}{st:St}{ob:bE}{ys:Zu}{os:dP}(h:ki S c (J_ rs B) a [] st=some (ob,ys,os)):
 ∃o st' d,cA S c a st=some (o,st')/\(∀id,o≠.exit id)/\kR st' rs=some (.own d::ys.map .v)/\B.contains d=false/\bh st'.m d=some ob/\k_ st'.m B=some os:=by
 rw[qa]at h;have⟨⟨o,st'⟩,b,w⟩:=ζg.1 h;have D:∀id,o≠.exit id:=by rintro id rfl;simp[J_]at w
 have G:(kR st' rs).bind (λl=>match l with|.own d::r=>if B.contains d then none else(bh st'.m d).bind λob=>(di r).bind λys=>(k_ st'.m B).map λos=>(ob,ys,os)|_=>none)=some (ob,ys,os):=by cases o with|exit id=>exact absurd rfl (D id)|norm=>exact w|ret=>exact w
 have⟨l,I,u⟩:=ζg.1 G;split at u
 .split at u
  .cases u
  rename_i hc;have⟨J,L,O⟩:=ζg.1 u;have⟨U,Q,T⟩:=ζg.1 O;have⟨q,z,C⟩:=ζf.1 T;cases C;exact⟨o,st',_,b,D,by rw[I,AD Q],by simpa using hc,L,z⟩
 cases u
structure Wk(S:Sys)(c:bZ){δ ε:Type}[br δ][je ε](m:Option (Sl δ×ε))where
 n:FuncId
 az:List SV
 os:dP
 M:Sl δ×ε->dP
 k:S.E.keep n=true
 o:S.E.own n=false
 q:(S.prm n).isNone=true
 h:∀r,m=some r->∃e m',c n az os=some (.own e::(je.e r.2).map .v,m')/\bh m' e=some (cB r.1)/\(os.map (·.1)).contains e=false/\∀m0,nh m' (os.map (·.1)) m0=some (uY m0 (M r))
abbrev Wk.mk'{S:Sys}{T:pR}{δ ε:Type}[br δ][je ε]{m:aZ (Sl δ×ε)}(fn:FuncId)(az:aY SV)(os:dP)(M:Sl δ×ε->dP)
 (h:Le (m.bind λr=>some (cB r.1,je.e r.2,M r)) (b7 S (cW S T) (J_ (tr T fn) (os.map (·.1))) (.rc (tb T fn),[],start az os)))
 (B:(T fn).isSome=true:=by kernel_rfl)(b:S.E.keep fn=true:=by kernel_rfl)(G:S.E.own fn=false:=by kernel_rfl)(J:(S.prm fn).isNone=true:=by kernel_rfl)(O:ble az.length (sQ (T fn)).na=true:=by kernel_rfl)
 (U:∀r,((M r).all λx=>within (os.map (·.1)) x.2)=true:=by intro r;kernel_rfl):Wk S (cW S T) m where
 n:=fn
 az:=az
 os:=os
 M:=M
 k:=b
 o:=G
 q:=J
 h r hr:=by have u:=C0 B;have a:=h (cB r.1,je.e r.2,M r) (by rw[hr];rfl);change ki S (cW S T) (J_ (sQ (T fn)).rs (os.map (·.1))) (sQ (T fn)).body [] (start az os)=some (cB r.1,je.e r.2,M r)at a;have⟨o,st',d,g1,g2,g3,g4,g5,g6⟩:=W9 a;refine⟨d,st'.m,?_,g5,g4,λw=>back_eq g6 (U r)⟩;rw[q_ u];unfold mJ;rw[if_pos (Nat.le_of_ble_eq_true O),g1];cases o with|exit id=>exact absurd rfl (g2 id)|norm=>simp only[g3,map_some]|ret=>simp only[g3,map_some]
section
variable{S:Sys}{c:bZ}{β γ:Type}{Q:Out×St->aZ β}{e:γ->aZ β}{cf:Cf}
end
structure Uv(S:Sys)(c:bZ){α δ:Type}[br δ](fn:FuncId)(A:α->List V)(p:α->Option (Sl δ)):Prop where
 k:S.E.keep fn=true
 o:S.E.own fn=false
 q:(S.prm fn).isNone=true
 h:∀z s,p z=some s->∃e m',c fn ((A z).map .v) []=some ([.own e],m')/\bh m' e=some (cB s)
theorem Uv.mk'{S:Sys}{T:pR}{α δ:Type}[br δ](rf:RF){fn:Zk}{A:α->Zu}{p:α->aZ (Sl δ)}(h:∀z,Le ((p z).bind λr=>some (cB r)) (b7 S (cW S T) (yX rf.rs) (.rc rf.body,[],start ((A z).map .v) [])))
 (B:T fn=some rf:=by kernel_rfl)(b:S.E.keep fn=true:=by kernel_rfl)(G:S.E.own fn=false:=by kernel_rfl)(J:(S.prm fn).isNone=true:=by kernel_rfl)(O:∀z,(A z).length<=rf.na:=by intro z;exact Nat.le_of_ble_eq_true (by kernel_rfl)):Uv S (cW S T) fn A p where
 k:=b
 o:=G
 q:=J
 h z s u:=by have a:=h z (cB s) (by rw[u];rfl);change ki S (cW S T) (yX rf.rs) rf.body [] (start ((A z).map .v) [])=some (cB s)at a;have⟨o,st',d,g1,g2,g3,g4⟩:=UJ a;refine⟨d,st'.m,?_,g4⟩;rw[q_ B];unfold mJ;rw[if_pos (by simpa using O z),g1];cases o with|exit id=>exact absurd rfl (g2 id)|norm=>simp only[g3,map_some]|ret=>simp only[g3,map_some]
section
variable{S:Sys}{c:bZ}{β γ δ α:Type}[br δ]{Q:Out×St->aZ β}{e:γ->aZ β}{cf:Cf}
end
section
variable{S:Sys}{c:bZ}{β γ δ:Type}{Q:Out×St->aZ β}{e:γ->aZ β}{cf:Cf}
end
structure WK(S:Sys)(c:bZ){α δ:Type}(fn:FuncId)(A:α->List SV)(O:α->dP)(E:δ->List V)(M:α->δ->dP)(p:α->Option δ):Prop where
 k:S.E.keep fn=true
 o:S.E.own fn=false
 q:(S.prm fn).isNone=true
 h:∀z r,p z=some r->∃m',c fn (A z) (O z)=some ((E r).map .v,m')/\∀m0,nh m' ((O z).map (·.1)) m0=some (uY m0 (M z r))
abbrev HV.of{S:Sys}{c:bZ}{α δ:Type}{fn:FuncId}{A:α->aY SV}{O:α->dP}{E:δ->aY V}{M:α->δ->dP}{p:α->aZ δ}(z:α)(F:WK S c fn A O E M p):HV S c (p z):=⟨fn,A z,O z,E,M z,F.k,F.o,F.q,F.h z⟩
section
variable{S:Sys}{c:bZ}{α σ:Type}[br α]{g:Zk}
end
section
variable{S:Sys}{c:bZ}{α σ β γ:Type}[br α]{g:Zk}{Q:Out×St->aZ β}{e:γ->aZ β}{cf:Cf}
end
section
variable{S:Sys}{c:bZ}{β γ δ α:Type}[br δ]{Q:Out×St->aZ β}{e:γ->aZ β}{cf:Cf}
end
def yl(B:Zt)(more:Zl)(xs:Zu):aZ (Zl×Zt):=match B with
 |w::r=>open Classical in if w=xs then some (more|| !r.isEmpty,r)else none|[]=>none
section
variable{S:Sys}{c:bZ}{β γ:Type}{Q:Out×St->aZ β}{e:γ->aZ β}{cf:Cf}
end
section
variable{S:Sys}{c:bZ}{β γ α:Type}[br α]{Q:Out×St->aZ β}{e:γ->aZ β}{cf:Cf}
end
theorem Qz{n:Int}(a:0<=n)(h:n<=4611686018427387904):wrap .i64 n=n:=by simp[wrap,IntKind.bits,signed];omega
namespace catX
instance{n:Nat}:OfNat Arg n:=⟨.s n⟩
def ln:K:=.p .lenSl
def ix:K:=.p (.idxS 1)
def bI(o:BinOp):K:=.p (.bin (some .int) none o)
def ld:K:=.r (.load 1 false)
def g1:Zy:=[o1 4 (.k (.bG)) []]
def g2:Zy:=[o1 5 1 [],o2 6 (bI .lss) [5,.k (.int .i64 0)] []]
def g3:Zy:=[o2 7 (.p (.bad)) [] [],⟨none,none,false,.p .bad,[],[],[]⟩]
def g4:Zy:=[o1 8 1 [],o1 9 0 [],o2 10 (.p (.capSl)) [9] [],o1 11 0 [],o2 12 ln [11] [],o2 13 (bI .sub) [10,12] [],o2 14 (bI .sub) [8,13] [],o1 1 14 []]
def g5:Zy:=[o1 15 1 [],o2 16 (bI .gtr) [15,.k (.int .i64 0)] []]
def g6:Zy:=[o1 17 0 [],o1 18 0 [],o2 19 (.p (.capSl)) [18] [],o2 20 (.p (.slice 1 false true)) [17,19] [],o1 21 1 [],o2 22 (.l (.appMk 1 24 [.bG])) [20,21] [],o1 23 0 [],o2 24 ln [23] [],o2 25 (.p (.slice 1 false true)) [22,24] [],o1 0 25 []]
def g7:Zy:=[o1 26 0 [],o1 4 26 []]
def grow:RC:=.seq (.ops g1) (.seq (.seq (.ops g2) (.cond (.s 6) (.ops g3) (.skip))) (.seq (.seq (.ops g4) (.seq (.ops g5) (.cond (.s 16) (.ops g6) (.skip)))) (.seq (.ops g7) (.ret))))
section
variable{E:Env}{N:Nat->Zk}{t:Nat}
attribute [local simp] cq gp dW bJ gz kS lg oP bI ln
theorem SP(d:t<=2147483648):∃F',Ex E N grow [.bG,.int .i64 t] [] .ret F' (if t=0 then[]else[.row 1 (replicate t [.bG])])/\get F' 4=if t=0 then .bG else .hsl 0 1 0 0:=by
 have e1:∀call,cq E N call none g1 [.bG,.int .i64 t] []=some (set [.bG,.int .i64 t] 4 .bG,[]):=λcall=>vp (v:=.bG) rfl (by simp[gp,dW,bJ]) qT;have k0:get (set [V.bG,.int .i64 t] 4 .bG) 0=.bG:=rfl;have k1:get (set [V.bG,.int .i64 t] 4 .bG) 1=.int .i64 t:=rfl;generalize set [V.bG,.int .i64 t] 4 .bG=D at *;have e2:∃F1,(∀call,cq E N call none g2 D []=some (F1,[]))/\get F1 6=.bool false/\get F1 0=.bG/\get F1 1=.int .i64 t:=by exact⟨_,λcall=>by simp[g2,k1];rfl,Zc,by simp[k0],by simp[k1]⟩
 have⟨F1,a1,S,G,T⟩:=e2;have e4:∃z,(∀call,cq E N call none g4 F1 []=some (z,[]))/\get z 0=.bG/\get z 1=.int .i64 t:=by exact⟨_,λcall=>by simp[g4,G,T,FN,mH,Qz (n:=t) Za Za,show wrap .i64 0=0 from by decide];rfl,by simp[G],Zc⟩
 have⟨z,I,U,J⟩:=e4;have e5:∃u,(∀call,cq E N call none g5 z []=some (u,[]))/\get u 16=.bool (decide (t>0))/\get u 0=.bG/\get u 1=.int .i64 t:=by exact⟨_,λcall=>by simp[g5,J];rfl,Zc,by simp[U],by simp[J]⟩
 have⟨u,L,O,Q,W⟩:=e5;have hc:Ex E N (.seq (.ops g2) (.cond (.s 6) (.ops g3) (.skip))) D [] .norm F1 []:=Ex.seq (Ex.cR a1) (Ex.o9 S Ex.skip);have e7:∀(F:Zo)(H:bl),∃F',(∀call,cq E N call none g7 F H=some (F',H))/\get F' 4=get F 0:=λF H=>⟨_,λcall=>by simp[g7];rfl,Zc⟩
 by_cases a:t=0;subst a;have⟨C,b,c⟩:=e7 u [];refine⟨C,?_,by rw[c,Q];rfl⟩;exact Ex.seq (Ex.cR e1) (Ex.seq hc (Ex.seq (Ex.seq (Ex.cR I) (Ex.seq (Ex.cR L) (Ex.o9 O Ex.skip))) (Ex.seq (Ex.cR b) Ex.ret)));have w:0<t:=Za;have e6:∃B,(∀call,cq E N call none g6 u []=some (B,[.row 1 (replicate t [.bG])]))/\get B 0=.hsl 0 1 0 0:=by exact⟨_,λcall=>by simp[g6,Q,W,FN,mH,me,g_,dR,eY,mkApp,w,a,show(t:Int)<=2147483648 from Za];rfl,Zc⟩
 have⟨B,X,Y⟩:=e6;have⟨C,b,c⟩:=e7 B [.row 1 (replicate t [.bG])];rw[if_neg a,if_neg a];refine⟨C,?_,by rw[c,Y]⟩;exact Ex.seq (Ex.cR e1) (Ex.seq hc (Ex.seq (Ex.seq (Ex.cR I) (Ex.seq (Ex.cR L) (Ex.mK (by show get u 16=_;rw[O,decide_eq_true w]) (Ex.cR X)))) (Ex.seq (Ex.cR b) Ex.ret)))
end
end catX
def BL{α:Type}(s:Sl (Sl α)):Sl α:=if(s.l.flatMap Sl.l).length=0 then .nil else .row (s.l.flatMap Sl.l)
namespace catX
def r1:Zy:=[o1 2 (.k (.bG)) []]
def r2:Zy:=[o1 3 (.k (.int .i64 0)) []]
def r3:Zy:=[o1 9 0 [],o2 10 ln [9] [],o1 11 (.k (.int .i64 0)) []]
def r4:Zy:=[o2 12 (bI .lss) [11,10] []]
def r5:Zy:=[o2 13 ix [9,11] [],o2 14 ld [13] [],o1 5 14 []]
def r6:Zy:=[o1 15 3 [],o1 16 5 [],o2 17 ln [16] [],o2 18 (bI .add) [15,17] [],o1 3 18 []]
def r7:Zy:=[o1 19 3 [],o2 20 (bI .lss) [19,.k (.int .i64 0)] []]
def r8:Zy:=[o2 21 (.p (.bad)) [] [],⟨none,none,false,.p .bad,[],[],[]⟩]
def r9:Zy:=[o2 22 (bI .add) [11,.k (.int .i64 1)] [],o1 11 22 []]
def L9:RC:=.seq (.ops r4) (.seq (.cond (.s 12) (.skip) (.exit 0)) (.seq (.block 1 (.seq (.ops r5) (.seq (.ops r6) (.seq (.ops r7) (.cond (.s 20) (.ops r8) (.skip)))))) (.ops r9)))
def zx(gid:Nat):Zy:=[o1 23 3 [],o2 24 .c [.f gid,.k (.bG),23] [],o1 6 24 []]
def Ae:Zy:=[o1 25 0 [],o2 26 ln [25] [],o1 27 (.k (.int .i64 0)) []]
def yV:Zy:=[o2 28 (bI .lss) [27,26] []]
def zQ:Zy:=[o2 29 ix [25,27] [],o2 30 ld [29] [],o1 8 30 []]
def zb:Zy:=[o1 31 6 [],o1 32 8 [],o2 33 (.l (.append 1)) [31,32] [],o1 6 33 []]
def zy:Zy:=[o2 34 (bI .add) [27,.k (.int .i64 1)] [],o1 27 34 []]
def V5:RC:=.seq (.ops yV) (.seq (.cond (.s 28) (.skip) (.exit 2)) (.seq (.block 3 (.seq (.ops zQ) (.ops zb))) (.ops zy)))
def r16:Zy:=[o1 35 6 [],o1 2 35 []]
def cat(gid:Nat):RC:=.seq (.ops r1) (.seq (.ops r2) (.seq (.seq (.ops r3) (.block 0 (.loop L9))) (.seq (.ops (zx gid)) (.seq (.seq (.ops Ae) (.block 2 (.loop V5))) (.seq (.ops r16) (.ret))))))
section
variable{E:Env}{N:Nat->Zk}{F:Zo}{H:bl}{α:Type}[br α]{s:Sl (Sl α)}{i:Nat}
theorem el{u:Sl α}(h:s.l[i]?=some u):lu 1 (ck s) (i:Int)=some (.fptr [ck u]):=by have:=DW (N:=λn=>n) s .i64 (i:Int) 1 rfl;simp only[bJ]at this;rw[this,show idx s (i:Int)=some u from by unfold idx;grind];rfl
theorem W8(s:Sl α):mH (ck s)=some (.int .i64 s.l.length):=by have:=HI (N:=λn=>n) s;simpa only[bJ]using this
attribute [local simp] cq gp dW bJ gz kS lg oP W8 bI ln ix ld
theorem y3:(get F 0=ck s->∃F',(∀call,cq E N call none r3 F H=some (F',H))/\get F' 9=ck s/\get F' 10=.int .i64 s.l.length/\get F' 11=.int .i64 0/\∀j,j<9->get F' j=get F j)/\
 (get F 0=ck s->∃F',(∀call,cq E N call none Ae F H=some (F',H))/\get F' 25=ck s/\get F' 26=.int .i64 s.l.length/\get F' 27=.int .i64 0/\∀j,j<9->get F' j=get F j):=by
 refine⟨λa=>⟨_,λcall=>by simp[r3,a];rfl,?_⟩,λa=>⟨_,λcall=>by simp[Ae,a];rfl,?_⟩⟩<;>
  (simp;grind)
theorem y4{n:Nat}:(get F 11=.int .i64 i->get F 10=.int .i64 n->∃F',(∀call,cq E N call none r4 F H=some (F',H))/\get F' 12=.bool (decide (i<n))/\∀j,j<12->get F' j=get F j)/\
 (get F 27=.int .i64 i->get F 26=.int .i64 n->∃F',(∀call,cq E N call none yV F H=some (F',H))/\get F' 28=.bool (decide (i<n))/\∀j,j<28->get F' j=get F j):=by
 refine⟨λf u=>⟨_,λcall=>by simp[r4,f,u];rfl,?_⟩,λf u=>⟨_,λcall=>by simp[yV,f,u];rfl,?_⟩⟩<;>
  (simp;grind)
theorem y5{u:Sl α}(h:s.l[i]?=some u):(get F 9=ck s->get F 11=.int .i64 i->∃F',(∀call,cq E N call none r5 F H=some (F',H))/\get F' 5=ck u/\∀j,j<12->j≠5->get F' j=get F j)/\
 (get F 25=ck s->get F 27=.int .i64 i->∃F',(∀call,cq E N call none zQ F H=some (F',H))/\get F' 8=ck u/\∀j,j<28->j≠8->get F' j=get F j):=by
 have e:=el h;have e2:dS H (.load 1 false) [.fptr [ck u]]=some (ck u):=by simp[dS,ec,cut,mk]
 refine⟨λf w=>⟨_,λcall=>by simp[r5,f,w,e,e2];rfl,?_⟩,λf w=>⟨_,λcall=>by simp[zQ,f,w,e,e2];rfl,?_⟩⟩<;>
  (simp;grind)
theorem y6{u:Sl α}{t:Nat}(a:get F 3=.int .i64 t)(b:get F 5=ck u)(B:t+u.l.length<=2147483648):∃F',(∀call,cq E N call none r6 F H=some (F',H))/\get F' 3=.int .i64 ((t+u.l.length:Nat):Int)/\∀j,j<12->j≠3->get F' j=get F j:=by
 have w:wrap .i64 ((t:Int)+(u.l.length:Int))=((t+u.l.length:Nat):Int):=by rw[Qz Za Za];simp
 refine⟨_,λcall=>by simp[r6,a,b,w];rfl,Zc,?_⟩;simp;grind
theorem y7{t:Nat}(a:get F 3=.int .i64 t):∃F',(∀call,cq E N call none r7 F H=some (F',H))/\get F' 20=.bool false/\∀j,j<12->get F' j=get F j:=by refine⟨_,λcall=>by simp[r7,a];rfl,Zc,?_⟩;simp;grind
theorem y9(B:i<=2147483648):(get F 11=.int .i64 i->∃F',(∀call,cq E N call none r9 F H=some (F',H))/\get F' 11=.int .i64 ((i+1:Nat):Int)/\∀j,j<11->get F' j=get F j)/\
 (get F 27=.int .i64 i->∃F',(∀call,cq E N call none zy F H=some (F',H))/\get F' 27=.int .i64 ((i+1:Nat):Int)/\∀j,j<27->get F' j=get F j):=by
 have u:=xD B;refine⟨λf=>⟨_,λcall=>by simp[r9,f,u];rfl,?_⟩,λf=>⟨_,λcall=>by simp[zy,f,u];rfl,?_⟩⟩<;>
  (simp;grind)
structure Acc(H:bl)(w:V)(acc:List (List V)):Prop where
 el:dz H 1 w=some acc
 gr:∃H1,gF H w=some H1/\H1.length=H.length
 sh:w=.bG/\acc=[]\/∃id xs,w=.hsl id 1 0 acc.length/\H[id]?=some (.row 1 xs)/\(acc≠[]->xs=acc)
theorem R4(H:bl)(u:Sl α)(a:br.size α=1):dz H 1 (ck u)=some (rows u.l):=by cases u<;>simp[ck,Sl.k,Sl.l,ov,dz,rows,a]
theorem Xe{w:V}{b:Zt}{u:Sl α}(f:br.size α=1)(a:Acc H w b)(f6:get F 6=w)(G:get F 8=ck u)(J:b.length+u.l.length<=2147483648):
 ∃F' H' w',(∀call,cq E N call none zb F H=some (F',H'))/\get F' 6=w'/\Acc H' w' (b++rows u.l)/\(u.l=[]->w'=w)/\∀j,j<28->j≠6->get F' j=get F j:=by
 have c:=R4 H u f;have C:(rows u.l).length=u.l.length:=by simp[rows]
 have key:∃H' w',eY H (.append 1) [w,ck u]=some (w',H')/\Acc H' w' (b++rows u.l)/\(u.l=[]->w'=w):=by have⟨H1,g1,g2⟩:=a.gr;cases d:rows u.l with|nil=>exact⟨H,w,by simp only[eY,a.el,c,d],Zd,λ_=>rfl⟩|cons y B=>have D:b.length+(y::B).length<=2147483648:=Zd;refine⟨H1++[.row 1 (b++y::B)],.hsl H.length 1 0 (b.length+(y::B).length),by simp only[eY,a.el,c,d];grind,?_⟩;have z:(H1++[Ob.row 1 (b++y::B)])[H.length]?=some (.row 1 (b++y::B)):=Zd;refine⟨⟨?_,⟨_,by simp only[gF,z];rfl,Zc⟩,.inr ⟨H.length,b++y::B,Zc,z,λ_=>rfl⟩⟩,λe=>Zd⟩;simp only[dz,z,ζb,Ob.rows,if_true,zero_add,drop_zero];grind
 have⟨H',w',k1,k2,k3⟩:=key;refine⟨_,H',w',λcall=>by simp[zb,f6,G,k1];rfl,Zc,k2,k3,?_⟩
 simp;grind
def upto(s:Sl (Sl α))(i:Nat):aY α:=(s.l.take i).flatMap Sl.l
theorem Ez{u:Sl α}(h:s.l[i]?=some u):upto s (i+1)=upto s i++u.l:=by unfold upto;obtain⟨w,rfl⟩:=ζe.1 h;rw[List.take_succ_eq_append_getElem w,List.flatMap_append];simp
theorem IU(s:Sl (Sl α))(i:Nat):(upto s i).length<=(s.l.flatMap Sl.l).length:=by
 have:s.l.flatMap Sl.l=upto s i++(s.l.drop i).flatMap Sl.l:=by unfold upto;rw[<-List.flatMap_append,List.take_append_drop]
 grind
theorem Xc(o:s.l.length<=2147483648)(p:(s.l.flatMap Sl.l).length<=2147483648):∀(d i:Nat)(F:Zo),i+d=s.l.length->get F 9=ck s->get F 10=.int .i64 s.l.length->get F 11=.int .i64 i->get F 3=.int .i64 (upto s i).length->
 ∃F',lP E N L9 F H (.exit 0) F' H/\get F' 3=.int .i64 (s.l.flatMap Sl.l).length/\get F' 0=get F 0:=by
 intro d
 induction d with
 |zero=>
  intro i F O Q a w c;have⟨F1,a1,D,z⟩:=(y4 (E:=E) (N:=N) (H:=H) (n:=s.l.length)).1 w a;refine⟨F1,lP.stop (Ex.seq (Ex.cR a1) (Ex.tD (Ex.o9 (by show get F1 12=_;grind) Ex.exit) Zc)) Zc,?_,z 0 Za⟩
  rw[z 3 Za,c]
  have:upto s i=s.l.flatMap Sl.l:=by unfold upto;grind
  simp_all
 |succ d S=>
  intro i F O Q a w c;have⟨F1,a1,D,z⟩:=(y4 (E:=E) (N:=N) (H:=H) (n:=s.l.length)).1 w a;have e:s.l[i]?=some s.l[i]:=ζd Za
  have⟨T,U,W,X⟩:=(y5 (E:=E) (N:=N) (F:=F1) (H:=H) e).1 Zd Zd
  have C:=IU s (i+1);have G:=Ez e;rw[G,ζi]at C;have⟨Y,Z,I,f⟩:=y6 (E:=E) (N:=N) (F:=T) (H:=H) (u:=s.l[i]) (t:=(upto s i).length) Ze W Za
  have⟨J,g,h,L⟩:=y7 (E:=E) (N:=N) (F:=Y) (H:=H) I;have B:∀j,j<12->j≠3->j≠5->get J j=get F j:=λj b k l=>by rw[L j b,f j b k,X j b l,z j b]
  have⟨m,e1,e2,e3⟩:=(y9 (E:=E) (N:=N) (F:=J) (H:=H) (i:=i) Za).1 (by rw[B 11 Za Za Za];exact w)
  have⟨F',g1,g2,g3⟩:=S (i+1) m Za (by rw[e3 9 Za,B 9 Za Za Za];omega) (by rw[e3 10 Za,B 10 Za Za Za];exact a) e2 (by rw[e3 3 Za,L 3 Za,I,G,ζi])
  exact⟨F',lP.step (Ex.seq (Ex.cR a1) (Ex.seq (Ex.mK (by show get F1 12=_;rw[D,decide_eq_true Za]) Ex.skip) (Ex.seq (Ex.block (Ex.seq (Ex.cR U) (Ex.seq (Ex.cR Z) (Ex.seq (Ex.cR g) (Ex.o9 h Ex.skip))))) (Ex.cR e1)))) g1,g2,by rw[g3,e3 0 Za,B 0 Za Za Za]⟩
theorem Xg(b:br.size α=1)(l:s.l.length<=2147483648)(m:(s.l.flatMap Sl.l).length<=2147483648):∀(d i:Nat)(F:Zo)(H:bl)(w:V),i+d=s.l.length->get F 25=ck s->get F 26=.int .i64 s.l.length->get F 27=.int .i64 i->get F 6=w->Acc H w (rows (upto s i))->
 ∃F' H' w',lP E N V5 F H (.exit 2) F' H'/\get F' 6=w'/\Acc H' w' (rows (s.l.flatMap Sl.l))/\((s.l.flatMap Sl.l).length=0->w'=w):=by
 intro d
 induction d with
 |zero=>
  intro i F H w Q C B z f6 a;have⟨F1,a1,I,S⟩:=(y4 (E:=E) (N:=N) (H:=H) (n:=s.l.length)).2 z B;have:upto s i=s.l.flatMap Sl.l:=by unfold upto;grind
  rw[this]at a;exact⟨F1,H,w,lP.stop (Ex.seq (Ex.cR a1) (Ex.tD (Ex.o9 (by show get F1 28=_;grind) Ex.exit) Zc)) Zc,Zd,a,λ_=>rfl⟩
 |succ d T=>
  intro i F H w Q C B z f6 a;have⟨F1,a1,I,S⟩:=(y4 (E:=E) (N:=N) (H:=H) (n:=s.l.length)).2 z B;have c:s.l[i]?=some s.l[i]:=ζd Za
  have⟨U,W,X,o⟩:=(y5 (E:=E) (N:=N) (F:=F1) (H:=H) c).2 Zd Zd
  have D:=IU s (i+1);have J:=Ez c;rw[J,ζi]at D;have⟨L,H',w',Y,Z,O,f,p⟩:=Xe (E:=E) (N:=N) (F:=U) (H:=H) (u:=s.l[i]) b a Zd X (by simp only[gI];omega)
  have G:∀j,j<28->j≠6->j≠8->get L j=get F j:=λj b q r=>Zd
  have⟨g,e1,e2,e3⟩:=(y9 (E:=E) (N:=N) (F:=L) (H:=H') (i:=i) Za).2 (by rw[G 27 Za Za Za];exact z)
  have h:rows (upto s i)++rows s.l[i].l=rows (upto s (i+1)):=by rw[J];simp[rows]
  rw[h]at O;have⟨F',H2,k,g1,g2,g3,g4⟩:=T (i+1) g H' w' Za (by rw[e3 25 Za,G 25 Za Za Za];omega) (by rw[e3 26 Za,G 26 Za Za Za];omega) e2 (by rw[e3 6 Za];exact Z) O
  exact⟨F',H2,k,lP.step (Ex.seq (Ex.cR a1) (Ex.seq (Ex.mK (by show get F1 28=_;rw[I,decide_eq_true Za]) Ex.skip) (Ex.seq (Ex.block (Ex.seq (Ex.cR W) (Ex.cR Y))) (Ex.cR e1)))) g1,g2,g3,λe=>(g4 e).trans (f (List.eq_nil_of_length_eq_zero Za))⟩
end
end catX
theorem RB{E:Env}{f O:Zk}{nm:Zk->aZ Nat}{N:Nat->Zk}{gid:Nat}(A:∀f s,nm f=some s->N s=f)(hg:N gid=O)(aa:E.keep O=true)(U:E.own O=true)
 (hf:∃fi,E.ft f=some fi/\bL ⟨E,nm,fi.ntmps⟩ false fi.body=some (catX.cat gid)/\2<=fi.ntmps/\fi.results=[.tmp 2])
 (ab:∃fi,E.ft O=some fi/\bL ⟨E,nm,fi.ntmps⟩ false fi.body=some catX.grow/\2<=fi.ntmps/\fi.results=[.tmp 4])
 {α:Type}[br α](K:br.size α=1)(s:Sl (Sl α))(M:s.l.length<=2147483648)(ht:(s.l.flatMap Sl.l).length<=2147483648):wD E f [ck s] (ck (BL s)):=by
 have⟨fi,p1,p2,p3,p4⟩:=hf;have⟨gi,q1,q2,q3,q4⟩:=ab;generalize P:(s.l.flatMap Sl.l).length=T at *;have⟨Fg,ad,ae⟩:=catX.SP (E:=E) (N:=N) ht;have⟨R,L⟩:=Ex.run A q1 q2 (args:=[.bG,.int .i64 T]) Zd ad (vs:=[if T=0 then .bG else .hsl 0 1 0 0]) (by rw[q4];simp[iq,ae])
 have Q:∀l,borrows l [] [.bG,.int .i64 (T:Int)]=some [.bG,.int .i64 (T:Int)]:=λl=>by unfold borrows;simp only[gV,jb l [] (x:=V.bG) rfl,jb l [] (x:=V.int .i64 T) rfl]
 have C:∃w D,(∀k,R<=k->fc E (run E k) O [.bG,.int .i64 T] []=some (w,D))/\catX.Acc D w []/\(T=0->w=.bG):=by by_cases d:T=0;refine⟨.bG,[],λk g=>?_,⟨rfl,⟨[],rfl,rfl⟩,.inl ⟨rfl,rfl⟩⟩,λ_=>rfl⟩;have:=(nC E g).go _ _ _ _ L;rw[if_pos d,if_pos d]at this;unfold fc j_;rw[if_pos U];simp[Q,this,result,V.scalar];refine⟨.hsl 0 1 0 0,[.row 1 (replicate T [.bG])],λk g=>?_,⟨by simp[dz,Ob.rows],⟨_,rfl,Zc⟩,.inr ⟨0,_,rfl,rfl,λh=>absurd rfl h⟩⟩,λh=>absurd h d⟩;have:=(nC E g).go _ _ _ _ L;rw[if_neg d,if_neg d]at this;unfold fc j_;rw[if_pos U];simp only[Q,if_true,this,result,V.scalar,false_eq_true,if_false,qA,List.getElem?_cons_zero,true_and];rw[if_pos (by simp[List.all_replicate,V.scalar])];simp
 have⟨w,D,aj,af,S⟩:=C;have W:T≠0->rows (s.l.flatMap Sl.l)≠[]:=λh e=>h (by rw[<-P,<-gI,e];rfl)
 have z:∀c∈rows (s.l.flatMap Sl.l),V.cr c=true:=λc hc=>by obtain⟨x,_,rfl⟩:=mem_map.1 hc;exact br.good x
 have g1:∀call,cq E N call none catX.r1 [ck s] []=some (set [ck s] 2 .bG,[]):=λcall=>vp (v:=.bG) rfl (by simp[gp,dW,bJ]) qT
 have k0:get (set [ck s] 2 .bG) 0=ck s:=rfl;generalize set [ck s] 2 .bG=F0 at *;have g2:∀call,cq E N call none catX.r2 F0 []=some (set F0 3 (.int .i64 0),[]):=λcall=>vp (v:=.int .i64 0) rfl (by simp[gp,dW,bJ]) qT
 have⟨F2,a1,a2,a3,a4,a5⟩:=(catX.y3 (E:=E) (N:=N) (F:=set F0 3 (.int .i64 0)) (H:=[]) (s:=s)).1 Ze
 have⟨F3,b1,b2,b3⟩:=catX.Xc (E:=E) (N:=N) (H:=[]) M Za s.l.length 0 F2 Za a2 a3 a4 (by rw[a5 3 Za,sw];rfl)
 rw[P]at b2;have ak:get F3 0=ck s:=Ze
 have p:∃X,(∃n,∀k,n<=k->cq E N (run E k) none (catX.zx gid) F3 []=some (X,D))/\get X 6=w/\get X 0=ck s:=by refine⟨_,⟨R,λk g=>vp (v:=.int .i64 T) rfl ?_<|AG (v:=w) (H1:=D) rfl ?_<|vp (v:=w) rfl ?_ qT⟩,?_,?_⟩;simp[gp,dW,bJ,b2];simp only[gp,map_cons,map_nil,dW,gz,kS,Nat.reduceEqDiff,if_true,if_false,hg,aa,nil_append,append_nil];grind;simp[gp,dW,bJ,gz];simp[gz];simp only[gz,kS,Nat.reduceEqDiff,if_false];omega
 have⟨X,p,c2,c3⟩:=p;have⟨F5,d1,d2,d3,d4,d5⟩:=(catX.y3 (E:=E) (N:=N) (F:=X) (H:=D) (s:=s)).2 c3;have⟨F6,Y,I,e1,e2,e3,e4⟩:=catX.Xg (E:=E) (N:=N) K M Za s.l.length 0 F5 D w Za d2 d3 d4 Ze af
 have q:∃r,(∀call,cq E N call none catX.r16 F6 Y=some (r,Y))/\get r 2=I:=⟨_,λcall=>vp (v:=I) rfl (by simp[gp,dW,bJ,e2])<|vp (v:=I) rfl (by simp[gp,dW,bJ,gz]) qT,by simp[gz]⟩
 have⟨r,q,f2⟩:=q;have⟨n,ah⟩:=Ex.run A p1 p2 (args:=[ck s]) (by simp;omega) (Ex.seq (Ex.cR g1) (Ex.seq (Ex.cR g2) (Ex.seq (Ex.seq (Ex.cR a1) (Ex.tW (Ex.loop b1))) (Ex.seq (Ex.ops p) (Ex.seq (Ex.seq (Ex.cR d1) (Ex.tW (Ex.loop e1))) (Ex.seq (Ex.cR q) Ex.ret)))))) (vs:=[I]) (by rw[p4];simp[iq,f2])
 refine⟨n,I,Y,λid=>∃m,I=.hsl id 1 0 m,ah,?_,?_,?_⟩
 .rcases e3.sh with⟨h,J⟩|⟨id,xs,h,J,y⟩
  .have:T=0:=by grind
   rw[h];unfold BL;rw[if_pos Za]
   exact .same _ rfl
  by_cases d:T=0
  .have:=e4 Za
   rw[S d]at this;rw[this]at h;cases h
  have t:=y (W d);subst t;unfold BL;rw[if_neg Za,h]
  show FR Y _ (.fsl (br.size α) (rows (s.l.flatMap Sl.l))) _;rw[K];exact .fsl 1 _ id 0 _ ⟨_,rfl⟩ (by unfold bq;rw[J];rfl) Za (λi a b Z G=>by rw[zero_add]at G;rw[Z]at G;cases G;rfl) (λi j a b u v Z G o hv=>by
   rw[zero_add]at G;rw[Z]at G;cases G;rw[o]at hv;cases hv;exact .same _ (gO.1 (z a (mem_of_getElem? Z)) j u o))
 .rintro id ⟨m,h⟩;rcases e3.sh with⟨B,_⟩|⟨ai,xs,B,J,_⟩
  .rw[B]at h;cases h
  rw[B]at h;cases h;unfold bq;rw[J];rfl
 refine⟨λid es ys hz hr c hc u o=>?_⟩
 have⟨m,h⟩:=hz;rcases e3.sh with⟨B,_⟩|⟨ai,xs,B,J,y⟩
 .rw[B]at h;cases h
 rw[B]at h;cases h
 by_cases d:T=0
 .have:=e4 Za
  rw[S d]at this;rw[this]at B;cases B
 have t:=y (W d);subst t;unfold bq at hr;rw[J]at hr;cases hr;have⟨j,hj⟩:=getElem?_of_mem o;exact⟨u,.same _ (gO.1 (z c hc) j u hj)⟩
def yw(op:Zl)(x y:Int):Int:=cond op x y
@[simp] theorem Vp(x y:Int):yw true x y=x:=rfl
@[simp] theorem VU(x y:Int):yw false x y=y:=rfl
namespace setX
instance{n:Nat}:OfNat Arg n:=⟨.s n⟩
def fa(k:Nat):K:=.p (.fieldAddr k)
def ld:K:=.r (.load 1 false)
def r1:Zy:=[o2 4 (.a .box) [1] [],o2 5 (.a .box) [2] []]
def r2:Zy:=[o1 6 0 [],o2 7 (fa 0) [4] [],o2 8 ld [7] [],o2 9 (fa 1) [4] [],o2 10 ld [9] [],o2 11 (.p (.idxS 1)) [6,8] [],⟨none,none,false,.l (.store 1),[11,10],[],[]⟩]
def r3:Zy:=[o1 6 0 [],o2 7 (fa 0) [5] [],o2 8 ld [7] [],o2 9 (fa 1) [5] [],o2 10 ld [9] [],o2 11 (.p (.bin (some .int) none .sub)) [10,.k (.int .i64 1)] [],o2 12 (.p (.idxS 1)) [6,8] [],⟨none,none,false,.l (.store 1),[12,11],[],[]⟩]
def code(op:Zl):RC:=.seq (.ops r1) (.ops (if op then r3 else r2))
section
variable{E:Env}{N:Nat->Zk}{H:bl}{id off L:Nat}{rs:Zt}
theorem Qp{h:Nat}{x y:V}{i:Nat}{v:V}(B:H[h]?=some (.row 2 [[x,y]]))(a:[x,y][i]?=some v):dS H (.load 1 false) [.hptr h 0 i]=some v:=by match i,a with|0,a=>cases a;simp[dS,ec,B,Ob.rows,cut,mk]|1,a=>cases a;simp[dS,ec,B,Ob.rows,cut,mk]|i+2,a=>simp at a
attribute [local simp] cq gp dW bJ gz kS lg oP
theorem whole(op:Zl){a b c d:Int}(J:H[id]?=some (.row 1 rs))(O:0<=(yw op c a))(B:(yw op c a).toNat<L){z:V}(G:rs[off+(yw op c a).toNat]?=some [z]):
 ∃F' X,Ex E N (code op) [.hsl id 1 off L,.agg [.int .i64 a,.int .i64 b],.agg [.int .i64 c,.int .i64 d]] H .norm F' ((H++X).set id (.row 1 (rs.set (off+(yw op c a).toNat) [.int .i64 (yw op (wrap .i64 (d-1)) b)]))):=by
 let X:bl:=[.row 2 [[.int .i64 a,.int .i64 b]],.row 2 [[.int .i64 c,.int .i64 d]]]
 have D:=(ζe.1 J).1;have e1:∃F1,(∀call,cq E N call none r1 [.hsl id 1 off L,.agg [.int .i64 a,.int .i64 b],.agg [.int .i64 c,.int .i64 d]] H=some (F1,H++X))/\get F1 0=.hsl id 1 off L/\get F1 4=.hptr H.length 0 0/\get F1 5=.hptr (H.length+1) 0 0:=by exact⟨_,λcall=>by simp[r1,get,set,iM,V.cells,V.one,Mk.val,X];rfl,rfl,rfl,rfl⟩
 have⟨F1,p1,p2,p3,p4⟩:=e1;have e:(H++X)[id]?=some (.row 1 rs):=by rw[getElem?_append_left D];exact J
 have I:(H++X)[H.length]?=some (.row 2 [[.int .i64 a,.int .i64 b]]):=by simp[X]
 have Q:(H++X)[H.length+1]?=some (.row 2 [[.int .i64 c,.int .i64 d]]):=by rw[getElem?_append_right Za];simp[X]
 obtain⟨H1,S⟩:∃H1,H1=H++X:=⟨_,rfl⟩;rw[<-S]at e I Q;rw[<-S]at p1
 suffices Y:∃F',Ex E N (code op) [.hsl id 1 off L,.agg [.int .i64 a,.int .i64 b],.agg [.int .i64 c,.int .i64 d]] H .norm F' (H1.set id (.row 1 (rs.set (off+(yw op c a).toNat) [.int .i64 (yw op (wrap .i64 (d-1)) b)])))by have⟨F',Z⟩:=Y;exact⟨F',X,by rw[<-S];exact Z⟩
 have w:∀p:Int,0<=p->p.toNat<L->lu 1 (.hsl id 1 off L) p=some (.hptr id (off+p.toNat) 0):=λp h g=>by unfold lu;rw[if_neg Za];simp[g]
 have C:∀(q:Nat)(z v:V),rs[q]?=some [z]->v.one=true->eY H1 (.store 1) [.hptr id q 0,v]=some (.undef,H1.set id (.row 1 (rs.set q [v]))):=λq z v G f=>by simp[eY,e,G,Et f,f]
 cases op with
 |false=>
  simp only[VU]at O B G⊢;have T:=Qp (i:=0) I rfl;have U:=Qp (i:=1) I rfl;have e2:∃u,(∀call,cq E N call none r2 F1 H1=some (u,H1.set id (.row 1 (rs.set (off+a.toNat) [.int .i64 b])))):=by exact⟨_,λcall=>by simp[r2,p2,p3,fa,ld,lq,T,U,w a O B,C _ z (.int .i64 _) G rfl];rfl⟩
  have⟨u,W⟩:=e2;exact⟨u,Ex.seq (Ex.cR p1) (Ex.cR (l:=_) W)⟩
 |true=>
  simp only[Vp]at O B G⊢;have T:=Qp (i:=0) Q rfl;have U:=Qp (i:=1) Q rfl;have e2:∃u,(∀call,cq E N call none r3 F1 H1=some (u,H1.set id (.row 1 (rs.set (off+c.toNat) [.int .i64 (wrap .i64 (d-1))])))):=by exact⟨_,λcall=>by simp[r3,p2,p4,fa,ld,lq,T,U,w c O B,C _ z (.int .i64 _) G rfl];rfl⟩
  have⟨u,W⟩:=e2;exact⟨u,Ex.seq (Ex.cR p1) (Ex.cR (l:=_) W)⟩
end
end setX
section
variable{S:Sys}{c:bZ}{β γ δ α:Type}[br δ]{Q:Out×St->aZ β}{e:γ->aZ β}{cf:Cf}
end
def snap(w:World):cn:=λb=>match w.heap[b]?with
 |some (.cells c _ _)=>some (.cells c)|some (.map es _)=>some (.map es)|_=>none
theorem PD{w:World}(a:tT (snap w)):cO (snap w) (λ_=>none) [] w where
 dom _ _:=rfl
 imm b x h:=by unfold snap at h;split at h;(next c el fr u=>cases h;exact⟨el,fr,u⟩);(next es d u=>cases h;exact⟨d,u⟩);cases h
 obs id ob h:=by simp at h
 inj id z ob B p C h:=by simp at h
 gl:=a
def ga(I:cn)(xs:Zu)(vs:aY Zp):Prop:=xs.length=vs.length/\∀(j:Nat)a b,xs[j]?=some a->vs[j]?=some b->eF I a b
theorem ga.nil{I:cn}:ga I [] []:=⟨rfl,Zc⟩
theorem ga.one{I:cn}{x:V}{v:Zp}(h:eF I x v):ga I [x] [v]:=⟨rfl,λj a b c u=>by
 cases j with
 |zero=>simp at c u;subst c u;exact h|succ j=>simp at c⟩
theorem ga.append{I:cn}{xs ys:Zu}{B vs:aY Zp}(h:ga I xs B)(k:ga I ys vs):ga I (xs++ys) (B++vs):=by refine⟨by simp[h.1,k.1],λj a b c u=>?_⟩;by_cases w:j<xs.length;rw[getElem?_append_left w]at c;rw[getElem?_append_left (by rw[<-h.1];exact w)]at u;exact h.2 j a b c u;rw[getElem?_append_right Za]at c;rw[getElem?_append_right (by rw[<-h.1];omega),<-h.1]at u;exact k.2 _ a b c u
theorem BN{α β:Type}{f:α->aZ β}:∀{l:aY α}{r:aY β},l.mapM f=some r->r.length=l.length/\∀(i:Nat)a b,l[i]?=some a->r[i]?=some b->f a=some b
 |[],r,h=>by simp only[List.mapM_nil,pure_def,ζa]at h;subst h;simp|x::l,r,h=>by simp only[List.mapM_cons,Option.bind_eq_bind,pure_def,ζg,ζa]at h;obtain⟨y,G,ys,B,rfl⟩:=h;have⟨c,z⟩:=BN B;refine⟨by simp[c],λi a b u w=>?_⟩;cases i with|zero=>simp at u w;subst u w;exact G|succ i=>exact z i a b (by simpa using u) (by simpa using w)
structure sC{H:Type}(b:DataW H->Nat):Prop where
 lit:∀l,1<=b (.lit l)
 str:∀s,s.length+1<=b (.lit (.string s))
 nil:1<=b .nil
 slice:∀es sp,(es.map b).sum+1<=b (.slice es sp)
 agg:∀ps,(ps.map b).sum+1<=b (.agg ps)
class b_(α:Type)where
 wt:α->Nat
 ok:α->Prop
instance:b_ Int where
 wt _:=1
 ok n:=-9223372036854775808<=n/\n<=9223372036854775807
instance:b_ Zl where
 wt _:=1
 ok _:=True
instance:b_ Zq where
 wt s:=s.size+1
 ok s:=s.size<=maxLen
instance{α:Type}[b_ α]:b_ (Sl α)where
 wt s:=(s.l.map b_.wt).sum+1
 ok s:=(∀x∈s.l,b_.ok x)/\s≠.emp
class Reads(P:Program)(t:TypeId)(α:Type)[br α][b_ α]:Prop where
 size:P.cellsOf t=br.size α
 rd:∀{H:Type}{enc:TypeId×Value->H}{w:World}{base:Nat}{spare:Nat->Bool}{held:Bool}{fuel:Nat}{cs:List Value}{d:DataW H}{ps:List MemPlace},
  trod enc P w base spare held fuel t cs=some (d,ps)->∃a:α,ga (snap w) (cells a) cs/\b_.ok a/\∀b:DataW H->Nat,sC b->b_.wt a<=b d
 shape:∀{w:World}{r:_root_.Go.Reach}{base:Nat}{v:Value},okWide P w r base t v->if br.agg α then∃cs,v=.agg cs else v.cells=#[v]
section
variable{P:Program}
theorem qB{w:World}{r:_root_.Go.Reach}{base:Nat}{t:Zm}{v:Zp}{u:_}(a:P.underlying t=some u)(b:∀fs,u≠.struct fs)(B:∀n e,u≠.array n e)(h:okWide P w r base t v):v.cells=#[v]:=by cases v with|agg C=>exfalso;unfold okWide at h;rw[a]at h;split at h;(next fs z=>cases z;exact b _ rfl);(next n e z=>cases z;exact B _ _ rfl);(unfold Cell.okWide at h;rw[a]at h;split at h<;>first|(simp at *;done)|skip);unfold Cell.ok at h;rw[a]at h;cases u<;>simp at h|_=>rfl
theorem Reads.int{t:Zm}(a:P.underlying t=some (.int .i64))(hc:P.cellsOf t=1):Reads P t Int where
 size:=hc
 rd {H enc w base spare held z D d ps} h:=by cases z with|zero=>simp[trod]at h|succ z=>(simp only[trod,a]at h;split at h<;>first|(simp at h;done)|skip);(next u=>cases u);rename_i k G n u;simp only[ζa,TypeDesc.int.injEq]at u;split at h;(next c=>obtain⟨rfl,B⟩:=c;subst u;cases h;exact⟨n,ga.one (.int _ n),show _/\_ by simpa[Lit.wf,IntKind.min,IntKind.max,signed,IntKind.bits]using B,λb C=>C.lit _⟩);simp at h;all_goals (rename_i u;cases u)
 shape h:=by simp only[show br.agg Int=false from rfl];exact qB a Zc Zc h
theorem Reads.bool{t:Zm}(a:P.underlying t=some .bool)(hc:P.cellsOf t=1):Reads P t Zl where
 size:=hc
 rd {H enc w base spare held u C d ps} h:=by cases u with|zero=>simp[trod]at h|succ u=>(simp only[trod,a]at h;split at h<;>first|(simp at h;done)|skip);(next b _=>cases h;exact⟨b,ga.one (.bool b),trivial,λb B=>B.lit _⟩);all_goals (rename_i z;cases z)
 shape h:=by simp only[show br.agg Zl=false from rfl];exact qB a Zc Zc h
theorem Reads.str{t:Zm}(a:P.underlying t=some .string)(hc:P.cellsOf t=1):Reads P t Zq where
 size:=hc
 rd {H enc w base spare held u D d ps} h:=by cases u with|zero=>simp[trod]at h|succ u=>(simp only[trod,a]at h;split at h<;>first|(simp at h;done)|skip);(all_goals (first|(rename_i z;cases z;done)|skip));rename_i s _;split at h;(next B=>cases h;exact⟨s,ga.one (.str s),B,λb C=>C.str _⟩);simp at h
 shape h:=by simp only[show br.agg Zq=false from rfl];exact qB a Zc Zc h
theorem NM{w:World}{a:Addr}{n:Nat}{v:Zp}(h:w.cell? (a.add n)=some v)(B:n=0\/True):∃c el fr,w.heap[a.block]?=some (.cells c el fr)/\c[a.off+n]?=some v/\(n=0->a.spot=none):=by
 unfold cell? Addr.add at h;by_cases b:n=0;subst b;simp only[if_true]at h;split at h;rename_i c el fr u;split at h;simp at h;rename_i z;exact⟨c,el,fr,u,h,λ_=>by simpa using z⟩;simp at h;simp only[if_neg b]at h;split at h;next c el fr u=>simp only[Option.isSome_none,false_eq_true,if_false]at h;exact⟨c,el,fr,u,h,λe=>absurd e b⟩
 simp at h
def uD(P:Program)(t:Zm)(α:Type)[br α][b_ α](B:Nat):Prop:=∀{H:Type}{enc:Zm×Zp->H}{w:World}{base:Nat}{c:Nat->Zl}{e:Zl}{u:aY Zp}{d:DataW H}{ps:aY MemPlace},trod enc P w base c e B t u=some (d,ps)->∃a:α,ga (snap w) (cells a) u/\b_.ok a/\∀b:DataW H->Nat,sC b->b_.wt a<=b d
theorem uD.sl{t e:Zm}{α:Type}[br α][b_ α]{J:Nat}(R:P.underlying t=some (.slice e))(V:P.cellsOf e=br.size α)(U:0<br.size α)(p:uD P e α J):uD P t (Sl α) (J+1):=by
 intro H enc w base A K cs d ps h;simp only[trod,R]at h;split at h<;>first|(simp at h;done)|skip
 all_goals (first|(rename_i I;cases I;done)|skip)
 cases h;exact⟨.nil,ga.one .bG,⟨λx W=>by simp[Sl.l]at W,Zc⟩,λb X=>X.nil⟩;rename_i e' a len E I;cases I;split at h
 .rename_i Y;obtain⟨f,ah,h⟩:=ζg.1 h;obtain⟨rest,_,h⟩:=ζf.1 h;cases h;obtain⟨Z,aa⟩:=BN ah;simp only[length_range]at Z;have W:∀i,i<len->∃x:α,∃u:aY Zp,w.cells? base (a.add (i*P.cellsOf e)) (P.cellsOf e)=some u/\ga (snap w) (cells x) u/\b_.ok x/\∀b:DataW H->Nat,sC b->∀y,f[i]?=some y->b_.wt x<=b y.1:=λi L=>(by have:=aa i i (f[i]' Za) (by simp[L]) (ζd Za);obtain⟨u,l,O⟩:=ζg.1 this;obtain⟨x,W,F,X⟩:=p (show _=some ((f[i]' Za).1,(f[i]' Za).2)from O);exact⟨x,u,l,W,F,λb Q y g=>by rw[ζd Za]at g;cases g;exact X b Q⟩);have ab:∀n,n<=len->∃z:aY α,z.length=n/\(∀i x,z[i]?=some x->∃u:aY Zp,w.cells? base (a.add (i*P.cellsOf e)) (P.cellsOf e)=some u/\ga (snap w) (cells x) u)/\(∀x∈z,b_.ok x)/\∀b:DataW H->Nat,sC b->(z.map b_.wt).sum<=(((f.take n).map (·.1)).map b).sum:=(by intro n;induction n with|zero=>intro _;exact⟨[],rfl,Zc,Zc,Zc⟩|succ n ih=>intro hn;obtain⟨z,l,O,h5,h6⟩:=ih Za;obtain⟨x,u,h3,h4,h7,h8⟩:=W n Za;refine⟨z++[x],by simp[l],λi y g=>?_,λy g=>?_,λb Q=>?_⟩;rotate_left;rcases mem_append.1 g with g|g;exact h5 y g;simp at g;subst g;exact h7;have k1:=h6 b Q;have k2:=h8 b Q _ (ζd Za);rw[List.take_succ,ζd (by omega:n<f.length)];simp only[List.map_append,List.sum_append,Option.toList_some,map_cons,map_nil,List.sum_cons,List.sum_nil];omega;by_cases L:i<z.length;rw[getElem?_append_left L]at g;exact O i y g;rw[getElem?_append_right Za]at g;have:i-z.length=0:=(by cases F:i-z.length with|zero=>rfl|succ k=>rw[F]at g;simp at g);rw[this]at g;simp at g;subst g;have:i=n:=Za;subst this;exact⟨u,h3,h4⟩);obtain⟨z,C,ai,ad,aj⟩:=ab len (le_refl _);refine⟨.row z,ga.one ?_,⟨ad,Zc⟩,λb Q=>?_⟩;rotate_left;have k:=aj b Q;rw[take_of_length_le Za]at k;have k2:=Q.slice (f.map (·.1)) (rest.map (·.1));show(z.map b_.wt).sum+1<=_;omega;show eF _ (.fsl (br.size α) (rows z)) _;cases q:z with|nil=>subst q;simp at C;subst C;exact .fsl0 _ _ _|cons x0 xr=>rw[<-q];have ap:0<len:=(by rw[<-C,q];simp);have S:∀i x,z[i]?=some x->∀j y,(cells x)[j]?=some y->∃v,w.cell? ((a.add (i*br.size α)).add j)=some v/\eF (snap w) y v:=(by intro i x L j y g;obtain⟨u,l,O⟩:=ai i x L;rw[V]at l;unfold World.cells? at l;split at l;obtain⟨g1,g2⟩:=BN l;have M:j<br.size α:=(by rw[<-eV x];exact(ζe.1 g).1);obtain⟨v,s⟩:∃v,u[j]?=some v:=⟨_,ζd (by rw[g1];simpa using M)⟩;exact⟨v,g2 j j v (by simp[M]) s,O.2 j y v g s⟩;simp at l);have ao:∀i j,(a.add (i*br.size α)).add j=a.add (i*br.size α+j)\/True:=λ_ _=>.inr trivial;have B:∀i x,z[i]?=some x->∀j y,(cells x)[j]?=some y->∃c el fr v,w.heap[a.block]?=some (.cells c el fr)/\c[a.off+i*br.size α+j]?=some v/\eF (snap w) y v/\(i=0->j=0->a.spot=none):=(by intro i x L j y g;obtain⟨v,l,O⟩:=S i x L j y g;obtain⟨c,el,fr,g1,g2,g3⟩:=NM l (.inr trivial);have X:(a.add (i*br.size α)).block=a.block:=(by unfold Addr.add;split<;>rfl);have ho:(a.add (i*br.size α)).off=a.off+i*br.size α:=(by unfold Addr.add;split<;>simp_all);rw[X]at g1;rw[ho]at g2;refine⟨c,el,fr,v,g1,g2,O,?_⟩;rintro rfl rfl;have:=g3 rfl;simpa[Addr.add]using this);have ak:∃y,(cells x0)[0]?=some y:=⟨_,ζd (by rw[eV];exact U)⟩;obtain⟨y0,al⟩:=ak;obtain⟨c,el,fr,v0,D,_,_,G⟩:=B 0 x0 (by rw[q];rfl) 0 y0 al;have G:=G rfl rfl;obtain⟨b,o,sp⟩:=a;simp only at G D;subst G;have hI:snap w b=some (.cells c):=(by unfold snap;rw[D]);have T:(rows z).length=len:=(by rw[gI,C]);rw[<-T];refine .fsl _ _ b o E c hI (by rw[T];exact Y.2.1) (λr p=>?_) (λr p y g=>?_) ?_ (λi j r y v p g s=>?_);obtain⟨x,_,rfl⟩:=mem_map.1 p;exact eV x;obtain⟨x,_,rfl⟩:=mem_map.1 p;exact all_eq_true.1 (oH x) y g;obtain⟨N,ae⟩:∃x,z[len-1]?=some x:=⟨_,ζd Za⟩;obtain⟨yl,am⟩:∃y,(cells N)[br.size α-1]?=some y:=⟨_,ζd (by rw[eV];omega)⟩;obtain⟨c2,_,_,v2,k1,k2,_,_⟩:=B (len-1) N ae (br.size α-1) yl am;simp only at k1 k2;rw[D]at k1;cases k1;have:=(Array.getElem?_eq_some_iff.1 k2).1;rw[T];have e:len*br.size α=(len-1)*br.size α+br.size α:=(by obtain⟨m,rfl⟩:∃m,len=m+1:=⟨len-1,Za⟩;simp[Nat.add_mul]);omega;simp only[rows,getElem?_map,ζf]at p;obtain⟨x,an,rfl⟩:=p;obtain⟨c2,_,_,v2,k1,k2,k3,_⟩:=B i x an j y g;simp only at k1 k2;rw[D]at k1;cases k1;rw[s]at k2;cases k2;exact k3
 simp at h
theorem uD.Xi{t e:Zm}{α:Type}[br α][b_ α]{B:Nat}(c:P.underlying t=some (.slice e))(J:P.cellsOf e=br.size α)(G:0<br.size α)(i:∀g,g<B->uD P e α g):uD P t (Sl α) B:=by cases B with|zero=>intro H enc w base a b u d ps h;simp[trod]at h|succ f=>exact uD.sl c J G (i f (Nat.lt_succ_self f))
theorem Reads.sl{t e:Zm}{α:Type}[br α][b_ α][Reads P e α](a:P.underlying t=some (.slice e))(hc:P.cellsOf t=1)(B:0<br.size α):Reads P t (Sl α)where
 size:=hc
 rd h:=uD.Xi a (Reads.size (α:=α)) B (λ_ _{_ _ _ _ _ _ _ _ _}=>Reads.rd (P:=P) (t:=e) (α:=α)) h
 shape h:=by simp only[show br.agg (Sl α)=false from rfl];exact qB a Zc Zc h
theorem ga.seg{I:cn}{a xs:Zu}{cs:aY Zp}{o n:Nat}(h:ga I a (cs.take o))(k:ga I xs ((cs.drop o).take n)):ga I (a++xs) (cs.take (o+n)):=by rw[List.take_add];exact h.append k
theorem ga.fin{I:cn}{xs:Zu}{cs:aY Zp}{n:Nat}(h:ga I xs (cs.take n))(B:cs.length=n):ga I xs cs:=by rw[take_of_length_le Za]at h;exact h
theorem uD.st{t:Zm}{fs:Array Field}{α:Type}[br α][b_ α]{B:Nat}(i:P.underlying t=some (.struct fs))(hc:P.cellsOf t=br.size α)
 (h:∀{H:Type}{enc:Zm×Zp->H}{w:World}{base:Nat}{c:Nat->Zl}{e:Zl}{cs:aY Zp}{l:aY (DataW H×aY MemPlace)},cs.length=br.size α->
  (fs.toList.mapM λf=>trod enc P w base c e B f.type ((cs.drop f.offset).take (P.cellsOf f.type)))=some l->∃a:α,ga (snap w) (cells a) cs/\b_.ok a/\∀b:DataW H->Nat,sC b->b_.wt a<=((l.map (·.1)).map b).sum+1):uD P t α (B+1):=by
 intro H enc w base c e cs d ps g;simp only[trod,i]at g;split at g<;>first|(simp at g;done)|skip
 all_goals (first|(rename_i u;cases u;done)|skip)
 rename_i C;have⟨l,j,D⟩:=ζf.1 g;cases D;have⟨a,k1,k2,k3⟩:=h (by rw[C,hc]) j
 exact⟨a,k1,k2,λb z=>Nat.le_trans (k3 b z) (z.agg _)⟩
theorem Reads.of{t:Zm}{fs:Array Field}{α:Type}[br α][b_ α](a:P.underlying t=some (.struct fs))(hc:P.cellsOf t=br.size α)(G:br.agg α=true)(h:∀B,uD P t α B):Reads P t α where
 size:=hc
 rd hr:=h _ hr
 shape hv:=by rw[if_pos G];unfold okWide at hv;rw[a]at hv;have⟨u,b,_⟩:=hv;exact⟨u,b⟩
theorem Reads.st{t:Zm}{fs:Array Field}{α:Type}[br α][b_ α](g:P.underlying t=some (.struct fs))(hc:P.cellsOf t=br.size α)(G:br.agg α=true)
 (h:∀{H:Type}{enc:Zm×Zp->H}{w:World}{base:Nat}{c:Nat->Zl}{e:Zl}{B:Nat}{cs:aY Zp}{l:aY (DataW H×aY MemPlace)},cs.length=br.size α->
  (fs.toList.mapM λf=>trod enc P w base c e B f.type ((cs.drop f.offset).take (P.cellsOf f.type)))=some l->∃a:α,ga (snap w) (cells a) cs/\b_.ok a/\∀b:DataW H->Nat,sC b->b_.wt a<=((l.map (·.1)).map b).sum+1):Reads P t α:=
 Reads.of g hc G λB=>by cases B with|zero=>intro H enc w base c e cs d ps h;simp[trod]at h|succ f=>exact uD.st g hc h
theorem Reads.arg{t:Zm}{α:Type}[br α][b_ α][Reads P t α]{H:Type}{B:Zm×Zp->H}{w:World}{base:Nat}{c:Nat->Zl}{e:Zl}{r:_root_.Go.Reach}{b:Nat}{v:Zp}{d:DataW H}{ps:aY MemPlace}
 (f:okWide P w r b t v)(h:Trod B P w base c e t v d ps):∃a:α,bD (snap w) (λ_=>none) (enc a) v/\b_.ok a/\∀b:DataW H->Nat,sC b->b_.wt a<=b d:=by
 have⟨I,h⟩:=h;have⟨a,⟨g,z⟩,D,G⟩:=Reads.rd (P:=P) (t:=t) (α:=α) h;have u:=Reads.shape (P:=P) (t:=t) (α:=α) f;refine⟨a,?_,D,G⟩
 cases C:br.agg α with
 |true=>rw[C,if_pos rfl]at u;obtain⟨O,rfl⟩:=u;rw[xd C];refine .c _ _ (.agg _ _ (by simpa[Value.cells]using g) (λj x y J L=>z j x y J (by simpa[Value.cells]using L)))|false=>rw[C]at u;simp only[false_eq_true,if_false]at u;rw[u]at z;rw[vS C]at z;exact .c _ _ (z 0 _ _ rfl rfl)
end
end Go.VE
namespace Go.VE
variable[bT]
open Go.ChangeShapes Go.WideShapes Go.ChangeAt Go.RowKit
structure FT(w w':World):Prop where
 kept:w.keptBut w' (λ_=>False)
 fz:∀a:Addr,a.block<w.heap.size->w'.frozen? a=w.frozen? a
theorem Fq{I I':cn}{μ':Mu}{H':bl}{w w':World}(s:Step I (λ_=>none) [] w I' μ' H' w'):FT w w':=by
 have B:∀b,b<w.heap.size->w'.heap[b]?=w.heap[b]?:=λb z=>s.frame b z (by rintro⟨id,p,ob,h,_⟩;simp at h);refine⟨⟨s.os,s.out.out,λi C=>?_⟩,λa z=>?_⟩;rw[B i C];split;next c u=>rw[c]at u;cases u;exact⟨rfl,rfl,rfl,λ_ _=>rfl⟩
 next c u=>rw[c]at u;cases u;exact .inr ⟨rfl,rfl⟩
 rfl;unfold World.frozen?;rw[B _ z]
theorem GQ{P:Program}{call:dg}(hc:kL P call){f:Zk}{args:Zu}{b:Zl}{H':bl}(h:call (.fn f) args []=some (.bool b,H')){w:World}{vs:aY Zp}
 (G:tT (snap w))(a:cF (snap w) (λ_=>none) args vs):Calls P f vs.toArray w λe w'=>e=.returned (.bool b)/\FT w w':=by
 intro C;have k:=((hc.fn f args [] _ H' h).2 (snap w) (λ_=>none) w vs (PD G) a)
 obtain⟨e,w',fr,⟨u,I',μ',rfl,d,_,D⟩,z,g,I⟩:=k.2 C (by simp[Fence.room,fr])
 refine⟨_,w',fr,⟨?_,Fq D⟩,z.comes,g,I⟩
 cases d with
 |c _ _ B=>cases B;rfl
variable{P:Program}{H:Type}{enc:Zm×Zp->H}
theorem Fb{B:aY Zm}{vs:aY Zp}{ds:aY (DataW H)}{ps:aY MemPlace}{w w':World}(e:FT w w')(h:TrodAll enc P w 0 (λ_=>true) true B vs ds ps):TrodAll enc P w' 0 (λ_=>true) true B vs ds ps:=by
 have z:∀p:MemPlace,p.block<w.heap.size->w.sameAt w' p:=by intro p C;have k:=e.kept.2.2 p.block C;cases p with|cell b off=>simp only[sameAt,cell?];simp only[MemPlace.block]at k C;split at k;rename_i c t fr c' G D a u;rw[a,u];simp only;have:=k.2.2.2 off (λx=>x);simpa using this;(next a u=>rw[a,u]);rw[k]|map b=>simp only[sameAt];simp only[MemPlace.block]at k C;split at k;rename_i c t fr c' G D a u;obtain⟨rfl,rfl,O,I⟩:=k;rw[a,u];have:c'=c:=Array.ext_getElem? λi=>I i (λx=>x);rw[this];rename_i a u;rcases k with k|⟨rfl,rfl⟩;exact k.elim;rw[a,u];exact k
 induction B generalizing vs ds ps with|nil=>cases vs<;>cases ds<;>simp_all [TrodAll]|cons t B J=>cases vs with|nil=>simp[TrodAll]at h|cons v vs=>cases ds with|nil=>simp[TrodAll]at h|cons d ds=>obtain⟨p,q,⟨n,a⟩,u,rfl⟩:=h;exact⟨p,q,⟨n,DataW.trod_carry n _ _ _ a λx L=>z x (DataW.trod_lt n _ _ _ a x L)⟩,J u,rfl⟩
theorem MI{T:Zm->Prop}(K:Kids P T)(l:∀t e,T t->P.underlying t=some (.slice e)->0<P.cellsOf e){f:Func}{s:ChangeSpec}{apart c a d:Zl}{W J:World}{args:Array Zp}{ds i:aY (DataW H)}{before:aY MemPlace}{tb:Zm}
 (m:∀t∈f.params.toList,T t)(B:s.vars=[])(G:s.fn H (ds++i)={results:=[.lit (.bool true)],args:=ds})(O:f.resultTypes=#[tb])(U:P.underlying tb=some .bool)
 (Y:DataW.Whole enc P f.params.toList s.vars apart W args.toList ds i before)(g:FT W J):s.post enc P f apart c a d W args (.bool true) J:=by
 have z:=Y;obtain⟨p,q,Z,S,rfl,I,L⟩:=Y;rw[B]at S;obtain⟨rfl,rfl⟩:=trodVars_none S;have j:∀(b:Nat)(w:Nat->Zl)(n:Zl),TrodAll enc P J b w n f.resultTypes.toList ((Value.bool true).resultList f.resultTypes.size) (s.fn H (ds++[])).results []:=λ_ _ _=>by rw[O,G];exact trodAll_cons_mk (shut_bool U _) trodAll_mk0
 have X:∀w:Nat->Zl,(∀x∈p++[],w x.block=true)->TrodAll enc P J 0 w true f.params.toList args.toList (s.fn H (ds++[])).args p:=λw Q=>by rw[G];exact TrodAll.respare K l m (Fb g Z) (λx u=>Q x (List.mem_append_left _ u))
 have k:∀w:Nat->Zl,DataW.TrodVars enc P J w s.vars (s.fn H (ds++[])).vars []:=λw=>by rw[G,B];rfl
 have C:=λx u=>z.lt x u
 refine⟨ds,[],p++[],[],p,[],z,j _ _ _,X _ λx u=>by simpa using C x u,k _,World.keptBut_mono (λx u=>u.elim) g.kept,λ_=>⟨ok_one O rfl (okWide_bool_mk U _),?_⟩⟩
 refine⟨_,_,[]++p++[],⟨[]++p,[],trodAll_append (X _ λ_ _=>rfl) (j _ _ _),k _,rfl,λb off u=>?_,λh=>by simpa using L h⟩,λx u _=>by simpa using u⟩
 have D:MemPlace.cell b off∈p++[]:=by simpa using u
 rw[g.fz _ (C _ D)];exact I b off D
end Go.VE
namespace Go.VE
variable[bT]
instance:b_ U8 where
 wt _:=1
 ok n:=0<=n.v/\n.v<=255
theorem Reads.u8{P:Program}{t:Zm}(a:P.underlying t=some (.int .u8))(hc:P.cellsOf t=1):Reads P t U8 where
 size:=hc
 rd {H enc w base spare held z D d ps} h:=by cases z with|zero=>simp[trod]at h|succ z=>(simp only[trod,a]at h;split at h<;>first|(simp at h;done)|skip);(next u=>cases u);rename_i k G n u;simp only[ζa,TypeDesc.int.injEq]at u;split at h;(next c=>obtain⟨rfl,B⟩:=c;subst u;cases h;exact⟨⟨n⟩,ga.one (.int _ n),show _/\_ by simpa[Lit.wf,IntKind.min,IntKind.max,signed,IntKind.bits]using B,λb C=>C.lit _⟩);simp at h;all_goals (rename_i u;cases u)
 shape h:=by simp only[show br.agg U8=false from rfl];exact qB a Zc Zc h
theorem Kc{m:Tb bE}{n:Nat}{rs:Zw}{b:Zl}(h:cV m n rs=some [.bool b]):rs=[.v (.bool b)]:=by
 cases rs with
 |nil=>cases n<;>simp[cV]at h|cons x r=>
  have c:shut m n x=some (.bool b)/\cV m n r=some []:=by unfold cV at h;split at h;(next y s c w=>simp only[ζa,List.cons.injEq]at h;obtain⟨rfl,rfl⟩:=h;exact⟨c,w⟩);cases h
  have w:r=[]:=by cases r with|nil=>rfl|cons y r=>have:=c.2;unfold cV at this;split at this<;>simp at this
  subst w;have u:=c.1
  cases x with
  |v y=>unfold shut at u;simp only[ζa]at u;rw[u]|own d=>unfold shut at u;split at u<;>simp only[ζa,reduceCtorEq]at u;rename_i k es B _;cases k<;>simp[ov]at u|ptr d o=>cases n with|zero=>simp[shut]at u|succ n=>(unfold shut at u;split at u<;>try cases u);(split at u<;>try cases u);split at u<;>cases u
  |mp d=>unfold shut at u;split at u<;>cases u|clo f a b=>cases n with|zero=>simp[shut]at u|succ n=>unfold shut at u;split at u<;>cases u
  |tup l=>cases n with|zero=>simp[shut]at u|succ n=>unfold shut at u;have⟨_,_,z⟩:=ζf.1 u;cases z
  |_=>cases n<;>simp[shut]at u
theorem Oi{S:Sys}{T:pR}(B:qK S T)(G:∀f a b xs,S.items f a b=some xs->fE S f a b xs){f:Zk}{xs:Zu}(c:V.cr xs=true)(h:nj (cW S T) f xs=some [.bool true]):
 ∃n H',run S.E n (.fn f) xs []=some (.bool true,H'):=by
 unfold nj at h;have⟨⟨rs,m⟩,d,u⟩:=ζg.1 h;have:=Kc u;simp only at this;subst this;exact R2 B G c d rfl
theorem K_{S:Sys}{T:pR}{P:Program}(B:qK S T)(G:∀f a b xs,S.items f a b=some xs->fE S f a b xs)(hc:∀n,kL P (run S.E n)){f:Zk}{xs:Zu}(c:V.cr xs=true)(h:nj (cW S T) f xs=some [.bool true])
 {w:World}{args:Array Zp}(J:tT (snap w))(d:cF (snap w) (λ_=>none) xs args.toList):Calls P f args w λe w'=>e=.returned (.bool true)/\FT w w':=by
 have⟨n,H',g⟩:=Oi B G c h;have:=GQ (hc n) g J d;simpa using this
theorem Reads.QT{P:Program}{t:Zm}{α:Type}[br α][b_ α][Reads P t α]{H:Type}{B:Zm×Zp->H}{w:World}{base b:Nat}{c:Nat->Zl}{e:Zl}{v:Zp}{d:DataW H}{ps:aY MemPlace}{params:Array Zm}{args:Array Zp}(G:∀(j:Nat)t v,params[j]?=some t->args[j]?=some v->okWide P w .any b t v)(j:Nat)(f:params[j]?=some t)(J:args[j]?=some v)(h:Trod B P w base c e t v d ps):∃a:α,bD (snap w) (λ_=>none) (enc a) v/\b_.ok a/\∀b:DataW H->Nat,sC b->b_.wt a<=b d:=Reads.arg (G j t v f J) h
end Go.VE
namespace Go.VE
theorem NP{w:World}{g:Nat}{l:Zx}(h:∀i,i<l.length->w.cell? ⟨g,i,none⟩=some (.int .i64 (l.getD i 0)))(d:0<l.length):eF (snap w) (.fptr (l.map (V.int .i64))) (.pointer (some ⟨g,0,none⟩)):=by
 have a:=h 0 d;unfold cell? at a;split at a;rename_i c t fr u;have D:snap w g=some (.cells c):=by unfold snap;simp only at u;rw[u]
 have hc:∀i,w.cell? ⟨g,i,none⟩=c[i]?:=λi=>by unfold cell?;simp only at u⊢;rw[u];rfl
 refine .fptr _ _ _ c D ?_ ?_;rw[zero_add,length_map];have:=h (l.length-1) Za;rw[hc]at this;have:=(Array.getElem?_eq_some_iff.1 this).1;omega;intro j y v B b;rw[zero_add,<-hc]at b;rw[getElem?_map]at B;obtain⟨z,C,rfl⟩:=ζf.1 B;have G:=(ζe.1 C).1;rw[h j G]at b;cases b;have:l.getD j 0=z:=by simp[List.getD,C]
 rw[this];exact .int _ _;cases a
variable[bT]
theorem ct(n:Nat)(h:n<9223372036854775807):wrap .i64 ((n:Int)+1)=((n+1:Nat):Int):=by simp[wrap,IntKind.bits,signed];omega
theorem jB(n:Int)(a:-9223372036854775808<=n)(B:n<=9223372036854775807):wrap .i64 n=n:=by simp[wrap,IntKind.bits,signed];omega
section
variable{α β:Type}{P:β->Prop}
theorem mX(s:Sl α)(i:Nat):idx s (i:Int)=s.l[i]?:=by unfold idx;rw[if_pos Za];rfl
theorem bB{s:Sl α}{i:Nat}(h:i<s.l.length):idx s (i:Int)=some s.l[i]:=by rw[mX,ζd h]
theorem Ht{s:Sl α}{i:Int}(a:0<=i):idx s i=s.l[i.toNat]?:=by unfold idx;rw[if_pos a]
theorem rO(s:Sl α)(i:Nat)(h:i<=s.l.length):∃x,fN s none (some (i:Int))=some x/\x.l=s.l.take i:=by unfold fN dR;simp only[Option.getD_none,getD_some];rw[if_pos Za];cases s<;>simp[Sl.l]at h⊢ <;>simp[h]
theorem bO{γ:Type}{a b:γ}:bp true a b=a:=rfl
theorem bX{γ:Type}{a b:γ}:bp false a b=b:=rfl
theorem lQ(a b:Zl):bp a (some b) (some false)=some (a&&b):=by cases a<;>rfl
theorem iF(a b:Zl):bp a (some true) (some b)=some (a||b):=by cases a<;>rfl
theorem sZ(a:Zl)(x y:β):bp a (some x) (some y)=some (if a then x else y):=by cases a<;>rfl
end
def place{α:Type}(f:α->Zl)(l:aY α):Int:=match l.findIdx? f with
 |some i=>i|none=>-1
theorem zC{α:Type}{f:α->Zl}{l:aY α}{i:Nat}(h:∀j,j<i->∀x,l[j]?=some x->f x=false)(B:l.length<=i):l.findIdx? f=none:=by rw[List.findIdx?_eq_none_iff];intro x w;have⟨j,u⟩:=getElem?_of_mem w;have:j<l.length:=(ζe.1 u).1;exact h j Za x u
theorem wI{α:Type}{f:α->Zl}{l:aY α}{i:Nat}{x:α}(h:∀j,j<i->∀x,l[j]?=some x->f x=false)(B:l[i]?=some x)(G:f x=true):l.findIdx? f=some i:=by rw[List.findIdx?_eq_some_iff_getElem];obtain⟨u,rfl⟩:=ζe.1 B;exact⟨u,G,λj w=>by rw[h j w _ (ζd Za)];simp⟩
theorem rT{α:Type}{step:Int->aZ (Fw Int Unit Int)}{s:Sl α}{p:α->aZ Zl}{f:α->Zl}(J:∀x∈s.l,p x=some (f x))(U:s.l.length<9223372036854775807)
 (O:∀i,step i=bp (decide (i<len s)) ((idx s i).bind λB=>(p B).bind λG=>bp G (some (.r i)) (some (.n (wrap .i64 (i+1))))) (some (.x ()))):
 (bM step 0).bind (Fw.elim (λ_=>some (-1)) (λe=>some e))=some (place f s.l):=by
 refine Wp.eq (eX (λi:Int=>∃n:Nat,i=n/\n<=s.l.length/\∀j,j<n->∀x,s.l[j]?=some x->f x=false) (λi:Int=>s.l.length-i.toNat) ⟨0,rfl,zero_le _,λj I=>absurd I Za⟩ ?_)
 rintro i ⟨n,rfl,L,w⟩;rw[O,bP];refine⟨λh=>?_,λh=>?_⟩
 .have u:n<s.l.length:=by simpa[len]using h
  rw[bB u,ζb,J _ (getElem_mem u),ζb,bP];refine⟨λz=>?_,λz=>?_⟩
  .rw[bf];show Wp (some (n:Int)) _;rw[bf];unfold place;rw[wI w (ζd u) z]
  rw[bf];refine⟨⟨n+1,ct n Za,Za,λj I x C=>?_⟩,?_⟩
  .by_cases e:j=n
   .subst e;rw[ζd u]at C;cases C;exact z
   exact w j Za x C
  rw[ct n Za];simp;omega
 have D:s.l.length<=n:=by simpa[len]using h
 rw[bf];show Wp (some (-1:Int)) _;rw[bf];unfold place;rw[zC w D]
theorem ug{α:Type}(f:α->Zl)(l:aY α):decide (place f l>=0)=l.any f:=by unfold place;cases h:l.findIdx? f with|none=>rw[List.findIdx?_eq_none_iff]at h;have:l.any f=false:=(by rw[List.any_eq_false];intro x u;simp[h x u]);rw[this];rfl|some i=>have⟨w,z,_⟩:=List.findIdx?_eq_some_iff_getElem.1 h;have:l.any f=true:=List.any_eq_true.2 ⟨_,getElem_mem w,z⟩;rw[this];simp
theorem N5{α σ ε ρ:Type}{step:α->σ->aZ (Fw σ ε ρ)}{l:aY α}(I:Nat->σ->Prop)(G:ε->Prop)(J:ρ->Prop){s:σ}(c:I 0 s)
 (h:∀i a s,l[i]?=some a->I i s->Wp (step a s) λw=>match w with|.n B=>I (i+1) B|.x e=>G e|.r b=>J b):
 Wp (nU step l s) λw=>match w with|.n B=>I l.length B|.x e=>G e|.r b=>J b:=by
 have key:∀(r:aY α)(i:Nat)(s:σ),l.drop i=r->i<=l.length->I i s->Wp (nU step r s) λw=>match w with|.n B=>I l.length B|.x e=>G e|.r b=>J b:=by intro r;induction r with|nil=>intro i s u L C;have:i=l.length:=(by have:=List.drop_eq_nil_iff.1 u;omega);subst this;exact⟨_,rfl,C⟩|cons a r O=>intro i s u L C;have z:i<l.length:=(by apply Classical.byContradiction;intro T;rw[List.drop_eq_nil_of_le Za]at u;cases u);have Q:=List.drop_eq_getElem_cons z;rw[Q]at u;simp only[List.cons.injEq]at u;have⟨w,S,D⟩:=h i a s (by rw[ζd z,u.1]) C;simp only[nU,S,ζb];cases w with|n B=>exact O (i+1) B u.2 Za D|x e=>exact⟨_,rfl,D⟩|r b=>exact⟨_,rfl,D⟩
 exact key l 0 s rfl (zero_le _) c
theorem Ag{α σ ε ρ γ:Type}{step:α->σ->aZ (Fw σ ε ρ)}{l:aY α}{fn:σ->aZ γ}{B:ε->aZ γ}{fr:ρ->aZ γ}{P:γ->Prop}(I:Nat->σ->Prop){s:σ}(c:I 0 s)
 (h:∀i a s,l[i]?=some a->I i s->Wp (step a s) λw=>match w with|.n G=>I (i+1) G|.x e=>Wp (B e) P|.r b=>Wp (fr b) P)
 (J:∀s,I l.length s->Wp (fn s) P):Wp ((nU step l s).bind (Fw.we fn B fr)) P:=by
 rw[dU];refine(N5 I _ _ c h).mono ?_;intro w u
 cases w with
 |n s=>exact J s u|x e=>exact u|r b=>exact u
end Go.VE
