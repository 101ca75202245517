/-
 Certificates; functions by hand; readings; plain laws.
-/
import Derived.JoinedCond
import Derived.ReadAgain
import Derived.WalkKit
import Derived.ProofKit
import Derived.OpenShut
import Derived.ChangeSame
import Derived.RowKit3
import Derived.Lib.LaidTab
import Derived.Test.YtegogepdjcdfcagGreatDoorV2
import Derived.Test.YtegogepdjcdfcagGreatDoorN2
import Derived.Test.YtegogepdjcdfcagGreatDoorS1
set_option linter.all false
noncomputable section
namespace Go.VE
variable [bK]
abbrev Cf:=Fo×a_ Fm×St
section
variable (S:Sys) (c:bN) {β:Type} (Q:Out×St->bf β)
abbrev bV (cf:Cf):bf β:=rn S c Q cf.1 cf.2.1 cf.2.2
def ir (n:Nat) (cf:Cf):Cf:=(fC S c n cf.1 cf.2.1 cf.2.2).getD cf
structure DC where
 dr:Bool
 fr:List Nat
 d:Option Nat
 gd:Option (Nat×Bool)
 now:Bool
 k:K
 az:List Arg
 dd:List Nat
 l:List RO
 fs:List Fm
 st:St
def fu (n:Nat) (cf:Cf):bf DC:=match fC S c n cf.1 cf.2.1 cf.2.2 with
 | some (.ops dr fr (⟨d,gd,now,k,az,dd,[]⟩::l),fs,st)=>match wanted st.g gd with
  | some true=>some ⟨dr,fr,d,gd,now,k,az,dd,l,fs,st⟩
  | _=>none
 | _=>none
def nx (n:Nat) (cf:Cf) (φ:DC->St):Cf:=match fu S c n cf with
 | some p=>(.ops p.dr (if p.dr then(match p.k with|.p _|.r _=>p.fr|_=>match p.d with|some d=>d::p.fr|none=>p.fr)else p.fr) p.l,p.fs,nY p.dd (φ p))
 | none=>cf
end
def tG (s:Nat) (b:Bool) (cf:Cf):Cf:=(cf.1,cf.2.1,{ cf.2.2 with g:=bB cf.2.2.g s (.v (.bool b)) })
def jmp (k:Nat) (fr:a_ Nat) (cf:Cf) (st:St):Cf:=match cf with
 | (.ops dr _ l,fs,_)=>(.ops dr fr (l.drop k),fs,st)
 | _=>(.rt,[],st)
def tN:RC->a_ Nat->a_ Fm->St->Cf
 | c,[],fs,st=>(.rc c,fs,st)
 | .seq a b,i::p,fs,st=>if i=0 then tN a p (.seq b::fs) st else tN b p fs st
 | .cond _ a b,i::p,fs,st=>if i=0 then tN a p fs st else tN b p fs st
 | .block id c,_::p,fs,st=>tN c p (.blk id::fs) st
 | .gh _ c,_::p,fs,st=>tN c p fs st
 | .hg c g,_::p,fs,st=>tN c p (.gst g::fs) st
 | .loop c,_::p,_,st=>tN c p [] st
 | .each _ _ _ b,_::p,_,st=>tN b p [] st
 | c,_,fs,st=>(.rc c,fs,st)
section
variable {S:Sys} {c:bN} {β γ δ α:Type} {Q:Out×St->bf β} {e:γ->bf β} {cf:Cf}
theorem je {n:Nat} {p:DC} (h:fu S c n cf=some p):fC S c n cf.1 cf.2.1 cf.2.2=some (.ops p.dr p.fr (⟨p.d,p.gd,p.now,p.k,p.az,p.dd,[]⟩::p.l),p.fs,p.st)/\wanted p.st.g p.gd=some true:=by
 unfold fu at h
 grind
theorem pN {n:Nat} {m:bf δ} {φ:δ->DC->St} {f:δ->bf γ} {p:DC} (hp:fu S c n cf=some p) (u:Le (m.bind λx=>some (φ x p)) (eS S c p.dr p.fr ⟨p.d,none,p.now,p.k,p.az,[],[]⟩ p.st))
 (h:∀x,m=some x->Le ((f x).bind e) (bV S c Q (nx S c n cf (φ x)))):Le ((m.bind f).bind e) (bV S c Q cf):=by
 obtain⟨h1,t⟩:=je hp;refine Dk h1 rfl t u λx w=>?_
 have:=h x w;simp[nx,hp]at this;omega
theorem sw {n:Nat} {m:bf β} {φ:DC->St} {p:DC} (hp:fu S c n cf=some p) (u:eS S c p.dr p.fr ⟨p.d,none,p.now,p.k,p.az,[],[]⟩ p.st=some (φ p))
 (h:Le m (bV S c Q (nx S c n cf φ))):Le m (bV S c Q cf):=by
 obtain⟨h1,t⟩:=je hp;refine pV h1 rfl t u ?_;simp[nx,hp]at h;omega
theorem en {α β:Type} {o:bf α} {f:α->β} {b:β} (h:o.map f=some b):∃a,o=some a/\f a=b:=ζf.1 h
theorem Dl (n:Nat) {m:bf β} {u:Cf} (h:Le m (bV S c Q u)) (B:fC S c n cf.1 cf.2.1 cf.2.2=some u:=by kernel_rfl):Le m (bV S c Q cf):=yB B h
theorem bG (n s:Nat) {t:Bool} {x y:bf γ} (u:Le (x.bind e) (bV S c Q (tG s true (ir S c n cf)))) (B:Le (y.bind e) (bV S c Q (tG s false (ir S c n cf))))
 (D:(fC S c n cf.1 cf.2.1 cf.2.2).map (λp=>bh p.2.2.g s)=some (some (.v (.bool t))):=by kernel_rfl):Le ((bt t x y).bind e) (bV S c Q cf):=by
 obtain⟨p,w,hv⟩:=en D;have hg:ir S c n cf=p:=by unfold ir;grind
 rw[hg]at u B;refine yB w ?_;cases t
 .have:tG s false p=p:=by unfold tG;rw[qx hv]
  rw[this]at B;exact B
 have:tG s true p=p:=by unfold tG;rw[qx hv]
 rw[this]at u;exact u
theorem ey (n s:Nat) {t:Bool} {x y:bf γ} (u:Le (x.bind e) (bV S c Q (tG s false (ir S c n cf)))) (B:Le (y.bind e) (bV S c Q (tG s true (ir S c n cf))))
 (D:(fC S c n cf.1 cf.2.1 cf.2.2).map (λp=>bh p.2.2.g s)=some (some (.v (.bool (!t)))):=by kernel_rfl):Le ((bt t x y).bind e) (bV S c Q cf):=by
 obtain⟨p,w,hv⟩:=en D;have hg:ir S c n cf=p:=by unfold ir;grind
 rw[hg]at u B;refine yB w ?_;cases t
 .have:tG s true p=p:=by unfold tG;rw[show V.bool true=V.bool (!false)from rfl,qx hv]
  rw[this]at B;exact B
 have:tG s false p=p:=by unfold tG;rw[show V.bool false=V.bool (!true)from rfl,qx hv]
 rw[this]at u;exact u
theorem BA (n k:Nat) (fr:a_ Nat) (st:δ->St) {m:bf δ} {f:δ->bf γ} (u:Le (m.bind λr=>bV S c Q (jmp k fr (ir S c n cf) (st r))) (bV S c Q cf))
 (h1:∀r,Le ((f r).bind e) (bV S c Q (jmp k fr (ir S c n cf) (st r)))):Le ((m.bind f).bind e) (bV S c Q cf):=Oy _ u h1
theorem bD (n:Nat) {r:δ} {k:δ->Cf} (u:fC S c n cf.1 cf.2.1 cf.2.2=some (k r):=by kernel_rfl):Le ((some r).bind λr=>bV S c Q (k r)) (bV S c Q cf):=U6  u rfl
theorem bn {r:γ} {L:bf β} (h:L=e r:=by kernel_rfl):Le ((some r).bind e) L:=Le.of_eq h
theorem Cr (n:Nat) {b:RC} {m:bf (Out×Tb bu)} (h:Le m (bV S c uO (.rc b,[],(ir S c n cf).2.2))) (u:fC S c n cf.1 cf.2.1 cf.2.2=some (.nx,[],(ir S c n cf).2.2):=by kernel_rfl):Le m (bV S c (xo S c b) cf):=Tj u h
theorem UR (n:Nat) {o:bf α} (A:bf α->St) {f:α->bf γ} (u:∀x,o=some x->Le ((f x).bind e) (bV S c Q ((ir S c n cf).1,(ir S c n cf).2.1,A (some x))))
 (B:fC S c n cf.1 cf.2.1 cf.2.2=some ((ir S c n cf).1,(ir S c n cf).2.1,A o):=by kernel_rfl):Le ((o.bind f).bind e) (bV S c Q cf):=TG B u
def MK:K->bf BinOp
 | .p (.bin (some .slice) _ o)=>some o
 | _=>none
theorem QD {k:K} {o:BinOp} (h:MK k=some o):∃u,k=.p (.bin (some .slice) u o):=by
 unfold MK at h
 grind
def RD:K->bf (Nat×Nat×a_ Nat)
 | .a (.buildSl sz ln _ ix)=>some (sz,ln,ix)
 | _=>none
theorem Sn {k:K} {r:Nat×Nat×a_ Nat} (h:RD k=some r):∃z,k=.a (.buildSl r.1 r.2.1 z r.2.2):=by
 unfold RD at h
 grind
def SL:K->bf (a_ V)
 | .a (.alloc _ zero)=>some zero
 | _=>none
theorem Se {k:K} {z:a_ V} (h:SL k=some z):∃n,k=.a (.alloc n z):=by
 unfold SL at h
 grind
section
variable [bz α]
theorem TS (k:IntKind) (n:Nat) {s:Sl α} {i:Int} {f:α->bf γ} (h:∀x,idx s i=some x->Le ((f x).bind e) (bV S c Q (nx S c n cf λp=>cU p.st p.d (cp x))))
 (u:(fu S c n cf).map (λp=>(p.k,bQ S.N p.st.g p.az))=some (.p (.idxS (bz.size α)),some [.v (cg s),.v (.int k i)]):=by kernel_rfl):Le (((idx s i).bind f).bind e) (bV S c Q cf):=by
 obtain⟨p,t,hv⟩:=en u;simp  at hv;refine pN t ?_ h;rw[hv.1];exact Le.of_eq (Pf hv.2 rfl)
theorem cu (n:Nat) {s:Sl α} {i:Int} {f:α->bf γ} (h:∀x,idx s i=some x->Le ((f x).bind e) (bV S c Q (nx S c n cf λp=>cU p.st p.d (cp x))))
 (u:(fu S c n cf).map (λp=>(p.k,bQ S.N p.st.g p.az))=some (.p (.idxS (bz.size α)),some [.v (cg s),.v (.int .i64 i)]):=by kernel_rfl):Le (((idx s i).bind f).bind e) (bV S c Q cf):=TS .i64 n h u
theorem lX (k:IntKind) (n u:Nat) {s:Sl α} {i:Int} {f:Nat->bf γ} (h:∀x,s.jH i=some x->Le ((f x).bind e) (bV S c Q (nx S c n cf λp=>cU p.st p.d (.el u x 0))))
 (B:(fu S c n cf).map (λp=>(p.k,bQ S.N p.st.g p.az,bh p.st.m u))=some (.p (.idxS (bz.size α)),some [.own u,.v (.int k i)],some (cq s)):=by kernel_rfl):Le (((s.jH i).bind f).bind e) (bV S c Q cf):=by
 obtain⟨p,t,hv⟩:=en B;simp  at hv;refine pN t ?_ h;rw[hv.1];exact Le.of_eq (Ue hv.2.1 hv.2.2 rfl)
theorem tP (n u o sz:Nat) (a:Bool) (v:α->V) {s:Sl α} {i:Nat} {f:α->bf γ} (h:∀x,s.get i=some x->Le ((f x).bind e) (bV S c Q (nx S c n cf λp=>cU p.st p.d (.v (v x)))))
 (B:(fu S c n cf).map (λp=>(p.k,bQ S.N p.st.g p.az,bh p.st.m u,(!p.dr||p.now||eB p.fr [.el u i o])))=some (.r (.load sz a),some [.el u i o],some (cq s),true):=by kernel_rfl) (hv:∀x:α,(cut (cells x) o sz).bind (mk a)=some (v x):=by intro _;rfl):Le (((s.get i).bind f).bind e) (bV S c Q cf):=by
 obtain⟨p,w,t⟩:=en B;simp only[ζc]at t;refine pN w ?_ h;rw[t.1];exact Le.of_eq (RY t.2.1 t.2.2.2 t.2.2.1 hv)
theorem AE (n u:Nat) (x:V) {s:Sl α} {i:Nat} {a:α} {f:Sl α->bf γ} (h:∀B,s.put i a=some B->Le ((f B).bind e) (bV S c Q (nx S c n cf λp=>cU { p.st with m:=bB p.st.m u (cq B) } p.d (.v .undef))))
 (D:(fu S c n cf).map (λp=>(p.k,bQ S.N p.st.g p.az,bh p.st.m u,(!p.dr||p.now),x.cells))=some (.l (.store (bz.size α)),some [.el u i 0,.v x],some (cq s),true,cells a):=by kernel_rfl):Le (((s.put i a).bind f).bind e) (bV S c Q cf):=by
 obtain⟨p,t,hv⟩:=en D;simp only[ζc]at hv;refine pN t ?_ h;rw[hv.1];exact Le.of_eq (Ic hv.2.1 hv.2.2.2.1 hv.2.2.1 hv.2.2.2.2 rfl)
theorem FL (n u:Nat) {i:Int} {z:α} {f:Sl α->bf γ} (h:∀B,iX i z=some B->Le ((f B).bind e) (bV S c Q (nx S c n cf λp=>{ p.st with g:=bB p.st.g u (.own u),m:=bB p.st.m u (cq B) })))
 (D:(fu S c n cf).map (λp=>(p.d,p.k,bQ S.N p.st.g p.az,p.st.new u))=some (some u,.a (.makeSl (bz.size α) (cells z)),some [.v (.int .i64 i),.v (.int .i64 i)],true):=by kernel_rfl):Le (((iX i z).bind f).bind e) (bV S c Q cf):=by
 obtain⟨p,t,hv⟩:=en D;simp  at hv;refine pN t ?_ h;rw[hv.1,hv.2.1];exact Le.of_eq (SG hv.2.2.1 rfl rfl hv.2.2.2)
theorem ri (n o w u:Nat) {s:Sl α} {x:α} {f:Sl α->bf γ} (h:∀B,eA s x=some B->Le ((f B).bind e) (bV S c Q (nx S c n cf λp=>{ p.st with g:=bB p.st.g u (.own u),m:=bB (cB o p.st.m) u (cq B) })))
 (D:(fu S c n cf).map (λp=>(p.d,p.k,bQ S.N p.st.g p.az,(!p.dr||p.now),bh p.st.m o,bh p.st.m w,St.new { p.st with m:=cB o p.st.m } u))=some (some u,.l (.append (bz.size α)),some [.own o,.own w],true,some (cq s),some (cq (.row [x])),true):=by kernel_rfl):Le (((eA s x).bind f).bind e) (bV S c Q cf):=by
 obtain⟨p,t,hv⟩:=en D;simp only[ζc]at hv;refine pN t ?_ h;rw[hv.1,hv.2.1];exact Le.of_eq (Tu hv.2.2.1 hv.2.2.2.1 hv.2.2.2.2.1 hv.2.2.2.2.2.1 rfl hv.2.2.2.2.2.2)
theorem ON (n w u:Nat) (v:V) (x:α) {m:bf β} (h:Le m (bV S c Q (nx S c n cf λp=>{ p.st with g:=bB p.st.g u (.own u),m:=bB p.st.m u (cq (.row [x])) }))) (hv:v=.bE\/v=.c7:=by first|exact .inl rfl|exact .inr rfl)
 (B:(fu S c n cf).map (λp=>(p.d,p.k,bQ S.N p.st.g p.az,(!p.dr||p.now),bh p.st.m w,p.st.new u))=some (some u,.l (.append (bz.size α)),some [.v v,.own w],true,some (cq (.row [x])),true):=by kernel_rfl):Le m (bV S c Q cf):=by
 obtain⟨p,z,t⟩:=en B;simp only[ζc]at t;refine sw z ?_ h;rw[t.1,t.2.1];exact Sx hv t.2.2.1 t.2.2.2.1 t.2.2.2.2.1 rfl t.2.2.2.2.2
theorem bZ (n:Nat) (s:Sl α) {m:bf β} (h:Le m (bV S c Q (nx S c n cf λp=>cU p.st p.d (.v (.int .i64 s.l.length)))))
 (u:(fu S c n cf).map (λp=>(p.k,bQ S.N p.st.g p.az))=some (.p .lenSl,some [.v (cg s)]):=by kernel_rfl):Le m (bV S c Q cf):=by
 obtain⟨p,t,hv⟩:=en u;simp  at hv;refine sw t ?_ h;rw[hv.1];exact OF hv.2
theorem zm (n u:Nat) (s:Sl α) {m:bf β} (h:Le m (bV S c Q (nx S c n cf λp=>cU p.st p.d (.v (.int .i64 s.l.length)))))
 (B:(fu S c n cf).map (λp=>(p.k,bQ S.N p.st.g p.az,bh p.st.m u))=some (.p .lenSl,some [.own u],some (cq s)):=by kernel_rfl):Le m (bV S c Q cf):=by
 obtain⟨p,t,hv⟩:=en B;simp  at hv;refine sw t ?_ h;rw[hv.1];exact S6 hv.2.1 hv.2.2
theorem RQ (n:Nat) {s:Sl α} {f:Bool->bf γ} (h:∀t,s.isNil=some t->Le ((f t).bind e) (bV S c Q (nx S c n cf λp=>cU p.st p.d (.v (.bool t)))))
 (B:(fu S c n cf).map (λp=>(MK p.k,bQ S.N p.st.g p.az))=some (some .eql,some [.v (cg s),.v .bE]):=by kernel_rfl):Le ((s.isNil.bind f).bind e) (bV S c Q cf):=by
 obtain⟨p,w,hv⟩:=en B;simp  at hv;obtain⟨u,hk⟩:=QD hv.1;refine pN w ?_ h;rw[hk];exact Le.of_eq (QJ hv.2)
theorem Jj (n:Nat) (u B:Bool) (D:a_ V) {s:Sl α} {a b:bf Int} {f:Sl α->bf γ} (h:∀x,jD s a b=some x->Le ((f x).bind e) (bV S c Q (nx S c n cf λp=>cU p.st p.d (.v (cg x)))))
 (G:(fu S c n cf).map (λp=>(p.k,bQ S.N p.st.g p.az,l8 u B D))=some (.p (.slice (bz.size α) u B),some (.v (cg s)::D.map .v),some (a,b)):=by kernel_rfl):Le (((jD s a b).bind f).bind e) (bV S c Q cf):=by
 obtain⟨p,t,hv⟩:=en G;simp  at hv;obtain⟨h1,C⟩:=je t;obtain⟨dr,fr,d,gd,now,k,az,dd,l,fs,st⟩:=p;obtain⟨rfl,I,J⟩:=hv;exact UG n dr fr (⟨d,gd,now,.p (.slice (bz.size α) u B),az,dd,[]⟩::l) fs st u B D  rfl Zd λw z=>by
  have:=h w z;simp only[nx,t]at this;omega
theorem O5 (n:Nat) (B D:Bool) (u t:Nat) (G:a_ V) {s:Sl α} {a b:bf Int} {f:Sl α->bf γ} (h:∀x,ki s a b=some x->Le ((f x).bind e) (bV S c Q (nx S c n cf λp=>{ p.st with g:=bB p.st.g t (.own t),m:=bB (cB u p.st.m) t (cq x) })))
 (J:(fu S c n cf).map (λp=>(p.d,p.k,p.dr,bQ S.N p.st.g p.az,l8 B D G,bh p.st.m u,St.new { p.st with m:=cB u p.st.m } t))=some (some t,.p (.slice (bz.size α) B D),false,some (.own u::G.map .v),some (a,b),some (cq s),true):=by kernel_rfl):Le (((ki s a b).bind f).bind e) (bV S c Q cf):=by
 obtain⟨p,w,hv⟩:=en J;simp  at hv;obtain⟨h1,L⟩:=je w;obtain⟨dr,fr,d,gd,now,k,az,dd,l,fs,st⟩:=p;obtain⟨rfl,rfl,rfl,O,T,U,z⟩:=hv;exact TP n fr (⟨some t,gd,now,.p (.slice (bz.size α) B D),az,dd,[]⟩::l) fs st B D u G  rfl z Zd λC I=>by
  have:=h C I;simp only[nx,w]at this;omega
theorem dR (n u:Nat) (x:α) {m:bf β} (h:Le m (bV S c Q (nx S c n cf λp=>{ p.st with g:=bB p.st.g u (.ptr u 0),m:=bB p.st.m u (bx x) })))
 (B:(fu S c n cf).map (λp=>(p.d,p.k,bQ S.N p.st.g p.az,p.st.new u))=some (some u,.a .box,some [cv x],true):=by kernel_rfl):Le m (bV S c Q cf):=by
 obtain⟨p,t,hv⟩:=en B;simp  at hv;refine sw t ?_ h;rw[hv.1,hv.2.1,wR,hv.2.2.1];simp only[ζb,hv.2.2.2,if_true,lR,eH,sn]
def OQ (u o sz:Nat) (xs:a_ SV) (p:DC):St:=match bh p.st.m u with
 | some (.box cs)=>cU { p.st with m:=bB p.st.m u (.box (cs.take o++xs++cs.drop (o+sz))) } p.d (.v .undef)
 | _=>p.st
theorem iT (n u o:Nat) (x:α) {m:bf β} (h:Le m (bV S c Q (nx S c n cf (OQ u o (bz.size α) ((cells x).map .v)))))
 (B:(fu S c n cf).map (λp=>(p.k,bQ S.N p.st.g p.az,(!p.dr||p.now),match bh p.st.m u with|some (.box cs)=>Nat.ble (o+bz.size α) cs.length|_=>false))=some (.l (.store (bz.size α)),some [.ptr u o,cv x],true,true):=by kernel_rfl):Le m (bV S c Q cf):=by
 obtain⟨p,z,hv⟩:=en B;simp only[ζc]at hv;refine sw z ?_ h;obtain⟨h1,C,D,w⟩:=hv;split at w
 next cs t=>have G:=Nat.le_of_ble_eq_true w;rw[h1,oU,C];simp only[ζb,D,if_true,gB,t,putCells,eH,gJ,sn,G,and_self,Option.map_some,OQ]
 simp_all
theorem DV (n u:Nat) (xs:a_ α) {m:bf β} (h:Le m (bV S c Q (nx S c n cf λp=>{ p.st with g:=bB p.st.g u (.own u),m:=bB p.st.m u (cq (.row xs)) })))
 (B:(fu S c n cf).map (λp=>(p.d,RD p.k,bQ S.N p.st.g p.az,p.st.new u))=some (some u,some (bz.size α,xs.length,List.range' 0 xs.length),some ((xs.map enc).map .v),true):=by kernel_rfl):Le m (bV S c Q cf):=by
 obtain⟨p,t,hv⟩:=en B;simp  at hv;obtain⟨h1,D⟩:=je t;obtain⟨dr,fr,d,gd,now,k,az,dd,l,fs,st⟩:=p;obtain⟨rfl,w,G,C⟩:=hv;obtain⟨z,rfl⟩:=Sn w;exact Vk n dr fr (⟨some u,gd,now,.a (.buildSl (bz.size α) xs.length z (List.range' 0 xs.length)),az,dd,[]⟩::l) fs st xs rfl C Zd (by
  simp[nx,t]at h;omega)
theorem uI (n:Nat) (x:α) (vs z:a_ V) (pl:a_ (Nat×Nat)) {m:bf β} (u:jL z pl vs=some (cells x)) (B:bz.agg α=true) (h:Le m (bV S c Q (nx S c n cf λp=>cU p.st p.d (cv x))))
 (D:(fu S c n cf).map (λp=>(p.k,bQ S.N p.st.g p.az))=some (.p (.build z pl),some (vs.map .v)):=by kernel_rfl):Le m (bV S c Q cf):=by
 obtain⟨p,t,hv⟩:=en D;simp  at hv;obtain⟨h1,w⟩:=je t;obtain⟨dr,fr,d,gd,now,k,az,dd,l,fs,st⟩:=p;obtain⟨rfl,C⟩:=hv;exact UQ n dr fr (⟨d,gd,now,.p (.build z pl),az,dd,[]⟩::l) fs st x vs rfl u B Zd (by
  simp only[nx,t]at h;omega)
end
theorem yU (n:Nat) (k:IntKind) {a:ByteArray} {b:Int} {f:Int->bf γ} (h:∀x,jV a b=some x->Le ((f x).bind e) (bV S c Q (nx S c n cf λp=>cU p.st p.d (.v (.int .u8 x)))))
 (u:(fu S c n cf).map (λp=>(p.k,bQ S.N p.st.g p.az))=some (.p .idxStr,some [.v (.str a),.v (.int k b)]):=by kernel_rfl):Le (((jV a b).bind f).bind e) (bV S c Q cf):=by
 obtain⟨p,t,hv⟩:=en u;simp  at hv;refine pN t ?_ h;rw[hv.1];exact Le.of_eq (Nn hv.2)
section
variable {A:α->a_ V} {E:δ->a_ V} {pl:α->bf δ} {fn:FuncId} {sc:Bool}
theorem wI (n:Nat) (F:lz S c fn A E pl sc) (z:α) {f:δ->bf γ} (h:∀x,pl z=some x->Le ((f x).bind e) (bV S c Q (nx S c n cf λp=>cU p.st p.d (.v (result (E x))))))
 (B:(fu S c n cf).map (λp=>(p.k,(bQ S.N p.st.g p.az).bind k_,(!p.dr||p.now||eM p.st.m p.fr [])))=some (.c,some (fn,(A z).map .v),true):=by kernel_rfl):Le (((pl z).bind f).bind e) (bV S c Q cf):=by
 obtain⟨p,w,hv⟩:=en B;simp  at hv;obtain⟨C,D,L⟩:=hv;obtain⟨G,g1,g2⟩:=ζg.1 D;have t:∀d (u:a_ V),SV.c9 d (u.map .v)=false:=λd u=>by
  induction u with
  | nil=>rfl
  | cons a l I=>simp[SV.c9,SV.cw,I]
 have J:(!p.dr||p.now||eM p.st.m p.fr ((A z).map .v))=true:=by
  have:eM p.st.m p.fr ((A z).map .v)=eM p.st.m p.fr []:=by unfold eM;simp[t];rfl
  grind
 refine pN w ?_ h;rw[C];exact FP (F.h z) F.k g1 g2 (Fa _ _ _) J (λr=>by rw[kV];simp)
theorem SU (n:Nat) (F:lz S c fn A E pl true) (z:α) {f:δ->bf γ} (h:∀x,pl z=some x->Le ((f x).bind e) (bV S c Q (nx S c n cf λp=>cU p.st p.d (.v (result (E x))))))
 (u:(fu S c n cf).map (λp=>(p.k,((bQ S.N p.st.g p.az).bind k_).bind λq=>(ng (iL p.st.m 8) q.2).map λvs=>(q.1,vs,((!p.dr||p.now)||eM p.st.m p.fr q.2))))=some (.c,some (fn,A z,true)):=by kernel_rfl):Le (((pl z).bind f).bind e) (bV S c Q cf):=by
 obtain⟨p,t,hv⟩:=en u;simp  at hv;obtain⟨w,B⟩:=hv;obtain⟨q,g1,g2⟩:=ζg.1 B;obtain⟨C,g3,g4⟩:=ζg.1 g1;obtain⟨vs,g5,g6⟩:=ζf.1 g2;simp only[ζc]at g6;obtain⟨e1,rfl,e3⟩:=g6;refine pN t ?_ h;rw[w];exact FP (F.h z) F.k g3 Zd g5 e3 (λr=>by rw[F.s rfl];rfl)
end
section
variable {N:Nat} [bz α]
theorem O8 (n:Nat) (k:IntKind) {a:bU N α} {i:Int} {f:α->bf γ} (h:∀x,a.at i=some x->Le ((f x).bind e) (bV S c Q (nx S c n cf λp=>cU p.st p.d (.v (.fptr (pa a i))))))
 (u:(fu S c n cf).map (λp=>(p.k,bQ S.N p.st.g p.az))=some (.p (.idxA N (bz.size α)),some [cp a,.v (.int k i)]):=by kernel_rfl):Le (((a.at i).bind f).bind e) (bV S c Q cf):=by
 obtain⟨p,t,hv⟩:=en u;simp  at hv;obtain⟨h1,z⟩:=je t;obtain⟨dr,fr,d,gd,now,B,az,dd,l,fs,st⟩:=p;obtain⟨rfl,C⟩:=hv;exact TR n dr fr (⟨d,gd,now,.p (.idxA N (bz.size α)),az,dd,[]⟩::l) fs st k   rfl Zd λx w=>by
  have:=h x w;simp only[nx,t]at this;omega
theorem NN (n k:Nat) (a:bU N α) (i:Int) (o:Nat) (x:α) (u:a.at i=some x) {m:bf β} (h:Le m (bV S c Q (nx S c n cf λp=>cU p.st p.d (.v (.fptr ((pa a i).drop (o+k)))))))
 (B:(fu S c n cf).map (λp=>(p.k,bQ S.N p.st.g p.az,Nat.ble (o+k) (bz.size α)))=some (.p (.fieldAddr k),some [.v (.fptr ((pa a i).drop o))],true):=by kernel_rfl):Le m (bV S c Q cf):=by
 obtain⟨p,t,hv⟩:=en B;simp  at hv;obtain⟨h1,w⟩:=je t;obtain⟨dr,fr,d,gd,now,z,az,dd,l,fs,st⟩:=p;obtain⟨rfl,C,D⟩:=hv;exact US n dr fr (⟨d,gd,now,.p (.fieldAddr k),az,dd,[]⟩::l) fs st a i o x u rfl Zd (by
  simp only[nx,t]at h;omega)
theorem O4 (n sz:Nat) (ag:Bool) (a:bU N α) (i:Int) (o:Nat) (x:α) (B:a.at i=some x) (v:V) (hv:(cut (cells x) o sz).bind (mk ag)=some v) {m:bf β} (h:Le m (bV S c Q (nx S c n cf λp=>cU p.st p.d (.v v))))
 (D:(fu S c n cf).map (λp=>(p.k,bQ S.N p.st.g p.az))=some (.r (.load sz ag),some [.v (.fptr ((pa a i).drop o))]):=by kernel_rfl):Le m (bV S c Q cf):=by
 obtain⟨p,u,t⟩:=en D;simp  at t;obtain⟨h1,w⟩:=je u;obtain⟨dr,fr,d,gd,now,z,az,dd,l,fs,st⟩:=p;obtain⟨rfl,C⟩:=t;exact TX n dr fr (⟨d,gd,now,.r (.load sz ag),az,dd,[]⟩::l) fs st a i o x B hv v rfl Zd (by
  simp only[nx,u]at h;omega)
theorem R3 (n u:Nat) (st:St) (cs:a_ SV) {m:bf β} (B:st.new u=true) (h:Le m (bV S c Q (nx S c n cf λ_=>{ st with g:=bB st.g u (.ptr u 0),m:=bB st.m u (.box cs) })))
 (D:(fu S c n cf).map (λp=>(p.d,(SL p.k).map (λz=>z.map SV.v),bQ S.N p.st.g p.az,p.st))=some (some u,some cs,some [],st):=by kernel_rfl):Le m (bV S c Q cf):=by
 obtain⟨p,w,hv⟩:=en D;simp only[ζc]at hv;obtain⟨z,C,t⟩:=en hv.2.1;obtain⟨k,hk⟩:=Se C;refine sw w ?_ h;rw[hv.1,hk,wR,hv.2.2.1,hv.2.2.2];simp[B,lR,t]
theorem EO (n:Nat) (k:IntKind) (u:Nat) {a:bU N α} {i:Int} {f:α->bf γ} (h:∀x,a.at i=some x->Le ((f x).bind e) (bV S c Q (nx S c n cf λp=>cU p.st p.d (.ptr u (i.toNat*bz.size α+0)))))
 (B:(fu S c n cf).map (λp=>(p.k,bQ S.N p.st.g p.az,bh p.st.m u))=some (.p (.idxA N (bz.size α)),some [.ptr u 0,.v (.int k i)],some (bx a)):=by kernel_rfl):Le (((a.at i).bind f).bind e) (bV S c Q cf):=by
 obtain⟨p,t,hv⟩:=en B;simp  at hv;obtain⟨h1,z⟩:=je t;obtain⟨dr,fr,d,gd,now,C,az,dd,l,fs,st⟩:=p;obtain⟨rfl,D,G⟩:=hv;exact Tv n dr fr (⟨d,gd,now,.p (.idxA N (bz.size α)),az,dd,[]⟩::l) fs st k u   rfl Zd λx w=>by
  have:=h x w;simp only[nx,t]at this;omega
theorem OY (n sz:Nat) (ag:Bool) (u:Nat) (a:bU N α) (i:Int) (o:Nat) (x:α) (B:a.at i=some x) (v:V) (hv:(cut (cells x) o sz).bind (mk ag)=some v) {m:bf β} (h:Le m (bV S c Q (nx S c n cf λp=>cU p.st p.d (.v v))))
 (D:(fu S c n cf).map (λp=>(p.k,bQ S.N p.st.g p.az,bh p.st.m u,(!p.dr||p.now||eB p.fr [.ptr u 0])))=some (.r (.load sz ag),some [.ptr u (i.toNat*bz.size α+o)],some (bx a),true):=by kernel_rfl):Le m (bV S c Q cf):=by
 obtain⟨p,w,t⟩:=en D;simp  at t;obtain⟨h1,z⟩:=je w;obtain⟨dr,fr,d,gd,now,C,az,dd,l,fs,st⟩:=p;obtain⟨rfl,G,I,J⟩:=t;exact Tz n dr fr (⟨d,gd,now,.r (.load sz ag),az,dd,[]⟩::l) fs st u a i o x B hv v rfl Zd (by
  simp only[nx,w]at h;omega)
end
section
variable {κ ν:Type} [bz κ] [DecidableEq κ] [Key κ] [bz ν]
theorem T7 (n u:Nat) (mp:Mo κ ν) (k:κ) (z:ν) {m:bf β} (h:Le m (bV S c Q (nx S c n cf λp=>cU p.st p.d (cv (CL mp k z)))))
 (B:(fu S c n cf).map (λp=>(p.k,bQ S.N p.st.g p.az,bh p.st.m u,(!p.dr||p.now||eB p.fr [.mp u,cv k])))=some (.r (.lookup (Key.kk κ) (enc z) false),some [.mp u,cv k],some (uC mp),true):=by kernel_rfl):Le m (bV S c Q cf):=by
 obtain⟨p,t,hv⟩:=en B;simp  at hv;obtain⟨h1,w⟩:=je t;obtain⟨dr,fr,d,gd,now,C,az,dd,l,fs,st⟩:=p;obtain⟨rfl,D,G,I⟩:=hv;exact TO n dr fr (⟨d,gd,now,.r (.lookup (Key.kk κ) (enc z) false),az,dd,[]⟩::l) fs st u mp k z rfl Zd (by
  simp only[nx,t]at h;omega)
theorem U3 (n u:Nat) (mp:Mo κ ν) (k:κ) (v:ν) {m:bf β} (h:Le m (bV S c Q (nx S c n cf λp=>cU { p.st with m:=bB p.st.m u (uC (qg mp k v)) } p.d (.v .undef))))
 (B:(fu S c n cf).map (λp=>(p.k,bQ S.N p.st.g p.az,bh p.st.m u,(!p.dr||p.now)))=some (.l (.mapUp (Key.kk κ)),some [.mp u,cv k,cv v],some (uC mp),true):=by kernel_rfl):Le m (bV S c Q cf):=by
 obtain⟨p,w,t⟩:=en B;simp  at t;obtain⟨h1,z⟩:=je w;obtain⟨dr,fr,d,gd,now,C,az,dd,l,fs,st⟩:=p;obtain⟨rfl,D,G,I⟩:=t;exact UH n dr fr (⟨d,gd,now,.l (.mapUp (Key.kk κ)),az,dd,[]⟩::l) fs st u mp k v rfl Zd (by
  simp[nx,w]at h;omega)
end
theorem Ts (n:Nat) (st:St) {rs:a_ RV} {e:γ->bf (a_ V)} {r:γ} (svs:a_ SV) {ys:a_ V} (u:ng (iL st.m 8) svs=some ys) (B:e r=some ys)
 (h:(fC S c n cf.1 cf.2.1 cf.2.2).map (λq=>(q.1,q.2.2,iN q.2.2 rs))=some (.rt,st,some svs):=by kernel_rfl):Le ((some r).bind e) (bV S c (qm rs) cf):=by
 obtain⟨⟨fo,fs,st'⟩,t,hv⟩:=en h;simp  at hv;obtain⟨rfl,rfl,w⟩:=hv;exact TJ n svs u (by rw[t,w]) B
end
end Go.VE
namespace Go.VE
variable [bK]
section
variable {S:Sys} {c:bN} {β γ δ α:Type} [bz α] {Q:Out×St->bf β} {e:γ->bf β} {cf:Cf}
def lY (s x:Sl α):bf (Sl α):=if x.l=[]then some s else if s.l.length+x.l.length<=2147483648 then some (.row (s.l++x.l))else none
theorem Pz (m:Tb bu) (n w:Nat) (x:Sl α) (u:n=bz.size α) (B:bh m w=some (cq x)):gW m n (.own w)=some (rows x.l):=by
 rw[zi,B,zS n x u]
theorem wJ (l:a_ α):rows l=[]↔l=[]:=by unfold rows;simp
theorem GJ (a b:a_ α):rows a++rows b=rows (a++b):=by unfold rows;simp
theorem w_ (a:a_ α):(rows a).length=a.length:=by unfold rows;simp
theorem SE {st:St} {dr now:Bool} {fr:a_ Nat} {az:a_ Arg} {d n o:Nat} {s x:Sl α} {sx:SV} (G:bQ S.N st.g az=some [.own o,sx]) (hd:(!dr||now)=true) (u:bh st.m o=some (cq s)) (J:gW st.m n sx=some (rows x.l)) (B:n=bz.size α) (D:St.new { st with m:=cB o st.m } d=true) :
 eS S c dr fr ⟨some d,none,now,.l (.append n),az,[],[]⟩ st=(lY s x).bind λO=>some { st with g:=bB st.g d (.own d),m:=bB (cB o st.m) d (cq O) }:=by
 rw[oU,G];simp only[ζb,hd,if_true,tv (Pz st.m n o s B u) J];unfold lY
 by_cases h:x.l=[]
 .rw[if_pos h,(wJ x.l).2 h];simp only[si,u,if_pos D,ζb];rfl
 rw[if_neg h];have hr:rows x.l≠[]:=λe=>h ((wJ _).1 e)
 have w:si st d n (.own o) (some (rows s.l)) (some (rows x.l))=if(rows s.l).length+(rows x.l).length<=2147483648/\Az (.own o)=true then(if St.new { st with m:=giveUp st.m (.own o) } d then some (.own d,{ st with m:=bB (giveUp st.m (.own o)) d (.sl .row n (rows s.l++rows x.l)) })else none)else none:=by
  unfold si;generalize rows x.l=r at *
  cases r with
  | nil=>exact absurd rfl hr
  | cons y r=>rfl
 rw[w,w_,w_,GJ]
 by_cases t:s.l.length+x.l.length<=2147483648
 .rw[if_pos ⟨t,rfl⟩,if_pos (show St.new { st with m:=giveUp st.m (.own o) } d=true from D),if_pos t];rw[ζb,ζb,B];rfl
 rw[if_neg (λk=>t k.1),if_neg t];rfl
theorem TH (n o u:Nat) (sx:SV) {s x:Sl α} {f:Sl α->bf γ} (D:∀p,fu S c n cf=some p->gW p.st.m (bz.size α) sx=some (rows x.l))
 (h:∀B,lY s x=some B->Le ((f B).bind e) (bV S c Q (nx S c n cf λp=>{ p.st with g:=bB p.st.g u (.own u),m:=bB (cB o p.st.m) u (cq B) })))
 (G:(fu S c n cf).map (λp=>(p.d,p.k,bQ S.N p.st.g p.az,(!p.dr||p.now),bh p.st.m o,St.new { p.st with m:=cB o p.st.m } u))=some (some u,.l (.append (bz.size α)),some [.own o,sx],true,some (cq s),true):=by kernel_rfl):Le (((lY s x).bind f).bind e) (bV S c Q cf):=by
 obtain⟨p,t,hv⟩:=en G;simp only[ζc]at hv;refine pN t ?_ h;rw[hv.1,hv.2.1];exact Le.of_eq (SE hv.2.2.1 hv.2.2.2.1 hv.2.2.2.2.1 (D p t) rfl hv.2.2.2.2.2)
theorem wQ (m:Tb bu) (x:Sl α):gW m (bz.size α) (.v (cg x))=some (rows x.l):=by
 cases x <;> simp[cg,Sl.k,Sl.l,iY,gW,rows]
theorem Bk (n o u:Nat) {s x:Sl α} {f:Sl α->bf γ}
 (h:∀B,lY s x=some B->Le ((f B).bind e) (bV S c Q (nx S c n cf λp=>{ p.st with g:=bB p.st.g u (.own u),m:=bB (cB o p.st.m) u (cq B) })))
 (D:(fu S c n cf).map (λp=>(p.d,p.k,bQ S.N p.st.g p.az,(!p.dr||p.now),bh p.st.m o,St.new { p.st with m:=cB o p.st.m } u))=some (some u,.l (.append (bz.size α)),some [.own o,.v (cg x)],true,some (cq s),true):=by kernel_rfl):Le (((lY s x).bind f).bind e) (bV S c Q cf):=
 TH n o u _ (λp _=>wQ p.st.m x) h D
theorem S7 {st:St} {dr now:Bool} {fr:a_ Nat} {az:a_ Arg} {d:Nat} {s x:Sl α} {sx:SV} (hk:s=.nil\/s=.emp) (B:bQ S.N st.g az=some [.v (cg s),sx]) (hd:(!dr||now)=true) (D:gW st.m (bz.size α) sx=some (rows x.l)) (u:st.new d=true) :
 eS S c dr fr ⟨some d,none,now,.l (.append (bz.size α)),az,[],[]⟩ st=(lY s x).bind λG=>some { st with g:=bB st.g d (.own d),m:=bB st.m d (cq G) }:=by
 rw[oU,B];simp only[ζb,hd,if_true,tv (wQ _ _) D];unfold lY
 by_cases h:x.l=[]
 .rw[if_pos h,(wJ x.l).2 h];rcases hk with rfl|rfl <;> (simp only[cg,Sl.k,iY,si,if_pos u,ζb,Sl.l,rows,List.map_nil];rfl)
 rw[if_neg h];have hr:rows x.l≠[]:=λe=>h ((wJ _).1 e)
 have w:s.l=[]:=by rcases hk with rfl|rfl <;> rfl
 have z:si st d (bz.size α) (.v (cg s)) (some (rows s.l)) (some (rows x.l))=if(rows s.l).length+(rows x.l).length<=2147483648/\Az (.v (cg s))=true then(if St.new { st with m:=giveUp st.m (.v (cg s)) } d then some (.own d,{ st with m:=bB (giveUp st.m (.v (cg s))) d (.sl .row (bz.size α) (rows s.l++rows x.l)) })else none)else none:=by
  unfold si;generalize rows x.l=r at *
  cases r with
  | nil=>exact absurd rfl hr
  | cons y r=>rfl
 rw[z,w_,w_,GJ];have C:Az (.v (cg s))=true:=by rcases hk with rfl|rfl <;> rfl
 by_cases t:s.l.length+x.l.length<=2147483648
 .rw[if_pos ⟨t,C⟩,if_pos (show St.new { st with m:=giveUp st.m (.v (cg s)) } d=true from u),if_pos t];rfl
 rw[if_neg (λk=>t k.1),if_neg t];rfl
end
theorem xI {α:Type} {l:a_ α} {i:Nat} {x:α} (h:l[i]? = some x):l.set i x=l:=by
 obtain⟨t,rfl⟩:=ζe.1 h;exact List.set_getElem_self t
open Classical in
def zd (x:a_ V):V:=x.headD .undef
section
variable {H:bp} {Z:Nat->Prop}
theorem c_.PA {k:Nat} {xs ys:a_ V} (h:c_ H Z xs ys) (B:V.kD k xs=true):borrows k H ys=some xs:=jG h.1 λj u v hu hv=>(h.2 j u v hu hv).borrow k (lU.1 B j u hu)
theorem c_.borrows {xs ys:a_ V} (h:c_ H Z xs ys):∃n,∀k,n<=k->borrows k H ys=some xs:=by
 obtain⟨n,t⟩:=mE xs;exact⟨n,λk hk=>h.PA (o_ hk t)⟩
end
def gT (N:Nat->FuncId) (F:Frame):Arg->V
 | .s n=>get F n
 | .k c=>c
 | .f s=>.clo (N s) [] []
def lG (E:Env) (N:Nat->FuncId) (call:dn) (b:bf Nat) (now:Bool) (k:K) (vs:a_ V) (H:bp):bf (V×bp):=
 match k,b with
 | .p p,_=>(bP N p vs).map λv=>(v,H)
 | .r r,none=>(eF H r vs).map λv=>(v,H)
 | .r r,some b=>(eF (H.take b) r vs).map λv=>(v,H)
 | .a a,none=>(kr a vs).map λx=>(x.2.val H.length,H++[x.1])
 | .l l,none=>eE H l vs
 | .l (.store n),some _=>if now then eE H (.store n) vs else none
 | .c,none=>match vs with
  | .clo g a c::t=>if E.keep g then gw E call g (a++t++c) H else match b_ call g (a++t++c) H with
   | some y=>if y.scalar then some (y,H)else none
   | none=>none
  | _=>none
 | .c,some b=>match vs with
  | .clo g a c::t=>if E.keep g then none else match b_ call g (a++t++c) (H.take b)with
   | some y=>if y.scalar then some (y,H)else none
   | none=>none
  | _=>none
 | _,_=>none
def pq (F:Frame):bf Nat->V->Frame
 | none,_=>F
 | some d,v=>set F d v
def dZ (E:Env) (N:Nat->FuncId) (call:dn) (b:bf Nat):a_ RO->Frame->bp->bf (Frame×bp)
 | [],F,H=>some (F,H)
 | o::r,F,H=>match o.gd with
  | none=>match lG E N call b o.now o.k (o.az.map (gT N F)) H with
   | some (v,H')=>dZ E N call b r (pq F o.dst v) H'
   | none=>none
  | some _=>none
section
variable {X:CX} {N:Nat->FuncId} {call:dn} {F F':Frame} {H H':bp}
theorem Io (u:∀f s,X.nm f=some s->N s=f) {o:Operand} {x:Arg} (h:nU X.nm o=some x):ev F o=some (gT N F x):=by
 cases o with
 | tmp t=>simp[nU]at h;subst h;rfl
 | const w=>
  simp[nU]at h;split at h
  .rename_i c hc;split at h
   .simp  at h;subst h;exact hc
   grind
  grind
 | func f=>
  obtain⟨s,z,rfl⟩:=ζf.1 h;show some (V.clo f [] [])=some (.clo (N s) [] [])
  grind
 | global i=>
  simp[nU]at h;split at h
  .rename_i c hc;split at h
   .simp  at h;subst h;simp[ev,hc];rfl
   grind
  grind
theorem uK (D:∀f s,X.nm f=some s->N s=f):∀{os:a_ Operand} {u:a_ Arg},os.mapM (nU X.nm)=some u->eZ F os=some (u.map (gT N F))
 | [],u,h=>by simp  at h;subst h;rfl
 | o::os,u,h=>by
  simp[ζg]at h;obtain⟨x,G,xs,B,rfl⟩:=h;simp[eZ,Io D G,uK D B]
theorem xR (D:∀f s,X.nm f=some s->N s=f) {B:Bool} {ops:a_ Oper} {i:Nat} {o:Oper} {ro:RO} (h:k7 X B ops i o=some ro) (hg:ro.gd=none) :
 o.dst=ro.dst/\xE X.nt o.dst=true/\fq ops F o=true/\((zK X.E N F o.op (ro.az.map (gT N F)) ro.k/\ro.now=(B&&dm ops i)/\(B=true->dm ops i=false->∀a',oa ops i a'=[]\/∀t,o.op≠.load t (.tmp a')))\/(∃n,ro.k=.l (.storeF n))\/(∃n a,ro.k=.r (.loadF n a))\/(B=true/\Bj X.E ops i=true/\cD o.op=.alloc/\(∃p,ro.k=.p p/\(p=.emptyC\/(∃a b,p=.makeC a b)\/∃a b c d,p=.buildC a b c d)/\∀y,bP N p (ro.az.map (gT N F))=some y->oe X.E F o.op=some y))\/∃n,ro.k=.e n):=by
 unfold k7 at h;split at h
 .rename_i hd;have hd:=(Bool.and_eq_true_iff.1 hd).1;split at h
  .rename_i gd k os u hr;split at h
   .split at h
    .rename_i z;simp only[ζh]at z;have L:∀{gd:bf (Nat×Bool)},AY ops o=some gd->gd=none->fq ops F o=true:=λ{gd} u hg=>by
      subst hg;unfold fq;unfold AY at u
      cases G:o.guard with
      | none=>rfl
      | some O=>
       rw[G]at u;obtain⟨j,b⟩:=O;obtain⟨d,_,e⟩:=ζf.1 u;cases e
     split at h
     next Q=>obtain⟨S,C,rfl⟩:=ζf.1 h;have w:=iK D hr (uK (F:=F) D C);exact⟨rfl,hd,L u hg,.inr (.inr (.inr (.inl ⟨z.1,z.2,w.1,_,rfl,.inr (.inl ⟨_,_,rfl⟩),λy I=>CA ⟨_,_,_,by assumption⟩ w I⟩)))⟩
     .rename_i Q;split at h
      next T=>obtain⟨U,rfl,rfl⟩:=T;obtain⟨S,C,rfl⟩:=ζf.1 h;have w:=iK D hr (uK (F:=F) D C);exact⟨rfl,hd,L u hg,.inr (.inr (.inr (.inl ⟨z.1,z.2,w.1,_,rfl,.inl rfl,λy I=>B6 ⟨_,_,_,by assumption⟩ w U I⟩)))⟩
      obtain⟨S,C,rfl⟩:=ζf.1 h;have w:=iK D hr (uK (F:=F) D C);exact⟨rfl,hd,L u hg,.inr (.inr (.inr (.inl ⟨z.1,z.2,w.1,_,rfl,.inr (.inr ⟨_,_,_,_,rfl⟩),λy I=>Cw ⟨_,_,_,by assumption⟩ w I⟩)))⟩
     cases h
    obtain⟨S,C,rfl⟩:=ζf.1 h;simp only at hg;subst hg;refine⟨rfl,hd,?_,?_⟩
    .unfold fq;unfold AY at u
     cases G:o.guard with
     | none=>rfl
     | some O=>
      rw[G]at u;obtain⟨j,b⟩:=O;obtain⟨d,_,e⟩:=ζf.1 u;cases e
    rcases Cj B ops i k os with⟨e,W⟩|⟨_,_,n,a,l,Y,_,_,_,e⟩|⟨_,_,n,ag,a,_,_,e⟩|⟨_,_,_,n,_,e⟩
    .rw[e]at C ⊢;refine .inl ⟨iK D hr (uK D C),rfl,λhd Z a'=>?_⟩
     by_cases J:∃t,o.op=.load t (.tmp a')
     .obtain⟨t,J⟩:=J;rw[J]at hr;simp only[resolve]at hr;obtain⟨d,_,e⟩:=ζf.1 hr;simp only[ζc]at e;exact .inl (W _ _ a' hd Z e.1.symm e.2.symm)
     exact .inr λt h=>J ⟨t,h⟩
    .rw[e];exact .inr (.inl ⟨n,rfl⟩)
    .rw[e];exact .inr (.inr (.inl ⟨n,ag,rfl⟩))
    rw[e];exact .inr (.inr (.inr (.inr ⟨n,rfl⟩)))
   simp at h
  simp at h
 simp at h
theorem Gv {nt:Nat} {dst:bf Nat} (h:xE nt dst=true) (v:V):jh nt F dst v=some (pq F dst v):=by
 cases dst with
 | none=>rfl
 | some d=>simp[xE]at h;simp[jh,if_pos h,pq]
theorem RL (G:∀f s,X.nm f=some s->N s=f) {ops:a_ Oper} {i:Nat} {o:Oper} {ro:RO} (h:k7 X false ops i o=some ro) (hg:ro.gd=none) {v:V} (hv:lG X.E N call none ro.now ro.k (ro.az.map (gT N F)) H=some (v,H')) :
 fP X.E call X.nt ops none o F H=some (pq F ro.dst v,H'):=by
 obtain⟨h1,I,J,t⟩:=xR (F:=F) G h hg;have hd:cH X.E call ops none F H o.op=some (v,H'):=by
  rcases t with⟨t,_⟩|⟨n,t⟩|⟨n,a,t⟩|⟨t,_⟩|⟨n,t⟩
  .generalize hk:ro.k=k at hv t;generalize ro.az.map (gT N F)=T at hv t;unfold cH
   cases k with
   | p p=>
    obtain⟨c,e⟩:=t;obtain⟨w,z,B⟩:=ζf.1 hv;rw[c];simp only[xm (e w z),Option.map_some];rw[B]
   | r r=>
    obtain⟨c,e⟩:=t;obtain⟨w,z,B⟩:=ζf.1 hv;rw[c];simp only[e H w z,Option.map_some];rw[B]
   | a a=>
    obtain⟨c,e⟩:=t;obtain⟨⟨ob,m⟩,z,B⟩:=ζf.1 hv;rw[c];simp only[mh,Bool.false_eq_true,if_false,e _ z];exact congrArg some B
   | l l=>
    obtain⟨c,e⟩:=t;rw[c];exact e H _ hv
   | e n=>exact t.elim
   | b=>simp[lG]at hv
   | c=>
    obtain⟨c,f,L,rfl,e⟩:=t;rw[c];simp only[lG]at hv;split at hv
    .rename_i g a b O C;simp only[List.cons.injEq]at C;obtain⟨rfl,rfl⟩:=C;split at hv
     next u=>simp only[e,uG,dI,jc,u,Bool.and_self,if_true];exact hv
     rename_i u;split at hv
     .rename_i y Q;split at hv
      next D=>simp only[e,uG,dI,jc,u,Bool.false_and,Bool.false_eq_true,if_false,Q,D,if_true];exact hv
      simp at hv
     simp at hv
    simp at hv
  .rw[t]at hv;exfalso;have:∀ops i k os,(vT false ops i k os).1=k:=λ_ _ _ _=>rfl
   unfold k7 at h;simp only[Bool.false_and,Bool.false_eq_true,if_false,Bool.not_false,Bool.and_true]at h;split at h
   .split at h
    .rename_i gd k os S hr;split at h
     .obtain⟨L,U,rfl⟩:=ζf.1 h;simp only[this]at t;subst t;unfold resolve at hr
      (repeat' split at hr) <;> first|(simp at hr;done)|(obtain⟨_,_,e⟩:=ζf.1 hr;simp at e;done)
     simp at h
    simp at h
   first|(simp at h;done)|contradiction
  .rw[t]at hv;simp[lG,eF]at hv
  .cases t
  rw[t]at hv;simp[lG]at hv
 unfold fP;rw[J,if_pos rfl,hd];simp only[h1,Gv (h1▸I),Option.map_some]
theorem GO (B:∀f s,X.nm f=some s->N s=f) {ops:a_ Oper}:∀(rest:a_ Oper) {i:Nat} {u:a_ RO} {F:Frame} {H:bp},jZ X false ops i rest=some u->dZ X.E N call none u F H=some (F',H')->kQ X.E call X.nt ops rest F H=some (F',H')
 | [],i,u,F,H,hc,h=>by
  simp[jZ]at hc;subst hc;exact h
 | o::rest,i,u,F,H,hc,h=>by
  simp[jZ]at hc;split at hc
  .rename_i ro rs h1 D;simp  at hc;subst hc;simp[dZ]at h;split at h
   .rename_i hg;split at h
    next v H1 hv=>simp[kQ,RL B h1 hg hv];exact GO B rest D h
    grind
   grind
  grind
theorem PL {ops:a_ Oper} {i:Nat} {op:Op} (h:∀t a',op=.load t (.tmp a')->oa ops i a'=[]):mm ops i F op=true:=by
 unfold mm
 grind
theorem Sa (Y:∀f s,X.nm f=some s->N s=f) {ops:a_ Oper} {b i:Nat} {o:Oper} (ho:ops[i]? = some o) {ro:RO} (h:k7 X true ops i o=some ro) (hg:ro.gd=none) {v:V} (hv:lG X.E N call (some b) ro.now ro.k (ro.az.map (gT N F)) H=some (v,H')) :
 fP X.E call X.nt ops (some (b,i)) o F H=some (pq F ro.dst v,H'):=by
 obtain⟨h1,Z,h3,u⟩:=xR (F:=F) Y h hg;have hd:cH X.E call ops (some (b,i)) F H o.op=some (v,H'):=by
  rcases u with⟨u,z,B⟩|⟨n,u⟩|⟨n,a,u⟩|⟨_,I,J,p,u,_,L⟩|⟨n,u⟩
  .generalize hk:ro.k=k at hv u;generalize ro.az.map (gT N F)=vs at hv u;unfold cH
   cases k with
   | p p=>
    obtain⟨c,e⟩:=u;obtain⟨w,C,D⟩:=ζf.1 hv;rw[c];simp only[xm (e w C),Option.map_some];rw[D]
   | r r=>
    obtain⟨c,e⟩:=u;obtain⟨w,C,D⟩:=ζf.1 hv;have O:mm ops i F o.op=true:=PL λt a' e=>by
     by_cases U:dm ops i=true
     .exact B0 ho e U
     rcases B rfl (by simpa using U) a' with h|h
     .exact h
     exact absurd e (h t)
    rw[c];simp only[e _ w C,O,if_true];rw[D]
   | a a=>simp[lG]at hv
   | l l=>
    obtain⟨c,e⟩:=u
    cases l with
    | store n=>
     simp only[lG]at hv;split at hv
     next W=>rw[z,Bool.true_and]at W;rw[c];simp only[W,Bool.true_or,if_true];exact e H _ hv
     simp at hv
    | _=>simp[lG]at hv
   | e n=>exact u.elim
   | b=>simp[lG]at hv
   | c=>
    obtain⟨c,f,av,rfl,e⟩:=u;rw[c];simp only[lG]at hv;split at hv
    .rename_i g a b aa G;simp only[List.cons.injEq]at G;obtain⟨rfl,rfl⟩:=G;split at hv
     .simp at hv
     rename_i Q;split at hv
     .rename_i y hy;split at hv
      next S=>simp only[e,uG,Du h rfl c,Bool.not_false,Bool.true_or,dI,jc,Q,Bool.false_and,Bool.false_eq_true,if_false,hy,S,if_true];exact hv
      simp at hv
     simp at hv
    simp at hv
  .rw[u]at hv;simp[lG]at hv
  .rw[u]at hv;simp[lG,eF]at hv
  .rw[u]at hv;obtain⟨w,C,D⟩:=ζf.1 hv;have T:=L w C;unfold cH;rw[J];simp only[mh,I,if_true,T,Option.map_some];exact congrArg some D
  rw[u]at hv;simp[lG]at hv
 unfold fP;rw[h3,if_pos rfl,hd];simp only[h1,Gv (h1▸Z),Option.map_some]
theorem Gk (B:∀f s,X.nm f=some s->N s=f) {ops:a_ Oper} {b:Nat}:∀(rest:a_ Oper) {i:Nat} {u:a_ RO} {F:Frame} {H:bp},ops.drop i=rest->jZ X true ops i rest=some u->dZ X.E N call (some b) u F H=some (F',H') ->
 jd X.E call X.nt ops b (List.range' i rest.length) F H=some (F',H')
 | [],i,u,F,H,_,hc,h=>by
  simp[jZ]at hc;subst hc;exact h
 | o::rest,i,u,F,H,hd,hc,h=>by
  simp[jZ]at hc;split at hc
  .rename_i ro rs h1 G;simp  at hc;subst hc;simp[dZ]at h;split at h
   .rename_i hg;split at h
    .rename_i v H1 hv;have D:ops[i]? = some o:=by
      have:(ops.drop i)[0]? = some o:=by grind
      grind
     have t:ops.drop (i+1)=rest:=by
      rw[<-List.drop_drop,hd];rfl
     simp[List.range'_succ,jd,D,Sa B D h1 hg hv];exact Gk B rest t G h
    grind
   grind
  grind
def vY (l:a_ RO):Bool:=l.all λo=>(match o.k with|.a _|.l (.storeF _)|.r (.loadF ..)|.p (.makeC ..)|.p (.buildC ..)|.p .emptyC|.e _=>false|_=>true)&&o.gd.isNone
theorem B3 (G:∀f s,X.nm f=some s->N s=f) {ops:a_ Oper}:∀(rest:a_ Oper) {i:Nat} {D:a_ RO},jZ X true ops i rest=some D->vY D=true->rest.any (λo=>cD o.op==.alloc)=false
 | [],_,_,_,_=>rfl
 | o::rest,i,D,hc,B=>by
  simp only[jZ]at hc;split at hc
  .rename_i ro rs h1 J;simp only[ζa]at hc;subst hc;simp only[vY,List.all_cons,ζh,Option.isNone_iff_eq_none]at B;obtain⟨_,_,_,u⟩:=xR (F:=[]) G h1 B.1.2;rw[List.any_cons,B3 G rest J B.2,Bool.or_false];rcases u with⟨u,_⟩|⟨n,u⟩|⟨n,a,u⟩|⟨_,_,_,p,u,t,_⟩|⟨n,u⟩
   .cases hk:ro.k with
    | a p=>have:=B.1.1;rw[hk]at this;cases this
    | e p=>have:=B.1.1;rw[hk]at this;cases this
    | _=>rw[hk]at u;rw[u.1];rfl
   .have:=B.1.1;rw[u]at this;cases this
   .have:=B.1.1;rw[u]at this;cases this
   .have:=B.1.1;rw[u]at this;rcases t with rfl|⟨_,_,rfl⟩|⟨_,_,_,_,rfl⟩ <;> cases this
   have:=B.1.1;rw[u]at this;cases this
  simp at hc
def gq (E:Env) (N:Nat->FuncId) (call:dn) (lf:Nat):RC->Frame->bp->bf (Out×Frame×bp)
 | .skip,F,H=>some (.norm,F,H)
 | .ops l,F,H=>(dZ E N call none l F H).map λx=>(.norm,x.1,x.2)
 | .qO l,F,H=>if vY l then(dZ E N call (some H.length) l F H).map λx=>(.norm,x.1,x.2)else none
 | .seq a b,F,H=>match gq E N call lf a F H with
  | some (.norm,F',H')=>gq E N call lf b F' H'
  | r=>r
 | .cond x a b,F,H=>match gT N F x with
  | .bool t=>if t then gq E N call lf a F H else gq E N call lf b F H
  | _=>none
 | .block id c,F,H=>match gq E N call lf c F H with
  | some (.exit u,F',H')=>if u=id then some (.norm,F',H')else some (.exit u,F',H')
  | r=>r
 | .loop c,F,H=>jN (gq E N call lf c) lf F H
 | .exit id,F,H=>some (.exit id,F,H)
 | .ret,F,H=>some (.ret,F,H)
 | _,_,_=>none
theorem Gd {f g:Frame->bp->bf (Out×Frame×bp)} (h:∀F H r,f F H=some r->g F H=some r):∀(k:Nat) (F:Frame) (H:bp) (r:Out×Frame×bp),jN f k F H=some r->jN g k F H=some r
 | 0,F,H,r,hr=>by simp[jN]at hr
 | k+1,F,H,r,hr=>by
  simp only[jN]at hr ⊢
  cases u:f F H with
  | none=>rw[u]at hr;simp at hr
  | some q=>
   rw[u]at hr;rw[h F H q u];obtain⟨o,F1,H1⟩:=q
   cases o with
   | norm=>exact Gd h k F1 H1 r hr
   | exit _=>exact hr
   | ret=>exact hr
theorem FV (D:∀f s,X.nm f=some s->N s=f) {lf:Nat}:∀(rc:RC) (code:Code) (F:Frame) (H:bp) (r:Out×Frame×bp),bH X false code=some rc->gq X.E N call lf rc F H=some r->exec X.E call lf false X.nt code F H=some r:=by
 intro rc
 induction rc with
 | skip=>
  intro code F H r hc h;simp only[gq,ζa]at h;subst h
  cases code with
  | skip=>rfl
  | label _=>rfl
  | region id ops u=>simp only[bH]at hc;(repeat' split at hc) <;> first|(simp at hc;done)|(obtain⟨_,_,e⟩:=ζf.1 hc;cases e)
  | _=>simp only[bH]at hc;(repeat' split at hc) <;> first|(simp at hc;done)|(obtain⟨_,_,e⟩:=ζf.1 hc;cases e)|cases hc
 | ops l=>
  intro code F H r hc h
  cases code with
  | region id ops u=>
   simp only[bH]at hc;split at hc
   .split at hc
    .obtain⟨_,_,e⟩:=ζf.1 hc;cases e
    simp at hc
   rename_i hd;obtain⟨T,G,e⟩:=ζf.1 hc;cases e;simp only[gq]at h;obtain⟨⟨F',H'⟩,hv,rfl⟩:=ζf.1 h;simp only[exec,iV,hd];rw[if_neg Zc,GO D _ G hv];rfl
  | _=>simp only[bH]at hc;(repeat' split at hc) <;> first|(simp at hc;done)|(obtain⟨_,_,e⟩:=ζf.1 hc;cases e)|cases hc
 | qO l=>
  intro code F H r hc h
  cases code with
  | region id ops u=>
   simp only[bH]at hc;split at hc
   .rename_i hd;split at hc
    .rename_i I;obtain⟨T,G,e⟩:=ζf.1 hc;cases e;simp only[gq]at h;split at h
     next U=>obtain⟨⟨F',H'⟩,hv,rfl⟩:=ζf.1 h;have W:qh ops.toList=false:=B3 D _ G U;have:=Gk D ops.toList (i:=0) rfl G hv;rw[<-List.range_eq_range']at this;simp only[exec,iV,hd,I,if_true,W,Bool.false_eq_true,if_false,this];rfl
     simp at h
    simp at hc
   obtain⟨_,_,e⟩:=ζf.1 hc;cases e
  | _=>simp only[bH]at hc;(repeat' split at hc) <;> first|(simp at hc;done)|(obtain⟨_,_,e⟩:=ζf.1 hc;cases e)|cases hc
 | seq a b w B=>
  intro code F H r hc h
  cases code with
  | seq J L=>
   simp only[bH]at hc;split at hc
   .rename_i x y C O;cases hc;simp only[gq]at h;simp only[exec]
    cases hva:gq X.E N call lf a F H with
    | none=>rw[hva]at h;simp at h
    | some q=>
     rw[hva]at h;rw[w J F H q C hva];obtain⟨o,F1,H1⟩:=q
     cases o with
     | norm=>exact B L F1 H1 r O h
     | exit _=>exact h
     | ret=>exact h
   simp at hc
  | region id ops u=>simp only[bH]at hc;(repeat' split at hc) <;> first|(simp at hc;done)|(obtain⟨_,_,e⟩:=ζf.1 hc;cases e)
  | _=>simp only[bH]at hc;(repeat' split at hc) <;> first|(simp at hc;done)|(obtain⟨_,_,e⟩:=ζf.1 hc;cases e)|cases hc
 | cond x a b w B=>
  intro code F H r hc h
  cases code with
  | cond c J L=>
   simp only[bH]at hc;split at hc
   .rename_i x' y z C O Y;cases hc;simp only[gq]at h;simp only[exec,Io (F:=F) D C];split at h
    .rename_i t Z;rw[Z]
     cases t with
     | true=>simp only[if_true]at h ⊢;exact w J F H r O h
     | false=>simp only[Bool.false_eq_true,if_false]at h ⊢;exact B L F H r Y h
    simp at h
   simp at hc
  | region id ops u=>simp only[bH]at hc;(repeat' split at hc) <;> first|(simp at hc;done)|(obtain⟨_,_,e⟩:=ζf.1 hc;cases e)
  | _=>simp only[bH]at hc;(repeat' split at hc) <;> first|(simp at hc;done)|(obtain⟨_,_,e⟩:=ζf.1 hc;cases e)|cases hc
 | block id c Q=>
  intro code F H r hc h
  cases code with
  | block S c'=>
   simp only[bH]at hc;obtain⟨x,C,e⟩:=ζf.1 hc;cases e;simp only[gq]at h;simp only[exec]
   cases hva:gq X.E N call lf c F H with
   | none=>rw[hva]at h;simp at h
   | some q=>
    rw[hva]at h;rw[Q c' F H q C hva];exact h
  | region id ops u=>simp only[bH]at hc;(repeat' split at hc) <;> first|(simp at hc;done)|(obtain⟨_,_,e⟩:=ζf.1 hc;cases e)
  | _=>simp only[bH]at hc;(repeat' split at hc) <;> first|(simp at hc;done)|(obtain⟨_,_,e⟩:=ζf.1 hc;cases e)|cases hc
 | loop c Q=>
  intro code F H r hc h
  cases code with
  | loop c'=>
   simp only[bH]at hc;obtain⟨x,C,e⟩:=ζf.1 hc;cases e;simp only[gq]at h;simp only[exec];exact Gd (λF H r hr=>Q c' F H r C hr) lf F H r h
  | region id ops u=>simp only[bH]at hc;(repeat' split at hc) <;> first|(simp at hc;done)|(obtain⟨_,_,e⟩:=ζf.1 hc;cases e)
  | _=>simp only[bH]at hc;(repeat' split at hc) <;> first|(simp at hc;done)|(obtain⟨_,_,e⟩:=ζf.1 hc;cases e)|cases hc
 | exit id=>
  intro code F H r hc h
  cases code with
  | exit S=>simp only[bH,ζa,RC.exit.injEq]at hc;subst hc;exact h
  | region id ops u=>simp only[bH]at hc;(repeat' split at hc) <;> first|(simp at hc;done)|(obtain⟨_,_,e⟩:=ζf.1 hc;cases e)
  | _=>simp only[bH]at hc;(repeat' split at hc) <;> first|(simp at hc;done)|(obtain⟨_,_,e⟩:=ζf.1 hc;cases e)|cases hc
 | ret=>
  intro code F H r hc h
  cases code with
  | ret=>exact h
  | region id ops u=>simp only[bH]at hc;(repeat' split at hc) <;> first|(simp at hc;done)|(obtain⟨_,_,e⟩:=ζf.1 hc;cases e)
  | _=>simp only[bH]at hc;(repeat' split at hc) <;> first|(simp at hc;done)|(obtain⟨_,_,e⟩:=ζf.1 hc;cases e)|cases hc
 | _=>intro code F H r hc h;simp[gq]at h
end
def Ex (E:Env) (N:Nat->FuncId) (rc:RC) (F:Frame) (H:bp) (o:Out) (F':Frame) (H':bp):Prop:=
 ∃n,∀k,n<=k->gq E N (run E k) k rc F H=some (o,F',H')
def tS (E:Env) (N:Nat->FuncId) (rc:RC) (F:Frame) (H:bp) (o:Out) (F':Frame) (H':bp):Prop:=
 ∃n,∀k,n<=k->∀lf,n<=lf->jN (gq E N (run E k) k rc) lf F H=some (o,F',H')
section
variable {E:Env} {N:Nat->FuncId} {a b c:RC} {F F1 F':Frame} {H H1 H':bp} {o:Out} {x:Arg} {id:Nat}
theorem Ex.ops {l:a_ RO} (h:∃n,∀k,n<=k->dZ E N (run E k) none l F H=some (F',H')):Ex E N (.ops l) F H .norm F' H':=
 let ⟨n,h⟩:=h;⟨n,λk hk=>by simp only[gq,h k hk,Option.map_some]⟩
theorem Ex.iM {l:a_ RO} (h:∀call,dZ E N call none l F H=some (F',H')):Ex E N (.ops l) F H .norm F' H':=Ex.ops ⟨0,λk _=>h _⟩
theorem Ex.qO {l:a_ RO} (u:vY l=true) (h:∀call,dZ E N call (some H.length) l F H=some (F',H')):Ex E N (.qO l) F H .norm F' H':=
 ⟨0,λk _=>by simp only[gq,u,if_true,h,Option.map_some]⟩
theorem Ex.J_ {l:a_ RO} (u:vY l=true) (h:∃n,∀k,n<=k->dZ E N (run E k) (some H.length) l F H=some (F',H')):Ex E N (.qO l) F H .norm F' H':=
 let ⟨n,h⟩:=h;⟨n,λk hk=>by simp only[gq,u,if_true,h k hk,Option.map_some]⟩
theorem Ex.skip:Ex E N .skip F H .norm F H:=⟨0,λ_ _=>rfl⟩
theorem Ex.exit:Ex E N (.exit id) F H (.exit id) F H:=⟨0,λ_ _=>rfl⟩
theorem Ex.ret:Ex E N .ret F H .ret F H:=⟨0,λ_ _=>rfl⟩
theorem Ex.seq (h1:Ex E N a F H .norm F1 H1) (u:Ex E N b F1 H1 o F' H'):Ex E N (.seq a b) F H o F' H':=by
 obtain⟨n,h1⟩:=h1;obtain⟨m,u⟩:=u;exact⟨max n m,λk hk=>by simp only[gq,h1 k Za];exact u k Za⟩
theorem Ex.CU (h1:Ex E N a F H o F' H') (u:o≠.norm):Ex E N (.seq a b) F H o F' H':=by
 obtain⟨n,h1⟩:=h1;refine⟨n,λk hk=>?_⟩
 simp only[gq,h1 k hk];cases o <;> first|exact absurd rfl u|rfl
theorem Ex.vr (u:gT N F x=.bool true) (h:Ex E N a F H o F' H'):Ex E N (.cond x a b) F H o F' H':=by
 obtain⟨n,h⟩:=h;exact⟨n,λk hk=>by simp only[gq,u,if_true,h k hk]⟩
theorem Ex.Bc (u:gT N F x=.bool false) (h:Ex E N b F H o F' H'):Ex E N (.cond x a b) F H o F' H':=by
 obtain⟨n,h⟩:=h;exact⟨n,λk hk=>by simp only[gq,u,Bool.false_eq_true,if_false,h k hk]⟩
theorem Ex.block (h:Ex E N c F H .norm F' H'):Ex E N (.block id c) F H .norm F' H':=by
 obtain⟨n,h⟩:=h;exact⟨n,λk hk=>by simp only[gq,h k hk]⟩
theorem Ex.L7 (h:Ex E N c F H (.exit id) F' H'):Ex E N (.block id c) F H .norm F' H':=by
 obtain⟨n,h⟩:=h;exact⟨n,λk hk=>by simp only[gq,h k hk,if_true]⟩
theorem Ex.LQ (h:Ex E N c F H .ret F' H'):Ex E N (.block id c) F H .ret F' H':=by
 obtain⟨n,h⟩:=h;exact⟨n,λk hk=>by simp only[gq,h k hk]⟩
theorem Ex.loop (h:tS E N c F H o F' H'):Ex E N (.loop c) F H o F' H':=by
 obtain⟨n,h⟩:=h;exact⟨n,λk hk=>h k hk k hk⟩
theorem tS.step (h1:Ex E N c F H .norm F1 H1) (u:tS E N c F1 H1 o F' H'):tS E N c F H o F' H':=by
 obtain⟨n,h1⟩:=h1;obtain⟨m,u⟩:=u;refine⟨max n m+1,λk hk lf t=>?_⟩
 cases lf with
 | zero=>omega
 | succ lf=>simp only[jN,h1 k Za];exact u k Za lf Za
theorem tS.stop (h1:Ex E N c F H o F' H') (u:o≠.norm):tS E N c F H o F' H':=by
 obtain⟨n,h1⟩:=h1;refine⟨n+1,λk hk lf t=>?_⟩
 cases lf with
 | zero=>omega
 | succ lf=>
  simp only[jN,h1 k Za]
  cases o <;> first|exact absurd rfl u|rfl
end
theorem Ex.run {E:Env} {nm:FuncId->bf Nat} {N:Nat->FuncId} (u:∀f s,nm f=some s->N s=f) {f:FuncId} {fi:FI} {rc:RC} (B:E.ft f=some fi) (hc:bH ⟨E,nm,fi.ntmps⟩ false fi.body=some rc) {args:a_ V} (D:args.length<=fi.ntmps) {H H':bp} {F':Frame}
 (h:Ex E N rc args H .ret F' H') {vs:a_ V} (hr:iP E F' H' fi.results=some vs):∃n,run E n (.fn f) args H=some (result vs,H'):=by
 obtain⟨n,h⟩:=h;refine⟨n+1,?_⟩;have:=FV (X:=⟨E,nm,fi.ntmps⟩) (call:=Go.VE.run E n) u (lf:=n) rc fi.body args H _ hc (h n (Nat.le_refl _));simp only[Go.VE.run,jM,B,if_pos D,this,hr,Option.map_some]
@[simp] theorem uQ (F:Frame) (i j:Nat) (v:V):get (set F i v) j=if i=j then v else get F j:=by
 split
 next h=>subst h;exact uj F i v
 rename_i h;exact iE F v h
def refs:a_ Nat->a_ (a_ V)->a_ (a_ V)
 | id::ids,r::rs=>[V.hsl id 1 0 r.length]::refs ids rs
 | _,_=>[]
def oE (r:a_ V):a_ (a_ V):=r.map λu=>[u]
structure rH (H:bp) (w:V) (o:Nat) (ids:List Nat) (rows:List (List V)):Prop where
 v:w=if rows=[]then .bE else .hsl o 1 0 rows.length
 ob:rows≠[]->H[o]? = some (.row 1 (refs ids rows))
 len:ids.length=rows.length
 r:∀(i id:Nat) (r:List V),ids[i]? = some id->rows[i]? = some r->H[id]? = some (.row 1 (oE r))
 nd:ids.Nodup
 ne:rows≠[]->o∉ids
theorem wT:∀{ids:a_ Nat} {rows:a_ (a_ V)},ids.length=rows.length->(refs ids rows).length=rows.length
 | [],[],_=>rfl
 | _::ids,_::rows,h=>by simp only[refs,List.length_cons,wT (ids:=ids) (rows:=rows) (by simpa using h)]
theorem ET:∀{ids:a_ Nat} {rows:a_ (a_ V)} (id:Nat) (r:a_ V),ids.length=rows.length->refs (ids++[id]) (rows++[r])=refs ids rows++[[V.hsl id 1 0 r.length]]
 | [],[],_,_,_=>rfl
 | _::ids,_::rows,id,r,h=>by simp only[refs,List.cons_append,ET (ids:=ids) (rows:=rows) id r (by simpa using h)]
theorem GB:∀{ids:a_ Nat} {rows:a_ (a_ V)} {i id:Nat} {r:a_ V},ids[i]? = some id->rows[i]? = some r->(refs ids rows)[i]? = some [V.hsl id 1 0 r.length]
 | [],_,_,_,_,h,_=>by simp at h
 | _::_,[],_,_,_,_,h=>by simp at h
 | a::ids,b::rows,0,id,r,h1,u=>by simp at h1 u;subst h1 u;rfl
 | a::ids,b::rows,i+1,id,r,h1,u=>by simpa [refs]using GB (ids:=ids) (rows:=rows) (i:=i) (by simpa using h1) (by simpa using u)
theorem FX:∀{ids:a_ Nat} {rows:a_ (a_ V)} {i:Nat} {r u:a_ V},rows[i]? = some r->u.length=r.length->refs ids (rows.set i u)=refs ids rows
 | [],_,_,_,_,_,_=>by simp[refs]
 | _::_,[],_,_,_,_,_=>by simp[refs]
 | a::ids,b::rows,0,r,u,h,B=>by simp at h;subst h;simp only[List.set_cons_zero,refs,B]
 | a::ids,b::rows,i+1,r,u,h,B=>by simp only[List.set_cons_succ,refs,FX (ids:=ids) (rows:=rows) (i:=i) (by simpa using h) B]
section
variable {H H':bp} {v:V} {o:Nat} {ids:a_ Nat} {rows:a_ (a_ V)}
theorem rH.nil (H:bp) (o:Nat):rH H .bE o [] []:=⟨rfl,λh=>absurd rfl h,rfl,λi id r h=>by simp at h,.nil,λh=>absurd rfl h⟩
theorem rH.heap (n:rH H v o ids rows) (u:rows≠[]->H'[o]? = H[o]?) (B:∀id∈ids,H'[id]? = H[id]?):rH H' v o ids rows:=
 ⟨n.v,λh=>by rw[u h];exact n.ob h,n.len,λi id r h1 t=>by rw[B id (List.mem_of_getElem? h1)];exact n.r i id r h1 t,n.nd,n.ne⟩
theorem rH.lt (n:rH H v o ids rows):(rows≠[]->o<H.length)/\∀id∈ids,id<H.length:=by
 refine⟨λh=>(ζe.1 (n.ob h)).1,λid t=>?_⟩
 obtain⟨i,u⟩:=List.getElem?_of_mem t;have w:=(ζe.1 u).1;have:=n.r i id _ u (ζd (show i<rows.length from n.len▸w));exact(ζe.1 this).1
theorem rH.more (n:rH H v o ids rows) (X:bp):rH (H++X) v o ids rows:=
 n.heap (λh=>List.getElem?_append_left (n.lt.1 h)) λid t=>List.getElem?_append_left (n.lt.2 id t)
theorem rH.push (n:rH H v o ids rows) (r:a_ V) (T:rows.length+1<=2147483648) :
 ∃H',eE (H++[.row 1 (oE r)]++[.row 1 [[.hsl H.length 1 0 r.length]]]) (.append 1) [v,.hsl (H.length+1) 1 0 1]=some (.hsl (H.length+2) 1 0 (rows.length+1),H') /\
  rH H' (.hsl (H.length+2) 1 0 (rows.length+1)) (H.length+2) (ids++[H.length]) (rows++[r])/\H.length<=H'.length/\(∀id,id<H.length->id≠o\/rows=[]->H'[id]? = H[id]?):=by
 generalize C:H++[.row 1 (oE r)]++[.row 1 [[.hsl H.length 1 0 r.length]]]=H2;have t:H2.length=H.length+2:=by subst C;simp
 have z:∀id,id<H.length->H2[id]? = H[id]? := λid h=>by
  subst C;rw[List.append_assoc,List.getElem?_append_left h]
 have h1:H2[H.length]? = some (.row 1 (oE r)):=by subst C;simp
 have U:H2[H.length+1]? = some (.row 1 [[.hsl H.length 1 0 r.length]]):=by subst C;simp
 have hv:=n.v;have e2:dz H2 1 (.hsl (H.length+1) 1 0 1)=some [[.hsl H.length 1 0 r.length]]:=by
  simp[dz,U,Ob.rows]
 by_cases hr:rows=[]
 .subst hr;rw[if_pos rfl]at hv;subst hv;have:ids=[]:=List.eq_nil_of_length_eq_zero n.len;subst this;refine⟨H2++[.row 1 [[.hsl H.length 1 0 r.length]]],?_,⟨by simp,λ_=>by rw[<-t];simp[refs],rfl,λi id O w u=>?_,by simp,λ_=>by simp⟩,by simp[t];omega,λid D _=>?_⟩
  .have e1:dz H2 1 .bE=some []:=rfl;simp only[eE,e1,e2,fR,List.length_nil,List.length_singleton,Option.map_some,t];simp
  .cases i with
   | zero=>
    simp at w u;subst w u;rw[List.getElem?_append_left Za];exact h1
   | succ i=>simp at w
  rw[List.getElem?_append_left Za];exact z id D
 rw[if_neg hr]at hv;subst hv;have Q:=n.ob hr;have I:=n.lt.1 hr;have e1:dz H2 1 (.hsl o 1 0 rows.length)=some (refs ids rows):=by
  simp only[dz,if_true,z o I,Q,ζb,Ob.rows,wT n.len,Nat.zero_add,Nat.le_refl,List.drop_zero];rw[List.take_of_length_le (by rw[wT n.len];exact Nat.le_refl _)]
 have W:fR H2 (.hsl o 1 0 rows.length)=some (H2.set o .dead):=by
  simp only[fR,z o I,Q]
 have B:∀id,id≠o->(H2.set o Ob.dead++[Ob.row 1 (refs ids rows++[[.hsl H.length 1 0 r.length]])])[id]? = if id<H2.length then H2[id]? else(H2.set o Ob.dead++[Ob.row 1 (refs ids rows++[[.hsl H.length 1 0 r.length]])])[id]? := λid G=>by
  split
  next h=>rw[List.getElem?_append_left (by simpa using h),List.getElem?_set_ne (Ne.symm G)]
  rfl
 refine⟨H2.set o .dead++[.row 1 (refs ids rows++[[.hsl H.length 1 0 r.length]])],?_,⟨by simp,λ_=>?_,by simp[n.len],λi id O w u=>?_,?_,λ_ hm=>?_⟩,by simp[t];omega,λid D G=>?_⟩
 .simp only[eE,e1,e2,W,wT n.len,List.length_singleton,T,if_true,Option.map_some,t]
 .rw[ET _ _ n.len,<-t];simp
 .have J:id≠o:=by
   rcases Nat.lt_or_ge i ids.length with h|h
   .rw[List.getElem?_append_left h]at w;intro e;subst e;exact n.ne hr (List.mem_of_getElem? w)
   have:i=ids.length:=by have:=(ζe.1 w).1;simp at this;omega
   subst this;simp at w;subst w;omega
  rcases Nat.lt_or_ge i ids.length with h|h
  .rw[List.getElem?_append_left h]at w;rw[List.getElem?_append_left (by rw[<-n.len];exact h)]at u
   have L:=n.lt.2 id (List.mem_of_getElem? w);rw[B id J,if_pos Za,z id L]
   exact n.r i id O w u
  have:i=ids.length:=by have:=(ζe.1 w).1;simp at this;omega
  subst this;simp at w;subst w;rw[n.len]at u;simp at u;subst u;rw[B _ J,if_pos Za];exact h1
 .rw[List.nodup_append];exact⟨n.nd,by simp,λa X b S=>by simp at S;subst S;exact Nat.ne_of_lt (n.lt.2 a X)⟩
 .rcases List.mem_append.1 hm with hm|hm
  .have:=n.lt.2 _ hm;omega
  simp at hm
 rw[B id (G.resolve_right hr),if_pos Za];exact z id D
end
theorem Uh {E:Env} {N:Nat->FuncId} {F:Frame} {H H1:bp} {call:dn} {b:bf Nat} {o:RO} {l:a_ RO} {v:V} {r:Frame×bp} (hg:o.gd=none) (hv:lG E N call b o.now o.k (o.az.map (gT N F)) H=some (v,H1)) (h:dZ E N call b l (pq F o.dst v) H1=some r):dZ E N call b (o::l) F H=some r:=by
 simp only[dZ,hg,hv];exact h
theorem vp {E:Env} {N:Nat->FuncId} {F:Frame} {H:bp} {call:dn} {b:bf Nat} {o:RO} {l:a_ RO} {v:V} {r:Frame×bp} (hg:o.gd=none) (hv:lG E N call b o.now o.k (o.az.map (gT N F)) H=some (v,H)) (h:dZ E N call b l (pq F o.dst v) H=some r):dZ E N call b (o::l) F H=some r:=Uh hg hv h
theorem Gt {E:Env} {N:Nat->FuncId} {F:Frame} {H:bp} {call:dn} {b:bf Nat}:dZ E N call b [] F H=some (F,H):=rfl
theorem R6 {n:Nat} (h:n<=2147483648):IntKind.wrap .i64 ((n:Int)+1)=((n+1:Nat):Int):=by
 simp[IntKind.wrap,IntKind.bits,IntKind.signed];omega
theorem Uf {n:Nat} (h:n<=2147483648):IntKind.wrap .i64 (((n+1:Nat):Int)-1)=(n:Int):=by
 simp[IntKind.wrap,IntKind.bits,IntKind.signed];omega
theorem F8 (H:bp):H.take H.length=H:=List.take_length
theorem MC {E:Env} {nm:FuncId->bf Nat} {f:FuncId} {rc:RC} {n:Nat} {rs:a_ ResultVar} (h:((E.ft f).map λfi=>(bH ⟨E,nm,fi.ntmps⟩ false fi.body,Nat.ble n fi.ntmps,fi.results))=some (some rc,true,rs)) :
 ∃fi,E.ft f=some fi/\bH ⟨E,nm,fi.ntmps⟩ false fi.body=some rc/\n<=fi.ntmps/\fi.results=rs:=by
 obtain⟨fi,h1,t⟩:=ζf.1 h;simp only[ζc]at t;exact⟨fi,h1,t.1,Nat.le_of_ble_eq_true t.2.1,t.2.2⟩
theorem DX {x:V} (h:x.one=true):x.cells=[x]:=by
 cases x <;> first|rfl|(simp[V.one]at h)
def kept (t:Nat->Bool) (n:Nat):a_ Nat:=(List.range n).filter λi=>i==0 || !t i
theorem u6 (t:Nat->Bool) (n:Nat):kept t (n+1)=kept t n++if n==0 || !t n then [n]else []:=by
 unfold kept;rw[List.range_succ,List.filter_append,List.filter_cons];rfl
theorem Qj (t:Nat->Bool):∀n,(kept t n).length<=n:=λn=>by
 unfold kept;exact Nat.le_trans (List.length_filter_le ..) Zc
theorem AX {t:Nat->Bool}:∀n,(∀i,0<i->i<n->t i=false)->kept t n=List.range n
 | 0,_=>rfl
 | n+1,h=>by
  rw[u6,AX n λi h1 u=>h i h1 Za,List.range_succ]
  congr 1
  cases n with
  | zero=>rfl
  | succ n=>rw[h (n+1) Za Za];simp
theorem yp {t:Nat->Bool} {k:Nat} (u:0<k) (hk:t k=true):∀n,k<n->(kept t n).length+1<=n
 | 0,h=>by omega
 | n+1,h=>by
  rw[u6]
  by_cases e:n=k
  .subst e;have:(n==0 || !t n)=false:=by simp[hk];omega
   rw[this];have:=Qj t n;simp;omega
  have:=yp u hk n Za
  split <;> simp <;> omega
namespace cmpX
instance {n:Nat}:OfNat Arg n:=⟨.s n⟩
def r1:a_ RO:=[o1 4 (.k (.bE)) []]
def r2:a_ RO:=[o1 8 0 [],o2 9 (.p .lenSl) [8] [],o2 10 (.p (.bin (some .int) none .lss)) [9,.k (.int .i64 2)] []]
def r3:a_ RO:=[o1 11 0 [],o1 4 11 []]
def r4:a_ RO:=[o1 5 (.k (.int .i64 1)) []]
def r5:a_ RO:=[o1 12 5 [],o1 13 0 [],o2 14 (.p .lenSl) [13] [],o2 15 (.p (.bin (some .int) none .lss)) [12,14] []]
def on (d:Nat) (k:K) (az:a_ Arg):RO:=⟨some d,none,true,k,az,[],[]⟩
def r6:a_ RO:=[o1 18 1 [],o1 19 0 [],o1 20 5 [],o2 21 (.p (.idxS 1)) [19,20] [],o2 22 (.r (.load 1 false)) [21] [],o1 23 0 [],o1 24 5 [],o2 25 (.p (.bin (some .int) none .sub)) [24,.k (.int .i64 1)] [],o2 26 (.p (.idxS 1)) [23,25] [],o2 27 (.r (.load 1 false)) [26] [],on 28 .c [18,22,27]]
def r7:a_ RO:=[o1 29 0 [],o1 30 5 [],o2 31 (.p (.slice 1 true false)) [29,30] [],o1 6 31 []]
def r8:a_ RO:=[o1 7 (.k (.int .i64 1)) []]
def r9:a_ RO:=[o1 32 7 [],o1 33 6 [],o2 34 (.p .lenSl) [33] [],o2 35 (.p (.bin (some .int) none .lss)) [32,34] []]
def Lv:a_ RO:=[o1 38 1 [],o1 39 6 [],o1 40 7 [],o2 41 (.p (.idxS 1)) [39,40] [],o2 42 (.r (.load 1 false)) [41] [],o1 43 6 [],o1 44 7 [],o2 45 (.p (.bin (some .int) none .sub)) [44,.k (.int .i64 1)] [],o2 46 (.p (.idxS 1)) [43,45] [],o2 47 (.r (.load 1 false)) [46] [],on 48 .c [38,42,47],on 49 (.p (.not)) [48]]
def HU:a_ RO:=[o1 50 0 [],o1 51 5 [],o1 52 6 [],o1 53 7 [],o2 54 (.p (.idxS 1)) [52,53] [],o2 55 (.r (.load 1 false)) [54] [],o2 56 (.p (.idxS 1)) [50,51] [],⟨none,none,false,.l (.store 1),[56,55],[],[]⟩]
def IF:a_ RO:=[o1 57 5 [],o2 58 (.p (.bin (some .int) none .add)) [57,.k (.int .i64 1)] [],o1 5 58 []]
def II:a_ RO:=[o1 36 7 [],o2 37 (.p (.bin (some .int) none .add)) [36,.k (.int .i64 1)] [],o1 7 37 []]
def Uo:RC:=.seq (.seq (.ops r9) (.cond (.s 35) (.skip) (.exit 2))) (.seq (.block 3 (.seq (.qO Lv) (.cond (.s 49) (.seq (.ops HU) (.ops IF)) (.skip)))) (.ops II))
def O_:a_ RO:=[o1 59 0 [],o1 60 5 [],o2 61 (.p (.slice 1 true false)) [59,60] [],⟨none,none,false,.l (.clear 1 [.bE]),[61],[],[]⟩]
def O2:a_ RO:=[o1 62 0 [],o1 63 5 [],o2 64 (.p (.slice 1 false true)) [62,63] [],o1 4 64 []]
def r16:a_ RO:=[o1 16 5 [],o2 17 (.p (.bin (some .int) none .add)) [16,.k (.int .i64 1)] [],o1 5 17 []]
def OR:RC:=.seq (.seq (.ops r5) (.cond (.s 15) (.skip) (.exit 0))) (.seq (.block 1 (.seq (.qO r6) (.cond (.s 28) (.seq (.ops r7) (.seq (.seq (.ops r8) (.block 2 (.loop Uo))) (.seq (.ops O_) (.seq (.ops O2) (.ret))))) (.skip)))) (.ops r16))
def Tg:a_ RO:=[o1 65 0 [],o1 4 65 []]
def code:RC:=.seq (.ops r1) (.seq (.seq (.ops r2) (.cond (.s 10) (.seq (.ops r3) (.ret)) (.skip))) (.seq (.seq (.ops r4) (.block 0 (.loop OR))) (.seq (.ops Tg) (.ret))))
section
variable {E:Env} {N:Nat->FuncId} {F:Frame} {H:bp} {call:dn} {id off L k:Nat}
theorem ld {u:a_ (a_ V)} {el:Nat} {v:V} (h:H[id]? = some (.row 1 u)) (hv:u[el]? = some [v]):eF H (.load 1 false) [.hptr id el 0]=some v:=by
 simp[eF,dV,h,Ob.rows,hv,cut,mk]
theorem OB {i:Nat} (h:i<L):kC 1 (.hsl id 1 off L) (i:Int)=some (.hptr id (off+i) 0):=by
 unfold kC;rw[if_neg Za];simp[h]
attribute [local simp] dZ lG gT bP pq uQ mA qS eF
theorem x2 (f0:get F 0=.hsl id 1 off L):∃F',(∀call,dZ E N call none r2 F H=some (F',H))/\get F' 10=.bool (decide ((L:Int)<2))/\(∀s,s<8->get F' s=get F s):=by
 refine⟨_,λcall=>by simp[r2,f0,pE];rfl,by simp,?_⟩
 simp;grind
theorem x5 (f0:get F 0=.hsl id 1 off L) (f5:get F 5=.int .i64 k):∃F',(∀call,dZ E N call none r5 F H=some (F',H))/\get F' 15=.bool (decide (k<L))/\(∀s,s<8->get F' s=get F s):=by
 refine⟨_,λcall=>by simp[r5,f0,f5,pE];rfl,by simp,?_⟩
 simp;grind
theorem R7 {g:FuncId} {cb:a_ V} {u:a_ (a_ V)} {o2 L2 i:Nat} {a b:V} {t:Bool} (h:H[id]? = some (.row 1 u)) (D:i+1<L2) (B:i<=2147483648) (G:u[o2+(i+1)]? = some [a]) (J:u[o2+i]? = some [b]) (hk:E.keep g=false) (f1:get F 1=.clo g [] cb) :
 (get F 0=.hsl id 1 o2 L2->get F 5=.int .i64 ((i+1:Nat):Int)->∃F',(∀call,b_ call g (a::b::cb) H=some (.bool t)->dZ E N call (some H.length) r6 F H=some (F',H))/\get F' 28=.bool t/\(∀s,s<8->get F' s=get F s)) /\
 (get F 6=.hsl id 1 o2 L2->get F 7=.int .i64 ((i+1:Nat):Int)->∃F',(∀call,b_ call g (a::b::cb) H=some (.bool t)->dZ E N call (some H.length) Lv F H=some (F',H))/\get F' 49=.bool (!t)/\(∀s,s<8->get F' s=get F s)):=by
 have hd:=Uf B;have e1:=ld h G;have e2:=ld h J;have i1:=OB (id:=id) (off:=o2) (L:=L2) D;have i2:=OB (id:=id) (off:=o2) (L:=L2) (show i<L2 by omega)
 simp at i1 hd;refine⟨λf0 f5=>⟨_,λcall hc=>by simp[-eF,r6,on,f0,f1,f5,i1,i2,e1,e2,hd,hk,hc,V.scalar,F8];rfl,by simp,?_⟩,λf6 f7=>⟨_,λcall hc=>by simp[-eF,Lv,on,f1,f6,f7,i1,i2,e1,e2,hd,hk,hc,V.scalar,F8];rfl,by simp,?_⟩⟩ <;> exact λs w=>by
  simp
  repeat (rw[if_neg Za])
end
end cmpX
namespace cmpX
section
variable {E:Env} {N:Nat->FuncId} {F:Frame} {H:bp} {call:dn} {id off L k:Nat}
attribute [local simp] dZ lG gT bP pq uQ mA qS eF
theorem x7 (f0:get F 0=.hsl id 1 off L) (f5:get F 5=.int .i64 k) (hk:k<=L):∃F',(∀call,dZ E N call none r7 F H=some (F',H))/\get F' 6=.hsl id 1 (off+k) (L-k)/\(∀s,s<8->s≠6->get F' s=get F s):=by
 have e:gX 1 (.hsl id 1 off L) (some k) none=some (.hsl id 1 (off+k) (L-k)):=by
  unfold gX dD
  grind
 refine⟨_,λcall=>by simp[r7,f0,f5,l8,e];rfl,by simp,?_⟩
 simp;grind
theorem x9 {o2 L2 m:Nat} (f6:get F 6=.hsl id 1 o2 L2) (f7:get F 7=.int .i64 m):∃F',(∀call,dZ E N call none r9 F H=some (F',H))/\get F' 35=.bool (decide (m<L2))/\(∀s,s<8->get F' s=get F s):=by
 refine⟨_,λcall=>by simp[r9,f6,f7,pE];rfl,by simp,?_⟩
 simp;grind
theorem Vt {u:a_ (a_ V)} {o2 L2 m p:Nat} {a z:V} (h:H[id]? = some (.row 1 u)) (f0:get F 0=.hsl id 1 off L) (f5:get F 5=.int .i64 p) (f6:get F 6=.hsl id 1 o2 L2) (f7:get F 7=.int .i64 m) (B:m<L2) (hp:p<L)
 (D:u[o2+m]? = some [a]) (G:u[off+p]? = some [z]) (h1:a.one=true) :
 ∃F',(∀call,dZ E N call none HU F H=some (F',H.set id (.row 1 (u.set (off+p) [a]))))/\(∀s,s<8->get F' s=get F s):=by
 have i1:=OB (id:=id) (off:=o2)  B;have i2:=OB (id:=id) (off:=off)  hp;have e1:=ld h D;have t:eE H (.store 1) [.hptr id (off+p) 0,a]=some (.undef,H.set id (.row 1 (u.set (off+p) [a]))):=by
  simp[eE,h,G,DX h1,h1]
 refine⟨_,λcall=>by simp[-eF,HU,f0,f5,f6,f7,i1,i2,e1,t];rfl,?_⟩
 simp;grind
theorem Kk {p:Nat} (hp:p<=2147483648):(get F 5=.int .i64 p->∃F',(∀call,dZ E N call none IF F H=some (F',H))/\get F' 5=.int .i64 ((p+1:Nat):Int)/\(∀s,s<8->s≠5->get F' s=get F s)) /\
 (get F 7=.int .i64 p->∃F',(∀call,dZ E N call none II F H=some (F',H))/\get F' 7=.int .i64 ((p+1:Nat):Int)/\(∀s,s<8->s≠7->get F' s=get F s)) /\
 (get F 5=.int .i64 p->∃F',(∀call,dZ E N call none r16 F H=some (F',H))/\get F' 5=.int .i64 ((p+1:Nat):Int)/\(∀s,s<8->s≠5->get F' s=get F s)):=by
 have t:=R6 hp;refine⟨λf=>⟨_,λcall=>by simp[IF,f,t];rfl,by simp,?_⟩,λf=>⟨_,λcall=>by simp[II,f,t];rfl,by simp,?_⟩,λf=>⟨_,λcall=>by simp[r16,f,t];rfl,by simp,?_⟩⟩ <;>
  (simp;grind)
theorem Vm {u:a_ (a_ V)} {p:Nat} (h:H[id]? = some (.row 1 u)) (f0:get F 0=.hsl id 1 off L) (f5:get F 5=.int .i64 p) (hp:p<L) (B:off+L<=u.length) :
 ∃F',(∀call,dZ E N call none O_ F H=some (F',H.set id (.row 1 (u.take (off+p)++List.replicate (L-p) [.bE]++u.drop (off+L)))))/\(∀s,s<8->get F' s=get F s):=by
 have e:gX 1 (.hsl id 1 off L) (some p) none=some (.hsl id 1 (off+p) (L-p)):=by
  unfold gX dD
  grind
 obtain⟨q,t⟩:∃q,L-p=q+1:=⟨L-p-1,by omega⟩
 have hc:eE H (.clear 1 [.bE]) [.hsl id 1 (off+p) (L-p)]=some (.undef,H.set id (.row 1 (u.take (off+p)++List.replicate (L-p) [.bE]++u.drop (off+L)))):=by
  simp[eE,BK,t,h]
  grind
 refine⟨_,λcall=>by simp[O_,f0,f5,l8,e,hc];rfl,?_⟩
 simp;grind
theorem Vf {p:Nat} (f0:get F 0=.hsl id 1 off L) (f5:get F 5=.int .i64 p) (hp:p<=L):∃F',(∀call,dZ E N call none O2 F H=some (F',H))/\get F' 4=.hsl id 1 off p:=by
 have e:gX 1 (.hsl id 1 off L) none (some p)=some (.hsl id 1 off p):=by
  unfold gX dD
  grind
 exact⟨_,λcall=>by simp[O2,f0,f5,l8,e];rfl,by simp⟩
theorem Vw:∃F',(∀call,dZ E N call none Tg F H=some (F',H))/\get F' 4=get F 0:=
 ⟨_,λcall=>by simp[Tg];rfl,by simp⟩
theorem Sb:∃F',(∀call,dZ E N call none r3 F H=some (F',H))/\get F' 4=get F 0:=
 ⟨_,λcall=>by simp[r3];rfl,by simp⟩
end
structure Ky (E:Env) (g:FuncId) (cb:List V) (H:bp) (id off L:Nat) (rs:List (List V)) (A:Nat->V) (t:Nat->Bool):Prop where
 row:H[id]? = some (.row 1 rs)
 len:off+L<=rs.length
 small:L<=2147483648
 at_:∀i,i<L->rs[off+i]? = some [A i]
 one:∀i,i<L->(A i).one=true
 keep:E.keep g=false
 cmp:∃n,∀k,n<=k->∀i,i+1<L->∀cur,b_ (run E k) g (A (i+1)::A i::cb) (H.set id (.row 1 cur))=some (.bool (t (i+1)))
structure Head (g:FuncId) (cb:List V) (id off L kk m:Nat) (rs:List (List V)) (A:Nat->V) (t:Nat->Bool) (F:Frame) (cur:List (List V)):Prop where
 f0:get F 0=.hsl id 1 off L
 f1:get F 1=.clo g [] cb
 f5:get F 5=.int .i64 ((kept t (kk+m)).length:Nat)
 f6:get F 6=.hsl id 1 (off+kk) (L-kk)
 f7:get F 7=.int .i64 m
 len:cur.length=rs.length
 pre:∀p i,(kept t (kk+m))[p]? = some i->cur[off+p]? = some [A i]
 post:∀i,kk+m<=i+1->i<L->cur[off+i]? = some [A i]
 out:∀j,j<off\/off+L<=j->cur[j]? = rs[j]?
 cell:∀i,i<L->∃j,j<L/\cur[off+i]? = some [A j]
section
variable {E:Env} {N:Nat->FuncId} {g:FuncId} {cb:a_ V} {H:bp} {id off L kk:Nat} {rs:a_ (a_ V)} {A:Nat->V} {t:Nat->Bool}
theorem Um (X:Ky E g cb H id off L rs A t) (aa:0<kk) (ah:kk<L) (ht:t kk=true):∀(d m:Nat) (F:Frame) (u:a_ (a_ V)),kk+m+d=L->0<m->Head g cb id off L kk m rs A t F u ->
 ∃F' B,tS E N Uo F (H.set id (.row 1 u)) (.exit 2) F' (H.set id (.row 1 B))/\Head g cb id off L kk (L-kk) rs A t F' B:=by
 have O:=(ζe.1 X.row).1;have G:∀u,(H.set id (.row 1 u))[id]? = some (.row 1 u):=λu=>List.getElem?_set_self O
 have ai:=X.small;have af:=X.len;intro d
 induction d with
 | zero=>
  intro m F u he hm h;have em:m=L-kk:=by omega
  subst em;obtain⟨F1,e1,e2,e3⟩:=x9    h.f6 h.f7;refine⟨F1,u,tS.stop (Ex.CU (Ex.seq (Ex.iM e1) (Ex.Bc (by simp[gT,e2]) Ex.exit)) Zc) Zc,?_⟩
  exact⟨by rw[e3 0 Za];exact h.f0,by rw[e3 1 Za];exact h.f1,by rw[e3 5 Za];exact h.f5,by rw[e3 6 Za];exact h.f6,by rw[e3 7 Za];exact h.f7,h.len,h.pre,h.post,h.out,h.cell⟩
 | succ d ih=>
  intro m F u he hm h;obtain⟨F1,a1,a2,a3⟩:=x9    h.f6 h.f7;have T:gT N F1 35=.bool true:=by
   show get F1 35=_;rw[a2,decide_eq_true Za]
  obtain⟨m',rfl⟩:∃m',m=m'+1:=⟨m-1,by omega⟩
  obtain⟨n0,ab⟩:=X.cmp;have c1:u[off+kk+(m'+1)]? = some [A (kk+m'+1)]:=by
   have:=h.post (kk+m'+1) Za Za;grind
  have c2:u[off+kk+m']? = some [A (kk+m')]:=by
   have:=h.post (kk+m') Za Za;grind
  obtain⟨F2,b1,b2,b3⟩:=(R7      (L2:=L-kk)  (G u) Za Za c1 c2 X.keep (by rw[a3 1 Za];exact h.f1)).2 (by rw[a3 6 Za];exact h.f6) (by rw[a3 7 Za];exact h.f7)
  have U:∃n,∀k,n<=k->dZ E N (run E k) (some (H.set id (.row 1 u)).length) Lv F1 (H.set id (.row 1 u))=some (F2,H.set id (.row 1 u)):=⟨n0,λk hk=>b1 _ (ab k hk (kk+m') Za u)⟩
  have z  := λs hs=>(b3 s hs).trans (a3 s hs)
  have ad:(kept t (kk+(m'+1))).length+1<=kk+(m'+1):=yp aa ht _ Za
  have w:kept t (kk+(m'+1)+1)=kept t (kk+(m'+1))++if t (kk+m'+1)then []else [kk+m'+1]:=by
   rw[u6]
   grind
  have C:kk+(m'+1+1)=kk+(m'+1)+1:=by omega
  cases W:t (kk+m'+1)with
  | true=>
   rw[W]at b2 w;simp  at w;obtain⟨F3,Y,q2,Q⟩:=(Kk     (p:=m'+1) Za).2.1 (by rw[z 7 Za];exact h.f7)
   obtain⟨F',B,i1,i2⟩:=ih (m'+1+1) F3 u Za Za ⟨by rw[Q 0 Za Za,z 0 Za];exact h.f0,by rw[Q 1 Za Za,z 1 Za];exact h.f1,
    by rw[Q 5 Za Za,z 5 Za,C,w];exact h.f5,by rw[Q 6 Za Za,z 6 Za];exact h.f6,q2,h.len,by rw[C,w];exact h.pre,λi h1 Z=>h.post i Za Z,h.out,h.cell⟩
   exact⟨F',B,tS.step (Ex.seq (Ex.seq (Ex.iM a1) (Ex.vr T Ex.skip)) (Ex.seq (Ex.block (Ex.seq (Ex.J_ (by decide) U) (Ex.Bc (by simp[gT,b2]) Ex.skip))) (Ex.iM Y))) i1,i2⟩
  | false=>
   rw[W]at b2 w;generalize hK:(kept t (kk+(m'+1))).length=K at *;obtain⟨_,_,hz⟩:=h.cell K Za
   obtain⟨F3,Y,q2⟩:=Vt           (G u) (by rw[z 0 Za];exact h.f0) (by rw[z 5 Za,h.f5,hK]) (by rw[z 6 Za];exact h.f6) (by rw[z 7 Za];exact h.f7) Za Za c1 hz (X.one _ Za)
   rw[List.set_set]at Y;generalize I:u.set (off+K) [A (kk+m'+1)]=J at Y;have hg:∀j,J[j]? = if j=off+K then some [A (kk+m'+1)]else u[j]? := λj=>by
    rw[<-I,List.getElem?_set]
    by_cases e:off+K=j
    .rw[if_pos e,if_pos e.symm,if_pos (by rw[h.len];omega)]
    rw[if_neg e,if_neg (Ne.symm e)]
   obtain⟨F4,Q,q4,q5⟩:=(Kk     (p:=K) Za).1 (by rw[q2 5 Za,z 5 Za,h.f5,hK])
   have D:∀s,s<8->s≠5->get F4 s=get F s:=λs h1 Z=>by rw[q5 s h1 Z,q2 s h1,z s h1]
   obtain⟨F5,q6,q7,q8⟩:=(Kk     (p:=m'+1) Za).2.1 (by rw[D 7 Za Za];exact h.f7)
   obtain⟨F',B,i1,i2⟩:=ih (m'+1+1) F5 J Za Za ⟨by rw[q8 0 Za Za,D 0 Za Za];exact h.f0,by rw[q8 1 Za Za,D 1 Za Za];exact h.f1,
    by rw[q8 5 Za Za,q4,C,w,ζi,hK];rfl,by rw[q8 6 Za Za,D 6 Za Za];exact h.f6,q7,by rw[<-I,List.length_set];exact h.len,
    λp i S=>by
     rw[C,w]at S;rw[hg]
     by_cases e:p=K
     .subst e;rw[<-hK,List.getElem?_append_right (Nat.le_refl _),Nat.sub_self]at S;cases S;rw[if_pos rfl]
     have ae:p<(kept t (kk+(m'+1))).length:=by
      have:=(ζe.1 S).1;simp at this;omega
     rw[List.getElem?_append_left ae]at S;rw[if_neg Za];exact h.pre p i S,
    λi h1 Z=>by rw[hg,if_neg Za];exact h.post i Za Z,λj hj=>by rw[hg,if_neg Za];exact h.out j hj,
    λi hi=>by
     rw[hg]
     by_cases e:off+i=off+K
     .rw[if_pos e];exact⟨_,by omega,rfl⟩
     rw[if_neg e];exact h.cell i hi⟩
   exact⟨F',B,tS.step (Ex.seq (Ex.seq (Ex.iM a1) (Ex.vr T Ex.skip)) (Ex.seq (Ex.block (Ex.seq (Ex.J_ (by decide) U) (Ex.vr (by simp[gT,b2]) (Ex.seq (Ex.iM Y) (Ex.iM Q))))) (Ex.iM q6))) i1,i2⟩
structure Ni (off L:Nat) (rs:List (List V)) (A:Nat->V) (t:Nat->Bool) (rs':List (List V)):Prop where
 len:rs'.length=rs.length
 pre:∀p i,(kept t L)[p]? = some i->rs'[off+p]? = some [A i]
 all:∀c∈rs',c∈rs\/c=[.bE]
theorem TT (X:Ky E g cb H id off L rs A t):∀(d k:Nat) (F:Frame),k+d=L->0<k->(∀i,0<i->i<k->t i=false)->get F 0=.hsl id 1 off L->get F 1=.clo g [] cb->get F 5=.int .i64 k ->
 (∃F',tS E N OR F H (.exit 0) F' H/\get F' 0=.hsl id 1 off L/\∀i,0<i->i<L->t i=false) \/
 (∃F' D,tS E N OR F H .ret F' (H.set id (.row 1 D))/\get F' 4=.hsl id 1 off (kept t L).length/\Ni off L rs A t D):=by
 have Q:=(ζe.1 X.row).1;have S  := xI X.row;have ah:=X.small;have af:=X.len;intro d
 induction d with
 | zero=>
  intro k F he hk hp f0 f1 f5;have ek:k=L:=by omega
  subst ek;obtain⟨F1,e1,e2,e3⟩:=x5  (N:=N)  f0 f5;exact .inl ⟨F1,tS.stop (Ex.CU (Ex.seq (Ex.iM e1) (Ex.Bc (by simp[gT,e2]) Ex.exit)) Zc) Zc,by grind,hp⟩
 | succ d ih=>
  intro k F he hk hp f0 f1 f5;obtain⟨F1,a1,a2,a3⟩:=x5    f0 f5;have U:gT N F1 15=.bool true:=by
   show get F1 15=_;rw[a2,decide_eq_true Za]
  obtain⟨u,rfl⟩:∃u,k=u+1:=⟨k-1,by omega⟩
  obtain⟨n0,ai⟩:=X.cmp;obtain⟨F2,b1,b2,b3⟩:=(R7  (N:=N) (cb:=cb) (g:=g) (i:=u) (L2:=L) (t:=t (u+1)) X.row Za Za (X.at_ _ Za) (X.at_ _ Za) X.keep (by rw[a3 1 Za];omega)).1 Zd Zd
  have W:∃n,∀k,n<=k->dZ E N (run E k) (some H.length) r6 F1 H=some (F2,H):=⟨n0,λk hk=>b1 _ (by
   grind)⟩
  have Y  := λs hs=>(b3 s hs).trans (a3 s hs)
  cases w:t (u+1)with
  | false=>
   rw[w]at b2;obtain⟨T,q1,q2,q3⟩:=(Kk (E:=E)  (F:=F2)  (p:=u+1) Za).2.2 Zd
   have z:Ex E N OR F H .norm T H:=Ex.seq (Ex.seq (Ex.iM a1) (Ex.vr U Ex.skip)) (Ex.seq (Ex.block (Ex.seq (Ex.J_ (by decide) W) (Ex.Bc (by simp[gT,b2]) Ex.skip))) (Ex.iM q1))
   rcases ih (u+1+1) T Za Za (λi h1 Z=>by
    grind) Zd (by simp_all) q2 with⟨F',i1,i2⟩|⟨F',D,i1,i2⟩
   .exact .inl ⟨F',tS.step z i1,i2⟩
   exact .inr ⟨F',D,tS.step z i1,i2⟩
  | true=>
   rw[w]at b2;refine .inr ?_;obtain⟨T,q1,q2,q3⟩:=x7 (E:=E) (N:=N)  (H:=H) (k:=u+1) (by rw[Y 0 Za];exact f0) (by rw[Y 5 Za];exact f5) Za
   have G:kept t (u+1)=List.range (u+1):=AX _ hp;have aa:kept t (u+1+1)=List.range (u+1):=by
    rw[u6,G,w];simp
   have q4:∀call,dZ E N call none r8 T H=some (set T 7 (.int .i64 1),H):=λcall=>vp  rfl (by simp[lG,gT,bP]) Gt
   have h0:Head g cb id off L (u+1) 1 rs A t (set T 7 (.int .i64 1)) rs:=⟨by rw[iE _ _ Za,q3 0 Za Za,Y 0 Za];exact f0,by rw[iE _ _ Za,q3 1 Za Za,Y 1 Za];exact f1,
    by rw[iE _ _ Za,q3 5 Za Za,Y 5 Za,aa,List.length_range];exact f5,by rw[iE _ _ Za];exact q2,by rw[uj];rfl,rfl,
    λp i B=>by
     rw[aa]at B;obtain⟨h1,Z⟩:=ζe.1 B;simp at h1 Z;subst Z;exact X.at_ p Za,λi _ Z=>X.at_ i Z,λ_ _=>rfl,λi hi=>⟨i,hi,X.at_ i hi⟩⟩
   obtain⟨F5,C,l1,I⟩:=Um (N:=N) X Za Za w (L-(u+1)-1) 1 _ rs Za Za h0
   rw[S]at l1;have eL:u+1+(L-(u+1))=L:=by omega
   have ae:=yp (t:=t) (k:=u+1) Za w L Za
   have l5:=I.f5;have J:=I.pre;rw[eL]at l5 J;generalize hK:(kept t L).length=K at *;have ab:(H.set id (.row 1 C))[id]? = some (.row 1 C):=List.getElem?_set_self Q;obtain⟨F6,w1,w2⟩:=Vm (E:=E) (N:=N) (p:=K) ab I.f0 l5 Za (by rw[I.len];omega)
   rw[List.set_set]at w1;obtain⟨F7,w3,w4⟩:=Vf (E:=E)     (by rw[w2 0 Za];exact I.f0) (by rw[w2 5 Za];exact l5) Za
   have aj:=I.len;refine⟨F7,C.take (off+K)++List.replicate (L-K) [.bE]++C.drop (off+L),tS.stop (Ex.seq (Ex.seq (Ex.iM a1) (Ex.vr U Ex.skip)) (Ex.CU (Ex.LQ (Ex.seq (Ex.J_ (by decide) W) (Ex.vr (by simp[gT,b2]) (Ex.seq (Ex.iM q1) (Ex.seq (Ex.seq (Ex.iM q4) (Ex.L7 (Ex.loop l1))) (Ex.seq (Ex.iM w1) (Ex.seq (Ex.iM w3) Ex.ret))))))) Zc)) Zc,w4,?_,λp i B=>?_,λc hc=>?_⟩
   .simp;omega
   .have ak:p<K:=by rw[<-hK];exact(ζe.1 B).1
    rw[List.append_assoc,List.getElem?_append_left (by simp;omega),List.getElem?_take,if_pos Za]
    exact J p i B
   have ad:∀j x,C[j]? = some x->x∈rs:=λj x O=>by
    by_cases ho:j<off\/off+L<=j
    .rw[I.out j ho]at O;exact List.mem_of_getElem? O
    obtain⟨i,rfl⟩:∃i,j=off+i:=⟨j-off,by omega⟩
    obtain⟨q,hq,hc⟩:=I.cell i Za
    rw[hc]at O;cases O;exact List.mem_of_getElem? (X.at_ q hq)
   rcases List.mem_append.1 hc with hc|hc
   .rcases List.mem_append.1 hc with hc|hc
    .obtain⟨j,O⟩:=List.getElem?_of_mem (List.mem_of_mem_take hc);exact .inl (ad j c O)
    exact .inr (List.eq_of_mem_replicate hc)
   obtain⟨j,O⟩:=List.getElem?_of_mem (List.mem_of_mem_drop hc);exact .inl (ad j c O)
end
end cmpX
namespace cmpX
section
variable {E:Env} {N:Nat->FuncId} {g:FuncId} {cb:a_ V} {H:bp} {id off L:Nat} {rs:a_ (a_ V)} {A:Nat->V} {t:Nat->Bool}
theorem whole (X:Ky E g cb H id off L rs A t):∃F' B,Ex E N code [.hsl id 1 off L,.clo g [] cb] H .ret F' (H.set id (.row 1 B))/\get F' 4=.hsl id 1 off (kept t L).length/\Ni off L rs A t B:=by
 have u:H.set id (.row 1 rs)=H:=xI X.row;have same:(∀i,0<i->i<L->t i=false)->(kept t L).length=L/\Ni off L rs A t rs:=λh=>by
  have hk:=AX L h;rw[hk,List.length_range];exact⟨rfl,rfl,λp i Q=>by
   rw[hk]at Q;obtain⟨h1,w⟩:=ζe.1 Q;simp at h1 w;subst w;exact X.at_ p h1,λc hc=>.inl hc⟩
 have g1:∀call,dZ E N call none r1 [.hsl id 1 off L,.clo g [] cb] H=some (set [.hsl id 1 off L,.clo g [] cb] 4 .bE,H):=λcall=>vp (v:=.bE) rfl (by simp[lG,gT,bP]) Gt
 have k0:get (set [V.hsl id 1 off L,.clo g [] cb] 4 .bE) 0=.hsl id 1 off L:=rfl;have k1:get (set [V.hsl id 1 off L,.clo g [] cb] 4 .bE) 1=.clo g [] cb:=rfl;generalize set [V.hsl id 1 off L,.clo g [] cb] 4 .bE=U at *;obtain⟨F1,S,T,z⟩:=x2 (E:=E) (N:=N) (H:=H) k0
 by_cases W:L<2
 .obtain⟨C,D,G⟩:=Sb (E:=E) (N:=N) (F:=F1) (H:=H);obtain⟨e1,e2⟩:=same λi h1 w=>by omega
  refine⟨C,rs,?_,by rw[e1,G,z 0 Za];exact k0,e2⟩
  rw[u];exact Ex.seq (Ex.iM g1) (Ex.CU (Ex.seq (Ex.iM S) (Ex.vr (by show get F1 10=_;rw[T,decide_eq_true Za]) (Ex.seq (Ex.iM D) Ex.ret))) Zc)
 have g4:∀call,dZ E N call none r4 F1 H=some (set F1 5 (.int .i64 1),H):=λcall=>vp (v:=.int .i64 1) rfl (by simp[lG,gT,bP]) Gt
 have hc:Ex E N (.seq (.ops r2) (.cond (.s 10) (.seq (.ops r3) (.ret)) (.skip))) U H .norm F1 H:=Ex.seq (Ex.iM S) (Ex.Bc (by show get F1 10=_;rw[T,decide_eq_false Za]) Ex.skip)
 rcases TT (N:=N) X (L-1) 1 (set F1 5 (.int .i64 1)) Za Za (λi h1 w=>by omega) (by rw[iE _ _ Za,z 0 Za];exact k0) (by rw[iE _ _ Za,z 1 Za];exact k1) (by rw[uj];rfl)with⟨F',I,J,O⟩|⟨F',B,I,J,O⟩
 .obtain⟨C,D,G⟩:=Vw (E:=E) (N:=N) (F:=F') (H:=H);obtain⟨e1,e2⟩:=same O;refine⟨C,rs,?_,by rw[e1,G];exact J,e2⟩
  rw[u];exact Ex.seq (Ex.iM g1) (Ex.seq hc (Ex.seq (Ex.seq (Ex.iM g4) (Ex.L7 (Ex.loop I))) (Ex.seq (Ex.iM D) Ex.ret)))
 exact⟨F',B,Ex.seq (Ex.iM g1) (Ex.seq hc (Ex.CU (Ex.seq (Ex.iM g4) (Ex.LQ (Ex.loop I))) Zc)),J,O⟩
theorem empty {w:V} (c:V) (u:w=.bE\/w=.c7):∃F',Ex E N code [w,c] H .ret F' H/\get F' 4=w:=by
 have g1:∀call,dZ E N call none r1 [w,c] H=some (set [w,c] 4 .bE,H):=λcall=>vp (v:=.bE) rfl (by simp[lG,gT,bP]) Gt
 have k0:get (set [w,c] 4 .bE) 0=w:=rfl;generalize set [w,c] 4 .bE=z at *;have B:pE w=some (.int .i64 0):=by rcases u with rfl|rfl <;> rfl
 have t:∃F1,(∀call,dZ E N call none r2 z H=some (F1,H))/\get F1 10=.bool true/\get F1 0=w:=by
  refine⟨_,λcall=>vp (v:=w) rfl ?_ <| vp (v:=.int .i64 0) rfl ?_ <| vp (v:=.bool true) rfl ?_ Gt,?_,?_⟩
  .simp[lG,gT,bP,k0]
  .simp[lG,gT,bP,pq,B]
  .simp[lG,gT,bP,pq,mA,qS]
  .simp[pq]
  simp[pq,k0]
 obtain⟨F1,t,C,D⟩:=t;obtain⟨G,I,J⟩:=Sb (E:=E) (N:=N) (F:=F1) (H:=H);exact⟨G,Ex.seq (Ex.iM g1) (Ex.CU (Ex.seq (Ex.iM t) (Ex.vr C (Ex.seq (Ex.iM I) Ex.ret))) Zc),by rw[J,D]⟩
end
end cmpX
def Sl.re {α:Type} (s:Sl α) (l:a_ α):Sl α:=match s with|.nil=>.nil|.emp=>.emp|.row _=>.row l|.part _=>.part l
section
variable {S:Sys} {T:pg} {β γ δ α:Type} {Q:Out×St->bf β} {e:γ->bf β} {cf:Cf}
theorem lz.RN (u:xk S T) (B:∀f a b xs,S.items f a b=some xs->iu S f a b xs) {fn:FuncId} {A:δ->a_ V} {E:α->a_ V} {p:δ->bf α} {sc:Bool} (F:lz S (dA S T) fn A E p sc) {z:δ} {r:α} (h:p z=some r) (hg:V.cN (A z)=true) :
 ∃n,b_ (run S.E n) fn (A z) []=some (result (E r)):=by
 have h1:=F.h z (E r) (by simp_all)
 obtain⟨⟨rs,m'⟩,t,w⟩:=ζg.1 h1;obtain⟨n,y,H2,e1,e2,e3⟩:=AP (Aa u B) hg t w;refine⟨n,?_⟩;have C:borrows n [] (A z)=some (A z):=by
  have hc:=V.mo hg;generalize A z=l at hc;unfold borrows
  induction l with
  | nil=>rfl
  | cons x l D=>
   simp[V.gy]at hc;simp[hG,ec n [] hc.1,D hc.2]
 unfold b_;rw[oy,C];simp[e1 n (Nat.le_refl _),e2 n (Nat.le_refl _),V.l_ e3]
section
variable [bz α]
end
end
section
variable {H H':bp} {w:V} {o:Nat} {ids:a_ Nat} {rows:a_ (a_ V)}
theorem rH.cell (n:rH H w o ids rows) {p j:Nat} {r:a_ V} {u:V} (hr:rows[p]? = some r) (hu:r[j]? = some u) :
 ∃id,ids[p]? = some id/\kC 1 w (p:Int)=some (.hptr o p 0)/\eF H (.load 1 false) [.hptr o p 0]=some (.hsl id 1 0 r.length)/\kC 1 (.hsl id 1 0 r.length) (j:Int)=some (.hptr id j 0)/\eF H (.load 1 false) [.hptr id j 0]=some u:=by
 have C:=(ζe.1 hr).1;have D:=(ζe.1 hu).1;have z:rows≠[]:=by intro e;subst e;simp at hr
 have B:p<ids.length:=by rw[n.len];exact C
 have t:=ζd B;refine⟨ids[p],t,?_,?_,?_,?_⟩
 .have:=n.v;rw[if_neg z]at this;subst this;simp[kC,C]
 .have h1:=n.ob z;have G:=GB t hr;simp[eF,dV,h1,Ob.rows,G,cut];rfl
 .simp[kC,D]
 have h1:=n.r p _ r t hr;simp[eF,dV,h1,Ob.rows,oE,hu,cut];rfl
theorem KL {ids:a_ Nat} (h:ids.Nodup) {i j:Nat} {a:Nat} (u:ids[i]? = some a) (B:ids[j]? = some a):i=j:=by
 have h1:=(ζe.1 u);have t:=(ζe.1 B);obtain⟨h1,e1⟩:=h1;obtain⟨t,e2⟩:=t;exact(List.getElem_inj h).1 (e1.trans e2.symm)
theorem rH.set (n:rH H w o ids rows) {p j id:Nat} {r:a_ V} {u:V} (hr:rows[p]? = some r) (O:j<r.length) (B:ids[p]? = some id) (hu:V.one u=true) (hc:u.cells=[u]) :
 ∃H',eE H (.store 1) [.hptr id j 0,u]=some (.undef,H')/\rH H' w o ids (rows.set p (r.set j u))/\H'.length=H.length/\(∀i,i≠id->H'[i]? = H[i]?):=by
 have L:=(ζe.1 hr).1;have t:rows≠[]:=by intro e;subst e;simp at hr
 have h1:=n.r p id r B hr;have Q:id<H.length:=(ζe.1 h1).1;have D:(oE r).set j [u]=oE (r.set j u):=by simp[oE,List.map_set]
 have G:o≠id:=λe=>n.ne t (e▸List.mem_of_getElem? B)
 refine⟨H.set id (.row 1 (oE (r.set j u))),?_,⟨?_,λ_=>?_,by simp[n.len],λi I S C z=>?_,n.nd,λ_=>n.ne t⟩,by simp,λi C=>List.getElem?_set_ne (Ne.symm C)⟩
 .have T:(oE r)[j]? = some [r[j]]:=by simp[oE,O]
  simp only[eE,h1,T,hc,List.length_singleton,Nat.zero_add,Nat.le_refl,List.all_cons,hu,List.all_nil,Bool.and_self,and_self,if_true,List.take_zero,List.nil_append];rw[<-D];simp
 .rw[n.v];have:rows.set p (r.set j u)≠[]:=by intro e;apply t;simpa using e
  rw[if_neg t,if_neg this,List.length_set]
 .rw[List.getElem?_set_ne (Ne.symm G),FX hr Zc];exact n.ob t
 by_cases e:i=p
 .subst e;rw[B]at C;cases C;rw[List.getElem?_set_self L]at z;cases z;rw[List.getElem?_set_self Q]
 rw[List.getElem?_set_ne (Ne.symm e)]at z;have J:id≠I:=λU=>e (KL n.nd (U▸C) B)
 rw[List.getElem?_set_ne J];exact n.r i I S C z
end
structure rG (H:bp) (w:V) (l:List (List V)) (id:Nat):Prop where
 c:∀c∈l,c.length=2/\c.all V.one=true
 v:(w=.bE/\l=[])\/∃off xs,w=.hsl id 2 off l.length/\H[id]? = some (.row 2 xs)/\off+l.length<=xs.length/\(xs.drop off).take l.length=l
section
variable {H H':bp} {w:V} {l:a_ (a_ V)} {id:Nat}
theorem rG.heap (n:rG H w l id) (h:∀off n,w=.hsl id 2 off n->H'[id]? = H[id]?):rG H' w l id:=
 ⟨n.c,n.v.imp (λh=>h) λ⟨off,t,e1,e2,e3,e4⟩=>⟨off,t,e1,by rw[h _ _ e1];exact e2,e3,e4⟩⟩
theorem rG.lt (n:rG H w l id) {off m:Nat} (h:w=.hsl id 2 off m):id<H.length:=by
 rcases n.v with⟨e,_⟩|⟨_,t,_,e2,_⟩
 .rw[e]at h;cases h
 exact(ζe.1 e2).1
theorem rG.more (n:rG H w l id) (X:bp):rG (H++X) w l id:=n.heap λ_ _ e=>List.getElem?_append_left (n.lt e)
theorem rG.len (n:rG H w l id):pE w=some (.int .i64 l.length):=by
 rcases n.v with⟨rfl,rfl⟩|⟨off,t,rfl,_⟩ <;> rfl
theorem rG.get (n:rG H w l id) {i:Nat} {c:a_ V} (hc:l[i]? = some c):∃p,kC 2 w (i:Int)=some p/\eF H (.load 2 true) [p]=some (.agg c):=by
 have u:=(ζe.1 hc).1;have t:=(n.c c (List.mem_of_getElem? hc)).1;rcases n.v with⟨_,rfl⟩|⟨off,z,rfl,e2,e3,e4⟩
 .simp at hc
 refine⟨.hptr id (off+i) 0,by simp[kC,u],?_⟩
 have:z[off+i]? = some c:=by
  rw[<-e4,List.getElem?_take,if_pos u,List.getElem?_drop]at hc;exact hc
 simp[eF,dV,e2,Ob.rows,this,cut,<-t];rfl
theorem rG.tail {c:a_ V} (n:rG H w (c::l) id):∃w',gX 2 w (some 1) none=some w'/\rG H w' l id/\∃off m u,w=.hsl id 2 off m/\w'=.hsl id 2 u l.length:=by
 rcases n.v with⟨_,e⟩|⟨off,t,rfl,e2,e3,e4⟩
 .cases e
 refine⟨.hsl id 2 (off+1) l.length,?_,⟨λc hc=>n.c c (List.mem_cons_of_mem _ hc),.inr ⟨off+1,t,rfl,e2,by simp at e3;omega,?_⟩⟩,⟨_,_,_,rfl,rfl⟩⟩
 .simp[gX,dD];omega
 have hd:(t.drop off).drop 1=t.drop (off+1):=by rw[List.drop_drop]
 rw[<-hd];have:=congrArg (List.drop 1) e4;rw[List.drop_take]at this;simpa using this
theorem rG.push (n:rG H w l id) {c:a_ V} (hc:c.length=2/\c.all V.one=true) (B:l.length+1<=2147483648) :
 ∃H',eE (H++[.row 2 [c]]) (.append 2) [w,.hsl H.length 2 0 1]=some (.hsl (H.length+1) 2 0 (l.length+1),H')/\rG H' (.hsl (H.length+1) 2 0 (l.length+1)) (l++[c]) (H.length+1)/\H'.length=H.length+2/\(∀i,i<H.length->(∀off m,w=.hsl id 2 off m->i≠id)->H'[i]? = H[i]?):=by
 have e2:dz (H++[.row 2 [c]]) 2 (.hsl H.length 2 0 1)=some [c]:=by simp[dz,Ob.rows]
 have t:∀c'∈l++[c],c'.length=2/\c'.all V.one=true:=λc' h=>by
  rcases List.mem_append.1 h with h|h
  .exact n.c c' h
  simp at h;subst h;exact hc
 rcases n.v with⟨rfl,rfl⟩|⟨off,D,rfl,g2,g3,g4⟩
 .have e1:dz (H++[.row 2 [c]]) 2 .bE=some []:=rfl;refine⟨H++[.row 2 [c]]++[.row 2 [c]],?_,⟨t,.inr ⟨0,[c],rfl,by simp,by simp,rfl⟩⟩,by simp,λi z _=>by rw[List.append_assoc,List.getElem?_append_left z]⟩
  simp only[eE,e1,e2,fR,List.length_nil,List.length_singleton,Option.map_some];simp
 have u:=(ζe.1 g2).1;have e1:dz (H++[.row 2 [c]]) 2 (.hsl id 2 off l.length)=some l:=by
  simp only[dz,if_true,List.getElem?_append_left u,g2,ζb,Ob.rows,g3,g4]
 have C:fR (H++[.row 2 [c]]) (.hsl id 2 off l.length)=some (List.set (H++[Ob.row 2 [c]]) id Ob.dead):=by
  simp only[fR,List.getElem?_append_left u,g2]
 refine⟨List.set (H++[Ob.row 2 [c]]) id Ob.dead++[Ob.row 2 (l++[c])],?_,⟨t,.inr ⟨0,l++[c],by simp,by simp,by simp,List.take_of_length_le Zc⟩⟩,by simp,λi z h=>?_⟩
 .simp only[eE,e1,e2,C,List.length_singleton,B,if_true,Option.map_some,ζi]
 rw[List.getElem?_append_left (by simp;omega),List.getElem?_set_ne (Ne.symm (h _ _ rfl)),List.getElem?_append_left z]
end
def CN (rs:a_ RV):Out×St->bf bu
 | (.exit _,_)=>none
 | (_,st)=>(iN st rs).bind λl=>match l with
  | [.own d]=>bh st.m d
  | _=>none
theorem Uu {S:Sys} {c:bN} {rs:a_ RV} {rc:RC} {st:St} {ob:bu} (h:jE S c (CN rs) rc [] st=some ob):∃o st' d,cA S c rc st=some (o,st')/\(∀id,o≠.exit id)/\iN st' rs=some [.own d]/\bh st'.m d=some ob:=by
 rw[nL]at h;obtain⟨⟨o,st'⟩,h1,t⟩:=ζg.1 h;have w:∀id,o≠.exit id:=by rintro id rfl;simp[CN]at t
 have z:(iN st' rs).bind (λl=>match l with|[.own d]=>bh st'.m d|_=>none)=some ob:=by
  cases o with
  | exit id=>exact absurd rfl (w id)
  | norm=>exact t
  | ret=>exact t
 obtain⟨l,B,u⟩:=ζg.1 z;split at u
 .exact⟨o,st',_,h1,w,B,u⟩
 cases u
def Sl.whole {α:Type} (s:Sl α):bf (Sl α):=match s with|.part _=>none|s=>some s
structure tH (S:Sys) (c:bN) {α δ:Type} [bz δ] (fn:FuncId) (A:α->List V) (p:α->Option (Sl δ)):Prop where
 k:S.E.keep fn=true
 o:S.E.own fn=true
 h:∀z s,p z=some s->∃e m',c fn ((A z).map .v) []=some ([.own e],m')/\bh m' e=some (cq s)
 sc:∀x:δ,(cells x).all V.scalar=true
theorem tH.mk' {S:Sys} {T:pg} {α δ:Type} [bz δ] (rf:RF) {fn:FuncId} {A:α->a_ V} {p:α->bf (Sl δ)} (h:∀z,Le ((p z).bind λr=>some (cq r)) (bV S (dA S T) (CN rf.rs) (.rc rf.body,[],start ((A z).map .v) [])))
 (u:T fn=some rf:=by kernel_rfl) (hk:S.E.keep fn=true:=by kernel_rfl) (B:S.E.own fn=true:=by kernel_rfl) (D:∀z,(A z).length<=rf.na:=by intro z;exact Nat.le_of_ble_eq_true (by kernel_rfl))
 (sc:∀x:δ,(cells x).all V.scalar=true:=by intro x;rfl):tH S (dA S T) fn A p where
 k:=hk
 o:=B
 sc:=sc
 h z s t:=by
  have h1:=h z (cq s) (by rw[t];rfl)
  change jE S (dA S T) (CN rf.rs) rf.body [] (start ((A z).map .v) [])=some (cq s)at h1;obtain⟨o,st',d,g1,g2,g3,g4⟩:=Uu h1;refine⟨d,st'.m,?_,g4⟩;rw[qn u];unfold lF;rw[if_pos (by simpa using D z),g1]
  cases o with
  | exit id=>exact absurd rfl (g2 id)
  | norm=>simp only[g3,Option.map_some]
  | ret=>simp only[g3,Option.map_some]
section
variable {S:Sys} {c:bN} {β γ δ α:Type} [bz δ] {Q:Out×St->bf β} {e:γ->bf β} {cf:Cf}
theorem NJ (n u:Nat) {fn:FuncId} {A:α->a_ V} {p:α->bf (Sl δ)} (F:tH S c fn A p) (z:α) {f:Sl δ->bf γ}
 (h:∀x,(p z).bind Sl.whole=some x->Le ((f x).bind e) (bV S c Q (nx S c n cf λq=>{ q.st with g:=bB q.st.g u (.own u),m:=bB q.st.m u (cq x) })))
 (J:(fu S c n cf).map (λq=>(q.d,q.k,(bQ S.N q.st.g q.az).bind k_,(!q.dr||q.now),q.st.new u))=some (some u,.c,some (fn,(A z).map .v),true,true):=by kernel_rfl):Le ((((p z).bind Sl.whole).bind f).bind e) (bV S c Q cf):=by
 obtain⟨q,I,hv⟩:=en J;simp only[ζc]at hv;obtain⟨L,O,T,U,G⟩:=hv;obtain⟨B,g1,g2⟩:=ζg.1 T;refine pN I ?_ h;rw[L,O];intro y C;obtain⟨W,D,C⟩:=ζg.1 C;cases C;obtain⟨s,X,w⟩:=ζg.1 D;obtain⟨e0,m',hc,Y⟩:=F.h z s X;rw[zh q.dr _ _ _ _ _ B fn ((A z).map .v) g1 g2];have t:eO S c (some u) q.dr (!q.dr||q.now) (eM q.st.m q.fr) fn ((A z).map .v) q.st=some (.own u,{ q.st with m:=bB q.st.m u (cq W) }):=by
  unfold eO;simp only[F.k,F.o,if_true,U,vu,hc,cT,Y,cq,G]
  cases s with
  | nil=>cases w;rfl
  | emp=>cases w;rfl
  | row l=>
   cases w;have:nv (rows l)=true:=by
    unfold nv;rw[List.all_eq_true];intro x Z;obtain⟨a,_,rfl⟩:=List.mem_map.1 Z;exact F.sc a
   simp only[Sl.k,Sl.l,cT,V.cQ,this,Bool.and_self,G,if_true];rfl
  | part l=>cases w
 rw[t];rfl
end
structure GD where
 m:Nat
 pre:List (Nat×List Gh)
 nd:List (Nat×List Gh×List Gh)
structure GI where
 m:Nat
 i:Nat
 j:Nat
def UE {α:Type} (l:a_ (Nat×a_ α)) (i:Nat):a_ α:=match l with
 | []=>[]
 | (k,x)::r=>bif Nat.beq k i then x else UE r i
def wF (l:a_ (Nat×a_ Gh×a_ Gh)) (i:Nat):a_ Gh×a_ Gh:=match l with
 | []=>([],[])
 | (k,x)::r=>bif Nat.beq k i then x else wF r i
def IP (m:Nat):a_ Nat->a_ Nat
 | []=>[]
 | x::l=>bif Nat.beq (m % 2) 1 then x::IP (m / 2) l else IP (m / 2) l
def NT:a_ Arg->a_ Nat
 | []=>[]
 | .s n::r=>n::NT r
 | _::r=>NT r
def T9 (o:RO):a_ Nat:=(match o.dst with|some d=>[d]|none=>[])++(match o.gd with|some g=>[g.1]|none=>[])++NT o.az
def UI (G:GD) (s:GI) (o:RO):RO:={ o with dead:=IP (bif Nat.beq (s.m % 16) 15 then s.m / 16 % 65536 else s.m % 16) (T9 o),pre:=UE G.pre s.i }
def GI.op (s:GI):GI:=⟨bif Nat.beq (s.m % 16) 15 then s.m / 1048576 else s.m / 16,s.i+1,s.j⟩
def xZ (G:GD):a_ RO->GI->a_ RO×GI
 | [],s=>([],s)
 | o::r,s=>(UI G s o::(xZ G r s.op).1,(xZ G r s.op).2)
def y7:a_ Gh->RC->RC
 | [],c=>c
 | g::l,c=>.gh g (y7 l c)
def Gq:a_ Gh->RC->RC
 | [],c=>c
 | g::l,c=>Gq l (.hg c g)
def GI.nd (s:GI):GI:=⟨s.m,s.i,s.j+1⟩
def iQ (G:GD):RC->GI->RC×GI
 | .seq a b,s=>(y7 (wF G.nd s.j).1 (.seq (iQ G a s.nd).1 (iQ G b (iQ G a s.nd).2).1),(iQ G b (iQ G a s.nd).2).2)
 | .cond x a b,s=>(y7 (wF G.nd s.j).1 (.cond x (iQ G a s.nd).1 (iQ G b (iQ G a s.nd).2).1),(iQ G b (iQ G a s.nd).2).2)
 | .block id a,s=>(y7 (wF G.nd s.j).1 (.block id (iQ G a s.nd).1),(iQ G a s.nd).2)
 | .loop a,s=>(y7 (wF G.nd s.j).1 (.loop (Gq (wF G.nd s.j).2 (iQ G a s.nd).1)),(iQ G a s.nd).2)
 | .each g ps a b,s=>(y7 (wF G.nd s.j).1 (.each g ps (iQ G a s.nd).1 (Gq (wF G.nd s.j).2 (iQ G b (iQ G a s.nd).2).1)),(iQ G b (iQ G a s.nd).2).2)
 | .ops l,s=>(y7 (wF G.nd s.j).1 (Gq (wF G.nd s.j).2 (.ops (xZ G l s.nd).1)),(xZ G l s.nd).2)
 | .qO l,s=>(y7 (wF G.nd s.j).1 (Gq (wF G.nd s.j).2 (.qO (xZ G l s.nd).1)),(xZ G l s.nd).2)
 | .gh g c,s=>(.gh g c,s)
 | .hg c g,s=>(.hg c g,s)
 | c,s=>(y7 (wF G.nd s.j).1 c,s.nd)
theorem jU (c:RC):∀l,erase (y7 l c)=erase c
 | []=>rfl
 | g::l=>by simp only[y7,erase,jU c l]
theorem tu:∀l (c:RC),erase (Gq l c)=erase c
 | [],c=>rfl
 | g::l,c=>by simp only[Gq,tu l,erase]
theorem xx (G:GD):∀(l:a_ RO) s,((xZ G l s).1).map RO.strip=l.map RO.strip
 | [],s=>rfl
 | o::r,s=>by simp only[xZ,List.map_cons,xx G r];rfl
theorem kE (G:GD):∀(c:RC) s,erase (iQ G c s).1=erase c
 | .seq a b,s=>by simp only[iQ,jU,erase,kE G a,kE G b]
 | .cond x a b,s=>by simp only[iQ,jU,erase,kE G a,kE G b]
 | .block id a,s=>by simp only[iQ,jU,erase,kE G a]
 | .loop a,s=>by simp only[iQ,jU,erase,tu,kE G a]
 | .each g ps a b,s=>by simp only[iQ,jU,erase,tu,kE G a,kE G b]
 | .ops l,s=>by simp only[iQ,jU,tu,erase,xx]
 | .qO l,s=>by simp only[iQ,jU,tu,erase,xx]
 | .gh g c,s=>rfl
 | .hg c g,s=>rfl
 | .skip,s=>by simp only[iQ,jU]
 | .ret,s=>by simp only[iQ,jU]
 | .exit _,s=>by simp only[iQ,jU]
theorem HB {X:CX} {dr:Bool} {ops:a_ Oper} {i:Nat} {o:Oper} {r:RO} (h:k7 X dr ops i o=some r):r.strip=r:=by
 obtain⟨_,_,_,_,_,_,rfl⟩:=BR h;rfl
theorem vL {X:CX} {dr:Bool} {ops:a_ Oper}:∀{l:a_ Oper} {i:Nat} {r:a_ RO},jZ X dr ops i l=some r->r.map RO.strip=r
 | [],i,r,h=>by cases h;rfl
 | o::l,i,r,h=>by
  simp only[jZ]at h;split at h
  next a b u B=>cases h;simp only[List.map_cons,HB u,vL B]
  cases h
theorem HM {X:CX}:∀{c:Code} {ro:Bool} {r:RC},bH X ro c=some r->erase r=r:=by
 intro c
 induction c with
 | region _ ops dr=>
  intro ro r h;simp only[bH]at h;split at h
  .split at h
   .obtain⟨l,h1,rfl⟩:=ζf.1 h;simp only[erase,vL h1]
   cases h
  obtain⟨l,h1,rfl⟩:=ζf.1 h;simp only[erase,vL h1]
 | seq a b t u=>
  intro ro r h;simp only[bH]at h;split at h
  next h1 w=>cases h;simp only[erase,t h1,u w]
  cases h
 | cond c a b t u=>
  intro ro r h;simp only[bH]at h;split at h
  next h1 w=>cases h;simp only[erase,t h1,u w]
  cases h
 | block id a t=>
  intro ro r h;simp only[bH]at h;obtain⟨l,h1,rfl⟩:=ζf.1 h;simp only[erase,t h1]
 | loop a t=>
  intro ro r h;simp only[bH]at h;obtain⟨l,h1,rfl⟩:=ζf.1 h;simp only[erase,t h1]
 | rangeFunc g z a b t u=>
  intro ro r h;simp only[bH]at h;split at h
  .cases h
  split at h
  next h1 w=>cases h;simp only[erase,t h1,u w]
  cases h
 | _=>intro ro r h;first|cases h;rfl|(simp only[bH]at h;cases h;rfl)|(simp only[bH]at h;cases h)
def N3 (E:Env) (nm:FuncId->bf Nat) (G:FuncId->bf GD):pg:=λf=>
 (G f).bind λg=>(E.ft f).bind λt=>(bH ⟨E,nm,t.ntmps⟩ false t.body).bind λc=>(t.results.mapM (zP E)).bind λrs=>some ⟨t.ntmps,rs,(iQ g c ⟨g.m,0,0⟩).1⟩
theorem MX {E:Env} {nm:FuncId->bf Nat} {G:FuncId->bf GD} {f:FuncId} {rf:RF} (h:N3 E nm G f=some rf):∃fi,E.ft f=some fi/\xz E nm fi rf:=by
 unfold N3 at h;obtain⟨g,_,h⟩:=ζg.1 h;obtain⟨fi,h1,h⟩:=ζg.1 h;obtain⟨c,t,h⟩:=ζg.1 h;obtain⟨rs,u,h⟩:=ζg.1 h;cases h;exact⟨fi,h1,by rw[t,kE,HM t],u,rfl⟩
theorem Db:∀(g:FuncId) (s:Nat),some g=some s->(λn=>n) s=g:=λ_ _ h=>(Option.some.inj h).symm
def pF (o:bf RF):RF:=o.getD ⟨0,[],.skip⟩
def tb (T:pg) (f:FuncId):RC:=(pF (T f)).body
def tr (T:pg) (f:FuncId):a_ RV:=(pF (T f)).rs
theorem yW {o:bf RF} (h:o.isSome=true):o=some (pF o):=by cases o with
 | none=>cases h
 | some r=>rfl
class gj (δ:Type) where
 e:δ->List V
instance VB {α:Type} [bz α]:gj α:=⟨λx=>[enc x]⟩
instance VF:gj Unit:=⟨λ_=>[]⟩
instance VC {α β:Type} [bz α] [gj β]:gj (α×β):=⟨λx=>enc x.1::gj.e x.2⟩
@[simp] theorem Va {α:Type} [bz α] (x:α):gj.e x=[enc x]:=rfl
@[simp] theorem U7 (x:Unit):gj.e x=[]:=rfl
@[simp] theorem Vb {α β:Type} [bz α] [gj β] (x:α×β):gj.e x=enc x.1::gj.e x.2:=rfl
class Fc (S:Sys) (c:bN) {δ:Type} (m:Option δ) where
 n:FuncId
 az:List V
 E:δ->List V
 sc:Bool
 F:lz S c n (λ_:Unit=>az) E (λ_=>m) sc
section
variable {S:Sys} {T:pg} {δ:Type} {m:bf δ}
theorem lz.N7 {E:δ->a_ V} (fn:FuncId) (az:a_ V) (h:Le (m.bind λr=>some (E r)) (bV S (dA S T) (qm (tr T fn)) (.rc (tb T fn),[],start (az.map .v) [])))
 (u:(T fn).isSome=true) (hk:S.E.keep fn=false) (B:Nat.ble az.length (pF (T fn)).na=true)
 {sc:Bool} (s:sc=true->∀r,(result (E r)).scalar=true):lz S (dA S T) fn (λ_:Unit=>az) E (λ_=>m) sc where
 k:=hk
 h z:=UT (yW u) (Nat.le_of_ble_eq_true B) h
 s:=s
abbrev Fc.NE (E:δ->a_ V) (fn:FuncId) (az:a_ V) (h:Le (m.bind λr=>some (E r)) (bV S (dA S T) (qm (tr T fn)) (.rc (tb T fn),[],start (az.map .v) [])))
 (u:(T fn).isSome=true:=by kernel_rfl) (hk:S.E.keep fn=false:=by kernel_rfl) (B:Nat.ble az.length (pF (T fn)).na=true:=by kernel_rfl)
 : Fc S (dA S T) m:=
 ⟨fn,az,E,false,lz.N7 fn az h u hk B λh=>nomatch h⟩
abbrev Fc.M [gj δ] (fn:FuncId) (az:a_ V) (h:Le (m.bind λr=>some (gj.e r)) (bV S (dA S T) (qm (tr T fn)) (.rc (tb T fn),[],start (az.map .v) [])))
 (u:(T fn).isSome=true:=by kernel_rfl) (hk:S.E.keep fn=false:=by kernel_rfl) (B:Nat.ble az.length (pF (T fn)).na=true:=by kernel_rfl)
 (s:∀r:δ,(result (gj.e r)).scalar=true:=by intro r;kernel_rfl):Fc S (dA S T) m:=
 ⟨fn,az,gj.e,true,lz.N7 fn az h u hk B λ_=>s⟩
abbrev Fc.N [gj δ] (fn:FuncId) (az:a_ V) (h:Le (m.bind λr=>some (gj.e r)) (bV S (dA S T) (qm (tr T fn)) (.rc (tb T fn),[],start (az.map .v) [])))
 (u:(T fn).isSome=true:=by kernel_rfl) (hk:S.E.keep fn=false:=by kernel_rfl) (B:Nat.ble az.length (pF (T fn)).na=true:=by kernel_rfl)
 : Fc S (dA S T) m:=
 ⟨fn,az,gj.e,false,lz.N7 fn az h u hk B λh=>nomatch h⟩
end
abbrev Fc.of {S:Sys} {c:bN} {α δ:Type} {p:α->bf δ} {n:FuncId} {A:α->a_ V} {E:δ->a_ V} {b:Bool} (z:α) (F:lz S c n A E p b):Fc S c (p z):=⟨n,A z,E,b,⟨F.k,λ_=>F.h z,F.s⟩⟩
theorem lz.vl {S:Sys} {c:bN} {α δ:Type} {p:α->bf δ} {n:FuncId} {A:α->a_ V} {E:δ->a_ V} {b:Bool} (F:∀z,Fc S c (p z)) (i:α) (u:∀z,(F z).n=n) (D:∀z,(F z).az=A z) (B:∀z,(F z).E=E) (G:∀z,(F z).sc=b):lz S c n A E p b where
 k:=by rw[<-u i];exact(F i).F.k
 h z:=by rw[<-u z,<-D z,<-B z];exact(F z).F.h ()
 s:=by rw[<-G i,<-B i];exact(F i).F.s
theorem nF.vl {S:Sys} {c:bN} {α δ:Type} {p:α->bf δ} {g:FuncId} {w e:a_ V} {A:α->a_ V} {R:δ->a_ V} {b:Bool} [i:Inhabited α] [F:∀z,Fc S c (p z)] (u:∀z,(F z).n=g:=by intro _;kernel_rfl) (B:∀z,(F z).az=w++A z++e:=by intro _;kernel_rfl)
 (D:∀z,(F z).E=R:=by intro _;kernel_rfl) (G:∀z,(F z).sc=b:=by intro _;kernel_rfl):nF S c g w e A R p b:=
 ⟨lz.vl F default u B D G⟩
section
variable {S:Sys} {c:bN} {β γ δ α:Type} {Q:Out×St->bf β} {e:γ->bf β} {cf:Cf}
theorem xW (n:Nat) {m:bf β} (h:Le m (bV S c Q (ir S c n cf))) (u:fC S c n cf.1 cf.2.1 cf.2.2=some (ir S c n cf):=by kernel_rfl):Le m (bV S c Q cf):=yB u h
theorem bL (n:Nat) {m:bf δ} [F:Fc S c m] {f:δ->bf γ} (h:∀x,m=some x->Le ((f x).bind e) (bV S c Q (nx S c n cf λp=>cU p.st p.d (.v (result (F.E x))))))
 (u:(fu S c n cf).map (λp=>(p.k,(bQ S.N p.st.g p.az).bind k_,(!p.dr||p.now||eM p.st.m p.fr [])))=some (.c,some (F.n,F.az.map .v),true):=by kernel_rfl):Le ((m.bind f).bind e) (bV S c Q cf):=wI n F.F () h u
theorem jf (n:Nat) {m:bf δ} [F:Fc S c m] {f:δ->bf γ} (h:∀x,m=some x->Le ((f x).bind e) (bV S c Q (nx S c n cf λp=>cU p.st p.d (.v (result (F.E x))))))
 (u:(fu S c n cf).map (λp=>(p.k,((bQ S.N p.st.g p.az).bind k_).bind λq=>(ng (iL p.st.m 8) q.2).map λvs=>(q.1,vs,((!p.dr||p.now)||eM p.st.m p.fr q.2))))=some (.c,some (F.n,F.az,true)):=by kernel_rfl) (B:F.sc=true:=by kernel_rfl):Le ((m.bind f).bind e) (bV S c Q cf):=
 SU n (t B F.F) () h u
where
 t {b:Bool} {fn:FuncId} {az:a_ V} {E:δ->a_ V} {m:bf δ} (h:b=true) (F:lz S c fn (λ_:Unit=>az) E (λ_=>m) b):lz S c fn (λ_:Unit=>az) E (λ_=>m) true:=h▸F
def Im (cf:Cf):RC:=match cf.1 with|.rc (.loop c)=>c|_=>.skip
def Bo (cf:Cf):Arg×a_ Nat×RC×RC:=match cf.1 with|.rc (.each g t a b)=>(g,t,a,b)|_=>(.s 0,[],.skip,.skip)
theorem dN {σ ε ρ:Type} {step:σ->bf (Fw σ ε ρ)} (n:Nat) (eσ:σ->St) (eε:ε->Nat×St) (eρ:ρ->St) {s:σ} {u:ε->bf γ} {fr:ρ->bf γ}
 (h:∀s,Le ((step s).bind λw=>some (Fw.out eσ eε eρ w)) (bV S c some (.rc (Im (ir S c n cf)),[],eσ s)))
 (B:∀x,Le ((u x).bind e) (bV S c Q (.ex (eε x).1,(ir S c n cf).2.1,(eε x).2))) (hr:∀b,Le ((fr b).bind e) (Q (.ret,eρ b)))
 (D:fC S c n cf.1 cf.2.1 cf.2.2=some (.rc (.loop (Im (ir S c n cf))),(ir S c n cf).2.1,eσ s):=by kernel_rfl):Le (((bM step s).bind (Fw.elim u fr)).bind e) (bV S c Q cf):=
 G_ D h B hr
theorem gZ {σ ε:Type} {step:σ->bf (Fw σ ε Empty)} (n:Nat) (eσ:σ->St) (eε:ε->Nat×St) {s:σ} {u:ε->bf γ} {fr:Empty->bf γ}
 (h:∀s,Le ((step s).bind λw=>some (Fw.out eσ eε (λe=>Empty.elim e) w)) (bV S c some (.rc (Im (ir S c n cf)),[],eσ s)))
 (B:∀x,Le ((u x).bind e) (bV S c Q (.ex (eε x).1,(ir S c n cf).2.1,(eε x).2)))
 (D:fC S c n cf.1 cf.2.1 cf.2.2=some (.rc (.loop (Im (ir S c n cf))),(ir S c n cf).2.1,eσ s):=by kernel_rfl):Le (((bM step s).bind (Fw.elim u fr)).bind e) (bV S c Q cf):=
 G_ D h B λb=>Empty.elim b
theorem Sr {σ ρ:Type} {step:σ->bf (Fw σ Empty ρ)} (n:Nat) (eσ:σ->St) (eρ:ρ->St) {s:σ} {u:Empty->bf γ} {fr:ρ->bf γ}
 (h:∀s,Le ((step s).bind λw=>some (Fw.out eσ (λe=>Empty.elim e) eρ w)) (bV S c some (.rc (Im (ir S c n cf)),[],eσ s)))
 (hr:∀b,Le ((fr b).bind e) (Q (.ret,eρ b)))
 (B:fC S c n cf.1 cf.2.1 cf.2.2=some (.rc (.loop (Im (ir S c n cf))),(ir S c n cf).2.1,eσ s):=by kernel_rfl):Le (((bM step s).bind (Fw.elim u fr)).bind e) (bV S c Q cf):=
 G_ B h (λx=>Empty.elim x) hr
theorem ED {σ ε ρ:Type} {f:FuncId} {x y:a_ V} {items:a_ α} {eI:α->a_ V} {step:α->σ->bf (Fw σ ε ρ)} (n:Nat) (gt:Tb SV) (eσ:σ->Tb bu) (eε:ε->Nat×Tb bu) (eρ:ρ->Tb bu) {s:σ} {fn:σ->bf γ} {u:ε->bf γ} {fr:ρ->bf γ}
 (B:S.items f x y=some (items.map eI))
 (h:∀x s,Le ((step x s).bind λw=>some (Fw.uO eσ eε eρ w)) (bV S c (xo S c (Bo (ir S c n cf)).2.2.2) (.rc (Bo (ir S c n cf)).2.2.1,[],⟨vt gt (Bo (ir S c n cf)).2.1 ((eI x).map .v),eσ s,ox gt,[],true,0⟩)))
 (D:∀s,Le ((fn s).bind e) (bV S c Q (.nx,(ir S c n cf).2.1,bJ gt (eσ s)))) (G:∀x,Le ((u x).bind e) (bV S c Q (.ex (eε x).1,(ir S c n cf).2.1,bJ gt (eε x).2))) (hr:∀b,Le ((fr b).bind e) (Q (.ret,bJ gt (eρ b))))
 (J:∀x,(eI x).length=(Bo (ir S c n cf)).2.1.length:=by intro _;kernel_rfl) (hg:pn S.N gt (Bo (ir S c n cf)).1=some (.v (.clo f x y)):=by kernel_rfl)
 (O:fC S c n cf.1 cf.2.1 cf.2.2=some (.rc (.each (Bo (ir S c n cf)).1 (Bo (ir S c n cf)).2.1 (Bo (ir S c n cf)).2.2.1 (Bo (ir S c n cf)).2.2.2),(ir S c n cf).2.1,bJ gt (eσ s)):=by kernel_rfl):Le (((nr step items s).bind (Fw.vf fn u fr)).bind e) (bV S c Q cf):=
 SJ O hg B J h D G hr
def SB (n k:Nat) (u:a_ Nat) (d:Nat) (S:Sys) (c:bN) (cf:Cf) (v:SV):Cf:=jmp k [] (ir S c n cf) { (ir S c n cf).2.2 with g:=bB (n_ u (ir S c n cf).2.2.g) d v }
theorem cz [bz δ] (n k:Nat) (u:a_ Nat) (d:Nat) {m:bf δ} {f:δ->bf γ} (B:Le (m.bind λr=>bV S c Q (SB n k u d S c cf (cv r))) (bV S c Q cf))
 (h1:∀r,Le ((f r).bind e) (bV S c Q (SB n k u d S c cf (cv r)))):Le ((m.bind f).bind e) (bV S c Q cf):=Oy _ B h1
end
theorem VU {α β:Type} {P:α ⊕ β->Prop} (h1:∀a,P (.inl a)) (u:∀b,P (.inr b)):∀x,P x
 | .inl a=>h1 a
 | .inr b=>u b
instance {n:Nat}:DecidableEq (bU n Int):=λa b=>if h:a.l=b.l then .isTrue (by cases a;cases b;cases h;rfl)else .isFalse λe=>h (by rw[e])
theorem tV:∀l:a_ Int,gF ((l.map (cells (α:=Int))).flatten)=some l
 | []=>rfl
 | a::l=>by
  show gF (.int .i64 a::(l.map (cells (α:=Int))).flatten)=_;simp only[gF,tV l,Option.map_some]
theorem L0 (l:a_ Int):(l.map (cells (α:=Int))).flatten=l.map (V.int .i64):=by
 induction l with
 | nil=>rfl
 | cons a l t=>simp only[List.map_cons,List.flatten_cons,t];rfl
instance {n:Nat}:Key (bU n Int) where
 kk:=.ints n
 ok a:=by
  show ((a.l.map (cells (α:=Int))).flatten.length==n&&(gF (a.l.map (cells (α:=Int))).flatten).isSome)=true;rw[tV,L0,List.length_map,a.len];simp
 eq a b:=by
  show jW (a.l.map (cells (α:=Int))).flatten (b.l.map (cells (α:=Int))).flatten=_;unfold jW;rw[tV,tV];simp only[a.len,b.len,if_true]
  congr 1
  rw[Bool.eq_iff_iff,beq_iff_eq,decide_eq_true_iff];exact⟨λh=>by cases a;cases b;cases h;rfl,λh=>by rw[h]⟩
def xu (m:Tb bu):SV->Bool
 | .v _|.agg _=>true
 | x=>jX m x
def mj:SV->a_ SV
 | .v x=>x.cells.map .v
 | .agg l=>l
 | x=>[x]
def zR (cells:a_ SV):a_ (Nat×Nat)->a_ SV->bf (a_ SV)
 | [],[]=>some cells
 | (off,size)::pl,v::vs=>if(mj v).length=size/\off+(mj v).length<=cells.length then zR (cells.take off++mj v++cells.drop (off+(mj v).length)) pl vs else none
 | _,_=>none
theorem DF (cells:a_ SV):zR cells [] []=some cells:=rfl
theorem xh (cells:a_ SV) (off size:Nat) (pl:a_ (Nat×Nat)) (v:SV) (vs:a_ SV):zR cells ((off,size)::pl) (v::vs) =
 if(mj v).length=size/\off+(mj v).length<=cells.length then zR (cells.take off++mj v++cells.drop (off+(mj v).length)) pl vs else none:=rfl
theorem Gy (x:V):mj (.v x)=x.cells.map .v:=rfl
theorem B_ (d:Nat):mj (.own d)=[.own d]:=rfl
theorem DS (d:Nat):mj (.mp d)=[.mp d]:=rfl
theorem B1 (d o:Nat):mj (.ptr d o)=[.ptr d o]:=rfl
theorem MS {m:Tb bu} {v:SV} (h:xu m v=true):wu m v=some (mj v):=by
 cases v <;> first|rfl|(unfold wu;exact if_pos h)|(simp[xu,jX]at h)
theorem Ib {m:Tb bu}:∀{pl:a_ (Nat×Nat)} {vs cells l:a_ SV},vs.all (xu m)=true->zR cells pl vs=some l->qN m cells pl vs=some l
 | [],[],_,_,_,h=>h
 | [],_::_,_,_,_,h=>by cases h
 | _::_,[],_,_,_,h=>by cases h
 | (off,size)::pl,v::vs,cells,l,u,h=>by
  rw[List.all_cons,ζh]at u;rw[xh]at h;show (match wu m v with|some c=>if c.length=size/\off+c.length<=cells.length then qN m (cells.take off++c++cells.drop (off+c.length)) pl vs else none|none=>none)=some l
  rw[MS u.1];simp only;split at h
  next hc=>rw[if_pos hc];exact Ib u.2 h
  cases h
def AN:SV->Bool
 | .v x=>x.one
 | .agg _=>false
 | _=>true
theorem GC (x:V):AN (.v x)=x.one:=rfl
theorem A8 (d:Nat):AN (.own d)=true:=rfl
theorem CQ (d:Nat):AN (.mp d)=true:=rfl
theorem AA (d o:Nat):AN (.ptr d o)=true:=rfl
theorem Df {m:Tb bu}:∀{l:a_ SV},l.all AN=true->l.all (xu m)=true->l.all (vv m)=true
 | [],_,_=>rfl
 | x::l,h,k=>by
  rw[List.all_cons,ζh]at h k ⊢;refine⟨?_,Df h.2 k.2⟩;cases x <;> first|exact h.1|exact k.1|(have:=h.1;cases this)
section
variable {S:Sys} {c:bN} {β γ δ α:Type} {Q:Out×St->bf β} {e:γ->bf β} {cf:Cf}
theorem Lg {N:Nat->FuncId} {m:Tb bu} {z:a_ V} {pl:a_ (Nat×Nat)} {svs l:a_ SV} (u:(cT svs).isNone=true) (h:qN m (z.map .v) pl svs=some l):iJ N m (.build z pl) svs=some (.agg l):=by
 unfold iJ
 cases hv:cT svs with
 | some x=>rw[hv]at u;cases u
 | none=>
  have:vh N m (.build z pl) svs=(qN m (z.map .v) pl svs).map .agg:=by
   unfold vh;split <;> first|contradiction|(rename_i e _;cases e;rfl)|simp_all
  simp only[this,h,Option.map_some]
theorem Pj (n:Nat) (svs l:a_ SV) (z:a_ V) (pl:a_ (Nat×Nat)) {m:bf β} (u:zR (z.map .v) pl svs=some l) (h:Le m (bV S c Q (nx S c n cf λp=>cU p.st p.d (.agg l))))
 (B:(fu S c n cf).map (λp=>(p.k,bQ S.N p.st.g p.az,(cT svs).isNone,svs.all (xu p.st.m)))=some (.p (.build z pl),some svs,true,true):=by kernel_rfl):Le m (bV S c Q cf):=by
 obtain⟨p,t,hv⟩:=en B;simp only[ζc]at hv;refine sw t ?_ h;rw[hv.1];exact xQ hv.2.1 rfl (Lg hv.2.2.1 (Ib hv.2.2.2 u))
theorem Si (n u o:Nat) (l:a_ SV) {m:bf β} (B:l.all AN=true) (h:Le m (bV S c Q (nx S c n cf (OQ u o l.length l))))
 (D:(fu S c n cf).map (λp=>(p.k,bQ S.N p.st.g p.az,(!p.dr||p.now),l.all (xu p.st.m),match bh p.st.m u with|some (.box cs)=>Nat.ble (o+l.length) cs.length|_=>false))=some (.l (.store l.length),some [.ptr u o,.agg l],true,true,true):=by kernel_rfl):Le m (bV S c Q cf):=by
 obtain⟨p,C,hv⟩:=en D;simp only[ζc]at hv;refine sw C ?_ h;obtain⟨h1,G,I,J,t⟩:=hv;have w:=Df B J;split at t
 next cs z=>have L:=Nat.le_of_ble_eq_true t;rw[h1,oU,G];simp only[ζb,I,if_true,gB,z,putCells,w,L,and_self,Option.map_some,OQ]
 cases t
theorem TC (n u:Nat) (l:a_ SV) {m:bf β} (B:l.all AN=true) (h:Le m (bV S c Q (nx S c n cf λp=>{ p.st with g:=bB p.st.g u (.ptr u 0),m:=bB p.st.m u (.box l) })))
 (D:(fu S c n cf).map (λp=>(p.d,p.k,bQ S.N p.st.g p.az,p.st.new u,l.all (xu p.st.m)))=some (some u,.a .box,some [.agg l],true,true):=by kernel_rfl):Le m (bV S c Q cf):=by
 obtain⟨p,t,hv⟩:=en D;simp only[ζc]at hv;refine sw t ?_ h;rw[hv.1,hv.2.1,wR,hv.2.2.1];simp only[ζb,hv.2.2.2.1,if_true,lR,Df B hv.2.2.2.2]
end
section
variable {S:Sys} {c:bN} {β γ δ:Type} {Q:Out×St->bf β} {e:γ->bf β} {cf:Cf} {κ ν:Type} [bz κ] [DecidableEq κ] [Key κ] [bz ν]
structure RZ (κ ν:Type) where
 o:Option (Mo κ ν)
 deriving Inhabited
def S4 (m:RZ κ ν):V:=match m.o with|none=>.fQ|some l=>.fmap (mY l)
theorem KZ (m:Mo κ ν):V.qK (mY m)=true:=by
 induction m with
 | nil=>rfl
 | cons x r t=>show V.qK ((enc x.1,enc x.2)::mY r)=true;simp only[V.qK,ni,t,Bool.and_self]
instance:bz (RZ κ ν) where
 cells m:=[S4 m]
 agg:=false
 size:=1
 len _:=rfl
 good m:=by
  unfold S4;split
  .rfl
  simp only[V.cN,V.good,KZ,Bool.and_self]
 one m:=by unfold S4;split <;> rfl
 plain _:=rfl
theorem C6 (m:RZ κ ν):V.one (enc m)=true:=by obtain⟨o⟩:=m;cases o <;> rfl
end
theorem lz.scalar {S:Sys} {c:bN} {α δ:Type} {fn:FuncId} {A:α->a_ V} {E:δ->a_ V} {p:α->bf δ} {b:Bool} (F:lz S c fn A E p b) (h:∀r,(result (E r)).scalar=true):lz S c fn A E p true:=⟨F.k,F.h,λ_=>h⟩
section
variable {S:Sys} {c:bN} {β γ δ α:Type} [bz α] {Q:Out×St->bf β} {e:γ->bf β} {cf:Cf}
theorem OU {ω:Type} [bz ω] (n u:Nat) {N:Nat} (a:bU N α) (i:Int) (o:Nat) (x:α) (B:a.at i=some x) (y:α) (w:ω) (D:cells y=(cells x).take o++cells w++(cells x).drop (o+bz.size ω)) {m:bf β} (h:Le m (bV S c Q (nx S c n cf λp=>cU { p.st with m:=bB p.st.m u (bx (a.set i y)) } p.d (.v .undef))))
 (G:(fu S c n cf).map (λp=>(p.k,bQ S.N p.st.g p.az,bh p.st.m u,(!p.dr||p.now),Nat.ble (o+bz.size ω) (bz.size α)))=some (.l (.store (bz.size ω)),some [.ptr u (i.toNat*bz.size α+o),cv w],some (bx a),true,true):=by kernel_rfl):Le m (bV S c Q cf):=by
 obtain⟨p,z,t⟩:=en G;simp only[ζc]at t;obtain⟨h1,C⟩:=je z;obtain⟨dr,fr,d,gd,now,T,az,dd,l,fs,st⟩:=p;obtain⟨rfl,I,J,L,O⟩:=t;exact Ui n dr fr (⟨d,gd,now,.l (.store (bz.size ω)),az,dd,[]⟩::l) fs st u a i o x B y (enc w) (by rw[eH];exact D) rfl (by(try dsimp only at *);simp only[h1,C,I,J,L,O,eH,gJ,sn]) (by
  simp only[nx,z]at h;exact h)
end
def EF (rs:a_ RV):Out×St->bf (bu×a_ V)
 | (.exit _,_)=>none
 | (_,st)=>(iN st rs).bind λl=>match l with
  | .own d::r=>(bh st.m d).bind λob=>(cT r).map λys=>(ob,ys)
  | _=>none
theorem wE:∀{l:a_ SV} {ys:a_ V},cT l=some ys->l=ys.map .v
 | [],ys,h=>by cases h;rfl
 | .v x::r,ys,h=>by
  simp only[cT]at h;obtain⟨u,h1,rfl⟩:=ζf.1 h;rw[wE h1];rfl
 | .own _::_,_,h|.ptr ..::_,_,h|.el ..::_,_,h|.mp _::_,_,h|.clo ..::_,_,h|.tup _::_,_,h|.agg _::_,_,h|.yl _::_,_,h=>by cases h
theorem UF {S:Sys} {c:bN} {rs:a_ RV} {rc:RC} {st:St} {ob:bu} {ys:a_ V} (h:jE S c (EF rs) rc [] st=some (ob,ys)):∃o st' d,cA S c rc st=some (o,st')/\(∀id,o≠.exit id)/\iN st' rs=some (.own d::ys.map .v)/\bh st'.m d=some ob:=by
 rw[nL]at h;obtain⟨⟨o,st'⟩,h1,t⟩:=ζg.1 h;have w:∀id,o≠.exit id:=by rintro id rfl;simp[EF]at t
 have z:(iN st' rs).bind (λl=>match l with|.own d::r=>(bh st'.m d).bind λob=>(cT r).map λys=>(ob,ys)|_=>none)=some (ob,ys):=by
  cases o with
  | exit id=>exact absurd rfl (w id)
  | norm=>exact t
  | ret=>exact t
 obtain⟨l,B,u⟩:=ζg.1 z;split at u
 .obtain⟨C,D,G⟩:=ζg.1 u;obtain⟨L,I,J⟩:=ζf.1 G;cases J;exact⟨o,st',_,h1,w,by rw[B,wE I],D⟩
 cases u
structure Us (S:Sys) (c:bN) {δ ε:Type} [bz δ] [gj ε] (m:Option (Sl δ×ε)) where
 n:FuncId
 az:List V
 k:S.E.keep n=true
 o:S.E.own n=true
 h:∀s r,m=some (s,r)->∃e m',c n (az.map .v) []=some (.own e::(gj.e r).map .v,m')/\bh m' e=some (cq s)
 sc:∀x:δ,(cells x).all V.scalar=true
 sr:∀r:ε,V.cQ (gj.e r)=true
abbrev Us.mk' {S:Sys} {T:pg} {δ ε:Type} [bz δ] [gj ε] {m:bf (Sl δ×ε)} (fn:FuncId) (az:a_ V) (h:Le (m.bind λr=>some (cq r.1,gj.e r.2)) (bV S (dA S T) (EF (tr T fn)) (.rc (tb T fn),[],start (az.map .v) [])))
 (u:(T fn).isSome=true:=by kernel_rfl) (hk:S.E.keep fn=true:=by kernel_rfl) (B:S.E.own fn=true:=by kernel_rfl) (D:Nat.ble az.length (pF (T fn)).na=true:=by kernel_rfl)
 (sc:∀x:δ,(cells x).all V.scalar=true:=by intro x;rfl) (sr:∀r:ε,V.cQ (gj.e r)=true:=by intro r;rfl):Us S (dA S T) m where
 n:=fn
 az:=az
 k:=hk
 o:=B
 sc:=sc
 sr:=sr
 h s r w:=by
  have t:=yW u;have h1:=h (cq s,gj.e r) (by rw[w];rfl)
  change jE S (dA S T) (EF (pF (T fn)).rs) (pF (T fn)).body [] (start (az.map .v) [])=some (cq s,gj.e r)at h1;obtain⟨o,st',d,g1,g2,g3,g4⟩:=UF h1;refine⟨d,st'.m,?_,g4⟩;rw[qn t];unfold lF;rw[if_pos (by simpa using Nat.le_of_ble_eq_true D),g1]
  cases o with
  | exit id=>exact absurd rfl (g2 id)
  | norm=>simp only[g3,Option.map_some]
  | ret=>simp only[g3,Option.map_some]
def Sw {δ ε:Type} (p:Sl δ×ε):bf (Sl δ×ε):=p.1.whole.map λs=>(s,p.2)
section
variable {S:Sys} {c:bN} {β γ δ α:Type} {Q:Out×St->bf β} {e:γ->bf β} {cf:Cf}
theorem SI [bz α] {N:Nat->FuncId} {m:Tb bu} {i:Int} {z:α} (u:(cells z).all V.scalar=true):iJ N m (.makeC (bz.size α) (cells z)) [.v (.int .i64 i),.v (.int .i64 i)]=(iX i z).bind λs=>some (cv s):=by
 show (if IntKind.i64=.i64/\IntKind.i64=.i64/\0<=i/\i=i/\i<=2147483648/\(cells z).all V.scalar=true then some (V.fsl (bz.size α) (List.replicate i.toNat (cells z)))else none).map SV.v=_;unfold iX
 by_cases h:0<=i/\i<=2147483648
 .rw[if_pos h,if_pos ⟨rfl,rfl,h.1,rfl,h.2,u⟩];show some (SV.v (.fsl _ (List.replicate _ (cells z))))=some (SV.v (.fsl _ (rows (List.replicate i.toNat z))));simp[rows]
 rw[if_neg h,if_neg λk=>h ⟨k.2.2.1,k.2.2.2.2.1⟩];rfl
theorem UX [bz α] (n:Nat) {i:Int} {z:α} {f:Sl α->bf γ} (h:∀u,iX i z=some u->Le ((f u).bind e) (bV S c Q (nx S c n cf λp=>cU p.st p.d (cv u))))
 (B:(fu S c n cf).map (λp=>(p.k,bQ S.N p.st.g p.az))=some (.p (.makeC (bz.size α) (cells z)),some [.v (.int .i64 i),.v (.int .i64 i)]):=by kernel_rfl) (D:(cells z).all V.scalar=true:=by rfl):Le (((iX i z).bind f).bind e) (bV S c Q cf):=by
 obtain⟨p,t,hv⟩:=en B;simp only[ζc]at hv;refine pN t ?_ h;rw[hv.1];exact Le.of_eq (LZ hv.2 rfl (SI D))
theorem UP [bz α] (n:Nat) {m:bf β} (h:Le m (bV S c Q (nx S c n cf λp=>cU p.st p.d (cv (Sl.emp:Sl α)))))
 (u:(fu S c n cf).map (λp=>(p.k,bQ S.N p.st.g p.az))=some (.p .emptyC,some []):=by kernel_rfl):Le m (bV S c Q cf):=by
 obtain⟨p,t,hv⟩:=en u;simp only[ζc]at hv;refine sw t ?_ h;rw[hv.1];exact xQ hv.2 rfl rfl
theorem Ul [bz α] (n u:Nat) {s x:Sl α} (hk:s=.nil\/s=.emp) {f:Sl α->bf γ}
 (h:∀B,lY s x=some B->Le ((f B).bind e) (bV S c Q (nx S c n cf λp=>{ p.st with g:=bB p.st.g u (.own u),m:=bB p.st.m u (cq B) })))
 (D:(fu S c n cf).map (λp=>(p.d,p.k,bQ S.N p.st.g p.az,p.st.new u))=some (some u,.e (bz.size α),some [.v (cg s),.v (cg x)],true):=by kernel_rfl):Le (((lY s x).bind f).bind e) (bV S c Q cf):=by
 obtain⟨p,w,hv⟩:=en D;simp only[ζc]at hv;refine pN w ?_ h;rw[hv.1,hv.2.1];have t:cg s=.bE\/cg s=.c7:=by rcases hk with rfl|rfl <;> first|exact .inl rfl|exact .inr rfl
 refine Le.of_eq ?_;rw[Ty _ _ _ _ _ _ _ _ t _ hv.2.2.1];have h1:=S7 (S:=S) (c:=c) (dr:=false) (now:=true) (fr:=[]) (az:=p.az) (d:=u) (x:=x) (sx:=.v (cg x)) (st:=p.st) hk hv.2.2.1 rfl (wQ _ x) hv.2.2.2;rw[oU,hv.2.2.1]at h1;simpa using h1
end
def CP (rs:a_ RV) (u:a_ Nat):Out×St->bf (a_ V×c8)
 | (.exit _,_)=>none
 | (_,st)=>(iN st rs).bind λl=>(cT l).bind λys=>(jt st.m u).map λos=>(ys,os)
theorem Ve {S:Sys} {c:bN} {rs:a_ RV} {u:a_ Nat} {rc:RC} {st:St} {os:c8} {ys:a_ V} (h:jE S c (CP rs u) rc [] st=some (ys,os)):∃o st',cA S c rc st=some (o,st')/\(∀id,o≠.exit id)/\iN st' rs=some (ys.map .v)/\jt st'.m u=some os:=by
 rw[nL]at h;obtain⟨⟨o,st'⟩,h1,t⟩:=ζg.1 h;have w:∀id,o≠.exit id:=by rintro id rfl;simp[CP]at t
 have z:(iN st' rs).bind (λl=>(cT l).bind λys=>(jt st'.m u).map λos=>(ys,os))=some (ys,os):=by
  cases o with
  | exit id=>exact absurd rfl (w id)
  | norm=>exact t
  | ret=>exact t
 obtain⟨l,B,C⟩:=ζg.1 z;obtain⟨L,D,G⟩:=ζg.1 C;obtain⟨q,I,J⟩:=ζf.1 G;cases J;exact⟨o,st',h1,w,by rw[B,wE D],I⟩
def pR:Tb bu->c8->Tb bu
 | m,[]=>m
 | m,(d,ob)::r=>pR (bB m d ob) r
theorem GY {m':c8} {B:a_ Nat}:∀{u:a_ Nat} {os m:c8},jt m' u=some os->(os.all λx=>within B x.2)=true->xC B m' u m=some (pR m os)
 | [],os,m,h,_=>by cases h;rfl
 | k::u,os,m,h,hp=>by
  simp only[jt]at h;split at h
  next v t h1 D=>cases h;simp only[List.all_cons,ζh]at hp;simp only[xC,h1,hp.1,if_true,pR];exact GY D hp.2
  cases h
theorem back_eq {m':c8} {u:a_ Nat} {os m:c8} (h:jt m' u=some os) (hp:(os.all λx=>within u x.2)=true):kf m' u m=some (pR m os):=GY h hp
structure uS (S:Sys) (c:bN) {δ:Type} (m:Option δ) where
 n:FuncId
 az:List SV
 os:c8
 E:δ->List V
 M:δ->c8
 k:S.E.keep n=true
 o:S.E.own n=false
 q:(S.prm n).isNone=true
 h:∀r,m=some r->∃m',c n az os=some ((E r).map .v,m')/\∀m0,kf m' (os.map (·.1)) m0=some (pR m0 (M r))
abbrev uS.mk' {S:Sys} {T:pg} {δ:Type} {m:bf δ} (fn:FuncId) (az:a_ SV) (os:c8) (E:δ->a_ V) (M:δ->c8) (h:Le (m.bind λr=>some (E r,M r)) (bV S (dA S T) (CP (tr T fn) (os.map (·.1))) (.rc (tb T fn),[],start az os)))
 (u:(T fn).isSome=true:=by kernel_rfl) (hk:S.E.keep fn=true:=by kernel_rfl) (B:S.E.own fn=false:=by kernel_rfl) (D:(S.prm fn).isNone=true:=by kernel_rfl) (G:Nat.ble az.length (pF (T fn)).na=true:=by kernel_rfl)
 (hp:∀r,((M r).all λx=>within (os.map (·.1)) x.2)=true:=by intro r;kernel_rfl):uS S (dA S T) m where
 n:=fn
 az:=az
 os:=os
 E:=E
 M:=M
 k:=hk
 o:=B
 q:=D
 h r hr:=by
  have t:=yW u;have h1:=h (E r,M r) (by rw[hr];rfl)
  change jE S (dA S T) (CP (pF (T fn)).rs (os.map (·.1))) (pF (T fn)).body [] (start az os)=some (E r,M r)at h1;obtain⟨o,st',g1,g2,g3,g4⟩:=Ve h1;refine⟨st'.m,?_,λw=>back_eq g4 (hp r)⟩
  rw[qn t];unfold lF;rw[if_pos (Nat.le_of_ble_eq_true G),g1]
  cases o with
  | exit id=>exact absurd rfl (g2 id)
  | norm=>simp only[g3,Option.map_some]
  | ret=>simp only[g3,Option.map_some]
section
variable {S:Sys} {c:bN} {β γ δ:Type} {Q:Out×St->bf β} {e:γ->bf β} {cf:Cf}
theorem LX (n:Nat) {m:bf δ} (F:uS S c m) {f:δ->bf γ} (h:∀x,m=some x->Le ((f x).bind e) (bV S c Q (nx S c n cf λp=>cU { p.st with m:=pR p.st.m (F.M x) } p.d (.v (result (F.E x))))))
 (B:(fu S c n cf).map (λp=>(p.k,((bQ S.N p.st.g p.az).bind k_).bind λq=>(handed p.st.m q.2).map λos=>(q.1,q.2,os),p.dr))=some (.c,some (F.n,F.az,F.os),false):=by kernel_rfl):Le ((m.bind f).bind e) (bV S c Q cf):=by
 obtain⟨p,w,hv⟩:=en B;simp only[ζc]at hv;obtain⟨z,C,D⟩:=hv;obtain⟨q,g1,g2⟩:=ζg.1 C;obtain⟨t,g3,g4⟩:=ζg.1 g1;obtain⟨os,g5,g6⟩:=ζf.1 g2;simp only[ζc]at g6;obtain⟨e1,e2,rfl⟩:=g6;refine pN w ?_ h;rw[z,D,zh _ _ _ _ _ _ t q.1 q.2 g3 g4];intro y u;obtain⟨r,hr,u⟩:=ζg.1 u;cases u;obtain⟨m',k1,k2⟩:=F.h r hr;have G:S.prm F.n=none:=by
  have:=F.q
  cases I:S.prm F.n with
  | none=>rfl
  | some _=>rw[I]at this;cases this
 have:eO S c p.d false (!false||p.now) (eM p.st.m p.fr) q.1 q.2 p.st=some (.v (result (F.E r)),{ p.st with m:=pR p.st.m (F.M r) }):=by
  unfold eO;rw[e1,e2]at *;simp only[F.k,F.o,G,g5,k1,kV,k2,if_true,Bool.not_false,Bool.true_or,Bool.false_and,Bool.false_eq_true,if_false]
 rw[this];rfl
instance:Key ByteArray where
 kk:=.str
 ok _:=rfl
 eq a b:=by
  show some (a==b)=some (decide (a=b));rw[show (a==b)=decide (a=b)from Bool.eq_iff_iff.2 (by cases a;cases b;rename_i x y;show (x==y)=true↔_;simp)]
end
def JJ (rs:a_ RV) (u:a_ Nat):Out×St->bf (bu×a_ V×c8)
 | (.exit _,_)=>none
 | (_,st)=>(iN st rs).bind λl=>match l with
  | .own d::r=>if u.contains d then none else(bh st.m d).bind λob=>(cT r).bind λys=>(jt st.m u).map λos=>(ob,ys,os)
  | _=>none
theorem Vp {S:Sys} {c:bN} {rs:a_ RV} {u:a_ Nat} {rc:RC} {st:St} {ob:bu} {ys:a_ V} {os:c8} (h:jE S c (JJ rs u) rc [] st=some (ob,ys,os)) :
 ∃o st' d,cA S c rc st=some (o,st')/\(∀id,o≠.exit id)/\iN st' rs=some (.own d::ys.map .v)/\u.contains d=false/\bh st'.m d=some ob/\jt st'.m u=some os:=by
 rw[nL]at h;obtain⟨⟨o,st'⟩,h1,w⟩:=ζg.1 h;have C:∀id,o≠.exit id:=by rintro id rfl;simp[JJ]at w
 have D:(iN st' rs).bind (λl=>match l with|.own d::r=>if u.contains d then none else(bh st'.m d).bind λob=>(cT r).bind λys=>(jt st'.m u).map λos=>(ob,ys,os)|_=>none)=some (ob,ys,os):=by
  cases o with
  | exit id=>exact absurd rfl (C id)
  | norm=>exact w
  | ret=>exact w
 obtain⟨l,G,t⟩:=ζg.1 D;split at t
 .split at t
  .cases t
  rename_i hc;obtain⟨I,J,L⟩:=ζg.1 t;obtain⟨T,O,Q⟩:=ζg.1 L;obtain⟨q,z,B⟩:=ζf.1 Q;cases B;exact⟨o,st',_,h1,C,by rw[G,wE O],by simpa using hc,J,z⟩
 cases t
structure Uz (S:Sys) (c:bN) {δ ε:Type} [bz δ] [gj ε] (m:Option (Sl δ×ε)) where
 n:FuncId
 az:List SV
 os:c8
 M:Sl δ×ε->c8
 k:S.E.keep n=true
 o:S.E.own n=false
 q:(S.prm n).isNone=true
 h:∀r,m=some r->∃e m',c n az os=some (.own e::(gj.e r.2).map .v,m')/\bh m' e=some (cq r.1)/\(os.map (·.1)).contains e=false/\∀m0,kf m' (os.map (·.1)) m0=some (pR m0 (M r))
abbrev Uz.mk' {S:Sys} {T:pg} {δ ε:Type} [bz δ] [gj ε] {m:bf (Sl δ×ε)} (fn:FuncId) (az:a_ SV) (os:c8) (M:Sl δ×ε->c8)
 (h:Le (m.bind λr=>some (cq r.1,gj.e r.2,M r)) (bV S (dA S T) (JJ (tr T fn) (os.map (·.1))) (.rc (tb T fn),[],start az os)))
 (u:(T fn).isSome=true:=by kernel_rfl) (hk:S.E.keep fn=true:=by kernel_rfl) (B:S.E.own fn=false:=by kernel_rfl) (D:(S.prm fn).isNone=true:=by kernel_rfl) (G:Nat.ble az.length (pF (T fn)).na=true:=by kernel_rfl)
 (hp:∀r,((M r).all λx=>within (os.map (·.1)) x.2)=true:=by intro r;kernel_rfl):Uz S (dA S T) m where
 n:=fn
 az:=az
 os:=os
 M:=M
 k:=hk
 o:=B
 q:=D
 h r hr:=by
  have t:=yW u;have h1:=h (cq r.1,gj.e r.2,M r) (by rw[hr];rfl)
  change jE S (dA S T) (JJ (pF (T fn)).rs (os.map (·.1))) (pF (T fn)).body [] (start az os)=some (cq r.1,gj.e r.2,M r)at h1;obtain⟨o,st',d,g1,g2,g3,g4,g5,g6⟩:=Vp h1;refine⟨d,st'.m,?_,g5,g4,λw=>back_eq g6 (hp r)⟩
  rw[qn t];unfold lF;rw[if_pos (Nat.le_of_ble_eq_true G),g1]
  cases o with
  | exit id=>exact absurd rfl (g2 id)
  | norm=>simp only[g3,Option.map_some]
  | ret=>simp only[g3,Option.map_some]
section
variable {S:Sys} {c:bN} {β γ:Type} {Q:Out×St->bf β} {e:γ->bf β} {cf:Cf}
end
structure S0 (S:Sys) (c:bN) {α δ:Type} [bz δ] (fn:FuncId) (A:α->List V) (p:α->Option (Sl δ)):Prop where
 k:S.E.keep fn=true
 o:S.E.own fn=false
 q:(S.prm fn).isNone=true
 h:∀z s,p z=some s->∃e m',c fn ((A z).map .v) []=some ([.own e],m')/\bh m' e=some (cq s)
theorem S0.mk' {S:Sys} {T:pg} {α δ:Type} [bz δ] (rf:RF) {fn:FuncId} {A:α->a_ V} {p:α->bf (Sl δ)} (h:∀z,Le ((p z).bind λr=>some (cq r)) (bV S (dA S T) (CN rf.rs) (.rc rf.body,[],start ((A z).map .v) [])))
 (u:T fn=some rf:=by kernel_rfl) (hk:S.E.keep fn=true:=by kernel_rfl) (B:S.E.own fn=false:=by kernel_rfl) (D:(S.prm fn).isNone=true:=by kernel_rfl) (G:∀z,(A z).length<=rf.na:=by intro z;exact Nat.le_of_ble_eq_true (by kernel_rfl)):S0 S (dA S T) fn A p where
 k:=hk
 o:=B
 q:=D
 h z s t:=by
  have h1:=h z (cq s) (by rw[t];rfl)
  change jE S (dA S T) (CN rf.rs) rf.body [] (start ((A z).map .v) [])=some (cq s)at h1;obtain⟨o,st',d,g1,g2,g3,g4⟩:=Uu h1;refine⟨d,st'.m,?_,g4⟩;rw[qn u];unfold lF;rw[if_pos (by simpa using G z),g1]
  cases o with
  | exit id=>exact absurd rfl (g2 id)
  | norm=>simp only[g3,Option.map_some]
  | ret=>simp only[g3,Option.map_some]
section
variable {S:Sys} {c:bN} {β γ δ α:Type} [bz δ] {Q:Out×St->bf β} {e:γ->bf β} {cf:Cf}
end
section
variable {S:Sys} {c:bN} {β γ δ:Type} {Q:Out×St->bf β} {e:γ->bf β} {cf:Cf}
end
def vO {α δ:Type} (b:(α->bf δ)->α->bf δ):Nat->α->bf δ
 | 0,_=>none
 | n+1,z=>b (vO b n) z
theorem lz.fix {S:Sys} {c:bN} {α δ:Type} {fn:FuncId} {A:α->a_ V} {E:δ->a_ V} {sc:Bool} {b:(α->bf δ)->α->bf δ} (hk:S.E.keep fn=false) (u:sc=true->∀r,(result (E r)).scalar=true)
 (h:∀r,lz S c fn A E r sc->∀z,Le ((b r z).bind λr=>some (E r)) (lB c fn (A z))):∀n,lz S c fn A E (vO b n) sc
 | 0=>⟨hk,λ_=>Le.none _,u⟩
 | n+1=>⟨hk,h _ (lz.fix hk u h n),u⟩
structure FD (S:Sys) (c:bN) {α δ:Type} (fn:FuncId) (A:α->List SV) (O:α->c8) (E:δ->List V) (M:α->δ->c8) (p:α->Option δ):Prop where
 k:S.E.keep fn=true
 o:S.E.own fn=false
 q:(S.prm fn).isNone=true
 h:∀z r,p z=some r->∃m',c fn (A z) (O z)=some ((E r).map .v,m')/\∀m0,kf m' ((O z).map (·.1)) m0=some (pR m0 (M z r))
abbrev uS.of {S:Sys} {c:bN} {α δ:Type} {fn:FuncId} {A:α->a_ SV} {O:α->c8} {E:δ->a_ V} {M:α->δ->c8} {p:α->bf δ} (z:α) (F:FD S c fn A O E M p):uS S c (p z):=⟨fn,A z,O z,E,M z,F.k,F.o,F.q,F.h z⟩
theorem FD.fix {S:Sys} {c:bN} {α δ:Type} {fn:FuncId} {A:α->a_ SV} {O:α->c8} {E:δ->a_ V} {M:α->δ->c8} {b:(α->bf δ)->α->bf δ} (k:S.E.keep fn=true) (o:S.E.own fn=false) (q:(S.prm fn).isNone=true)
 (h:∀r,FD S c fn A O E M r->∀z u,b r z=some u->∃m',c fn (A z) (O z)=some ((E u).map .v,m')/\∀B,kf m' ((O z).map (·.1)) B=some (pR B (M z u))):∀n,FD S c fn A O E M (vO b n)
 | 0=>⟨k,o,q,λ_ _ h=>by cases h⟩
 | n+1=>⟨k,o,q,h _ (FD.fix k o q h n)⟩
structure D5 (S:Sys) (c:bN) {α σ:Type} [bz α] (cl:SV) (g:FuncId) (e:List SV) (os:σ->c8) (p:α->σ->Option (Bool×σ)):Prop where
 cs:∀vs,k_ (cl::vs)=some (g,vs++e)
 hd:∀(s:σ) (a:V),handed (os s) [.v a,cl]=some (os s)
 tk:∀s s',jt (os s') ((os s).map (·.1))=some (os s')
 wi:∀s s',((os s').all λx=>within ((os s).map (·.1)) x.2)=true
 put:∀s s',pR (os s) (os s')=os s'
 h:∀x s r,p x s=some r->∀(dst:Option Nat) (old:List SV->Bool) (st:St),st.m=os s->eO S c dst false true old g (.v (enc x)::e) st=some (.v (.bool r.1),{ st with m:=os r.2 })
section
variable {S:Sys} {c:bN} {α σ:Type} [bz α] {g:FuncId}
theorem D5.Vy {e:a_ SV} {os:σ->c8} {p:α->σ->bf (Bool×σ)} [Inhabited α] [Inhabited σ] (F:∀x s,uS S c (p x s)) (D:∀x s,(F x s).n=g:=by intro _ _;kernel_rfl) (G:∀x s,(F x s).az=.v (enc x)::e:=by intro _ _;kernel_rfl) (B:∀x s,(F x s).os=os s:=by intro _ _;kernel_rfl)
 (J:∀x s,(F x s).E=λr=>[.bool r.1]:=by intro _ _;kernel_rfl) (O:∀x s,(F x s).M=λr=>os r.2:=by intro _ _;kernel_rfl)
 (hd:∀s:σ,jt (os s) (reach (os s) 32 (SV.rN e) [])=some (os s):=by intro _;kernel_rfl)
 (tk:∀s u,jt (os u) ((os s).map (·.1))=some (os u):=by intro _ _;kernel_rfl) (wi:∀s u,((os u).all λx=>within ((os s).map (·.1)) x.2)=true:=by intro _ _;kernel_rfl) (put:∀s u,pR (os s) (os u)=os u:=by intro _ _;kernel_rfl):D5 S c (.clo g [] e) g e os p where
 cs vs:=rfl
 hd s a:=by
  have:SV.rN [.v a,.clo g [] e]=SV.rN e:=by simp[SV.rN,SV.Ab]
  unfold handed;rw[this];exact hd s
 tk:=tk
 wi:=wi
 put:=put
 h x s r hr dst I st t:=by
  obtain⟨m',k1,k2⟩:=(F x s).h r hr;have hk:=(F x s).k;have w:=(F x s).o;have z:S.prm (F x s).n=none:=by
   have:=(F x s).q
   cases L:S.prm (F x s).n with
   | none=>rfl
   | some _=>rw[L]at this;cases this
  rw[D]at hk w z k1;rw[G,B,J]at k1;rw[B,O]at k2;have C:handed st.m (.v (enc x)::e)=some (os s):=by rw[t];exact hd s
  have k2:=k2 (os s);rw[put]at k2;rw[<-t]at k2;unfold eO;rw[t]at C k2 ⊢;simp only[hk,w,z,C,k1,k2,kV,List.map_cons,List.map_nil,cT,Option.map_some,if_true,Bool.false_and,Bool.false_eq_true,if_false,result]
end
def SC {α σ:Type} (s0:Sl α) (p:α->σ->bf (Bool×σ)) (q:Int×σ):bf (Fw (Int×σ) σ (Int×σ)):=
 bt (decide (q.1<len s0)) ((idx s0 q.1).bind λx=>(p x q.2).bind λy=>bt y.1 (some (.r (q.1,y.2))) (some (.n (IntKind.wrap .i64 (q.1+1),y.2)))) (some (.x q.2))
def U0 {α σ:Type} (s0:Sl α) (p:α->σ->bf (Bool×σ)) (x:σ):bf (Int×σ):=(bM (SC s0 p) (0,x)).bind (Fw.elim (λe=>some (-1,e)) λe=>some e)
def VH {α σ:Type} (s0:Sl α) (p:α->σ->bf (Bool×σ)) (x:σ):bf (Bool×σ):=(U0 s0 p x).bind λy=>some (decide (y.1>=0),y.2)
section
variable {S:Sys} {c:bN} {α σ β γ:Type} [bz α] {g:FuncId} {Q:Out×St->bf β} {e:γ->bf β} {cf:Cf}
theorem SP (n:Nat) {cl:SV} {ex:a_ SV} {os:σ->c8} {p:α->σ->bf (Bool×σ)} (F:D5 S c cl g ex os p) (x:α) (s:σ) {f:Bool×σ->bf γ} (h:∀r,p x s=some r->Le ((f r).bind e) (bV S c Q (nx S c n cf λq=>cU { q.st with m:=os r.2 } q.d (.v (.bool r.1)))))
 (u:(fu S c n cf).map (λq=>(q.k,bQ S.N q.st.g q.az,q.dr,q.st.m))=some (.c,some [cl,.v (enc x)],false,os s):=by kernel_rfl):Le (((p x s).bind f).bind e) (bV S c Q cf):=by
 obtain⟨q,w,hv⟩:=en u;simp only[ζc]at hv;obtain⟨h1,z,B,C⟩:=hv;refine pN w ?_ h;rw[h1,B,zh _ _ _ _ _ _ _ g ([.v (enc x)]++ex) z (F.cs [.v (enc x)])];intro y t;obtain⟨r,hr,t⟩:=ζg.1 t;cases t;have:=F.h x s r hr q.d (eM q.st.m q.fr) q.st C;rw[show (!false||q.now)=true from rfl,List.singleton_append,this];rfl
theorem K1 {cl:SV} {ex:a_ SV} {os:σ->c8} {p:α->σ->bf (Bool×σ)} (F:D5 S c cl g ex os p) {rs:a_ RV} {st:St} {s u:σ} {ys:a_ V} (h1:iN st rs=some (ys.map .v)) (B:st.m=os u):CP rs ((os s).map (·.1)) (.ret,st)=some (ys,os u):=by
 show ((iN st rs).bind λl=>(cT l).bind λys=>(jt st.m ((os s).map (·.1))).map λos=>(ys,os))=_
 rw[h1,B,F.tk s u];simp only[ζb,kV,Option.map_some]
theorem Ub (n:Nat) {cl:SV} {ex:a_ SV} {os:σ->c8} {p:α->σ->bf (Bool×σ)} (F:D5 S c cl g ex os p) {rs:a_ RV} {s u:σ} {r:γ} {e:γ->bf (a_ V×c8)} (ys:a_ V) (B:e r=some (ys,os u))
 (D:(fC S c n cf.1 cf.2.1 cf.2.2).map (λq=>(q.1,iN q.2.2 rs,q.2.2.m))=some (.rt,some (ys.map .v),os u):=by kernel_rfl):Le ((some r).bind e) (bV S c (CP rs ((os s).map (·.1))) cf):=by
 obtain⟨⟨fo,fs,st'⟩,t,hv⟩:=en D;simp only[ζc]at hv;obtain⟨rfl,w,z⟩:=hv;refine yB t (Le.of_eq ?_);show rn S c _ Fo.rt fs st'=e r;rw[B];exact K1 F w z
end
section
variable {S:Sys} {c:bN} {β γ δ α:Type} [bz δ] {Q:Out×St->bf β} {e:γ->bf β} {cf:Cf}
theorem OV (n:Nat) {fn:FuncId} {A:α->a_ V} {p:α->bf (Sl δ)} (F:tH S c fn A p) (z:α) {f:Sl δ->bf γ}
 (h:∀x,p z=some x->Le ((f x).bind e) (bV S c Q (nx S c n cf λq=>cU q.st q.d (.v (enc x)))))
 (G:(fu S c n cf).map (λq=>(q.k,(bQ S.N q.st.g q.az).bind k_,(!q.dr||q.now),eM q.st.m q.fr []))=some (.c,some (fn,(A z).map .v),false,true):=by kernel_rfl):Le (((p z).bind f).bind e) (bV S c Q cf):=by
 obtain⟨q,I,hv⟩:=en G;simp only[ζc]at hv;obtain⟨J,L,O,T⟩:=hv;obtain⟨w,g1,g2⟩:=ζg.1 L;have u:∀d (B:a_ V),SV.c9 d (B.map .v)=false:=λd B=>by
  induction B with
  | nil=>rfl
  | cons a l U=>simp[SV.c9,SV.cw,U]
 have W:eM q.st.m q.fr ((A z).map .v)=true:=by
  rw[<-T];unfold eM;simp[u];rfl
 refine pN I ?_ h;rw[J];intro y C;obtain⟨s,X,C⟩:=ζg.1 C;cases C;obtain⟨e0,m',hc,Y⟩:=F.h z s X;rw[zh q.dr _ _ _ _ _ w fn ((A z).map .v) g1 g2];have D:cO m' 8 [.own e0]=some [cg s]:=by simp only[cO,Oh,Y,MD]
 have t:eO S c q.d q.dr (!q.dr||q.now) (eM q.st.m q.fr) fn ((A z).map .v) q.st=some (.v (cg s),q.st):=by
  unfold eO;simp only[F.k,F.o,if_true,O,Bool.false_eq_true,if_false,W,Bool.true_or,Bool.and_self,vu,hc,D,kV,Option.isSome_some,Bool.or_true,result]
 rw[t];rfl
end
def yl (u:a_ (a_ V)) (more:Bool) (xs:a_ V):bf (Bool×a_ (a_ V)):=match u with
 | w::r=>open Classical in if w=xs then some (more || !r.isEmpty,r)else none
 | []=>none
section
variable {S:Sys} {c:bN} {β γ:Type} {Q:Out×St->bf β} {e:γ->bf β} {cf:Cf}
end
section
variable {S:Sys} {c:bN} {β γ α:Type} [bz α] {Q:Out×St->bf β} {e:γ->bf β} {cf:Cf}
theorem OP (n u:Nat) {s:Sl α} {i:Nat} {a:α} {f:Sl α->bf γ} (h:∀B,s.put i a=some B->Le ((f B).bind e) (bV S c Q (nx S c n cf λp=>cU { p.st with m:=bB p.st.m u (cq B) } p.d (.v .undef))))
 (D:(fu S c n cf).map (λp=>(p.k,bQ S.N p.st.g p.az,bh p.st.m u,(!p.dr||p.now)))=some (.l (.store (bz.size α)),some [.el u i 0,cv a],some (cq s),true):=by kernel_rfl):Le (((s.put i a).bind f).bind e) (bV S c Q cf):=by
 obtain⟨p,t,hv⟩:=en D;simp only[ζc]at hv;refine pN t ?_ h;rw[hv.1];exact Le.of_eq (Ic hv.2.1 hv.2.2.2 hv.2.2.1 (eH a) rfl)
end
theorem tH.fix {S:Sys} {c:bN} {α δ:Type} [bz δ] {fn:FuncId} {A:α->a_ V} {b:(α->bf (Sl δ))->α->bf (Sl δ)} (k:S.E.keep fn=true) (o:S.E.own fn=true) (sc:∀x:δ,(cells x).all V.scalar=true)
 (h:∀r,tH S c fn A r->∀z s,b r z=some s->∃e m',c fn ((A z).map .v) []=some ([.own e],m')/\bh m' e=some (cq s)):∀n,tH S c fn A (vO b n)
 | 0=>⟨k,o,λ_ _ h=>(by cases h),sc⟩
 | n+1=>⟨k,o,h _ (tH.fix k o sc h n),sc⟩
def IU (rs:a_ RV):Out×St->bf (V×bu×a_ V)
 | (.exit _,_)=>none
 | (_,st)=>(iN st rs).bind λl=>match l with
  | .v p::.own d::r=>(bh st.m d).bind λob=>(cT r).map λys=>(p,ob,ys)
  | _=>none
theorem Vu {S:Sys} {c:bN} {rs:a_ RV} {rc:RC} {st:St} {p:V} {ob:bu} {ys:a_ V} (h:jE S c (IU rs) rc [] st=some (p,ob,ys)):∃o st' d,cA S c rc st=some (o,st')/\(∀id,o≠.exit id)/\iN st' rs=some (.v p::.own d::ys.map .v)/\bh st'.m d=some ob:=by
 rw[nL]at h;obtain⟨⟨o,st'⟩,h1,t⟩:=ζg.1 h;have w:∀id,o≠.exit id:=by rintro id rfl;simp[IU]at t
 have z:(iN st' rs).bind (λl=>match l with|.v p::.own d::r=>(bh st'.m d).bind λob=>(cT r).map λys=>(p,ob,ys)|_=>none)=some (p,ob,ys):=by
  cases o with
  | exit id=>exact absurd rfl (w id)
  | norm=>exact t
  | ret=>exact t
 obtain⟨l,B,u⟩:=ζg.1 z;split at u
 .obtain⟨C,D,G⟩:=ζg.1 u;obtain⟨L,I,J⟩:=ζf.1 G;cases J;exact⟨o,st',_,h1,w,by rw[B,wE I],D⟩
 cases u
structure Ut (S:Sys) (c:bN) {α δ ε:Type} [bz δ] [gj ε] (E1:α->V) (m:Option (α×Sl δ×ε)) where
 n:FuncId
 az:List V
 k:S.E.keep n=true
 o:S.E.own n=false
 q:(S.prm n).isNone=true
 h:∀r,m=some r->∃e m',c n (az.map .v) []=some (.v (E1 r.1)::.own e::(gj.e r.2.2).map .v,m')/\bh m' e=some (cq r.2.1)
abbrev Ut.mk' {S:Sys} {T:pg} {α δ ε:Type} [bz δ] [gj ε] {E1:α->V} {m:bf (α×Sl δ×ε)} (fn:FuncId) (az:a_ V)
 (h:Le (m.bind λr=>some (E1 r.1,cq r.2.1,gj.e r.2.2)) (bV S (dA S T) (IU (tr T fn)) (.rc (tb T fn),[],start (az.map .v) [])))
 (u:(T fn).isSome=true:=by kernel_rfl) (hk:S.E.keep fn=true:=by kernel_rfl) (B:S.E.own fn=false:=by kernel_rfl) (D:(S.prm fn).isNone=true:=by kernel_rfl) (G:Nat.ble az.length (pF (T fn)).na=true:=by kernel_rfl):Ut S (dA S T) E1 m where
 n:=fn
 az:=az
 k:=hk
 o:=B
 q:=D
 h r hr:=by
  have t:=yW u;have h1:=h (E1 r.1,cq r.2.1,gj.e r.2.2) (by rw[hr];rfl)
  change jE S (dA S T) (IU (pF (T fn)).rs) (pF (T fn)).body [] (start (az.map .v) [])=some (E1 r.1,cq r.2.1,gj.e r.2.2)at h1;obtain⟨o,st',d,g1,g2,g3,g4⟩:=Vu h1;refine⟨d,st'.m,?_,g4⟩;rw[qn t];unfold lF;rw[if_pos (by simpa using Nat.le_of_ble_eq_true G),g1]
  cases o with
  | exit id=>exact absurd rfl (g2 id)
  | norm=>simp only[g3,Option.map_some]
  | ret=>simp only[g3,Option.map_some]
section
variable {S:Sys} {c:bN} {β γ:Type} {Q:Out×St->bf β} {e:γ->bf β} {cf:Cf}
end
section
variable {α:Type} [bz α]
abbrev jP (s:Sl (Sl α)):bu:=.dp s.k (rows s.l) none
abbrev Gw (s:Sl (Sl α)) (i:Int) (t:Nat):bu:=.dp s.k (rows s.l) (some (i.toNat,t))
def jk (s:Sl (Sl α)) (i:Int) (x:Sl α):Sl (Sl α):=match s with
 | .row l=>.row (l.set i.toNat x)
 | .part l=>.part (l.set i.toNat x)
 | s=>s
theorem Th:(idx (Sl.row [(Sl.nil:Sl α)]) 0).bind Sl.whole=some .nil:=rfl
theorem C2 (s:Sl (Sl α)) (i:Int) (x:Sl α):(jk s i x).l=s.l.set i.toNat x/\(jk s i x).k=s.k:=by
 cases s <;> simp[jk,Sl.l,Sl.k]
theorem Dj {s:Sl (Sl α)} {i:Int} {y:Sl α} (h:(idx s i).bind Sl.whole=some y):0<=i/\s.l[i.toNat]? = some y/\y.k≠.part/\bR s.k=true/\i.toNat<s.l.length:=by
 obtain⟨z,h1,t⟩:=ζg.1 h;unfold idx at h1;split at h1
 .rename_i w;have u:=(ζe.1 h1).1;have hk:bR s.k=true:=by cases s <;> first|rfl|(simp[Sl.l]at u)
  cases z with
  | part l=>cases t
  | nil=>cases t;exact⟨w,h1,by simp[Sl.k],hk,u⟩
  | emp=>cases t;exact⟨w,h1,by simp[Sl.k],hk,u⟩
  | row l=>cases t;exact⟨w,h1,by simp[Sl.k],hk,u⟩
 cases h1
theorem LB {y:Sl α} (h:y.k≠.part):OZ (bz.size α) (cells y)=some (cq y):=by
 cases y with
 | nil=>rfl
 | emp=>rfl
 | row l=>simp[Oa,cg,iY,Sl.k,Sl.l,OZ,cq]
 | part l=>exact absurd rfl h
end
def E3 (fo:Fo) (fs:a_ Fm):bf (Gh×Fo×a_ Fm):=match fo,fs with
 | .rc (.gh g a),fs=>some (g,.rc a,fs)
 | .ops false fr (⟨d,gd,now,k,az,dd,x::t⟩::r),fs=>some (x,.ops false fr (⟨d,gd,now,k,az,dd,t⟩::r),fs)
 | .nx,.gst g::fs=>some (g,.nx,fs)
 | _,_=>none
def JU (st:St) (l:Loc):bf Int:=match Kj st l with
 | some (.v (.int _ i))=>some i
 | _=>none
theorem P9 {st:St} {x:Loc} {i:Int} (h:JU st x=some i) (u:0<=i):MI st x=some i.toNat:=by
 unfold JU at h;unfold MI;split at h
 next h1=>cases h;simp only[h1,if_pos u]
 cases h
def gx (S:Sys) (c:bN) (n:Nat) (cf:Cf) (φ:St->St):Cf:=match fC S c n cf.1 cf.2.1 cf.2.2 with
 | some (fo,fs,st)=>match E3 fo fs with
  | some (_,t,fs')=>(t,fs',φ st)
  | none=>cf
 | none=>cf
section
variable {S:Sys} {c:bN} {β γ δ α:Type} [bz α] {Q:Out×St->bf β} {e:γ->bf β} {cf:Cf}
theorem Un {n:Nat} {m:bf β} {φ:St->St} {g:Gh} {fo fo':Fo} {fs fs':a_ Fm} {st:St} (h1:fC S c n cf.1 cf.2.1 cf.2.2=some (fo,fs,st)) (u:E3 fo fs=some (g,fo',fs')) (B:ghost g st=some (φ st))
 (h:Le m (bV S c Q (gx S c n cf φ))):Le m (bV S c Q cf):=by
 refine yB h1 ?_;have t:tX S c fo fs st=some (fo',fs',φ st):=by
  unfold E3 at u;split at u <;> cases u <;> simp[tX,B]
 show Le m (rn S c Q fo fs st);rw[EU t];simpa [gx,h1,u]using h
theorem LI {n:Nat} {α:Type} {φ:Gh->St->α} {a:α} (h:(fC S c n cf.1 cf.2.1 cf.2.2).bind (λp=>(E3 p.1 p.2.1).map λq=>φ q.1 p.2.2)=some a) :
 ∃fo fs st g fo' fs',fC S c n cf.1 cf.2.1 cf.2.2=some (fo,fs,st)/\E3 fo fs=some (g,fo',fs')/\φ g st=a:=by
 obtain⟨⟨fo,fs,st⟩,h1,t⟩:=ζg.1 h;obtain⟨⟨g,fo',fs'⟩,u,w⟩:=ζf.1 t;exact⟨fo,fs,st,g,fo',fs',h1,u,w⟩
theorem x6 (n d t:Nat) (x:Loc) {s:Sl (Sl α)} {i:Int} {f:Sl α->bf γ} (h:∀y,(idx s i).bind Sl.whole=some y->Le ((f y).bind e) (bV S c Q (gx S c n cf λst=>{ st with m:=bB (bB st.m d (Gw s i t)) t (cq y) })))
 (B:(fC S c n cf.1 cf.2.1 cf.2.2).bind (λp=>(E3 p.1 p.2.1).map λq=>(q.1,bh p.2.2.m d,JU p.2.2 x,p.2.2.new t))=some (.take d x (bz.size α) t,some (jP s),some i,true):=by kernel_rfl):Le ((((idx s i).bind Sl.whole).bind f).bind e) (bV S c Q cf):=by
 cases u:(idx s i).bind Sl.whole with
 | none=>exact Le.none _
 | some y=>
  obtain⟨fo,fs,st,g,z,fs',h1,C,w⟩:=LI (φ:=λg st=>(g,bh st.m d,JU st x,st.new t)) B
  simp only[ζc]at w;obtain⟨rfl,D,G,I⟩:=w;obtain⟨g1,g2,g3,g4,g5⟩:=Dj u;refine Un h1 C ?_ (h y u);show zI d x (bz.size α) t st=_;unfold zI;rw[D,P9 G g1];simp only[g4,I,and_self,if_true];have:(rows s.l)[i.toNat]? = some (cells y):=by rw[rows,List.getElem?_map,g2];rfl
  rw[this,ζb,LB g3];rfl
theorem zj (n d t:Nat) {s:Sl (Sl α)} {i:Int} {y D:Sl α} (hr:(idx s i).bind Sl.whole=some D) {f:Sl α->bf γ} (h:∀z,y.whole=some z->Le ((f z).bind e) (bV S c Q (gx S c n cf λst=>{ st with m:=bB (cB t st.m) d (jP (jk s i z)) })))
 (G:(fC S c n cf.1 cf.2.1 cf.2.2).bind (λp=>(E3 p.1 p.2.1).map λq=>(q.1,bh p.2.2.m d,bh p.2.2.m t,Nat.beq t d))=some (.put d,some (Gw s i t),some (cq y),false):=by kernel_rfl):Le (((y.whole).bind f).bind e) (bV S c Q cf):=by
 cases w:y.whole with
 | none=>exact Le.none _
 | some z=>
  obtain⟨fo,fs,st,g,C,fs',h1,I,B⟩:=LI (φ:=λg st=>(g,bh st.m d,bh st.m t,Nat.beq t d)) G
  simp only[ζc]at B;obtain⟨rfl,J,L,O⟩:=B;obtain⟨g1,g2,g3,g4,g5⟩:=Dj hr;have T:z=y/\y.k≠.part:=by cases y <;> cases w <;> exact⟨rfl,by simp[Sl.k]⟩
  obtain⟨rfl,hk⟩:=T;refine Un h1 I ?_ (h z w);show uU d st=_;have u:t≠d:=λe=>by subst e;simp at O
  unfold uU;rw[J];simp only[L,cq,ne_eq,hk,not_false_eq_true,u,g4,and_self,if_true];have:(rows s.l).set i.toNat [iY z.k (bz.size α) (rows z.l)]=rows (jk s i z).l:=by
   rw[(C2 s i z).1];simp[rows,List.map_set];rfl
  rw[this,<-(C2 s i z).2]
theorem FQ (n d t:Nat) (k:IntKind) {s:Sl (Sl α)} {i:Int} {y:Sl α} (hr:(idx s i).bind Sl.whole=some y) {m:bf β} (h:Le m (bV S c Q (nx S c n cf λp=>cU p.st p.d (.el d i.toNat 0))))
 (u:(fu S c n cf).map (λp=>(p.k,bQ S.N p.st.g p.az,bh p.st.m d))=some (.p (.idxS 1),some [.own d,.v (.int k i)],some (Gw s i t)):=by kernel_rfl):Le m (bV S c Q cf):=by
 obtain⟨p,w,hv⟩:=en u;simp only[ζc]at hv;obtain⟨g1,g2,g3,g4,g5⟩:=Dj hr;refine sw w ?_ h;rw[hv.1,JH _ _ _ _ _ _ _ rfl,hv.2.1,ζb,HZ,hv.2.2];simp[GQ,g1,g4,g5,gi]
theorem Fj (n d t:Nat) {s:Sl (Sl α)} {i:Int} {y:Sl α} (hr:(idx s i).bind Sl.whole=some y) {m:bf β} (h:Le m (bV S c Q (nx S c n cf λp=>cU p.st p.d (.own t))))
 (u:(fu S c n cf).map (λp=>(p.k,bQ S.N p.st.g p.az,bh p.st.m d,(!p.dr||p.now||eB p.fr [.el d i.toNat 0])))=some (.r (.load 1 false),some [.el d i.toNat 0],some (Gw s i t),true):=by kernel_rfl):Le m (bV S c Q cf):=by
 obtain⟨p,w,hv⟩:=en u;simp only[ζc]at hv;refine sw w ?_ h;rw[hv.1,BF,hv.2.1,ζb,hv.2.2.2,if_pos rfl,OI,hv.2.2.1];simp[B8]
theorem Ti (n u t:Nat) {m:bf β} (h:Le m (bV S c Q (nx S c n cf λp=>{ p.st with g:=bB p.st.g u (.own u),m:=bB p.st.m u (Gw (Sl.row [(Sl.nil:Sl α)]) 0 t) })))
 (B:(fu S c n cf).map (λp=>(p.d,p.k,bQ S.N p.st.g p.az,p.st.new u,(bh p.st.m t).isSome))=some (some u,.a (.buildSl 1 1 [.bE] [0]),some [.own t],true,true):=by kernel_rfl):Le m (bV S c Q cf):=by
 obtain⟨p,w,hv⟩:=en B;simp only[ζc]at hv;refine sw w ?_ h;rw[hv.1,hv.2.1,wR,hv.2.2.1,ζb,if_pos hv.2.2.2.1];have:lR p.st.m (.buildSl 1 1 [.bE] [0]) [.own t] u=some (Gw (.row [(.nil:Sl α)]) 0 t,.own u):=by
  unfold lR;simp only[cT,and_self,true_and];rw[if_pos hv.2.2.2.2];rfl
 rw[this];rfl
theorem TM (n d u t:Nat) {s:Sl (Sl α)} {x:Sl α} {f:Sl (Sl α)->bf γ} (h:∀B,eA s x=some B->Le ((f B).bind e) (bV S c Q (nx S c n cf λp=>{ p.st with g:=bB p.st.g t (.own t),m:=bB (cB u (cB d p.st.m)) t (jP B) })))
 (D:(fu S c n cf).map (λp=>(p.d,p.k,bQ S.N p.st.g p.az,bh p.st.m d,bh p.st.m u,(!p.dr||p.now),Nat.beq d u,St.new { p.st with m:=cB u (cB d p.st.m) } t))=some (some t,.l (.append 1),some [.own d,.own u],some (jP s),some (jP (.row [x])),true,false,true):=by kernel_rfl):Le (((eA s x).bind f).bind e) (bV S c Q cf):=by
 obtain⟨p,G,hv⟩:=en D;simp only[ζc]at hv;obtain⟨I,J,L,z,C,O,T,U⟩:=hv;have w:d≠u:=λe=>by subst e;simp at T
 refine pN G ?_ h;rw[I,J,oU,L,ζb,O,if_pos rfl];have:gB p.st (some t) (.append 1) [.own d,.own u]=uJ p.st (some t) 1 (.own d) (.own u):=by
  unfold gB;simp[gW,z,C]
 have W:rows (Sl.row [x]).l≠[]:=by simp[Sl.l,rows]
 have Y:(rows (Sl.row [x]).l).length=1:=rfl;have hc:rows s.l++rows (Sl.row [x]).l=rows (s.l++[x]):=by simp[rows,Sl.l]
 have X:uJ p.st (some t) 1 (.own d) (.own u)=(eA s x).bind λB=>some (.own t,{ p.st with m:=bB (cB u (cB d p.st.m)) t (jP B) }):=by
  simp only[uJ,sP,z,C,eA,jP];rw[show (Sl.row [x]).k=.row from rfl];simp only[true_and,ne_eq,w,not_false_eq_true,W,gi,show (Sl.row [x]).l.length=1 from rfl,U,if_true,hc]
  by_cases h:s.l.length+1<=2147483648
  .rw[if_pos h,if_pos h];rfl
  rw[if_neg h,if_neg h];rfl
 rw[this,X]
 cases eA s x with
 | none=>exact Le.none _
 | some B=>exact Le.of_eq rfl
end
end Go.VE
namespace Go.VE
def bit.and (k:IntKind) (a b:Int):Int:=k.wrap (BitVec.ofInt k.bits a &&& BitVec.ofInt k.bits b).toNat
def bit.or (k:IntKind) (a b:Int):Int:=k.wrap (BitVec.ofInt k.bits a ||| BitVec.ofInt k.bits b).toNat
def bit.xor (k:IntKind) (a b:Int):Int:=k.wrap (BitVec.ofInt k.bits a ^^^ BitVec.ofInt k.bits b).toNat
def bit.andNot (k:IntKind) (a b:Int):Int:=k.wrap (BitVec.ofInt k.bits a &&& ~~~ BitVec.ofInt k.bits b).toNat
variable [bK]
section
variable {S:Sys} {c:bN} {β γ δ:Type} {Q:Out×St->bf β} {e:γ->bf β} {cf:Cf}
end
abbrev uS.map {S:Sys} {c:bN} {δ ε:Type} {m:bf δ} (F:uS S c m) (g:δ->ε) (E:ε->a_ V) (M:ε->c8) (u:∀r,F.E r=E (g r)) (B:∀r,F.M r=M (g r)):uS S c (m.map g):=⟨F.n,F.az,F.os,E,M,F.k,F.o,F.q,λr hr=>by
 obtain⟨s,t,rfl⟩:=ζf.1 hr;rw[<-u,<-B];exact F.h s t⟩
section
variable {S:Sys} {c:bN} {β γ α:Type} [bz α] {Q:Out×St->bf β} {e:γ->bf β} {cf:Cf}
theorem RR (n d u w t:Nat) {s:Sl (Sl α)} {y:Sl α} {f:Sl (Sl α)->bf γ}
 (h:∀z,y.whole=some z->∀B,eA s z=some B->Le ((f B).bind e) (bV S c Q (nx S c n cf λp=>{ p.st with g:=bB p.st.g t (.own t),m:=bB (cB u (cB d (bB (cB w p.st.m) u (jP (.row [z]))))) t (jP B) })))
 (hL:(fu S c n cf).map (λp=>(p.d,p.k,bQ S.N p.st.g p.az,bh p.st.m d,bh p.st.m u,bh p.st.m w,(!p.dr||p.now),Nat.beq d u,Nat.beq w u,Nat.beq w d))=some (some t,.l (.append 1),some [.own d,.own u],some (jP s),some (Gw (Sl.row [(Sl.nil:Sl α)]) 0 w),some (cq y),true,false,false,false):=by kernel_rfl)
 (hN:∀z:Sl α,(fu S c n cf).map (λp=>St.new { p.st with m:=cB u (cB d (bB (cB w p.st.m) u (jP (.row [z])))) } t)=some true:=by intro z;kernel_rfl):Le (((y.whole).bind λz=>(eA s z).bind f).bind e) (bV S c Q cf):=by
 obtain⟨p,X,hv⟩:=en hL;simp only[ζc]at hv;obtain⟨v1,v2,v3,Y,I,v6,v7,v8,v9,J⟩:=hv;have C:d≠u:=λe=>by subst e;simp at v8
 have L:w≠u:=λe=>by subst e;simp at v9
 have O:w≠d:=λe=>by subst e;simp at J
 cases Z:y.whole with
 | none=>exact Le.none _
 | some z=>
  show Le (((eA s z).bind f).bind e) _;refine pN X ?_ (h z Z);have hz:z=y/\y.k≠.part:=by cases y <;> cases Z <;> exact⟨rfl,by simp[Sl.k]⟩
  obtain⟨rfl,hk⟩:=hz;have G:=hN z;rw[X]at G;have G:St.new { p.st with m:=cB u (cB d (bB (cB w p.st.m) u (jP (.row [z])))) } t=true:=Option.some.inj G;rw[v1,v2,oU,v3,ζb,v7,if_pos rfl];have e1:gB p.st (some t) (.append 1) [.own d,.own u]=uJ p.st (some t) 1 (.own d) (.own u):=by
   unfold gB;simp[gW,Y,I]
  have D:uU u p.st=some { p.st with m:=bB (cB w p.st.m) u (jP (.row [z])) }:=by
   unfold uU;rw[I];have T:bR (Sl.row [(Sl.nil:Sl α)]).k=true:=rfl;simp only[v6,cq,ne_eq,hk,not_false_eq_true,L,T,and_self,if_true];rfl
  have g1:bh (bB (cB w p.st.m) u (jP (.row [z]))) d=some (jP s):=by
   rw[cn _ _ (Ne.symm C)];rw[qV _ O];exact Y
  have g2:bh (bB (cB w p.st.m) u (jP (.row [z]))) u=some (jP (.row [z])):=bW _ _ _;have U:rows (Sl.row [z]).l≠[]:=by simp[Sl.l,rows]
  have hc:rows s.l++rows (Sl.row [z]).l=rows (s.l++[z]):=by simp[rows,Sl.l]
  have ha:uJ p.st (some t) 1 (.own d) (.own u)=(eA s z).bind λB=>some (.own t,{ p.st with m:=bB (cB u (cB d (bB (cB w p.st.m) u (jP (.row [z]))))) t (jP B) }):=by
   simp only[uJ,I,D,sP,g1,g2,eA,jP];rw[show (Sl.row [z]).k=.row from rfl]at *;simp only[true_and,ne_eq,C,not_false_eq_true,U,gi,show (Sl.row [z]).l.length=1 from rfl,hc];have W:St.new { p.st with m:=cB u (cB d (bB (cB w p.st.m) u (.dp .row (rows (Sl.row [z]).l) none))) } t=true:=G
   by_cases h:s.l.length+1<=2147483648
   .rw[if_pos h,if_pos h,if_pos W];rfl
   rw[if_neg h,if_neg h];rfl
  rw[e1,ha]
  cases eA s z with
  | none=>exact Le.none _
  | some B=>exact Le.of_eq rfl
end
namespace catX
instance {n:Nat}:OfNat Arg n:=⟨.s n⟩
def ln:K:=.p .lenSl
def ix:K:=.p (.idxS 1)
def bI (o:BinOp):K:=.p (.bin (some .int) none o)
def ld:K:=.r (.load 1 false)
def g1:a_ RO:=[o1 4 (.k (.bE)) []]
def g2:a_ RO:=[o1 5 1 [],o2 6 (bI .lss) [5,.k (.int .i64 0)] []]
def g3:a_ RO:=[o2 7 (.p (.bad)) [] [],⟨none,none,false,.p .bad,[],[],[]⟩]
def g4:a_ RO:=[o1 8 1 [],o1 9 0 [],o2 10 (.p (.capSl)) [9] [],o1 11 0 [],o2 12 ln [11] [],o2 13 (bI .sub) [10,12] [],o2 14 (bI .sub) [8,13] [],o1 1 14 []]
def g5:a_ RO:=[o1 15 1 [],o2 16 (bI .gtr) [15,.k (.int .i64 0)] []]
def g6:a_ RO:=[o1 17 0 [],o1 18 0 [],o2 19 (.p (.capSl)) [18] [],o2 20 (.p (.slice 1 false true)) [17,19] [],o1 21 1 [],o2 22 (.l (.appMk 1 24 [.bE])) [20,21] [],o1 23 0 [],o2 24 ln [23] [],o2 25 (.p (.slice 1 false true)) [22,24] [],o1 0 25 []]
def g7:a_ RO:=[o1 26 0 [],o1 4 26 []]
def grow:RC:=.seq (.ops g1) (.seq (.seq (.ops g2) (.cond (.s 6) (.ops g3) (.skip))) (.seq (.seq (.ops g4) (.seq (.ops g5) (.cond (.s 16) (.ops g6) (.skip)))) (.seq (.ops g7) (.ret))))
section
variable {E:Env} {N:Nat->FuncId} {t:Nat}
attribute [local simp] dZ lG gT bP pq uQ mA qS bI ln
end
end catX
namespace catX
def r1:a_ RO:=[o1 2 (.k (.bE)) []]
def r2:a_ RO:=[o1 3 (.k (.int .i64 0)) []]
def r3:a_ RO:=[o1 9 0 [],o2 10 ln [9] [],o1 11 (.k (.int .i64 0)) []]
def r4:a_ RO:=[o2 12 (bI .lss) [11,10] []]
def r5:a_ RO:=[o2 13 ix [9,11] [],o2 14 ld [13] [],o1 5 14 []]
def r6:a_ RO:=[o1 15 3 [],o1 16 5 [],o2 17 ln [16] [],o2 18 (bI .add) [15,17] [],o1 3 18 []]
def r7:a_ RO:=[o1 19 3 [],o2 20 (bI .lss) [19,.k (.int .i64 0)] []]
def r8:a_ RO:=[o2 21 (.p (.bad)) [] [],⟨none,none,false,.p .bad,[],[],[]⟩]
def r9:a_ RO:=[o2 22 (bI .add) [11,.k (.int .i64 1)] [],o1 11 22 []]
def Lv (gid:Nat):a_ RO:=[o1 23 3 [],o2 24 .c [.f gid,.k (.bE),23] [],o1 6 24 []]
def HU:a_ RO:=[o1 25 0 [],o2 26 ln [25] [],o1 27 (.k (.int .i64 0)) []]
def IF:a_ RO:=[o2 28 (bI .lss) [27,26] []]
def II:a_ RO:=[o2 29 ix [25,27] [],o2 30 ld [29] [],o1 8 30 []]
def O_:a_ RO:=[o1 31 6 [],o1 32 8 [],o2 33 (.l (.append 1)) [31,32] [],o1 6 33 []]
def O2:a_ RO:=[o2 34 (bI .add) [27,.k (.int .i64 1)] [],o1 27 34 []]
def r16:a_ RO:=[o1 35 6 [],o1 2 35 []]
section
variable {E:Env} {N:Nat->FuncId} {F:Frame} {H:bp} {α:Type} [bz α] {s:Sl (Sl α)} {i:Nat}
theorem el {u:Sl α} (h:s.l[i]? = some u):kC 1 (cg s) (i:Int)=some (.fptr [cg u]):=by
 have:=HW (N:=λn=>n) s .i64 (i:Int) 1 rfl
 simp only[bP]at this;rw[this,show idx s (i:Int)=some u from by unfold idx;grind];rfl
theorem Vj (s:Sl α):pE (cg s)=some (.int .i64 s.l.length):=by
 have:=GN (N:=λn=>n) s;simpa only[bP]using this
attribute [local simp] dZ lG gT bP pq uQ mA qS Vj bI ln ix ld
theorem y3:(get F 0=cg s->∃F',(∀call,dZ E N call none r3 F H=some (F',H))/\get F' 9=cg s/\get F' 10=.int .i64 s.l.length/\get F' 11=.int .i64 0/\∀j,j<9->get F' j=get F j) /\
 (get F 0=cg s->∃F',(∀call,dZ E N call none HU F H=some (F',H))/\get F' 25=cg s/\get F' 26=.int .i64 s.l.length/\get F' 27=.int .i64 0/\∀j,j<9->get F' j=get F j):=by
 refine⟨λf0=>⟨_,λcall=>by simp[r3,f0];rfl,?_⟩,λf0=>⟨_,λcall=>by simp[HU,f0];rfl,?_⟩⟩ <;>
  (simp;grind)
theorem y4 {n:Nat}:(get F 11=.int .i64 i->get F 10=.int .i64 n->∃F',(∀call,dZ E N call none r4 F H=some (F',H))/\get F' 12=.bool (decide (i<n))/\∀j,j<12->get F' j=get F j) /\
 (get F 27=.int .i64 i->get F 26=.int .i64 n->∃F',(∀call,dZ E N call none IF F H=some (F',H))/\get F' 28=.bool (decide (i<n))/\∀j,j<28->get F' j=get F j):=by
 refine⟨λf t=>⟨_,λcall=>by simp[r4,f,t];rfl,?_⟩,λf t=>⟨_,λcall=>by simp[IF,f,t];rfl,?_⟩⟩ <;>
  (simp;grind)
theorem y5 {u:Sl α} (h:s.l[i]? = some u):(get F 9=cg s->get F 11=.int .i64 i->∃F',(∀call,dZ E N call none r5 F H=some (F',H))/\get F' 5=cg u/\∀j,j<12->j≠5->get F' j=get F j) /\
 (get F 25=cg s->get F 27=.int .i64 i->∃F',(∀call,dZ E N call none II F H=some (F',H))/\get F' 8=cg u/\∀j,j<28->j≠8->get F' j=get F j):=by
 have e:=el h;have e2:eF H (.load 1 false) [.fptr [cg u]]=some (cg u):=by simp[eF,dV,cut,mk]
 refine⟨λf t=>⟨_,λcall=>by simp[r5,f,t,e,e2];rfl,?_⟩,λf t=>⟨_,λcall=>by simp[II,f,t,e,e2];rfl,?_⟩⟩ <;>
  (simp;grind)
structure Acc (H:bp) (w:V) (acc:List (List V)):Prop where
 el:dz H 1 w=some acc
 gr:∃H1,fR H w=some H1/\H1.length=H.length
 sh:w=.bE/\acc=[]\/∃id xs,w=.hsl id 1 0 acc.length/\H[id]? = some (.row 1 xs)/\(acc≠[]->xs=acc)
def upto (s:Sl (Sl α)) (i:Nat):a_ α:=(s.l.take i).flatMap Sl.l
end
end catX
def mI (op:Bool) (x y:Int):Int:=cond op x y
@[simp] theorem Uc (x y:Int):mI true x y=x:=rfl
@[simp] theorem Uj (x y:Int):mI false x y=y:=rfl
def Sl.setAt (s:Sl Int) (p v:Int):bf (Sl Int):=if 0<=p/\p.toNat<s.l.length then some (s.re (s.l.set p.toNat v))else none
def zq (op:Bool) (es:Nat) (xs:a_ (a_ V)):a_ V->bf (a_ (a_ V))
 | [.agg [.int .i64 a,.int .i64 b],.agg [.int .i64 c,.int .i64 d]]=>
  if es=1/\(xs.all λx=>x.length==1)=true/\0<=(mI op c a)/\(mI op c a).toNat<xs.length then
   some (xs.set (mI op c a).toNat [.int .i64 (mI op (IntKind.wrap .i64 (d-1)) b)])else none
 | _=>none
def vG (op:Bool):Fz:=⟨false,zq op⟩
namespace setX
instance {n:Nat}:OfNat Arg n:=⟨.s n⟩
def fa (k:Nat):K:=.p (.fieldAddr k)
def ld:K:=.r (.load 1 false)
def r1:a_ RO:=[o2 4 (.a .box) [1] [],o2 5 (.a .box) [2] []]
def r2:a_ RO:=[o1 6 0 [],o2 7 (fa 0) [4] [],o2 8 ld [7] [],o2 9 (fa 1) [4] [],o2 10 ld [9] [],o2 11 (.p (.idxS 1)) [6,8] [],⟨none,none,false,.l (.store 1),[11,10],[],[]⟩]
def r3:a_ RO:=[o1 6 0 [],o2 7 (fa 0) [5] [],o2 8 ld [7] [],o2 9 (fa 1) [5] [],o2 10 ld [9] [],o2 11 (.p (.bin (some .int) none .sub)) [10,.k (.int .i64 1)] [],o2 12 (.p (.idxS 1)) [6,8] [],⟨none,none,false,.l (.store 1),[12,11],[],[]⟩]
def code (op:Bool):RC:=.seq (.ops r1) (.ops (if op then r3 else r2))
section
variable {E:Env} {N:Nat->FuncId} {H:bp} {id off L:Nat} {rs:a_ (a_ V)}
theorem O1 {h:Nat} {x y:V} {i:Nat} {v:V} (u:H[h]? = some (.row 2 [[x,y]])) (hv:[x,y][i]? = some v):eF H (.load 1 false) [.hptr h 0 i]=some v:=by
 match i,hv with
 | 0,hv=>cases hv;simp[eF,dV,u,Ob.rows,cut,mk]
 | 1,hv=>cases hv;simp[eF,dV,u,Ob.rows,cut,mk]
 | i+2,hv=>simp at hv
attribute [local simp] dZ lG gT bP pq uQ mA qS
theorem whole (op:Bool) {a b c d:Int} (D:H[id]? = some (.row 1 rs)) (hp:0<=(mI op c a)) (u:(mI op c a).toNat<L) {z:V} (B:rs[off+(mI op c a).toNat]? = some [z]) :
 ∃F' X,Ex E N (code op) [.hsl id 1 off L,.agg [.int .i64 a,.int .i64 b],.agg [.int .i64 c,.int .i64 d]] H .norm F' ((H++X).set id (.row 1 (rs.set (off+(mI op c a).toNat) [.int .i64 (mI op (IntKind.wrap .i64 (d-1)) b)]))):=by
 let X:bp:=[.row 2 [[.int .i64 a,.int .i64 b]],.row 2 [[.int .i64 c,.int .i64 d]]]
 have G:=(ζe.1 D).1;have e1:∃F1,(∀call,dZ E N call none r1 [.hsl id 1 off L,.agg [.int .i64 a,.int .i64 b],.agg [.int .i64 c,.int .i64 d]] H=some (F1,H++X))/\get F1 0=.hsl id 1 off L/\get F1 4=.hptr H.length 0 0/\get F1 5=.hptr (H.length+1) 0 0:=by
  exact⟨_,λcall=>by simp[r1,get,set,kr,V.cells,V.one,Mk.val,X];rfl,rfl,rfl,rfl⟩
 obtain⟨F1,p1,p2,p3,p4⟩:=e1;have h1:(H++X)[id]? = some (.row 1 rs):=by rw[List.getElem?_append_left G];exact D
 have I:(H++X)[H.length]? = some (.row 2 [[.int .i64 a,.int .i64 b]]):=by simp[X]
 have J:(H++X)[H.length+1]? = some (.row 2 [[.int .i64 c,.int .i64 d]]):=by
  rw[List.getElem?_append_right Za];simp[X]
 obtain⟨H1,O⟩:∃H1,H1=H++X:=⟨_,rfl⟩;rw[<-O]at h1 I J;rw[<-O]at p1
 suffices U:∃F',Ex E N (code op) [.hsl id 1 off L,.agg [.int .i64 a,.int .i64 b],.agg [.int .i64 c,.int .i64 d]] H .norm F' (H1.set id (.row 1 (rs.set (off+(mI op c a).toNat) [.int .i64 (mI op (IntKind.wrap .i64 (d-1)) b)])))by
  obtain⟨F',W⟩:=U;exact⟨F',X,by rw[<-O];exact W⟩
 have w:∀p:Int,0<=p->p.toNat<L->kC 1 (.hsl id 1 off L) p=some (.hptr id (off+p.toNat) 0):=λp Z Y=>by
  unfold kC;rw[if_neg Za];simp[Y]
 have C:∀(q:Nat) (z v:V),rs[q]? = some [z]->v.one=true->eE H1 (.store 1) [.hptr id q 0,v]=some (.undef,H1.set id (.row 1 (rs.set q [v]))):=λq z v B hv=>by
  simp[eE,h1,B,DX hv,hv]
 cases op with
 | false=>
  simp only[Uj]at hp u B ⊢;have Q:=O1 (i:=0) I rfl;have S:=O1 (i:=1) I rfl;have e2:∃t,(∀call,dZ E N call none r2 F1 H1=some (t,H1.set id (.row 1 (rs.set (off+a.toNat) [.int .i64 b])))):=by
   exact⟨_,λcall=>by simp[r2,p2,p3,fa,ld,oK,Q,S,w a hp u,C _ z (.int .i64 _) B rfl];rfl⟩
  obtain⟨t,T⟩:=e2;exact⟨t,Ex.seq (Ex.iM p1) (Ex.iM (l:=_) T)⟩
 | true=>
  simp only[Uc]at hp u B ⊢;have Q:=O1 (i:=0) J rfl;have S:=O1 (i:=1) J rfl;have e2:∃t,(∀call,dZ E N call none r3 F1 H1=some (t,H1.set id (.row 1 (rs.set (off+c.toNat) [.int .i64 (IntKind.wrap .i64 (d-1))])))):=by
   exact⟨_,λcall=>by simp[r3,p2,p4,fa,ld,oK,Q,S,w c hp u,C _ z (.int .i64 _) B rfl];rfl⟩
  obtain⟨t,T⟩:=e2;exact⟨t,Ex.seq (Ex.iM p1) (Ex.iM (l:=_) T)⟩
end
end setX
theorem Ex.runN {E:Env} {nm:FuncId->bf Nat} {N:Nat->FuncId} (u:∀f s,nm f=some s->N s=f) {f:FuncId} {fi:FI} {rc:RC} (B:E.ft f=some fi) (hc:bH ⟨E,nm,fi.ntmps⟩ false fi.body=some rc) {args:a_ V} (D:args.length<=fi.ntmps) {H H':bp} {F':Frame}
 (h:Ex E N rc args H .norm F' H') {vs:a_ V} (hr:iP E F' H' fi.results=some vs):∃n,Go.VE.run E n (.fn f) args H=some (result vs,H'):=by
 obtain⟨n,h⟩:=h;refine⟨n+1,?_⟩;have:=FV (X:=⟨E,nm,fi.ntmps⟩) (call:=Go.VE.run E n) u (lf:=n) rc fi.body args H _ hc (h n (Nat.le_refl _));simp only[Go.VE.run,jM,B,if_pos D,this,hr,Option.map_some]
theorem QZ {E:Env} {f:FuncId} {nm:FuncId->bf Nat} {N:Nat->FuncId} (op:Bool) (hN:∀f s,nm f=some s->N s=f) (hk:E.keep f=true) (ho:E.own f=false)
 (hf:∃fi,E.ft f=some fi/\bH ⟨E,nm,fi.ntmps⟩ false fi.body=some (setX.code op)/\3<=fi.ntmps/\fi.results=[]):ou E f (vG op):=by
 obtain⟨fi,h1,h2,h3,h4⟩:=hf;refine⟨hk,ho,?_,?_,?_⟩
 .intro es t vs ys h;simp only[vG,zq]at h;split at h
  .split at h
   .cases h;simp
   cases h
  cases h
 .intro es vs ys h H Z ws w hw Q;simp only[vG,zq]at h;split at h
  .split at h
   next hc=>simp at hc
   cases h
  cases h
 intro es t vs ys h H Z ws id off rs hw S aa G I hz;simp only[vG,zq]at h;split at h
 .rename_i a b c d;split at h
  .rename_i hc;cases h;obtain⟨rfl,J,hp,B⟩:=hc;obtain⟨w1,r1,rfl,q1,q2⟩:=hw.inv;obtain⟨w2,r2,rfl,q3,q4⟩:=q2.inv;rw[q4.cZ];have e1:=(q1.scalar).1 rfl;have e2:=(q3.scalar).1 rfl;subst e1 e2;generalize T:(mI op c a).toNat=P at *;have U:off+P<rs.length:=by omega
   have W:∃z,rs[off+P]? = some [z]:=by
    have D:t[P]? = some t[P]:=ζd B;have:=(G.2 P _ _ D (by rw[List.getElem?_take,if_pos B,List.getElem?_drop,ζd U])).1
    have C:=List.all_eq_true.1 J t[P] (List.getElem_mem B);simp only[beq_iff_eq]at C;rw[C]at this;obtain⟨z,hz⟩:=List.length_eq_one_iff.1 this.symm;exact⟨z,by rw[ζd U,hz]⟩
   obtain⟨z,Y⟩:=W;obtain⟨F',X,D⟩:=setX.whole (E:=E) (N:=N) (H:=H) (id:=id) (off:=off) (L:=t.length) op (a:=a) (b:=b) (c:=c) (d:=d) S hp (by rw[T];exact B) (z:=z) (by rw[T];exact Y)
   rw[T]at D;obtain⟨n,hn⟩:=Ex.runN hN h1 h2 (args:=[.hsl id 1 off t.length,.agg [.int .i64 a,.int .i64 b],.agg [.int .i64 c,.int .i64 d]]) (by simpa using h3) D (vs:=[]) (by rw[h4];rfl)
   refine⟨n,rs.set (off+P) [.int .i64 (mI op (IntKind.wrap .i64 (d-1)) b)],X,λk hk=>?_,by simp,?_,?_⟩
   .simp only[vG,Bool.false_eq_true,if_false];exact(th E hk).go _ _ _ _ hn
   .have e:((rs.set (off+P) [V.int .i64 (mI op (IntKind.wrap .i64 (d-1)) b)]).drop off).take (t.set P [V.int .i64 (mI op (IntKind.wrap .i64 (d-1)) b)]).length=((rs.drop off).take t.length).set P [.int .i64 (mI op (IntKind.wrap .i64 (d-1)) b)]:=by
     apply List.ext_getElem?;intro j;rw[List.length_set,List.getElem?_take,List.getElem?_set,List.getElem?_take,List.getElem?_drop,List.getElem?_drop,List.getElem?_set]
     by_cases O:j<t.length
     .rw[if_pos O,if_pos O]
      by_cases Q:P=j
      .subst Q;rw[if_pos rfl,if_pos U,if_pos rfl,if_pos (by simp;omega)]
      rw[if_neg Q,if_neg Za]
     rw[if_neg O,if_neg O,if_neg Za]
    rw[e];exact G.set P (.cons (.same _ rfl) .nil)
   intro x D u hu;rcases List.mem_or_eq_of_mem_set D with h|rfl
   .exact I x h u hu
   simp at hu;subst hu;exact⟨_,.same _ rfl⟩
  cases h
 cases h
structure LC (S:Sys) {α δ:Type} [bz δ] (g:FuncId) (e:List V) (A:α->List V) (p:Sl δ->α->Option (Sl δ)):Prop where
 f:∃q,S.prm g=some q/\q.part=false/\S.E.keep g=true/\S.E.own g=false/\∀s z s',p s z=some s'->q.go (bz.size δ) (rows s.l) (A z++e)=some (rows s'.l)/\s'=s.re s'.l
theorem LC.vG {S:Sys} {g:FuncId} {op:Bool} (hp:S.prm g=some (vG op)) (hk:S.E.keep g=true) (B:S.E.own g=false) :
 LC S g [] (λz:bg×bg=>[enc z.1,enc z.2]) (λs z=>s.setAt (mI op z.2.proc z.1.proc) (mI op (IntKind.wrap .i64 (z.2.index-1)) z.1.index)) where
 f:=by
  refine⟨_,hp,rfl,hk,B,λs z w h=>?_⟩
  unfold Sl.setAt at h;split at h
  .rename_i hc;cases h;have u:∀l:a_ Int,s.l≠[]->(s.re l).l=l:=λl t=>by cases s <;> first|rfl|exact absurd rfl t
   have t:s.l≠[]:=λe=>by rw[e]at hc;simp at hc
   refine⟨?_,by rw[u _ t]⟩
   rw[u _ t];show zq op 1 (rows s.l) [.agg [.int .i64 z.1.proc,.int .i64 z.1.index],.agg [.int .i64 z.2.proc,.int .i64 z.2.index]]=_;unfold zq;simp only;rw[if_pos ⟨trivial,by simp[rows],hc.1,by rw[gi];exact hc.2⟩]
   congr 1
   unfold rows;rw[List.map_set];rfl
  cases h
section
variable {S:Sys} {c:bN} {β γ δ α:Type} [bz δ] {Q:Out×St->bf β} {e:γ->bf β} {cf:Cf}
theorem Sc (n d:Nat) {g:FuncId} {ev:a_ V} {A:α->a_ V} {p:Sl δ->α->bf (Sl δ)} (F:LC S g ev A p) (z:α) {s:Sl δ} {f:Sl δ->bf γ}
 (h:∀u,p s z=some u->Le ((f u).bind e) (bV S c Q (nx S c n cf λq=>cU { q.st with m:=bB q.st.m d (cq u) } q.d (.v .undef))))
 (D:(fu S c n cf).map (λq=>(q.k,bQ S.N q.st.g q.az,bh q.st.m d,q.dr))=some (.c,some (.v (.clo g [] ev)::.own d::(A z).map .v),some (cq s),false):=by kernel_rfl):Le (((p s z).bind f).bind e) (bV S c Q cf):=by
 obtain⟨q,C,hv⟩:=en D;simp only[ζc]at hv;obtain⟨G,I,J,L⟩:=hv;obtain⟨W,f1,O,T,U,f5⟩:=F.f;refine pN C ?_ h;rw[G,L];intro y w;obtain⟨u,B,w⟩:=ζg.1 w;cases w;obtain⟨e1,e2⟩:=f5 s z u B;rw[zh false _ _ _ _ _ _ g (.own d::(A z).map .v++ev.map .v) I rfl];have t:cT ((A z).map SV.v++ev.map .v)=some (A z++ev):=by rw[<-List.map_append];exact kV _
 have hc:eO S c q.d false (!false||q.now) (eM q.st.m q.fr) g (.own d::(A z).map .v++ev.map .v) q.st=some (.v .undef,{ q.st with m:=bB q.st.m d (cq u) }):=by
  unfold eO;simp only[T,U,Bool.not_false,Bool.true_or,Bool.false_and,if_true,Bool.false_eq_true,if_false,f1,Dd,List.cons_append,J,cq,t,e1,O];have e4:(if bR s.k=true then bu.sl s.k (bz.size δ) (rows u.l)else .sl s.k (bz.size δ) (rows s.l))=.sl u.k (bz.size δ) (rows u.l):=by
   rw[e2];cases s <;> rfl
  rw[e4]
 rw[hc];rfl
end
def snap (w:World):b9:=λb=>match w.heap[b]? with
 | some (.cells c _ _)=>some (.cells c)
 | some (.map es _)=>some (.map es)
 | _=>none
theorem M4 {w:World} (hg:sF (snap w)):cM (snap w) (λ_=>none) [] w where
 dom _ _:=rfl
 imm b x h:=by
  unfold snap at h;split at h
  next c el fr t=>cases h;exact⟨el,fr,t⟩
  next es cl t=>cases h;exact⟨cl,t⟩
  cases h
 obs id ob h:=by simp at h
 inj id u ob z p B h:=by simp at h
 gl:=hg
def fK (I:b9) (xs:a_ V) (vs:a_ Value):Prop:=xs.length=vs.length/\∀(j:Nat) a b,xs[j]? = some a->vs[j]? = some b->dU I a b
theorem fK.nil {I:b9}:fK I [] []:=⟨rfl,by simp⟩
theorem fK.one {I:b9} {x:V} {v:Value} (h:dU I x v):fK I [x] [v]:=⟨rfl,λj a b h1 t=>by
 cases j with
 | zero=>simp at h1 t;subst h1 t;exact h
 | succ j=>simp at h1⟩
theorem fK.append {I:b9} {xs ys:a_ V} {u vs:a_ Value} (h:fK I xs u) (k:fK I ys vs):fK I (xs++ys) (u++vs):=by
 refine⟨by simp[h.1,k.1],λj a b h1 t=>?_⟩
 by_cases w:j<xs.length
 .rw[List.getElem?_append_left w]at h1;rw[List.getElem?_append_left (by rw[<-h.1];exact w)]at t
  exact h.2 j a b h1 t
 rw[List.getElem?_append_right Za]at h1
 rw[List.getElem?_append_right (by rw[<-h.1];omega),<-h.1]at t
 exact k.2 _ a b h1 t
theorem A7 {α β:Type} {f:α->bf β}:∀{l:a_ α} {r:a_ β},l.mapM f=some r->r.length=l.length/\∀(i:Nat) a b,l[i]? = some a->r[i]? = some b->f a=some b
 | [],r,h=>by simp only[List.mapM_nil,Option.pure_def,ζa]at h;subst h;simp
 | x::l,r,h=>by
  simp only[List.mapM_cons,Option.bind_eq_bind,Option.pure_def,ζg,ζa]at h;obtain⟨y,B,ys,u,rfl⟩:=h;obtain⟨h1,z⟩:=A7 u;refine⟨by simp[h1],λi a b t w=>?_⟩
  cases i with
  | zero=>simp at t w;subst t w;exact B
  | succ i=>exact z i a b (by simpa using t) (by simpa using w)
structure qZ {H:Type} (b:DataW H->Nat):Prop where
 lit:∀l,1<=b (.lit l)
 str:∀s,s.length+1<=b (.lit (.string s))
 nil:1<=b .nil
 slice:∀es sp,(es.map b).sum+1<=b (.slice es sp)
 agg:∀ps,(ps.map b).sum+1<=b (.agg ps)
class cm (α:Type) where
 wt:α->Nat
 ok:α->Prop
instance:cm Int where
 wt _:=1
 ok n:=-9223372036854775808<=n/\n<=9223372036854775807
instance:cm Bool where
 wt _:=1
 ok _:=True
instance:cm ByteArray where
 wt s:=s.size+1
 ok s:=s.size<=maxLen
instance {α:Type} [cm α]:cm (Sl α) where
 wt s:=(s.l.map cm.wt).sum+1
 ok s:=(∀x∈s.l,cm.ok x)/\s≠.emp
class Reads (P:Program) (t:TypeId) (α:Type) [bz α] [cm α]:Prop where
 size:P.cellsOf t=bz.size α
 rd:∀{H:Type} {enc:TypeId×Value->H} {w:World} {base:Nat} {spare:Nat->Bool} {held:Bool} {fuel:Nat} {cs:List Value} {d:DataW H} {ps:List MemPlace},
  DataW.trod enc P w base spare held fuel t cs=some (d,ps)->∃a:α,fK (snap w) (cells a) cs/\cm.ok a/\∀b:DataW H->Nat,qZ b->cm.wt a<=b d
 shape:∀{w:World} {r:_root_.Go.Reach} {base:Nat} {v:Value},Value.okWide P w r base t v->if bz.agg α then ∃cs,v=.agg cs else v.cells=#[v]
section
variable {P:Program}
theorem pM {w:World} {r:_root_.Go.Reach} {base:Nat} {t:TypeId} {v:Value} {u:_} (hu:P.underlying t=some u) (h1:∀fs,u≠.struct fs) (B:∀n e,u≠.array n e) (h:Value.okWide P w r base t v):v.cells=#[v]:=by
 cases v with
 | agg cs=>
  exfalso;unfold Value.okWide at h;rw[hu]at h;split at h
  next fs z=>cases z;exact h1 _ rfl
  next n e z=>cases z;exact B _ _ rfl
  unfold Cell.okWide at h;rw[hu]at h;split at h <;> first|(simp at *;done)|skip
  unfold Cell.ok at h;rw[hu]at h;cases u <;> simp at h
 | _=>rfl
theorem Reads.int {t:TypeId} (hu:P.underlying t=some (.int .i64)) (hc:P.cellsOf t=1):Reads P t Int where
 size:=hc
 rd {H enc w base spare held z cs d D} h:=by
  cases z with
  | zero=>simp[DataW.trod]at h
  | succ z=>
   simp only[DataW.trod,hu]at h;split at h <;> first|(simp at h;done)|skip
   next u=>cases u
   .rename_i k G n u;simp only[ζa,TypeDesc.int.injEq]at u;split at h
    next hk=>obtain⟨rfl,B⟩:=hk;subst u;cases h;exact⟨n,fK.one (.int _ n),show _/\_ by simpa [Lit.wf,IntKind.min,IntKind.max,IntKind.signed,IntKind.bits]using B,λb C=>C.lit _⟩
    simp at h
   all_goals (rename_i u;cases u)
 shape h:=by simp only[show bz.agg Int=false from rfl];exact pM hu Zc Zc h
theorem Reads.bool {t:TypeId} (hu:P.underlying t=some .bool) (hc:P.cellsOf t=1):Reads P t Bool where
 size:=hc
 rd {H enc w base spare held u cs d C} h:=by
  cases u with
  | zero=>simp[DataW.trod]at h
  | succ u=>
   simp only[DataW.trod,hu]at h;split at h <;> first|(simp at h;done)|skip
   next b _=>cases h;exact⟨b,fK.one (.bool b),trivial,λb B=>B.lit _⟩
   all_goals (rename_i z;cases z)
 shape h:=by simp only[show bz.agg Bool=false from rfl];exact pM hu Zc Zc h
theorem Reads.str {t:TypeId} (hu:P.underlying t=some .string) (hc:P.cellsOf t=1):Reads P t ByteArray where
 size:=hc
 rd {H enc w base spare held u cs d D} h:=by
  cases u with
  | zero=>simp[DataW.trod]at h
  | succ u=>
   simp only[DataW.trod,hu]at h;split at h <;> first|(simp at h;done)|skip
   all_goals (first|(rename_i z;cases z;done)|skip)
   rename_i s _;split at h
   next B=>cases h;exact⟨s,fK.one (.str s),B,λb C=>C.str _⟩
   simp at h
 shape h:=by simp only[show bz.agg ByteArray=false from rfl];exact pM hu Zc Zc h
theorem M1 {w:World} {a:Addr} {n:Nat} {v:Value} (h:w.cell? (a.add n)=some v) (B:n=0\/True):∃c el fr,w.heap[a.block]? = some (.cells c el fr)/\c[a.off+n]? = some v/\(n=0->a.spot=none):=by
 unfold World.cell? Addr.add at h
 by_cases t:n=0
 .subst t;simp only[if_true]at h;split at h
  .rename_i c el fr u;split at h
   .simp at h
   rename_i z;exact⟨c,el,fr,u,h,λ_=>by simpa using z⟩
  simp at h
 simp only[if_neg t]at h;split at h
 next c el fr u=>simp only[Option.isSome_none,Bool.false_eq_true,if_false]at h;exact⟨c,el,fr,u,h,λe=>absurd e t⟩
 simp at h
def tM (P:Program) (t:TypeId) (α:Type) [bz α] [cm α] (u:Nat):Prop:=
 ∀{H:Type} {enc:TypeId×Value->H} {w:World} {base:Nat} {spare:Nat->Bool} {held:Bool} {cs:a_ Value} {d:DataW H} {z:a_ MemPlace},
  DataW.trod enc P w base spare held u t cs=some (d,z)->∃a:α,fK (snap w) (cells a) cs/\cm.ok a/\∀b:DataW H->Nat,qZ b->cm.wt a<=b d
theorem tM.sl {t e:TypeId} {α:Type} [bz α] [cm α] {J:Nat} (hu:P.underlying t=some (.slice e)) (af:P.cellsOf e=bz.size α) (U:0<bz.size α) (hr:tM P e α J):tM P t (Sl α) (J+1):=by
 intro H enc w base spare held cs d ps h;simp only[DataW.trod,hu]at h;split at h <;> first|(simp at h;done)|skip
 all_goals (first|(rename_i I;cases I;done)|skip)
 .cases h;exact⟨.nil,fK.one .bE,⟨λx W=>by simp[Sl.l]at W,by simp⟩,λb X=>X.nil⟩
 rename_i e' a len cap I;cases I;split at h
 .rename_i Y;obtain⟨elems,ah,h⟩:=ζg.1 h;obtain⟨rest,_,h⟩:=ζf.1 h;cases h;obtain⟨Z,aa⟩:=A7 ah;simp only[List.length_range]at Z;have W:∀i,i<len->∃x:α,∃u:a_ Value,w.cells? base (a.add (i*P.cellsOf e)) (P.cellsOf e)=some u/\fK (snap w) (cells x) u/\cm.ok x/\∀b:DataW H->Nat,qZ b->∀y,elems[i]? = some y->cm.wt x<=b y.1:=λi L=>by
   have:=aa i i (elems[i]' Za) (by simp[L]) (ζd Za)
   obtain⟨u,h1,O⟩:=ζg.1 this;obtain⟨x,W,hk,X⟩:=hr (show _=some ((elems[i]' Za).1,(elems[i]' Za).2)from O)
   exact⟨x,u,h1,W,hk,λb Q y hy=>by
    rw[ζd Za]at hy;cases hy;exact X b Q⟩
  have ab:∀n,n<=len->∃z:a_ α,z.length=n/\(∀i x,z[i]? = some x->∃u:a_ Value,w.cells? base (a.add (i*P.cellsOf e)) (P.cellsOf e)=some u/\fK (snap w) (cells x) u)/\(∀x∈z,cm.ok x)/\∀b:DataW H->Nat,qZ b->(z.map cm.wt).sum<=(((elems.take n).map (·.1)).map b).sum:=by
   intro n
   induction n with
   | zero=>intro _;exact⟨[],rfl,by simp,by simp,by simp⟩
   | succ n ih=>
    intro hn;obtain⟨z,h1,O,h5,h6⟩:=ih Za
    obtain⟨x,u,h3,h4,h7,h8⟩:=W n Za
    refine⟨z++[x],by simp[h1],λi y hy=>?_,λy hy=>?_,λb Q=>?_⟩
    rotate_left
    .rcases List.mem_append.1 hy with hy|hy
     .exact h5 y hy
     simp at hy;subst hy;exact h7
    .have k1:=h6 b Q;have k2:=h8 b Q _ (ζd Za)
     rw[List.take_succ,ζd (by omega:n<elems.length)]
     simp only[List.map_append,List.sum_append,Option.toList_some,List.map_cons,List.map_nil,List.sum_cons,List.sum_nil];omega
    by_cases L:i<z.length
    .rw[List.getElem?_append_left L]at hy;exact O i y hy
    rw[List.getElem?_append_right Za]at hy
    have:i-z.length=0:=by
     cases hk:i-z.length with
     | zero=>rfl
     | succ k=>rw[hk]at hy;simp at hy
    rw[this]at hy;simp at hy;subst hy;have:i=n:=by omega
    subst this;exact⟨u,h3,h4⟩
  obtain⟨z,C,ai,ad,aj⟩:=ab len (Nat.le_refl _);refine⟨.row z,fK.one ?_,⟨ad,by simp⟩,λb Q=>?_⟩
  rotate_left
  .have k:=aj b Q;rw[List.take_of_length_le Za]at k
   have k2:=Q.slice (elems.map (·.1)) (rest.map (·.1));show (z.map cm.wt).sum+1<=_;omega
  show dU _ (.fsl (bz.size α) (rows z)) _
  cases hl:z with
  | nil=>
   subst hl;simp at C;subst C;exact .fsl0 _ _ _
  | cons x0 xr=>
   rw[<-hl];have ap:0<len:=by rw[<-C,hl];simp
   have S:∀i x,z[i]? = some x->∀j y,(cells x)[j]? = some y->∃v,w.cell? ((a.add (i*bz.size α)).add j)=some v/\dU (snap w) y v:=by
    intro i x L j y hy;obtain⟨u,h1,O⟩:=ai i x L;rw[af]at h1;unfold World.cells? at h1;split at h1
    .obtain⟨g1,g2⟩:=A7 h1;have hj:j<bz.size α:=by rw[<-gJ x];exact(ζe.1 hy).1
     obtain⟨v,hv⟩:∃v,u[j]? = some v:=⟨_,ζd (by rw[g1];simpa using hj)⟩
     exact⟨v,g2 j j v (by simp[hj]) hv,O.2 j y v hy hv⟩
    simp at h1
   have ao:∀i j,(a.add (i*bz.size α)).add j=a.add (i*bz.size α+j)\/True:=λ_ _=>.inr trivial
   have B:∀i x,z[i]? = some x->∀j y,(cells x)[j]? = some y->∃c el fr v,w.heap[a.block]? = some (.cells c el fr)/\c[a.off+i*bz.size α+j]? = some v/\dU (snap w) y v/\(i=0->j=0->a.spot=none):=by
    intro i x L j y hy;obtain⟨v,h1,O⟩:=S i x L j y hy;obtain⟨c,el,fr,g1,g2,g3⟩:=M1 h1 (.inr trivial);have X:(a.add (i*bz.size α)).block=a.block:=by unfold Addr.add;split <;> rfl
    have ho:(a.add (i*bz.size α)).off=a.off+i*bz.size α:=by unfold Addr.add;split <;> simp_all
    rw[X]at g1;rw[ho]at g2;refine⟨c,el,fr,v,g1,g2,O,?_⟩;rintro rfl rfl;have:=g3 rfl;simpa [Addr.add]using this
   have ak:∃y,(cells x0)[0]? = some y:=⟨_,ζd (by rw[gJ];exact U)⟩
   obtain⟨y0,al⟩:=ak;obtain⟨c,el,fr,v0,D,_,_,G⟩:=B 0 x0 (by rw[hl];rfl) 0 y0 al
   have G:=G rfl rfl;obtain⟨b,o,sp⟩:=a;simp only at G D;subst G;have hI:snap w b=some (.cells c):=by unfold snap;rw[D]
   have T:(rows z).length=len:=by rw[gi,C]
   rw[<-T];refine .fsl _ _ b o cap c hI (by rw[T];exact Y.2.1) (λr hr=>?_) (λr hr y hy=>?_) ?_ (λi j r y v hr hy hv=>?_)
   .obtain⟨x,_,rfl⟩:=List.mem_map.1 hr;exact gJ x
   .obtain⟨x,_,rfl⟩:=List.mem_map.1 hr;exact List.all_eq_true.1 (sn x) y hy
   .
    obtain⟨xl,ae⟩:∃x,z[len-1]? = some x:=⟨_,ζd Za⟩
    obtain⟨yl,am⟩:∃y,(cells xl)[bz.size α-1]? = some y:=⟨_,ζd (by rw[gJ];omega)⟩
    obtain⟨c2,_,_,v2,k1,k2,_,_⟩:=B (len-1) xl ae (bz.size α-1) yl am;simp only at k1 k2;rw[D]at k1;cases k1;have:=(Array.getElem?_eq_some_iff.1 k2).1;rw[T];have e:len*bz.size α=(len-1)*bz.size α+bz.size α:=by
     obtain⟨m,rfl⟩:∃m,len=m+1:=⟨len-1,by omega⟩
     simp[Nat.add_mul]
    omega
   simp only[rows,List.getElem?_map,ζf]at hr;obtain⟨x,an,rfl⟩:=hr;obtain⟨c2,_,_,v2,k1,k2,k3,_⟩:=B i x an j y hy;simp only at k1 k2;rw[D]at k1;cases k1;rw[hv]at k2;cases k2;exact k3
 simp at h
theorem tM.Vl {t e:TypeId} {α:Type} [bz α] [cm α] {u:Nat} (hu:P.underlying t=some (.slice e)) (D:P.cellsOf e=bz.size α) (B:0<bz.size α) (hr:∀g,g<u->tM P e α g):tM P t (Sl α) u:=by
 cases u with
 | zero=>intro H enc w base spare held cs d z h;simp[DataW.trod]at h
 | succ f=>exact tM.sl hu D B (hr f (Nat.lt_succ_self f))
theorem Reads.sl {t e:TypeId} {α:Type} [bz α] [cm α] [Reads P e α] (hu:P.underlying t=some (.slice e)) (hc:P.cellsOf t=1) (u:0<bz.size α):Reads P t (Sl α) where
 size:=hc
 rd h:=tM.Vl hu (Reads.size (α:=α)) u (λ_ _ {_ _ _ _ _ _ _ _ _}=>Reads.rd (P:=P) (t:=e) (α:=α)) h
 shape h:=by simp only[show bz.agg (Sl α)=false from rfl];exact pM hu Zc Zc h
theorem fK.seg {I:b9} {acc xs:a_ V} {cs:a_ Value} {o n:Nat} (h:fK I acc (cs.take o)) (k:fK I xs ((cs.drop o).take n)):fK I (acc++xs) (cs.take (o+n)):=by
 rw[List.take_add];exact h.append k
theorem fK.fin {I:b9} {xs:a_ V} {cs:a_ Value} {n:Nat} (h:fK I xs (cs.take n)) (u:cs.length=n):fK I xs cs:=by
 rw[List.take_of_length_le Za]at h;exact h
theorem tM.st {t:TypeId} {fs:Array Field} {α:Type} [bz α] [cm α] {u:Nat} (hu:P.underlying t=some (.struct fs)) (hc:P.cellsOf t=bz.size α)
 (h:∀{H:Type} {enc:TypeId×Value->H} {w:World} {base:Nat} {spare:Nat->Bool} {held:Bool} {cs:a_ Value} {l:a_ (DataW H×a_ MemPlace)},cs.length=bz.size α ->
  (fs.toList.mapM λf=>DataW.trod enc P w base spare held u f.type ((cs.drop f.offset).take (P.cellsOf f.type)))=some l->∃a:α,fK (snap w) (cells a) cs/\cm.ok a/\∀b:DataW H->Nat,qZ b->cm.wt a<=((l.map (·.1)).map b).sum+1):tM P t α (u+1):=by
 intro H enc w base spare held cs d G hr;simp only[DataW.trod,hu]at hr;split at hr <;> first|(simp at hr;done)|skip
 all_goals (first|(rename_i z;cases z;done)|skip)
 rename_i C;obtain⟨l,h1,D⟩:=ζf.1 hr;cases D;obtain⟨a,k1,k2,k3⟩:=h (by rw[C,hc]) h1
 exact⟨a,k1,k2,λb B=>Nat.le_trans (k3 b B) (B.agg _)⟩
theorem Reads.of {t:TypeId} {fs:Array Field} {α:Type} [bz α] [cm α] (hu:P.underlying t=some (.struct fs)) (hc:P.cellsOf t=bz.size α) (B:bz.agg α=true) (h:∀u,tM P t α u):Reads P t α where
 size:=hc
 rd hr:=h _ hr
 shape hv:=by
  rw[if_pos B];unfold Value.okWide at hv;rw[hu]at hv;obtain⟨cs,h1,_⟩:=hv;exact⟨cs,h1⟩
theorem Reads.st {t:TypeId} {fs:Array Field} {α:Type} [bz α] [cm α] (hu:P.underlying t=some (.struct fs)) (hc:P.cellsOf t=bz.size α) (B:bz.agg α=true)
 (h:∀{H:Type} {enc:TypeId×Value->H} {w:World} {base:Nat} {spare:Nat->Bool} {held:Bool} {u:Nat} {cs:a_ Value} {l:a_ (DataW H×a_ MemPlace)},cs.length=bz.size α ->
  (fs.toList.mapM λf=>DataW.trod enc P w base spare held u f.type ((cs.drop f.offset).take (P.cellsOf f.type)))=some l->∃a:α,fK (snap w) (cells a) cs/\cm.ok a/\∀b:DataW H->Nat,qZ b->cm.wt a<=((l.map (·.1)).map b).sum+1):Reads P t α:=
 Reads.of hu hc B λu=>by
  cases u with
  | zero=>intro H enc w base spare held cs d z h;simp[DataW.trod]at h
  | succ f=>exact tM.st hu hc h
theorem Reads.arg {t:TypeId} {α:Type} [bz α] [cm α] [Reads P t α] {H:Type} {u:TypeId×Value->H} {w:World} {base:Nat} {spare:Nat->Bool} {held:Bool} {r:_root_.Go.Reach} {b:Nat} {v:Value} {d:DataW H} {ps:a_ MemPlace}
 (hv:Value.okWide P w r b t v) (h:DataW.Trod u P w base spare held t v d ps):∃a:α,bC (snap w) (λ_=>none) (enc a) v/\cm.ok a/\∀b:DataW H->Nat,qZ b->cm.wt a<=b d:=by
 obtain⟨I,h⟩:=h;obtain⟨a,⟨h1,B⟩,D,G⟩:=Reads.rd (P:=P) (t:=t) (α:=α) h;have z:=Reads.shape (P:=P) (t:=t) (α:=α) hv;refine⟨a,?_,D,G⟩
 cases C:bz.agg α with
 | true=>
  rw[C,if_pos rfl]at z;obtain⟨cs,rfl⟩:=z;rw[ze C];refine .c _ _ (.agg _ _ (by simpa [Value.cells]using h1) (λj x y J L=>B j x y J (by simpa [Value.cells]using L)))
 | false=>
  rw[C]at z;simp only[Bool.false_eq_true,if_false]at z;rw[z]at B;rw[vz C]at B;exact .c _ _ (B 0 _ _ rfl rfl)
end
end Go.VE
namespace Go.VE
variable [bK]
open Go.ChangeShapes Go.WideShapes Go.ChangeAt Go.RowKit
structure G5 (w w':World):Prop where
 kept:w.keptBut w' (λ_=>False)
 fz:∀a:Addr,a.block<w.heap.size->w'.frozen? a=w.frozen? a
theorem En {I I':b9} {μ':Mu} {H':bp} {w w':World} (s:Step I (λ_=>none) [] w I' μ' H' w'):G5 w w':=by
 have z:∀b,b<w.heap.size->w'.heap[b]? = w.heap[b]? := λb u=>s.frame b u (by rintro⟨id,p,ob,h,_⟩;simp at h)
 refine⟨⟨s.os,s.out.out,λi B=>?_⟩,λa u=>?_⟩
 .rw[z i B];split
  next h1 t=>rw[h1]at t;cases t;exact⟨rfl,rfl,rfl,λ_ _=>rfl⟩
  next h1 t=>rw[h1]at t;cases t;exact .inr ⟨rfl,rfl⟩
  rfl
 unfold World.frozen?;rw[z _ u]
theorem GF {P:Program} {call:dn} (hc:jQ P call) {f:FuncId} {args:a_ V} {b:Bool} {H':bp} (h:call (.fn f) args []=some (.bool b,H')) {w:World} {vs:a_ Value}
 (B:sF (snap w)) (hv:cE (snap w) (λ_=>none) args vs):Calls P f vs.toArray w λe w'=>e=.returned (.bool b)/\G5 w w':=by
 intro cs;have k:=((hc.fn f args [] _ H' h).2 (snap w) (λ_=>none) w vs (M4 B) hv)
 obtain⟨e,w',fr,⟨u,I',μ',rfl,hu,_,C⟩,t,h1,D⟩:=k.2 cs (by simp[Fence.room,fr])
 refine⟨_,w',fr,⟨?_,En C⟩,t.comes,h1,D⟩
 cases hu with
 | c _ _ z=>cases z;rfl
variable {P:Program} {H:Type} {enc:TypeId×Value->H}
theorem Ew {B:a_ TypeId} {vs:a_ Value} {ds:a_ (DataW H)} {ps:a_ MemPlace} {w w':World} (hg:G5 w w') (h:DataW.TrodAll enc P w 0 (λ_=>true) true B vs ds ps):DataW.TrodAll enc P w' 0 (λ_=>true) true B vs ds ps:=by
 have z:∀p:MemPlace,p.block<w.heap.size->w.sameAt w' p:=by
  intro p C;have k:=hg.kept.2.2 p.block C
  cases p with
  | cell b off=>
   simp only[World.sameAt,World.cell?];simp only[MemPlace.block]at k C;split at k
   .rename_i c t fr c' G D h1 u;rw[h1,u];simp only;have:=k.2.2.2 off (λx=>x)
    simpa using this
   next h1 u=>rw[h1,u]
   rw[k]
  | map b=>
   simp only[World.sameAt];simp only[MemPlace.block]at k C;split at k
   .rename_i c t fr c' G D h1 u;obtain⟨rfl,rfl,O,I⟩:=k;rw[h1,u];have:c'=c:=Array.ext_getElem? λi=>I i (λx=>x)
    rw[this]
   .rename_i h1 u;rcases k with k|⟨rfl,rfl⟩
    .exact k.elim
    rw[h1,u]
   exact k
 induction B generalizing vs ds ps with
 | nil=>cases vs <;> cases ds <;> simp_all [DataW.TrodAll]
 | cons t B J=>
  cases vs with
  | nil=>simp[DataW.TrodAll]at h
  | cons v vs=>
   cases ds with
   | nil=>simp[DataW.TrodAll]at h
   | cons d ds=>
    obtain⟨p,q,⟨n,h1⟩,u,rfl⟩:=h;exact⟨p,q,⟨n,DataW.trod_carry n _ _ _ h1 λx L=>z x (DataW.trod_lt n _ _ _ h1 x L)⟩,J u,rfl⟩
theorem KR {T:TypeId->Prop} (K:Kids P T) (hz:∀t e,T t->P.underlying t=some (.slice e)->0<P.cellsOf e) {f:Func} {s:ChangeSpec} {apart fresh handsOn again:Bool} {W D:World} {args:Array Value} {ds gs:a_ (DataW H)} {before:a_ MemPlace} {tb:TypeId}
 (hT:∀t∈f.params.toList,T t) (u:s.vars=[]) (B:s.fn H (ds++gs)={ results:=[.lit (.bool true)],args:=ds }) (G:f.resultTypes=#[tb]) (U:P.underlying tb=some .bool)
 (Y:DataW.Whole enc P f.params.toList s.vars apart W args.toList ds gs before) (hg:G5 W D):s.post enc P f apart fresh handsOn again W args (.bool true) D:=by
 have C:=Y;obtain⟨p,q,Z,S,rfl,L,O⟩:=Y;rw[u]at S;obtain⟨rfl,rfl⟩:=trodVars_none S;have hr:∀(b:Nat) (z:Nat->Bool) (hd:Bool),DataW.TrodAll enc P D b z hd f.resultTypes.toList ((Value.bool true).resultList f.resultTypes.size) (s.fn H (ds++[])).results []:=λ_ _ _=>by
  rw[G,B];exact trodAll_cons_mk (shut_bool U _) trodAll_mk0
 have X:∀z:Nat->Bool,(∀x∈p++[],z x.block=true)->DataW.TrodAll enc P D 0 z true f.params.toList args.toList (s.fn H (ds++[])).args p:=λz Q=>by
  rw[B];exact DataW.TrodAll.respare K hz hT (Ew hg Z) (λx w=>Q x (List.mem_append_left _ w))
 have hv:∀z:Nat->Bool,DataW.TrodVars enc P D z s.vars (s.fn H (ds++[])).vars []:=λz=>by rw[B,u];rfl
 have I:=λx w=>C.lt x w
 refine⟨ds,[],p++[],[],p,[],C,hr _ _ _,X _ λx w=>by simpa using I x w,hv _,World.keptBut_mono (λx w=>w.elim) hg.kept,λ_=>⟨ok_one G rfl (okWide_bool_mk U _),?_⟩⟩
 refine⟨_,_,[]++p++[],⟨[]++p,[],trodAll_append (X _ λ_ _=>rfl) (hr _ _ _),hv _,rfl,λb off w=>?_,λh=>by simpa using O h⟩,λx w _=>by simpa using w⟩
 have J:MemPlace.cell b off∈p++[]:=by simpa using w
 rw[hg.fz _ (I _ J)];exact L b off J
end Go.VE
namespace Go.VE
variable [bK]
instance:cm U8 where
 wt _:=1
 ok n:=0<=n.v/\n.v<=255
theorem Reads.u8 {P:Program} {t:TypeId} (hu:P.underlying t=some (.int .u8)) (hc:P.cellsOf t=1):Reads P t U8 where
 size:=hc
 rd {H enc w base spare held z cs d D} h:=by
  cases z with
  | zero=>simp[DataW.trod]at h
  | succ z=>
   simp only[DataW.trod,hu]at h;split at h <;> first|(simp at h;done)|skip
   next u=>cases u
   .rename_i k G n u;simp only[ζa,TypeDesc.int.injEq]at u;split at h
    next hk=>obtain⟨rfl,B⟩:=hk;subst u;cases h;exact⟨⟨n⟩,fK.one (.int _ n),show _/\_ by simpa [Lit.wf,IntKind.min,IntKind.max,IntKind.signed,IntKind.bits]using B,λb C=>C.lit _⟩
    simp at h
   all_goals (rename_i u;cases u)
 shape h:=by simp only[show bz.agg U8=false from rfl];exact pM hu Zc Zc h
theorem Jn {m:Tb bu} {n:Nat} {rs:a_ SV} {b:Bool} (h:cO m n rs=some [.bool b]):rs=[.v (.bool b)]:=by
 cases rs with
 | nil=>cases n <;> simp[cO]at h
 | cons x r=>
  have h1:shut m n x=some (.bool b)/\cO m n r=some []:=by
   unfold cO at h;split at h
   next y s h1 u=>simp only[ζa,List.cons.injEq]at h;obtain⟨rfl,rfl⟩:=h;exact⟨h1,u⟩
   cases h
  have u:r=[]:=by
   cases r with
   | nil=>rfl
   | cons y r=>
    have:=h1.2;unfold cO at this;split at this <;> simp at this
  subst u;have t:=h1.1
  cases x with
  | v y=>unfold shut at t;simp only[ζa]at t;rw[t]
  | own d=>unfold shut iY at t;(repeat' split at t) <;> cases t
  | ptr d o=>
   cases n with
   | zero=>simp[shut]at t
   | succ n=>
    unfold shut at t;split at t <;> try cases t
    split at t <;> try cases t
    split at t <;> cases t
  | mp d=>unfold shut at t;split at t <;> cases t
  | clo f a b=>
   cases n with
   | zero=>simp[shut]at t
   | succ n=>unfold shut at t;split at t <;> cases t
  | tup l=>
   cases n with
   | zero=>simp[shut]at t
   | succ n=>unfold shut at t;obtain⟨_,_,w⟩:=ζf.1 t;cases w
  | _=>cases n <;> simp[shut]at t
theorem Nv {S:Sys} {T:pg} (u:xk S T) (B:∀f a b xs,S.items f a b=some xs->iu S f a b xs) {f:FuncId} {xs:a_ V} (hg:V.cN xs=true) (h:lB (dA S T) f xs=some [.bool true]) :
 ∃n H',run S.E n (.fn f) xs []=some (.bool true,H'):=by
 unfold lB at h;obtain⟨⟨rs,m⟩,h1,t⟩:=ζg.1 h;have:=Jn t;simp only at this;subst this;exact Q2 u B hg h1 rfl
theorem I4 {S:Sys} {T:pg} {P:Program} (u:xk S T) (B:∀f a b xs,S.items f a b=some xs->iu S f a b xs) (hc:∀n,jQ P (run S.E n)) {f:FuncId} {xs:a_ V} (hg:V.cN xs=true) (h:lB (dA S T) f xs=some [.bool true])
 {w:World} {args:Array Value} (D:sF (snap w)) (hv:cE (snap w) (λ_=>none) xs args.toList):Calls P f args w λe w'=>e=.returned (.bool true)/\G5 w w':=by
 obtain⟨n,H',hr⟩:=Nv u B hg h;have:=GF (hc n) hr D hv;simpa using this
theorem Reads.Pn {P:Program} {t:TypeId} {α:Type} [bz α] [cm α] [Reads P t α] {H:Type} {u:TypeId×Value->H} {w:World} {base b:Nat} {spare:Nat->Bool} {held:Bool} {v:Value} {d:DataW H} {ps:a_ MemPlace} {params:Array TypeId} {args:Array Value}
 (B:∀(j:Nat) t v,params[j]? = some t->args[j]? = some v->Value.okWide P w .any b t v) (j:Nat) (h1:params[j]? = some t) (D:args[j]? = some v) (h:DataW.Trod u P w base spare held t v d ps) :
 ∃a:α,bC (snap w) (λ_=>none) (enc a) v/\cm.ok a/\∀b:DataW H->Nat,qZ b->cm.wt a<=b d:=Reads.arg (B j t v h1 D) h
end Go.VE
namespace Go.VE
theorem My {w:World} {g:Nat} {l:a_ Int} (h:∀i,i<l.length->w.cell? ⟨g,i,none⟩=some (.int .i64 (l.getD i 0))) (D:0<l.length):dU (snap w) (.fptr (l.map (V.int .i64))) (.pointer (some ⟨g,0,none⟩)):=by
 have h1:=h 0 D;unfold World.cell? at h1;split at h1
 .rename_i c t fr u;have G:snap w g=some (.cells c):=by unfold snap;simp only at u;rw[u]
  have hc:∀i,w.cell? ⟨g,i,none⟩=c[i]? := λi=>by unfold World.cell?;simp only at u ⊢;rw[u];rfl
  refine .fptr _ _ _ c G ?_ ?_
  .rw[Nat.zero_add,List.length_map];have:=h (l.length-1) Za
   rw[hc]at this;have:=(Array.getElem?_eq_some_iff.1 this).1;omega
  intro j y v B hv;rw[Nat.zero_add,<-hc]at hv;rw[List.getElem?_map]at B;obtain⟨z,C,rfl⟩:=ζf.1 B;have I:=(ζe.1 C).1;rw[h j I]at hv;cases hv;have:l.getD j 0=z:=by simp[List.getD,C]
  rw[this];exact .int _ _
 cases h1
variable [bK]
theorem cW (n:Nat) (h:n<9223372036854775807):IntKind.wrap .i64 ((n:Int)+1)=((n+1:Nat):Int):=by
 simp[IntKind.wrap,IntKind.bits,IntKind.signed];omega
theorem qQ (n:Int) (h1:-9223372036854775808<=n) (u:n<=9223372036854775807):IntKind.wrap .i64 n=n:=by
 simp[IntKind.wrap,IntKind.bits,IntKind.signed];omega
section
variable {α β:Type} {P:β->Prop}
theorem nj (s:Sl α) (i:Nat):idx s (i:Int)=s.l[i]? := by
 unfold idx;rw[if_pos Za];rfl
theorem bO {s:Sl α} {i:Nat} (h:i<s.l.length):idx s (i:Int)=some s.l[i]:=by rw[nj,ζd h]
theorem RG {s:Sl α} {i:Int} (u:0<=i):idx s i=s.l[i.toNat]? := by unfold idx;rw[if_pos u]
theorem u_ (s:Sl α) (i:Nat) (h:i<=s.l.length):∃x,jD s none (some (i:Int))=some x/\x.l=s.l.take i:=by
 unfold jD dD;simp only[Option.getD_none,Option.getD_some];rw[if_pos Za]
 cases s <;> simp[Sl.l]at h ⊢ <;> simp[h]
theorem bY {γ:Type} {a b:γ}:bt true a b=a:=rfl
theorem b8 {γ:Type} {a b:γ}:bt false a b=b:=rfl
theorem mQ (a b:Bool):bt a (some b) (some false)=some (a&&b):=by cases a <;> rfl
theorem jg (a b:Bool):bt a (some true) (some b)=some (a||b):=by cases a <;> rfl
theorem sB (a:Bool) (x y:β):bt a (some x) (some y)=some (if a then x else y):=by cases a <;> rfl
end
def place {α:Type} (f:α->Bool) (l:a_ α):Int:=match l.findIdx? f with
 | some i=>i
 | none=>-1
theorem yI {α:Type} {f:α->Bool} {l:a_ α} {i:Nat} (h:∀j,j<i->∀x,l[j]? = some x->f x=false) (B:l.length<=i):l.findIdx? f=none:=by
 rw[List.findIdx?_eq_none_iff];intro x u;obtain⟨j,t⟩:=List.getElem?_of_mem u;have:j<l.length:=(ζe.1 t).1;exact h j Za x t
theorem Hq {α:Type} {f:α->Bool} {l:a_ α} {i:Nat} {x:α} (h:∀j,j<i->∀x,l[j]? = some x->f x=false) (u:l[i]? = some x) (B:f x=true):l.findIdx? f=some i:=by
 rw[List.findIdx?_eq_some_iff_getElem];obtain⟨t,rfl⟩:=ζe.1 u;exact⟨t,B,λj w=>by rw[h j w _ (ζd Za)];simp⟩
theorem tf {α:Type} {step:Int->bf (Fw Int Unit Int)} {s:Sl α} {p:α->bf Bool} {f:α->Bool} (hp:∀x∈s.l,p x=some (f x)) (O:s.l.length<9223372036854775807)
 (J:∀i,step i=bt (decide (i<len s)) ((idx s i).bind λu=>(p u).bind λB=>bt B (some (.r i)) (some (.n (IntKind.wrap .i64 (i+1))))) (some (.x ()))) :
 (bM step 0).bind (Fw.elim (λ_=>some (-1)) (λe=>some e))=some (place f s.l):=by
 refine Wp.eq (d_ (λi:Int=>∃n:Nat,i=n/\n<=s.l.length/\∀j,j<n->∀x,s.l[j]? = some x->f x=false) (λi:Int=>s.l.length-i.toNat) ⟨0,rfl,Nat.zero_le _,λj G=>absurd G Za⟩ ?_)
 rintro i ⟨n,rfl,I,w⟩;rw[J,ck];refine⟨λh=>?_,λh=>?_⟩
 .have t:n<s.l.length:=by simpa [len]using h
  rw[bO t,ζb,hp _ (List.getElem_mem t),ζb,ck];refine⟨λz=>?_,λz=>?_⟩
  .rw[bk];show Wp (some (n:Int)) _;rw[bk];unfold place;rw[Hq w (ζd t) z]
  rw[bk];refine⟨⟨n+1,cW n Za,by omega,λj G x C=>?_⟩,?_⟩
  .by_cases e:j=n
   .subst e;rw[ζd t]at C;cases C;exact z
   exact w j Za x C
  rw[cW n Za];simp;omega
 have D:s.l.length<=n:=by simpa [len]using h
 rw[bk];show Wp (some (-1:Int)) _;rw[bk];unfold place;rw[yI w D]
theorem sY {α:Type} (f:α->Bool) (l:a_ α):decide (place f l>=0)=l.any f:=by
 unfold place
 cases h:l.findIdx? f with
 | none=>
  rw[List.findIdx?_eq_none_iff]at h;have:l.any f=false:=by rw[List.any_eq_false];intro x t;simp[h x t]
  rw[this];rfl
 | some i=>
  obtain⟨u,w,_⟩:=List.findIdx?_eq_some_iff_getElem.1 h;have:l.any f=true:=List.any_eq_true.2 ⟨_,List.getElem_mem u,w⟩;rw[this];simp
theorem NC {α σ ε ρ:Type} {step:α->σ->bf (Fw σ ε ρ)} {l:a_ α} (I:Nat->σ->Prop) (B:ε->Prop) (D:ρ->Prop) {s:σ} (G:I 0 s)
 (h:∀i a s,l[i]? = some a->I i s->Wp (step a s) λw=>match w with|.n u=>I (i+1) u|.x e=>B e|.r b=>D b) :
 Wp (nr step l s) λw=>match w with|.n u=>I l.length u|.x e=>B e|.r b=>D b:=by
 have key:∀(r:a_ α) (i:Nat) (s:σ),l.drop i=r->i<=l.length->I i s->Wp (nr step r s) λw=>match w with|.n u=>I l.length u|.x e=>B e|.r b=>D b:=by
  intro r
  induction r with
  | nil=>
   intro i s hd J z;have:i=l.length:=by have:=List.drop_eq_nil_iff.1 hd;omega
   subst this;exact⟨_,rfl,z⟩
  | cons a r L=>
   intro i s hd J z;have t:i<l.length:=by
    apply Classical.byContradiction;intro S;rw[List.drop_eq_nil_of_le Za]at hd;cases hd
   have O:=List.drop_eq_getElem_cons t;rw[O]at hd;simp only[List.cons.injEq]at hd;obtain⟨w,Q,C⟩:=h i a s (by rw[ζd t,hd.1]) z
   simp only[nr,Q,ζb]
   cases w with
   | n u=>exact L (i+1) u hd.2 Za C
   | x e=>exact⟨_,rfl,C⟩
   | r b=>exact⟨_,rfl,C⟩
 exact key l 0 s rfl (Nat.zero_le _) G
theorem zx {α σ ε ρ γ:Type} {step:α->σ->bf (Fw σ ε ρ)} {l:a_ α} {fn:σ->bf γ} {u:ε->bf γ} {fr:ρ->bf γ} {P:γ->Prop} (I:Nat->σ->Prop) {s:σ} (B:I 0 s)
 (h:∀i a s,l[i]? = some a->I i s->Wp (step a s) λw=>match w with|.n D=>I (i+1) D|.x e=>Wp (u e) P|.r b=>Wp (fr b) P)
 (G:∀s,I l.length s->Wp (fn s) P):Wp ((nr step l s).bind (Fw.vf fn u fr)) P:=by
 rw[gA];refine(NC I _ _ B h).mono ?_;intro w t
 cases w with
 | n s=>exact G s t
 | x e=>exact t
 | r b=>exact t
end Go.VE
