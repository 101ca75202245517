/-
 Plain values and the steps of a certificate.
-/
import Derived.KernelRfl
import Derived.Test.YtjbnbbbiijdbpaaGreatDoorN2
set_option linter.all false
namespace Go.VE
variable [aW]
inductive Sl (α:Type) where
 | nil
 | emp
 | row (l:List α)
 | part (l:List α)
 deriving Inhabited
def Sl.l {α:Type}:Sl α→List α
 | .nil|.emp=>[]
 | .row l|.part l=>l
def Sl.k {α:Type}:Sl α→Fl
 | .nil=>.nil
 | .emp=>.emp
 | .row _=>.row
 | .part _=>.part
class aI (α:Type) where
 cells:α→List V
 agg:Bool
 size:Nat
 len:∀a,(cells a).length=size
 good:∀a,V.bF (cells a)=true
 one:∀a,(cells a).all V.one=true
 plain:agg=false→size=1
def cells {α:Type} [aI α] (a:α):List V:=aI.cells a
def enc {α:Type} [aI α] (a:α):V:=if aI.agg α then .agg (cells a)else(cells a).headD .undef
def rows {α:Type} [aI α] (l:List α):List (List V):=l.map cells
def bu {α:Type} [aI α] (s:Sl α):V:=lC s.k (aI.size α) (rows s.l)
instance:aI Int where
 cells n:=[.int .i64 n]
 agg:=false
 size:=1
 len _:=rfl
 good _:=rfl
 one _:=rfl
 plain _:=rfl
instance:aI Bool where
 cells b:=[.bool b]
 agg:=false
 size:=1
 len _:=rfl
 good _:=rfl
 one _:=rfl
 plain _:=rfl
instance:aI ByteArray where
 cells s:=[.str s]
 agg:=false
 size:=1
 len _:=rfl
 good _:=rfl
 one _:=rfl
 plain _:=rfl
structure aa where
 proc:Int
 index:Int
 deriving DecidableEq,Inhabited
instance:aI aa where
 cells x:=[.int .i64 x.proc,.int .i64 x.index]
 agg:=true
 size:=2
 len _:=rfl
 good _:=rfl
 one _:=rfl
 plain h:=by cases h
@[simp] theorem Y3 (n:Int):enc n=.int .i64 n:=rfl
@[simp] theorem YQ (n:Bool):enc n=.bool n:=rfl
@[simp] theorem Y0 (n:ByteArray):enc n=.str n:=rfl
@[simp] theorem XG (n:Int):cells n=[.int .i64 n]:=rfl
@[simp] theorem VU (n:Bool):cells n=[.bool n]:=rfl
@[simp] theorem XX (n:ByteArray):cells n=[.str n]:=rfl
@[simp] theorem YL (n:aa):cells n=[.int .i64 n.proc,.int .i64 n.index]:=rfl
@[simp] theorem TY (n:aa):enc n=.agg [.int .i64 n.proc,.int .i64 n.index]:=rfl
section
variable {α:Type} [aI α]
theorem iz (l:List α):(rows l).length=l.length:=by simp[rows]
def idx (s:Sl α) (i:Int):Option α:=if 0≤i then s.l[i.toNat]? else none
theorem K7 {N:Nat→FuncId} (s:Sl α) (k:IntKind) (i:Int) {n:Nat} (hn:n=aI.size α):ay N (.idxS n) [bu s,.int k i]=(idx s i).map fun x=>.fptr (cells x):=by
 subst hn;unfold idx bu;simp only[ay,iV]
 by_cases h:i<0
 ·rw[if_pos h,if_neg (by omega)];rfl
 ·rw[if_neg h,if_pos (by omega)]
  cases s <;> simp[Sl.k,Sl.l,lC,rows,Function.comp_def]
theorem Jo {N:Nat→FuncId} (s:Sl α):ay N .lenSl [bu s]=some (.int .i64 s.l.length):=by
 cases s <;> simp[ay,nh,bu,Sl.k,Sl.l,lC,iz]
end
section
variable {S:Sys} {c:bD}
end
end Go.VE
namespace Go.VE
variable [aW]
section
variable {S:Sys} {c:bD}
def isSlice:rY→Bool
 | .slice ..=>true
 | _=>false
theorem LS (dr:Bool) (fr:List Nat) (dst:Option Nat) (now:Bool) (p:rY) (az:List Arg) (st:St) (h:isSlice p=false) :
 dW S c dr fr ⟨dst,none,now,.p p,az,[],[]⟩ st=(bh S.N st.g az).bind fun svs=>(iK S.N st.m p svs).bind fun x=>some (cr st dst x):=by
 unfold dW lB;have hy:ei S.N st.g ⟨dst,none,now,.p p,az,[],[]⟩=none:=by unfold ei;cases p <;> rfl
 simp only[wanted,hy]
 cases hs:bh S.N st.g az with
 | none=>rfl
 | some svs=>
  simp only[ζb];cases p <;> first|(simp[isSlice]at h;done)|(cases hp:iK S.N st.m _ svs <;> simp[hp])
theorem Fq (N:Nat→FuncId) (m:Tb aP) (p:rY) (svs:List SV) (xs:List V) (h:dc svs=some xs):iK N m p svs=(ay N p xs).bind fun x=>some (.v x):=by
 unfold iK;rw[h];dsimp only;cases ay N p xs <;> rfl
theorem B8 (dr:Bool) (fr:List Nat) (dst:Option Nat) (now:Bool) (q:II) (az:List Arg) (st:St) :
 dW S c dr fr ⟨dst,none,now,.r q,az,[],[]⟩ st=(bh S.N st.g az).bind fun svs=>if !dr||now||dR fr svs then(mA st.m q svs).bind fun x=>some (cr st dst x)else none:=by
 unfold dW lB;have hy:ei S.N st.g ⟨dst,none,now,.r q,az,[],[]⟩=none:=rfl;simp only[wanted,hy]
 cases hs:bh S.N st.g az with
 | none=>rfl
 | some svs=>
  simp only[ζb];split
  ·cases hp:mA st.m q svs <;> simp
  ·rfl
theorem z6 (dr:Bool) (fr:List Nat) (d:Nat) (now:Bool) (q:Jc) (az:List Arg) (st:St) :
 dW S c dr fr ⟨some d,none,now,.a q,az,[],[]⟩ st=(bh S.N st.g az).bind fun svs=>if st.new d then(mm st.m q svs d).bind fun r=>some { st with g:=aV st.g d r.2,m:=aV st.m d r.1 } else none:=by
 unfold dW lB;have hy:ei S.N st.g ⟨some d,none,now,.a q,az,[],[]⟩=none:=rfl;simp only[wanted,hy]
 cases hs:bh S.N st.g az with
 | none=>rfl
 | some svs=>
  simp only[ζb];split
  ·cases hp:mm st.m q svs d <;> simp[cr]
  ·rfl
theorem uJ (dr:Bool) (fr:List Nat) (dst:Option Nat) (now:Bool) (q:E9) (az:List Arg) (st:St) :
 dW S c dr fr ⟨dst,none,now,.l q,az,[],[]⟩ st=(bh S.N st.g az).bind fun svs=>if !dr||now then(lF st dst q svs).bind fun r=>some (cr r.2 dst r.1)else none:=by
 unfold dW lB;have hy:ei S.N st.g ⟨dst,none,now,.l q,az,[],[]⟩=none:=rfl;simp only[wanted,hy]
 cases hs:bh S.N st.g az with
 | none=>rfl
 | some svs=>
  simp only[ζb];split
  ·cases hp:lF st dst q svs <;> simp
  ·rfl
def n_:List SV→Option (FuncId×List SV)
 | .clo f a b::vs=>some (f,a++vs++b)
 | .v (.clo f a b)::vs=>some (f,a.map .v++vs++b.map .v)
 | _=>none
theorem Wg (dr:Bool) (fr:List Nat) (dst:Option Nat) (now:Bool) (az:List Arg) (st:St) (svs:List SV) (f:FuncId) (args:List SV) (hs:bh S.N st.g az=some svs) (hc:n_ svs=some (f,args)) :
 dW S c dr fr ⟨dst,none,now,.c,az,[],[]⟩ st=(hU S c dst dr (!dr||now) (fR st.m fr) f args st).bind fun r=>some (cr r.2 dst r.1):=by
 unfold dW lB;unfold n_ at hc;split at hc
 ·simp only[ζa,ζc]at hc;obtain⟨rfl,rfl⟩:=hc;simp only[wanted,ei,hs];cases hU S c dst dr _ _ _ _ st <;> simp
 ·simp only[ζa,ζc]at hc;obtain⟨rfl,rfl⟩:=hc;simp only[wanted,ei,hs];cases hU S c dst dr _ _ _ _ st <;> simp
 ·simp at hc
noncomputable def Lp {β:Type} (S:Sys) (c:bD) (fr:List Nat) (l:List RO) (k:St→Option β):St→Option β:=fun st=>(jS S c false fr l st).bind k
noncomputable def Kd {β:Type} (S:Sys) (c:bD) (fr:List Nat) (l:List RO) (k:St→Option β):St→Option β:=fun st=>(jS S c true fr l st).bind k
noncomputable def QG {β:Type} (S:Sys) (c:bD) (fr dd:List Nat) (l:List RO) (k:St→Option β):St→Option β:=fun st=>Lp S c fr l k (lz dd st)
noncomputable def VD {β:Type} (S:Sys) (c:bD) (fr dd:List Nat) (l:List RO) (k:St→Option β):St→Option β:=fun st=>Kd S c fr l k (lz dd st)
@[congr] theorem WB {β:Type} {fr:List Nat} {l:List RO} {k:St→Option β} {st st':St} (h:st=st'):Lp S c fr l k st=Lp S c fr l k st':=by rw[h]
@[congr] theorem V9 {β:Type} {fr fr':List Nat} {l:List RO} {k:St→Option β} {st st':St} (hf:fr=fr') (h:st=st'):Kd S c fr l k st=Kd S c fr' l k st':=by rw[h,hf]
@[congr] theorem Wd {β:Type} {fr dd:List Nat} {l:List RO} {k:St→Option β} {st st':St} (h:st=st'):QG S c fr dd l k st=QG S c fr dd l k st':=by rw[h]
@[congr] theorem Wv {β:Type} {fr fr' dd:List Nat} {l:List RO} {k:St→Option β} {st st':St} (hf:fr=fr') (h:st=st'):VD S c fr dd l k st=VD S c fr' dd l k st':=by rw[h,hf]
@[congr] theorem WY {dr:Bool} {fr:List Nat} {o:RO} {st st':St} (h:st=st'):dW S c dr fr o st=dW S c dr fr o st':=by rw[h]
end
section
variable {S:Sys} {c:bD} (dr:Bool) (fr:List Nat) (dst:Option Nat) (now:Bool) (az:List Arg) (st:St)
end
end Go.VE
namespace Go.VE
variable [aW]
inductive Fm where
 | seq (b:RC)
 | blk (id:Nat)
 | gst (x:Gh)
section
variable (S:Sys) (c:bD) {β:Type} (Q:Out×St→Option β)
noncomputable def runK:List Fm→Out×St→Option β
 | [],r=>Q r
 | .seq b::fs,(.norm,st)=>(bn S c b st).bind (runK fs)
 | .seq _::fs,r=>runK fs r
 | .blk id::fs,(.exit k,st)=>if k=id then runK fs (.norm,st)else runK fs (.exit k,st)
 | .blk _::fs,r=>runK fs r
 | .gst x::fs,(.norm,st)=>(ghost x st).bind fun st=>runK fs (.norm,st)
 | .gst _::fs,r=>runK fs r
noncomputable def go (rc:RC) (fs:List Fm) (st:St):Option β:=(bn S c rc st).bind (runK S c Q fs)
noncomputable def LZ (fs:List Fm):St→Option β:=fun st=>runK S c Q fs (.norm,st)
def au {α:Type} (t:Bool) (a b:α):α:=if t then a else b
end
@[congr] theorem Xs {α:Type} {t t':Bool} {a b a' b':α} (h:t=t') (ha:t'=true→a=a') (hb:t'=false→b=b'):au t a b=au t' a' b':=by
 subst h;cases t
 ·exact hb rfl
 ·exact ha rfl
section
variable {S:Sys} {c:bD} {β:Type} {Q:Out×St→Option β}
@[congr] theorem go_congr {a:RC} {fs:List Fm} {st st':St} (h:st=st'):go S c Q a fs st=go S c Q a fs st':=by rw[h]
@[congr] theorem VK {fs:List Fm} {st st':St} (h:st=st'):LZ S c Q fs st=LZ S c Q fs st':=by rw[h]
@[congr] theorem Wo {fs:List Fm} {r r':Out×St} (h:r=r'):runK S c Q fs r=runK S c Q fs r':=by rw[h]
theorem DB (rc:RC) (st:St):(bn S c rc st).bind Q=go S c Q rc [] st:=by
 simp only[go];cases bn S c rc st <;> rfl
inductive Fw (ν ε ρ:Type) where
 | n (a:ν)
 | x (e:ε)
 | r (b:ρ)
def gq {σ ε ρ:Type} (step:σ→Option (Fw σ ε ρ)):Nat→σ→Option (Fw Empty ε ρ)
 | 0,_=>none
 | k+1,s=>match step s with
  | some (.n s')=>gq step k s'
  | some (.x e)=>some (.x e)
  | some (.r b)=>some (.r b)
  | none=>none
theorem tJ {σ ε ρ:Type} {step:σ→Option (Fw σ ε ρ)}:∀{k k':Nat} {s:σ} {r:Fw Empty ε ρ},k≤k'→gq step k s=some r→gq step k' s=some r
 | 0,_,_,_,_,h=>by simp[gq]at h
 | k+1,0,_,_,hk,_=>by omega
 | k+1,k'+1,s,r,hk,h=>by
  simp only[gq]at h ⊢;split at h
  ·exact tJ (Nat.le_of_succ_le_succ hk) h
  ·exact h
  ·exact h
  ·simp at h
open Classical in
noncomputable def aX {σ ε ρ:Type} (step:σ→Option (Fw σ ε ρ)) (s:σ):Option (Fw Empty ε ρ):=
 if h:∃k r,gq step k s=some r then some (Classical.choose (Classical.choose_spec h))else none
theorem kB {σ ε ρ:Type} {step:σ→Option (Fw σ ε ρ)} {s:σ} {r:Fw Empty ε ρ}:aX step s=some r↔∃k,gq step k s=some r:=by
 unfold aX;constructor
 ·intro h;split at h
  ·rename_i hx;simp only[ζa]at h;exact⟨_,by rw[←h];exact Classical.choose_spec (Classical.choose_spec hx)⟩
  ·simp at h
 ·rintro⟨k,hk⟩;have hx:∃k r,gq step k s=some r:=⟨k,r,hk⟩;rw[dif_pos hx];have h2:=Classical.choose_spec (Classical.choose_spec hx);have h3:=tJ (Nat.le_max_left (Classical.choose hx) k) h2;have h4:=tJ (Nat.le_max_right (Classical.choose hx) k) hk;rw[h3]at h4;exact h4
def Fw.out {ν ε ρ:Type} (eν:ν→St) (eε:ε→Nat×St) (eρ:ρ→St):Fw ν ε ρ→Out×St
 | .n a=>(.norm,eν a)
 | .x e=>(.exit (eε e).1,(eε e).2)
 | .r b=>(.ret,eρ b)
def Fw.elim {ε ρ γ:Type} (fx:ε→γ) (fr:ρ→γ):Fw Empty ε ρ→γ
 | .x e=>fx e
 | .r b=>fr b
end
end Go.VE
namespace Go.VE
variable [aW]
class Lv (n:Nat) (α:Type) [aI α]:Prop where
 lv:∀a:α,V.cg n (cells a)=true
instance {n:Nat}:Lv n Int:=⟨fun _=>by cases n <;> rfl⟩
instance {n:Nat}:Lv n Bool:=⟨fun _=>by cases n <;> rfl⟩
instance {n:Nat}:Lv n ByteArray:=⟨fun _=>by cases n <;> rfl⟩
instance {n:Nat}:Lv n aa:=⟨fun _=>by cases n <;> rfl⟩
section
variable {α:Type} [aI α]
theorem Bu (s:Sl α):V.one (bu s)=true:=by cases s <;> rfl
theorem IQ (l:List α):V.kP (rows l)=true:=by
 induction l with
 | nil=>rfl
 | cons a l ih=>simp only[rows,List.map_cons,V.kP,ζh];exact⟨aI.good a,ih⟩
theorem FO (s:Sl α):V.good (bu s)=true:=by
 cases s <;> simp only[bu,Sl.k,lC,V.good] <;> exact IQ _
theorem JB {n:Nat} [Lv n α] (l:List α):V.jZ n (rows l)=true:=by
 induction l with
 | nil=>cases n <;> rfl
 | cons a l ih=>simp only[rows,List.map_cons,V.jZ,ζh];exact⟨Lv.lv a,ih⟩
theorem Ba {n:Nat} [Lv n α] (s:Sl α):V.lvl (n+1) (bu s)=true:=by
 cases s <;> simp only[bu,Sl.k,lC,V.lvl] <;> exact JB _
instance:aI (Sl α) where
 cells s:=[bu s]
 agg:=false
 size:=1
 len _:=rfl
 good s:=by simp only[V.bF,FO,Bool.and_self]
 one s:=by simp[Bu]
 plain _:=rfl
instance {n:Nat} [Lv n α]:Lv (n+1) (Sl α):=⟨fun s=>by
 show V.cg (n+1) [bu s]=true;simp only[V.cg,Ba,Bool.and_self]⟩
end
theorem Pk (n:Nat) (cs:List V):V.lvl (n+1) (.agg cs)=V.cg n cs:=rfl
theorem OB (n:Nat) (cs:List V):V.lvl (n+1) (.tup cs)=V.cg n cs:=rfl
theorem Kl (n:Nat) (cs:List V):V.lvl (n+1) (.fptr cs)=V.cg n cs:=rfl
theorem NG (n:Nat) (f:FuncId) (a b:List V):V.lvl (n+1) (.clo f a b)=(V.cg n a&&V.cg n b):=rfl
theorem oD (n:Nat) (k:IntKind) (x:Int):V.lvl n (.int k x)=true:=by cases n <;> rfl
theorem l8 (n:Nat) (x:Bool):V.lvl n (.bool x)=true:=by cases n <;> rfl
theorem oh (n:Nat) (x:ByteArray):V.lvl n (.str x)=true:=by cases n <;> rfl
theorem OW (n:Nat):V.lvl n .aF=true:=by cases n <;> rfl
theorem Pu (n:Nat):V.lvl n .cC=true:=by cases n <;> rfl
theorem JU (n:Nat):V.lvl n .eS=true:=by cases n <;> rfl
theorem jl (n:Nat):V.cg n []=true:=by cases n <;> rfl
theorem gU (n:Nat) (x:V) (r:List V):V.cg n (x::r)=(V.lvl n x&&V.cg n r):=by cases n <;> rfl
section
variable {S:Sys} {c:bD}
def Ip (x:Option SV) (b:Bool) (y z:Option St):Option St:=
 match x with
 | some (.v (.bool t))=>au (t==b) y z
 | some (.v _)=>z
 | _=>none
@[congr] theorem Q_ {x x':Option SV} {b:Bool} {y z:Option St} (h:x=x'):Ip x b y z=Ip x' b y z:=by rw[h]
def L7 {β:Type} (x:Option SV) (y z:Option β):Option β:=
 match x with
 | some (.v (.bool t))=>au t y z
 | _=>none
@[congr] theorem VL {β:Type} {x x':Option SV} {y z:Option β} (h:x=x'):L7 x y z=L7 x' y z:=by rw[h]
def jR (c:bD) (f:FuncId) (az:List V):Option (List V):=(c f (az.map .v) []).bind fun r=>bQ r.2 8 r.1
def I9 (dr:Bool) (ok:Bool) (st:St) (ys:List V):Option (SV×St):=
 if V.lvl 8 (result ys)&&((result ys).scalar||ok)then some (.v (result ys),st)else none
theorem PY (dst:Option Nat) (dr now:Bool) (old:List SV→Bool) (f:FuncId) (args:List SV) (st:St) (hk:S.E.keep f=false) :
 hU S c dst dr now old f args st=(bQ st.m 8 args).bind fun az=>if V.cg 8 az&&(now||old args)then(jR c f az).bind (I9 dr (dc args).isSome st)else none:=by
 unfold hU jR;simp only[hk,Bool.false_eq_true,if_false]
 cases bQ st.m 8 args with
 | none=>rfl
 | some az=>
  simp only[ζb];split
  ·cases c f (az.map .v) []with
   | none=>rfl
   | some r=>
    obtain⟨rs,m'⟩:=r;simp only[ζb];cases bQ m' 8 rs <;> rfl
  ·rfl
end
section
variable {S:Sys} {T:pq}
def DI (rs:List RV):Out×St→Option (List V)
 | (.exit _,_)=>none
 | (_,st)=>(mR st rs).bind (bQ st.m 8)
theorem K9 {f:FuncId} {rf:RF} (hT:T f=some rf) (az:List V) (hn:az.length≤rf.na):jR (dP S T) f az=go S (dP S T) (DI rf.rs) rf.body [] (start (az.map .v) []):=by
 unfold jR;rw[CQ hT];unfold nD;rw[if_pos (by simpa using hn),←DB]
 cases h:bn S (dP S T) rf.body (start (az.map .v) [])with
 | none=>rfl
 | some r=>
  obtain⟨o,st⟩:=r;cases o <;> simp only[ζb,DI] <;> (try rfl) <;> (cases mR st rf.rs <;> rfl)
end
end Go.VE
namespace Go.VE
variable [aW]
variable {N:Nat→FuncId}
def Sg (a b:Int):Option Int:=if b=0 then none else some (a.tmod b)
def Ri (k:IntKind) (a b:Int):Option Int:=if b<0 then none else some (a.fdiv (2 ^ (min b.toNat k.bits)))
theorem Du (o:Nat) (cs:List V):ay N (.fieldAddr o) [.fptr cs]=if o≤cs.length then some (.fptr (cs.drop o))else none:=rfl
def gM (s:ByteArray) (n:Int):Option Int:=if 0≤n then(s[n.toNat]?).map fun b=>(b.toNat:Int)else none
theorem HT (s:ByteArray) (k:IntKind) (n:Int):ay N .idxStr [.str s,.int k n]=(gM s n).bind fun x=>some (.int .u8 x):=by
 simp only[ay,gM];split
 ·cases s[n.toNat]? <;> rfl
 ·rfl
section
variable {α:Type} [aI α]
theorem A0 (s:Sl α) (k:IntKind) (i:Int) (n:Nat) (hn:n=aI.size α):ay N (.idxS n) [bu s,.int k i]=(idx s i).bind fun x=>some (.fptr (cells x)):=by
 rw[K7 s k i hn];cases idx s i <;> rfl
theorem vc (s:Sl α):ay N .lenSl [bu s]=some (.int .i64 s.l.length):=Jo s
def gz (s:Sl α) (lo hi:Option Int):Option (Sl α):=
 (cE s.l.length lo hi).map fun (l,h)=>match s with
  | .nil=>.nil
  | .emp=>.emp
  | .row x=>.part ((x.take h).drop l)
  | .part x=>.part ((x.take h).drop l)
theorem GO (s:Sl α) (lo hi:Option Int) (n:Nat) (hn:n=aI.size α):fL n (bu s) lo hi=(gz s lo hi).bind fun x=>some (bu x):=by
 subst hn
 cases s with
 | nil=>simp only[bu,Sl.k,lC,fL,gz,Sl.l,List.length_nil];cases cE 0 lo hi <;> rfl
 | emp=>simp only[bu,Sl.k,lC,fL,gz,Sl.l,List.length_nil];cases cE 0 lo hi <;> rfl
 | row l=>simp only[bu,Sl.k,lC,fL,gz,Sl.l,if_true,iz];cases cE l.length lo hi <;> simp[rows,List.map_take,List.map_drop]
 | part l=>simp only[bu,Sl.k,lC,fL,gz,Sl.l,if_true,iz];cases cE l.length lo hi <;> simp[rows,List.map_take,List.map_drop]
end
theorem HG (m:Tb aP) (n:Nat) (a:Bool) (cs:List V):mA m (.load n a) [.v (.fptr cs)]=(cut cs 0 n).bind fun r=>(mk a r).bind fun x=>some (.v x):=by
 simp only[mA,cG]
 cases cut cs 0 n with
 | none=>rfl
 | some r=>simp only[ζb];cases mk a r <;> rfl
end Go.VE
namespace Go.VE
variable [aW]
section
variable {α:Type} [aI α]
def cN (s:Sl α):aP:=.sl s.k (aI.size α) (rows s.l)
def Sl.pz (s:Sl α) (i:Int):Option Nat:=if 0≤i∧i.toNat<s.l.length then some i.toNat else none
def Sl.get (s:Sl α) (i:Nat):Option α:=s.l[i]?
def Sl.put (s:Sl α) (i:Nat) (x:α):Option (Sl α):=
 if i<s.l.length then some (match s with|.row l=>.row (l.set i x)|.part l=>.part (l.set i x)|s=>s)else none
def kH (s:Sl α) (x:α):Option (Sl α):=if s.l.length+1≤2147483648 then some (.row (s.l++[x]))else none
def vQ (n:Int) (z:α):Option (Sl α):=if 0≤n∧n≤2147483648 then some (.row (List.replicate n.toNat z))else none
end
section
variable {α:Type} [aI α] {N:Nat→FuncId} {m:Tb aP}
def GZ (n d:Nat) (o:Option aP) (i:Int):Option SV:=
 match o with
 | some (.sl k es xs)=>if bC k∧es=n∧0≤i∧i.toNat<xs.length then some (.el d i.toNat 0)else none
 | _=>none
theorem O7 (n d:Nat) (k:IntKind) (i:Int):iK N m (.idxS n) [.own d,.v (.int k i)]=GZ n d (an m d) i:=by
 simp only[iK,dc,w_,GZ]
 cases an m d with
 | none=>rfl
 | some o=>cases o <;> rfl
theorem Oc (n d:Nat) (s:Sl α) (i:Int) (h:n=aI.size α):GZ n d (some (cN s)) i=(s.pz i).bind fun j=>some (.el d j 0):=by
 subst h;simp only[GZ,cN,iz,true_and,Sl.pz]
 cases s with
 | nil=>simp[Sl.l,Sl.k,bC]
 | emp=>simp[Sl.l,Sl.k,bC]
 | row l=>simp only[Sl.k,Sl.l,bC,true_and];by_cases h:0≤i∧i.toNat<l.length <;> simp[h]
 | part l=>simp only[Sl.k,Sl.l,bC,true_and];by_cases h:0≤i∧i.toNat<l.length <;> simp[h]
def G3 (o:Option aP):Option SV:=
 match o with
 | some (.sl _ _ xs)=>some (.v (.int .i64 xs.length))
 | _=>none
theorem Lw (d:Nat):iK N m .lenSl [.own d]=G3 (an m d):=by
 simp only[iK,dc,w_,G3]
 cases an m d with
 | none=>rfl
 | some o=>cases o <;> rfl
theorem M1 (s:Sl α):G3 (some (cN s))=some (.v (.int .i64 s.l.length)):=by simp[G3,cN,iz]
def FZ (n:Nat) (a:Bool) (o:Nat) (ob:Option aP):Option SV:=
 match ob with
 | some (.box cs)=>xq n a ((cs.drop o).take n)
 | _=>none
theorem YG (n:Nat) (a:Bool) (d o:Nat):mA m (.load n a) [.ptr d o]=FZ n a o (an m d):=by
 simp only[mA,FZ];rfl
theorem Ia (n:Nat) (a:Bool) (o:Nat) (cs:List SV):FZ n a o (some (.box cs))=xq n a ((cs.drop o).take n):=rfl
def ze (n:Nat) (a:Bool) (i o:Nat) (ob:Option aP):Option SV:=
 match ob with
 | some (.sl _ _ xs)=>match xs[i]? with
  | some cs=>((cut cs o n).bind (mk a)).map .v
  | none=>none
 | _=>none
theorem WE (n:Nat) (a:Bool) (d i o:Nat):mA m (.load n a) [.el d i o]=ze n a i o (an m d):=by
 simp only[mA,ze];rfl
theorem HY (n:Nat) (a:Bool) (i o:Nat) (s:Sl α):ze n a i o (some (cN s))=(s.get i).bind fun x=>(cut (cells x) o n).bind fun r=>(mk a r).bind fun y=>some (.v y):=by
 simp only[ze,cN,Sl.get,rows,List.getElem?_map]
 cases s.l[i]? with
 | none=>rfl
 | some x=>
  simp only[Option.map_some,ζb]
  cases cut (cells x) o n with
  | none=>rfl
  | some r=>simp only[ζb];cases mk a r <;> rfl
theorem WL (z:α) (n:Int) (d:Nat) (size:Nat) (zero:List V) (h:zero=cells z) (h2:size=aI.size α) :
 mm m (.makeSl size zero) [.v (.int .i64 n),.v (.int .i64 n)] d=(vQ n z).bind fun s=>some (cN s,.own d):=by
 subst h h2;simp only[mm,vQ,true_and,Int.le_refl];split
 ·simp[cN,Sl.k,Sl.l,rows,List.map_replicate]
 ·rfl
def wZ (st:St) (d i o size:Nat) (x:V) (ob:Option aP):Option (SV×St):=
 match ob with
 | some (.sl k es xs)=>match xs[i]? with
  | some cs=>if x.cells.length=size∧o+size≤cs.length∧x.cells.all V.one=true then
   some (.v .undef,{ st with m:=aV st.m d (.sl k es (xs.set i (cs.take o++x.cells++cs.drop (o+x.cells.length)))) })else none
  | none=>none
 | _=>none
theorem Hj (st:St) (dst:Option Nat) (size d i o:Nat) (x:V):lF st dst (.store size) [.el d i o,.v x]=wZ st d i o size x (an st.m d):=by
 simp only[lF,wZ];rfl
theorem Hg (g:Tb SV) (p:List Nat) (w:List (List V)) (mo:Bool) (y:Nat) (d i size:Nat) (x:V) (a:α) (hx:x.cells=cells a) (hs:size=aI.size α) (s:Sl α) :
 wZ ⟨g,m,p,w,mo,y⟩ d i 0 size x (some (cN s))=(s.put i a).bind fun s'=>some (.v .undef,⟨g,aV m d (cN s'),p,w,mo,y⟩):=by
 have h1:(cells a).all V.one=true:=aI.one a;have hl:∀b:α,(cells b).length=aI.size α:=aI.len;subst hs;simp only[wZ,cN,rows,List.getElem?_map,hx,Sl.put]
 by_cases hi:i<s.l.length
 ·have hg:s.l[i]? = some s.l[i]:=ζd hi;rw[if_pos hi,hg];simp only[Option.map_some,hl,h1,ζb];rw[if_pos ⟨trivial,by omega,trivial⟩]
  cases s with
  | nil=>simp[Sl.l]at hi
  | emp=>simp[Sl.l]at hi
  | row l=>simp[Sl.k,Sl.l,rows,List.drop_of_length_le,hl,List.map_set]
  | part l=>simp[Sl.k,Sl.l,rows,List.drop_of_length_le,hl,List.map_set]
 ·rw[if_neg hi,List.getElem?_eq_none (by omega)];rfl
def qZ (st:St) (t n:Nat) (s:SV) (xs ys:Option (List (List V))):Option (SV×St):=
 match xs,ys with
 | some _,some []=>match s with
  | .own d=>match an st.m d with
   | some ob=>if St.new { st with m:=dh d st.m } t then some (.own t,{ st with m:=aV (dh d st.m) t ob })else none
   | none=>none
  | .v .aF=>if st.new t then some (.own t,{ st with m:=aV st.m t (.sl .nil n []) })else none
  | .v .cC=>if st.new t then some (.own t,{ st with m:=aV st.m t (.sl .emp n []) })else none
  | _=>none
 | some xs,some ys=>
  if xs.length+ys.length≤2147483648∧AP s=true then
   if St.new { st with m:=giveUp st.m s } t then some (.own t,{ st with m:=aV (giveUp st.m s) t (.sl .row n (xs++ys)) })else none
  else none
 | _,_=>none
theorem BB (st:St) (t n:Nat) (s x:SV):lF st (some t) (.append n) [s,x]=qZ st t n s (kO st.m n s) (kO st.m n x):=by
 cases s <;> cases x <;> (simp only[lF,qZ];rfl)
def GF (n:Nat) (o:Option aP):Option (List (List V)):=
 match o with
 | some (.sl k es xs)=>if bC k then(if es=n then some xs else none)else some []
 | _=>none
theorem FA (n d:Nat):kO m n (.own d)=GF n (an m d):=by
 simp only[kO,GF]
 cases an m d with
 | none=>rfl
 | some ob=>cases ob <;> rfl
theorem Aw (n:Nat) (s:Sl α) (h:n=aI.size α):GF n (some (cN s))=some (rows s.l):=by
 subst h;cases s <;> simp[GF,cN,Sl.k,Sl.l,bC,rows]
theorem My (n:Nat):kO m n (.v .aF)=some []:=rfl
theorem MZ (n:Nat):kO m n (.v .cC)=some []:=rfl
theorem Jp (g:Tb SV) (p:List Nat) (w:List (List V)) (mo:Bool) (y:Nat) (t n d:Nat) (l:List α) (x:α) (h:n=aI.size α):qZ ⟨g,m,p,w,mo,y⟩ t n (.own d) (some (rows l)) (some (rows [x])) =
 (kH (.row l) x).bind fun s=>if St.new ⟨g,dh d m,p,w,mo,y⟩ t then some (.own t,⟨g,aV (dh d m) t (cN s),p,w,mo,y⟩)else none:=by
 subst h;have e:(rows l).length+(rows [x]).length=l.length+1:=by simp[iz]
 by_cases h:l.length+1≤2147483648
 ·have h1:kH (.row l) x=some (.row (l++[x])):=if_pos h;have h2:qZ ⟨g,m,p,w,mo,y⟩ t (aI.size α) (.own d) (some (rows l)) (some (rows [x]))=if St.new ⟨g,dh d m,p,w,mo,y⟩ t then some (.own t,⟨g,aV (dh d m) t (.sl .row (aI.size α) (rows l++rows [x])),p,w,mo,y⟩)else none:=if_pos ⟨by omega,rfl⟩
  rw[h1,h2];simp only[ζb,cN,Sl.k,Sl.l,rows,List.map_append,List.map_cons,List.map_nil]
 ·have h1:kH (.row l) x=none:=if_neg h;have h2:qZ ⟨g,m,p,w,mo,y⟩ t (aI.size α) (.own d) (some (rows l)) (some (rows [x]))=none:=if_neg (fun q=>h (by omega))
  rw[h1,h2];rfl
theorem HC (g:Tb SV) (p:List Nat) (w:List (List V)) (mo:Bool) (y:Nat) (t n:Nat) (x:α) (h:n=aI.size α):qZ ⟨g,m,p,w,mo,y⟩ t n (.v .aF) (some []) (some (rows [x])) =
 if St.new ⟨g,m,p,w,mo,y⟩ t then some (.own t,⟨g,aV m t (cN (.row [x])),p,w,mo,y⟩)else none:=by
 subst h;simp[qZ,rows,AP,giveUp,cN,Sl.k,Sl.l];rfl
theorem HQ (g:Tb SV) (p:List Nat) (w:List (List V)) (mo:Bool) (y:Nat) (t n:Nat) (x:α) (h:n=aI.size α):qZ ⟨g,m,p,w,mo,y⟩ t n (.v .cC) (some []) (some (rows [x])) =
 if St.new ⟨g,m,p,w,mo,y⟩ t then some (.own t,⟨g,aV m t (cN (.row [x])),p,w,mo,y⟩)else none:=by
 subst h;simp[qZ,rows,AP,giveUp,cN,Sl.k,Sl.l];rfl
end
theorem uw (g:Tb SV) (m:Tb aP) (p:List Nat) (w:List (List V)) (mo:Bool) (y d:Nat):St.new ⟨g,m,p,w,mo,y⟩ d=(!(p.contains d)&&(an m d).isNone && !(rM d g) && !(oU d m)):=rfl
theorem oB (d:Nat):rM d []=false:=rfl
theorem mL (d n:Nat) (x:SV) (r:Tb SV):rM d ((n,x)::r)=(SV.bV d x||rM d r):=rfl
theorem nW (d:Nat):oU d []=false:=rfl
theorem mz (d n:Nat) (x:aP) (r:Tb aP):oU d ((n,x)::r)=(aP.bV d x||oU d r):=rfl
theorem uu (d:Nat) (x:V):SV.bV d (.v x)=false:=rfl
theorem pY (d e:Nat):SV.bV d (.own e)=(e==d):=rfl
theorem pX (d e o:Nat):SV.bV d (.ptr e o)=(e==d):=rfl
theorem rR (d e i o:Nat):SV.bV d (.el e i o)=(e==d):=rfl
theorem rQ (d e:Nat):SV.bV d (.mp e)=(e==d):=rfl
theorem pN (d:Nat) (f:FuncId) (a b:List SV):SV.bV d (.clo f a b)=(SV.cz d a||SV.cz d b):=rfl
theorem qe (d:Nat) (l:List SV):SV.bV d (.tup l)=SV.cz d l:=rfl
theorem ox (d:Nat):SV.cz d []=false:=rfl
theorem mE (d:Nat) (x:SV) (r:List SV):SV.cz d (x::r)=(SV.bV d x||SV.cz d r):=rfl
theorem ot (d:Nat) (cs:List SV):aP.bV d (.box cs)=SV.cz d cs:=rfl
theorem Bb (m:Tb aP) (n:Nat):bQ m n []=some []:=by cases n <;> simp only[bQ]
theorem zN (m:Tb aP) (n:Nat) (x:SV) (r:List SV):bQ m n (x::r)=(shut m n x).bind fun y=>(bQ m n r).bind fun s=>some (y::s):=by
 cases n <;> (simp only[bQ];cases shut m _ x <;> (try rfl) <;> (cases bQ m _ r <;> rfl))
theorem TL (m:Tb aP) (n:Nat) (x:V):shut m n (.v x)=some x:=by cases n <;> simp only[shut]
theorem K1 (m:Tb aP) (n:Nat) (f:FuncId) (a b:List SV):shut m (n+1) (.clo f a b)=(bQ m n a).bind fun x=>(bQ m n b).bind fun y=>some (.clo f x y):=by
 simp only[shut];cases bQ m n a <;> (try rfl) <;> (cases bQ m n b <;> rfl)
theorem JG (m:Tb aP) (n:Nat) (l:List SV):shut m (n+1) (.tup l)=(bQ m n l).bind fun x=>some (.tup x):=by
 simp only[shut];cases bQ m n l <;> rfl
theorem pS {α:Type} (n:Nat):dh n ([]:Tb α)=[]:=rfl
theorem nU {α:Type} (n k:Nat) (x:α) (r:Tb α):dh n ((k,x)::r)=if k=n then dh n r else(k,x)::dh n r:=rfl
theorem mapM_nil (f:List SV→List SV):mapM f []=[]:=rfl
end Go.VE
namespace Go.VE
variable [aW]
section
variable {N:Nat→FuncId} {m:Tb aP}
theorem OL:result []=.tup []:=rfl
theorem ND (x:V):result [x]=x:=rfl
theorem Ng (x y:V) (l:List V):result (x::y::l)=.tup (x::y::l):=rfl
theorem Dp (p:rY) (a:V):iK N m p [.v a]=(ay N p [a]).bind fun x=>some (.v x):=Fq N m p _ [a] rfl
theorem yI (p:rY) (a b:V):iK N m p [.v a,.v b]=(ay N p [a,b]).bind fun x=>some (.v x):=Fq N m p _ [a,b] rfl
theorem sx (l:List V):dc (l.map .v)=some l:=by
 induction l with
 | nil=>rfl
 | cons a l ih=>simp only[List.map_cons,dc,ih];rfl
theorem we (n:Nat) (l:List V):bQ m n (l.map .v)=some l:=by
 induction l with
 | nil=>exact Bb m n
 | cons a l ih=>rw[List.map_cons,zN,TL,ih];rfl
theorem Sl.Mf {α:Type} (l:List α):(Sl.row l).l=l:=rfl
theorem qa (k:IntKind) (n:Int):V.one (.int k n)=true:=rfl
theorem nQ (n:Bool):V.one (.bool n)=true:=rfl
theorem pW (n:ByteArray):V.one (.str n)=true:=rfl
end
end Go.VE
namespace Go.VE
variable [aW]
section
variable {S:Sys} {c:bD} {β γ δ:Type} {Q:Out×St→Option β} {L:Option β} {e:γ→Option β}
theorem I5 {dr:Bool} {fr:List Nat} {d:Option Nat} {gd:Option (Nat×Bool)} {now:Bool} {k:K} {az:List Arg} {st:St} (h:wanted st.g gd=some true) :
 dW S c dr fr ⟨d,gd,now,k,az,[],[]⟩ st=dW S c dr fr ⟨d,none,now,k,az,[],[]⟩ st:=by
 unfold dW;rw[h];rfl
theorem yB (dr:Bool) (st:St):yJ dr [] st=some st:=by cases dr <;> rfl
def lq (f:SV→Option V):List SV→Option (List V)
 | []=>some []
 | x::r=>(f x).bind fun y=>(lq f r).bind fun s=>some (y::s)
def gB (m:Tb aP):Nat→SV→Option V
 | 0,x=>match x with
  | .v y=>some y
  | .own d=>match an m d with
   | some (.sl k es xs)=>some (lC k es xs)
   | _=>none
  | .mp d=>match an m d with
   | some (.mp kvs)=>some (.fmap kvs)
   | _=>none
  | _=>none
 | n+1,x=>match x with
  | .v y=>some y
  | .own d=>match an m d with
   | some (.sl k es xs)=>some (lC k es xs)
   | _=>none
  | .ptr d o=>match an m d with
   | some (.box cs)=>match lq (gB m n) cs with
    | some xs=>if o≤xs.length then some (.fptr (xs.drop o))else none
    | none=>none
   | _=>none
  | .mp d=>match an m d with
   | some (.mp kvs)=>some (.fmap kvs)
   | _=>none
  | .clo f a b=>(lq (gB m n) a).bind fun x=>(lq (gB m n) b).bind fun y=>some (.clo f x y)
  | .tup l=>(lq (gB m n) l).bind fun x=>some (.tup x)
  | _=>none
theorem xx (m:Tb aP):∀(n:Nat),(∀x,shut m n x=gB m n x)∧∀l,bQ m n l=lq (gB m n) l:=by
 have hl:∀n,(∀x,shut m n x=gB m n x)→∀l,bQ m n l=lq (gB m n) l:=by
  intro n h l
  induction l with
  | nil=>exact Bb m n
  | cons a l ih=>rw[zN,h a,ih];rfl
 intro n
 induction n with
 | zero=>
  have h0:∀x,shut m 0 x=gB m 0 x:=by
   intro x;cases x <;> simp only[shut,gB] <;> rfl
  exact⟨h0,hl 0 h0⟩
 | succ n ih=>
  have h1:∀x,shut m (n+1) x=gB m (n+1) x:=by
   intro x
   cases x with
   | ptr d o=>simp only[shut,gB,ih.2];rfl
   | clo f a b=>rw[K1,ih.2,ih.2];rfl
   | tup l=>rw[JG,ih.2];rfl
   | _=>simp only[shut,gB] <;> rfl
  exact⟨h1,hl _ h1⟩
noncomputable def sg (S:Sys) (c:bD) (dr:Bool):List Nat→List RO→(St→Option β)→St→Option β
 | _,[],k,st=>k st
 | fr,o::r,k,st=>((yJ dr o.pre st).bind (dW S c dr fr o.strip)).bind fun st'=>sg S c dr (if dr then nj fr o.strip else fr) r k (lz o.dead st')
theorem AY (dr:Bool):∀(l:List RO) (fr:List Nat) (k:St→Option β) (st:St),sg S c dr fr l k st=(jS S c dr fr l st).bind k
 | [],_,_,_=>rfl
 | o::r,fr,k,st=>by
  simp only[sg,jS]
  cases (yJ dr o.pre st).bind (dW S c dr fr o.strip)with
  | none=>rfl
  | some st'=>exact AY dr r _ k _
noncomputable def ku (S:Sys) (c:bD):RC→(St→Option β)→(Nat→St→Option β)→(St→Option β)→St→Option β
 | .skip,n,_,_,st=>n st
 | .ops l,n,_,_,st=>sg S c false [] l n st
 | .lM l,n,_,_,st=>sg S c true [] l n st
 | .seq a b,n,x,r,st=>ku S c a (fun st=>ku S c b n x r st) x r st
 | .cond y a b,n,x,r,st=>match mT S.N st.g y with
  | some (.v (.bool t))=>au t (ku S c a n x r st) (ku S c b n x r st)
  | _=>none
 | .block id a,n,x,r,st=>ku S c a n (fun k st=>if k=id then n st else x k st) r st
 | .loop a,n,x,r,st=>(kG (bn S c a) st).bind fun q=>match q with|(.norm,st)=>n st|(.exit k,st)=>x k st|(.ret,st)=>r st
 | .each g ps a b,n,x,r,st=>(bn S c (.each g ps a b) st).bind fun q=>match q with|(.norm,st)=>n st|(.exit k,st)=>x k st|(.ret,st)=>r st
 | .exit k,_,x,_,st=>x k st
 | .ret,_,_,r,st=>r st
 | .gh g a,n,x,r,st=>(ghost g st).bind fun st=>ku S c a n x r st
 | .hg a g,n,x,r,st=>ku S c a (fun st=>(ghost g st).bind n) x r st
def Av (n:St→Option β) (x:Nat→St→Option β) (r:St→Option β):Out×St→Option β
 | (.norm,st)=>n st
 | (.exit k,st)=>x k st
 | (.ret,st)=>r st
theorem zO:∀(rc:RC) (n:St→Option β) (x:Nat→St→Option β) (r:St→Option β) (st:St),ku S c rc n x r st=(bn S c rc st).bind (Av n x r):=by
 intro rc
 induction rc with
 | skip=>intros;rfl
 | ops l=>intro n x r st;simp only[ku,bn,AY];cases jS S c false [] l st <;> rfl
 | lM l=>intro n x r st;simp only[ku,bn,AY];cases jS S c true [] l st <;> rfl
 | seq a b iha ihb=>
  intro n x r st;simp only[ku,bn,iha,ihb]
  cases h:bn S c a st with
  | none=>rfl
  | some q=>obtain⟨o,st'⟩:=q;cases o <;> rfl
 | cond y a b iha ihb=>
  intro n x r st;simp only[ku,bn,iha,ihb]
  cases mT S.N st.g y with
  | none=>rfl
  | some v=>cases v with
   | v z=>cases z with
    | bool t=>cases t <;> rfl
    | _=>rfl
   | _=>rfl
 | block id a ih=>
  intro n x r st;simp only[ku,bn,ih]
  cases h:bn S c a st with
  | none=>rfl
  | some q=>
   obtain⟨o,st'⟩:=q
   cases o with
   | exit k=>simp only[ζb,Av];split <;> rfl
   | _=>rfl
 | loop a ih=>
  intro n x r st;simp only[ku,bn];rfl
 | each g ps a b iha ihb=>
  intro n x r st;simp only[ku];rfl
 | exit k=>intros;rfl
 | ret=>intros;rfl
 | gh g a ih=>
  intro n x r st;simp only[ku,bn,ih];cases ghost g st <;> rfl
 | hg a g ih=>
  intro n x r st;simp only[ku,bn,ih]
  cases h:bn S c a st with
  | none=>rfl
  | some q=>
   obtain⟨o,st'⟩:=q
   cases o with
   | norm=>simp only[ζb,Av];cases ghost g st' <;> rfl
   | _=>rfl
section
variable (S c Q)
mutual
noncomputable def jK:List Fm→St→Option β
 | []=>fun st=>Q (.norm,st)
 | .seq b::fs=>fun st=>ku S c b (jK fs) (jG fs) (fun st=>Q (.ret,st)) st
 | .blk _::fs=>jK fs
 | .gst g::fs=>fun st=>(ghost g st).bind (jK fs)
noncomputable def jG:List Fm→Nat→St→Option β
 | []=>fun k st=>Q (.exit k,st)
 | .seq _::fs=>jG fs
 | .blk id::fs=>fun k st=>if k=id then jK fs st else jG fs k st
 | .gst _::fs=>jG fs
end
noncomputable def jX (rc:RC) (fs:List Fm) (st:St):Option β:=ku S c rc (jK S c Q fs) (jG S c Q fs) (fun st=>Q (.ret,st)) st
end
section
variable {dr:Bool} {fr:List Nat} {d:Nat} {dst:Option Nat} {now:Bool} {az:List Arg} {st:St} {α:Type} [aI α]
theorem Um {p:rY} {svs:List SV} {m:Option δ} {v:δ→SV} (hs:bh S.N st.g az=some svs) (hi:isSlice p=false) (h:iK S.N st.m p svs=m.bind fun x=>some (v x)) :
 dW S c dr fr ⟨dst,none,now,.p p,az,[],[]⟩ st=m.bind fun x=>some (cr st dst (v x)):=by
 rw[LS _ _ _ _ _ _ _ hi,hs];simp only[ζb,h];cases m <;> rfl
theorem Dj {p:rY} {svs:List SV} {v:SV} (hs:bh S.N st.g az=some svs) (hi:isSlice p=false) (h:iK S.N st.m p svs=some v) :
 dW S c dr fr ⟨dst,none,now,.p p,az,[],[]⟩ st=some (cr st dst v):=by
 rw[LS _ _ _ _ _ _ _ hi,hs];simp only[ζb,h]
theorem Ms {n:Nat} {s:Sl α} {k:IntKind} {i:Int} (hs:bh S.N st.g az=some [.v (bu s),.v (.int k i)]) (hn:n=aI.size α) :
 dW S c dr fr ⟨dst,none,now,.p (.idxS n),az,[],[]⟩ st=(idx s i).bind fun x=>some (cr st dst (.v (.fptr (cells x)))):=
 Um hs rfl (by rw[yI,A0 s k i n hn];cases idx s i <;> rfl)
theorem WO {n e:Nat} {s:Sl α} {k:IntKind} {i:Int} (hs:bh S.N st.g az=some [.own e,.v (.int k i)]) (ho:an st.m e=some (cN s)) (hn:n=aI.size α) :
 dW S c dr fr ⟨dst,none,now,.p (.idxS n),az,[],[]⟩ st=(s.pz i).bind fun j=>some (cr st dst (.el e j 0)):=
 Um hs rfl (by rw[O7,ho,Oc n e s i hn])
theorem LN {s:Sl α} (hs:bh S.N st.g az=some [.v (bu s)]):dW S c dr fr ⟨dst,none,now,.p .lenSl,az,[],[]⟩ st=some (cr st dst (.v (.int .i64 s.l.length))):=
 Dj hs rfl (by rw[Dp,vc];rfl)
theorem RB {e:Nat} {s:Sl α} (hs:bh S.N st.g az=some [.own e]) (ho:an st.m e=some (cN s)):dW S c dr fr ⟨dst,none,now,.p .lenSl,az,[],[]⟩ st=some (cr st dst (.v (.int .i64 s.l.length))):=
 Dj hs rfl (by rw[Lw,ho,M1])
theorem JM {s:ByteArray} {k:IntKind} {n:Int} (hs:bh S.N st.g az=some [.v (.str s),.v (.int k n)]):dW S c dr fr ⟨dst,none,now,.p .idxStr,az,[],[]⟩ st=(gM s n).bind fun x=>some (cr st dst (.v (.int .u8 x))):=
 Um hs rfl (by rw[yI,HT];cases gM s n <;> rfl)
theorem Uh {n e i o:Nat} {a:Bool} {s:Sl α} {v:α→V} (hs:bh S.N st.g az=some [.el e i o]) (hd:(!dr||now||dR fr [.el e i o])=true) (ho:an st.m e=some (cN s)) (hv:∀x:α,(cut (cells x) o n).bind (mk a)=some (v x)) :
 dW S c dr fr ⟨dst,none,now,.r (.load n a),az,[],[]⟩ st=(s.get i).bind fun x=>some (cr st dst (.v (v x))):=by
 rw[B8,hs];simp only[ζb,hd,if_true,WE,ho,HY]
 cases s.get i with
 | none=>rfl
 | some x=>
  simp only[ζb];have:=hv x
  cases hc:cut (cells x) o n with
  | none=>rw[hc]at this;cases this
  | some r=>rw[hc]at this;simp only[ζb]at this ⊢;rw[this];rfl
theorem PW {n e i:Nat} {s:Sl α} {x:V} {a:α} (hs:bh S.N st.g az=some [.el e i 0,.v x]) (hd:(!dr||now)=true) (ho:an st.m e=some (cN s)) (hx:x.cells=cells a) (hn:n=aI.size α) :
 dW S c dr fr ⟨dst,none,now,.l (.store n),az,[],[]⟩ st=(s.put i a).bind fun s'=>some (cr { st with m:=aV st.m e (cN s') } dst (.v .undef)):=by
 rw[uJ,hs];simp only[ζb,hd,if_true,Hj,ho];rw[Hg st.g st.pin st.want st.more st.yid e i n x a hx hn s];cases s.put i a <;> rfl
theorem Ug {n:Nat} {z:α} {zero:List V} {i:Int} (hs:bh S.N st.g az=some [.v (.int .i64 i),.v (.int .i64 i)]) (hz:zero=cells z) (hn:n=aI.size α) (hw:st.new d=true) :
 dW S c dr fr ⟨some d,none,now,.a (.makeSl n zero),az,[],[]⟩ st=(vQ i z).bind fun s=>some { st with g:=aV st.g d (.own d),m:=aV st.m d (cN s) }:=by
 rw[z6,hs];simp only[ζb,hw,if_true];rw[WL z i d n zero hz hn];cases vQ i z <;> rfl
theorem WJ {n e u:Nat} {s:Sl α} {x:α} (hs:bh S.N st.g az=some [.own e,.own u]) (hd:(!dr||now)=true) (ho:an st.m e=some (cN s)) (hu:an st.m u=some (cN (.row [x]))) (hn:n=aI.size α) (hw:St.new { st with m:=dh e st.m } d=true) :
 dW S c dr fr ⟨some d,none,now,.l (.append n),az,[],[]⟩ st=(kH s x).bind fun s'=>some { st with g:=aV st.g d (.own d),m:=aV (dh e st.m) d (cN s') }:=by
 rw[uJ,hs];simp only[ζb,hd,if_true,BB,FA,ho,hu];rw[Aw n s hn,Aw n (.row [x]) hn];have:=Jp (m:=st.m) st.g st.pin st.want st.more st.yid d n e s.l x hn;simp only[Sl.Mf];rw[show qZ st d n (.own e) (some (rows s.l)) (some (rows [x]))=_ from this];have ha:kH (.row s.l) x=kH s x:=by cases s <;> rfl
 rw[ha]
 cases kH s x with
 | none=>rfl
 | some s'=>
  simp only[ζb];rw[if_pos hw];rfl
theorem QA {n u:Nat} {x:α} {v:V} (hv:v=.aF∨v=.cC) (hs:bh S.N st.g az=some [.v v,.own u]) (hd:(!dr||now)=true) (hu:an st.m u=some (cN (.row [x]))) (hn:n=aI.size α) (hw:st.new d=true) :
 dW S c dr fr ⟨some d,none,now,.l (.append n),az,[],[]⟩ st=some { st with g:=aV st.g d (.own d),m:=aV st.m d (cN (.row [x])) }:=by
 rw[uJ,hs];simp only[ζb,hd,if_true,BB,FA,hu];rw[Aw n (.row [x]) hn];simp only[Sl.Mf];rcases hv with rfl|rfl
 ·rw[My,show qZ st d n (.v .aF) (some []) (some (rows [x]))=_ from HC (m:=st.m) st.g st.pin st.want st.more st.yid d n x hn];rw[if_pos hw];rfl
 ·rw[MZ,show qZ st d n (.v .cC) (some []) (some (rows [x]))=_ from HQ (m:=st.m) st.g st.pin st.want st.more st.yid d n x hn];rw[if_pos hw];rfl
theorem U0 {f:FuncId} {svs args:List SV} {cs:List V} {m:Option δ} {E:δ→List V} (hc:jR c f cs=m.bind fun r=>some (E r)) (hk:S.E.keep f=false) (hs:bh S.N st.g az=some svs) (hf:n_ svs=some (f,args))
 (hsh:lq (gB st.m 8) args=some cs) (hl:V.cg 8 cs=true) (ho:((!dr||now)||fR st.m fr args)=true) (hr:∀r,(V.lvl 8 (result (E r))&&((result (E r)).scalar||(dc args).isSome))=true) :
 dW S c dr fr ⟨dst,none,now,.c,az,[],[]⟩ st=m.bind fun r=>some (cr st dst (.v (result (E r)))):=by
 rw[Wg dr fr dst now az st svs f args hs hf,PY _ _ _ _ _ _ _ hk,(xx st.m 8).2,hsh];simp only[ζb,hl,ho,Bool.and_self,if_true,hc]
 cases m with
 | none=>rfl
 | some r=>
  simp only[ζb,I9];rw[if_pos (hr r)];rfl
end
end
end Go.VE
namespace Go.VE
variable [aW]
section
variable {S:Sys} {c:bD} {β γ:Type} {Q:Out×St→Option β} {L:Option β} {e:γ→Option β}
theorem rU (rc:RC) (st:St):jX S c Q rc [] st=(bn S c rc st).bind Q:=by
 unfold jX;rw[zO]
 congr 1
 funext q;obtain⟨o,st⟩:=q
 cases o <;> rfl
theorem xC (rc:RC) (st:St):bn S c rc st=jX S c some rc [] st:=by
 rw[rU];cases bn S c rc st <;> rfl
def nJ (rs:List RV):Out×St→Option (List V)
 | (.exit _,_)=>none
 | (_,st)=>(mR st rs).bind (lq (gB st.m 8))
theorem Ox (rs:List RV):DI rs=nJ rs:=by
 funext q;obtain⟨o,st⟩:=q
 cases o
 ·simp only[DI,nJ];congr 1;funext l;exact(xx st.m 8).2 l
 ·rfl
 ·simp only[DI,nJ];congr 1;funext l;exact(xx st.m 8).2 l
theorem N5 {S:Sys} {T:pq} {f:FuncId} {rf:RF} (hT:T f=some rf) (az:List V) (hn:az.length≤rf.na):jR (dP S T) f az=jX S (dP S T) (nJ rf.rs) rf.body [] (start (az.map .v) []):=by
 rw[K9 hT az hn,←DB,rU,Ox]
end
end Go.VE
namespace Go.VE
variable [aW]
def kK {α σ ε ρ:Type} (step:α→σ→Option (Fw σ ε ρ)):List α→σ→Option (Fw σ ε ρ)
 | [],s=>some (.n s)
 | x::xs,s=>(step x s).bind fun w=>match w with
  | .n s'=>kK step xs s'
  | .x e=>some (.x e)
  | .r b=>some (.r b)
def Fw.tg {ν ε ρ γ:Type} (fn:ν→γ) (fx:ε→γ) (fr:ρ→γ):Fw ν ε ρ→γ
 | .n a=>fn a
 | .x e=>fx e
 | .r b=>fr b
def Fw.sE {ν ε ρ:Type} (eν:ν→Tb aP) (eε:ε→Nat×Tb aP) (eρ:ρ→Tb aP):Fw ν ε ρ→Out×Tb aP
 | .n a=>(.norm,eν a)
 | .x e=>(.exit (eε e).1,(eε e).2)
 | .r b=>(.ret,eρ b)
def sE (q:Out×St):Option (Out×Tb aP):=some (q.1,q.2.m)
section
variable {S:Sys} {c:bD} {β γ:Type} {Q:Out×St→Option β} {L:Option β} {e:γ→Option β}
noncomputable def uW (S:Sys) (c:bD) (b:RC):Out×St→Option (Out×Tb aP)
 | (.norm,st)=>jX S c sE b [] st
 | _=>none
theorem Gy (ps:List Nat) (a b:RC) (st:St) (x:List V) (m:Tb aP) (hx:x.length=ps.length) :
 fN ps (bn S c a) (bn S c b) st x m=jX S c (uW S c b) a [] ⟨s7 st.g ps (x.map .v),m,st.pin++lZ st.g,[],true,0⟩:=by
 unfold fN;rw[if_pos hx,rU]
 cases bn S c a ⟨s7 st.g ps (x.map .v),m,st.pin++lZ st.g,[],true,0⟩with
 | none=>rfl
 | some q=>
  obtain⟨o,st1⟩:=q
  cases o with
  | norm=>
   simp only[ζb,uW];rw[rU];cases bn S c b st1 <;> rfl
  | _=>rfl
end
end Go.VE
namespace Go.VE
variable [aW]
def Le {α:Type} (a b:Option α):Prop:=∀r,a=some r→b=some r
section
variable {α:Type}
theorem Le.refl (a:Option α):Le a a:=fun _ h=>h
theorem Le.of_eq {a b:Option α} (h:b=a):Le a b:=fun _ h2=>h.trans h2
theorem Le.trans {a b d:Option α} (h1:Le a b) (h2:Le b d):Le a d:=fun r h=>h2 r (h1 r h)
theorem Le.none (b:Option α):Le (none:Option α) b:=fun r h=>by cases h
theorem Le.bind {β:Type} {a b:Option α} {f g:α→Option β} (h:Le a b) (hf:∀x,Le (f x) (g x)):Le (a.bind f) (b.bind g):=fun r hr=>by
 obtain⟨x,h1,h2⟩:=ζg.1 hr;rw[h x h1];exact hf x r h2
end
section
variable {S:Sys} {c:bD} {β γ δ:Type} {Q:Out×St→Option β} {L:Option β} {e:γ→Option β}
theorem CL {dr:Bool} {fr:List Nat} {dst:Option Nat} {now:Bool} {az:List Arg} {st:St} {f:FuncId} {svs args:List SV} {cs:List V} {m:Option δ} {E:δ→List V} (hc:Le (m.bind fun r=>some (E r)) (jR c f cs)) (hk:S.E.keep f=false) (hs:bh S.N st.g az=some svs) (hf:n_ svs=some (f,args))
 (hsh:lq (gB st.m 8) args=some cs) (hl:V.cg 8 cs=true) (ho:((!dr||now)||fR st.m fr args)=true) (hr:∀r,(V.lvl 8 (result (E r))&&((result (E r)).scalar||(dc args).isSome))=true) :
 Le (m.bind fun r=>some (cr st dst (.v (result (E r))))) (dW S c dr fr ⟨dst,none,now,.c,az,[],[]⟩ st):=by
 intro q hq;obtain⟨r,h1,h2⟩:=ζg.1 hq;have hc':jR c f cs=(some r).bind fun r=>some (E r):=hc _ (by rw[h1];rfl)
 rw[U0 (m:=some r) hc' hk hs hf hsh hl ho hr];exact h2
theorem JN {σ ε ρ:Type} {f:St→Option (Out×St)} {step:σ→Option (Fw σ ε ρ)} {eσ:σ→St} {eε:ε→Nat×St} {eρ:ρ→St} (h:∀s,Le ((step s).bind fun w=>some (Fw.out eσ eε eρ w)) (f (eσ s))) (s:σ) :
 Le ((aX step s).bind fun w=>some (Fw.out (fun e=>Empty.elim e) eε eρ w)) (kG f (eσ s)):=by
 have key:∀k s r,gq step k s=some r→gf f k (eσ s)=some (Fw.out (fun e=>Empty.elim e) eε eρ r):=by
  intro k
  induction k with
  | zero=>intro s r h;simp[gq]at h
  | succ k ih=>
   intro s r hw;simp only[gq]at hw
   cases hs:step s with
   | none=>rw[hs]at hw;cases hw
   | some w=>
    rw[hs]at hw;have h2:=h s (Fw.out eσ eε eρ w) (by rw[hs];rfl)
    simp only[gf,h2]
    cases w with
    | n a=>exact ih a r hw
    | x e=>cases hw;rfl
    | r b=>cases hw;rfl
 intro r hr;obtain⟨w,h1,h2⟩:=ζg.1 hr;obtain⟨k,hk⟩:=kB.1 h1;cases h2;exact jM.2 ⟨k,key k s w hk⟩
theorem Wi {σ ε ρ:Type} {a:RC} {fs:List Fm} {step:σ→Option (Fw σ ε ρ)} {eσ:σ→St} {eε:ε→Nat×St} {eρ:ρ→St} {s:σ} {fx:ε→Option γ} {fr:ρ→Option γ}
 (hL:L=jX S c Q (.loop a) fs (eσ s)) (h:∀s,Le ((step s).bind fun w=>some (Fw.out eσ eε eρ w)) (jX S c some a [] (eσ s)))
 (hx:∀x,Le ((fx x).bind e) (jG S c Q fs (eε x).1 (eε x).2)) (hr:∀b,Le ((fr b).bind e) (Q (.ret,eρ b))):Le (((aX step s).bind (Fw.elim fx fr)).bind e) L:=by
 subst hL;have h1:jX S c Q (.loop a) fs (eσ s)=(kG (bn S c a) (eσ s)).bind (Av (jK S c Q fs) (jG S c Q fs) (fun st=>Q (.ret,st))):=by
  unfold jX;rw[zO];rfl
 rw[h1];have h2:=JN (step:=step) (f:=bn S c a) (eσ:=eσ) (eε:=eε) (eρ:=eρ) (fun s=>by rw[xC];exact h s) s
 cases hw:aX step s with
 | none=>exact Le.none _
 | some w=>
  have h3:=h2 _ (by rw[hw];rfl)
  rw[h3]
  cases w with
  | n a=>cases a
  | x a=>exact hx a
  | r a=>exact hr a
theorem Da {α σ ε ρ:Type} {f:List V→Tb aP→Option (Out×Tb aP)} {step:α→σ→Option (Fw σ ε ρ)} {eI:α→List V} {eσ:σ→Tb aP} {eε:ε→Nat×Tb aP} {eρ:ρ→Tb aP}
 (h:∀x s,Le ((step x s).bind fun w=>some (Fw.sE eσ eε eρ w)) (f (eI x) (eσ s))):∀(xs:List α) (s:σ),Le ((kK step xs s).bind fun w=>some (Fw.sE eσ eε eρ w)) (lI f (xs.map eI) (eσ s))
 | [],s=>fun r hr=>hr
 | x::xs,s=>by
  simp only[List.map_cons,lI,kK]
  cases hs:step x s with
  | none=>exact Le.none _
  | some w=>
   have h2:=h x s (Fw.sE eσ eε eρ w) (by rw[hs];rfl)
   rw[h2]
   cases w with
   | n s'=>simp only[ζb,Fw.sE];exact Da h xs s'
   | x e=>exact Le.refl _
   | r b=>exact Le.refl _
theorem Wr {α σ ε ρ:Type} {g:Arg} {ps:List Nat} {a b:RC} {fs:List Fm} {f:FuncId} {x y:List V} {items:List α} {eI:α→List V} {step:α→σ→Option (Fw σ ε ρ)} {eσ:σ→Tb aP} {eε:ε→Nat×Tb aP} {eρ:ρ→Tb aP} {gt:Tb SV} {s:σ}
 {fn:σ→Option γ} {fx:ε→Option γ} {fr:ρ→Option γ}
 (hL:L=jX S c Q (.each g ps a b) fs ⟨gt,eσ s,[],[],true,0⟩) (hg:mT S.N gt g=some (.v (.clo f x y))) (hi:S.items f x y=some (items.map eI)) (hl:∀x,(eI x).length=ps.length)
 (h:∀x s,Le ((step x s).bind fun w=>some (Fw.sE eσ eε eρ w)) (jX S c (uW S c b) a [] ⟨s7 gt ps ((eI x).map .v),eσ s,lZ gt,[],true,0⟩))
 (hn:∀s,Le ((fn s).bind e) (jK S c Q fs ⟨gt,eσ s,[],[],true,0⟩))
 (hx:∀x,Le ((fx x).bind e) (jG S c Q fs (eε x).1 ⟨gt,(eε x).2,[],[],true,0⟩)) (hr:∀b,Le ((fr b).bind e) (Q (.ret,⟨gt,eρ b,[],[],true,0⟩))) :
 Le (((kK step items s).bind (Fw.tg fn fx fr)).bind e) L:=by
 subst hL;have h1:jX S c Q (.each g ps a b) fs ⟨gt,eσ s,[],[],true,0⟩=(bn S c (.each g ps a b) ⟨gt,eσ s,[],[],true,0⟩).bind (Av (jK S c Q fs) (jG S c Q fs) (fun st=>Q (.ret,st))):=by
  unfold jX;rw[zO]
 rw[h1];simp only[bn,hg,hi];have h2:=Da (step:=step) (f:=fN ps (bn S c a) (bn S c b) ⟨gt,eσ s,[],[],true,0⟩) (eI:=eI) (eσ:=eσ) (eε:=eε) (eρ:=eρ) (fun x s=>by rw[Gy _ _ _ _ _ _ (hl x)];exact h x s) items s
 cases hw:kK step items s with
 | none=>exact Le.none _
 | some w=>
  have h3:=h2 _ (by rw[hw];rfl)
  rw[h3]
  cases w with
  | n a=>exact hn a
  | x a=>exact hx a
  | r a=>exact hr a
end
end Go.VE
namespace Go.VE
variable [aW]
inductive Fo where
 | rc (c:RC)
 | ops (dr:Bool) (fr:List Nat) (l:List RO)
 | nx
 | ex (k:Nat)
 | rt
abbrev aS (g:Tb SV) (m:Tb aP):St:=⟨g,m,[],[],true,0⟩
section
variable (S:Sys) (c:bD) {β:Type} (Q:Out×St→Option β)
noncomputable def rn:Fo→List Fm→St→Option β
 | .rc a,fs,st=>jX S c Q a fs st
 | .ops dr fr l,fs,st=>sg S c dr fr l (jK S c Q fs) st
 | .nx,fs,st=>jK S c Q fs st
 | .ex k,fs,st=>jG S c Q fs k st
 | .rt,_,st=>Q (.ret,st)
noncomputable def u_:Fo→List Fm→St→Option (Fo×List Fm×St)
 | .rc .skip,fs,st=>some (.nx,fs,st)
 | .rc (.ops l),fs,st=>some (.ops false [] l,fs,st)
 | .rc (.lM l),fs,st=>some (.ops true [] l,fs,st)
 | .rc (.seq a b),fs,st=>some (.rc a,.seq b::fs,st)
 | .rc (.cond y a b),fs,st=>match mT S.N st.g y with
  | some (.v (.bool true))=>some (.rc a,fs,st)
  | some (.v (.bool false))=>some (.rc b,fs,st)
  | _=>none
 | .rc (.block id a),fs,st=>some (.rc a,.blk id::fs,st)
 | .rc (.exit k),fs,st=>some (.ex k,fs,st)
 | .rc .ret,fs,st=>some (.rt,fs,st)
 | .rc (.gh g a),fs,st=>match ghost g st with
  | some st'=>some (.rc a,fs,st')
  | none=>none
 | .rc (.hg a g),fs,st=>some (.rc a,.gst g::fs,st)
 | .rc (.loop _),_,_=>none
 | .rc (.each ..),_,_=>none
 | .ops _ _ [],fs,st=>some (.nx,fs,st)
 | .ops dr fr (⟨d,gd,now,k,az,dd,[]⟩::r),fs,st=>match dW S c dr fr ⟨d,gd,now,k,az,[],[]⟩ st with
  | some st'=>some (.ops dr (if dr then nj fr ⟨d,gd,now,k,az,[],[]⟩else fr) r,fs,lz dd st')
  | none=>none
 | .ops false fr (⟨d,gd,now,k,az,dd,x::xs⟩::r),fs,st=>match ghost x st with
  | some st'=>some (.ops false fr (⟨d,gd,now,k,az,dd,xs⟩::r),fs,st')
  | none=>none
 | .ops true _ (⟨_,_,_,_,_,_,_::_⟩::_),_,_=>none
 | .nx,.seq b::fs,st=>some (.rc b,fs,st)
 | .nx,.blk _::fs,st=>some (.nx,fs,st)
 | .nx,.gst g::fs,st=>match ghost g st with
  | some st'=>some (.nx,fs,st')
  | none=>none
 | .nx,[],_=>none
 | .ex k,.seq _::fs,st=>some (.ex k,fs,st)
 | .ex k,.blk id::fs,st=>some (if k=id then .nx else .ex k,fs,st)
 | .ex k,.gst _::fs,st=>some (.ex k,fs,st)
 | .ex _,[],_=>none
 | .rt,_,_=>none
noncomputable def fF:Nat→Fo→List Fm→St→Option (Fo×List Fm×St)
 | 0,fo,fs,st=>some (fo,fs,st)
 | n+1,fo,fs,st=>match u_ S c fo fs st with
  | some (fo',fs',st')=>fF n fo' fs' st'
  | none=>none
end
section
variable {S:Sys} {c:bD} {β γ δ:Type} {Q:Out×St→Option β} {e:γ→Option β}
theorem K4 {fo fo':Fo} {fs fs':List Fm} {st st':St} (h:u_ S c fo fs st=some (fo',fs',st')):rn S c Q fo fs st=rn S c Q fo' fs' st':=by
 cases fo with
 | rc a=>
  cases a with
  | cond y a b=>
   simp only[u_]at h;split at h
   ·rename_i hs;cases h;simp only[rn,jX,ku,hs,au,if_true]
   ·rename_i hs;cases h;simp only[rn,jX,ku,hs,au];rfl
   ·cases h
  | gh g a=>
   simp only[u_]at h;split at h
   ·rename_i hs;cases h;simp only[rn,jX,ku,hs,ζb]
   ·cases h
  | loop a=>cases h
  | each g ps a b=>cases h
  | seq a b=>cases h;simp only[rn,jX,ku,jK,jG]
  | block id a=>cases h;simp only[rn,jX,ku,jK,jG]
  | hg a g=>cases h;simp only[rn,jX,ku,jK,jG]
  | _=>cases h;simp only[rn,jX,ku]
 | ops dr fr l=>
  cases l with
  | nil=>cases h;simp only[rn,sg]
  | cons o r=>
   obtain⟨d,gd,now,k,az,dd,pre⟩:=o
   cases pre with
   | nil=>
    simp only[u_]at h;split at h
    ·rename_i hs;cases h;simp only[rn,sg,yB,RO.strip,ζb,hs]
    ·cases h
   | cons x xs=>
    cases dr with
    | true=>cases h
    | false=>
     simp only[u_]at h;split at h
     ·rename_i hs;cases h;simp only[rn,sg,RO.strip,yJ,o5,Bool.false_eq_true,if_false,hs,ζb]
     ·cases h
 | nx=>
  cases fs with
  | nil=>cases h
  | cons f fs=>
   cases f with
   | seq b=>cases h;simp only[rn,jX,jK]
   | blk id=>cases h;simp only[rn,jK]
   | gst g=>
    simp only[u_]at h;split at h
    ·rename_i hs;cases h;simp only[rn,jK,hs,ζb]
    ·cases h
 | ex k=>
  cases fs with
  | nil=>cases h
  | cons f fs=>
   cases f with
   | seq b=>cases h;simp only[rn,jG]
   | blk id=>
    cases h;simp only[rn,jG]
    by_cases hk:k=id
    ·simp only[if_pos hk,rn]
    ·simp only[if_neg hk,rn]
   | gst g=>cases h;simp only[rn,jG]
 | rt=>cases h
theorem kQ:∀{n:Nat} {fo fo':Fo} {fs fs':List Fm} {st st':St},fF S c n fo fs st=some (fo',fs',st')→rn S c Q fo fs st=rn S c Q fo' fs' st'
 | 0,fo,fo',fs,fs',st,st',h=>by cases h;rfl
 | n+1,fo,fo',fs,fs',st,st',h=>by
  simp only[fF]at h;split at h
  ·rename_i a b d hs;rw[K4 hs];exact kQ h
  ·cases h
theorem AG {n:Nat} {fo fo':Fo} {fs fs':List Fm} {st st':St} {m:Option β} (h:fF S c n fo fs st=some (fo',fs',st')) (h2:Le m (rn S c Q fo' fs' st')):Le m (rn S c Q fo fs st):=by
 rw[kQ h];exact h2
theorem YK {n:Nat} {fo fo':Fo} {fs fs':List Fm} {st st':St} {r:γ} (h:fF S c n fo fs st=some (fo',fs',st')) (h2:rn S c Q fo' fs' st'=e r):Le ((some r).bind e) (rn S c Q fo fs st):=by
 rw[kQ h];exact Le.of_eq h2
theorem L_ {m:Option δ} {f:δ→Option γ} {L:Option β} (k:δ→Option β) (h2:Le (m.bind k) L) (h1:∀r,Le ((f r).bind e) (k r)):Le ((m.bind f).bind e) L:=by
 intro r hr
 cases m with
 | none=>cases hr
 | some x=>exact h2 r (h1 x r hr)
theorem YI {n:Nat} {fo:Fo} {fs fs':List Fm} {st0:St} {dr:Bool} {q l:List RO} {fr:List Nat} {st:St} {d:Option Nat} {gd:Option (Nat×Bool)} {now:Bool} {k:K} {az:List Arg} {dd:List Nat} {m:Option δ} {g:δ→St} {f:δ→Option γ}
 (hL:fF S c n fo fs st0=some (.ops dr fr q,fs',st)) (hq:q=⟨d,gd,now,k,az,dd,[]⟩::l) (hg:wanted st.g gd=some true)
 (hs:Le (m.bind fun x=>some (g x)) (dW S c dr fr ⟨d,none,now,k,az,[],[]⟩ st))
 (h:∀x,m=some x→Le ((f x).bind e) (rn S c Q (.ops dr (if dr then nj fr ⟨d,gd,now,k,az,[],[]⟩else fr) l) fs' (lz dd (g x)))):Le ((m.bind f).bind e) (rn S c Q fo fs st0):=by
 rw[kQ hL];subst hq;simp only[rn,sg,RO.strip,yB,ζb];rw[I5 hg]
 cases m with
 | none=>exact Le.none _
 | some x=>rw[hs (g x) rfl];exact h x rfl
theorem LU {n:Nat} {fo:Fo} {fs fs':List Fm} {st0:St} {dr:Bool} {q l:List RO} {fr:List Nat} {st st':St} {d:Option Nat} {gd:Option (Nat×Bool)} {now:Bool} {k:K} {az:List Arg} {dd:List Nat} {m:Option β}
 (hL:fF S c n fo fs st0=some (.ops dr fr q,fs',st)) (hq:q=⟨d,gd,now,k,az,dd,[]⟩::l) (hg:wanted st.g gd=some true)
 (hs:dW S c dr fr ⟨d,none,now,k,az,[],[]⟩ st=some st')
 (h:Le m (rn S c Q (.ops dr (if dr then nj fr ⟨d,gd,now,k,az,[],[]⟩else fr) l) fs' (lz dd st'))):Le m (rn S c Q fo fs st0):=by
 rw[kQ hL];subst hq;simp only[rn,sg,RO.strip,yB,ζb];rw[I5 hg,hs];exact h
theorem HP {n:Nat} {fo:Fo} {fs0:List Fm} {st:St} {σ ε ρ:Type} {a:RC} {fs:List Fm} {step:σ→Option (Fw σ ε ρ)} {eσ:σ→St} {eε:ε→Nat×St} {eρ:ρ→St} {s:σ} {fx:ε→Option γ} {fr:ρ→Option γ}
 (hL:fF S c n fo fs0 st=some (.rc (.loop a),fs,eσ s)) (h:∀s,Le ((step s).bind fun w=>some (Fw.out eσ eε eρ w)) (rn S c some (.rc a) [] (eσ s)))
 (hx:∀x,Le ((fx x).bind e) (rn S c Q (.ex (eε x).1) fs (eε x).2)) (hr:∀b,Le ((fr b).bind e) (Q (.ret,eρ b))):Le (((aX step s).bind (Fw.elim fx fr)).bind e) (rn S c Q fo fs0 st):=by
 rw[kQ hL];exact Wi (L:=rn S c Q (.rc (.loop a)) fs (eσ s)) rfl h hx hr
theorem UQ {n:Nat} {fo:Fo} {fs0:List Fm} {st:St} {α σ ε ρ:Type} {g:Arg} {ps:List Nat} {a b:RC} {fs:List Fm} {f:FuncId} {x y:List V} {items:List α} {eI:α→List V} {step:α→σ→Option (Fw σ ε ρ)} {eσ:σ→Tb aP} {eε:ε→Nat×Tb aP} {eρ:ρ→Tb aP} {gt:Tb SV} {s:σ}
 {fn:σ→Option γ} {fx:ε→Option γ} {fr:ρ→Option γ}
 (hL:fF S c n fo fs0 st=some (.rc (.each g ps a b),fs,aS gt (eσ s))) (hg:mT S.N gt g=some (.v (.clo f x y))) (hi:S.items f x y=some (items.map eI)) (hl:∀x,(eI x).length=ps.length)
 (h:∀x s,Le ((step x s).bind fun w=>some (Fw.sE eσ eε eρ w)) (rn S c (uW S c b) (.rc a) [] ⟨s7 gt ps ((eI x).map .v),eσ s,lZ gt,[],true,0⟩))
 (hn:∀s,Le ((fn s).bind e) (rn S c Q .nx fs (aS gt (eσ s))))
 (hx:∀x,Le ((fx x).bind e) (rn S c Q (.ex (eε x).1) fs (aS gt (eε x).2))) (hr:∀b,Le ((fr b).bind e) (Q (.ret,aS gt (eρ b)))) :
 Le (((kK step items s).bind (Fw.tg fn fx fr)).bind e) (rn S c Q fo fs0 st):=by
 rw[kQ hL];exact Wr (L:=rn S c Q (.rc (.each g ps a b)) fs (aS gt (eσ s))) rfl hg hi hl h hn hx hr
theorem Vo {b:RC} {st st':St} {m:Option (Out×Tb aP)} {fs:List Fm} {n:Nat} {fo:Fo} (h:fF S c n fo fs st=some (.nx,[],st')) (h2:Le m (rn S c sE (.rc b) [] st')):Le m (rn S c (uW S c b) fo fs st):=by
 rw[kQ h];exact h2
theorem Wh {α:Type} {n:Nat} {fo fo':Fo} {fs fs':List Fm} {st:St} {A:Option α→St} {o:Option α} {f:α→Option γ} (h:fF S c n fo fs st=some (fo',fs',A o))
 (h2:∀x,o=some x→Le ((f x).bind e) (rn S c Q fo' fs' (A (some x)))):Le ((o.bind f).bind e) (rn S c Q fo fs st):=by
 rw[kQ h]
 cases o with
 | none=>exact Le.none _
 | some x=>exact h2 x rfl
theorem YX {T:pq} {f:FuncId} {rf:RF} {az:List V} {m:Option (List V)} (hT:T f=some rf) (hn:az.length≤rf.na) (h:Le m (rn S (dP S T) (nJ rf.rs) (.rc rf.body) [] (start (az.map .v) []))):Le m (jR (dP S T) f az):=by
 rw[N5 hT az hn];exact h
end
section
variable {α:Type} [aI α]
abbrev cv (x:α):SV:=.v (enc x)
abbrev cp (x:α):SV:=.v (.fptr (cells x))
abbrev bx (x:α):aP:=.box ((cells x).map .v)
end
end Go.VE
namespace Go.VE
variable [aW]
structure lG (S:Sys) (c:bD) {α δ:Type} (fn:FuncId) (A:α→List V) (E:δ→List V) (p:α→Option δ) (sc:Bool):Prop where
 k:S.E.keep fn=false
 h:∀z,Le ((p z).bind fun r=>some (E r)) (jR c fn (A z))
 l:∀z,V.cg 8 (A z)=true
 r:∀r,V.lvl 8 (result (E r))=true
 s:sc=true→∀r,(result (E r)).scalar=true
section
variable {S:Sys} {c:bD} {β γ δ α:Type} {Q:Out×St→Option β} {e:γ→Option β} {fo:Fo} {fs:List Fm} {st0:St} {l:List RO} {d:Option Nat} {gd:Option (Nat×Bool)} {now:Bool} {az:List Arg} {dd:List Nat}
noncomputable abbrev qP (S:Sys) (c:bD) (Q:Out×St→Option β) (dr:Bool) (fr:List Nat) (d:Option Nat) (k:K) (l:List RO) (fs:List Fm) (dd:List Nat) (st:St):Option β:=
 rn S c Q (.ops dr (if dr then(match k with|.p _|.r _=>fr|_=>match d with|some d=>d::fr|none=>fr)else fr) l) fs (lz dd st)
theorem Bs (fr:List Nat) (k:K):nj fr ⟨d,gd,now,k,az,[],[]⟩=(match k with|.p _|.r _=>fr|_=>match d with|some d=>d::fr|none=>fr):=by
 cases k <;> cases d <;> rfl
theorem A4 {n:Nat} {dr:Bool} {fr:List Nat} {q:List RO} {fs':List Fm} {st:St} {k:K} {m:Option δ} {g:δ→St} {f:δ→Option γ}
 (hL:fF S c n fo fs st0=some (.ops dr fr q,fs',st)) (hq:q=⟨d,gd,now,k,az,dd,[]⟩::l) (hg:wanted st.g gd=some true)
 (hs:Le (m.bind fun x=>some (g x)) (dW S c dr fr ⟨d,none,now,k,az,[],[]⟩ st))
 (h:∀x,m=some x→Le ((f x).bind e) (qP S c Q dr fr d k l fs' dd (g x))):Le ((m.bind f).bind e) (rn S c Q fo fs st0):=
 YI hL hq hg hs (fun x hx=>by rw[Bs];exact h x hx)
theorem oH {n:Nat} {dr:Bool} {fr:List Nat} {q:List RO} {fs':List Fm} {st st':St} {k:K} {m:Option β}
 (hL:fF S c n fo fs st0=some (.ops dr fr q,fs',st)) (hq:q=⟨d,gd,now,k,az,dd,[]⟩::l) (hg:wanted st.g gd=some true)
 (hs:dW S c dr fr ⟨d,none,now,k,az,[],[]⟩ st=some st') (h:Le m (qP S c Q dr fr d k l fs' dd st')):Le m (rn S c Q fo fs st0):=
 LU hL hq hg hs (by rw[Bs];exact h)
section
variable [aI α]
theorem Ka (n:Nat) (dr:Bool) (fr:List Nat) (q:List RO) (fs':List Fm) (st:St) (k:IntKind) {sz:Nat} {s:Sl α} {i:Int} {f:α→Option γ} (hq:q=⟨d,gd,now,.p (.idxS sz),az,dd,[]⟩::l)
 (hL:(fF S c n fo fs st0,wanted st.g gd,bh S.N st.g az,sz)=(some (.ops dr fr q,fs',st),some true,some [.v (bu s),.v (.int k i)],aI.size α))
 (h:∀x,idx s i=some x→Le ((f x).bind e) (qP S c Q dr fr d (.p (.idxS sz)) l fs' dd (cr st d (cp x)))):Le (((idx s i).bind f).bind e) (rn S c Q fo fs st0):=by
 simp only[ζc]at hL;exact A4 hL.1 hq hL.2.1 (Le.of_eq (Ms hL.2.2.1 hL.2.2.2)) h
theorem Tq (n:Nat) (dr:Bool) (fr:List Nat) (q:List RO) (fs':List Fm) (st:St) (s:Sl α) {m:Option β} (hq:q=⟨d,gd,now,.p .lenSl,az,dd,[]⟩::l)
 (hL:(fF S c n fo fs st0,wanted st.g gd,bh S.N st.g az)=(some (.ops dr fr q,fs',st),some true,some [.v (bu s)]))
 (h:Le m (qP S c Q dr fr d (.p .lenSl) l fs' dd (cr st d (.v (.int .i64 s.l.length))))):Le m (rn S c Q fo fs st0):=by
 simp only[ζc]at hL;exact oH hL.1 hq hL.2.1 (LN hL.2.2) h
end
section
variable {q:List RO} {fs':List Fm}
end
theorem C5 (m:Tb aP) (n:Nat) (l:List V):lq (gB m n) (l.map .v)=some l:=by rw[←(xx m n).2,we]
variable {A:α→List V} {E:δ→List V} {p:α→Option δ} {fn:FuncId} {sc:Bool}
end
end Go.VE
namespace Go.VE
variable [aW]
abbrev iv (n:Int):SV:=.v (.int .i64 n)
abbrev bv (b:Bool):SV:=.v (.bool b)
abbrev len {α:Type} (s:Sl α):Int:=((List.length (Sl.l s):Nat):Int)
abbrev o1 (d:Nat) (a:Arg) (dd:List Nat):RO:=⟨some d,none,false,.p .id,[a],dd,[]⟩
abbrev o2 (d:Nat) (k:K) (az:List Arg) (dd:List Nat):RO:=⟨some d,none,false,k,az,dd,[]⟩
abbrev o3 (d s:Nat) (b:Bool) (k:K) (az:List Arg) (dd:List Nat):RO:=⟨some d,some (s,b),false,k,az,dd,[]⟩
def FB (a b:aa):Bool:=[a.proc,a.index]==[b.proc,b.index]
mutual
theorem wU:∀{n:Nat} {x:V},V.lvl n x=true→V.lvl (n+1) x=true
 | 0,.fsl ..,h=>by simp[V.lvl]at h
 | 0,.fptr ..,h=>by simp[V.lvl]at h
 | 0,.fmap ..,h=>by simp[V.lvl]at h
 | 0,.agg ..,h=>by simp[V.lvl]at h
 | 0,.tup ..,h=>by simp[V.lvl]at h
 | 0,.clo ..,h=>by simp[V.lvl]at h
 | n+1,.fsl es xs,h=>by simp only[V.lvl]at h ⊢;exact yL h
 | n+1,.fptr cs,h=>by simp only[V.lvl]at h ⊢;exact nT h
 | n+1,.fmap kvs,h=>by simp only[V.lvl]at h ⊢;exact AZ h
 | n+1,.agg cs,h=>by simp only[V.lvl]at h ⊢;exact nT h
 | n+1,.tup cs,h=>by simp only[V.lvl]at h ⊢;exact nT h
 | n+1,.clo f a b,h=>by simp only[V.lvl,ζh]at h ⊢;exact⟨nT h.1,nT h.2⟩
 | 0,.bool _,_|0,.int ..,_|0,.str _,_|0,.eS,_|0,.ey,_|0,.oa,_|0,.cC,_|0,.aF,_|0,.hsl ..,_|0,.hptr ..,_|0,.yld _,_|0,.hmap _,_=>rfl
 | _+1,.bool _,_|_+1,.int ..,_|_+1,.str _,_|_+1,.eS,_|_+1,.ey,_|_+1,.oa,_|_+1,.cC,_|_+1,.aF,_|_+1,.hsl ..,_|_+1,.hptr ..,_|_+1,.yld _,_|_+1,.hmap _,_=>rfl
theorem nT:∀{n:Nat} {x:List V},V.cg n x=true→V.cg (n+1) x=true
 | n,[],_=>jl _
 | n,a::l,h=>by rw[gU,ζh]at h ⊢;exact⟨wU h.1,nT h.2⟩
theorem yL:∀{n:Nat} {x:List (List V)},V.jZ n x=true→V.jZ (n+1) x=true
 | n,[],_=>by simp only[V.jZ]
 | n,a::l,h=>by simp only[V.jZ,ζh]at h ⊢;exact⟨nT h.1,yL h.2⟩
theorem AZ:∀{n:Nat} {x:List (V×V)},V.oV n x=true→V.oV (n+1) x=true
 | n,[],_=>by simp only[V.oV]
 | n,(k,v)::l,h=>by simp only[V.oV,ζh]at h ⊢;exact⟨⟨wU h.1.1,wU h.1.2⟩,AZ h.2⟩
end
section
variable {α:Type} [aI α]
theorem qE (h:aI.agg α=false) (a:α):cells a=[enc a]:=by
 have hl:(cells a).length=1:=by rw[show (cells a).length=_ from aI.len a,aI.plain h]
 unfold enc;rw[if_neg (by simp[h])]
 match hc:cells a,hl with
 | [x],_=>rfl
theorem w5 (h:aI.agg α=true) (a:α):enc a=.agg (cells a):=by unfold enc;rw[if_pos h]
theorem PR {n:Nat} [Lv n α] (a:α):V.lvl (n+1) (enc a)=true:=by
 have h:=Lv.lv (n:=n) a
 cases ha:aI.agg α with
 | true=>rw[w5 ha];exact h
 | false=>
  rw[qE ha,gU,ζh]at h;exact wU h.1
theorem TM {n:Nat} [Lv n α] (a:α):V.lvl (n+1) (.fptr (cells a))=true:=Lv.lv a
theorem kC (a:α):V.good (enc a)=true:=by
 have h:V.bF (cells a)=true:=aI.good a
 cases ha:aI.agg α with
 | true=>rw[w5 ha];exact h
 | false=>
  rw[qE ha]at h;simp only[V.bF,Bool.and_true]at h;exact h
theorem nN (s:Sl α):V.one (enc s)=true:=Bu s
theorem nG {n:Nat} [Lv n α] (s:Sl α):V.lvl (n+1) (enc s)=true:=Ba s
theorem Kb (s:α) (h:aI.agg α=false):V.one (enc s)=true:=by
 have:=aI.one s;rw[show aI.cells s=cells s from rfl,qE h]at this;simpa using this
end
instance {α:Type} [aI α]:aI (Option α) where
 cells o:=[match o with|none=>.eS|some x=>.fptr (cells x)]
 agg:=false
 size:=1
 len _:=rfl
 good o:=by
  cases o with
  | none=>rfl
  | some x=>simp only[V.bF,V.good,Bool.and_true];exact aI.good x
 one o:=by cases o <;> rfl
 plain _:=rfl
instance {n:Nat} {α:Type} [aI α] [Lv n α]:Lv (n+1) (Option α):=⟨fun o=>by
 cases o with
 | none=>rfl
 | some x=>
  show V.cg (n+1) [.fptr (cells x)]=true;rw[gU,jl,Bool.and_true];exact Lv.lv x⟩
structure U8 where
 v:Int
 deriving Inhabited,DecidableEq
instance:aI U8 where
 cells n:=[.int .u8 n.v]
 agg:=false
 size:=1
 len _:=rfl
 good _:=rfl
 one _:=rfl
 plain _:=rfl
instance {n:Nat}:Lv n U8:=⟨fun _=>by cases n <;> rfl⟩
structure Yx where
 v:Int
 deriving Inhabited,DecidableEq
instance:aI Yx where
 cells n:=[.int .u64 n.v]
 agg:=false
 size:=1
 len _:=rfl
 good _:=rfl
 one _:=rfl
 plain _:=rfl
instance {n:Nat}:Lv n Yx:=⟨fun _=>by cases n <;> rfl⟩
structure X7 where
 v:Int
 deriving Inhabited,DecidableEq
instance:aI X7 where
 cells n:=[.int .u32 n.v]
 agg:=false
 size:=1
 len _:=rfl
 good _:=rfl
 one _:=rfl
 plain _:=rfl
instance {n:Nat}:Lv n X7:=⟨fun _=>by cases n <;> rfl⟩
structure X_ where
 v:Int
 deriving Inhabited,DecidableEq
instance:aI X_ where
 cells n:=[.int .i32 n.v]
 agg:=false
 size:=1
 len _:=rfl
 good _:=rfl
 one _:=rfl
 plain _:=rfl
instance {n:Nat}:Lv n X_:=⟨fun _=>by cases n <;> rfl⟩
structure ji (S:Sys) (c:bD) {α δ:Type} (g:FuncId) (e:List V) (A:α→List V) (R:δ→List V) (p:α→Option δ):Prop where
 f:lG S c g (fun z=>A z++e) R p true
 d:V.cg 7 e=true
theorem ji.of {S:Sys} {c:bD} {α α' δ:Type} {fn:FuncId} {e:List V} {A:α→List V} {A':α'→List V} {E:δ→List V} {P:α→Option δ} {p:α'→Option δ} (F:lG S c fn A E P true) (ι:α'→α)
 (hA:∀z,A (ι z)=A' z++e) (hp:∀z,P (ι z)=p z) (hd:V.cg 7 e=true):ji S c fn e A' E p where
 f:={ k:=F.k,h:=fun z=>by rw[←hp,←hA];exact F.h (ι z),l:=fun z=>by rw[←hA];exact F.l (ι z),r:=F.r,s:=F.s }
 d:=hd
section
variable {S:Sys} {c:bD} {β γ δ α:Type} {Q:Out×St→Option β} {e:γ→Option β} {fo:Fo} {fs:List Fm} {st0:St} {l:List RO} {d:Option Nat} {gd:Option (Nat×Bool)} {now:Bool} {az:List Arg} {dd:List Nat}
theorem ow {α:Type} [aI α] (a:α):V.cells (enc a)=cells a:=by
 cases ha:aI.agg α with
 | true=>rw[w5 ha];rfl
 | false=>
  have h1:V.one (enc a)=true:=Kb a ha;rw[qE ha];cases h:enc a <;> first|rfl|(rw[h]at h1;cases h1)
theorem nX {α:Type} [aI α] (a:α):(cells a).all V.one=true:=aI.one a
theorem eR {α:Type} [aI α] (a:α):(cells a).length=aI.size α:=aI.len a
theorem Ast [aI α] (n:Nat) (dr:Bool) (fr:List Nat) (q:List RO) (fs':List Fm) (st:St) (u o:Nat) (x:α) (cs cs':List SV) {sz:Nat} {m:Option β} (hq:q=⟨d,gd,now,.l (.store sz),az,dd,[]⟩::l)
 (hL:(fF S c n fo fs st0,wanted st.g gd,bh S.N st.g az,an st.m u,(!dr||now),sz,Nat.ble (o+sz) cs.length,cs.take o++(cells x).map .v++cs.drop (o+sz))=(some (.ops dr fr q,fs',st),some true,some [.ptr u o,cv x],some (.box cs),true,aI.size α,true,cs'))
 (h:Le m (qP S c Q dr fr d (.l (.store sz)) l fs' dd (cr { st with m:=aV st.m u (.box cs') } d (.v .undef)))):Le m (rn S c Q fo fs st0):=by
 simp only[ζc]at hL;obtain⟨h1,h2,h3,h4,h5,h6,h7,h8⟩:=hL;refine oH h1 hq h2 ?_ h;rw[uJ,h3];subst h6;have h9:=Nat.le_of_ble_eq_true h7;simp only[ζb,h5,if_true,lF,h4,putCells,ow,eR,nX,h9,and_self,h8,Option.map_some]
theorem wN {α:Type} [aI α]:∀(xs:List α) (pre:List (List V)) (suf:List (List V)),suf.length=xs.length→eU (aI.size α) (pre++suf) ((List.range' pre.length xs.length).zip (xs.map enc))=some (pre++rows xs)
 | [],pre,suf,h=>by
  have:suf=[]:=List.eq_nil_of_length_eq_zero h;subst this;rfl
 | x::xs,pre,s::suf,h=>by
  simp only[List.length_cons,List.range'_succ,List.map_cons,List.zip_cons_cons,eU,ow,eR,nX];rw[if_pos ⟨trivial,by simp,trivial⟩]
  have:=wN xs (pre++[cells x]) suf (by simpa using h)
  simp only[ζi,List.length_cons,List.length_nil,Nat.zero_add]at this;have e:(pre++s::suf).set pre.length (cells x)=pre++[cells x]++suf:=by simp
  rw[e,this];simp[rows]
theorem Zj [aI α] (n:Nat) (dr:Bool) (fr:List Nat) (q:List RO) (fs':List Fm) (st:St) (xs:List α) {u sz ln:Nat} {zero:List V} {ix:List Nat} {m:Option β} (hq:q=⟨some u,gd,now,.a (.buildSl sz ln zero ix),az,dd,[]⟩::l)
 (h4:st.new u=true) (hL:(fF S c n fo fs st0,wanted st.g gd,bh S.N st.g az,sz,ln,ix)=(some (.ops dr fr q,fs',st),some true,some ((xs.map enc).map .v),aI.size α,xs.length,List.range' 0 xs.length))
 (h:Le m (qP S c Q dr fr (some u) (.a (.buildSl sz ln zero ix)) l fs' dd { st with g:=aV st.g u (.own u),m:=aV st.m u (cN (.row xs)) })):Le m (rn S c Q fo fs st0):=by
 simp only[ζc]at hL;obtain⟨h1,h2,h3,h5,h6,h7⟩:=hL;subst h5 h6 h7;refine oH h1 hq h2 ?_ h;rw[z6,h3];simp only[ζb,h4,if_true,mm,sx,List.length_range',List.length_map,if_true];have:=wN xs [] (List.replicate xs.length zero) (by simp)
 simp only[List.nil_append,List.length_nil]at this;rw[this];rfl
section
variable [aI α]
theorem YJ (n:Nat) (dr:Bool) (fr:List Nat) (q:List RO) (fs':List Fm) (st:St) (lo hi:Bool) (bs:List V) {sz:Nat} {s:Sl α} {a b:Option Int} {f:Sl α→Option γ} (hq:q=⟨d,gd,now,.p (.slice sz lo hi),az,dd,[]⟩::l)
 (hL:(fF S c n fo fs st0,wanted st.g gd,bh S.N st.g az,jo lo hi bs,sz)=(some (.ops dr fr q,fs',st),some true,some (.v (bu s)::bs.map .v),some (a,b),aI.size α))
 (h:∀x,gz s a b=some x→Le ((f x).bind e) (qP S c Q dr fr d (.p (.slice sz lo hi)) l fs' dd (cr st d (.v (bu x))))):Le (((gz s a b).bind f).bind e) (rn S c Q fo fs st0):=by
 simp only[ζc]at hL;refine A4 hL.1 hq hL.2.1 (Le.of_eq ?_) h;have hy:bh S.N st.g az=some ((bu s::bs).map .v):=hL.2.2.1;unfold dW lB;simp only[wanted,ei,hy];have hp:iK S.N st.m (.slice sz lo hi) ((bu s::bs).map .v)=(gz s a b).bind fun x=>some (.v (bu x)):=by
  unfold iK;rw[sx];simp only[ay,hL.2.2.2.1,ζb,GO s a b sz hL.2.2.2.2];cases gz s a b <;> rfl
 simp only[List.map_cons]at hp ⊢;rw[hp];cases gz s a b <;> rfl
def kV (s:Sl α) (lo hi:Option Int):Option (Sl α):=
 match s with
 | .nil|.emp=>none
 | .row x|.part x=>(cE x.length lo hi).map fun (l,h)=>.part ((x.take h).drop l)
theorem V8 (n:Nat) (fr:List Nat) (q:List RO) (fs':List Fm) (st:St) (lo hi:Bool) (u:Nat) (bs:List V) {t sz:Nat} {s:Sl α} {a b:Option Int} {f:Sl α→Option γ} (hq:q=⟨some t,gd,now,.p (.slice sz lo hi),az,dd,[]⟩::l)
 (h7:St.new { st with m:=dh u st.m } t=true) (hL:(fF S c n fo fs st0,wanted st.g gd,bh S.N st.g az,jo lo hi bs,an st.m u,sz)=(some (.ops false fr q,fs',st),some true,some (.own u::bs.map .v),some (a,b),some (cN s),aI.size α))
 (h:∀x,kV s a b=some x→Le ((f x).bind e) (qP S c Q false fr (some t) (.p (.slice sz lo hi)) l fs' dd { st with g:=aV st.g t (.own t),m:=aV (dh u st.m) t (cN x) })):Le (((kV s a b).bind f).bind e) (rn S c Q fo fs st0):=by
 simp only[ζc]at hL;refine A4 hL.1 hq hL.2.1 (Le.of_eq ?_) h;obtain⟨_,_,h3,h4,h5,h6⟩:=hL;subst h6;unfold dW lB;simp only[wanted,ei,h3,Bool.false_eq_true,if_false,vM,sx,h5,h4,ζb];have hn:(an st.m u).isSome:=by rw[h5];rfl
 cases s with
 | nil=>simp[kV,cN,Sl.k,bC]
 | emp=>simp[kV,cN,Sl.k,bC]
 | row x=>
  simp only[cN,Sl.k,Sl.l,bC,kV,iz,and_self,if_true,h4,ζb]
  cases cE x.length a b with
  | none=>rfl
  | some r=>simp[h7,cr,rows,List.map_take,List.map_drop]
 | part x=>
  simp only[cN,Sl.k,Sl.l,bC,kV,iz,and_self,if_true,h4,ζb]
  cases cE x.length a b with
  | none=>rfl
  | some r=>simp[h7,cr,rows,List.map_take,List.map_drop]
end
end
end Go.VE
namespace Go.VE
variable [aW]
structure bp (n:Nat) (α:Type) where
 l:List α
 len:l.length=n
theorem KG {α:Type} [aI α] (l:List α):(l.map (cells (α:=α))).flatten.length=l.length*aI.size α:=by
 induction l with
 | nil=>simp
 | cons a l ih=>simp only[List.map_cons,List.flatten_cons,ζi,ih,eR,List.length_cons,Nat.add_mul,Nat.one_mul,Nat.add_comm]
theorem It {α:Type} [aI α] (l:List α):V.bF (l.map (cells (α:=α))).flatten=true:=by
 induction l with
 | nil=>rfl
 | cons a l ih=>
  simp only[List.map_cons,List.flatten_cons];have h:∀(x y:List V),V.bF x=true→V.bF y=true→V.bF (x++y)=true:=by
   intro x
   induction x with
   | nil=>intro y _ h;exact h
   | cons b x ih2=>intro y h1 h2;simp only[V.bF,ζh,List.cons_append]at h1 ⊢;exact⟨h1.1,ih2 y h1.2 h2⟩
  exact h _ _ (aI.good a) ih
theorem DC {n:Nat}:∀{x y:List V},V.cg n x=true→V.cg n y=true→V.cg n (x++y)=true
 | [],_,_,h=>h
 | a::x,y,h1,h2=>by
  simp only[gU,ζh,List.cons_append]at h1 ⊢;exact⟨h1.1,DC h1.2 h2⟩
theorem Lx {n:Nat} {α:Type} [aI α] [Lv n α] (l:List α):V.cg n (l.map (cells (α:=α))).flatten=true:=by
 induction l with
 | nil=>exact jl n
 | cons a l ih=>simp only[List.map_cons,List.flatten_cons];exact DC (Lv.lv a) ih
instance {n:Nat} {α:Type} [aI α]:aI (bp n α) where
 cells a:=(a.l.map cells).flatten
 agg:=true
 size:=n*aI.size α
 len a:=by rw[KG,a.len]
 good a:=It a.l
 one a:=by
  have:∀l:List α,(l.map (cells (α:=α))).flatten.all V.one=true:=by
   intro l
   induction l with
   | nil=>rfl
   | cons a l ih=>simp only[List.map_cons,List.flatten_cons,List.all_append,ih,nX,Bool.and_self]
  exact this a.l
 plain h:=by cases h
instance {k n:Nat} {α:Type} [aI α] [Lv k α]:Lv k (bp n α):=⟨fun a=>Lx a.l⟩
def bp.Jj (n:Nat) {α:Type} (z:α):bp n α:=⟨List.replicate n z,by simp⟩
def bp.at {n:Nat} {α:Type} (a:bp n α) (i:Int):Option α:=if 0≤i then a.l[i.toNat]? else none
def bp.set {n:Nat} {α:Type} (a:bp n α) (i:Int) (x:α):bp n α:=⟨a.l.set i.toNat x,by simp[a.len]⟩
def pa {n:Nat} {α:Type} [aI α] (a:bp n α) (i:Int):List V:=(cells a).drop (i.toNat*aI.size α)
theorem bp.s8 {n:Nat} {α:Type} {a:bp n α} {i:Int} {x:α} (h:a.at i=some x):0≤i∧i.toNat<n∧a.l[i.toNat]? = some x:=by
 unfold bp.at at h;split at h
 ·rename_i hi;refine⟨hi,?_,h⟩;have:=(ζe.1 h).1;rw[←a.len];exact this
 ·cases h
theorem Bf {α:Type} [aI α]:∀(l:List α) (k:Nat),((l.map (cells (α:=α))).flatten).drop (k*aI.size α)=((l.drop k).map (cells (α:=α))).flatten
 | [],k=>by simp
 | a::l,0=>by simp
 | a::l,k+1=>by
  have h:(cells a).length=aI.size α:=eR a;rw[List.map_cons,List.flatten_cons,List.drop_succ_cons,←Bf l k,Nat.add_mul,Nat.one_mul,Nat.add_comm,←h,List.drop_length_add_append]
theorem xu {n:Nat} {α:Type} [aI α] {a:bp n α} {i:Int} {x:α} (h:a.at i=some x):∃r,pa a i=cells x++r:=by
 obtain⟨h1,h2,h3⟩:=bp.s8 h;obtain⟨hlt,hx⟩:=ζe.1 h3;refine⟨((a.l.drop (i.toNat+1)).map cells).flatten,?_⟩;show ((a.l.map (cells (α:=α))).flatten).drop (i.toNat*aI.size α)=_;rw[Bf,List.drop_eq_getElem_cons hlt,List.map_cons,List.flatten_cons,hx]
section
variable {S:Sys} {c:bD} {β γ δ α:Type} {Q:Out×St→Option β} {e:γ→Option β} {fo:Fo} {fs:List Fm} {st0:St} {l:List RO} {d:Option Nat} {gd:Option (Nat×Bool)} {now:Bool} {az:List Arg} {dd:List Nat}
section
variable {N:Nat} [aI α]
theorem V6 (n:Nat) (dr:Bool) (fr:List Nat) (q:List RO) (fs':List Fm) (st:St) (k:IntKind) {ln sz:Nat} {a:bp N α} {i:Int} {f:α→Option γ} (hq:q=⟨d,gd,now,.p (.idxA ln sz),az,dd,[]⟩::l)
 (hL:(fF S c n fo fs st0,wanted st.g gd,bh S.N st.g az,sz,ln)=(some (.ops dr fr q,fs',st),some true,some [cp a,.v (.int k i)],aI.size α,N))
 (h:∀x,a.at i=some x→Le ((f x).bind e) (qP S c Q dr fr d (.p (.idxA ln sz)) l fs' dd (cr st d (.v (.fptr (pa a i)))))):Le (((a.at i).bind f).bind e) (rn S c Q fo fs st0):=by
 simp only[ζc]at hL;obtain⟨h1,h2,h3,h4,h5⟩:=hL;subst h4 h5;refine A4 h1 hq h2 (?_:Le ((a.at i).bind fun _=>some (cr st d (.v (.fptr (pa a i))))) _) h
 intro r hr;obtain⟨x,hx,hr⟩:=ζg.1 hr;obtain⟨g1,g2,_⟩:=bp.s8 hx;rw[Dj (v:=.v (.fptr (pa a i))) h3 rfl ?_]
 ·exact hr
 rw[yI];simp only[ay,tv];have hlen:i.toNat*aI.size α≤(cells a).length:=by
  rw[eR];exact Nat.mul_le_mul_right _ (Nat.le_of_lt g2)
 rw[if_pos ⟨g1,by omega⟩,if_pos hlen]
 rfl
theorem YE (n:Nat) (dr:Bool) (fr:List Nat) (q:List RO) (fs':List Fm) (st:St) (a:bp N α) (i:Int) (o:Nat) (x:α) (hx:a.at i=some x) {k:Nat} {m:Option β} (hq:q=⟨d,gd,now,.p (.fieldAddr k),az,dd,[]⟩::l)
 (hL:(fF S c n fo fs st0,wanted st.g gd,bh S.N st.g az,Nat.ble (o+k) (aI.size α))=(some (.ops dr fr q,fs',st),some true,some [.v (.fptr ((pa a i).drop o))],true))
 (h:Le m (qP S c Q dr fr d (.p (.fieldAddr k)) l fs' dd (cr st d (.v (.fptr ((pa a i).drop (o+k))))))):Le m (rn S c Q fo fs st0):=by
 simp only[ζc]at hL;obtain⟨h1,h2,h3,h4⟩:=hL;refine oH h1 hq h2 (Dj h3 rfl ?_) h;have h9:=Nat.le_of_ble_eq_true h4;obtain⟨r,hr⟩:=xu hx;have hl:(pa a i).length≥aI.size α:=by rw[hr,ζi,eR];omega
 rw[Dp,Du,if_pos (by rw[List.length_drop];omega),List.drop_drop]
 rfl
theorem WI (n:Nat) (dr:Bool) (fr:List Nat) (q:List RO) (fs':List Fm) (st:St) (a:bp N α) (i:Int) (o:Nat) (x:α) (hx:a.at i=some x) {sz:Nat} {ag:Bool} {v:V} (hv:(cut (cells x) o sz).bind (mk ag)=some v) (v':V) {m:Option β} (hq:q=⟨d,gd,now,.r (.load sz ag),az,dd,[]⟩::l)
 (hL:(fF S c n fo fs st0,wanted st.g gd,bh S.N st.g az,v)=(some (.ops dr fr q,fs',st),some true,some [.v (.fptr ((pa a i).drop o))],v'))
 (h:Le m (qP S c Q dr fr d (.r (.load sz ag)) l fs' dd (cr st d (.v v')))):Le m (rn S c Q fo fs st0):=by
 simp only[ζc]at hL;obtain⟨h1,h2,h3,rfl⟩:=hL;refine oH h1 hq h2 ?_ h;rw[B8,h3];have hold:dR fr [SV.v (.fptr ((pa a i).drop o))]=true:=rfl;simp only[ζb,hold,Bool.or_true,if_true,HG];obtain⟨r,hr⟩:=xu hx;rw[hr];have hc:cut ((cells x++r).drop o) 0 sz=cut (cells x) o sz:=by
  cases hcc:cut (cells x) o sz with
  | none=>rw[hcc]at hv;cases hv
  | some w=>
   unfold cut at hcc ⊢;dsimp only at hcc ⊢;split at hcc
   ·rename_i hl;cases hcc;have e1:(List.drop 0 (List.drop o (cells x++r))).take sz=((cells x).drop o).take sz:=by
     rw[List.drop_zero];have ho:sz=0∨o≤(cells x).length:=by
      simp only[List.length_take,List.length_drop]at hl;omega
     rcases ho with rfl|ho
     ·simp
     ·rw[List.drop_append_of_le_length ho,List.take_append_of_le_length];simp only[List.length_take,List.length_drop]at hl ⊢;omega
    rw[e1,if_pos hl]
   ·cases hcc
 rw[hc]
 cases hcc:cut (cells x) o sz with
 | none=>rw[hcc]at hv;cases hv
 | some w=>rw[hcc]at hv;simp only[ζb]at hv ⊢;rw[hv];rfl
theorem QN (n:Nat) (dr:Bool) (fr:List Nat) (q:List RO) (fs':List Fm) (st:St) (cs:List SV) {u sz:Nat} {zero:List V} {m:Option β} (hq:q=⟨some u,gd,now,.a (.alloc sz zero),az,dd,[]⟩::l)
 (h4:st.new u=true) (hL:(fF S c n fo fs st0,wanted st.g gd,bh S.N st.g az,zero.map SV.v)=(some (.ops dr fr q,fs',st),some true,some [],cs))
 (h:Le m (qP S c Q dr fr (some u) (.a (.alloc sz zero)) l fs' dd { st with g:=aV st.g u (.ptr u 0),m:=aV st.m u (.box cs) })):Le m (rn S c Q fo fs st0):=by
 simp only[ζc]at hL;obtain⟨h1,h2,h3,h5⟩:=hL;subst h5;refine oH h1 hq h2 ?_ h;rw[z6,h3];simp only[ζb,h4,if_true,mm]
theorem pU (d:Nat) (l:List V):SV.cz d (l.map .v)=false:=by
 induction l with
 | nil=>rfl
 | cons a l ih=>simp only[List.map_cons,SV.cz,SV.bV,ih,Bool.or_self]
theorem pO {α:Type} [aI α] (d:Nat) (x:α):aP.bV d (bx x)=false:=pU d (cells x)
theorem Wl (n:Nat) (dr:Bool) (fr:List Nat) (q:List RO) (fs':List Fm) (st:St) (k:IntKind) (u:Nat) {ln sz:Nat} {a:bp N α} {i:Int} {f:α→Option γ} (hq:q=⟨d,gd,now,.p (.idxA ln sz),az,dd,[]⟩::l)
 (hL:(fF S c n fo fs st0,wanted st.g gd,bh S.N st.g az,sz,ln,an st.m u)=(some (.ops dr fr q,fs',st),some true,some [.ptr u 0,.v (.int k i)],aI.size α,N,some (bx a)))
 (h:∀x,a.at i=some x→Le ((f x).bind e) (qP S c Q dr fr d (.p (.idxA ln sz)) l fs' dd (cr st d (.ptr u (i.toNat*aI.size α+0))))):Le (((a.at i).bind f).bind e) (rn S c Q fo fs st0):=by
 simp only[ζc]at hL;obtain⟨h1,h2,h3,h4,h5,h6⟩:=hL;subst h4 h5;refine A4 h1 hq h2 (?_:Le ((a.at i).bind fun _=>some (cr st d (.ptr u (i.toNat*aI.size α+0)))) _) h
 intro r hr;obtain⟨x,hx,hr⟩:=ζg.1 hr;obtain⟨g1,g2,_⟩:=bp.s8 hx;rw[Dj (v:=.ptr u (i.toNat*aI.size α+0)) h3 rfl ?_]
 ·exact hr
 simp only[iK,dc,w_,h6];rw[if_pos ⟨g1,by omega,rfl⟩,Nat.zero_add,Nat.add_zero]
theorem VP (n:Nat) (dr:Bool) (fr:List Nat) (q:List RO) (fs':List Fm) (st:St) (u:Nat) (a:bp N α) (i:Int) (o:Nat) (x:α) (hx:a.at i=some x) {sz:Nat} {ag:Bool} {v:V} (hv:(cut (cells x) o sz).bind (mk ag)=some v) (v':V) {m:Option β} (hq:q=⟨d,gd,now,.r (.load sz ag),az,dd,[]⟩::l)
 (hL:(fF S c n fo fs st0,wanted st.g gd,bh S.N st.g az,v,an st.m u,(!dr||now||dR fr [.ptr u 0]))=(some (.ops dr fr q,fs',st),some true,some [.ptr u (i.toNat*aI.size α+o)],v',some (bx a),true))
 (h:Le m (qP S c Q dr fr d (.r (.load sz ag)) l fs' dd (cr st d (.v v')))):Le m (rn S c Q fo fs st0):=by
 simp only[ζc]at hL;obtain⟨h1,h2,h3,rfl,h5,h6⟩:=hL;refine oH h1 hq h2 ?_ h;rw[B8,h3];have hold:(!dr||now||dR fr [SV.ptr u (i.toNat*aI.size α+o)])=true:=h6;simp only[ζb,hold,if_true,YG,h5,Ia];obtain⟨r,hr⟩:=xu hx;have e1:(((cells a).map SV.v).drop (i.toNat*aI.size α+o)).take sz=(((cells x).drop o).take sz).map SV.v:=by
  have hcc:((cells x).drop o).take sz=((cells x++r).drop o).take sz:=by
   cases hc:cut (cells x) o sz with
   | none=>rw[hc]at hv;cases hv
   | some w=>
    unfold cut at hc;dsimp only at hc;split at hc
    ·rename_i hl;have ho:sz=0∨o≤(cells x).length:=by
      simp only[List.length_take,List.length_drop]at hl;omega
     rcases ho with rfl|ho
     ·simp
     ·rw[List.drop_append_of_le_length ho,List.take_append_of_le_length];simp only[List.length_take,List.length_drop]at hl ⊢;omega
    ·cases hc
  rw[hcc,←hr,pa,List.drop_drop,List.map_take,List.map_drop]
 rw[e1];unfold xq
 cases hc:cut (cells x) o sz with
 | none=>rw[hc]at hv;cases hv
 | some w=>
  rw[hc]at hv;unfold cut at hc;dsimp only at hc;split at hc
  ·rename_i hl;cases hc;simp only[List.length_map,hl,if_true];simp only[ζb]at hv;unfold mk at hv
   cases ag with
   | true=>
    simp only[if_true]at hv ⊢;cases hv;rw[sx];rfl
   | false=>
    simp only[Bool.false_eq_true,if_false]at hv ⊢;split at hv
    ·rename_i hw;cases hv;rw[hw];rfl
    ·cases hv
  ·cases hc
theorem IW {N:Nat} (a:bp N α) (i:Int) (y:α) (h:i.toNat<N):cells (a.set i y)=(cells a).take (i.toNat*aI.size α)++cells y++(cells a).drop ((i.toNat+1)*aI.size α):=by
 have key:∀(l:List α) (k:Nat),k<l.length→((l.set k y).map (cells (α:=α))).flatten=(l.map (cells (α:=α))).flatten.take (k*aI.size α)++cells y++(l.map (cells (α:=α))).flatten.drop ((k+1)*aI.size α):=by
  intro l
  induction l with
  | nil=>intro k h;simp at h
  | cons b l ih=>
   intro k h;have hb:(cells b).length=aI.size α:=eR b
   cases k with
   | zero=>
    simp only[List.set_cons_zero,List.map_cons,List.flatten_cons,Nat.zero_mul,List.take_zero,List.nil_append,Nat.zero_add,Nat.one_mul];rw[←hb,List.drop_left]
   | succ k=>
    simp only[List.set_cons_succ,List.map_cons,List.flatten_cons];rw[ih k (by simpa using h)]
    have e1:(k+1)*aI.size α=(cells b).length+k*aI.size α:=by rw[hb,Nat.add_mul,Nat.one_mul,Nat.add_comm]
    have e2:(k+1+1)*aI.size α=(cells b).length+(k+1)*aI.size α:=by rw[hb,Nat.add_mul (k+1),Nat.one_mul,Nat.add_comm]
    rw[e2,List.drop_length_add_append];rw[e1,List.take_length_add_append];simp[List.append_assoc]
 exact key a.l i.toNat (by rw[a.len];exact h)
theorem V3 (n:Nat) (dr:Bool) (fr:List Nat) (q:List RO) (fs':List Fm) (st:St) (u:Nat) (a:bp N α) (i:Int) (o:Nat) (x:α) (hx:a.at i=some x) (y:α) (v:V) {sz:Nat} (hy:cells y=(cells x).take o++v.cells++(cells x).drop (o+sz)) {m:Option β} (hq:q=⟨d,gd,now,.l (.store sz),az,dd,[]⟩::l)
 (hL:(fF S c n fo fs st0,wanted st.g gd,bh S.N st.g az,an st.m u,(!dr||now),v.cells.length,v.cells.all V.one,Nat.ble (o+sz) (aI.size α))=(some (.ops dr fr q,fs',st),some true,some [.ptr u (i.toNat*aI.size α+o),.v v],some (bx a),true,sz,true,true))
 (h:Le m (qP S c Q dr fr d (.l (.store sz)) l fs' dd (cr { st with m:=aV st.m u (bx (a.set i y)) } d (.v .undef)))):Le m (rn S c Q fo fs st0):=by
 simp only[ζc]at hL;obtain⟨h1,h2,h3,h4,h5,h6,h7,h8⟩:=hL;refine oH h1 hq h2 ?_ h;rw[uJ,h3];have h9:=Nat.le_of_ble_eq_true h8;obtain⟨g1,g2,g3⟩:=bp.s8 hx;have hb:i.toNat*aI.size α+o+sz≤((cells a).map SV.v).length:=by
  rw[List.length_map,eR];have:(i.toNat+1)*aI.size α≤N*aI.size α:=Nat.mul_le_mul_right _ g2;rw[Nat.add_mul,Nat.one_mul]at this;show _≤N*aI.size α;omega
 simp only[ζb,h5,if_true,lF,h4,putCells,h6,h7,hb,and_self,Option.map_some];obtain⟨r,hr⟩:=xu hx;have e:((cells a).map SV.v).take (i.toNat*aI.size α+o)++v.cells.map .v++((cells a).map SV.v).drop (i.toNat*aI.size α+o+sz)=(cells (a.set i y)).map SV.v:=by
  rw[IW a i y g2,hy];have hd:(cells a).drop (i.toNat*aI.size α)=cells x++r:=hr;have hlx:(cells x).length=aI.size α:=eR x;have e1:(cells a).take (i.toNat*aI.size α+o)=(cells a).take (i.toNat*aI.size α)++(cells x).take o:=by
   rw[List.take_add,hd,List.take_append_of_le_length (by omega)]
  have e2:(cells a).drop (i.toNat*aI.size α+o+sz)=(cells x).drop (o+sz)++(cells a).drop ((i.toNat+1)*aI.size α):=by
   have e3:(cells a).drop ((i.toNat+1)*aI.size α)=r:=by
    rw[Nat.add_mul,Nat.one_mul,←List.drop_drop,hd,←hlx,List.drop_left]
   rw[e3,Nat.add_assoc,←List.drop_drop,hd,List.drop_append_of_le_length (by omega)]
  rw[←List.map_take,←List.map_drop,e1,e2];simp[List.map_append,List.append_assoc]
 rw[e]
end
theorem PF {α:Type} [aI α] {m:Tb aP} {d:Nat} {x:α} {vs:List V} (h:an m d=some (bx x)):lq (gB m 8) (.ptr d 0::vs.map .v)=some (.fptr (cells x)::vs):=by
 have h1:gB m 8 (.ptr d 0)=some (.fptr (cells x)):=by
  show (match an m d with
   | some (.box cs)=>match lq (gB m 7) cs with
    | some xs=>if 0≤xs.length then some (V.fptr (xs.drop 0))else none
    | none=>none
   | _=>none)=_
  rw[h];simp only[C5,Nat.zero_le,if_true,List.drop_zero]
 simp only[lq,h1,C5,ζb]
theorem WC (n:Nat) {fo:Fo} {fs fs':List Fm} {st0 st:St} {rs:List RV} {e:γ→Option (List V)} {r:γ} (svs:List SV) {ys:List V} (h2:lq (gB st.m 8) svs=some ys) (h:(fF S c n fo fs st0,mR st rs)=(some (.rt,fs',st),some svs)) (h3:e r=some ys) :
 Le ((some r).bind e) (rn S c (nJ rs) fo fs st0):=by
 simp only[ζc]at h;rw[kQ h.1];refine Le.of_eq ?_;simp only[rn,nJ,h.2,ζb,h2];exact h3.symm
abbrev Mo (κ ν:Type):=List (κ×ν)
class Key (κ:Type) [aI κ] [DecidableEq κ] where
 kk:tO
 ok:∀a:κ,mg kk (enc a)=true
 eq:∀a b:κ,ru (enc a) (enc b)=some (decide (a=b))
instance:Key Int where
 kk:=.int .i64
 ok _:=rfl
 eq a b:=by
  show some (a==b)=some (decide (a=b));rw[show (a==b)=decide (a=b)from Bool.eq_iff_iff.2 (by simp)]
instance:Key aa where
 kk:=.ints 2
 ok _:=rfl
 eq a b:=by
  obtain⟨p,i⟩:=a;obtain⟨q,j⟩:=b;simp only[ru,js,gJ,TY,Option.map_some,List.length_cons,if_true,ζa];rw[Bool.eq_iff_iff];simp
section
variable {κ ν:Type} [aI κ] [DecidableEq κ] [Key κ] [aI ν]
def qA (k:κ):Mo κ ν→Option ν
 | []=>none
 | (a,v)::r=>if k=a then some v else qA k r
def Ay (m:Mo κ ν) (k:κ) (z:ν):ν:=(qA k m).getD z
def nH (m:Mo κ ν) (k:κ) (v:ν):Mo κ ν:=
 match m with
 | []=>[(k,v)]
 | (a,w)::r=>if k=a then(k,v)::r else(a,w)::nH r k v
def mc (m:Mo κ ν):List (V×V):=m.map fun x=>(enc x.1,enc x.2)
def r_ (m:Mo κ ν):aP:=.mp (mc m)
theorem Ez (k:κ):∀(m:Mo κ ν) (i:Nat),(fc (enc k) (mc m) i).map (Option.map (·.2))=some ((qA k m).map enc)
 | [],i=>rfl
 | (a,v)::r,i=>by
  simp only[mc,List.map_cons,fc,Key.eq,qA]
  by_cases h:k=a
  ·rw[if_pos h];simp[h]
  ·rw[if_neg h];simp only[h,decide_false];exact Ez k r (i+1)
theorem Lg (k:κ) (v:ν) (m:Mo κ ν):lY (enc k) (enc v) (mc m)=some (mc (nH m k v)):=by
 unfold lY;have key:∀(m:Mo κ ν) (pre:List (V×V)) (i:Nat),pre.length=i→(match fc (enc k) (mc m) i with
  | some (some (j,_))=>some ((pre++mc m).set j (enc k,enc v))
  | some none=>some (pre++mc m++[(enc k,enc v)])
  | none=>none)=some (pre++mc (nH m k v)):=by
  intro m
  induction m with
  | nil=>intro pre i h;simp[mc,fc,nH]
  | cons x r ih=>
   obtain⟨a,w⟩:=x;intro pre i h;rw[show mc ((a,w)::r)=(enc a,enc w)::mc r from rfl];simp only[fc,Key.eq,nH]
   by_cases hk:k=a
   ·subst hk h;simp[mc]
   ·simp only[hk,decide_false,if_false];rw[show mc ((a,w)::nH r k v)=(enc a,enc w)::mc (nH r k v)from rfl];have:=ih (pre++[(enc a,enc w)]) (i+1) (by simp[h])
    simp only[List.append_assoc,List.cons_append,List.nil_append]at this ⊢;exact this
 have:=key m [] 0 rfl
 cases hf:fc (enc k) (mc m) 0 with
 | none=>rw[hf]at this;cases this
 | some r=>
  rw[hf]at this
  cases r with
  | none=>simpa using this
  | some w=>obtain⟨j,w⟩:=w;simpa using this
theorem VY (n:Nat) (dr:Bool) (fr:List Nat) (q:List RO) (fs':List Fm) (st:St) (u:Nat) (mp:Mo κ ν) (k:κ) (z:ν) {kk:tO} {zv:V} {m:Option β} (hq:q=⟨d,gd,now,.r (.lookup kk zv false),az,dd,[]⟩::l)
 (hL:(fF S c n fo fs st0,wanted st.g gd,bh S.N st.g az,an st.m u,(!dr||now||dR fr [.mp u,cv k]),zv,kk)=(some (.ops dr fr q,fs',st),some true,some [.mp u,cv k],some (r_ mp),true,enc z,Key.kk κ))
 (h:Le m (qP S c Q dr fr d (.r (.lookup kk zv false)) l fs' dd (cr st d (cv (Ay mp k z))))):Le m (rn S c Q fo fs st0):=by
 simp only[ζc]at hL;obtain⟨h1,h2,h3,h4,h5,h6,h7⟩:=hL;subst h6 h7;refine oH h1 hq h2 ?_ h;rw[B8,h3];simp only[ζb,h5,if_true,mA,h4,r_,Key.ok];have:=Ez k mp 0;simp only[Ay]
 cases hf:fc (enc k) (mc mp) 0 with
 | none=>rw[hf]at this;cases this
 | some r=>
  rw[hf]at this;simp only[Option.map_some,ζa]at this
  cases r with
  | none=>
   cases hm:qA k mp with
   | none=>rfl
   | some w=>rw[hm]at this;cases this
  | some w=>
   cases hm:qA k mp with
   | none=>rw[hm]at this;cases this
   | some w2=>
    rw[hm]at this;simp only[Option.map_some,ζa]at this;simp only[this];rfl
theorem YA (n:Nat) (dr:Bool) (fr:List Nat) (q:List RO) (fs':List Fm) (st:St) (u:Nat) (mp:Mo κ ν) (k:κ) (v:ν) {kk:tO} {m:Option β} (hq:q=⟨d,gd,now,.l (.mapUp kk),az,dd,[]⟩::l)
 (hL:(fF S c n fo fs st0,wanted st.g gd,bh S.N st.g az,an st.m u,(!dr||now),kk)=(some (.ops dr fr q,fs',st),some true,some [.mp u,cv k,cv v],some (r_ mp),true,Key.kk κ))
 (h:Le m (qP S c Q dr fr d (.l (.mapUp kk)) l fs' dd (cr { st with m:=aV st.m u (r_ (nH mp k v)) } d (.v .undef)))):Le m (rn S c Q fo fs st0):=by
 simp only[ζc]at hL;obtain⟨h1,h2,h3,h4,h5,h6⟩:=hL;subst h6;refine oH h1 hq h2 ?_ h;rw[uJ,h3];simp only[ζb,h5,if_true,lF,h4,r_,Key.ok,Lg,Option.map_some]
end
end
end Go.VE
namespace Go.VE
variable [aW]
instance {n:Nat}:OfNat Arg n:=⟨.s n⟩
abbrev bI (o:BinOp):K:=.p (.bin (some .int) none o)
abbrev ix (n:Nat):K:=.p (.idxS n)
abbrev ld (n:Nat):K:=.r (.load n false)
abbrev lD (n:Nat):K:=.r (.load n true)
abbrev fa (n:Nat):K:=.p (.fieldAddr n)
abbrev ln:K:=.p .lenSl
abbrev su (n:Nat):K:=.l (.store n)
abbrev Iv (n:Nat) (x:Int):Nat×SV:=(n,iv x)
abbrev Bv (n:Nat) (x:Bool):Nat×SV:=(n,bv x)
abbrev Cv {α:Type} [aI α] (n:Nat) (x:α):Nat×SV:=(n,cv x)
abbrev Kv {α:Type} [aI α] (n:Nat) (x:α):Nat×SV:=(n,cp x)
abbrev Pv (n:Nat):Nat×SV:=(n,.ptr n 0)
abbrev Ov (n:Nat):Nat×SV:=(n,.own (2000+n))
abbrev Xb {α:Type} [aI α] (n:Nat) (x:α):Nat×aP:=(n,bx x)
abbrev Lb {α:Type} [aI α] (n:Nat) (x:Sl α):Nat×aP:=(n,cN x)
abbrev on (d:Nat) (k:K) (az:List Arg) (dd:List Nat):RO:=⟨some d,none,true,k,az,dd,[]⟩
abbrev oz (k:K) (az:List Arg) (dd:List Nat):RO:=⟨none,none,false,k,az,dd,[]⟩
abbrev oy (k:K) (az:List Arg) (dd:List Nat):RO:=⟨none,none,true,k,az,dd,[]⟩
theorem Jh {n:Nat} {α:Type} [aI α] [Lv n α] (a:α):V.cg n (cells a)=true:=Lv.lv a
attribute [simp] Jh Pk Kl gU jl oD l8 oh OW Pu JU PR TM NG OB ND Ng OL
theorem lG.vz {S:Sys} {T:pq} {f:FuncId} {b:Bool} (hT:T f=none) (hk:S.E.keep f=false) (ho:S.vz f []=some (.bool b)) :
 lG S (dP S T) f (fun _:Unit=>[]) (fun r:Bool=>[.bool r]) (fun _=>some b) true where
 k:=hk
 h _:=by
  have h:=Bm (az:=[]) hT hk ho;intro r hr;cases hr;unfold jR;rw[h];exact we 8 [.bool b]
 l _:=by simp
 r _:=by simp
 s _ _:=rfl
end Go.VE
namespace Go.VE
variable [aW]
def Wp {α:Type} (m:Option α) (P:α→Prop):Prop:=∃a,m=some a∧P a
section
variable {α β:Type} {P Q:α→Prop}
theorem ai (a:α):Wp (some a) P↔P a:=⟨fun h=>by obtain⟨b,e,p⟩:=h;cases e;exact p,fun p=>⟨a,rfl,p⟩⟩
theorem Ot:Wp (none:Option α) P↔False:=⟨fun h=>(by obtain⟨b,e,p⟩:=h;cases e),fun h=>False.elim h⟩
theorem dQ {m:Option β} {k:β→Option α}:Wp (m.bind k) P↔Wp m fun b=>Wp (k b) P:=by
 cases m with
 | none=>simp only[Option.bind_none,Ot]
 | some b=>simp only[ζb,ai]
theorem aT {t:Bool} {a b:Option α}:Wp (au t a b) P↔(t=true→Wp a P)∧(t=false→Wp b P):=by
 cases t <;> simp[au]
theorem Wp.mono {m:Option α} (h:Wp m P) (hpq:∀a,P a→Q a):Wp m Q:=let ⟨a,e,p⟩:=h;⟨a,e,hpq a p⟩
theorem Wp.and {m:Option α} (h:Wp m P) (h2:Wp m Q):Wp m fun a=>P a∧Q a:=by
 obtain⟨a,e,p⟩:=h;obtain⟨b,e2,q⟩:=h2;rw[e]at e2;cases e2;exact⟨a,e,p,q⟩
theorem Wp.eq {m:Option α} {a:α} (h:Wp m fun x=>x=a):m=some a:=by obtain⟨b,e,rfl⟩:=h;exact e
end
section
variable {σ ε ρ:Type}
theorem eV (step:σ→Option (Fw σ ε ρ)) (s:σ):aX step s=(step s).bind fun w=>match w with
 | .n s'=>aX step s'
 | .x e=>some (.x e)
 | .r b=>some (.r b):=by
 have h1:∀r,aX step s=some r→((step s).bind fun w=>match w with
  | .n s'=>aX step s'
  | .x e=>some (.x e)
  | .r b=>some (.r b))=some r:=by
  intro r h;obtain⟨k,hk⟩:=kB.1 h
  cases k with
  | zero=>simp[gq]at hk
  | succ k=>
   simp only[gq]at hk
   cases hs:step s with
   | none=>rw[hs]at hk;cases hk
   | some w=>
    rw[hs]at hk
    cases w with
    | n s'=>exact kB.2 ⟨k,hk⟩
    | x e=>exact hk
    | r b=>exact hk
 cases hw:aX step s with
 | some r=>exact(h1 r hw).symm
 | none=>
  cases hr:((step s).bind fun w=>match w with
  | .n s'=>aX step s'
  | .x e=>some (.x e)
  | .r b=>some (.r b))with
  | none=>rfl
  | some r=>
   exfalso
   cases hs:step s with
   | none=>rw[hs]at hr;cases hr
   | some w=>
    rw[hs]at hr;simp only[ζb]at hr;have:aX step s=some r:=by
     cases w with
     | n s'=>
      obtain⟨k,hk⟩:=kB.1 hr;exact kB.2 ⟨k+1,by simp only[gq,hs];exact hk⟩
     | x e=>exact kB.2 ⟨1,by simp only[gq,hs];exact hr⟩
     | r b=>exact kB.2 ⟨1,by simp only[gq,hs];exact hr⟩
    rw[hw]at this;cases this
def LO (I:σ→Prop) (μ:σ→Nat) (px:ε→Prop) (pr:ρ→Prop) (s:σ):Fw σ ε ρ→Prop
 | .n s'=>I s'∧μ s'<μ s
 | .x e=>px e
 | .r b=>pr b
def XP (px:ε→Prop) (pr:ρ→Prop):Fw Empty ε ρ→Prop
 | .x e=>px e
 | .r b=>pr b
theorem Kr {step:σ→Option (Fw σ ε ρ)} (I:σ→Prop) (μ:σ→Nat) (px:ε→Prop) (pr:ρ→Prop) (h:∀s,I s→Wp (step s) (LO I μ px pr s)) {s:σ} (hs:I s):Wp (aX step s) (XP px pr):=by
 have key:∀n s,μ s≤n→I s→Wp (aX step s) (XP px pr):=by
  intro n
  induction n with
  | zero=>
   intro s hm hi;obtain⟨w,hw,hr⟩:=h s hi;rw[eV,hw]
   cases w with
   | n s'=>exact absurd hr.2 (by omega)
   | x e=>exact⟨_,rfl,hr⟩
   | r b=>exact⟨_,rfl,hr⟩
  | succ n ih=>
   intro s hm hi;obtain⟨w,hw,hr⟩:=h s hi;rw[eV,hw]
   cases w with
   | n s'=>exact ih s' (by have:=hr.2;omega) hr.1
   | x e=>exact⟨_,rfl,hr⟩
   | r b=>exact⟨_,rfl,hr⟩
 exact key (μ s) s (Nat.le_refl _) hs
theorem c6 {γ:Type} {step:σ→Option (Fw σ ε ρ)} {fx:ε→Option γ} {fr:ρ→Option γ} {P:γ→Prop} (I:σ→Prop) (μ:σ→Nat) {s:σ} (hs:I s)
 (h:∀s,I s→Wp (step s) (LO I μ (fun e=>Wp (fx e) P) (fun b=>Wp (fr b) P) s)):Wp ((aX step s).bind (Fw.elim fx fr)) P:=by
 rw[dQ];refine(Kr I μ _ _ h hs).mono ?_;intro w hw
 cases w with
 | n a=>cases a
 | x e=>exact hw
 | r b=>exact hw
end
end Go.VE
namespace Go.VE
variable [aW]
theorem GB {β γ δ:Type} {e:γ→Option β} {m:Option δ} {f:δ→Option γ} {L:Option β} (h:∀x,m=some x→Le ((f x).bind e) L):Le ((m.bind f).bind e) L:=by
 cases m with
 | none=>exact Le.none _
 | some x=>exact h x rfl
section
variable {S:Sys} {c:bD} {β:Type} {Q:Out×St→Option β} {fo:Fo} {fs:List Fm} {st0:St} {l:List RO} {d:Option Nat} {now:Bool} {az:List Arg} {dd:List Nat}
theorem Le.get {β:Type} {r:β} {L:Option β} (h:Le (some r) L):L=some r:=h r rfl
theorem Kt {n:Nat} {fo fo':Fo} {fs fs':List Fm} {st:St} (A:Bool→St) {t:Bool} {m:Option β} (ht:t=true) (h:fF S c n fo fs st=some (fo',fs',A t)) (ha:Le m (rn S c Q fo' fs' (A true))):Le m (rn S c Q fo fs st):=by
 rw[kQ h,ht];exact ha
theorem Kf {n:Nat} {fo fo':Fo} {fs fs':List Fm} {st:St} (A:Bool→St) {t:Bool} {m:Option β} (ht:t=false) (h:fF S c n fo fs st=some (fo',fs',A t)) (ha:Le m (rn S c Q fo' fs' (A false))):Le m (rn S c Q fo fs st):=by
 rw[kQ h,ht];exact ha
theorem J7 {α:Type} [aI α] {s:Sl α} {i:Int} {x:α} {r:β} {L:Option β} (hx:idx s i=some x) (h:Le (((idx s i).bind fun _=>some r).bind some) L):Le (some r) L:=by
 rw[hx]at h;exact h
theorem Xz {n:Nat} {q:List RO} {fs':List Fm} {st:St} {id:Nat} {vs:List SV} {xs:List V} {ws:List (List V)} {m:Option β}
 (hL:fF S c n fo fs st0=some (.ops false [] q,fs',st)) (hq:q=⟨d,none,now,.c,az,dd,[]⟩::l) (hs:bh S.N st.g az=some (.yl id::vs)) (ha:dc vs=some xs) (hw:st.want=xs::ws) (hi:id=st.yid)
 (h:Le m (rn S c Q (.ops false [] l) fs' (lz dd (cr { st with want:=ws } d (.v (.bool (st.more || !ws.isEmpty))))))):Le m (rn S c Q fo fs st0):=by
 refine LU hL hq rfl ?_ h;unfold dW;simp only[wanted,ei,hs,ha,hw,hi,if_true,and_self,Bool.false_eq_true,if_false]
theorem xy (a:RC) (fs:List Fm) (st:St):rn S c Q (.rc (.loop a)) fs st=(kG (bn S c a) st).bind (Av (jK S c Q fs) (jG S c Q fs) (fun st=>Q (.ret,st))):=by
 show jX S c Q (.loop a) fs st=_;unfold jX;rw[zO];rfl
theorem O4 {f:St→Option (Out×St)} {st st':St} (h:f st=some (.norm,st')):kG f st=kG f st':=by
 have key:∀r,kG f st=some r↔kG f st'=some r:=fun r=>by
  constructor
  ·intro hr;obtain⟨k,hk⟩:=jM.1 hr
   cases k with
   | zero=>simp[gf]at hk
   | succ k=>simp only[gf,h]at hk;exact jM.2 ⟨k,hk⟩
  ·intro hr;obtain⟨k,hk⟩:=jM.1 hr;exact jM.2 ⟨k+1,by simp only[gf,h];exact hk⟩
 cases hx:kG f st with
 | none=>
  cases hy:kG f st' with
  | none=>rfl
  | some r=>rw[(key r).2 hy]at hx;cases hx
 | some r=>rw[(key r).1 hx]
theorem Fg {f:St→Option (Out×St)} {st st':St} {o:Out} (h:f st=some (o,st')) (ho:o≠.norm):kG f st=some (o,st'):=by
 refine jM.2 ⟨1,?_⟩
 cases o with
 | norm=>exact absurd rfl ho
 | exit k=>simp only[gf,h]
 | ret=>simp only[gf,h]
theorem Bk {a:RC} {fs:List Fm} {st st':St} (h:rn S c some (.rc a) [] st=some (.norm,st')):rn S c Q (.rc (.loop a)) fs st=rn S c Q (.rc (.loop a)) fs st':=by
 rw[xy,xy,O4 (by rw[xC];exact h)]
theorem By {a:RC} {fs:List Fm} {st st':St} {k:Nat} (h:rn S c some (.rc a) [] st=some (.exit k,st')):rn S c Q (.rc (.loop a)) fs st=rn S c Q (.ex k) fs st':=by
 rw[xy,Fg (by rw[xC];exact h) (by simp)];rfl
theorem Bj {a:RC} {fs:List Fm} {st st':St} (h:rn S c some (.rc a) [] st=some (.ret,st')):rn S c Q (.rc (.loop a)) fs st=Q (.ret,st'):=by
 rw[xy,Fg (by rw[xC];exact h) (by simp)];rfl
end
def Qi:Out×St→Option Unit
 | (.exit _,_)=>none
 | (_,st)=>if st.want.isEmpty then some ()else none
def Sys.bare (S:Sys):Sys:=⟨S.E,S.N,fun _ _ _=>none,fun _ _=>none,fun _=>none⟩
def j_:bD:=fun _ _ _=>none
def zQ (ws rest:List (List V)) (more:Bool):Prop:=more=true∧ws=rest∨more=false∧ws≠[]∧∃r,rest=ws++r
theorem La (S:Sys) {f:FuncId} {fi:FI} {nm:FuncId→Option Nat} {rf:RF} (hft:S.E.ft f=some fi) (hN:∀g s,nm g=some s→S.N s=g) (hr:uM S.E nm fi rf) {a b:List V} {xs:List (List V)} (hlen:a.length+1+b.length≤rf.na) (hrs:rf.rs=[])
 (h:∀ws more,zQ ws xs more→∀yid,rn S.bare j_ Qi (.rc rf.body) [] ⟨tG 0 (a.map .v++.yl yid::b.map .v),[],[],ws,more,yid⟩=some ()):fq S f a b xs:=by
 have k:fq S.bare f a b xs:=MH (S:=S.bare) (c:=j_) (fi:=fi) (nm:=nm) (rf:=rf) (fun _ _ h=>by cases h) (fun _ _ _ _ _ h=>by simp[j_]at h) (fun _ _ _ _ h=>by simp[Sys.bare]at h) hft hN hr hlen hrs (fun ws more hw yid=>by
  have h1:=h ws more hw yid;change jX S.bare j_ Qi rf.body [] _=some ()at h1;rw[rU]at h1;obtain⟨⟨o,st'⟩,h2,h3⟩:=ζg.1 h1;refine⟨o,st',h2,?_,?_,rfl⟩
  ·rintro id rfl;simp[Qi]at h3
  ·cases o <;> simp[Qi]at h3 <;> exact h3)
 intro ws more hw yid J y Z a' b' H h1 h2 h3 h4 h5;exact k ws more hw yid J ⟨y.tK,y.yield⟩ Z a' b' H h1 h2 h3 h4 h5
open Classical in
noncomputable def uz (P:FuncId→List V→List V→List (List V)→Prop) (f:FuncId) (a b:List V):Option (List (List V)):=if h:∃xs,P f a b xs then some (Classical.choose h)else none
theorem GR {P:FuncId→List V→List V→List (List V)→Prop} {f:FuncId} {a b:List V} {xs:List (List V)} (h:P f a b xs) (hu:∀ys,P f a b ys→ys=xs):uz P f a b=some xs:=by
 have h1:∃xs,P f a b xs:=⟨xs,h⟩;unfold uz;rw[dif_pos h1,hu _ (Classical.choose_spec h1)]
theorem GC {P:FuncId→List V→List V→List (List V)→Prop} {f:FuncId} {a b:List V} {xs:List (List V)} (h:uz P f a b=some xs):P f a b xs:=by
 unfold uz at h;split at h
 ·rename_i h1;cases h;exact Classical.choose_spec h1
 ·cases h
theorem Vm {E:Env} {nm:FuncId→Option Nat} {f:FuncId} {rf:RF}
 (h:((E.ft f).bind fun fi=>(aM ⟨E,nm,fi.ntmps⟩ false fi.body).bind fun c=>(fi.results.mapM (xH E)).bind fun rs=>some (c,rs,fi.ntmps))=some (erase rf.body,rf.rs,rf.na)):∃fi,E.ft f=some fi∧uM E nm fi rf:=by
 obtain⟨fi,h1,h2⟩:=ζg.1 h;obtain⟨c,h3,h4⟩:=ζg.1 h2;obtain⟨rs,h5,h6⟩:=ζg.1 h4;simp only[ζa,ζc]at h6;obtain⟨rfl,rfl,h7⟩:=h6;exact⟨fi,h1,h3,h5,h7.symm⟩
theorem wm {n m:Nat} (h:n≤m) {x:V} (hx:V.lvl n x=true):V.lvl m x=true:=by
 induction h with
 | refl=>exact hx
 | step _ ih=>exact wU ih
theorem xI {n m:Nat} (h:n≤m) {x:List V} (hx:V.cg n x=true):V.cg m x=true:=by
 induction h with
 | refl=>exact hx
 | step _ ih=>exact nT ih
theorem K_ {n m:Nat} (h:n≤m) {x:List (List V)} (hx:V.jZ n x=true):V.jZ m x=true:=by
 induction h with
 | refl=>exact hx
 | step _ ih=>exact yL ih
theorem Nr {n m:Nat} (h:n≤m) {x:List (V×V)} (hx:V.oV n x=true):V.oV m x=true:=by
 induction h with
 | refl=>exact hx
 | step _ ih=>exact AZ ih
mutual
theorem vH:∀x:V,∃n,V.lvl n x=true
 | .fsl es xs=>let ⟨n,h⟩:=CS xs;⟨n+1,by simp only[V.lvl];exact h⟩
 | .fptr cs=>let ⟨n,h⟩:=qd cs;⟨n+1,by simp only[V.lvl];exact h⟩
 | .fmap kvs=>let ⟨n,h⟩:=Fp kvs;⟨n+1,by simp only[V.lvl];exact h⟩
 | .agg cs=>let ⟨n,h⟩:=qd cs;⟨n+1,by simp only[V.lvl];exact h⟩
 | .tup cs=>let ⟨n,h⟩:=qd cs;⟨n+1,by simp only[V.lvl];exact h⟩
 | .clo f a b=>let ⟨n,h⟩:=qd a;let ⟨m,k⟩:=qd b;⟨max n m+1,by simp only[V.lvl,ζh];exact⟨xI (Nat.le_max_left _ _) h,xI (Nat.le_max_right _ _) k⟩⟩
 | .bool _|.int ..|.str _|.eS|.ey|.oa|.cC|.aF|.hsl ..|.hptr ..|.yld _|.hmap _=>⟨0,rfl⟩
theorem qd:∀x:List V,∃n,V.cg n x=true
 | []=>⟨0,by simp only[V.cg]⟩
 | a::l=>let ⟨n,h⟩:=vH a;let ⟨m,k⟩:=qd l;⟨max n m,by simp only[V.cg,ζh];exact⟨wm (Nat.le_max_left _ _) h,xI (Nat.le_max_right _ _) k⟩⟩
theorem CS:∀x:List (List V),∃n,V.jZ n x=true
 | []=>⟨0,by simp only[V.jZ]⟩
 | a::l=>let ⟨n,h⟩:=qd a;let ⟨m,k⟩:=CS l;⟨max n m,by simp only[V.jZ,ζh];exact⟨xI (Nat.le_max_left _ _) h,K_ (Nat.le_max_right _ _) k⟩⟩
theorem Fp:∀x:List (V×V),∃n,V.oV n x=true
 | []=>⟨0,by simp only[V.oV]⟩
 | (a,b)::l=>let ⟨n,h⟩:=vH a;let ⟨m,k⟩:=vH b;let ⟨q,p⟩:=Fp l;⟨max n (max m q),by simp only[V.oV,ζh];exact⟨⟨wm (by omega) h,wm (by omega) k⟩,Nr (by omega) p⟩⟩
end
theorem FR.l_ {H:aq} {Z Z':Nat→Prop} {x y z:V} (h:FR H Z x z) (k:FR H Z' y z):x=y:=by
 obtain⟨n,hn⟩:=vH x;obtain⟨m,hm⟩:=vH y;have e1:=h.borrow (max n m) (wm (Nat.le_max_left _ _) hn);have e2:=k.borrow (max n m) (wm (Nat.le_max_right _ _) hm);rw[e1]at e2;exact Option.some.inj e2
open Classical in
noncomputable def wQ (E:Env) (f:FuncId) (az:List V):Option V:=if h:∃y,yE E f az y then some (Classical.choose h)else none
theorem Jd {E:Env} {f:FuncId} {az:List V} {y:V} (h:wQ E f az=some y):yE E f az y:=by
 unfold wQ at h;split at h
 ·rename_i h1;cases h;exact Classical.choose_spec h1
 ·cases h
theorem Bt {E:Env} {f:FuncId} {az:List V} {y:V} (h:yE E f az y):wQ E f az=some y:=by
 have h1:∃y,yE E f az y:=⟨y,h⟩;unfold wQ;rw[dif_pos h1];obtain⟨n,z,H,Z,k1,k2,_⟩:=h;obtain⟨n',z',H',Z',k3,k4,_⟩:=Classical.choose_spec h1;have e1:=qC E (Nat.le_max_left n n') _ _ _ _ k1;have e2:=qC E (Nat.le_max_right n n') _ _ _ _ k3;rw[e1]at e2;cases e2;rw[FR.l_ k4 k2]
theorem Em {E:Env} {f:FuncId} {az:List V} {y:V} (hs:V.scalar y=true) (h:∃n H',run E n (.fn f) az []=some (y,H')):yE E f az y:=by
 obtain⟨n,H',h⟩:=h;exact⟨n,y,H',fun _=>False,h,.same _ (kY hs),fun _ h=>h.elim,⟨fun _ _ _ h=>h.elim⟩⟩
end Go.VE
