/-
 Plain values and the steps of a certificate.
-/
import Derived.KernelRfl
import Derived.Test.YtjbnbbbiijdbpaaGreatDoorN2
set_option linter.all false
namespace Go.VE
variable [aV]
inductive Sl (α:Type) where
 | nil
 | emp
 | row (l:List α)
 | part (l:List α)
 deriving Inhabited
def Sl.l {α:Type}:Sl α->List α
 | .nil|.emp=>[]
 | .row l|.part l=>l
def Sl.k {α:Type}:Sl α->Fl
 | .nil=>.nil
 | .emp=>.emp
 | .row _=>.row
 | .part _=>.part
class aG (α:Type) where
 cells:α->List V
 agg:Bool
 size:Nat
 len:∀a,(cells a).length=size
 good:∀a,V.bF (cells a)=true
 one:∀a,(cells a).all V.one=true
 plain:agg=false->size=1
def cells {α:Type} [aG α] (a:α):List V:=aG.cells a
def enc {α:Type} [aG α] (a:α):V:=if aG.agg α then .agg (cells a)else(cells a).headD .undef
def rows {α:Type} [aG α] (l:List α):List (List V):=l.map cells
def bn {α:Type} [aG α] (s:Sl α):V:=lB s.k (aG.size α) (rows s.l)
instance:aG Int where
 cells n:=[.int .i64 n]
 agg:=false
 size:=1
 len _:=rfl
 good _:=rfl
 one _:=rfl
 plain _:=rfl
instance:aG Bool where
 cells b:=[.bool b]
 agg:=false
 size:=1
 len _:=rfl
 good _:=rfl
 one _:=rfl
 plain _:=rfl
instance:aG ByteArray where
 cells s:=[.str s]
 agg:=false
 size:=1
 len _:=rfl
 good _:=rfl
 one _:=rfl
 plain _:=rfl
structure aa where
 proc:Int
 index:Int
 deriving DecidableEq,Inhabited
instance:aG aa where
 cells x:=[.int .i64 x.proc,.int .i64 x.index]
 agg:=true
 size:=2
 len _:=rfl
 good _:=rfl
 one _:=rfl
 plain h:=by cases h
@[simp] theorem ZQ (n:Int):enc n=.int .i64 n:=rfl
@[simp] theorem ZB (n:Bool):enc n=.bool n:=rfl
@[simp] theorem ZP (n:ByteArray):enc n=.str n:=rfl
@[simp] theorem YC (n:Int):cells n=[.int .i64 n]:=rfl
@[simp] theorem Xo (n:Bool):cells n=[.bool n]:=rfl
@[simp] theorem X0 (n:ByteArray):cells n=[.str n]:=rfl
@[simp] theorem ZG (n:aa):cells n=[.int .i64 n.proc,.int .i64 n.index]:=rfl
@[simp] theorem UA (n:aa):enc n=.agg [.int .i64 n.proc,.int .i64 n.index]:=rfl
section
variable {α:Type} [aG α]
theorem gI (l:List α):(rows l).length=l.length:=by simp[rows]
def idx (s:Sl α) (i:Int):Option α:=if 0<=i then s.l[i.toNat]? else none
theorem Mn {N:Nat->FuncId} (s:Sl α) (k:IntKind) (i:Int) {n:Nat} (hn:n=aG.size α):ay N (.idxS n) [bn s,.int k i]=(idx s i).map λx=>.fptr (cells x):=by
 subst hn;unfold idx bn;simp only[ay,jc]
 by_cases h:i<0
 .rw[if_pos h,if_neg (by omega)];rfl
 .rw[if_neg h,if_pos (by omega)]
  cases s <;> simp[Sl.k,Sl.l,lB,rows,Function.comp_def]
theorem Ip {N:Nat->FuncId} (s:Sl α):ay N .lenSl [bn s]=some (.int .i64 s.l.length):=by
 cases s <;> simp[ay,nU,bn,Sl.k,Sl.l,lB,gI]
end
section
variable {S:Sys} {c:bD}
end
end Go.VE
namespace Go.VE
variable [aV]
section
variable {S:Sys} {c:bD}
def isSlice:sX->Bool
 | .slice ..=>true
 | _=>false
theorem ME (dr:Bool) (fr:List Nat) (dst:Option Nat) (now:Bool) (p:sX) (az:List Arg) (st:St) (h:isSlice p=false) :
 dX S c dr fr ⟨dst,none,now,.p p,az,[],[]⟩ st=(a_ S.N st.g az).bind λsvs=>(iM S.N st.m p svs).bind λx=>some (b8 st dst x):=by
 unfold dX l8;have hy:ez S.N st.g ⟨dst,none,now,.p p,az,[],[]⟩=none:=by unfold ez;cases p <;> rfl
 simp only[wanted,hy]
 cases hs:a_ S.N st.g az with
 | none=>rfl
 | some svs=>
  simp only[ζb];cases p <;> first|(simp[isSlice]at h;done)|(cases hp:iM S.N st.m _ svs <;> simp[hp])
theorem ES (N:Nat->FuncId) (m:Tb aQ) (p:sX) (svs:List SV) (xs:List V) (h:cU svs=some xs):iM N m p svs=(ay N p xs).bind λx=>some (.v x):=by
 unfold iM;rw[h];dsimp only;cases ay N p xs <;> rfl
theorem Cz (dr:Bool) (fr:List Nat) (dst:Option Nat) (now:Bool) (q:Jc) (az:List Arg) (st:St) :
 dX S c dr fr ⟨dst,none,now,.r q,az,[],[]⟩ st=(a_ S.N st.g az).bind λsvs=>if !dr||now||dW fr svs then(nr st.m q svs).bind λx=>some (b8 st dst x)else none:=by
 unfold dX l8;have hy:ez S.N st.g ⟨dst,none,now,.r q,az,[],[]⟩=none:=rfl;simp only[wanted,hy]
 cases hs:a_ S.N st.g az with
 | none=>rfl
 | some svs=>
  simp only[ζb];split
  .cases hp:nr st.m q svs <;> simp
  .rfl
theorem Ap (dr:Bool) (fr:List Nat) (d:Nat) (now:Bool) (q:Ji) (az:List Arg) (st:St) :
 dX S c dr fr ⟨some d,none,now,.a q,az,[],[]⟩ st=(a_ S.N st.g az).bind λsvs=>if st.new d then(mH st.m q svs d).bind λr=>some { st with g:=aT st.g d r.2,m:=aT st.m d r.1 } else none:=by
 unfold dX l8;have hy:ez S.N st.g ⟨some d,none,now,.a q,az,[],[]⟩=none:=rfl;simp only[wanted,hy]
 cases hs:a_ S.N st.g az with
 | none=>rfl
 | some svs=>
  simp only[ζb];split
  .cases hp:mH st.m q svs d <;> simp[b8]
  .rfl
theorem ug (dr:Bool) (fr:List Nat) (dst:Option Nat) (now:Bool) (q:Fi) (az:List Arg) (st:St) :
 dX S c dr fr ⟨dst,none,now,.l q,az,[],[]⟩ st=(a_ S.N st.g az).bind λsvs=>if !dr||now then(lX st dst q svs).bind λr=>some (b8 r.2 dst r.1)else none:=by
 unfold dX l8;have hy:ez S.N st.g ⟨dst,none,now,.l q,az,[],[]⟩=none:=rfl;simp only[wanted,hy]
 cases hs:a_ S.N st.g az with
 | none=>rfl
 | some svs=>
  simp only[ζb];split
  .cases hp:lX st dst q svs <;> simp
  .rfl
def nq:List SV->Option (FuncId×List SV)
 | .clo f a b::vs=>some (f,a++vs++b)
 | .v (.clo f a b)::vs=>some (f,a.map .v++vs++b.map .v)
 | _=>none
theorem G8 (dr:Bool) (fr:List Nat) (dst:Option Nat) (now:Bool) (az:List Arg) (st:St) (svs:List SV) (f:FuncId) (args:List SV) (hs:a_ S.N st.g az=some svs) (hc:nq svs=some (f,args)) :
 dX S c dr fr ⟨dst,none,now,.c,az,[],[]⟩ st=(fU S c dst dr (!dr||now) (e9 st.m fr) f args st).bind λr=>some (b8 r.2 dst r.1):=by
 unfold dX l8;unfold nq at hc;split at hc
 .simp only[ζa,ζc]at hc;obtain⟨rfl,rfl⟩:=hc;simp only[wanted,ez,hs];cases fU S c dst dr _ _ _ _ st <;> simp
 .simp only[ζa,ζc]at hc;obtain⟨rfl,rfl⟩:=hc;simp only[wanted,ez,hs];cases fU S c dst dr _ _ _ _ st <;> simp
 .simp at hc
noncomputable def LR {β:Type} (S:Sys) (c:bD) (fr:List Nat) (l:List RO) (k:St->Option β):St->Option β:=λst=>(ki S c false fr l st).bind k
noncomputable def Lm {β:Type} (S:Sys) (c:bD) (fr:List Nat) (l:List RO) (k:St->Option β):St->Option β:=λst=>(ki S c true fr l st).bind k
noncomputable def Sc {β:Type} (S:Sys) (c:bD) (fr dd:List Nat) (l:List RO) (k:St->Option β):St->Option β:=λst=>LR S c fr l k (lW dd st)
noncomputable def V5 {β:Type} (S:Sys) (c:bD) (fr dd:List Nat) (l:List RO) (k:St->Option β):St->Option β:=λst=>Lm S c fr l k (lW dd st)
@[congr] theorem XD {β:Type} {fr:List Nat} {l:List RO} {k:St->Option β} {st st':St} (h:st=st'):LR S c fr l k st=LR S c fr l k st':=by rw[h]
@[congr] theorem Xg {β:Type} {fr fr':List Nat} {l:List RO} {k:St->Option β} {st st':St} (hf:fr=fr') (h:st=st'):Lm S c fr l k st=Lm S c fr' l k st':=by rw[h,hf]
@[congr] theorem Xq {β:Type} {fr dd:List Nat} {l:List RO} {k:St->Option β} {st st':St} (h:st=st'):Sc S c fr dd l k st=Sc S c fr dd l k st':=by rw[h]
@[congr] theorem Xz {β:Type} {fr fr' dd:List Nat} {l:List RO} {k:St->Option β} {st st':St} (hf:fr=fr') (h:st=st'):V5 S c fr dd l k st=V5 S c fr' dd l k st':=by rw[h,hf]
@[congr] theorem X7 {dr:Bool} {fr:List Nat} {o:RO} {st st':St} (h:st=st'):dX S c dr fr o st=dX S c dr fr o st':=by rw[h]
end
section
variable {S:Sys} {c:bD} (dr:Bool) (fr:List Nat) (dst:Option Nat) (now:Bool) (az:List Arg) (st:St)
end
end Go.VE
namespace Go.VE
variable [aV]
inductive Fm where
 | seq (b:RC)
 | blk (id:Nat)
 | gst (x:Gh)
section
variable (S:Sys) (c:bD) {β:Type} (Q:Out×St->Option β)
noncomputable def runK:List Fm->Out×St->Option β
 | [],r=>Q r
 | .seq b::fs,(.norm,st)=>(bu S c b st).bind (runK fs)
 | .seq _::fs,r=>runK fs r
 | .blk id::fs,(.exit k,st)=>if k=id then runK fs (.norm,st)else runK fs (.exit k,st)
 | .blk _::fs,r=>runK fs r
 | .gst x::fs,(.norm,st)=>(ghost x st).bind λst=>runK fs (.norm,st)
 | .gst _::fs,r=>runK fs r
noncomputable def go (rc:RC) (fs:List Fm) (st:St):Option β:=(bu S c rc st).bind (runK S c Q fs)
noncomputable def MS (fs:List Fm):St->Option β:=λst=>runK S c Q fs (.norm,st)
def au {α:Type} (t:Bool) (a b:α):α:=if t then a else b
end
@[congr] theorem Za {α:Type} {t t':Bool} {a b a' b':α} (h:t=t') (ha:t'=true->a=a') (hb:t'=false->b=b'):au t a b=au t' a' b':=by
 subst h;cases t
 .exact hb rfl
 .exact ha rfl
section
variable {S:Sys} {c:bD} {β:Type} {Q:Out×St->Option β}
@[congr] theorem go_congr {a:RC} {fs:List Fm} {st st':St} (h:st=st'):go S c Q a fs st=go S c Q a fs st':=by rw[h]
@[congr] theorem WQ {fs:List Fm} {st st':St} (h:st=st'):MS S c Q fs st=MS S c Q fs st':=by rw[h]
@[congr] theorem Xl {fs:List Fm} {r r':Out×St} (h:r=r'):runK S c Q fs r=runK S c Q fs r':=by rw[h]
theorem Dg (rc:RC) (st:St):(bu S c rc st).bind Q=go S c Q rc [] st:=by
 simp only[go];cases bu S c rc st <;> rfl
inductive Fw (ν ε ρ:Type) where
 | n (a:ν)
 | x (e:ε)
 | r (b:ρ)
def gz {σ ε ρ:Type} (step:σ->Option (Fw σ ε ρ)):Nat->σ->Option (Fw Empty ε ρ)
 | 0,_=>none
 | k+1,s=>match step s with
  | some (.n s')=>gz step k s'
  | some (.x e)=>some (.x e)
  | some (.r b)=>some (.r b)
  | none=>none
theorem uB {σ ε ρ:Type} {step:σ->Option (Fw σ ε ρ)}:∀{k k':Nat} {s:σ} {r:Fw Empty ε ρ},k<=k'->gz step k s=some r->gz step k' s=some r
 | 0,_,_,_,_,h=>by simp[gz]at h
 | k+1,0,_,_,hk,_=>by omega
 | k+1,k'+1,s,r,hk,h=>by
  simp only[gz]at h ⊢;split at h
  .exact uB (Nat.le_of_succ_le_succ hk) h
  .exact h
  .exact h
  .simp at h
open Classical in
noncomputable def aS {σ ε ρ:Type} (step:σ->Option (Fw σ ε ρ)) (s:σ):Option (Fw Empty ε ρ):=
 if h:∃k r,gz step k s=some r then some (Classical.choose (Classical.choose_spec h))else none
theorem kJ {σ ε ρ:Type} {step:σ->Option (Fw σ ε ρ)} {s:σ} {r:Fw Empty ε ρ}:aS step s=some r↔∃k,gz step k s=some r:=by
 unfold aS;constructor
 .intro h;split at h
  .rename_i hx;simp only[ζa]at h;exact⟨_,by rw[<-h];exact Classical.choose_spec (Classical.choose_spec hx)⟩
  .simp at h
 .rintro⟨k,hk⟩;have hx:∃k r,gz step k s=some r:=⟨k,r,hk⟩;rw[dif_pos hx];have h2:=Classical.choose_spec (Classical.choose_spec hx);have h3:=uB (Nat.le_max_left (Classical.choose hx) k) h2;have h4:=uB (Nat.le_max_right (Classical.choose hx) k) hk;rw[h3]at h4;exact h4
def Fw.out {ν ε ρ:Type} (eν:ν->St) (eε:ε->Nat×St) (eρ:ρ->St):Fw ν ε ρ->Out×St
 | .n a=>(.norm,eν a)
 | .x e=>(.exit (eε e).1,(eε e).2)
 | .r b=>(.ret,eρ b)
def Fw.elim {ε ρ γ:Type} (fx:ε->γ) (fr:ρ->γ):Fw Empty ε ρ->γ
 | .x e=>fx e
 | .r b=>fr b
end
end Go.VE
namespace Go.VE
variable [aV]
class Lv (n:Nat) (α:Type) [aG α]:Prop where
 lv:∀a:α,V.bT n (cells a)=true
instance {n:Nat}:Lv n Int:=⟨λ_=>by cases n <;> rfl⟩
instance {n:Nat}:Lv n Bool:=⟨λ_=>by cases n <;> rfl⟩
instance {n:Nat}:Lv n ByteArray:=⟨λ_=>by cases n <;> rfl⟩
instance {n:Nat}:Lv n aa:=⟨λ_=>by cases n <;> rfl⟩
section
variable {α:Type} [aG α]
theorem Bz (s:Sl α):V.one (bn s)=true:=by cases s <;> rfl
theorem Jv (l:List α):V.lE (rows l)=true:=by
 induction l with
 | nil=>rfl
 | cons a l ih=>simp only[rows,List.map_cons,V.lE,ζh];exact⟨aG.good a,ih⟩
theorem FP (s:Sl α):V.good (bn s)=true:=by
 cases s <;> simp only[bn,Sl.k,lB,V.good] <;> exact Jv _
theorem KW {n:Nat} [Lv n α] (l:List α):V.kq n (rows l)=true:=by
 induction l with
 | nil=>cases n <;> rfl
 | cons a l ih=>simp only[rows,List.map_cons,V.kq,ζh];exact⟨Lv.lv a,ih⟩
theorem B6 {n:Nat} [Lv n α] (s:Sl α):V.lvl (n+1) (bn s)=true:=by
 cases s <;> simp only[bn,Sl.k,lB,V.lvl] <;> exact KW _
instance:aG (Sl α) where
 cells s:=[bn s]
 agg:=false
 size:=1
 len _:=rfl
 good s:=by simp only[V.bF,FP,Bool.and_self]
 one s:=by simp[Bz]
 plain _:=rfl
instance {n:Nat} [Lv n α]:Lv (n+1) (Sl α):=⟨λs=>by
 show V.bT (n+1) [bn s]=true;simp only[V.bT,B6,Bool.and_self]⟩
end
theorem Oe (n:Nat) (cs:List V):V.lvl (n+1) (.agg cs)=V.bT n cs:=rfl
theorem OB (n:Nat) (cs:List V):V.lvl (n+1) (.tup cs)=V.bT n cs:=rfl
theorem K9 (n:Nat) (cs:List V):V.lvl (n+1) (.fptr cs)=V.bT n cs:=rfl
theorem Q4 (n:Nat) (f:FuncId) (a b:List V):V.lvl (n+1) (.clo f a b)=(V.bT n a&&V.bT n b):=rfl
theorem oZ (n:Nat) (k:IntKind) (x:Int):V.lvl n (.int k x)=true:=by cases n <;> rfl
theorem mc (n:Nat) (x:Bool):V.lvl n (.bool x)=true:=by cases n <;> rfl
theorem o6 (n:Nat) (x:ByteArray):V.lvl n (.str x)=true:=by cases n <;> rfl
theorem Q1 (n:Nat):V.lvl n .aF=true:=by cases n <;> rfl
theorem Qn (n:Nat):V.lvl n .cA=true:=by cases n <;> rfl
theorem LK (n:Nat):V.lvl n .eX=true:=by cases n <;> rfl
theorem jE (n:Nat):V.bT n []=true:=by cases n <;> rfl
theorem hG (n:Nat) (x:V) (r:List V):V.bT n (x::r)=(V.lvl n x&&V.bT n r):=by cases n <;> rfl
section
variable {S:Sys} {c:bD}
def IE (x:Option SV) (b:Bool) (y z:Option St):Option St:=
 match x with
 | some (.v (.bool t))=>au (t==b) y z
 | some (.v _)=>z
 | _=>none
@[congr] theorem TR {x x':Option SV} {b:Bool} {y z:Option St} (h:x=x'):IE x b y z=IE x' b y z:=by rw[h]
def MH {β:Type} (x:Option SV) (y z:Option β):Option β:=
 match x with
 | some (.v (.bool t))=>au t y z
 | _=>none
@[congr] theorem WM {β:Type} {x x':Option SV} {y z:Option β} (h:x=x'):MH x y z=MH x' y z:=by rw[h]
def jT (c:bD) (f:FuncId) (az:List V):Option (List V):=(c f (az.map .v) []).bind λr=>bR r.2 8 r.1
def H_ (dr:Bool) (ok:Bool) (st:St) (ys:List V):Option (SV×St):=
 if V.lvl 8 (result ys)&&((result ys).scalar||ok)then some (.v (result ys),st)else none
theorem OX (dst:Option Nat) (dr now:Bool) (old:List SV->Bool) (f:FuncId) (args:List SV) (st:St) (hk:S.E.keep f=false) :
 fU S c dst dr now old f args st=(bR st.m 8 args).bind λaz=>if V.bT 8 az&&(now||old args)then(jT c f az).bind (H_ dr (cU args).isSome st)else none:=by
 unfold fU jT;simp only[hk,Bool.false_eq_true,if_false]
 cases bR st.m 8 args with
 | none=>rfl
 | some az=>
  simp only[ζb];split
  .cases c f (az.map .v) []with
   | none=>rfl
   | some r=>
    obtain⟨rs,m'⟩:=r;simp only[ζb];cases bR m' 8 rs <;> rfl
  .rfl
end
section
variable {S:Sys} {T:pO}
def DW (rs:List RV):Out×St->Option (List V)
 | (.exit _,_)=>none
 | (_,st)=>(nF st rs).bind (bR st.m 8)
theorem L_ {f:FuncId} {rf:RF} (hT:T f=some rf) (az:List V) (hn:az.length<=rf.na):jT (cN S T) f az=go S (cN S T) (DW rf.rs) rf.body [] (start (az.map .v) []):=by
 unfold jT;rw[zc hT];unfold mU;rw[if_pos (by simpa using hn),<-Dg]
 cases h:bu S (cN S T) rf.body (start (az.map .v) [])with
 | none=>rfl
 | some r=>
  obtain⟨o,st⟩:=r;cases o <;> simp only[ζb,DW] <;> (try rfl) <;> (cases nF st rf.rs <;> rfl)
end
end Go.VE
namespace Go.VE
variable [aV]
variable {N:Nat->FuncId}
def aaj (a b:Int):Option Int:=if b=0 then none else some (a.tmod b)
def aaf (k:IntKind) (a b:Int):Option Int:=if b<0 then none else some (a.fdiv (2 ^ (min b.toNat k.bits)))
theorem Dw (o:Nat) (cs:List V):ay N (.fieldAddr o) [.fptr cs]=if o<=cs.length then some (.fptr (cs.drop o))else none:=rfl
def iq (s:ByteArray) (n:Int):Option Int:=if 0<=n then(s[n.toNat]?).map λb=>(b.toNat:Int)else none
theorem Jr (s:ByteArray) (k:IntKind) (n:Int):ay N .idxStr [.str s,.int k n]=(iq s n).bind λx=>some (.int .u8 x):=by
 simp only[ay,iq];split
 .cases s[n.toNat]? <;> rfl
 .rfl
section
variable {α:Type} [aG α]
theorem Bh (s:Sl α) (k:IntKind) (i:Int) (n:Nat) (hn:n=aG.size α):ay N (.idxS n) [bn s,.int k i]=(idx s i).bind λx=>some (.fptr (cells x)):=by
 rw[Mn s k i hn];cases idx s i <;> rfl
theorem vv (s:Sl α):ay N .lenSl [bn s]=some (.int .i64 s.l.length):=Ip s
def Sl.isNil {α:Type} (s:Sl α):Option Bool:=
 match s with
 | .nil=>some true
 | .emp=>none
 | _=>some false
theorem Lk (q:Option Nat) (s:Sl α):ay N (.bin (some .slice) q .eql) [bn s,.aF]=s.isNil.bind λt=>some (.bool t):=by
 cases s <;> rfl
def fP (s:Sl α) (lo hi:Option Int):Option (Sl α):=
 (cC s.l.length lo hi).map λ(l,h)=>match s with
  | .nil=>.nil
  | .emp=>.emp
  | .row x=>.part ((x.take h).drop l)
  | .part x=>.part ((x.take h).drop l)
theorem FO (s:Sl α) (lo hi:Option Int) (n:Nat) (hn:n=aG.size α):fQ n (bn s) lo hi=(fP s lo hi).bind λx=>some (bn x):=by
 subst hn
 cases s with
 | nil=>simp only[bn,Sl.k,lB,fQ,fP,Sl.l,List.length_nil];cases cC 0 lo hi <;> rfl
 | emp=>simp only[bn,Sl.k,lB,fQ,fP,Sl.l,List.length_nil];cases cC 0 lo hi <;> rfl
 | row l=>simp only[bn,Sl.k,lB,fQ,fP,Sl.l,if_true,gI];cases cC l.length lo hi <;> simp[rows,List.map_take,List.map_drop]
 | part l=>simp only[bn,Sl.k,lB,fQ,fP,Sl.l,if_true,gI];cases cC l.length lo hi <;> simp[rows,List.map_take,List.map_drop]
end
theorem I4 (m:Tb aQ) (n:Nat) (a:Bool) (cs:List V):nr m (.load n a) [.v (.fptr cs)]=(cut cs 0 n).bind λr=>(mk a r).bind λx=>some (.v x):=by
 simp only[nr,cG]
 cases cut cs 0 n with
 | none=>rfl
 | some r=>simp only[ζb];cases mk a r <;> rfl
end Go.VE
namespace Go.VE
variable [aV]
section
variable {α:Type} [aG α]
def bX (s:Sl α):aQ:=.sl s.k (aG.size α) (rows s.l)
def Sl.mj (s:Sl α) (i:Int):Option Nat:=if 0<=i/\i.toNat<s.l.length then some i.toNat else none
def Sl.get (s:Sl α) (i:Nat):Option α:=s.l[i]?
def Sl.put (s:Sl α) (i:Nat) (x:α):Option (Sl α):=
 if i<s.l.length then some (match s with|.row l=>.row (l.set i x)|.part l=>.part (l.set i x)|s=>s)else none
def jC (s:Sl α) (x:α):Option (Sl α):=if s.l.length+1<=2147483648 then some (.row (s.l++[x]))else none
def tj (n:Int) (z:α):Option (Sl α):=if 0<=n/\n<=2147483648 then some (.row (List.replicate n.toNat z))else none
end
section
variable {α:Type} [aG α] {N:Nat->FuncId} {m:Tb aQ}
def Gr (n d:Nat) (o:Option aQ) (i:Int):Option SV:=
 match o with
 | some (.sl k es xs)=>if bz k/\es=n/\0<=i/\i.toNat<xs.length then some (.el d i.toNat 0)else none
 | _=>none
theorem Qh (n d:Nat) (k:IntKind) (i:Int):iM N m (.idxS n) [.own d,.v (.int k i)]=Gr n d (an m d) i:=by
 simp only[iM,cU,ya,Gr]
 cases an m d with
 | none=>rfl
 | some o=>cases o <;> rfl
theorem Q2 (n d:Nat) (s:Sl α) (i:Int) (h:n=aG.size α):Gr n d (some (bX s)) i=(s.mj i).bind λj=>some (.el d j 0):=by
 subst h;simp only[Gr,bX,gI,true_and,Sl.mj]
 cases s with
 | nil=>simp[Sl.l,Sl.k,bz]
 | emp=>simp[Sl.l,Sl.k,bz]
 | row l=>simp only[Sl.k,Sl.l,bz,true_and];by_cases h:0<=i/\i.toNat<l.length <;> simp[h]
 | part l=>simp only[Sl.k,Sl.l,bz,true_and];by_cases h:0<=i/\i.toNat<l.length <;> simp[h]
def Gw (o:Option aQ):Option SV:=
 match o with
 | some (.sl _ _ xs)=>some (.v (.int .i64 xs.length))
 | _=>none
theorem Ls (d:Nat):iM N m .lenSl [.own d]=Gw (an m d):=by
 simp only[iM,cU,ya,Gw]
 cases an m d with
 | none=>rfl
 | some o=>cases o <;> rfl
theorem Py (s:Sl α):Gw (some (bX s))=some (.v (.int .i64 s.l.length)):=by simp[Gw,bX,gI]
def Gt (n:Nat) (a:Bool) (o:Nat) (ob:Option aQ):Option SV:=
 match ob with
 | some (.box cs)=>xW n a ((cs.drop o).take n)
 | _=>none
theorem ZE (n:Nat) (a:Bool) (d o:Nat):nr m (.load n a) [.ptr d o]=Gt n a o (an m d):=by
 simp only[nr,Gt];rfl
theorem JJ (n:Nat) (a:Bool) (o:Nat) (cs:List SV):Gt n a o (some (.box cs))=xW n a ((cs.drop o).take n):=rfl
def Ae (n:Nat) (a:Bool) (i o:Nat) (ob:Option aQ):Option SV:=
 match ob with
 | some (.sl _ _ xs)=>match xs[i]? with
  | some cs=>((cut cs o n).bind (mk a)).map .v
  | none=>none
 | _=>none
theorem Xy (n:Nat) (a:Bool) (d i o:Nat):nr m (.load n a) [.el d i o]=Ae n a i o (an m d):=by
 simp only[nr,Ae];rfl
theorem Jw (n:Nat) (a:Bool) (i o:Nat) (s:Sl α):Ae n a i o (some (bX s))=(s.get i).bind λx=>(cut (cells x) o n).bind λr=>(mk a r).bind λy=>some (.v y):=by
 simp only[Ae,bX,Sl.get,rows,List.getElem?_map]
 cases s.l[i]? with
 | none=>rfl
 | some x=>
  simp only[Option.map_some,ζb]
  cases cut (cells x) o n with
  | none=>rfl
  | some r=>simp only[ζb];cases mk a r <;> rfl
theorem WX (z:α) (n:Int) (d:Nat) (size:Nat) (zero:List V) (h:zero=cells z) (h2:size=aG.size α) :
 mH m (.makeSl size zero) [.v (.int .i64 n),.v (.int .i64 n)] d=(tj n z).bind λs=>some (bX s,.own d):=by
 subst h h2;simp only[mH,tj,true_and,Int.le_refl];split
 .simp[bX,Sl.k,Sl.l,rows,List.map_replicate]
 .rfl
def ye (st:St) (d i o size:Nat) (x:V) (ob:Option aQ):Option (SV×St):=
 match ob with
 | some (.sl k es xs)=>match xs[i]? with
  | some cs=>if x.cells.length=size/\o+size<=cs.length/\x.cells.all V.one=true then
   some (.v .undef,{ st with m:=aT st.m d (.sl k es (xs.set i (cs.take o++x.cells++cs.drop (o+x.cells.length)))) })else none
  | none=>none
 | _=>none
theorem G4 (st:St) (dst:Option Nat) (size d i o:Nat) (x:V):lX st dst (.store size) [.el d i o,.v x]=ye st d i o size x (an st.m d):=by
 simp only[lX,ye];rfl
theorem G5 (g:Tb SV) (p:List Nat) (w:List (List V)) (mo:Bool) (y:Nat) (d i size:Nat) (x:V) (a:α) (hx:x.cells=cells a) (hs:size=aG.size α) (s:Sl α) :
 ye ⟨g,m,p,w,mo,y⟩ d i 0 size x (some (bX s))=(s.put i a).bind λs'=>some (.v .undef,⟨g,aT m d (bX s'),p,w,mo,y⟩):=by
 have h1:(cells a).all V.one=true:=aG.one a;have hl:∀b:α,(cells b).length=aG.size α:=aG.len;subst hs;simp only[ye,bX,rows,List.getElem?_map,hx,Sl.put]
 by_cases hi:i<s.l.length
 .have hg:s.l[i]? = some s.l[i]:=ζd hi;rw[if_pos hi,hg];simp only[Option.map_some,hl,h1,ζb];rw[if_pos ⟨trivial,by omega,trivial⟩]
  cases s with
  | nil=>simp[Sl.l]at hi
  | emp=>simp[Sl.l]at hi
  | row l=>simp[Sl.k,Sl.l,rows,List.drop_of_length_le,hl,List.map_set]
  | part l=>simp[Sl.k,Sl.l,rows,List.drop_of_length_le,hl,List.map_set]
 .rw[if_neg hi,List.getElem?_eq_none (by omega)];rfl
def ow (st:St) (t n:Nat) (s:SV) (xs ys:Option (List (List V))):Option (SV×St):=
 match xs,ys with
 | some _,some []=>match s with
  | .own d=>match an st.m d with
   | some ob=>if St.new { st with m:=cQ d st.m } t then some (.own t,{ st with m:=aT (cQ d st.m) t ob })else none
   | none=>none
  | .v .aF=>if st.new t then some (.own t,{ st with m:=aT st.m t (.sl .nil n []) })else none
  | .v .cA=>if st.new t then some (.own t,{ st with m:=aT st.m t (.sl .emp n []) })else none
  | _=>none
 | some xs,some ys=>
  if xs.length+ys.length<=2147483648/\zu s=true then
   if St.new { st with m:=giveUp st.m s } t then some (.own t,{ st with m:=aT (giveUp st.m s) t (.sl .row n (xs++ys)) })else none
  else none
 | _,_=>none
theorem wm (st:St) (t n:Nat) (s x:SV):lX st (some t) (.append n) [s,x]=ow st t n s (iK st.m n s) (iK st.m n x):=by
 cases s <;> cases x <;> (simp only[lX,ow];rfl)
def HC (n:Nat) (o:Option aQ):Option (List (List V)):=
 match o with
 | some (.sl k es xs)=>if bz k then(if es=n then some xs else none)else some []
 | _=>none
theorem AW (n d:Nat):iK m n (.own d)=HC n (an m d):=by
 simp only[iK,HC]
 cases an m d with
 | none=>rfl
 | some ob=>cases ob <;> rfl
theorem xO (n:Nat) (s:Sl α) (h:n=aG.size α):HC n (some (bX s))=some (rows s.l):=by
 subst h;cases s <;> simp[HC,bX,Sl.k,Sl.l,bz,rows]
theorem NM (n:Nat):iK m n (.v .aF)=some []:=rfl
theorem NZ (n:Nat):iK m n (.v .cA)=some []:=rfl
theorem JM (g:Tb SV) (p:List Nat) (w:List (List V)) (mo:Bool) (y:Nat) (t n d:Nat) (l:List α) (x:α) (h:n=aG.size α):ow ⟨g,m,p,w,mo,y⟩ t n (.own d) (some (rows l)) (some (rows [x])) =
 (jC (.row l) x).bind λs=>if St.new ⟨g,cQ d m,p,w,mo,y⟩ t then some (.own t,⟨g,aT (cQ d m) t (bX s),p,w,mo,y⟩)else none:=by
 subst h;have e:(rows l).length+(rows [x]).length=l.length+1:=by simp[gI]
 by_cases h:l.length+1<=2147483648
 .have h1:jC (.row l) x=some (.row (l++[x])):=if_pos h;have h2:ow ⟨g,m,p,w,mo,y⟩ t (aG.size α) (.own d) (some (rows l)) (some (rows [x]))=if St.new ⟨g,cQ d m,p,w,mo,y⟩ t then some (.own t,⟨g,aT (cQ d m) t (.sl .row (aG.size α) (rows l++rows [x])),p,w,mo,y⟩)else none:=if_pos ⟨by omega,rfl⟩
  rw[h1,h2];simp only[ζb,bX,Sl.k,Sl.l,rows,List.map_append,List.map_cons,List.map_nil]
 .have h1:jC (.row l) x=none:=if_neg h;have h2:ow ⟨g,m,p,w,mo,y⟩ t (aG.size α) (.own d) (some (rows l)) (some (rows [x]))=none:=if_neg (λq=>h (by omega))
  rw[h1,h2];rfl
theorem Ja (g:Tb SV) (p:List Nat) (w:List (List V)) (mo:Bool) (y:Nat) (t n:Nat) (x:α) (h:n=aG.size α):ow ⟨g,m,p,w,mo,y⟩ t n (.v .aF) (some []) (some (rows [x])) =
 if St.new ⟨g,m,p,w,mo,y⟩ t then some (.own t,⟨g,aT m t (bX (.row [x])),p,w,mo,y⟩)else none:=by
 subst h;simp[ow,rows,zu,giveUp,bX,Sl.k,Sl.l];rfl
theorem IG (g:Tb SV) (p:List Nat) (w:List (List V)) (mo:Bool) (y:Nat) (t n:Nat) (x:α) (h:n=aG.size α):ow ⟨g,m,p,w,mo,y⟩ t n (.v .cA) (some []) (some (rows [x])) =
 if St.new ⟨g,m,p,w,mo,y⟩ t then some (.own t,⟨g,aT m t (bX (.row [x])),p,w,mo,y⟩)else none:=by
 subst h;simp[ow,rows,zu,giveUp,bX,Sl.k,Sl.l];rfl
end
theorem uP (g:Tb SV) (m:Tb aQ) (p:List Nat) (w:List (List V)) (mo:Bool) (y d:Nat):St.new ⟨g,m,p,w,mo,y⟩ d=(!(p.contains d)&&(an m d).isNone && !(si d g) && !(pS d m)):=rfl
theorem oN (d:Nat):si d []=false:=rfl
theorem mX (d n:Nat) (x:SV) (r:Tb SV):si d ((n,x)::r)=(SV.bW d x||si d r):=rfl
theorem o5 (d:Nat):pS d []=false:=rfl
theorem nh (d n:Nat) (x:aQ) (r:Tb aQ):pS d ((n,x)::r)=(aQ.bW d x||pS d r):=rfl
theorem uZ (d:Nat) (x:V):SV.bW d (.v x)=false:=rfl
theorem qq (d e:Nat):SV.bW d (.own e)=(e==d):=rfl
theorem qg (d e o:Nat):SV.bW d (.ptr e o)=(e==d):=rfl
theorem sM (d e i o:Nat):SV.bW d (.el e i o)=(e==d):=rfl
theorem sF (d e:Nat):SV.bW d (.mp e)=(e==d):=rfl
theorem qo (d:Nat) (f:FuncId) (a b:List SV):SV.bW d (.clo f a b)=(SV.cw d a||SV.cw d b):=rfl
theorem qE (d:Nat) (l:List SV):SV.bW d (.tup l)=SV.cw d l:=rfl
theorem o4 (d:Nat):SV.cw d []=false:=rfl
theorem mT (d:Nat) (x:SV) (r:List SV):SV.cw d (x::r)=(SV.bW d x||SV.cw d r):=rfl
theorem oG (d:Nat) (cs:List SV):aQ.bW d (.box cs)=SV.cw d cs:=rfl
theorem BD (m:Tb aQ) (n:Nat):bR m n []=some []:=by cases n <;> simp only[bR]
theorem Am (m:Tb aQ) (n:Nat) (x:SV) (r:List SV):bR m n (x::r)=(shut m n x).bind λy=>(bR m n r).bind λs=>some (y::s):=by
 cases n <;> (simp only[bR];cases shut m _ x <;> (try rfl) <;> (cases bR m _ r <;> rfl))
theorem Um (m:Tb aQ) (n:Nat) (x:V):shut m n (.v x)=some x:=by cases n <;> simp only[shut]
theorem KJ (m:Tb aQ) (n:Nat) (f:FuncId) (a b:List SV):shut m (n+1) (.clo f a b)=(bR m n a).bind λx=>(bR m n b).bind λy=>some (.clo f x y):=by
 simp only[shut];cases bR m n a <;> (try rfl) <;> (cases bR m n b <;> rfl)
theorem Ks (m:Tb aQ) (n:Nat) (l:List SV):shut m (n+1) (.tup l)=(bR m n l).bind λx=>some (.tup x):=by
 simp only[shut];cases bR m n l <;> rfl
theorem qc {α:Type} (n:Nat):cQ n ([]:Tb α)=[]:=rfl
theorem oH {α:Type} (n k:Nat) (x:α) (r:Tb α):cQ n ((k,x)::r)=if k=n then cQ n r else(k,x)::cQ n r:=rfl
theorem mapM_nil (f:List SV->List SV):mapM f []=[]:=rfl
end Go.VE
namespace Go.VE
variable [aV]
section
variable {N:Nat->FuncId} {m:Tb aQ}
theorem Oz:result []=.tup []:=rfl
theorem OQ (x:V):result [x]=x:=rfl
theorem QF (x y:V) (l:List V):result (x::y::l)=.tup (x::y::l):=rfl
theorem DU (p:sX) (a:V):iM N m p [.v a]=(ay N p [a]).bind λx=>some (.v x):=ES N m p _ [a] rfl
theorem vu (p:sX) (a b:V):iM N m p [.v a,.v b]=(ay N p [a,b]).bind λx=>some (.v x):=ES N m p _ [a,b] rfl
theorem tE (l:List V):cU (l.map .v)=some l:=by
 induction l with
 | nil=>rfl
 | cons a l ih=>simp only[List.map_cons,cU,ih];rfl
theorem tX (n:Nat) (l:List V):bR m n (l.map .v)=some l:=by
 induction l with
 | nil=>exact BD m n
 | cons a l ih=>rw[List.map_cons,Am,Um,ih];rfl
theorem Sl.M1 {α:Type} (l:List α):(Sl.row l).l=l:=rfl
theorem qz (k:IntKind) (n:Int):V.one (.int k n)=true:=rfl
theorem ou (n:Bool):V.one (.bool n)=true:=rfl
theorem qv (n:ByteArray):V.one (.str n)=true:=rfl
end
end Go.VE
namespace Go.VE
variable [aV]
section
variable {S:Sys} {c:bD} {β γ δ:Type} {Q:Out×St->Option β} {L:Option β} {e:γ->Option β}
theorem JN {dr:Bool} {fr:List Nat} {d:Option Nat} {gd:Option (Nat×Bool)} {now:Bool} {k:K} {az:List Arg} {st:St} (h:wanted st.g gd=some true) :
 dX S c dr fr ⟨d,gd,now,k,az,[],[]⟩ st=dX S c dr fr ⟨d,none,now,k,az,[],[]⟩ st:=by
 unfold dX;rw[h];rfl
theorem zh (dr:Bool) (st:St):y6 dr [] st=some st:=by cases dr <;> rfl
def lQ (f:SV->Option V):List SV->Option (List V)
 | []=>some []
 | x::r=>(f x).bind λy=>(lQ f r).bind λs=>some (y::s)
def gF (m:Tb aQ):Nat->SV->Option V
 | 0,x=>match x with
  | .v y=>some y
  | .own d=>match an m d with
   | some (.sl k es xs)=>some (lB k es xs)
   | _=>none
  | .mp d=>match an m d with
   | some (.mp kvs)=>some (.fmap kvs)
   | _=>none
  | _=>none
 | n+1,x=>match x with
  | .v y=>some y
  | .own d=>match an m d with
   | some (.sl k es xs)=>some (lB k es xs)
   | _=>none
  | .ptr d o=>match an m d with
   | some (.box cs)=>match lQ (gF m n) cs with
    | some xs=>if o<=xs.length then some (.fptr (xs.drop o))else none
    | none=>none
   | _=>none
  | .mp d=>match an m d with
   | some (.mp kvs)=>some (.fmap kvs)
   | _=>none
  | .clo f a b=>(lQ (gF m n) a).bind λx=>(lQ (gF m n) b).bind λy=>some (.clo f x y)
  | .tup l=>(lQ (gF m n) l).bind λx=>some (.tup x)
  | _=>none
theorem yj (m:Tb aQ):∀(n:Nat),(∀x,shut m n x=gF m n x)/\∀l,bR m n l=lQ (gF m n) l:=by
 have hl:∀n,(∀x,shut m n x=gF m n x)->∀l,bR m n l=lQ (gF m n) l:=by
  intro n h l
  induction l with
  | nil=>exact BD m n
  | cons a l ih=>rw[Am,h a,ih];rfl
 intro n
 induction n with
 | zero=>
  have h0:∀x,shut m 0 x=gF m 0 x:=by
   intro x;cases x <;> simp only[shut,gF] <;> rfl
  exact⟨h0,hl 0 h0⟩
 | succ n ih=>
  have h1:∀x,shut m (n+1) x=gF m (n+1) x:=by
   intro x
   cases x with
   | ptr d o=>simp only[shut,gF,ih.2];rfl
   | clo f a b=>rw[KJ,ih.2,ih.2];rfl
   | tup l=>rw[Ks,ih.2];rfl
   | _=>simp only[shut,gF] <;> rfl
  exact⟨h1,hl _ h1⟩
noncomputable def sP (S:Sys) (c:bD) (dr:Bool):List Nat->List RO->(St->Option β)->St->Option β
 | _,[],k,st=>k st
 | fr,o::r,k,st=>((y6 dr o.pre st).bind (dX S c dr fr o.strip)).bind λst'=>sP S c dr (if dr then nQ fr o.strip else fr) r k (lW o.dead st')
theorem Bf (dr:Bool):∀(l:List RO) (fr:List Nat) (k:St->Option β) (st:St),sP S c dr fr l k st=(ki S c dr fr l st).bind k
 | [],_,_,_=>rfl
 | o::r,fr,k,st=>by
  simp only[sP,ki]
  cases (y6 dr o.pre st).bind (dX S c dr fr o.strip)with
  | none=>rfl
  | some st'=>exact Bf dr r _ k _
noncomputable def kI (S:Sys) (c:bD):RC->(St->Option β)->(Nat->St->Option β)->(St->Option β)->St->Option β
 | .skip,n,_,_,st=>n st
 | .ops l,n,_,_,st=>sP S c false [] l n st
 | .lS l,n,_,_,st=>sP S c true [] l n st
 | .seq a b,n,x,r,st=>kI S c a (λst=>kI S c b n x r st) x r st
 | .cond y a b,n,x,r,st=>match nE S.N st.g y with
  | some (.v (.bool t))=>au t (kI S c a n x r st) (kI S c b n x r st)
  | _=>none
 | .block id a,n,x,r,st=>kI S c a n (λk st=>if k=id then n st else x k st) r st
 | .loop a,n,x,r,st=>(kO (bu S c a) st).bind λq=>match q with|(.norm,st)=>n st|(.exit k,st)=>x k st|(.ret,st)=>r st
 | .each g ps a b,n,x,r,st=>(bu S c (.each g ps a b) st).bind λq=>match q with|(.norm,st)=>n st|(.exit k,st)=>x k st|(.ret,st)=>r st
 | .exit k,_,x,_,st=>x k st
 | .ret,_,_,r,st=>r st
 | .gh g a,n,x,r,st=>(ghost g st).bind λst=>kI S c a n x r st
 | .hg a g,n,x,r,st=>kI S c a (λst=>(ghost g st).bind n) x r st
def A4 (n:St->Option β) (x:Nat->St->Option β) (r:St->Option β):Out×St->Option β
 | (.norm,st)=>n st
 | (.exit k,st)=>x k st
 | (.ret,st)=>r st
theorem Aj:∀(rc:RC) (n:St->Option β) (x:Nat->St->Option β) (r:St->Option β) (st:St),kI S c rc n x r st=(bu S c rc st).bind (A4 n x r):=by
 intro rc
 induction rc with
 | skip=>intros;rfl
 | ops l=>intro n x r st;simp only[kI,bu,Bf];cases ki S c false [] l st <;> rfl
 | lS l=>intro n x r st;simp only[kI,bu,Bf];cases ki S c true [] l st <;> rfl
 | seq a b iha ihb=>
  intro n x r st;simp only[kI,bu,iha,ihb]
  cases h:bu S c a st with
  | none=>rfl
  | some q=>obtain⟨o,st'⟩:=q;cases o <;> rfl
 | cond y a b iha ihb=>
  intro n x r st;simp only[kI,bu,iha,ihb]
  cases nE S.N st.g y with
  | none=>rfl
  | some v=>cases v with
   | v z=>cases z with
    | bool t=>cases t <;> rfl
    | _=>rfl
   | _=>rfl
 | block id a ih=>
  intro n x r st;simp only[kI,bu,ih]
  cases h:bu S c a st with
  | none=>rfl
  | some q=>
   obtain⟨o,st'⟩:=q
   cases o with
   | exit k=>simp only[ζb,A4];split <;> rfl
   | _=>rfl
 | loop a ih=>
  intro n x r st;simp only[kI,bu];rfl
 | each g ps a b iha ihb=>
  intro n x r st;simp only[kI];rfl
 | exit k=>intros;rfl
 | ret=>intros;rfl
 | gh g a ih=>
  intro n x r st;simp only[kI,bu,ih];cases ghost g st <;> rfl
 | hg a g ih=>
  intro n x r st;simp only[kI,bu,ih]
  cases h:bu S c a st with
  | none=>rfl
  | some q=>
   obtain⟨o,st'⟩:=q
   cases o with
   | norm=>simp only[ζb,A4];cases ghost g st' <;> rfl
   | _=>rfl
section
variable (S c Q)
mutual
noncomputable def jM:List Fm->St->Option β
 | []=>λst=>Q (.norm,st)
 | .seq b::fs=>λst=>kI S c b (jM fs) (jW fs) (λst=>Q (.ret,st)) st
 | .blk _::fs=>jM fs
 | .gst g::fs=>λst=>(ghost g st).bind (jM fs)
noncomputable def jW:List Fm->Nat->St->Option β
 | []=>λk st=>Q (.exit k,st)
 | .seq _::fs=>jW fs
 | .blk id::fs=>λk st=>if k=id then jM fs st else jW fs k st
 | .gst _::fs=>jW fs
end
noncomputable def jS (rc:RC) (fs:List Fm) (st:St):Option β:=kI S c rc (jM S c Q fs) (jW S c Q fs) (λst=>Q (.ret,st)) st
end
section
variable {dr:Bool} {fr:List Nat} {d:Nat} {dst:Option Nat} {now:Bool} {az:List Arg} {st:St} {α:Type} [aG α]
theorem MZ {p:sX} {svs:List SV} {m:Option δ} {v:δ->SV} (hs:a_ S.N st.g az=some svs) (hi:isSlice p=false) (h:iM S.N st.m p svs=m.bind λx=>some (v x)) :
 dX S c dr fr ⟨dst,none,now,.p p,az,[],[]⟩ st=m.bind λx=>some (b8 st dst (v x)):=by
 rw[ME _ _ _ _ _ _ _ hi,hs];simp only[ζb,h];cases m <;> rfl
theorem DI {p:sX} {svs:List SV} {v:SV} (hs:a_ S.N st.g az=some svs) (hi:isSlice p=false) (h:iM S.N st.m p svs=some v) :
 dX S c dr fr ⟨dst,none,now,.p p,az,[],[]⟩ st=some (b8 st dst v):=by
 rw[ME _ _ _ _ _ _ _ hi,hs];simp only[ζb,h]
theorem Nb {n:Nat} {s:Sl α} {k:IntKind} {i:Int} (hs:a_ S.N st.g az=some [.v (bn s),.v (.int k i)]) (hn:n=aG.size α) :
 dX S c dr fr ⟨dst,none,now,.p (.idxS n),az,[],[]⟩ st=(idx s i).bind λx=>some (b8 st dst (.v (.fptr (cells x)))):=
 MZ hs rfl (by rw[vu,Bh s k i n hn];cases idx s i <;> rfl)
theorem Xn {n e:Nat} {s:Sl α} {k:IntKind} {i:Int} (hs:a_ S.N st.g az=some [.own e,.v (.int k i)]) (ho:an st.m e=some (bX s)) (hn:n=aG.size α) :
 dX S c dr fr ⟨dst,none,now,.p (.idxS n),az,[],[]⟩ st=(s.mj i).bind λj=>some (b8 st dst (.el e j 0)):=
 MZ hs rfl (by rw[Qh,ho,Q2 n e s i hn])
theorem M0 {s:Sl α} (hs:a_ S.N st.g az=some [.v (bn s)]):dX S c dr fr ⟨dst,none,now,.p .lenSl,az,[],[]⟩ st=some (b8 st dst (.v (.int .i64 s.l.length))):=
 DI hs rfl (by rw[DU,vv];rfl)
theorem RL {e:Nat} {s:Sl α} (hs:a_ S.N st.g az=some [.own e]) (ho:an st.m e=some (bX s)):dX S c dr fr ⟨dst,none,now,.p .lenSl,az,[],[]⟩ st=some (b8 st dst (.v (.int .i64 s.l.length))):=
 DI hs rfl (by rw[Ls,ho,Py])
theorem O8 {u:Option Nat} {s:Sl α} (hs:a_ S.N st.g az=some [.v (bn s),.v .aF]):dX S c dr fr ⟨dst,none,now,.p (.bin (some .slice) u .eql),az,[],[]⟩ st=s.isNil.bind λt=>some (b8 st dst (.v (.bool t))):=
 MZ hs rfl (by rw[vu,Lk];cases s.isNil <;> rfl)
theorem LG {s:ByteArray} {k:IntKind} {n:Int} (hs:a_ S.N st.g az=some [.v (.str s),.v (.int k n)]):dX S c dr fr ⟨dst,none,now,.p .idxStr,az,[],[]⟩ st=(iq s n).bind λx=>some (b8 st dst (.v (.int .u8 x))):=
 MZ hs rfl (by rw[vu,Jr];cases iq s n <;> rfl)
theorem UJ {n e i o:Nat} {a:Bool} {s:Sl α} {v:α->V} (hs:a_ S.N st.g az=some [.el e i o]) (hd:(!dr||now||dW fr [.el e i o])=true) (ho:an st.m e=some (bX s)) (hv:∀x:α,(cut (cells x) o n).bind (mk a)=some (v x)) :
 dX S c dr fr ⟨dst,none,now,.r (.load n a),az,[],[]⟩ st=(s.get i).bind λx=>some (b8 st dst (.v (v x))):=by
 rw[Cz,hs];simp only[ζb,hd,if_true,Xy,ho,Jw]
 cases s.get i with
 | none=>rfl
 | some x=>
  simp only[ζb];have:=hv x
  cases hc:cut (cells x) o n with
  | none=>rw[hc]at this;cases this
  | some r=>rw[hc]at this;simp only[ζb]at this ⊢;rw[this];rfl
theorem P9 {n e i:Nat} {s:Sl α} {x:V} {a:α} (hs:a_ S.N st.g az=some [.el e i 0,.v x]) (hd:(!dr||now)=true) (ho:an st.m e=some (bX s)) (hx:x.cells=cells a) (hn:n=aG.size α) :
 dX S c dr fr ⟨dst,none,now,.l (.store n),az,[],[]⟩ st=(s.put i a).bind λs'=>some (b8 { st with m:=aT st.m e (bX s') } dst (.v .undef)):=by
 rw[ug,hs];simp only[ζb,hd,if_true,G4,ho];rw[G5 st.g st.pin st.want st.more st.yid e i n x a hx hn s];cases s.put i a <;> rfl
theorem Sd {n:Nat} {z:α} {zero:List V} {i:Int} (hs:a_ S.N st.g az=some [.v (.int .i64 i),.v (.int .i64 i)]) (hz:zero=cells z) (hn:n=aG.size α) (hw:st.new d=true) :
 dX S c dr fr ⟨some d,none,now,.a (.makeSl n zero),az,[],[]⟩ st=(tj i z).bind λs=>some { st with g:=aT st.g d (.own d),m:=aT st.m d (bX s) }:=by
 rw[Ap,hs];simp only[ζb,hw,if_true];rw[WX z i d n zero hz hn];cases tj i z <;> rfl
theorem XQ {n e u:Nat} {s:Sl α} {x:α} (hs:a_ S.N st.g az=some [.own e,.own u]) (hd:(!dr||now)=true) (ho:an st.m e=some (bX s)) (hu:an st.m u=some (bX (.row [x]))) (hn:n=aG.size α) (hw:St.new { st with m:=cQ e st.m } d=true) :
 dX S c dr fr ⟨some d,none,now,.l (.append n),az,[],[]⟩ st=(jC s x).bind λs'=>some { st with g:=aT st.g d (.own d),m:=aT (cQ e st.m) d (bX s') }:=by
 rw[ug,hs];simp only[ζb,hd,if_true,wm,AW,ho,hu];rw[xO n s hn,xO n (.row [x]) hn];have:=JM (m:=st.m) st.g st.pin st.want st.more st.yid d n e s.l x hn;simp only[Sl.M1];rw[show ow st d n (.own e) (some (rows s.l)) (some (rows [x]))=_ from this];have ha:jC (.row s.l) x=jC s x:=by cases s <;> rfl
 rw[ha]
 cases jC s x with
 | none=>rfl
 | some s'=>
  simp only[ζb];rw[if_pos hw];rfl
theorem Vu {n u:Nat} {x:α} {v:V} (hv:v=.aF\/v=.cA) (hs:a_ S.N st.g az=some [.v v,.own u]) (hd:(!dr||now)=true) (hu:an st.m u=some (bX (.row [x]))) (hn:n=aG.size α) (hw:st.new d=true) :
 dX S c dr fr ⟨some d,none,now,.l (.append n),az,[],[]⟩ st=some { st with g:=aT st.g d (.own d),m:=aT st.m d (bX (.row [x])) }:=by
 rw[ug,hs];simp only[ζb,hd,if_true,wm,AW,hu];rw[xO n (.row [x]) hn];simp only[Sl.M1];rcases hv with rfl|rfl
 .rw[NM,show ow st d n (.v .aF) (some []) (some (rows [x]))=_ from Ja (m:=st.m) st.g st.pin st.want st.more st.yid d n x hn];rw[if_pos hw];rfl
 .rw[NZ,show ow st d n (.v .cA) (some []) (some (rows [x]))=_ from IG (m:=st.m) st.g st.pin st.want st.more st.yid d n x hn];rw[if_pos hw];rfl
theorem V3 {f:FuncId} {svs args:List SV} {cs:List V} {m:Option δ} {E:δ->List V} (hc:jT c f cs=m.bind λr=>some (E r)) (hk:S.E.keep f=false) (hs:a_ S.N st.g az=some svs) (hf:nq svs=some (f,args))
 (hsh:lQ (gF st.m 8) args=some cs) (hl:V.bT 8 cs=true) (ho:((!dr||now)||e9 st.m fr args)=true) (hr:∀r,(V.lvl 8 (result (E r))&&((result (E r)).scalar||(cU args).isSome))=true) :
 dX S c dr fr ⟨dst,none,now,.c,az,[],[]⟩ st=m.bind λr=>some (b8 st dst (.v (result (E r)))):=by
 rw[G8 dr fr dst now az st svs f args hs hf,OX _ _ _ _ _ _ _ hk,(yj st.m 8).2,hsh];simp only[ζb,hl,ho,Bool.and_self,if_true,hc]
 cases m with
 | none=>rfl
 | some r=>
  simp only[ζb,H_];rw[if_pos (hr r)];rfl
end
end
end Go.VE
namespace Go.VE
variable [aV]
section
variable {S:Sys} {c:bD} {β γ:Type} {Q:Out×St->Option β} {L:Option β} {e:γ->Option β}
theorem sN (rc:RC) (st:St):jS S c Q rc [] st=(bu S c rc st).bind Q:=by
 unfold jS;rw[Aj]
 congr 1
 funext q;obtain⟨o,st⟩:=q
 cases o <;> rfl
theorem xL (rc:RC) (st:St):bu S c rc st=jS S c some rc [] st:=by
 rw[sN];cases bu S c rc st <;> rfl
def oh (rs:List RV):Out×St->Option (List V)
 | (.exit _,_)=>none
 | (_,st)=>(nF st rs).bind (lQ (gF st.m 8))
theorem O1 (rs:List RV):DW rs=oh rs:=by
 funext q;obtain⟨o,st⟩:=q
 cases o
 .simp only[DW,oh];congr 1;funext l;exact(yj st.m 8).2 l
 .rfl
 .simp only[DW,oh];congr 1;funext l;exact(yj st.m 8).2 l
theorem NK {S:Sys} {T:pO} {f:FuncId} {rf:RF} (hT:T f=some rf) (az:List V) (hn:az.length<=rf.na):jT (cN S T) f az=jS S (cN S T) (oh rf.rs) rf.body [] (start (az.map .v) []):=by
 rw[L_ hT az hn,<-Dg,sN,O1]
end
end Go.VE
namespace Go.VE
variable [aV]
def kQ {α σ ε ρ:Type} (step:α->σ->Option (Fw σ ε ρ)):List α->σ->Option (Fw σ ε ρ)
 | [],s=>some (.n s)
 | x::xs,s=>(step x s).bind λw=>match w with
  | .n s'=>kQ step xs s'
  | .x e=>some (.x e)
  | .r b=>some (.r b)
def Fw.tV {ν ε ρ γ:Type} (fn:ν->γ) (fx:ε->γ) (fr:ρ->γ):Fw ν ε ρ->γ
 | .n a=>fn a
 | .x e=>fx e
 | .r b=>fr b
def Fw.sZ {ν ε ρ:Type} (eν:ν->Tb aQ) (eε:ε->Nat×Tb aQ) (eρ:ρ->Tb aQ):Fw ν ε ρ->Out×Tb aQ
 | .n a=>(.norm,eν a)
 | .x e=>(.exit (eε e).1,(eε e).2)
 | .r b=>(.ret,eρ b)
def sZ (q:Out×St):Option (Out×Tb aQ):=some (q.1,q.2.m)
section
variable {S:Sys} {c:bD} {β γ:Type} {Q:Out×St->Option β} {L:Option β} {e:γ->Option β}
noncomputable def vF (S:Sys) (c:bD) (b:RC):Out×St->Option (Out×Tb aQ)
 | (.norm,st)=>jS S c sZ b [] st
 | _=>none
theorem G6 (ps:List Nat) (a b:RC) (st:St) (x:List V) (m:Tb aQ) (hx:x.length=ps.length) :
 fS ps (bu S c a) (bu S c b) st x m=jS S c (vF S c b) a [] ⟨uc st.g ps (x.map .v),m,st.pin++mO st.g,[],true,0⟩:=by
 unfold fS;rw[if_pos hx,sN]
 cases bu S c a ⟨uc st.g ps (x.map .v),m,st.pin++mO st.g,[],true,0⟩with
 | none=>rfl
 | some q=>
  obtain⟨o,st1⟩:=q
  cases o with
  | norm=>
   simp only[ζb,vF];rw[sN];cases bu S c b st1 <;> rfl
  | _=>rfl
end
end Go.VE
namespace Go.VE
variable [aV]
def Le {α:Type} (a b:Option α):Prop:=∀r,a=some r->b=some r
section
variable {α:Type}
theorem Le.refl (a:Option α):Le a a:=λ_ h=>h
theorem Le.of_eq {a b:Option α} (h:b=a):Le a b:=λ_ h2=>h.trans h2
theorem Le.trans {a b d:Option α} (h1:Le a b) (h2:Le b d):Le a d:=λr h=>h2 r (h1 r h)
theorem Le.none (b:Option α):Le (none:Option α) b:=λr h=>by cases h
theorem Le.bind {β:Type} {a b:Option α} {f g:α->Option β} (h:Le a b) (hf:∀x,Le (f x) (g x)):Le (a.bind f) (b.bind g):=λr hr=>by
 obtain⟨x,h1,h2⟩:=ζg.1 hr;rw[h x h1];exact hf x r h2
end
section
variable {S:Sys} {c:bD} {β γ δ:Type} {Q:Out×St->Option β} {L:Option β} {e:γ->Option β}
theorem C5 {dr:Bool} {fr:List Nat} {dst:Option Nat} {now:Bool} {az:List Arg} {st:St} {f:FuncId} {svs args:List SV} {cs:List V} {m:Option δ} {E:δ->List V} (hc:Le (m.bind λr=>some (E r)) (jT c f cs)) (hk:S.E.keep f=false) (hs:a_ S.N st.g az=some svs) (hf:nq svs=some (f,args))
 (hsh:lQ (gF st.m 8) args=some cs) (hl:V.bT 8 cs=true) (ho:((!dr||now)||e9 st.m fr args)=true) (hr:∀r,(V.lvl 8 (result (E r))&&((result (E r)).scalar||(cU args).isSome))=true) :
 Le (m.bind λr=>some (b8 st dst (.v (result (E r))))) (dX S c dr fr ⟨dst,none,now,.c,az,[],[]⟩ st):=by
 intro q hq;obtain⟨r,h1,h2⟩:=ζg.1 hq;have hc':jT c f cs=(some r).bind λr=>some (E r):=hc _ (by rw[h1];rfl)
 rw[V3 (m:=some r) hc' hk hs hf hsh hl ho hr];exact h2
theorem Lx {σ ε ρ:Type} {f:St->Option (Out×St)} {step:σ->Option (Fw σ ε ρ)} {eσ:σ->St} {eε:ε->Nat×St} {eρ:ρ->St} (h:∀s,Le ((step s).bind λw=>some (Fw.out eσ eε eρ w)) (f (eσ s))) (s:σ) :
 Le ((aS step s).bind λw=>some (Fw.out (λe=>Empty.elim e) eε eρ w)) (kO f (eσ s)):=by
 have key:∀k s r,gz step k s=some r->gm f k (eσ s)=some (Fw.out (λe=>Empty.elim e) eε eρ r):=by
  intro k
  induction k with
  | zero=>intro s r h;simp[gz]at h
  | succ k ih=>
   intro s r hw;simp only[gz]at hw
   cases hs:step s with
   | none=>rw[hs]at hw;cases hw
   | some w=>
    rw[hs]at hw;have h2:=h s (Fw.out eσ eε eρ w) (by rw[hs];rfl)
    simp only[gm,h2]
    cases w with
    | n a=>exact ih a r hw
    | x e=>cases hw;rfl
    | r b=>cases hw;rfl
 intro r hr;obtain⟨w,h1,h2⟩:=ζg.1 hr;obtain⟨k,hk⟩:=kJ.1 h1;cases h2;exact jQ.2 ⟨k,key k s w hk⟩
theorem Xc {σ ε ρ:Type} {a:RC} {fs:List Fm} {step:σ->Option (Fw σ ε ρ)} {eσ:σ->St} {eε:ε->Nat×St} {eρ:ρ->St} {s:σ} {fx:ε->Option γ} {fr:ρ->Option γ}
 (hL:L=jS S c Q (.loop a) fs (eσ s)) (h:∀s,Le ((step s).bind λw=>some (Fw.out eσ eε eρ w)) (jS S c some a [] (eσ s)))
 (hx:∀x,Le ((fx x).bind e) (jW S c Q fs (eε x).1 (eε x).2)) (hr:∀b,Le ((fr b).bind e) (Q (.ret,eρ b))):Le (((aS step s).bind (Fw.elim fx fr)).bind e) L:=by
 subst hL;have h1:jS S c Q (.loop a) fs (eσ s)=(kO (bu S c a) (eσ s)).bind (A4 (jM S c Q fs) (jW S c Q fs) (λst=>Q (.ret,st))):=by
  unfold jS;rw[Aj];rfl
 rw[h1];have h2:=Lx (step:=step) (f:=bu S c a) (eσ:=eσ) (eε:=eε) (eρ:=eρ) (λs=>by rw[xL];exact h s) s
 cases hw:aS step s with
 | none=>exact Le.none _
 | some w=>
  have h3:=h2 _ (by rw[hw];rfl)
  rw[h3]
  cases w with
  | n a=>cases a
  | x a=>exact hx a
  | r a=>exact hr a
theorem DQ {α σ ε ρ:Type} {f:List V->Tb aQ->Option (Out×Tb aQ)} {step:α->σ->Option (Fw σ ε ρ)} {eI:α->List V} {eσ:σ->Tb aQ} {eε:ε->Nat×Tb aQ} {eρ:ρ->Tb aQ}
 (h:∀x s,Le ((step x s).bind λw=>some (Fw.sZ eσ eε eρ w)) (f (eI x) (eσ s))):∀(xs:List α) (s:σ),Le ((kQ step xs s).bind λw=>some (Fw.sZ eσ eε eρ w)) (lT f (xs.map eI) (eσ s))
 | [],s=>λr hr=>hr
 | x::xs,s=>by
  simp only[List.map_cons,lT,kQ]
  cases hs:step x s with
  | none=>exact Le.none _
  | some w=>
   have h2:=h x s (Fw.sZ eσ eε eρ w) (by rw[hs];rfl)
   rw[h2]
   cases w with
   | n s'=>simp only[ζb,Fw.sZ];exact DQ h xs s'
   | x e=>exact Le.refl _
   | r b=>exact Le.refl _
theorem Xa {α σ ε ρ:Type} {g:Arg} {ps:List Nat} {a b:RC} {fs:List Fm} {f:FuncId} {x y:List V} {items:List α} {eI:α->List V} {step:α->σ->Option (Fw σ ε ρ)} {eσ:σ->Tb aQ} {eε:ε->Nat×Tb aQ} {eρ:ρ->Tb aQ} {gt:Tb SV} {s:σ}
 {fn:σ->Option γ} {fx:ε->Option γ} {fr:ρ->Option γ}
 (hL:L=jS S c Q (.each g ps a b) fs ⟨gt,eσ s,[],[],true,0⟩) (hg:nE S.N gt g=some (.v (.clo f x y))) (hi:S.items f x y=some (items.map eI)) (hl:∀x,(eI x).length=ps.length)
 (h:∀x s,Le ((step x s).bind λw=>some (Fw.sZ eσ eε eρ w)) (jS S c (vF S c b) a [] ⟨uc gt ps ((eI x).map .v),eσ s,mO gt,[],true,0⟩))
 (hn:∀s,Le ((fn s).bind e) (jM S c Q fs ⟨gt,eσ s,[],[],true,0⟩))
 (hx:∀x,Le ((fx x).bind e) (jW S c Q fs (eε x).1 ⟨gt,(eε x).2,[],[],true,0⟩)) (hr:∀b,Le ((fr b).bind e) (Q (.ret,⟨gt,eρ b,[],[],true,0⟩))) :
 Le (((kQ step items s).bind (Fw.tV fn fx fr)).bind e) L:=by
 subst hL;have h1:jS S c Q (.each g ps a b) fs ⟨gt,eσ s,[],[],true,0⟩=(bu S c (.each g ps a b) ⟨gt,eσ s,[],[],true,0⟩).bind (A4 (jM S c Q fs) (jW S c Q fs) (λst=>Q (.ret,st))):=by
  unfold jS;rw[Aj]
 rw[h1];simp only[bu,hg,hi];have h2:=DQ (step:=step) (f:=fS ps (bu S c a) (bu S c b) ⟨gt,eσ s,[],[],true,0⟩) (eI:=eI) (eσ:=eσ) (eε:=eε) (eρ:=eρ) (λx s=>by rw[G6 _ _ _ _ _ _ (hl x)];exact h x s) items s
 cases hw:kQ step items s with
 | none=>exact Le.none _
 | some w=>
  have h3:=h2 _ (by rw[hw];rfl)
  rw[h3]
  cases w with
  | n a=>exact hn a
  | x a=>exact hx a
  | r a=>exact hr a
end
end Go.VE
namespace Go.VE
variable [aV]
inductive Fo where
 | rc (c:RC)
 | ops (dr:Bool) (fr:List Nat) (l:List RO)
 | nx
 | ex (k:Nat)
 | rt
abbrev aL (g:Tb SV) (m:Tb aQ):St:=⟨g,m,[],[],true,0⟩
section
variable (S:Sys) (c:bD) {β:Type} (Q:Out×St->Option β)
noncomputable def rn:Fo->List Fm->St->Option β
 | .rc a,fs,st=>jS S c Q a fs st
 | .ops dr fr l,fs,st=>sP S c dr fr l (jM S c Q fs) st
 | .nx,fs,st=>jM S c Q fs st
 | .ex k,fs,st=>jW S c Q fs k st
 | .rt,_,st=>Q (.ret,st)
noncomputable def vn:Fo->List Fm->St->Option (Fo×List Fm×St)
 | .rc .skip,fs,st=>some (.nx,fs,st)
 | .rc (.ops l),fs,st=>some (.ops false [] l,fs,st)
 | .rc (.lS l),fs,st=>some (.ops true [] l,fs,st)
 | .rc (.seq a b),fs,st=>some (.rc a,.seq b::fs,st)
 | .rc (.cond y a b),fs,st=>match nE S.N st.g y with
  | some (.v (.bool true))=>some (.rc a,fs,st)
  | some (.v (.bool false))=>some (.rc b,fs,st)
  | _=>none
 | .rc (.block id a),fs,st=>some (.rc a,.blk id::fs,st)
 | .rc (.exit k),fs,st=>some (.ex k,fs,st)
 | .rc .ret,fs,st=>some (.rt,fs,st)
 | .rc (.gh g a),fs,st=>match ghost g st with
  | some st'=>some (.rc a,fs,st')
  | none=>none
 | .rc (.hg a g),fs,st=>some (.rc a,.gst g::fs,st)
 | .rc (.loop _),_,_=>none
 | .rc (.each ..),_,_=>none
 | .ops _ _ [],fs,st=>some (.nx,fs,st)
 | .ops dr fr (⟨d,gd,now,k,az,dd,[]⟩::r),fs,st=>match dX S c dr fr ⟨d,gd,now,k,az,[],[]⟩ st with
  | some st'=>some (.ops dr (if dr then nQ fr ⟨d,gd,now,k,az,[],[]⟩else fr) r,fs,lW dd st')
  | none=>none
 | .ops false fr (⟨d,gd,now,k,az,dd,x::xs⟩::r),fs,st=>match ghost x st with
  | some st'=>some (.ops false fr (⟨d,gd,now,k,az,dd,xs⟩::r),fs,st')
  | none=>none
 | .ops true _ (⟨_,_,_,_,_,_,_::_⟩::_),_,_=>none
 | .nx,.seq b::fs,st=>some (.rc b,fs,st)
 | .nx,.blk _::fs,st=>some (.nx,fs,st)
 | .nx,.gst g::fs,st=>match ghost g st with
  | some st'=>some (.nx,fs,st')
  | none=>none
 | .nx,[],_=>none
 | .ex k,.seq _::fs,st=>some (.ex k,fs,st)
 | .ex k,.blk id::fs,st=>some (if k=id then .nx else .ex k,fs,st)
 | .ex k,.gst _::fs,st=>some (.ex k,fs,st)
 | .ex _,[],_=>none
 | .rt,_,_=>none
noncomputable def fG:Nat->Fo->List Fm->St->Option (Fo×List Fm×St)
 | 0,fo,fs,st=>some (fo,fs,st)
 | n+1,fo,fs,st=>match vn S c fo fs st with
  | some (fo',fs',st')=>fG n fo' fs' st'
  | none=>none
end
section
variable {S:Sys} {c:bD} {β γ δ:Type} {Q:Out×St->Option β} {e:γ->Option β}
theorem MA {fo fo':Fo} {fs fs':List Fm} {st st':St} (h:vn S c fo fs st=some (fo',fs',st')):rn S c Q fo fs st=rn S c Q fo' fs' st':=by
 cases fo with
 | rc a=>
  cases a with
  | cond y a b=>
   simp only[vn]at h;split at h
   .rename_i hs;cases h;simp only[rn,jS,kI,hs,au,if_true]
   .rename_i hs;cases h;simp only[rn,jS,kI,hs,au];rfl
   .cases h
  | gh g a=>
   simp only[vn]at h;split at h
   .rename_i hs;cases h;simp only[rn,jS,kI,hs,ζb]
   .cases h
  | loop a=>cases h
  | each g ps a b=>cases h
  | seq a b=>cases h;simp only[rn,jS,kI,jM,jW]
  | block id a=>cases h;simp only[rn,jS,kI,jM,jW]
  | hg a g=>cases h;simp only[rn,jS,kI,jM,jW]
  | _=>cases h;simp only[rn,jS,kI]
 | ops dr fr l=>
  cases l with
  | nil=>cases h;simp only[rn,sP]
  | cons o r=>
   obtain⟨d,gd,now,k,az,dd,pre⟩:=o
   cases pre with
   | nil=>
    simp only[vn]at h;split at h
    .rename_i hs;cases h;simp only[rn,sP,zh,RO.strip,ζb,hs]
    .cases h
   | cons x xs=>
    cases dr with
    | true=>cases h
    | false=>
     simp only[vn]at h;split at h
     .rename_i hs;cases h;simp only[rn,sP,RO.strip,y6,pL,Bool.false_eq_true,if_false,hs,ζb]
     .cases h
 | nx=>
  cases fs with
  | nil=>cases h
  | cons f fs=>
   cases f with
   | seq b=>cases h;simp only[rn,jS,jM]
   | blk id=>cases h;simp only[rn,jM]
   | gst g=>
    simp only[vn]at h;split at h
    .rename_i hs;cases h;simp only[rn,jM,hs,ζb]
    .cases h
 | ex k=>
  cases fs with
  | nil=>cases h
  | cons f fs=>
   cases f with
   | seq b=>cases h;simp only[rn,jW]
   | blk id=>
    cases h;simp only[rn,jW]
    by_cases hk:k=id
    .simp only[if_pos hk,rn]
    .simp only[if_neg hk,rn]
   | gst g=>cases h;simp only[rn,jW]
 | rt=>cases h
theorem lC:∀{n:Nat} {fo fo':Fo} {fs fs':List Fm} {st st':St},fG S c n fo fs st=some (fo',fs',st')->rn S c Q fo fs st=rn S c Q fo' fs' st'
 | 0,fo,fo',fs,fs',st,st',h=>by cases h;rfl
 | n+1,fo,fo',fs,fs',st,st',h=>by
  simp only[fG]at h;split at h
  .rename_i a b d hs;rw[MA hs];exact lC h
  .cases h
theorem AY {n:Nat} {fo fo':Fo} {fs fs':List Fm} {st st':St} {m:Option β} (h:fG S c n fo fs st=some (fo',fs',st')) (h2:Le m (rn S c Q fo' fs' st')):Le m (rn S c Q fo fs st):=by
 rw[lC h];exact h2
theorem Zy {n:Nat} {fo fo':Fo} {fs fs':List Fm} {st st':St} {r:γ} (h:fG S c n fo fs st=some (fo',fs',st')) (h2:rn S c Q fo' fs' st'=e r):Le ((some r).bind e) (rn S c Q fo fs st):=by
 rw[lC h];exact Le.of_eq h2
theorem M8 {m:Option δ} {f:δ->Option γ} {L:Option β} (k:δ->Option β) (h2:Le (m.bind k) L) (h1:∀r,Le ((f r).bind e) (k r)):Le ((m.bind f).bind e) L:=by
 intro r hr
 cases m with
 | none=>cases hr
 | some x=>exact h2 r (h1 x r hr)
theorem ZA {n:Nat} {fo:Fo} {fs fs':List Fm} {st0:St} {dr:Bool} {q l:List RO} {fr:List Nat} {st:St} {d:Option Nat} {gd:Option (Nat×Bool)} {now:Bool} {k:K} {az:List Arg} {dd:List Nat} {m:Option δ} {g:δ->St} {f:δ->Option γ}
 (hL:fG S c n fo fs st0=some (.ops dr fr q,fs',st)) (hq:q=⟨d,gd,now,k,az,dd,[]⟩::l) (hg:wanted st.g gd=some true)
 (hs:Le (m.bind λx=>some (g x)) (dX S c dr fr ⟨d,none,now,k,az,[],[]⟩ st))
 (h:∀x,m=some x->Le ((f x).bind e) (rn S c Q (.ops dr (if dr then nQ fr ⟨d,gd,now,k,az,[],[]⟩else fr) l) fs' (lW dd (g x)))):Le ((m.bind f).bind e) (rn S c Q fo fs st0):=by
 rw[lC hL];subst hq;simp only[rn,sP,RO.strip,zh,ζb];rw[JN hg]
 cases m with
 | none=>exact Le.none _
 | some x=>rw[hs (g x) rfl];exact h x rfl
theorem M7 {n:Nat} {fo:Fo} {fs fs':List Fm} {st0:St} {dr:Bool} {q l:List RO} {fr:List Nat} {st st':St} {d:Option Nat} {gd:Option (Nat×Bool)} {now:Bool} {k:K} {az:List Arg} {dd:List Nat} {m:Option β}
 (hL:fG S c n fo fs st0=some (.ops dr fr q,fs',st)) (hq:q=⟨d,gd,now,k,az,dd,[]⟩::l) (hg:wanted st.g gd=some true)
 (hs:dX S c dr fr ⟨d,none,now,k,az,[],[]⟩ st=some st')
 (h:Le m (rn S c Q (.ops dr (if dr then nQ fr ⟨d,gd,now,k,az,[],[]⟩else fr) l) fs' (lW dd st'))):Le m (rn S c Q fo fs st0):=by
 rw[lC hL];subst hq;simp only[rn,sP,RO.strip,zh,ζb];rw[JN hg,hs];exact h
theorem Is {n:Nat} {fo:Fo} {fs0:List Fm} {st:St} {σ ε ρ:Type} {a:RC} {fs:List Fm} {step:σ->Option (Fw σ ε ρ)} {eσ:σ->St} {eε:ε->Nat×St} {eρ:ρ->St} {s:σ} {fx:ε->Option γ} {fr:ρ->Option γ}
 (hL:fG S c n fo fs0 st=some (.rc (.loop a),fs,eσ s)) (h:∀s,Le ((step s).bind λw=>some (Fw.out eσ eε eρ w)) (rn S c some (.rc a) [] (eσ s)))
 (hx:∀x,Le ((fx x).bind e) (rn S c Q (.ex (eε x).1) fs (eε x).2)) (hr:∀b,Le ((fr b).bind e) (Q (.ret,eρ b))):Le (((aS step s).bind (Fw.elim fx fr)).bind e) (rn S c Q fo fs0 st):=by
 rw[lC hL];exact Xc (L:=rn S c Q (.rc (.loop a)) fs (eσ s)) rfl h hx hr
theorem VY {n:Nat} {fo:Fo} {fs0:List Fm} {st:St} {α σ ε ρ:Type} {g:Arg} {ps:List Nat} {a b:RC} {fs:List Fm} {f:FuncId} {x y:List V} {items:List α} {eI:α->List V} {step:α->σ->Option (Fw σ ε ρ)} {eσ:σ->Tb aQ} {eε:ε->Nat×Tb aQ} {eρ:ρ->Tb aQ} {gt:Tb SV} {s:σ}
 {fn:σ->Option γ} {fx:ε->Option γ} {fr:ρ->Option γ}
 (hL:fG S c n fo fs0 st=some (.rc (.each g ps a b),fs,aL gt (eσ s))) (hg:nE S.N gt g=some (.v (.clo f x y))) (hi:S.items f x y=some (items.map eI)) (hl:∀x,(eI x).length=ps.length)
 (h:∀x s,Le ((step x s).bind λw=>some (Fw.sZ eσ eε eρ w)) (rn S c (vF S c b) (.rc a) [] ⟨uc gt ps ((eI x).map .v),eσ s,mO gt,[],true,0⟩))
 (hn:∀s,Le ((fn s).bind e) (rn S c Q .nx fs (aL gt (eσ s))))
 (hx:∀x,Le ((fx x).bind e) (rn S c Q (.ex (eε x).1) fs (aL gt (eε x).2))) (hr:∀b,Le ((fr b).bind e) (Q (.ret,aL gt (eρ b)))) :
 Le (((kQ step items s).bind (Fw.tV fn fx fr)).bind e) (rn S c Q fo fs0 st):=by
 rw[lC hL];exact Xa (L:=rn S c Q (.rc (.each g ps a b)) fs (aL gt (eσ s))) rfl hg hi hl h hn hx hr
theorem VJ {b:RC} {st st':St} {m:Option (Out×Tb aQ)} {fs:List Fm} {n:Nat} {fo:Fo} (h:fG S c n fo fs st=some (.nx,[],st')) (h2:Le m (rn S c sZ (.rc b) [] st')):Le m (rn S c (vF S c b) fo fs st):=by
 rw[lC h];exact h2
theorem W0 {α:Type} {n:Nat} {fo fo':Fo} {fs fs':List Fm} {st:St} {A:Option α->St} {o:Option α} {f:α->Option γ} (h:fG S c n fo fs st=some (fo',fs',A o))
 (h2:∀x,o=some x->Le ((f x).bind e) (rn S c Q fo' fs' (A (some x)))):Le ((o.bind f).bind e) (rn S c Q fo fs st):=by
 rw[lC h]
 cases o with
 | none=>exact Le.none _
 | some x=>exact h2 x rfl
theorem Zx {T:pO} {f:FuncId} {rf:RF} {az:List V} {m:Option (List V)} (hT:T f=some rf) (hn:az.length<=rf.na) (h:Le m (rn S (cN S T) (oh rf.rs) (.rc rf.body) [] (start (az.map .v) []))):Le m (jT (cN S T) f az):=by
 rw[NK hT az hn];exact h
end
section
variable {α:Type} [aG α]
abbrev cv (x:α):SV:=.v (enc x)
abbrev cp (x:α):SV:=.v (.fptr (cells x))
abbrev bx (x:α):aQ:=.box ((cells x).map .v)
end
end Go.VE
namespace Go.VE
variable [aV]
structure kj (S:Sys) (c:bD) {α δ:Type} (fn:FuncId) (A:α->List V) (E:δ->List V) (p:α->Option δ) (sc:Bool):Prop where
 k:S.E.keep fn=false
 h:∀z,Le ((p z).bind λr=>some (E r)) (jT c fn (A z))
 l:∀z,V.bT 8 (A z)=true
 r:∀r,V.lvl 8 (result (E r))=true
 s:sc=true->∀r,(result (E r)).scalar=true
section
variable {S:Sys} {c:bD} {β γ δ α:Type} {Q:Out×St->Option β} {e:γ->Option β} {fo:Fo} {fs:List Fm} {st0:St} {l:List RO} {d:Option Nat} {gd:Option (Nat×Bool)} {now:Bool} {az:List Arg} {dd:List Nat}
noncomputable abbrev q_ (S:Sys) (c:bD) (Q:Out×St->Option β) (dr:Bool) (fr:List Nat) (d:Option Nat) (k:K) (l:List RO) (fs:List Fm) (dd:List Nat) (st:St):Option β:=
 rn S c Q (.ops dr (if dr then(match k with|.p _|.r _=>fr|_=>match d with|some d=>d::fr|none=>fr)else fr) l) fs (lW dd st)
theorem BH (fr:List Nat) (k:K):nQ fr ⟨d,gd,now,k,az,[],[]⟩=(match k with|.p _|.r _=>fr|_=>match d with|some d=>d::fr|none=>fr):=by
 cases k <;> cases d <;> rfl
theorem A3 {n:Nat} {dr:Bool} {fr:List Nat} {q:List RO} {fs':List Fm} {st:St} {k:K} {m:Option δ} {g:δ->St} {f:δ->Option γ}
 (hL:fG S c n fo fs st0=some (.ops dr fr q,fs',st)) (hq:q=⟨d,gd,now,k,az,dd,[]⟩::l) (hg:wanted st.g gd=some true)
 (hs:Le (m.bind λx=>some (g x)) (dX S c dr fr ⟨d,none,now,k,az,[],[]⟩ st))
 (h:∀x,m=some x->Le ((f x).bind e) (q_ S c Q dr fr d k l fs' dd (g x))):Le ((m.bind f).bind e) (rn S c Q fo fs st0):=
 ZA hL hq hg hs (λx hx=>by rw[BH];exact h x hx)
theorem pZ {n:Nat} {dr:Bool} {fr:List Nat} {q:List RO} {fs':List Fm} {st st':St} {k:K} {m:Option β}
 (hL:fG S c n fo fs st0=some (.ops dr fr q,fs',st)) (hq:q=⟨d,gd,now,k,az,dd,[]⟩::l) (hg:wanted st.g gd=some true)
 (hs:dX S c dr fr ⟨d,none,now,k,az,[],[]⟩ st=some st') (h:Le m (q_ S c Q dr fr d k l fs' dd st')):Le m (rn S c Q fo fs st0):=
 M7 hL hq hg hs (by rw[BH];exact h)
section
variable [aG α]
theorem Kb (n:Nat) (dr:Bool) (fr:List Nat) (q:List RO) (fs':List Fm) (st:St) (k:IntKind) {sz:Nat} {s:Sl α} {i:Int} {f:α->Option γ} (hq:q=⟨d,gd,now,.p (.idxS sz),az,dd,[]⟩::l)
 (hL:(fG S c n fo fs st0,wanted st.g gd,a_ S.N st.g az,sz)=(some (.ops dr fr q,fs',st),some true,some [.v (bn s),.v (.int k i)],aG.size α))
 (h:∀x,idx s i=some x->Le ((f x).bind e) (q_ S c Q dr fr d (.p (.idxS sz)) l fs' dd (b8 st d (cp x)))):Le (((idx s i).bind f).bind e) (rn S c Q fo fs st0):=by
 simp only[ζc]at hL;exact A3 hL.1 hq hL.2.1 (Le.of_eq (Nb hL.2.2.1 hL.2.2.2)) h
theorem TM (n:Nat) (dr:Bool) (fr:List Nat) (q:List RO) (fs':List Fm) (st:St) (s:Sl α) {m:Option β} (hq:q=⟨d,gd,now,.p .lenSl,az,dd,[]⟩::l)
 (hL:(fG S c n fo fs st0,wanted st.g gd,a_ S.N st.g az)=(some (.ops dr fr q,fs',st),some true,some [.v (bn s)]))
 (h:Le m (q_ S c Q dr fr d (.p .lenSl) l fs' dd (b8 st d (.v (.int .i64 s.l.length))))):Le m (rn S c Q fo fs st0):=by
 simp only[ζc]at hL;exact pZ hL.1 hq hL.2.1 (M0 hL.2.2) h
end
section
variable {q:List RO} {fs':List Fm}
end
theorem Dv (m:Tb aQ) (n:Nat) (l:List V):lQ (gF m n) (l.map .v)=some l:=by rw[<-(yj m n).2,tX]
variable {A:α->List V} {E:δ->List V} {p:α->Option δ} {fn:FuncId} {sc:Bool}
end
end Go.VE
namespace Go.VE
variable [aV]
abbrev iv (n:Int):SV:=.v (.int .i64 n)
abbrev bv (b:Bool):SV:=.v (.bool b)
abbrev len {α:Type} (s:Sl α):Int:=((List.length (Sl.l s):Nat):Int)
abbrev o1 (d:Nat) (a:Arg) (dd:List Nat):RO:=⟨some d,none,false,.p .id,[a],dd,[]⟩
abbrev o2 (d:Nat) (k:K) (az:List Arg) (dd:List Nat):RO:=⟨some d,none,false,k,az,dd,[]⟩
abbrev o3 (d s:Nat) (b:Bool) (k:K) (az:List Arg) (dd:List Nat):RO:=⟨some d,some (s,b),false,k,az,dd,[]⟩
def Fz (a b:aa):Bool:=[a.proc,a.index]==[b.proc,b.index]
mutual
theorem xu:∀{n:Nat} {x:V},V.lvl n x=true->V.lvl (n+1) x=true
 | 0,.fsl ..,h=>by simp[V.lvl]at h
 | 0,.fptr ..,h=>by simp[V.lvl]at h
 | 0,.fmap ..,h=>by simp[V.lvl]at h
 | 0,.agg ..,h=>by simp[V.lvl]at h
 | 0,.tup ..,h=>by simp[V.lvl]at h
 | 0,.clo ..,h=>by simp[V.lvl]at h
 | n+1,.fsl es xs,h=>by simp only[V.lvl]at h ⊢;exact zg h
 | n+1,.fptr cs,h=>by simp only[V.lvl]at h ⊢;exact oQ h
 | n+1,.fmap kvs,h=>by simp only[V.lvl]at h ⊢;exact Bd h
 | n+1,.agg cs,h=>by simp only[V.lvl]at h ⊢;exact oQ h
 | n+1,.tup cs,h=>by simp only[V.lvl]at h ⊢;exact oQ h
 | n+1,.clo f a b,h=>by simp only[V.lvl,ζh]at h ⊢;exact⟨oQ h.1,oQ h.2⟩
 | 0,.bool _,_|0,.int ..,_|0,.str _,_|0,.eX,_|0,.eH,_|0,.oK,_|0,.cA,_|0,.aF,_|0,.hsl ..,_|0,.hptr ..,_|0,.yld _,_|0,.hmap _,_=>rfl
 | _+1,.bool _,_|_+1,.int ..,_|_+1,.str _,_|_+1,.eX,_|_+1,.eH,_|_+1,.oK,_|_+1,.cA,_|_+1,.aF,_|_+1,.hsl ..,_|_+1,.hptr ..,_|_+1,.yld _,_|_+1,.hmap _,_=>rfl
theorem oQ:∀{n:Nat} {x:List V},V.bT n x=true->V.bT (n+1) x=true
 | n,[],_=>jE _
 | n,a::l,h=>by rw[hG,ζh]at h ⊢;exact⟨xu h.1,oQ h.2⟩
theorem zg:∀{n:Nat} {x:List (List V)},V.kq n x=true->V.kq (n+1) x=true
 | n,[],_=>by simp only[V.kq]
 | n,a::l,h=>by simp only[V.kq,ζh]at h ⊢;exact⟨oQ h.1,zg h.2⟩
theorem Bd:∀{n:Nat} {x:List (V×V)},V.pJ n x=true->V.pJ (n+1) x=true
 | n,[],_=>by simp only[V.pJ]
 | n,(k,v)::l,h=>by simp only[V.pJ,ζh]at h ⊢;exact⟨⟨xu h.1.1,xu h.1.2⟩,Bd h.2⟩
end
section
variable {α:Type} [aG α]
theorem rE (h:aG.agg α=false) (a:α):cells a=[enc a]:=by
 have hl:(cells a).length=1:=by rw[show (cells a).length=_ from aG.len a,aG.plain h]
 unfold enc;rw[if_neg (by simp[h])]
 match hc:cells a,hl with
 | [x],_=>rfl
theorem xJ (h:aG.agg α=true) (a:α):enc a=.agg (cells a):=by unfold enc;rw[if_pos h]
theorem NH {n:Nat} [Lv n α] (a:α):V.lvl (n+1) (enc a)=true:=by
 have h:=Lv.lv (n:=n) a
 cases ha:aG.agg α with
 | true=>rw[xJ ha];exact h
 | false=>
  rw[rE ha,hG,ζh]at h;exact xu h.1
theorem UK {n:Nat} [Lv n α] (a:α):V.lvl (n+1) (.fptr (cells a))=true:=Lv.lv a
theorem jF (a:α):V.good (enc a)=true:=by
 have h:V.bF (cells a)=true:=aG.good a
 cases ha:aG.agg α with
 | true=>rw[xJ ha];exact h
 | false=>
  rw[rE ha]at h;simp only[V.bF,Bool.and_true]at h;exact h
theorem oq (s:Sl α):V.one (enc s)=true:=Bz s
theorem oC {n:Nat} [Lv n α] (s:Sl α):V.lvl (n+1) (enc s)=true:=B6 s
theorem KB (s:α) (h:aG.agg α=false):V.one (enc s)=true:=by
 have:=aG.one s;rw[show aG.cells s=cells s from rfl,rE h]at this;simpa using this
end
instance {α:Type} [aG α]:aG (Option α) where
 cells o:=[match o with|none=>.eX|some x=>.fptr (cells x)]
 agg:=false
 size:=1
 len _:=rfl
 good o:=by
  cases o with
  | none=>rfl
  | some x=>simp only[V.bF,V.good,Bool.and_true];exact aG.good x
 one o:=by cases o <;> rfl
 plain _:=rfl
instance {n:Nat} {α:Type} [aG α] [Lv n α]:Lv (n+1) (Option α):=⟨λo=>by
 cases o with
 | none=>rfl
 | some x=>
  show V.bT (n+1) [.fptr (cells x)]=true;rw[hG,jE,Bool.and_true];exact Lv.lv x⟩
structure U8 where
 v:Int
 deriving Inhabited,DecidableEq
instance:aG U8 where
 cells n:=[.int .u8 n.v]
 agg:=false
 size:=1
 len _:=rfl
 good _:=rfl
 one _:=rfl
 plain _:=rfl
instance {n:Nat}:Lv n U8:=⟨λ_=>by cases n <;> rfl⟩
structure Yu where
 v:Int
 deriving Inhabited,DecidableEq
instance:aG Yu where
 cells n:=[.int .u64 n.v]
 agg:=false
 size:=1
 len _:=rfl
 good _:=rfl
 one _:=rfl
 plain _:=rfl
instance {n:Nat}:Lv n Yu:=⟨λ_=>by cases n <;> rfl⟩
structure YY where
 v:Int
 deriving Inhabited,DecidableEq
instance:aG YY where
 cells n:=[.int .u32 n.v]
 agg:=false
 size:=1
 len _:=rfl
 good _:=rfl
 one _:=rfl
 plain _:=rfl
instance {n:Nat}:Lv n YY:=⟨λ_=>by cases n <;> rfl⟩
structure Ze where
 v:Int
 deriving Inhabited,DecidableEq
instance:aG Ze where
 cells n:=[.int .i32 n.v]
 agg:=false
 size:=1
 len _:=rfl
 good _:=rfl
 one _:=rfl
 plain _:=rfl
instance {n:Nat}:Lv n Ze:=⟨λ_=>by cases n <;> rfl⟩
structure jo (S:Sys) (c:bD) {α δ:Type} (g:FuncId) (e:List V) (A:α->List V) (R:δ->List V) (p:α->Option δ):Prop where
 f:kj S c g (λz=>A z++e) R p true
 d:V.bT 7 e=true
theorem jo.of {S:Sys} {c:bD} {α α' δ:Type} {fn:FuncId} {e:List V} {A:α->List V} {A':α'->List V} {E:δ->List V} {P:α->Option δ} {p:α'->Option δ} (F:kj S c fn A E P true) (ι:α'->α)
 (hA:∀z,A (ι z)=A' z++e) (hp:∀z,P (ι z)=p z) (hd:V.bT 7 e=true):jo S c fn e A' E p where
 f:={ k:=F.k,h:=λz=>by rw[<-hp,<-hA];exact F.h (ι z),l:=λz=>by rw[<-hA];exact F.l (ι z),r:=F.r,s:=F.s }
 d:=hd
section
variable {S:Sys} {c:bD} {β γ δ α:Type} {Q:Out×St->Option β} {e:γ->Option β} {fo:Fo} {fs:List Fm} {st0:St} {l:List RO} {d:Option Nat} {gd:Option (Nat×Bool)} {now:Bool} {az:List Arg} {dd:List Nat}
theorem oW {α:Type} [aG α] (a:α):V.cells (enc a)=cells a:=by
 cases ha:aG.agg α with
 | true=>rw[xJ ha];rfl
 | false=>
  have h1:V.one (enc a)=true:=KB a ha;rw[rE ha];cases h:enc a <;> first|rfl|(rw[h]at h1;cases h1)
theorem oI {α:Type} [aG α] (a:α):(cells a).all V.one=true:=aG.one a
theorem eB {α:Type} [aG α] (a:α):(cells a).length=aG.size α:=aG.len a
theorem Ast [aG α] (n:Nat) (dr:Bool) (fr:List Nat) (q:List RO) (fs':List Fm) (st:St) (u o:Nat) (x:α) (cs cs':List SV) {sz:Nat} {m:Option β} (hq:q=⟨d,gd,now,.l (.store sz),az,dd,[]⟩::l)
 (hL:(fG S c n fo fs st0,wanted st.g gd,a_ S.N st.g az,an st.m u,(!dr||now),sz,Nat.ble (o+sz) cs.length,cs.take o++(cells x).map .v++cs.drop (o+sz))=(some (.ops dr fr q,fs',st),some true,some [.ptr u o,cv x],some (.box cs),true,aG.size α,true,cs'))
 (h:Le m (q_ S c Q dr fr d (.l (.store sz)) l fs' dd (b8 { st with m:=aT st.m u (.box cs') } d (.v .undef)))):Le m (rn S c Q fo fs st0):=by
 simp only[ζc]at hL;obtain⟨h1,h2,h3,h4,h5,h6,h7,h8⟩:=hL;refine pZ h1 hq h2 ?_ h;rw[ug,h3];subst h6;have h9:=Nat.le_of_ble_eq_true h7;simp only[ζb,h5,if_true,lX,h4,putCells,oW,eB,oI,h9,and_self,h8,Option.map_some]
theorem wR {α:Type} [aG α]:∀(xs:List α) (pre:List (List V)) (suf:List (List V)),suf.length=xs.length->eW (aG.size α) (pre++suf) ((List.range' pre.length xs.length).zip (xs.map enc))=some (pre++rows xs)
 | [],pre,suf,h=>by
  have:suf=[]:=List.eq_nil_of_length_eq_zero h;subst this;rfl
 | x::xs,pre,s::suf,h=>by
  simp only[List.length_cons,List.range'_succ,List.map_cons,List.zip_cons_cons,eW,oW,eB,oI];rw[if_pos ⟨trivial,by simp,trivial⟩]
  have:=wR xs (pre++[cells x]) suf (by simpa using h)
  simp only[ζi,List.length_cons,List.length_nil,Nat.zero_add]at this;have e:(pre++s::suf).set pre.length (cells x)=pre++[cells x]++suf:=by simp
  rw[e,this];simp[rows]
theorem Z5 [aG α] (n:Nat) (dr:Bool) (fr:List Nat) (q:List RO) (fs':List Fm) (st:St) (xs:List α) {u sz ln:Nat} {zero:List V} {ix:List Nat} {m:Option β} (hq:q=⟨some u,gd,now,.a (.buildSl sz ln zero ix),az,dd,[]⟩::l)
 (h4:st.new u=true) (hL:(fG S c n fo fs st0,wanted st.g gd,a_ S.N st.g az,sz,ln,ix)=(some (.ops dr fr q,fs',st),some true,some ((xs.map enc).map .v),aG.size α,xs.length,List.range' 0 xs.length))
 (h:Le m (q_ S c Q dr fr (some u) (.a (.buildSl sz ln zero ix)) l fs' dd { st with g:=aT st.g u (.own u),m:=aT st.m u (bX (.row xs)) })):Le m (rn S c Q fo fs st0):=by
 simp only[ζc]at hL;obtain⟨h1,h2,h3,h5,h6,h7⟩:=hL;subst h5 h6 h7;refine pZ h1 hq h2 ?_ h;rw[Ap,h3];simp only[ζb,h4,if_true,mH,tE,List.length_range',List.length_map,if_true];have:=wR xs [] (List.replicate xs.length zero) (by simp)
 simp only[List.nil_append,List.length_nil]at this;rw[this];rfl
section
variable [aG α]
theorem ZI (n:Nat) (dr:Bool) (fr:List Nat) (q:List RO) (fs':List Fm) (st:St) (lo hi:Bool) (bs:List V) {sz:Nat} {s:Sl α} {a b:Option Int} {f:Sl α->Option γ} (hq:q=⟨d,gd,now,.p (.slice sz lo hi),az,dd,[]⟩::l)
 (hL:(fG S c n fo fs st0,wanted st.g gd,a_ S.N st.g az,jy lo hi bs,sz)=(some (.ops dr fr q,fs',st),some true,some (.v (bn s)::bs.map .v),some (a,b),aG.size α))
 (h:∀x,fP s a b=some x->Le ((f x).bind e) (q_ S c Q dr fr d (.p (.slice sz lo hi)) l fs' dd (b8 st d (.v (bn x))))):Le (((fP s a b).bind f).bind e) (rn S c Q fo fs st0):=by
 simp only[ζc]at hL;refine A3 hL.1 hq hL.2.1 (Le.of_eq ?_) h;have hy:a_ S.N st.g az=some ((bn s::bs).map .v):=hL.2.2.1;unfold dX l8;simp only[wanted,ez,hy];have hp:iM S.N st.m (.slice sz lo hi) ((bn s::bs).map .v)=(fP s a b).bind λx=>some (.v (bn x)):=by
  unfold iM;rw[tE];simp only[ay,hL.2.2.2.1,ζb,FO s a b sz hL.2.2.2.2];cases fP s a b <;> rfl
 simp only[List.map_cons]at hp ⊢;rw[hp];cases fP s a b <;> rfl
def lq (s:Sl α) (lo hi:Option Int):Option (Sl α):=
 match s with
 | .nil|.emp=>none
 | .row x|.part x=>(cC x.length lo hi).map λ(l,h)=>.part ((x.take h).drop l)
theorem Xs (n:Nat) (fr:List Nat) (q:List RO) (fs':List Fm) (st:St) (lo hi:Bool) (u:Nat) (bs:List V) {t sz:Nat} {s:Sl α} {a b:Option Int} {f:Sl α->Option γ} (hq:q=⟨some t,gd,now,.p (.slice sz lo hi),az,dd,[]⟩::l)
 (h7:St.new { st with m:=cQ u st.m } t=true) (hL:(fG S c n fo fs st0,wanted st.g gd,a_ S.N st.g az,jy lo hi bs,an st.m u,sz)=(some (.ops false fr q,fs',st),some true,some (.own u::bs.map .v),some (a,b),some (bX s),aG.size α))
 (h:∀x,lq s a b=some x->Le ((f x).bind e) (q_ S c Q false fr (some t) (.p (.slice sz lo hi)) l fs' dd { st with g:=aT st.g t (.own t),m:=aT (cQ u st.m) t (bX x) })):Le (((lq s a b).bind f).bind e) (rn S c Q fo fs st0):=by
 simp only[ζc]at hL;refine A3 hL.1 hq hL.2.1 (Le.of_eq ?_) h;obtain⟨_,_,h3,h4,h5,h6⟩:=hL;subst h6;unfold dX l8;simp only[wanted,ez,h3,Bool.false_eq_true,if_false,wM,tE,h5,h4,ζb];have hn:(an st.m u).isSome:=by rw[h5];rfl
 cases s with
 | nil=>simp[lq,bX,Sl.k,bz]
 | emp=>simp[lq,bX,Sl.k,bz]
 | row x=>
  simp only[bX,Sl.k,Sl.l,bz,lq,gI,and_self,if_true,h4,ζb]
  cases cC x.length a b with
  | none=>rfl
  | some r=>simp[h7,b8,rows,List.map_take,List.map_drop]
 | part x=>
  simp only[bX,Sl.k,Sl.l,bz,lq,gI,and_self,if_true,h4,ζb]
  cases cC x.length a b with
  | none=>rfl
  | some r=>simp[h7,b8,rows,List.map_take,List.map_drop]
end
end
end Go.VE
namespace Go.VE
variable [aV]
structure bh (n:Nat) (α:Type) where
 l:List α
 len:l.length=n
theorem La {α:Type} [aG α] (l:List α):(l.map (cells (α:=α))).flatten.length=l.length*aG.size α:=by
 induction l with
 | nil=>simp
 | cons a l ih=>simp only[List.map_cons,List.flatten_cons,ζi,ih,eB,List.length_cons,Nat.add_mul,Nat.one_mul,Nat.add_comm]
theorem Il {α:Type} [aG α] (l:List α):V.bF (l.map (cells (α:=α))).flatten=true:=by
 induction l with
 | nil=>rfl
 | cons a l ih=>
  simp only[List.map_cons,List.flatten_cons];have h:∀(x y:List V),V.bF x=true->V.bF y=true->V.bF (x++y)=true:=by
   intro x
   induction x with
   | nil=>intro y _ h;exact h
   | cons b x ih2=>intro y h1 h2;simp only[V.bF,ζh,List.cons_append]at h1 ⊢;exact⟨h1.1,ih2 y h1.2 h2⟩
  exact h _ _ (aG.good a) ih
theorem Dj {n:Nat}:∀{x y:List V},V.bT n x=true->V.bT n y=true->V.bT n (x++y)=true
 | [],_,_,h=>h
 | a::x,y,h1,h2=>by
  simp only[hG,ζh,List.cons_append]at h1 ⊢;exact⟨h1.1,Dj h1.2 h2⟩
theorem KK {n:Nat} {α:Type} [aG α] [Lv n α] (l:List α):V.bT n (l.map (cells (α:=α))).flatten=true:=by
 induction l with
 | nil=>exact jE n
 | cons a l ih=>simp only[List.map_cons,List.flatten_cons];exact Dj (Lv.lv a) ih
instance {n:Nat} {α:Type} [aG α]:aG (bh n α) where
 cells a:=(a.l.map cells).flatten
 agg:=true
 size:=n*aG.size α
 len a:=by rw[La,a.len]
 good a:=Il a.l
 one a:=by
  have:∀l:List α,(l.map (cells (α:=α))).flatten.all V.one=true:=by
   intro l
   induction l with
   | nil=>rfl
   | cons a l ih=>simp only[List.map_cons,List.flatten_cons,List.all_append,ih,oI,Bool.and_self]
  exact this a.l
 plain h:=by cases h
instance {k n:Nat} {α:Type} [aG α] [Lv k α]:Lv k (bh n α):=⟨λa=>KK a.l⟩
def bh.IS (n:Nat) {α:Type} (z:α):bh n α:=⟨List.replicate n z,by simp⟩
def bh.at {n:Nat} {α:Type} (a:bh n α) (i:Int):Option α:=if 0<=i then a.l[i.toNat]? else none
def bh.set {n:Nat} {α:Type} (a:bh n α) (i:Int) (x:α):bh n α:=⟨a.l.set i.toNat x,by simp[a.len]⟩
def pa {n:Nat} {α:Type} [aG α] (a:bh n α) (i:Int):List V:=(cells a).drop (i.toNat*aG.size α)
theorem bh.ue {n:Nat} {α:Type} {a:bh n α} {i:Int} {x:α} (h:a.at i=some x):0<=i/\i.toNat<n/\a.l[i.toNat]? = some x:=by
 unfold bh.at at h;split at h
 .rename_i hi;refine⟨hi,?_,h⟩;have:=(ζe.1 h).1;rw[<-a.len];exact this
 .cases h
theorem BL {α:Type} [aG α]:∀(l:List α) (k:Nat),((l.map (cells (α:=α))).flatten).drop (k*aG.size α)=((l.drop k).map (cells (α:=α))).flatten
 | [],k=>by simp
 | a::l,0=>by simp
 | a::l,k+1=>by
  have h:(cells a).length=aG.size α:=eB a;rw[List.map_cons,List.flatten_cons,List.drop_succ_cons,<-BL l k,Nat.add_mul,Nat.one_mul,Nat.add_comm,<-h,List.drop_length_add_append]
theorem xT {n:Nat} {α:Type} [aG α] {a:bh n α} {i:Int} {x:α} (h:a.at i=some x):∃r,pa a i=cells x++r:=by
 obtain⟨h1,h2,h3⟩:=bh.ue h;obtain⟨hlt,hx⟩:=ζe.1 h3;refine⟨((a.l.drop (i.toNat+1)).map cells).flatten,?_⟩;show ((a.l.map (cells (α:=α))).flatten).drop (i.toNat*aG.size α)=_;rw[BL,List.drop_eq_getElem_cons hlt,List.map_cons,List.flatten_cons,hx]
section
variable {S:Sys} {c:bD} {β γ δ α:Type} {Q:Out×St->Option β} {e:γ->Option β} {fo:Fo} {fs:List Fm} {st0:St} {l:List RO} {d:Option Nat} {gd:Option (Nat×Bool)} {now:Bool} {az:List Arg} {dd:List Nat}
section
variable {N:Nat} [aG α]
theorem XL (n:Nat) (dr:Bool) (fr:List Nat) (q:List RO) (fs':List Fm) (st:St) (k:IntKind) {ln sz:Nat} {a:bh N α} {i:Int} {f:α->Option γ} (hq:q=⟨d,gd,now,.p (.idxA ln sz),az,dd,[]⟩::l)
 (hL:(fG S c n fo fs st0,wanted st.g gd,a_ S.N st.g az,sz,ln)=(some (.ops dr fr q,fs',st),some true,some [cp a,.v (.int k i)],aG.size α,N))
 (h:∀x,a.at i=some x->Le ((f x).bind e) (q_ S c Q dr fr d (.p (.idxA ln sz)) l fs' dd (b8 st d (.v (.fptr (pa a i)))))):Le (((a.at i).bind f).bind e) (rn S c Q fo fs st0):=by
 simp only[ζc]at hL;obtain⟨h1,h2,h3,h4,h5⟩:=hL;subst h4 h5;refine A3 h1 hq h2 (?_:Le ((a.at i).bind λ_=>some (b8 st d (.v (.fptr (pa a i))))) _) h
 intro r hr;obtain⟨x,hx,hr⟩:=ζg.1 hr;obtain⟨g1,g2,_⟩:=bh.ue hx;rw[DI (v:=.v (.fptr (pa a i))) h3 rfl ?_]
 .exact hr
 rw[vu];simp only[ay,uf];have hlen:i.toNat*aG.size α<=(cells a).length:=by
  rw[eB];exact Nat.mul_le_mul_right _ (Nat.le_of_lt g2)
 rw[if_pos ⟨g1,by omega⟩,if_pos hlen]
 rfl
theorem ZJ (n:Nat) (dr:Bool) (fr:List Nat) (q:List RO) (fs':List Fm) (st:St) (a:bh N α) (i:Int) (o:Nat) (x:α) (hx:a.at i=some x) {k:Nat} {m:Option β} (hq:q=⟨d,gd,now,.p (.fieldAddr k),az,dd,[]⟩::l)
 (hL:(fG S c n fo fs st0,wanted st.g gd,a_ S.N st.g az,Nat.ble (o+k) (aG.size α))=(some (.ops dr fr q,fs',st),some true,some [.v (.fptr ((pa a i).drop o))],true))
 (h:Le m (q_ S c Q dr fr d (.p (.fieldAddr k)) l fs' dd (b8 st d (.v (.fptr ((pa a i).drop (o+k))))))):Le m (rn S c Q fo fs st0):=by
 simp only[ζc]at hL;obtain⟨h1,h2,h3,h4⟩:=hL;refine pZ h1 hq h2 (DI h3 rfl ?_) h;have h9:=Nat.le_of_ble_eq_true h4;obtain⟨r,hr⟩:=xT hx;have hl:(pa a i).length>=aG.size α:=by rw[hr,ζi,eB];omega
 rw[DU,Dw,if_pos (by rw[List.length_drop];omega),List.drop_drop]
 rfl
theorem XJ (n:Nat) (dr:Bool) (fr:List Nat) (q:List RO) (fs':List Fm) (st:St) (a:bh N α) (i:Int) (o:Nat) (x:α) (hx:a.at i=some x) {sz:Nat} {ag:Bool} {v:V} (hv:(cut (cells x) o sz).bind (mk ag)=some v) (v':V) {m:Option β} (hq:q=⟨d,gd,now,.r (.load sz ag),az,dd,[]⟩::l)
 (hL:(fG S c n fo fs st0,wanted st.g gd,a_ S.N st.g az,v)=(some (.ops dr fr q,fs',st),some true,some [.v (.fptr ((pa a i).drop o))],v'))
 (h:Le m (q_ S c Q dr fr d (.r (.load sz ag)) l fs' dd (b8 st d (.v v')))):Le m (rn S c Q fo fs st0):=by
 simp only[ζc]at hL;obtain⟨h1,h2,h3,rfl⟩:=hL;refine pZ h1 hq h2 ?_ h;rw[Cz,h3];have hold:dW fr [SV.v (.fptr ((pa a i).drop o))]=true:=rfl;simp only[ζb,hold,Bool.or_true,if_true,I4];obtain⟨r,hr⟩:=xT hx;rw[hr];have hc:cut ((cells x++r).drop o) 0 sz=cut (cells x) o sz:=by
  cases hcc:cut (cells x) o sz with
  | none=>rw[hcc]at hv;cases hv
  | some w=>
   unfold cut at hcc ⊢;dsimp only at hcc ⊢;split at hcc
   .rename_i hl;cases hcc;have e1:(List.drop 0 (List.drop o (cells x++r))).take sz=((cells x).drop o).take sz:=by
     rw[List.drop_zero];have ho:sz=0\/o<=(cells x).length:=by
      simp only[List.length_take,List.length_drop]at hl;omega
     rcases ho with rfl|ho
     .simp
     .rw[List.drop_append_of_le_length ho,List.take_append_of_le_length];simp only[List.length_take,List.length_drop]at hl ⊢;omega
    rw[e1,if_pos hl]
   .cases hcc
 rw[hc]
 cases hcc:cut (cells x) o sz with
 | none=>rw[hcc]at hv;cases hv
 | some w=>rw[hcc]at hv;simp only[ζb]at hv ⊢;rw[hv];rfl
theorem SN (n:Nat) (dr:Bool) (fr:List Nat) (q:List RO) (fs':List Fm) (st:St) (cs:List SV) {u sz:Nat} {zero:List V} {m:Option β} (hq:q=⟨some u,gd,now,.a (.alloc sz zero),az,dd,[]⟩::l)
 (h4:st.new u=true) (hL:(fG S c n fo fs st0,wanted st.g gd,a_ S.N st.g az,zero.map SV.v)=(some (.ops dr fr q,fs',st),some true,some [],cs))
 (h:Le m (q_ S c Q dr fr (some u) (.a (.alloc sz zero)) l fs' dd { st with g:=aT st.g u (.ptr u 0),m:=aT st.m u (.box cs) })):Le m (rn S c Q fo fs st0):=by
 simp only[ζc]at hL;obtain⟨h1,h2,h3,h5⟩:=hL;subst h5;refine pZ h1 hq h2 ?_ h;rw[Ap,h3];simp only[ζb,h4,if_true,mH]
theorem qx (d:Nat) (l:List V):SV.cw d (l.map .v)=false:=by
 induction l with
 | nil=>rfl
 | cons a l ih=>simp only[List.map_cons,SV.cw,SV.bW,ih,Bool.or_self]
theorem qp {α:Type} [aG α] (d:Nat) (x:α):aQ.bW d (bx x)=false:=qx d (cells x)
theorem Xp (n:Nat) (dr:Bool) (fr:List Nat) (q:List RO) (fs':List Fm) (st:St) (k:IntKind) (u:Nat) {ln sz:Nat} {a:bh N α} {i:Int} {f:α->Option γ} (hq:q=⟨d,gd,now,.p (.idxA ln sz),az,dd,[]⟩::l)
 (hL:(fG S c n fo fs st0,wanted st.g gd,a_ S.N st.g az,sz,ln,an st.m u)=(some (.ops dr fr q,fs',st),some true,some [.ptr u 0,.v (.int k i)],aG.size α,N,some (bx a)))
 (h:∀x,a.at i=some x->Le ((f x).bind e) (q_ S c Q dr fr d (.p (.idxA ln sz)) l fs' dd (b8 st d (.ptr u (i.toNat*aG.size α+0))))):Le (((a.at i).bind f).bind e) (rn S c Q fo fs st0):=by
 simp only[ζc]at hL;obtain⟨h1,h2,h3,h4,h5,h6⟩:=hL;subst h4 h5;refine A3 h1 hq h2 (?_:Le ((a.at i).bind λ_=>some (b8 st d (.ptr u (i.toNat*aG.size α+0)))) _) h
 intro r hr;obtain⟨x,hx,hr⟩:=ζg.1 hr;obtain⟨g1,g2,_⟩:=bh.ue hx;rw[DI (v:=.ptr u (i.toNat*aG.size α+0)) h3 rfl ?_]
 .exact hr
 simp only[iM,cU,ya,h6];rw[if_pos ⟨g1,by omega,rfl⟩,Nat.zero_add,Nat.add_zero]
theorem Xe (n:Nat) (dr:Bool) (fr:List Nat) (q:List RO) (fs':List Fm) (st:St) (u:Nat) (a:bh N α) (i:Int) (o:Nat) (x:α) (hx:a.at i=some x) {sz:Nat} {ag:Bool} {v:V} (hv:(cut (cells x) o sz).bind (mk ag)=some v) (v':V) {m:Option β} (hq:q=⟨d,gd,now,.r (.load sz ag),az,dd,[]⟩::l)
 (hL:(fG S c n fo fs st0,wanted st.g gd,a_ S.N st.g az,v,an st.m u,(!dr||now||dW fr [.ptr u 0]))=(some (.ops dr fr q,fs',st),some true,some [.ptr u (i.toNat*aG.size α+o)],v',some (bx a),true))
 (h:Le m (q_ S c Q dr fr d (.r (.load sz ag)) l fs' dd (b8 st d (.v v')))):Le m (rn S c Q fo fs st0):=by
 simp only[ζc]at hL;obtain⟨h1,h2,h3,rfl,h5,h6⟩:=hL;refine pZ h1 hq h2 ?_ h;rw[Cz,h3];have hold:(!dr||now||dW fr [SV.ptr u (i.toNat*aG.size α+o)])=true:=h6;simp only[ζb,hold,if_true,ZE,h5,JJ];obtain⟨r,hr⟩:=xT hx;have e1:(((cells a).map SV.v).drop (i.toNat*aG.size α+o)).take sz=(((cells x).drop o).take sz).map SV.v:=by
  have hcc:((cells x).drop o).take sz=((cells x++r).drop o).take sz:=by
   cases hc:cut (cells x) o sz with
   | none=>rw[hc]at hv;cases hv
   | some w=>
    unfold cut at hc;dsimp only at hc;split at hc
    .rename_i hl;have ho:sz=0\/o<=(cells x).length:=by
      simp only[List.length_take,List.length_drop]at hl;omega
     rcases ho with rfl|ho
     .simp
     .rw[List.drop_append_of_le_length ho,List.take_append_of_le_length];simp only[List.length_take,List.length_drop]at hl ⊢;omega
    .cases hc
  rw[hcc,<-hr,pa,List.drop_drop,List.map_take,List.map_drop]
 rw[e1];unfold xW
 cases hc:cut (cells x) o sz with
 | none=>rw[hc]at hv;cases hv
 | some w=>
  rw[hc]at hv;unfold cut at hc;dsimp only at hc;split at hc
  .rename_i hl;cases hc;simp only[List.length_map,hl,if_true];simp only[ζb]at hv;unfold mk at hv
   cases ag with
   | true=>
    simp only[if_true]at hv ⊢;cases hv;rw[tE];rfl
   | false=>
    simp only[Bool.false_eq_true,if_false]at hv ⊢;split at hv
    .rename_i hw;cases hv;rw[hw];rfl
    .cases hv
  .cases hc
theorem Iw {N:Nat} (a:bh N α) (i:Int) (y:α) (h:i.toNat<N):cells (a.set i y)=(cells a).take (i.toNat*aG.size α)++cells y++(cells a).drop ((i.toNat+1)*aG.size α):=by
 have key:∀(l:List α) (k:Nat),k<l.length->((l.set k y).map (cells (α:=α))).flatten=(l.map (cells (α:=α))).flatten.take (k*aG.size α)++cells y++(l.map (cells (α:=α))).flatten.drop ((k+1)*aG.size α):=by
  intro l
  induction l with
  | nil=>intro k h;simp at h
  | cons b l ih=>
   intro k h;have hb:(cells b).length=aG.size α:=eB b
   cases k with
   | zero=>
    simp only[List.set_cons_zero,List.map_cons,List.flatten_cons,Nat.zero_mul,List.take_zero,List.nil_append,Nat.zero_add,Nat.one_mul];rw[<-hb,List.drop_left]
   | succ k=>
    simp only[List.set_cons_succ,List.map_cons,List.flatten_cons];rw[ih k (by simpa using h)]
    have e1:(k+1)*aG.size α=(cells b).length+k*aG.size α:=by rw[hb,Nat.add_mul,Nat.one_mul,Nat.add_comm]
    have e2:(k+1+1)*aG.size α=(cells b).length+(k+1)*aG.size α:=by rw[hb,Nat.add_mul (k+1),Nat.one_mul,Nat.add_comm]
    rw[e2,List.drop_length_add_append];rw[e1,List.take_length_add_append];simp[List.append_assoc]
 exact key a.l i.toNat (by rw[a.len];exact h)
theorem Xd (n:Nat) (dr:Bool) (fr:List Nat) (q:List RO) (fs':List Fm) (st:St) (u:Nat) (a:bh N α) (i:Int) (o:Nat) (x:α) (hx:a.at i=some x) (y:α) (v:V) {sz:Nat} (hy:cells y=(cells x).take o++v.cells++(cells x).drop (o+sz)) {m:Option β} (hq:q=⟨d,gd,now,.l (.store sz),az,dd,[]⟩::l)
 (hL:(fG S c n fo fs st0,wanted st.g gd,a_ S.N st.g az,an st.m u,(!dr||now),v.cells.length,v.cells.all V.one,Nat.ble (o+sz) (aG.size α))=(some (.ops dr fr q,fs',st),some true,some [.ptr u (i.toNat*aG.size α+o),.v v],some (bx a),true,sz,true,true))
 (h:Le m (q_ S c Q dr fr d (.l (.store sz)) l fs' dd (b8 { st with m:=aT st.m u (bx (a.set i y)) } d (.v .undef)))):Le m (rn S c Q fo fs st0):=by
 simp only[ζc]at hL;obtain⟨h1,h2,h3,h4,h5,h6,h7,h8⟩:=hL;refine pZ h1 hq h2 ?_ h;rw[ug,h3];have h9:=Nat.le_of_ble_eq_true h8;obtain⟨g1,g2,g3⟩:=bh.ue hx;have hb:i.toNat*aG.size α+o+sz<=((cells a).map SV.v).length:=by
  rw[List.length_map,eB];have:(i.toNat+1)*aG.size α<=N*aG.size α:=Nat.mul_le_mul_right _ g2;rw[Nat.add_mul,Nat.one_mul]at this;show _<=N*aG.size α;omega
 simp only[ζb,h5,if_true,lX,h4,putCells,h6,h7,hb,and_self,Option.map_some];obtain⟨r,hr⟩:=xT hx;have e:((cells a).map SV.v).take (i.toNat*aG.size α+o)++v.cells.map .v++((cells a).map SV.v).drop (i.toNat*aG.size α+o+sz)=(cells (a.set i y)).map SV.v:=by
  rw[Iw a i y g2,hy];have hd:(cells a).drop (i.toNat*aG.size α)=cells x++r:=hr;have hlx:(cells x).length=aG.size α:=eB x;have e1:(cells a).take (i.toNat*aG.size α+o)=(cells a).take (i.toNat*aG.size α)++(cells x).take o:=by
   rw[List.take_add,hd,List.take_append_of_le_length (by omega)]
  have e2:(cells a).drop (i.toNat*aG.size α+o+sz)=(cells x).drop (o+sz)++(cells a).drop ((i.toNat+1)*aG.size α):=by
   have e3:(cells a).drop ((i.toNat+1)*aG.size α)=r:=by
    rw[Nat.add_mul,Nat.one_mul,<-List.drop_drop,hd,<-hlx,List.drop_left]
   rw[e3,Nat.add_assoc,<-List.drop_drop,hd,List.drop_append_of_le_length (by omega)]
  rw[<-List.map_take,<-List.map_drop,e1,e2];simp[List.map_append,List.append_assoc]
 rw[e]
end
theorem Qo {α:Type} [aG α] {m:Tb aQ} {d:Nat} {x:α} {vs:List V} (h:an m d=some (bx x)):lQ (gF m 8) (.ptr d 0::vs.map .v)=some (.fptr (cells x)::vs):=by
 have h1:gF m 8 (.ptr d 0)=some (.fptr (cells x)):=by
  show (match an m d with
   | some (.box cs)=>match lQ (gF m 7) cs with
    | some xs=>if 0<=xs.length then some (V.fptr (xs.drop 0))else none
    | none=>none
   | _=>none)=_
  rw[h];simp only[Dv,Nat.zero_le,if_true,List.drop_zero]
 simp only[lQ,h1,Dv,ζb]
theorem Xh (n:Nat) {fo:Fo} {fs fs':List Fm} {st0 st:St} {rs:List RV} {e:γ->Option (List V)} {r:γ} (svs:List SV) {ys:List V} (h2:lQ (gF st.m 8) svs=some ys) (h:(fG S c n fo fs st0,nF st rs)=(some (.rt,fs',st),some svs)) (h3:e r=some ys) :
 Le ((some r).bind e) (rn S c (oh rs) fo fs st0):=by
 simp only[ζc]at h;rw[lC h.1];refine Le.of_eq ?_;simp only[rn,oh,h.2,ζb,h2];exact h3.symm
abbrev Mo (κ ν:Type):=List (κ×ν)
class Key (κ:Type) [aG κ] [DecidableEq κ] where
 kk:uy
 ok:∀a:κ,mm kk (enc a)=true
 eq:∀a b:κ,rV (enc a) (enc b)=some (decide (a=b))
instance:Key Int where
 kk:=.int .i64
 ok _:=rfl
 eq a b:=by
  show some (a==b)=some (decide (a=b));rw[show (a==b)=decide (a=b)from Bool.eq_iff_iff.2 (by simp)]
instance:Key aa where
 kk:=.ints 2
 ok _:=rfl
 eq a b:=by
  obtain⟨p,i⟩:=a;obtain⟨q,j⟩:=b;simp only[rV,iF,fu,UA,Option.map_some,List.length_cons,if_true,ζa];rw[Bool.eq_iff_iff];simp
section
variable {κ ν:Type} [aG κ] [DecidableEq κ] [Key κ] [aG ν]
def qS (k:κ):Mo κ ν->Option ν
 | []=>none
 | (a,v)::r=>if k=a then some v else qS k r
def uF (m:Mo κ ν) (k:κ) (z:ν):ν:=(qS k m).getD z
def kz (m:Mo κ ν) (k:κ) (v:ν):Mo κ ν:=
 match m with
 | []=>[(k,v)]
 | (a,w)::r=>if k=a then(k,v)::r else(a,w)::kz r k v
def mJ (m:Mo κ ν):List (V×V):=m.map λx=>(enc x.1,enc x.2)
def pG (m:Mo κ ν):aQ:=.mp (mJ m)
theorem EY (k:κ):∀(m:Mo κ ν) (i:Nat),(fc (enc k) (mJ m) i).map (Option.map (·.2))=some ((qS k m).map enc)
 | [],i=>rfl
 | (a,v)::r,i=>by
  simp only[mJ,List.map_cons,fc,Key.eq,qS]
  by_cases h:k=a
  .rw[if_pos h];simp[h]
  .rw[if_neg h];simp only[h,decide_false];exact EY k r (i+1)
theorem Md (k:κ) (v:ν) (m:Mo κ ν):mz (enc k) (enc v) (mJ m)=some (mJ (kz m k v)):=by
 unfold mz;have key:∀(m:Mo κ ν) (pre:List (V×V)) (i:Nat),pre.length=i->(match fc (enc k) (mJ m) i with
  | some (some (j,_))=>some ((pre++mJ m).set j (enc k,enc v))
  | some none=>some (pre++mJ m++[(enc k,enc v)])
  | none=>none)=some (pre++mJ (kz m k v)):=by
  intro m
  induction m with
  | nil=>intro pre i h;simp[mJ,fc,kz]
  | cons x r ih=>
   obtain⟨a,w⟩:=x;intro pre i h;rw[show mJ ((a,w)::r)=(enc a,enc w)::mJ r from rfl];simp only[fc,Key.eq,kz]
   by_cases hk:k=a
   .subst hk h;simp[mJ]
   .simp only[hk,decide_false,if_false];rw[show mJ ((a,w)::kz r k v)=(enc a,enc w)::mJ (kz r k v)from rfl];have:=ih (pre++[(enc a,enc w)]) (i+1) (by simp[h])
    simp only[List.append_assoc,List.cons_append,List.nil_append]at this ⊢;exact this
 have:=key m [] 0 rfl
 cases hf:fc (enc k) (mJ m) 0 with
 | none=>rw[hf]at this;cases this
 | some r=>
  rw[hf]at this
  cases r with
  | none=>simpa using this
  | some w=>obtain⟨j,w⟩:=w;simpa using this
theorem Xi (n:Nat) (dr:Bool) (fr:List Nat) (q:List RO) (fs':List Fm) (st:St) (u:Nat) (mp:Mo κ ν) (k:κ) (z:ν) {kk:uy} {zv:V} {m:Option β} (hq:q=⟨d,gd,now,.r (.lookup kk zv false),az,dd,[]⟩::l)
 (hL:(fG S c n fo fs st0,wanted st.g gd,a_ S.N st.g az,an st.m u,(!dr||now||dW fr [.mp u,cv k]),zv,kk)=(some (.ops dr fr q,fs',st),some true,some [.mp u,cv k],some (pG mp),true,enc z,Key.kk κ))
 (h:Le m (q_ S c Q dr fr d (.r (.lookup kk zv false)) l fs' dd (b8 st d (cv (uF mp k z))))):Le m (rn S c Q fo fs st0):=by
 simp only[ζc]at hL;obtain⟨h1,h2,h3,h4,h5,h6,h7⟩:=hL;subst h6 h7;refine pZ h1 hq h2 ?_ h;rw[Cz,h3];simp only[ζb,h5,if_true,nr,h4,pG,Key.ok];have:=EY k mp 0;simp only[uF]
 cases hf:fc (enc k) (mJ mp) 0 with
 | none=>rw[hf]at this;cases this
 | some r=>
  rw[hf]at this;simp only[Option.map_some,ζa]at this
  cases r with
  | none=>
   cases hm:qS k mp with
   | none=>rfl
   | some w=>rw[hm]at this;cases this
  | some w=>
   cases hm:qS k mp with
   | none=>rw[hm]at this;cases this
   | some w2=>
    rw[hm]at this;simp only[Option.map_some,ζa]at this;simp only[this];rfl
theorem ZN (n:Nat) (dr:Bool) (fr:List Nat) (q:List RO) (fs':List Fm) (st:St) (u:Nat) (mp:Mo κ ν) (k:κ) (v:ν) {kk:uy} {m:Option β} (hq:q=⟨d,gd,now,.l (.mapUp kk),az,dd,[]⟩::l)
 (hL:(fG S c n fo fs st0,wanted st.g gd,a_ S.N st.g az,an st.m u,(!dr||now),kk)=(some (.ops dr fr q,fs',st),some true,some [.mp u,cv k,cv v],some (pG mp),true,Key.kk κ))
 (h:Le m (q_ S c Q dr fr d (.l (.mapUp kk)) l fs' dd (b8 { st with m:=aT st.m u (pG (kz mp k v)) } d (.v .undef)))):Le m (rn S c Q fo fs st0):=by
 simp only[ζc]at hL;obtain⟨h1,h2,h3,h4,h5,h6⟩:=hL;subst h6;refine pZ h1 hq h2 ?_ h;rw[ug,h3];simp only[ζb,h5,if_true,lX,h4,pG,Key.ok,Md,Option.map_some]
end
end
end Go.VE
namespace Go.VE
variable [aV]
instance {n:Nat}:OfNat Arg n:=⟨.s n⟩
abbrev bI (o:BinOp):K:=.p (.bin (some .int) none o)
abbrev ix (n:Nat):K:=.p (.idxS n)
abbrev ld (n:Nat):K:=.r (.load n false)
abbrev lD (n:Nat):K:=.r (.load n true)
abbrev fa (n:Nat):K:=.p (.fieldAddr n)
abbrev ln:K:=.p .lenSl
abbrev su (n:Nat):K:=.l (.store n)
abbrev Iv (n:Nat) (x:Int):Nat×SV:=(n,iv x)
abbrev Bv (n:Nat) (x:Bool):Nat×SV:=(n,bv x)
abbrev Cv {α:Type} [aG α] (n:Nat) (x:α):Nat×SV:=(n,cv x)
abbrev Kv {α:Type} [aG α] (n:Nat) (x:α):Nat×SV:=(n,cp x)
abbrev Pv (n:Nat):Nat×SV:=(n,.ptr n 0)
abbrev Ov (n:Nat):Nat×SV:=(n,.own (2000+n))
abbrev Xb {α:Type} [aG α] (n:Nat) (x:α):Nat×aQ:=(n,bx x)
abbrev Lb {α:Type} [aG α] (n:Nat) (x:Sl α):Nat×aQ:=(n,bX x)
abbrev on (d:Nat) (k:K) (az:List Arg) (dd:List Nat):RO:=⟨some d,none,true,k,az,dd,[]⟩
abbrev oz (k:K) (az:List Arg) (dd:List Nat):RO:=⟨none,none,false,k,az,dd,[]⟩
abbrev oy (k:K) (az:List Arg) (dd:List Nat):RO:=⟨none,none,true,k,az,dd,[]⟩
theorem Ij {n:Nat} {α:Type} [aG α] [Lv n α] (a:α):V.bT n (cells a)=true:=Lv.lv a
attribute [simp] Ij Oe K9 hG jE oZ mc o6 Q1 Qn LK NH UK Q4 OB OQ QF Oz
theorem kj.vX {S:Sys} {T:pO} {f:FuncId} {b:Bool} (hT:T f=none) (hk:S.E.keep f=false) (ho:S.vX f []=some (.bool b)) :
 kj S (cN S T) f (λ_:Unit=>[]) (λr:Bool=>[.bool r]) (λ_=>some b) true where
 k:=hk
 h _:=by
  have h:=Ce (az:=[]) hT hk ho;intro r hr;cases hr;unfold jT;rw[h];exact tX 8 [.bool b]
 l _:=by simp
 r _:=by simp
 s _ _:=rfl
end Go.VE
namespace Go.VE
variable [aV]
def Wp {α:Type} (m:Option α) (P:α->Prop):Prop:=∃a,m=some a/\P a
section
variable {α β:Type} {P Q:α->Prop}
theorem aj (a:α):Wp (some a) P↔P a:=⟨λh=>by obtain⟨b,e,p⟩:=h;cases e;exact p,λp=>⟨a,rfl,p⟩⟩
theorem QY:Wp (none:Option α) P↔False:=⟨λh=>(by obtain⟨b,e,p⟩:=h;cases e),λh=>False.elim h⟩
theorem fW {m:Option β} {k:β->Option α}:Wp (m.bind k) P↔Wp m λb=>Wp (k b) P:=by
 cases m with
 | none=>simp only[Option.bind_none,QY]
 | some b=>simp only[ζb,aj]
theorem br {t:Bool} {a b:Option α}:Wp (au t a b) P↔(t=true->Wp a P)/\(t=false->Wp b P):=by
 cases t <;> simp[au]
theorem Wp.mono {m:Option α} (h:Wp m P) (hpq:∀a,P a->Q a):Wp m Q:=let ⟨a,e,p⟩:=h;⟨a,e,hpq a p⟩
theorem Wp.and {m:Option α} (h:Wp m P) (h2:Wp m Q):Wp m λa=>P a/\Q a:=by
 obtain⟨a,e,p⟩:=h;obtain⟨b,e2,q⟩:=h2;rw[e]at e2;cases e2;exact⟨a,e,p,q⟩
theorem Wp.eq {m:Option α} {a:α} (h:Wp m λx=>x=a):m=some a:=by obtain⟨b,e,rfl⟩:=h;exact e
end
section
variable {σ ε ρ:Type}
theorem dO (step:σ->Option (Fw σ ε ρ)) (s:σ):aS step s=(step s).bind λw=>match w with
 | .n s'=>aS step s'
 | .x e=>some (.x e)
 | .r b=>some (.r b):=by
 have h1:∀r,aS step s=some r->((step s).bind λw=>match w with
  | .n s'=>aS step s'
  | .x e=>some (.x e)
  | .r b=>some (.r b))=some r:=by
  intro r h;obtain⟨k,hk⟩:=kJ.1 h
  cases k with
  | zero=>simp[gz]at hk
  | succ k=>
   simp only[gz]at hk
   cases hs:step s with
   | none=>rw[hs]at hk;cases hk
   | some w=>
    rw[hs]at hk
    cases w with
    | n s'=>exact kJ.2 ⟨k,hk⟩
    | x e=>exact hk
    | r b=>exact hk
 cases hw:aS step s with
 | some r=>exact(h1 r hw).symm
 | none=>
  cases hr:((step s).bind λw=>match w with
  | .n s'=>aS step s'
  | .x e=>some (.x e)
  | .r b=>some (.r b))with
  | none=>rfl
  | some r=>
   exfalso
   cases hs:step s with
   | none=>rw[hs]at hr;cases hr
   | some w=>
    rw[hs]at hr;simp only[ζb]at hr;have:aS step s=some r:=by
     cases w with
     | n s'=>
      obtain⟨k,hk⟩:=kJ.1 hr;exact kJ.2 ⟨k+1,by simp only[gz,hs];exact hk⟩
     | x e=>exact kJ.2 ⟨1,by simp only[gz,hs];exact hr⟩
     | r b=>exact kJ.2 ⟨1,by simp only[gz,hs];exact hr⟩
    rw[hw]at this;cases this
def MN (I:σ->Prop) (μ:σ->Nat) (px:ε->Prop) (pr:ρ->Prop) (s:σ):Fw σ ε ρ->Prop
 | .n s'=>I s'/\μ s'<μ s
 | .x e=>px e
 | .r b=>pr b
def Y6 (px:ε->Prop) (pr:ρ->Prop):Fw Empty ε ρ->Prop
 | .x e=>px e
 | .r b=>pr b
theorem LW {step:σ->Option (Fw σ ε ρ)} (I:σ->Prop) (μ:σ->Nat) (px:ε->Prop) (pr:ρ->Prop) (h:∀s,I s->Wp (step s) (MN I μ px pr s)) {s:σ} (hs:I s):Wp (aS step s) (Y6 px pr):=by
 have key:∀n s,μ s<=n->I s->Wp (aS step s) (Y6 px pr):=by
  intro n
  induction n with
  | zero=>
   intro s hm hi;obtain⟨w,hw,hr⟩:=h s hi;rw[dO,hw]
   cases w with
   | n s'=>exact absurd hr.2 (by omega)
   | x e=>exact⟨_,rfl,hr⟩
   | r b=>exact⟨_,rfl,hr⟩
  | succ n ih=>
   intro s hm hi;obtain⟨w,hw,hr⟩:=h s hi;rw[dO,hw]
   cases w with
   | n s'=>exact ih s' (by have:=hr.2;omega) hr.1
   | x e=>exact⟨_,rfl,hr⟩
   | r b=>exact⟨_,rfl,hr⟩
 exact key (μ s) s (Nat.le_refl _) hs
theorem c8 {γ:Type} {step:σ->Option (Fw σ ε ρ)} {fx:ε->Option γ} {fr:ρ->Option γ} {P:γ->Prop} (I:σ->Prop) (μ:σ->Nat) {s:σ} (hs:I s)
 (h:∀s,I s->Wp (step s) (MN I μ (λe=>Wp (fx e) P) (λb=>Wp (fr b) P) s)):Wp ((aS step s).bind (Fw.elim fx fr)) P:=by
 rw[fW];refine(LW I μ _ _ h hs).mono ?_;intro w hw
 cases w with
 | n a=>cases a
 | x e=>exact hw
 | r b=>exact hw
end
end Go.VE
namespace Go.VE
variable [aV]
theorem G0 {β γ δ:Type} {e:γ->Option β} {m:Option δ} {f:δ->Option γ} {L:Option β} (h:∀x,m=some x->Le ((f x).bind e) L):Le ((m.bind f).bind e) L:=by
 cases m with
 | none=>exact Le.none _
 | some x=>exact h x rfl
section
variable {S:Sys} {c:bD} {β:Type} {Q:Out×St->Option β} {fo:Fo} {fs:List Fm} {st0:St} {l:List RO} {d:Option Nat} {now:Bool} {az:List Arg} {dd:List Nat}
theorem Le.get {β:Type} {r:β} {L:Option β} (h:Le (some r) L):L=some r:=h r rfl
theorem Kt {n:Nat} {fo fo':Fo} {fs fs':List Fm} {st:St} (A:Bool->St) {t:Bool} {m:Option β} (ht:t=true) (h:fG S c n fo fs st=some (fo',fs',A t)) (ha:Le m (rn S c Q fo' fs' (A true))):Le m (rn S c Q fo fs st):=by
 rw[lC h,ht];exact ha
theorem Kf {n:Nat} {fo fo':Fo} {fs fs':List Fm} {st:St} (A:Bool->St) {t:Bool} {m:Option β} (ht:t=false) (h:fG S c n fo fs st=some (fo',fs',A t)) (ha:Le m (rn S c Q fo' fs' (A false))):Le m (rn S c Q fo fs st):=by
 rw[lC h,ht];exact ha
theorem Lf {α:Type} [aG α] {s:Sl α} {i:Int} {x:α} {r:β} {L:Option β} (hx:idx s i=some x) (h:Le (((idx s i).bind λ_=>some r).bind some) L):Le (some r) L:=by
 rw[hx]at h;exact h
theorem Yo {n:Nat} {q:List RO} {fs':List Fm} {st:St} {id:Nat} {vs:List SV} {xs:List V} {ws:List (List V)} {m:Option β}
 (hL:fG S c n fo fs st0=some (.ops false [] q,fs',st)) (hq:q=⟨d,none,now,.c,az,dd,[]⟩::l) (hs:a_ S.N st.g az=some (.yl id::vs)) (ha:cU vs=some xs) (hw:st.want=xs::ws) (hi:id=st.yid)
 (h:Le m (rn S c Q (.ops false [] l) fs' (lW dd (b8 { st with want:=ws } d (.v (.bool (st.more || !ws.isEmpty))))))):Le m (rn S c Q fo fs st0):=by
 refine M7 hL hq rfl ?_ h;unfold dX;simp only[wanted,ez,hs,ha,hw,hi,if_true,and_self,Bool.false_eq_true,if_false]
theorem xH (a:RC) (fs:List Fm) (st:St):rn S c Q (.rc (.loop a)) fs st=(kO (bu S c a) st).bind (A4 (jM S c Q fs) (jW S c Q fs) (λst=>Q (.ret,st))):=by
 show jS S c Q (.loop a) fs st=_;unfold jS;rw[Aj];rfl
theorem QU {f:St->Option (Out×St)} {st st':St} (h:f st=some (.norm,st')):kO f st=kO f st':=by
 have key:∀r,kO f st=some r↔kO f st'=some r:=λr=>by
  constructor
  .intro hr;obtain⟨k,hk⟩:=jQ.1 hr
   cases k with
   | zero=>simp[gm]at hk
   | succ k=>simp only[gm,h]at hk;exact jQ.2 ⟨k,hk⟩
  .intro hr;obtain⟨k,hk⟩:=jQ.1 hr;exact jQ.2 ⟨k+1,by simp only[gm,h];exact hk⟩
 cases hx:kO f st with
 | none=>
  cases hy:kO f st' with
  | none=>rfl
  | some r=>rw[(key r).2 hy]at hx;cases hx
 | some r=>rw[(key r).1 hx]
theorem FF {f:St->Option (Out×St)} {st st':St} {o:Out} (h:f st=some (o,st')) (ho:o≠.norm):kO f st=some (o,st'):=by
 refine jQ.2 ⟨1,?_⟩
 cases o with
 | norm=>exact absurd rfl ho
 | exit k=>simp only[gm,h]
 | ret=>simp only[gm,h]
theorem By {a:RC} {fs:List Fm} {st st':St} (h:rn S c some (.rc a) [] st=some (.norm,st')):rn S c Q (.rc (.loop a)) fs st=rn S c Q (.rc (.loop a)) fs st':=by
 rw[xH,xH,QU (by rw[xL];exact h)]
theorem B7 {a:RC} {fs:List Fm} {st st':St} {k:Nat} (h:rn S c some (.rc a) [] st=some (.exit k,st')):rn S c Q (.rc (.loop a)) fs st=rn S c Q (.ex k) fs st':=by
 rw[xH,FF (by rw[xL];exact h) (by simp)];rfl
theorem B3 {a:RC} {fs:List Fm} {st st':St} (h:rn S c some (.rc a) [] st=some (.ret,st')):rn S c Q (.rc (.loop a)) fs st=Q (.ret,st'):=by
 rw[xH,FF (by rw[xL];exact h) (by simp)];rfl
end
def Qi:Out×St->Option Unit
 | (.exit _,_)=>none
 | (_,st)=>if st.want.isEmpty then some ()else none
def Sys.bare (S:Sys):Sys:=⟨S.E,S.N,λ_ _ _=>none,λ_ _=>none,λ_=>none⟩
def kr:bD:=λ_ _ _=>none
def zK (ws rest:List (List V)) (more:Bool):Prop:=more=true/\ws=rest\/more=false/\ws≠[]/\∃r,rest=ws++r
theorem KY (S:Sys) {f:FuncId} {fi:FI} {nm:FuncId->Option Nat} {rf:RF} (hft:S.E.ft f=some fi) (hN:∀g s,nm g=some s->S.N s=g) (hr:vi S.E nm fi rf) {a b:List V} {xs:List (List V)} (hlen:a.length+1+b.length<=rf.na) (hrs:rf.rs=[])
 (h:∀ws more,zK ws xs more->∀yid,rn S.bare kr Qi (.rc rf.body) [] ⟨uJ 0 (a.map .v++.yl yid::b.map .v),[],[],ws,more,yid⟩=some ()):eA S f a b xs:=by
 have k:eA S.bare f a b xs:=Qs (S:=S.bare) (c:=kr) (fi:=fi) (nm:=nm) (rf:=rf) (λ_ _ h=>by cases h) (λ_ _ _ _ _ h=>by simp[kr]at h) (λ_ _ _ _ h=>by simp[Sys.bare]at h) hft hN hr hlen hrs (λws more hw yid=>by
  have h1:=h ws more hw yid;change jS S.bare kr Qi rf.body [] _=some ()at h1;rw[sN]at h1;obtain⟨⟨o,st'⟩,h2,h3⟩:=ζg.1 h1;refine⟨o,st',h2,?_,?_,rfl⟩
  .rintro id rfl;simp[Qi]at h3
  .cases o <;> simp[Qi]at h3 <;> exact h3)
 intro ws more hw yid J y Z a' b' H h1 h2 h3 h4 h5;exact k ws more hw yid J ⟨y.uj,y.yield⟩ Z a' b' H h1 h2 h3 h4 h5
open Classical in
noncomputable def uQ (P:FuncId->List V->List V->List (List V)->Prop) (f:FuncId) (a b:List V):Option (List (List V)):=if h:∃xs,P f a b xs then some (Classical.choose h)else none
theorem Gf {P:FuncId->List V->List V->List (List V)->Prop} {f:FuncId} {a b:List V} {xs:List (List V)} (h:P f a b xs) (hu:∀ys,P f a b ys->ys=xs):uQ P f a b=some xs:=by
 have h1:∃xs,P f a b xs:=⟨xs,h⟩;unfold uQ;rw[dif_pos h1,hu _ (Classical.choose_spec h1)]
theorem GQ {P:FuncId->List V->List V->List (List V)->Prop} {f:FuncId} {a b:List V} {xs:List (List V)} (h:uQ P f a b=some xs):P f a b xs:=by
 unfold uQ at h;split at h
 .rename_i h1;cases h;exact Classical.choose_spec h1
 .cases h
theorem VZ {E:Env} {nm:FuncId->Option Nat} {f:FuncId} {rf:RF}
 (h:((E.ft f).bind λfi=>(aO ⟨E,nm,fi.ntmps⟩ false fi.body).bind λc=>(fi.results.mapM (xS E)).bind λrs=>some (c,rs,fi.ntmps))=some (erase rf.body,rf.rs,rf.na)):∃fi,E.ft f=some fi/\vi E nm fi rf:=by
 obtain⟨fi,h1,h2⟩:=ζg.1 h;obtain⟨c,h3,h4⟩:=ζg.1 h2;obtain⟨rs,h5,h6⟩:=ζg.1 h4;simp only[ζa,ζc]at h6;obtain⟨rfl,rfl,h7⟩:=h6;exact⟨fi,h1,h3,h5,h7.symm⟩
theorem wX {n m:Nat} (h:n<=m) {x:V} (hx:V.lvl n x=true):V.lvl m x=true:=by
 induction h with
 | refl=>exact hx
 | step _ ih=>exact xu ih
theorem yd {n m:Nat} (h:n<=m) {x:List V} (hx:V.bT n x=true):V.bT m x=true:=by
 induction h with
 | refl=>exact hx
 | step _ ih=>exact oQ ih
theorem KG {n m:Nat} (h:n<=m) {x:List (List V)} (hx:V.kq n x=true):V.kq m x=true:=by
 induction h with
 | refl=>exact hx
 | step _ ih=>exact zg ih
theorem PU {n m:Nat} (h:n<=m) {x:List (V×V)} (hx:V.pJ n x=true):V.pJ m x=true:=by
 induction h with
 | refl=>exact hx
 | step _ ih=>exact Bd ih
mutual
theorem wN:∀x:V,∃n,V.lvl n x=true
 | .fsl es xs=>let ⟨n,h⟩:=DR xs;⟨n+1,by simp only[V.lvl];exact h⟩
 | .fptr cs=>let ⟨n,h⟩:=qI cs;⟨n+1,by simp only[V.lvl];exact h⟩
 | .fmap kvs=>let ⟨n,h⟩:=Fh kvs;⟨n+1,by simp only[V.lvl];exact h⟩
 | .agg cs=>let ⟨n,h⟩:=qI cs;⟨n+1,by simp only[V.lvl];exact h⟩
 | .tup cs=>let ⟨n,h⟩:=qI cs;⟨n+1,by simp only[V.lvl];exact h⟩
 | .clo f a b=>let ⟨n,h⟩:=qI a;let ⟨m,k⟩:=qI b;⟨max n m+1,by simp only[V.lvl,ζh];exact⟨yd (Nat.le_max_left _ _) h,yd (Nat.le_max_right _ _) k⟩⟩
 | .bool _|.int ..|.str _|.eX|.eH|.oK|.cA|.aF|.hsl ..|.hptr ..|.yld _|.hmap _=>⟨0,rfl⟩
theorem qI:∀x:List V,∃n,V.bT n x=true
 | []=>⟨0,by simp only[V.bT]⟩
 | a::l=>let ⟨n,h⟩:=wN a;let ⟨m,k⟩:=qI l;⟨max n m,by simp only[V.bT,ζh];exact⟨wX (Nat.le_max_left _ _) h,yd (Nat.le_max_right _ _) k⟩⟩
theorem DR:∀x:List (List V),∃n,V.kq n x=true
 | []=>⟨0,by simp only[V.kq]⟩
 | a::l=>let ⟨n,h⟩:=qI a;let ⟨m,k⟩:=DR l;⟨max n m,by simp only[V.kq,ζh];exact⟨yd (Nat.le_max_left _ _) h,KG (Nat.le_max_right _ _) k⟩⟩
theorem Fh:∀x:List (V×V),∃n,V.pJ n x=true
 | []=>⟨0,by simp only[V.pJ]⟩
 | (a,b)::l=>let ⟨n,h⟩:=wN a;let ⟨m,k⟩:=wN b;let ⟨q,p⟩:=Fh l;⟨max n (max m q),by simp only[V.pJ,ζh];exact⟨⟨wX (by omega) h,wX (by omega) k⟩,PU (by omega) p⟩⟩
end
theorem FR.mq {H:aq} {Z Z':Nat->Prop} {x y z:V} (h:FR H Z x z) (k:FR H Z' y z):x=y:=by
 obtain⟨n,hn⟩:=wN x;obtain⟨m,hm⟩:=wN y;have e1:=h.borrow (max n m) (wX (Nat.le_max_left _ _) hn);have e2:=k.borrow (max n m) (wX (Nat.le_max_right _ _) hm);rw[e1]at e2;exact Option.some.inj e2
open Classical in
noncomputable def wH (E:Env) (f:FuncId) (az:List V):Option V:=if h:∃y,vK E f az y then some (Classical.choose h)else none
theorem JR {E:Env} {f:FuncId} {az:List V} {y:V} (h:wH E f az=some y):vK E f az y:=by
 unfold wH at h;split at h
 .rename_i h1;cases h;exact Classical.choose_spec h1
 .cases h
theorem xo {E:Env} {f:FuncId} {az:List V} {y:V} (h:vK E f az y):wH E f az=some y:=by
 have h1:∃y,vK E f az y:=⟨y,h⟩;unfold wH;rw[dif_pos h1];obtain⟨n,z,H,Z,k1,k2,_⟩:=h;obtain⟨n',z',H',Z',k3,k4,_⟩:=Classical.choose_spec h1;have e1:=nL E (Nat.le_max_left n n') _ _ _ _ k1;have e2:=nL E (Nat.le_max_right n n') _ _ _ _ k3;rw[e1]at e2;cases e2;rw[FR.mq k4 k2]
theorem Eu {E:Env} {f:FuncId} {az:List V} {y:V} (hs:V.scalar y=true) (h:∃n H',run E n (.fn f) az []=some (y,H')):vK E f az y:=by
 obtain⟨n,H',h⟩:=h;exact⟨n,y,H',λ_=>False,h,.same _ (lF hs),λ_ h=>h.elim,⟨λ_ _ _ h=>h.elim⟩⟩
end Go.VE
