/-
 Plain values and the steps of a certificate.
-/
import Derived.KernelRfl
import Derived.Test.YtimppgndlmehbaaGreatN2
set_option linter.all false
namespace Go.VE
variable [bX]
inductive Sl (α:Type) where
 | nil
 | emp
 | row (l:List α)
 | part (l:List α)
 deriving Inhabited
def Sl.l {α:Type}:Sl α->List α
 | .nil|.emp=>[]
 | .row l|.part l=>l
def Sl.k {α:Type}:Sl α->Fl
 | .nil=>.nil
 | .emp=>.emp
 | .row _=>.row
 | .part _=>.part
class bE (α:Type) where
 cells:α->List V
 agg:Bool
 size:Nat
 len:∀a,(cells a).length=size
 good:∀a,V.cE (cells a)=true
 one:∀a,(cells a).all V.one=true
 plain:agg=false->size=1
def cells {α:Type} [bE α] (a:α):List V:=bE.cells a
def enc {α:Type} [bE α] (a:α):V:=if bE.agg α then .agg (cells a)else(cells a).headD .undef
def rows {α:Type} [bE α] (l:List α):List (List V):=l.map cells
def bV {α:Type} [bE α] (s:Sl α):V:=nF s.k (bE.size α) (rows s.l)
instance:bE Int where
 cells n:=[.int .i64 n]
 agg:=false
 size:=1
 len _:=rfl
 good _:=rfl
 one _:=rfl
 plain _:=rfl
instance:bE Bool where
 cells b:=[.bool b]
 agg:=false
 size:=1
 len _:=rfl
 good _:=rfl
 one _:=rfl
 plain _:=rfl
instance:bE ByteArray where
 cells s:=[.str s]
 agg:=false
 size:=1
 len _:=rfl
 good _:=rfl
 one _:=rfl
 plain _:=rfl
structure aY where
 proc:Int
 index:Int
 deriving DecidableEq,Inhabited
instance:bE aY where
 cells x:=[.int .i64 x.proc,.int .i64 x.index]
 agg:=true
 size:=2
 len _:=rfl
 good _:=rfl
 one _:=rfl
 plain h:=by cases h
@[simp] theorem V1 (n:Int):enc n=.int .i64 n:=rfl
@[simp] theorem VH (n:Bool):enc n=.bool n:=rfl
@[simp] theorem V2 (n:ByteArray):enc n=.str n:=rfl
@[simp] theorem Vt (n:Int):cells n=[.int .i64 n]:=rfl
@[simp] theorem Uq (n:Bool):cells n=[.bool n]:=rfl
@[simp] theorem Vp (n:ByteArray):cells n=[.str n]:=rfl
@[simp] theorem VM (n:aY):cells n=[.int .i64 n.proc,.int .i64 n.index]:=rfl
@[simp] theorem Ti (n:aY):enc n=.agg [.int .i64 n.proc,.int .i64 n.index]:=rfl
section
variable {α:Type} [bE α]
theorem gN (l:List α):(rows l).length=l.length:=by simp[rows]
def idx (s:Sl α) (i:Int):Option α:=if 0<=i then s.l[i.toNat]? else none
theorem ON {N:Nat->FuncId} (s:Sl α) (k:IntKind) (i:Int) {n:Nat} (B:n=bE.size α):bh N (.idxS n) [bV s,.int k i]=(idx s i).map λx=>.fptr (cells x):=by
 subst B;unfold idx bV;simp only[bh,lG]
 by_cases h:i<0
 .rw[if_pos h,if_neg (by omega)];rfl
 .rw[if_neg h,if_pos (by omega)]
  cases s <;> simp[Sl.k,Sl.l,nF,rows,Function.comp_def]
theorem KP {N:Nat->FuncId} (s:Sl α):bh N .lenSl [bV s]=some (.int .i64 s.l.length):=by
 cases s <;> simp[bh,og,bV,Sl.k,Sl.l,nF,gN]
end
section
variable {S:Sys} {c:cq}
end
end Go.VE
namespace Go.VE
variable [bX]
section
variable {S:Sys} {c:cq}
def isSlice:uP->Bool
 | .slice ..=>true
 | _=>false
theorem PD (dr:Bool) (fr:List Nat) (dst:Option Nat) (now:Bool) (p:uP) (az:List Arg) (st:St) (h:isSlice p=false) :
 fA S c dr fr ⟨dst,none,now,.p p,az,[],[]⟩ st=(bZ S.N st.g az).bind λsvs=>(jl S.N st.m p svs).bind λx=>some (cZ st dst x):=by
 unfold fA mm;have q:fR S.N st.g ⟨dst,none,now,.p p,az,[],[]⟩=none:=by unfold fR;grind
 simp[wanted,q]
 cases u:bZ S.N st.g az with
 | none=>rfl
 | some svs=>
  simp;cases p <;> first|(simp[isSlice]at h;done)|(cases t:jl S.N st.m _ svs <;> simp[t])
theorem Iy (N:Nat->FuncId) (m:Tb bP) (p:uP) (svs:List SV) (xs:List V) (h:dG svs=some xs):jl N m p svs=(bh N p xs).bind λx=>some (.v x):=by
 unfold jl;rw[h];dsimp only;cases bh N p xs <;> rfl
theorem E5 (dr:Bool) (fr:List Nat) (dst:Option Nat) (now:Bool) (q:Ii) (az:List Arg) (st:St) :
 fA S c dr fr ⟨dst,none,now,.r q,az,[],[]⟩ st=(bZ S.N st.g az).bind λsvs=>if !dr||now||e_ fr svs then(oT st.m q svs).bind λx=>some (cZ st dst x)else none:=by
 unfold fA mm;have t:fR S.N st.g ⟨dst,none,now,.r q,az,[],[]⟩=none:=rfl;simp[wanted,t]
 cases u:bZ S.N st.g az with
 | none=>rfl
 | some svs=>
  simp;split
  .cases w:oT st.m q svs <;> simp
  .rfl
theorem CG (dr:Bool) (fr:List Nat) (d:Nat) (now:Bool) (q:Lh) (az:List Arg) (st:St) :
 fA S c dr fr ⟨some d,none,now,.a q,az,[],[]⟩ st=(bZ S.N st.g az).bind λsvs=>if st.new d then(pE st.m q svs d).bind λr=>some { st with g:=bT st.g d r.2,m:=bT st.m d r.1 } else none:=by
 unfold fA mm;have t:fR S.N st.g ⟨some d,none,now,.a q,az,[],[]⟩=none:=rfl;simp[wanted,t]
 cases u:bZ S.N st.g az with
 | none=>rfl
 | some svs=>
  simp;split
  .cases w:pE st.m q svs d <;> simp[cZ]
  .rfl
theorem sy (dr:Bool) (fr:List Nat) (dst:Option Nat) (now:Bool) (q:Il) (az:List Arg) (st:St) :
 fA S c dr fr ⟨dst,none,now,.l q,az,[],[]⟩ st=(bZ S.N st.g az).bind λsvs=>if !dr||now then(jN st dst q svs).bind λr=>some (cZ r.2 dst r.1)else none:=by
 unfold fA mm;have t:fR S.N st.g ⟨dst,none,now,.l q,az,[],[]⟩=none:=rfl;simp[wanted,t]
 cases u:bZ S.N st.g az with
 | none=>rfl
 | some svs=>
  simp;split
  .cases w:jN st dst q svs <;> simp
  .rfl
theorem UG (dr:Bool) (fr:List Nat) (dst:Option Nat) (now:Bool) (n:Nat) (az:List Arg) (st:St) (v:V) (hv:v=.bH\/v=.c9) (x:SV) (B:bZ S.N st.g az=some [.v v,x]) :
 fA S c dr fr ⟨dst,none,now,.e n,az,[],[]⟩ st=(jN st dst (.append n) [.v v,x]).bind λr=>some (cZ r.2 dst r.1):=by
 unfold fA mm;have q:fR S.N st.g ⟨dst,none,now,.e n,az,[],[]⟩=none:=rfl;simp only[wanted,q,B];rcases hv with rfl|rfl
 .show (jN st dst (.append n) [.v .bH,x]).map _=_;cases jN st dst (.append n) [.v .bH,x] <;> rfl
 .show (jN st dst (.append n) [.v .c9,x]).map _=_;cases jN st dst (.append n) [.v .c9,x] <;> rfl
def oK:List SV->Option (FuncId×List SV)
 | .clo f a b::vs=>some (f,a++vs++b)
 | .v (.clo f a b)::vs=>some (f,a.map .v++vs++b.map .v)
 | _=>none
theorem E6 (dr:Bool) (fr:List Nat) (dst:Option Nat) (now:Bool) (az:List Arg) (st:St) (svs:List SV) (f:FuncId) (args:List SV) (B:bZ S.N st.g az=some svs) (hc:oK svs=some (f,args)) :
 fA S c dr fr ⟨dst,none,now,.c,az,[],[]⟩ st=(iY S c dst dr (!dr||now) (ig st.m fr) f args st).bind λr=>some (cZ r.2 dst r.1):=by
 unfold fA mm;unfold oK at hc;split at hc
 .obtain⟨rfl,rfl⟩:=hc;simp[wanted,fR,B];cases iY S c dst dr _ _ _ _ st <;> simp
 .obtain⟨rfl,rfl⟩:=hc;simp[wanted,fR,B];cases iY S c dst dr _ _ _ _ st <;> simp
 grind
noncomputable def NA {β:Type} (S:Sys) (c:cq) (fr:List Nat) (l:List RO) (k:St->Option β):St->Option β:=λst=>(mR S c false fr l st).bind k
noncomputable def NS {β:Type} (S:Sys) (c:cq) (fr:List Nat) (l:List RO) (k:St->Option β):St->Option β:=λst=>(mR S c true fr l st).bind k
noncomputable def SH {β:Type} (S:Sys) (c:cq) (fr dd:List Nat) (l:List RO) (k:St->Option β):St->Option β:=λst=>NA S c fr l k (oS dd st)
noncomputable def S7 {β:Type} (S:Sys) (c:cq) (fr dd:List Nat) (l:List RO) (k:St->Option β):St->Option β:=λst=>NS S c fr l k (oS dd st)
@[congr] theorem Uh {β:Type} {fr:List Nat} {l:List RO} {k:St->Option β} {st st':St} (h:st=st'):NA S c fr l k st=NA S c fr l k st':=by rw[h]
@[congr] theorem UD {β:Type} {fr B:List Nat} {l:List RO} {k:St->Option β} {st st':St} (D:fr=B) (h:st=st'):NS S c fr l k st=NS S c B l k st':=by simp_all
@[congr] theorem Ui {β:Type} {fr dd:List Nat} {l:List RO} {k:St->Option β} {st st':St} (h:st=st'):SH S c fr dd l k st=SH S c fr dd l k st':=by rw[h]
@[congr] theorem U4 {β:Type} {fr B dd:List Nat} {l:List RO} {k:St->Option β} {st st':St} (D:fr=B) (h:st=st'):S7 S c fr dd l k st=S7 S c B dd l k st':=by simp_all
@[congr] theorem Vr {dr:Bool} {fr:List Nat} {o:RO} {st st':St} (h:st=st'):fA S c dr fr o st=fA S c dr fr o st':=by rw[h]
end
section
variable {S:Sys} {c:cq} (dr:Bool) (fr:List Nat) (dst:Option Nat) (now:Bool) (az:List Arg) (st:St)
end
end Go.VE
namespace Go.VE
variable [bX]
inductive Fm where
 | seq (b:RC)
 | blk (id:Nat)
 | gst (x:Gh)
section
variable (S:Sys) (c:cq) {β:Type} (Q:Out×St->Option β)
noncomputable def runK:List Fm->Out×St->Option β
 | [],r=>Q r
 | .seq b::fs,(.norm,st)=>(cA S c b st).bind (runK fs)
 | .seq _::fs,r=>runK fs r
 | .blk id::fs,(.exit k,st)=>if k=id then runK fs (.norm,st)else runK fs (.exit k,st)
 | .blk _::fs,r=>runK fs r
 | .gst x::fs,(.norm,st)=>(ghost x st).bind λst=>runK fs (.norm,st)
 | .gst _::fs,r=>runK fs r
noncomputable def go (rc:RC) (fs:List Fm) (st:St):Option β:=(cA S c rc st).bind (runK S c Q fs)
noncomputable def Pe (fs:List Fm):St->Option β:=λst=>runK S c Q fs (.norm,st)
def bg {α:Type} (t:Bool) (a b:α):α:=if t then a else b
end
@[congr] theorem Vq {α:Type} {t B:Bool} {a b a' D:α} (h:t=B) (G:B=true->a=a') (J:B=false->b=D):bg t a b=bg B a' D:=by
 subst h;cases t
 .exact J rfl
 .exact G rfl
section
variable {S:Sys} {c:cq} {β:Type} {Q:Out×St->Option β}
@[congr] theorem go_congr {a:RC} {fs:List Fm} {st st':St} (h:st=st'):go S c Q a fs st=go S c Q a fs st':=by rw[h]
@[congr] theorem T4 {fs:List Fm} {st st':St} (h:st=st'):Pe S c Q fs st=Pe S c Q fs st':=by rw[h]
@[congr] theorem UT {fs:List Fm} {r B:Out×St} (h:r=B):runK S c Q fs r=runK S c Q fs B:=by rw[h]
theorem Ga (rc:RC) (st:St):(cA S c rc st).bind Q=go S c Q rc [] st:=by
 simp only[go];cases cA S c rc st <;> rfl
inductive Fw (ν ε ρ:Type) where
 | n (a:ν)
 | x (e:ε)
 | r (b:ρ)
def jA {σ ε ρ:Type} (step:σ->Option (Fw σ ε ρ)):Nat->σ->Option (Fw Empty ε ρ)
 | 0,_=>none
 | k+1,s=>match step s with
  | some (.n B)=>jA step k B
  | some (.x e)=>some (.x e)
  | some (.r b)=>some (.r b)
  | none=>none
theorem wW {σ ε ρ:Type} {step:σ->Option (Fw σ ε ρ)}:∀{k B:Nat} {s:σ} {r:Fw Empty ε ρ},k<=B->jA step k s=some r->jA step B s=some r
 | 0,_,_,_,_,h=>by simp[jA]at h
 | k+1,0,_,_,hk,_=>by omega
 | k+1,B+1,s,r,hk,h=>by
  simp only[jA]at h ⊢;split at h
  .exact wW (Nat.le_of_succ_le_succ hk) h
  .exact h
  .exact h
  .simp at h
open Classical in
noncomputable def bG {σ ε ρ:Type} (step:σ->Option (Fw σ ε ρ)) (s:σ):Option (Fw Empty ε ρ):=
 if h:∃k r,jA step k s=some r then some (Classical.choose (Classical.choose_spec h))else none
theorem nK {σ ε ρ:Type} {step:σ->Option (Fw σ ε ρ)} {s:σ} {r:Fw Empty ε ρ}:bG step s=some r↔∃k,jA step k s=some r:=by
 unfold bG;constructor
 .intro h;split at h
  .rename_i q;simp only[ζa]at h;exact⟨_,by rw[<-h];exact Classical.choose_spec (Classical.choose_spec q)⟩
  .simp at h
 .rintro⟨k,hk⟩;have q:∃k r,jA step k s=some r:=⟨k,r,hk⟩;rw[dif_pos q];have u:=Classical.choose_spec (Classical.choose_spec q);have w:=wW (Nat.le_max_left (Classical.choose q) k) u;have t:=wW (Nat.le_max_right (Classical.choose q) k) hk;rw[w]at t;exact t
def Fw.out {ν ε ρ:Type} (D:ν->St) (B:ε->Nat×St) (G:ρ->St):Fw ν ε ρ->Out×St
 | .n a=>(.norm,D a)
 | .x e=>(.exit (B e).1,(B e).2)
 | .r b=>(.ret,G b)
def Fw.elim {ε ρ γ:Type} (B:ε->γ) (fr:ρ->γ):Fw Empty ε ρ->γ
 | .x e=>B e
 | .r b=>fr b
end
end Go.VE
namespace Go.VE
variable [bX]
class Lv (n:Nat) (α:Type) [bE α]:Prop where
 lv:∀a:α,V.c7 n (cells a)=true
instance {n:Nat}:Lv n Int:=⟨λ_=>by cases n <;> rfl⟩
instance {n:Nat}:Lv n Bool:=⟨λ_=>by cases n <;> rfl⟩
instance {n:Nat}:Lv n ByteArray:=⟨λ_=>by cases n <;> rfl⟩
instance {n:Nat}:Lv n aY:=⟨λ_=>by cases n <;> rfl⟩
section
variable {α:Type} [bE α]
theorem D1 (s:Sl α):V.one (bV s)=true:=by cases s <;> rfl
theorem MB (l:List α):V.od (rows l)=true:=by
 induction l with
 | nil=>rfl
 | cons a l q=>simp only[rows,List.map_cons,V.od,ζh];exact⟨bE.good a,q⟩
theorem Kb (s:Sl α):V.good (bV s)=true:=by
 cases s <;> simp only[bV,Sl.k,nF,V.good] <;> exact MB _
theorem NQ {n:Nat} [Lv n α] (l:List α):V.m_ n (rows l)=true:=by
 induction l with
 | nil=>cases n <;> rfl
 | cons a l q=>simp only[rows,List.map_cons,V.m_,ζh];exact⟨Lv.lv a,q⟩
theorem D4 {n:Nat} [Lv n α] (s:Sl α):V.lvl (n+1) (bV s)=true:=by
 cases s <;> simp only[bV,Sl.k,nF,V.lvl] <;> exact NQ _
instance:bE (Sl α) where
 cells s:=[bV s]
 agg:=false
 size:=1
 len _:=rfl
 good s:=by simp only[V.cE,Kb,Bool.and_self]
 one s:=by simp[D1]
 plain _:=rfl
instance {n:Nat} [Lv n α]:Lv (n+1) (Sl α):=⟨λs=>by
 show V.c7 (n+1) [bV s]=true;simp only[V.c7,D4,Bool.and_self]⟩
end
theorem Q0 (n:Nat) (cs:List V):V.lvl (n+1) (.agg cs)=V.c7 n cs:=rfl
theorem Qk (n:Nat) (cs:List V):V.lvl (n+1) (.tup cs)=V.c7 n cs:=rfl
theorem Nw (n:Nat) (cs:List V):V.lvl (n+1) (.fptr cs)=V.c7 n cs:=rfl
theorem QS (n:Nat) (f:FuncId) (a b:List V):V.lvl (n+1) (.clo f a b)=(V.c7 n a&&V.c7 n b):=rfl
theorem rE (n:Nat) (k:IntKind) (x:Int):V.lvl n (.int k x)=true:=by cases n <;> rfl
theorem pn (n:Nat) (x:Bool):V.lvl n (.bool x)=true:=by cases n <;> rfl
theorem rJ (n:Nat) (x:ByteArray):V.lvl n (.str x)=true:=by cases n <;> rfl
theorem PZ (n:Nat):V.lvl n .bH=true:=by cases n <;> rfl
theorem QL (n:Nat):V.lvl n .c9=true:=by cases n <;> rfl
theorem N9 (n:Nat):V.lvl n .gV=true:=by cases n <;> rfl
theorem k9 (n:Nat):V.c7 n []=true:=by cases n <;> rfl
theorem jv (n:Nat) (x:V) (r:List V):V.c7 n (x::r)=(V.lvl n x&&V.c7 n r):=by cases n <;> rfl
section
variable {S:Sys} {c:cq}
def LX (x:Option SV) (b:Bool) (y z:Option St):Option St:=
 match x with
 | some (.v (.bool t))=>bg (t==b) y z
 | some (.v _)=>z
 | _=>none
@[congr] theorem SK {x B:Option SV} {b:Bool} {y z:Option St} (h:x=B):LX x b y z=LX B b y z:=by rw[h]
def PF {β:Type} (x:Option SV) (y z:Option β):Option β:=
 match x with
 | some (.v (.bool t))=>bg t y z
 | _=>none
@[congr] theorem T0 {β:Type} {x B:Option SV} {y z:Option β} (h:x=B):PF x y z=PF B y z:=by rw[h]
def mX (c:cq) (f:FuncId) (az:List V):Option (List V):=(c f (az.map .v) []).bind λr=>cG r.2 8 r.1
def FX (now:Bool) (args:List SV) (ok:Bool) (st:St) (ys:List V):Option (SV×St):=
 if V.lvl 8 (result ys)&&((result ys).scalar||ok)then some (.v (result ys),st)else if V.lvl 8 (result ys)&&now then(rowsOf args).map λq=>(.v (result ys),{ st with m:=nO q st.m })else none
theorem Ia (dst:Option Nat) (dr now:Bool) (old:List SV->Bool) (f:FuncId) (args:List SV) (st:St) (hk:S.E.keep f=false) :
 iY S c dst dr now old f args st=(cG st.m 8 args).bind λaz=>if V.c7 8 az&&(now||old args)then(mX c f az).bind (FX now args (dG args).isSome st)else none:=by
 unfold iY mX;simp only[hk,Bool.false_eq_true,if_false]
 cases cG st.m 8 args with
 | none=>rfl
 | some az=>
  simp only[ζb];split
  .cases c f (az.map .v) []with
   | none=>rfl
   | some r=>
    obtain⟨rs,m'⟩:=r;simp only[ζb];cases cG m' 8 rs <;> rfl
  .rfl
end
section
variable {S:Sys} {T:rU}
def F9 (rs:List RV):Out×St->Option (List V)
 | (.exit _,_)=>none
 | (_,st)=>(nW st rs).bind (cG st.m 8)
theorem N7 {f:FuncId} {rf:RF} (B:T f=some rf) (az:List V) (D:az.length<=rf.na):mX (eO S T) f az=go S (eO S T) (F9 rf.rs) rf.body [] (start (az.map .v) []):=by
 unfold mX;rw[yd B];unfold oR;rw[if_pos (by simpa using D),<-Ga]
 cases h:cA S (eO S T) rf.body (start (az.map .v) [])with
 | none=>rfl
 | some r=>
  obtain⟨o,st⟩:=r;cases o <;> simp only[ζb,F9] <;> (try rfl) <;> (cases nW st rf.rs <;> rfl)
end
end Go.VE
namespace Go.VE
variable [bX]
variable {N:Nat->FuncId}
theorem Fy (o:Nat) (cs:List V):bh N (.fieldAddr o) [.fptr cs]=if o<=cs.length then some (.fptr (cs.drop o))else none:=rfl
def kH (s:ByteArray) (n:Int):Option Int:=if 0<=n then(s[n.toNat]?).map λb=>(b.toNat:Int)else none
theorem Lw (s:ByteArray) (k:IntKind) (n:Int):bh N .idxStr [.str s,.int k n]=(kH s n).bind λx=>some (.int .u8 x):=by
 simp only[bh,kH];split
 .cases s[n.toNat]? <;> rfl
 .rfl
theorem Nj (z:List V) (pl:List (Nat×Nat)) (vs:List V):bh N (.build z pl) vs=(kB z pl vs).bind λcs=>some (.agg cs):=by
 simp only[bh];cases kB z pl vs <;> rfl
section
variable {α:Type} [bE α]
theorem Du (s:Sl α) (k:IntKind) (i:Int) (n:Nat) (B:n=bE.size α):bh N (.idxS n) [bV s,.int k i]=(idx s i).bind λx=>some (.fptr (cells x)):=by
 rw[ON s k i B];cases idx s i <;> rfl
theorem yj (s:Sl α):bh N .lenSl [bV s]=some (.int .i64 s.l.length):=KP s
def Sl.isNil {α:Type} (s:Sl α):Option Bool:=
 match s with
 | .nil=>some true
 | .emp=>none
 | _=>some false
theorem Of (q:Option Nat) (s:Sl α):bh N (.bin (some .slice) q .eql) [bV s,.bH]=s.isNil.bind λt=>some (.bool t):=by
 cases s <;> rfl
def fQ (s:Sl α) (B D:Option Int):Option (Sl α):=
 (dN s.l.length B D).map λ(l,h)=>match s with
  | .nil=>.nil
  | .emp=>.emp
  | .row x=>.part ((x.take h).drop l)
  | .part x=>.part ((x.take h).drop l)
theorem KF (s:Sl α) (B D:Option Int) (n:Nat) (G:n=bE.size α):hG n (bV s) B D=(fQ s B D).bind λx=>some (bV x):=by
 subst G
 cases s with
 | nil=>simp only[bV,Sl.k,nF,hG,fQ,Sl.l,List.length_nil];cases dN 0 B D <;> rfl
 | emp=>simp only[bV,Sl.k,nF,hG,fQ,Sl.l,List.length_nil];cases dN 0 B D <;> rfl
 | row l=>simp only[bV,Sl.k,nF,hG,fQ,Sl.l,if_true,gN];cases dN l.length B D <;> simp[rows,List.map_take,List.map_drop]
 | part l=>simp only[bV,Sl.k,nF,hG,fQ,Sl.l,if_true,gN];cases dN l.length B D <;> simp[rows,List.map_take,List.map_drop]
end
theorem Lz (m:Tb bP) (n:Nat) (a:Bool) (cs:List V):oT m (.load n a) [.v (.fptr cs)]=(cut cs 0 n).bind λr=>(mk a r).bind λx=>some (.v x):=by
 simp only[oT,dY]
 cases cut cs 0 n with
 | none=>rfl
 | some r=>simp only[ζb];cases mk a r <;> rfl
end Go.VE
namespace Go.VE
variable [bX]
section
variable {α:Type} [bE α]
def cT (s:Sl α):bP:=.sl s.k (bE.size α) (rows s.l)
def Sl.lQ (s:Sl α) (i:Int):Option Nat:=if 0<=i/\i.toNat<s.l.length then some i.toNat else none
def Sl.get (s:Sl α) (i:Nat):Option α:=s.l[i]?
def Sl.put (s:Sl α) (i:Nat) (x:α):Option (Sl α):=
 if i<s.l.length then some (match s with|.row l=>.row (l.set i x)|.part l=>.part (l.set i x)|s=>s)else none
def gU (s:Sl α) (x:α):Option (Sl α):=if s.l.length+1<=2147483648 then some (.row (s.l++[x]))else none
def kf (n:Int) (z:α):Option (Sl α):=if 0<=n/\n<=2147483648 then some (.row (List.replicate n.toNat z))else none
end
section
variable {α:Type} [bE α] {N:Nat->FuncId} {m:Tb bP}
def JB (n d:Nat) (o:Option bP) (i:Int):Option SV:=
 match o with
 | some (.sl k es q)=>if cF k/\es=n/\0<=i/\i.toNat<q.length then some (.el d i.toNat 0)else none
 | _=>none
theorem Rg (n d:Nat) (k:IntKind) (i:Int):jl N m (.idxS n) [.own d,.v (.int k i)]=JB n d (bk m d) i:=by
 simp[jl,dG,wH,JB]
 grind
theorem QV (n d:Nat) (s:Sl α) (i:Int) (h:n=bE.size α):JB n d (some (cT s)) i=(s.lQ i).bind λj=>some (.el d j 0):=by
 simp[JB,cT,gN,Sl.lQ]
 cases s with
 | nil=>simp[Sl.l,cF]
 | emp=>simp[Sl.l,cF]
 | row l=>simp[Sl.k,Sl.l,cF];grind
 | part l=>simp[Sl.k,Sl.l,cF];grind
def J_ (o:Option bP):Option SV:=
 match o with
 | some (.sl _ _ q)=>some (.v (.int .i64 q.length))
 | _=>none
theorem Nz (d:Nat):jl N m .lenSl [.own d]=J_ (bk m d):=by
 simp[jl,dG,wH,J_]
 grind
theorem Q7 (s:Sl α):J_ (some (cT s))=some (.v (.int .i64 s.l.length)):=by simp[J_,cT,gN]
def Pb (n:Nat) (a:Bool) (o:Nat) (ob:Option bP):Option SV:=
 match ob with
 | some (.box q)=>vc n a ((q.drop o).take n)
 | _=>none
theorem VA (n:Nat) (a:Bool) (d o:Nat):oT m (.load n a) [.ptr d o]=Pb n a o (bk m d):=by
 rfl
theorem KZ (n:Nat) (a:Bool) (o:Nat) (cs:List SV):Pb n a o (some (.box cs))=vc n a ((cs.drop o).take n):=rfl
def Gm (n:Nat) (a:Bool) (i o:Nat) (ob:Option bP):Option SV:=
 match ob with
 | some (.sl _ _ q)=>match q[i]? with
  | some t=>((cut t o n).bind (mk a)).map .v
  | none=>none
 | _=>none
theorem T7 (n:Nat) (a:Bool) (d i o:Nat):oT m (.load n a) [.el d i o]=Gm n a i o (bk m d):=by
 rfl
theorem Lt (n:Nat) (a:Bool) (i o:Nat) (s:Sl α):Gm n a i o (some (cT s))=(s.get i).bind λx=>(cut (cells x) o n).bind λr=>(mk a r).bind λy=>some (.v y):=by
 simp only[Gm,cT,Sl.get,rows,List.getElem?_map]
 cases s.l[i]? with
 | none=>rfl
 | some x=>
  simp only[Option.map_some,ζb]
  cases cut (cells x) o n with
  | none=>rfl
  | some r=>simp ;cases mk a r <;> rfl
theorem U9 (z:α) (n:Int) (d:Nat) (size:Nat) (zero:List V) (h:zero=cells z) (B:size=bE.size α) :
 pE m (.makeSl size zero) [.v (.int .i64 n),.v (.int .i64 n)] d=(kf n z).bind λs=>some (cT s,.own d):=by
 subst h B;simp[pE,kf];split
 .simp[cT,Sl.k,Sl.l,rows]
 .rfl
def CV (st:St) (d i o size:Nat) (x:V) (ob:Option bP):Option (SV×St):=
 match ob with
 | some (.sl k es t)=>match t[i]? with
  | some q=>if x.cells.length=size/\o+size<=q.length/\x.cells.all V.one=true then
   some (.v .undef,{ st with m:=bT st.m d (.sl k es (t.set i (q.take o++x.cells++q.drop (o+x.cells.length)))) })else none
  | none=>none
 | _=>none
theorem Jq (st:St) (dst:Option Nat) (size d i o:Nat) (x:V):jN st dst (.store size) [.el d i o,.v x]=CV st d i o size x (bk st.m d):=by
 rfl
theorem Jc (g:Tb SV) (p:List Nat) (w:List (List V)) (B:Bool) (y:Nat) (d i size:Nat) (x:V) (a:α) (D:x.cells=cells a) (G:size=bE.size α) (s:Sl α) :
 CV ⟨g,m,p,w,B,y⟩ d i 0 size x (some (cT s))=(s.put i a).bind λJ=>some (.v .undef,⟨g,bT m d (cT J),p,w,B,y⟩):=by
 have h1:(cells a).all V.one=true:=bE.one a;have t:∀b:α,(cells b).length=bE.size α:=bE.len;subst G;simp only[CV,cT,rows,List.getElem?_map,D,Sl.put]
 by_cases q:i<s.l.length
 .have hg  := ζd q;rw[if_pos q,hg];simp[t,h1]
  cases s with
  | nil=>simp[Sl.l]at q
  | emp=>simp[Sl.l]at q
  | row l=>simp[Sl.k,Sl.l,List.drop_of_length_le,t]
  | part l=>simp[Sl.k,Sl.l,List.drop_of_length_le,t]
 grind
def uD (st:St) (t n:Nat) (s:SV) (xs ys:Option (List (List V))):Option (SV×St):=
 match xs,ys with
 | some _,some []=>match s with
  | .own d=>match bk st.m d with
   | some ob=>if St.new { st with m:=en d st.m } t then some (.own t,{ st with m:=bT (en d st.m) t ob })else none
   | none=>none
  | .v .bH=>if st.new t then some (.own t,{ st with m:=bT st.m t (.sl .nil n []) })else none
  | .v .c9=>if st.new t then some (.own t,{ st with m:=bT st.m t (.sl .emp n []) })else none
  | _=>none
 | some xs,some ys=>
  if xs.length+ys.length<=2147483648/\Bw s=true then
   if St.new { st with m:=giveUp st.m s } t then some (.own t,{ st with m:=bT (giveUp st.m s) t (.sl .row n (xs++ys)) })else none
  else none
 | _,_=>none
theorem vY (st:St) (t n:Nat) (s x:SV):jN st (some t) (.append n) [s,x]=uD st t n s (kg st.m n s) (kg st.m n x):=by
 cases s <;> cases x <;> (rfl)
def Kn (n:Nat) (o:Option bP):Option (List (List V)):=
 match o with
 | some (.sl k es q)=>if cF k then(if es=n then some q else none)else some []
 | _=>none
theorem C6 (n d:Nat):kg m n (.own d)=Kn n (bk m d):=by
 simp[kg,Kn]
 grind
theorem Ax (n:Nat) (s:Sl α) (h:n=bE.size α):Kn n (some (cT s))=some (rows s.l):=by
 subst h;cases s <;> simp[Kn,cT,Sl.k,Sl.l,cF,rows]
theorem Ql (n:Nat):kg m n (.v .bH)=some []:=rfl
theorem P5 (n:Nat):kg m n (.v .c9)=some []:=rfl
theorem LQ (g:Tb SV) (p:List Nat) (w:List (List V)) (B:Bool) (y:Nat) (t n d:Nat) (l:List α) (x:α) (h:n=bE.size α):uD ⟨g,m,p,w,B,y⟩ t n (.own d) (some (rows l)) (some (rows [x])) =
 (gU (.row l) x).bind λs=>if St.new ⟨g,en d m,p,w,B,y⟩ t then some (.own t,⟨g,bT (en d m) t (cT s),p,w,B,y⟩)else none:=by
 subst h;have e:(rows l).length+(rows [x]).length=l.length+1:=by simp[gN]
 by_cases h:l.length+1<=2147483648
 .have h1:gU (.row l) x=some (.row (l++[x])):=if_pos h;have u:uD ⟨g,m,p,w,B,y⟩ t (bE.size α) (.own d) (some (rows l)) (some (rows [x]))=if St.new ⟨g,en d m,p,w,B,y⟩ t then some (.own t,⟨g,bT (en d m) t (.sl .row (bE.size α) (rows l++rows [x])),p,w,B,y⟩)else none:=if_pos ⟨by omega,rfl⟩
  rw[h1,u];simp[cT,Sl.k,Sl.l,rows]
 .have h1:gU (.row l) x=none:=if_neg h;have u:uD ⟨g,m,p,w,B,y⟩ t (bE.size α) (.own d) (some (rows l)) (some (rows [x]))=none:=if_neg (λq=>h (by omega))
  grind
theorem Mw (g:Tb SV) (p:List Nat) (w:List (List V)) (B:Bool) (y:Nat) (t n:Nat) (x:α) (h:n=bE.size α):uD ⟨g,m,p,w,B,y⟩ t n (.v .bH) (some []) (some (rows [x])) =
 if St.new ⟨g,m,p,w,B,y⟩ t then some (.own t,⟨g,bT m t (cT (.row [x])),p,w,B,y⟩)else none:=by
 subst h;rfl
theorem K9 (g:Tb SV) (p:List Nat) (w:List (List V)) (B:Bool) (y:Nat) (t n:Nat) (x:α) (h:n=bE.size α):uD ⟨g,m,p,w,B,y⟩ t n (.v .c9) (some []) (some (rows [x])) =
 if St.new ⟨g,m,p,w,B,y⟩ t then some (.own t,⟨g,bT m t (cT (.row [x])),p,w,B,y⟩)else none:=by
 subst h;rfl
end
theorem xq (g:Tb SV) (m:Tb bP) (p:List Nat) (w:List (List V)) (B:Bool) (y d:Nat):St.new ⟨g,m,p,w,B,y⟩ d=(!(p.contains d)&&(bk m d).isNone && !(uS d g) && !(r_ d m)):=rfl
theorem rj (d:Nat):uS d []=false:=rfl
theorem qe (d n:Nat) (x:SV) (r:Tb SV):uS d ((n,x)::r)=(SV.cR d x||uS d r):=rfl
theorem rV (d:Nat):r_ d []=false:=rfl
theorem pS (d n:Nat) (x:bP) (r:Tb bP):r_ d ((n,x)::r)=(bP.cR d x||r_ d r):=rfl
theorem xm (d:Nat) (x:V):SV.cR d (.v x)=false:=rfl
theorem sR (d e:Nat):SV.cR d (.own e)=(e==d):=rfl
theorem tg (d e o:Nat):SV.cR d (.ptr e o)=(e==d):=rfl
theorem vh (d e i o:Nat):SV.cR d (.el e i o)=(e==d):=rfl
theorem vl (d e:Nat):SV.cR d (.mp e)=(e==d):=rfl
theorem tH (d:Nat) (f:FuncId) (a b:List SV):SV.cR d (.clo f a b)=(SV.dH d a||SV.dH d b):=rfl
theorem tJ (d:Nat) (l:List SV):SV.cR d (.tup l)=SV.dH d l:=rfl
theorem rW (d:Nat):SV.dH d []=false:=rfl
theorem qc (d:Nat) (x:SV) (r:List SV):SV.dH d (x::r)=(SV.cR d x||SV.dH d r):=rfl
theorem rM (d:Nat) (cs:List SV):bP.cR d (.box cs)=SV.dH d cs:=rfl
theorem Eu (m:Tb bP) (n:Nat):cG m n []=some []:=by cases n <;> simp[cG]
theorem CO (m:Tb bP) (n:Nat) (x:SV) (r:List SV):cG m n (x::r)=(shut m n x).bind λy=>(cG m n r).bind λs=>some (y::s):=by
 cases n <;> (simp[cG];cases shut m _ x <;> (try rfl) <;> (cases cG m _ r <;> rfl))
theorem Sz (m:Tb bP) (n:Nat) (x:V):shut m n (.v x)=some x:=by cases n <;> simp[shut]
theorem OM (m:Tb bP) (n:Nat) (f:FuncId) (a b:List SV):shut m (n+1) (.clo f a b)=(cG m n a).bind λx=>(cG m n b).bind λy=>some (.clo f x y):=by
 simp[shut];cases cG m n a <;> (try rfl) <;> (cases cG m n b <;> rfl)
theorem OE (m:Tb bP) (n:Nat) (l:List SV):shut m (n+1) (.tup l)=(cG m n l).bind λx=>some (.tup x):=by
 simp[shut];cases cG m n l <;> rfl
theorem MS (m:Tb bP) (n:Nat) (l:List SV):shut m (n+1) (.agg l)=(cG m n l).bind λx=>some (.agg x):=by
 simp[shut];cases cG m n l <;> rfl
theorem tv {α:Type} (n:Nat):en n ([]:Tb α)=[]:=rfl
theorem ru {α:Type} (n k:Nat) (x:α) (r:Tb α):en n ((k,x)::r)=if k=n then en n r else(k,x)::en n r:=rfl
theorem mapM_nil (f:List SV->List SV):mapM f []=[]:=rfl
end Go.VE
namespace Go.VE
variable [bX]
section
variable {N:Nat->FuncId} {m:Tb bP}
theorem QI:result []=.tup []:=rfl
theorem QH (x:V):result [x]=x:=rfl
theorem QW (x y:V) (l:List V):result (x::y::l)=.tup (x::y::l):=rfl
theorem Hp (p:uP) (a:V):jl N m p [.v a]=(bh N p [a]).bind λx=>some (.v x):=Iy N m p _ [a] rfl
theorem yx (p:uP) (a b:V):jl N m p [.v a,.v b]=(bh N p [a,b]).bind λx=>some (.v x):=Iy N m p _ [a,b] rfl
theorem qT (l:List V):dG (l.map .v)=some l:=by
 induction l with
 | nil=>rfl
 | cons a l q=>simp only[List.map_cons,dG,q];rfl
theorem wD (n:Nat) (l:List V):cG m n (l.map .v)=some l:=by
 induction l with
 | nil=>exact Eu m n
 | cons a l q=>rw[List.map_cons,CO,Sz,q];rfl
theorem Sl.PK {α:Type} (l:List α):(Sl.row l).l=l:=rfl
theorem mF (cs:List V):kB cs [] []=some cs:=rfl
theorem lq (cs:List V) (off size:Nat) (pl:List (Nat×Nat)) (v:V) (vs:List V):kB cs ((off,size)::pl) (v::vs) =
 if v.cells.length=size/\off+v.cells.length<=cs.length then kB (cs.take off++v.cells++cs.drop (off+v.cells.length)) pl vs else none:=by
 simp only[kB]
 by_cases h:v.cells.length=size <;> by_cases t:off+v.cells.length<=cs.length
 .rw[if_neg (by simp[h];omega),if_pos ⟨h,t⟩]
 .rw[if_pos (by simp[h];omega),if_neg (λq=>t q.2)]
 .rw[if_pos (by simp[h]),if_neg (λq=>h q.1)]
 .rw[if_pos (by simp[h]),if_neg (λq=>h q.1)]
theorem qx (k:IntKind) (n:Int):V.cells (.int k n)=[.int k n]:=rfl
theorem oA (n:Bool):V.cells (.bool n)=[.bool n]:=rfl
theorem qt (n:ByteArray):V.cells (.str n)=[.str n]:=rfl
theorem qA:V.cells .bH=[.bH]:=rfl
theorem rT (k:IntKind) (n:Int):V.one (.int k n)=true:=rfl
theorem o8 (n:Bool):V.one (.bool n)=true:=rfl
theorem rF (n:ByteArray):V.one (.str n)=true:=rfl
end
end Go.VE
namespace Go.VE
variable [bX]
section
variable {S:Sys} {c:cq} {β γ δ:Type} {Q:Out×St->Option β} {L:Option β} {e:γ->Option β}
theorem Lp {dr:Bool} {fr:List Nat} {d:Option Nat} {gd:Option (Nat×Bool)} {now:Bool} {k:K} {az:List Arg} {st:St} (h:wanted st.g gd=some true) :
 fA S c dr fr ⟨d,gd,now,k,az,[],[]⟩ st=fA S c dr fr ⟨d,none,now,k,az,[],[]⟩ st:=by
 unfold fA;rw[h];rfl
theorem BE (dr:Bool) (st:St):Bo dr [] st=some st:=by cases dr <;> rfl
def nD (f:SV->Option V):List SV->Option (List V)
 | []=>some []
 | x::r=>(f x).bind λy=>(nD f r).bind λs=>some (y::s)
def iX (m:Tb bP):Nat->SV->Option V
 | 0,x=>match x with
  | .v y=>some y
  | .own d=>match bk m d with
   | some (.sl k es xs)=>some (nF k es xs)
   | _=>none
  | .mp d=>match bk m d with
   | some (.mp B)=>some (.fmap B)
   | _=>none
  | _=>none
 | n+1,x=>match x with
  | .v y=>some y
  | .own d=>match bk m d with
   | some (.sl k es xs)=>some (nF k es xs)
   | _=>none
  | .ptr d o=>match bk m d with
   | some (.box cs)=>match nD (iX m n) cs with
    | some xs=>if o<=xs.length then some (.fptr (xs.drop o))else none
    | none=>none
   | _=>none
  | .mp d=>match bk m d with
   | some (.mp B)=>some (.fmap B)
   | _=>none
  | .clo f a b=>(nD (iX m n) a).bind λx=>(nD (iX m n) b).bind λy=>some (.clo f x y)
  | .tup l=>(nD (iX m n) l).bind λx=>some (.tup x)
  | .agg l=>(nD (iX m n) l).bind λx=>some (.agg x)
  | _=>none
theorem xD (m:Tb bP):∀(n:Nat),(∀x,shut m n x=iX m n x)/\∀l,cG m n l=nD (iX m n) l:=by
 have t:∀n,(∀x,shut m n x=iX m n x)->∀l,cG m n l=nD (iX m n) l:=by
  intro n h l
  induction l with
  | nil=>exact Eu m n
  | cons a l q=>rw[CO,h a,q];rfl
 intro n
 induction n with
 | zero=>
  have h0:∀x,shut m 0 x=iX m 0 x:=by
   intro x;cases x <;> simp[shut,iX] <;> rfl
  grind
 | succ n q=>
  have h1:∀x,shut m (n+1) x=iX m (n+1) x:=by
   intro x
   cases x with
   | ptr d o=>simp[shut,iX,q.2];rfl
   | clo f a b=>rw[OM,q.2,q.2];rfl
   | tup l=>rw[OE,q.2];rfl
   | agg l=>rw[MS,q.2];rfl
   | _=>simp[shut,iX] <;> rfl
  grind
noncomputable def uM (S:Sys) (c:cq) (dr:Bool):List Nat->List RO->(St->Option β)->St->Option β
 | _,[],k,st=>k st
 | fr,o::r,k,st=>((Bo dr o.pre st).bind (fA S c dr fr o.strip)).bind λst'=>uM S c dr (if dr then qD fr o.strip else fr) r k (oS o.dead st')
theorem Dd (dr:Bool):∀(l:List RO) (fr:List Nat) (k:St->Option β) (st:St),uM S c dr fr l k st=(mR S c dr fr l st).bind k
 | [],_,_,_=>rfl
 | o::r,fr,k,st=>by
  simp[uM,mR]
  cases (Bo dr o.pre st).bind (fA S c dr fr o.strip)with
  | none=>rfl
  | some st'=>exact Dd dr r _ k _
noncomputable def oU (S:Sys) (c:cq):RC->(St->Option β)->(Nat->St->Option β)->(St->Option β)->St->Option β
 | .skip,n,_,_,st=>n st
 | .ops l,n,_,_,st=>uM S c false [] l n st
 | .oO l,n,_,_,st=>uM S c true [] l n st
 | .seq a b,n,x,r,st=>oU S c a (λst=>oU S c b n x r st) x r st
 | .cond y a b,n,x,r,st=>match ql S.N st.g y with
  | some (.v (.bool t))=>bg t (oU S c a n x r st) (oU S c b n x r st)
  | _=>none
 | .block id a,n,x,r,st=>oU S c a n (λk st=>if k=id then n st else x k st) r st
 | .loop a,n,x,r,st=>(nV (cA S c a) st).bind λq=>match q with|(.norm,st)=>n st|(.exit k,st)=>x k st|(.ret,st)=>r st
 | .each g ps a b,n,x,r,st=>(cA S c (.each g ps a b) st).bind λq=>match q with|(.norm,st)=>n st|(.exit k,st)=>x k st|(.ret,st)=>r st
 | .exit k,_,x,_,st=>x k st
 | .ret,_,_,r,st=>r st
 | .gh g a,n,x,r,st=>(ghost g st).bind λst=>oU S c a n x r st
 | .hg a g,n,x,r,st=>oU S c a (λst=>(ghost g st).bind n) x r st
def Db (n:St->Option β) (x:Nat->St->Option β) (r:St->Option β):Out×St->Option β
 | (.norm,st)=>n st
 | (.exit k,st)=>x k st
 | (.ret,st)=>r st
theorem Cl:∀(rc:RC) (n:St->Option β) (x:Nat->St->Option β) (r:St->Option β) (st:St),oU S c rc n x r st=(cA S c rc st).bind (Db n x r):=by
 intro rc
 induction rc with
 | skip=>intros;rfl
 | ops l=>intro n x r st;simp[oU,cA,Dd];cases mR S c false [] l st <;> rfl
 | oO l=>intro n x r st;simp[oU,cA,Dd];cases mR S c true [] l st <;> rfl
 | seq a b u w=>
  intro n x r st;simp[oU,cA,u,w]
  cases h:cA S c a st with
  | none=>rfl
  | some q=>obtain⟨o,st'⟩:=q;cases o <;> rfl
 | cond y a b u w=>
  intro n x r st;simp[oU,cA,u,w]
  cases ql S.N st.g y with
  | none=>rfl
  | some v=>cases v with
   | v z=>cases z with
    | bool t=>cases t <;> rfl
    | _=>rfl
   | _=>rfl
 | block id a A=>
  intro n x r st;simp[oU,cA,A]
  cases h:cA S c a st with
  | none=>rfl
  | some q=>
   obtain⟨o,st'⟩:=q
   cases o with
   | exit k=>simp[Db];split <;> rfl
   | _=>rfl
 | loop a A=>
  intro n x r st;rfl
 | each g B a b u w=>
  intro n x r st;rfl
 | exit k=>intros;rfl
 | ret=>intros;rfl
 | gh g a A=>
  simp[oU,cA,A]
  grind
 | hg a g A=>
  intro n x r st;simp[oU,cA,A]
  cases h:cA S c a st with
  | none=>rfl
  | some q=>
   obtain⟨o,st'⟩:=q
   cases o with
   | norm=>simp[Db];cases ghost g st' <;> rfl
   | _=>rfl
section
variable (S c Q)
mutual
noncomputable def mE:List Fm->St->Option β
 | []=>λst=>Q (.norm,st)
 | .seq b::fs=>λst=>oU S c b (mE fs) (mH fs) (λst=>Q (.ret,st)) st
 | .blk _::fs=>mE fs
 | .gst g::fs=>λst=>(ghost g st).bind (mE fs)
noncomputable def mH:List Fm->Nat->St->Option β
 | []=>λk st=>Q (.exit k,st)
 | .seq _::fs=>mH fs
 | .blk id::fs=>λk st=>if k=id then mE fs st else mH fs k st
 | .gst _::fs=>mH fs
end
noncomputable def l8 (rc:RC) (fs:List Fm) (st:St):Option β:=oU S c rc (mE S c Q fs) (mH S c Q fs) (λst=>Q (.ret,st)) st
end
section
variable {dr:Bool} {fr:List Nat} {d:Nat} {dst:Option Nat} {now:Bool} {az:List Arg} {st:St} {α:Type} [bE α]
theorem Lj {p:uP} {svs:List SV} {m:Option δ} {v:δ->SV} (B:bZ S.N st.g az=some svs) (D:isSlice p=false) (h:jl S.N st.m p svs=m.bind λx=>some (v x)) :
 fA S c dr fr ⟨dst,none,now,.p p,az,[],[]⟩ st=m.bind λx=>some (cZ st dst (v x)):=by
 rw[PD _ _ _ _ _ _ _ D,B]
 grind
theorem za {p:uP} {svs:List SV} {v:SV} (B:bZ S.N st.g az=some svs) (D:isSlice p=false) (h:jl S.N st.m p svs=some v) :
 fA S c dr fr ⟨dst,none,now,.p p,az,[],[]⟩ st=some (cZ st dst v):=by
 rw[PD _ _ _ _ _ _ _ D,B]
 grind
theorem OY {n:Nat} {s:Sl α} {k:IntKind} {i:Int} (B:bZ S.N st.g az=some [.v (bV s),.v (.int k i)]) (D:n=bE.size α) :
 fA S c dr fr ⟨dst,none,now,.p (.idxS n),az,[],[]⟩ st=(idx s i).bind λx=>some (cZ st dst (.v (.fptr (cells x)))):=
 Lj B rfl (by rw[yx,Du s k i n D];grind)
theorem Ub {n e:Nat} {s:Sl α} {k:IntKind} {i:Int} (B:bZ S.N st.g az=some [.own e,.v (.int k i)]) (D:bk st.m e=some (cT s)) (G:n=bE.size α) :
 fA S c dr fr ⟨dst,none,now,.p (.idxS n),az,[],[]⟩ st=(s.lQ i).bind λj=>some (cZ st dst (.el e j 0)):=
 Lj B rfl (by rw[Rg,D,QV n e s i G])
theorem Pr {s:Sl α} (B:bZ S.N st.g az=some [.v (bV s)]):fA S c dr fr ⟨dst,none,now,.p .lenSl,az,[],[]⟩ st=some (cZ st dst (.v (.int .i64 s.l.length))):=
 za B rfl (by rw[Hp,yj];rfl)
theorem Tc {e:Nat} {s:Sl α} (B:bZ S.N st.g az=some [.own e]) (D:bk st.m e=some (cT s)):fA S c dr fr ⟨dst,none,now,.p .lenSl,az,[],[]⟩ st=some (cZ st dst (.v (.int .i64 s.l.length))):=
 za B rfl (by rw[Nz,D,Q7])
theorem Qt {u:Option Nat} {s:Sl α} (B:bZ S.N st.g az=some [.v (bV s),.v .bH]):fA S c dr fr ⟨dst,none,now,.p (.bin (some .slice) u .eql),az,[],[]⟩ st=s.isNil.bind λt=>some (cZ st dst (.v (.bool t))):=
 Lj B rfl (by rw[yx,Of];grind)
theorem NH {s:ByteArray} {k:IntKind} {n:Int} (B:bZ S.N st.g az=some [.v (.str s),.v (.int k n)]):fA S c dr fr ⟨dst,none,now,.p .idxStr,az,[],[]⟩ st=(kH s n).bind λx=>some (cZ st dst (.v (.int .u8 x))):=
 Lj B rfl (by rw[yx,Lw];grind)
theorem SL {n e i o:Nat} {a:Bool} {s:Sl α} {v:α->V} (B:bZ S.N st.g az=some [.el e i o]) (D:(!dr||now||e_ fr [.el e i o])=true) (G:bk st.m e=some (cT s)) (hv:∀x:α,(cut (cells x) o n).bind (mk a)=some (v x)) :
 fA S c dr fr ⟨dst,none,now,.r (.load n a),az,[],[]⟩ st=(s.get i).bind λx=>some (cZ st dst (.v (v x))):=by
 rw[E5,B];simp only[ζb,D,T7,G,Lt]
 cases s.get i with
 | none=>rfl
 | some x=>
  cases hc:cut (cells x) o n with
  | none=>grind
  | some r=>grind
theorem Q1 {n e i:Nat} {s:Sl α} {x:V} {a:α} (B:bZ S.N st.g az=some [.el e i 0,.v x]) (D:(!dr||now)=true) (G:bk st.m e=some (cT s)) (J:x.cells=cells a) (O:n=bE.size α) :
 fA S c dr fr ⟨dst,none,now,.l (.store n),az,[],[]⟩ st=(s.put i a).bind λU=>some (cZ { st with m:=bT st.m e (cT U) } dst (.v .undef)):=by
 rw[sy,B];simp[D,Jq,G];rw[Jc st.g st.pin st.want st.more st.yid e i n x a J O s]
 grind
theorem Sv {n:Nat} {z:α} {zero:List V} {i:Int} (B:bZ S.N st.g az=some [.v (.int .i64 i),.v (.int .i64 i)]) (D:zero=cells z) (G:n=bE.size α) (J:st.new d=true) :
 fA S c dr fr ⟨some d,none,now,.a (.makeSl n zero),az,[],[]⟩ st=(kf i z).bind λs=>some { st with g:=bT st.g d (.own d),m:=bT st.m d (cT s) }:=by
 rw[CG,B];simp[J];rw[U9 z i d n zero D G]
 grind
theorem U0 {n e u:Nat} {s:Sl α} {x:α} (G:bZ S.N st.g az=some [.own e,.own u]) (J:(!dr||now)=true) (O:bk st.m e=some (cT s)) (hu:bk st.m u=some (cT (.row [x]))) (B:n=bE.size α) (U:St.new { st with m:=en e st.m } d=true) :
 fA S c dr fr ⟨some d,none,now,.l (.append n),az,[],[]⟩ st=(gU s x).bind λD=>some { st with g:=bT st.g d (.own d),m:=bT (en e st.m) d (cT D) }:=by
 rw[sy,G];simp[J,vY,C6,O,hu];rw[Ax n s B,Ax n (.row [x]) B];have:=LQ (m:=st.m) st.g st.pin st.want st.more st.yid d n e s.l x B;simp[Sl.PK];rw[this];have q:gU (.row s.l) x=gU s x:=by cases s <;> rfl
 rw[q]
 cases gU s x with
 | none=>rfl
 | some D=>
  simp;rw[if_pos U];rfl
theorem Tp {n u:Nat} {x:α} {v:V} (hv:v=.bH\/v=.c9) (G:bZ S.N st.g az=some [.v v,.own u]) (J:(!dr||now)=true) (hu:bk st.m u=some (cT (.row [x]))) (B:n=bE.size α) (D:st.new d=true) :
 fA S c dr fr ⟨some d,none,now,.l (.append n),az,[],[]⟩ st=some { st with g:=bT st.g d (.own d),m:=bT st.m d (cT (.row [x])) }:=by
 rw[sy,G];simp[J,vY,C6,hu];rw[Ax n (.row [x]) B];simp[Sl.PK];rcases hv with rfl|rfl
 .rw[Ql,Mw (m:=st.m) st.g st.pin st.want st.more st.yid d n x B];rw[if_pos D];rfl
 .rw[P5,K9 (m:=st.m) st.g st.pin st.want st.more st.yid d n x B];rw[if_pos D];rfl
theorem Tl {f:FuncId} {svs args:List SV} {cs:List V} {m:Option δ} {E:δ->List V} (hc:mX c f cs=m.bind λr=>some (E r)) (hk:S.E.keep f=false) (D:bZ S.N st.g az=some svs) (G:oK svs=some (f,args))
 (B:nD (iX st.m 8) args=some cs) (J:V.c7 8 cs=true) (O:((!dr||now)||ig st.m fr args)=true) (hr:∀r,(V.lvl 8 (result (E r))&&((result (E r)).scalar||(dG args).isSome))=true) :
 fA S c dr fr ⟨dst,none,now,.c,az,[],[]⟩ st=m.bind λr=>some (cZ st dst (.v (result (E r)))):=by
 rw[E6 dr fr dst now az st svs f args D G,Ia _ _ _ _ _ _ _ hk,(xD st.m 8).2,B];simp[J,O,hc]
 cases m with
 | none=>rfl
 | some r=>
  simp[FX]
  grind
end
end
end Go.VE
namespace Go.VE
variable [bX]
section
variable {S:Sys} {c:cq} {β γ:Type} {Q:Out×St->Option β} {L:Option β} {e:γ->Option β}
theorem tE (rc:RC) (st:St):l8 S c Q rc [] st=(cA S c rc st).bind Q:=by
 unfold l8;rw[Cl]
 congr 1
 funext q;obtain⟨o,st⟩:=q
 cases o <;> rfl
theorem Ab (rc:RC) (st:St):cA S c rc st=l8 S c some rc [] st:=by
 rw[tE];cases cA S c rc st <;> rfl
def qS (rs:List RV):Out×St->Option (List V)
 | (.exit _,_)=>none
 | (_,st)=>(nW st rs).bind (nD (iX st.m 8))
theorem Qp (rs:List RV):F9 rs=qS rs:=by
 funext q;obtain⟨o,st⟩:=q
 cases o
 .simp only[F9,qS];congr 1;funext l;exact(xD st.m 8).2 l
 .rfl
 .simp only[F9,qS];congr 1;funext l;exact(xD st.m 8).2 l
theorem Qw {S:Sys} {T:rU} {f:FuncId} {rf:RF} (B:T f=some rf) (az:List V) (D:az.length<=rf.na):mX (eO S T) f az=l8 S (eO S T) (qS rf.rs) rf.body [] (start (az.map .v) []):=by
 rw[N7 B az D,<-Ga,tE,Qp]
end
end Go.VE
namespace Go.VE
variable [bX]
def nY {α σ ε ρ:Type} (step:α->σ->Option (Fw σ ε ρ)):List α->σ->Option (Fw σ ε ρ)
 | [],s=>some (.n s)
 | x::xs,s=>(step x s).bind λw=>match w with
  | .n B=>nY step xs B
  | .x e=>some (.x e)
  | .r b=>some (.r b)
def Fw.vZ {ν ε ρ γ:Type} (fn:ν->γ) (B:ε->γ) (fr:ρ->γ):Fw ν ε ρ->γ
 | .n a=>fn a
 | .x e=>B e
 | .r b=>fr b
def Fw.vS {ν ε ρ:Type} (D:ν->Tb bP) (B:ε->Nat×Tb bP) (G:ρ->Tb bP):Fw ν ε ρ->Out×Tb bP
 | .n a=>(.norm,D a)
 | .x e=>(.exit (B e).1,(B e).2)
 | .r b=>(.ret,G b)
def vS (q:Out×St):Option (Out×Tb bP):=some (q.1,q.2.m)
section
variable {S:Sys} {c:cq} {β γ:Type} {Q:Out×St->Option β} {L:Option β} {e:γ->Option β}
noncomputable def xQ (S:Sys) (c:cq) (b:RC):Out×St->Option (Out×Tb bP)
 | (.norm,st)=>l8 S c vS b [] st
 | _=>none
theorem KG (ps:List Nat) (a b:RC) (st:St) (x:List V) (m:Tb bP) (B:x.length=ps.length) :
 iT ps (cA S c a) (cA S c b) st x m=l8 S c (xQ S c b) a [] ⟨v8 st.g ps (x.map .v),m,st.pin++oZ st.g,[],true,0⟩:=by
 unfold iT;rw[if_pos B,tE]
 cases cA S c a ⟨v8 st.g ps (x.map .v),m,st.pin++oZ st.g,[],true,0⟩with
 | none=>rfl
 | some q=>
  obtain⟨o,t⟩:=q
  cases o with
  | norm=>
   simp only[ζb,xQ];rw[tE];cases cA S c b t <;> rfl
  | _=>rfl
end
end Go.VE
namespace Go.VE
variable [bX]
def Le {α:Type} (a b:Option α):Prop:=∀r,a=some r->b=some r
section
variable {α:Type}
theorem Le.refl (a:Option α):Le a a:=λ_ h=>h
theorem Le.of_eq {a b:Option α} (h:b=a):Le a b:=λ_ q=>h.trans q
theorem Le.trans {a b d:Option α} (h1:Le a b) (B:Le b d):Le a d:=λr h=>B r (h1 r h)
theorem Le.none (b:Option α):Le (none:Option α) b:=λr h=>by cases h
theorem Le.bind {β:Type} {a b:Option α} {f g:α->Option β} (h:Le a b) (B:∀x,Le (f x) (g x)):Le (a.bind f) (b.bind g):=λr hr=>by
 obtain⟨x,h1,q⟩:=ζg.1 hr;rw[h x h1];exact B x r q
end
section
variable {S:Sys} {c:cq} {β γ δ:Type} {Q:Out×St->Option β} {L:Option β} {e:γ->Option β}
theorem GY {dr:Bool} {fr:List Nat} {dst:Option Nat} {now:Bool} {az:List Arg} {st:St} {f:FuncId} {svs args:List SV} {cs:List V} {m:Option δ} {E:δ->List V} (hc:Le (m.bind λr=>some (E r)) (mX c f cs)) (hk:S.E.keep f=false) (D:bZ S.N st.g az=some svs) (G:oK svs=some (f,args))
 (B:nD (iX st.m 8) args=some cs) (J:V.c7 8 cs=true) (O:((!dr||now)||ig st.m fr args)=true) (hr:∀r,(V.lvl 8 (result (E r))&&((result (E r)).scalar||(dG args).isSome))=true) :
 Le (m.bind λr=>some (cZ st dst (.v (result (E r))))) (fA S c dr fr ⟨dst,none,now,.c,az,[],[]⟩ st):=by
 intro q u;obtain⟨r,h1,w⟩:=ζg.1 u;have t:mX c f cs=(some r).bind λr=>some (E r):=hc _ (by rw[h1];rfl)
 rw[Tl (m:=some r) t hk D G B J O hr];exact w
theorem Oj {σ ε ρ:Type} {f:St->Option (Out×St)} {step:σ->Option (Fw σ ε ρ)} {B:σ->St} {D:ε->Nat×St} {G:ρ->St} (h:∀s,Le ((step s).bind λw=>some (Fw.out B D G w)) (f (B s))) (s:σ) :
 Le ((bG step s).bind λw=>some (Fw.out (λe=>Empty.elim e) D G w)) (nV f (B s)):=by
 have key:∀k s r,jA step k s=some r->ji f k (B s)=some (Fw.out (λe=>Empty.elim e) D G r):=by
  intro k
  induction k with
  | zero=>intro s r h;simp[jA]at h
  | succ k z=>
   intro s r q;simp only[jA]at q
   cases t:step s with
   | none=>rw[t]at q;cases q
   | some w=>
    rw[t]at q;have u:=h s (Fw.out B D G w) (by rw[t];rfl)
    simp only[ji,u]
    cases w with
    | n a=>exact z a r q
    | x e=>cases q;rfl
    | r b=>cases q;rfl
 intro r hr;obtain⟨w,h1,u⟩:=ζg.1 hr;obtain⟨k,hk⟩:=nK.1 h1;cases u;exact mD.2 ⟨k,key k s w hk⟩
theorem Uw {σ ε ρ:Type} {a:RC} {fs:List Fm} {step:σ->Option (Fw σ ε ρ)} {B:σ->St} {D:ε->Nat×St} {G:ρ->St} {s:σ} {J:ε->Option γ} {fr:ρ->Option γ}
 (O:L=l8 S c Q (.loop a) fs (B s)) (h:∀s,Le ((step s).bind λw=>some (Fw.out B D G w)) (l8 S c some a [] (B s)))
 (U:∀x,Le ((J x).bind e) (mH S c Q fs (D x).1 (D x).2)) (hr:∀b,Le ((fr b).bind e) (Q (.ret,G b))):Le (((bG step s).bind (Fw.elim J fr)).bind e) L:=by
 subst O;have h1:l8 S c Q (.loop a) fs (B s)=(nV (cA S c a) (B s)).bind (Db (mE S c Q fs) (mH S c Q fs) (λst=>Q (.ret,st))):=by
  unfold l8;rw[Cl];rfl
 rw[h1];have q:=Oj (step:=step) (f:=cA S c a) (B:=B) (D:=D) (G:=G) (λs=>by rw[Ab];exact h s) s
 cases t:bG step s with
 | none=>exact Le.none _
 | some w=>
  have u:=q _ (by rw[t];rfl)
  rw[u]
  cases w with
  | n a=>cases a
  | x a=>exact U a
  | r a=>exact hr a
theorem Fz {α σ ε ρ:Type} {f:List V->Tb bP->Option (Out×Tb bP)} {step:α->σ->Option (Fw σ ε ρ)} {eI:α->List V} {B:σ->Tb bP} {D:ε->Nat×Tb bP} {G:ρ->Tb bP}
 (h:∀x s,Le ((step x s).bind λw=>some (Fw.vS B D G w)) (f (eI x) (B s))):∀(xs:List α) (s:σ),Le ((nY step xs s).bind λw=>some (Fw.vS B D G w)) (qb f (xs.map eI) (B s))
 | [],s=>λr hr=>hr
 | x::xs,s=>by
  simp only[List.map_cons,qb,nY]
  cases J:step x s with
  | none=>exact Le.none _
  | some w=>
   have O:=h x s (Fw.vS B D G w) (by rw[J];rfl)
   rw[O]
   cases w with
   | n q=>simp only[ζb,Fw.vS];exact Fz h xs q
   | x e=>exact Le.refl _
   | r b=>exact Le.refl _
theorem UF {α σ ε ρ:Type} {g:Arg} {ps:List Nat} {a b:RC} {fs:List Fm} {f:FuncId} {x y:List V} {items:List α} {eI:α->List V} {step:α->σ->Option (Fw σ ε ρ)} {B:σ->Tb bP} {D:ε->Nat×Tb bP} {G:ρ->Tb bP} {gt:Tb SV} {s:σ}
 {fn:σ->Option γ} {J:ε->Option γ} {fr:ρ->Option γ}
 (O:L=l8 S c Q (.each g ps a b) fs ⟨gt,B s,[],[],true,0⟩) (hg:ql S.N gt g=some (.v (.clo f x y))) (U:S.items f x y=some (items.map eI)) (W:∀x,(eI x).length=ps.length)
 (h:∀x s,Le ((step x s).bind λw=>some (Fw.vS B D G w)) (l8 S c (xQ S c b) a [] ⟨v8 gt ps ((eI x).map .v),B s,oZ gt,[],true,0⟩))
 (Y:∀s,Le ((fn s).bind e) (mE S c Q fs ⟨gt,B s,[],[],true,0⟩))
 (hx:∀x,Le ((J x).bind e) (mH S c Q fs (D x).1 ⟨gt,(D x).2,[],[],true,0⟩)) (hr:∀b,Le ((fr b).bind e) (Q (.ret,⟨gt,G b,[],[],true,0⟩))) :
 Le (((nY step items s).bind (Fw.vZ fn J fr)).bind e) L:=by
 subst O;have h1:l8 S c Q (.each g ps a b) fs ⟨gt,B s,[],[],true,0⟩=(cA S c (.each g ps a b) ⟨gt,B s,[],[],true,0⟩).bind (Db (mE S c Q fs) (mH S c Q fs) (λst=>Q (.ret,st))):=by
  unfold l8;rw[Cl]
 rw[h1];simp only[cA,hg,U];have q:=Fz (step:=step) (f:=iT ps (cA S c a) (cA S c b) ⟨gt,B s,[],[],true,0⟩) (eI:=eI) (B:=B) (D:=D) (G:=G) (λx s=>by rw[KG _ _ _ _ _ _ (W x)];exact h x s) items s
 cases t:nY step items s with
 | none=>exact Le.none _
 | some w=>
  have u:=q _ (by rw[t];rfl)
  rw[u]
  cases w with
  | n a=>exact Y a
  | x a=>exact hx a
  | r a=>exact hr a
end
end Go.VE
namespace Go.VE
variable [bX]
inductive Fo where
 | rc (c:RC)
 | ops (dr:Bool) (fr:List Nat) (l:List RO)
 | nx
 | ex (k:Nat)
 | rt
abbrev bC (g:Tb SV) (m:Tb bP):St:=⟨g,m,[],[],true,0⟩
section
variable (S:Sys) (c:cq) {β:Type} (Q:Out×St->Option β)
noncomputable def rn:Fo->List Fm->St->Option β
 | .rc a,fs,st=>l8 S c Q a fs st
 | .ops dr fr l,fs,st=>uM S c dr fr l (mE S c Q fs) st
 | .nx,fs,st=>mE S c Q fs st
 | .ex k,fs,st=>mH S c Q fs k st
 | .rt,_,st=>Q (.ret,st)
noncomputable def x_:Fo->List Fm->St->Option (Fo×List Fm×St)
 | .rc .skip,fs,st=>some (.nx,fs,st)
 | .rc (.ops l),fs,st=>some (.ops false [] l,fs,st)
 | .rc (.oO l),fs,st=>some (.ops true [] l,fs,st)
 | .rc (.seq a b),fs,st=>some (.rc a,.seq b::fs,st)
 | .rc (.cond y a b),fs,st=>match ql S.N st.g y with
  | some (.v (.bool true))=>some (.rc a,fs,st)
  | some (.v (.bool false))=>some (.rc b,fs,st)
  | _=>none
 | .rc (.block id a),fs,st=>some (.rc a,.blk id::fs,st)
 | .rc (.exit k),fs,st=>some (.ex k,fs,st)
 | .rc .ret,fs,st=>some (.rt,fs,st)
 | .rc (.gh g a),fs,st=>match ghost g st with
  | some st'=>some (.rc a,fs,st')
  | none=>none
 | .rc (.hg a g),fs,st=>some (.rc a,.gst g::fs,st)
 | .rc (.loop _),_,_=>none
 | .rc (.each ..),_,_=>none
 | .ops _ _ [],fs,st=>some (.nx,fs,st)
 | .ops dr fr (⟨d,gd,now,k,az,dd,[]⟩::r),fs,st=>match fA S c dr fr ⟨d,gd,now,k,az,[],[]⟩ st with
  | some st'=>some (.ops dr (if dr then qD fr ⟨d,gd,now,k,az,[],[]⟩else fr) r,fs,oS dd st')
  | none=>none
 | .ops dr fr (⟨d,gd,now,k,az,dd,x::xs⟩::r),fs,st=>if dr && !(zT x&&xs.all zT)then none else match ghost x st with
  | some st'=>some (.ops dr fr (⟨d,gd,now,k,az,dd,xs⟩::r),fs,st')
  | none=>none
 | .nx,.seq b::fs,st=>some (.rc b,fs,st)
 | .nx,.blk _::fs,st=>some (.nx,fs,st)
 | .nx,.gst g::fs,st=>match ghost g st with
  | some st'=>some (.nx,fs,st')
  | none=>none
 | .nx,[],_=>none
 | .ex k,.seq _::fs,st=>some (.ex k,fs,st)
 | .ex k,.blk id::fs,st=>some (if k=id then .nx else .ex k,fs,st)
 | .ex k,.gst _::fs,st=>some (.ex k,fs,st)
 | .ex _,[],_=>none
 | .rt,_,_=>none
noncomputable def h_:Nat->Fo->List Fm->St->Option (Fo×List Fm×St)
 | 0,fo,fs,st=>some (fo,fs,st)
 | n+1,fo,fs,st=>match x_ S c fo fs st with
  | some (fo',fs',st')=>h_ n fo' fs' st'
  | none=>none
end
section
variable {S:Sys} {c:cq} {β γ δ:Type} {Q:Out×St->Option β} {e:γ->Option β}
theorem NR {fo fo':Fo} {fs fs':List Fm} {st st':St} (h:x_ S c fo fs st=some (fo',fs',st')):rn S c Q fo fs st=rn S c Q fo' fs' st':=by
 cases fo with
 | rc a=>
  cases a with
  | cond y a b=>
   simp only[x_]at h;split at h
   .rename_i q;cases h;simp only[rn,l8,oU,q,bg,if_true]
   .rename_i q;cases h;simp only[rn,l8,oU,q,bg];rfl
   .cases h
  | gh g a=>
   simp only[x_]at h;split at h
   .rename_i q;cases h;simp only[rn,l8,oU,q,ζb]
   .cases h
  | loop a=>cases h
  | each g u a b=>cases h
  | seq a b=>cases h;simp only[rn,l8,oU,mE,mH]
  | block id a=>cases h;simp only[rn,l8,oU,mE,mH]
  | hg a g=>cases h;simp only[rn,l8,oU,mE,mH]
  | _=>cases h;simp only[rn,l8,oU]
 | ops dr fr l=>
  cases l with
  | nil=>cases h;simp only[rn,uM]
  | cons o r=>
   obtain⟨d,gd,now,k,az,dd,pre⟩:=o
   cases pre with
   | nil=>
    simp only[x_]at h;split at h
    .rename_i q;cases h;simp only[rn,uM,BE,RO.strip,ζb,q]
    .cases h
   | cons x w=>
    simp only[x_]at h;split at h
    .cases h
    rename_i t;split at h
    .rename_i q;cases h
     cases dr with
     | true=>
      simp only[Bool.true_and,Bool.not_eq_true',Bool.not_eq_false,ζh]at t;simp only[rn,uM,RO.strip,Bo,ou,if_true,List.all_cons,t.1,t.2,Bool.and_self,q,ζb]
     | false=>simp only[rn,uM,RO.strip,Bo,ou,Bool.false_eq_true,if_false,q,ζb]
    .cases h
 | nx=>
  cases fs with
  | nil=>cases h
  | cons f fs=>
   cases f with
   | seq b=>cases h;simp only[rn,l8,mE]
   | blk id=>cases h;simp only[rn,mE]
   | gst g=>
    simp only[x_]at h;split at h
    .rename_i q;cases h;simp only[rn,mE,q,ζb]
    .cases h
 | ex k=>
  cases fs with
  | nil=>cases h
  | cons f fs=>
   cases f with
   | seq b=>cases h;simp only[rn,mH]
   | blk id=>
    cases h;simp only[rn,mH]
    by_cases hk:k=id
    .simp only[if_pos hk,rn]
    .simp only[if_neg hk,rn]
   | gst g=>cases h;simp only[rn,mH]
 | rt=>cases h
theorem ot:∀{n:Nat} {fo fo':Fo} {fs fs':List Fm} {st st':St},h_ S c n fo fs st=some (fo',fs',st')->rn S c Q fo fs st=rn S c Q fo' fs' st'
 | 0,fo,fo',fs,fs',st,st',h=>by cases h;rfl
 | n+1,fo,fo',fs,fs',st,st',h=>by
  simp only[h_]at h;split at h
  .rename_i a b d B;rw[NR B];exact ot h
  .cases h
theorem Ds {n:Nat} {fo fo':Fo} {fs fs':List Fm} {st st':St} {m:Option β} (h:h_ S c n fo fs st=some (fo',fs',st')) (B:Le m (rn S c Q fo' fs' st')):Le m (rn S c Q fo fs st):=by
 rw[ot h];exact B
theorem VR {n:Nat} {fo fo':Fo} {fs fs':List Fm} {st st':St} {r:γ} (h:h_ S c n fo fs st=some (fo',fs',st')) (B:rn S c Q fo' fs' st'=e r):Le ((some r).bind e) (rn S c Q fo fs st):=by
 rw[ot h];exact Le.of_eq B
theorem O1 {m:Option δ} {f:δ->Option γ} {L:Option β} (k:δ->Option β) (B:Le (m.bind k) L) (h1:∀r,Le ((f r).bind e) (k r)):Le ((m.bind f).bind e) L:=by
 intro r hr
 cases m with
 | none=>cases hr
 | some x=>exact B r (h1 x r hr)
theorem VZ {n:Nat} {fo:Fo} {fs fs':List Fm} {st0:St} {dr:Bool} {q l:List RO} {fr:List Nat} {st:St} {d:Option Nat} {gd:Option (Nat×Bool)} {now:Bool} {k:K} {az:List Arg} {dd:List Nat} {m:Option δ} {g:δ->St} {f:δ->Option γ}
 (B:h_ S c n fo fs st0=some (.ops dr fr q,fs',st)) (D:q=⟨d,gd,now,k,az,dd,[]⟩::l) (hg:wanted st.g gd=some true)
 (G:Le (m.bind λx=>some (g x)) (fA S c dr fr ⟨d,none,now,k,az,[],[]⟩ st))
 (h:∀x,m=some x->Le ((f x).bind e) (rn S c Q (.ops dr (if dr then qD fr ⟨d,gd,now,k,az,[],[]⟩else fr) l) fs' (oS dd (g x)))):Le ((m.bind f).bind e) (rn S c Q fo fs st0):=by
 rw[ot B];subst D;simp only[rn,uM,RO.strip,BE,ζb];rw[Lp hg]
 cases m with
 | none=>exact Le.none _
 | some x=>rw[G (g x) rfl];exact h x rfl
theorem O7 {n:Nat} {fo:Fo} {fs fs':List Fm} {st0:St} {dr:Bool} {q l:List RO} {fr:List Nat} {st st':St} {d:Option Nat} {gd:Option (Nat×Bool)} {now:Bool} {k:K} {az:List Arg} {dd:List Nat} {m:Option β}
 (B:h_ S c n fo fs st0=some (.ops dr fr q,fs',st)) (D:q=⟨d,gd,now,k,az,dd,[]⟩::l) (hg:wanted st.g gd=some true)
 (G:fA S c dr fr ⟨d,none,now,k,az,[],[]⟩ st=some st')
 (h:Le m (rn S c Q (.ops dr (if dr then qD fr ⟨d,gd,now,k,az,[],[]⟩else fr) l) fs' (oS dd st'))):Le m (rn S c Q fo fs st0):=by
 rw[ot B];subst D;simp only[rn,uM,RO.strip,BE,ζb];rw[Lp hg,G];exact h
theorem G0 {n:Nat} {fo:Fo} {B:List Fm} {st:St} {σ ε ρ:Type} {a:RC} {fs:List Fm} {step:σ->Option (Fw σ ε ρ)} {D:σ->St} {G:ε->Nat×St} {J:ρ->St} {s:σ} {O:ε->Option γ} {fr:ρ->Option γ}
 (U:h_ S c n fo B st=some (.rc (.loop a),fs,D s)) (h:∀s,Le ((step s).bind λw=>some (Fw.out D G J w)) (rn S c some (.rc a) [] (D s)))
 (W:∀x,Le ((O x).bind e) (rn S c Q (.ex (G x).1) fs (G x).2)) (hr:∀b,Le ((fr b).bind e) (Q (.ret,J b))):Le (((bG step s).bind (Fw.elim O fr)).bind e) (rn S c Q fo B st):=by
 rw[ot U];exact Uw (L:=rn S c Q (.rc (.loop a)) fs (D s)) rfl h W hr
theorem Ty {n:Nat} {fo:Fo} {B:List Fm} {st:St} {α σ ε ρ:Type} {g:Arg} {ps:List Nat} {a b:RC} {fs:List Fm} {f:FuncId} {x y:List V} {items:List α} {eI:α->List V} {step:α->σ->Option (Fw σ ε ρ)} {D:σ->Tb bP} {G:ε->Nat×Tb bP} {J:ρ->Tb bP} {gt:Tb SV} {s:σ}
 {fn:σ->Option γ} {O:ε->Option γ} {fr:ρ->Option γ}
 (U:h_ S c n fo B st=some (.rc (.each g ps a b),fs,bC gt (D s))) (hg:ql S.N gt g=some (.v (.clo f x y))) (W:S.items f x y=some (items.map eI)) (Y:∀x,(eI x).length=ps.length)
 (h:∀x s,Le ((step x s).bind λw=>some (Fw.vS D G J w)) (rn S c (xQ S c b) (.rc a) [] ⟨v8 gt ps ((eI x).map .v),D s,oZ gt,[],true,0⟩))
 (hn:∀s,Le ((fn s).bind e) (rn S c Q .nx fs (bC gt (D s))))
 (hx:∀x,Le ((O x).bind e) (rn S c Q (.ex (G x).1) fs (bC gt (G x).2))) (hr:∀b,Le ((fr b).bind e) (Q (.ret,bC gt (J b)))) :
 Le (((nY step items s).bind (Fw.vZ fn O fr)).bind e) (rn S c Q fo B st):=by
 rw[ot U];exact UF (L:=rn S c Q (.rc (.each g ps a b)) fs (bC gt (D s))) rfl hg W Y h hn hx hr
theorem Su {b:RC} {st st':St} {m:Option (Out×Tb bP)} {fs:List Fm} {n:Nat} {fo:Fo} (h:h_ S c n fo fs st=some (.nx,[],st')) (B:Le m (rn S c vS (.rc b) [] st')):Le m (rn S c (xQ S c b) fo fs st):=by
 rw[ot h];exact B
theorem T8 {α:Type} {n:Nat} {fo fo':Fo} {fs fs':List Fm} {st:St} {A:Option α->St} {o:Option α} {f:α->Option γ} (h:h_ S c n fo fs st=some (fo',fs',A o))
 (B:∀x,o=some x->Le ((f x).bind e) (rn S c Q fo' fs' (A (some x)))):Le ((o.bind f).bind e) (rn S c Q fo fs st):=by
 rw[ot h]
 cases o with
 | none=>exact Le.none _
 | some x=>exact B x rfl
theorem VD {T:rU} {f:FuncId} {rf:RF} {az:List V} {m:Option (List V)} (B:T f=some rf) (D:az.length<=rf.na) (h:Le m (rn S (eO S T) (qS rf.rs) (.rc rf.body) [] (start (az.map .v) []))):Le m (mX (eO S T) f az):=by
 rw[Qw B az D];exact h
end
section
variable {α:Type} [bE α]
abbrev cv (x:α):SV:=.v (enc x)
abbrev cp (x:α):SV:=.v (.fptr (cells x))
abbrev bx (x:α):bP:=.box ((cells x).map .v)
end
abbrev uv:SV:=.v .undef
end Go.VE
namespace Go.VE
variable [bX]
structure nE (S:Sys) (c:cq) {α δ:Type} (fn:FuncId) (A:α->List V) (E:δ->List V) (p:α->Option δ) (sc:Bool):Prop where
 k:S.E.keep fn=false
 h:∀z,Le ((p z).bind λr=>some (E r)) (mX c fn (A z))
 l:∀z,V.c7 8 (A z)=true
 r:∀r,V.lvl 8 (result (E r))=true
 s:sc=true->∀r,(result (E r)).scalar=true
section
variable {S:Sys} {c:cq} {β γ δ α:Type} {Q:Out×St->Option β} {e:γ->Option β} {fo:Fo} {fs:List Fm} {st0:St} {l:List RO} {d:Option Nat} {gd:Option (Nat×Bool)} {now:Bool} {az:List Arg} {dd:List Nat}
noncomputable abbrev sN (S:Sys) (c:cq) (Q:Out×St->Option β) (dr:Bool) (fr:List Nat) (d:Option Nat) (k:K) (l:List RO) (fs:List Fm) (dd:List Nat) (st:St):Option β:=
 rn S c Q (.ops dr (if dr then(match k with|.p _|.r _=>fr|_=>match d with|some d=>d::fr|none=>fr)else fr) l) fs (oS dd st)
theorem DI (fr:List Nat) (k:K):qD fr ⟨d,gd,now,k,az,[],[]⟩=(match k with|.p _|.r _=>fr|_=>match d with|some d=>d::fr|none=>fr):=by
 cases k <;> cases d <;> rfl
theorem CU {n:Nat} {dr:Bool} {fr:List Nat} {q:List RO} {fs':List Fm} {st:St} {k:K} {m:Option δ} {g:δ->St} {f:δ->Option γ}
 (B:h_ S c n fo fs st0=some (.ops dr fr q,fs',st)) (D:q=⟨d,gd,now,k,az,dd,[]⟩::l) (hg:wanted st.g gd=some true)
 (G:Le (m.bind λx=>some (g x)) (fA S c dr fr ⟨d,none,now,k,az,[],[]⟩ st))
 (h:∀x,m=some x->Le ((f x).bind e) (sN S c Q dr fr d k l fs' dd (g x))):Le ((m.bind f).bind e) (rn S c Q fo fs st0):=
 VZ B D hg G (λx t=>by rw[DI];grind)
theorem qK {n:Nat} {dr:Bool} {fr:List Nat} {q:List RO} {fs':List Fm} {st st':St} {k:K} {m:Option β}
 (B:h_ S c n fo fs st0=some (.ops dr fr q,fs',st)) (D:q=⟨d,gd,now,k,az,dd,[]⟩::l) (hg:wanted st.g gd=some true)
 (G:fA S c dr fr ⟨d,none,now,k,az,[],[]⟩ st=some st') (h:Le m (sN S c Q dr fr d k l fs' dd st')):Le m (rn S c Q fo fs st0):=
 O7 B D hg G (by rw[DI];omega)
section
variable [bE α]
theorem N3 (n:Nat) (dr:Bool) (fr:List Nat) (q:List RO) (fs':List Fm) (st:St) (k:IntKind) {sz:Nat} {s:Sl α} {i:Int} {f:α->Option γ} (D:q=⟨d,gd,now,.p (.idxS sz),az,dd,[]⟩::l)
 (B:(h_ S c n fo fs st0,wanted st.g gd,bZ S.N st.g az,sz)=(some (.ops dr fr q,fs',st),some true,some [.v (bV s),.v (.int k i)],bE.size α))
 (h:∀x,idx s i=some x->Le ((f x).bind e) (sN S c Q dr fr d (.p (.idxS sz)) l fs' dd (cZ st d (cp x)))):Le (((idx s i).bind f).bind e) (rn S c Q fo fs st0):=by
 simp  at B;exact CU B.1 D B.2.1 (Le.of_eq (OY B.2.2.1 B.2.2.2)) h
theorem Ta (n:Nat) (dr:Bool) (fr:List Nat) (q:List RO) (fs':List Fm) (st:St) (s:Sl α) {m:Option β} (D:q=⟨d,gd,now,.p .lenSl,az,dd,[]⟩::l)
 (B:(h_ S c n fo fs st0,wanted st.g gd,bZ S.N st.g az)=(some (.ops dr fr q,fs',st),some true,some [.v (bV s)]))
 (h:Le m (sN S c Q dr fr d (.p .lenSl) l fs' dd (cZ st d (.v (.int .i64 s.l.length))))):Le m (rn S c Q fo fs st0):=by
 simp  at B;exact qK B.1 D B.2.1 (Pr B.2.2) h
end
section
variable {q:List RO} {fs':List Fm}
end
theorem Gr (m:Tb bP) (n:Nat) (l:List V):nD (iX m n) (l.map .v)=some l:=by rw[<-(xD m n).2,wD]
variable {A:α->List V} {E:δ->List V} {p:α->Option δ} {fn:FuncId} {sc:Bool}
end
end Go.VE
namespace Go.VE
variable [bX]
abbrev iv (n:Int):SV:=.v (.int .i64 n)
abbrev bv (b:Bool):SV:=.v (.bool b)
abbrev len {α:Type} (s:Sl α):Int:=((List.length (Sl.l s):Nat):Int)
abbrev o1 (d:Nat) (a:Arg) (dd:List Nat):RO:=⟨some d,none,false,.p .id,[a],dd,[]⟩
abbrev o2 (d:Nat) (k:K) (az:List Arg) (dd:List Nat):RO:=⟨some d,none,false,k,az,dd,[]⟩
abbrev o3 (d s:Nat) (b:Bool) (k:K) (az:List Arg) (dd:List Nat):RO:=⟨some d,some (s,b),false,k,az,dd,[]⟩
def IL (a b:aY):Bool:=[a.proc,a.index]==[b.proc,b.index]
mutual
theorem yW:∀{n:Nat} {x:V},V.lvl n x=true->V.lvl (n+1) x=true
 | 0,.fsl ..,h=>by simp[V.lvl]at h
 | 0,.fptr ..,h=>by simp[V.lvl]at h
 | 0,.fmap ..,h=>by simp[V.lvl]at h
 | 0,.agg ..,h=>by simp[V.lvl]at h
 | 0,.tup ..,h=>by simp[V.lvl]at h
 | 0,.clo ..,h=>by simp[V.lvl]at h
 | n+1,.fsl es xs,h=>by simp only[V.lvl]at h ⊢;exact BB h
 | n+1,.fptr cs,h=>by simp only[V.lvl]at h ⊢;exact rR h
 | n+1,.fmap B,h=>by simp only[V.lvl]at h ⊢;exact CQ h
 | n+1,.agg cs,h=>by simp only[V.lvl]at h ⊢;exact rR h
 | n+1,.tup cs,h=>by simp only[V.lvl]at h ⊢;exact rR h
 | n+1,.clo f a b,h=>by simp only[V.lvl,ζh]at h ⊢;exact⟨rR h.1,rR h.2⟩
 | 0,.bool _,_|0,.int ..,_|0,.str _,_|0,.gV,_|0,.gw,_|0,.rI,_|0,.c9,_|0,.bH,_|0,.hsl ..,_|0,.hptr ..,_|0,.yld _,_|0,.hmap _,_=>rfl
 | _+1,.bool _,_|_+1,.int ..,_|_+1,.str _,_|_+1,.gV,_|_+1,.gw,_|_+1,.rI,_|_+1,.c9,_|_+1,.bH,_|_+1,.hsl ..,_|_+1,.hptr ..,_|_+1,.yld _,_|_+1,.hmap _,_=>rfl
theorem rR:∀{n:Nat} {x:List V},V.c7 n x=true->V.c7 (n+1) x=true
 | n,[],_=>k9 _
 | n,a::l,h=>by rw[jv,ζh]at h ⊢;exact⟨yW h.1,rR h.2⟩
theorem BB:∀{n:Nat} {x:List (List V)},V.m_ n x=true->V.m_ (n+1) x=true
 | n,[],_=>by simp only[V.m_]
 | n,a::l,h=>by simp only[V.m_,ζh]at h ⊢;exact⟨rR h.1,BB h.2⟩
theorem CQ:∀{n:Nat} {x:List (V×V)},V.oN n x=true->V.oN (n+1) x=true
 | n,[],_=>by simp only[V.oN]
 | n,(k,v)::l,h=>by simp only[V.oN,ζh]at h ⊢;exact⟨⟨yW h.1.1,yW h.1.2⟩,CQ h.2⟩
end
section
variable {α:Type} [bE α]
theorem uu (h:bE.agg α=false) (a:α):cells a=[enc a]:=by
 have q:(cells a).length=1:=by rw[show (cells a).length=_ from bE.len a,bE.plain h]
 unfold enc;rw[if_neg (by simp[h])]
 match hc:cells a,q with
 | [x],_=>rfl
theorem xE (h:bE.agg α=true) (a:α):enc a=.agg (cells a):=by unfold enc;grind
theorem IX {n:Nat} [Lv n α] (a:α):V.lvl (n+1) (enc a)=true:=by
 have h:=Lv.lv (n:=n) a
 cases q:bE.agg α with
 | true=>rw[xE q];exact h
 | false=>
  rw[uu q,jv,ζh]at h;exact yW h.1
theorem TB {n:Nat} [Lv n α] (a:α):V.lvl (n+1) (.fptr (cells a))=true:=Lv.lv a
theorem mV (a:α):V.good (enc a)=true:=by
 have h:V.cE (cells a)=true:=bE.good a
 cases q:bE.agg α with
 | true=>rw[xE q];exact h
 | false=>
  rw[uu q]at h;simp[V.cE]at h;omega
theorem pM (s:Sl α):V.one (enc s)=true:=D1 s
theorem qR {n:Nat} [Lv n α] (s:Sl α):V.lvl (n+1) (enc s)=true:=D4 s
theorem NU (s:α) (h:bE.agg α=false):V.one (enc s)=true:=by
 have:=bE.one s;rw[show bE.cells s=cells s from rfl,uu h]at this
 grind
end
instance {α:Type} [bE α]:bE (Option α) where
 cells o:=[match o with|none=>.gV|some x=>.fptr (cells x)]
 agg:=false
 size:=1
 len _:=rfl
 good o:=by
  cases o with
  | none=>rfl
  | some x=>simp only[V.cE,V.good,Bool.and_true];exact bE.good x
 one o:=by cases o <;> rfl
 plain _:=rfl
instance {n:Nat} {α:Type} [bE α] [Lv n α]:Lv (n+1) (Option α):=⟨λo=>by
 cases o with
 | none=>rfl
 | some x=>
  show V.c7 (n+1) [.fptr (cells x)]=true;rw[jv,k9,Bool.and_true];exact Lv.lv x⟩
structure U8 where
 v:Int
 deriving Inhabited,DecidableEq
instance:bE U8 where
 cells n:=[.int .u8 n.v]
 agg:=false
 size:=1
 len _:=rfl
 good _:=rfl
 one _:=rfl
 plain _:=rfl
instance {n:Nat}:Lv n U8:=⟨λ_=>by cases n <;> rfl⟩
structure Vv where
 v:Int
 deriving Inhabited,DecidableEq
instance:bE Vv where
 cells n:=[.int .u64 n.v]
 agg:=false
 size:=1
 len _:=rfl
 good _:=rfl
 one _:=rfl
 plain _:=rfl
instance {n:Nat}:Lv n Vv:=⟨λ_=>by cases n <;> rfl⟩
structure Vo where
 v:Int
 deriving Inhabited,DecidableEq
instance:bE Vo where
 cells n:=[.int .u32 n.v]
 agg:=false
 size:=1
 len _:=rfl
 good _:=rfl
 one _:=rfl
 plain _:=rfl
instance {n:Nat}:Lv n Vo:=⟨λ_=>by cases n <;> rfl⟩
structure Va where
 v:Int
 deriving Inhabited,DecidableEq
instance:bE Va where
 cells n:=[.int .i32 n.v]
 agg:=false
 size:=1
 len _:=rfl
 good _:=rfl
 one _:=rfl
 plain _:=rfl
instance {n:Nat}:Lv n Va:=⟨λ_=>by cases n <;> rfl⟩
structure lg (S:Sys) (c:cq) {α δ:Type} (g:FuncId) (w e:List V) (A:α->List V) (R:δ->List V) (p:α->Option δ) (b:Bool):Prop where
 f:nE S c g (λz=>w++A z++e) R p b
 d:V.c7 7 e=true
 dw:V.c7 7 w=true
section
variable {S:Sys} {c:cq} {β γ δ α:Type} {Q:Out×St->Option β} {e:γ->Option β} {fo:Fo} {fs:List Fm} {st0:St} {l:List RO} {d:Option Nat} {gd:Option (Nat×Bool)} {now:Bool} {az:List Arg} {dd:List Nat}
theorem fT {α:Type} [bE α] (a:α):V.cells (enc a)=cells a:=by
 cases q:bE.agg α with
 | true=>rw[xE q];rfl
 | false=>
  have h1  := NU a q;rw[uu q];cases h:enc a <;> first|rfl|(rw[h]at h1;cases h1)
theorem p_ {α:Type} [bE α] (a:α):(cells a).all V.one=true:=bE.one a
theorem gx {α:Type} [bE α] (a:α):(cells a).length=bE.size α:=bE.len a
theorem Ast [bE α] (n:Nat) (dr:Bool) (fr:List Nat) (q:List RO) (fs':List Fm) (st:St) (u o:Nat) (x:α) (cs B:List SV) {sz:Nat} {m:Option β} (G:q=⟨d,gd,now,.l (.store sz),az,dd,[]⟩::l)
 (D:(h_ S c n fo fs st0,wanted st.g gd,bZ S.N st.g az,bk st.m u,(!dr||now),sz,Nat.ble (o+sz) cs.length,cs.take o++(cells x).map .v++cs.drop (o+sz))=(some (.ops dr fr q,fs',st),some true,some [.ptr u o,cv x],some (.box cs),true,bE.size α,true,B))
 (h:Le m (sN S c Q dr fr d (.l (.store sz)) l fs' dd (cZ { st with m:=bT st.m u (.box B) } d (.v .undef)))):Le m (rn S c Q fo fs st0):=by
 simp only[ζc]at D;obtain⟨h1,t,w,z,A,C,H,I⟩:=D;refine qK h1 G t ?_ h;rw[sy,w];subst C;have J:=Nat.le_of_ble_eq_true H;simp only[ζb,A,if_true,jN,z,putCells,fT,gx,p_,J,and_self,I,Option.map_some]
theorem zn {α:Type} [bE α]:∀(xs:List α) (pre:List (List V)) (B:List (List V)),B.length=xs.length->gE (bE.size α) (pre++B) ((List.range' pre.length xs.length).zip (xs.map enc))=some (pre++rows xs)
 | [],pre,B,h=>by
  have  := List.eq_nil_of_length_eq_zero h;subst this;rfl
 | x::xs,pre,s::B,h=>by
  simp only[List.length_cons,List.range'_succ,List.map_cons,List.zip_cons_cons,gE,fT,gx,p_];have:=zn xs (pre++[cells x]) B (by grind)
  simp only[ζi,List.length_cons,List.length_nil]at this;have e:(pre++s::B).set pre.length (cells x)=pre++[cells x]++B:=by simp
  rw[e,this];simp[rows]
theorem Wb [bE α] (n:Nat) (dr:Bool) (fr:List Nat) (q:List RO) (fs':List Fm) (st:St) (xs:List α) {u sz ln:Nat} {zero:List V} {ix:List Nat} {m:Option β} (D:q=⟨some u,gd,now,.a (.buildSl sz ln zero ix),az,dd,[]⟩::l)
 (G:st.new u=true) (B:(h_ S c n fo fs st0,wanted st.g gd,bZ S.N st.g az,sz,ln,ix)=(some (.ops dr fr q,fs',st),some true,some ((xs.map enc).map .v),bE.size α,xs.length,List.range' 0 xs.length))
 (h:Le m (sN S c Q dr fr (some u) (.a (.buildSl sz ln zero ix)) l fs' dd { st with g:=bT st.g u (.own u),m:=bT st.m u (cT (.row xs)) })):Le m (rn S c Q fo fs st0):=by
 simp only[ζc]at B;obtain⟨h1,t,w,z,A,C⟩:=B;subst z A C;refine qK h1 D t ?_ h;rw[CG,w];simp only[ζb,G,pE,qT,List.length_range',List.length_map];have:=zn xs [] (List.replicate xs.length zero) (by simp)
 simp  at this;rw[this];rfl
theorem VJ [bE α] (n:Nat) (dr:Bool) (fr:List Nat) (q:List RO) (fs':List Fm) (st:St) (x:α) (vs:List V) {z:List V} {pl:List (Nat×Nat)} {m:Option β} (D:q=⟨d,gd,now,.p (.build z pl),az,dd,[]⟩::l)
 (G:kB z pl vs=some (cells x)) (J:bE.agg α=true)
 (B:(h_ S c n fo fs st0,wanted st.g gd,bZ S.N st.g az)=(some (.ops dr fr q,fs',st),some true,some (vs.map .v)))
 (h:Le m (sN S c Q dr fr d (.p (.build z pl)) l fs' dd (cZ st d (cv x)))):Le m (rn S c Q fo fs st0):=by
 simp  at B;refine qK B.1 D B.2.1 (za B.2.2 rfl ?_) h;unfold jl;rw[qT];simp only[Nj,G,Option.map_some];show some (SV.v (.agg (cells x)))=some (.v (enc x));rw[xE J]
section
variable [bE α]
theorem VK (n:Nat) (dr:Bool) (fr:List Nat) (q:List RO) (fs':List Fm) (st:St) (D G:Bool) (J:List V) {sz:Nat} {s:Sl α} {a b:Option Int} {f:Sl α->Option γ} (O:q=⟨d,gd,now,.p (.slice sz D G),az,dd,[]⟩::l)
 (B:(h_ S c n fo fs st0,wanted st.g gd,bZ S.N st.g az,lC D G J,sz)=(some (.ops dr fr q,fs',st),some true,some (.v (bV s)::J.map .v),some (a,b),bE.size α))
 (h:∀x,fQ s a b=some x->Le ((f x).bind e) (sN S c Q dr fr d (.p (.slice sz D G)) l fs' dd (cZ st d (.v (bV x))))):Le (((fQ s a b).bind f).bind e) (rn S c Q fo fs st0):=by
 simp  at B;refine CU B.1 O B.2.1 (Le.of_eq ?_) h;have u  := B.2.2.1;unfold fA mm;simp[wanted,fR,u];have t:jl S.N st.m (.slice sz D G) ((bV s::J).map .v)=(fQ s a b).bind λx=>some (.v (bV x)):=by
  unfold jl;rw[qT];simp[bh,B.2.2.2.1,KF s a b sz B.2.2.2.2];cases fQ s a b <;> rfl
 simp  at t ⊢;rw[t];cases fQ s a b <;> rfl
def oh (s:Sl α) (B D:Option Int):Option (Sl α):=
 match s with
 | .nil|.emp=>none
 | .row x|.part x=>(dN x.length B D).map λ(l,h)=>.part ((x.take h).drop l)
theorem UO (n:Nat) (fr:List Nat) (q:List RO) (fs':List Fm) (st:St) (D G:Bool) (u:Nat) (J:List V) {t sz:Nat} {s:Sl α} {a b:Option Int} {f:Sl α->Option γ} (U:q=⟨some t,gd,now,.p (.slice sz D G),az,dd,[]⟩::l)
 (O:St.new { st with m:=en u st.m } t=true) (B:(h_ S c n fo fs st0,wanted st.g gd,bZ S.N st.g az,lC D G J,bk st.m u,sz)=(some (.ops false fr q,fs',st),some true,some (.own u::J.map .v),some (a,b),some (cT s),bE.size α))
 (h:∀x,oh s a b=some x->Le ((f x).bind e) (sN S c Q false fr (some t) (.p (.slice sz D G)) l fs' dd { st with g:=bT st.g t (.own t),m:=bT (en u st.m) t (cT x) })):Le (((oh s a b).bind f).bind e) (rn S c Q fo fs st0):=by
 simp  at B;refine CU B.1 U B.2.1 (Le.of_eq ?_) h;obtain⟨_,_,z,w,A,C⟩:=B;subst C;unfold fA mm;simp[wanted,fR,z,yZ,qT,A,w]
 cases s with
 | nil=>simp[oh,cT,Sl.k,cF]
 | emp=>simp[oh,cT,Sl.k,cF]
 | row x=>
  simp[cT,Sl.k,Sl.l,cF,oh,gN,w]
  cases dN x.length a b with
  | none=>rfl
  | some r=>simp[O,cZ,rows,List.map_drop]
 | part x=>
  simp[cT,Sl.k,Sl.l,cF,oh,gN,w]
  cases dN x.length a b with
  | none=>rfl
  | some r=>simp[O,cZ,rows,List.map_drop]
end
end
end Go.VE
namespace Go.VE
variable [bX]
structure b7 (n:Nat) (α:Type) where
 l:List α
 len:l.length=n
theorem NL {α:Type} [bE α] (l:List α):(l.map (cells (α:=α))).flatten.length=l.length*bE.size α:=by
 induction l with
 | nil=>simp
 | cons a l q=>simp[q,gx,Nat.add_mul,Nat.add_comm]
theorem Lf {α:Type} [bE α] (l:List α):V.cE (l.map (cells (α:=α))).flatten=true:=by
 induction l with
 | nil=>rfl
 | cons a l q=>
  have h:∀(x y:List V),V.cE x=true->V.cE y=true->V.cE (x++y)=true:=by
   intro x
   induction x with
   | nil=>grind
   | cons b x t=>intro y h1 u;simp[V.cE]at h1 ⊢;grind
  exact h _ _ (bE.good a) q
theorem Gt {n:Nat}:∀{x y:List V},V.c7 n x=true->V.c7 n y=true->V.c7 n (x++y)=true
 | [],_,_,h=>h
 | a::x,y,h1,B=>by
  simp[jv]at h1 ⊢;exact⟨h1.1,Gt h1.2 B⟩
theorem N8 {n:Nat} {α:Type} [bE α] [Lv n α] (l:List α):V.c7 n (l.map (cells (α:=α))).flatten=true:=by
 induction l with
 | nil=>exact k9 n
 | cons a l q=>exact Gt (Lv.lv a) q
instance {n:Nat} {α:Type} [bE α]:bE (b7 n α) where
 cells a:=(a.l.map cells).flatten
 agg:=true
 size:=n*bE.size α
 len a:=by rw[NL,a.len]
 good a:=Lf a.l
 one a:=by
  have:∀l:List α,(l.map (cells (α:=α))).flatten.all V.one=true:=by
   intro l
   induction l with
   | nil=>rfl
   | cons a l q=>simp only[List.map_cons,List.flatten_cons,List.all_append,q,p_,Bool.and_self]
  exact this a.l
 plain h:=by cases h
instance {k n:Nat} {α:Type} [bE α] [Lv k α]:Lv k (b7 n α):=⟨λa=>N8 a.l⟩
def b7.MF (n:Nat) {α:Type} (z:α):b7 n α:=⟨List.replicate n z,by simp⟩
def b7.at {n:Nat} {α:Type} (a:b7 n α) (i:Int):Option α:=if 0<=i then a.l[i.toNat]? else none
def b7.set {n:Nat} {α:Type} (a:b7 n α) (i:Int) (x:α):b7 n α:=⟨a.l.set i.toNat x,by simp[a.len]⟩
def pa {n:Nat} {α:Type} [bE α] (a:b7 n α) (i:Int):List V:=(cells a).drop (i.toNat*bE.size α)
theorem b7.tR {n:Nat} {α:Type} {a:b7 n α} {i:Int} {x:α} (h:a.at i=some x):0<=i/\i.toNat<n/\a.l[i.toNat]? = some x:=by
 unfold b7.at at h;split at h
 .rename_i q;refine⟨q,?_,h⟩;have:=(ζe.1 h).1;rw[<-a.len];simp_all
 simp_all
theorem DK {α:Type} [bE α]:∀(l:List α) (k:Nat),((l.map (cells (α:=α))).flatten).drop (k*bE.size α)=((l.drop k).map (cells (α:=α))).flatten
 | [],k=>by simp
 | a::l,0=>by simp
 | a::l,k+1=>by
  have h  := gx a;rw[List.map_cons,List.flatten_cons,List.drop_succ_cons,<-DK l k,Nat.add_mul,Nat.one_mul,Nat.add_comm,<-h,List.drop_length_add_append]
theorem Au {n:Nat} {α:Type} [bE α] {a:b7 n α} {i:Int} {x:α} (h:a.at i=some x):∃r,pa a i=cells x++r:=by
 obtain⟨h1,w,t⟩:=b7.tR h;obtain⟨q,u⟩:=ζe.1 t;refine⟨((a.l.drop (i.toNat+1)).map cells).flatten,?_⟩;show ((a.l.map (cells )).flatten).drop (i.toNat*bE.size α)=_;rw[DK,List.drop_eq_getElem_cons q,List.map_cons,List.flatten_cons,u]
section
variable {S:Sys} {c:cq} {β γ δ α:Type} {Q:Out×St->Option β} {e:γ->Option β} {fo:Fo} {fs:List Fm} {st0:St} {l:List RO} {d:Option Nat} {gd:Option (Nat×Bool)} {now:Bool} {az:List Arg} {dd:List Nat}
section
variable {N:Nat} [bE α]
theorem U7 (n:Nat) (dr:Bool) (fr:List Nat) (q:List RO) (fs':List Fm) (st:St) (k:IntKind) {ln sz:Nat} {a:b7 N α} {i:Int} {f:α->Option γ} (D:q=⟨d,gd,now,.p (.idxA ln sz),az,dd,[]⟩::l)
 (B:(h_ S c n fo fs st0,wanted st.g gd,bZ S.N st.g az,sz,ln)=(some (.ops dr fr q,fs',st),some true,some [cp a,.v (.int k i)],bE.size α,N))
 (h:∀x,a.at i=some x->Le ((f x).bind e) (sN S c Q dr fr d (.p (.idxA ln sz)) l fs' dd (cZ st d (.v (.fptr (pa a i)))))):Le (((a.at i).bind f).bind e) (rn S c Q fo fs st0):=by
 simp  at B;obtain⟨h1,u,w,z,A⟩:=B;subst z A;refine CU h1 D u ?_ h;intro r hr;obtain⟨x,C,hr⟩:=ζg.1 hr;obtain⟨g1,g2,_⟩:=b7.tR C;rw[za  w rfl ?_]
 .omega
 rw[yx];simp[bh,wm];have t:i.toNat*bE.size α<=(cells a).length:=by
  rw[gx];exact Nat.mul_le_mul_right _ (Nat.le_of_lt g2)
 rw[if_pos ⟨g1,by omega⟩,if_pos t]
 rfl
theorem VB (n:Nat) (dr:Bool) (fr:List Nat) (q:List RO) (fs':List Fm) (st:St) (a:b7 N α) (i:Int) (o:Nat) (x:α) (D:a.at i=some x) {k:Nat} {m:Option β} (G:q=⟨d,gd,now,.p (.fieldAddr k),az,dd,[]⟩::l)
 (B:(h_ S c n fo fs st0,wanted st.g gd,bZ S.N st.g az,Nat.ble (o+k) (bE.size α))=(some (.ops dr fr q,fs',st),some true,some [.v (.fptr ((pa a i).drop o))],true))
 (h:Le m (sN S c Q dr fr d (.p (.fieldAddr k)) l fs' dd (cZ st d (.v (.fptr ((pa a i).drop (o+k))))))):Le m (rn S c Q fo fs st0):=by
 simp only[ζc]at B;obtain⟨h1,t,u,w⟩:=B;refine qK h1 G t (za u rfl ?_) h;have z:=Nat.le_of_ble_eq_true w;obtain⟨r,hr⟩:=Au D;have A:(pa a i).length>=bE.size α:=by rw[hr,ζi,gx];omega
 rw[Hp,Fy,if_pos (by grind),List.drop_drop]
 rfl
theorem U5 (n:Nat) (dr:Bool) (fr:List Nat) (q:List RO) (fs':List Fm) (st:St) (a:b7 N α) (i:Int) (o:Nat) (x:α) (G:a.at i=some x) {sz:Nat} {ag:Bool} {v:V} (hv:(cut (cells x) o sz).bind (mk ag)=some v) (B:V) {m:Option β} (J:q=⟨d,gd,now,.r (.load sz ag),az,dd,[]⟩::l)
 (D:(h_ S c n fo fs st0,wanted st.g gd,bZ S.N st.g az,v)=(some (.ops dr fr q,fs',st),some true,some [.v (.fptr ((pa a i).drop o))],B))
 (h:Le m (sN S c Q dr fr d (.r (.load sz ag)) l fs' dd (cZ st d (.v B)))):Le m (rn S c Q fo fs st0):=by
 simp  at D;obtain⟨h1,z,A,rfl⟩:=D;refine qK h1 J z ?_ h;rw[E5,A];have u:e_ fr [SV.v (.fptr ((pa a i).drop o))]=true:=rfl;simp[u,Lz];obtain⟨r,hr⟩:=Au G;rw[hr];have hc:cut ((cells x++r).drop o) 0 sz=cut (cells x) o sz:=by
  cases t:cut (cells x) o sz with
  | none=>grind
  | some w=>
   unfold cut at t ⊢;dsimp only at t ⊢;split at t
   .have e1:(List.drop 0 (List.drop o (cells x++r))).take sz=((cells x).drop o).take sz:=by
     have C:sz=0\/o<=(cells x).length:=by
      grind
     grind
    grind
   grind
 cases t:cut (cells x) o sz with
 | none=>grind
 | some w=>grind
theorem Te (n:Nat) (dr:Bool) (fr:List Nat) (q:List RO) (fs':List Fm) (st:St) (cs:List SV) {u sz:Nat} {zero:List V} {m:Option β} (D:q=⟨some u,gd,now,.a (.alloc sz zero),az,dd,[]⟩::l)
 (G:st.new u=true) (B:(h_ S c n fo fs st0,wanted st.g gd,bZ S.N st.g az,zero.map SV.v)=(some (.ops dr fr q,fs',st),some true,some [],cs))
 (h:Le m (sN S c Q dr fr (some u) (.a (.alloc sz zero)) l fs' dd { st with g:=bT st.g u (.ptr u 0),m:=bT st.m u (.box cs) })):Le m (rn S c Q fo fs st0):=by
 simp  at B;obtain⟨h1,t,w,z⟩:=B;subst z;refine qK h1 D t ?_ h;rw[CG,w];simp[G,pE]
theorem s7 (d:Nat) (l:List V):SV.dH d (l.map .v)=false:=by
 induction l with
 | nil=>rfl
 | cons a l q=>simp[SV.dH,SV.cR,q]
theorem sP {α:Type} [bE α] (d:Nat) (x:α):bP.cR d (bx x)=false:=s7 d (cells x)
theorem UL (n:Nat) (dr:Bool) (fr:List Nat) (q:List RO) (fs':List Fm) (st:St) (k:IntKind) (u:Nat) {ln sz:Nat} {a:b7 N α} {i:Int} {f:α->Option γ} (D:q=⟨d,gd,now,.p (.idxA ln sz),az,dd,[]⟩::l)
 (B:(h_ S c n fo fs st0,wanted st.g gd,bZ S.N st.g az,sz,ln,bk st.m u)=(some (.ops dr fr q,fs',st),some true,some [.ptr u 0,.v (.int k i)],bE.size α,N,some (bx a)))
 (h:∀x,a.at i=some x->Le ((f x).bind e) (sN S c Q dr fr d (.p (.idxA ln sz)) l fs' dd (cZ st d (.ptr u (i.toNat*bE.size α+0))))):Le (((a.at i).bind f).bind e) (rn S c Q fo fs st0):=by
 simp  at B;obtain⟨h1,t,w,C,G,z⟩:=B;refine CU h1 D t ?_ h;intro r hr;obtain⟨x,A,hr⟩:=ζg.1 hr;obtain⟨g1,g2,_⟩:=b7.tR A;rw[za  w rfl ?_]
 .omega
 simp[jl,dG,wH,z]
 grind
theorem Oh {a:b7 N α} {i:Int} {o:Nat} {x:α} (B:a.at i=some x) {sz:Nat} {ag:Bool} {v:V} (hv:(cut (cells x) o sz).bind (mk ag)=some v):vc sz ag ((((cells a).map SV.v).drop (i.toNat*bE.size α+o)).take sz)=some (.v v):=by
 obtain⟨r,hr⟩:=Au B;have e1:(((cells a).map SV.v).drop (i.toNat*bE.size α+o)).take sz=(((cells x).drop o).take sz).map SV.v:=by
  have q:((cells x).drop o).take sz=((cells x++r).drop o).take sz:=by
   cases hc:cut (cells x) o sz with
   | none=>grind
   | some w=>
    unfold cut at hc;dsimp only at hc;split at hc
    .have u:sz=0\/o<=(cells x).length:=by
      grind
     grind
    simp_all
  rw[q,<-hr,pa,List.drop_drop,List.map_take,List.map_drop]
 rw[e1];unfold vc
 cases hc:cut (cells x) o sz with
 | none=>grind
 | some w=>
  rw[hc]at hv;unfold cut at hc;dsimp only at hc;split at hc
  .rename_i t;cases hc;simp only[List.length_map,t];unfold mk at hv
   cases ag with
   | true=>
    simp only[if_true]at hv ⊢;cases hv;rw[qT]
   | false=>
    grind
  simp_all
theorem Ud (n:Nat) (dr:Bool) (fr:List Nat) (q:List RO) (fs':List Fm) (st:St) (u:Nat) (a:b7 N α) (i:Int) (o:Nat) (x:α) (G:a.at i=some x) {sz:Nat} {ag:Bool} {v:V} (hv:(cut (cells x) o sz).bind (mk ag)=some v) (B:V) {m:Option β} (J:q=⟨d,gd,now,.r (.load sz ag),az,dd,[]⟩::l)
 (D:(h_ S c n fo fs st0,wanted st.g gd,bZ S.N st.g az,v,bk st.m u,(!dr||now||e_ fr [.ptr u 0]))=(some (.ops dr fr q,fs',st),some true,some [.ptr u (i.toNat*bE.size α+o)],B,some (bx a),true))
 (h:Le m (sN S c Q dr fr d (.r (.load sz ag)) l fs' dd (cZ st d (.v B)))):Le m (rn S c Q fo fs st0):=by
 simp only[ζc]at D;obtain⟨h1,w,z,rfl,A,C⟩:=D;refine qK h1 J w ?_ h;rw[E5,z];have t:(!dr||now||e_ fr [SV.ptr u (i.toNat*bE.size α+o)])=true:=C;simp only[ζb,t,VA,A,KZ];rw[Oh G hv];rfl
theorem K0 {N:Nat} (a:b7 N α) (i:Int) (y:α) (h:i.toNat<N):cells (a.set i y)=(cells a).take (i.toNat*bE.size α)++cells y++(cells a).drop ((i.toNat+1)*bE.size α):=by
 have key:∀(l:List α) (k:Nat),k<l.length->((l.set k y).map (cells )).flatten=(l.map (cells )).flatten.take (k*bE.size α)++cells y++(l.map (cells )).flatten.drop ((k+1)*bE.size α):=by
  intro l
  induction l with
  | nil=>grind
  | cons b l q=>
   intro k h;have t  := gx b
   cases k with
   | zero=>
    grind
   | succ k=>
    simp only[List.map_cons,List.flatten_cons];have e1:(k+1)*bE.size α=(cells b).length+k*bE.size α:=by grind
    have e2:(k+1+1)*bE.size α=(cells b).length+(k+1)*bE.size α:=by grind
    rw[e2,List.drop_length_add_append]
    grind
 exact key a.l i.toNat (by rw[a.len];omega)
theorem Us (n:Nat) (dr:Bool) (fr:List Nat) (q:List RO) (fs':List Fm) (st:St) (u:Nat) (a:b7 N α) (i:Int) (o:Nat) (x:α) (B:a.at i=some x) (y:α) (v:V) {sz:Nat} (G:cells y=(cells x).take o++v.cells++(cells x).drop (o+sz)) {m:Option β} (J:q=⟨d,gd,now,.l (.store sz),az,dd,[]⟩::l)
 (D:(h_ S c n fo fs st0,wanted st.g gd,bZ S.N st.g az,bk st.m u,(!dr||now),v.cells.length,v.cells.all V.one,Nat.ble (o+sz) (bE.size α))=(some (.ops dr fr q,fs',st),some true,some [.ptr u (i.toNat*bE.size α+o),.v v],some (bx a),true,sz,true,true))
 (h:Le m (sN S c Q dr fr d (.l (.store sz)) l fs' dd (cZ { st with m:=bT st.m u (bx (a.set i y)) } d (.v .undef)))):Le m (rn S c Q fo fs st0):=by
 simp only[ζc]at D;obtain⟨h1,z,A,C,H,I,L,O⟩:=D;refine qK h1 J z ?_ h;rw[sy,A];have U:=Nat.le_of_ble_eq_true O;obtain⟨g1,g2,g3⟩:=b7.tR B;have T:i.toNat*bE.size α+o+sz<=((cells a).map SV.v).length:=by
  rw[List.length_map,gx];have:(i.toNat+1)*bE.size α<=N*bE.size α:=Nat.mul_le_mul_right _ g2;rw[Nat.add_mul,Nat.one_mul]at this;show _<=N*bE.size α;omega
 simp only[ζb,H,if_true,jN,C,putCells,I,L,T,and_self,Option.map_some];obtain⟨r,hr⟩:=Au B;have e:((cells a).map SV.v).take (i.toNat*bE.size α+o)++v.cells.map .v++((cells a).map SV.v).drop (i.toNat*bE.size α+o+sz)=(cells (a.set i y)).map SV.v:=by
  rw[K0 a i y g2,G];have t:(cells a).drop (i.toNat*bE.size α)=cells x++r:=hr;have w  := gx x;have e1:(cells a).take (i.toNat*bE.size α+o)=(cells a).take (i.toNat*bE.size α)++(cells x).take o:=by
   rw[List.take_add,t,List.take_append_of_le_length (by omega)]
  have e2:(cells a).drop (i.toNat*bE.size α+o+sz)=(cells x).drop (o+sz)++(cells a).drop ((i.toNat+1)*bE.size α):=by
   have e3:(cells a).drop ((i.toNat+1)*bE.size α)=r:=by
    rw[Nat.add_mul,Nat.one_mul,<-List.drop_drop,t,<-w,List.drop_left]
   rw[e3,Nat.add_assoc,<-List.drop_drop,t,List.drop_append_of_le_length (by omega)]
  rw[<-List.map_take,<-List.map_drop,e1,e2]
  grind
 rw[e]
end
theorem Q4 {α:Type} [bE α] {m:Tb bP} {d:Nat} {x:α} {vs:List V} (h:bk m d=some (bx x)):nD (iX m 8) (.ptr d 0::vs.map .v)=some (.fptr (cells x)::vs):=by
 have h1:iX m 8 (.ptr d 0)=some (.fptr (cells x)):=by
  show (match bk m d with
   | some (.box t)=>match nD (iX m 7) t with
    | some q=>if 0<=q.length then some (V.fptr (q.drop 0))else none
    | none=>none
   | _=>none)=_
  rw[h];simp[Gr]
 simp[nD,h1,Gr]
theorem U3 (n:Nat) {fo:Fo} {fs fs':List Fm} {st0 st:St} {rs:List RV} {e:γ->Option (List V)} {r:γ} (svs:List SV) {ys:List V} (B:nD (iX st.m 8) svs=some ys) (h:(h_ S c n fo fs st0,nW st rs)=(some (.rt,fs',st),some svs)) (D:e r=some ys) :
 Le ((some r).bind e) (rn S c (qS rs) fo fs st0):=by
 simp  at h;rw[ot h.1];refine Le.of_eq ?_;simp[rn,qS,h.2,B]
 grind
abbrev Mo (κ ν:Type):=List (κ×ν)
class Key (κ:Type) [bE κ] [DecidableEq κ] where
 kk:wR
 ok:∀a:κ,pL kk (enc a)=true
 eq:∀a b:κ,wu (enc a) (enc b)=some (decide (a=b))
instance:Key Int where
 kk:=.int .i64
 ok _:=rfl
 eq a b:=by
  show some (a==b)=some (decide (a=b));rw[show (a==b)=decide (a=b)from Bool.eq_iff_iff.2 (by simp)]
instance:Key aY where
 kk:=.ints 2
 ok _:=rfl
 eq a b:=by
  obtain⟨p,i⟩:=a;obtain⟨q,j⟩:=b;simp only[wu,kD,iC,Ti,Option.map_some,List.length_cons,if_true,ζa];rw[Bool.eq_iff_iff];simp
section
variable {κ ν:Type} [bE κ] [DecidableEq κ] [Key κ] [bE ν]
def tV (k:κ):Mo κ ν->Option ν
 | []=>none
 | (a,v)::r=>if k=a then some v else tV k r
def Dc (m:Mo κ ν) (k:κ) (z:ν):ν:=(tV k m).getD z
def qW (m:Mo κ ν) (k:κ) (v:ν):Mo κ ν:=
 match m with
 | []=>[(k,v)]
 | (a,w)::r=>if k=a then(k,v)::r else(a,w)::qW r k v
def mo (m:Mo κ ν):List (V×V):=m.map λx=>(enc x.1,enc x.2)
def vB (m:Mo κ ν):bP:=.mp (mo m)
theorem Ip (k:κ):∀(m:Mo κ ν) (i:Nat),(iL (enc k) (mo m) i).map (Option.map (·.2))=some ((tV k m).map enc)
 | [],i=>rfl
 | (a,v)::r,i=>by
  simp only[mo,List.map_cons,iL,Key.eq,tV]
  by_cases h:k=a
  .grind
  .simp only[h];exact Ip k r (i+1)
theorem Nf (k:κ) (v:ν) (m:Mo κ ν):pG (enc k) (enc v) (mo m)=some (mo (qW m k v)):=by
 unfold pG;have key:∀(m:Mo κ ν) (pre:List (V×V)) (i:Nat),pre.length=i->(match iL (enc k) (mo m) i with
  | some (some (j,_))=>some ((pre++mo m).set j (enc k,enc v))
  | some none=>some (pre++mo m++[(enc k,enc v)])
  | none=>none)=some (pre++mo (qW m k v)):=by
  intro m
  induction m with
  | nil=>simp[mo,iL,qW]
  | cons x r q=>
   obtain⟨a,w⟩:=x;intro pre i h;rw[show mo ((a,w)::r)=(enc a,enc w)::mo r from rfl];simp[iL,Key.eq,qW]
   by_cases hk:k=a
   .subst hk h;simp[mo]
   .simp[hk];rw[show mo ((a,w)::qW r k v)=(enc a,enc w)::mo (qW r k v)from rfl];have:=q (pre++[(enc a,enc w)]) (i+1) (by simp[h])
    grind
 have:=key m [] 0 rfl
 grind
theorem UU (n:Nat) (dr:Bool) (fr:List Nat) (q:List RO) (fs':List Fm) (st:St) (u:Nat) (mp:Mo κ ν) (k:κ) (z:ν) {kk:wR} {B:V} {m:Option β} (G:q=⟨d,gd,now,.r (.lookup kk B false),az,dd,[]⟩::l)
 (D:(h_ S c n fo fs st0,wanted st.g gd,bZ S.N st.g az,bk st.m u,(!dr||now||e_ fr [.mp u,cv k]),B,kk)=(some (.ops dr fr q,fs',st),some true,some [.mp u,cv k],some (vB mp),true,enc z,Key.kk κ))
 (h:Le m (sN S c Q dr fr d (.r (.lookup kk B false)) l fs' dd (cZ st d (cv (Dc mp k z))))):Le m (rn S c Q fo fs st0):=by
 simp only[ζc]at D;obtain⟨h1,t,A,C,H,I,J⟩:=D;subst I J;refine qK h1 G t ?_ h;rw[E5,A];simp only[ζb,H,oT,C,vB,Key.ok];have:=Ip k mp 0;simp[Dc]
 cases L:iL (enc k) (mo mp) 0 with
 | none=>grind
 | some r=>
  rw[L]at this
  cases r with
  | none=>
   cases O:tV k mp with
   | none=>rfl
   | some w=>grind
  | some w=>
   cases O:tV k mp with
   | none=>grind
   | some T=>
    grind
theorem Vy (n:Nat) (dr:Bool) (fr:List Nat) (q:List RO) (fs':List Fm) (st:St) (u:Nat) (mp:Mo κ ν) (k:κ) (v:ν) {kk:wR} {m:Option β} (D:q=⟨d,gd,now,.l (.mapUp kk),az,dd,[]⟩::l)
 (B:(h_ S c n fo fs st0,wanted st.g gd,bZ S.N st.g az,bk st.m u,(!dr||now),kk)=(some (.ops dr fr q,fs',st),some true,some [.mp u,cv k,cv v],some (vB mp),true,Key.kk κ))
 (h:Le m (sN S c Q dr fr d (.l (.mapUp kk)) l fs' dd (cZ { st with m:=bT st.m u (vB (qW mp k v)) } d (.v .undef)))):Le m (rn S c Q fo fs st0):=by
 simp only[ζc]at B;obtain⟨h1,t,w,z,A,C⟩:=B;subst C;refine qK h1 D t ?_ h;rw[sy,w];simp[A,jN,z,vB,Key.ok,Nf]
end
end
end Go.VE
namespace Go.VE
variable [bX]
instance {n:Nat}:OfNat Arg n:=⟨.s n⟩
abbrev bI (o:BinOp):K:=.p (.bin (some .int) none o)
abbrev ix (n:Nat):K:=.p (.idxS n)
abbrev ld (n:Nat):K:=.r (.load n false)
abbrev lD (n:Nat):K:=.r (.load n true)
abbrev fa (n:Nat):K:=.p (.fieldAddr n)
abbrev ln:K:=.p .lenSl
abbrev su (n:Nat):K:=.l (.store n)
abbrev Iv (n:Nat) (x:Int):Nat×SV:=(n,iv x)
abbrev Bv (n:Nat) (x:Bool):Nat×SV:=(n,bv x)
abbrev Cv {α:Type} [bE α] (n:Nat) (x:α):Nat×SV:=(n,cv x)
abbrev Kv {α:Type} [bE α] (n:Nat) (x:α):Nat×SV:=(n,cp x)
abbrev Pv (n:Nat):Nat×SV:=(n,.ptr n 0)
abbrev Ov (n:Nat):Nat×SV:=(n,.own (2000+n))
abbrev Xb {α:Type} [bE α] (n:Nat) (x:α):Nat×bP:=(n,bx x)
abbrev Lb {α:Type} [bE α] (n:Nat) (x:Sl α):Nat×bP:=(n,cT x)
abbrev on (d:Nat) (k:K) (az:List Arg) (dd:List Nat):RO:=⟨some d,none,true,k,az,dd,[]⟩
abbrev oz (k:K) (az:List Arg) (dd:List Nat):RO:=⟨none,none,false,k,az,dd,[]⟩
abbrev oy (k:K) (az:List Arg) (dd:List Nat):RO:=⟨none,none,true,k,az,dd,[]⟩
theorem Ms {n:Nat} {α:Type} [bE α] [Lv n α] (a:α):V.c7 n (cells a)=true:=Lv.lv a
attribute [simp] Ms Q0 Nw jv k9 rE pn rJ PZ QL N9 IX TB QS Qk QH QW QI
theorem nE.yM {S:Sys} {T:rU} {f:FuncId} {b:Bool} (B:T f=none) (hk:S.E.keep f=false) (D:S.yM f []=some (.bool b)) :
 nE S (eO S T) f (λ_:Unit=>[]) (λr:Bool=>[.bool r]) (λ_=>some b) true where
 k:=hk
 h _:=by
  have h:=D9 (az:=[]) B hk D;intro r hr;cases hr;unfold mX;rw[h];exact wD 8 [.bool b]
 l _:=by simp
 r _:=by simp
 s _ _:=rfl
end Go.VE
namespace Go.VE
variable [bX]
def Wp {α:Type} (m:Option α) (P:α->Prop):Prop:=∃a,m=some a/\P a
section
variable {α β:Type} {P Q:α->Prop}
theorem a_ (a:α):Wp (some a) P↔P a:=⟨λh=>by obtain⟨b,e,p⟩:=h;cases e;exact p,λp=>⟨a,rfl,p⟩⟩
theorem Qs:Wp (none:Option α) P↔False:=⟨λh=>(by obtain⟨b,e,p⟩:=h;cases e),λh=>False.elim h⟩
theorem eW {m:Option β} {k:β->Option α}:Wp (m.bind k) P↔Wp m λb=>Wp (k b) P:=by
 cases m with
 | none=>simp only[Option.bind_none,Qs]
 | some b=>simp only[ζb,a_]
theorem b9 {t:Bool} {a b:Option α}:Wp (bg t a b) P↔(t=true->Wp a P)/\(t=false->Wp b P):=by
 cases t <;> simp[bg]
theorem Wp.mono {m:Option α} (h:Wp m P) (B:∀a,P a->Q a):Wp m Q:=let ⟨a,e,p⟩:=h;⟨a,e,B a p⟩
theorem Wp.and {m:Option α} (h:Wp m P) (B:Wp m Q):Wp m λa=>P a/\Q a:=by
 obtain⟨a,e,p⟩:=h;obtain⟨b,e2,q⟩:=B;rw[e]at e2;cases e2;exact⟨a,e,p,q⟩
theorem Wp.eq {m:Option α} {a:α} (h:Wp m λx=>x=a):m=some a:=by obtain⟨b,e,rfl⟩:=h;exact e
end
section
variable {σ ε ρ:Type}
theorem g_ (step:σ->Option (Fw σ ε ρ)) (s:σ):bG step s=(step s).bind λw=>match w with
 | .n B=>bG step B
 | .x e=>some (.x e)
 | .r b=>some (.r b):=by
 have h1:∀r,bG step s=some r->((step s).bind λw=>match w with
  | .n B=>bG step B
  | .x e=>some (.x e)
  | .r b=>some (.r b))=some r:=by
  intro r h;obtain⟨k,hk⟩:=nK.1 h
  cases k with
  | zero=>simp[jA]at hk
  | succ k=>
   simp only[jA]at hk
   cases q:step s with
   | none=>rw[q]at hk;cases hk
   | some w=>
    rw[q]at hk
    cases w with
    | n B=>exact nK.2 ⟨k,hk⟩
    | x e=>exact hk
    | r b=>exact hk
 cases t:bG step s with
 | some r=>exact(h1 r t).symm
 | none=>
  cases hr:((step s).bind λw=>match w with
  | .n B=>bG step B
  | .x e=>some (.x e)
  | .r b=>some (.r b))with
  | none=>rfl
  | some r=>
   exfalso
   cases q:step s with
   | none=>rw[q]at hr;cases hr
   | some w=>
    rw[q]at hr;simp only[ζb]at hr;have:bG step s=some r:=by
     cases w with
     | n B=>
      obtain⟨k,hk⟩:=nK.1 hr;exact nK.2 ⟨k+1,by simp only[jA,q];exact hk⟩
     | x e=>exact nK.2 ⟨1,by simp only[jA,q];exact hr⟩
     | r b=>exact nK.2 ⟨1,by simp only[jA,q];exact hr⟩
    rw[t]at this;cases this
def OW (I:σ->Prop) (μ:σ->Nat) (D:ε->Prop) (G:ρ->Prop) (s:σ):Fw σ ε ρ->Prop
 | .n B=>I B/\μ B<μ s
 | .x e=>D e
 | .r b=>G b
def Vj (B:ε->Prop) (D:ρ->Prop):Fw Empty ε ρ->Prop
 | .x e=>B e
 | .r b=>D b
theorem Ou {step:σ->Option (Fw σ ε ρ)} (I:σ->Prop) (μ:σ->Nat) (B:ε->Prop) (D:ρ->Prop) (h:∀s,I s->Wp (step s) (OW I μ B D s)) {s:σ} (G:I s):Wp (bG step s) (Vj B D):=by
 have key:∀n s,μ s<=n->I s->Wp (bG step s) (Vj B D):=by
  intro n
  induction n with
  | zero=>
   intro s z q;obtain⟨w,t,hr⟩:=h s q;rw[g_,t]
   cases w with
   | n u=>exact absurd hr.2 (by omega)
   | x e=>exact⟨_,rfl,hr⟩
   | r b=>exact⟨_,rfl,hr⟩
  | succ n A=>
   intro s z q;obtain⟨w,t,hr⟩:=h s q;rw[g_,t]
   cases w with
   | n u=>exact A u (by have:=hr.2;omega) hr.1
   | x e=>exact⟨_,rfl,hr⟩
   | r b=>exact⟨_,rfl,hr⟩
 exact key (μ s) s (Nat.le_refl _) G
theorem eP {γ:Type} {step:σ->Option (Fw σ ε ρ)} {B:ε->Option γ} {fr:ρ->Option γ} {P:γ->Prop} (I:σ->Prop) (μ:σ->Nat) {s:σ} (D:I s)
 (h:∀s,I s->Wp (step s) (OW I μ (λe=>Wp (B e) P) (λb=>Wp (fr b) P) s)):Wp ((bG step s).bind (Fw.elim B fr)) P:=by
 rw[eW];refine(Ou I μ _ _ h D).mono ?_;intro w q
 cases w with
 | n a=>cases a
 | x e=>exact q
 | r b=>exact q
end
end Go.VE
namespace Go.VE
variable [bX]
theorem Jy {β γ δ:Type} {e:γ->Option β} {m:Option δ} {f:δ->Option γ} {L:Option β} (h:∀x,m=some x->Le ((f x).bind e) L):Le ((m.bind f).bind e) L:=by
 cases m with
 | none=>exact Le.none _
 | some x=>exact h x rfl
section
variable {S:Sys} {c:cq} {β:Type} {Q:Out×St->Option β} {fo:Fo} {fs:List Fm} {st0:St} {l:List RO} {d:Option Nat} {now:Bool} {az:List Arg} {dd:List Nat}
theorem Le.get {β:Type} {r:β} {L:Option β} (h:Le (some r) L):L=some r:=h r rfl
theorem Kt {n:Nat} {fo fo':Fo} {fs fs':List Fm} {st:St} (A:Bool->St) {t:Bool} {m:Option β} (B:t=true) (h:h_ S c n fo fs st=some (fo',fs',A t)) (D:Le m (rn S c Q fo' fs' (A true))):Le m (rn S c Q fo fs st):=by
 rw[ot h,B];exact D
theorem Kf {n:Nat} {fo fo':Fo} {fs fs':List Fm} {st:St} (A:Bool->St) {t:Bool} {m:Option β} (B:t=false) (h:h_ S c n fo fs st=some (fo',fs',A t)) (D:Le m (rn S c Q fo' fs' (A false))):Le m (rn S c Q fo fs st):=by
 rw[ot h,B];exact D
theorem NJ {α:Type} [bE α] {s:Sl α} {i:Int} {x:α} {r:β} {L:Option β} (B:idx s i=some x) (h:Le (((idx s i).bind λ_=>some r).bind some) L):Le (some r) L:=by
 rw[B]at h;exact h
theorem Vh {n:Nat} {q:List RO} {fs':List Fm} {st:St} {id:Nat} {vs:List SV} {xs:List V} {B:List (List V)} {m:Option β}
 (D:h_ S c n fo fs st0=some (.ops false [] q,fs',st)) (G:q=⟨d,none,now,.c,az,dd,[]⟩::l) (J:bZ S.N st.g az=some (.yl id::vs)) (O:dG vs=some xs) (U:st.want=xs::B) (W:id=st.yid)
 (h:Le m (rn S c Q (.ops false [] l) fs' (oS dd (cZ { st with want:=B } d (.v (.bool (st.more || !B.isEmpty))))))):Le m (rn S c Q fo fs st0):=by
 refine O7 D G rfl ?_ h;unfold fA;simp only[wanted,fR,J,O,U,W,if_true,and_self,Bool.false_eq_true,if_false]
theorem Ac (a:RC) (fs:List Fm) (st:St):rn S c Q (.rc (.loop a)) fs st=(nV (cA S c a) st).bind (Db (mE S c Q fs) (mH S c Q fs) (λst=>Q (.ret,st))):=by
 show l8 S c Q (.loop a) fs st=_;unfold l8;rw[Cl];rfl
theorem P7 {f:St->Option (Out×St)} {st st':St} (h:f st=some (.norm,st')):nV f st=nV f st':=by
 have key:∀r,nV f st=some r↔nV f st'=some r:=λr=>by
  constructor
  .intro hr;obtain⟨k,hk⟩:=mD.1 hr
   cases k with
   | zero=>simp[ji]at hk
   | succ k=>simp only[ji,h]at hk;exact mD.2 ⟨k,hk⟩
  .intro hr;obtain⟨k,hk⟩:=mD.1 hr;exact mD.2 ⟨k+1,by simp only[ji,h];exact hk⟩
 cases q:nV f st with
 | none=>
  cases t:nV f st' with
  | none=>rfl
  | some r=>rw[(key r).2 t]at q;cases q
 | some r=>rw[(key r).1 q]
theorem IK {f:St->Option (Out×St)} {st st':St} {o:Out} (h:f st=some (o,st')) (B:o≠.norm):nV f st=some (o,st'):=by
 refine mD.2 ⟨1,?_⟩
 cases o with
 | norm=>exact absurd rfl B
 | exit k=>simp only[ji,h]
 | ret=>simp only[ji,h]
theorem DM {a:RC} {fs:List Fm} {st st':St} (h:rn S c some (.rc a) [] st=some (.norm,st')):rn S c Q (.rc (.loop a)) fs st=rn S c Q (.rc (.loop a)) fs st':=by
 rw[Ac,Ac,P7 (by rw[Ab];exact h)]
theorem DL {a:RC} {fs:List Fm} {st st':St} {k:Nat} (h:rn S c some (.rc a) [] st=some (.exit k,st')):rn S c Q (.rc (.loop a)) fs st=rn S c Q (.ex k) fs st':=by
 rw[Ac,IK (by rw[Ab];exact h) (by simp)];rfl
theorem D6 {a:RC} {fs:List Fm} {st st':St} (h:rn S c some (.rc a) [] st=some (.ret,st')):rn S c Q (.rc (.loop a)) fs st=Q (.ret,st'):=by
 rw[Ac,IK (by rw[Ab];exact h) (by simp)];rfl
end
def Qi:Out×St->Option Unit
 | (.exit _,_)=>none
 | (_,st)=>if st.want.isEmpty then some ()else none
def Sys.bare (S:Sys):Sys:=⟨S.E,S.N,λ_ _ _=>none,λ_ _=>none,λ_=>none⟩
def ni:cq:=λ_ _ _=>none
def Cg (B rest:List (List V)) (more:Bool):Prop:=more=true/\B=rest\/more=false/\B≠[]/\∃r,rest=B++r
theorem Od (S:Sys) {f:FuncId} {fi:FI} {nm:FuncId->Option Nat} {rf:RF} (G:S.E.ft f=some fi) (U:∀g s,nm g=some s->S.N s=g) (hr:xT S.E nm fi rf) {a b:List V} {xs:List (List V)} (D:a.length+1+b.length<=rf.na) (O:rf.rs=[])
 (h:∀B more,Cg B xs more->∀yid,rn S.bare ni Qi (.rc rf.body) [] ⟨xh 0 (a.map .v++.yl yid::b.map .v),[],[],B,more,yid⟩=some ()):iA S f a b xs:=by
 have k:iA S.bare f a b xs:=Qf (S:=S.bare) (c:=ni) (fi:=fi) (nm:=nm) (rf:=rf) (λ_ _ h=>by cases h) (λ_ _ _ _ _ h=>by simp[ni]at h) (λ_ _ _ _ h=>by simp[Sys.bare]at h) G U hr D O (λB more t yid=>by
  have h1:=h B more t yid;change l8 S.bare ni Qi rf.body [] _=some ()at h1;rw[tE]at h1;obtain⟨⟨o,st'⟩,u,q⟩:=ζg.1 h1;refine⟨o,st',u,?_,?_,rfl⟩
  .rintro id rfl;simp[Qi]at q
  .cases o <;> simp[Qi]at q <;> exact q)
 intro B more t yid J y Z w z H h1 u q A C;exact k B more t yid J ⟨y.wP,y.yield⟩ Z w z H h1 u q A C
open Classical in
noncomputable def xw (P:FuncId->List V->List V->List (List V)->Prop) (f:FuncId) (a b:List V):Option (List (List V)):=if h:∃q,P f a b q then some (Classical.choose h)else none
theorem JX {P:FuncId->List V->List V->List (List V)->Prop} {f:FuncId} {a b:List V} {xs:List (List V)} (h:P f a b xs) (hu:∀ys,P f a b ys->ys=xs):xw P f a b=some xs:=by
 have h1:∃xs,P f a b xs:=⟨xs,h⟩;unfold xw;rw[dif_pos h1,hu _ (Classical.choose_spec h1)]
theorem J2 {P:FuncId->List V->List V->List (List V)->Prop} {f:FuncId} {a b:List V} {xs:List (List V)} (h:xw P f a b=some xs):P f a b xs:=by
 unfold xw at h;split at h
 .rename_i h1;cases h;exact Classical.choose_spec h1
 .cases h
theorem SJ {E:Env} {nm:FuncId->Option Nat} {f:FuncId} {rf:RF}
 (h:((E.ft f).bind λfi=>(bQ ⟨E,nm,fi.ntmps⟩ false fi.body).bind λc=>(fi.results.mapM (AA E)).bind λrs=>some (c,rs,fi.ntmps))=some (erase rf.body,rf.rs,rf.na)):∃fi,E.ft f=some fi/\xT E nm fi rf:=by
 obtain⟨fi,h1,t⟩:=ζg.1 h;obtain⟨c,u,w⟩:=ζg.1 t;obtain⟨rs,z,q⟩:=ζg.1 w;simp only[ζa,ζc]at q;obtain⟨rfl,rfl,A⟩:=q;exact⟨fi,h1,u,z,A.symm⟩
theorem zA {n m:Nat} (h:n<=m) {x:V} (B:V.lvl n x=true):V.lvl m x=true:=by
 induction h with
 | refl=>exact B
 | step _ q=>exact yW q
theorem Aq {n m:Nat} (h:n<=m) {x:List V} (B:V.c7 n x=true):V.c7 m x=true:=by
 induction h with
 | refl=>exact B
 | step _ q=>exact rR q
theorem MT {n m:Nat} (h:n<=m) {x:List (List V)} (B:V.m_ n x=true):V.m_ m x=true:=by
 induction h with
 | refl=>exact B
 | step _ q=>exact BB q
theorem PV {n m:Nat} (h:n<=m) {x:List (V×V)} (B:V.oN n x=true):V.oN m x=true:=by
 induction h with
 | refl=>exact B
 | step _ q=>exact CQ q
mutual
theorem yV:∀x:V,∃n,V.lvl n x=true
 | .fsl es xs=>let ⟨n,h⟩:=FU xs;⟨n+1,by simp only[V.lvl];exact h⟩
 | .fptr q=>let ⟨n,h⟩:=sU q;⟨n+1,by simp only[V.lvl];exact h⟩
 | .fmap t=>let ⟨n,h⟩:=Is t;⟨n+1,by simp only[V.lvl];exact h⟩
 | .agg q=>let ⟨n,h⟩:=sU q;⟨n+1,by simp only[V.lvl];exact h⟩
 | .tup q=>let ⟨n,h⟩:=sU q;⟨n+1,by simp only[V.lvl];exact h⟩
 | .clo f a b=>let ⟨n,h⟩:=sU a;let ⟨m,k⟩:=sU b;⟨max n m+1,by simp only[V.lvl,ζh];exact⟨Aq (Nat.le_max_left _ _) h,Aq (Nat.le_max_right _ _) k⟩⟩
 | .bool _|.int ..|.str _|.gV|.gw|.rI|.c9|.bH|.hsl ..|.hptr ..|.yld _|.hmap _=>⟨0,rfl⟩
theorem sU:∀x:List V,∃n,V.c7 n x=true
 | []=>⟨0,by simp only[V.c7]⟩
 | a::l=>let ⟨n,h⟩:=yV a;let ⟨m,k⟩:=sU l;⟨max n m,by simp only[V.c7,ζh];exact⟨zA (Nat.le_max_left _ _) h,Aq (Nat.le_max_right _ _) k⟩⟩
theorem FU:∀x:List (List V),∃n,V.m_ n x=true
 | []=>⟨0,by simp only[V.m_]⟩
 | a::l=>let ⟨n,h⟩:=sU a;let ⟨m,k⟩:=FU l;⟨max n m,by simp only[V.m_,ζh];exact⟨Aq (Nat.le_max_left _ _) h,MT (Nat.le_max_right _ _) k⟩⟩
theorem Is:∀x:List (V×V),∃n,V.oN n x=true
 | []=>⟨0,by simp only[V.oN]⟩
 | (a,b)::l=>let ⟨n,h⟩:=yV a;let ⟨m,k⟩:=yV b;let ⟨q,p⟩:=Is l;⟨max n (max m q),by simp only[V.oN,ζh];exact⟨⟨zA (by omega) h,zA (by omega) k⟩,PV (by omega) p⟩⟩
end
theorem FR.oW {H:bl} {Z Z':Nat->Prop} {x y z:V} (h:FR H Z x z) (k:FR H Z' y z):x=y:=by
 obtain⟨n,q⟩:=yV x;obtain⟨m,t⟩:=yV y;have e1:=h.borrow (max n m) (zA (Nat.le_max_left _ _) q);have e2:=k.borrow (max n m) (zA (Nat.le_max_right _ _) t);rw[e1]at e2;exact Option.some.inj e2
open Classical in
noncomputable def z_ (E:Env) (f:FuncId) (az:List V):Option V:=if h:∃y,zK E f az y then some (Classical.choose h)else none
theorem Me {E:Env} {f:FuncId} {az:List V} {y:V} (h:z_ E f az=some y):zK E f az y:=by
 unfold z_ at h;split at h
 .rename_i h1;cases h;exact Classical.choose_spec h1
 .cases h
theorem zw {E:Env} {f:FuncId} {az:List V} {y:V} (h:zK E f az y):z_ E f az=some y:=by
 have h1:∃y,zK E f az y:=⟨y,h⟩;unfold z_;rw[dif_pos h1];obtain⟨n,z,H,Z,k1,k2,_⟩:=h;obtain⟨q,t,H',Z',k3,k4,_⟩:=Classical.choose_spec h1;have e1:=pK E (Nat.le_max_left n q) _ _ _ _ k1;have e2:=pK E (Nat.le_max_right n q) _ _ _ _ k3;rw[e1]at e2;cases e2;rw[FR.oW k4 k2]
theorem HF {E:Env} {f:FuncId} {az:List V} {y:V} (B:V.scalar y=true) (h:∃n H',run E n (.fn f) az []=some (y,H')):zK E f az y:=by
 obtain⟨n,H',h⟩:=h;exact⟨n,y,H',λ_=>False,h,.same _ (mW B),λ_ h=>h.elim,⟨λ_ _ _ h=>h.elim⟩⟩
end Go.VE
