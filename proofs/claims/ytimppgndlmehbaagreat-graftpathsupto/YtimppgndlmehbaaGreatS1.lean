/-
 Plain values and the steps of a certificate.
-/
import Derived.KernelRfl
import Derived.Test.YtimppgndlmehbaaGreatN2
set_option linter.all false
namespace Go.VE
variable [aU]
inductive Sl (α:Type) where
 | nil
 | emp
 | row (l:List α)
 | part (l:List α)
 deriving Inhabited
def Sl.l {α:Type}:Sl α->List α
 | .nil|.emp=>[]
 | .row l|.part l=>l
def Sl.k {α:Type}:Sl α->Fl
 | .nil=>.nil
 | .emp=>.emp
 | .row _=>.row
 | .part _=>.part
class aD (α:Type) where
 cells:α->List V
 agg:Bool
 size:Nat
 len:∀a,(cells a).length=size
 good:∀a,V.bJ (cells a)=true
 one:∀a,(cells a).all V.one=true
 plain:agg=false->size=1
def cells {α:Type} [aD α] (a:α):List V:=aD.cells a
def enc {α:Type} [aD α] (a:α):V:=if aD.agg α then .agg (cells a)else(cells a).headD .undef
def rows {α:Type} [aD α] (l:List α):List (List V):=l.map cells
def aW {α:Type} [aD α] (s:Sl α):V:=mj s.k (aD.size α) (rows s.l)
instance:aD Int where
 cells n:=[.int .i64 n]
 agg:=false
 size:=1
 len _:=rfl
 good _:=rfl
 one _:=rfl
 plain _:=rfl
instance:aD Bool where
 cells b:=[.bool b]
 agg:=false
 size:=1
 len _:=rfl
 good _:=rfl
 one _:=rfl
 plain _:=rfl
instance:aD ByteArray where
 cells s:=[.str s]
 agg:=false
 size:=1
 len _:=rfl
 good _:=rfl
 one _:=rfl
 plain _:=rfl
structure aa where
 proc:Int
 index:Int
 deriving DecidableEq,Inhabited
instance:aD aa where
 cells x:=[.int .i64 x.proc,.int .i64 x.index]
 agg:=true
 size:=2
 len _:=rfl
 good _:=rfl
 one _:=rfl
 plain h:=by cases h
@[simp] theorem TJ (n:Int):enc n=.int .i64 n:=rfl
@[simp] theorem Tm (n:Bool):enc n=.bool n:=rfl
@[simp] theorem TH (n:ByteArray):enc n=.str n:=rfl
@[simp] theorem S8 (n:Int):cells n=[.int .i64 n]:=rfl
@[simp] theorem Sn (n:Bool):cells n=[.bool n]:=rfl
@[simp] theorem S3 (n:ByteArray):cells n=[.str n]:=rfl
@[simp] theorem Ts (n:aa):cells n=[.int .i64 n.proc,.int .i64 n.index]:=rfl
@[simp] theorem Qn (n:aa):enc n=.agg [.int .i64 n.proc,.int .i64 n.index]:=rfl
section
variable {α:Type} [aD α]
theorem fq (l:List α):(rows l).length=l.length:=by simp[rows]
def idx (s:Sl α) (i:Int):Option α:=if 0<=i then s.l[i.toNat]? else none
theorem Mr {N:Nat->FuncId} (s:Sl α) (k:IntKind) (i:Int) {n:Nat} (hn:n=aD.size α):aj N (.idxS n) [aW s,.int k i]=(idx s i).map λx=>.fptr (cells x):=by
 subst hn;unfold idx aW;simp only[aj,j7]
 by_cases h:i<0
 .rw[if_pos h,if_neg (by omega)];rfl
 .rw[if_neg h,if_pos (by omega)]
  cases s <;> simp[Sl.k,Sl.l,mj,rows,Function.comp_def]
theorem Km {N:Nat->FuncId} (s:Sl α):aj N .lenSl [aW s]=some (.int .i64 s.l.length):=by
 cases s <;> simp[aj,mU,aW,Sl.k,Sl.l,mj,fq]
end
section
variable {S:Sys} {c:br}
end
end Go.VE
namespace Go.VE
variable [aU]
section
variable {S:Sys} {c:br}
def isSlice:uq->Bool
 | .slice ..=>true
 | _=>false
theorem NO (dr:Bool) (fr:List Nat) (dst:Option Nat) (now:Bool) (p:uq) (az:List Arg) (st:St) (h:isSlice p=false) :
 ey S c dr fr ⟨dst,none,now,.p p,az,[],[]⟩ st=(a_ S.N st.g az).bind λsvs=>(jd S.N st.m p svs).bind λx=>some (bY st dst x):=by
 unfold ey mh;have hy:eT S.N st.g ⟨dst,none,now,.p p,az,[],[]⟩=none:=by unfold eT;grind
 simp[wanted,hy]
 cases hs:a_ S.N st.g az with
 | none=>rfl
 | some svs=>
  simp;cases p <;> first|(simp[isSlice]at h;done)|(cases hp:jd S.N st.m _ svs <;> simp[hp])
theorem Hi (N:Nat->FuncId) (m:Tb aN) (p:uq) (svs:List SV) (xs:List V) (h:cH svs=some xs):jd N m p svs=(aj N p xs).bind λx=>some (.v x):=by
 unfold jd;rw[h];dsimp only;cases aj N p xs <;> rfl
theorem DL (dr:Bool) (fr:List Nat) (dst:Option Nat) (now:Bool) (q:GJ) (az:List Arg) (st:St) :
 ey S c dr fr ⟨dst,none,now,.r q,az,[],[]⟩ st=(a_ S.N st.g az).bind λsvs=>if !dr||now||dM fr svs then(nF st.m q svs).bind λx=>some (bY st dst x)else none:=by
 unfold ey mh;have hy:eT S.N st.g ⟨dst,none,now,.r q,az,[],[]⟩=none:=rfl;simp[wanted,hy]
 cases hs:a_ S.N st.g az with
 | none=>rfl
 | some svs=>
  simp;split
  .cases hp:nF st.m q svs <;> simp
  .rfl
theorem Bf (dr:Bool) (fr:List Nat) (d:Nat) (now:Bool) (q:K4) (az:List Arg) (st:St) :
 ey S c dr fr ⟨some d,none,now,.a q,az,[],[]⟩ st=(a_ S.N st.g az).bind λsvs=>if st.new d then(ou st.m q svs d).bind λr=>some { st with g:=aS st.g d r.2,m:=aS st.m d r.1 } else none:=by
 unfold ey mh;have hy:eT S.N st.g ⟨some d,none,now,.a q,az,[],[]⟩=none:=rfl;simp[wanted,hy]
 cases hs:a_ S.N st.g az with
 | none=>rfl
 | some svs=>
  simp;split
  .cases hp:ou st.m q svs d <;> simp[bY]
  .rfl
theorem vc (dr:Bool) (fr:List Nat) (dst:Option Nat) (now:Bool) (q:GV) (az:List Arg) (st:St) :
 ey S c dr fr ⟨dst,none,now,.l q,az,[],[]⟩ st=(a_ S.N st.g az).bind λsvs=>if !dr||now then(pH st dst q svs).bind λr=>some (bY r.2 dst r.1)else none:=by
 unfold ey mh;have hy:eT S.N st.g ⟨dst,none,now,.l q,az,[],[]⟩=none:=rfl;simp[wanted,hy]
 cases hs:a_ S.N st.g az with
 | none=>rfl
 | some svs=>
  simp;split
  .cases hp:pH st dst q svs <;> simp
  .rfl
def nh:List SV->Option (FuncId×List SV)
 | .clo f a b::vs=>some (f,a++vs++b)
 | .v (.clo f a b)::vs=>some (f,a.map .v++vs++b.map .v)
 | _=>none
theorem DK (dr:Bool) (fr:List Nat) (dst:Option Nat) (now:Bool) (az:List Arg) (st:St) (svs:List SV) (f:FuncId) (args:List SV) (hs:a_ S.N st.g az=some svs) (hc:nh svs=some (f,args)) :
 ey S c dr fr ⟨dst,none,now,.c,az,[],[]⟩ st=(gO S c dst dr (!dr||now) (fP st.m fr) f args st).bind λr=>some (bY r.2 dst r.1):=by
 unfold ey mh;unfold nh at hc;split at hc
 .obtain⟨rfl,rfl⟩:=hc;simp[wanted,eT,hs];cases gO S c dst dr _ _ _ _ st <;> simp
 .obtain⟨rfl,rfl⟩:=hc;simp[wanted,eT,hs];cases gO S c dst dr _ _ _ _ st <;> simp
 grind
noncomputable def LS {β:Type} (S:Sys) (c:br) (fr:List Nat) (l:List RO) (k:St->Option β):St->Option β:=λst=>(lp S c false fr l st).bind k
noncomputable def LM {β:Type} (S:Sys) (c:br) (fr:List Nat) (l:List RO) (k:St->Option β):St->Option β:=λst=>(lp S c true fr l st).bind k
noncomputable def P6 {β:Type} (S:Sys) (c:br) (fr dd:List Nat) (l:List RO) (k:St->Option β):St->Option β:=λst=>LS S c fr l k (nL dd st)
noncomputable def QA {β:Type} (S:Sys) (c:br) (fr dd:List Nat) (l:List RO) (k:St->Option β):St->Option β:=λst=>LM S c fr l k (nL dd st)
@[congr] theorem Sh {β:Type} {fr:List Nat} {l:List RO} {k:St->Option β} {st st':St} (h:st=st'):LS S c fr l k st=LS S c fr l k st':=by rw[h]
@[congr] theorem RT {β:Type} {fr fr':List Nat} {l:List RO} {k:St->Option β} {st st':St} (hf:fr=fr') (h:st=st'):LM S c fr l k st=LM S c fr' l k st':=by simp_all
@[congr] theorem SH {β:Type} {fr dd:List Nat} {l:List RO} {k:St->Option β} {st st':St} (h:st=st'):P6 S c fr dd l k st=P6 S c fr dd l k st':=by rw[h]
@[congr] theorem SJ {β:Type} {fr fr' dd:List Nat} {l:List RO} {k:St->Option β} {st st':St} (hf:fr=fr') (h:st=st'):QA S c fr dd l k st=QA S c fr' dd l k st':=by simp_all
@[congr] theorem SY {dr:Bool} {fr:List Nat} {o:RO} {st st':St} (h:st=st'):ey S c dr fr o st=ey S c dr fr o st':=by rw[h]
end
section
variable {S:Sys} {c:br} (dr:Bool) (fr:List Nat) (dst:Option Nat) (now:Bool) (az:List Arg) (st:St)
end
end Go.VE
namespace Go.VE
variable [aU]
inductive Fm where
 | seq (b:RC)
 | blk (id:Nat)
 | gst (x:Gh)
section
variable (S:Sys) (c:br) {β:Type} (Q:Out×St->Option β)
noncomputable def runK:List Fm->Out×St->Option β
 | [],r=>Q r
 | .seq b::fs,(.norm,st)=>(bB S c b st).bind (runK fs)
 | .seq _::fs,r=>runK fs r
 | .blk id::fs,(.exit k,st)=>if k=id then runK fs (.norm,st)else runK fs (.exit k,st)
 | .blk _::fs,r=>runK fs r
 | .gst x::fs,(.norm,st)=>(ghost x st).bind λst=>runK fs (.norm,st)
 | .gst _::fs,r=>runK fs r
noncomputable def go (rc:RC) (fs:List Fm) (st:St):Option β:=(bB S c rc st).bind (runK S c Q fs)
noncomputable def Nh (fs:List Fm):St->Option β:=λst=>runK S c Q fs (.norm,st)
def an {α:Type} (t:Bool) (a b:α):α:=if t then a else b
end
@[congr] theorem Ta {α:Type} {t t':Bool} {a b a' b':α} (h:t=t') (ha:t'=true->a=a') (hb:t'=false->b=b'):an t a b=an t' a' b':=by
 subst h;cases t
 .exact hb rfl
 .exact ha rfl
section
variable {S:Sys} {c:br} {β:Type} {Q:Out×St->Option β}
@[congr] theorem go_congr {a:RC} {fs:List Fm} {st st':St} (h:st=st'):go S c Q a fs st=go S c Q a fs st':=by rw[h]
@[congr] theorem RK {fs:List Fm} {st st':St} (h:st=st'):Nh S c Q fs st=Nh S c Q fs st':=by rw[h]
@[congr] theorem Si {fs:List Fm} {r r':Out×St} (h:r=r'):runK S c Q fs r=runK S c Q fs r':=by rw[h]
theorem D9 (rc:RC) (st:St):(bB S c rc st).bind Q=go S c Q rc [] st:=by
 simp only[go];cases bB S c rc st <;> rfl
inductive Fw (ν ε ρ:Type) where
 | n (a:ν)
 | x (e:ε)
 | r (b:ρ)
def iy {σ ε ρ:Type} (step:σ->Option (Fw σ ε ρ)):Nat->σ->Option (Fw Empty ε ρ)
 | 0,_=>none
 | k+1,s=>match step s with
  | some (.n s')=>iy step k s'
  | some (.x e)=>some (.x e)
  | some (.r b)=>some (.r b)
  | none=>none
theorem vt {σ ε ρ:Type} {step:σ->Option (Fw σ ε ρ)}:∀{k k':Nat} {s:σ} {r:Fw Empty ε ρ},k<=k'->iy step k s=some r->iy step k' s=some r
 | 0,_,_,_,_,h=>by simp[iy]at h
 | k+1,0,_,_,hk,_=>by omega
 | k+1,k'+1,s,r,hk,h=>by
  simp only[iy]at h ⊢;split at h
  .exact vt (Nat.le_of_succ_le_succ hk) h
  .exact h
  .exact h
  .simp at h
open Classical in
noncomputable def aQ {σ ε ρ:Type} (step:σ->Option (Fw σ ε ρ)) (s:σ):Option (Fw Empty ε ρ):=
 if h:∃k r,iy step k s=some r then some (Classical.choose (Classical.choose_spec h))else none
theorem mg {σ ε ρ:Type} {step:σ->Option (Fw σ ε ρ)} {s:σ} {r:Fw Empty ε ρ}:aQ step s=some r↔∃k,iy step k s=some r:=by
 unfold aQ;constructor
 .intro h;split at h
  .rename_i hx;simp only[ζa]at h;exact⟨_,by rw[<-h];exact Classical.choose_spec (Classical.choose_spec hx)⟩
  .simp at h
 .rintro⟨k,hk⟩;have hx:∃k r,iy step k s=some r:=⟨k,r,hk⟩;rw[dif_pos hx];have h2:=Classical.choose_spec (Classical.choose_spec hx);have h3:=vt (Nat.le_max_left (Classical.choose hx) k) h2;have h4:=vt (Nat.le_max_right (Classical.choose hx) k) hk;rw[h3]at h4;exact h4
def Fw.out {ν ε ρ:Type} (eν:ν->St) (eε:ε->Nat×St) (eρ:ρ->St):Fw ν ε ρ->Out×St
 | .n a=>(.norm,eν a)
 | .x e=>(.exit (eε e).1,(eε e).2)
 | .r b=>(.ret,eρ b)
def Fw.elim {ε ρ γ:Type} (fx:ε->γ) (fr:ρ->γ):Fw Empty ε ρ->γ
 | .x e=>fx e
 | .r b=>fr b
end
end Go.VE
namespace Go.VE
variable [aU]
class Lv (n:Nat) (α:Type) [aD α]:Prop where
 lv:∀a:α,V.bZ n (cells a)=true
instance {n:Nat}:Lv n Int:=⟨λ_=>by cases n <;> rfl⟩
instance {n:Nat}:Lv n Bool:=⟨λ_=>by cases n <;> rfl⟩
instance {n:Nat}:Lv n ByteArray:=⟨λ_=>by cases n <;> rfl⟩
instance {n:Nat}:Lv n aa:=⟨λ_=>by cases n <;> rfl⟩
section
variable {α:Type} [aD α]
theorem Dk (s:Sl α):V.one (aW s)=true:=by cases s <;> rfl
theorem K1 (l:List α):V.mO (rows l)=true:=by
 induction l with
 | nil=>rfl
 | cons a l ih=>simp only[rows,List.map_cons,V.mO,ζh];exact⟨aD.good a,ih⟩
theorem HX (s:Sl α):V.good (aW s)=true:=by
 cases s <;> simp only[aW,Sl.k,mj,V.good] <;> exact K1 _
theorem M1 {n:Nat} [Lv n α] (l:List α):V.lN n (rows l)=true:=by
 induction l with
 | nil=>cases n <;> rfl
 | cons a l ih=>simp only[rows,List.map_cons,V.lN,ζh];exact⟨Lv.lv a,ih⟩
theorem C2 {n:Nat} [Lv n α] (s:Sl α):V.lvl (n+1) (aW s)=true:=by
 cases s <;> simp only[aW,Sl.k,mj,V.lvl] <;> exact M1 _
instance:aD (Sl α) where
 cells s:=[aW s]
 agg:=false
 size:=1
 len _:=rfl
 good s:=by simp only[V.bJ,HX,Bool.and_self]
 one s:=by simp[Dk]
 plain _:=rfl
instance {n:Nat} [Lv n α]:Lv (n+1) (Sl α):=⟨λs=>by
 show V.bZ (n+1) [aW s]=true;simp only[V.bZ,C2,Bool.and_self]⟩
end
theorem Ot (n:Nat) (cs:List V):V.lvl (n+1) (.agg cs)=V.bZ n cs:=rfl
theorem Pa (n:Nat) (cs:List V):V.lvl (n+1) (.tup cs)=V.bZ n cs:=rfl
theorem Lg (n:Nat) (cs:List V):V.lvl (n+1) (.fptr cs)=V.bZ n cs:=rfl
theorem OL (n:Nat) (f:FuncId) (a b:List V):V.lvl (n+1) (.clo f a b)=(V.bZ n a&&V.bZ n b):=rfl
theorem qm (n:Nat) (k:IntKind) (x:Int):V.lvl n (.int k x)=true:=by cases n <;> rfl
theorem nS (n:Nat) (x:Bool):V.lvl n (.bool x)=true:=by cases n <;> rfl
theorem qx (n:Nat) (x:ByteArray):V.lvl n (.str x)=true:=by cases n <;> rfl
theorem NX (n:Nat):V.lvl n .aL=true:=by cases n <;> rfl
theorem Oi (n:Nat):V.lvl n .cM=true:=by cases n <;> rfl
theorem MF (n:Nat):V.lvl n .fE=true:=by cases n <;> rfl
theorem jO (n:Nat):V.bZ n []=true:=by cases n <;> rfl
theorem iw (n:Nat) (x:V) (r:List V):V.bZ n (x::r)=(V.lvl n x&&V.bZ n r):=by cases n <;> rfl
section
variable {S:Sys} {c:br}
def KF (x:Option SV) (b:Bool) (y z:Option St):Option St:=
 match x with
 | some (.v (.bool t))=>an (t==b) y z
 | some (.v _)=>z
 | _=>none
@[congr] theorem Rk {x x':Option SV} {b:Bool} {y z:Option St} (h:x=x'):KF x b y z=KF x' b y z:=by rw[h]
def Nz {β:Type} (x:Option SV) (y z:Option β):Option β:=
 match x with
 | some (.v (.bool t))=>an t y z
 | _=>none
@[congr] theorem RA {β:Type} {x x':Option SV} {y z:Option β} (h:x=x'):Nz x y z=Nz x' y z:=by rw[h]
def lQ (c:br) (f:FuncId) (az:List V):Option (List V):=(c f (az.map .v) []).bind λr=>bM r.2 8 r.1
def EL (now:Bool) (args:List SV) (ok:Bool) (st:St) (ys:List V):Option (SV×St):=
 if V.lvl 8 (result ys)&&((result ys).scalar||ok)then some (.v (result ys),st)else if V.lvl 8 (result ys)&&now then(rowsOf args).map λds=>(.v (result ys),{ st with m:=k9 ds st.m })else none
theorem He (dst:Option Nat) (dr now:Bool) (old:List SV->Bool) (f:FuncId) (args:List SV) (st:St) (hk:S.E.keep f=false) :
 gO S c dst dr now old f args st=(bM st.m 8 args).bind λaz=>if V.bZ 8 az&&(now||old args)then(lQ c f az).bind (EL now args (cH args).isSome st)else none:=by
 unfold gO lQ;simp only[hk,Bool.false_eq_true,if_false]
 cases bM st.m 8 args with
 | none=>rfl
 | some az=>
  simp only[ζb];split
  .cases c f (az.map .v) []with
   | none=>rfl
   | some r=>
    obtain⟨rs,m'⟩:=r;simp only[ζb];cases bM m' 8 rs <;> rfl
  .rfl
end
section
variable {S:Sys} {T:qc}
def EH (rs:List RV):Out×St->Option (List V)
 | (.exit _,_)=>none
 | (_,st)=>(mA st rs).bind (bM st.m 8)
theorem MP {f:FuncId} {rf:RF} (hT:T f=some rf) (az:List V) (hn:az.length<=rf.na):lQ (dA S T) f az=go S (dA S T) (EH rf.rs) rf.body [] (start (az.map .v) []):=by
 unfold lQ;rw[wM hT];unfold nN;rw[if_pos (by simpa using hn),<-D9]
 cases h:bB S (dA S T) rf.body (start (az.map .v) [])with
 | none=>rfl
 | some r=>
  obtain⟨o,st⟩:=r;cases o <;> simp only[ζb,EH] <;> (try rfl) <;> (cases mA st rf.rs <;> rfl)
end
end Go.VE
namespace Go.VE
variable [aU]
variable {N:Nat->FuncId}
theorem EV (o:Nat) (cs:List V):aj N (.fieldAddr o) [.fptr cs]=if o<=cs.length then some (.fptr (cs.drop o))else none:=rfl
def jt (s:ByteArray) (n:Int):Option Int:=if 0<=n then(s[n.toNat]?).map λb=>(b.toNat:Int)else none
theorem JE (s:ByteArray) (k:IntKind) (n:Int):aj N .idxStr [.str s,.int k n]=(jt s n).bind λx=>some (.int .u8 x):=by
 simp only[aj,jt];split
 .cases s[n.toNat]? <;> rfl
 .rfl
theorem LB (z:List V) (pl:List (Nat×Nat)) (vs:List V):aj N (.build z pl) vs=(jo z pl vs).bind λcs=>some (.agg cs):=by
 simp only[aj];cases jo z pl vs <;> rfl
section
variable {α:Type} [aD α]
theorem Cq (s:Sl α) (k:IntKind) (i:Int) (n:Nat) (hn:n=aD.size α):aj N (.idxS n) [aW s,.int k i]=(idx s i).bind λx=>some (.fptr (cells x)):=by
 rw[Mr s k i hn];cases idx s i <;> rfl
theorem wB (s:Sl α):aj N .lenSl [aW s]=some (.int .i64 s.l.length):=Km s
def Sl.isNil {α:Type} (s:Sl α):Option Bool:=
 match s with
 | .nil=>some true
 | .emp=>none
 | _=>some false
theorem Lk (q:Option Nat) (s:Sl α):aj N (.bin (some .slice) q .eql) [aW s,.aL]=s.isNil.bind λt=>some (.bool t):=by
 cases s <;> rfl
def iu (s:Sl α) (lo hi:Option Int):Option (Sl α):=
 (cI s.l.length lo hi).map λ(l,h)=>match s with
  | .nil=>.nil
  | .emp=>.emp
  | .row x=>.part ((x.take h).drop l)
  | .part x=>.part ((x.take h).drop l)
theorem Ir (s:Sl α) (lo hi:Option Int) (n:Nat) (hn:n=aD.size α):fL n (aW s) lo hi=(iu s lo hi).bind λx=>some (aW x):=by
 subst hn
 cases s with
 | nil=>simp only[aW,Sl.k,mj,fL,iu,Sl.l,List.length_nil];cases cI 0 lo hi <;> rfl
 | emp=>simp only[aW,Sl.k,mj,fL,iu,Sl.l,List.length_nil];cases cI 0 lo hi <;> rfl
 | row l=>simp only[aW,Sl.k,mj,fL,iu,Sl.l,if_true,fq];cases cI l.length lo hi <;> simp[rows,List.map_take,List.map_drop]
 | part l=>simp only[aW,Sl.k,mj,fL,iu,Sl.l,if_true,fq];cases cI l.length lo hi <;> simp[rows,List.map_take,List.map_drop]
end
theorem JL (m:Tb aN) (n:Nat) (a:Bool) (cs:List V):nF m (.load n a) [.v (.fptr cs)]=(cut cs 0 n).bind λr=>(mk a r).bind λx=>some (.v x):=by
 simp only[nF,cV]
 cases cut cs 0 n with
 | none=>rfl
 | some r=>simp only[ζb];cases mk a r <;> rfl
end Go.VE
namespace Go.VE
variable [aU]
section
variable {α:Type} [aD α]
def bV (s:Sl α):aN:=.sl s.k (aD.size α) (rows s.l)
def Sl.mm (s:Sl α) (i:Int):Option Nat:=if 0<=i/\i.toNat<s.l.length then some i.toNat else none
def Sl.get (s:Sl α) (i:Nat):Option α:=s.l[i]?
def Sl.put (s:Sl α) (i:Nat) (x:α):Option (Sl α):=
 if i<s.l.length then some (match s with|.row l=>.row (l.set i x)|.part l=>.part (l.set i x)|s=>s)else none
def kf (s:Sl α) (x:α):Option (Sl α):=if s.l.length+1<=2147483648 then some (.row (s.l++[x]))else none
def nZ (n:Int) (z:α):Option (Sl α):=if 0<=n/\n<=2147483648 then some (.row (List.replicate n.toNat z))else none
end
section
variable {α:Type} [aD α] {N:Nat->FuncId} {m:Tb aN}
def IB (n d:Nat) (o:Option aN) (i:Int):Option SV:=
 match o with
 | some (.sl k es xs)=>if bH k/\es=n/\0<=i/\i.toNat<xs.length then some (.el d i.toNat 0)else none
 | _=>none
theorem OY (n d:Nat) (k:IntKind) (i:Int):jd N m (.idxS n) [.own d,.v (.int k i)]=IB n d (ai m d) i:=by
 simp[jd,cH,zf,IB]
 grind
theorem Oz (n d:Nat) (s:Sl α) (i:Int) (h:n=aD.size α):IB n d (some (bV s)) i=(s.mm i).bind λj=>some (.el d j 0):=by
 simp[IB,bV,fq,Sl.mm]
 cases s with
 | nil=>simp[Sl.l,bH]
 | emp=>simp[Sl.l,bH]
 | row l=>simp[Sl.k,Sl.l,bH];grind
 | part l=>simp[Sl.k,Sl.l,bH];grind
def HT (o:Option aN):Option SV:=
 match o with
 | some (.sl _ _ xs)=>some (.v (.int .i64 xs.length))
 | _=>none
theorem LI (d:Nat):jd N m .lenSl [.own d]=HT (ai m d):=by
 simp[jd,cH,zf,HT]
 grind
theorem ON (s:Sl α):HT (some (bV s))=some (.v (.int .i64 s.l.length)):=by simp[HT,bV,fq]
def M_ (n:Nat) (a:Bool) (o:Nat) (ob:Option aN):Option SV:=
 match ob with
 | some (.box cs)=>tK n a ((cs.drop o).take n)
 | _=>none
theorem Tk (n:Nat) (a:Bool) (d o:Nat):nF m (.load n a) [.ptr d o]=M_ n a o (ai m d):=by
 rfl
theorem Kk (n:Nat) (a:Bool) (o:Nat) (cs:List SV):M_ n a o (some (.box cs))=tK n a ((cs.drop o).take n):=rfl
def FF (n:Nat) (a:Bool) (i o:Nat) (ob:Option aN):Option SV:=
 match ob with
 | some (.sl _ _ xs)=>match xs[i]? with
  | some cs=>((cut cs o n).bind (mk a)).map .v
  | none=>none
 | _=>none
theorem RN (n:Nat) (a:Bool) (d i o:Nat):nF m (.load n a) [.el d i o]=FF n a i o (ai m d):=by
 rfl
theorem Jv (n:Nat) (a:Bool) (i o:Nat) (s:Sl α):FF n a i o (some (bV s))=(s.get i).bind λx=>(cut (cells x) o n).bind λr=>(mk a r).bind λy=>some (.v y):=by
 simp only[FF,bV,Sl.get,rows,List.getElem?_map]
 cases s.l[i]? with
 | none=>rfl
 | some x=>
  simp only[Option.map_some,ζb]
  cases cut (cells x) o n with
  | none=>rfl
  | some r=>simp ;cases mk a r <;> rfl
theorem R5 (z:α) (n:Int) (d:Nat) (size:Nat) (zero:List V) (h:zero=cells z) (h2:size=aD.size α) :
 ou m (.makeSl size zero) [.v (.int .i64 n),.v (.int .i64 n)] d=(nZ n z).bind λs=>some (bV s,.own d):=by
 subst h h2;simp[ou,nZ];split
 .simp[bV,Sl.k,Sl.l,rows]
 .rfl
def B4 (st:St) (d i o size:Nat) (x:V) (ob:Option aN):Option (SV×St):=
 match ob with
 | some (.sl k es xs)=>match xs[i]? with
  | some cs=>if x.cells.length=size/\o+size<=cs.length/\x.cells.all V.one=true then
   some (.v .undef,{ st with m:=aS st.m d (.sl k es (xs.set i (cs.take o++x.cells++cs.drop (o+x.cells.length)))) })else none
  | none=>none
 | _=>none
theorem IA (st:St) (dst:Option Nat) (size d i o:Nat) (x:V):pH st dst (.store size) [.el d i o,.v x]=B4 st d i o size x (ai st.m d):=by
 rfl
theorem HO (g:Tb SV) (p:List Nat) (w:List (List V)) (mo:Bool) (y:Nat) (d i size:Nat) (x:V) (a:α) (hx:x.cells=cells a) (hs:size=aD.size α) (s:Sl α) :
 B4 ⟨g,m,p,w,mo,y⟩ d i 0 size x (some (bV s))=(s.put i a).bind λs'=>some (.v .undef,⟨g,aS m d (bV s'),p,w,mo,y⟩):=by
 have h1:(cells a).all V.one=true:=aD.one a;have hl:∀b:α,(cells b).length=aD.size α:=aD.len;subst hs;simp only[B4,bV,rows,List.getElem?_map,hx,Sl.put]
 by_cases hi:i<s.l.length
 .have hg  := ζd hi;rw[if_pos hi,hg];simp[hl,h1]
  cases s with
  | nil=>simp[Sl.l]at hi
  | emp=>simp[Sl.l]at hi
  | row l=>simp[Sl.k,Sl.l,List.drop_of_length_le,hl]
  | part l=>simp[Sl.k,Sl.l,List.drop_of_length_le,hl]
 grind
def w5 (st:St) (t n:Nat) (s:SV) (xs ys:Option (List (List V))):Option (SV×St):=
 match xs,ys with
 | some _,some []=>match s with
  | .own d=>match ai st.m d with
   | some ob=>if St.new { st with m:=c9 d st.m } t then some (.own t,{ st with m:=aS (c9 d st.m) t ob })else none
   | none=>none
  | .v .aL=>if st.new t then some (.own t,{ st with m:=aS st.m t (.sl .nil n []) })else none
  | .v .cM=>if st.new t then some (.own t,{ st with m:=aS st.m t (.sl .emp n []) })else none
  | _=>none
 | some xs,some ys=>
  if xs.length+ys.length<=2147483648/\FO s=true then
   if St.new { st with m:=giveUp st.m s } t then some (.own t,{ st with m:=aS (giveUp st.m s) t (.sl .row n (xs++ys)) })else none
  else none
 | _,_=>none
theorem x_ (st:St) (t n:Nat) (s x:SV):pH st (some t) (.append n) [s,x]=w5 st t n s (jx st.m n s) (jx st.m n x):=by
 cases s <;> cases x <;> (rfl)
def IV (n:Nat) (o:Option aN):Option (List (List V)):=
 match o with
 | some (.sl k es xs)=>if bH k then(if es=n then some xs else none)else some []
 | _=>none
theorem Cd (n d:Nat):jx m n (.own d)=IV n (ai m d):=by
 simp[jx,IV]
 grind
theorem yW (n:Nat) (s:Sl α) (h:n=aD.size α):IV n (some (bV s))=some (rows s.l):=by
 subst h;cases s <;> simp[IV,bV,Sl.k,Sl.l,bH,rows]
theorem OP (n:Nat):jx m n (.v .aL)=some []:=rfl
theorem OD (n:Nat):jx m n (.v .cM)=some []:=rfl
theorem Ku (g:Tb SV) (p:List Nat) (w:List (List V)) (mo:Bool) (y:Nat) (t n d:Nat) (l:List α) (x:α) (h:n=aD.size α):w5 ⟨g,m,p,w,mo,y⟩ t n (.own d) (some (rows l)) (some (rows [x])) =
 (kf (.row l) x).bind λs=>if St.new ⟨g,c9 d m,p,w,mo,y⟩ t then some (.own t,⟨g,aS (c9 d m) t (bV s),p,w,mo,y⟩)else none:=by
 subst h;have e:(rows l).length+(rows [x]).length=l.length+1:=by simp[fq]
 by_cases h:l.length+1<=2147483648
 .have h1:kf (.row l) x=some (.row (l++[x])):=if_pos h;have h2:w5 ⟨g,m,p,w,mo,y⟩ t (aD.size α) (.own d) (some (rows l)) (some (rows [x]))=if St.new ⟨g,c9 d m,p,w,mo,y⟩ t then some (.own t,⟨g,aS (c9 d m) t (.sl .row (aD.size α) (rows l++rows [x])),p,w,mo,y⟩)else none:=if_pos ⟨by omega,rfl⟩
  rw[h1,h2];simp[bV,Sl.k,Sl.l,rows]
 .have h1:kf (.row l) x=none:=if_neg h;have h2:w5 ⟨g,m,p,w,mo,y⟩ t (aD.size α) (.own d) (some (rows l)) (some (rows [x]))=none:=if_neg (λq=>h (by omega))
  grind
theorem Kg (g:Tb SV) (p:List Nat) (w:List (List V)) (mo:Bool) (y:Nat) (t n:Nat) (x:α) (h:n=aD.size α):w5 ⟨g,m,p,w,mo,y⟩ t n (.v .aL) (some []) (some (rows [x])) =
 if St.new ⟨g,m,p,w,mo,y⟩ t then some (.own t,⟨g,aS m t (bV (.row [x])),p,w,mo,y⟩)else none:=by
 subst h;rfl
theorem Ka (g:Tb SV) (p:List Nat) (w:List (List V)) (mo:Bool) (y:Nat) (t n:Nat) (x:α) (h:n=aD.size α):w5 ⟨g,m,p,w,mo,y⟩ t n (.v .cM) (some []) (some (rows [x])) =
 if St.new ⟨g,m,p,w,mo,y⟩ t then some (.own t,⟨g,aS m t (bV (.row [x])),p,w,mo,y⟩)else none:=by
 subst h;rfl
end
theorem vT (g:Tb SV) (m:Tb aN) (p:List Nat) (w:List (List V)) (mo:Bool) (y d:Nat):St.new ⟨g,m,p,w,mo,y⟩ d=(!(p.contains d)&&(ai m d).isNone && !(tJ d g) && !(qX d m)):=rfl
theorem qb (d:Nat):tJ d []=false:=rfl
theorem oI (d n:Nat) (x:SV) (r:Tb SV):tJ d ((n,x)::r)=(SV.bR d x||tJ d r):=rfl
theorem qA (d:Nat):qX d []=false:=rfl
theorem oP (d n:Nat) (x:aN) (r:Tb aN):qX d ((n,x)::r)=(aN.bR d x||qX d r):=rfl
theorem vV (d:Nat) (x:V):SV.bR d (.v x)=false:=rfl
theorem rE (d e:Nat):SV.bR d (.own e)=(e==d):=rfl
theorem rL (d e o:Nat):SV.bR d (.ptr e o)=(e==d):=rfl
theorem tU (d e i o:Nat):SV.bR d (.el e i o)=(e==d):=rfl
theorem tX (d e:Nat):SV.bR d (.mp e)=(e==d):=rfl
theorem rR (d:Nat) (f:FuncId) (a b:List SV):SV.bR d (.clo f a b)=(SV.cw d a||SV.cw d b):=rfl
theorem rU (d:Nat) (l:List SV):SV.bR d (.tup l)=SV.cw d l:=rfl
theorem qn (d:Nat):SV.cw d []=false:=rfl
theorem oN (d:Nat) (x:SV) (r:List SV):SV.cw d (x::r)=(SV.bR d x||SV.cw d r):=rfl
theorem qu (d:Nat) (cs:List SV):aN.bR d (.box cs)=SV.cw d cs:=rfl
theorem Cz (m:Tb aN) (n:Nat):bM m n []=some []:=by cases n <;> simp[bM]
theorem AV (m:Tb aN) (n:Nat) (x:SV) (r:List SV):bM m n (x::r)=(shut m n x).bind λy=>(bM m n r).bind λs=>some (y::s):=by
 cases n <;> (simp[bM];cases shut m _ x <;> (try rfl) <;> (cases bM m _ r <;> rfl))
theorem Q8 (m:Tb aN) (n:Nat) (x:V):shut m n (.v x)=some x:=by cases n <;> simp[shut]
theorem LP (m:Tb aN) (n:Nat) (f:FuncId) (a b:List SV):shut m (n+1) (.clo f a b)=(bM m n a).bind λx=>(bM m n b).bind λy=>some (.clo f x y):=by
 simp[shut];cases bM m n a <;> (try rfl) <;> (cases bM m n b <;> rfl)
theorem Me (m:Tb aN) (n:Nat) (l:List SV):shut m (n+1) (.tup l)=(bM m n l).bind λx=>some (.tup x):=by
 simp[shut];cases bM m n l <;> rfl
theorem L_ (m:Tb aN) (n:Nat) (l:List SV):shut m (n+1) (.agg l)=(bM m n l).bind λx=>some (.agg x):=by
 simp[shut];cases bM m n l <;> rfl
theorem rq {α:Type} (n:Nat):c9 n ([]:Tb α)=[]:=rfl
theorem qB {α:Type} (n k:Nat) (x:α) (r:Tb α):c9 n ((k,x)::r)=if k=n then c9 n r else(k,x)::c9 n r:=rfl
theorem mapM_nil (f:List SV->List SV):mapM f []=[]:=rfl
end Go.VE
namespace Go.VE
variable [aU]
section
variable {N:Nat->FuncId} {m:Tb aN}
theorem Og:result []=.tup []:=rfl
theorem OK (x:V):result [x]=x:=rfl
theorem OS (x y:V) (l:List V):result (x::y::l)=.tup (x::y::l):=rfl
theorem Fq (p:uq) (a:V):jd N m p [.v a]=(aj N p [a]).bind λx=>some (.v x):=Hi N m p _ [a] rfl
theorem wJ (p:uq) (a b:V):jd N m p [.v a,.v b]=(aj N p [a,b]).bind λx=>some (.v x):=Hi N m p _ [a,b] rfl
theorem pU (l:List V):cH (l.map .v)=some l:=by
 induction l with
 | nil=>rfl
 | cons a l ih=>simp only[List.map_cons,cH,ih];rfl
theorem uV (n:Nat) (l:List V):bM m n (l.map .v)=some l:=by
 induction l with
 | nil=>exact Cz m n
 | cons a l ih=>rw[List.map_cons,AV,Q8,ih];rfl
theorem Sl.NJ {α:Type} (l:List α):(Sl.row l).l=l:=rfl
theorem n9 (cs:List V):jo cs [] []=some cs:=rfl
theorem mM (cs:List V) (off size:Nat) (pl:List (Nat×Nat)) (v:V) (vs:List V):jo cs ((off,size)::pl) (v::vs) =
 if v.cells.length=size/\off+v.cells.length<=cs.length then jo (cs.take off++v.cells++cs.drop (off+v.cells.length)) pl vs else none:=by
 simp only[jo]
 by_cases h:v.cells.length=size <;> by_cases h2:off+v.cells.length<=cs.length
 .rw[if_neg (by simp[h];omega),if_pos ⟨h,h2⟩]
 .rw[if_pos (by simp[h];omega),if_neg (λq=>h2 q.2)]
 .rw[if_pos (by simp[h]),if_neg (λq=>h q.1)]
 .rw[if_pos (by simp[h]),if_neg (λq=>h q.1)]
theorem uE (k:IntKind) (n:Int):V.cells (.int k n)=[.int k n]:=rfl
theorem rW (n:Bool):V.cells (.bool n)=[.bool n]:=rfl
theorem uz (n:ByteArray):V.cells (.str n)=[.str n]:=rfl
theorem uM:V.cells .aL=[.aL]:=rfl
theorem rO (k:IntKind) (n:Int):V.one (.int k n)=true:=rfl
theorem pY (n:Bool):V.one (.bool n)=true:=rfl
theorem rY (n:ByteArray):V.one (.str n)=true:=rfl
end
end Go.VE
namespace Go.VE
variable [aU]
section
variable {S:Sys} {c:br} {β γ δ:Type} {Q:Out×St->Option β} {L:Option β} {e:γ->Option β}
theorem J_ {dr:Bool} {fr:List Nat} {d:Option Nat} {gd:Option (Nat×Bool)} {now:Bool} {k:K} {az:List Arg} {st:St} (h:wanted st.g gd=some true) :
 ey S c dr fr ⟨d,gd,now,k,az,[],[]⟩ st=ey S c dr fr ⟨d,none,now,k,az,[],[]⟩ st:=by
 unfold ey;rw[h];rfl
theorem Aw (dr:Bool) (st:St):z8 dr [] st=some st:=by cases dr <;> rfl
def l8 (f:SV->Option V):List SV->Option (List V)
 | []=>some []
 | x::r=>(f x).bind λy=>(l8 f r).bind λs=>some (y::s)
def gK (m:Tb aN):Nat->SV->Option V
 | 0,x=>match x with
  | .v y=>some y
  | .own d=>match ai m d with
   | some (.sl k es xs)=>some (mj k es xs)
   | _=>none
  | .mp d=>match ai m d with
   | some (.mp kvs)=>some (.fmap kvs)
   | _=>none
  | _=>none
 | n+1,x=>match x with
  | .v y=>some y
  | .own d=>match ai m d with
   | some (.sl k es xs)=>some (mj k es xs)
   | _=>none
  | .ptr d o=>match ai m d with
   | some (.box cs)=>match l8 (gK m n) cs with
    | some xs=>if o<=xs.length then some (.fptr (xs.drop o))else none
    | none=>none
   | _=>none
  | .mp d=>match ai m d with
   | some (.mp kvs)=>some (.fmap kvs)
   | _=>none
  | .clo f a b=>(l8 (gK m n) a).bind λx=>(l8 (gK m n) b).bind λy=>some (.clo f x y)
  | .tup l=>(l8 (gK m n) l).bind λx=>some (.tup x)
  | .agg l=>(l8 (gK m n) l).bind λx=>some (.agg x)
  | _=>none
theorem v_ (m:Tb aN):∀(n:Nat),(∀x,shut m n x=gK m n x)/\∀l,bM m n l=l8 (gK m n) l:=by
 have hl:∀n,(∀x,shut m n x=gK m n x)->∀l,bM m n l=l8 (gK m n) l:=by
  intro n h l
  induction l with
  | nil=>exact Cz m n
  | cons a l ih=>rw[AV,h a,ih];rfl
 intro n
 induction n with
 | zero=>
  have h0:∀x,shut m 0 x=gK m 0 x:=by
   intro x;cases x <;> simp[shut,gK] <;> rfl
  grind
 | succ n ih=>
  have h1:∀x,shut m (n+1) x=gK m (n+1) x:=by
   intro x
   cases x with
   | ptr d o=>simp[shut,gK,ih.2];rfl
   | clo f a b=>rw[LP,ih.2,ih.2];rfl
   | tup l=>rw[Me,ih.2];rfl
   | agg l=>rw[L_,ih.2];rfl
   | _=>simp[shut,gK] <;> rfl
  grind
noncomputable def tg (S:Sys) (c:br) (dr:Bool):List Nat->List RO->(St->Option β)->St->Option β
 | _,[],k,st=>k st
 | fr,o::r,k,st=>((z8 dr o.pre st).bind (ey S c dr fr o.strip)).bind λst'=>tg S c dr (if dr then o8 fr o.strip else fr) r k (nL o.dead st')
theorem BU (dr:Bool):∀(l:List RO) (fr:List Nat) (k:St->Option β) (st:St),tg S c dr fr l k st=(lp S c dr fr l st).bind k
 | [],_,_,_=>rfl
 | o::r,fr,k,st=>by
  simp[tg,lp]
  cases (z8 dr o.pre st).bind (ey S c dr fr o.strip)with
  | none=>rfl
  | some st'=>exact BU dr r _ k _
noncomputable def nJ (S:Sys) (c:br):RC->(St->Option β)->(Nat->St->Option β)->(St->Option β)->St->Option β
 | .skip,n,_,_,st=>n st
 | .ops l,n,_,_,st=>tg S c false [] l n st
 | .nK l,n,_,_,st=>tg S c true [] l n st
 | .seq a b,n,x,r,st=>nJ S c a (λst=>nJ S c b n x r st) x r st
 | .cond y a b,n,x,r,st=>match oU S.N st.g y with
  | some (.v (.bool t))=>an t (nJ S c a n x r st) (nJ S c b n x r st)
  | _=>none
 | .block id a,n,x,r,st=>nJ S c a n (λk st=>if k=id then n st else x k st) r st
 | .loop a,n,x,r,st=>(mL (bB S c a) st).bind λq=>match q with|(.norm,st)=>n st|(.exit k,st)=>x k st|(.ret,st)=>r st
 | .each g ps a b,n,x,r,st=>(bB S c (.each g ps a b) st).bind λq=>match q with|(.norm,st)=>n st|(.exit k,st)=>x k st|(.ret,st)=>r st
 | .exit k,_,x,_,st=>x k st
 | .ret,_,_,r,st=>r st
 | .gh g a,n,x,r,st=>(ghost g st).bind λst=>nJ S c a n x r st
 | .hg a g,n,x,r,st=>nJ S c a (λst=>(ghost g st).bind n) x r st
def B7 (n:St->Option β) (x:Nat->St->Option β) (r:St->Option β):Out×St->Option β
 | (.norm,st)=>n st
 | (.exit k,st)=>x k st
 | (.ret,st)=>r st
theorem Bd:∀(rc:RC) (n:St->Option β) (x:Nat->St->Option β) (r:St->Option β) (st:St),nJ S c rc n x r st=(bB S c rc st).bind (B7 n x r):=by
 intro rc
 induction rc with
 | skip=>intros;rfl
 | ops l=>intro n x r st;simp[nJ,bB,BU];cases lp S c false [] l st <;> rfl
 | nK l=>intro n x r st;simp[nJ,bB,BU];cases lp S c true [] l st <;> rfl
 | seq a b iha ihb=>
  intro n x r st;simp[nJ,bB,iha,ihb]
  cases h:bB S c a st with
  | none=>rfl
  | some q=>obtain⟨o,st'⟩:=q;cases o <;> rfl
 | cond y a b iha ihb=>
  intro n x r st;simp[nJ,bB,iha,ihb]
  cases oU S.N st.g y with
  | none=>rfl
  | some v=>cases v with
   | v z=>cases z with
    | bool t=>cases t <;> rfl
    | _=>rfl
   | _=>rfl
 | block id a ih=>
  intro n x r st;simp[nJ,bB,ih]
  cases h:bB S c a st with
  | none=>rfl
  | some q=>
   obtain⟨o,st'⟩:=q
   cases o with
   | exit k=>simp[B7];split <;> rfl
   | _=>rfl
 | loop a ih=>
  intro n x r st;rfl
 | each g ps a b iha ihb=>
  intro n x r st;rfl
 | exit k=>intros;rfl
 | ret=>intros;rfl
 | gh g a ih=>
  simp[nJ,bB,ih]
  grind
 | hg a g ih=>
  intro n x r st;simp[nJ,bB,ih]
  cases h:bB S c a st with
  | none=>rfl
  | some q=>
   obtain⟨o,st'⟩:=q
   cases o with
   | norm=>simp[B7];cases ghost g st' <;> rfl
   | _=>rfl
section
variable (S c Q)
mutual
noncomputable def kX:List Fm->St->Option β
 | []=>λst=>Q (.norm,st)
 | .seq b::fs=>λst=>nJ S c b (kX fs) (kW fs) (λst=>Q (.ret,st)) st
 | .blk _::fs=>kX fs
 | .gst g::fs=>λst=>(ghost g st).bind (kX fs)
noncomputable def kW:List Fm->Nat->St->Option β
 | []=>λk st=>Q (.exit k,st)
 | .seq _::fs=>kW fs
 | .blk id::fs=>λk st=>if k=id then kX fs st else kW fs k st
 | .gst _::fs=>kW fs
end
noncomputable def kK (rc:RC) (fs:List Fm) (st:St):Option β:=nJ S c rc (kX S c Q fs) (kW S c Q fs) (λst=>Q (.ret,st)) st
end
section
variable {dr:Bool} {fr:List Nat} {d:Nat} {dst:Option Nat} {now:Bool} {az:List Arg} {st:St} {α:Type} [aD α]
theorem JY {p:uq} {svs:List SV} {m:Option δ} {v:δ->SV} (hs:a_ S.N st.g az=some svs) (hi:isSlice p=false) (h:jd S.N st.m p svs=m.bind λx=>some (v x)) :
 ey S c dr fr ⟨dst,none,now,.p p,az,[],[]⟩ st=m.bind λx=>some (bY st dst (v x)):=by
 rw[NO _ _ _ _ _ _ _ hi,hs]
 grind
theorem Cm {p:uq} {svs:List SV} {v:SV} (hs:a_ S.N st.g az=some svs) (hi:isSlice p=false) (h:jd S.N st.m p svs=some v) :
 ey S c dr fr ⟨dst,none,now,.p p,az,[],[]⟩ st=some (bY st dst v):=by
 rw[NO _ _ _ _ _ _ _ hi,hs]
 grind
theorem NP {n:Nat} {s:Sl α} {k:IntKind} {i:Int} (hs:a_ S.N st.g az=some [.v (aW s),.v (.int k i)]) (hn:n=aD.size α) :
 ey S c dr fr ⟨dst,none,now,.p (.idxS n),az,[],[]⟩ st=(idx s i).bind λx=>some (bY st dst (.v (.fptr (cells x)))):=
 JY hs rfl (by rw[wJ,Cq s k i n hn];grind)
theorem SI {n e:Nat} {s:Sl α} {k:IntKind} {i:Int} (hs:a_ S.N st.g az=some [.own e,.v (.int k i)]) (ho:ai st.m e=some (bV s)) (hn:n=aD.size α) :
 ey S c dr fr ⟨dst,none,now,.p (.idxS n),az,[],[]⟩ st=(s.mm i).bind λj=>some (bY st dst (.el e j 0)):=
 JY hs rfl (by rw[OY,ho,Oz n e s i hn])
theorem Nn {s:Sl α} (hs:a_ S.N st.g az=some [.v (aW s)]):ey S c dr fr ⟨dst,none,now,.p .lenSl,az,[],[]⟩ st=some (bY st dst (.v (.int .i64 s.l.length))):=
 Cm hs rfl (by rw[Fq,wB];rfl)
theorem Q1 {e:Nat} {s:Sl α} (hs:a_ S.N st.g az=some [.own e]) (ho:ai st.m e=some (bV s)):ey S c dr fr ⟨dst,none,now,.p .lenSl,az,[],[]⟩ st=some (bY st dst (.v (.int .i64 s.l.length))):=
 Cm hs rfl (by rw[LI,ho,ON])
theorem NZ {u:Option Nat} {s:Sl α} (hs:a_ S.N st.g az=some [.v (aW s),.v .aL]):ey S c dr fr ⟨dst,none,now,.p (.bin (some .slice) u .eql),az,[],[]⟩ st=s.isNil.bind λt=>some (bY st dst (.v (.bool t))):=
 JY hs rfl (by rw[wJ,Lk];grind)
theorem Mi {s:ByteArray} {k:IntKind} {n:Int} (hs:a_ S.N st.g az=some [.v (.str s),.v (.int k n)]):ey S c dr fr ⟨dst,none,now,.p .idxStr,az,[],[]⟩ st=(jt s n).bind λx=>some (bY st dst (.v (.int .u8 x))):=
 JY hs rfl (by rw[wJ,JE];grind)
theorem QC {n e i o:Nat} {a:Bool} {s:Sl α} {v:α->V} (hs:a_ S.N st.g az=some [.el e i o]) (hd:(!dr||now||dM fr [.el e i o])=true) (ho:ai st.m e=some (bV s)) (hv:∀x:α,(cut (cells x) o n).bind (mk a)=some (v x)) :
 ey S c dr fr ⟨dst,none,now,.r (.load n a),az,[],[]⟩ st=(s.get i).bind λx=>some (bY st dst (.v (v x))):=by
 rw[DL,hs];simp only[ζb,hd,RN,ho,Jv]
 cases s.get i with
 | none=>rfl
 | some x=>
  cases hc:cut (cells x) o n with
  | none=>grind
  | some r=>grind
theorem Pr {n e i:Nat} {s:Sl α} {x:V} {a:α} (hs:a_ S.N st.g az=some [.el e i 0,.v x]) (hd:(!dr||now)=true) (ho:ai st.m e=some (bV s)) (hx:x.cells=cells a) (hn:n=aD.size α) :
 ey S c dr fr ⟨dst,none,now,.l (.store n),az,[],[]⟩ st=(s.put i a).bind λs'=>some (bY { st with m:=aS st.m e (bV s') } dst (.v .undef)):=by
 rw[vc,hs];simp[hd,IA,ho];rw[HO st.g st.pin st.want st.more st.yid e i n x a hx hn s]
 grind
theorem Qb {n:Nat} {z:α} {zero:List V} {i:Int} (hs:a_ S.N st.g az=some [.v (.int .i64 i),.v (.int .i64 i)]) (hz:zero=cells z) (hn:n=aD.size α) (hw:st.new d=true) :
 ey S c dr fr ⟨some d,none,now,.a (.makeSl n zero),az,[],[]⟩ st=(nZ i z).bind λs=>some { st with g:=aS st.g d (.own d),m:=aS st.m d (bV s) }:=by
 rw[Bf,hs];simp[hw];rw[R5 z i d n zero hz hn]
 grind
theorem Sm {n e u:Nat} {s:Sl α} {x:α} (hs:a_ S.N st.g az=some [.own e,.own u]) (hd:(!dr||now)=true) (ho:ai st.m e=some (bV s)) (hu:ai st.m u=some (bV (.row [x]))) (hn:n=aD.size α) (hw:St.new { st with m:=c9 e st.m } d=true) :
 ey S c dr fr ⟨some d,none,now,.l (.append n),az,[],[]⟩ st=(kf s x).bind λs'=>some { st with g:=aS st.g d (.own d),m:=aS (c9 e st.m) d (bV s') }:=by
 rw[vc,hs];simp[hd,x_,Cd,ho,hu];rw[yW n s hn,yW n (.row [x]) hn];have:=Ku (m:=st.m) st.g st.pin st.want st.more st.yid d n e s.l x hn;simp[Sl.NJ];rw[this];have ha:kf (.row s.l) x=kf s x:=by cases s <;> rfl
 rw[ha]
 cases kf s x with
 | none=>rfl
 | some s'=>
  simp;rw[if_pos hw];rfl
theorem Q3 {n u:Nat} {x:α} {v:V} (hv:v=.aL\/v=.cM) (hs:a_ S.N st.g az=some [.v v,.own u]) (hd:(!dr||now)=true) (hu:ai st.m u=some (bV (.row [x]))) (hn:n=aD.size α) (hw:st.new d=true) :
 ey S c dr fr ⟨some d,none,now,.l (.append n),az,[],[]⟩ st=some { st with g:=aS st.g d (.own d),m:=aS st.m d (bV (.row [x])) }:=by
 rw[vc,hs];simp[hd,x_,Cd,hu];rw[yW n (.row [x]) hn];simp[Sl.NJ];rcases hv with rfl|rfl
 .rw[OP,Kg (m:=st.m) st.g st.pin st.want st.more st.yid d n x hn];rw[if_pos hw];rfl
 .rw[OD,Ka (m:=st.m) st.g st.pin st.want st.more st.yid d n x hn];rw[if_pos hw];rfl
theorem Rm {f:FuncId} {svs args:List SV} {cs:List V} {m:Option δ} {E:δ->List V} (hc:lQ c f cs=m.bind λr=>some (E r)) (hk:S.E.keep f=false) (hs:a_ S.N st.g az=some svs) (hf:nh svs=some (f,args))
 (hsh:l8 (gK st.m 8) args=some cs) (hl:V.bZ 8 cs=true) (ho:((!dr||now)||fP st.m fr args)=true) (hr:∀r,(V.lvl 8 (result (E r))&&((result (E r)).scalar||(cH args).isSome))=true) :
 ey S c dr fr ⟨dst,none,now,.c,az,[],[]⟩ st=m.bind λr=>some (bY st dst (.v (result (E r)))):=by
 rw[DK dr fr dst now az st svs f args hs hf,He _ _ _ _ _ _ _ hk,(v_ st.m 8).2,hsh];simp[hl,ho,hc]
 cases m with
 | none=>rfl
 | some r=>
  simp[EL]
  grind
end
end
end Go.VE
namespace Go.VE
variable [aU]
section
variable {S:Sys} {c:br} {β γ:Type} {Q:Out×St->Option β} {L:Option β} {e:γ->Option β}
theorem rj (rc:RC) (st:St):kK S c Q rc [] st=(bB S c rc st).bind Q:=by
 unfold kK;rw[Bd]
 congr 1
 funext q;obtain⟨o,st⟩:=q
 cases o <;> rfl
theorem zc (rc:RC) (st:St):bB S c rc st=kK S c some rc [] st:=by
 rw[rj];cases bB S c rc st <;> rfl
def pM (rs:List RV):Out×St->Option (List V)
 | (.exit _,_)=>none
 | (_,st)=>(mA st rs).bind (l8 (gK st.m 8))
theorem Oq (rs:List RV):EH rs=pM rs:=by
 funext q;obtain⟨o,st⟩:=q
 cases o
 .simp only[EH,pM];congr 1;funext l;exact(v_ st.m 8).2 l
 .rfl
 .simp only[EH,pM];congr 1;funext l;exact(v_ st.m 8).2 l
theorem NY {S:Sys} {T:qc} {f:FuncId} {rf:RF} (hT:T f=some rf) (az:List V) (hn:az.length<=rf.na):lQ (dA S T) f az=kK S (dA S T) (pM rf.rs) rf.body [] (start (az.map .v) []):=by
 rw[MP hT az hn,<-D9,rj,Oq]
end
end Go.VE
namespace Go.VE
variable [aU]
def mz {α σ ε ρ:Type} (step:α->σ->Option (Fw σ ε ρ)):List α->σ->Option (Fw σ ε ρ)
 | [],s=>some (.n s)
 | x::xs,s=>(step x s).bind λw=>match w with
  | .n s'=>mz step xs s'
  | .x e=>some (.x e)
  | .r b=>some (.r b)
def Fw.u6 {ν ε ρ γ:Type} (fn:ν->γ) (fx:ε->γ) (fr:ρ->γ):Fw ν ε ρ->γ
 | .n a=>fn a
 | .x e=>fx e
 | .r b=>fr b
def Fw.uC {ν ε ρ:Type} (eν:ν->Tb aN) (eε:ε->Nat×Tb aN) (eρ:ρ->Tb aN):Fw ν ε ρ->Out×Tb aN
 | .n a=>(.norm,eν a)
 | .x e=>(.exit (eε e).1,(eε e).2)
 | .r b=>(.ret,eρ b)
def uC (q:Out×St):Option (Out×Tb aN):=some (q.1,q.2.m)
section
variable {S:Sys} {c:br} {β γ:Type} {Q:Out×St->Option β} {L:Option β} {e:γ->Option β}
noncomputable def wk (S:Sys) (c:br) (b:RC):Out×St->Option (Out×Tb aN)
 | (.norm,st)=>kK S c uC b [] st
 | _=>none
theorem IT (ps:List Nat) (a b:RC) (st:St) (x:List V) (m:Tb aN) (hx:x.length=ps.length) :
 gF ps (bB S c a) (bB S c b) st x m=kK S c (wk S c b) a [] ⟨vg st.g ps (x.map .v),m,st.pin++ot st.g,[],true,0⟩:=by
 unfold gF;rw[if_pos hx,rj]
 cases bB S c a ⟨vg st.g ps (x.map .v),m,st.pin++ot st.g,[],true,0⟩with
 | none=>rfl
 | some q=>
  obtain⟨o,st1⟩:=q
  cases o with
  | norm=>
   simp only[ζb,wk];rw[rj];cases bB S c b st1 <;> rfl
  | _=>rfl
end
end Go.VE
namespace Go.VE
variable [aU]
def Le {α:Type} (a b:Option α):Prop:=∀r,a=some r->b=some r
section
variable {α:Type}
theorem Le.refl (a:Option α):Le a a:=λ_ h=>h
theorem Le.of_eq {a b:Option α} (h:b=a):Le a b:=λ_ h2=>h.trans h2
theorem Le.trans {a b d:Option α} (h1:Le a b) (h2:Le b d):Le a d:=λr h=>h2 r (h1 r h)
theorem Le.none (b:Option α):Le (none:Option α) b:=λr h=>by cases h
theorem Le.bind {β:Type} {a b:Option α} {f g:α->Option β} (h:Le a b) (hf:∀x,Le (f x) (g x)):Le (a.bind f) (b.bind g):=λr hr=>by
 obtain⟨x,h1,h2⟩:=ζg.1 hr;rw[h x h1];exact hf x r h2
end
section
variable {S:Sys} {c:br} {β γ δ:Type} {Q:Out×St->Option β} {L:Option β} {e:γ->Option β}
theorem EJ {dr:Bool} {fr:List Nat} {dst:Option Nat} {now:Bool} {az:List Arg} {st:St} {f:FuncId} {svs args:List SV} {cs:List V} {m:Option δ} {E:δ->List V} (hc:Le (m.bind λr=>some (E r)) (lQ c f cs)) (hk:S.E.keep f=false) (hs:a_ S.N st.g az=some svs) (hf:nh svs=some (f,args))
 (hsh:l8 (gK st.m 8) args=some cs) (hl:V.bZ 8 cs=true) (ho:((!dr||now)||fP st.m fr args)=true) (hr:∀r,(V.lvl 8 (result (E r))&&((result (E r)).scalar||(cH args).isSome))=true) :
 Le (m.bind λr=>some (bY st dst (.v (result (E r))))) (ey S c dr fr ⟨dst,none,now,.c,az,[],[]⟩ st):=by
 intro q hq;obtain⟨r,h1,h2⟩:=ζg.1 hq;have hc':lQ c f cs=(some r).bind λr=>some (E r):=hc _ (by rw[h1];rfl)
 rw[Rm (m:=some r) hc' hk hs hf hsh hl ho hr];exact h2
theorem M3 {σ ε ρ:Type} {f:St->Option (Out×St)} {step:σ->Option (Fw σ ε ρ)} {eσ:σ->St} {eε:ε->Nat×St} {eρ:ρ->St} (h:∀s,Le ((step s).bind λw=>some (Fw.out eσ eε eρ w)) (f (eσ s))) (s:σ) :
 Le ((aQ step s).bind λw=>some (Fw.out (λe=>Empty.elim e) eε eρ w)) (mL f (eσ s)):=by
 have key:∀k s r,iy step k s=some r->gY f k (eσ s)=some (Fw.out (λe=>Empty.elim e) eε eρ r):=by
  intro k
  induction k with
  | zero=>intro s r h;simp[iy]at h
  | succ k ih=>
   intro s r hw;simp only[iy]at hw
   cases hs:step s with
   | none=>rw[hs]at hw;cases hw
   | some w=>
    rw[hs]at hw;have h2:=h s (Fw.out eσ eε eρ w) (by rw[hs];rfl)
    simp only[gY,h2]
    cases w with
    | n a=>exact ih a r hw
    | x e=>cases hw;rfl
    | r b=>cases hw;rfl
 intro r hr;obtain⟨w,h1,h2⟩:=ζg.1 hr;obtain⟨k,hk⟩:=mg.1 h1;cases h2;exact kZ.2 ⟨k,key k s w hk⟩
theorem RY {σ ε ρ:Type} {a:RC} {fs:List Fm} {step:σ->Option (Fw σ ε ρ)} {eσ:σ->St} {eε:ε->Nat×St} {eρ:ρ->St} {s:σ} {fx:ε->Option γ} {fr:ρ->Option γ}
 (hL:L=kK S c Q (.loop a) fs (eσ s)) (h:∀s,Le ((step s).bind λw=>some (Fw.out eσ eε eρ w)) (kK S c some a [] (eσ s)))
 (hx:∀x,Le ((fx x).bind e) (kW S c Q fs (eε x).1 (eε x).2)) (hr:∀b,Le ((fr b).bind e) (Q (.ret,eρ b))):Le (((aQ step s).bind (Fw.elim fx fr)).bind e) L:=by
 subst hL;have h1:kK S c Q (.loop a) fs (eσ s)=(mL (bB S c a) (eσ s)).bind (B7 (kX S c Q fs) (kW S c Q fs) (λst=>Q (.ret,st))):=by
  unfold kK;rw[Bd];rfl
 rw[h1];have h2:=M3 (step:=step) (f:=bB S c a) (eσ:=eσ) (eε:=eε) (eρ:=eρ) (λs=>by rw[zc];exact h s) s
 cases hw:aQ step s with
 | none=>exact Le.none _
 | some w=>
  have h3:=h2 _ (by rw[hw];rfl)
  rw[h3]
  cases w with
  | n a=>cases a
  | x a=>exact hx a
  | r a=>exact hr a
theorem EN {α σ ε ρ:Type} {f:List V->Tb aN->Option (Out×Tb aN)} {step:α->σ->Option (Fw σ ε ρ)} {eI:α->List V} {eσ:σ->Tb aN} {eε:ε->Nat×Tb aN} {eρ:ρ->Tb aN}
 (h:∀x s,Le ((step x s).bind λw=>some (Fw.uC eσ eε eρ w)) (f (eI x) (eσ s))):∀(xs:List α) (s:σ),Le ((mz step xs s).bind λw=>some (Fw.uC eσ eε eρ w)) (oE f (xs.map eI) (eσ s))
 | [],s=>λr hr=>hr
 | x::xs,s=>by
  simp only[List.map_cons,oE,mz]
  cases hs:step x s with
  | none=>exact Le.none _
  | some w=>
   have h2:=h x s (Fw.uC eσ eε eρ w) (by rw[hs];rfl)
   rw[h2]
   cases w with
   | n s'=>simp only[ζb,Fw.uC];exact EN h xs s'
   | x e=>exact Le.refl _
   | r b=>exact Le.refl _
theorem Sa {α σ ε ρ:Type} {g:Arg} {ps:List Nat} {a b:RC} {fs:List Fm} {f:FuncId} {x y:List V} {items:List α} {eI:α->List V} {step:α->σ->Option (Fw σ ε ρ)} {eσ:σ->Tb aN} {eε:ε->Nat×Tb aN} {eρ:ρ->Tb aN} {gt:Tb SV} {s:σ}
 {fn:σ->Option γ} {fx:ε->Option γ} {fr:ρ->Option γ}
 (hL:L=kK S c Q (.each g ps a b) fs ⟨gt,eσ s,[],[],true,0⟩) (hg:oU S.N gt g=some (.v (.clo f x y))) (hi:S.items f x y=some (items.map eI)) (hl:∀x,(eI x).length=ps.length)
 (h:∀x s,Le ((step x s).bind λw=>some (Fw.uC eσ eε eρ w)) (kK S c (wk S c b) a [] ⟨vg gt ps ((eI x).map .v),eσ s,ot gt,[],true,0⟩))
 (hn:∀s,Le ((fn s).bind e) (kX S c Q fs ⟨gt,eσ s,[],[],true,0⟩))
 (hx:∀x,Le ((fx x).bind e) (kW S c Q fs (eε x).1 ⟨gt,(eε x).2,[],[],true,0⟩)) (hr:∀b,Le ((fr b).bind e) (Q (.ret,⟨gt,eρ b,[],[],true,0⟩))) :
 Le (((mz step items s).bind (Fw.u6 fn fx fr)).bind e) L:=by
 subst hL;have h1:kK S c Q (.each g ps a b) fs ⟨gt,eσ s,[],[],true,0⟩=(bB S c (.each g ps a b) ⟨gt,eσ s,[],[],true,0⟩).bind (B7 (kX S c Q fs) (kW S c Q fs) (λst=>Q (.ret,st))):=by
  unfold kK;rw[Bd]
 rw[h1];simp only[bB,hg,hi];have h2:=EN (step:=step) (f:=gF ps (bB S c a) (bB S c b) ⟨gt,eσ s,[],[],true,0⟩) (eI:=eI) (eσ:=eσ) (eε:=eε) (eρ:=eρ) (λx s=>by rw[IT _ _ _ _ _ _ (hl x)];exact h x s) items s
 cases hw:mz step items s with
 | none=>exact Le.none _
 | some w=>
  have h3:=h2 _ (by rw[hw];rfl)
  rw[h3]
  cases w with
  | n a=>exact hn a
  | x a=>exact hx a
  | r a=>exact hr a
end
end Go.VE
namespace Go.VE
variable [aU]
inductive Fo where
 | rc (c:RC)
 | ops (dr:Bool) (fr:List Nat) (l:List RO)
 | nx
 | ex (k:Nat)
 | rt
abbrev aI (g:Tb SV) (m:Tb aN):St:=⟨g,m,[],[],true,0⟩
section
variable (S:Sys) (c:br) {β:Type} (Q:Out×St->Option β)
noncomputable def rn:Fo->List Fm->St->Option β
 | .rc a,fs,st=>kK S c Q a fs st
 | .ops dr fr l,fs,st=>tg S c dr fr l (kX S c Q fs) st
 | .nx,fs,st=>kX S c Q fs st
 | .ex k,fs,st=>kW S c Q fs k st
 | .rt,_,st=>Q (.ret,st)
noncomputable def wQ:Fo->List Fm->St->Option (Fo×List Fm×St)
 | .rc .skip,fs,st=>some (.nx,fs,st)
 | .rc (.ops l),fs,st=>some (.ops false [] l,fs,st)
 | .rc (.nK l),fs,st=>some (.ops true [] l,fs,st)
 | .rc (.seq a b),fs,st=>some (.rc a,.seq b::fs,st)
 | .rc (.cond y a b),fs,st=>match oU S.N st.g y with
  | some (.v (.bool true))=>some (.rc a,fs,st)
  | some (.v (.bool false))=>some (.rc b,fs,st)
  | _=>none
 | .rc (.block id a),fs,st=>some (.rc a,.blk id::fs,st)
 | .rc (.exit k),fs,st=>some (.ex k,fs,st)
 | .rc .ret,fs,st=>some (.rt,fs,st)
 | .rc (.gh g a),fs,st=>match ghost g st with
  | some st'=>some (.rc a,fs,st')
  | none=>none
 | .rc (.hg a g),fs,st=>some (.rc a,.gst g::fs,st)
 | .rc (.loop _),_,_=>none
 | .rc (.each ..),_,_=>none
 | .ops _ _ [],fs,st=>some (.nx,fs,st)
 | .ops dr fr (⟨d,gd,now,k,az,dd,[]⟩::r),fs,st=>match ey S c dr fr ⟨d,gd,now,k,az,[],[]⟩ st with
  | some st'=>some (.ops dr (if dr then o8 fr ⟨d,gd,now,k,az,[],[]⟩else fr) r,fs,nL dd st')
  | none=>none
 | .ops dr fr (⟨d,gd,now,k,az,dd,x::xs⟩::r),fs,st=>if dr && !(xC x&&xs.all xC)then none else match ghost x st with
  | some st'=>some (.ops dr fr (⟨d,gd,now,k,az,dd,xs⟩::r),fs,st')
  | none=>none
 | .nx,.seq b::fs,st=>some (.rc b,fs,st)
 | .nx,.blk _::fs,st=>some (.nx,fs,st)
 | .nx,.gst g::fs,st=>match ghost g st with
  | some st'=>some (.nx,fs,st')
  | none=>none
 | .nx,[],_=>none
 | .ex k,.seq _::fs,st=>some (.ex k,fs,st)
 | .ex k,.blk id::fs,st=>some (if k=id then .nx else .ex k,fs,st)
 | .ex k,.gst _::fs,st=>some (.ex k,fs,st)
 | .ex _,[],_=>none
 | .rt,_,_=>none
noncomputable def fQ:Nat->Fo->List Fm->St->Option (Fo×List Fm×St)
 | 0,fo,fs,st=>some (fo,fs,st)
 | n+1,fo,fs,st=>match wQ S c fo fs st with
  | some (fo',fs',st')=>fQ n fo' fs' st'
  | none=>none
end
section
variable {S:Sys} {c:br} {β γ δ:Type} {Q:Out×St->Option β} {e:γ->Option β}
theorem MM {fo fo':Fo} {fs fs':List Fm} {st st':St} (h:wQ S c fo fs st=some (fo',fs',st')):rn S c Q fo fs st=rn S c Q fo' fs' st':=by
 cases fo with
 | rc a=>
  cases a with
  | cond y a b=>
   simp only[wQ]at h;split at h
   .rename_i hs;cases h;simp only[rn,kK,nJ,hs,an,if_true]
   .rename_i hs;cases h;simp only[rn,kK,nJ,hs,an];rfl
   .cases h
  | gh g a=>
   simp only[wQ]at h;split at h
   .rename_i hs;cases h;simp only[rn,kK,nJ,hs,ζb]
   .cases h
  | loop a=>cases h
  | each g ps a b=>cases h
  | seq a b=>cases h;simp only[rn,kK,nJ,kX,kW]
  | block id a=>cases h;simp only[rn,kK,nJ,kX,kW]
  | hg a g=>cases h;simp only[rn,kK,nJ,kX,kW]
  | _=>cases h;simp only[rn,kK,nJ]
 | ops dr fr l=>
  cases l with
  | nil=>cases h;simp only[rn,tg]
  | cons o r=>
   obtain⟨d,gd,now,k,az,dd,pre⟩:=o
   cases pre with
   | nil=>
    simp only[wQ]at h;split at h
    .rename_i hs;cases h;simp only[rn,tg,Aw,RO.strip,ζb,hs]
    .cases h
   | cons x xs=>
    simp only[wQ]at h;split at h
    .cases h
    rename_i hd;split at h
    .rename_i hs;cases h
     cases dr with
     | true=>
      simp only[Bool.true_and,Bool.not_eq_true',Bool.not_eq_false,ζh]at hd;simp only[rn,tg,RO.strip,z8,mN,if_true,List.all_cons,hd.1,hd.2,Bool.and_self,hs,ζb]
     | false=>simp only[rn,tg,RO.strip,z8,mN,Bool.false_eq_true,if_false,hs,ζb]
    .cases h
 | nx=>
  cases fs with
  | nil=>cases h
  | cons f fs=>
   cases f with
   | seq b=>cases h;simp only[rn,kK,kX]
   | blk id=>cases h;simp only[rn,kX]
   | gst g=>
    simp only[wQ]at h;split at h
    .rename_i hs;cases h;simp only[rn,kX,hs,ζb]
    .cases h
 | ex k=>
  cases fs with
  | nil=>cases h
  | cons f fs=>
   cases f with
   | seq b=>cases h;simp only[rn,kW]
   | blk id=>
    cases h;simp only[rn,kW]
    by_cases hk:k=id
    .simp only[if_pos hk,rn]
    .simp only[if_neg hk,rn]
   | gst g=>cases h;simp only[rn,kW]
 | rt=>cases h
theorem mW:∀{n:Nat} {fo fo':Fo} {fs fs':List Fm} {st st':St},fQ S c n fo fs st=some (fo',fs',st')->rn S c Q fo fs st=rn S c Q fo' fs' st'
 | 0,fo,fo',fs,fs',st,st',h=>by cases h;rfl
 | n+1,fo,fo',fs,fs',st,st',h=>by
  simp only[fQ]at h;split at h
  .rename_i a b d hs;rw[MM hs];exact mW h
  .cases h
theorem BL {n:Nat} {fo fo':Fo} {fs fs':List Fm} {st st':St} {m:Option β} (h:fQ S c n fo fs st=some (fo',fs',st')) (h2:Le m (rn S c Q fo' fs' st')):Le m (rn S c Q fo fs st):=by
 rw[mW h];exact h2
theorem Tw {n:Nat} {fo fo':Fo} {fs fs':List Fm} {st st':St} {r:γ} (h:fQ S c n fo fs st=some (fo',fs',st')) (h2:rn S c Q fo' fs' st'=e r):Le ((some r).bind e) (rn S c Q fo fs st):=by
 rw[mW h];exact Le.of_eq h2
theorem Nd {m:Option δ} {f:δ->Option γ} {L:Option β} (k:δ->Option β) (h2:Le (m.bind k) L) (h1:∀r,Le ((f r).bind e) (k r)):Le ((m.bind f).bind e) L:=by
 intro r hr
 cases m with
 | none=>cases hr
 | some x=>exact h2 r (h1 x r hr)
theorem TE {n:Nat} {fo:Fo} {fs fs':List Fm} {st0:St} {dr:Bool} {q l:List RO} {fr:List Nat} {st:St} {d:Option Nat} {gd:Option (Nat×Bool)} {now:Bool} {k:K} {az:List Arg} {dd:List Nat} {m:Option δ} {g:δ->St} {f:δ->Option γ}
 (hL:fQ S c n fo fs st0=some (.ops dr fr q,fs',st)) (hq:q=⟨d,gd,now,k,az,dd,[]⟩::l) (hg:wanted st.g gd=some true)
 (hs:Le (m.bind λx=>some (g x)) (ey S c dr fr ⟨d,none,now,k,az,[],[]⟩ st))
 (h:∀x,m=some x->Le ((f x).bind e) (rn S c Q (.ops dr (if dr then o8 fr ⟨d,gd,now,k,az,[],[]⟩else fr) l) fs' (nL dd (g x)))):Le ((m.bind f).bind e) (rn S c Q fo fs st0):=by
 rw[mW hL];subst hq;simp only[rn,tg,RO.strip,Aw,ζb];rw[J_ hg]
 cases m with
 | none=>exact Le.none _
 | some x=>rw[hs (g x) rfl];exact h x rfl
theorem Nq {n:Nat} {fo:Fo} {fs fs':List Fm} {st0:St} {dr:Bool} {q l:List RO} {fr:List Nat} {st st':St} {d:Option Nat} {gd:Option (Nat×Bool)} {now:Bool} {k:K} {az:List Arg} {dd:List Nat} {m:Option β}
 (hL:fQ S c n fo fs st0=some (.ops dr fr q,fs',st)) (hq:q=⟨d,gd,now,k,az,dd,[]⟩::l) (hg:wanted st.g gd=some true)
 (hs:ey S c dr fr ⟨d,none,now,k,az,[],[]⟩ st=some st')
 (h:Le m (rn S c Q (.ops dr (if dr then o8 fr ⟨d,gd,now,k,az,[],[]⟩else fr) l) fs' (nL dd st'))):Le m (rn S c Q fo fs st0):=by
 rw[mW hL];subst hq;simp only[rn,tg,RO.strip,Aw,ζb];rw[J_ hg,hs];exact h
theorem ET {n:Nat} {fo:Fo} {fs0:List Fm} {st:St} {σ ε ρ:Type} {a:RC} {fs:List Fm} {step:σ->Option (Fw σ ε ρ)} {eσ:σ->St} {eε:ε->Nat×St} {eρ:ρ->St} {s:σ} {fx:ε->Option γ} {fr:ρ->Option γ}
 (hL:fQ S c n fo fs0 st=some (.rc (.loop a),fs,eσ s)) (h:∀s,Le ((step s).bind λw=>some (Fw.out eσ eε eρ w)) (rn S c some (.rc a) [] (eσ s)))
 (hx:∀x,Le ((fx x).bind e) (rn S c Q (.ex (eε x).1) fs (eε x).2)) (hr:∀b,Le ((fr b).bind e) (Q (.ret,eρ b))):Le (((aQ step s).bind (Fw.elim fx fr)).bind e) (rn S c Q fo fs0 st):=by
 rw[mW hL];exact RY (L:=rn S c Q (.rc (.loop a)) fs (eσ s)) rfl h hx hr
theorem Rj {n:Nat} {fo:Fo} {fs0:List Fm} {st:St} {α σ ε ρ:Type} {g:Arg} {ps:List Nat} {a b:RC} {fs:List Fm} {f:FuncId} {x y:List V} {items:List α} {eI:α->List V} {step:α->σ->Option (Fw σ ε ρ)} {eσ:σ->Tb aN} {eε:ε->Nat×Tb aN} {eρ:ρ->Tb aN} {gt:Tb SV} {s:σ}
 {fn:σ->Option γ} {fx:ε->Option γ} {fr:ρ->Option γ}
 (hL:fQ S c n fo fs0 st=some (.rc (.each g ps a b),fs,aI gt (eσ s))) (hg:oU S.N gt g=some (.v (.clo f x y))) (hi:S.items f x y=some (items.map eI)) (hl:∀x,(eI x).length=ps.length)
 (h:∀x s,Le ((step x s).bind λw=>some (Fw.uC eσ eε eρ w)) (rn S c (wk S c b) (.rc a) [] ⟨vg gt ps ((eI x).map .v),eσ s,ot gt,[],true,0⟩))
 (hn:∀s,Le ((fn s).bind e) (rn S c Q .nx fs (aI gt (eσ s))))
 (hx:∀x,Le ((fx x).bind e) (rn S c Q (.ex (eε x).1) fs (aI gt (eε x).2))) (hr:∀b,Le ((fr b).bind e) (Q (.ret,aI gt (eρ b)))) :
 Le (((mz step items s).bind (Fw.u6 fn fx fr)).bind e) (rn S c Q fo fs0 st):=by
 rw[mW hL];exact Sa (L:=rn S c Q (.rc (.each g ps a b)) fs (aI gt (eσ s))) rfl hg hi hl h hn hx hr
theorem QT {b:RC} {st st':St} {m:Option (Out×Tb aN)} {fs:List Fm} {n:Nat} {fo:Fo} (h:fQ S c n fo fs st=some (.nx,[],st')) (h2:Le m (rn S c uC (.rc b) [] st')):Le m (rn S c (wk S c b) fo fs st):=by
 rw[mW h];exact h2
theorem Sz {α:Type} {n:Nat} {fo fo':Fo} {fs fs':List Fm} {st:St} {A:Option α->St} {o:Option α} {f:α->Option γ} (h:fQ S c n fo fs st=some (fo',fs',A o))
 (h2:∀x,o=some x->Le ((f x).bind e) (rn S c Q fo' fs' (A (some x)))):Le ((o.bind f).bind e) (rn S c Q fo fs st):=by
 rw[mW h]
 cases o with
 | none=>exact Le.none _
 | some x=>exact h2 x rfl
theorem Tt {T:qc} {f:FuncId} {rf:RF} {az:List V} {m:Option (List V)} (hT:T f=some rf) (hn:az.length<=rf.na) (h:Le m (rn S (dA S T) (pM rf.rs) (.rc rf.body) [] (start (az.map .v) []))):Le m (lQ (dA S T) f az):=by
 rw[NY hT az hn];exact h
end
section
variable {α:Type} [aD α]
abbrev cv (x:α):SV:=.v (enc x)
abbrev cp (x:α):SV:=.v (.fptr (cells x))
abbrev bx (x:α):aN:=.box ((cells x).map .v)
end
end Go.VE
namespace Go.VE
variable [aU]
structure lX (S:Sys) (c:br) {α δ:Type} (fn:FuncId) (A:α->List V) (E:δ->List V) (p:α->Option δ) (sc:Bool):Prop where
 k:S.E.keep fn=false
 h:∀z,Le ((p z).bind λr=>some (E r)) (lQ c fn (A z))
 l:∀z,V.bZ 8 (A z)=true
 r:∀r,V.lvl 8 (result (E r))=true
 s:sc=true->∀r,(result (E r)).scalar=true
section
variable {S:Sys} {c:br} {β γ δ α:Type} {Q:Out×St->Option β} {e:γ->Option β} {fo:Fo} {fs:List Fm} {st0:St} {l:List RO} {d:Option Nat} {gd:Option (Nat×Bool)} {now:Bool} {az:List Arg} {dd:List Nat}
noncomputable abbrev qZ (S:Sys) (c:br) (Q:Out×St->Option β) (dr:Bool) (fr:List Nat) (d:Option Nat) (k:K) (l:List RO) (fs:List Fm) (dd:List Nat) (st:St):Option β:=
 rn S c Q (.ops dr (if dr then(match k with|.p _|.r _=>fr|_=>match d with|some d=>d::fr|none=>fr)else fr) l) fs (nL dd st)
theorem Cr (fr:List Nat) (k:K):o8 fr ⟨d,gd,now,k,az,[],[]⟩=(match k with|.p _|.r _=>fr|_=>match d with|some d=>d::fr|none=>fr):=by
 cases k <;> cases d <;> rfl
theorem B5 {n:Nat} {dr:Bool} {fr:List Nat} {q:List RO} {fs':List Fm} {st:St} {k:K} {m:Option δ} {g:δ->St} {f:δ->Option γ}
 (hL:fQ S c n fo fs st0=some (.ops dr fr q,fs',st)) (hq:q=⟨d,gd,now,k,az,dd,[]⟩::l) (hg:wanted st.g gd=some true)
 (hs:Le (m.bind λx=>some (g x)) (ey S c dr fr ⟨d,none,now,k,az,[],[]⟩ st))
 (h:∀x,m=some x->Le ((f x).bind e) (qZ S c Q dr fr d k l fs' dd (g x))):Le ((m.bind f).bind e) (rn S c Q fo fs st0):=
 TE hL hq hg hs (λx hx=>by rw[Cr];grind)
theorem pJ {n:Nat} {dr:Bool} {fr:List Nat} {q:List RO} {fs':List Fm} {st st':St} {k:K} {m:Option β}
 (hL:fQ S c n fo fs st0=some (.ops dr fr q,fs',st)) (hq:q=⟨d,gd,now,k,az,dd,[]⟩::l) (hg:wanted st.g gd=some true)
 (hs:ey S c dr fr ⟨d,none,now,k,az,[],[]⟩ st=some st') (h:Le m (qZ S c Q dr fr d k l fs' dd st')):Le m (rn S c Q fo fs st0):=
 Nq hL hq hg hs (by rw[Cr];omega)
section
variable [aD α]
theorem Lr (n:Nat) (dr:Bool) (fr:List Nat) (q:List RO) (fs':List Fm) (st:St) (k:IntKind) {sz:Nat} {s:Sl α} {i:Int} {f:α->Option γ} (hq:q=⟨d,gd,now,.p (.idxS sz),az,dd,[]⟩::l)
 (hL:(fQ S c n fo fs st0,wanted st.g gd,a_ S.N st.g az,sz)=(some (.ops dr fr q,fs',st),some true,some [.v (aW s),.v (.int k i)],aD.size α))
 (h:∀x,idx s i=some x->Le ((f x).bind e) (qZ S c Q dr fr d (.p (.idxS sz)) l fs' dd (bY st d (cp x)))):Le (((idx s i).bind f).bind e) (rn S c Q fo fs st0):=by
 simp  at hL;exact B5 hL.1 hq hL.2.1 (Le.of_eq (NP hL.2.2.1 hL.2.2.2)) h
theorem Qf (n:Nat) (dr:Bool) (fr:List Nat) (q:List RO) (fs':List Fm) (st:St) (s:Sl α) {m:Option β} (hq:q=⟨d,gd,now,.p .lenSl,az,dd,[]⟩::l)
 (hL:(fQ S c n fo fs st0,wanted st.g gd,a_ S.N st.g az)=(some (.ops dr fr q,fs',st),some true,some [.v (aW s)]))
 (h:Le m (qZ S c Q dr fr d (.p .lenSl) l fs' dd (bY st d (.v (.int .i64 s.l.length))))):Le m (rn S c Q fo fs st0):=by
 simp  at hL;exact pJ hL.1 hq hL.2.1 (Nn hL.2.2) h
end
section
variable {q:List RO} {fs':List Fm}
end
theorem FP (m:Tb aN) (n:Nat) (l:List V):l8 (gK m n) (l.map .v)=some l:=by rw[<-(v_ m n).2,uV]
variable {A:α->List V} {E:δ->List V} {p:α->Option δ} {fn:FuncId} {sc:Bool}
end
end Go.VE
namespace Go.VE
variable [aU]
abbrev iv (n:Int):SV:=.v (.int .i64 n)
abbrev bv (b:Bool):SV:=.v (.bool b)
abbrev len {α:Type} (s:Sl α):Int:=((List.length (Sl.l s):Nat):Int)
abbrev o1 (d:Nat) (a:Arg) (dd:List Nat):RO:=⟨some d,none,false,.p .id,[a],dd,[]⟩
abbrev o2 (d:Nat) (k:K) (az:List Arg) (dd:List Nat):RO:=⟨some d,none,false,k,az,dd,[]⟩
abbrev o3 (d s:Nat) (b:Bool) (k:K) (az:List Arg) (dd:List Nat):RO:=⟨some d,some (s,b),false,k,az,dd,[]⟩
def Ho (a b:aa):Bool:=[a.proc,a.index]==[b.proc,b.index]
mutual
theorem xH:∀{n:Nat} {x:V},V.lvl n x=true->V.lvl (n+1) x=true
 | 0,.fsl ..,h=>by simp[V.lvl]at h
 | 0,.fptr ..,h=>by simp[V.lvl]at h
 | 0,.fmap ..,h=>by simp[V.lvl]at h
 | 0,.agg ..,h=>by simp[V.lvl]at h
 | 0,.tup ..,h=>by simp[V.lvl]at h
 | 0,.clo ..,h=>by simp[V.lvl]at h
 | n+1,.fsl es xs,h=>by simp only[V.lvl]at h ⊢;exact Ai h
 | n+1,.fptr cs,h=>by simp only[V.lvl]at h ⊢;exact qd h
 | n+1,.fmap kvs,h=>by simp only[V.lvl]at h ⊢;exact Cn h
 | n+1,.agg cs,h=>by simp only[V.lvl]at h ⊢;exact qd h
 | n+1,.tup cs,h=>by simp only[V.lvl]at h ⊢;exact qd h
 | n+1,.clo f a b,h=>by simp only[V.lvl,ζh]at h ⊢;exact⟨qd h.1,qd h.2⟩
 | 0,.bool _,_|0,.int ..,_|0,.str _,_|0,.fE,_|0,.eS,_|0,.qw,_|0,.cM,_|0,.aL,_|0,.hsl ..,_|0,.hptr ..,_|0,.yld _,_|0,.hmap _,_=>rfl
 | _+1,.bool _,_|_+1,.int ..,_|_+1,.str _,_|_+1,.fE,_|_+1,.eS,_|_+1,.qw,_|_+1,.cM,_|_+1,.aL,_|_+1,.hsl ..,_|_+1,.hptr ..,_|_+1,.yld _,_|_+1,.hmap _,_=>rfl
theorem qd:∀{n:Nat} {x:List V},V.bZ n x=true->V.bZ (n+1) x=true
 | n,[],_=>jO _
 | n,a::l,h=>by rw[iw,ζh]at h ⊢;exact⟨xH h.1,qd h.2⟩
theorem Ai:∀{n:Nat} {x:List (List V)},V.lN n x=true->V.lN (n+1) x=true
 | n,[],_=>by simp only[V.lN]
 | n,a::l,h=>by simp only[V.lN,ζh]at h ⊢;exact⟨qd h.1,Ai h.2⟩
theorem Cn:∀{n:Nat} {x:List (V×V)},V.nD n x=true->V.nD (n+1) x=true
 | n,[],_=>by simp only[V.nD]
 | n,(k,v)::l,h=>by simp only[V.nD,ζh]at h ⊢;exact⟨⟨xH h.1.1,xH h.1.2⟩,Cn h.2⟩
end
section
variable {α:Type} [aD α]
theorem sS (h:aD.agg α=false) (a:α):cells a=[enc a]:=by
 have hl:(cells a).length=1:=by rw[show (cells a).length=_ from aD.len a,aD.plain h]
 unfold enc;rw[if_neg (by simp[h])]
 match hc:cells a,hl with
 | [x],_=>rfl
theorem vO (h:aD.agg α=true) (a:α):enc a=.agg (cells a):=by unfold enc;grind
theorem GU {n:Nat} [Lv n α] (a:α):V.lvl (n+1) (enc a)=true:=by
 have h:=Lv.lv (n:=n) a
 cases ha:aD.agg α with
 | true=>rw[vO ha];exact h
 | false=>
  rw[sS ha,iw,ζh]at h;exact xH h.1
theorem QK {n:Nat} [Lv n α] (a:α):V.lvl (n+1) (.fptr (cells a))=true:=Lv.lv a
theorem lF (a:α):V.good (enc a)=true:=by
 have h:V.bJ (cells a)=true:=aD.good a
 cases ha:aD.agg α with
 | true=>rw[vO ha];exact h
 | false=>
  rw[sS ha]at h;simp[V.bJ]at h;omega
theorem pN (s:Sl α):V.one (enc s)=true:=Dk s
theorem pX {n:Nat} [Lv n α] (s:Sl α):V.lvl (n+1) (enc s)=true:=C2 s
theorem Mh (s:α) (h:aD.agg α=false):V.one (enc s)=true:=by
 have:=aD.one s;rw[show aD.cells s=cells s from rfl,sS h]at this
 grind
end
instance {α:Type} [aD α]:aD (Option α) where
 cells o:=[match o with|none=>.fE|some x=>.fptr (cells x)]
 agg:=false
 size:=1
 len _:=rfl
 good o:=by
  cases o with
  | none=>rfl
  | some x=>simp only[V.bJ,V.good,Bool.and_true];exact aD.good x
 one o:=by cases o <;> rfl
 plain _:=rfl
instance {n:Nat} {α:Type} [aD α] [Lv n α]:Lv (n+1) (Option α):=⟨λo=>by
 cases o with
 | none=>rfl
 | some x=>
  show V.bZ (n+1) [.fptr (cells x)]=true;rw[iw,jO,Bool.and_true];exact Lv.lv x⟩
structure U8 where
 v:Int
 deriving Inhabited,DecidableEq
instance:aD U8 where
 cells n:=[.int .u8 n.v]
 agg:=false
 size:=1
 len _:=rfl
 good _:=rfl
 one _:=rfl
 plain _:=rfl
instance {n:Nat}:Lv n U8:=⟨λ_=>by cases n <;> rfl⟩
structure SQ where
 v:Int
 deriving Inhabited,DecidableEq
instance:aD SQ where
 cells n:=[.int .u64 n.v]
 agg:=false
 size:=1
 len _:=rfl
 good _:=rfl
 one _:=rfl
 plain _:=rfl
instance {n:Nat}:Lv n SQ:=⟨λ_=>by cases n <;> rfl⟩
structure S0 where
 v:Int
 deriving Inhabited,DecidableEq
instance:aD S0 where
 cells n:=[.int .u32 n.v]
 agg:=false
 size:=1
 len _:=rfl
 good _:=rfl
 one _:=rfl
 plain _:=rfl
instance {n:Nat}:Lv n S0:=⟨λ_=>by cases n <;> rfl⟩
structure Td where
 v:Int
 deriving Inhabited,DecidableEq
instance:aD Td where
 cells n:=[.int .i32 n.v]
 agg:=false
 size:=1
 len _:=rfl
 good _:=rfl
 one _:=rfl
 plain _:=rfl
instance {n:Nat}:Lv n Td:=⟨λ_=>by cases n <;> rfl⟩
structure jm (S:Sys) (c:br) {α δ:Type} (g:FuncId) (w e:List V) (A:α->List V) (R:δ->List V) (p:α->Option δ) (b:Bool):Prop where
 f:lX S c g (λz=>w++A z++e) R p b
 d:V.bZ 7 e=true
 dw:V.bZ 7 w=true
section
variable {S:Sys} {c:br} {β γ δ α:Type} {Q:Out×St->Option β} {e:γ->Option β} {fo:Fo} {fs:List Fm} {st0:St} {l:List RO} {d:Option Nat} {gd:Option (Nat×Bool)} {now:Bool} {az:List Arg} {dd:List Nat}
theorem fW {α:Type} [aD α] (a:α):V.cells (enc a)=cells a:=by
 cases ha:aD.agg α with
 | true=>rw[vO ha];rfl
 | false=>
  have h1  := Mh a ha;rw[sS ha];cases h:enc a <;> first|rfl|(rw[h]at h1;cases h1)
theorem oD {α:Type} [aD α] (a:α):(cells a).all V.one=true:=aD.one a
theorem eU {α:Type} [aD α] (a:α):(cells a).length=aD.size α:=aD.len a
theorem Ast [aD α] (n:Nat) (dr:Bool) (fr:List Nat) (q:List RO) (fs':List Fm) (st:St) (u o:Nat) (x:α) (cs cs':List SV) {sz:Nat} {m:Option β} (hq:q=⟨d,gd,now,.l (.store sz),az,dd,[]⟩::l)
 (hL:(fQ S c n fo fs st0,wanted st.g gd,a_ S.N st.g az,ai st.m u,(!dr||now),sz,Nat.ble (o+sz) cs.length,cs.take o++(cells x).map .v++cs.drop (o+sz))=(some (.ops dr fr q,fs',st),some true,some [.ptr u o,cv x],some (.box cs),true,aD.size α,true,cs'))
 (h:Le m (qZ S c Q dr fr d (.l (.store sz)) l fs' dd (bY { st with m:=aS st.m u (.box cs') } d (.v .undef)))):Le m (rn S c Q fo fs st0):=by
 simp only[ζc]at hL;obtain⟨h1,h2,h3,h4,h5,h6,h7,h8⟩:=hL;refine pJ h1 hq h2 ?_ h;rw[vc,h3];subst h6;have h9:=Nat.le_of_ble_eq_true h7;simp only[ζb,h5,if_true,pH,h4,putCells,fW,eU,oD,h9,and_self,h8,Option.map_some]
theorem xZ {α:Type} [aD α]:∀(xs:List α) (pre:List (List V)) (suf:List (List V)),suf.length=xs.length->fC (aD.size α) (pre++suf) ((List.range' pre.length xs.length).zip (xs.map enc))=some (pre++rows xs)
 | [],pre,suf,h=>by
  have  := List.eq_nil_of_length_eq_zero h;subst this;rfl
 | x::xs,pre,s::suf,h=>by
  simp only[List.length_cons,List.range'_succ,List.map_cons,List.zip_cons_cons,fC,fW,eU,oD];have:=xZ xs (pre++[cells x]) suf (by grind)
  simp only[ζi,List.length_cons,List.length_nil]at this;have e:(pre++s::suf).set pre.length (cells x)=pre++[cells x]++suf:=by simp
  rw[e,this];simp[rows]
theorem TR [aD α] (n:Nat) (dr:Bool) (fr:List Nat) (q:List RO) (fs':List Fm) (st:St) (xs:List α) {u sz ln:Nat} {zero:List V} {ix:List Nat} {m:Option β} (hq:q=⟨some u,gd,now,.a (.buildSl sz ln zero ix),az,dd,[]⟩::l)
 (h4:st.new u=true) (hL:(fQ S c n fo fs st0,wanted st.g gd,a_ S.N st.g az,sz,ln,ix)=(some (.ops dr fr q,fs',st),some true,some ((xs.map enc).map .v),aD.size α,xs.length,List.range' 0 xs.length))
 (h:Le m (qZ S c Q dr fr (some u) (.a (.buildSl sz ln zero ix)) l fs' dd { st with g:=aS st.g u (.own u),m:=aS st.m u (bV (.row xs)) })):Le m (rn S c Q fo fs st0):=by
 simp only[ζc]at hL;obtain⟨h1,h2,h3,h5,h6,h7⟩:=hL;subst h5 h6 h7;refine pJ h1 hq h2 ?_ h;rw[Bf,h3];simp only[ζb,h4,ou,pU,List.length_range',List.length_map];have:=xZ xs [] (List.replicate xs.length zero) (by simp)
 simp  at this;rw[this];rfl
theorem TF [aD α] (n:Nat) (dr:Bool) (fr:List Nat) (q:List RO) (fs':List Fm) (st:St) (x:α) (vs:List V) {z:List V} {pl:List (Nat×Nat)} {m:Option β} (hq:q=⟨d,gd,now,.p (.build z pl),az,dd,[]⟩::l)
 (hp:jo z pl vs=some (cells x)) (ha:aD.agg α=true)
 (hL:(fQ S c n fo fs st0,wanted st.g gd,a_ S.N st.g az)=(some (.ops dr fr q,fs',st),some true,some (vs.map .v)))
 (h:Le m (qZ S c Q dr fr d (.p (.build z pl)) l fs' dd (bY st d (cv x)))):Le m (rn S c Q fo fs st0):=by
 simp  at hL;refine pJ hL.1 hq hL.2.1 (Cm hL.2.2 rfl ?_) h;unfold jd;rw[pU];simp only[LB,hp,Option.map_some];show some (SV.v (.agg (cells x)))=some (.v (enc x));rw[vO ha]
section
variable [aD α]
theorem TB (n:Nat) (dr:Bool) (fr:List Nat) (q:List RO) (fs':List Fm) (st:St) (lo hi:Bool) (bs:List V) {sz:Nat} {s:Sl α} {a b:Option Int} {f:Sl α->Option γ} (hq:q=⟨d,gd,now,.p (.slice sz lo hi),az,dd,[]⟩::l)
 (hL:(fQ S c n fo fs st0,wanted st.g gd,a_ S.N st.g az,jX lo hi bs,sz)=(some (.ops dr fr q,fs',st),some true,some (.v (aW s)::bs.map .v),some (a,b),aD.size α))
 (h:∀x,iu s a b=some x->Le ((f x).bind e) (qZ S c Q dr fr d (.p (.slice sz lo hi)) l fs' dd (bY st d (.v (aW x))))):Le (((iu s a b).bind f).bind e) (rn S c Q fo fs st0):=by
 simp  at hL;refine B5 hL.1 hq hL.2.1 (Le.of_eq ?_) h;have hy  := hL.2.2.1;unfold ey mh;simp[wanted,eT,hy];have hp:jd S.N st.m (.slice sz lo hi) ((aW s::bs).map .v)=(iu s a b).bind λx=>some (.v (aW x)):=by
  unfold jd;rw[pU];simp[aj,hL.2.2.2.1,Ir s a b sz hL.2.2.2.2];cases iu s a b <;> rfl
 simp  at hp ⊢;rw[hp];cases iu s a b <;> rfl
def mR (s:Sl α) (lo hi:Option Int):Option (Sl α):=
 match s with
 | .nil|.emp=>none
 | .row x|.part x=>(cI x.length lo hi).map λ(l,h)=>.part ((x.take h).drop l)
theorem RX (n:Nat) (fr:List Nat) (q:List RO) (fs':List Fm) (st:St) (lo hi:Bool) (u:Nat) (bs:List V) {t sz:Nat} {s:Sl α} {a b:Option Int} {f:Sl α->Option γ} (hq:q=⟨some t,gd,now,.p (.slice sz lo hi),az,dd,[]⟩::l)
 (h7:St.new { st with m:=c9 u st.m } t=true) (hL:(fQ S c n fo fs st0,wanted st.g gd,a_ S.N st.g az,jX lo hi bs,ai st.m u,sz)=(some (.ops false fr q,fs',st),some true,some (.own u::bs.map .v),some (a,b),some (bV s),aD.size α))
 (h:∀x,mR s a b=some x->Le ((f x).bind e) (qZ S c Q false fr (some t) (.p (.slice sz lo hi)) l fs' dd { st with g:=aS st.g t (.own t),m:=aS (c9 u st.m) t (bV x) })):Le (((mR s a b).bind f).bind e) (rn S c Q fo fs st0):=by
 simp  at hL;refine B5 hL.1 hq hL.2.1 (Le.of_eq ?_) h;obtain⟨_,_,h3,h4,h5,h6⟩:=hL;subst h6;unfold ey mh;simp[wanted,eT,h3,xV,pU,h5,h4]
 cases s with
 | nil=>simp[mR,bV,Sl.k,bH]
 | emp=>simp[mR,bV,Sl.k,bH]
 | row x=>
  simp[bV,Sl.k,Sl.l,bH,mR,fq,h4]
  cases cI x.length a b with
  | none=>rfl
  | some r=>simp[h7,bY,rows,List.map_drop]
 | part x=>
  simp[bV,Sl.k,Sl.l,bH,mR,fq,h4]
  cases cI x.length a b with
  | none=>rfl
  | some r=>simp[h7,bY,rows,List.map_drop]
end
end
end Go.VE
namespace Go.VE
variable [aU]
structure bh (n:Nat) (α:Type) where
 l:List α
 len:l.length=n
theorem Ls {α:Type} [aD α] (l:List α):(l.map (cells (α:=α))).flatten.length=l.length*aD.size α:=by
 induction l with
 | nil=>simp
 | cons a l ih=>simp only[List.map_cons,List.flatten_cons,ζi,ih,eU,List.length_cons,Nat.add_mul,Nat.one_mul,Nat.add_comm]
theorem Kr {α:Type} [aD α] (l:List α):V.bJ (l.map (cells (α:=α))).flatten=true:=by
 induction l with
 | nil=>rfl
 | cons a l ih=>
  simp only[List.map_cons,List.flatten_cons];have h:∀(x y:List V),V.bJ x=true->V.bJ y=true->V.bJ (x++y)=true:=by
   intro x
   induction x with
   | nil=>intro y _ h;exact h
   | cons b x ih2=>intro y h1 h2;simp only[V.bJ,ζh,List.cons_append]at h1 ⊢;exact⟨h1.1,ih2 y h1.2 h2⟩
  exact h _ _ (aD.good a) ih
theorem El {n:Nat}:∀{x y:List V},V.bZ n x=true->V.bZ n y=true->V.bZ n (x++y)=true
 | [],_,_,h=>h
 | a::x,y,h1,h2=>by
  simp only[iw,ζh,List.cons_append]at h1 ⊢;exact⟨h1.1,El h1.2 h2⟩
theorem MB {n:Nat} {α:Type} [aD α] [Lv n α] (l:List α):V.bZ n (l.map (cells (α:=α))).flatten=true:=by
 induction l with
 | nil=>exact jO n
 | cons a l ih=>simp only[List.map_cons,List.flatten_cons];exact El (Lv.lv a) ih
instance {n:Nat} {α:Type} [aD α]:aD (bh n α) where
 cells a:=(a.l.map cells).flatten
 agg:=true
 size:=n*aD.size α
 len a:=by rw[Ls,a.len]
 good a:=Kr a.l
 one a:=by
  have:∀l:List α,(l.map (cells (α:=α))).flatten.all V.one=true:=by
   intro l
   induction l with
   | nil=>rfl
   | cons a l ih=>simp only[List.map_cons,List.flatten_cons,List.all_append,ih,oD,Bool.and_self]
  exact this a.l
 plain h:=by cases h
instance {k n:Nat} {α:Type} [aD α] [Lv k α]:Lv k (bh n α):=⟨λa=>MB a.l⟩
def bh.K6 (n:Nat) {α:Type} (z:α):bh n α:=⟨List.replicate n z,by simp⟩
def bh.at {n:Nat} {α:Type} (a:bh n α) (i:Int):Option α:=if 0<=i then a.l[i.toNat]? else none
def bh.set {n:Nat} {α:Type} (a:bh n α) (i:Int) (x:α):bh n α:=⟨a.l.set i.toNat x,by simp[a.len]⟩
def pa {n:Nat} {α:Type} [aD α] (a:bh n α) (i:Int):List V:=(cells a).drop (i.toNat*aD.size α)
theorem bh.sj {n:Nat} {α:Type} {a:bh n α} {i:Int} {x:α} (h:a.at i=some x):0<=i/\i.toNat<n/\a.l[i.toNat]? = some x:=by
 unfold bh.at at h;split at h
 .rename_i hi;refine⟨hi,?_,h⟩;have:=(ζe.1 h).1;rw[<-a.len];exact this
 .cases h
theorem C3 {α:Type} [aD α]:∀(l:List α) (k:Nat),((l.map (cells (α:=α))).flatten).drop (k*aD.size α)=((l.drop k).map (cells (α:=α))).flatten
 | [],k=>by simp
 | a::l,0=>by simp
 | a::l,k+1=>by
  have h:(cells a).length=aD.size α:=eU a;rw[List.map_cons,List.flatten_cons,List.drop_succ_cons,<-C3 l k,Nat.add_mul,Nat.one_mul,Nat.add_comm,<-h,List.drop_length_add_append]
theorem zg {n:Nat} {α:Type} [aD α] {a:bh n α} {i:Int} {x:α} (h:a.at i=some x):∃r,pa a i=cells x++r:=by
 obtain⟨h1,h2,h3⟩:=bh.sj h;obtain⟨hlt,hx⟩:=ζe.1 h3;refine⟨((a.l.drop (i.toNat+1)).map cells).flatten,?_⟩;show ((a.l.map (cells (α:=α))).flatten).drop (i.toNat*aD.size α)=_;rw[C3,List.drop_eq_getElem_cons hlt,List.map_cons,List.flatten_cons,hx]
section
variable {S:Sys} {c:br} {β γ δ α:Type} {Q:Out×St->Option β} {e:γ->Option β} {fo:Fo} {fs:List Fm} {st0:St} {l:List RO} {d:Option Nat} {gd:Option (Nat×Bool)} {now:Bool} {az:List Arg} {dd:List Nat}
section
variable {N:Nat} [aD α]
theorem Sq (n:Nat) (dr:Bool) (fr:List Nat) (q:List RO) (fs':List Fm) (st:St) (k:IntKind) {ln sz:Nat} {a:bh N α} {i:Int} {f:α->Option γ} (hq:q=⟨d,gd,now,.p (.idxA ln sz),az,dd,[]⟩::l)
 (hL:(fQ S c n fo fs st0,wanted st.g gd,a_ S.N st.g az,sz,ln)=(some (.ops dr fr q,fs',st),some true,some [cp a,.v (.int k i)],aD.size α,N))
 (h:∀x,a.at i=some x->Le ((f x).bind e) (qZ S c Q dr fr d (.p (.idxA ln sz)) l fs' dd (bY st d (.v (.fptr (pa a i)))))):Le (((a.at i).bind f).bind e) (rn S c Q fo fs st0):=by
 simp only[ζc]at hL;obtain⟨h1,h2,h3,h4,h5⟩:=hL;subst h4 h5;refine B5 h1 hq h2 (?_:Le ((a.at i).bind λ_=>some (bY st d (.v (.fptr (pa a i))))) _) h
 intro r hr;obtain⟨x,hx,hr⟩:=ζg.1 hr;obtain⟨g1,g2,_⟩:=bh.sj hx;rw[Cm (v:=.v (.fptr (pa a i))) h3 rfl ?_]
 .exact hr
 rw[wJ];simp only[aj,vh];have hlen:i.toNat*aD.size α<=(cells a).length:=by
  rw[eU];exact Nat.mul_le_mul_right _ (Nat.le_of_lt g2)
 rw[if_pos ⟨g1,by omega⟩,if_pos hlen]
 rfl
theorem TC (n:Nat) (dr:Bool) (fr:List Nat) (q:List RO) (fs':List Fm) (st:St) (a:bh N α) (i:Int) (o:Nat) (x:α) (hx:a.at i=some x) {k:Nat} {m:Option β} (hq:q=⟨d,gd,now,.p (.fieldAddr k),az,dd,[]⟩::l)
 (hL:(fQ S c n fo fs st0,wanted st.g gd,a_ S.N st.g az,Nat.ble (o+k) (aD.size α))=(some (.ops dr fr q,fs',st),some true,some [.v (.fptr ((pa a i).drop o))],true))
 (h:Le m (qZ S c Q dr fr d (.p (.fieldAddr k)) l fs' dd (bY st d (.v (.fptr ((pa a i).drop (o+k))))))):Le m (rn S c Q fo fs st0):=by
 simp only[ζc]at hL;obtain⟨h1,h2,h3,h4⟩:=hL;refine pJ h1 hq h2 (Cm h3 rfl ?_) h;have h9:=Nat.le_of_ble_eq_true h4;obtain⟨r,hr⟩:=zg hx;have hl:(pa a i).length>=aD.size α:=by rw[hr,ζi,eU];omega
 rw[Fq,EV,if_pos (by rw[List.length_drop];omega),List.drop_drop]
 rfl
theorem R_ (n:Nat) (dr:Bool) (fr:List Nat) (q:List RO) (fs':List Fm) (st:St) (a:bh N α) (i:Int) (o:Nat) (x:α) (hx:a.at i=some x) {sz:Nat} {ag:Bool} {v:V} (hv:(cut (cells x) o sz).bind (mk ag)=some v) (v':V) {m:Option β} (hq:q=⟨d,gd,now,.r (.load sz ag),az,dd,[]⟩::l)
 (hL:(fQ S c n fo fs st0,wanted st.g gd,a_ S.N st.g az,v)=(some (.ops dr fr q,fs',st),some true,some [.v (.fptr ((pa a i).drop o))],v'))
 (h:Le m (qZ S c Q dr fr d (.r (.load sz ag)) l fs' dd (bY st d (.v v')))):Le m (rn S c Q fo fs st0):=by
 simp only[ζc]at hL;obtain⟨h1,h2,h3,rfl⟩:=hL;refine pJ h1 hq h2 ?_ h;rw[DL,h3];have hold:dM fr [SV.v (.fptr ((pa a i).drop o))]=true:=rfl;simp only[ζb,hold,Bool.or_true,if_true,JL];obtain⟨r,hr⟩:=zg hx;rw[hr];have hc:cut ((cells x++r).drop o) 0 sz=cut (cells x) o sz:=by
  cases hcc:cut (cells x) o sz with
  | none=>rw[hcc]at hv;cases hv
  | some w=>
   unfold cut at hcc ⊢;dsimp only at hcc ⊢;split at hcc
   .rename_i hl;cases hcc;have e1:(List.drop 0 (List.drop o (cells x++r))).take sz=((cells x).drop o).take sz:=by
     rw[List.drop_zero];have ho:sz=0\/o<=(cells x).length:=by
      simp only[List.length_take,List.length_drop]at hl;omega
     rcases ho with rfl|ho
     .simp
     .rw[List.drop_append_of_le_length ho,List.take_append_of_le_length];simp only[List.length_take,List.length_drop]at hl ⊢;omega
    rw[e1,if_pos hl]
   .cases hcc
 rw[hc]
 cases hcc:cut (cells x) o sz with
 | none=>rw[hcc]at hv;cases hv
 | some w=>rw[hcc]at hv;simp only[ζb]at hv ⊢;rw[hv];rfl
theorem Rn (n:Nat) (dr:Bool) (fr:List Nat) (q:List RO) (fs':List Fm) (st:St) (cs:List SV) {u sz:Nat} {zero:List V} {m:Option β} (hq:q=⟨some u,gd,now,.a (.alloc sz zero),az,dd,[]⟩::l)
 (h4:st.new u=true) (hL:(fQ S c n fo fs st0,wanted st.g gd,a_ S.N st.g az,zero.map SV.v)=(some (.ops dr fr q,fs',st),some true,some [],cs))
 (h:Le m (qZ S c Q dr fr (some u) (.a (.alloc sz zero)) l fs' dd { st with g:=aS st.g u (.ptr u 0),m:=aS st.m u (.box cs) })):Le m (rn S c Q fo fs st0):=by
 simp only[ζc]at hL;obtain⟨h1,h2,h3,h5⟩:=hL;subst h5;refine pJ h1 hq h2 ?_ h;rw[Bf,h3];simp only[ζb,h4,if_true,ou]
theorem rZ (d:Nat) (l:List V):SV.cw d (l.map .v)=false:=by
 induction l with
 | nil=>rfl
 | cons a l ih=>simp only[List.map_cons,SV.cw,SV.bR,ih,Bool.or_self]
theorem rH {α:Type} [aD α] (d:Nat) (x:α):aN.bR d (bx x)=false:=rZ d (cells x)
theorem R1 (n:Nat) (dr:Bool) (fr:List Nat) (q:List RO) (fs':List Fm) (st:St) (k:IntKind) (u:Nat) {ln sz:Nat} {a:bh N α} {i:Int} {f:α->Option γ} (hq:q=⟨d,gd,now,.p (.idxA ln sz),az,dd,[]⟩::l)
 (hL:(fQ S c n fo fs st0,wanted st.g gd,a_ S.N st.g az,sz,ln,ai st.m u)=(some (.ops dr fr q,fs',st),some true,some [.ptr u 0,.v (.int k i)],aD.size α,N,some (bx a)))
 (h:∀x,a.at i=some x->Le ((f x).bind e) (qZ S c Q dr fr d (.p (.idxA ln sz)) l fs' dd (bY st d (.ptr u (i.toNat*aD.size α+0))))):Le (((a.at i).bind f).bind e) (rn S c Q fo fs st0):=by
 simp only[ζc]at hL;obtain⟨h1,h2,h3,h4,h5,h6⟩:=hL;subst h4 h5;refine B5 h1 hq h2 (?_:Le ((a.at i).bind λ_=>some (bY st d (.ptr u (i.toNat*aD.size α+0)))) _) h
 intro r hr;obtain⟨x,hx,hr⟩:=ζg.1 hr;obtain⟨g1,g2,_⟩:=bh.sj hx;rw[Cm (v:=.ptr u (i.toNat*aD.size α+0)) h3 rfl ?_]
 .exact hr
 simp only[jd,cH,zf,h6];rw[if_pos ⟨g1,by omega,rfl⟩,Nat.zero_add,Nat.add_zero]
theorem MW {a:bh N α} {i:Int} {o:Nat} {x:α} (hx:a.at i=some x) {sz:Nat} {ag:Bool} {v:V} (hv:(cut (cells x) o sz).bind (mk ag)=some v):tK sz ag ((((cells a).map SV.v).drop (i.toNat*aD.size α+o)).take sz)=some (.v v):=by
 obtain⟨r,hr⟩:=zg hx;have e1:(((cells a).map SV.v).drop (i.toNat*aD.size α+o)).take sz=(((cells x).drop o).take sz).map SV.v:=by
  have hcc:((cells x).drop o).take sz=((cells x++r).drop o).take sz:=by
   cases hc:cut (cells x) o sz with
   | none=>rw[hc]at hv;cases hv
   | some w=>
    unfold cut at hc;dsimp only at hc;split at hc
    .rename_i hl;have ho:sz=0\/o<=(cells x).length:=by
      simp only[List.length_take,List.length_drop]at hl;omega
     rcases ho with rfl|ho
     .simp
     .rw[List.drop_append_of_le_length ho,List.take_append_of_le_length];simp only[List.length_take,List.length_drop]at hl ⊢;omega
    .cases hc
  rw[hcc,<-hr,pa,List.drop_drop,List.map_take,List.map_drop]
 rw[e1];unfold tK
 cases hc:cut (cells x) o sz with
 | none=>rw[hc]at hv;cases hv
 | some w=>
  rw[hc]at hv;unfold cut at hc;dsimp only at hc;split at hc
  .rename_i hl;cases hc;simp only[List.length_map,hl,if_true];simp only[ζb]at hv;unfold mk at hv
   cases ag with
   | true=>
    simp only[if_true]at hv ⊢;cases hv;rw[pU]
   | false=>
    simp only[Bool.false_eq_true,if_false]at hv ⊢;split at hv
    .rename_i hw;cases hv;rw[hw];rfl
    .cases hv
  .cases hc
theorem RS (n:Nat) (dr:Bool) (fr:List Nat) (q:List RO) (fs':List Fm) (st:St) (u:Nat) (a:bh N α) (i:Int) (o:Nat) (x:α) (hx:a.at i=some x) {sz:Nat} {ag:Bool} {v:V} (hv:(cut (cells x) o sz).bind (mk ag)=some v) (v':V) {m:Option β} (hq:q=⟨d,gd,now,.r (.load sz ag),az,dd,[]⟩::l)
 (hL:(fQ S c n fo fs st0,wanted st.g gd,a_ S.N st.g az,v,ai st.m u,(!dr||now||dM fr [.ptr u 0]))=(some (.ops dr fr q,fs',st),some true,some [.ptr u (i.toNat*aD.size α+o)],v',some (bx a),true))
 (h:Le m (qZ S c Q dr fr d (.r (.load sz ag)) l fs' dd (bY st d (.v v')))):Le m (rn S c Q fo fs st0):=by
 simp only[ζc]at hL;obtain⟨h1,h2,h3,rfl,h5,h6⟩:=hL;refine pJ h1 hq h2 ?_ h;rw[DL,h3];have hold:(!dr||now||dM fr [SV.ptr u (i.toNat*aD.size α+o)])=true:=h6;simp only[ζb,hold,if_true,Tk,h5,Kk];rw[MW hx hv];rfl
theorem KP {N:Nat} (a:bh N α) (i:Int) (y:α) (h:i.toNat<N):cells (a.set i y)=(cells a).take (i.toNat*aD.size α)++cells y++(cells a).drop ((i.toNat+1)*aD.size α):=by
 have key:∀(l:List α) (k:Nat),k<l.length->((l.set k y).map (cells (α:=α))).flatten=(l.map (cells (α:=α))).flatten.take (k*aD.size α)++cells y++(l.map (cells (α:=α))).flatten.drop ((k+1)*aD.size α):=by
  intro l
  induction l with
  | nil=>intro k h;simp at h
  | cons b l ih=>
   intro k h;have hb:(cells b).length=aD.size α:=eU b
   cases k with
   | zero=>
    simp only[List.set_cons_zero,List.map_cons,List.flatten_cons,Nat.zero_mul,List.take_zero,List.nil_append,Nat.zero_add,Nat.one_mul];rw[<-hb,List.drop_left]
   | succ k=>
    simp only[List.set_cons_succ,List.map_cons,List.flatten_cons];rw[ih k (by simpa using h)]
    have e1:(k+1)*aD.size α=(cells b).length+k*aD.size α:=by rw[hb,Nat.add_mul,Nat.one_mul,Nat.add_comm]
    have e2:(k+1+1)*aD.size α=(cells b).length+(k+1)*aD.size α:=by rw[hb,Nat.add_mul (k+1),Nat.one_mul,Nat.add_comm]
    rw[e2,List.drop_length_add_append];rw[e1,List.take_length_add_append];simp[List.append_assoc]
 exact key a.l i.toNat (by rw[a.len];exact h)
theorem SM (n:Nat) (dr:Bool) (fr:List Nat) (q:List RO) (fs':List Fm) (st:St) (u:Nat) (a:bh N α) (i:Int) (o:Nat) (x:α) (hx:a.at i=some x) (y:α) (v:V) {sz:Nat} (hy:cells y=(cells x).take o++v.cells++(cells x).drop (o+sz)) {m:Option β} (hq:q=⟨d,gd,now,.l (.store sz),az,dd,[]⟩::l)
 (hL:(fQ S c n fo fs st0,wanted st.g gd,a_ S.N st.g az,ai st.m u,(!dr||now),v.cells.length,v.cells.all V.one,Nat.ble (o+sz) (aD.size α))=(some (.ops dr fr q,fs',st),some true,some [.ptr u (i.toNat*aD.size α+o),.v v],some (bx a),true,sz,true,true))
 (h:Le m (qZ S c Q dr fr d (.l (.store sz)) l fs' dd (bY { st with m:=aS st.m u (bx (a.set i y)) } d (.v .undef)))):Le m (rn S c Q fo fs st0):=by
 simp only[ζc]at hL;obtain⟨h1,h2,h3,h4,h5,h6,h7,h8⟩:=hL;refine pJ h1 hq h2 ?_ h;rw[vc,h3];have h9:=Nat.le_of_ble_eq_true h8;obtain⟨g1,g2,g3⟩:=bh.sj hx;have hb:i.toNat*aD.size α+o+sz<=((cells a).map SV.v).length:=by
  rw[List.length_map,eU];have:(i.toNat+1)*aD.size α<=N*aD.size α:=Nat.mul_le_mul_right _ g2;rw[Nat.add_mul,Nat.one_mul]at this;show _<=N*aD.size α;omega
 simp only[ζb,h5,if_true,pH,h4,putCells,h6,h7,hb,and_self,Option.map_some];obtain⟨r,hr⟩:=zg hx;have e:((cells a).map SV.v).take (i.toNat*aD.size α+o)++v.cells.map .v++((cells a).map SV.v).drop (i.toNat*aD.size α+o+sz)=(cells (a.set i y)).map SV.v:=by
  rw[KP a i y g2,hy];have hd:(cells a).drop (i.toNat*aD.size α)=cells x++r:=hr;have hlx:(cells x).length=aD.size α:=eU x;have e1:(cells a).take (i.toNat*aD.size α+o)=(cells a).take (i.toNat*aD.size α)++(cells x).take o:=by
   rw[List.take_add,hd,List.take_append_of_le_length (by omega)]
  have e2:(cells a).drop (i.toNat*aD.size α+o+sz)=(cells x).drop (o+sz)++(cells a).drop ((i.toNat+1)*aD.size α):=by
   have e3:(cells a).drop ((i.toNat+1)*aD.size α)=r:=by
    rw[Nat.add_mul,Nat.one_mul,<-List.drop_drop,hd,<-hlx,List.drop_left]
   rw[e3,Nat.add_assoc,<-List.drop_drop,hd,List.drop_append_of_le_length (by omega)]
  rw[<-List.map_take,<-List.map_drop,e1,e2];simp[List.map_append,List.append_assoc]
 rw[e]
end
theorem O4 {α:Type} [aD α] {m:Tb aN} {d:Nat} {x:α} {vs:List V} (h:ai m d=some (bx x)):l8 (gK m 8) (.ptr d 0::vs.map .v)=some (.fptr (cells x)::vs):=by
 have h1:gK m 8 (.ptr d 0)=some (.fptr (cells x)):=by
  show (match ai m d with
   | some (.box cs)=>match l8 (gK m 7) cs with
    | some xs=>if 0<=xs.length then some (V.fptr (xs.drop 0))else none
    | none=>none
   | _=>none)=_
  rw[h];simp only[FP,Nat.zero_le,if_true,List.drop_zero]
 simp only[l8,h1,FP,ζb]
theorem SE (n:Nat) {fo:Fo} {fs fs':List Fm} {st0 st:St} {rs:List RV} {e:γ->Option (List V)} {r:γ} (svs:List SV) {ys:List V} (h2:l8 (gK st.m 8) svs=some ys) (h:(fQ S c n fo fs st0,mA st rs)=(some (.rt,fs',st),some svs)) (h3:e r=some ys) :
 Le ((some r).bind e) (rn S c (pM rs) fo fs st0):=by
 simp only[ζc]at h;rw[mW h.1];refine Le.of_eq ?_;simp only[rn,pM,h.2,ζb,h2];exact h3.symm
abbrev Mo (κ ν:Type):=List (κ×ν)
class Key (κ:Type) [aD κ] [DecidableEq κ] where
 kk:vl
 ok:∀a:κ,od kk (enc a)=true
 eq:∀a b:κ,u_ (enc a) (enc b)=some (decide (a=b))
instance:Key Int where
 kk:=.int .i64
 ok _:=rfl
 eq a b:=by
  show some (a==b)=some (decide (a=b));rw[show (a==b)=decide (a=b)from Bool.eq_iff_iff.2 (by simp)]
instance:Key aa where
 kk:=.ints 2
 ok _:=rfl
 eq a b:=by
  obtain⟨p,i⟩:=a;obtain⟨q,j⟩:=b;simp only[u_,jy,gj,Qn,Option.map_some,List.length_cons,if_true,ζa];rw[Bool.eq_iff_iff];simp
section
variable {κ ν:Type} [aD κ] [DecidableEq κ] [Key κ] [aD ν]
def sy (k:κ):Mo κ ν->Option ν
 | []=>none
 | (a,v)::r=>if k=a then some v else sy k r
def Ck (m:Mo κ ν) (k:κ) (z:ν):ν:=(sy k m).getD z
def pT (m:Mo κ ν) (k:κ) (v:ν):Mo κ ν:=
 match m with
 | []=>[(k,v)]
 | (a,w)::r=>if k=a then(k,v)::r else(a,w)::pT r k v
def kH (m:Mo κ ν):List (V×V):=m.map λx=>(enc x.1,enc x.2)
def uJ (m:Mo κ ν):aN:=.mp (kH m)
theorem GR (k:κ):∀(m:Mo κ ν) (i:Nat),(fT (enc k) (kH m) i).map (Option.map (·.2))=some ((sy k m).map enc)
 | [],i=>rfl
 | (a,v)::r,i=>by
  simp only[kH,List.map_cons,fT,Key.eq,sy]
  by_cases h:k=a
  .rw[if_pos h];simp[h]
  .rw[if_neg h];simp only[h,decide_false];exact GR k r (i+1)
theorem La (k:κ) (v:ν) (m:Mo κ ν):nU (enc k) (enc v) (kH m)=some (kH (pT m k v)):=by
 unfold nU;have key:∀(m:Mo κ ν) (pre:List (V×V)) (i:Nat),pre.length=i->(match fT (enc k) (kH m) i with
  | some (some (j,_))=>some ((pre++kH m).set j (enc k,enc v))
  | some none=>some (pre++kH m++[(enc k,enc v)])
  | none=>none)=some (pre++kH (pT m k v)):=by
  intro m
  induction m with
  | nil=>intro pre i h;simp[kH,fT,pT]
  | cons x r ih=>
   obtain⟨a,w⟩:=x;intro pre i h;rw[show kH ((a,w)::r)=(enc a,enc w)::kH r from rfl];simp only[fT,Key.eq,pT]
   by_cases hk:k=a
   .subst hk h;simp[kH]
   .simp only[hk,decide_false,if_false];rw[show kH ((a,w)::pT r k v)=(enc a,enc w)::kH (pT r k v)from rfl];have:=ih (pre++[(enc a,enc w)]) (i+1) (by simp[h])
    simp only[List.append_assoc,List.cons_append,List.nil_append]at this ⊢;exact this
 have:=key m [] 0 rfl
 cases hf:fT (enc k) (kH m) 0 with
 | none=>rw[hf]at this;cases this
 | some r=>
  rw[hf]at this
  cases r with
  | none=>simpa using this
  | some w=>obtain⟨j,w⟩:=w;simpa using this
theorem Ss (n:Nat) (dr:Bool) (fr:List Nat) (q:List RO) (fs':List Fm) (st:St) (u:Nat) (mp:Mo κ ν) (k:κ) (z:ν) {kk:vl} {zv:V} {m:Option β} (hq:q=⟨d,gd,now,.r (.lookup kk zv false),az,dd,[]⟩::l)
 (hL:(fQ S c n fo fs st0,wanted st.g gd,a_ S.N st.g az,ai st.m u,(!dr||now||dM fr [.mp u,cv k]),zv,kk)=(some (.ops dr fr q,fs',st),some true,some [.mp u,cv k],some (uJ mp),true,enc z,Key.kk κ))
 (h:Le m (qZ S c Q dr fr d (.r (.lookup kk zv false)) l fs' dd (bY st d (cv (Ck mp k z))))):Le m (rn S c Q fo fs st0):=by
 simp only[ζc]at hL;obtain⟨h1,h2,h3,h4,h5,h6,h7⟩:=hL;subst h6 h7;refine pJ h1 hq h2 ?_ h;rw[DL,h3];simp only[ζb,h5,if_true,nF,h4,uJ,Key.ok];have:=GR k mp 0;simp only[Ck]
 cases hf:fT (enc k) (kH mp) 0 with
 | none=>rw[hf]at this;cases this
 | some r=>
  rw[hf]at this;simp only[Option.map_some,ζa]at this
  cases r with
  | none=>
   cases hm:sy k mp with
   | none=>rfl
   | some w=>rw[hm]at this;cases this
  | some w=>
   cases hm:sy k mp with
   | none=>rw[hm]at this;cases this
   | some w2=>
    rw[hm]at this;simp only[Option.map_some,ζa]at this;simp only[this];rfl
theorem Tq (n:Nat) (dr:Bool) (fr:List Nat) (q:List RO) (fs':List Fm) (st:St) (u:Nat) (mp:Mo κ ν) (k:κ) (v:ν) {kk:vl} {m:Option β} (hq:q=⟨d,gd,now,.l (.mapUp kk),az,dd,[]⟩::l)
 (hL:(fQ S c n fo fs st0,wanted st.g gd,a_ S.N st.g az,ai st.m u,(!dr||now),kk)=(some (.ops dr fr q,fs',st),some true,some [.mp u,cv k,cv v],some (uJ mp),true,Key.kk κ))
 (h:Le m (qZ S c Q dr fr d (.l (.mapUp kk)) l fs' dd (bY { st with m:=aS st.m u (uJ (pT mp k v)) } d (.v .undef)))):Le m (rn S c Q fo fs st0):=by
 simp only[ζc]at hL;obtain⟨h1,h2,h3,h4,h5,h6⟩:=hL;subst h6;refine pJ h1 hq h2 ?_ h;rw[vc,h3];simp only[ζb,h5,if_true,pH,h4,uJ,Key.ok,La,Option.map_some]
end
end
end Go.VE
namespace Go.VE
variable [aU]
instance {n:Nat}:OfNat Arg n:=⟨.s n⟩
abbrev bI (o:BinOp):K:=.p (.bin (some .int) none o)
abbrev ix (n:Nat):K:=.p (.idxS n)
abbrev ld (n:Nat):K:=.r (.load n false)
abbrev lD (n:Nat):K:=.r (.load n true)
abbrev fa (n:Nat):K:=.p (.fieldAddr n)
abbrev ln:K:=.p .lenSl
abbrev su (n:Nat):K:=.l (.store n)
abbrev Iv (n:Nat) (x:Int):Nat×SV:=(n,iv x)
abbrev Bv (n:Nat) (x:Bool):Nat×SV:=(n,bv x)
abbrev Cv {α:Type} [aD α] (n:Nat) (x:α):Nat×SV:=(n,cv x)
abbrev Kv {α:Type} [aD α] (n:Nat) (x:α):Nat×SV:=(n,cp x)
abbrev Pv (n:Nat):Nat×SV:=(n,.ptr n 0)
abbrev Ov (n:Nat):Nat×SV:=(n,.own (2000+n))
abbrev Xb {α:Type} [aD α] (n:Nat) (x:α):Nat×aN:=(n,bx x)
abbrev Lb {α:Type} [aD α] (n:Nat) (x:Sl α):Nat×aN:=(n,bV x)
abbrev on (d:Nat) (k:K) (az:List Arg) (dd:List Nat):RO:=⟨some d,none,true,k,az,dd,[]⟩
abbrev oz (k:K) (az:List Arg) (dd:List Nat):RO:=⟨none,none,false,k,az,dd,[]⟩
abbrev oy (k:K) (az:List Arg) (dd:List Nat):RO:=⟨none,none,true,k,az,dd,[]⟩
theorem JG {n:Nat} {α:Type} [aD α] [Lv n α] (a:α):V.bZ n (cells a)=true:=Lv.lv a
attribute [simp] JG Ot Lg iw jO qm nS qx NX Oi MF GU QK OL Pa OK OS Og
theorem lX.xy {S:Sys} {T:qc} {f:FuncId} {b:Bool} (hT:T f=none) (hk:S.E.keep f=false) (ho:S.xy f []=some (.bool b)) :
 lX S (dA S T) f (λ_:Unit=>[]) (λr:Bool=>[.bool r]) (λ_=>some b) true where
 k:=hk
 h _:=by
  have h:=CZ (az:=[]) hT hk ho;intro r hr;cases hr;unfold lQ;rw[h];exact uV 8 [.bool b]
 l _:=by simp
 r _:=by simp
 s _ _:=rfl
end Go.VE
namespace Go.VE
variable [aU]
def Wp {α:Type} (m:Option α) (P:α->Prop):Prop:=∃a,m=some a/\P a
section
variable {α β:Type} {P Q:α->Prop}
theorem ah (a:α):Wp (some a) P↔P a:=⟨λh=>by obtain⟨b,e,p⟩:=h;cases e;exact p,λp=>⟨a,rfl,p⟩⟩
theorem OZ:Wp (none:Option α) P↔False:=⟨λh=>(by obtain⟨b,e,p⟩:=h;cases e),λh=>False.elim h⟩
theorem dV {m:Option β} {k:β->Option α}:Wp (m.bind k) P↔Wp m λb=>Wp (k b) P:=by
 cases m with
 | none=>simp only[Option.bind_none,OZ]
 | some b=>simp only[ζb,ah]
theorem bl {t:Bool} {a b:Option α}:Wp (an t a b) P↔(t=true->Wp a P)/\(t=false->Wp b P):=by
 cases t <;> simp[an]
theorem Wp.mono {m:Option α} (h:Wp m P) (hpq:∀a,P a->Q a):Wp m Q:=let ⟨a,e,p⟩:=h;⟨a,e,hpq a p⟩
theorem Wp.and {m:Option α} (h:Wp m P) (h2:Wp m Q):Wp m λa=>P a/\Q a:=by
 obtain⟨a,e,p⟩:=h;obtain⟨b,e2,q⟩:=h2;rw[e]at e2;cases e2;exact⟨a,e,p,q⟩
theorem Wp.eq {m:Option α} {a:α} (h:Wp m λx=>x=a):m=some a:=by obtain⟨b,e,rfl⟩:=h;exact e
end
section
variable {σ ε ρ:Type}
theorem fI (step:σ->Option (Fw σ ε ρ)) (s:σ):aQ step s=(step s).bind λw=>match w with
 | .n s'=>aQ step s'
 | .x e=>some (.x e)
 | .r b=>some (.r b):=by
 have h1:∀r,aQ step s=some r->((step s).bind λw=>match w with
  | .n s'=>aQ step s'
  | .x e=>some (.x e)
  | .r b=>some (.r b))=some r:=by
  intro r h;obtain⟨k,hk⟩:=mg.1 h
  cases k with
  | zero=>simp[iy]at hk
  | succ k=>
   simp only[iy]at hk
   cases hs:step s with
   | none=>rw[hs]at hk;cases hk
   | some w=>
    rw[hs]at hk
    cases w with
    | n s'=>exact mg.2 ⟨k,hk⟩
    | x e=>exact hk
    | r b=>exact hk
 cases hw:aQ step s with
 | some r=>exact(h1 r hw).symm
 | none=>
  cases hr:((step s).bind λw=>match w with
  | .n s'=>aQ step s'
  | .x e=>some (.x e)
  | .r b=>some (.r b))with
  | none=>rfl
  | some r=>
   exfalso
   cases hs:step s with
   | none=>rw[hs]at hr;cases hr
   | some w=>
    rw[hs]at hr;simp only[ζb]at hr;have:aQ step s=some r:=by
     cases w with
     | n s'=>
      obtain⟨k,hk⟩:=mg.1 hr;exact mg.2 ⟨k+1,by simp only[iy,hs];exact hk⟩
     | x e=>exact mg.2 ⟨1,by simp only[iy,hs];exact hr⟩
     | r b=>exact mg.2 ⟨1,by simp only[iy,hs];exact hr⟩
    rw[hw]at this;cases this
def Ng (I:σ->Prop) (μ:σ->Nat) (px:ε->Prop) (pr:ρ->Prop) (s:σ):Fw σ ε ρ->Prop
 | .n s'=>I s'/\μ s'<μ s
 | .x e=>px e
 | .r b=>pr b
def SO (px:ε->Prop) (pr:ρ->Prop):Fw Empty ε ρ->Prop
 | .x e=>px e
 | .r b=>pr b
theorem Mn {step:σ->Option (Fw σ ε ρ)} (I:σ->Prop) (μ:σ->Nat) (px:ε->Prop) (pr:ρ->Prop) (h:∀s,I s->Wp (step s) (Ng I μ px pr s)) {s:σ} (hs:I s):Wp (aQ step s) (SO px pr):=by
 have key:∀n s,μ s<=n->I s->Wp (aQ step s) (SO px pr):=by
  intro n
  induction n with
  | zero=>
   intro s hm hi;obtain⟨w,hw,hr⟩:=h s hi;rw[fI,hw]
   cases w with
   | n s'=>exact absurd hr.2 (by omega)
   | x e=>exact⟨_,rfl,hr⟩
   | r b=>exact⟨_,rfl,hr⟩
  | succ n ih=>
   intro s hm hi;obtain⟨w,hw,hr⟩:=h s hi;rw[fI,hw]
   cases w with
   | n s'=>exact ih s' (by have:=hr.2;omega) hr.1
   | x e=>exact⟨_,rfl,hr⟩
   | r b=>exact⟨_,rfl,hr⟩
 exact key (μ s) s (Nat.le_refl _) hs
theorem dB {γ:Type} {step:σ->Option (Fw σ ε ρ)} {fx:ε->Option γ} {fr:ρ->Option γ} {P:γ->Prop} (I:σ->Prop) (μ:σ->Nat) {s:σ} (hs:I s)
 (h:∀s,I s->Wp (step s) (Ng I μ (λe=>Wp (fx e) P) (λb=>Wp (fr b) P) s)):Wp ((aQ step s).bind (Fw.elim fx fr)) P:=by
 rw[dV];refine(Mn I μ _ _ h hs).mono ?_;intro w hw
 cases w with
 | n a=>cases a
 | x e=>exact hw
 | r b=>exact hw
end
end Go.VE
namespace Go.VE
variable [aU]
theorem H_ {β γ δ:Type} {e:γ->Option β} {m:Option δ} {f:δ->Option γ} {L:Option β} (h:∀x,m=some x->Le ((f x).bind e) L):Le ((m.bind f).bind e) L:=by
 cases m with
 | none=>exact Le.none _
 | some x=>exact h x rfl
section
variable {S:Sys} {c:br} {β:Type} {Q:Out×St->Option β} {fo:Fo} {fs:List Fm} {st0:St} {l:List RO} {d:Option Nat} {now:Bool} {az:List Arg} {dd:List Nat}
theorem Le.get {β:Type} {r:β} {L:Option β} (h:Le (some r) L):L=some r:=h r rfl
theorem Kt {n:Nat} {fo fo':Fo} {fs fs':List Fm} {st:St} (A:Bool->St) {t:Bool} {m:Option β} (ht:t=true) (h:fQ S c n fo fs st=some (fo',fs',A t)) (ha:Le m (rn S c Q fo' fs' (A true))):Le m (rn S c Q fo fs st):=by
 rw[mW h,ht];exact ha
theorem Kf {n:Nat} {fo fo':Fo} {fs fs':List Fm} {st:St} (A:Bool->St) {t:Bool} {m:Option β} (ht:t=false) (h:fQ S c n fo fs st=some (fo',fs',A t)) (ha:Le m (rn S c Q fo' fs' (A false))):Le m (rn S c Q fo fs st):=by
 rw[mW h,ht];exact ha
theorem Ma {α:Type} [aD α] {s:Sl α} {i:Int} {x:α} {r:β} {L:Option β} (hx:idx s i=some x) (h:Le (((idx s i).bind λ_=>some r).bind some) L):Le (some r) L:=by
 rw[hx]at h;exact h
theorem Tc {n:Nat} {q:List RO} {fs':List Fm} {st:St} {id:Nat} {vs:List SV} {xs:List V} {ws:List (List V)} {m:Option β}
 (hL:fQ S c n fo fs st0=some (.ops false [] q,fs',st)) (hq:q=⟨d,none,now,.c,az,dd,[]⟩::l) (hs:a_ S.N st.g az=some (.yl id::vs)) (ha:cH vs=some xs) (hw:st.want=xs::ws) (hi:id=st.yid)
 (h:Le m (rn S c Q (.ops false [] l) fs' (nL dd (bY { st with want:=ws } d (.v (.bool (st.more || !ws.isEmpty))))))):Le m (rn S c Q fo fs st0):=by
 refine Nq hL hq rfl ?_ h;unfold ey;simp only[wanted,eT,hs,ha,hw,hi,if_true,and_self,Bool.false_eq_true,if_false]
theorem yX (a:RC) (fs:List Fm) (st:St):rn S c Q (.rc (.loop a)) fs st=(mL (bB S c a) st).bind (B7 (kX S c Q fs) (kW S c Q fs) (λst=>Q (.ret,st))):=by
 show kK S c Q (.loop a) fs st=_;unfold kK;rw[Bd];rfl
theorem Ph {f:St->Option (Out×St)} {st st':St} (h:f st=some (.norm,st')):mL f st=mL f st':=by
 have key:∀r,mL f st=some r↔mL f st'=some r:=λr=>by
  constructor
  .intro hr;obtain⟨k,hk⟩:=kZ.1 hr
   cases k with
   | zero=>simp[gY]at hk
   | succ k=>simp only[gY,h]at hk;exact kZ.2 ⟨k,hk⟩
  .intro hr;obtain⟨k,hk⟩:=kZ.1 hr;exact kZ.2 ⟨k+1,by simp only[gY,h];exact hk⟩
 cases hx:mL f st with
 | none=>
  cases hy:mL f st' with
  | none=>rfl
  | some r=>rw[(key r).2 hy]at hx;cases hx
 | some r=>rw[(key r).1 hx]
theorem GH {f:St->Option (Out×St)} {st st':St} {o:Out} (h:f st=some (o,st')) (ho:o≠.norm):mL f st=some (o,st'):=by
 refine kZ.2 ⟨1,?_⟩
 cases o with
 | norm=>exact absurd rfl ho
 | exit k=>simp only[gY,h]
 | ret=>simp only[gY,h]
theorem De {a:RC} {fs:List Fm} {st st':St} (h:rn S c some (.rc a) [] st=some (.norm,st')):rn S c Q (.rc (.loop a)) fs st=rn S c Q (.rc (.loop a)) fs st':=by
 rw[yX,yX,Ph (by rw[zc];exact h)]
theorem CP {a:RC} {fs:List Fm} {st st':St} {k:Nat} (h:rn S c some (.rc a) [] st=some (.exit k,st')):rn S c Q (.rc (.loop a)) fs st=rn S c Q (.ex k) fs st':=by
 rw[yX,GH (by rw[zc];exact h) (by simp)];rfl
theorem C4 {a:RC} {fs:List Fm} {st st':St} (h:rn S c some (.rc a) [] st=some (.ret,st')):rn S c Q (.rc (.loop a)) fs st=Q (.ret,st'):=by
 rw[yX,GH (by rw[zc];exact h) (by simp)];rfl
end
def Qi:Out×St->Option Unit
 | (.exit _,_)=>none
 | (_,st)=>if st.want.isEmpty then some ()else none
def Sys.bare (S:Sys):Sys:=⟨S.E,S.N,λ_ _ _=>none,λ_ _=>none,λ_=>none⟩
def lK:br:=λ_ _ _=>none
def AU (ws rest:List (List V)) (more:Bool):Prop:=more=true/\ws=rest\/more=false/\ws≠[]/\∃r,rest=ws++r
theorem Lz (S:Sys) {f:FuncId} {fi:FI} {nm:FuncId->Option Nat} {rf:RF} (hft:S.E.ft f=some fi) (hN:∀g s,nm g=some s->S.N s=g) (hr:wL S.E nm fi rf) {a b:List V} {xs:List (List V)} (hlen:a.length+1+b.length<=rf.na) (hrs:rf.rs=[])
 (h:∀ws more,AU ws xs more->∀yid,rn S.bare lK Qi (.rc rf.body) [] ⟨vu 0 (a.map .v++.yl yid::b.map .v),[],[],ws,more,yid⟩=some ()):f_ S f a b xs:=by
 have k:f_ S.bare f a b xs:=OE (S:=S.bare) (c:=lK) (fi:=fi) (nm:=nm) (rf:=rf) (λ_ _ h=>by cases h) (λ_ _ _ _ _ h=>by simp[lK]at h) (λ_ _ _ _ h=>by simp[Sys.bare]at h) hft hN hr hlen hrs (λws more hw yid=>by
  have h1:=h ws more hw yid;change kK S.bare lK Qi rf.body [] _=some ()at h1;rw[rj]at h1;obtain⟨⟨o,st'⟩,h2,h3⟩:=ζg.1 h1;refine⟨o,st',h2,?_,?_,rfl⟩
  .rintro id rfl;simp[Qi]at h3
  .cases o <;> simp[Qi]at h3 <;> exact h3)
 intro ws more hw yid J y Z a' b' H h1 h2 h3 h4 h5;exact k ws more hw yid J ⟨y.vv,y.yield⟩ Z a' b' H h1 h2 h3 h4 h5
open Classical in
noncomputable def vM (P:FuncId->List V->List V->List (List V)->Prop) (f:FuncId) (a b:List V):Option (List (List V)):=if h:∃xs,P f a b xs then some (Classical.choose h)else none
theorem Iw {P:FuncId->List V->List V->List (List V)->Prop} {f:FuncId} {a b:List V} {xs:List (List V)} (h:P f a b xs) (hu:∀ys,P f a b ys->ys=xs):vM P f a b=some xs:=by
 have h1:∃xs,P f a b xs:=⟨xs,h⟩;unfold vM;rw[dif_pos h1,hu _ (Classical.choose_spec h1)]
theorem HN {P:FuncId->List V->List V->List (List V)->Prop} {f:FuncId} {a b:List V} {xs:List (List V)} (h:vM P f a b=some xs):P f a b xs:=by
 unfold vM at h;split at h
 .rename_i h1;cases h;exact Classical.choose_spec h1
 .cases h
theorem Q6 {E:Env} {nm:FuncId->Option Nat} {f:FuncId} {rf:RF}
 (h:((E.ft f).bind λfi=>(aM ⟨E,nm,fi.ntmps⟩ false fi.body).bind λc=>(fi.results.mapM (y_ E)).bind λrs=>some (c,rs,fi.ntmps))=some (erase rf.body,rf.rs,rf.na)):∃fi,E.ft f=some fi/\wL E nm fi rf:=by
 obtain⟨fi,h1,h2⟩:=ζg.1 h;obtain⟨c,h3,h4⟩:=ζg.1 h2;obtain⟨rs,h5,h6⟩:=ζg.1 h4;simp only[ζa,ζc]at h6;obtain⟨rfl,rfl,h7⟩:=h6;exact⟨fi,h1,h3,h5,h7.symm⟩
theorem ym {n m:Nat} (h:n<=m) {x:V} (hx:V.lvl n x=true):V.lvl m x=true:=by
 induction h with
 | refl=>exact hx
 | step _ ih=>exact xH ih
theorem yV {n m:Nat} (h:n<=m) {x:List V} (hx:V.bZ n x=true):V.bZ m x=true:=by
 induction h with
 | refl=>exact hx
 | step _ ih=>exact qd ih
theorem LZ {n m:Nat} (h:n<=m) {x:List (List V)} (hx:V.lN n x=true):V.lN m x=true:=by
 induction h with
 | refl=>exact hx
 | step _ ih=>exact Ai ih
theorem OW {n m:Nat} (h:n<=m) {x:List (V×V)} (hx:V.nD n x=true):V.nD m x=true:=by
 induction h with
 | refl=>exact hx
 | step _ ih=>exact Cn ih
mutual
theorem yF:∀x:V,∃n,V.lvl n x=true
 | .fsl es xs=>let ⟨n,h⟩:=Ff xs;⟨n+1,by simp only[V.lvl];exact h⟩
 | .fptr cs=>let ⟨n,h⟩:=rF cs;⟨n+1,by simp only[V.lvl];exact h⟩
 | .fmap kvs=>let ⟨n,h⟩:=G8 kvs;⟨n+1,by simp only[V.lvl];exact h⟩
 | .agg cs=>let ⟨n,h⟩:=rF cs;⟨n+1,by simp only[V.lvl];exact h⟩
 | .tup cs=>let ⟨n,h⟩:=rF cs;⟨n+1,by simp only[V.lvl];exact h⟩
 | .clo f a b=>let ⟨n,h⟩:=rF a;let ⟨m,k⟩:=rF b;⟨max n m+1,by simp only[V.lvl,ζh];exact⟨yV (Nat.le_max_left _ _) h,yV (Nat.le_max_right _ _) k⟩⟩
 | .bool _|.int ..|.str _|.fE|.eS|.qw|.cM|.aL|.hsl ..|.hptr ..|.yld _|.hmap _=>⟨0,rfl⟩
theorem rF:∀x:List V,∃n,V.bZ n x=true
 | []=>⟨0,by simp only[V.bZ]⟩
 | a::l=>let ⟨n,h⟩:=yF a;let ⟨m,k⟩:=rF l;⟨max n m,by simp only[V.bZ,ζh];exact⟨ym (Nat.le_max_left _ _) h,yV (Nat.le_max_right _ _) k⟩⟩
theorem Ff:∀x:List (List V),∃n,V.lN n x=true
 | []=>⟨0,by simp only[V.lN]⟩
 | a::l=>let ⟨n,h⟩:=rF a;let ⟨m,k⟩:=Ff l;⟨max n m,by simp only[V.lN,ζh];exact⟨yV (Nat.le_max_left _ _) h,LZ (Nat.le_max_right _ _) k⟩⟩
theorem G8:∀x:List (V×V),∃n,V.nD n x=true
 | []=>⟨0,by simp only[V.nD]⟩
 | (a,b)::l=>let ⟨n,h⟩:=yF a;let ⟨m,k⟩:=yF b;let ⟨q,p⟩:=G8 l;⟨max n (max m q),by simp only[V.nD,ζh];exact⟨⟨ym (by omega) h,ym (by omega) k⟩,OW (by omega) p⟩⟩
end
theorem FR.nG {H:ak} {Z Z':Nat->Prop} {x y z:V} (h:FR H Z x z) (k:FR H Z' y z):x=y:=by
 obtain⟨n,hn⟩:=yF x;obtain⟨m,hm⟩:=yF y;have e1:=h.borrow (max n m) (ym (Nat.le_max_left _ _) hn);have e2:=k.borrow (max n m) (ym (Nat.le_max_right _ _) hm);rw[e1]at e2;exact Option.some.inj e2
open Classical in
noncomputable def xF (E:Env) (f:FuncId) (az:List V):Option V:=if h:∃y,xD E f az y then some (Classical.choose h)else none
theorem K2 {E:Env} {f:FuncId} {az:List V} {y:V} (h:xF E f az=some y):xD E f az y:=by
 unfold xF at h;split at h
 .rename_i h1;cases h;exact Classical.choose_spec h1
 .cases h
theorem yf {E:Env} {f:FuncId} {az:List V} {y:V} (h:xD E f az y):xF E f az=some y:=by
 have h1:∃y,xD E f az y:=⟨y,h⟩;unfold xF;rw[dif_pos h1];obtain⟨n,z,H,Z,k1,k2,_⟩:=h;obtain⟨n',z',H',Z',k3,k4,_⟩:=Classical.choose_spec h1;have e1:=nW E (Nat.le_max_left n n') _ _ _ _ k1;have e2:=nW E (Nat.le_max_right n n') _ _ _ _ k3;rw[e1]at e2;cases e2;rw[FR.nG k4 k2]
theorem Gz {E:Env} {f:FuncId} {az:List V} {y:V} (hs:V.scalar y=true) (h:∃n H',run E n (.fn f) az []=some (y,H')):xD E f az y:=by
 obtain⟨n,H',h⟩:=h;exact⟨n,y,H',λ_=>False,h,.same _ (lz hs),λ_ h=>h.elim,⟨λ_ _ _ h=>h.elim⟩⟩
end Go.VE
