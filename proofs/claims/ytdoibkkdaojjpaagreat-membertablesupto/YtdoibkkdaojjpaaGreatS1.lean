/-
 Plain values and the steps of a certificate.
-/
import Derived.KernelRfl
import Derived.Test.YtdoibkkdaojjpaaGreatN2
set_option linter.all false
namespace Go.VE
variable [aY]
inductive Sl (α:Type) where
 | nil
 | emp
 | row (l:List α)
 | part (l:List α)
 deriving Inhabited
def Sl.l {α:Type}:Sl α->List α
 | .nil|.emp=>[]
 | .row l|.part l=>l
def Sl.k {α:Type}:Sl α->Fl
 | .nil=>.nil
 | .emp=>.emp
 | .row _=>.row
 | .part _=>.part
class aD (α:Type) where
 cells:α->List V
 agg:Bool
 size:Nat
 len:∀a,(cells a).length=size
 good:∀a,V.bD (cells a)=true
 one:∀a,(cells a).all V.one=true
 plain:agg=false->size=1
def cells {α:Type} [aD α] (a:α):List V:=aD.cells a
def enc {α:Type} [aD α] (a:α):V:=if aD.agg α then .agg (cells a)else(cells a).headD .undef
def rows {α:Type} [aD α] (l:List α):List (List V):=l.map cells
def aZ {α:Type} [aD α] (s:Sl α):V:=lT s.k (aD.size α) (rows s.l)
instance:aD Int where
 cells n:=[.int .i64 n]
 agg:=false
 size:=1
 len _:=rfl
 good _:=rfl
 one _:=rfl
 plain _:=rfl
instance:aD Bool where
 cells b:=[.bool b]
 agg:=false
 size:=1
 len _:=rfl
 good _:=rfl
 one _:=rfl
 plain _:=rfl
instance:aD ByteArray where
 cells s:=[.str s]
 agg:=false
 size:=1
 len _:=rfl
 good _:=rfl
 one _:=rfl
 plain _:=rfl
structure af where
 proc:Int
 index:Int
 deriving DecidableEq,Inhabited
instance:aD af where
 cells x:=[.int .i64 x.proc,.int .i64 x.index]
 agg:=true
 size:=2
 len _:=rfl
 good _:=rfl
 one _:=rfl
 plain h:=by cases h
@[simp] theorem UO (n:Int):enc n=.int .i64 n:=rfl
@[simp] theorem UA (n:Bool):enc n=.bool n:=rfl
@[simp] theorem UP (n:ByteArray):enc n=.str n:=rfl
@[simp] theorem Td (n:Int):cells n=[.int .i64 n]:=rfl
@[simp] theorem Sr (n:Bool):cells n=[.bool n]:=rfl
@[simp] theorem Tq (n:ByteArray):cells n=[.str n]:=rfl
@[simp] theorem Uw (n:af):cells n=[.int .i64 n.proc,.int .i64 n.index]:=rfl
@[simp] theorem Rh (n:af):enc n=.agg [.int .i64 n.proc,.int .i64 n.index]:=rfl
section
variable {α:Type} [aD α]
theorem eC (l:List α):(rows l).length=l.length:=by simp[rows]
def idx (s:Sl α) (i:Int):Option α:=if 0<=i then s.l[i.toNat]? else none
theorem K7 {N:Nat->FuncId} (s:Sl α) (k:IntKind) (i:Int) {n:Nat} (hn:n=aD.size α):ak N (.idxS n) [aZ s,.int k i]=(idx s i).map λx=>.fptr (cells x):=by
 subst hn;unfold idx aZ;simp only[ak,jK]
 by_cases h:i<0
 .rw[if_pos h,if_neg (by omega)];rfl
 .rw[if_neg h,if_pos (by omega)]
  cases s <;> simp[Sl.k,Sl.l,lT,rows,Function.comp_def]
theorem Jq {N:Nat->FuncId} (s:Sl α):ak N .lenSl [aZ s]=some (.int .i64 s.l.length):=by
 cases s <;> simp[ak,lE,aZ,Sl.k,Sl.l,lT,eC]
end
section
variable {S:Sys} {c:bH}
end
end Go.VE
namespace Go.VE
variable [aY]
section
variable {S:Sys} {c:bH}
def isSlice:tI->Bool
 | .slice ..=>true
 | _=>false
theorem M1 (dr:Bool) (fr:List Nat) (dst:Option Nat) (now:Bool) (p:tI) (az:List Arg) (st:St) (h:isSlice p=false) :
 eu S c dr fr ⟨dst,none,now,.p p,az,[],[]⟩ st=(bf S.N st.g az).bind λsvs=>(iF S.N st.m p svs).bind λx=>some (bY st dst x):=by
 unfold eu ni;have hy:eO S.N st.g ⟨dst,none,now,.p p,az,[],[]⟩=none:=by unfold eO;cases p <;> rfl
 simp only[wanted,hy]
 cases hs:bf S.N st.g az with
 | none=>rfl
 | some svs=>
  simp only[ζb];cases p <;> first|(simp[isSlice]at h;done)|(cases hp:iF S.N st.m _ svs <;> simp[hp])
theorem Gl (N:Nat->FuncId) (m:Tb aN) (p:tI) (svs:List SV) (xs:List V) (h:cZ svs=some xs):iF N m p svs=(ak N p xs).bind λx=>some (.v x):=by
 unfold iF;rw[h];dsimp only;cases ak N p xs <;> rfl
theorem vK (dr:Bool) (fr:List Nat) (dst:Option Nat) (now:Bool) (q:Jf) (az:List Arg) (st:St) :
 eu S c dr fr ⟨dst,none,now,.r q,az,[],[]⟩ st=(bf S.N st.g az).bind λsvs=>if !dr||now||dF fr svs then(kF st.m q svs).bind λx=>some (bY st dst x)else none:=by
 unfold eu ni;have hy:eO S.N st.g ⟨dst,none,now,.r q,az,[],[]⟩=none:=rfl;simp only[wanted,hy]
 cases hs:bf S.N st.g az with
 | none=>rfl
 | some svs=>
  simp only[ζb];split
  .cases hp:kF st.m q svs <;> simp
  .rfl
theorem yu (dr:Bool) (fr:List Nat) (d:Nat) (now:Bool) (q:Jg) (az:List Arg) (st:St) :
 eu S c dr fr ⟨some d,none,now,.a q,az,[],[]⟩ st=(bf S.N st.g az).bind λsvs=>if st.new d then(mG st.m q svs d).bind λr=>some { st with g:=aR st.g d r.2,m:=aR st.m d r.1 } else none:=by
 unfold eu ni;have hy:eO S.N st.g ⟨some d,none,now,.a q,az,[],[]⟩=none:=rfl;simp only[wanted,hy]
 cases hs:bf S.N st.g az with
 | none=>rfl
 | some svs=>
  simp only[ζb];split
  .cases hp:mG st.m q svs d <;> simp[bY]
  .rfl
theorem s_ (dr:Bool) (fr:List Nat) (dst:Option Nat) (now:Bool) (q:Gc) (az:List Arg) (st:St) :
 eu S c dr fr ⟨dst,none,now,.l q,az,[],[]⟩ st=(bf S.N st.g az).bind λsvs=>if !dr||now then(mz st dst q svs).bind λr=>some (bY r.2 dst r.1)else none:=by
 unfold eu ni;have hy:eO S.N st.g ⟨dst,none,now,.l q,az,[],[]⟩=none:=rfl;simp only[wanted,hy]
 cases hs:bf S.N st.g az with
 | none=>rfl
 | some svs=>
  simp only[ζb];split
  .cases hp:mz st dst q svs <;> simp
  .rfl
def ov:List SV->Option (FuncId×List SV)
 | .clo f a b::vs=>some (f,a++vs++b)
 | .v (.clo f a b)::vs=>some (f,a.map .v++vs++b.map .v)
 | _=>none
theorem Dm (dr:Bool) (fr:List Nat) (dst:Option Nat) (now:Bool) (az:List Arg) (st:St) (svs:List SV) (f:FuncId) (args:List SV) (hs:bf S.N st.g az=some svs) (hc:ov svs=some (f,args)) :
 eu S c dr fr ⟨dst,none,now,.c,az,[],[]⟩ st=(fP S c dst dr (!dr||now) (fm st.m fr) f args st).bind λr=>some (bY r.2 dst r.1):=by
 unfold eu ni;unfold ov at hc;split at hc
 .simp only[ζa,ζc]at hc;obtain⟨rfl,rfl⟩:=hc;simp only[wanted,eO,hs];cases fP S c dst dr _ _ _ _ st <;> simp
 .simp only[ζa,ζc]at hc;obtain⟨rfl,rfl⟩:=hc;simp only[wanted,eO,hs];cases fP S c dst dr _ _ _ _ st <;> simp
 .simp at hc
noncomputable def KJ {β:Type} (S:Sys) (c:bH) (fr:List Nat) (l:List RO) (k:St->Option β):St->Option β:=λst=>(kW S c false fr l st).bind k
noncomputable def LK {β:Type} (S:Sys) (c:bH) (fr:List Nat) (l:List RO) (k:St->Option β):St->Option β:=λst=>(kW S c true fr l st).bind k
noncomputable def Qp {β:Type} (S:Sys) (c:bH) (fr dd:List Nat) (l:List RO) (k:St->Option β):St->Option β:=λst=>KJ S c fr l k (nk dd st)
noncomputable def RP {β:Type} (S:Sys) (c:bH) (fr dd:List Nat) (l:List RO) (k:St->Option β):St->Option β:=λst=>LK S c fr l k (nk dd st)
@[congr] theorem SX {β:Type} {fr:List Nat} {l:List RO} {k:St->Option β} {st st':St} (h:st=st'):KJ S c fr l k st=KJ S c fr l k st':=by rw[h]
@[congr] theorem Sp {β:Type} {fr fr':List Nat} {l:List RO} {k:St->Option β} {st st':St} (hf:fr=fr') (h:st=st'):LK S c fr l k st=LK S c fr' l k st':=by rw[h,hf]
@[congr] theorem SJ {β:Type} {fr dd:List Nat} {l:List RO} {k:St->Option β} {st st':St} (h:st=st'):Qp S c fr dd l k st=Qp S c fr dd l k st':=by rw[h]
@[congr] theorem SE {β:Type} {fr fr' dd:List Nat} {l:List RO} {k:St->Option β} {st st':St} (hf:fr=fr') (h:st=st'):RP S c fr dd l k st=RP S c fr' dd l k st':=by rw[h,hf]
@[congr] theorem Tu {dr:Bool} {fr:List Nat} {o:RO} {st st':St} (h:st=st'):eu S c dr fr o st=eu S c dr fr o st':=by rw[h]
end
section
variable {S:Sys} {c:bH} (dr:Bool) (fr:List Nat) (dst:Option Nat) (now:Bool) (az:List Arg) (st:St)
end
end Go.VE
namespace Go.VE
variable [aY]
inductive Fm where
 | seq (b:RC)
 | blk (id:Nat)
 | gst (x:Gh)
section
variable (S:Sys) (c:bH) {β:Type} (Q:Out×St->Option β)
noncomputable def runK:List Fm->Out×St->Option β
 | [],r=>Q r
 | .seq b::fs,(.norm,st)=>(bB S c b st).bind (runK fs)
 | .seq _::fs,r=>runK fs r
 | .blk id::fs,(.exit k,st)=>if k=id then runK fs (.norm,st)else runK fs (.exit k,st)
 | .blk _::fs,r=>runK fs r
 | .gst x::fs,(.norm,st)=>(ghost x st).bind λst=>runK fs (.norm,st)
 | .gst _::fs,r=>runK fs r
noncomputable def go (rc:RC) (fs:List Fm) (st:St):Option β:=(bB S c rc st).bind (runK S c Q fs)
noncomputable def MU (fs:List Fm):St->Option β:=λst=>runK S c Q fs (.norm,st)
def ay {α:Type} (t:Bool) (a b:α):α:=if t then a else b
end
@[congr] theorem Tp {α:Type} {t t':Bool} {a b a' b':α} (h:t=t') (ha:t'=true->a=a') (hb:t'=false->b=b'):ay t a b=ay t' a' b':=by
 subst h;cases t
 .exact hb rfl
 .exact ha rfl
section
variable {S:Sys} {c:bH} {β:Type} {Q:Out×St->Option β}
@[congr] theorem go_congr {a:RC} {fs:List Fm} {st st':St} (h:st=st'):go S c Q a fs st=go S c Q a fs st':=by rw[h]
@[congr] theorem R5 {fs:List Fm} {st st':St} (h:st=st'):MU S c Q fs st=MU S c Q fs st':=by rw[h]
@[congr] theorem SL {fs:List Fm} {r r':Out×St} (h:r=r'):runK S c Q fs r=runK S c Q fs r':=by rw[h]
theorem Ep (rc:RC) (st:St):(bB S c rc st).bind Q=go S c Q rc [] st:=by
 simp only[go];cases bB S c rc st <;> rfl
inductive Fw (ν ε ρ:Type) where
 | n (a:ν)
 | x (e:ε)
 | r (b:ρ)
def gW {σ ε ρ:Type} (step:σ->Option (Fw σ ε ρ)):Nat->σ->Option (Fw Empty ε ρ)
 | 0,_=>none
 | k+1,s=>match step s with
  | some (.n s')=>gW step k s'
  | some (.x e)=>some (.x e)
  | some (.r b)=>some (.r b)
  | none=>none
theorem uJ {σ ε ρ:Type} {step:σ->Option (Fw σ ε ρ)}:∀{k k':Nat} {s:σ} {r:Fw Empty ε ρ},k<=k'->gW step k s=some r->gW step k' s=some r
 | 0,_,_,_,_,h=>by simp[gW]at h
 | k+1,0,_,_,hk,_=>by omega
 | k+1,k'+1,s,r,hk,h=>by
  simp only[gW]at h ⊢;split at h
  .exact uJ (Nat.le_of_succ_le_succ hk) h
  .exact h
  .exact h
  .simp at h
open Classical in
noncomputable def aX {σ ε ρ:Type} (step:σ->Option (Fw σ ε ρ)) (s:σ):Option (Fw Empty ε ρ):=
 if h:∃k r,gW step k s=some r then some (Classical.choose (Classical.choose_spec h))else none
theorem lS {σ ε ρ:Type} {step:σ->Option (Fw σ ε ρ)} {s:σ} {r:Fw Empty ε ρ}:aX step s=some r↔∃k,gW step k s=some r:=by
 unfold aX;constructor
 .intro h;split at h
  .rename_i hx;simp only[ζa]at h;exact⟨_,by rw[<-h];exact Classical.choose_spec (Classical.choose_spec hx)⟩
  .simp at h
 .rintro⟨k,hk⟩;have hx:∃k r,gW step k s=some r:=⟨k,r,hk⟩;rw[dif_pos hx];have h2:=Classical.choose_spec (Classical.choose_spec hx);have h3:=uJ (Nat.le_max_left (Classical.choose hx) k) h2;have h4:=uJ (Nat.le_max_right (Classical.choose hx) k) hk;rw[h3]at h4;exact h4
def Fw.out {ν ε ρ:Type} (eν:ν->St) (eε:ε->Nat×St) (eρ:ρ->St):Fw ν ε ρ->Out×St
 | .n a=>(.norm,eν a)
 | .x e=>(.exit (eε e).1,(eε e).2)
 | .r b=>(.ret,eρ b)
def Fw.elim {ε ρ γ:Type} (fx:ε->γ) (fr:ρ->γ):Fw Empty ε ρ->γ
 | .x e=>fx e
 | .r b=>fr b
end
end Go.VE
namespace Go.VE
variable [aY]
class Lv (n:Nat) (α:Type) [aD α]:Prop where
 lv:∀a:α,V.bU n (cells a)=true
instance {n:Nat}:Lv n Int:=⟨λ_=>by cases n <;> rfl⟩
instance {n:Nat}:Lv n Bool:=⟨λ_=>by cases n <;> rfl⟩
instance {n:Nat}:Lv n ByteArray:=⟨λ_=>by cases n <;> rfl⟩
instance {n:Nat}:Lv n af:=⟨λ_=>by cases n <;> rfl⟩
section
variable {α:Type} [aD α]
theorem Ci (s:Sl α):V.one (aZ s)=true:=by cases s <;> rfl
theorem IT (l:List α):V.mI (rows l)=true:=by
 induction l with
 | nil=>rfl
 | cons a l ih=>simp only[rows,List.map_cons,V.mI,ζh];exact⟨aD.good a,ih⟩
theorem Hq (s:Sl α):V.good (aZ s)=true:=by
 cases s <;> simp only[aZ,Sl.k,lT,V.good] <;> exact IT _
theorem LJ {n:Nat} [Lv n α] (l:List α):V.k_ n (rows l)=true:=by
 induction l with
 | nil=>cases n <;> rfl
 | cons a l ih=>simp only[rows,List.map_cons,V.k_,ζh];exact⟨Lv.lv a,ih⟩
theorem Cc {n:Nat} [Lv n α] (s:Sl α):V.lvl (n+1) (aZ s)=true:=by
 cases s <;> simp only[aZ,Sl.k,lT,V.lvl] <;> exact LJ _
instance:aD (Sl α) where
 cells s:=[aZ s]
 agg:=false
 size:=1
 len _:=rfl
 good s:=by simp only[V.bD,Hq,Bool.and_self]
 one s:=by simp[Ci]
 plain _:=rfl
instance {n:Nat} [Lv n α]:Lv (n+1) (Sl α):=⟨λs=>by
 show V.bU (n+1) [aZ s]=true;simp only[V.bU,Cc,Bool.and_self]⟩
end
theorem Oe (n:Nat) (cs:List V):V.lvl (n+1) (.agg cs)=V.bU n cs:=rfl
theorem OO (n:Nat) (cs:List V):V.lvl (n+1) (.tup cs)=V.bU n cs:=rfl
theorem Ms (n:Nat) (cs:List V):V.lvl (n+1) (.fptr cs)=V.bU n cs:=rfl
theorem O1 (n:Nat) (f:FuncId) (a b:List V):V.lvl (n+1) (.clo f a b)=(V.bU n a&&V.bU n b):=rfl
theorem mN (n:Nat) (k:IntKind) (x:Int):V.lvl n (.int k x)=true:=by cases n <;> rfl
theorem kT (n:Nat) (x:Bool):V.lvl n (.bool x)=true:=by cases n <;> rfl
theorem mV (n:Nat) (x:ByteArray):V.lvl n (.str x)=true:=by cases n <;> rfl
theorem OA (n:Nat):V.lvl n .aG=true:=by cases n <;> rfl
theorem Ot (n:Nat):V.lvl n .cK=true:=by cases n <;> rfl
theorem MD (n:Nat):V.lvl n .fE=true:=by cases n <;> rfl
theorem gQ (n:Nat):V.bU n []=true:=by cases n <;> rfl
theorem fB (n:Nat) (x:V) (r:List V):V.bU n (x::r)=(V.lvl n x&&V.bU n r):=by cases n <;> rfl
section
variable {S:Sys} {c:bH}
def IK (x:Option SV) (b:Bool) (y z:Option St):Option St:=
 match x with
 | some (.v (.bool t))=>ay (t==b) y z
 | some (.v _)=>z
 | _=>none
@[congr] theorem PR {x x':Option SV} {b:Bool} {y z:Option St} (h:x=x'):IK x b y z=IK x' b y z:=by rw[h]
def Ng {β:Type} (x:Option SV) (y z:Option β):Option β:=
 match x with
 | some (.v (.bool t))=>ay t y z
 | _=>none
@[congr] theorem R1 {β:Type} {x x':Option SV} {y z:Option β} (h:x=x'):Ng x y z=Ng x' y z:=by rw[h]
def kJ (c:bH) (f:FuncId) (az:List V):Option (List V):=(c f (az.map .v) []).bind λr=>bW r.2 8 r.1
def Kj (dr:Bool) (ok:Bool) (st:St) (ys:List V):Option (SV×St):=
 if V.lvl 8 (result ys)&&((result ys).scalar||ok)then some (.v (result ys),st)else none
theorem NL (dst:Option Nat) (dr now:Bool) (old:List SV->Bool) (f:FuncId) (args:List SV) (st:St) (hk:S.E.keep f=false) :
 fP S c dst dr now old f args st=(bW st.m 8 args).bind λaz=>if V.bU 8 az&&(now||old args)then(kJ c f az).bind (Kj dr (cZ args).isSome st)else none:=by
 unfold fP kJ;simp only[hk,Bool.false_eq_true,if_false]
 cases bW st.m 8 args with
 | none=>rfl
 | some az=>
  simp only[ζb];split
  .cases c f (az.map .v) []with
   | none=>rfl
   | some r=>
    obtain⟨rs,m'⟩:=r;simp only[ζb];cases bW m' 8 rs <;> rfl
  .rfl
end
section
variable {S:Sys} {T:qv}
def DW (rs:List RV):Out×St->Option (List V)
 | (.exit _,_)=>none
 | (_,st)=>(oA st rs).bind (bW st.m 8)
theorem K5 {f:FuncId} {rf:RF} (hT:T f=some rf) (az:List V) (hn:az.length<=rf.na):kJ (cz S T) f az=go S (cz S T) (DW rf.rs) rf.body [] (start (az.map .v) []):=by
 unfold kJ;rw[zQ hT];unfold nZ;rw[if_pos (by simpa using hn),<-Ep]
 cases h:bB S (cz S T) rf.body (start (az.map .v) [])with
 | none=>rfl
 | some r=>
  obtain⟨o,st⟩:=r;cases o <;> simp only[ζb,DW] <;> (try rfl) <;> (cases oA st rf.rs <;> rfl)
end
end Go.VE
namespace Go.VE
variable [aY]
variable {N:Nat->FuncId}
def Vc (a b:Int):Option Int:=if b=0 then none else some (a.tmod b)
def Vm (k:IntKind) (a b:Int):Option Int:=if b<0 then none else some (a.fdiv (2 ^ (min b.toNat k.bits)))
theorem D8 (o:Nat) (cs:List V):ak N (.fieldAddr o) [.fptr cs]=if o<=cs.length then some (.fptr (cs.drop o))else none:=rfl
def iU (s:ByteArray) (n:Int):Option Int:=if 0<=n then(s[n.toNat]?).map λb=>(b.toNat:Int)else none
theorem JH (s:ByteArray) (k:IntKind) (n:Int):ak N .idxStr [.str s,.int k n]=(iU s n).bind λx=>some (.int .u8 x):=by
 simp only[ak,iU];split
 .cases s[n.toNat]? <;> rfl
 .rfl
theorem L8 (z:List V) (pl:List (Nat×Nat)) (vs:List V):ak N (.build z pl) vs=(i_ z pl vs).bind λcs=>some (.agg cs):=by
 simp only[ak];cases i_ z pl vs <;> rfl
section
variable {α:Type} [aD α]
theorem BI (s:Sl α) (k:IntKind) (i:Int) (n:Nat) (hn:n=aD.size α):ak N (.idxS n) [aZ s,.int k i]=(idx s i).bind λx=>some (.fptr (cells x)):=by
 rw[K7 s k i hn];cases idx s i <;> rfl
theorem vW (s:Sl α):ak N .lenSl [aZ s]=some (.int .i64 s.l.length):=Jq s
def Sl.isNil {α:Type} (s:Sl α):Option Bool:=
 match s with
 | .nil=>some true
 | .emp=>none
 | _=>some false
theorem Mt (q:Option Nat) (s:Sl α):ak N (.bin (some .slice) q .eql) [aZ s,.aG]=s.isNil.bind λt=>some (.bool t):=by
 cases s <;> rfl
def eM (s:Sl α) (lo hi:Option Int):Option (Sl α):=
 (cD s.l.length lo hi).map λ(l,h)=>match s with
  | .nil=>.nil
  | .emp=>.emp
  | .row x=>.part ((x.take h).drop l)
  | .part x=>.part ((x.take h).drop l)
theorem Hf (s:Sl α) (lo hi:Option Int) (n:Nat) (hn:n=aD.size α):fI n (aZ s) lo hi=(eM s lo hi).bind λx=>some (aZ x):=by
 subst hn
 cases s with
 | nil=>simp only[aZ,Sl.k,lT,fI,eM,Sl.l,List.length_nil];cases cD 0 lo hi <;> rfl
 | emp=>simp only[aZ,Sl.k,lT,fI,eM,Sl.l,List.length_nil];cases cD 0 lo hi <;> rfl
 | row l=>simp only[aZ,Sl.k,lT,fI,eM,Sl.l,if_true,eC];cases cD l.length lo hi <;> simp[rows,List.map_take,List.map_drop]
 | part l=>simp only[aZ,Sl.k,lT,fI,eM,Sl.l,if_true,eC];cases cD l.length lo hi <;> simp[rows,List.map_take,List.map_drop]
end
theorem Jo (m:Tb aN) (n:Nat) (a:Bool) (cs:List V):kF m (.load n a) [.v (.fptr cs)]=(cut cs 0 n).bind λr=>(mk a r).bind λx=>some (.v x):=by
 simp only[kF,cS]
 cases cut cs 0 n with
 | none=>rfl
 | some r=>simp only[ζb];cases mk a r <;> rfl
end Go.VE
namespace Go.VE
variable [aY]
section
variable {α:Type} [aD α]
def b7 (s:Sl α):aN:=.sl s.k (aD.size α) (rows s.l)
def Sl.kZ (s:Sl α) (i:Int):Option Nat:=if 0<=i/\i.toNat<s.l.length then some i.toNat else none
def Sl.get (s:Sl α) (i:Nat):Option α:=s.l[i]?
def Sl.put (s:Sl α) (i:Nat) (x:α):Option (Sl α):=
 if i<s.l.length then some (match s with|.row l=>.row (l.set i x)|.part l=>.part (l.set i x)|s=>s)else none
def ig (s:Sl α) (x:α):Option (Sl α):=if s.l.length+1<=2147483648 then some (.row (s.l++[x]))else none
def sr (n:Int) (z:α):Option (Sl α):=if 0<=n/\n<=2147483648 then some (.row (List.replicate n.toNat z))else none
end
section
variable {α:Type} [aD α] {N:Nat->FuncId} {m:Tb aN}
def GO (n d:Nat) (o:Option aN) (i:Int):Option SV:=
 match o with
 | some (.sl k es xs)=>if bC k/\es=n/\0<=i/\i.toNat<xs.length then some (.el d i.toNat 0)else none
 | _=>none
theorem Oc (n d:Nat) (k:IntKind) (i:Int):iF N m (.idxS n) [.own d,.v (.int k i)]=GO n d (an m d) i:=by
 simp only[iF,cZ,ua,GO]
 cases an m d with
 | none=>rfl
 | some o=>cases o <;> rfl
theorem Oo (n d:Nat) (s:Sl α) (i:Int) (h:n=aD.size α):GO n d (some (b7 s)) i=(s.kZ i).bind λj=>some (.el d j 0):=by
 subst h;simp only[GO,b7,eC,true_and,Sl.kZ]
 cases s with
 | nil=>simp[Sl.l,Sl.k,bC]
 | emp=>simp[Sl.l,Sl.k,bC]
 | row l=>simp only[Sl.k,Sl.l,bC,true_and];by_cases h:0<=i/\i.toNat<l.length <;> simp[h]
 | part l=>simp only[Sl.k,Sl.l,bC,true_and];by_cases h:0<=i/\i.toNat<l.length <;> simp[h]
def HT (o:Option aN):Option SV:=
 match o with
 | some (.sl _ _ xs)=>some (.v (.int .i64 xs.length))
 | _=>none
theorem LI (d:Nat):iF N m .lenSl [.own d]=HT (an m d):=by
 simp only[iF,cZ,ua,HT]
 cases an m d with
 | none=>rfl
 | some o=>cases o <;> rfl
theorem NH (s:Sl α):HT (some (b7 s))=some (.v (.int .i64 s.l.length)):=by simp[HT,b7,eC]
def GK (n:Nat) (a:Bool) (o:Nat) (ob:Option aN):Option SV:=
 match ob with
 | some (.box cs)=>uy n a ((cs.drop o).take n)
 | _=>none
theorem UH (n:Nat) (a:Bool) (d o:Nat):kF m (.load n a) [.ptr d o]=GK n a o (an m d):=by
 simp only[kF,GK];rfl
theorem KB (n:Nat) (a:Bool) (o:Nat) (cs:List SV):GK n a o (some (.box cs))=uy n a ((cs.drop o).take n):=rfl
def Bj (n:Nat) (a:Bool) (i o:Nat) (ob:Option aN):Option SV:=
 match ob with
 | some (.sl _ _ xs)=>match xs[i]? with
  | some cs=>((cut cs o n).bind (mk a)).map .v
  | none=>none
 | _=>none
theorem S0 (n:Nat) (a:Bool) (d i o:Nat):kF m (.load n a) [.el d i o]=Bj n a i o (an m d):=by
 simp only[kF,Bj];rfl
theorem IE (n:Nat) (a:Bool) (i o:Nat) (s:Sl α):Bj n a i o (some (b7 s))=(s.get i).bind λx=>(cut (cells x) o n).bind λr=>(mk a r).bind λy=>some (.v y):=by
 simp only[Bj,b7,Sl.get,rows,List.getElem?_map]
 cases s.l[i]? with
 | none=>rfl
 | some x=>
  simp only[Option.map_some,ζb]
  cases cut (cells x) o n with
  | none=>rfl
  | some r=>simp only[ζb];cases mk a r <;> rfl
theorem Sk (z:α) (n:Int) (d:Nat) (size:Nat) (zero:List V) (h:zero=cells z) (h2:size=aD.size α) :
 mG m (.makeSl size zero) [.v (.int .i64 n),.v (.int .i64 n)] d=(sr n z).bind λs=>some (b7 s,.own d):=by
 subst h h2;simp only[mG,sr,true_and,Int.le_refl];split
 .simp[b7,Sl.k,Sl.l,rows,List.map_replicate]
 .rfl
def yH (st:St) (d i o size:Nat) (x:V) (ob:Option aN):Option (SV×St):=
 match ob with
 | some (.sl k es xs)=>match xs[i]? with
  | some cs=>if x.cells.length=size/\o+size<=cs.length/\x.cells.all V.one=true then
   some (.v .undef,{ st with m:=aR st.m d (.sl k es (xs.set i (cs.take o++x.cells++cs.drop (o+x.cells.length)))) })else none
  | none=>none
 | _=>none
theorem HL (st:St) (dst:Option Nat) (size d i o:Nat) (x:V):mz st dst (.store size) [.el d i o,.v x]=yH st d i o size x (an st.m d):=by
 simp only[mz,yH];rfl
theorem HB (g:Tb SV) (p:List Nat) (w:List (List V)) (mo:Bool) (y:Nat) (d i size:Nat) (x:V) (a:α) (hx:x.cells=cells a) (hs:size=aD.size α) (s:Sl α) :
 yH ⟨g,m,p,w,mo,y⟩ d i 0 size x (some (b7 s))=(s.put i a).bind λs'=>some (.v .undef,⟨g,aR m d (b7 s'),p,w,mo,y⟩):=by
 have h1:(cells a).all V.one=true:=aD.one a;have hl:∀b:α,(cells b).length=aD.size α:=aD.len;subst hs;simp only[yH,b7,rows,List.getElem?_map,hx,Sl.put]
 by_cases hi:i<s.l.length
 .have hg:s.l[i]? = some s.l[i]:=ζd hi;rw[if_pos hi,hg];simp only[Option.map_some,hl,h1,ζb];rw[if_pos ⟨trivial,by omega,trivial⟩]
  cases s with
  | nil=>simp[Sl.l]at hi
  | emp=>simp[Sl.l]at hi
  | row l=>simp[Sl.k,Sl.l,rows,List.drop_of_length_le,hl,List.map_set]
  | part l=>simp[Sl.k,Sl.l,rows,List.drop_of_length_le,hl,List.map_set]
 .rw[if_neg hi,List.getElem?_eq_none (by omega)];rfl
def pq (st:St) (t n:Nat) (s:SV) (xs ys:Option (List (List V))):Option (SV×St):=
 match xs,ys with
 | some _,some []=>match s with
  | .own d=>match an st.m d with
   | some ob=>if St.new { st with m:=cM d st.m } t then some (.own t,{ st with m:=aR (cM d st.m) t ob })else none
   | none=>none
  | .v .aG=>if st.new t then some (.own t,{ st with m:=aR st.m t (.sl .nil n []) })else none
  | .v .cK=>if st.new t then some (.own t,{ st with m:=aR st.m t (.sl .emp n []) })else none
  | _=>none
 | some xs,some ys=>
  if xs.length+ys.length<=2147483648/\z7 s=true then
   if St.new { st with m:=giveUp st.m s } t then some (.own t,{ st with m:=aR (giveUp st.m s) t (.sl .row n (xs++ys)) })else none
  else none
 | _,_=>none
theorem wQ (st:St) (t n:Nat) (s x:SV):mz st (some t) (.append n) [s,x]=pq st t n s (jm st.m n s) (jm st.m n x):=by
 cases s <;> cases x <;> (simp only[mz,pq];rfl)
def GN (n:Nat) (o:Option aN):Option (List (List V)):=
 match o with
 | some (.sl k es xs)=>if bC k then(if es=n then some xs else none)else some []
 | _=>none
theorem BH (n d:Nat):jm m n (.own d)=GN n (an m d):=by
 simp only[jm,GN]
 cases an m d with
 | none=>rfl
 | some ob=>cases ob <;> rfl
theorem yj (n:Nat) (s:Sl α) (h:n=aD.size α):GN n (some (b7 s))=some (rows s.l):=by
 subst h;cases s <;> simp[GN,b7,Sl.k,Sl.l,bC,rows]
theorem NG (n:Nat):jm m n (.v .aG)=some []:=rfl
theorem Oj (n:Nat):jm m n (.v .cK)=some []:=rfl
theorem Iz (g:Tb SV) (p:List Nat) (w:List (List V)) (mo:Bool) (y:Nat) (t n d:Nat) (l:List α) (x:α) (h:n=aD.size α):pq ⟨g,m,p,w,mo,y⟩ t n (.own d) (some (rows l)) (some (rows [x])) =
 (ig (.row l) x).bind λs=>if St.new ⟨g,cM d m,p,w,mo,y⟩ t then some (.own t,⟨g,aR (cM d m) t (b7 s),p,w,mo,y⟩)else none:=by
 subst h;have e:(rows l).length+(rows [x]).length=l.length+1:=by simp[eC]
 by_cases h:l.length+1<=2147483648
 .have h1:ig (.row l) x=some (.row (l++[x])):=if_pos h;have h2:pq ⟨g,m,p,w,mo,y⟩ t (aD.size α) (.own d) (some (rows l)) (some (rows [x]))=if St.new ⟨g,cM d m,p,w,mo,y⟩ t then some (.own t,⟨g,aR (cM d m) t (.sl .row (aD.size α) (rows l++rows [x])),p,w,mo,y⟩)else none:=if_pos ⟨by omega,rfl⟩
  rw[h1,h2];simp only[ζb,b7,Sl.k,Sl.l,rows,List.map_append,List.map_cons,List.map_nil]
 .have h1:ig (.row l) x=none:=if_neg h;have h2:pq ⟨g,m,p,w,mo,y⟩ t (aD.size α) (.own d) (some (rows l)) (some (rows [x]))=none:=if_neg (λq=>h (by omega))
  rw[h1,h2];rfl
theorem Kk (g:Tb SV) (p:List Nat) (w:List (List V)) (mo:Bool) (y:Nat) (t n:Nat) (x:α) (h:n=aD.size α):pq ⟨g,m,p,w,mo,y⟩ t n (.v .aG) (some []) (some (rows [x])) =
 if St.new ⟨g,m,p,w,mo,y⟩ t then some (.own t,⟨g,aR m t (b7 (.row [x])),p,w,mo,y⟩)else none:=by
 subst h;simp[pq,rows,z7,giveUp,b7,Sl.k,Sl.l];rfl
theorem I7 (g:Tb SV) (p:List Nat) (w:List (List V)) (mo:Bool) (y:Nat) (t n:Nat) (x:α) (h:n=aD.size α):pq ⟨g,m,p,w,mo,y⟩ t n (.v .cK) (some []) (some (rows [x])) =
 if St.new ⟨g,m,p,w,mo,y⟩ t then some (.own t,⟨g,aR m t (b7 (.row [x])),p,w,mo,y⟩)else none:=by
 subst h;simp[pq,rows,z7,giveUp,b7,Sl.k,Sl.l];rfl
end
theorem vi (g:Tb SV) (m:Tb aN) (p:List Nat) (w:List (List V)) (mo:Bool) (y d:Nat):St.new ⟨g,m,p,w,mo,y⟩ d=(!(p.contains d)&&(an m d).isNone && !(s6 d g) && !(qn d m)):=rfl
theorem pR (d:Nat):s6 d []=false:=rfl
theorem n9 (d n:Nat) (x:SV) (r:Tb SV):s6 d ((n,x)::r)=(SV.bX d x||s6 d r):=rfl
theorem pN (d:Nat):qn d []=false:=rfl
theorem om (d n:Nat) (x:aN) (r:Tb aN):qn d ((n,x)::r)=(aN.bX d x||qn d r):=rfl
theorem vf (d:Nat) (x:V):SV.bX d (.v x)=false:=rfl
theorem qF (d e:Nat):SV.bX d (.own e)=(e==d):=rfl
theorem qH (d e o:Nat):SV.bX d (.ptr e o)=(e==d):=rfl
theorem tg (d e i o:Nat):SV.bX d (.el e i o)=(e==d):=rfl
theorem th (d e:Nat):SV.bX d (.mp e)=(e==d):=rfl
theorem rq (d:Nat) (f:FuncId) (a b:List SV):SV.bX d (.clo f a b)=(SV.cw d a||SV.cw d b):=rfl
theorem qT (d:Nat) (l:List SV):SV.bX d (.tup l)=SV.cw d l:=rfl
theorem pX (d:Nat):SV.cw d []=false:=rfl
theorem nW (d:Nat) (x:SV) (r:List SV):SV.cw d (x::r)=(SV.bX d x||SV.cw d r):=rfl
theorem pQ (d:Nat) (cs:List SV):aN.bX d (.box cs)=SV.cw d cs:=rfl
theorem B4 (m:Tb aN) (n:Nat):bW m n []=some []:=by cases n <;> simp only[bW]
theorem Al (m:Tb aN) (n:Nat) (x:SV) (r:List SV):bW m n (x::r)=(shut m n x).bind λy=>(bW m n r).bind λs=>some (y::s):=by
 cases n <;> (simp only[bW];cases shut m _ x <;> (try rfl) <;> (cases bW m _ r <;> rfl))
theorem PL (m:Tb aN) (n:Nat) (x:V):shut m n (.v x)=some x:=by cases n <;> simp only[shut]
theorem KM (m:Tb aN) (n:Nat) (f:FuncId) (a b:List SV):shut m (n+1) (.clo f a b)=(bW m n a).bind λx=>(bW m n b).bind λy=>some (.clo f x y):=by
 simp only[shut];cases bW m n a <;> (try rfl) <;> (cases bW m n b <;> rfl)
theorem LL (m:Tb aN) (n:Nat) (l:List SV):shut m (n+1) (.tup l)=(bW m n l).bind λx=>some (.tup x):=by
 simp only[shut];cases bW m n l <;> rfl
theorem KP (m:Tb aN) (n:Nat) (l:List SV):shut m (n+1) (.agg l)=(bW m n l).bind λx=>some (.agg x):=by
 simp only[shut];cases bW m n l <;> rfl
theorem qR {α:Type} (n:Nat):cM n ([]:Tb α)=[]:=rfl
theorem pO {α:Type} (n k:Nat) (x:α) (r:Tb α):cM n ((k,x)::r)=if k=n then cM n r else(k,x)::cM n r:=rfl
theorem mapM_nil (f:List SV->List SV):mapM f []=[]:=rfl
end Go.VE
namespace Go.VE
variable [aY]
section
variable {N:Nat->FuncId} {m:Tb aN}
theorem O7:result []=.tup []:=rfl
theorem OH (x:V):result [x]=x:=rfl
theorem O6 (x y:V) (l:List V):result (x::y::l)=.tup (x::y::l):=rfl
theorem D2 (p:tI) (a:V):iF N m p [.v a]=(ak N p [a]).bind λx=>some (.v x):=Gl N m p _ [a] rfl
theorem tH (p:tI) (a b:V):iF N m p [.v a,.v b]=(ak N p [a,b]).bind λx=>some (.v x):=Gl N m p _ [a,b] rfl
theorem pn (l:List V):cZ (l.map .v)=some l:=by
 induction l with
 | nil=>rfl
 | cons a l ih=>simp only[List.map_cons,cZ,ih];rfl
theorem tV (n:Nat) (l:List V):bW m n (l.map .v)=some l:=by
 induction l with
 | nil=>exact B4 m n
 | cons a l ih=>rw[List.map_cons,Al,PL,ih];rfl
theorem Sl.M0 {α:Type} (l:List α):(Sl.row l).l=l:=rfl
theorem Cn (cs:List V):i_ cs [] []=some cs:=rfl
theorem A5 (cs:List V) (off size:Nat) (pl:List (Nat×Nat)) (v:V) (vs:List V):i_ cs ((off,size)::pl) (v::vs) =
 if v.cells.length=size/\off+v.cells.length<=cs.length then i_ (cs.take off++v.cells++cs.drop (off+v.cells.length)) pl vs else none:=by
 simp only[i_]
 by_cases h:v.cells.length=size <;> by_cases h2:off+v.cells.length<=cs.length
 .rw[if_neg (by simp[h];omega),if_pos ⟨h,h2⟩]
 .rw[if_pos (by simp[h];omega),if_neg (λq=>h2 q.2)]
 .rw[if_pos (by simp[h]),if_neg (λq=>h q.1)]
 .rw[if_pos (by simp[h]),if_neg (λq=>h q.1)]
theorem EZ (k:IntKind) (n:Int):V.cells (.int k n)=[.int k n]:=rfl
theorem BC (n:Bool):V.cells (.bool n)=[.bool n]:=rfl
theorem EJ (n:ByteArray):V.cells (.str n)=[.str n]:=rfl
theorem EI:V.cells .aG=[.aG]:=rfl
theorem lB (k:IntKind) (n:Int):V.one (.int k n)=true:=rfl
theorem ki (n:Bool):V.one (.bool n)=true:=rfl
theorem lC (n:ByteArray):V.one (.str n)=true:=rfl
end
end Go.VE
namespace Go.VE
variable [aY]
section
variable {S:Sys} {c:bH} {β γ δ:Type} {Q:Out×St->Option β} {L:Option β} {e:γ->Option β}
theorem JD {dr:Bool} {fr:List Nat} {d:Option Nat} {gd:Option (Nat×Bool)} {now:Bool} {k:K} {az:List Arg} {st:St} (h:wanted st.g gd=some true) :
 eu S c dr fr ⟨d,gd,now,k,az,[],[]⟩ st=eu S c dr fr ⟨d,none,now,k,az,[],[]⟩ st:=by
 unfold eu;rw[h];rfl
theorem zO (dr:Bool) (st:St):xX dr [] st=some st:=by cases dr <;> rfl
def mg (f:SV->Option V):List SV->Option (List V)
 | []=>some []
 | x::r=>(f x).bind λy=>(mg f r).bind λs=>some (y::s)
def gK (m:Tb aN):Nat->SV->Option V
 | 0,x=>match x with
  | .v y=>some y
  | .own d=>match an m d with
   | some (.sl k es xs)=>some (lT k es xs)
   | _=>none
  | .mp d=>match an m d with
   | some (.mp kvs)=>some (.fmap kvs)
   | _=>none
  | _=>none
 | n+1,x=>match x with
  | .v y=>some y
  | .own d=>match an m d with
   | some (.sl k es xs)=>some (lT k es xs)
   | _=>none
  | .ptr d o=>match an m d with
   | some (.box cs)=>match mg (gK m n) cs with
    | some xs=>if o<=xs.length then some (.fptr (xs.drop o))else none
    | none=>none
   | _=>none
  | .mp d=>match an m d with
   | some (.mp kvs)=>some (.fmap kvs)
   | _=>none
  | .clo f a b=>(mg (gK m n) a).bind λx=>(mg (gK m n) b).bind λy=>some (.clo f x y)
  | .tup l=>(mg (gK m n) l).bind λx=>some (.tup x)
  | .agg l=>(mg (gK m n) l).bind λx=>some (.agg x)
  | _=>none
theorem yM (m:Tb aN):∀(n:Nat),(∀x,shut m n x=gK m n x)/\∀l,bW m n l=mg (gK m n) l:=by
 have hl:∀n,(∀x,shut m n x=gK m n x)->∀l,bW m n l=mg (gK m n) l:=by
  intro n h l
  induction l with
  | nil=>exact B4 m n
  | cons a l ih=>rw[Al,h a,ih];rfl
 intro n
 induction n with
 | zero=>
  have h0:∀x,shut m 0 x=gK m 0 x:=by
   intro x;cases x <;> simp only[shut,gK] <;> rfl
  exact⟨h0,hl 0 h0⟩
 | succ n ih=>
  have h1:∀x,shut m (n+1) x=gK m (n+1) x:=by
   intro x
   cases x with
   | ptr d o=>simp only[shut,gK,ih.2];rfl
   | clo f a b=>rw[KM,ih.2,ih.2];rfl
   | tup l=>rw[LL,ih.2];rfl
   | agg l=>rw[KP,ih.2];rfl
   | _=>simp only[shut,gK] <;> rfl
  exact⟨h1,hl _ h1⟩
noncomputable def sn (S:Sys) (c:bH) (dr:Bool):List Nat->List RO->(St->Option β)->St->Option β
 | _,[],k,st=>k st
 | fr,o::r,k,st=>((xX dr o.pre st).bind (eu S c dr fr o.strip)).bind λst'=>sn S c dr (if dr then oM fr o.strip else fr) r k (nk o.dead st')
theorem BF (dr:Bool):∀(l:List RO) (fr:List Nat) (k:St->Option β) (st:St),sn S c dr fr l k st=(kW S c dr fr l st).bind k
 | [],_,_,_=>rfl
 | o::r,fr,k,st=>by
  simp only[sn,kW]
  cases (xX dr o.pre st).bind (eu S c dr fr o.strip)with
  | none=>rfl
  | some st'=>exact BF dr r _ k _
noncomputable def lQ (S:Sys) (c:bH):RC->(St->Option β)->(Nat->St->Option β)->(St->Option β)->St->Option β
 | .skip,n,_,_,st=>n st
 | .ops l,n,_,_,st=>sn S c false [] l n st
 | .nq l,n,_,_,st=>sn S c true [] l n st
 | .seq a b,n,x,r,st=>lQ S c a (λst=>lQ S c b n x r st) x r st
 | .cond y a b,n,x,r,st=>match oC S.N st.g y with
  | some (.v (.bool t))=>ay t (lQ S c a n x r st) (lQ S c b n x r st)
  | _=>none
 | .block id a,n,x,r,st=>lQ S c a n (λk st=>if k=id then n st else x k st) r st
 | .loop a,n,x,r,st=>(mc (bB S c a) st).bind λq=>match q with|(.norm,st)=>n st|(.exit k,st)=>x k st|(.ret,st)=>r st
 | .each g ps a b,n,x,r,st=>(bB S c (.each g ps a b) st).bind λq=>match q with|(.norm,st)=>n st|(.exit k,st)=>x k st|(.ret,st)=>r st
 | .exit k,_,x,_,st=>x k st
 | .ret,_,_,r,st=>r st
 | .gh g a,n,x,r,st=>(ghost g st).bind λst=>lQ S c a n x r st
 | .hg a g,n,x,r,st=>lQ S c a (λst=>(ghost g st).bind n) x r st
def BE (n:St->Option β) (x:Nat->St->Option β) (r:St->Option β):Out×St->Option β
 | (.norm,st)=>n st
 | (.exit k,st)=>x k st
 | (.ret,st)=>r st
theorem AL:∀(rc:RC) (n:St->Option β) (x:Nat->St->Option β) (r:St->Option β) (st:St),lQ S c rc n x r st=(bB S c rc st).bind (BE n x r):=by
 intro rc
 induction rc with
 | skip=>intros;rfl
 | ops l=>intro n x r st;simp only[lQ,bB,BF];cases kW S c false [] l st <;> rfl
 | nq l=>intro n x r st;simp only[lQ,bB,BF];cases kW S c true [] l st <;> rfl
 | seq a b iha ihb=>
  intro n x r st;simp only[lQ,bB,iha,ihb]
  cases h:bB S c a st with
  | none=>rfl
  | some q=>obtain⟨o,st'⟩:=q;cases o <;> rfl
 | cond y a b iha ihb=>
  intro n x r st;simp only[lQ,bB,iha,ihb]
  cases oC S.N st.g y with
  | none=>rfl
  | some v=>cases v with
   | v z=>cases z with
    | bool t=>cases t <;> rfl
    | _=>rfl
   | _=>rfl
 | block id a ih=>
  intro n x r st;simp only[lQ,bB,ih]
  cases h:bB S c a st with
  | none=>rfl
  | some q=>
   obtain⟨o,st'⟩:=q
   cases o with
   | exit k=>simp only[ζb,BE];split <;> rfl
   | _=>rfl
 | loop a ih=>
  intro n x r st;simp only[lQ,bB];rfl
 | each g ps a b iha ihb=>
  intro n x r st;simp only[lQ];rfl
 | exit k=>intros;rfl
 | ret=>intros;rfl
 | gh g a ih=>
  intro n x r st;simp only[lQ,bB,ih];cases ghost g st <;> rfl
 | hg a g ih=>
  intro n x r st;simp only[lQ,bB,ih]
  cases h:bB S c a st with
  | none=>rfl
  | some q=>
   obtain⟨o,st'⟩:=q
   cases o with
   | norm=>simp only[ζb,BE];cases ghost g st' <;> rfl
   | _=>rfl
section
variable (S c Q)
mutual
noncomputable def kK:List Fm->St->Option β
 | []=>λst=>Q (.norm,st)
 | .seq b::fs=>λst=>lQ S c b (kK fs) (kQ fs) (λst=>Q (.ret,st)) st
 | .blk _::fs=>kK fs
 | .gst g::fs=>λst=>(ghost g st).bind (kK fs)
noncomputable def kQ:List Fm->Nat->St->Option β
 | []=>λk st=>Q (.exit k,st)
 | .seq _::fs=>kQ fs
 | .blk id::fs=>λk st=>if k=id then kK fs st else kQ fs k st
 | .gst _::fs=>kQ fs
end
noncomputable def kG (rc:RC) (fs:List Fm) (st:St):Option β:=lQ S c rc (kK S c Q fs) (kQ S c Q fs) (λst=>Q (.ret,st)) st
end
section
variable {dr:Bool} {fr:List Nat} {d:Nat} {dst:Option Nat} {now:Bool} {az:List Arg} {st:St} {α:Type} [aD α]
theorem MR {p:tI} {svs:List SV} {m:Option δ} {v:δ->SV} (hs:bf S.N st.g az=some svs) (hi:isSlice p=false) (h:iF S.N st.m p svs=m.bind λx=>some (v x)) :
 eu S c dr fr ⟨dst,none,now,.p p,az,[],[]⟩ st=m.bind λx=>some (bY st dst (v x)):=by
 rw[M1 _ _ _ _ _ _ _ hi,hs];simp only[ζb,h];cases m <;> rfl
theorem wX {p:tI} {svs:List SV} {v:SV} (hs:bf S.N st.g az=some svs) (hi:isSlice p=false) (h:iF S.N st.m p svs=some v) :
 eu S c dr fr ⟨dst,none,now,.p p,az,[],[]⟩ st=some (bY st dst v):=by
 rw[M1 _ _ _ _ _ _ _ hi,hs];simp only[ζb,h]
theorem MQ {n:Nat} {s:Sl α} {k:IntKind} {i:Int} (hs:bf S.N st.g az=some [.v (aZ s),.v (.int k i)]) (hn:n=aD.size α) :
 eu S c dr fr ⟨dst,none,now,.p (.idxS n),az,[],[]⟩ st=(idx s i).bind λx=>some (bY st dst (.v (.fptr (cells x)))):=
 MR hs rfl (by rw[tH,BI s k i n hn];cases idx s i <;> rfl)
theorem Sa {n e:Nat} {s:Sl α} {k:IntKind} {i:Int} (hs:bf S.N st.g az=some [.own e,.v (.int k i)]) (ho:an st.m e=some (b7 s)) (hn:n=aD.size α) :
 eu S c dr fr ⟨dst,none,now,.p (.idxS n),az,[],[]⟩ st=(s.kZ i).bind λj=>some (bY st dst (.el e j 0)):=
 MR hs rfl (by rw[Oc,ho,Oo n e s i hn])
theorem Ni {s:Sl α} (hs:bf S.N st.g az=some [.v (aZ s)]):eu S c dr fr ⟨dst,none,now,.p .lenSl,az,[],[]⟩ st=some (bY st dst (.v (.int .i64 s.l.length))):=
 wX hs rfl (by rw[D2,vW];rfl)
theorem Qm {e:Nat} {s:Sl α} (hs:bf S.N st.g az=some [.own e]) (ho:an st.m e=some (b7 s)):eu S c dr fr ⟨dst,none,now,.p .lenSl,az,[],[]⟩ st=some (bY st dst (.v (.int .i64 s.l.length))):=
 wX hs rfl (by rw[LI,ho,NH])
theorem Oq {u:Option Nat} {s:Sl α} (hs:bf S.N st.g az=some [.v (aZ s),.v .aG]):eu S c dr fr ⟨dst,none,now,.p (.bin (some .slice) u .eql),az,[],[]⟩ st=s.isNil.bind λt=>some (bY st dst (.v (.bool t))):=
 MR hs rfl (by rw[tH,Mt];cases s.isNil <;> rfl)
theorem LY {s:ByteArray} {k:IntKind} {n:Int} (hs:bf S.N st.g az=some [.v (.str s),.v (.int k n)]):eu S c dr fr ⟨dst,none,now,.p .idxStr,az,[],[]⟩ st=(iU s n).bind λx=>some (bY st dst (.v (.int .u8 x))):=
 MR hs rfl (by rw[tH,JH];cases iU s n <;> rfl)
theorem PZ {n e i o:Nat} {a:Bool} {s:Sl α} {v:α->V} (hs:bf S.N st.g az=some [.el e i o]) (hd:(!dr||now||dF fr [.el e i o])=true) (ho:an st.m e=some (b7 s)) (hv:∀x:α,(cut (cells x) o n).bind (mk a)=some (v x)) :
 eu S c dr fr ⟨dst,none,now,.r (.load n a),az,[],[]⟩ st=(s.get i).bind λx=>some (bY st dst (.v (v x))):=by
 rw[vK,hs];simp only[ζb,hd,if_true,S0,ho,IE]
 cases s.get i with
 | none=>rfl
 | some x=>
  simp only[ζb];have:=hv x
  cases hc:cut (cells x) o n with
  | none=>rw[hc]at this;cases this
  | some r=>rw[hc]at this;simp only[ζb]at this ⊢;rw[this];rfl
theorem OK {n e i:Nat} {s:Sl α} {x:V} {a:α} (hs:bf S.N st.g az=some [.el e i 0,.v x]) (hd:(!dr||now)=true) (ho:an st.m e=some (b7 s)) (hx:x.cells=cells a) (hn:n=aD.size α) :
 eu S c dr fr ⟨dst,none,now,.l (.store n),az,[],[]⟩ st=(s.put i a).bind λs'=>some (bY { st with m:=aR st.m e (b7 s') } dst (.v .undef)):=by
 rw[s_,hs];simp only[ζb,hd,if_true,HL,ho];rw[HB st.g st.pin st.want st.more st.yid e i n x a hx hn s];cases s.put i a <;> rfl
theorem PD {n:Nat} {z:α} {zero:List V} {i:Int} (hs:bf S.N st.g az=some [.v (.int .i64 i),.v (.int .i64 i)]) (hz:zero=cells z) (hn:n=aD.size α) (hw:st.new d=true) :
 eu S c dr fr ⟨some d,none,now,.a (.makeSl n zero),az,[],[]⟩ st=(sr i z).bind λs=>some { st with g:=aR st.g d (.own d),m:=aR st.m d (b7 s) }:=by
 rw[yu,hs];simp only[ζb,hw,if_true];rw[Sk z i d n zero hz hn];cases sr i z <;> rfl
theorem Sf {n e u:Nat} {s:Sl α} {x:α} (hs:bf S.N st.g az=some [.own e,.own u]) (hd:(!dr||now)=true) (ho:an st.m e=some (b7 s)) (hu:an st.m u=some (b7 (.row [x]))) (hn:n=aD.size α) (hw:St.new { st with m:=cM e st.m } d=true) :
 eu S c dr fr ⟨some d,none,now,.l (.append n),az,[],[]⟩ st=(ig s x).bind λs'=>some { st with g:=aR st.g d (.own d),m:=aR (cM e st.m) d (b7 s') }:=by
 rw[s_,hs];simp only[ζb,hd,if_true,wQ,BH,ho,hu];rw[yj n s hn,yj n (.row [x]) hn];have:=Iz (m:=st.m) st.g st.pin st.want st.more st.yid d n e s.l x hn;simp only[Sl.M0];rw[show pq st d n (.own e) (some (rows s.l)) (some (rows [x]))=_ from this];have ha:ig (.row s.l) x=ig s x:=by cases s <;> rfl
 rw[ha]
 cases ig s x with
 | none=>rfl
 | some s'=>
  simp only[ζb];rw[if_pos hw];rfl
theorem PY {n u:Nat} {x:α} {v:V} (hv:v=.aG\/v=.cK) (hs:bf S.N st.g az=some [.v v,.own u]) (hd:(!dr||now)=true) (hu:an st.m u=some (b7 (.row [x]))) (hn:n=aD.size α) (hw:st.new d=true) :
 eu S c dr fr ⟨some d,none,now,.l (.append n),az,[],[]⟩ st=some { st with g:=aR st.g d (.own d),m:=aR st.m d (b7 (.row [x])) }:=by
 rw[s_,hs];simp only[ζb,hd,if_true,wQ,BH,hu];rw[yj n (.row [x]) hn];simp only[Sl.M0];rcases hv with rfl|rfl
 .rw[NG,show pq st d n (.v .aG) (some []) (some (rows [x]))=_ from Kk (m:=st.m) st.g st.pin st.want st.more st.yid d n x hn];rw[if_pos hw];rfl
 .rw[Oj,show pq st d n (.v .cK) (some []) (some (rows [x]))=_ from I7 (m:=st.m) st.g st.pin st.want st.more st.yid d n x hn];rw[if_pos hw];rfl
theorem Qe {f:FuncId} {svs args:List SV} {cs:List V} {m:Option δ} {E:δ->List V} (hc:kJ c f cs=m.bind λr=>some (E r)) (hk:S.E.keep f=false) (hs:bf S.N st.g az=some svs) (hf:ov svs=some (f,args))
 (hsh:mg (gK st.m 8) args=some cs) (hl:V.bU 8 cs=true) (ho:((!dr||now)||fm st.m fr args)=true) (hr:∀r,(V.lvl 8 (result (E r))&&((result (E r)).scalar||(cZ args).isSome))=true) :
 eu S c dr fr ⟨dst,none,now,.c,az,[],[]⟩ st=m.bind λr=>some (bY st dst (.v (result (E r)))):=by
 rw[Dm dr fr dst now az st svs f args hs hf,NL _ _ _ _ _ _ _ hk,(yM st.m 8).2,hsh];simp only[ζb,hl,ho,Bool.and_self,if_true,hc]
 cases m with
 | none=>rfl
 | some r=>
  simp only[ζb,Kj];rw[if_pos (hr r)];rfl
end
end
end Go.VE
namespace Go.VE
variable [aY]
section
variable {S:Sys} {c:bH} {β γ:Type} {Q:Out×St->Option β} {L:Option β} {e:γ->Option β}
theorem tn (rc:RC) (st:St):kG S c Q rc [] st=(bB S c rc st).bind Q:=by
 unfold kG;rw[AL]
 congr 1
 funext q;obtain⟨o,st⟩:=q
 cases o <;> rfl
theorem yx (rc:RC) (st:St):bB S c rc st=kG S c some rc [] st:=by
 rw[tn];cases bB S c rc st <;> rfl
def pz (rs:List RV):Out×St->Option (List V)
 | (.exit _,_)=>none
 | (_,st)=>(oA st rs).bind (mg (gK st.m 8))
theorem NV (rs:List RV):DW rs=pz rs:=by
 funext q;obtain⟨o,st⟩:=q
 cases o
 .simp only[DW,pz];congr 1;funext l;exact(yM st.m 8).2 l
 .rfl
 .simp only[DW,pz];congr 1;funext l;exact(yM st.m 8).2 l
theorem OT {S:Sys} {T:qv} {f:FuncId} {rf:RF} (hT:T f=some rf) (az:List V) (hn:az.length<=rf.na):kJ (cz S T) f az=kG S (cz S T) (pz rf.rs) rf.body [] (start (az.map .v) []):=by
 rw[K5 hT az hn,<-Ep,tn,NV]
end
end Go.VE
namespace Go.VE
variable [aY]
def lZ {α σ ε ρ:Type} (step:α->σ->Option (Fw σ ε ρ)):List α->σ->Option (Fw σ ε ρ)
 | [],s=>some (.n s)
 | x::xs,s=>(step x s).bind λw=>match w with
  | .n s'=>lZ step xs s'
  | .x e=>some (.x e)
  | .r b=>some (.r b)
def Fw.uu {ν ε ρ γ:Type} (fn:ν->γ) (fx:ε->γ) (fr:ρ->γ):Fw ν ε ρ->γ
 | .n a=>fn a
 | .x e=>fx e
 | .r b=>fr b
def Fw.tM {ν ε ρ:Type} (eν:ν->Tb aN) (eε:ε->Nat×Tb aN) (eρ:ρ->Tb aN):Fw ν ε ρ->Out×Tb aN
 | .n a=>(.norm,eν a)
 | .x e=>(.exit (eε e).1,(eε e).2)
 | .r b=>(.ret,eρ b)
def tM (q:Out×St):Option (Out×Tb aN):=some (q.1,q.2.m)
section
variable {S:Sys} {c:bH} {β γ:Type} {Q:Out×St->Option β} {L:Option β} {e:γ->Option β}
noncomputable def vB (S:Sys) (c:bH) (b:RC):Out×St->Option (Out×Tb aN)
 | (.norm,st)=>kG S c tM b [] st
 | _=>none
theorem HF (ps:List Nat) (a b:RC) (st:St) (x:List V) (m:Tb aN) (hx:x.length=ps.length) :
 gx ps (bB S c a) (bB S c b) st x m=kG S c (vB S c b) a [] ⟨uB st.g ps (x.map .v),m,st.pin++nK st.g,[],true,0⟩:=by
 unfold gx;rw[if_pos hx,tn]
 cases bB S c a ⟨uB st.g ps (x.map .v),m,st.pin++nK st.g,[],true,0⟩with
 | none=>rfl
 | some q=>
  obtain⟨o,st1⟩:=q
  cases o with
  | norm=>
   simp only[ζb,vB];rw[tn];cases bB S c b st1 <;> rfl
  | _=>rfl
end
end Go.VE
namespace Go.VE
variable [aY]
def Le {α:Type} (a b:Option α):Prop:=∀r,a=some r->b=some r
section
variable {α:Type}
theorem Le.refl (a:Option α):Le a a:=λ_ h=>h
theorem Le.of_eq {a b:Option α} (h:b=a):Le a b:=λ_ h2=>h.trans h2
theorem Le.trans {a b d:Option α} (h1:Le a b) (h2:Le b d):Le a d:=λr h=>h2 r (h1 r h)
theorem Le.none (b:Option α):Le (none:Option α) b:=λr h=>by cases h
theorem Le.bind {β:Type} {a b:Option α} {f g:α->Option β} (h:Le a b) (hf:∀x,Le (f x) (g x)):Le (a.bind f) (b.bind g):=λr hr=>by
 obtain⟨x,h1,h2⟩:=ζg.1 hr;rw[h x h1];exact hf x r h2
end
section
variable {S:Sys} {c:bH} {β γ δ:Type} {Q:Out×St->Option β} {L:Option β} {e:γ->Option β}
theorem Eo {dr:Bool} {fr:List Nat} {dst:Option Nat} {now:Bool} {az:List Arg} {st:St} {f:FuncId} {svs args:List SV} {cs:List V} {m:Option δ} {E:δ->List V} (hc:Le (m.bind λr=>some (E r)) (kJ c f cs)) (hk:S.E.keep f=false) (hs:bf S.N st.g az=some svs) (hf:ov svs=some (f,args))
 (hsh:mg (gK st.m 8) args=some cs) (hl:V.bU 8 cs=true) (ho:((!dr||now)||fm st.m fr args)=true) (hr:∀r,(V.lvl 8 (result (E r))&&((result (E r)).scalar||(cZ args).isSome))=true) :
 Le (m.bind λr=>some (bY st dst (.v (result (E r))))) (eu S c dr fr ⟨dst,none,now,.c,az,[],[]⟩ st):=by
 intro q hq;obtain⟨r,h1,h2⟩:=ζg.1 hq;have hc':kJ c f cs=(some r).bind λr=>some (E r):=hc _ (by rw[h1];rfl)
 rw[Qe (m:=some r) hc' hk hs hf hsh hl ho hr];exact h2
theorem K4 {σ ε ρ:Type} {f:St->Option (Out×St)} {step:σ->Option (Fw σ ε ρ)} {eσ:σ->St} {eε:ε->Nat×St} {eρ:ρ->St} (h:∀s,Le ((step s).bind λw=>some (Fw.out eσ eε eρ w)) (f (eσ s))) (s:σ) :
 Le ((aX step s).bind λw=>some (Fw.out (λe=>Empty.elim e) eε eρ w)) (mc f (eσ s)):=by
 have key:∀k s r,gW step k s=some r->gM f k (eσ s)=some (Fw.out (λe=>Empty.elim e) eε eρ r):=by
  intro k
  induction k with
  | zero=>intro s r h;simp[gW]at h
  | succ k ih=>
   intro s r hw;simp only[gW]at hw
   cases hs:step s with
   | none=>rw[hs]at hw;cases hw
   | some w=>
    rw[hs]at hw;have h2:=h s (Fw.out eσ eε eρ w) (by rw[hs];rfl)
    simp only[gM,h2]
    cases w with
    | n a=>exact ih a r hw
    | x e=>cases hw;rfl
    | r b=>cases hw;rfl
 intro r hr;obtain⟨w,h1,h2⟩:=ζg.1 hr;obtain⟨k,hk⟩:=lS.1 h1;cases h2;exact kM.2 ⟨k,key k s w hk⟩
theorem Sb {σ ε ρ:Type} {a:RC} {fs:List Fm} {step:σ->Option (Fw σ ε ρ)} {eσ:σ->St} {eε:ε->Nat×St} {eρ:ρ->St} {s:σ} {fx:ε->Option γ} {fr:ρ->Option γ}
 (hL:L=kG S c Q (.loop a) fs (eσ s)) (h:∀s,Le ((step s).bind λw=>some (Fw.out eσ eε eρ w)) (kG S c some a [] (eσ s)))
 (hx:∀x,Le ((fx x).bind e) (kQ S c Q fs (eε x).1 (eε x).2)) (hr:∀b,Le ((fr b).bind e) (Q (.ret,eρ b))):Le (((aX step s).bind (Fw.elim fx fr)).bind e) L:=by
 subst hL;have h1:kG S c Q (.loop a) fs (eσ s)=(mc (bB S c a) (eσ s)).bind (BE (kK S c Q fs) (kQ S c Q fs) (λst=>Q (.ret,st))):=by
  unfold kG;rw[AL];rfl
 rw[h1];have h2:=K4 (step:=step) (f:=bB S c a) (eσ:=eσ) (eε:=eε) (eρ:=eρ) (λs=>by rw[yx];exact h s) s
 cases hw:aX step s with
 | none=>exact Le.none _
 | some w=>
  have h3:=h2 _ (by rw[hw];rfl)
  rw[h3]
  cases w with
  | n a=>cases a
  | x a=>exact hx a
  | r a=>exact hr a
theorem Dz {α σ ε ρ:Type} {f:List V->Tb aN->Option (Out×Tb aN)} {step:α->σ->Option (Fw σ ε ρ)} {eI:α->List V} {eσ:σ->Tb aN} {eε:ε->Nat×Tb aN} {eρ:ρ->Tb aN}
 (h:∀x s,Le ((step x s).bind λw=>some (Fw.tM eσ eε eρ w)) (f (eI x) (eσ s))):∀(xs:List α) (s:σ),Le ((lZ step xs s).bind λw=>some (Fw.tM eσ eε eρ w)) (nr f (xs.map eI) (eσ s))
 | [],s=>λr hr=>hr
 | x::xs,s=>by
  simp only[List.map_cons,nr,lZ]
  cases hs:step x s with
  | none=>exact Le.none _
  | some w=>
   have h2:=h x s (Fw.tM eσ eε eρ w) (by rw[hs];rfl)
   rw[h2]
   cases w with
   | n s'=>simp only[ζb,Fw.tM];exact Dz h xs s'
   | x e=>exact Le.refl _
   | r b=>exact Le.refl _
theorem Si {α σ ε ρ:Type} {g:Arg} {ps:List Nat} {a b:RC} {fs:List Fm} {f:FuncId} {x y:List V} {items:List α} {eI:α->List V} {step:α->σ->Option (Fw σ ε ρ)} {eσ:σ->Tb aN} {eε:ε->Nat×Tb aN} {eρ:ρ->Tb aN} {gt:Tb SV} {s:σ}
 {fn:σ->Option γ} {fx:ε->Option γ} {fr:ρ->Option γ}
 (hL:L=kG S c Q (.each g ps a b) fs ⟨gt,eσ s,[],[],true,0⟩) (hg:oC S.N gt g=some (.v (.clo f x y))) (hi:S.items f x y=some (items.map eI)) (hl:∀x,(eI x).length=ps.length)
 (h:∀x s,Le ((step x s).bind λw=>some (Fw.tM eσ eε eρ w)) (kG S c (vB S c b) a [] ⟨uB gt ps ((eI x).map .v),eσ s,nK gt,[],true,0⟩))
 (hn:∀s,Le ((fn s).bind e) (kK S c Q fs ⟨gt,eσ s,[],[],true,0⟩))
 (hx:∀x,Le ((fx x).bind e) (kQ S c Q fs (eε x).1 ⟨gt,(eε x).2,[],[],true,0⟩)) (hr:∀b,Le ((fr b).bind e) (Q (.ret,⟨gt,eρ b,[],[],true,0⟩))) :
 Le (((lZ step items s).bind (Fw.uu fn fx fr)).bind e) L:=by
 subst hL;have h1:kG S c Q (.each g ps a b) fs ⟨gt,eσ s,[],[],true,0⟩=(bB S c (.each g ps a b) ⟨gt,eσ s,[],[],true,0⟩).bind (BE (kK S c Q fs) (kQ S c Q fs) (λst=>Q (.ret,st))):=by
  unfold kG;rw[AL]
 rw[h1];simp only[bB,hg,hi];have h2:=Dz (step:=step) (f:=gx ps (bB S c a) (bB S c b) ⟨gt,eσ s,[],[],true,0⟩) (eI:=eI) (eσ:=eσ) (eε:=eε) (eρ:=eρ) (λx s=>by rw[HF _ _ _ _ _ _ (hl x)];exact h x s) items s
 cases hw:lZ step items s with
 | none=>exact Le.none _
 | some w=>
  have h3:=h2 _ (by rw[hw];rfl)
  rw[h3]
  cases w with
  | n a=>exact hn a
  | x a=>exact hx a
  | r a=>exact hr a
end
end Go.VE
namespace Go.VE
variable [aY]
inductive Fo where
 | rc (c:RC)
 | ops (dr:Bool) (fr:List Nat) (l:List RO)
 | nx
 | ex (k:Nat)
 | rt
abbrev aP (g:Tb SV) (m:Tb aN):St:=⟨g,m,[],[],true,0⟩
section
variable (S:Sys) (c:bH) {β:Type} (Q:Out×St->Option β)
noncomputable def rn:Fo->List Fm->St->Option β
 | .rc a,fs,st=>kG S c Q a fs st
 | .ops dr fr l,fs,st=>sn S c dr fr l (kK S c Q fs) st
 | .nx,fs,st=>kK S c Q fs st
 | .ex k,fs,st=>kQ S c Q fs k st
 | .rt,_,st=>Q (.ret,st)
noncomputable def wm:Fo->List Fm->St->Option (Fo×List Fm×St)
 | .rc .skip,fs,st=>some (.nx,fs,st)
 | .rc (.ops l),fs,st=>some (.ops false [] l,fs,st)
 | .rc (.nq l),fs,st=>some (.ops true [] l,fs,st)
 | .rc (.seq a b),fs,st=>some (.rc a,.seq b::fs,st)
 | .rc (.cond y a b),fs,st=>match oC S.N st.g y with
  | some (.v (.bool true))=>some (.rc a,fs,st)
  | some (.v (.bool false))=>some (.rc b,fs,st)
  | _=>none
 | .rc (.block id a),fs,st=>some (.rc a,.blk id::fs,st)
 | .rc (.exit k),fs,st=>some (.ex k,fs,st)
 | .rc .ret,fs,st=>some (.rt,fs,st)
 | .rc (.gh g a),fs,st=>match ghost g st with
  | some st'=>some (.rc a,fs,st')
  | none=>none
 | .rc (.hg a g),fs,st=>some (.rc a,.gst g::fs,st)
 | .rc (.loop _),_,_=>none
 | .rc (.each ..),_,_=>none
 | .ops _ _ [],fs,st=>some (.nx,fs,st)
 | .ops dr fr (⟨d,gd,now,k,az,dd,[]⟩::r),fs,st=>match eu S c dr fr ⟨d,gd,now,k,az,[],[]⟩ st with
  | some st'=>some (.ops dr (if dr then oM fr ⟨d,gd,now,k,az,[],[]⟩else fr) r,fs,nk dd st')
  | none=>none
 | .ops dr fr (⟨d,gd,now,k,az,dd,x::xs⟩::r),fs,st=>if dr && !(xI x&&xs.all xI)then none else match ghost x st with
  | some st'=>some (.ops dr fr (⟨d,gd,now,k,az,dd,xs⟩::r),fs,st')
  | none=>none
 | .nx,.seq b::fs,st=>some (.rc b,fs,st)
 | .nx,.blk _::fs,st=>some (.nx,fs,st)
 | .nx,.gst g::fs,st=>match ghost g st with
  | some st'=>some (.nx,fs,st')
  | none=>none
 | .nx,[],_=>none
 | .ex k,.seq _::fs,st=>some (.ex k,fs,st)
 | .ex k,.blk id::fs,st=>some (if k=id then .nx else .ex k,fs,st)
 | .ex k,.gst _::fs,st=>some (.ex k,fs,st)
 | .ex _,[],_=>none
 | .rt,_,_=>none
noncomputable def fU:Nat->Fo->List Fm->St->Option (Fo×List Fm×St)
 | 0,fo,fs,st=>some (fo,fs,st)
 | n+1,fo,fs,st=>match wm S c fo fs st with
  | some (fo',fs',st')=>fU n fo' fs' st'
  | none=>none
end
section
variable {S:Sys} {c:bH} {β γ δ:Type} {Q:Out×St->Option β} {e:γ->Option β}
theorem K3 {fo fo':Fo} {fs fs':List Fm} {st st':St} (h:wm S c fo fs st=some (fo',fs',st')):rn S c Q fo fs st=rn S c Q fo' fs' st':=by
 cases fo with
 | rc a=>
  cases a with
  | cond y a b=>
   simp only[wm]at h;split at h
   .rename_i hs;cases h;simp only[rn,kG,lQ,hs,ay,if_true]
   .rename_i hs;cases h;simp only[rn,kG,lQ,hs,ay];rfl
   .cases h
  | gh g a=>
   simp only[wm]at h;split at h
   .rename_i hs;cases h;simp only[rn,kG,lQ,hs,ζb]
   .cases h
  | loop a=>cases h
  | each g ps a b=>cases h
  | seq a b=>cases h;simp only[rn,kG,lQ,kK,kQ]
  | block id a=>cases h;simp only[rn,kG,lQ,kK,kQ]
  | hg a g=>cases h;simp only[rn,kG,lQ,kK,kQ]
  | _=>cases h;simp only[rn,kG,lQ]
 | ops dr fr l=>
  cases l with
  | nil=>cases h;simp only[rn,sn]
  | cons o r=>
   obtain⟨d,gd,now,k,az,dd,pre⟩:=o
   cases pre with
   | nil=>
    simp only[wm]at h;split at h
    .rename_i hs;cases h;simp only[rn,sn,zO,RO.strip,ζb,hs]
    .cases h
   | cons x xs=>
    simp only[wm]at h;split at h
    .cases h
    rename_i hd;split at h
    .rename_i hs;cases h
     cases dr with
     | true=>
      simp only[Bool.true_and,Bool.not_eq_true',Bool.not_eq_false,ζh]at hd;simp only[rn,sn,RO.strip,xX,kB,if_true,List.all_cons,hd.1,hd.2,Bool.and_self,hs,ζb]
     | false=>simp only[rn,sn,RO.strip,xX,kB,Bool.false_eq_true,if_false,hs,ζb]
    .cases h
 | nx=>
  cases fs with
  | nil=>cases h
  | cons f fs=>
   cases f with
   | seq b=>cases h;simp only[rn,kG,kK]
   | blk id=>cases h;simp only[rn,kK]
   | gst g=>
    simp only[wm]at h;split at h
    .rename_i hs;cases h;simp only[rn,kK,hs,ζb]
    .cases h
 | ex k=>
  cases fs with
  | nil=>cases h
  | cons f fs=>
   cases f with
   | seq b=>cases h;simp only[rn,kQ]
   | blk id=>
    cases h;simp only[rn,kQ]
    by_cases hk:k=id
    .simp only[if_pos hk,rn]
    .simp only[if_neg hk,rn]
   | gst g=>cases h;simp only[rn,kQ]
 | rt=>cases h
theorem mK:∀{n:Nat} {fo fo':Fo} {fs fs':List Fm} {st st':St},fU S c n fo fs st=some (fo',fs',st')->rn S c Q fo fs st=rn S c Q fo' fs' st'
 | 0,fo,fo',fs,fs',st,st',h=>by cases h;rfl
 | n+1,fo,fo',fs,fs',st,st',h=>by
  simp only[fU]at h;split at h
  .rename_i a b d hs;rw[K3 hs];exact mK h
  .cases h
theorem BW {n:Nat} {fo fo':Fo} {fs fs':List Fm} {st st':St} {m:Option β} (h:fU S c n fo fs st=some (fo',fs',st')) (h2:Le m (rn S c Q fo' fs' st')):Le m (rn S c Q fo fs st):=by
 rw[mK h];exact h2
theorem UI {n:Nat} {fo fo':Fo} {fs fs':List Fm} {st st':St} {r:γ} (h:fU S c n fo fs st=some (fo',fs',st')) (h2:rn S c Q fo' fs' st'=e r):Le ((some r).bind e) (rn S c Q fo fs st):=by
 rw[mK h];exact Le.of_eq h2
theorem Nc {m:Option δ} {f:δ->Option γ} {L:Option β} (k:δ->Option β) (h2:Le (m.bind k) L) (h1:∀r,Le ((f r).bind e) (k r)):Le ((m.bind f).bind e) L:=by
 intro r hr
 cases m with
 | none=>cases hr
 | some x=>exact h2 r (h1 x r hr)
theorem Uy {n:Nat} {fo:Fo} {fs fs':List Fm} {st0:St} {dr:Bool} {q l:List RO} {fr:List Nat} {st:St} {d:Option Nat} {gd:Option (Nat×Bool)} {now:Bool} {k:K} {az:List Arg} {dd:List Nat} {m:Option δ} {g:δ->St} {f:δ->Option γ}
 (hL:fU S c n fo fs st0=some (.ops dr fr q,fs',st)) (hq:q=⟨d,gd,now,k,az,dd,[]⟩::l) (hg:wanted st.g gd=some true)
 (hs:Le (m.bind λx=>some (g x)) (eu S c dr fr ⟨d,none,now,k,az,[],[]⟩ st))
 (h:∀x,m=some x->Le ((f x).bind e) (rn S c Q (.ops dr (if dr then oM fr ⟨d,gd,now,k,az,[],[]⟩else fr) l) fs' (nk dd (g x)))):Le ((m.bind f).bind e) (rn S c Q fo fs st0):=by
 rw[mK hL];subst hq;simp only[rn,sn,RO.strip,zO,ζb];rw[JD hg]
 cases m with
 | none=>exact Le.none _
 | some x=>rw[hs (g x) rfl];exact h x rfl
theorem MM {n:Nat} {fo:Fo} {fs fs':List Fm} {st0:St} {dr:Bool} {q l:List RO} {fr:List Nat} {st st':St} {d:Option Nat} {gd:Option (Nat×Bool)} {now:Bool} {k:K} {az:List Arg} {dd:List Nat} {m:Option β}
 (hL:fU S c n fo fs st0=some (.ops dr fr q,fs',st)) (hq:q=⟨d,gd,now,k,az,dd,[]⟩::l) (hg:wanted st.g gd=some true)
 (hs:eu S c dr fr ⟨d,none,now,k,az,[],[]⟩ st=some st')
 (h:Le m (rn S c Q (.ops dr (if dr then oM fr ⟨d,gd,now,k,az,[],[]⟩else fr) l) fs' (nk dd st'))):Le m (rn S c Q fo fs st0):=by
 rw[mK hL];subst hq;simp only[rn,sn,RO.strip,zO,ζb];rw[JD hg,hs];exact h
theorem I_ {n:Nat} {fo:Fo} {fs0:List Fm} {st:St} {σ ε ρ:Type} {a:RC} {fs:List Fm} {step:σ->Option (Fw σ ε ρ)} {eσ:σ->St} {eε:ε->Nat×St} {eρ:ρ->St} {s:σ} {fx:ε->Option γ} {fr:ρ->Option γ}
 (hL:fU S c n fo fs0 st=some (.rc (.loop a),fs,eσ s)) (h:∀s,Le ((step s).bind λw=>some (Fw.out eσ eε eρ w)) (rn S c some (.rc a) [] (eσ s)))
 (hx:∀x,Le ((fx x).bind e) (rn S c Q (.ex (eε x).1) fs (eε x).2)) (hr:∀b,Le ((fr b).bind e) (Q (.ret,eρ b))):Le (((aX step s).bind (Fw.elim fx fr)).bind e) (rn S c Q fo fs0 st):=by
 rw[mK hL];exact Sb (L:=rn S c Q (.rc (.loop a)) fs (eσ s)) rfl h hx hr
theorem RA {n:Nat} {fo:Fo} {fs0:List Fm} {st:St} {α σ ε ρ:Type} {g:Arg} {ps:List Nat} {a b:RC} {fs:List Fm} {f:FuncId} {x y:List V} {items:List α} {eI:α->List V} {step:α->σ->Option (Fw σ ε ρ)} {eσ:σ->Tb aN} {eε:ε->Nat×Tb aN} {eρ:ρ->Tb aN} {gt:Tb SV} {s:σ}
 {fn:σ->Option γ} {fx:ε->Option γ} {fr:ρ->Option γ}
 (hL:fU S c n fo fs0 st=some (.rc (.each g ps a b),fs,aP gt (eσ s))) (hg:oC S.N gt g=some (.v (.clo f x y))) (hi:S.items f x y=some (items.map eI)) (hl:∀x,(eI x).length=ps.length)
 (h:∀x s,Le ((step x s).bind λw=>some (Fw.tM eσ eε eρ w)) (rn S c (vB S c b) (.rc a) [] ⟨uB gt ps ((eI x).map .v),eσ s,nK gt,[],true,0⟩))
 (hn:∀s,Le ((fn s).bind e) (rn S c Q .nx fs (aP gt (eσ s))))
 (hx:∀x,Le ((fx x).bind e) (rn S c Q (.ex (eε x).1) fs (aP gt (eε x).2))) (hr:∀b,Le ((fr b).bind e) (Q (.ret,aP gt (eρ b)))) :
 Le (((lZ step items s).bind (Fw.uu fn fx fr)).bind e) (rn S c Q fo fs0 st):=by
 rw[mK hL];exact Si (L:=rn S c Q (.rc (.each g ps a b)) fs (aP gt (eσ s))) rfl hg hi hl h hn hx hr
theorem PI {b:RC} {st st':St} {m:Option (Out×Tb aN)} {fs:List Fm} {n:Nat} {fo:Fo} (h:fU S c n fo fs st=some (.nx,[],st')) (h2:Le m (rn S c tM (.rc b) [] st')):Le m (rn S c (vB S c b) fo fs st):=by
 rw[mK h];exact h2
theorem R_ {α:Type} {n:Nat} {fo fo':Fo} {fs fs':List Fm} {st:St} {A:Option α->St} {o:Option α} {f:α->Option γ} (h:fU S c n fo fs st=some (fo',fs',A o))
 (h2:∀x,o=some x->Le ((f x).bind e) (rn S c Q fo' fs' (A (some x)))):Le ((o.bind f).bind e) (rn S c Q fo fs st):=by
 rw[mK h]
 cases o with
 | none=>exact Le.none _
 | some x=>exact h2 x rfl
theorem Ut {T:qv} {f:FuncId} {rf:RF} {az:List V} {m:Option (List V)} (hT:T f=some rf) (hn:az.length<=rf.na) (h:Le m (rn S (cz S T) (pz rf.rs) (.rc rf.body) [] (start (az.map .v) []))):Le m (kJ (cz S T) f az):=by
 rw[OT hT az hn];exact h
end
section
variable {α:Type} [aD α]
abbrev cv (x:α):SV:=.v (enc x)
abbrev cp (x:α):SV:=.v (.fptr (cells x))
abbrev bx (x:α):aN:=.box ((cells x).map .v)
end
end Go.VE
namespace Go.VE
variable [aY]
structure ji (S:Sys) (c:bH) {α δ:Type} (fn:FuncId) (A:α->List V) (E:δ->List V) (p:α->Option δ) (sc:Bool):Prop where
 k:S.E.keep fn=false
 h:∀z,Le ((p z).bind λr=>some (E r)) (kJ c fn (A z))
 l:∀z,V.bU 8 (A z)=true
 r:∀r,V.lvl 8 (result (E r))=true
 s:sc=true->∀r,(result (E r)).scalar=true
section
variable {S:Sys} {c:bH} {β γ δ α:Type} {Q:Out×St->Option β} {e:γ->Option β} {fo:Fo} {fs:List Fm} {st0:St} {l:List RO} {d:Option Nat} {gd:Option (Nat×Bool)} {now:Bool} {az:List Arg} {dd:List Nat}
noncomputable abbrev qB (S:Sys) (c:bH) (Q:Out×St->Option β) (dr:Bool) (fr:List Nat) (d:Option Nat) (k:K) (l:List RO) (fs:List Fm) (dd:List Nat) (st:St):Option β:=
 rn S c Q (.ops dr (if dr then(match k with|.p _|.r _=>fr|_=>match d with|some d=>d::fr|none=>fr)else fr) l) fs (nk dd st)
theorem C1 (fr:List Nat) (k:K):oM fr ⟨d,gd,now,k,az,[],[]⟩=(match k with|.p _|.r _=>fr|_=>match d with|some d=>d::fr|none=>fr):=by
 cases k <;> cases d <;> rfl
theorem BO {n:Nat} {dr:Bool} {fr:List Nat} {q:List RO} {fs':List Fm} {st:St} {k:K} {m:Option δ} {g:δ->St} {f:δ->Option γ}
 (hL:fU S c n fo fs st0=some (.ops dr fr q,fs',st)) (hq:q=⟨d,gd,now,k,az,dd,[]⟩::l) (hg:wanted st.g gd=some true)
 (hs:Le (m.bind λx=>some (g x)) (eu S c dr fr ⟨d,none,now,k,az,[],[]⟩ st))
 (h:∀x,m=some x->Le ((f x).bind e) (qB S c Q dr fr d k l fs' dd (g x))):Le ((m.bind f).bind e) (rn S c Q fo fs st0):=
 Uy hL hq hg hs (λx hx=>by rw[C1];exact h x hx)
theorem oZ {n:Nat} {dr:Bool} {fr:List Nat} {q:List RO} {fs':List Fm} {st st':St} {k:K} {m:Option β}
 (hL:fU S c n fo fs st0=some (.ops dr fr q,fs',st)) (hq:q=⟨d,gd,now,k,az,dd,[]⟩::l) (hg:wanted st.g gd=some true)
 (hs:eu S c dr fr ⟨d,none,now,k,az,[],[]⟩ st=some st') (h:Le m (qB S c Q dr fr d k l fs' dd st')):Le m (rn S c Q fo fs st0):=
 MM hL hq hg hs (by rw[C1];exact h)
section
variable [aD α]
theorem KN (n:Nat) (dr:Bool) (fr:List Nat) (q:List RO) (fs':List Fm) (st:St) (k:IntKind) {sz:Nat} {s:Sl α} {i:Int} {f:α->Option γ} (hq:q=⟨d,gd,now,.p (.idxS sz),az,dd,[]⟩::l)
 (hL:(fU S c n fo fs st0,wanted st.g gd,bf S.N st.g az,sz)=(some (.ops dr fr q,fs',st),some true,some [.v (aZ s),.v (.int k i)],aD.size α))
 (h:∀x,idx s i=some x->Le ((f x).bind e) (qB S c Q dr fr d (.p (.idxS sz)) l fs' dd (bY st d (cp x)))):Le (((idx s i).bind f).bind e) (rn S c Q fo fs st0):=by
 simp only[ζc]at hL;exact BO hL.1 hq hL.2.1 (Le.of_eq (MQ hL.2.2.1 hL.2.2.2)) h
theorem Rn (n:Nat) (dr:Bool) (fr:List Nat) (q:List RO) (fs':List Fm) (st:St) (s:Sl α) {m:Option β} (hq:q=⟨d,gd,now,.p .lenSl,az,dd,[]⟩::l)
 (hL:(fU S c n fo fs st0,wanted st.g gd,bf S.N st.g az)=(some (.ops dr fr q,fs',st),some true,some [.v (aZ s)]))
 (h:Le m (qB S c Q dr fr d (.p .lenSl) l fs' dd (bY st d (.v (.int .i64 s.l.length))))):Le m (rn S c Q fo fs st0):=by
 simp only[ζc]at hL;exact oZ hL.1 hq hL.2.1 (Ni hL.2.2) h
end
section
variable {q:List RO} {fs':List Fm}
end
theorem EP (m:Tb aN) (n:Nat) (l:List V):mg (gK m n) (l.map .v)=some l:=by rw[<-(yM m n).2,tV]
variable {A:α->List V} {E:δ->List V} {p:α->Option δ} {fn:FuncId} {sc:Bool}
end
end Go.VE
namespace Go.VE
variable [aY]
abbrev iv (n:Int):SV:=.v (.int .i64 n)
abbrev bv (b:Bool):SV:=.v (.bool b)
abbrev len {α:Type} (s:Sl α):Int:=((List.length (Sl.l s):Nat):Int)
abbrev o1 (d:Nat) (a:Arg) (dd:List Nat):RO:=⟨some d,none,false,.p .id,[a],dd,[]⟩
abbrev o2 (d:Nat) (k:K) (az:List Arg) (dd:List Nat):RO:=⟨some d,none,false,k,az,dd,[]⟩
abbrev o3 (d s:Nat) (b:Bool) (k:K) (az:List Arg) (dd:List Nat):RO:=⟨some d,some (s,b),false,k,az,dd,[]⟩
def Gs (a b:af):Bool:=[a.proc,a.index]==[b.proc,b.index]
mutual
theorem xu:∀{n:Nat} {x:V},V.lvl n x=true->V.lvl (n+1) x=true
 | 0,.fsl ..,h=>by simp[V.lvl]at h
 | 0,.fptr ..,h=>by simp[V.lvl]at h
 | 0,.fmap ..,h=>by simp[V.lvl]at h
 | 0,.agg ..,h=>by simp[V.lvl]at h
 | 0,.tup ..,h=>by simp[V.lvl]at h
 | 0,.clo ..,h=>by simp[V.lvl]at h
 | n+1,.fsl es xs,h=>by simp only[V.lvl]at h ⊢;exact Ac h
 | n+1,.fptr cs,h=>by simp only[V.lvl]at h ⊢;exact pH h
 | n+1,.fmap kvs,h=>by simp only[V.lvl]at h ⊢;exact Bz h
 | n+1,.agg cs,h=>by simp only[V.lvl]at h ⊢;exact pH h
 | n+1,.tup cs,h=>by simp only[V.lvl]at h ⊢;exact pH h
 | n+1,.clo f a b,h=>by simp only[V.lvl,ζh]at h ⊢;exact⟨pH h.1,pH h.2⟩
 | 0,.bool _,_|0,.int ..,_|0,.str _,_|0,.fE,_|0,.en,_|0,.pJ,_|0,.cK,_|0,.aG,_|0,.hsl ..,_|0,.hptr ..,_|0,.yld _,_|0,.hmap _,_=>rfl
 | _+1,.bool _,_|_+1,.int ..,_|_+1,.str _,_|_+1,.fE,_|_+1,.en,_|_+1,.pJ,_|_+1,.cK,_|_+1,.aG,_|_+1,.hsl ..,_|_+1,.hptr ..,_|_+1,.yld _,_|_+1,.hmap _,_=>rfl
theorem pH:∀{n:Nat} {x:List V},V.bU n x=true->V.bU (n+1) x=true
 | n,[],_=>gQ _
 | n,a::l,h=>by rw[fB,ζh]at h ⊢;exact⟨xu h.1,pH h.2⟩
theorem Ac:∀{n:Nat} {x:List (List V)},V.k_ n x=true->V.k_ (n+1) x=true
 | n,[],_=>by simp only[V.k_]
 | n,a::l,h=>by simp only[V.k_,ζh]at h ⊢;exact⟨pH h.1,Ac h.2⟩
theorem Bz:∀{n:Nat} {x:List (V×V)},V.mY n x=true->V.mY (n+1) x=true
 | n,[],_=>by simp only[V.mY]
 | n,(k,v)::l,h=>by simp only[V.mY,ζh]at h ⊢;exact⟨⟨xu h.1.1,xu h.1.2⟩,Bz h.2⟩
end
section
variable {α:Type} [aD α]
theorem nG (h:aD.agg α=false) (a:α):cells a=[enc a]:=by
 have hl:(cells a).length=1:=by rw[show (cells a).length=_ from aD.len a,aD.plain h]
 unfold enc;rw[if_neg (by simp[h])]
 match hc:cells a,hl with
 | [x],_=>rfl
theorem rz (h:aD.agg α=true) (a:α):enc a=.agg (cells a):=by unfold enc;rw[if_pos h]
theorem Gt {n:Nat} [Lv n α] (a:α):V.lvl (n+1) (enc a)=true:=by
 have h:=Lv.lv (n:=n) a
 cases ha:aD.agg α with
 | true=>rw[rz ha];exact h
 | false=>
  rw[nG ha,fB,ζh]at h;exact xu h.1
theorem PC {n:Nat} [Lv n α] (a:α):V.lvl (n+1) (.fptr (cells a))=true:=Lv.lv a
theorem gP (a:α):V.good (enc a)=true:=by
 have h:V.bD (cells a)=true:=aD.good a
 cases ha:aD.agg α with
 | true=>rw[rz ha];exact h
 | false=>
  rw[nG ha]at h;simp only[V.bD,Bool.and_true]at h;exact h
theorem jZ (s:Sl α):V.one (enc s)=true:=Ci s
theorem lX {n:Nat} [Lv n α] (s:Sl α):V.lvl (n+1) (enc s)=true:=Cc s
theorem Lt (s:α) (h:aD.agg α=false):V.one (enc s)=true:=by
 have:=aD.one s;rw[show aD.cells s=cells s from rfl,nG h]at this;simpa using this
end
instance {α:Type} [aD α]:aD (Option α) where
 cells o:=[match o with|none=>.fE|some x=>.fptr (cells x)]
 agg:=false
 size:=1
 len _:=rfl
 good o:=by
  cases o with
  | none=>rfl
  | some x=>simp only[V.bD,V.good,Bool.and_true];exact aD.good x
 one o:=by cases o <;> rfl
 plain _:=rfl
instance {n:Nat} {α:Type} [aD α] [Lv n α]:Lv (n+1) (Option α):=⟨λo=>by
 cases o with
 | none=>rfl
 | some x=>
  show V.bU (n+1) [.fptr (cells x)]=true;rw[fB,gQ,Bool.and_true];exact Lv.lv x⟩
structure U8 where
 v:Int
 deriving Inhabited,DecidableEq
instance:aD U8 where
 cells n:=[.int .u8 n.v]
 agg:=false
 size:=1
 len _:=rfl
 good _:=rfl
 one _:=rfl
 plain _:=rfl
instance {n:Nat}:Lv n U8:=⟨λ_=>by cases n <;> rfl⟩
structure TY where
 v:Int
 deriving Inhabited,DecidableEq
instance:aD TY where
 cells n:=[.int .u64 n.v]
 agg:=false
 size:=1
 len _:=rfl
 good _:=rfl
 one _:=rfl
 plain _:=rfl
instance {n:Nat}:Lv n TY:=⟨λ_=>by cases n <;> rfl⟩
structure To where
 v:Int
 deriving Inhabited,DecidableEq
instance:aD To where
 cells n:=[.int .u32 n.v]
 agg:=false
 size:=1
 len _:=rfl
 good _:=rfl
 one _:=rfl
 plain _:=rfl
instance {n:Nat}:Lv n To:=⟨λ_=>by cases n <;> rfl⟩
structure Ty where
 v:Int
 deriving Inhabited,DecidableEq
instance:aD Ty where
 cells n:=[.int .i32 n.v]
 agg:=false
 size:=1
 len _:=rfl
 good _:=rfl
 one _:=rfl
 plain _:=rfl
instance {n:Nat}:Lv n Ty:=⟨λ_=>by cases n <;> rfl⟩
structure ql (S:Sys) (c:bH) {α δ:Type} (g:FuncId) (w e:List V) (A:α->List V) (R:δ->List V) (p:α->Option δ) (b:Bool):Prop where
 f:ji S c g (λz=>w++A z++e) R p b
 d:V.bU 7 e=true
 dw:V.bU 7 w=true
section
variable {S:Sys} {c:bH} {β γ δ α:Type} {Q:Out×St->Option β} {e:γ->Option β} {fo:Fo} {fs:List Fm} {st0:St} {l:List RO} {d:Option Nat} {gd:Option (Nat×Bool)} {now:Bool} {az:List Arg} {dd:List Nat}
theorem jd {α:Type} [aD α] (a:α):V.cells (enc a)=cells a:=by
 cases ha:aD.agg α with
 | true=>rw[rz ha];rfl
 | false=>
  have h1:V.one (enc a)=true:=Lt a ha;rw[nG ha];cases h:enc a <;> first|rfl|(rw[h]at h1;cases h1)
theorem od {α:Type} [aD α] (a:α):(cells a).all V.one=true:=aD.one a
theorem dN {α:Type} [aD α] (a:α):(cells a).length=aD.size α:=aD.len a
theorem Ast [aD α] (n:Nat) (dr:Bool) (fr:List Nat) (q:List RO) (fs':List Fm) (st:St) (u o:Nat) (x:α) (cs cs':List SV) {sz:Nat} {m:Option β} (hq:q=⟨d,gd,now,.l (.store sz),az,dd,[]⟩::l)
 (hL:(fU S c n fo fs st0,wanted st.g gd,bf S.N st.g az,an st.m u,(!dr||now),sz,Nat.ble (o+sz) cs.length,cs.take o++(cells x).map .v++cs.drop (o+sz))=(some (.ops dr fr q,fs',st),some true,some [.ptr u o,cv x],some (.box cs),true,aD.size α,true,cs'))
 (h:Le m (qB S c Q dr fr d (.l (.store sz)) l fs' dd (bY { st with m:=aR st.m u (.box cs') } d (.v .undef)))):Le m (rn S c Q fo fs st0):=by
 simp only[ζc]at hL;obtain⟨h1,h2,h3,h4,h5,h6,h7,h8⟩:=hL;refine oZ h1 hq h2 ?_ h;rw[s_,h3];subst h6;have h9:=Nat.le_of_ble_eq_true h7;simp only[ζb,h5,if_true,mz,h4,putCells,jd,dN,od,h9,and_self,h8,Option.map_some]
theorem wS {α:Type} [aD α]:∀(xs:List α) (pre:List (List V)) (suf:List (List V)),suf.length=xs.length->fD (aD.size α) (pre++suf) ((List.range' pre.length xs.length).zip (xs.map enc))=some (pre++rows xs)
 | [],pre,suf,h=>by
  have:suf=[]:=List.eq_nil_of_length_eq_zero h;subst this;rfl
 | x::xs,pre,s::suf,h=>by
  simp only[List.length_cons,List.range'_succ,List.map_cons,List.zip_cons_cons,fD,jd,dN,od];rw[if_pos ⟨trivial,by simp,trivial⟩]
  have:=wS xs (pre++[cells x]) suf (by simpa using h)
  simp only[ζi,List.length_cons,List.length_nil,Nat.zero_add]at this;have e:(pre++s::suf).set pre.length (cells x)=pre++[cells x]++suf:=by simp
  rw[e,this];simp[rows]
theorem UZ [aD α] (n:Nat) (dr:Bool) (fr:List Nat) (q:List RO) (fs':List Fm) (st:St) (xs:List α) {u sz ln:Nat} {zero:List V} {ix:List Nat} {m:Option β} (hq:q=⟨some u,gd,now,.a (.buildSl sz ln zero ix),az,dd,[]⟩::l)
 (h4:st.new u=true) (hL:(fU S c n fo fs st0,wanted st.g gd,bf S.N st.g az,sz,ln,ix)=(some (.ops dr fr q,fs',st),some true,some ((xs.map enc).map .v),aD.size α,xs.length,List.range' 0 xs.length))
 (h:Le m (qB S c Q dr fr (some u) (.a (.buildSl sz ln zero ix)) l fs' dd { st with g:=aR st.g u (.own u),m:=aR st.m u (b7 (.row xs)) })):Le m (rn S c Q fo fs st0):=by
 simp only[ζc]at hL;obtain⟨h1,h2,h3,h5,h6,h7⟩:=hL;subst h5 h6 h7;refine oZ h1 hq h2 ?_ h;rw[yu,h3];simp only[ζb,h4,if_true,mG,pn,List.length_range',List.length_map,if_true];have:=wS xs [] (List.replicate xs.length zero) (by simp)
 simp only[List.nil_append,List.length_nil]at this;rw[this];rfl
theorem UB [aD α] (n:Nat) (dr:Bool) (fr:List Nat) (q:List RO) (fs':List Fm) (st:St) (x:α) (vs:List V) {z:List V} {pl:List (Nat×Nat)} {m:Option β} (hq:q=⟨d,gd,now,.p (.build z pl),az,dd,[]⟩::l)
 (hp:i_ z pl vs=some (cells x)) (ha:aD.agg α=true)
 (hL:(fU S c n fo fs st0,wanted st.g gd,bf S.N st.g az)=(some (.ops dr fr q,fs',st),some true,some (vs.map .v)))
 (h:Le m (qB S c Q dr fr d (.p (.build z pl)) l fs' dd (bY st d (cv x)))):Le m (rn S c Q fo fs st0):=by
 simp only[ζc]at hL;refine oZ hL.1 hq hL.2.1 (wX hL.2.2 rfl ?_) h;unfold iF;rw[pn];simp only[L8,hp,ζb,Option.map_some];show some (SV.v (.agg (cells x)))=some (.v (enc x));rw[rz ha]
section
variable [aD α]
theorem Ux (n:Nat) (dr:Bool) (fr:List Nat) (q:List RO) (fs':List Fm) (st:St) (lo hi:Bool) (bs:List V) {sz:Nat} {s:Sl α} {a b:Option Int} {f:Sl α->Option γ} (hq:q=⟨d,gd,now,.p (.slice sz lo hi),az,dd,[]⟩::l)
 (hL:(fU S c n fo fs st0,wanted st.g gd,bf S.N st.g az,jy lo hi bs,sz)=(some (.ops dr fr q,fs',st),some true,some (.v (aZ s)::bs.map .v),some (a,b),aD.size α))
 (h:∀x,eM s a b=some x->Le ((f x).bind e) (qB S c Q dr fr d (.p (.slice sz lo hi)) l fs' dd (bY st d (.v (aZ x))))):Le (((eM s a b).bind f).bind e) (rn S c Q fo fs st0):=by
 simp only[ζc]at hL;refine BO hL.1 hq hL.2.1 (Le.of_eq ?_) h;have hy:bf S.N st.g az=some ((aZ s::bs).map .v):=hL.2.2.1;unfold eu ni;simp only[wanted,eO,hy];have hp:iF S.N st.m (.slice sz lo hi) ((aZ s::bs).map .v)=(eM s a b).bind λx=>some (.v (aZ x)):=by
  unfold iF;rw[pn];simp only[ak,hL.2.2.2.1,ζb,Hf s a b sz hL.2.2.2.2];cases eM s a b <;> rfl
 simp only[List.map_cons]at hp ⊢;rw[hp];cases eM s a b <;> rfl
def mH (s:Sl α) (lo hi:Option Int):Option (Sl α):=
 match s with
 | .nil|.emp=>none
 | .row x|.part x=>(cD x.length lo hi).map λ(l,h)=>.part ((x.take h).drop l)
theorem S5 (n:Nat) (fr:List Nat) (q:List RO) (fs':List Fm) (st:St) (lo hi:Bool) (u:Nat) (bs:List V) {t sz:Nat} {s:Sl α} {a b:Option Int} {f:Sl α->Option γ} (hq:q=⟨some t,gd,now,.p (.slice sz lo hi),az,dd,[]⟩::l)
 (h7:St.new { st with m:=cM u st.m } t=true) (hL:(fU S c n fo fs st0,wanted st.g gd,bf S.N st.g az,jy lo hi bs,an st.m u,sz)=(some (.ops false fr q,fs',st),some true,some (.own u::bs.map .v),some (a,b),some (b7 s),aD.size α))
 (h:∀x,mH s a b=some x->Le ((f x).bind e) (qB S c Q false fr (some t) (.p (.slice sz lo hi)) l fs' dd { st with g:=aR st.g t (.own t),m:=aR (cM u st.m) t (b7 x) })):Le (((mH s a b).bind f).bind e) (rn S c Q fo fs st0):=by
 simp only[ζc]at hL;refine BO hL.1 hq hL.2.1 (Le.of_eq ?_) h;obtain⟨_,_,h3,h4,h5,h6⟩:=hL;subst h6;unfold eu ni;simp only[wanted,eO,h3,Bool.false_eq_true,if_false,xT,pn,h5,h4,ζb];have hn:(an st.m u).isSome:=by rw[h5];rfl
 cases s with
 | nil=>simp[mH,b7,Sl.k,bC]
 | emp=>simp[mH,b7,Sl.k,bC]
 | row x=>
  simp only[b7,Sl.k,Sl.l,bC,mH,eC,and_self,if_true,h4,ζb]
  cases cD x.length a b with
  | none=>rfl
  | some r=>simp[h7,bY,rows,List.map_take,List.map_drop]
 | part x=>
  simp only[b7,Sl.k,Sl.l,bC,mH,eC,and_self,if_true,h4,ζb]
  cases cD x.length a b with
  | none=>rfl
  | some r=>simp[h7,bY,rows,List.map_take,List.map_drop]
end
end
end Go.VE
namespace Go.VE
variable [aY]
structure ai (n:Nat) (α:Type) where
 l:List α
 len:l.length=n
theorem Ll {α:Type} [aD α] (l:List α):(l.map (cells (α:=α))).flatten.length=l.length*aD.size α:=by
 induction l with
 | nil=>simp
 | cons a l ih=>simp only[List.map_cons,List.flatten_cons,ζi,ih,dN,List.length_cons,Nat.add_mul,Nat.one_mul,Nat.add_comm]
theorem Jr {α:Type} [aD α] (l:List α):V.bD (l.map (cells (α:=α))).flatten=true:=by
 induction l with
 | nil=>rfl
 | cons a l ih=>
  simp only[List.map_cons,List.flatten_cons];have h:∀(x y:List V),V.bD x=true->V.bD y=true->V.bD (x++y)=true:=by
   intro x
   induction x with
   | nil=>intro y _ h;exact h
   | cons b x ih2=>intro y h1 h2;simp only[V.bD,ζh,List.cons_append]at h1 ⊢;exact⟨h1.1,ih2 y h1.2 h2⟩
  exact h _ _ (aD.good a) ih
theorem E5 {n:Nat}:∀{x y:List V},V.bU n x=true->V.bU n y=true->V.bU n (x++y)=true
 | [],_,_,h=>h
 | a::x,y,h1,h2=>by
  simp only[fB,ζh,List.cons_append]at h1 ⊢;exact⟨h1.1,E5 h1.2 h2⟩
theorem KS {n:Nat} {α:Type} [aD α] [Lv n α] (l:List α):V.bU n (l.map (cells (α:=α))).flatten=true:=by
 induction l with
 | nil=>exact gQ n
 | cons a l ih=>simp only[List.map_cons,List.flatten_cons];exact E5 (Lv.lv a) ih
instance {n:Nat} {α:Type} [aD α]:aD (ai n α) where
 cells a:=(a.l.map cells).flatten
 agg:=true
 size:=n*aD.size α
 len a:=by rw[Ll,a.len]
 good a:=Jr a.l
 one a:=by
  have:∀l:List α,(l.map (cells (α:=α))).flatten.all V.one=true:=by
   intro l
   induction l with
   | nil=>rfl
   | cons a l ih=>simp only[List.map_cons,List.flatten_cons,List.all_append,ih,od,Bool.and_self]
  exact this a.l
 plain h:=by cases h
instance {k n:Nat} {α:Type} [aD α] [Lv k α]:Lv k (ai n α):=⟨λa=>KS a.l⟩
def ai.gw (n:Nat) {α:Type} (z:α):ai n α:=⟨List.replicate n z,by simp⟩
def ai.at {n:Nat} {α:Type} (a:ai n α) (i:Int):Option α:=if 0<=i then a.l[i.toNat]? else none
def ai.set {n:Nat} {α:Type} (a:ai n α) (i:Int) (x:α):ai n α:=⟨a.l.set i.toNat x,by simp[a.len]⟩
def pa {n:Nat} {α:Type} [aD α] (a:ai n α) (i:Int):List V:=(cells a).drop (i.toNat*aD.size α)
theorem ai.sP {n:Nat} {α:Type} {a:ai n α} {i:Int} {x:α} (h:a.at i=some x):0<=i/\i.toNat<n/\a.l[i.toNat]? = some x:=by
 unfold ai.at at h;split at h
 .rename_i hi;refine⟨hi,?_,h⟩;have:=(ζe.1 h).1;rw[<-a.len];exact this
 .cases h
theorem C2 {α:Type} [aD α]:∀(l:List α) (k:Nat),((l.map (cells (α:=α))).flatten).drop (k*aD.size α)=((l.drop k).map (cells (α:=α))).flatten
 | [],k=>by simp
 | a::l,0=>by simp
 | a::l,k+1=>by
  have h:(cells a).length=aD.size α:=dN a;rw[List.map_cons,List.flatten_cons,List.drop_succ_cons,<-C2 l k,Nat.add_mul,Nat.one_mul,Nat.add_comm,<-h,List.drop_length_add_append]
theorem vh {n:Nat} {α:Type} [aD α] {a:ai n α} {i:Int} {x:α} (h:a.at i=some x):∃r,pa a i=cells x++r:=by
 obtain⟨h1,h2,h3⟩:=ai.sP h;obtain⟨hlt,hx⟩:=ζe.1 h3;refine⟨((a.l.drop (i.toNat+1)).map cells).flatten,?_⟩;show ((a.l.map (cells (α:=α))).flatten).drop (i.toNat*aD.size α)=_;rw[C2,List.drop_eq_getElem_cons hlt,List.map_cons,List.flatten_cons,hx]
section
variable {S:Sys} {c:bH} {β γ δ α:Type} {Q:Out×St->Option β} {e:γ->Option β} {fo:Fo} {fs:List Fm} {st0:St} {l:List RO} {d:Option Nat} {gd:Option (Nat×Bool)} {now:Bool} {az:List Arg} {dd:List Nat}
section
variable {N:Nat} [aD α]
theorem SG (n:Nat) (dr:Bool) (fr:List Nat) (q:List RO) (fs':List Fm) (st:St) (k:IntKind) {ln sz:Nat} {a:ai N α} {i:Int} {f:α->Option γ} (hq:q=⟨d,gd,now,.p (.idxA ln sz),az,dd,[]⟩::l)
 (hL:(fU S c n fo fs st0,wanted st.g gd,bf S.N st.g az,sz,ln)=(some (.ops dr fr q,fs',st),some true,some [cp a,.v (.int k i)],aD.size α,N))
 (h:∀x,a.at i=some x->Le ((f x).bind e) (qB S c Q dr fr d (.p (.idxA ln sz)) l fs' dd (bY st d (.v (.fptr (pa a i)))))):Le (((a.at i).bind f).bind e) (rn S c Q fo fs st0):=by
 simp only[ζc]at hL;obtain⟨h1,h2,h3,h4,h5⟩:=hL;subst h4 h5;refine BO h1 hq h2 (?_:Le ((a.at i).bind λ_=>some (bY st d (.v (.fptr (pa a i))))) _) h
 intro r hr;obtain⟨x,hx,hr⟩:=ζg.1 hr;obtain⟨g1,g2,_⟩:=ai.sP hx;rw[wX (v:=.v (.fptr (pa a i))) h3 rfl ?_]
 .exact hr
 rw[tH];simp only[ak,uC];have hlen:i.toNat*aD.size α<=(cells a).length:=by
  rw[dN];exact Nat.mul_le_mul_right _ (Nat.le_of_lt g2)
 rw[if_pos ⟨g1,by omega⟩,if_pos hlen]
 rfl
theorem UJ (n:Nat) (dr:Bool) (fr:List Nat) (q:List RO) (fs':List Fm) (st:St) (a:ai N α) (i:Int) (o:Nat) (x:α) (hx:a.at i=some x) {k:Nat} {m:Option β} (hq:q=⟨d,gd,now,.p (.fieldAddr k),az,dd,[]⟩::l)
 (hL:(fU S c n fo fs st0,wanted st.g gd,bf S.N st.g az,Nat.ble (o+k) (aD.size α))=(some (.ops dr fr q,fs',st),some true,some [.v (.fptr ((pa a i).drop o))],true))
 (h:Le m (qB S c Q dr fr d (.p (.fieldAddr k)) l fs' dd (bY st d (.v (.fptr ((pa a i).drop (o+k))))))):Le m (rn S c Q fo fs st0):=by
 simp only[ζc]at hL;obtain⟨h1,h2,h3,h4⟩:=hL;refine oZ h1 hq h2 (wX h3 rfl ?_) h;have h9:=Nat.le_of_ble_eq_true h4;obtain⟨r,hr⟩:=vh hx;have hl:(pa a i).length>=aD.size α:=by rw[hr,ζi,dN];omega
 rw[D2,D8,if_pos (by rw[List.length_drop];omega),List.drop_drop]
 rfl
theorem SN (n:Nat) (dr:Bool) (fr:List Nat) (q:List RO) (fs':List Fm) (st:St) (a:ai N α) (i:Int) (o:Nat) (x:α) (hx:a.at i=some x) {sz:Nat} {ag:Bool} {v:V} (hv:(cut (cells x) o sz).bind (mk ag)=some v) (v':V) {m:Option β} (hq:q=⟨d,gd,now,.r (.load sz ag),az,dd,[]⟩::l)
 (hL:(fU S c n fo fs st0,wanted st.g gd,bf S.N st.g az,v)=(some (.ops dr fr q,fs',st),some true,some [.v (.fptr ((pa a i).drop o))],v'))
 (h:Le m (qB S c Q dr fr d (.r (.load sz ag)) l fs' dd (bY st d (.v v')))):Le m (rn S c Q fo fs st0):=by
 simp only[ζc]at hL;obtain⟨h1,h2,h3,rfl⟩:=hL;refine oZ h1 hq h2 ?_ h;rw[vK,h3];have hold:dF fr [SV.v (.fptr ((pa a i).drop o))]=true:=rfl;simp only[ζb,hold,Bool.or_true,if_true,Jo];obtain⟨r,hr⟩:=vh hx;rw[hr];have hc:cut ((cells x++r).drop o) 0 sz=cut (cells x) o sz:=by
  cases hcc:cut (cells x) o sz with
  | none=>rw[hcc]at hv;cases hv
  | some w=>
   unfold cut at hcc ⊢;dsimp only at hcc ⊢;split at hcc
   .rename_i hl;cases hcc;have e1:(List.drop 0 (List.drop o (cells x++r))).take sz=((cells x).drop o).take sz:=by
     rw[List.drop_zero];have ho:sz=0\/o<=(cells x).length:=by
      simp only[List.length_take,List.length_drop]at hl;omega
     rcases ho with rfl|ho
     .simp
     .rw[List.drop_append_of_le_length ho,List.take_append_of_le_length];simp only[List.length_take,List.length_drop]at hl ⊢;omega
    rw[e1,if_pos hl]
   .cases hcc
 rw[hc]
 cases hcc:cut (cells x) o sz with
 | none=>rw[hcc]at hv;cases hv
 | some w=>rw[hcc]at hv;simp only[ζb]at hv ⊢;rw[hv];rfl
theorem Ru (n:Nat) (dr:Bool) (fr:List Nat) (q:List RO) (fs':List Fm) (st:St) (cs:List SV) {u sz:Nat} {zero:List V} {m:Option β} (hq:q=⟨some u,gd,now,.a (.alloc sz zero),az,dd,[]⟩::l)
 (h4:st.new u=true) (hL:(fU S c n fo fs st0,wanted st.g gd,bf S.N st.g az,zero.map SV.v)=(some (.ops dr fr q,fs',st),some true,some [],cs))
 (h:Le m (qB S c Q dr fr (some u) (.a (.alloc sz zero)) l fs' dd { st with g:=aR st.g u (.ptr u 0),m:=aR st.m u (.box cs) })):Le m (rn S c Q fo fs st0):=by
 simp only[ζc]at hL;obtain⟨h1,h2,h3,h5⟩:=hL;subst h5;refine oZ h1 hq h2 ?_ h;rw[yu,h3];simp only[ζb,h4,if_true,mG]
theorem qW (d:Nat) (l:List V):SV.cw d (l.map .v)=false:=by
 induction l with
 | nil=>rfl
 | cons a l ih=>simp only[List.map_cons,SV.cw,SV.bX,ih,Bool.or_self]
theorem qD {α:Type} [aD α] (d:Nat) (x:α):aN.bX d (bx x)=false:=qW d (cells x)
theorem Sm (n:Nat) (dr:Bool) (fr:List Nat) (q:List RO) (fs':List Fm) (st:St) (k:IntKind) (u:Nat) {ln sz:Nat} {a:ai N α} {i:Int} {f:α->Option γ} (hq:q=⟨d,gd,now,.p (.idxA ln sz),az,dd,[]⟩::l)
 (hL:(fU S c n fo fs st0,wanted st.g gd,bf S.N st.g az,sz,ln,an st.m u)=(some (.ops dr fr q,fs',st),some true,some [.ptr u 0,.v (.int k i)],aD.size α,N,some (bx a)))
 (h:∀x,a.at i=some x->Le ((f x).bind e) (qB S c Q dr fr d (.p (.idxA ln sz)) l fs' dd (bY st d (.ptr u (i.toNat*aD.size α+0))))):Le (((a.at i).bind f).bind e) (rn S c Q fo fs st0):=by
 simp only[ζc]at hL;obtain⟨h1,h2,h3,h4,h5,h6⟩:=hL;subst h4 h5;refine BO h1 hq h2 (?_:Le ((a.at i).bind λ_=>some (bY st d (.ptr u (i.toNat*aD.size α+0)))) _) h
 intro r hr;obtain⟨x,hx,hr⟩:=ζg.1 hr;obtain⟨g1,g2,_⟩:=ai.sP hx;rw[wX (v:=.ptr u (i.toNat*aD.size α+0)) h3 rfl ?_]
 .exact hr
 simp only[iF,cZ,ua,h6];rw[if_pos ⟨g1,by omega,rfl⟩,Nat.zero_add,Nat.add_zero]
theorem Sn (n:Nat) (dr:Bool) (fr:List Nat) (q:List RO) (fs':List Fm) (st:St) (u:Nat) (a:ai N α) (i:Int) (o:Nat) (x:α) (hx:a.at i=some x) {sz:Nat} {ag:Bool} {v:V} (hv:(cut (cells x) o sz).bind (mk ag)=some v) (v':V) {m:Option β} (hq:q=⟨d,gd,now,.r (.load sz ag),az,dd,[]⟩::l)
 (hL:(fU S c n fo fs st0,wanted st.g gd,bf S.N st.g az,v,an st.m u,(!dr||now||dF fr [.ptr u 0]))=(some (.ops dr fr q,fs',st),some true,some [.ptr u (i.toNat*aD.size α+o)],v',some (bx a),true))
 (h:Le m (qB S c Q dr fr d (.r (.load sz ag)) l fs' dd (bY st d (.v v')))):Le m (rn S c Q fo fs st0):=by
 simp only[ζc]at hL;obtain⟨h1,h2,h3,rfl,h5,h6⟩:=hL;refine oZ h1 hq h2 ?_ h;rw[vK,h3];have hold:(!dr||now||dF fr [SV.ptr u (i.toNat*aD.size α+o)])=true:=h6;simp only[ζb,hold,if_true,UH,h5,KB];obtain⟨r,hr⟩:=vh hx;have e1:(((cells a).map SV.v).drop (i.toNat*aD.size α+o)).take sz=(((cells x).drop o).take sz).map SV.v:=by
  have hcc:((cells x).drop o).take sz=((cells x++r).drop o).take sz:=by
   cases hc:cut (cells x) o sz with
   | none=>rw[hc]at hv;cases hv
   | some w=>
    unfold cut at hc;dsimp only at hc;split at hc
    .rename_i hl;have ho:sz=0\/o<=(cells x).length:=by
      simp only[List.length_take,List.length_drop]at hl;omega
     rcases ho with rfl|ho
     .simp
     .rw[List.drop_append_of_le_length ho,List.take_append_of_le_length];simp only[List.length_take,List.length_drop]at hl ⊢;omega
    .cases hc
  rw[hcc,<-hr,pa,List.drop_drop,List.map_take,List.map_drop]
 rw[e1];unfold uy
 cases hc:cut (cells x) o sz with
 | none=>rw[hc]at hv;cases hv
 | some w=>
  rw[hc]at hv;unfold cut at hc;dsimp only at hc;split at hc
  .rename_i hl;cases hc;simp only[List.length_map,hl,if_true];simp only[ζb]at hv;unfold mk at hv
   cases ag with
   | true=>
    simp only[if_true]at hv ⊢;cases hv;rw[pn];rfl
   | false=>
    simp only[Bool.false_eq_true,if_false]at hv ⊢;split at hv
    .rename_i hw;cases hv;rw[hw];rfl
    .cases hv
  .cases hc
theorem IP {N:Nat} (a:ai N α) (i:Int) (y:α) (h:i.toNat<N):cells (a.set i y)=(cells a).take (i.toNat*aD.size α)++cells y++(cells a).drop ((i.toNat+1)*aD.size α):=by
 have key:∀(l:List α) (k:Nat),k<l.length->((l.set k y).map (cells (α:=α))).flatten=(l.map (cells (α:=α))).flatten.take (k*aD.size α)++cells y++(l.map (cells (α:=α))).flatten.drop ((k+1)*aD.size α):=by
  intro l
  induction l with
  | nil=>intro k h;simp at h
  | cons b l ih=>
   intro k h;have hb:(cells b).length=aD.size α:=dN b
   cases k with
   | zero=>
    simp only[List.set_cons_zero,List.map_cons,List.flatten_cons,Nat.zero_mul,List.take_zero,List.nil_append,Nat.zero_add,Nat.one_mul];rw[<-hb,List.drop_left]
   | succ k=>
    simp only[List.set_cons_succ,List.map_cons,List.flatten_cons];rw[ih k (by simpa using h)]
    have e1:(k+1)*aD.size α=(cells b).length+k*aD.size α:=by rw[hb,Nat.add_mul,Nat.one_mul,Nat.add_comm]
    have e2:(k+1+1)*aD.size α=(cells b).length+(k+1)*aD.size α:=by rw[hb,Nat.add_mul (k+1),Nat.one_mul,Nat.add_comm]
    rw[e2,List.drop_length_add_append];rw[e1,List.take_length_add_append];simp[List.append_assoc]
 exact key a.l i.toNat (by rw[a.len];exact h)
theorem M3 (n:Nat) (dr:Bool) (fr:List Nat) (q:List RO) (fs':List Fm) (st:St) (u:Nat) (a:ai N α) (i:Int) (o:Nat) (x:α) (hx:a.at i=some x) (y:α) (v:V) {sz:Nat} (hy:cells y=(cells x).take o++v.cells++(cells x).drop (o+sz)) {m:Option β} (hq:q=⟨d,gd,now,.l (.store sz),az,dd,[]⟩::l)
 (hL:(fU S c n fo fs st0,wanted st.g gd,bf S.N st.g az,an st.m u,(!dr||now),v.cells.length,v.cells.all V.one,Nat.ble (o+sz) (aD.size α))=(some (.ops dr fr q,fs',st),some true,some [.ptr u (i.toNat*aD.size α+o),.v v],some (bx a),true,sz,true,true))
 (h:Le m (qB S c Q dr fr d (.l (.store sz)) l fs' dd (bY { st with m:=aR st.m u (bx (a.set i y)) } d (.v .undef)))):Le m (rn S c Q fo fs st0):=by
 simp only[ζc]at hL;obtain⟨h1,h2,h3,h4,h5,h6,h7,h8⟩:=hL;refine oZ h1 hq h2 ?_ h;rw[s_,h3];have h9:=Nat.le_of_ble_eq_true h8;obtain⟨g1,g2,g3⟩:=ai.sP hx;have hb:i.toNat*aD.size α+o+sz<=((cells a).map SV.v).length:=by
  rw[List.length_map,dN];have:(i.toNat+1)*aD.size α<=N*aD.size α:=Nat.mul_le_mul_right _ g2;rw[Nat.add_mul,Nat.one_mul]at this;show _<=N*aD.size α;omega
 simp only[ζb,h5,if_true,mz,h4,putCells,h6,h7,hb,and_self,Option.map_some];obtain⟨r,hr⟩:=vh hx;have e:((cells a).map SV.v).take (i.toNat*aD.size α+o)++v.cells.map .v++((cells a).map SV.v).drop (i.toNat*aD.size α+o+sz)=(cells (a.set i y)).map SV.v:=by
  rw[IP a i y g2,hy];have hd:(cells a).drop (i.toNat*aD.size α)=cells x++r:=hr;have hlx:(cells x).length=aD.size α:=dN x;have e1:(cells a).take (i.toNat*aD.size α+o)=(cells a).take (i.toNat*aD.size α)++(cells x).take o:=by
   rw[List.take_add,hd,List.take_append_of_le_length (by omega)]
  have e2:(cells a).drop (i.toNat*aD.size α+o+sz)=(cells x).drop (o+sz)++(cells a).drop ((i.toNat+1)*aD.size α):=by
   have e3:(cells a).drop ((i.toNat+1)*aD.size α)=r:=by
    rw[Nat.add_mul,Nat.one_mul,<-List.drop_drop,hd,<-hlx,List.drop_left]
   rw[e3,Nat.add_assoc,<-List.drop_drop,hd,List.drop_append_of_le_length (by omega)]
  rw[<-List.map_take,<-List.map_drop,e1,e2];simp[List.map_append,List.append_assoc]
 rw[e]
end
theorem OZ {α:Type} [aD α] {m:Tb aN} {d:Nat} {x:α} {vs:List V} (h:an m d=some (bx x)):mg (gK m 8) (.ptr d 0::vs.map .v)=some (.fptr (cells x)::vs):=by
 have h1:gK m 8 (.ptr d 0)=some (.fptr (cells x)):=by
  show (match an m d with
   | some (.box cs)=>match mg (gK m 7) cs with
    | some xs=>if 0<=xs.length then some (V.fptr (xs.drop 0))else none
    | none=>none
   | _=>none)=_
  rw[h];simp only[EP,Nat.zero_le,if_true,List.drop_zero]
 simp only[mg,h1,EP,ζb]
theorem SM (n:Nat) {fo:Fo} {fs fs':List Fm} {st0 st:St} {rs:List RV} {e:γ->Option (List V)} {r:γ} (svs:List SV) {ys:List V} (h2:mg (gK st.m 8) svs=some ys) (h:(fU S c n fo fs st0,oA st rs)=(some (.rt,fs',st),some svs)) (h3:e r=some ys) :
 Le ((some r).bind e) (rn S c (pz rs) fo fs st0):=by
 simp only[ζc]at h;rw[mK h.1];refine Le.of_eq ?_;simp only[rn,pz,h.2,ζb,h2];exact h3.symm
abbrev Mo (κ ν:Type):=List (κ×ν)
class Key (κ:Type) [aD κ] [DecidableEq κ] where
 kk:uO
 ok:∀a:κ,nF kk (enc a)=true
 eq:∀a b:κ,sO (enc a) (enc b)=some (decide (a=b))
instance:Key Int where
 kk:=.int .i64
 ok _:=rfl
 eq a b:=by
  show some (a==b)=some (decide (a=b));rw[show (a==b)=decide (a=b)from Bool.eq_iff_iff.2 (by simp)]
instance:Key af where
 kk:=.ints 2
 ok _:=rfl
 eq a b:=by
  obtain⟨p,i⟩:=a;obtain⟨q,j⟩:=b;simp only[sO,je,fS,Rh,Option.map_some,List.length_cons,if_true,ζa];rw[Bool.eq_iff_iff];simp
section
variable {κ ν:Type} [aD κ] [DecidableEq κ] [Key κ] [aD ν]
def mq (k:κ):Mo κ ν->Option ν
 | []=>none
 | (a,v)::r=>if k=a then some v else mq k r
def nh (m:Mo κ ν) (k:κ) (z:ν):ν:=(mq k m).getD z
def zW (m:Mo κ ν) (k:κ):Bool:=(mq k m).isSome
def mZ (m:Mo κ ν) (k:κ) (v:ν):Mo κ ν:=
 match m with
 | []=>[(k,v)]
 | (a,w)::r=>if k=a then(k,v)::r else(a,w)::mZ r k v
def jA (m:Mo κ ν):List (V×V):=m.map λx=>(enc x.1,enc x.2)
def q9 (m:Mo κ ν):aN:=.mp (jA m)
theorem Bx (k:κ):∀(m:Mo κ ν) (i:Nat),(fK (enc k) (jA m) i).map (Option.map (·.2))=some ((mq k m).map enc)
 | [],i=>rfl
 | (a,v)::r,i=>by
  simp only[jA,List.map_cons,fK,Key.eq,mq]
  by_cases h:k=a
  .rw[if_pos h];simp[h]
  .rw[if_neg h];simp only[h,decide_false];exact Bx k r (i+1)
theorem KR (k:κ) (v:ν) (m:Mo κ ν):nR (enc k) (enc v) (jA m)=some (jA (mZ m k v)):=by
 unfold nR;have key:∀(m:Mo κ ν) (pre:List (V×V)) (i:Nat),pre.length=i->(match fK (enc k) (jA m) i with
  | some (some (j,_))=>some ((pre++jA m).set j (enc k,enc v))
  | some none=>some (pre++jA m++[(enc k,enc v)])
  | none=>none)=some (pre++jA (mZ m k v)):=by
  intro m
  induction m with
  | nil=>intro pre i h;simp[jA,fK,mZ]
  | cons x r ih=>
   obtain⟨a,w⟩:=x;intro pre i h;rw[show jA ((a,w)::r)=(enc a,enc w)::jA r from rfl];simp only[fK,Key.eq,mZ]
   by_cases hk:k=a
   .subst hk h;simp[jA]
   .simp only[hk,decide_false,if_false];rw[show jA ((a,w)::mZ r k v)=(enc a,enc w)::jA (mZ r k v)from rfl];have:=ih (pre++[(enc a,enc w)]) (i+1) (by simp[h])
    simp only[List.append_assoc,List.cons_append,List.nil_append]at this ⊢;exact this
 have:=key m [] 0 rfl
 cases hf:fK (enc k) (jA m) 0 with
 | none=>rw[hf]at this;cases this
 | some r=>
  rw[hf]at this
  cases r with
  | none=>simpa using this
  | some w=>obtain⟨j,w⟩:=w;simpa using this
theorem S8 (n:Nat) (dr:Bool) (fr:List Nat) (q:List RO) (fs':List Fm) (st:St) (u:Nat) (mp:Mo κ ν) (k:κ) (z:ν) {kk:uO} {zv:V} {m:Option β} (hq:q=⟨d,gd,now,.r (.lookup kk zv false),az,dd,[]⟩::l)
 (hL:(fU S c n fo fs st0,wanted st.g gd,bf S.N st.g az,an st.m u,(!dr||now||dF fr [.mp u,cv k]),zv,kk)=(some (.ops dr fr q,fs',st),some true,some [.mp u,cv k],some (q9 mp),true,enc z,Key.kk κ))
 (h:Le m (qB S c Q dr fr d (.r (.lookup kk zv false)) l fs' dd (bY st d (cv (nh mp k z))))):Le m (rn S c Q fo fs st0):=by
 simp only[ζc]at hL;obtain⟨h1,h2,h3,h4,h5,h6,h7⟩:=hL;subst h6 h7;refine oZ h1 hq h2 ?_ h;rw[vK,h3];simp only[ζb,h5,if_true,kF,h4,q9,Key.ok];have:=Bx k mp 0;simp only[nh]
 cases hf:fK (enc k) (jA mp) 0 with
 | none=>rw[hf]at this;cases this
 | some r=>
  rw[hf]at this;simp only[Option.map_some,ζa]at this
  cases r with
  | none=>
   cases hm:mq k mp with
   | none=>rfl
   | some w=>rw[hm]at this;cases this
  | some w=>
   cases hm:mq k mp with
   | none=>rw[hm]at this;cases this
   | some w2=>
    rw[hm]at this;simp only[Option.map_some,ζa]at this;simp only[this];rfl
theorem Uz (n:Nat) (dr:Bool) (fr:List Nat) (q:List RO) (fs':List Fm) (st:St) (u:Nat) (mp:Mo κ ν) (k:κ) (v:ν) {kk:uO} {m:Option β} (hq:q=⟨d,gd,now,.l (.mapUp kk),az,dd,[]⟩::l)
 (hL:(fU S c n fo fs st0,wanted st.g gd,bf S.N st.g az,an st.m u,(!dr||now),kk)=(some (.ops dr fr q,fs',st),some true,some [.mp u,cv k,cv v],some (q9 mp),true,Key.kk κ))
 (h:Le m (qB S c Q dr fr d (.l (.mapUp kk)) l fs' dd (bY { st with m:=aR st.m u (q9 (mZ mp k v)) } d (.v .undef)))):Le m (rn S c Q fo fs st0):=by
 simp only[ζc]at hL;obtain⟨h1,h2,h3,h4,h5,h6⟩:=hL;subst h6;refine oZ h1 hq h2 ?_ h;rw[s_,h3];simp only[ζb,h5,if_true,mz,h4,q9,Key.ok,KR,Option.map_some]
end
end
end Go.VE
namespace Go.VE
variable [aY]
instance {n:Nat}:OfNat Arg n:=⟨.s n⟩
abbrev bI (o:BinOp):K:=.p (.bin (some .int) none o)
abbrev ix (n:Nat):K:=.p (.idxS n)
abbrev ld (n:Nat):K:=.r (.load n false)
abbrev lD (n:Nat):K:=.r (.load n true)
abbrev fa (n:Nat):K:=.p (.fieldAddr n)
abbrev ln:K:=.p .lenSl
abbrev su (n:Nat):K:=.l (.store n)
abbrev Iv (n:Nat) (x:Int):Nat×SV:=(n,iv x)
abbrev Bv (n:Nat) (x:Bool):Nat×SV:=(n,bv x)
abbrev Cv {α:Type} [aD α] (n:Nat) (x:α):Nat×SV:=(n,cv x)
abbrev Kv {α:Type} [aD α] (n:Nat) (x:α):Nat×SV:=(n,cp x)
abbrev Pv (n:Nat):Nat×SV:=(n,.ptr n 0)
abbrev Ov (n:Nat):Nat×SV:=(n,.own (2000+n))
abbrev Xb {α:Type} [aD α] (n:Nat) (x:α):Nat×aN:=(n,bx x)
abbrev Lb {α:Type} [aD α] (n:Nat) (x:Sl α):Nat×aN:=(n,b7 x)
abbrev on (d:Nat) (k:K) (az:List Arg) (dd:List Nat):RO:=⟨some d,none,true,k,az,dd,[]⟩
abbrev oz (k:K) (az:List Arg) (dd:List Nat):RO:=⟨none,none,false,k,az,dd,[]⟩
abbrev oy (k:K) (az:List Arg) (dd:List Nat):RO:=⟨none,none,true,k,az,dd,[]⟩
theorem Ju {n:Nat} {α:Type} [aD α] [Lv n α] (a:α):V.bU n (cells a)=true:=Lv.lv a
attribute [simp] Ju Oe Ms fB gQ mN kT mV OA Ot MD Gt PC O1 OO OH O6 O7
theorem ji.wG {S:Sys} {T:qv} {f:FuncId} {b:Bool} (hT:T f=none) (hk:S.E.keep f=false) (ho:S.wG f []=some (.bool b)) :
 ji S (cz S T) f (λ_:Unit=>[]) (λr:Bool=>[.bool r]) (λ_=>some b) true where
 k:=hk
 h _:=by
  have h:=Cd (az:=[]) hT hk ho;intro r hr;cases hr;unfold kJ;rw[h];exact tV 8 [.bool b]
 l _:=by simp
 r _:=by simp
 s _ _:=rfl
end Go.VE
namespace Go.VE
variable [aY]
def Wp {α:Type} (m:Option α) (P:α->Prop):Prop:=∃a,m=some a/\P a
section
variable {α β:Type} {P Q:α->Prop}
theorem ah (a:α):Wp (some a) P↔P a:=⟨λh=>by obtain⟨b,e,p⟩:=h;cases e;exact p,λp=>⟨a,rfl,p⟩⟩
theorem Of:Wp (none:Option α) P↔False:=⟨λh=>(by obtain⟨b,e,p⟩:=h;cases e),λh=>False.elim h⟩
theorem eS {m:Option β} {k:β->Option α}:Wp (m.bind k) P↔Wp m λb=>Wp (k b) P:=by
 cases m with
 | none=>simp only[Option.bind_none,Of]
 | some b=>simp only[ζb,ah]
theorem bE {t:Bool} {a b:Option α}:Wp (ay t a b) P↔(t=true->Wp a P)/\(t=false->Wp b P):=by
 cases t <;> simp[ay]
theorem Wp.mono {m:Option α} (h:Wp m P) (hpq:∀a,P a->Q a):Wp m Q:=let ⟨a,e,p⟩:=h;⟨a,e,hpq a p⟩
theorem Wp.and {m:Option α} (h:Wp m P) (h2:Wp m Q):Wp m λa=>P a/\Q a:=by
 obtain⟨a,e,p⟩:=h;obtain⟨b,e2,q⟩:=h2;rw[e]at e2;cases e2;exact⟨a,e,p,q⟩
theorem Wp.eq {m:Option α} {a:α} (h:Wp m λx=>x=a):m=some a:=by obtain⟨b,e,rfl⟩:=h;exact e
end
section
variable {σ ε ρ:Type}
theorem gL (step:σ->Option (Fw σ ε ρ)) (s:σ):aX step s=(step s).bind λw=>match w with
 | .n s'=>aX step s'
 | .x e=>some (.x e)
 | .r b=>some (.r b):=by
 have h1:∀r,aX step s=some r->((step s).bind λw=>match w with
  | .n s'=>aX step s'
  | .x e=>some (.x e)
  | .r b=>some (.r b))=some r:=by
  intro r h;obtain⟨k,hk⟩:=lS.1 h
  cases k with
  | zero=>simp[gW]at hk
  | succ k=>
   simp only[gW]at hk
   cases hs:step s with
   | none=>rw[hs]at hk;cases hk
   | some w=>
    rw[hs]at hk
    cases w with
    | n s'=>exact lS.2 ⟨k,hk⟩
    | x e=>exact hk
    | r b=>exact hk
 cases hw:aX step s with
 | some r=>exact(h1 r hw).symm
 | none=>
  cases hr:((step s).bind λw=>match w with
  | .n s'=>aX step s'
  | .x e=>some (.x e)
  | .r b=>some (.r b))with
  | none=>rfl
  | some r=>
   exfalso
   cases hs:step s with
   | none=>rw[hs]at hr;cases hr
   | some w=>
    rw[hs]at hr;simp only[ζb]at hr;have:aX step s=some r:=by
     cases w with
     | n s'=>
      obtain⟨k,hk⟩:=lS.1 hr;exact lS.2 ⟨k+1,by simp only[gW,hs];exact hk⟩
     | x e=>exact lS.2 ⟨1,by simp only[gW,hs];exact hr⟩
     | r b=>exact lS.2 ⟨1,by simp only[gW,hs];exact hr⟩
    rw[hw]at this;cases this
def M6 (I:σ->Prop) (μ:σ->Nat) (px:ε->Prop) (pr:ρ->Prop) (s:σ):Fw σ ε ρ->Prop
 | .n s'=>I s'/\μ s'<μ s
 | .x e=>px e
 | .r b=>pr b
def T3 (px:ε->Prop) (pr:ρ->Prop):Fw Empty ε ρ->Prop
 | .x e=>px e
 | .r b=>pr b
theorem LC {step:σ->Option (Fw σ ε ρ)} (I:σ->Prop) (μ:σ->Nat) (px:ε->Prop) (pr:ρ->Prop) (h:∀s,I s->Wp (step s) (M6 I μ px pr s)) {s:σ} (hs:I s):Wp (aX step s) (T3 px pr):=by
 have key:∀n s,μ s<=n->I s->Wp (aX step s) (T3 px pr):=by
  intro n
  induction n with
  | zero=>
   intro s hm hi;obtain⟨w,hw,hr⟩:=h s hi;rw[gL,hw]
   cases w with
   | n s'=>exact absurd hr.2 (by omega)
   | x e=>exact⟨_,rfl,hr⟩
   | r b=>exact⟨_,rfl,hr⟩
  | succ n ih=>
   intro s hm hi;obtain⟨w,hw,hr⟩:=h s hi;rw[gL,hw]
   cases w with
   | n s'=>exact ih s' (by have:=hr.2;omega) hr.1
   | x e=>exact⟨_,rfl,hr⟩
   | r b=>exact⟨_,rfl,hr⟩
 exact key (μ s) s (Nat.le_refl _) hs
theorem gA {γ:Type} {step:σ->Option (Fw σ ε ρ)} {fx:ε->Option γ} {fr:ρ->Option γ} {P:γ->Prop} (I:σ->Prop) (μ:σ->Nat) {s:σ} (hs:I s)
 (h:∀s,I s->Wp (step s) (M6 I μ (λe=>Wp (fx e) P) (λb=>Wp (fr b) P) s)):Wp ((aX step s).bind (Fw.elim fx fr)) P:=by
 rw[eS];refine(LC I μ _ _ h hs).mono ?_;intro w hw
 cases w with
 | n a=>cases a
 | x e=>exact hw
 | r b=>exact hw
end
end Go.VE
namespace Go.VE
variable [aY]
theorem G9 {β γ δ:Type} {e:γ->Option β} {m:Option δ} {f:δ->Option γ} {L:Option β} (h:∀x,m=some x->Le ((f x).bind e) L):Le ((m.bind f).bind e) L:=by
 cases m with
 | none=>exact Le.none _
 | some x=>exact h x rfl
section
variable {S:Sys} {c:bH} {β:Type} {Q:Out×St->Option β} {fo:Fo} {fs:List Fm} {st0:St} {l:List RO} {d:Option Nat} {now:Bool} {az:List Arg} {dd:List Nat}
theorem Le.get {β:Type} {r:β} {L:Option β} (h:Le (some r) L):L=some r:=h r rfl
theorem Kt {n:Nat} {fo fo':Fo} {fs fs':List Fm} {st:St} (A:Bool->St) {t:Bool} {m:Option β} (ht:t=true) (h:fU S c n fo fs st=some (fo',fs',A t)) (ha:Le m (rn S c Q fo' fs' (A true))):Le m (rn S c Q fo fs st):=by
 rw[mK h,ht];exact ha
theorem Kf {n:Nat} {fo fo':Fo} {fs fs':List Fm} {st:St} (A:Bool->St) {t:Bool} {m:Option β} (ht:t=false) (h:fU S c n fo fs st=some (fo',fs',A t)) (ha:Le m (rn S c Q fo' fs' (A false))):Le m (rn S c Q fo fs st):=by
 rw[mK h,ht];exact ha
theorem K8 {α:Type} [aD α] {s:Sl α} {i:Int} {x:α} {r:β} {L:Option β} (hx:idx s i=some x) (h:Le (((idx s i).bind λ_=>some r).bind some) L):Le (some r) L:=by
 rw[hx]at h;exact h
theorem TQ {n:Nat} {q:List RO} {fs':List Fm} {st:St} {id:Nat} {vs:List SV} {xs:List V} {ws:List (List V)} {m:Option β}
 (hL:fU S c n fo fs st0=some (.ops false [] q,fs',st)) (hq:q=⟨d,none,now,.c,az,dd,[]⟩::l) (hs:bf S.N st.g az=some (.yl id::vs)) (ha:cZ vs=some xs) (hw:st.want=xs::ws) (hi:id=st.yid)
 (h:Le m (rn S c Q (.ops false [] l) fs' (nk dd (bY { st with want:=ws } d (.v (.bool (st.more || !ws.isEmpty))))))):Le m (rn S c Q fo fs st0):=by
 refine MM hL hq rfl ?_ h;unfold eu;simp only[wanted,eO,hs,ha,hw,hi,if_true,and_self,Bool.false_eq_true,if_false]
theorem yI (a:RC) (fs:List Fm) (st:St):rn S c Q (.rc (.loop a)) fs st=(mc (bB S c a) st).bind (BE (kK S c Q fs) (kQ S c Q fs) (λst=>Q (.ret,st))):=by
 show kG S c Q (.loop a) fs st=_;unfold kG;rw[AL];rfl
theorem ON {f:St->Option (Out×St)} {st st':St} (h:f st=some (.norm,st')):mc f st=mc f st':=by
 have key:∀r,mc f st=some r↔mc f st'=some r:=λr=>by
  constructor
  .intro hr;obtain⟨k,hk⟩:=kM.1 hr
   cases k with
   | zero=>simp[gM]at hk
   | succ k=>simp only[gM,h]at hk;exact kM.2 ⟨k,hk⟩
  .intro hr;obtain⟨k,hk⟩:=kM.1 hr;exact kM.2 ⟨k+1,by simp only[gM,h];exact hk⟩
 cases hx:mc f st with
 | none=>
  cases hy:mc f st' with
  | none=>rfl
  | some r=>rw[(key r).2 hy]at hx;cases hx
 | some r=>rw[(key r).1 hx]
theorem Gw {f:St->Option (Out×St)} {st st':St} {o:Out} (h:f st=some (o,st')) (ho:o≠.norm):mc f st=some (o,st'):=by
 refine kM.2 ⟨1,?_⟩
 cases o with
 | norm=>exact absurd rfl ho
 | exit k=>simp only[gM,h]
 | ret=>simp only[gM,h]
theorem CE {a:RC} {fs:List Fm} {st st':St} (h:rn S c some (.rc a) [] st=some (.norm,st')):rn S c Q (.rc (.loop a)) fs st=rn S c Q (.rc (.loop a)) fs st':=by
 rw[yI,yI,ON (by rw[yx];exact h)]
theorem Cz {a:RC} {fs:List Fm} {st st':St} {k:Nat} (h:rn S c some (.rc a) [] st=some (.exit k,st')):rn S c Q (.rc (.loop a)) fs st=rn S c Q (.ex k) fs st':=by
 rw[yI,Gw (by rw[yx];exact h) (by simp)];rfl
theorem CK {a:RC} {fs:List Fm} {st st':St} (h:rn S c some (.rc a) [] st=some (.ret,st')):rn S c Q (.rc (.loop a)) fs st=Q (.ret,st'):=by
 rw[yI,Gw (by rw[yx];exact h) (by simp)];rfl
end
def Qi:Out×St->Option Unit
 | (.exit _,_)=>none
 | (_,st)=>if st.want.isEmpty then some ()else none
def Sys.bare (S:Sys):Sys:=⟨S.E,S.N,λ_ _ _=>none,λ_ _=>none,λ_=>none⟩
def lg:bH:=λ_ _ _=>none
def A8 (ws rest:List (List V)) (more:Bool):Prop:=more=true/\ws=rest\/more=false/\ws≠[]/\∃r,rest=ws++r
theorem KI (S:Sys) {f:FuncId} {fi:FI} {nm:FuncId->Option Nat} {rf:RF} (hft:S.E.ft f=some fi) (hN:∀g s,nm g=some s->S.N s=g) (hr:vG S.E nm fi rf) {a b:List V} {xs:List (List V)} (hlen:a.length+1+b.length<=rf.na) (hrs:rf.rs=[])
 (h:∀ws more,A8 ws xs more->∀yid,rn S.bare lg Qi (.rc rf.body) [] ⟨uM 0 (a.map .v++.yl yid::b.map .v),[],[],ws,more,yid⟩=some ()):dV S f a b xs:=by
 have k:dV S.bare f a b xs:=N4 (S:=S.bare) (c:=lg) (fi:=fi) (nm:=nm) (rf:=rf) (λ_ _ h=>by cases h) (λ_ _ _ _ _ h=>by simp[lg]at h) (λ_ _ _ _ h=>by simp[Sys.bare]at h) hft hN hr hlen hrs (λws more hw yid=>by
  have h1:=h ws more hw yid;change kG S.bare lg Qi rf.body [] _=some ()at h1;rw[tn]at h1;obtain⟨⟨o,st'⟩,h2,h3⟩:=ζg.1 h1;refine⟨o,st',h2,?_,?_,rfl⟩
  .rintro id rfl;simp[Qi]at h3
  .cases o <;> simp[Qi]at h3 <;> exact h3)
 intro ws more hw yid J y Z a' b' H h1 h2 h3 h4 h5;exact k ws more hw yid J ⟨y.uR,y.yield⟩ Z a' b' H h1 h2 h3 h4 h5
open Classical in
noncomputable def vo (P:FuncId->List V->List V->List (List V)->Prop) (f:FuncId) (a b:List V):Option (List (List V)):=if h:∃xs,P f a b xs then some (Classical.choose h)else none
theorem Ht {P:FuncId->List V->List V->List (List V)->Prop} {f:FuncId} {a b:List V} {xs:List (List V)} (h:P f a b xs) (hu:∀ys,P f a b ys->ys=xs):vo P f a b=some xs:=by
 have h1:∃xs,P f a b xs:=⟨xs,h⟩;unfold vo;rw[dif_pos h1,hu _ (Classical.choose_spec h1)]
theorem GX {P:FuncId->List V->List V->List (List V)->Prop} {f:FuncId} {a b:List V} {xs:List (List V)} (h:vo P f a b=some xs):P f a b xs:=by
 unfold vo at h;split at h
 .rename_i h1;cases h;exact Classical.choose_spec h1
 .cases h
theorem Qd {E:Env} {nm:FuncId->Option Nat} {f:FuncId} {rf:RF}
 (h:((E.ft f).bind λfi=>(aL ⟨E,nm,fi.ntmps⟩ false fi.body).bind λc=>(fi.results.mapM (ya E)).bind λrs=>some (c,rs,fi.ntmps))=some (erase rf.body,rf.rs,rf.na)):∃fi,E.ft f=some fi/\vG E nm fi rf:=by
 obtain⟨fi,h1,h2⟩:=ζg.1 h;obtain⟨c,h3,h4⟩:=ζg.1 h2;obtain⟨rs,h5,h6⟩:=ζg.1 h4;simp only[ζa,ζc]at h6;obtain⟨rfl,rfl,h7⟩:=h6;exact⟨fi,h1,h3,h5,h7.symm⟩
theorem xH {n m:Nat} (h:n<=m) {x:V} (hx:V.lvl n x=true):V.lvl m x=true:=by
 induction h with
 | refl=>exact hx
 | step _ ih=>exact xu ih
theorem yd {n m:Nat} (h:n<=m) {x:List V} (hx:V.bU n x=true):V.bU m x=true:=by
 induction h with
 | refl=>exact hx
 | step _ ih=>exact pH ih
theorem Lh {n m:Nat} (h:n<=m) {x:List (List V)} (hx:V.k_ n x=true):V.k_ m x=true:=by
 induction h with
 | refl=>exact hx
 | step _ ih=>exact Ac ih
theorem N0 {n m:Nat} (h:n<=m) {x:List (V×V)} (hx:V.mY n x=true):V.mY m x=true:=by
 induction h with
 | refl=>exact hx
 | step _ ih=>exact Bz ih
mutual
theorem xx:∀x:V,∃n,V.lvl n x=true
 | .fsl es xs=>let ⟨n,h⟩:=EH xs;⟨n+1,by simp only[V.lvl];exact h⟩
 | .fptr cs=>let ⟨n,h⟩:=qJ cs;⟨n+1,by simp only[V.lvl];exact h⟩
 | .fmap kvs=>let ⟨n,h⟩:=Gr kvs;⟨n+1,by simp only[V.lvl];exact h⟩
 | .agg cs=>let ⟨n,h⟩:=qJ cs;⟨n+1,by simp only[V.lvl];exact h⟩
 | .tup cs=>let ⟨n,h⟩:=qJ cs;⟨n+1,by simp only[V.lvl];exact h⟩
 | .clo f a b=>let ⟨n,h⟩:=qJ a;let ⟨m,k⟩:=qJ b;⟨max n m+1,by simp only[V.lvl,ζh];exact⟨yd (Nat.le_max_left _ _) h,yd (Nat.le_max_right _ _) k⟩⟩
 | .bool _|.int ..|.str _|.fE|.en|.pJ|.cK|.aG|.hsl ..|.hptr ..|.yld _|.hmap _=>⟨0,rfl⟩
theorem qJ:∀x:List V,∃n,V.bU n x=true
 | []=>⟨0,by simp only[V.bU]⟩
 | a::l=>let ⟨n,h⟩:=xx a;let ⟨m,k⟩:=qJ l;⟨max n m,by simp only[V.bU,ζh];exact⟨xH (Nat.le_max_left _ _) h,yd (Nat.le_max_right _ _) k⟩⟩
theorem EH:∀x:List (List V),∃n,V.k_ n x=true
 | []=>⟨0,by simp only[V.k_]⟩
 | a::l=>let ⟨n,h⟩:=qJ a;let ⟨m,k⟩:=EH l;⟨max n m,by simp only[V.k_,ζh];exact⟨yd (Nat.le_max_left _ _) h,Lh (Nat.le_max_right _ _) k⟩⟩
theorem Gr:∀x:List (V×V),∃n,V.mY n x=true
 | []=>⟨0,by simp only[V.mY]⟩
 | (a,b)::l=>let ⟨n,h⟩:=xx a;let ⟨m,k⟩:=xx b;let ⟨q,p⟩:=Gr l;⟨max n (max m q),by simp only[V.mY,ζh];exact⟨⟨xH (by omega) h,xH (by omega) k⟩,N0 (by omega) p⟩⟩
end
theorem FR.nH {H:aq} {Z Z':Nat->Prop} {x y z:V} (h:FR H Z x z) (k:FR H Z' y z):x=y:=by
 obtain⟨n,hn⟩:=xx x;obtain⟨m,hm⟩:=xx y;have e1:=h.borrow (max n m) (xH (Nat.le_max_left _ _) hn);have e2:=k.borrow (max n m) (xH (Nat.le_max_right _ _) hm);rw[e1]at e2;exact Option.some.inj e2
open Classical in
noncomputable def xQ (E:Env) (f:FuncId) (az:List V):Option V:=if h:∃y,uK E f az y then some (Classical.choose h)else none
theorem IV {E:Env} {f:FuncId} {az:List V} {y:V} (h:xQ E f az=some y):uK E f az y:=by
 unfold xQ at h;split at h
 .rename_i h1;cases h;exact Classical.choose_spec h1
 .cases h
theorem uF {E:Env} {f:FuncId} {az:List V} {y:V} (h:uK E f az y):xQ E f az=some y:=by
 have h1:∃y,uK E f az y:=⟨y,h⟩;unfold xQ;rw[dif_pos h1];obtain⟨n,z,H,Z,k1,k2,_⟩:=h;obtain⟨n',z',H',Z',k3,k4,_⟩:=Classical.choose_spec h1;have e1:=lH E (Nat.le_max_left n n') _ _ _ _ k1;have e2:=lH E (Nat.le_max_right n n') _ _ _ _ k3;rw[e1]at e2;cases e2;rw[FR.nH k4 k2]
theorem FA {E:Env} {f:FuncId} {az:List V} {y:V} (hs:V.scalar y=true) (h:∃n H',run E n (.fn f) az []=some (y,H')):uK E f az y:=by
 obtain⟨n,H',h⟩:=h;exact⟨n,y,H',λ_=>False,h,.same _ (mX hs),λ_ h=>h.elim,⟨λ_ _ _ h=>h.elim⟩⟩
end Go.VE
