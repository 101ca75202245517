/-
 Plain values and the steps of a certificate.
-/
import Derived.KernelRfl
import Derived.Test.YtdoibkkdaojjpaaGreatN2
set_option linter.all false
namespace Go.VE
variable [aS]
inductive Sl (α:Type) where
 | nil
 | emp
 | row (l:List α)
 | part (l:List α)
 deriving Inhabited
def Sl.l {α:Type}:Sl α->List α
 | .nil|.emp=>[]
 | .row l|.part l=>l
def Sl.k {α:Type}:Sl α->Fl
 | .nil=>.nil
 | .emp=>.emp
 | .row _=>.row
 | .part _=>.part
class aA (α:Type) where
 cells:α->List V
 agg:Bool
 size:Nat
 len:∀a,(cells a).length=size
 good:∀a,V.bF (cells a)=true
 one:∀a,(cells a).all V.one=true
 plain:agg=false->size=1
def cells {α:Type} [aA α] (a:α):List V:=aA.cells a
def enc {α:Type} [aA α] (a:α):V:=if aA.agg α then .agg (cells a)else(cells a).headD .undef
def rows {α:Type} [aA α] (l:List α):List (List V):=l.map cells
def aU {α:Type} [aA α] (s:Sl α):V:=mA s.k (aA.size α) (rows s.l)
instance:aA Int where
 cells n:=[.int .i64 n]
 agg:=false
 size:=1
 len _:=rfl
 good _:=rfl
 one _:=rfl
 plain _:=rfl
instance:aA Bool where
 cells b:=[.bool b]
 agg:=false
 size:=1
 len _:=rfl
 good _:=rfl
 one _:=rfl
 plain _:=rfl
instance:aA ByteArray where
 cells s:=[.str s]
 agg:=false
 size:=1
 len _:=rfl
 good _:=rfl
 one _:=rfl
 plain _:=rfl
structure aa where
 proc:Int
 index:Int
 deriving DecidableEq,Inhabited
instance:aA aa where
 cells x:=[.int .i64 x.proc,.int .i64 x.index]
 agg:=true
 size:=2
 len _:=rfl
 good _:=rfl
 one _:=rfl
 plain h:=by cases h
@[simp] theorem UN (n:Int):enc n=.int .i64 n:=rfl
@[simp] theorem UB (n:Bool):enc n=.bool n:=rfl
@[simp] theorem UJ (n:ByteArray):enc n=.str n:=rfl
@[simp] theorem TB (n:Int):cells n=[.int .i64 n]:=rfl
@[simp] theorem SQ (n:Bool):cells n=[.bool n]:=rfl
@[simp] theorem Tn (n:ByteArray):cells n=[.str n]:=rfl
@[simp] theorem Uv (n:aa):cells n=[.int .i64 n.proc,.int .i64 n.index]:=rfl
@[simp] theorem Rt (n:aa):enc n=.agg [.int .i64 n.proc,.int .i64 n.index]:=rfl
section
variable {α:Type} [aA α]
theorem eC (l:List α):(rows l).length=l.length:=by simp[rows]
def idx (s:Sl α) (i:Int):Option α:=if 0<=i then s.l[i.toNat]? else none
theorem Lu {N:Nat->FuncId} (s:Sl α) (k:IntKind) (i:Int) {n:Nat} (hn:n=aA.size α):aj N (.idxS n) [aU s,.int k i]=(idx s i).map λx=>.fptr (cells x):=by
 subst hn;unfold idx aU;simp only[aj,jV]
 by_cases h:i<0
 .rw[if_pos h,if_neg (by omega)];rfl
 .rw[if_neg h,if_pos (by omega)]
  cases s <;> simp[Sl.k,Sl.l,mA,rows,Function.comp_def]
theorem IQ {N:Nat->FuncId} (s:Sl α):aj N .lenSl [aU s]=some (.int .i64 s.l.length):=by
 cases s <;> simp[aj,mq,aU,Sl.k,Sl.l,mA,eC]
end
section
variable {S:Sys} {c:bG}
end
end Go.VE
namespace Go.VE
variable [aS]
section
variable {S:Sys} {c:bG}
def isSlice:tZ->Bool
 | .slice ..=>true
 | _=>false
theorem M8 (dr:Bool) (fr:List Nat) (dst:Option Nat) (now:Bool) (p:tZ) (az:List Arg) (st:St) (h:isSlice p=false) :
 d_ S c dr fr ⟨dst,none,now,.p p,az,[],[]⟩ st=(aW S.N st.g az).bind λsvs=>(iI S.N st.m p svs).bind λx=>some (bV st dst x):=by
 unfold d_ mZ;have hy:eO S.N st.g ⟨dst,none,now,.p p,az,[],[]⟩=none:=by unfold eO;cases p <;> rfl
 simp only[wanted,hy]
 cases hs:aW S.N st.g az with
 | none=>rfl
 | some svs=>
  simp only[ζb];cases p <;> first|(simp[isSlice]at h;done)|(cases hp:iI S.N st.m _ svs <;> simp[hp])
theorem Gw (N:Nat->FuncId) (m:Tb aL) (p:tZ) (svs:List SV) (xs:List V) (h:cV svs=some xs):iI N m p svs=(aj N p xs).bind λx=>some (.v x):=by
 unfold iI;rw[h];dsimp only;cases aj N p xs <;> rfl
theorem uL (dr:Bool) (fr:List Nat) (dst:Option Nat) (now:Bool) (q:Gu) (az:List Arg) (st:St) :
 d_ S c dr fr ⟨dst,none,now,.r q,az,[],[]⟩ st=(aW S.N st.g az).bind λsvs=>if !dr||now||c6 fr svs then(jc st.m q svs).bind λx=>some (bV st dst x)else none:=by
 unfold d_ mZ;have hy:eO S.N st.g ⟨dst,none,now,.r q,az,[],[]⟩=none:=rfl;simp only[wanted,hy]
 cases hs:aW S.N st.g az with
 | none=>rfl
 | some svs=>
  simp only[ζb];split
  .cases hp:jc st.m q svs <;> simp
  .rfl
theorem yL (dr:Bool) (fr:List Nat) (d:Nat) (now:Bool) (q:Jw) (az:List Arg) (st:St) :
 d_ S c dr fr ⟨some d,none,now,.a q,az,[],[]⟩ st=(aW S.N st.g az).bind λsvs=>if st.new d then(ni st.m q svs d).bind λr=>some { st with g:=aO st.g d r.2,m:=aO st.m d r.1 } else none:=by
 unfold d_ mZ;have hy:eO S.N st.g ⟨some d,none,now,.a q,az,[],[]⟩=none:=rfl;simp only[wanted,hy]
 cases hs:aW S.N st.g az with
 | none=>rfl
 | some svs=>
  simp only[ζb];split
  .cases hp:ni st.m q svs d <;> simp[bV]
  .rfl
theorem qx (dr:Bool) (fr:List Nat) (dst:Option Nat) (now:Bool) (q:Gg) (az:List Arg) (st:St) :
 d_ S c dr fr ⟨dst,none,now,.l q,az,[],[]⟩ st=(aW S.N st.g az).bind λsvs=>if !dr||now then(lp st dst q svs).bind λr=>some (bV r.2 dst r.1)else none:=by
 unfold d_ mZ;have hy:eO S.N st.g ⟨dst,none,now,.l q,az,[],[]⟩=none:=rfl;simp only[wanted,hy]
 cases hs:aW S.N st.g az with
 | none=>rfl
 | some svs=>
  simp only[ζb];split
  .cases hp:lp st dst q svs <;> simp
  .rfl
def oN:List SV->Option (FuncId×List SV)
 | .clo f a b::vs=>some (f,a++vs++b)
 | .v (.clo f a b)::vs=>some (f,a.map .v++vs++b.map .v)
 | _=>none
theorem Dr (dr:Bool) (fr:List Nat) (dst:Option Nat) (now:Bool) (az:List Arg) (st:St) (svs:List SV) (f:FuncId) (args:List SV) (hs:aW S.N st.g az=some svs) (hc:oN svs=some (f,args)) :
 d_ S c dr fr ⟨dst,none,now,.c,az,[],[]⟩ st=(fQ S c dst dr (!dr||now) (fA st.m fr) f args st).bind λr=>some (bV r.2 dst r.1):=by
 unfold d_ mZ;unfold oN at hc;split at hc
 .simp only[ζa,ζc]at hc;obtain⟨rfl,rfl⟩:=hc;simp only[wanted,eO,hs];cases fQ S c dst dr _ _ _ _ st <;> simp
 .simp only[ζa,ζc]at hc;obtain⟨rfl,rfl⟩:=hc;simp only[wanted,eO,hs];cases fQ S c dst dr _ _ _ _ st <;> simp
 .simp at hc
noncomputable def K1 {β:Type} (S:Sys) (c:bG) (fr:List Nat) (l:List RO) (k:St->Option β):St->Option β:=λst=>(lE S c false fr l st).bind k
noncomputable def Lk {β:Type} (S:Sys) (c:bG) (fr:List Nat) (l:List RO) (k:St->Option β):St->Option β:=λst=>(lE S c true fr l st).bind k
noncomputable def QB {β:Type} (S:Sys) (c:bG) (fr dd:List Nat) (l:List RO) (k:St->Option β):St->Option β:=λst=>K1 S c fr l k (nP dd st)
noncomputable def PE {β:Type} (S:Sys) (c:bG) (fr dd:List Nat) (l:List RO) (k:St->Option β):St->Option β:=λst=>Lk S c fr l k (nP dd st)
@[congr] theorem Sm {β:Type} {fr:List Nat} {l:List RO} {k:St->Option β} {st st':St} (h:st=st'):K1 S c fr l k st=K1 S c fr l k st':=by rw[h]
@[congr] theorem R9 {β:Type} {fr fr':List Nat} {l:List RO} {k:St->Option β} {st st':St} (hf:fr=fr') (h:st=st'):Lk S c fr l k st=Lk S c fr' l k st':=by rw[h,hf]
@[congr] theorem SA {β:Type} {fr dd:List Nat} {l:List RO} {k:St->Option β} {st st':St} (h:st=st'):QB S c fr dd l k st=QB S c fr dd l k st':=by rw[h]
@[congr] theorem SK {β:Type} {fr fr' dd:List Nat} {l:List RO} {k:St->Option β} {st st':St} (hf:fr=fr') (h:st=st'):PE S c fr dd l k st=PE S c fr' dd l k st':=by rw[h,hf]
@[congr] theorem TI {dr:Bool} {fr:List Nat} {o:RO} {st st':St} (h:st=st'):d_ S c dr fr o st=d_ S c dr fr o st':=by rw[h]
end
section
variable {S:Sys} {c:bG} (dr:Bool) (fr:List Nat) (dst:Option Nat) (now:Bool) (az:List Arg) (st:St)
end
end Go.VE
namespace Go.VE
variable [aS]
inductive Fm where
 | seq (b:RC)
 | blk (id:Nat)
 | gst (x:Gh)
section
variable (S:Sys) (c:bG) {β:Type} (Q:Out×St->Option β)
noncomputable def runK:List Fm->Out×St->Option β
 | [],r=>Q r
 | .seq b::fs,(.norm,st)=>(bz S c b st).bind (runK fs)
 | .seq _::fs,r=>runK fs r
 | .blk id::fs,(.exit k,st)=>if k=id then runK fs (.norm,st)else runK fs (.exit k,st)
 | .blk _::fs,r=>runK fs r
 | .gst x::fs,(.norm,st)=>(ghost x st).bind λst=>runK fs (.norm,st)
 | .gst _::fs,r=>runK fs r
noncomputable def go (rc:RC) (fs:List Fm) (st:St):Option β:=(bz S c rc st).bind (runK S c Q fs)
noncomputable def MZ (fs:List Fm):St->Option β:=λst=>runK S c Q fs (.norm,st)
def ay {α:Type} (t:Bool) (a b:α):α:=if t then a else b
end
@[congr] theorem T9 {α:Type} {t t':Bool} {a b a' b':α} (h:t=t') (ha:t'=true->a=a') (hb:t'=false->b=b'):ay t a b=ay t' a' b':=by
 subst h;cases t
 .exact hb rfl
 .exact ha rfl
section
variable {S:Sys} {c:bG} {β:Type} {Q:Out×St->Option β}
@[congr] theorem go_congr {a:RC} {fs:List Fm} {st st':St} (h:st=st'):go S c Q a fs st=go S c Q a fs st':=by rw[h]
@[congr] theorem R6 {fs:List Fm} {st st':St} (h:st=st'):MZ S c Q fs st=MZ S c Q fs st':=by rw[h]
@[congr] theorem SC {fs:List Fm} {r r':Out×St} (h:r=r'):runK S c Q fs r=runK S c Q fs r':=by rw[h]
theorem DO (rc:RC) (st:St):(bz S c rc st).bind Q=go S c Q rc [] st:=by
 simp only[go];cases bz S c rc st <;> rfl
inductive Fw (ν ε ρ:Type) where
 | n (a:ν)
 | x (e:ε)
 | r (b:ρ)
def hG {σ ε ρ:Type} (step:σ->Option (Fw σ ε ρ)):Nat->σ->Option (Fw Empty ε ρ)
 | 0,_=>none
 | k+1,s=>match step s with
  | some (.n s')=>hG step k s'
  | some (.x e)=>some (.x e)
  | some (.r b)=>some (.r b)
  | none=>none
theorem uS {σ ε ρ:Type} {step:σ->Option (Fw σ ε ρ)}:∀{k k':Nat} {s:σ} {r:Fw Empty ε ρ},k<=k'->hG step k s=some r->hG step k' s=some r
 | 0,_,_,_,_,h=>by simp[hG]at h
 | k+1,0,_,_,hk,_=>by omega
 | k+1,k'+1,s,r,hk,h=>by
  simp only[hG]at h ⊢;split at h
  .exact uS (Nat.le_of_succ_le_succ hk) h
  .exact h
  .exact h
  .simp at h
open Classical in
noncomputable def aZ {σ ε ρ:Type} (step:σ->Option (Fw σ ε ρ)) (s:σ):Option (Fw Empty ε ρ):=
 if h:∃k r,hG step k s=some r then some (Classical.choose (Classical.choose_spec h))else none
theorem mz {σ ε ρ:Type} {step:σ->Option (Fw σ ε ρ)} {s:σ} {r:Fw Empty ε ρ}:aZ step s=some r↔∃k,hG step k s=some r:=by
 unfold aZ;constructor
 .intro h;split at h
  .rename_i hx;simp only[ζa]at h;exact⟨_,by rw[<-h];exact Classical.choose_spec (Classical.choose_spec hx)⟩
  .simp at h
 .rintro⟨k,hk⟩;have hx:∃k r,hG step k s=some r:=⟨k,r,hk⟩;rw[dif_pos hx];have h2:=Classical.choose_spec (Classical.choose_spec hx);have h3:=uS (Nat.le_max_left (Classical.choose hx) k) h2;have h4:=uS (Nat.le_max_right (Classical.choose hx) k) hk;rw[h3]at h4;exact h4
def Fw.out {ν ε ρ:Type} (eν:ν->St) (eε:ε->Nat×St) (eρ:ρ->St):Fw ν ε ρ->Out×St
 | .n a=>(.norm,eν a)
 | .x e=>(.exit (eε e).1,(eε e).2)
 | .r b=>(.ret,eρ b)
def Fw.elim {ε ρ γ:Type} (fx:ε->γ) (fr:ρ->γ):Fw Empty ε ρ->γ
 | .x e=>fx e
 | .r b=>fr b
end
end Go.VE
namespace Go.VE
variable [aS]
class Lv (n:Nat) (α:Type) [aA α]:Prop where
 lv:∀a:α,V.bU n (cells a)=true
instance {n:Nat}:Lv n Int:=⟨λ_=>by cases n <;> rfl⟩
instance {n:Nat}:Lv n Bool:=⟨λ_=>by cases n <;> rfl⟩
instance {n:Nat}:Lv n ByteArray:=⟨λ_=>by cases n <;> rfl⟩
instance {n:Nat}:Lv n aa:=⟨λ_=>by cases n <;> rfl⟩
section
variable {α:Type} [aA α]
theorem CT (s:Sl α):V.one (aU s)=true:=by cases s <;> rfl
theorem J5 (l:List α):V.mX (rows l)=true:=by
 induction l with
 | nil=>rfl
 | cons a l ih=>simp only[rows,List.map_cons,V.mX,ζh];exact⟨aA.good a,ih⟩
theorem Hi (s:Sl α):V.good (aU s)=true:=by
 cases s <;> simp only[aU,Sl.k,mA,V.good] <;> exact J5 _
theorem Ld {n:Nat} [Lv n α] (l:List α):V.lS n (rows l)=true:=by
 induction l with
 | nil=>cases n <;> rfl
 | cons a l ih=>simp only[rows,List.map_cons,V.lS,ζh];exact⟨Lv.lv a,ih⟩
theorem B8 {n:Nat} [Lv n α] (s:Sl α):V.lvl (n+1) (aU s)=true:=by
 cases s <;> simp only[aU,Sl.k,mA,V.lvl] <;> exact Ld _
instance:aA (Sl α) where
 cells s:=[aU s]
 agg:=false
 size:=1
 len _:=rfl
 good s:=by simp only[V.bF,Hi,Bool.and_self]
 one s:=by simp[CT]
 plain _:=rfl
instance {n:Nat} [Lv n α]:Lv (n+1) (Sl α):=⟨λs=>by
 show V.bU (n+1) [aU s]=true;simp only[V.bU,B8,Bool.and_self]⟩
end
theorem N_ (n:Nat) (cs:List V):V.lvl (n+1) (.agg cs)=V.bU n cs:=rfl
theorem NO (n:Nat) (cs:List V):V.lvl (n+1) (.tup cs)=V.bU n cs:=rfl
theorem Mq (n:Nat) (cs:List V):V.lvl (n+1) (.fptr cs)=V.bU n cs:=rfl
theorem OM (n:Nat) (f:FuncId) (a b:List V):V.lvl (n+1) (.clo f a b)=(V.bU n a&&V.bU n b):=rfl
theorem oA (n:Nat) (k:IntKind) (x:Int):V.lvl n (.int k x)=true:=by cases n <;> rfl
theorem mL (n:Nat) (x:Bool):V.lvl n (.bool x)=true:=by cases n <;> rfl
theorem oK (n:Nat) (x:ByteArray):V.lvl n (.str x)=true:=by cases n <;> rfl
theorem NG (n:Nat):V.lvl n .aF=true:=by cases n <;> rfl
theorem OP (n:Nat):V.lvl n .cI=true:=by cases n <;> rfl
theorem LN (n:Nat):V.lvl n .fD=true:=by cases n <;> rfl
theorem ig (n:Nat):V.bU n []=true:=by cases n <;> rfl
theorem fT (n:Nat) (x:V) (r:List V):V.bU n (x::r)=(V.lvl n x&&V.bU n r):=by cases n <;> rfl
section
variable {S:Sys} {c:bG}
def IV (x:Option SV) (b:Bool) (y z:Option St):Option St:=
 match x with
 | some (.v (.bool t))=>ay (t==b) y z
 | some (.v _)=>z
 | _=>none
@[congr] theorem P_ {x x':Option SV} {b:Bool} {y z:Option St} (h:x=x'):IV x b y z=IV x' b y z:=by rw[h]
def Nv {β:Type} (x:Option SV) (y z:Option β):Option β:=
 match x with
 | some (.v (.bool t))=>ay t y z
 | _=>none
@[congr] theorem R2 {β:Type} {x x':Option SV} {y z:Option β} (h:x=x'):Nv x y z=Nv x' y z:=by rw[h]
def kY (c:bG) (f:FuncId) (az:List V):Option (List V):=(c f (az.map .v) []).bind λr=>bW r.2 8 r.1
def I4 (dr:Bool) (ok:Bool) (st:St) (ys:List V):Option (SV×St):=
 if V.lvl 8 (result ys)&&((result ys).scalar||ok)then some (.v (result ys),st)else none
theorem NL (dst:Option Nat) (dr now:Bool) (old:List SV->Bool) (f:FuncId) (args:List SV) (st:St) (hk:S.E.keep f=false) :
 fQ S c dst dr now old f args st=(bW st.m 8 args).bind λaz=>if V.bU 8 az&&(now||old args)then(kY c f az).bind (I4 dr (cV args).isSome st)else none:=by
 unfold fQ kY;simp only[hk,Bool.false_eq_true,if_false]
 cases bW st.m 8 args with
 | none=>rfl
 | some az=>
  simp only[ζb];split
  .cases c f (az.map .v) []with
   | none=>rfl
   | some r=>
    obtain⟨rs,m'⟩:=r;simp only[ζb];cases bW m' 8 rs <;> rfl
  .rfl
end
section
variable {S:Sys} {T:qM}
def D1 (rs:List RV):Out×St->Option (List V)
 | (.exit _,_)=>none
 | (_,st)=>(mN st rs).bind (bW st.m 8)
theorem KL {f:FuncId} {rf:RF} (hT:T f=some rf) (az:List V) (hn:az.length<=rf.na):kY (cz S T) f az=go S (cz S T) (D1 rf.rs) rf.body [] (start (az.map .v) []):=by
 unfold kY;rw[zJ hT];unfold oJ;rw[if_pos (by simpa using hn),<-DO]
 cases h:bz S (cz S T) rf.body (start (az.map .v) [])with
 | none=>rfl
 | some r=>
  obtain⟨o,st⟩:=r;cases o <;> simp only[ζb,D1] <;> (try rfl) <;> (cases mN st rf.rs <;> rfl)
end
end Go.VE
namespace Go.VE
variable [aS]
variable {N:Nat->FuncId}
def Vj (a b:Int):Option Int:=if b=0 then none else some (a.tmod b)
def Ve (k:IntKind) (a b:Int):Option Int:=if b<0 then none else some (a.fdiv (2 ^ (min b.toNat k.bits)))
theorem EK (o:Nat) (cs:List V):aj N (.fieldAddr o) [.fptr cs]=if o<=cs.length then some (.fptr (cs.drop o))else none:=rfl
def iV (s:ByteArray) (n:Int):Option Int:=if 0<=n then(s[n.toNat]?).map λb=>(b.toNat:Int)else none
theorem JK (s:ByteArray) (k:IntKind) (n:Int):aj N .idxStr [.str s,.int k n]=(iV s n).bind λx=>some (.int .u8 x):=by
 simp only[aj,iV];split
 .cases s[n.toNat]? <;> rfl
 .rfl
theorem LK (z:List V) (pl:List (Nat×Nat)) (vs:List V):aj N (.build z pl) vs=(jd z pl vs).bind λcs=>some (.agg cs):=by
 simp only[aj];cases jd z pl vs <;> rfl
section
variable {α:Type} [aA α]
theorem BZ (s:Sl α) (k:IntKind) (i:Int) (n:Nat) (hn:n=aA.size α):aj N (.idxS n) [aU s,.int k i]=(idx s i).bind λx=>some (.fptr (cells x)):=by
 rw[Lu s k i hn];cases idx s i <;> rfl
theorem vW (s:Sl α):aj N .lenSl [aU s]=some (.int .i64 s.l.length):=IQ s
def Sl.isNil {α:Type} (s:Sl α):Option Bool:=
 match s with
 | .nil=>some true
 | .emp=>none
 | _=>some false
theorem Lp (q:Option Nat) (s:Sl α):aj N (.bin (some .slice) q .eql) [aU s,.aF]=s.isNil.bind λt=>some (.bool t):=by
 cases s <;> rfl
def eH (s:Sl α) (lo hi:Option Int):Option (Sl α):=
 (cE s.l.length lo hi).map λ(l,h)=>match s with
  | .nil=>.nil
  | .emp=>.emp
  | .row x=>.part ((x.take h).drop l)
  | .part x=>.part ((x.take h).drop l)
theorem Ig (s:Sl α) (lo hi:Option Int) (n:Nat) (hn:n=aA.size α):fL n (aU s) lo hi=(eH s lo hi).bind λx=>some (aU x):=by
 subst hn
 cases s with
 | nil=>simp only[aU,Sl.k,mA,fL,eH,Sl.l,List.length_nil];cases cE 0 lo hi <;> rfl
 | emp=>simp only[aU,Sl.k,mA,fL,eH,Sl.l,List.length_nil];cases cE 0 lo hi <;> rfl
 | row l=>simp only[aU,Sl.k,mA,fL,eH,Sl.l,if_true,eC];cases cE l.length lo hi <;> simp[rows,List.map_take,List.map_drop]
 | part l=>simp only[aU,Sl.k,mA,fL,eH,Sl.l,if_true,eC];cases cE l.length lo hi <;> simp[rows,List.map_take,List.map_drop]
end
theorem IT (m:Tb aL) (n:Nat) (a:Bool) (cs:List V):jc m (.load n a) [.v (.fptr cs)]=(cut cs 0 n).bind λr=>(mk a r).bind λx=>some (.v x):=by
 simp only[jc,cN]
 cases cut cs 0 n with
 | none=>rfl
 | some r=>simp only[ζb];cases mk a r <;> rfl
end Go.VE
namespace Go.VE
variable [aS]
section
variable {α:Type} [aA α]
def bZ (s:Sl α):aL:=.sl s.k (aA.size α) (rows s.l)
def Sl.kN (s:Sl α) (i:Int):Option Nat:=if 0<=i/\i.toNat<s.l.length then some i.toNat else none
def Sl.get (s:Sl α) (i:Nat):Option α:=s.l[i]?
def Sl.put (s:Sl α) (i:Nat) (x:α):Option (Sl α):=
 if i<s.l.length then some (match s with|.row l=>.row (l.set i x)|.part l=>.part (l.set i x)|s=>s)else none
def i_ (s:Sl α) (x:α):Option (Sl α):=if s.l.length+1<=2147483648 then some (.row (s.l++[x]))else none
def sG (n:Int) (z:α):Option (Sl α):=if 0<=n/\n<=2147483648 then some (.row (List.replicate n.toNat z))else none
end
section
variable {α:Type} [aA α] {N:Nat->FuncId} {m:Tb aL}
def Hr (n d:Nat) (o:Option aL) (i:Int):Option SV:=
 match o with
 | some (.sl k es xs)=>if bA k/\es=n/\0<=i/\i.toNat<xs.length then some (.el d i.toNat 0)else none
 | _=>none
theorem N6 (n d:Nat) (k:IntKind) (i:Int):iI N m (.idxS n) [.own d,.v (.int k i)]=Hr n d (ai m d) i:=by
 simp only[iI,cV,uB,Hr]
 cases ai m d with
 | none=>rfl
 | some o=>cases o <;> rfl
theorem O5 (n d:Nat) (s:Sl α) (i:Int) (h:n=aA.size α):Hr n d (some (bZ s)) i=(s.kN i).bind λj=>some (.el d j 0):=by
 subst h;simp only[Hr,bZ,eC,true_and,Sl.kN]
 cases s with
 | nil=>simp[Sl.l,Sl.k,bA]
 | emp=>simp[Sl.l,Sl.k,bA]
 | row l=>simp only[Sl.k,Sl.l,bA,true_and];by_cases h:0<=i/\i.toNat<l.length <;> simp[h]
 | part l=>simp only[Sl.k,Sl.l,bA,true_and];by_cases h:0<=i/\i.toNat<l.length <;> simp[h]
def GP (o:Option aL):Option SV:=
 match o with
 | some (.sl _ _ xs)=>some (.v (.int .i64 xs.length))
 | _=>none
theorem Mm (d:Nat):iI N m .lenSl [.own d]=GP (ai m d):=by
 simp only[iI,cV,uB,GP]
 cases ai m d with
 | none=>rfl
 | some o=>cases o <;> rfl
theorem OG (s:Sl α):GP (some (bZ s))=some (.v (.int .i64 s.l.length)):=by simp[GP,bZ,eC]
def IA (n:Nat) (a:Bool) (o:Nat) (ob:Option aL):Option SV:=
 match ob with
 | some (.box cs)=>rV n a ((cs.drop o).take n)
 | _=>none
theorem UG (n:Nat) (a:Bool) (d o:Nat):jc m (.load n a) [.ptr d o]=IA n a o (ai m d):=by
 simp only[jc,IA];rfl
theorem Ko (n:Nat) (a:Bool) (o:Nat) (cs:List SV):IA n a o (some (.box cs))=rV n a ((cs.drop o).take n):=rfl
def Br (n:Nat) (a:Bool) (i o:Nat) (ob:Option aL):Option SV:=
 match ob with
 | some (.sl _ _ xs)=>match xs[i]? with
  | some cs=>((cut cs o n).bind (mk a)).map .v
  | none=>none
 | _=>none
theorem SR (n:Nat) (a:Bool) (d i o:Nat):jc m (.load n a) [.el d i o]=Br n a i o (ai m d):=by
 simp only[jc,Br];rfl
theorem Kd (n:Nat) (a:Bool) (i o:Nat) (s:Sl α):Br n a i o (some (bZ s))=(s.get i).bind λx=>(cut (cells x) o n).bind λr=>(mk a r).bind λy=>some (.v y):=by
 simp only[Br,bZ,Sl.get,rows,List.getElem?_map]
 cases s.l[i]? with
 | none=>rfl
 | some x=>
  simp only[Option.map_some,ζb]
  cases cut (cells x) o n with
  | none=>rfl
  | some r=>simp only[ζb];cases mk a r <;> rfl
theorem SY (z:α) (n:Int) (d:Nat) (size:Nat) (zero:List V) (h:zero=cells z) (h2:size=aA.size α) :
 ni m (.makeSl size zero) [.v (.int .i64 n),.v (.int .i64 n)] d=(sG n z).bind λs=>some (bZ s,.own d):=by
 subst h h2;simp only[ni,sG,true_and,Int.le_refl];split
 .simp[bZ,Sl.k,Sl.l,rows,List.map_replicate]
 .rfl
def yA (st:St) (d i o size:Nat) (x:V) (ob:Option aL):Option (SV×St):=
 match ob with
 | some (.sl k es xs)=>match xs[i]? with
  | some cs=>if x.cells.length=size/\o+size<=cs.length/\x.cells.all V.one=true then
   some (.v .undef,{ st with m:=aO st.m d (.sl k es (xs.set i (cs.take o++x.cells++cs.drop (o+x.cells.length)))) })else none
  | none=>none
 | _=>none
theorem GU (st:St) (dst:Option Nat) (size d i o:Nat) (x:V):lp st dst (.store size) [.el d i o,.v x]=yA st d i o size x (ai st.m d):=by
 simp only[lp,yA];rfl
theorem ID (g:Tb SV) (p:List Nat) (w:List (List V)) (mo:Bool) (y:Nat) (d i size:Nat) (x:V) (a:α) (hx:x.cells=cells a) (hs:size=aA.size α) (s:Sl α) :
 yA ⟨g,m,p,w,mo,y⟩ d i 0 size x (some (bZ s))=(s.put i a).bind λs'=>some (.v .undef,⟨g,aO m d (bZ s'),p,w,mo,y⟩):=by
 have h1:(cells a).all V.one=true:=aA.one a;have hl:∀b:α,(cells b).length=aA.size α:=aA.len;subst hs;simp only[yA,bZ,rows,List.getElem?_map,hx,Sl.put]
 by_cases hi:i<s.l.length
 .have hg:s.l[i]? = some s.l[i]:=ζd hi;rw[if_pos hi,hg];simp only[Option.map_some,hl,h1,ζb];rw[if_pos ⟨trivial,by omega,trivial⟩]
  cases s with
  | nil=>simp[Sl.l]at hi
  | emp=>simp[Sl.l]at hi
  | row l=>simp[Sl.k,Sl.l,rows,List.drop_of_length_le,hl,List.map_set]
  | part l=>simp[Sl.k,Sl.l,rows,List.drop_of_length_le,hl,List.map_set]
 .rw[if_neg hi,List.getElem?_eq_none (by omega)];rfl
def qa (st:St) (t n:Nat) (s:SV) (xs ys:Option (List (List V))):Option (SV×St):=
 match xs,ys with
 | some _,some []=>match s with
  | .own d=>match ai st.m d with
   | some ob=>if St.new { st with m:=cM d st.m } t then some (.own t,{ st with m:=aO (cM d st.m) t ob })else none
   | none=>none
  | .v .aF=>if st.new t then some (.own t,{ st with m:=aO st.m t (.sl .nil n []) })else none
  | .v .cI=>if st.new t then some (.own t,{ st with m:=aO st.m t (.sl .emp n []) })else none
  | _=>none
 | some xs,some ys=>
  if xs.length+ys.length<=2147483648/\zN s=true then
   if St.new { st with m:=giveUp st.m s } t then some (.own t,{ st with m:=aO (giveUp st.m s) t (.sl .row n (xs++ys)) })else none
  else none
 | _,_=>none
theorem xT (st:St) (t n:Nat) (s x:SV):lp st (some t) (.append n) [s,x]=qa st t n s (jf st.m n s) (jf st.m n x):=by
 cases s <;> cases x <;> (simp only[lp,qa];rfl)
def HL (n:Nat) (o:Option aL):Option (List (List V)):=
 match o with
 | some (.sl k es xs)=>if bA k then(if es=n then some xs else none)else some []
 | _=>none
theorem B4 (n d:Nat):jf m n (.own d)=HL n (ai m d):=by
 simp only[jf,HL]
 cases ai m d with
 | none=>rfl
 | some ob=>cases ob <;> rfl
theorem yG (n:Nat) (s:Sl α) (h:n=aA.size α):HL n (some (bZ s))=some (rows s.l):=by
 subst h;cases s <;> simp[HL,bZ,Sl.k,Sl.l,bA,rows]
theorem N5 (n:Nat):jf m n (.v .aF)=some []:=rfl
theorem Oh (n:Nat):jf m n (.v .cI)=some []:=rfl
theorem JA (g:Tb SV) (p:List Nat) (w:List (List V)) (mo:Bool) (y:Nat) (t n d:Nat) (l:List α) (x:α) (h:n=aA.size α):qa ⟨g,m,p,w,mo,y⟩ t n (.own d) (some (rows l)) (some (rows [x])) =
 (i_ (.row l) x).bind λs=>if St.new ⟨g,cM d m,p,w,mo,y⟩ t then some (.own t,⟨g,aO (cM d m) t (bZ s),p,w,mo,y⟩)else none:=by
 subst h;have e:(rows l).length+(rows [x]).length=l.length+1:=by simp[eC]
 by_cases h:l.length+1<=2147483648
 .have h1:i_ (.row l) x=some (.row (l++[x])):=if_pos h;have h2:qa ⟨g,m,p,w,mo,y⟩ t (aA.size α) (.own d) (some (rows l)) (some (rows [x]))=if St.new ⟨g,cM d m,p,w,mo,y⟩ t then some (.own t,⟨g,aO (cM d m) t (.sl .row (aA.size α) (rows l++rows [x])),p,w,mo,y⟩)else none:=if_pos ⟨by omega,rfl⟩
  rw[h1,h2];simp only[ζb,bZ,Sl.k,Sl.l,rows,List.map_append,List.map_cons,List.map_nil]
 .have h1:i_ (.row l) x=none:=if_neg h;have h2:qa ⟨g,m,p,w,mo,y⟩ t (aA.size α) (.own d) (some (rows l)) (some (rows [x]))=none:=if_neg (λq=>h (by omega))
  rw[h1,h2];rfl
theorem J9 (g:Tb SV) (p:List Nat) (w:List (List V)) (mo:Bool) (y:Nat) (t n:Nat) (x:α) (h:n=aA.size α):qa ⟨g,m,p,w,mo,y⟩ t n (.v .aF) (some []) (some (rows [x])) =
 if St.new ⟨g,m,p,w,mo,y⟩ t then some (.own t,⟨g,aO m t (bZ (.row [x])),p,w,mo,y⟩)else none:=by
 subst h;simp[qa,rows,zN,giveUp,bZ,Sl.k,Sl.l];rfl
theorem IM (g:Tb SV) (p:List Nat) (w:List (List V)) (mo:Bool) (y:Nat) (t n:Nat) (x:α) (h:n=aA.size α):qa ⟨g,m,p,w,mo,y⟩ t n (.v .cI) (some []) (some (rows [x])) =
 if St.new ⟨g,m,p,w,mo,y⟩ t then some (.own t,⟨g,aO m t (bZ (.row [x])),p,w,mo,y⟩)else none:=by
 subst h;simp[qa,rows,zN,giveUp,bZ,Sl.k,Sl.l];rfl
end
theorem n_ (g:Tb SV) (m:Tb aL) (p:List Nat) (w:List (List V)) (mo:Bool) (y d:Nat):St.new ⟨g,m,p,w,mo,y⟩ d=(!(p.contains d)&&(ai m d).isNone && !(tn d g) && !(qP d m)):=rfl
theorem jq (d:Nat):tn d []=false:=rfl
theorem iu (d n:Nat) (x:SV) (r:Tb SV):tn d ((n,x)::r)=(SV.bQ d x||tn d r):=rfl
theorem jv (d:Nat):qP d []=false:=rfl
theorem iD (d n:Nat) (x:aL) (r:Tb aL):qP d ((n,x)::r)=(aL.bQ d x||qP d r):=rfl
theorem oa (d:Nat) (x:V):SV.bQ d (.v x)=false:=rfl
theorem kz (d e:Nat):SV.bQ d (.own e)=(e==d):=rfl
theorem kI (d e o:Nat):SV.bQ d (.ptr e o)=(e==d):=rfl
theorem mc (d e i o:Nat):SV.bQ d (.el e i o)=(e==d):=rfl
theorem mg (d e:Nat):SV.bQ d (.mp e)=(e==d):=rfl
theorem kE (d:Nat) (f:FuncId) (a b:List SV):SV.bQ d (.clo f a b)=(SV.cu d a||SV.cu d b):=rfl
theorem kD (d:Nat) (l:List SV):SV.bQ d (.tup l)=SV.cu d l:=rfl
theorem jr (d:Nat):SV.cu d []=false:=rfl
theorem iz (d:Nat) (x:SV) (r:List SV):SV.cu d (x::r)=(SV.bQ d x||SV.cu d r):=rfl
theorem jl (d:Nat) (cs:List SV):aL.bQ d (.box cs)=SV.cu d cs:=rfl
theorem Ct (m:Tb aL) (n:Nat):bW m n []=some []:=by cases n <;> simp only[bW]
theorem Bi (m:Tb aL) (n:Nat) (x:SV) (r:List SV):bW m n (x::r)=(shut m n x).bind λy=>(bW m n r).bind λs=>some (y::s):=by
 cases n <;> (simp only[bW];cases shut m _ x <;> (try rfl) <;> (cases bW m _ r <;> rfl))
theorem Q3 (m:Tb aL) (n:Nat) (x:V):shut m n (.v x)=some x:=by cases n <;> simp only[shut]
theorem LW (m:Tb aL) (n:Nat) (f:FuncId) (a b:List SV):shut m (n+1) (.clo f a b)=(bW m n a).bind λx=>(bW m n b).bind λy=>some (.clo f x y):=by
 simp only[shut];cases bW m n a <;> (try rfl) <;> (cases bW m n b <;> rfl)
theorem LR (m:Tb aL) (n:Nat) (l:List SV):shut m (n+1) (.tup l)=(bW m n l).bind λx=>some (.tup x):=by
 simp only[shut];cases bW m n l <;> rfl
theorem Mj (m:Tb aL) (n:Nat) (l:List SV):shut m (n+1) (.agg l)=(bW m n l).bind λx=>some (.agg x):=by
 simp only[shut];cases bW m n l <;> rfl
theorem kJ {α:Type} (n:Nat):cM n ([]:Tb α)=[]:=rfl
theorem jm {α:Type} (n k:Nat) (x:α) (r:Tb α):cM n ((k,x)::r)=if k=n then cM n r else(k,x)::cM n r:=rfl
theorem mapM_nil (f:List SV->List SV):mapM f []=[]:=rfl
end Go.VE
namespace Go.VE
variable [aS]
section
variable {N:Nat->FuncId} {m:Tb aL}
theorem Oy:result []=.tup []:=rfl
theorem OA (x:V):result [x]=x:=rfl
theorem Om (x y:V) (l:List V):result (x::y::l)=.tup (x::y::l):=rfl
theorem Ej (p:tZ) (a:V):iI N m p [.v a]=(aj N p [a]).bind λx=>some (.v x):=Gw N m p _ [a] rfl
theorem vK (p:tZ) (a b:V):iI N m p [.v a,.v b]=(aj N p [a,b]).bind λx=>some (.v x):=Gw N m p _ [a,b] rfl
theorem pV (l:List V):cV (l.map .v)=some l:=by
 induction l with
 | nil=>rfl
 | cons a l ih=>simp only[List.map_cons,cV,ih];rfl
theorem uF (n:Nat) (l:List V):bW m n (l.map .v)=some l:=by
 induction l with
 | nil=>exact Ct m n
 | cons a l ih=>rw[List.map_cons,Bi,Q3,ih];rfl
theorem Sl.Na {α:Type} (l:List α):(Sl.row l).l=l:=rfl
theorem Cm (cs:List V):jd cs [] []=some cs:=rfl
theorem Ba (cs:List V) (off size:Nat) (pl:List (Nat×Nat)) (v:V) (vs:List V):jd cs ((off,size)::pl) (v::vs) =
 if v.cells.length=size/\off+v.cells.length<=cs.length then jd (cs.take off++v.cells++cs.drop (off+v.cells.length)) pl vs else none:=by
 simp only[jd]
 by_cases h:v.cells.length=size <;> by_cases h2:off+v.cells.length<=cs.length
 .rw[if_neg (by simp[h];omega),if_pos ⟨h,h2⟩]
 .rw[if_pos (by simp[h];omega),if_neg (λq=>h2 q.2)]
 .rw[if_pos (by simp[h]),if_neg (λq=>h q.1)]
 .rw[if_pos (by simp[h]),if_neg (λq=>h q.1)]
theorem EB (k:IntKind) (n:Int):V.cells (.int k n)=[.int k n]:=rfl
theorem BV (n:Bool):V.cells (.bool n)=[.bool n]:=rfl
theorem D4 (n:ByteArray):V.cells (.str n)=[.str n]:=rfl
theorem DL:V.cells .aF=[.aF]:=rfl
theorem nv (k:IntKind) (n:Int):V.one (.int k n)=true:=rfl
theorem lJ (n:Bool):V.one (.bool n)=true:=rfl
theorem nr (n:ByteArray):V.one (.str n)=true:=rfl
end
end Go.VE
namespace Go.VE
variable [aS]
section
variable {S:Sys} {c:bG} {β γ δ:Type} {Q:Out×St->Option β} {L:Option β} {e:γ->Option β}
theorem Ke {dr:Bool} {fr:List Nat} {d:Option Nat} {gd:Option (Nat×Bool)} {now:Bool} {k:K} {az:List Arg} {st:St} (h:wanted st.g gd=some true) :
 d_ S c dr fr ⟨d,gd,now,k,az,[],[]⟩ st=d_ S c dr fr ⟨d,none,now,k,az,[],[]⟩ st:=by
 unfold d_;rw[h];rfl
theorem zA (dr:Bool) (st:St):yd dr [] st=some st:=by cases dr <;> rfl
def kR (f:SV->Option V):List SV->Option (List V)
 | []=>some []
 | x::r=>(f x).bind λy=>(kR f r).bind λs=>some (y::s)
def fH (m:Tb aL):Nat->SV->Option V
 | 0,x=>match x with
  | .v y=>some y
  | .own d=>match ai m d with
   | some (.sl k es xs)=>some (mA k es xs)
   | _=>none
  | .mp d=>match ai m d with
   | some (.mp kvs)=>some (.fmap kvs)
   | _=>none
  | _=>none
 | n+1,x=>match x with
  | .v y=>some y
  | .own d=>match ai m d with
   | some (.sl k es xs)=>some (mA k es xs)
   | _=>none
  | .ptr d o=>match ai m d with
   | some (.box cs)=>match kR (fH m n) cs with
    | some xs=>if o<=xs.length then some (.fptr (xs.drop o))else none
    | none=>none
   | _=>none
  | .mp d=>match ai m d with
   | some (.mp kvs)=>some (.fmap kvs)
   | _=>none
  | .clo f a b=>(kR (fH m n) a).bind λx=>(kR (fH m n) b).bind λy=>some (.clo f x y)
  | .tup l=>(kR (fH m n) l).bind λx=>some (.tup x)
  | .agg l=>(kR (fH m n) l).bind λx=>some (.agg x)
  | _=>none
theorem yD (m:Tb aL):∀(n:Nat),(∀x,shut m n x=fH m n x)/\∀l,bW m n l=kR (fH m n) l:=by
 have hl:∀n,(∀x,shut m n x=fH m n x)->∀l,bW m n l=kR (fH m n) l:=by
  intro n h l
  induction l with
  | nil=>exact Ct m n
  | cons a l ih=>rw[Bi,h a,ih];rfl
 intro n
 induction n with
 | zero=>
  have h0:∀x,shut m 0 x=fH m 0 x:=by
   intro x;cases x <;> simp only[shut,fH] <;> rfl
  exact⟨h0,hl 0 h0⟩
 | succ n ih=>
  have h1:∀x,shut m (n+1) x=fH m (n+1) x:=by
   intro x
   cases x with
   | ptr d o=>simp only[shut,fH,ih.2];rfl
   | clo f a b=>rw[LW,ih.2,ih.2];rfl
   | tup l=>rw[LR,ih.2];rfl
   | agg l=>rw[Mj,ih.2];rfl
   | _=>simp only[shut,fH] <;> rfl
  exact⟨h1,hl _ h1⟩
noncomputable def sL (S:Sys) (c:bG) (dr:Bool):List Nat->List RO->(St->Option β)->St->Option β
 | _,[],k,st=>k st
 | fr,o::r,k,st=>((yd dr o.pre st).bind (d_ S c dr fr o.strip)).bind λst'=>sL S c dr (if dr then pz fr o.strip else fr) r k (nP o.dead st')
theorem BJ (dr:Bool):∀(l:List RO) (fr:List Nat) (k:St->Option β) (st:St),sL S c dr fr l k st=(lE S c dr fr l st).bind k
 | [],_,_,_=>rfl
 | o::r,fr,k,st=>by
  simp only[sL,lE]
  cases (yd dr o.pre st).bind (d_ S c dr fr o.strip)with
  | none=>rfl
  | some st'=>exact BJ dr r _ k _
noncomputable def mw (S:Sys) (c:bG):RC->(St->Option β)->(Nat->St->Option β)->(St->Option β)->St->Option β
 | .skip,n,_,_,st=>n st
 | .ops l,n,_,_,st=>sL S c false [] l n st
 | .mB l,n,_,_,st=>sL S c true [] l n st
 | .seq a b,n,x,r,st=>mw S c a (λst=>mw S c b n x r st) x r st
 | .cond y a b,n,x,r,st=>match oS S.N st.g y with
  | some (.v (.bool t))=>ay t (mw S c a n x r st) (mw S c b n x r st)
  | _=>none
 | .block id a,n,x,r,st=>mw S c a n (λk st=>if k=id then n st else x k st) r st
 | .loop a,n,x,r,st=>(mK (bz S c a) st).bind λq=>match q with|(.norm,st)=>n st|(.exit k,st)=>x k st|(.ret,st)=>r st
 | .each g ps a b,n,x,r,st=>(bz S c (.each g ps a b) st).bind λq=>match q with|(.norm,st)=>n st|(.exit k,st)=>x k st|(.ret,st)=>r st
 | .exit k,_,x,_,st=>x k st
 | .ret,_,_,r,st=>r st
 | .gh g a,n,x,r,st=>(ghost g st).bind λst=>mw S c a n x r st
 | .hg a g,n,x,r,st=>mw S c a (λst=>(ghost g st).bind n) x r st
def BP (n:St->Option β) (x:Nat->St->Option β) (r:St->Option β):Out×St->Option β
 | (.norm,st)=>n st
 | (.exit k,st)=>x k st
 | (.ret,st)=>r st
theorem Bq:∀(rc:RC) (n:St->Option β) (x:Nat->St->Option β) (r:St->Option β) (st:St),mw S c rc n x r st=(bz S c rc st).bind (BP n x r):=by
 intro rc
 induction rc with
 | skip=>intros;rfl
 | ops l=>intro n x r st;simp only[mw,bz,BJ];cases lE S c false [] l st <;> rfl
 | mB l=>intro n x r st;simp only[mw,bz,BJ];cases lE S c true [] l st <;> rfl
 | seq a b iha ihb=>
  intro n x r st;simp only[mw,bz,iha,ihb]
  cases h:bz S c a st with
  | none=>rfl
  | some q=>obtain⟨o,st'⟩:=q;cases o <;> rfl
 | cond y a b iha ihb=>
  intro n x r st;simp only[mw,bz,iha,ihb]
  cases oS S.N st.g y with
  | none=>rfl
  | some v=>cases v with
   | v z=>cases z with
    | bool t=>cases t <;> rfl
    | _=>rfl
   | _=>rfl
 | block id a ih=>
  intro n x r st;simp only[mw,bz,ih]
  cases h:bz S c a st with
  | none=>rfl
  | some q=>
   obtain⟨o,st'⟩:=q
   cases o with
   | exit k=>simp only[ζb,BP];split <;> rfl
   | _=>rfl
 | loop a ih=>
  intro n x r st;simp only[mw,bz];rfl
 | each g ps a b iha ihb=>
  intro n x r st;simp only[mw];rfl
 | exit k=>intros;rfl
 | ret=>intros;rfl
 | gh g a ih=>
  intro n x r st;simp only[mw,bz,ih];cases ghost g st <;> rfl
 | hg a g ih=>
  intro n x r st;simp only[mw,bz,ih]
  cases h:bz S c a st with
  | none=>rfl
  | some q=>
   obtain⟨o,st'⟩:=q
   cases o with
   | norm=>simp only[ζb,BP];cases ghost g st' <;> rfl
   | _=>rfl
section
variable (S c Q)
mutual
noncomputable def lg:List Fm->St->Option β
 | []=>λst=>Q (.norm,st)
 | .seq b::fs=>λst=>mw S c b (lg fs) (kW fs) (λst=>Q (.ret,st)) st
 | .blk _::fs=>lg fs
 | .gst g::fs=>λst=>(ghost g st).bind (lg fs)
noncomputable def kW:List Fm->Nat->St->Option β
 | []=>λk st=>Q (.exit k,st)
 | .seq _::fs=>kW fs
 | .blk id::fs=>λk st=>if k=id then lg fs st else kW fs k st
 | .gst _::fs=>kW fs
end
noncomputable def lC (rc:RC) (fs:List Fm) (st:St):Option β:=mw S c rc (lg S c Q fs) (kW S c Q fs) (λst=>Q (.ret,st)) st
end
section
variable {dr:Bool} {fr:List Nat} {d:Nat} {dst:Option Nat} {now:Bool} {az:List Arg} {st:St} {α:Type} [aA α]
theorem MO {p:tZ} {svs:List SV} {m:Option δ} {v:δ->SV} (hs:aW S.N st.g az=some svs) (hi:isSlice p=false) (h:iI S.N st.m p svs=m.bind λx=>some (v x)) :
 d_ S c dr fr ⟨dst,none,now,.p p,az,[],[]⟩ st=m.bind λx=>some (bV st dst (v x)):=by
 rw[M8 _ _ _ _ _ _ _ hi,hs];simp only[ζb,h];cases m <;> rfl
theorem Ag {p:tZ} {svs:List SV} {v:SV} (hs:aW S.N st.g az=some svs) (hi:isSlice p=false) (h:iI S.N st.m p svs=some v) :
 d_ S c dr fr ⟨dst,none,now,.p p,az,[],[]⟩ st=some (bV st dst v):=by
 rw[M8 _ _ _ _ _ _ _ hi,hs];simp only[ζb,h]
theorem Nq {n:Nat} {s:Sl α} {k:IntKind} {i:Int} (hs:aW S.N st.g az=some [.v (aU s),.v (.int k i)]) (hn:n=aA.size α) :
 d_ S c dr fr ⟨dst,none,now,.p (.idxS n),az,[],[]⟩ st=(idx s i).bind λx=>some (bV st dst (.v (.fptr (cells x)))):=
 MO hs rfl (by rw[vK,BZ s k i n hn];cases idx s i <;> rfl)
theorem Ss {n e:Nat} {s:Sl α} {k:IntKind} {i:Int} (hs:aW S.N st.g az=some [.own e,.v (.int k i)]) (ho:ai st.m e=some (bZ s)) (hn:n=aA.size α) :
 d_ S c dr fr ⟨dst,none,now,.p (.idxS n),az,[],[]⟩ st=(s.kN i).bind λj=>some (bV st dst (.el e j 0)):=
 MO hs rfl (by rw[N6,ho,O5 n e s i hn])
theorem MP {s:Sl α} (hs:aW S.N st.g az=some [.v (aU s)]):d_ S c dr fr ⟨dst,none,now,.p .lenSl,az,[],[]⟩ st=some (bV st dst (.v (.int .i64 s.l.length))):=
 Ag hs rfl (by rw[Ej,vW];rfl)
theorem Ql {e:Nat} {s:Sl α} (hs:aW S.N st.g az=some [.own e]) (ho:ai st.m e=some (bZ s)):d_ S c dr fr ⟨dst,none,now,.p .lenSl,az,[],[]⟩ st=some (bV st dst (.v (.int .i64 s.l.length))):=
 Ag hs rfl (by rw[Mm,ho,OG])
theorem NK {u:Option Nat} {s:Sl α} (hs:aW S.N st.g az=some [.v (aU s),.v .aF]):d_ S c dr fr ⟨dst,none,now,.p (.bin (some .slice) u .eql),az,[],[]⟩ st=s.isNil.bind λt=>some (bV st dst (.v (.bool t))):=
 MO hs rfl (by rw[vK,Lp];cases s.isNil <;> rfl)
theorem L5 {s:ByteArray} {k:IntKind} {n:Int} (hs:aW S.N st.g az=some [.v (.str s),.v (.int k n)]):d_ S c dr fr ⟨dst,none,now,.p .idxStr,az,[],[]⟩ st=(iV s n).bind λx=>some (bV st dst (.v (.int .u8 x))):=
 MO hs rfl (by rw[vK,JK];cases iV s n <;> rfl)
theorem Qz {n e i o:Nat} {a:Bool} {s:Sl α} {v:α->V} (hs:aW S.N st.g az=some [.el e i o]) (hd:(!dr||now||c6 fr [.el e i o])=true) (ho:ai st.m e=some (bZ s)) (hv:∀x:α,(cut (cells x) o n).bind (mk a)=some (v x)) :
 d_ S c dr fr ⟨dst,none,now,.r (.load n a),az,[],[]⟩ st=(s.get i).bind λx=>some (bV st dst (.v (v x))):=by
 rw[uL,hs];simp only[ζb,hd,if_true,SR,ho,Kd]
 cases s.get i with
 | none=>rfl
 | some x=>
  simp only[ζb];have:=hv x
  cases hc:cut (cells x) o n with
  | none=>rw[hc]at this;cases this
  | some r=>rw[hc]at this;simp only[ζb]at this ⊢;rw[this];rfl
theorem NR {n e i:Nat} {s:Sl α} {x:V} {a:α} (hs:aW S.N st.g az=some [.el e i 0,.v x]) (hd:(!dr||now)=true) (ho:ai st.m e=some (bZ s)) (hx:x.cells=cells a) (hn:n=aA.size α) :
 d_ S c dr fr ⟨dst,none,now,.l (.store n),az,[],[]⟩ st=(s.put i a).bind λs'=>some (bV { st with m:=aO st.m e (bZ s') } dst (.v .undef)):=by
 rw[qx,hs];simp only[ζb,hd,if_true,GU,ho];rw[ID st.g st.pin st.want st.more st.yid e i n x a hx hn s];cases s.put i a <;> rfl
theorem Q1 {n:Nat} {z:α} {zero:List V} {i:Int} (hs:aW S.N st.g az=some [.v (.int .i64 i),.v (.int .i64 i)]) (hz:zero=cells z) (hn:n=aA.size α) (hw:st.new d=true) :
 d_ S c dr fr ⟨some d,none,now,.a (.makeSl n zero),az,[],[]⟩ st=(sG i z).bind λs=>some { st with g:=aO st.g d (.own d),m:=aO st.m d (bZ s) }:=by
 rw[yL,hs];simp only[ζb,hw,if_true];rw[SY z i d n zero hz hn];cases sG i z <;> rfl
theorem Sw {n e u:Nat} {s:Sl α} {x:α} (hs:aW S.N st.g az=some [.own e,.own u]) (hd:(!dr||now)=true) (ho:ai st.m e=some (bZ s)) (hu:ai st.m u=some (bZ (.row [x]))) (hn:n=aA.size α) (hw:St.new { st with m:=cM e st.m } d=true) :
 d_ S c dr fr ⟨some d,none,now,.l (.append n),az,[],[]⟩ st=(i_ s x).bind λs'=>some { st with g:=aO st.g d (.own d),m:=aO (cM e st.m) d (bZ s') }:=by
 rw[qx,hs];simp only[ζb,hd,if_true,xT,B4,ho,hu];rw[yG n s hn,yG n (.row [x]) hn];have:=JA (m:=st.m) st.g st.pin st.want st.more st.yid d n e s.l x hn;simp only[Sl.Na];rw[show qa st d n (.own e) (some (rows s.l)) (some (rows [x]))=_ from this];have ha:i_ (.row s.l) x=i_ s x:=by cases s <;> rfl
 rw[ha]
 cases i_ s x with
 | none=>rfl
 | some s'=>
  simp only[ζb];rw[if_pos hw];rfl
theorem PN {n u:Nat} {x:α} {v:V} (hv:v=.aF\/v=.cI) (hs:aW S.N st.g az=some [.v v,.own u]) (hd:(!dr||now)=true) (hu:ai st.m u=some (bZ (.row [x]))) (hn:n=aA.size α) (hw:st.new d=true) :
 d_ S c dr fr ⟨some d,none,now,.l (.append n),az,[],[]⟩ st=some { st with g:=aO st.g d (.own d),m:=aO st.m d (bZ (.row [x])) }:=by
 rw[qx,hs];simp only[ζb,hd,if_true,xT,B4,hu];rw[yG n (.row [x]) hn];simp only[Sl.Na];rcases hv with rfl|rfl
 .rw[N5,show qa st d n (.v .aF) (some []) (some (rows [x]))=_ from J9 (m:=st.m) st.g st.pin st.want st.more st.yid d n x hn];rw[if_pos hw];rfl
 .rw[Oh,show qa st d n (.v .cI) (some []) (some (rows [x]))=_ from IM (m:=st.m) st.g st.pin st.want st.more st.yid d n x hn];rw[if_pos hw];rfl
theorem QU {f:FuncId} {svs args:List SV} {cs:List V} {m:Option δ} {E:δ->List V} (hc:kY c f cs=m.bind λr=>some (E r)) (hk:S.E.keep f=false) (hs:aW S.N st.g az=some svs) (hf:oN svs=some (f,args))
 (hsh:kR (fH st.m 8) args=some cs) (hl:V.bU 8 cs=true) (ho:((!dr||now)||fA st.m fr args)=true) (hr:∀r,(V.lvl 8 (result (E r))&&((result (E r)).scalar||(cV args).isSome))=true) :
 d_ S c dr fr ⟨dst,none,now,.c,az,[],[]⟩ st=m.bind λr=>some (bV st dst (.v (result (E r)))):=by
 rw[Dr dr fr dst now az st svs f args hs hf,NL _ _ _ _ _ _ _ hk,(yD st.m 8).2,hsh];simp only[ζb,hl,ho,Bool.and_self,if_true,hc]
 cases m with
 | none=>rfl
 | some r=>
  simp only[ζb,I4];rw[if_pos (hr r)];rfl
end
end
end Go.VE
namespace Go.VE
variable [aS]
section
variable {S:Sys} {c:bG} {β γ:Type} {Q:Out×St->Option β} {L:Option β} {e:γ->Option β}
theorem tv (rc:RC) (st:St):lC S c Q rc [] st=(bz S c rc st).bind Q:=by
 unfold lC;rw[Bq]
 congr 1
 funext q;obtain⟨o,st⟩:=q
 cases o <;> rfl
theorem yu (rc:RC) (st:St):bz S c rc st=lC S c some rc [] st:=by
 rw[tv];cases bz S c rc st <;> rfl
def oV (rs:List RV):Out×St->Option (List V)
 | (.exit _,_)=>none
 | (_,st)=>(mN st rs).bind (kR (fH st.m 8))
theorem ND (rs:List RV):D1 rs=oV rs:=by
 funext q;obtain⟨o,st⟩:=q
 cases o
 .simp only[D1,oV];congr 1;funext l;exact(yD st.m 8).2 l
 .rfl
 .simp only[D1,oV];congr 1;funext l;exact(yD st.m 8).2 l
theorem N0 {S:Sys} {T:qM} {f:FuncId} {rf:RF} (hT:T f=some rf) (az:List V) (hn:az.length<=rf.na):kY (cz S T) f az=lC S (cz S T) (oV rf.rs) rf.body [] (start (az.map .v) []):=by
 rw[KL hT az hn,<-DO,tv,ND]
end
end Go.VE
namespace Go.VE
variable [aS]
def mG {α σ ε ρ:Type} (step:α->σ->Option (Fw σ ε ρ)):List α->σ->Option (Fw σ ε ρ)
 | [],s=>some (.n s)
 | x::xs,s=>(step x s).bind λw=>match w with
  | .n s'=>mG step xs s'
  | .x e=>some (.x e)
  | .r b=>some (.r b)
def Fw.uJ {ν ε ρ γ:Type} (fn:ν->γ) (fx:ε->γ) (fr:ρ->γ):Fw ν ε ρ->γ
 | .n a=>fn a
 | .x e=>fx e
 | .r b=>fr b
def Fw.tQ {ν ε ρ:Type} (eν:ν->Tb aL) (eε:ε->Nat×Tb aL) (eρ:ρ->Tb aL):Fw ν ε ρ->Out×Tb aL
 | .n a=>(.norm,eν a)
 | .x e=>(.exit (eε e).1,(eε e).2)
 | .r b=>(.ret,eρ b)
def tQ (q:Out×St):Option (Out×Tb aL):=some (q.1,q.2.m)
section
variable {S:Sys} {c:bG} {β γ:Type} {Q:Out×St->Option β} {L:Option β} {e:γ->Option β}
noncomputable def vI (S:Sys) (c:bG) (b:RC):Out×St->Option (Out×Tb aL)
 | (.norm,st)=>lC S c tQ b [] st
 | _=>none
theorem G9 (ps:List Nat) (a b:RC) (st:St) (x:List V) (m:Tb aL) (hx:x.length=ps.length) :
 gz ps (bz S c a) (bz S c b) st x m=lC S c (vI S c b) a [] ⟨ue st.g ps (x.map .v),m,st.pin++ow st.g,[],true,0⟩:=by
 unfold gz;rw[if_pos hx,tv]
 cases bz S c a ⟨ue st.g ps (x.map .v),m,st.pin++ow st.g,[],true,0⟩with
 | none=>rfl
 | some q=>
  obtain⟨o,st1⟩:=q
  cases o with
  | norm=>
   simp only[ζb,vI];rw[tv];cases bz S c b st1 <;> rfl
  | _=>rfl
end
end Go.VE
namespace Go.VE
variable [aS]
def Le {α:Type} (a b:Option α):Prop:=∀r,a=some r->b=some r
section
variable {α:Type}
theorem Le.refl (a:Option α):Le a a:=λ_ h=>h
theorem Le.of_eq {a b:Option α} (h:b=a):Le a b:=λ_ h2=>h.trans h2
theorem Le.trans {a b d:Option α} (h1:Le a b) (h2:Le b d):Le a d:=λr h=>h2 r (h1 r h)
theorem Le.none (b:Option α):Le (none:Option α) b:=λr h=>by cases h
theorem Le.bind {β:Type} {a b:Option α} {f g:α->Option β} (h:Le a b) (hf:∀x,Le (f x) (g x)):Le (a.bind f) (b.bind g):=λr hr=>by
 obtain⟨x,h1,h2⟩:=ζg.1 hr;rw[h x h1];exact hf x r h2
end
section
variable {S:Sys} {c:bG} {β γ δ:Type} {Q:Out×St->Option β} {L:Option β} {e:γ->Option β}
theorem D2 {dr:Bool} {fr:List Nat} {dst:Option Nat} {now:Bool} {az:List Arg} {st:St} {f:FuncId} {svs args:List SV} {cs:List V} {m:Option δ} {E:δ->List V} (hc:Le (m.bind λr=>some (E r)) (kY c f cs)) (hk:S.E.keep f=false) (hs:aW S.N st.g az=some svs) (hf:oN svs=some (f,args))
 (hsh:kR (fH st.m 8) args=some cs) (hl:V.bU 8 cs=true) (ho:((!dr||now)||fA st.m fr args)=true) (hr:∀r,(V.lvl 8 (result (E r))&&((result (E r)).scalar||(cV args).isSome))=true) :
 Le (m.bind λr=>some (bV st dst (.v (result (E r))))) (d_ S c dr fr ⟨dst,none,now,.c,az,[],[]⟩ st):=by
 intro q hq;obtain⟨r,h1,h2⟩:=ζg.1 hq;have hc':kY c f cs=(some r).bind λr=>some (E r):=hc _ (by rw[h1];rfl)
 rw[QU (m:=some r) hc' hk hs hf hsh hl ho hr];exact h2
theorem Mi {σ ε ρ:Type} {f:St->Option (Out×St)} {step:σ->Option (Fw σ ε ρ)} {eσ:σ->St} {eε:ε->Nat×St} {eρ:ρ->St} (h:∀s,Le ((step s).bind λw=>some (Fw.out eσ eε eρ w)) (f (eσ s))) (s:σ) :
 Le ((aZ step s).bind λw=>some (Fw.out (λe=>Empty.elim e) eε eρ w)) (mK f (eσ s)):=by
 have key:∀k s r,hG step k s=some r->gM f k (eσ s)=some (Fw.out (λe=>Empty.elim e) eε eρ r):=by
  intro k
  induction k with
  | zero=>intro s r h;simp[hG]at h
  | succ k ih=>
   intro s r hw;simp only[hG]at hw
   cases hs:step s with
   | none=>rw[hs]at hw;cases hw
   | some w=>
    rw[hs]at hw;have h2:=h s (Fw.out eσ eε eρ w) (by rw[hs];rfl)
    simp only[gM,h2]
    cases w with
    | n a=>exact ih a r hw
    | x e=>cases hw;rfl
    | r b=>cases hw;rfl
 intro r hr;obtain⟨w,h1,h2⟩:=ζg.1 hr;obtain⟨k,hk⟩:=mz.1 h1;cases h2;exact k_.2 ⟨k,key k s w hk⟩
theorem S3 {σ ε ρ:Type} {a:RC} {fs:List Fm} {step:σ->Option (Fw σ ε ρ)} {eσ:σ->St} {eε:ε->Nat×St} {eρ:ρ->St} {s:σ} {fx:ε->Option γ} {fr:ρ->Option γ}
 (hL:L=lC S c Q (.loop a) fs (eσ s)) (h:∀s,Le ((step s).bind λw=>some (Fw.out eσ eε eρ w)) (lC S c some a [] (eσ s)))
 (hx:∀x,Le ((fx x).bind e) (kW S c Q fs (eε x).1 (eε x).2)) (hr:∀b,Le ((fr b).bind e) (Q (.ret,eρ b))):Le (((aZ step s).bind (Fw.elim fx fr)).bind e) L:=by
 subst hL;have h1:lC S c Q (.loop a) fs (eσ s)=(mK (bz S c a) (eσ s)).bind (BP (lg S c Q fs) (kW S c Q fs) (λst=>Q (.ret,st))):=by
  unfold lC;rw[Bq];rfl
 rw[h1];have h2:=Mi (step:=step) (f:=bz S c a) (eσ:=eσ) (eε:=eε) (eρ:=eρ) (λs=>by rw[yu];exact h s) s
 cases hw:aZ step s with
 | none=>exact Le.none _
 | some w=>
  have h3:=h2 _ (by rw[hw];rfl)
  rw[h3]
  cases w with
  | n a=>cases a
  | x a=>exact hx a
  | r a=>exact hr a
theorem D5 {α σ ε ρ:Type} {f:List V->Tb aL->Option (Out×Tb aL)} {step:α->σ->Option (Fw σ ε ρ)} {eI:α->List V} {eσ:σ->Tb aL} {eε:ε->Nat×Tb aL} {eρ:ρ->Tb aL}
 (h:∀x s,Le ((step x s).bind λw=>some (Fw.tQ eσ eε eρ w)) (f (eI x) (eσ s))):∀(xs:List α) (s:σ),Le ((mG step xs s).bind λw=>some (Fw.tQ eσ eε eρ w)) (nU f (xs.map eI) (eσ s))
 | [],s=>λr hr=>hr
 | x::xs,s=>by
  simp only[List.map_cons,nU,mG]
  cases hs:step x s with
  | none=>exact Le.none _
  | some w=>
   have h2:=h x s (Fw.tQ eσ eε eρ w) (by rw[hs];rfl)
   rw[h2]
   cases w with
   | n s'=>simp only[ζb,Fw.tQ];exact D5 h xs s'
   | x e=>exact Le.refl _
   | r b=>exact Le.refl _
theorem Sn {α σ ε ρ:Type} {g:Arg} {ps:List Nat} {a b:RC} {fs:List Fm} {f:FuncId} {x y:List V} {items:List α} {eI:α->List V} {step:α->σ->Option (Fw σ ε ρ)} {eσ:σ->Tb aL} {eε:ε->Nat×Tb aL} {eρ:ρ->Tb aL} {gt:Tb SV} {s:σ}
 {fn:σ->Option γ} {fx:ε->Option γ} {fr:ρ->Option γ}
 (hL:L=lC S c Q (.each g ps a b) fs ⟨gt,eσ s,[],[],true,0⟩) (hg:oS S.N gt g=some (.v (.clo f x y))) (hi:S.items f x y=some (items.map eI)) (hl:∀x,(eI x).length=ps.length)
 (h:∀x s,Le ((step x s).bind λw=>some (Fw.tQ eσ eε eρ w)) (lC S c (vI S c b) a [] ⟨ue gt ps ((eI x).map .v),eσ s,ow gt,[],true,0⟩))
 (hn:∀s,Le ((fn s).bind e) (lg S c Q fs ⟨gt,eσ s,[],[],true,0⟩))
 (hx:∀x,Le ((fx x).bind e) (kW S c Q fs (eε x).1 ⟨gt,(eε x).2,[],[],true,0⟩)) (hr:∀b,Le ((fr b).bind e) (Q (.ret,⟨gt,eρ b,[],[],true,0⟩))) :
 Le (((mG step items s).bind (Fw.uJ fn fx fr)).bind e) L:=by
 subst hL;have h1:lC S c Q (.each g ps a b) fs ⟨gt,eσ s,[],[],true,0⟩=(bz S c (.each g ps a b) ⟨gt,eσ s,[],[],true,0⟩).bind (BP (lg S c Q fs) (kW S c Q fs) (λst=>Q (.ret,st))):=by
  unfold lC;rw[Bq]
 rw[h1];simp only[bz,hg,hi];have h2:=D5 (step:=step) (f:=gz ps (bz S c a) (bz S c b) ⟨gt,eσ s,[],[],true,0⟩) (eI:=eI) (eσ:=eσ) (eε:=eε) (eρ:=eρ) (λx s=>by rw[G9 _ _ _ _ _ _ (hl x)];exact h x s) items s
 cases hw:mG step items s with
 | none=>exact Le.none _
 | some w=>
  have h3:=h2 _ (by rw[hw];rfl)
  rw[h3]
  cases w with
  | n a=>exact hn a
  | x a=>exact hx a
  | r a=>exact hr a
end
end Go.VE
namespace Go.VE
variable [aS]
inductive Fo where
 | rc (c:RC)
 | ops (dr:Bool) (fr:List Nat) (l:List RO)
 | nx
 | ex (k:Nat)
 | rt
abbrev aQ (g:Tb SV) (m:Tb aL):St:=⟨g,m,[],[],true,0⟩
section
variable (S:Sys) (c:bG) {β:Type} (Q:Out×St->Option β)
noncomputable def rn:Fo->List Fm->St->Option β
 | .rc a,fs,st=>lC S c Q a fs st
 | .ops dr fr l,fs,st=>sL S c dr fr l (lg S c Q fs) st
 | .nx,fs,st=>lg S c Q fs st
 | .ex k,fs,st=>kW S c Q fs k st
 | .rt,_,st=>Q (.ret,st)
noncomputable def wu:Fo->List Fm->St->Option (Fo×List Fm×St)
 | .rc .skip,fs,st=>some (.nx,fs,st)
 | .rc (.ops l),fs,st=>some (.ops false [] l,fs,st)
 | .rc (.mB l),fs,st=>some (.ops true [] l,fs,st)
 | .rc (.seq a b),fs,st=>some (.rc a,.seq b::fs,st)
 | .rc (.cond y a b),fs,st=>match oS S.N st.g y with
  | some (.v (.bool true))=>some (.rc a,fs,st)
  | some (.v (.bool false))=>some (.rc b,fs,st)
  | _=>none
 | .rc (.block id a),fs,st=>some (.rc a,.blk id::fs,st)
 | .rc (.exit k),fs,st=>some (.ex k,fs,st)
 | .rc .ret,fs,st=>some (.rt,fs,st)
 | .rc (.gh g a),fs,st=>match ghost g st with
  | some st'=>some (.rc a,fs,st')
  | none=>none
 | .rc (.hg a g),fs,st=>some (.rc a,.gst g::fs,st)
 | .rc (.loop _),_,_=>none
 | .rc (.each ..),_,_=>none
 | .ops _ _ [],fs,st=>some (.nx,fs,st)
 | .ops dr fr (⟨d,gd,now,k,az,dd,[]⟩::r),fs,st=>match d_ S c dr fr ⟨d,gd,now,k,az,[],[]⟩ st with
  | some st'=>some (.ops dr (if dr then pz fr ⟨d,gd,now,k,az,[],[]⟩else fr) r,fs,nP dd st')
  | none=>none
 | .ops dr fr (⟨d,gd,now,k,az,dd,x::xs⟩::r),fs,st=>if dr && !(xL x&&xs.all xL)then none else match ghost x st with
  | some st'=>some (.ops dr fr (⟨d,gd,now,k,az,dd,xs⟩::r),fs,st')
  | none=>none
 | .nx,.seq b::fs,st=>some (.rc b,fs,st)
 | .nx,.blk _::fs,st=>some (.nx,fs,st)
 | .nx,.gst g::fs,st=>match ghost g st with
  | some st'=>some (.nx,fs,st')
  | none=>none
 | .nx,[],_=>none
 | .ex k,.seq _::fs,st=>some (.ex k,fs,st)
 | .ex k,.blk id::fs,st=>some (if k=id then .nx else .ex k,fs,st)
 | .ex k,.gst _::fs,st=>some (.ex k,fs,st)
 | .ex _,[],_=>none
 | .rt,_,_=>none
noncomputable def fM:Nat->Fo->List Fm->St->Option (Fo×List Fm×St)
 | 0,fo,fs,st=>some (fo,fs,st)
 | n+1,fo,fs,st=>match wu S c fo fs st with
  | some (fo',fs',st')=>fM n fo' fs' st'
  | none=>none
end
section
variable {S:Sys} {c:bG} {β γ δ:Type} {Q:Out×St->Option β} {e:γ->Option β}
theorem MJ {fo fo':Fo} {fs fs':List Fm} {st st':St} (h:wu S c fo fs st=some (fo',fs',st')):rn S c Q fo fs st=rn S c Q fo' fs' st':=by
 cases fo with
 | rc a=>
  cases a with
  | cond y a b=>
   simp only[wu]at h;split at h
   .rename_i hs;cases h;simp only[rn,lC,mw,hs,ay,if_true]
   .rename_i hs;cases h;simp only[rn,lC,mw,hs,ay];rfl
   .cases h
  | gh g a=>
   simp only[wu]at h;split at h
   .rename_i hs;cases h;simp only[rn,lC,mw,hs,ζb]
   .cases h
  | loop a=>cases h
  | each g ps a b=>cases h
  | seq a b=>cases h;simp only[rn,lC,mw,lg,kW]
  | block id a=>cases h;simp only[rn,lC,mw,lg,kW]
  | hg a g=>cases h;simp only[rn,lC,mw,lg,kW]
  | _=>cases h;simp only[rn,lC,mw]
 | ops dr fr l=>
  cases l with
  | nil=>cases h;simp only[rn,sL]
  | cons o r=>
   obtain⟨d,gd,now,k,az,dd,pre⟩:=o
   cases pre with
   | nil=>
    simp only[wu]at h;split at h
    .rename_i hs;cases h;simp only[rn,sL,zA,RO.strip,ζb,hs]
    .cases h
   | cons x xs=>
    simp only[wu]at h;split at h
    .cases h
    rename_i hd;split at h
    .rename_i hs;cases h
     cases dr with
     | true=>
      simp only[Bool.true_and,Bool.not_eq_true',Bool.not_eq_false,ζh]at hd;simp only[rn,sL,RO.strip,yd,lq,if_true,List.all_cons,hd.1,hd.2,Bool.and_self,hs,ζb]
     | false=>simp only[rn,sL,RO.strip,yd,lq,Bool.false_eq_true,if_false,hs,ζb]
    .cases h
 | nx=>
  cases fs with
  | nil=>cases h
  | cons f fs=>
   cases f with
   | seq b=>cases h;simp only[rn,lC,lg]
   | blk id=>cases h;simp only[rn,lg]
   | gst g=>
    simp only[wu]at h;split at h
    .rename_i hs;cases h;simp only[rn,lg,hs,ζb]
    .cases h
 | ex k=>
  cases fs with
  | nil=>cases h
  | cons f fs=>
   cases f with
   | seq b=>cases h;simp only[rn,kW]
   | blk id=>
    cases h;simp only[rn,kW]
    by_cases hk:k=id
    .simp only[if_pos hk,rn]
    .simp only[if_neg hk,rn]
   | gst g=>cases h;simp only[rn,kW]
 | rt=>cases h
theorem nj:∀{n:Nat} {fo fo':Fo} {fs fs':List Fm} {st st':St},fM S c n fo fs st=some (fo',fs',st')->rn S c Q fo fs st=rn S c Q fo' fs' st'
 | 0,fo,fo',fs,fs',st,st',h=>by cases h;rfl
 | n+1,fo,fo',fs,fs',st,st',h=>by
  simp only[fM]at h;split at h
  .rename_i a b d hs;rw[MJ hs];exact nj h
  .cases h
theorem BG {n:Nat} {fo fo':Fo} {fs fs':List Fm} {st st':St} {m:Option β} (h:fM S c n fo fs st=some (fo',fs',st')) (h2:Le m (rn S c Q fo' fs' st')):Le m (rn S c Q fo fs st):=by
 rw[nj h];exact h2
theorem UD {n:Nat} {fo fo':Fo} {fs fs':List Fm} {st st':St} {r:γ} (h:fM S c n fo fs st=some (fo',fs',st')) (h2:rn S c Q fo' fs' st'=e r):Le ((some r).bind e) (rn S c Q fo fs st):=by
 rw[nj h];exact Le.of_eq h2
theorem MR {m:Option δ} {f:δ->Option γ} {L:Option β} (k:δ->Option β) (h2:Le (m.bind k) L) (h1:∀r,Le ((f r).bind e) (k r)):Le ((m.bind f).bind e) L:=by
 intro r hr
 cases m with
 | none=>cases hr
 | some x=>exact h2 r (h1 x r hr)
theorem Uy {n:Nat} {fo:Fo} {fs fs':List Fm} {st0:St} {dr:Bool} {q l:List RO} {fr:List Nat} {st:St} {d:Option Nat} {gd:Option (Nat×Bool)} {now:Bool} {k:K} {az:List Arg} {dd:List Nat} {m:Option δ} {g:δ->St} {f:δ->Option γ}
 (hL:fM S c n fo fs st0=some (.ops dr fr q,fs',st)) (hq:q=⟨d,gd,now,k,az,dd,[]⟩::l) (hg:wanted st.g gd=some true)
 (hs:Le (m.bind λx=>some (g x)) (d_ S c dr fr ⟨d,none,now,k,az,[],[]⟩ st))
 (h:∀x,m=some x->Le ((f x).bind e) (rn S c Q (.ops dr (if dr then pz fr ⟨d,gd,now,k,az,[],[]⟩else fr) l) fs' (nP dd (g x)))):Le ((m.bind f).bind e) (rn S c Q fo fs st0):=by
 rw[nj hL];subst hq;simp only[rn,sL,RO.strip,zA,ζb];rw[Ke hg]
 cases m with
 | none=>exact Le.none _
 | some x=>rw[hs (g x) rfl];exact h x rfl
theorem MM {n:Nat} {fo:Fo} {fs fs':List Fm} {st0:St} {dr:Bool} {q l:List RO} {fr:List Nat} {st st':St} {d:Option Nat} {gd:Option (Nat×Bool)} {now:Bool} {k:K} {az:List Arg} {dd:List Nat} {m:Option β}
 (hL:fM S c n fo fs st0=some (.ops dr fr q,fs',st)) (hq:q=⟨d,gd,now,k,az,dd,[]⟩::l) (hg:wanted st.g gd=some true)
 (hs:d_ S c dr fr ⟨d,none,now,k,az,[],[]⟩ st=some st')
 (h:Le m (rn S c Q (.ops dr (if dr then pz fr ⟨d,gd,now,k,az,[],[]⟩else fr) l) fs' (nP dd st'))):Le m (rn S c Q fo fs st0):=by
 rw[nj hL];subst hq;simp only[rn,sL,RO.strip,zA,ζb];rw[Ke hg,hs];exact h
theorem Jv {n:Nat} {fo:Fo} {fs0:List Fm} {st:St} {σ ε ρ:Type} {a:RC} {fs:List Fm} {step:σ->Option (Fw σ ε ρ)} {eσ:σ->St} {eε:ε->Nat×St} {eρ:ρ->St} {s:σ} {fx:ε->Option γ} {fr:ρ->Option γ}
 (hL:fM S c n fo fs0 st=some (.rc (.loop a),fs,eσ s)) (h:∀s,Le ((step s).bind λw=>some (Fw.out eσ eε eρ w)) (rn S c some (.rc a) [] (eσ s)))
 (hx:∀x,Le ((fx x).bind e) (rn S c Q (.ex (eε x).1) fs (eε x).2)) (hr:∀b,Le ((fr b).bind e) (Q (.ret,eρ b))):Le (((aZ step s).bind (Fw.elim fx fr)).bind e) (rn S c Q fo fs0 st):=by
 rw[nj hL];exact S3 (L:=rn S c Q (.rc (.loop a)) fs (eσ s)) rfl h hx hr
theorem Qp {n:Nat} {fo:Fo} {fs0:List Fm} {st:St} {α σ ε ρ:Type} {g:Arg} {ps:List Nat} {a b:RC} {fs:List Fm} {f:FuncId} {x y:List V} {items:List α} {eI:α->List V} {step:α->σ->Option (Fw σ ε ρ)} {eσ:σ->Tb aL} {eε:ε->Nat×Tb aL} {eρ:ρ->Tb aL} {gt:Tb SV} {s:σ}
 {fn:σ->Option γ} {fx:ε->Option γ} {fr:ρ->Option γ}
 (hL:fM S c n fo fs0 st=some (.rc (.each g ps a b),fs,aQ gt (eσ s))) (hg:oS S.N gt g=some (.v (.clo f x y))) (hi:S.items f x y=some (items.map eI)) (hl:∀x,(eI x).length=ps.length)
 (h:∀x s,Le ((step x s).bind λw=>some (Fw.tQ eσ eε eρ w)) (rn S c (vI S c b) (.rc a) [] ⟨ue gt ps ((eI x).map .v),eσ s,ow gt,[],true,0⟩))
 (hn:∀s,Le ((fn s).bind e) (rn S c Q .nx fs (aQ gt (eσ s))))
 (hx:∀x,Le ((fx x).bind e) (rn S c Q (.ex (eε x).1) fs (aQ gt (eε x).2))) (hr:∀b,Le ((fr b).bind e) (Q (.ret,aQ gt (eρ b)))) :
 Le (((mG step items s).bind (Fw.uJ fn fx fr)).bind e) (rn S c Q fo fs0 st):=by
 rw[nj hL];exact Sn (L:=rn S c Q (.rc (.each g ps a b)) fs (aQ gt (eσ s))) rfl hg hi hl h hn hx hr
theorem RR {b:RC} {st st':St} {m:Option (Out×Tb aL)} {fs:List Fm} {n:Nat} {fo:Fo} (h:fM S c n fo fs st=some (.nx,[],st')) (h2:Le m (rn S c tQ (.rc b) [] st')):Le m (rn S c (vI S c b) fo fs st):=by
 rw[nj h];exact h2
theorem Su {α:Type} {n:Nat} {fo fo':Fo} {fs fs':List Fm} {st:St} {A:Option α->St} {o:Option α} {f:α->Option γ} (h:fM S c n fo fs st=some (fo',fs',A o))
 (h2:∀x,o=some x->Le ((f x).bind e) (rn S c Q fo' fs' (A (some x)))):Le ((o.bind f).bind e) (rn S c Q fo fs st):=by
 rw[nj h]
 cases o with
 | none=>exact Le.none _
 | some x=>exact h2 x rfl
theorem Us {T:qM} {f:FuncId} {rf:RF} {az:List V} {m:Option (List V)} (hT:T f=some rf) (hn:az.length<=rf.na) (h:Le m (rn S (cz S T) (oV rf.rs) (.rc rf.body) [] (start (az.map .v) []))):Le m (kY (cz S T) f az):=by
 rw[N0 hT az hn];exact h
end
section
variable {α:Type} [aA α]
abbrev cv (x:α):SV:=.v (enc x)
abbrev cp (x:α):SV:=.v (.fptr (cells x))
abbrev bx (x:α):aL:=.box ((cells x).map .v)
end
end Go.VE
namespace Go.VE
variable [aS]
structure jk (S:Sys) (c:bG) {α δ:Type} (fn:FuncId) (A:α->List V) (E:δ->List V) (p:α->Option δ) (sc:Bool):Prop where
 k:S.E.keep fn=false
 h:∀z,Le ((p z).bind λr=>some (E r)) (kY c fn (A z))
 l:∀z,V.bU 8 (A z)=true
 r:∀r,V.lvl 8 (result (E r))=true
 s:sc=true->∀r,(result (E r)).scalar=true
section
variable {S:Sys} {c:bG} {β γ δ α:Type} {Q:Out×St->Option β} {e:γ->Option β} {fo:Fo} {fs:List Fm} {st0:St} {l:List RO} {d:Option Nat} {gd:Option (Nat×Bool)} {now:Bool} {az:List Arg} {dd:List Nat}
noncomputable abbrev qU (S:Sys) (c:bG) (Q:Out×St->Option β) (dr:Bool) (fr:List Nat) (d:Option Nat) (k:K) (l:List RO) (fs:List Fm) (dd:List Nat) (st:St):Option β:=
 rn S c Q (.ops dr (if dr then(match k with|.p _|.r _=>fr|_=>match d with|some d=>d::fr|none=>fr)else fr) l) fs (nP dd st)
theorem C6 (fr:List Nat) (k:K):pz fr ⟨d,gd,now,k,az,[],[]⟩=(match k with|.p _|.r _=>fr|_=>match d with|some d=>d::fr|none=>fr):=by
 cases k <;> cases d <;> rfl
theorem Bw {n:Nat} {dr:Bool} {fr:List Nat} {q:List RO} {fs':List Fm} {st:St} {k:K} {m:Option δ} {g:δ->St} {f:δ->Option γ}
 (hL:fM S c n fo fs st0=some (.ops dr fr q,fs',st)) (hq:q=⟨d,gd,now,k,az,dd,[]⟩::l) (hg:wanted st.g gd=some true)
 (hs:Le (m.bind λx=>some (g x)) (d_ S c dr fr ⟨d,none,now,k,az,[],[]⟩ st))
 (h:∀x,m=some x->Le ((f x).bind e) (qU S c Q dr fr d k l fs' dd (g x))):Le ((m.bind f).bind e) (rn S c Q fo fs st0):=
 Uy hL hq hg hs (λx hx=>by rw[C6];exact h x hx)
theorem pI {n:Nat} {dr:Bool} {fr:List Nat} {q:List RO} {fs':List Fm} {st st':St} {k:K} {m:Option β}
 (hL:fM S c n fo fs st0=some (.ops dr fr q,fs',st)) (hq:q=⟨d,gd,now,k,az,dd,[]⟩::l) (hg:wanted st.g gd=some true)
 (hs:d_ S c dr fr ⟨d,none,now,k,az,[],[]⟩ st=some st') (h:Le m (qU S c Q dr fr d k l fs' dd st')):Le m (rn S c Q fo fs st0):=
 MM hL hq hg hs (by rw[C6];exact h)
section
variable [aA α]
theorem LL (n:Nat) (dr:Bool) (fr:List Nat) (q:List RO) (fs':List Fm) (st:St) (k:IntKind) {sz:Nat} {s:Sl α} {i:Int} {f:α->Option γ} (hq:q=⟨d,gd,now,.p (.idxS sz),az,dd,[]⟩::l)
 (hL:(fM S c n fo fs st0,wanted st.g gd,aW S.N st.g az,sz)=(some (.ops dr fr q,fs',st),some true,some [.v (aU s),.v (.int k i)],aA.size α))
 (h:∀x,idx s i=some x->Le ((f x).bind e) (qU S c Q dr fr d (.p (.idxS sz)) l fs' dd (bV st d (cp x)))):Le (((idx s i).bind f).bind e) (rn S c Q fo fs st0):=by
 simp only[ζc]at hL;exact Bw hL.1 hq hL.2.1 (Le.of_eq (Nq hL.2.2.1 hL.2.2.2)) h
theorem Qm (n:Nat) (dr:Bool) (fr:List Nat) (q:List RO) (fs':List Fm) (st:St) (s:Sl α) {m:Option β} (hq:q=⟨d,gd,now,.p .lenSl,az,dd,[]⟩::l)
 (hL:(fM S c n fo fs st0,wanted st.g gd,aW S.N st.g az)=(some (.ops dr fr q,fs',st),some true,some [.v (aU s)]))
 (h:Le m (qU S c Q dr fr d (.p .lenSl) l fs' dd (bV st d (.v (.int .i64 s.l.length))))):Le m (rn S c Q fo fs st0):=by
 simp only[ζc]at hL;exact pI hL.1 hq hL.2.1 (MP hL.2.2) h
end
section
variable {q:List RO} {fs':List Fm}
end
theorem DU (m:Tb aL) (n:Nat) (l:List V):kR (fH m n) (l.map .v)=some l:=by rw[<-(yD m n).2,uF]
variable {A:α->List V} {E:δ->List V} {p:α->Option δ} {fn:FuncId} {sc:Bool}
end
end Go.VE
namespace Go.VE
variable [aS]
abbrev iv (n:Int):SV:=.v (.int .i64 n)
abbrev bv (b:Bool):SV:=.v (.bool b)
abbrev len {α:Type} (s:Sl α):Int:=((List.length (Sl.l s):Nat):Int)
abbrev o1 (d:Nat) (a:Arg) (dd:List Nat):RO:=⟨some d,none,false,.p .id,[a],dd,[]⟩
abbrev o2 (d:Nat) (k:K) (az:List Arg) (dd:List Nat):RO:=⟨some d,none,false,k,az,dd,[]⟩
abbrev o3 (d s:Nat) (b:Bool) (k:K) (az:List Arg) (dd:List Nat):RO:=⟨some d,some (s,b),false,k,az,dd,[]⟩
def Gx (a b:aa):Bool:=[a.proc,a.index]==[b.proc,b.index]
mutual
theorem wX:∀{n:Nat} {x:V},V.lvl n x=true->V.lvl (n+1) x=true
 | 0,.fsl ..,h=>by simp[V.lvl]at h
 | 0,.fptr ..,h=>by simp[V.lvl]at h
 | 0,.fmap ..,h=>by simp[V.lvl]at h
 | 0,.agg ..,h=>by simp[V.lvl]at h
 | 0,.tup ..,h=>by simp[V.lvl]at h
 | 0,.clo ..,h=>by simp[V.lvl]at h
 | n+1,.fsl es xs,h=>by simp only[V.lvl]at h ⊢;exact zV h
 | n+1,.fptr cs,h=>by simp only[V.lvl]at h ⊢;exact qq h
 | n+1,.fmap kvs,h=>by simp only[V.lvl]at h ⊢;exact BT h
 | n+1,.agg cs,h=>by simp only[V.lvl]at h ⊢;exact qq h
 | n+1,.tup cs,h=>by simp only[V.lvl]at h ⊢;exact qq h
 | n+1,.clo f a b,h=>by simp only[V.lvl,ζh]at h ⊢;exact⟨qq h.1,qq h.2⟩
 | 0,.bool _,_|0,.int ..,_|0,.str _,_|0,.fD,_|0,.dY,_|0,.ql,_|0,.cI,_|0,.aF,_|0,.hsl ..,_|0,.hptr ..,_|0,.yld _,_|0,.hmap _,_=>rfl
 | _+1,.bool _,_|_+1,.int ..,_|_+1,.str _,_|_+1,.fD,_|_+1,.dY,_|_+1,.ql,_|_+1,.cI,_|_+1,.aF,_|_+1,.hsl ..,_|_+1,.hptr ..,_|_+1,.yld _,_|_+1,.hmap _,_=>rfl
theorem qq:∀{n:Nat} {x:List V},V.bU n x=true->V.bU (n+1) x=true
 | n,[],_=>ig _
 | n,a::l,h=>by rw[fT,ζh]at h ⊢;exact⟨wX h.1,qq h.2⟩
theorem zV:∀{n:Nat} {x:List (List V)},V.lS n x=true->V.lS (n+1) x=true
 | n,[],_=>by simp only[V.lS]
 | n,a::l,h=>by simp only[V.lS,ζh]at h ⊢;exact⟨qq h.1,zV h.2⟩
theorem BT:∀{n:Nat} {x:List (V×V)},V.nK n x=true->V.nK (n+1) x=true
 | n,[],_=>by simp only[V.nK]
 | n,(k,v)::l,h=>by simp only[V.nK,ζh]at h ⊢;exact⟨⟨wX h.1.1,wX h.1.2⟩,BT h.2⟩
end
section
variable {α:Type} [aA α]
theorem qn (h:aA.agg α=false) (a:α):cells a=[enc a]:=by
 have hl:(cells a).length=1:=by rw[show (cells a).length=_ from aA.len a,aA.plain h]
 unfold enc;rw[if_neg (by simp[h])]
 match hc:cells a,hl with
 | [x],_=>rfl
theorem rE (h:aA.agg α=true) (a:α):enc a=.agg (cells a):=by unfold enc;rw[if_pos h]
theorem Gz {n:Nat} [Lv n α] (a:α):V.lvl (n+1) (enc a)=true:=by
 have h:=Lv.lv (n:=n) a
 cases ha:aA.agg α with
 | true=>rw[rE ha];exact h
 | false=>
  rw[qn ha,fT,ζh]at h;exact wX h.1
theorem Qu {n:Nat} [Lv n α] (a:α):V.lvl (n+1) (.fptr (cells a))=true:=Lv.lv a
theorem iC (a:α):V.good (enc a)=true:=by
 have h:V.bF (cells a)=true:=aA.good a
 cases ha:aA.agg α with
 | true=>rw[rE ha];exact h
 | false=>
  rw[qn ha]at h;simp only[V.bF,Bool.and_true]at h;exact h
theorem lH (s:Sl α):V.one (enc s)=true:=CT s
theorem nW {n:Nat} [Lv n α] (s:Sl α):V.lvl (n+1) (enc s)=true:=B8 s
theorem LP (s:α) (h:aA.agg α=false):V.one (enc s)=true:=by
 have:=aA.one s;rw[show aA.cells s=cells s from rfl,qn h]at this;simpa using this
end
instance {α:Type} [aA α]:aA (Option α) where
 cells o:=[match o with|none=>.fD|some x=>.fptr (cells x)]
 agg:=false
 size:=1
 len _:=rfl
 good o:=by
  cases o with
  | none=>rfl
  | some x=>simp only[V.bF,V.good,Bool.and_true];exact aA.good x
 one o:=by cases o <;> rfl
 plain _:=rfl
instance {n:Nat} {α:Type} [aA α] [Lv n α]:Lv (n+1) (Option α):=⟨λo=>by
 cases o with
 | none=>rfl
 | some x=>
  show V.bU (n+1) [.fptr (cells x)]=true;rw[fT,ig,Bool.and_true];exact Lv.lv x⟩
structure U8 where
 v:Int
 deriving Inhabited,DecidableEq
instance:aA U8 where
 cells n:=[.int .u8 n.v]
 agg:=false
 size:=1
 len _:=rfl
 good _:=rfl
 one _:=rfl
 plain _:=rfl
instance {n:Nat}:Lv n U8:=⟨λ_=>by cases n <;> rfl⟩
structure Ts where
 v:Int
 deriving Inhabited,DecidableEq
instance:aA Ts where
 cells n:=[.int .u64 n.v]
 agg:=false
 size:=1
 len _:=rfl
 good _:=rfl
 one _:=rfl
 plain _:=rfl
instance {n:Nat}:Lv n Ts:=⟨λ_=>by cases n <;> rfl⟩
structure Tl where
 v:Int
 deriving Inhabited,DecidableEq
instance:aA Tl where
 cells n:=[.int .u32 n.v]
 agg:=false
 size:=1
 len _:=rfl
 good _:=rfl
 one _:=rfl
 plain _:=rfl
instance {n:Nat}:Lv n Tl:=⟨λ_=>by cases n <;> rfl⟩
structure T8 where
 v:Int
 deriving Inhabited,DecidableEq
instance:aA T8 where
 cells n:=[.int .i32 n.v]
 agg:=false
 size:=1
 len _:=rfl
 good _:=rfl
 one _:=rfl
 plain _:=rfl
instance {n:Nat}:Lv n T8:=⟨λ_=>by cases n <;> rfl⟩
structure qG (S:Sys) (c:bG) {α δ:Type} (g:FuncId) (w e:List V) (A:α->List V) (R:δ->List V) (p:α->Option δ) (b:Bool):Prop where
 f:jk S c g (λz=>w++A z++e) R p b
 d:V.bU 7 e=true
 dw:V.bU 7 w=true
section
variable {S:Sys} {c:bG} {β γ δ α:Type} {Q:Out×St->Option β} {e:γ->Option β} {fo:Fo} {fs:List Fm} {st0:St} {l:List RO} {d:Option Nat} {gd:Option (Nat×Bool)} {now:Bool} {az:List Arg} {dd:List Nat}
theorem gV {α:Type} [aA α] (a:α):V.cells (enc a)=cells a:=by
 cases ha:aA.agg α with
 | true=>rw[rE ha];rfl
 | false=>
  have h1:V.one (enc a)=true:=LP a ha;rw[qn ha];cases h:enc a <;> first|rfl|(rw[h]at h1;cases h1)
theorem l_ {α:Type} [aA α] (a:α):(cells a).all V.one=true:=aA.one a
theorem dh {α:Type} [aA α] (a:α):(cells a).length=aA.size α:=aA.len a
theorem Ast [aA α] (n:Nat) (dr:Bool) (fr:List Nat) (q:List RO) (fs':List Fm) (st:St) (u o:Nat) (x:α) (cs cs':List SV) {sz:Nat} {m:Option β} (hq:q=⟨d,gd,now,.l (.store sz),az,dd,[]⟩::l)
 (hL:(fM S c n fo fs st0,wanted st.g gd,aW S.N st.g az,ai st.m u,(!dr||now),sz,Nat.ble (o+sz) cs.length,cs.take o++(cells x).map .v++cs.drop (o+sz))=(some (.ops dr fr q,fs',st),some true,some [.ptr u o,cv x],some (.box cs),true,aA.size α,true,cs'))
 (h:Le m (qU S c Q dr fr d (.l (.store sz)) l fs' dd (bV { st with m:=aO st.m u (.box cs') } d (.v .undef)))):Le m (rn S c Q fo fs st0):=by
 simp only[ζc]at hL;obtain⟨h1,h2,h3,h4,h5,h6,h7,h8⟩:=hL;refine pI h1 hq h2 ?_ h;rw[qx,h3];subst h6;have h9:=Nat.le_of_ble_eq_true h7;simp only[ζb,h5,if_true,lp,h4,putCells,gV,dh,l_,h9,and_self,h8,Option.map_some]
theorem xZ {α:Type} [aA α]:∀(xs:List α) (pre:List (List V)) (suf:List (List V)),suf.length=xs.length->fE (aA.size α) (pre++suf) ((List.range' pre.length xs.length).zip (xs.map enc))=some (pre++rows xs)
 | [],pre,suf,h=>by
  have:suf=[]:=List.eq_nil_of_length_eq_zero h;subst this;rfl
 | x::xs,pre,s::suf,h=>by
  simp only[List.length_cons,List.range'_succ,List.map_cons,List.zip_cons_cons,fE,gV,dh,l_];rw[if_pos ⟨trivial,by simp,trivial⟩]
  have:=xZ xs (pre++[cells x]) suf (by simpa using h)
  simp only[ζi,List.length_cons,List.length_nil,Nat.zero_add]at this;have e:(pre++s::suf).set pre.length (cells x)=pre++[cells x]++suf:=by simp
  rw[e,this];simp[rows]
theorem U0 [aA α] (n:Nat) (dr:Bool) (fr:List Nat) (q:List RO) (fs':List Fm) (st:St) (xs:List α) {u sz ln:Nat} {zero:List V} {ix:List Nat} {m:Option β} (hq:q=⟨some u,gd,now,.a (.buildSl sz ln zero ix),az,dd,[]⟩::l)
 (h4:st.new u=true) (hL:(fM S c n fo fs st0,wanted st.g gd,aW S.N st.g az,sz,ln,ix)=(some (.ops dr fr q,fs',st),some true,some ((xs.map enc).map .v),aA.size α,xs.length,List.range' 0 xs.length))
 (h:Le m (qU S c Q dr fr (some u) (.a (.buildSl sz ln zero ix)) l fs' dd { st with g:=aO st.g u (.own u),m:=aO st.m u (bZ (.row xs)) })):Le m (rn S c Q fo fs st0):=by
 simp only[ζc]at hL;obtain⟨h1,h2,h3,h5,h6,h7⟩:=hL;subst h5 h6 h7;refine pI h1 hq h2 ?_ h;rw[yL,h3];simp only[ζb,h4,if_true,ni,pV,List.length_range',List.length_map,if_true];have:=xZ xs [] (List.replicate xs.length zero) (by simp)
 simp only[List.nil_append,List.length_nil]at this;rw[this];rfl
theorem Ut [aA α] (n:Nat) (dr:Bool) (fr:List Nat) (q:List RO) (fs':List Fm) (st:St) (x:α) (vs:List V) {z:List V} {pl:List (Nat×Nat)} {m:Option β} (hq:q=⟨d,gd,now,.p (.build z pl),az,dd,[]⟩::l)
 (hp:jd z pl vs=some (cells x)) (ha:aA.agg α=true)
 (hL:(fM S c n fo fs st0,wanted st.g gd,aW S.N st.g az)=(some (.ops dr fr q,fs',st),some true,some (vs.map .v)))
 (h:Le m (qU S c Q dr fr d (.p (.build z pl)) l fs' dd (bV st d (cv x)))):Le m (rn S c Q fo fs st0):=by
 simp only[ζc]at hL;refine pI hL.1 hq hL.2.1 (Ag hL.2.2 rfl ?_) h;unfold iI;rw[pV];simp only[LK,hp,ζb,Option.map_some];show some (SV.v (.agg (cells x)))=some (.v (enc x));rw[rE ha]
section
variable [aA α]
theorem UH (n:Nat) (dr:Bool) (fr:List Nat) (q:List RO) (fs':List Fm) (st:St) (lo hi:Bool) (bs:List V) {sz:Nat} {s:Sl α} {a b:Option Int} {f:Sl α->Option γ} (hq:q=⟨d,gd,now,.p (.slice sz lo hi),az,dd,[]⟩::l)
 (hL:(fM S c n fo fs st0,wanted st.g gd,aW S.N st.g az,jK lo hi bs,sz)=(some (.ops dr fr q,fs',st),some true,some (.v (aU s)::bs.map .v),some (a,b),aA.size α))
 (h:∀x,eH s a b=some x->Le ((f x).bind e) (qU S c Q dr fr d (.p (.slice sz lo hi)) l fs' dd (bV st d (.v (aU x))))):Le (((eH s a b).bind f).bind e) (rn S c Q fo fs st0):=by
 simp only[ζc]at hL;refine Bw hL.1 hq hL.2.1 (Le.of_eq ?_) h;have hy:aW S.N st.g az=some ((aU s::bs).map .v):=hL.2.2.1;unfold d_ mZ;simp only[wanted,eO,hy];have hp:iI S.N st.m (.slice sz lo hi) ((aU s::bs).map .v)=(eH s a b).bind λx=>some (.v (aU x)):=by
  unfold iI;rw[pV];simp only[aj,hL.2.2.2.1,ζb,Ig s a b sz hL.2.2.2.2];cases eH s a b <;> rfl
 simp only[List.map_cons]at hp ⊢;rw[hp];cases eH s a b <;> rfl
def nh (s:Sl α) (lo hi:Option Int):Option (Sl α):=
 match s with
 | .nil|.emp=>none
 | .row x|.part x=>(cE x.length lo hi).map λ(l,h)=>.part ((x.take h).drop l)
theorem Sj (n:Nat) (fr:List Nat) (q:List RO) (fs':List Fm) (st:St) (lo hi:Bool) (u:Nat) (bs:List V) {t sz:Nat} {s:Sl α} {a b:Option Int} {f:Sl α->Option γ} (hq:q=⟨some t,gd,now,.p (.slice sz lo hi),az,dd,[]⟩::l)
 (h7:St.new { st with m:=cM u st.m } t=true) (hL:(fM S c n fo fs st0,wanted st.g gd,aW S.N st.g az,jK lo hi bs,ai st.m u,sz)=(some (.ops false fr q,fs',st),some true,some (.own u::bs.map .v),some (a,b),some (bZ s),aA.size α))
 (h:∀x,nh s a b=some x->Le ((f x).bind e) (qU S c Q false fr (some t) (.p (.slice sz lo hi)) l fs' dd { st with g:=aO st.g t (.own t),m:=aO (cM u st.m) t (bZ x) })):Le (((nh s a b).bind f).bind e) (rn S c Q fo fs st0):=by
 simp only[ζc]at hL;refine Bw hL.1 hq hL.2.1 (Le.of_eq ?_) h;obtain⟨_,_,h3,h4,h5,h6⟩:=hL;subst h6;unfold d_ mZ;simp only[wanted,eO,h3,Bool.false_eq_true,if_false,wZ,pV,h5,h4,ζb];have hn:(ai st.m u).isSome:=by rw[h5];rfl
 cases s with
 | nil=>simp[nh,bZ,Sl.k,bA]
 | emp=>simp[nh,bZ,Sl.k,bA]
 | row x=>
  simp only[bZ,Sl.k,Sl.l,bA,nh,eC,and_self,if_true,h4,ζb]
  cases cE x.length a b with
  | none=>rfl
  | some r=>simp[h7,bV,rows,List.map_take,List.map_drop]
 | part x=>
  simp only[bZ,Sl.k,Sl.l,bA,nh,eC,and_self,if_true,h4,ζb]
  cases cE x.length a b with
  | none=>rfl
  | some r=>simp[h7,bV,rows,List.map_take,List.map_drop]
end
end
end Go.VE
namespace Go.VE
variable [aS]
structure aC (n:Nat) (α:Type) where
 l:List α
 len:l.length=n
theorem Mg {α:Type} [aA α] (l:List α):(l.map (cells (α:=α))).flatten.length=l.length*aA.size α:=by
 induction l with
 | nil=>simp
 | cons a l ih=>simp only[List.map_cons,List.flatten_cons,ζi,ih,dh,List.length_cons,Nat.add_mul,Nat.one_mul,Nat.add_comm]
theorem IP {α:Type} [aA α] (l:List α):V.bF (l.map (cells (α:=α))).flatten=true:=by
 induction l with
 | nil=>rfl
 | cons a l ih=>
  simp only[List.map_cons,List.flatten_cons];have h:∀(x y:List V),V.bF x=true->V.bF y=true->V.bF (x++y)=true:=by
   intro x
   induction x with
   | nil=>intro y _ h;exact h
   | cons b x ih2=>intro y h1 h2;simp only[V.bF,ζh,List.cons_append]at h1 ⊢;exact⟨h1.1,ih2 y h1.2 h2⟩
  exact h _ _ (aA.good a) ih
theorem Es {n:Nat}:∀{x y:List V},V.bU n x=true->V.bU n y=true->V.bU n (x++y)=true
 | [],_,_,h=>h
 | a::x,y,h1,h2=>by
  simp only[fT,ζh,List.cons_append]at h1 ⊢;exact⟨h1.1,Es h1.2 h2⟩
theorem ME {n:Nat} {α:Type} [aA α] [Lv n α] (l:List α):V.bU n (l.map (cells (α:=α))).flatten=true:=by
 induction l with
 | nil=>exact ig n
 | cons a l ih=>simp only[List.map_cons,List.flatten_cons];exact Es (Lv.lv a) ih
instance {n:Nat} {α:Type} [aA α]:aA (aC n α) where
 cells a:=(a.l.map cells).flatten
 agg:=true
 size:=n*aA.size α
 len a:=by rw[Mg,a.len]
 good a:=IP a.l
 one a:=by
  have:∀l:List α,(l.map (cells (α:=α))).flatten.all V.one=true:=by
   intro l
   induction l with
   | nil=>rfl
   | cons a l ih=>simp only[List.map_cons,List.flatten_cons,List.all_append,ih,l_,Bool.and_self]
  exact this a.l
 plain h:=by cases h
instance {k n:Nat} {α:Type} [aA α] [Lv k α]:Lv k (aC n α):=⟨λa=>ME a.l⟩
def aC.fZ (n:Nat) {α:Type} (z:α):aC n α:=⟨List.replicate n z,by simp⟩
def aC.at {n:Nat} {α:Type} (a:aC n α) (i:Int):Option α:=if 0<=i then a.l[i.toNat]? else none
def aC.set {n:Nat} {α:Type} (a:aC n α) (i:Int) (x:α):aC n α:=⟨a.l.set i.toNat x,by simp[a.len]⟩
def pa {n:Nat} {α:Type} [aA α] (a:aC n α) (i:Int):List V:=(cells a).drop (i.toNat*aA.size α)
theorem aC.uc {n:Nat} {α:Type} {a:aC n α} {i:Int} {x:α} (h:a.at i=some x):0<=i/\i.toNat<n/\a.l[i.toNat]? = some x:=by
 unfold aC.at at h;split at h
 .rename_i hi;refine⟨hi,?_,h⟩;have:=(ζe.1 h).1;rw[<-a.len];exact this
 .cases h
theorem B5 {α:Type} [aA α]:∀(l:List α) (k:Nat),((l.map (cells (α:=α))).flatten).drop (k*aA.size α)=((l.drop k).map (cells (α:=α))).flatten
 | [],k=>by simp
 | a::l,0=>by simp
 | a::l,k+1=>by
  have h:(cells a).length=aA.size α:=dh a;rw[List.map_cons,List.flatten_cons,List.drop_succ_cons,<-B5 l k,Nat.add_mul,Nat.one_mul,Nat.add_comm,<-h,List.drop_length_add_append]
theorem yC {n:Nat} {α:Type} [aA α] {a:aC n α} {i:Int} {x:α} (h:a.at i=some x):∃r,pa a i=cells x++r:=by
 obtain⟨h1,h2,h3⟩:=aC.uc h;obtain⟨hlt,hx⟩:=ζe.1 h3;refine⟨((a.l.drop (i.toNat+1)).map cells).flatten,?_⟩;show ((a.l.map (cells (α:=α))).flatten).drop (i.toNat*aA.size α)=_;rw[B5,List.drop_eq_getElem_cons hlt,List.map_cons,List.flatten_cons,hx]
section
variable {S:Sys} {c:bG} {β γ δ α:Type} {Q:Out×St->Option β} {e:γ->Option β} {fo:Fo} {fs:List Fm} {st0:St} {l:List RO} {d:Option Nat} {gd:Option (Nat×Bool)} {now:Bool} {az:List Arg} {dd:List Nat}
section
variable {N:Nat} [aA α]
theorem S6 (n:Nat) (dr:Bool) (fr:List Nat) (q:List RO) (fs':List Fm) (st:St) (k:IntKind) {ln sz:Nat} {a:aC N α} {i:Int} {f:α->Option γ} (hq:q=⟨d,gd,now,.p (.idxA ln sz),az,dd,[]⟩::l)
 (hL:(fM S c n fo fs st0,wanted st.g gd,aW S.N st.g az,sz,ln)=(some (.ops dr fr q,fs',st),some true,some [cp a,.v (.int k i)],aA.size α,N))
 (h:∀x,a.at i=some x->Le ((f x).bind e) (qU S c Q dr fr d (.p (.idxA ln sz)) l fs' dd (bV st d (.v (.fptr (pa a i)))))):Le (((a.at i).bind f).bind e) (rn S c Q fo fs st0):=by
 simp only[ζc]at hL;obtain⟨h1,h2,h3,h4,h5⟩:=hL;subst h4 h5;refine Bw h1 hq h2 (?_:Le ((a.at i).bind λ_=>some (bV st d (.v (.fptr (pa a i))))) _) h
 intro r hr;obtain⟨x,hx,hr⟩:=ζg.1 hr;obtain⟨g1,g2,_⟩:=aC.uc hx;rw[Ag (v:=.v (.fptr (pa a i))) h3 rfl ?_]
 .exact hr
 rw[vK];simp only[aj,uI];have hlen:i.toNat*aA.size α<=(cells a).length:=by
  rw[dh];exact Nat.mul_le_mul_right _ (Nat.le_of_lt g2)
 rw[if_pos ⟨g1,by omega⟩,if_pos hlen]
 rfl
theorem Ux (n:Nat) (dr:Bool) (fr:List Nat) (q:List RO) (fs':List Fm) (st:St) (a:aC N α) (i:Int) (o:Nat) (x:α) (hx:a.at i=some x) {k:Nat} {m:Option β} (hq:q=⟨d,gd,now,.p (.fieldAddr k),az,dd,[]⟩::l)
 (hL:(fM S c n fo fs st0,wanted st.g gd,aW S.N st.g az,Nat.ble (o+k) (aA.size α))=(some (.ops dr fr q,fs',st),some true,some [.v (.fptr ((pa a i).drop o))],true))
 (h:Le m (qU S c Q dr fr d (.p (.fieldAddr k)) l fs' dd (bV st d (.v (.fptr ((pa a i).drop (o+k))))))):Le m (rn S c Q fo fs st0):=by
 simp only[ζc]at hL;obtain⟨h1,h2,h3,h4⟩:=hL;refine pI h1 hq h2 (Ag h3 rfl ?_) h;have h9:=Nat.le_of_ble_eq_true h4;obtain⟨r,hr⟩:=yC hx;have hl:(pa a i).length>=aA.size α:=by rw[hr,ζi,dh];omega
 rw[Ej,EK,if_pos (by rw[List.length_drop];omega),List.drop_drop]
 rfl
theorem SX (n:Nat) (dr:Bool) (fr:List Nat) (q:List RO) (fs':List Fm) (st:St) (a:aC N α) (i:Int) (o:Nat) (x:α) (hx:a.at i=some x) {sz:Nat} {ag:Bool} {v:V} (hv:(cut (cells x) o sz).bind (mk ag)=some v) (v':V) {m:Option β} (hq:q=⟨d,gd,now,.r (.load sz ag),az,dd,[]⟩::l)
 (hL:(fM S c n fo fs st0,wanted st.g gd,aW S.N st.g az,v)=(some (.ops dr fr q,fs',st),some true,some [.v (.fptr ((pa a i).drop o))],v'))
 (h:Le m (qU S c Q dr fr d (.r (.load sz ag)) l fs' dd (bV st d (.v v')))):Le m (rn S c Q fo fs st0):=by
 simp only[ζc]at hL;obtain⟨h1,h2,h3,rfl⟩:=hL;refine pI h1 hq h2 ?_ h;rw[uL,h3];have hold:c6 fr [SV.v (.fptr ((pa a i).drop o))]=true:=rfl;simp only[ζb,hold,Bool.or_true,if_true,IT];obtain⟨r,hr⟩:=yC hx;rw[hr];have hc:cut ((cells x++r).drop o) 0 sz=cut (cells x) o sz:=by
  cases hcc:cut (cells x) o sz with
  | none=>rw[hcc]at hv;cases hv
  | some w=>
   unfold cut at hcc ⊢;dsimp only at hcc ⊢;split at hcc
   .rename_i hl;cases hcc;have e1:(List.drop 0 (List.drop o (cells x++r))).take sz=((cells x).drop o).take sz:=by
     rw[List.drop_zero];have ho:sz=0\/o<=(cells x).length:=by
      simp only[List.length_take,List.length_drop]at hl;omega
     rcases ho with rfl|ho
     .simp
     .rw[List.drop_append_of_le_length ho,List.take_append_of_le_length];simp only[List.length_take,List.length_drop]at hl ⊢;omega
    rw[e1,if_pos hl]
   .cases hcc
 rw[hc]
 cases hcc:cut (cells x) o sz with
 | none=>rw[hcc]at hv;cases hv
 | some w=>rw[hcc]at hv;simp only[ζb]at hv ⊢;rw[hv];rfl
theorem QX (n:Nat) (dr:Bool) (fr:List Nat) (q:List RO) (fs':List Fm) (st:St) (cs:List SV) {u sz:Nat} {zero:List V} {m:Option β} (hq:q=⟨some u,gd,now,.a (.alloc sz zero),az,dd,[]⟩::l)
 (h4:st.new u=true) (hL:(fM S c n fo fs st0,wanted st.g gd,aW S.N st.g az,zero.map SV.v)=(some (.ops dr fr q,fs',st),some true,some [],cs))
 (h:Le m (qU S c Q dr fr (some u) (.a (.alloc sz zero)) l fs' dd { st with g:=aO st.g u (.ptr u 0),m:=aO st.m u (.box cs) })):Le m (rn S c Q fo fs st0):=by
 simp only[ζc]at hL;obtain⟨h1,h2,h3,h5⟩:=hL;subst h5;refine pI h1 hq h2 ?_ h;rw[yL,h3];simp only[ζb,h4,if_true,ni]
theorem kS (d:Nat) (l:List V):SV.cu d (l.map .v)=false:=by
 induction l with
 | nil=>rfl
 | cons a l ih=>simp only[List.map_cons,SV.cu,SV.bQ,ih,Bool.or_self]
theorem kG {α:Type} [aA α] (d:Nat) (x:α):aL.bQ d (bx x)=false:=kS d (cells x)
theorem Sx (n:Nat) (dr:Bool) (fr:List Nat) (q:List RO) (fs':List Fm) (st:St) (k:IntKind) (u:Nat) {ln sz:Nat} {a:aC N α} {i:Int} {f:α->Option γ} (hq:q=⟨d,gd,now,.p (.idxA ln sz),az,dd,[]⟩::l)
 (hL:(fM S c n fo fs st0,wanted st.g gd,aW S.N st.g az,sz,ln,ai st.m u)=(some (.ops dr fr q,fs',st),some true,some [.ptr u 0,.v (.int k i)],aA.size α,N,some (bx a)))
 (h:∀x,a.at i=some x->Le ((f x).bind e) (qU S c Q dr fr d (.p (.idxA ln sz)) l fs' dd (bV st d (.ptr u (i.toNat*aA.size α+0))))):Le (((a.at i).bind f).bind e) (rn S c Q fo fs st0):=by
 simp only[ζc]at hL;obtain⟨h1,h2,h3,h4,h5,h6⟩:=hL;subst h4 h5;refine Bw h1 hq h2 (?_:Le ((a.at i).bind λ_=>some (bV st d (.ptr u (i.toNat*aA.size α+0)))) _) h
 intro r hr;obtain⟨x,hx,hr⟩:=ζg.1 hr;obtain⟨g1,g2,_⟩:=aC.uc hx;rw[Ag (v:=.ptr u (i.toNat*aA.size α+0)) h3 rfl ?_]
 .exact hr
 simp only[iI,cV,uB,h6];rw[if_pos ⟨g1,by omega,rfl⟩,Nat.zero_add,Nat.add_zero]
theorem El {a:aC N α} {i:Int} {o:Nat} {x:α} (hx:a.at i=some x) {sz:Nat} {ag:Bool} {v:V} (hv:(cut (cells x) o sz).bind (mk ag)=some v):rV sz ag ((((cells a).map SV.v).drop (i.toNat*aA.size α+o)).take sz)=some (.v v):=by
 obtain⟨r,hr⟩:=yC hx;have e1:(((cells a).map SV.v).drop (i.toNat*aA.size α+o)).take sz=(((cells x).drop o).take sz).map SV.v:=by
  have hcc:((cells x).drop o).take sz=((cells x++r).drop o).take sz:=by
   cases hc:cut (cells x) o sz with
   | none=>rw[hc]at hv;cases hv
   | some w=>
    unfold cut at hc;dsimp only at hc;split at hc
    .rename_i hl;have ho:sz=0\/o<=(cells x).length:=by
      simp only[List.length_take,List.length_drop]at hl;omega
     rcases ho with rfl|ho
     .simp
     .rw[List.drop_append_of_le_length ho,List.take_append_of_le_length];simp only[List.length_take,List.length_drop]at hl ⊢;omega
    .cases hc
  rw[hcc,<-hr,pa,List.drop_drop,List.map_take,List.map_drop]
 rw[e1];unfold rV
 cases hc:cut (cells x) o sz with
 | none=>rw[hc]at hv;cases hv
 | some w=>
  rw[hc]at hv;unfold cut at hc;dsimp only at hc;split at hc
  .rename_i hl;cases hc;simp only[List.length_map,hl,if_true];simp only[ζb]at hv;unfold mk at hv
   cases ag with
   | true=>
    simp only[if_true]at hv ⊢;cases hv;rw[pV]
   | false=>
    simp only[Bool.false_eq_true,if_false]at hv ⊢;split at hv
    .rename_i hw;cases hv;rw[hw];rfl
    .cases hv
  .cases hc
theorem R7 (n:Nat) (dr:Bool) (fr:List Nat) (q:List RO) (fs':List Fm) (st:St) (u:Nat) (a:aC N α) (i:Int) (o:Nat) (x:α) (hx:a.at i=some x) {sz:Nat} {ag:Bool} {v:V} (hv:(cut (cells x) o sz).bind (mk ag)=some v) (v':V) {m:Option β} (hq:q=⟨d,gd,now,.r (.load sz ag),az,dd,[]⟩::l)
 (hL:(fM S c n fo fs st0,wanted st.g gd,aW S.N st.g az,v,ai st.m u,(!dr||now||c6 fr [.ptr u 0]))=(some (.ops dr fr q,fs',st),some true,some [.ptr u (i.toNat*aA.size α+o)],v',some (bx a),true))
 (h:Le m (qU S c Q dr fr d (.r (.load sz ag)) l fs' dd (bV st d (.v v')))):Le m (rn S c Q fo fs st0):=by
 simp only[ζc]at hL;obtain⟨h1,h2,h3,rfl,h5,h6⟩:=hL;refine pI h1 hq h2 ?_ h;rw[uL,h3];have hold:(!dr||now||c6 fr [SV.ptr u (i.toNat*aA.size α+o)])=true:=h6;simp only[ζb,hold,if_true,UG,h5,Ko];rw[El hx hv];rfl
theorem Jz {N:Nat} (a:aC N α) (i:Int) (y:α) (h:i.toNat<N):cells (a.set i y)=(cells a).take (i.toNat*aA.size α)++cells y++(cells a).drop ((i.toNat+1)*aA.size α):=by
 have key:∀(l:List α) (k:Nat),k<l.length->((l.set k y).map (cells (α:=α))).flatten=(l.map (cells (α:=α))).flatten.take (k*aA.size α)++cells y++(l.map (cells (α:=α))).flatten.drop ((k+1)*aA.size α):=by
  intro l
  induction l with
  | nil=>intro k h;simp at h
  | cons b l ih=>
   intro k h;have hb:(cells b).length=aA.size α:=dh b
   cases k with
   | zero=>
    simp only[List.set_cons_zero,List.map_cons,List.flatten_cons,Nat.zero_mul,List.take_zero,List.nil_append,Nat.zero_add,Nat.one_mul];rw[<-hb,List.drop_left]
   | succ k=>
    simp only[List.set_cons_succ,List.map_cons,List.flatten_cons];rw[ih k (by simpa using h)]
    have e1:(k+1)*aA.size α=(cells b).length+k*aA.size α:=by rw[hb,Nat.add_mul,Nat.one_mul,Nat.add_comm]
    have e2:(k+1+1)*aA.size α=(cells b).length+(k+1)*aA.size α:=by rw[hb,Nat.add_mul (k+1),Nat.one_mul,Nat.add_comm]
    rw[e2,List.drop_length_add_append];rw[e1,List.take_length_add_append];simp[List.append_assoc]
 exact key a.l i.toNat (by rw[a.len];exact h)
theorem Np (n:Nat) (dr:Bool) (fr:List Nat) (q:List RO) (fs':List Fm) (st:St) (u:Nat) (a:aC N α) (i:Int) (o:Nat) (x:α) (hx:a.at i=some x) (y:α) (v:V) {sz:Nat} (hy:cells y=(cells x).take o++v.cells++(cells x).drop (o+sz)) {m:Option β} (hq:q=⟨d,gd,now,.l (.store sz),az,dd,[]⟩::l)
 (hL:(fM S c n fo fs st0,wanted st.g gd,aW S.N st.g az,ai st.m u,(!dr||now),v.cells.length,v.cells.all V.one,Nat.ble (o+sz) (aA.size α))=(some (.ops dr fr q,fs',st),some true,some [.ptr u (i.toNat*aA.size α+o),.v v],some (bx a),true,sz,true,true))
 (h:Le m (qU S c Q dr fr d (.l (.store sz)) l fs' dd (bV { st with m:=aO st.m u (bx (a.set i y)) } d (.v .undef)))):Le m (rn S c Q fo fs st0):=by
 simp only[ζc]at hL;obtain⟨h1,h2,h3,h4,h5,h6,h7,h8⟩:=hL;refine pI h1 hq h2 ?_ h;rw[qx,h3];have h9:=Nat.le_of_ble_eq_true h8;obtain⟨g1,g2,g3⟩:=aC.uc hx;have hb:i.toNat*aA.size α+o+sz<=((cells a).map SV.v).length:=by
  rw[List.length_map,dh];have:(i.toNat+1)*aA.size α<=N*aA.size α:=Nat.mul_le_mul_right _ g2;rw[Nat.add_mul,Nat.one_mul]at this;show _<=N*aA.size α;omega
 simp only[ζb,h5,if_true,lp,h4,putCells,h6,h7,hb,and_self,Option.map_some];obtain⟨r,hr⟩:=yC hx;have e:((cells a).map SV.v).take (i.toNat*aA.size α+o)++v.cells.map .v++((cells a).map SV.v).drop (i.toNat*aA.size α+o+sz)=(cells (a.set i y)).map SV.v:=by
  rw[Jz a i y g2,hy];have hd:(cells a).drop (i.toNat*aA.size α)=cells x++r:=hr;have hlx:(cells x).length=aA.size α:=dh x;have e1:(cells a).take (i.toNat*aA.size α+o)=(cells a).take (i.toNat*aA.size α)++(cells x).take o:=by
   rw[List.take_add,hd,List.take_append_of_le_length (by omega)]
  have e2:(cells a).drop (i.toNat*aA.size α+o+sz)=(cells x).drop (o+sz)++(cells a).drop ((i.toNat+1)*aA.size α):=by
   have e3:(cells a).drop ((i.toNat+1)*aA.size α)=r:=by
    rw[Nat.add_mul,Nat.one_mul,<-List.drop_drop,hd,<-hlx,List.drop_left]
   rw[e3,Nat.add_assoc,<-List.drop_drop,hd,List.drop_append_of_le_length (by omega)]
  rw[<-List.map_take,<-List.map_drop,e1,e2];simp[List.map_append,List.append_assoc]
 rw[e]
end
theorem NW {α:Type} [aA α] {m:Tb aL} {d:Nat} {x:α} {vs:List V} (h:ai m d=some (bx x)):kR (fH m 8) (.ptr d 0::vs.map .v)=some (.fptr (cells x)::vs):=by
 have h1:fH m 8 (.ptr d 0)=some (.fptr (cells x)):=by
  show (match ai m d with
   | some (.box cs)=>match kR (fH m 7) cs with
    | some xs=>if 0<=xs.length then some (V.fptr (xs.drop 0))else none
    | none=>none
   | _=>none)=_
  rw[h];simp only[DU,Nat.zero_le,if_true,List.drop_zero]
 simp only[kR,h1,DU,ζb]
theorem M6 (n:Nat) {fo:Fo} {fs fs':List Fm} {st0 st:St} {rs:List RV} {e:γ->Option (List V)} {r:γ} (svs:List SV) {ys:List V} (h2:kR (fH st.m 8) svs=some ys) (h:(fM S c n fo fs st0,mN st rs)=(some (.rt,fs',st),some svs)) (h3:e r=some ys) :
 Le ((some r).bind e) (rn S c (oV rs) fo fs st0):=by
 simp only[ζc]at h;rw[nj h.1];refine Le.of_eq ?_;simp only[rn,oV,h.2,ζb,h2];exact h3.symm
abbrev Mo (κ ν:Type):=List (κ×ν)
class Key (κ:Type) [aA κ] [DecidableEq κ] where
 kk:vi
 ok:∀a:κ,oq kk (enc a)=true
 eq:∀a b:κ,s6 (enc a) (enc b)=some (decide (a=b))
instance:Key Int where
 kk:=.int .i64
 ok _:=rfl
 eq a b:=by
  show some (a==b)=some (decide (a=b));rw[show (a==b)=decide (a=b)from Bool.eq_iff_iff.2 (by simp)]
instance:Key aa where
 kk:=.ints 2
 ok _:=rfl
 eq a b:=by
  obtain⟨p,i⟩:=a;obtain⟨q,j⟩:=b;simp only[s6,ji,fS,Rt,Option.map_some,List.length_cons,if_true,ζa];rw[Bool.eq_iff_iff];simp
section
variable {κ ν:Type} [aA κ] [DecidableEq κ] [Key κ] [aA ν]
def mM (k:κ):Mo κ ν->Option ν
 | []=>none
 | (a,v)::r=>if k=a then some v else mM k r
def nN (m:Mo κ ν) (k:κ) (z:ν):ν:=(mM k m).getD z
def zR (m:Mo κ ν) (k:κ):Bool:=(mM k m).isSome
def nL (m:Mo κ ν) (k:κ) (v:ν):Mo κ ν:=
 match m with
 | []=>[(k,v)]
 | (a,w)::r=>if k=a then(k,v)::r else(a,w)::nL r k v
def jJ (m:Mo κ ν):List (V×V):=m.map λx=>(enc x.1,enc x.2)
def qV (m:Mo κ ν):aL:=.mp (jJ m)
theorem BR (k:κ):∀(m:Mo κ ν) (i:Nat),(fK (enc k) (jJ m) i).map (Option.map (·.2))=some ((mM k m).map enc)
 | [],i=>rfl
 | (a,v)::r,i=>by
  simp only[jJ,List.map_cons,fK,Key.eq,mM]
  by_cases h:k=a
  .rw[if_pos h];simp[h]
  .rw[if_neg h];simp only[h,decide_false];exact BR k r (i+1)
theorem KN (k:κ) (v:ν) (m:Mo κ ν):ot (enc k) (enc v) (jJ m)=some (jJ (nL m k v)):=by
 unfold ot;have key:∀(m:Mo κ ν) (pre:List (V×V)) (i:Nat),pre.length=i->(match fK (enc k) (jJ m) i with
  | some (some (j,_))=>some ((pre++jJ m).set j (enc k,enc v))
  | some none=>some (pre++jJ m++[(enc k,enc v)])
  | none=>none)=some (pre++jJ (nL m k v)):=by
  intro m
  induction m with
  | nil=>intro pre i h;simp[jJ,fK,nL]
  | cons x r ih=>
   obtain⟨a,w⟩:=x;intro pre i h;rw[show jJ ((a,w)::r)=(enc a,enc w)::jJ r from rfl];simp only[fK,Key.eq,nL]
   by_cases hk:k=a
   .subst hk h;simp[jJ]
   .simp only[hk,decide_false,if_false];rw[show jJ ((a,w)::nL r k v)=(enc a,enc w)::jJ (nL r k v)from rfl];have:=ih (pre++[(enc a,enc w)]) (i+1) (by simp[h])
    simp only[List.append_assoc,List.cons_append,List.nil_append]at this ⊢;exact this
 have:=key m [] 0 rfl
 cases hf:fK (enc k) (jJ m) 0 with
 | none=>rw[hf]at this;cases this
 | some r=>
  rw[hf]at this
  cases r with
  | none=>simpa using this
  | some w=>obtain⟨j,w⟩:=w;simpa using this
theorem SG (n:Nat) (dr:Bool) (fr:List Nat) (q:List RO) (fs':List Fm) (st:St) (u:Nat) (mp:Mo κ ν) (k:κ) (z:ν) {kk:vi} {zv:V} {m:Option β} (hq:q=⟨d,gd,now,.r (.lookup kk zv false),az,dd,[]⟩::l)
 (hL:(fM S c n fo fs st0,wanted st.g gd,aW S.N st.g az,ai st.m u,(!dr||now||c6 fr [.mp u,cv k]),zv,kk)=(some (.ops dr fr q,fs',st),some true,some [.mp u,cv k],some (qV mp),true,enc z,Key.kk κ))
 (h:Le m (qU S c Q dr fr d (.r (.lookup kk zv false)) l fs' dd (bV st d (cv (nN mp k z))))):Le m (rn S c Q fo fs st0):=by
 simp only[ζc]at hL;obtain⟨h1,h2,h3,h4,h5,h6,h7⟩:=hL;subst h6 h7;refine pI h1 hq h2 ?_ h;rw[uL,h3];simp only[ζb,h5,if_true,jc,h4,qV,Key.ok];have:=BR k mp 0;simp only[nN]
 cases hf:fK (enc k) (jJ mp) 0 with
 | none=>rw[hf]at this;cases this
 | some r=>
  rw[hf]at this;simp only[Option.map_some,ζa]at this
  cases r with
  | none=>
   cases hm:mM k mp with
   | none=>rfl
   | some w=>rw[hm]at this;cases this
  | some w=>
   cases hm:mM k mp with
   | none=>rw[hm]at this;cases this
   | some w2=>
    rw[hm]at this;simp only[Option.map_some,ζa]at this;simp only[this];rfl
theorem UE (n:Nat) (dr:Bool) (fr:List Nat) (q:List RO) (fs':List Fm) (st:St) (u:Nat) (mp:Mo κ ν) (k:κ) (v:ν) {kk:vi} {m:Option β} (hq:q=⟨d,gd,now,.l (.mapUp kk),az,dd,[]⟩::l)
 (hL:(fM S c n fo fs st0,wanted st.g gd,aW S.N st.g az,ai st.m u,(!dr||now),kk)=(some (.ops dr fr q,fs',st),some true,some [.mp u,cv k,cv v],some (qV mp),true,Key.kk κ))
 (h:Le m (qU S c Q dr fr d (.l (.mapUp kk)) l fs' dd (bV { st with m:=aO st.m u (qV (nL mp k v)) } d (.v .undef)))):Le m (rn S c Q fo fs st0):=by
 simp only[ζc]at hL;obtain⟨h1,h2,h3,h4,h5,h6⟩:=hL;subst h6;refine pI h1 hq h2 ?_ h;rw[qx,h3];simp only[ζb,h5,if_true,lp,h4,qV,Key.ok,KN,Option.map_some]
end
end
end Go.VE
namespace Go.VE
variable [aS]
instance {n:Nat}:OfNat Arg n:=⟨.s n⟩
abbrev bI (o:BinOp):K:=.p (.bin (some .int) none o)
abbrev ix (n:Nat):K:=.p (.idxS n)
abbrev ld (n:Nat):K:=.r (.load n false)
abbrev lD (n:Nat):K:=.r (.load n true)
abbrev fa (n:Nat):K:=.p (.fieldAddr n)
abbrev ln:K:=.p .lenSl
abbrev su (n:Nat):K:=.l (.store n)
abbrev Iv (n:Nat) (x:Int):Nat×SV:=(n,iv x)
abbrev Bv (n:Nat) (x:Bool):Nat×SV:=(n,bv x)
abbrev Cv {α:Type} [aA α] (n:Nat) (x:α):Nat×SV:=(n,cv x)
abbrev Kv {α:Type} [aA α] (n:Nat) (x:α):Nat×SV:=(n,cp x)
abbrev Pv (n:Nat):Nat×SV:=(n,.ptr n 0)
abbrev Ov (n:Nat):Nat×SV:=(n,.own (2000+n))
abbrev Xb {α:Type} [aA α] (n:Nat) (x:α):Nat×aL:=(n,bx x)
abbrev Lb {α:Type} [aA α] (n:Nat) (x:Sl α):Nat×aL:=(n,bZ x)
abbrev on (d:Nat) (k:K) (az:List Arg) (dd:List Nat):RO:=⟨some d,none,true,k,az,dd,[]⟩
abbrev oz (k:K) (az:List Arg) (dd:List Nat):RO:=⟨none,none,false,k,az,dd,[]⟩
abbrev oy (k:K) (az:List Arg) (dd:List Nat):RO:=⟨none,none,true,k,az,dd,[]⟩
theorem Ki {n:Nat} {α:Type} [aA α] [Lv n α] (a:α):V.bU n (cells a)=true:=Lv.lv a
attribute [simp] Ki N_ Mq fT ig oA mL oK NG OP LN Gz Qu OM NO OA Om Oy
theorem jk.wK {S:Sys} {T:qM} {f:FuncId} {b:Bool} (hT:T f=none) (hk:S.E.keep f=false) (ho:S.wK f []=some (.bool b)) :
 jk S (cz S T) f (λ_:Unit=>[]) (λr:Bool=>[.bool r]) (λ_=>some b) true where
 k:=hk
 h _:=by
  have h:=CJ (az:=[]) hT hk ho;intro r hr;cases hr;unfold kY;rw[h];exact uF 8 [.bool b]
 l _:=by simp
 r _:=by simp
 s _ _:=rfl
end Go.VE
namespace Go.VE
variable [aS]
def Wp {α:Type} (m:Option α) (P:α->Prop):Prop:=∃a,m=some a/\P a
section
variable {α β:Type} {P Q:α->Prop}
theorem af (a:α):Wp (some a) P↔P a:=⟨λh=>by obtain⟨b,e,p⟩:=h;cases e;exact p,λp=>⟨a,rfl,p⟩⟩
theorem NY:Wp (none:Option α) P↔False:=⟨λh=>(by obtain⟨b,e,p⟩:=h;cases e),λh=>False.elim h⟩
theorem eS {m:Option β} {k:β->Option α}:Wp (m.bind k) P↔Wp m λb=>Wp (k b) P:=by
 cases m with
 | none=>simp only[Option.bind_none,NY]
 | some b=>simp only[ζb,af]
theorem bD {t:Bool} {a b:Option α}:Wp (ay t a b) P↔(t=true->Wp a P)/\(t=false->Wp b P):=by
 cases t <;> simp[ay]
theorem Wp.mono {m:Option α} (h:Wp m P) (hpq:∀a,P a->Q a):Wp m Q:=let ⟨a,e,p⟩:=h;⟨a,e,hpq a p⟩
theorem Wp.and {m:Option α} (h:Wp m P) (h2:Wp m Q):Wp m λa=>P a/\Q a:=by
 obtain⟨a,e,p⟩:=h;obtain⟨b,e2,q⟩:=h2;rw[e]at e2;cases e2;exact⟨a,e,p,q⟩
theorem Wp.eq {m:Option α} {a:α} (h:Wp m λx=>x=a):m=some a:=by obtain⟨b,e,rfl⟩:=h;exact e
theorem DV {m:Option α} {a:α} (h:m=some a):Wp m λx=>x=a:=⟨a,h,rfl⟩
end
section
variable {σ ε ρ:Type}
theorem gK (step:σ->Option (Fw σ ε ρ)) (s:σ):aZ step s=(step s).bind λw=>match w with
 | .n s'=>aZ step s'
 | .x e=>some (.x e)
 | .r b=>some (.r b):=by
 have h1:∀r,aZ step s=some r->((step s).bind λw=>match w with
  | .n s'=>aZ step s'
  | .x e=>some (.x e)
  | .r b=>some (.r b))=some r:=by
  intro r h;obtain⟨k,hk⟩:=mz.1 h
  cases k with
  | zero=>simp[hG]at hk
  | succ k=>
   simp only[hG]at hk
   cases hs:step s with
   | none=>rw[hs]at hk;cases hk
   | some w=>
    rw[hs]at hk
    cases w with
    | n s'=>exact mz.2 ⟨k,hk⟩
    | x e=>exact hk
    | r b=>exact hk
 cases hw:aZ step s with
 | some r=>exact(h1 r hw).symm
 | none=>
  cases hr:((step s).bind λw=>match w with
  | .n s'=>aZ step s'
  | .x e=>some (.x e)
  | .r b=>some (.r b))with
  | none=>rfl
  | some r=>
   exfalso
   cases hs:step s with
   | none=>rw[hs]at hr;cases hr
   | some w=>
    rw[hs]at hr;simp only[ζb]at hr;have:aZ step s=some r:=by
     cases w with
     | n s'=>
      obtain⟨k,hk⟩:=mz.1 hr;exact mz.2 ⟨k+1,by simp only[hG,hs];exact hk⟩
     | x e=>exact mz.2 ⟨1,by simp only[hG,hs];exact hr⟩
     | r b=>exact mz.2 ⟨1,by simp only[hG,hs];exact hr⟩
    rw[hw]at this;cases this
def Nj (I:σ->Prop) (μ:σ->Nat) (px:ε->Prop) (pr:ρ->Prop) (s:σ):Fw σ ε ρ->Prop
 | .n s'=>I s'/\μ s'<μ s
 | .x e=>px e
 | .r b=>pr b
def Ud (px:ε->Prop) (pr:ρ->Prop):Fw Empty ε ρ->Prop
 | .x e=>px e
 | .r b=>pr b
theorem LF {step:σ->Option (Fw σ ε ρ)} (I:σ->Prop) (μ:σ->Nat) (px:ε->Prop) (pr:ρ->Prop) (h:∀s,I s->Wp (step s) (Nj I μ px pr s)) {s:σ} (hs:I s):Wp (aZ step s) (Ud px pr):=by
 have key:∀n s,μ s<=n->I s->Wp (aZ step s) (Ud px pr):=by
  intro n
  induction n with
  | zero=>
   intro s hm hi;obtain⟨w,hw,hr⟩:=h s hi;rw[gK,hw]
   cases w with
   | n s'=>exact absurd hr.2 (by omega)
   | x e=>exact⟨_,rfl,hr⟩
   | r b=>exact⟨_,rfl,hr⟩
  | succ n ih=>
   intro s hm hi;obtain⟨w,hw,hr⟩:=h s hi;rw[gK,hw]
   cases w with
   | n s'=>exact ih s' (by have:=hr.2;omega) hr.1
   | x e=>exact⟨_,rfl,hr⟩
   | r b=>exact⟨_,rfl,hr⟩
 exact key (μ s) s (Nat.le_refl _) hs
theorem gE {γ:Type} {step:σ->Option (Fw σ ε ρ)} {fx:ε->Option γ} {fr:ρ->Option γ} {P:γ->Prop} (I:σ->Prop) (μ:σ->Nat) {s:σ} (hs:I s)
 (h:∀s,I s->Wp (step s) (Nj I μ (λe=>Wp (fx e) P) (λb=>Wp (fr b) P) s)):Wp ((aZ step s).bind (Fw.elim fx fr)) P:=by
 rw[eS];refine(LF I μ _ _ h hs).mono ?_;intro w hw
 cases w with
 | n a=>cases a
 | x e=>exact hw
 | r b=>exact hw
end
end Go.VE
namespace Go.VE
variable [aS]
theorem GV {β γ δ:Type} {e:γ->Option β} {m:Option δ} {f:δ->Option γ} {L:Option β} (h:∀x,m=some x->Le ((f x).bind e) L):Le ((m.bind f).bind e) L:=by
 cases m with
 | none=>exact Le.none _
 | some x=>exact h x rfl
section
variable {S:Sys} {c:bG} {β:Type} {Q:Out×St->Option β} {fo:Fo} {fs:List Fm} {st0:St} {l:List RO} {d:Option Nat} {now:Bool} {az:List Arg} {dd:List Nat}
theorem Le.get {β:Type} {r:β} {L:Option β} (h:Le (some r) L):L=some r:=h r rfl
theorem Kt {n:Nat} {fo fo':Fo} {fs fs':List Fm} {st:St} (A:Bool->St) {t:Bool} {m:Option β} (ht:t=true) (h:fM S c n fo fs st=some (fo',fs',A t)) (ha:Le m (rn S c Q fo' fs' (A true))):Le m (rn S c Q fo fs st):=by
 rw[nj h,ht];exact ha
theorem Kf {n:Nat} {fo fo':Fo} {fs fs':List Fm} {st:St} (A:Bool->St) {t:Bool} {m:Option β} (ht:t=false) (h:fM S c n fo fs st=some (fo',fs',A t)) (ha:Le m (rn S c Q fo' fs' (A false))):Le m (rn S c Q fo fs st):=by
 rw[nj h,ht];exact ha
theorem KU {α:Type} [aA α] {s:Sl α} {i:Int} {x:α} {r:β} {L:Option β} (hx:idx s i=some x) (h:Le (((idx s i).bind λ_=>some r).bind some) L):Le (some r) L:=by
 rw[hx]at h;exact h
theorem TV {n:Nat} {q:List RO} {fs':List Fm} {st:St} {id:Nat} {vs:List SV} {xs:List V} {ws:List (List V)} {m:Option β}
 (hL:fM S c n fo fs st0=some (.ops false [] q,fs',st)) (hq:q=⟨d,none,now,.c,az,dd,[]⟩::l) (hs:aW S.N st.g az=some (.yl id::vs)) (ha:cV vs=some xs) (hw:st.want=xs::ws) (hi:id=st.yid)
 (h:Le m (rn S c Q (.ops false [] l) fs' (nP dd (bV { st with want:=ws } d (.v (.bool (st.more || !ws.isEmpty))))))):Le m (rn S c Q fo fs st0):=by
 refine MM hL hq rfl ?_ h;unfold d_;simp only[wanted,eO,hs,ha,hw,hi,if_true,and_self,Bool.false_eq_true,if_false]
theorem yo (a:RC) (fs:List Fm) (st:St):rn S c Q (.rc (.loop a)) fs st=(mK (bz S c a) st).bind (BP (lg S c Q fs) (kW S c Q fs) (λst=>Q (.ret,st))):=by
 show lC S c Q (.loop a) fs st=_;unfold lC;rw[Bq];rfl
theorem OD {f:St->Option (Out×St)} {st st':St} (h:f st=some (.norm,st')):mK f st=mK f st':=by
 have key:∀r,mK f st=some r↔mK f st'=some r:=λr=>by
  constructor
  .intro hr;obtain⟨k,hk⟩:=k_.1 hr
   cases k with
   | zero=>simp[gM]at hk
   | succ k=>simp only[gM,h]at hk;exact k_.2 ⟨k,hk⟩
  .intro hr;obtain⟨k,hk⟩:=k_.1 hr;exact k_.2 ⟨k+1,by simp only[gM,h];exact hk⟩
 cases hx:mK f st with
 | none=>
  cases hy:mK f st' with
  | none=>rfl
  | some r=>rw[(key r).2 hy]at hx;cases hx
 | some r=>rw[(key r).1 hx]
theorem Gv {f:St->Option (Out×St)} {st st':St} {o:Out} (h:f st=some (o,st')) (ho:o≠.norm):mK f st=some (o,st'):=by
 refine k_.2 ⟨1,?_⟩
 cases o with
 | norm=>exact absurd rfl ho
 | exit k=>simp only[gM,h]
 | ret=>simp only[gM,h]
theorem CC {a:RC} {fs:List Fm} {st st':St} (h:rn S c some (.rc a) [] st=some (.norm,st')):rn S c Q (.rc (.loop a)) fs st=rn S c Q (.rc (.loop a)) fs st':=by
 rw[yo,yo,OD (by rw[yu];exact h)]
theorem Cy {a:RC} {fs:List Fm} {st st':St} {k:Nat} (h:rn S c some (.rc a) [] st=some (.exit k,st')):rn S c Q (.rc (.loop a)) fs st=rn S c Q (.ex k) fs st':=by
 rw[yo,Gv (by rw[yu];exact h) (by simp)];rfl
theorem Co {a:RC} {fs:List Fm} {st st':St} (h:rn S c some (.rc a) [] st=some (.ret,st')):rn S c Q (.rc (.loop a)) fs st=Q (.ret,st'):=by
 rw[yo,Gv (by rw[yu];exact h) (by simp)];rfl
end
def Qi:Out×St->Option Unit
 | (.exit _,_)=>none
 | (_,st)=>if st.want.isEmpty then some ()else none
def Sys.bare (S:Sys):Sys:=⟨S.E,S.N,λ_ _ _=>none,λ_ _=>none,λ_=>none⟩
def lR:bG:=λ_ _ _=>none
def Be (ws rest:List (List V)) (more:Bool):Prop:=more=true/\ws=rest\/more=false/\ws≠[]/\∃r,rest=ws++r
theorem Lr (S:Sys) {f:FuncId} {fi:FI} {nm:FuncId->Option Nat} {rf:RF} (hft:S.E.ft f=some fi) (hN:∀g s,nm g=some s->S.N s=g) (hr:wC S.E nm fi rf) {a b:List V} {xs:List (List V)} (hlen:a.length+1+b.length<=rf.na) (hrs:rf.rs=[])
 (h:∀ws more,Be ws xs more->∀yid,rn S.bare lR Qi (.rc rf.body) [] ⟨uV 0 (a.map .v++.yl yid::b.map .v),[],[],ws,more,yid⟩=some ()):dU S f a b xs:=by
 have k:dU S.bare f a b xs:=Ot (S:=S.bare) (c:=lR) (fi:=fi) (nm:=nm) (rf:=rf) (λ_ _ h=>by cases h) (λ_ _ _ _ _ h=>by simp[lR]at h) (λ_ _ _ _ h=>by simp[Sys.bare]at h) hft hN hr hlen hrs (λws more hw yid=>by
  have h1:=h ws more hw yid;change lC S.bare lR Qi rf.body [] _=some ()at h1;rw[tv]at h1;obtain⟨⟨o,st'⟩,h2,h3⟩:=ζg.1 h1;refine⟨o,st',h2,?_,?_,rfl⟩
  .rintro id rfl;simp[Qi]at h3
  .cases o <;> simp[Qi]at h3 <;> exact h3)
 intro ws more hw yid J y Z a' b' H h1 h2 h3 h4 h5;exact k ws more hw yid J ⟨y.uY,y.yield⟩ Z a' b' H h1 h2 h3 h4 h5
open Classical in
noncomputable def vC (P:FuncId->List V->List V->List (List V)->Prop) (f:FuncId) (a b:List V):Option (List (List V)):=if h:∃xs,P f a b xs then some (Classical.choose h)else none
theorem HA {P:FuncId->List V->List V->List (List V)->Prop} {f:FuncId} {a b:List V} {xs:List (List V)} (h:P f a b xs) (hu:∀ys,P f a b ys->ys=xs):vC P f a b=some xs:=by
 have h1:∃xs,P f a b xs:=⟨xs,h⟩;unfold vC;rw[dif_pos h1,hu _ (Classical.choose_spec h1)]
theorem HY {P:FuncId->List V->List V->List (List V)->Prop} {f:FuncId} {a b:List V} {xs:List (List V)} (h:vC P f a b=some xs):P f a b xs:=by
 unfold vC at h;split at h
 .rename_i h1;cases h;exact Classical.choose_spec h1
 .cases h
theorem Rs {E:Env} {nm:FuncId->Option Nat} {f:FuncId} {rf:RF}
 (h:((E.ft f).bind λfi=>(aJ ⟨E,nm,fi.ntmps⟩ false fi.body).bind λc=>(fi.results.mapM (ym E)).bind λrs=>some (c,rs,fi.ntmps))=some (erase rf.body,rf.rs,rf.na)):∃fi,E.ft f=some fi/\wC E nm fi rf:=by
 obtain⟨fi,h1,h2⟩:=ζg.1 h;obtain⟨c,h3,h4⟩:=ζg.1 h2;obtain⟨rs,h5,h6⟩:=ζg.1 h4;simp only[ζa,ζc]at h6;obtain⟨rfl,rfl,h7⟩:=h6;exact⟨fi,h1,h3,h5,h7.symm⟩
theorem wS {n m:Nat} (h:n<=m) {x:V} (hx:V.lvl n x=true):V.lvl m x=true:=by
 induction h with
 | refl=>exact hx
 | step _ ih=>exact wX ih
theorem yx {n m:Nat} (h:n<=m) {x:List V} (hx:V.bU n x=true):V.bU m x=true:=by
 induction h with
 | refl=>exact hx
 | step _ ih=>exact qq ih
theorem Md {n m:Nat} (h:n<=m) {x:List (List V)} (hx:V.lS n x=true):V.lS m x=true:=by
 induction h with
 | refl=>exact hx
 | step _ ih=>exact zV ih
theorem N7 {n m:Nat} (h:n<=m) {x:List (V×V)} (hx:V.nK n x=true):V.nK m x=true:=by
 induction h with
 | refl=>exact hx
 | step _ ih=>exact BT ih
mutual
theorem xQ:∀x:V,∃n,V.lvl n x=true
 | .fsl es xs=>let ⟨n,h⟩:=DR xs;⟨n+1,by simp only[V.lvl];exact h⟩
 | .fptr cs=>let ⟨n,h⟩:=qX cs;⟨n+1,by simp only[V.lvl];exact h⟩
 | .fmap kvs=>let ⟨n,h⟩:=Gp kvs;⟨n+1,by simp only[V.lvl];exact h⟩
 | .agg cs=>let ⟨n,h⟩:=qX cs;⟨n+1,by simp only[V.lvl];exact h⟩
 | .tup cs=>let ⟨n,h⟩:=qX cs;⟨n+1,by simp only[V.lvl];exact h⟩
 | .clo f a b=>let ⟨n,h⟩:=qX a;let ⟨m,k⟩:=qX b;⟨max n m+1,by simp only[V.lvl,ζh];exact⟨yx (Nat.le_max_left _ _) h,yx (Nat.le_max_right _ _) k⟩⟩
 | .bool _|.int ..|.str _|.fD|.dY|.ql|.cI|.aF|.hsl ..|.hptr ..|.yld _|.hmap _=>⟨0,rfl⟩
theorem qX:∀x:List V,∃n,V.bU n x=true
 | []=>⟨0,by simp only[V.bU]⟩
 | a::l=>let ⟨n,h⟩:=xQ a;let ⟨m,k⟩:=qX l;⟨max n m,by simp only[V.bU,ζh];exact⟨wS (Nat.le_max_left _ _) h,yx (Nat.le_max_right _ _) k⟩⟩
theorem DR:∀x:List (List V),∃n,V.lS n x=true
 | []=>⟨0,by simp only[V.lS]⟩
 | a::l=>let ⟨n,h⟩:=qX a;let ⟨m,k⟩:=DR l;⟨max n m,by simp only[V.lS,ζh];exact⟨yx (Nat.le_max_left _ _) h,Md (Nat.le_max_right _ _) k⟩⟩
theorem Gp:∀x:List (V×V),∃n,V.nK n x=true
 | []=>⟨0,by simp only[V.nK]⟩
 | (a,b)::l=>let ⟨n,h⟩:=xQ a;let ⟨m,k⟩:=xQ b;let ⟨q,p⟩:=Gp l;⟨max n (max m q),by simp only[V.nK,ζh];exact⟨⟨wS (by omega) h,wS (by omega) k⟩,N7 (by omega) p⟩⟩
end
theorem FR.oc {H:ak} {Z Z':Nat->Prop} {x y z:V} (h:FR H Z x z) (k:FR H Z' y z):x=y:=by
 obtain⟨n,hn⟩:=xQ x;obtain⟨m,hm⟩:=xQ y;have e1:=h.borrow (max n m) (wS (Nat.le_max_left _ _) hn);have e2:=k.borrow (max n m) (wS (Nat.le_max_right _ _) hm);rw[e1]at e2;exact Option.some.inj e2
open Classical in
noncomputable def xh (E:Env) (f:FuncId) (az:List V):Option V:=if h:∃y,ve E f az y then some (Classical.choose h)else none
theorem Kp {E:Env} {f:FuncId} {az:List V} {y:V} (h:xh E f az=some y):ve E f az y:=by
 unfold xh at h;split at h
 .rename_i h1;cases h;exact Classical.choose_spec h1
 .cases h
theorem uk {E:Env} {f:FuncId} {az:List V} {y:V} (h:ve E f az y):xh E f az=some y:=by
 have h1:∃y,ve E f az y:=⟨y,h⟩;unfold xh;rw[dif_pos h1];obtain⟨n,z,H,Z,k1,k2,_⟩:=h;obtain⟨n',z',H',Z',k3,k4,_⟩:=Classical.choose_spec h1;have e1:=mm E (Nat.le_max_left n n') _ _ _ _ k1;have e2:=mm E (Nat.le_max_right n n') _ _ _ _ k3;rw[e1]at e2;cases e2;rw[FR.oc k4 k2]
theorem Fv {E:Env} {f:FuncId} {az:List V} {y:V} (hs:V.scalar y=true) (h:∃n H',run E n (.fn f) az []=some (y,H')):ve E f az y:=by
 obtain⟨n,H',h⟩:=h;exact⟨n,y,H',λ_=>False,h,.same _ (nG hs),λ_ h=>h.elim,⟨λ_ _ _ h=>h.elim⟩⟩
end Go.VE
