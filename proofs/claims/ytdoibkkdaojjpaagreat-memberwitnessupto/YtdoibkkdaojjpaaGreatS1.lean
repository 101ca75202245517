/-
 Plain values and the steps of a certificate.
-/
import Derived.KernelRfl
import Derived.Test.YtdoibkkdaojjpaaGreatN2
set_option linter.all false
namespace Go.VE
variable [aW]
inductive Sl (α:Type) where
 | nil
 | emp
 | row (l:List α)
 | part (l:List α)
 deriving Inhabited
def Sl.l {α:Type}:Sl α->List α
 | .nil|.emp=>[]
 | .row l|.part l=>l
def Sl.k {α:Type}:Sl α->Fl
 | .nil=>.nil
 | .emp=>.emp
 | .row _=>.row
 | .part _=>.part
class aB (α:Type) where
 cells:α->List V
 agg:Bool
 size:Nat
 len:∀a,(cells a).length=size
 good:∀a,V.bE (cells a)=true
 one:∀a,(cells a).all V.one=true
 plain:agg=false->size=1
def cells {α:Type} [aB α] (a:α):List V:=aB.cells a
def enc {α:Type} [aB α] (a:α):V:=if aB.agg α then .agg (cells a)else(cells a).headD .undef
def rows {α:Type} [aB α] (l:List α):List (List V):=l.map cells
def aX {α:Type} [aB α] (s:Sl α):V:=lq s.k (aB.size α) (rows s.l)
instance:aB Int where
 cells n:=[.int .i64 n]
 agg:=false
 size:=1
 len _:=rfl
 good _:=rfl
 one _:=rfl
 plain _:=rfl
instance:aB Bool where
 cells b:=[.bool b]
 agg:=false
 size:=1
 len _:=rfl
 good _:=rfl
 one _:=rfl
 plain _:=rfl
instance:aB ByteArray where
 cells s:=[.str s]
 agg:=false
 size:=1
 len _:=rfl
 good _:=rfl
 one _:=rfl
 plain _:=rfl
structure aa where
 proc:Int
 index:Int
 deriving DecidableEq,Inhabited
instance:aB aa where
 cells x:=[.int .i64 x.proc,.int .i64 x.index]
 agg:=true
 size:=2
 len _:=rfl
 good _:=rfl
 one _:=rfl
 plain h:=by cases h
@[simp] theorem U4 (n:Int):enc n=.int .i64 n:=rfl
@[simp] theorem UT (n:Bool):enc n=.bool n:=rfl
@[simp] theorem U6 (n:ByteArray):enc n=.str n:=rfl
@[simp] theorem TQ (n:Int):cells n=[.int .i64 n]:=rfl
@[simp] theorem Si (n:Bool):cells n=[.bool n]:=rfl
@[simp] theorem Tu (n:ByteArray):cells n=[.str n]:=rfl
@[simp] theorem UP (n:aa):cells n=[.int .i64 n.proc,.int .i64 n.index]:=rfl
@[simp] theorem RW (n:aa):enc n=.agg [.int .i64 n.proc,.int .i64 n.index]:=rfl
section
variable {α:Type} [aB α]
theorem eE (l:List α):(rows l).length=l.length:=by simp[rows]
def idx (s:Sl α) (i:Int):Option α:=if 0<=i then s.l[i.toNat]? else none
theorem KV {N:Nat->FuncId} (s:Sl α) (k:IntKind) (i:Int) {n:Nat} (hn:n=aB.size α):ai N (.idxS n) [aX s,.int k i]=(idx s i).map λx=>.fptr (cells x):=by
 subst hn;unfold idx aX;simp only[ai,jJ]
 by_cases h:i<0
 .rw[if_pos h,if_neg (by omega)];rfl
 .rw[if_neg h,if_pos (by omega)]
  cases s <;> simp[Sl.k,Sl.l,lq,rows,Function.comp_def]
theorem JB {N:Nat->FuncId} (s:Sl α):ai N .lenSl [aX s]=some (.int .i64 s.l.length):=by
 cases s <;> simp[ai,k_,aX,Sl.k,Sl.l,lq,eE]
end
section
variable {S:Sys} {c:bF}
end
end Go.VE
namespace Go.VE
variable [aW]
section
variable {S:Sys} {c:bF}
def isSlice:tI->Bool
 | .slice ..=>true
 | _=>false
theorem MV (dr:Bool) (fr:List Nat) (dst:Option Nat) (now:Bool) (p:tI) (az:List Arg) (st:St) (h:isSlice p=false) :
 eu S c dr fr ⟨dst,none,now,.p p,az,[],[]⟩ st=(aZ S.N st.g az).bind λsvs=>(hG S.N st.m p svs).bind λx=>some (bX st dst x):=by
 unfold eu mN;have hy:eR S.N st.g ⟨dst,none,now,.p p,az,[],[]⟩=none:=by unfold eR;cases p <;> rfl
 simp only[wanted,hy]
 cases hs:aZ S.N st.g az with
 | none=>rfl
 | some svs=>
  simp only[ζb];cases p <;> first|(simp[isSlice]at h;done)|(cases hp:hG S.N st.m _ svs <;> simp[hp])
theorem Gx (N:Nat->FuncId) (m:Tb aK) (p:tI) (svs:List SV) (xs:List V) (h:c6 svs=some xs):hG N m p svs=(ai N p xs).bind λx=>some (.v x):=by
 unfold hG;rw[h];dsimp only;cases ai N p xs <;> rfl
theorem yq (dr:Bool) (fr:List Nat) (dst:Option Nat) (now:Bool) (q:Jo) (az:List Arg) (st:St) :
 eu S c dr fr ⟨dst,none,now,.r q,az,[],[]⟩ st=(aZ S.N st.g az).bind λsvs=>if !dr||now||dJ fr svs then(lP st.m q svs).bind λx=>some (bX st dst x)else none:=by
 unfold eu mN;have hy:eR S.N st.g ⟨dst,none,now,.r q,az,[],[]⟩=none:=rfl;simp only[wanted,hy]
 cases hs:aZ S.N st.g az with
 | none=>rfl
 | some svs=>
  simp only[ζb];split
  .cases hp:lP st.m q svs <;> simp
  .rfl
theorem AM (dr:Bool) (fr:List Nat) (d:Nat) (now:Bool) (q:Kq) (az:List Arg) (st:St) :
 eu S c dr fr ⟨some d,none,now,.a q,az,[],[]⟩ st=(aZ S.N st.g az).bind λsvs=>if st.new d then(mW st.m q svs d).bind λr=>some { st with g:=aQ st.g d r.2,m:=aQ st.m d r.1 } else none:=by
 unfold eu mN;have hy:eR S.N st.g ⟨some d,none,now,.a q,az,[],[]⟩=none:=rfl;simp only[wanted,hy]
 cases hs:aZ S.N st.g az with
 | none=>rfl
 | some svs=>
  simp only[ζb];split
  .cases hp:mW st.m q svs d <;> simp[bX]
  .rfl
theorem sQ (dr:Bool) (fr:List Nat) (dst:Option Nat) (now:Bool) (q:Ge) (az:List Arg) (st:St) :
 eu S c dr fr ⟨dst,none,now,.l q,az,[],[]⟩ st=(aZ S.N st.g az).bind λsvs=>if !dr||now then(lS st dst q svs).bind λr=>some (bX r.2 dst r.1)else none:=by
 unfold eu mN;have hy:eR S.N st.g ⟨dst,none,now,.l q,az,[],[]⟩=none:=rfl;simp only[wanted,hy]
 cases hs:aZ S.N st.g az with
 | none=>rfl
 | some svs=>
  simp only[ζb];split
  .cases hp:lS st dst q svs <;> simp
  .rfl
def nY:List SV->Option (FuncId×List SV)
 | .clo f a b::vs=>some (f,a++vs++b)
 | .v (.clo f a b)::vs=>some (f,a.map .v++vs++b.map .v)
 | _=>none
theorem Dh (dr:Bool) (fr:List Nat) (dst:Option Nat) (now:Bool) (az:List Arg) (st:St) (svs:List SV) (f:FuncId) (args:List SV) (hs:aZ S.N st.g az=some svs) (hc:nY svs=some (f,args)) :
 eu S c dr fr ⟨dst,none,now,.c,az,[],[]⟩ st=(fP S c dst dr (!dr||now) (fu st.m fr) f args st).bind λr=>some (bX r.2 dst r.1):=by
 unfold eu mN;unfold nY at hc;split at hc
 .simp only[ζa,ζc]at hc;obtain⟨rfl,rfl⟩:=hc;simp only[wanted,eR,hs];cases fP S c dst dr _ _ _ _ st <;> simp
 .simp only[ζa,ζc]at hc;obtain⟨rfl,rfl⟩:=hc;simp only[wanted,eR,hs];cases fP S c dst dr _ _ _ _ st <;> simp
 .simp at hc
noncomputable def LF {β:Type} (S:Sys) (c:bF) (fr:List Nat) (l:List RO) (k:St->Option β):St->Option β:=λst=>(kN S c false fr l st).bind k
noncomputable def L0 {β:Type} (S:Sys) (c:bF) (fr:List Nat) (l:List RO) (k:St->Option β):St->Option β:=λst=>(kN S c true fr l st).bind k
noncomputable def PT {β:Type} (S:Sys) (c:bF) (fr dd:List Nat) (l:List RO) (k:St->Option β):St->Option β:=λst=>LF S c fr l k (mP dd st)
noncomputable def Q4 {β:Type} (S:Sys) (c:bF) (fr dd:List Nat) (l:List RO) (k:St->Option β):St->Option β:=λst=>L0 S c fr l k (mP dd st)
@[congr] theorem Tn {β:Type} {fr:List Nat} {l:List RO} {k:St->Option β} {st st':St} (h:st=st'):LF S c fr l k st=LF S c fr l k st':=by rw[h]
@[congr] theorem S_ {β:Type} {fr fr':List Nat} {l:List RO} {k:St->Option β} {st st':St} (hf:fr=fr') (h:st=st'):L0 S c fr l k st=L0 S c fr' l k st':=by rw[h,hf]
@[congr] theorem SU {β:Type} {fr dd:List Nat} {l:List RO} {k:St->Option β} {st st':St} (h:st=st'):PT S c fr dd l k st=PT S c fr dd l k st':=by rw[h]
@[congr] theorem S3 {β:Type} {fr fr' dd:List Nat} {l:List RO} {k:St->Option β} {st st':St} (hf:fr=fr') (h:st=st'):Q4 S c fr dd l k st=Q4 S c fr' dd l k st':=by rw[h,hf]
@[congr] theorem T0 {dr:Bool} {fr:List Nat} {o:RO} {st st':St} (h:st=st'):eu S c dr fr o st=eu S c dr fr o st':=by rw[h]
end
section
variable {S:Sys} {c:bF} (dr:Bool) (fr:List Nat) (dst:Option Nat) (now:Bool) (az:List Arg) (st:St)
end
end Go.VE
namespace Go.VE
variable [aW]
inductive Fm where
 | seq (b:RC)
 | blk (id:Nat)
 | gst (x:Gh)
section
variable (S:Sys) (c:bF) {β:Type} (Q:Out×St->Option β)
noncomputable def runK:List Fm->Out×St->Option β
 | [],r=>Q r
 | .seq b::fs,(.norm,st)=>(bC S c b st).bind (runK fs)
 | .seq _::fs,r=>runK fs r
 | .blk id::fs,(.exit k,st)=>if k=id then runK fs (.norm,st)else runK fs (.exit k,st)
 | .blk _::fs,r=>runK fs r
 | .gst x::fs,(.norm,st)=>(ghost x st).bind λst=>runK fs (.norm,st)
 | .gst _::fs,r=>runK fs r
noncomputable def go (rc:RC) (fs:List Fm) (st:St):Option β:=(bC S c rc st).bind (runK S c Q fs)
noncomputable def Nf (fs:List Fm):St->Option β:=λst=>runK S c Q fs (.norm,st)
def aq {α:Type} (t:Bool) (a b:α):α:=if t then a else b
end
@[congr] theorem TC {α:Type} {t t':Bool} {a b a' b':α} (h:t=t') (ha:t'=true->a=a') (hb:t'=false->b=b'):aq t a b=aq t' a' b':=by
 subst h;cases t
 .exact hb rfl
 .exact ha rfl
section
variable {S:Sys} {c:bF} {β:Type} {Q:Out×St->Option β}
@[congr] theorem go_congr {a:RC} {fs:List Fm} {st st':St} (h:st=st'):go S c Q a fs st=go S c Q a fs st':=by rw[h]
@[congr] theorem Sb {fs:List Fm} {st st':St} (h:st=st'):Nf S c Q fs st=Nf S c Q fs st':=by rw[h]
@[congr] theorem Ta {fs:List Fm} {r r':Out×St} (h:r=r'):runK S c Q fs r=runK S c Q fs r':=by rw[h]
theorem EN (rc:RC) (st:St):(bC S c rc st).bind Q=go S c Q rc [] st:=by
 simp only[go];cases bC S c rc st <;> rfl
inductive Fw (ν ε ρ:Type) where
 | n (a:ν)
 | x (e:ε)
 | r (b:ρ)
def gQ {σ ε ρ:Type} (step:σ->Option (Fw σ ε ρ)):Nat->σ->Option (Fw Empty ε ρ)
 | 0,_=>none
 | k+1,s=>match step s with
  | some (.n s')=>gQ step k s'
  | some (.x e)=>some (.x e)
  | some (.r b)=>some (.r b)
  | none=>none
theorem u7 {σ ε ρ:Type} {step:σ->Option (Fw σ ε ρ)}:∀{k k':Nat} {s:σ} {r:Fw Empty ε ρ},k<=k'->gQ step k s=some r->gQ step k' s=some r
 | 0,_,_,_,_,h=>by simp[gQ]at h
 | k+1,0,_,_,hk,_=>by omega
 | k+1,k'+1,s,r,hk,h=>by
  simp only[gQ]at h ⊢;split at h
  .exact u7 (Nat.le_of_succ_le_succ hk) h
  .exact h
  .exact h
  .simp at h
open Classical in
noncomputable def aV {σ ε ρ:Type} (step:σ->Option (Fw σ ε ρ)) (s:σ):Option (Fw Empty ε ρ):=
 if h:∃k r,gQ step k s=some r then some (Classical.choose (Classical.choose_spec h))else none
theorem lB {σ ε ρ:Type} {step:σ->Option (Fw σ ε ρ)} {s:σ} {r:Fw Empty ε ρ}:aV step s=some r↔∃k,gQ step k s=some r:=by
 unfold aV;constructor
 .intro h;split at h
  .rename_i hx;simp only[ζa]at h;exact⟨_,by rw[<-h];exact Classical.choose_spec (Classical.choose_spec hx)⟩
  .simp at h
 .rintro⟨k,hk⟩;have hx:∃k r,gQ step k s=some r:=⟨k,r,hk⟩;rw[dif_pos hx];have h2:=Classical.choose_spec (Classical.choose_spec hx);have h3:=u7 (Nat.le_max_left (Classical.choose hx) k) h2;have h4:=u7 (Nat.le_max_right (Classical.choose hx) k) hk;rw[h3]at h4;exact h4
def Fw.out {ν ε ρ:Type} (eν:ν->St) (eε:ε->Nat×St) (eρ:ρ->St):Fw ν ε ρ->Out×St
 | .n a=>(.norm,eν a)
 | .x e=>(.exit (eε e).1,(eε e).2)
 | .r b=>(.ret,eρ b)
def Fw.elim {ε ρ γ:Type} (fx:ε->γ) (fr:ρ->γ):Fw Empty ε ρ->γ
 | .x e=>fx e
 | .r b=>fr b
end
end Go.VE
namespace Go.VE
variable [aW]
class Lv (n:Nat) (α:Type) [aB α]:Prop where
 lv:∀a:α,V.bR n (cells a)=true
instance {n:Nat}:Lv n Int:=⟨λ_=>by cases n <;> rfl⟩
instance {n:Nat}:Lv n Bool:=⟨λ_=>by cases n <;> rfl⟩
instance {n:Nat}:Lv n ByteArray:=⟨λ_=>by cases n <;> rfl⟩
instance {n:Nat}:Lv n aa:=⟨λ_=>by cases n <;> rfl⟩
section
variable {α:Type} [aB α]
theorem C6 (s:Sl α):V.one (aX s)=true:=by cases s <;> rfl
theorem Je (l:List α):V.mg (rows l)=true:=by
 induction l with
 | nil=>rfl
 | cons a l ih=>simp only[rows,List.map_cons,V.mg,ζh];exact⟨aB.good a,ih⟩
theorem HU (s:Sl α):V.good (aX s)=true:=by
 cases s <;> simp only[aX,Sl.k,lq,V.good] <;> exact Je _
theorem KM {n:Nat} [Lv n α] (l:List α):V.kR n (rows l)=true:=by
 induction l with
 | nil=>cases n <;> rfl
 | cons a l ih=>simp only[rows,List.map_cons,V.kR,ζh];exact⟨Lv.lv a,ih⟩
theorem CH {n:Nat} [Lv n α] (s:Sl α):V.lvl (n+1) (aX s)=true:=by
 cases s <;> simp only[aX,Sl.k,lq,V.lvl] <;> exact KM _
instance:aB (Sl α) where
 cells s:=[aX s]
 agg:=false
 size:=1
 len _:=rfl
 good s:=by simp only[V.bE,HU,Bool.and_self]
 one s:=by simp[C6]
 plain _:=rfl
instance {n:Nat} [Lv n α]:Lv (n+1) (Sl α):=⟨λs=>by
 show V.bR (n+1) [aX s]=true;simp only[V.bR,CH,Bool.and_self]⟩
end
theorem OU (n:Nat) (cs:List V):V.lvl (n+1) (.agg cs)=V.bR n cs:=rfl
theorem ON (n:Nat) (cs:List V):V.lvl (n+1) (.tup cs)=V.bR n cs:=rfl
theorem KI (n:Nat) (cs:List V):V.lvl (n+1) (.fptr cs)=V.bR n cs:=rfl
theorem On (n:Nat) (f:FuncId) (a b:List V):V.lvl (n+1) (.clo f a b)=(V.bR n a&&V.bR n b):=rfl
theorem nL (n:Nat) (k:IntKind) (x:Int):V.lvl n (.int k x)=true:=by cases n <;> rfl
theorem lX (n:Nat) (x:Bool):V.lvl n (.bool x)=true:=by cases n <;> rfl
theorem nW (n:Nat) (x:ByteArray):V.lvl n (.str x)=true:=by cases n <;> rfl
theorem Pb (n:Nat):V.lvl n .aG=true:=by cases n <;> rfl
theorem N9 (n:Nat):V.lvl n .cM=true:=by cases n <;> rfl
theorem K9 (n:Nat):V.lvl n .fC=true:=by cases n <;> rfl
theorem iw (n:Nat):V.bR n []=true:=by cases n <;> rfl
theorem fT (n:Nat) (x:V) (r:List V):V.bR n (x::r)=(V.lvl n x&&V.bR n r):=by cases n <;> rfl
section
variable {S:Sys} {c:bF}
def JJ (x:Option SV) (b:Bool) (y z:Option St):Option St:=
 match x with
 | some (.v (.bool t))=>aq (t==b) y z
 | some (.v _)=>z
 | _=>none
@[congr] theorem Qj {x x':Option SV} {b:Bool} {y z:Option St} (h:x=x'):JJ x b y z=JJ x' b y z:=by rw[h]
def M1 {β:Type} (x:Option SV) (y z:Option β):Option β:=
 match x with
 | some (.v (.bool t))=>aq t y z
 | _=>none
@[congr] theorem Sf {β:Type} {x x':Option SV} {y z:Option β} (h:x=x'):M1 x y z=M1 x' y z:=by rw[h]
def kG (c:bF) (f:FuncId) (az:List V):Option (List V):=(c f (az.map .v) []).bind λr=>bS r.2 8 r.1
def JM (dr:Bool) (ok:Bool) (st:St) (ys:List V):Option (SV×St):=
 if V.lvl 8 (result ys)&&((result ys).scalar||ok)then some (.v (result ys),st)else none
theorem OC (dst:Option Nat) (dr now:Bool) (old:List SV->Bool) (f:FuncId) (args:List SV) (st:St) (hk:S.E.keep f=false) :
 fP S c dst dr now old f args st=(bS st.m 8 args).bind λaz=>if V.bR 8 az&&(now||old args)then(kG c f az).bind (JM dr (c6 args).isSome st)else none:=by
 unfold fP kG;simp only[hk,Bool.false_eq_true,if_false]
 cases bS st.m 8 args with
 | none=>rfl
 | some az=>
  simp only[ζb];split
  .cases c f (az.map .v) []with
   | none=>rfl
   | some r=>
    obtain⟨rs,m'⟩:=r;simp only[ζb];cases bS m' 8 rs <;> rfl
  .rfl
end
section
variable {S:Sys} {T:qt}
def D0 (rs:List RV):Out×St->Option (List V)
 | (.exit _,_)=>none
 | (_,st)=>(oq st rs).bind (bS st.m 8)
theorem KH {f:FuncId} {rf:RF} (hT:T f=some rf) (az:List V) (hn:az.length<=rf.na):kG (cA S T) f az=go S (cA S T) (D0 rf.rs) rf.body [] (start (az.map .v) []):=by
 unfold kG;rw[zH hT];unfold oa;rw[if_pos (by simpa using hn),<-EN]
 cases h:bC S (cA S T) rf.body (start (az.map .v) [])with
 | none=>rfl
 | some r=>
  obtain⟨o,st⟩:=r;cases o <;> simp only[ζb,D0] <;> (try rfl) <;> (cases oq st rf.rs <;> rfl)
end
end Go.VE
namespace Go.VE
variable [aW]
variable {N:Nat->FuncId}
def Vr (a b:Int):Option Int:=if b=0 then none else some (a.tmod b)
def Vs (k:IntKind) (a b:Int):Option Int:=if b<0 then none else some (a.fdiv (2 ^ (min b.toNat k.bits)))
theorem EL (o:Nat) (cs:List V):ai N (.fieldAddr o) [.fptr cs]=if o<=cs.length then some (.fptr (cs.drop o))else none:=rfl
def iP (s:ByteArray) (n:Int):Option Int:=if 0<=n then(s[n.toNat]?).map λb=>(b.toNat:Int)else none
theorem Jm (s:ByteArray) (k:IntKind) (n:Int):ai N .idxStr [.str s,.int k n]=(iP s n).bind λx=>some (.int .u8 x):=by
 simp only[ai,iP];split
 .cases s[n.toNat]? <;> rfl
 .rfl
theorem Ml (z:List V) (pl:List (Nat×Nat)) (vs:List V):ai N (.build z pl) vs=(iX z pl vs).bind λcs=>some (.agg cs):=by
 simp only[ai];cases iX z pl vs <;> rfl
section
variable {α:Type} [aB α]
theorem BW (s:Sl α) (k:IntKind) (i:Int) (n:Nat) (hn:n=aB.size α):ai N (.idxS n) [aX s,.int k i]=(idx s i).bind λx=>some (.fptr (cells x)):=by
 rw[KV s k i hn];cases idx s i <;> rfl
theorem vQ (s:Sl α):ai N .lenSl [aX s]=some (.int .i64 s.l.length):=JB s
def Sl.isNil {α:Type} (s:Sl α):Option Bool:=
 match s with
 | .nil=>some true
 | .emp=>none
 | _=>some false
theorem Mh (q:Option Nat) (s:Sl α):ai N (.bin (some .slice) q .eql) [aX s,.aG]=s.isNil.bind λt=>some (.bool t):=by
 cases s <;> rfl
def ez (s:Sl α) (lo hi:Option Int):Option (Sl α):=
 (cF s.l.length lo hi).map λ(l,h)=>match s with
  | .nil=>.nil
  | .emp=>.emp
  | .row x=>.part ((x.take h).drop l)
  | .part x=>.part ((x.take h).drop l)
theorem Ir (s:Sl α) (lo hi:Option Int) (n:Nat) (hn:n=aB.size α):fG n (aX s) lo hi=(ez s lo hi).bind λx=>some (aX x):=by
 subst hn
 cases s with
 | nil=>simp only[aX,Sl.k,lq,fG,ez,Sl.l,List.length_nil];cases cF 0 lo hi <;> rfl
 | emp=>simp only[aX,Sl.k,lq,fG,ez,Sl.l,List.length_nil];cases cF 0 lo hi <;> rfl
 | row l=>simp only[aX,Sl.k,lq,fG,ez,Sl.l,if_true,eE];cases cF l.length lo hi <;> simp[rows,List.map_take,List.map_drop]
 | part l=>simp only[aX,Sl.k,lq,fG,ez,Sl.l,if_true,eE];cases cF l.length lo hi <;> simp[rows,List.map_take,List.map_drop]
end
theorem IY (m:Tb aK) (n:Nat) (a:Bool) (cs:List V):lP m (.load n a) [.v (.fptr cs)]=(cut cs 0 n).bind λr=>(mk a r).bind λx=>some (.v x):=by
 simp only[lP,cV]
 cases cut cs 0 n with
 | none=>rfl
 | some r=>simp only[ζb];cases mk a r <;> rfl
end Go.VE
namespace Go.VE
variable [aW]
section
variable {α:Type} [aB α]
def bW (s:Sl α):aK:=.sl s.k (aB.size α) (rows s.l)
def Sl.kn (s:Sl α) (i:Int):Option Nat:=if 0<=i/\i.toNat<s.l.length then some i.toNat else none
def Sl.get (s:Sl α) (i:Nat):Option α:=s.l[i]?
def Sl.put (s:Sl α) (i:Nat) (x:α):Option (Sl α):=
 if i<s.l.length then some (match s with|.row l=>.row (l.set i x)|.part l=>.part (l.set i x)|s=>s)else none
def iT (s:Sl α) (x:α):Option (Sl α):=if s.l.length+1<=2147483648 then some (.row (s.l++[x]))else none
def oW (n:Int) (z:α):Option (Sl α):=if 0<=n/\n<=2147483648 then some (.row (List.replicate n.toNat z))else none
end
section
variable {α:Type} [aB α] {N:Nat->FuncId} {m:Tb aK}
def G1 (n d:Nat) (o:Option aK) (i:Int):Option SV:=
 match o with
 | some (.sl k es xs)=>if bB k/\es=n/\0<=i/\i.toNat<xs.length then some (.el d i.toNat 0)else none
 | _=>none
theorem O4 (n d:Nat) (k:IntKind) (i:Int):hG N m (.idxS n) [.own d,.v (.int k i)]=G1 n d (aj m d) i:=by
 simp only[hG,c6,tX,G1]
 cases aj m d with
 | none=>rfl
 | some o=>cases o <;> rfl
theorem Oo (n d:Nat) (s:Sl α) (i:Int) (h:n=aB.size α):G1 n d (some (bW s)) i=(s.kn i).bind λj=>some (.el d j 0):=by
 subst h;simp only[G1,bW,eE,true_and,Sl.kn]
 cases s with
 | nil=>simp[Sl.l,Sl.k,bB]
 | emp=>simp[Sl.l,Sl.k,bB]
 | row l=>simp only[Sl.k,Sl.l,bB,true_and];by_cases h:0<=i/\i.toNat<l.length <;> simp[h]
 | part l=>simp only[Sl.k,Sl.l,bB,true_and];by_cases h:0<=i/\i.toNat<l.length <;> simp[h]
def GO (o:Option aK):Option SV:=
 match o with
 | some (.sl _ _ xs)=>some (.v (.int .i64 xs.length))
 | _=>none
theorem Lu (d:Nat):hG N m .lenSl [.own d]=GO (aj m d):=by
 simp only[hG,c6,tX,GO]
 cases aj m d with
 | none=>rfl
 | some o=>cases o <;> rfl
theorem NM (s:Sl α):GO (some (bW s))=some (.v (.int .i64 s.l.length)):=by simp[GO,bW,eE]
def HH (n:Nat) (a:Bool) (o:Nat) (ob:Option aK):Option SV:=
 match ob with
 | some (.box cs)=>vZ n a ((cs.drop o).take n)
 | _=>none
theorem UY (n:Nat) (a:Bool) (d o:Nat):lP m (.load n a) [.ptr d o]=HH n a o (aj m d):=by
 simp only[lP,HH];rfl
theorem Jx (n:Nat) (a:Bool) (o:Nat) (cs:List SV):HH n a o (some (.box cs))=vZ n a ((cs.drop o).take n):=rfl
def Bl (n:Nat) (a:Bool) (i o:Nat) (ob:Option aK):Option SV:=
 match ob with
 | some (.sl _ _ xs)=>match xs[i]? with
  | some cs=>((cut cs o n).bind (mk a)).map .v
  | none=>none
 | _=>none
theorem SP (n:Nat) (a:Bool) (d i o:Nat):lP m (.load n a) [.el d i o]=Bl n a i o (aj m d):=by
 simp only[lP,Bl];rfl
theorem Jw (n:Nat) (a:Bool) (i o:Nat) (s:Sl α):Bl n a i o (some (bW s))=(s.get i).bind λx=>(cut (cells x) o n).bind λr=>(mk a r).bind λy=>some (.v y):=by
 simp only[Bl,bW,Sl.get,rows,List.getElem?_map]
 cases s.l[i]? with
 | none=>rfl
 | some x=>
  simp only[Option.map_some,ζb]
  cases cut (cells x) o n with
  | none=>rfl
  | some r=>simp only[ζb];cases mk a r <;> rfl
theorem SM (z:α) (n:Int) (d:Nat) (size:Nat) (zero:List V) (h:zero=cells z) (h2:size=aB.size α) :
 mW m (.makeSl size zero) [.v (.int .i64 n),.v (.int .i64 n)] d=(oW n z).bind λs=>some (bW s,.own d):=by
 subst h h2;simp only[mW,oW,true_and,Int.le_refl];split
 .simp[bW,Sl.k,Sl.l,rows,List.map_replicate]
 .rfl
def yu (st:St) (d i o size:Nat) (x:V) (ob:Option aK):Option (SV×St):=
 match ob with
 | some (.sl k es xs)=>match xs[i]? with
  | some cs=>if x.cells.length=size/\o+size<=cs.length/\x.cells.all V.one=true then
   some (.v .undef,{ st with m:=aQ st.m d (.sl k es (xs.set i (cs.take o++x.cells++cs.drop (o+x.cells.length)))) })else none
  | none=>none
 | _=>none
theorem GV (st:St) (dst:Option Nat) (size d i o:Nat) (x:V):lS st dst (.store size) [.el d i o,.v x]=yu st d i o size x (aj st.m d):=by
 simp only[lS,yu];rfl
theorem HB (g:Tb SV) (p:List Nat) (w:List (List V)) (mo:Bool) (y:Nat) (d i size:Nat) (x:V) (a:α) (hx:x.cells=cells a) (hs:size=aB.size α) (s:Sl α) :
 yu ⟨g,m,p,w,mo,y⟩ d i 0 size x (some (bW s))=(s.put i a).bind λs'=>some (.v .undef,⟨g,aQ m d (bW s'),p,w,mo,y⟩):=by
 have h1:(cells a).all V.one=true:=aB.one a;have hl:∀b:α,(cells b).length=aB.size α:=aB.len;subst hs;simp only[yu,bW,rows,List.getElem?_map,hx,Sl.put]
 by_cases hi:i<s.l.length
 .have hg:s.l[i]? = some s.l[i]:=ζd hi;rw[if_pos hi,hg];simp only[Option.map_some,hl,h1,ζb];rw[if_pos ⟨trivial,by omega,trivial⟩]
  cases s with
  | nil=>simp[Sl.l]at hi
  | emp=>simp[Sl.l]at hi
  | row l=>simp[Sl.k,Sl.l,rows,List.drop_of_length_le,hl,List.map_set]
  | part l=>simp[Sl.k,Sl.l,rows,List.drop_of_length_le,hl,List.map_set]
 .rw[if_neg hi,List.getElem?_eq_none (by omega)];rfl
def o7 (st:St) (t n:Nat) (s:SV) (xs ys:Option (List (List V))):Option (SV×St):=
 match xs,ys with
 | some _,some []=>match s with
  | .own d=>match aj st.m d with
   | some ob=>if St.new { st with m:=cR d st.m } t then some (.own t,{ st with m:=aQ (cR d st.m) t ob })else none
   | none=>none
  | .v .aG=>if st.new t then some (.own t,{ st with m:=aQ st.m t (.sl .nil n []) })else none
  | .v .cM=>if st.new t then some (.own t,{ st with m:=aQ st.m t (.sl .emp n []) })else none
  | _=>none
 | some xs,some ys=>
  if xs.length+ys.length<=2147483648/\zB s=true then
   if St.new { st with m:=giveUp st.m s } t then some (.own t,{ st with m:=aQ (giveUp st.m s) t (.sl .row n (xs++ys)) })else none
  else none
 | _,_=>none
theorem w8 (st:St) (t n:Nat) (s x:SV):lS st (some t) (.append n) [s,x]=o7 st t n s (jc st.m n s) (jc st.m n x):=by
 cases s <;> cases x <;> (simp only[lS,o7];rfl)
def HV (n:Nat) (o:Option aK):Option (List (List V)):=
 match o with
 | some (.sl k es xs)=>if bB k then(if es=n then some xs else none)else some []
 | _=>none
theorem By (n d:Nat):jc m n (.own d)=HV n (aj m d):=by
 simp only[jc,HV]
 cases aj m d with
 | none=>rfl
 | some ob=>cases ob <;> rfl
theorem yP (n:Nat) (s:Sl α) (h:n=aB.size α):HV n (some (bW s))=some (rows s.l):=by
 subst h;cases s <;> simp[HV,bW,Sl.k,Sl.l,bB,rows]
theorem OP (n:Nat):jc m n (.v .aG)=some []:=rfl
theorem Ou (n:Nat):jc m n (.v .cM)=some []:=rfl
theorem IZ (g:Tb SV) (p:List Nat) (w:List (List V)) (mo:Bool) (y:Nat) (t n d:Nat) (l:List α) (x:α) (h:n=aB.size α):o7 ⟨g,m,p,w,mo,y⟩ t n (.own d) (some (rows l)) (some (rows [x])) =
 (iT (.row l) x).bind λs=>if St.new ⟨g,cR d m,p,w,mo,y⟩ t then some (.own t,⟨g,aQ (cR d m) t (bW s),p,w,mo,y⟩)else none:=by
 subst h;have e:(rows l).length+(rows [x]).length=l.length+1:=by simp[eE]
 by_cases h:l.length+1<=2147483648
 .have h1:iT (.row l) x=some (.row (l++[x])):=if_pos h;have h2:o7 ⟨g,m,p,w,mo,y⟩ t (aB.size α) (.own d) (some (rows l)) (some (rows [x]))=if St.new ⟨g,cR d m,p,w,mo,y⟩ t then some (.own t,⟨g,aQ (cR d m) t (.sl .row (aB.size α) (rows l++rows [x])),p,w,mo,y⟩)else none:=if_pos ⟨by omega,rfl⟩
  rw[h1,h2];simp only[ζb,bW,Sl.k,Sl.l,rows,List.map_append,List.map_cons,List.map_nil]
 .have h1:iT (.row l) x=none:=if_neg h;have h2:o7 ⟨g,m,p,w,mo,y⟩ t (aB.size α) (.own d) (some (rows l)) (some (rows [x]))=none:=if_neg (λq=>h (by omega))
  rw[h1,h2];rfl
theorem Jy (g:Tb SV) (p:List Nat) (w:List (List V)) (mo:Bool) (y:Nat) (t n:Nat) (x:α) (h:n=aB.size α):o7 ⟨g,m,p,w,mo,y⟩ t n (.v .aG) (some []) (some (rows [x])) =
 if St.new ⟨g,m,p,w,mo,y⟩ t then some (.own t,⟨g,aQ m t (bW (.row [x])),p,w,mo,y⟩)else none:=by
 subst h;simp[o7,rows,zB,giveUp,bW,Sl.k,Sl.l];rfl
theorem I6 (g:Tb SV) (p:List Nat) (w:List (List V)) (mo:Bool) (y:Nat) (t n:Nat) (x:α) (h:n=aB.size α):o7 ⟨g,m,p,w,mo,y⟩ t n (.v .cM) (some []) (some (rows [x])) =
 if St.new ⟨g,m,p,w,mo,y⟩ t then some (.own t,⟨g,aQ m t (bW (.row [x])),p,w,mo,y⟩)else none:=by
 subst h;simp[o7,rows,zB,giveUp,bW,Sl.k,Sl.l];rfl
end
theorem vv (g:Tb SV) (m:Tb aK) (p:List Nat) (w:List (List V)) (mo:Bool) (y d:Nat):St.new ⟨g,m,p,w,mo,y⟩ d=(!(p.contains d)&&(aj m d).isNone && !(sX d g) && !(pW d m)):=rfl
theorem pe (d:Nat):sX d []=false:=rfl
theorem nH (d n:Nat) (x:SV) (r:Tb SV):sX d ((n,x)::r)=(SV.bT d x||sX d r):=rfl
theorem pq (d:Nat):pW d []=false:=rfl
theorem nR (d n:Nat) (x:aK) (r:Tb aK):pW d ((n,x)::r)=(aK.bT d x||pW d r):=rfl
theorem vz (d:Nat) (x:V):SV.bT d (.v x)=false:=rfl
theorem qZ (d e:Nat):SV.bT d (.own e)=(e==d):=rfl
theorem qO (d e o:Nat):SV.bT d (.ptr e o)=(e==d):=rfl
theorem tf (d e i o:Nat):SV.bT d (.el e i o)=(e==d):=rfl
theorem ta (d e:Nat):SV.bT d (.mp e)=(e==d):=rfl
theorem qD (d:Nat) (f:FuncId) (a b:List SV):SV.bT d (.clo f a b)=(SV.cz d a||SV.cz d b):=rfl
theorem rj (d:Nat) (l:List SV):SV.bT d (.tup l)=SV.cz d l:=rfl
theorem pF (d:Nat):SV.cz d []=false:=rfl
theorem nM (d:Nat) (x:SV) (r:List SV):SV.cz d (x::r)=(SV.bT d x||SV.cz d r):=rfl
theorem pN (d:Nat) (cs:List SV):aK.bT d (.box cs)=SV.cz d cs:=rfl
theorem C2 (m:Tb aK) (n:Nat):bS m n []=some []:=by cases n <;> simp only[bS]
theorem A1 (m:Tb aK) (n:Nat) (x:SV) (r:List SV):bS m n (x::r)=(shut m n x).bind λy=>(bS m n r).bind λs=>some (y::s):=by
 cases n <;> (simp only[bS];cases shut m _ x <;> (try rfl) <;> (cases bS m _ r <;> rfl))
theorem PL (m:Tb aK) (n:Nat) (x:V):shut m n (.v x)=some x:=by cases n <;> simp only[shut]
theorem K_ (m:Tb aK) (n:Nat) (f:FuncId) (a b:List SV):shut m (n+1) (.clo f a b)=(bS m n a).bind λx=>(bS m n b).bind λy=>some (.clo f x y):=by
 simp only[shut];cases bS m n a <;> (try rfl) <;> (cases bS m n b <;> rfl)
theorem Lm (m:Tb aK) (n:Nat) (l:List SV):shut m (n+1) (.tup l)=(bS m n l).bind λx=>some (.tup x):=by
 simp only[shut];cases bS m n l <;> rfl
theorem Mn (m:Tb aK) (n:Nat) (l:List SV):shut m (n+1) (.agg l)=(bS m n l).bind λx=>some (.agg x):=by
 simp only[shut];cases bS m n l <;> rfl
theorem qQ {α:Type} (n:Nat):cR n ([]:Tb α)=[]:=rfl
theorem pQ {α:Type} (n k:Nat) (x:α) (r:Tb α):cR n ((k,x)::r)=if k=n then cR n r else(k,x)::cR n r:=rfl
theorem mapM_nil (f:List SV->List SV):mapM f []=[]:=rfl
end Go.VE
namespace Go.VE
variable [aW]
section
variable {N:Nat->FuncId} {m:Tb aK}
theorem Ox:result []=.tup []:=rfl
theorem NY (x:V):result [x]=x:=rfl
theorem N7 (x y:V) (l:List V):result (x::y::l)=.tup (x::y::l):=rfl
theorem ET (p:tI) (a:V):hG N m p [.v a]=(ai N p [a]).bind λx=>some (.v x):=Gx N m p _ [a] rfl
theorem vK (p:tI) (a b:V):hG N m p [.v a,.v b]=(ai N p [a,b]).bind λx=>some (.v x):=Gx N m p _ [a,b] rfl
theorem ri (l:List V):c6 (l.map .v)=some l:=by
 induction l with
 | nil=>rfl
 | cons a l ih=>simp only[List.map_cons,c6,ih];rfl
theorem uh (n:Nat) (l:List V):bS m n (l.map .v)=some l:=by
 induction l with
 | nil=>exact C2 m n
 | cons a l ih=>rw[List.map_cons,A1,PL,ih];rfl
theorem Sl.Nd {α:Type} (l:List α):(Sl.row l).l=l:=rfl
theorem CC (cs:List V):iX cs [] []=some cs:=rfl
theorem AR (cs:List V) (off size:Nat) (pl:List (Nat×Nat)) (v:V) (vs:List V):iX cs ((off,size)::pl) (v::vs) =
 if v.cells.length=size/\off+v.cells.length<=cs.length then iX (cs.take off++v.cells++cs.drop (off+v.cells.length)) pl vs else none:=by
 simp only[iX]
 by_cases h:v.cells.length=size <;> by_cases h2:off+v.cells.length<=cs.length
 .rw[if_neg (by simp[h];omega),if_pos ⟨h,h2⟩]
 .rw[if_pos (by simp[h];omega),if_neg (λq=>h2 q.2)]
 .rw[if_pos (by simp[h]),if_neg (λq=>h q.1)]
 .rw[if_pos (by simp[h]),if_neg (λq=>h q.1)]
theorem E3 (k:IntKind) (n:Int):V.cells (.int k n)=[.int k n]:=rfl
theorem BH (n:Bool):V.cells (.bool n)=[.bool n]:=rfl
theorem DB (n:ByteArray):V.cells (.str n)=[.str n]:=rfl
theorem E5:V.cells .aG=[.aG]:=rfl
theorem mC (k:IntKind) (n:Int):V.one (.int k n)=true:=rfl
theorem kL (n:Bool):V.one (.bool n)=true:=rfl
theorem mw (n:ByteArray):V.one (.str n)=true:=rfl
end
end Go.VE
namespace Go.VE
variable [aW]
section
variable {S:Sys} {c:bF} {β γ δ:Type} {Q:Out×St->Option β} {L:Option β} {e:γ->Option β}
theorem Kk {dr:Bool} {fr:List Nat} {d:Option Nat} {gd:Option (Nat×Bool)} {now:Bool} {k:K} {az:List Arg} {st:St} (h:wanted st.g gd=some true) :
 eu S c dr fr ⟨d,gd,now,k,az,[],[]⟩ st=eu S c dr fr ⟨d,none,now,k,az,[],[]⟩ st:=by
 unfold eu;rw[h];rfl
theorem Af (dr:Bool) (st:St):zI dr [] st=some st:=by cases dr <;> rfl
def lI (f:SV->Option V):List SV->Option (List V)
 | []=>some []
 | x::r=>(f x).bind λy=>(lI f r).bind λs=>some (y::s)
def gH (m:Tb aK):Nat->SV->Option V
 | 0,x=>match x with
  | .v y=>some y
  | .own d=>match aj m d with
   | some (.sl k es xs)=>some (lq k es xs)
   | _=>none
  | .mp d=>match aj m d with
   | some (.mp kvs)=>some (.fmap kvs)
   | _=>none
  | _=>none
 | n+1,x=>match x with
  | .v y=>some y
  | .own d=>match aj m d with
   | some (.sl k es xs)=>some (lq k es xs)
   | _=>none
  | .ptr d o=>match aj m d with
   | some (.box cs)=>match lI (gH m n) cs with
    | some xs=>if o<=xs.length then some (.fptr (xs.drop o))else none
    | none=>none
   | _=>none
  | .mp d=>match aj m d with
   | some (.mp kvs)=>some (.fmap kvs)
   | _=>none
  | .clo f a b=>(lI (gH m n) a).bind λx=>(lI (gH m n) b).bind λy=>some (.clo f x y)
  | .tup l=>(lI (gH m n) l).bind λx=>some (.tup x)
  | .agg l=>(lI (gH m n) l).bind λx=>some (.agg x)
  | _=>none
theorem yz (m:Tb aK):∀(n:Nat),(∀x,shut m n x=gH m n x)/\∀l,bS m n l=lI (gH m n) l:=by
 have hl:∀n,(∀x,shut m n x=gH m n x)->∀l,bS m n l=lI (gH m n) l:=by
  intro n h l
  induction l with
  | nil=>exact C2 m n
  | cons a l ih=>rw[A1,h a,ih];rfl
 intro n
 induction n with
 | zero=>
  have h0:∀x,shut m 0 x=gH m 0 x:=by
   intro x;cases x <;> simp only[shut,gH] <;> rfl
  exact⟨h0,hl 0 h0⟩
 | succ n ih=>
  have h1:∀x,shut m (n+1) x=gH m (n+1) x:=by
   intro x
   cases x with
   | ptr d o=>simp only[shut,gH,ih.2];rfl
   | clo f a b=>rw[K_,ih.2,ih.2];rfl
   | tup l=>rw[Lm,ih.2];rfl
   | agg l=>rw[Mn,ih.2];rfl
   | _=>simp only[shut,gH] <;> rfl
  exact⟨h1,hl _ h1⟩
noncomputable def tH (S:Sys) (c:bF) (dr:Bool):List Nat->List RO->(St->Option β)->St->Option β
 | _,[],k,st=>k st
 | fr,o::r,k,st=>((zI dr o.pre st).bind (eu S c dr fr o.strip)).bind λst'=>tH S c dr (if dr then oC fr o.strip else fr) r k (mP o.dead st')
theorem BU (dr:Bool):∀(l:List RO) (fr:List Nat) (k:St->Option β) (st:St),tH S c dr fr l k st=(kN S c dr fr l st).bind k
 | [],_,_,_=>rfl
 | o::r,fr,k,st=>by
  simp only[tH,kN]
  cases (zI dr o.pre st).bind (eu S c dr fr o.strip)with
  | none=>rfl
  | some st'=>exact BU dr r _ k _
noncomputable def lC (S:Sys) (c:bF):RC->(St->Option β)->(Nat->St->Option β)->(St->Option β)->St->Option β
 | .skip,n,_,_,st=>n st
 | .ops l,n,_,_,st=>tH S c false [] l n st
 | .mR l,n,_,_,st=>tH S c true [] l n st
 | .seq a b,n,x,r,st=>lC S c a (λst=>lC S c b n x r st) x r st
 | .cond y a b,n,x,r,st=>match oh S.N st.g y with
  | some (.v (.bool t))=>aq t (lC S c a n x r st) (lC S c b n x r st)
  | _=>none
 | .block id a,n,x,r,st=>lC S c a n (λk st=>if k=id then n st else x k st) r st
 | .loop a,n,x,r,st=>(lF (bC S c a) st).bind λq=>match q with|(.norm,st)=>n st|(.exit k,st)=>x k st|(.ret,st)=>r st
 | .each g ps a b,n,x,r,st=>(bC S c (.each g ps a b) st).bind λq=>match q with|(.norm,st)=>n st|(.exit k,st)=>x k st|(.ret,st)=>r st
 | .exit k,_,x,_,st=>x k st
 | .ret,_,_,r,st=>r st
 | .gh g a,n,x,r,st=>(ghost g st).bind λst=>lC S c a n x r st
 | .hg a g,n,x,r,st=>lC S c a (λst=>(ghost g st).bind n) x r st
def BV (n:St->Option β) (x:Nat->St->Option β) (r:St->Option β):Out×St->Option β
 | (.norm,st)=>n st
 | (.exit k,st)=>x k st
 | (.ret,st)=>r st
theorem As:∀(rc:RC) (n:St->Option β) (x:Nat->St->Option β) (r:St->Option β) (st:St),lC S c rc n x r st=(bC S c rc st).bind (BV n x r):=by
 intro rc
 induction rc with
 | skip=>intros;rfl
 | ops l=>intro n x r st;simp only[lC,bC,BU];cases kN S c false [] l st <;> rfl
 | mR l=>intro n x r st;simp only[lC,bC,BU];cases kN S c true [] l st <;> rfl
 | seq a b iha ihb=>
  intro n x r st;simp only[lC,bC,iha,ihb]
  cases h:bC S c a st with
  | none=>rfl
  | some q=>obtain⟨o,st'⟩:=q;cases o <;> rfl
 | cond y a b iha ihb=>
  intro n x r st;simp only[lC,bC,iha,ihb]
  cases oh S.N st.g y with
  | none=>rfl
  | some v=>cases v with
   | v z=>cases z with
    | bool t=>cases t <;> rfl
    | _=>rfl
   | _=>rfl
 | block id a ih=>
  intro n x r st;simp only[lC,bC,ih]
  cases h:bC S c a st with
  | none=>rfl
  | some q=>
   obtain⟨o,st'⟩:=q
   cases o with
   | exit k=>simp only[ζb,BV];split <;> rfl
   | _=>rfl
 | loop a ih=>
  intro n x r st;simp only[lC,bC];rfl
 | each g ps a b iha ihb=>
  intro n x r st;simp only[lC];rfl
 | exit k=>intros;rfl
 | ret=>intros;rfl
 | gh g a ih=>
  intro n x r st;simp only[lC,bC,ih];cases ghost g st <;> rfl
 | hg a g ih=>
  intro n x r st;simp only[lC,bC,ih]
  cases h:bC S c a st with
  | none=>rfl
  | some q=>
   obtain⟨o,st'⟩:=q
   cases o with
   | norm=>simp only[ζb,BV];cases ghost g st' <;> rfl
   | _=>rfl
section
variable (S c Q)
mutual
noncomputable def ku:List Fm->St->Option β
 | []=>λst=>Q (.norm,st)
 | .seq b::fs=>λst=>lC S c b (ku fs) (ko fs) (λst=>Q (.ret,st)) st
 | .blk _::fs=>ku fs
 | .gst g::fs=>λst=>(ghost g st).bind (ku fs)
noncomputable def ko:List Fm->Nat->St->Option β
 | []=>λk st=>Q (.exit k,st)
 | .seq _::fs=>ko fs
 | .blk id::fs=>λk st=>if k=id then ku fs st else ko fs k st
 | .gst _::fs=>ko fs
end
noncomputable def kH (rc:RC) (fs:List Fm) (st:St):Option β:=lC S c rc (ku S c Q fs) (ko S c Q fs) (λst=>Q (.ret,st)) st
end
section
variable {dr:Bool} {fr:List Nat} {d:Nat} {dst:Option Nat} {now:Bool} {az:List Arg} {st:St} {α:Type} [aB α]
theorem Nv {p:tI} {svs:List SV} {m:Option δ} {v:δ->SV} (hs:aZ S.N st.g az=some svs) (hi:isSlice p=false) (h:hG S.N st.m p svs=m.bind λx=>some (v x)) :
 eu S c dr fr ⟨dst,none,now,.p p,az,[],[]⟩ st=m.bind λx=>some (bX st dst (v x)):=by
 rw[MV _ _ _ _ _ _ _ hi,hs];simp only[ζb,h];cases m <;> rfl
theorem z6 {p:tI} {svs:List SV} {v:SV} (hs:aZ S.N st.g az=some svs) (hi:isSlice p=false) (h:hG S.N st.m p svs=some v) :
 eu S c dr fr ⟨dst,none,now,.p p,az,[],[]⟩ st=some (bX st dst v):=by
 rw[MV _ _ _ _ _ _ _ hi,hs];simp only[ζb,h]
theorem M6 {n:Nat} {s:Sl α} {k:IntKind} {i:Int} (hs:aZ S.N st.g az=some [.v (aX s),.v (.int k i)]) (hn:n=aB.size α) :
 eu S c dr fr ⟨dst,none,now,.p (.idxS n),az,[],[]⟩ st=(idx s i).bind λx=>some (bX st dst (.v (.fptr (cells x)))):=
 Nv hs rfl (by rw[vK,BW s k i n hn];cases idx s i <;> rfl)
theorem Ti {n e:Nat} {s:Sl α} {k:IntKind} {i:Int} (hs:aZ S.N st.g az=some [.own e,.v (.int k i)]) (ho:aj st.m e=some (bW s)) (hn:n=aB.size α) :
 eu S c dr fr ⟨dst,none,now,.p (.idxS n),az,[],[]⟩ st=(s.kn i).bind λj=>some (bX st dst (.el e j 0)):=
 Nv hs rfl (by rw[O4,ho,Oo n e s i hn])
theorem M9 {s:Sl α} (hs:aZ S.N st.g az=some [.v (aX s)]):eu S c dr fr ⟨dst,none,now,.p .lenSl,az,[],[]⟩ st=some (bX st dst (.v (.int .i64 s.l.length))):=
 z6 hs rfl (by rw[ET,vQ];rfl)
theorem R4 {e:Nat} {s:Sl α} (hs:aZ S.N st.g az=some [.own e]) (ho:aj st.m e=some (bW s)):eu S c dr fr ⟨dst,none,now,.p .lenSl,az,[],[]⟩ st=some (bX st dst (.v (.int .i64 s.l.length))):=
 z6 hs rfl (by rw[Lu,ho,NM])
theorem Om {u:Option Nat} {s:Sl α} (hs:aZ S.N st.g az=some [.v (aX s),.v .aG]):eu S c dr fr ⟨dst,none,now,.p (.bin (some .slice) u .eql),az,[],[]⟩ st=s.isNil.bind λt=>some (bX st dst (.v (.bool t))):=
 Nv hs rfl (by rw[vK,Mh];cases s.isNil <;> rfl)
theorem MK {s:ByteArray} {k:IntKind} {n:Int} (hs:aZ S.N st.g az=some [.v (.str s),.v (.int k n)]):eu S c dr fr ⟨dst,none,now,.p .idxStr,az,[],[]⟩ st=(iP s n).bind λx=>some (bX st dst (.v (.int .u8 x))):=
 Nv hs rfl (by rw[vK,Jm];cases iP s n <;> rfl)
theorem Q5 {n e i o:Nat} {a:Bool} {s:Sl α} {v:α->V} (hs:aZ S.N st.g az=some [.el e i o]) (hd:(!dr||now||dJ fr [.el e i o])=true) (ho:aj st.m e=some (bW s)) (hv:∀x:α,(cut (cells x) o n).bind (mk a)=some (v x)) :
 eu S c dr fr ⟨dst,none,now,.r (.load n a),az,[],[]⟩ st=(s.get i).bind λx=>some (bX st dst (.v (v x))):=by
 rw[yq,hs];simp only[ζb,hd,if_true,SP,ho,Jw]
 cases s.get i with
 | none=>rfl
 | some x=>
  simp only[ζb];have:=hv x
  cases hc:cut (cells x) o n with
  | none=>rw[hc]at this;cases this
  | some r=>rw[hc]at this;simp only[ζb]at this ⊢;rw[this];rfl
theorem N4 {n e i:Nat} {s:Sl α} {x:V} {a:α} (hs:aZ S.N st.g az=some [.el e i 0,.v x]) (hd:(!dr||now)=true) (ho:aj st.m e=some (bW s)) (hx:x.cells=cells a) (hn:n=aB.size α) :
 eu S c dr fr ⟨dst,none,now,.l (.store n),az,[],[]⟩ st=(s.put i a).bind λs'=>some (bX { st with m:=aQ st.m e (bW s') } dst (.v .undef)):=by
 rw[sQ,hs];simp only[ζb,hd,if_true,GV,ho];rw[HB st.g st.pin st.want st.more st.yid e i n x a hx hn s];cases s.put i a <;> rfl
theorem Q9 {n:Nat} {z:α} {zero:List V} {i:Int} (hs:aZ S.N st.g az=some [.v (.int .i64 i),.v (.int .i64 i)]) (hz:zero=cells z) (hn:n=aB.size α) (hw:st.new d=true) :
 eu S c dr fr ⟨some d,none,now,.a (.makeSl n zero),az,[],[]⟩ st=(oW i z).bind λs=>some { st with g:=aQ st.g d (.own d),m:=aQ st.m d (bW s) }:=by
 rw[AM,hs];simp only[ζb,hw,if_true];rw[SM z i d n zero hz hn];cases oW i z <;> rfl
theorem SJ {n e u:Nat} {s:Sl α} {x:α} (hs:aZ S.N st.g az=some [.own e,.own u]) (hd:(!dr||now)=true) (ho:aj st.m e=some (bW s)) (hu:aj st.m u=some (bW (.row [x]))) (hn:n=aB.size α) (hw:St.new { st with m:=cR e st.m } d=true) :
 eu S c dr fr ⟨some d,none,now,.l (.append n),az,[],[]⟩ st=(iT s x).bind λs'=>some { st with g:=aQ st.g d (.own d),m:=aQ (cR e st.m) d (bW s') }:=by
 rw[sQ,hs];simp only[ζb,hd,if_true,w8,By,ho,hu];rw[yP n s hn,yP n (.row [x]) hn];have:=IZ (m:=st.m) st.g st.pin st.want st.more st.yid d n e s.l x hn;simp only[Sl.Nd];rw[show o7 st d n (.own e) (some (rows s.l)) (some (rows [x]))=_ from this];have ha:iT (.row s.l) x=iT s x:=by cases s <;> rfl
 rw[ha]
 cases iT s x with
 | none=>rfl
 | some s'=>
  simp only[ζb];rw[if_pos hw];rfl
theorem Qd {n u:Nat} {x:α} {v:V} (hv:v=.aG\/v=.cM) (hs:aZ S.N st.g az=some [.v v,.own u]) (hd:(!dr||now)=true) (hu:aj st.m u=some (bW (.row [x]))) (hn:n=aB.size α) (hw:st.new d=true) :
 eu S c dr fr ⟨some d,none,now,.l (.append n),az,[],[]⟩ st=some { st with g:=aQ st.g d (.own d),m:=aQ st.m d (bW (.row [x])) }:=by
 rw[sQ,hs];simp only[ζb,hd,if_true,w8,By,hu];rw[yP n (.row [x]) hn];simp only[Sl.Nd];rcases hv with rfl|rfl
 .rw[OP,show o7 st d n (.v .aG) (some []) (some (rows [x]))=_ from Jy (m:=st.m) st.g st.pin st.want st.more st.yid d n x hn];rw[if_pos hw];rfl
 .rw[Ou,show o7 st d n (.v .cM) (some []) (some (rows [x]))=_ from I6 (m:=st.m) st.g st.pin st.want st.more st.yid d n x hn];rw[if_pos hw];rfl
theorem Qo {f:FuncId} {svs args:List SV} {cs:List V} {m:Option δ} {E:δ->List V} (hc:kG c f cs=m.bind λr=>some (E r)) (hk:S.E.keep f=false) (hs:aZ S.N st.g az=some svs) (hf:nY svs=some (f,args))
 (hsh:lI (gH st.m 8) args=some cs) (hl:V.bR 8 cs=true) (ho:((!dr||now)||fu st.m fr args)=true) (hr:∀r,(V.lvl 8 (result (E r))&&((result (E r)).scalar||(c6 args).isSome))=true) :
 eu S c dr fr ⟨dst,none,now,.c,az,[],[]⟩ st=m.bind λr=>some (bX st dst (.v (result (E r)))):=by
 rw[Dh dr fr dst now az st svs f args hs hf,OC _ _ _ _ _ _ _ hk,(yz st.m 8).2,hsh];simp only[ζb,hl,ho,Bool.and_self,if_true,hc]
 cases m with
 | none=>rfl
 | some r=>
  simp only[ζb,JM];rw[if_pos (hr r)];rfl
end
end
end Go.VE
namespace Go.VE
variable [aW]
section
variable {S:Sys} {c:bF} {β γ:Type} {Q:Out×St->Option β} {L:Option β} {e:γ->Option β}
theorem s_ (rc:RC) (st:St):kH S c Q rc [] st=(bC S c rc st).bind Q:=by
 unfold kH;rw[As]
 congr 1
 funext q;obtain⟨o,st⟩:=q
 cases o <;> rfl
theorem yB (rc:RC) (st:St):bC S c rc st=kH S c some rc [] st:=by
 rw[s_];cases bC S c rc st <;> rfl
def ot (rs:List RV):Out×St->Option (List V)
 | (.exit _,_)=>none
 | (_,st)=>(oq st rs).bind (lI (gH st.m 8))
theorem N_ (rs:List RV):D0 rs=ot rs:=by
 funext q;obtain⟨o,st⟩:=q
 cases o
 .simp only[D0,ot];congr 1;funext l;exact(yz st.m 8).2 l
 .rfl
 .simp only[D0,ot];congr 1;funext l;exact(yz st.m 8).2 l
theorem N5 {S:Sys} {T:qt} {f:FuncId} {rf:RF} (hT:T f=some rf) (az:List V) (hn:az.length<=rf.na):kG (cA S T) f az=kH S (cA S T) (ot rf.rs) rf.body [] (start (az.map .v) []):=by
 rw[KH hT az hn,<-EN,s_,N_]
end
end Go.VE
namespace Go.VE
variable [aW]
def lU {α σ ε ρ:Type} (step:α->σ->Option (Fw σ ε ρ)):List α->σ->Option (Fw σ ε ρ)
 | [],s=>some (.n s)
 | x::xs,s=>(step x s).bind λw=>match w with
  | .n s'=>lU step xs s'
  | .x e=>some (.x e)
  | .r b=>some (.r b)
def Fw.uo {ν ε ρ γ:Type} (fn:ν->γ) (fx:ε->γ) (fr:ρ->γ):Fw ν ε ρ->γ
 | .n a=>fn a
 | .x e=>fx e
 | .r b=>fr b
def Fw.tC {ν ε ρ:Type} (eν:ν->Tb aK) (eε:ε->Nat×Tb aK) (eρ:ρ->Tb aK):Fw ν ε ρ->Out×Tb aK
 | .n a=>(.norm,eν a)
 | .x e=>(.exit (eε e).1,(eε e).2)
 | .r b=>(.ret,eρ b)
def tC (q:Out×St):Option (Out×Tb aK):=some (q.1,q.2.m)
section
variable {S:Sys} {c:bF} {β γ:Type} {Q:Out×St->Option β} {L:Option β} {e:γ->Option β}
noncomputable def vS (S:Sys) (c:bF) (b:RC):Out×St->Option (Out×Tb aK)
 | (.norm,st)=>kH S c tC b [] st
 | _=>none
theorem G5 (ps:List Nat) (a b:RC) (st:St) (x:List V) (m:Tb aK) (hx:x.length=ps.length) :
 gy ps (bC S c a) (bC S c b) st x m=kH S c (vS S c b) a [] ⟨t_ st.g ps (x.map .v),m,st.pin++nE st.g,[],true,0⟩:=by
 unfold gy;rw[if_pos hx,s_]
 cases bC S c a ⟨t_ st.g ps (x.map .v),m,st.pin++nE st.g,[],true,0⟩with
 | none=>rfl
 | some q=>
  obtain⟨o,st1⟩:=q
  cases o with
  | norm=>
   simp only[ζb,vS];rw[s_];cases bC S c b st1 <;> rfl
  | _=>rfl
end
end Go.VE
namespace Go.VE
variable [aW]
def Le {α:Type} (a b:Option α):Prop:=∀r,a=some r->b=some r
section
variable {α:Type}
theorem Le.refl (a:Option α):Le a a:=λ_ h=>h
theorem Le.of_eq {a b:Option α} (h:b=a):Le a b:=λ_ h2=>h.trans h2
theorem Le.trans {a b d:Option α} (h1:Le a b) (h2:Le b d):Le a d:=λr h=>h2 r (h1 r h)
theorem Le.none (b:Option α):Le (none:Option α) b:=λr h=>by cases h
theorem Le.bind {β:Type} {a b:Option α} {f g:α->Option β} (h:Le a b) (hf:∀x,Le (f x) (g x)):Le (a.bind f) (b.bind g):=λr hr=>by
 obtain⟨x,h1,h2⟩:=ζg.1 hr;rw[h x h1];exact hf x r h2
end
section
variable {S:Sys} {c:bF} {β γ δ:Type} {Q:Out×St->Option β} {L:Option β} {e:γ->Option β}
theorem EW {dr:Bool} {fr:List Nat} {dst:Option Nat} {now:Bool} {az:List Arg} {st:St} {f:FuncId} {svs args:List SV} {cs:List V} {m:Option δ} {E:δ->List V} (hc:Le (m.bind λr=>some (E r)) (kG c f cs)) (hk:S.E.keep f=false) (hs:aZ S.N st.g az=some svs) (hf:nY svs=some (f,args))
 (hsh:lI (gH st.m 8) args=some cs) (hl:V.bR 8 cs=true) (ho:((!dr||now)||fu st.m fr args)=true) (hr:∀r,(V.lvl 8 (result (E r))&&((result (E r)).scalar||(c6 args).isSome))=true) :
 Le (m.bind λr=>some (bX st dst (.v (result (E r))))) (eu S c dr fr ⟨dst,none,now,.c,az,[],[]⟩ st):=by
 intro q hq;obtain⟨r,h1,h2⟩:=ζg.1 hq;have hc':kG c f cs=(some r).bind λr=>some (E r):=hc _ (by rw[h1];rfl)
 rw[Qo (m:=some r) hc' hk hs hf hsh hl ho hr];exact h2
theorem LG {σ ε ρ:Type} {f:St->Option (Out×St)} {step:σ->Option (Fw σ ε ρ)} {eσ:σ->St} {eε:ε->Nat×St} {eρ:ρ->St} (h:∀s,Le ((step s).bind λw=>some (Fw.out eσ eε eρ w)) (f (eσ s))) (s:σ) :
 Le ((aV step s).bind λw=>some (Fw.out (λe=>Empty.elim e) eε eρ w)) (lF f (eσ s)):=by
 have key:∀k s r,gQ step k s=some r->gI f k (eσ s)=some (Fw.out (λe=>Empty.elim e) eε eρ r):=by
  intro k
  induction k with
  | zero=>intro s r h;simp[gQ]at h
  | succ k ih=>
   intro s r hw;simp only[gQ]at hw
   cases hs:step s with
   | none=>rw[hs]at hw;cases hw
   | some w=>
    rw[hs]at hw;have h2:=h s (Fw.out eσ eε eρ w) (by rw[hs];rfl)
    simp only[gI,h2]
    cases w with
    | n a=>exact ih a r hw
    | x e=>cases hw;rfl
    | r b=>cases hw;rfl
 intro r hr;obtain⟨w,h1,h2⟩:=ζg.1 hr;obtain⟨k,hk⟩:=lB.1 h1;cases h2;exact kD.2 ⟨k,key k s w hk⟩
theorem SL {σ ε ρ:Type} {a:RC} {fs:List Fm} {step:σ->Option (Fw σ ε ρ)} {eσ:σ->St} {eε:ε->Nat×St} {eρ:ρ->St} {s:σ} {fx:ε->Option γ} {fr:ρ->Option γ}
 (hL:L=kH S c Q (.loop a) fs (eσ s)) (h:∀s,Le ((step s).bind λw=>some (Fw.out eσ eε eρ w)) (kH S c some a [] (eσ s)))
 (hx:∀x,Le ((fx x).bind e) (ko S c Q fs (eε x).1 (eε x).2)) (hr:∀b,Le ((fr b).bind e) (Q (.ret,eρ b))):Le (((aV step s).bind (Fw.elim fx fr)).bind e) L:=by
 subst hL;have h1:kH S c Q (.loop a) fs (eσ s)=(lF (bC S c a) (eσ s)).bind (BV (ku S c Q fs) (ko S c Q fs) (λst=>Q (.ret,st))):=by
  unfold kH;rw[As];rfl
 rw[h1];have h2:=LG (step:=step) (f:=bC S c a) (eσ:=eσ) (eε:=eε) (eρ:=eρ) (λs=>by rw[yB];exact h s) s
 cases hw:aV step s with
 | none=>exact Le.none _
 | some w=>
  have h3:=h2 _ (by rw[hw];rfl)
  rw[h3]
  cases w with
  | n a=>cases a
  | x a=>exact hx a
  | r a=>exact hr a
theorem DZ {α σ ε ρ:Type} {f:List V->Tb aK->Option (Out×Tb aK)} {step:α->σ->Option (Fw σ ε ρ)} {eI:α->List V} {eσ:σ->Tb aK} {eε:ε->Nat×Tb aK} {eρ:ρ->Tb aK}
 (h:∀x s,Le ((step x s).bind λw=>some (Fw.tC eσ eε eρ w)) (f (eI x) (eσ s))):∀(xs:List α) (s:σ),Le ((lU step xs s).bind λw=>some (Fw.tC eσ eε eρ w)) (mU f (xs.map eI) (eσ s))
 | [],s=>λr hr=>hr
 | x::xs,s=>by
  simp only[List.map_cons,mU,lU]
  cases hs:step x s with
  | none=>exact Le.none _
  | some w=>
   have h2:=h x s (Fw.tC eσ eε eρ w) (by rw[hs];rfl)
   rw[h2]
   cases w with
   | n s'=>simp only[ζb,Fw.tC];exact DZ h xs s'
   | x e=>exact Le.refl _
   | r b=>exact Le.refl _
theorem SI {α σ ε ρ:Type} {g:Arg} {ps:List Nat} {a b:RC} {fs:List Fm} {f:FuncId} {x y:List V} {items:List α} {eI:α->List V} {step:α->σ->Option (Fw σ ε ρ)} {eσ:σ->Tb aK} {eε:ε->Nat×Tb aK} {eρ:ρ->Tb aK} {gt:Tb SV} {s:σ}
 {fn:σ->Option γ} {fx:ε->Option γ} {fr:ρ->Option γ}
 (hL:L=kH S c Q (.each g ps a b) fs ⟨gt,eσ s,[],[],true,0⟩) (hg:oh S.N gt g=some (.v (.clo f x y))) (hi:S.items f x y=some (items.map eI)) (hl:∀x,(eI x).length=ps.length)
 (h:∀x s,Le ((step x s).bind λw=>some (Fw.tC eσ eε eρ w)) (kH S c (vS S c b) a [] ⟨t_ gt ps ((eI x).map .v),eσ s,nE gt,[],true,0⟩))
 (hn:∀s,Le ((fn s).bind e) (ku S c Q fs ⟨gt,eσ s,[],[],true,0⟩))
 (hx:∀x,Le ((fx x).bind e) (ko S c Q fs (eε x).1 ⟨gt,(eε x).2,[],[],true,0⟩)) (hr:∀b,Le ((fr b).bind e) (Q (.ret,⟨gt,eρ b,[],[],true,0⟩))) :
 Le (((lU step items s).bind (Fw.uo fn fx fr)).bind e) L:=by
 subst hL;have h1:kH S c Q (.each g ps a b) fs ⟨gt,eσ s,[],[],true,0⟩=(bC S c (.each g ps a b) ⟨gt,eσ s,[],[],true,0⟩).bind (BV (ku S c Q fs) (ko S c Q fs) (λst=>Q (.ret,st))):=by
  unfold kH;rw[As]
 rw[h1];simp only[bC,hg,hi];have h2:=DZ (step:=step) (f:=gy ps (bC S c a) (bC S c b) ⟨gt,eσ s,[],[],true,0⟩) (eI:=eI) (eσ:=eσ) (eε:=eε) (eρ:=eρ) (λx s=>by rw[G5 _ _ _ _ _ _ (hl x)];exact h x s) items s
 cases hw:lU step items s with
 | none=>exact Le.none _
 | some w=>
  have h3:=h2 _ (by rw[hw];rfl)
  rw[h3]
  cases w with
  | n a=>exact hn a
  | x a=>exact hx a
  | r a=>exact hr a
end
end Go.VE
namespace Go.VE
variable [aW]
inductive Fo where
 | rc (c:RC)
 | ops (dr:Bool) (fr:List Nat) (l:List RO)
 | nx
 | ex (k:Nat)
 | rt
abbrev aN (g:Tb SV) (m:Tb aK):St:=⟨g,m,[],[],true,0⟩
section
variable (S:Sys) (c:bF) {β:Type} (Q:Out×St->Option β)
noncomputable def rn:Fo->List Fm->St->Option β
 | .rc a,fs,st=>kH S c Q a fs st
 | .ops dr fr l,fs,st=>tH S c dr fr l (ku S c Q fs) st
 | .nx,fs,st=>ku S c Q fs st
 | .ex k,fs,st=>ko S c Q fs k st
 | .rt,_,st=>Q (.ret,st)
noncomputable def vD:Fo->List Fm->St->Option (Fo×List Fm×St)
 | .rc .skip,fs,st=>some (.nx,fs,st)
 | .rc (.ops l),fs,st=>some (.ops false [] l,fs,st)
 | .rc (.mR l),fs,st=>some (.ops true [] l,fs,st)
 | .rc (.seq a b),fs,st=>some (.rc a,.seq b::fs,st)
 | .rc (.cond y a b),fs,st=>match oh S.N st.g y with
  | some (.v (.bool true))=>some (.rc a,fs,st)
  | some (.v (.bool false))=>some (.rc b,fs,st)
  | _=>none
 | .rc (.block id a),fs,st=>some (.rc a,.blk id::fs,st)
 | .rc (.exit k),fs,st=>some (.ex k,fs,st)
 | .rc .ret,fs,st=>some (.rt,fs,st)
 | .rc (.gh g a),fs,st=>match ghost g st with
  | some st'=>some (.rc a,fs,st')
  | none=>none
 | .rc (.hg a g),fs,st=>some (.rc a,.gst g::fs,st)
 | .rc (.loop _),_,_=>none
 | .rc (.each ..),_,_=>none
 | .ops _ _ [],fs,st=>some (.nx,fs,st)
 | .ops dr fr (⟨d,gd,now,k,az,dd,[]⟩::r),fs,st=>match eu S c dr fr ⟨d,gd,now,k,az,[],[]⟩ st with
  | some st'=>some (.ops dr (if dr then oC fr ⟨d,gd,now,k,az,[],[]⟩else fr) r,fs,mP dd st')
  | none=>none
 | .ops false fr (⟨d,gd,now,k,az,dd,x::xs⟩::r),fs,st=>match ghost x st with
  | some st'=>some (.ops false fr (⟨d,gd,now,k,az,dd,xs⟩::r),fs,st')
  | none=>none
 | .ops true _ (⟨_,_,_,_,_,_,_::_⟩::_),_,_=>none
 | .nx,.seq b::fs,st=>some (.rc b,fs,st)
 | .nx,.blk _::fs,st=>some (.nx,fs,st)
 | .nx,.gst g::fs,st=>match ghost g st with
  | some st'=>some (.nx,fs,st')
  | none=>none
 | .nx,[],_=>none
 | .ex k,.seq _::fs,st=>some (.ex k,fs,st)
 | .ex k,.blk id::fs,st=>some (if k=id then .nx else .ex k,fs,st)
 | .ex k,.gst _::fs,st=>some (.ex k,fs,st)
 | .ex _,[],_=>none
 | .rt,_,_=>none
noncomputable def fZ:Nat->Fo->List Fm->St->Option (Fo×List Fm×St)
 | 0,fo,fs,st=>some (fo,fs,st)
 | n+1,fo,fs,st=>match vD S c fo fs st with
  | some (fo',fs',st')=>fZ n fo' fs' st'
  | none=>none
end
section
variable {S:Sys} {c:bF} {β γ δ:Type} {Q:Out×St->Option β} {e:γ->Option β}
theorem MB {fo fo':Fo} {fs fs':List Fm} {st st':St} (h:vD S c fo fs st=some (fo',fs',st')):rn S c Q fo fs st=rn S c Q fo' fs' st':=by
 cases fo with
 | rc a=>
  cases a with
  | cond y a b=>
   simp only[vD]at h;split at h
   .rename_i hs;cases h;simp only[rn,kH,lC,hs,aq,if_true]
   .rename_i hs;cases h;simp only[rn,kH,lC,hs,aq];rfl
   .cases h
  | gh g a=>
   simp only[vD]at h;split at h
   .rename_i hs;cases h;simp only[rn,kH,lC,hs,ζb]
   .cases h
  | loop a=>cases h
  | each g ps a b=>cases h
  | seq a b=>cases h;simp only[rn,kH,lC,ku,ko]
  | block id a=>cases h;simp only[rn,kH,lC,ku,ko]
  | hg a g=>cases h;simp only[rn,kH,lC,ku,ko]
  | _=>cases h;simp only[rn,kH,lC]
 | ops dr fr l=>
  cases l with
  | nil=>cases h;simp only[rn,tH]
  | cons o r=>
   obtain⟨d,gd,now,k,az,dd,pre⟩:=o
   cases pre with
   | nil=>
    simp only[vD]at h;split at h
    .rename_i hs;cases h;simp only[rn,tH,Af,RO.strip,ζb,hs]
    .cases h
   | cons x xs=>
    cases dr with
    | true=>cases h
    | false=>
     simp only[vD]at h;split at h
     .rename_i hs;cases h;simp only[rn,tH,RO.strip,zI,qb,Bool.false_eq_true,if_false,hs,ζb]
     .cases h
 | nx=>
  cases fs with
  | nil=>cases h
  | cons f fs=>
   cases f with
   | seq b=>cases h;simp only[rn,kH,ku]
   | blk id=>cases h;simp only[rn,ku]
   | gst g=>
    simp only[vD]at h;split at h
    .rename_i hs;cases h;simp only[rn,ku,hs,ζb]
    .cases h
 | ex k=>
  cases fs with
  | nil=>cases h
  | cons f fs=>
   cases f with
   | seq b=>cases h;simp only[rn,ko]
   | blk id=>
    cases h;simp only[rn,ko]
    by_cases hk:k=id
    .simp only[if_pos hk,rn]
    .simp only[if_neg hk,rn]
   | gst g=>cases h;simp only[rn,ko]
 | rt=>cases h
theorem mc:∀{n:Nat} {fo fo':Fo} {fs fs':List Fm} {st st':St},fZ S c n fo fs st=some (fo',fs',st')->rn S c Q fo fs st=rn S c Q fo' fs' st'
 | 0,fo,fo',fs,fs',st,st',h=>by cases h;rfl
 | n+1,fo,fo',fs,fs',st,st',h=>by
  simp only[fZ]at h;split at h
  .rename_i a b d hs;rw[MB hs];exact mc h
  .cases h
theorem BC {n:Nat} {fo fo':Fo} {fs fs':List Fm} {st st':St} {m:Option β} (h:fZ S c n fo fs st=some (fo',fs',st')) (h2:Le m (rn S c Q fo' fs' st')):Le m (rn S c Q fo fs st):=by
 rw[mc h];exact h2
theorem U0 {n:Nat} {fo fo':Fo} {fs fs':List Fm} {st st':St} {r:γ} (h:fZ S c n fo fs st=some (fo',fs',st')) (h2:rn S c Q fo' fs' st'=e r):Le ((some r).bind e) (rn S c Q fo fs st):=by
 rw[mc h];exact Le.of_eq h2
theorem Ns {m:Option δ} {f:δ->Option γ} {L:Option β} (k:δ->Option β) (h2:Le (m.bind k) L) (h1:∀r,Le ((f r).bind e) (k r)):Le ((m.bind f).bind e) L:=by
 intro r hr
 cases m with
 | none=>cases hr
 | some x=>exact h2 r (h1 x r hr)
theorem UX {n:Nat} {fo:Fo} {fs fs':List Fm} {st0:St} {dr:Bool} {q l:List RO} {fr:List Nat} {st:St} {d:Option Nat} {gd:Option (Nat×Bool)} {now:Bool} {k:K} {az:List Arg} {dd:List Nat} {m:Option δ} {g:δ->St} {f:δ->Option γ}
 (hL:fZ S c n fo fs st0=some (.ops dr fr q,fs',st)) (hq:q=⟨d,gd,now,k,az,dd,[]⟩::l) (hg:wanted st.g gd=some true)
 (hs:Le (m.bind λx=>some (g x)) (eu S c dr fr ⟨d,none,now,k,az,[],[]⟩ st))
 (h:∀x,m=some x->Le ((f x).bind e) (rn S c Q (.ops dr (if dr then oC fr ⟨d,gd,now,k,az,[],[]⟩else fr) l) fs' (mP dd (g x)))):Le ((m.bind f).bind e) (rn S c Q fo fs st0):=by
 rw[mc hL];subst hq;simp only[rn,tH,RO.strip,Af,ζb];rw[Kk hg]
 cases m with
 | none=>exact Le.none _
 | some x=>rw[hs (g x) rfl];exact h x rfl
theorem M_ {n:Nat} {fo:Fo} {fs fs':List Fm} {st0:St} {dr:Bool} {q l:List RO} {fr:List Nat} {st st':St} {d:Option Nat} {gd:Option (Nat×Bool)} {now:Bool} {k:K} {az:List Arg} {dd:List Nat} {m:Option β}
 (hL:fZ S c n fo fs st0=some (.ops dr fr q,fs',st)) (hq:q=⟨d,gd,now,k,az,dd,[]⟩::l) (hg:wanted st.g gd=some true)
 (hs:eu S c dr fr ⟨d,none,now,k,az,[],[]⟩ st=some st')
 (h:Le m (rn S c Q (.ops dr (if dr then oC fr ⟨d,gd,now,k,az,[],[]⟩else fr) l) fs' (mP dd st'))):Le m (rn S c Q fo fs st0):=by
 rw[mc hL];subst hq;simp only[rn,tH,RO.strip,Af,ζb];rw[Kk hg,hs];exact h
theorem IL {n:Nat} {fo:Fo} {fs0:List Fm} {st:St} {σ ε ρ:Type} {a:RC} {fs:List Fm} {step:σ->Option (Fw σ ε ρ)} {eσ:σ->St} {eε:ε->Nat×St} {eρ:ρ->St} {s:σ} {fx:ε->Option γ} {fr:ρ->Option γ}
 (hL:fZ S c n fo fs0 st=some (.rc (.loop a),fs,eσ s)) (h:∀s,Le ((step s).bind λw=>some (Fw.out eσ eε eρ w)) (rn S c some (.rc a) [] (eσ s)))
 (hx:∀x,Le ((fx x).bind e) (rn S c Q (.ex (eε x).1) fs (eε x).2)) (hr:∀b,Le ((fr b).bind e) (Q (.ret,eρ b))):Le (((aV step s).bind (Fw.elim fx fr)).bind e) (rn S c Q fo fs0 st):=by
 rw[mc hL];exact SL (L:=rn S c Q (.rc (.loop a)) fs (eσ s)) rfl h hx hr
theorem RX {n:Nat} {fo:Fo} {fs0:List Fm} {st:St} {α σ ε ρ:Type} {g:Arg} {ps:List Nat} {a b:RC} {fs:List Fm} {f:FuncId} {x y:List V} {items:List α} {eI:α->List V} {step:α->σ->Option (Fw σ ε ρ)} {eσ:σ->Tb aK} {eε:ε->Nat×Tb aK} {eρ:ρ->Tb aK} {gt:Tb SV} {s:σ}
 {fn:σ->Option γ} {fx:ε->Option γ} {fr:ρ->Option γ}
 (hL:fZ S c n fo fs0 st=some (.rc (.each g ps a b),fs,aN gt (eσ s))) (hg:oh S.N gt g=some (.v (.clo f x y))) (hi:S.items f x y=some (items.map eI)) (hl:∀x,(eI x).length=ps.length)
 (h:∀x s,Le ((step x s).bind λw=>some (Fw.tC eσ eε eρ w)) (rn S c (vS S c b) (.rc a) [] ⟨t_ gt ps ((eI x).map .v),eσ s,nE gt,[],true,0⟩))
 (hn:∀s,Le ((fn s).bind e) (rn S c Q .nx fs (aN gt (eσ s))))
 (hx:∀x,Le ((fx x).bind e) (rn S c Q (.ex (eε x).1) fs (aN gt (eε x).2))) (hr:∀b,Le ((fr b).bind e) (Q (.ret,aN gt (eρ b)))) :
 Le (((lU step items s).bind (Fw.uo fn fx fr)).bind e) (rn S c Q fo fs0 st):=by
 rw[mc hL];exact SI (L:=rn S c Q (.rc (.each g ps a b)) fs (aN gt (eσ s))) rfl hg hi hl h hn hx hr
theorem QI {b:RC} {st st':St} {m:Option (Out×Tb aK)} {fs:List Fm} {n:Nat} {fo:Fo} (h:fZ S c n fo fs st=some (.nx,[],st')) (h2:Le m (rn S c tC (.rc b) [] st')):Le m (rn S c (vS S c b) fo fs st):=by
 rw[mc h];exact h2
theorem Sk {α:Type} {n:Nat} {fo fo':Fo} {fs fs':List Fm} {st:St} {A:Option α->St} {o:Option α} {f:α->Option γ} (h:fZ S c n fo fs st=some (fo',fs',A o))
 (h2:∀x,o=some x->Le ((f x).bind e) (rn S c Q fo' fs' (A (some x)))):Le ((o.bind f).bind e) (rn S c Q fo fs st):=by
 rw[mc h]
 cases o with
 | none=>exact Le.none _
 | some x=>exact h2 x rfl
theorem UL {T:qt} {f:FuncId} {rf:RF} {az:List V} {m:Option (List V)} (hT:T f=some rf) (hn:az.length<=rf.na) (h:Le m (rn S (cA S T) (ot rf.rs) (.rc rf.body) [] (start (az.map .v) []))):Le m (kG (cA S T) f az):=by
 rw[N5 hT az hn];exact h
end
section
variable {α:Type} [aB α]
abbrev cv (x:α):SV:=.v (enc x)
abbrev cp (x:α):SV:=.v (.fptr (cells x))
abbrev bx (x:α):aK:=.box ((cells x).map .v)
end
end Go.VE
namespace Go.VE
variable [aW]
structure ja (S:Sys) (c:bF) {α δ:Type} (fn:FuncId) (A:α->List V) (E:δ->List V) (p:α->Option δ) (sc:Bool):Prop where
 k:S.E.keep fn=false
 h:∀z,Le ((p z).bind λr=>some (E r)) (kG c fn (A z))
 l:∀z,V.bR 8 (A z)=true
 r:∀r,V.lvl 8 (result (E r))=true
 s:sc=true->∀r,(result (E r)).scalar=true
section
variable {S:Sys} {c:bF} {β γ δ α:Type} {Q:Out×St->Option β} {e:γ->Option β} {fo:Fo} {fs:List Fm} {st0:St} {l:List RO} {d:Option Nat} {gd:Option (Nat×Bool)} {now:Bool} {az:List Arg} {dd:List Nat}
noncomputable abbrev qx (S:Sys) (c:bF) (Q:Out×St->Option β) (dr:Bool) (fr:List Nat) (d:Option Nat) (k:K) (l:List RO) (fs:List Fm) (dd:List Nat) (st:St):Option β:=
 rn S c Q (.ops dr (if dr then(match k with|.p _|.r _=>fr|_=>match d with|some d=>d::fr|none=>fr)else fr) l) fs (mP dd st)
theorem C5 (fr:List Nat) (k:K):oC fr ⟨d,gd,now,k,az,[],[]⟩=(match k with|.p _|.r _=>fr|_=>match d with|some d=>d::fr|none=>fr):=by
 cases k <;> cases d <;> rfl
theorem BI {n:Nat} {dr:Bool} {fr:List Nat} {q:List RO} {fs':List Fm} {st:St} {k:K} {m:Option δ} {g:δ->St} {f:δ->Option γ}
 (hL:fZ S c n fo fs st0=some (.ops dr fr q,fs',st)) (hq:q=⟨d,gd,now,k,az,dd,[]⟩::l) (hg:wanted st.g gd=some true)
 (hs:Le (m.bind λx=>some (g x)) (eu S c dr fr ⟨d,none,now,k,az,[],[]⟩ st))
 (h:∀x,m=some x->Le ((f x).bind e) (qx S c Q dr fr d k l fs' dd (g x))):Le ((m.bind f).bind e) (rn S c Q fo fs st0):=
 UX hL hq hg hs (λx hx=>by rw[C5];exact h x hx)
theorem oP {n:Nat} {dr:Bool} {fr:List Nat} {q:List RO} {fs':List Fm} {st st':St} {k:K} {m:Option β}
 (hL:fZ S c n fo fs st0=some (.ops dr fr q,fs',st)) (hq:q=⟨d,gd,now,k,az,dd,[]⟩::l) (hg:wanted st.g gd=some true)
 (hs:eu S c dr fr ⟨d,none,now,k,az,[],[]⟩ st=some st') (h:Le m (qx S c Q dr fr d k l fs' dd st')):Le m (rn S c Q fo fs st0):=
 M_ hL hq hg hs (by rw[C5];exact h)
section
variable [aB α]
theorem Mf (n:Nat) (dr:Bool) (fr:List Nat) (q:List RO) (fs':List Fm) (st:St) (k:IntKind) {sz:Nat} {s:Sl α} {i:Int} {f:α->Option γ} (hq:q=⟨d,gd,now,.p (.idxS sz),az,dd,[]⟩::l)
 (hL:(fZ S c n fo fs st0,wanted st.g gd,aZ S.N st.g az,sz)=(some (.ops dr fr q,fs',st),some true,some [.v (aX s),.v (.int k i)],aB.size α))
 (h:∀x,idx s i=some x->Le ((f x).bind e) (qx S c Q dr fr d (.p (.idxS sz)) l fs' dd (bX st d (cp x)))):Le (((idx s i).bind f).bind e) (rn S c Q fo fs st0):=by
 simp only[ζc]at hL;exact BI hL.1 hq hL.2.1 (Le.of_eq (M6 hL.2.2.1 hL.2.2.2)) h
theorem QK (n:Nat) (dr:Bool) (fr:List Nat) (q:List RO) (fs':List Fm) (st:St) (s:Sl α) {m:Option β} (hq:q=⟨d,gd,now,.p .lenSl,az,dd,[]⟩::l)
 (hL:(fZ S c n fo fs st0,wanted st.g gd,aZ S.N st.g az)=(some (.ops dr fr q,fs',st),some true,some [.v (aX s)]))
 (h:Le m (qx S c Q dr fr d (.p .lenSl) l fs' dd (bX st d (.v (.int .i64 s.l.length))))):Le m (rn S c Q fo fs st0):=by
 simp only[ζc]at hL;exact oP hL.1 hq hL.2.1 (M9 hL.2.2) h
end
section
variable {q:List RO} {fs':List Fm}
end
theorem DE (m:Tb aK) (n:Nat) (l:List V):lI (gH m n) (l.map .v)=some l:=by rw[<-(yz m n).2,uh]
variable {A:α->List V} {E:δ->List V} {p:α->Option δ} {fn:FuncId} {sc:Bool}
end
end Go.VE
namespace Go.VE
variable [aW]
abbrev iv (n:Int):SV:=.v (.int .i64 n)
abbrev bv (b:Bool):SV:=.v (.bool b)
abbrev len {α:Type} (s:Sl α):Int:=((List.length (Sl.l s):Nat):Int)
abbrev o1 (d:Nat) (a:Arg) (dd:List Nat):RO:=⟨some d,none,false,.p .id,[a],dd,[]⟩
abbrev o2 (d:Nat) (k:K) (az:List Arg) (dd:List Nat):RO:=⟨some d,none,false,k,az,dd,[]⟩
abbrev o3 (d s:Nat) (b:Bool) (k:K) (az:List Arg) (dd:List Nat):RO:=⟨some d,some (s,b),false,k,az,dd,[]⟩
def F_ (a b:aa):Bool:=[a.proc,a.index]==[b.proc,b.index]
mutual
theorem xZ:∀{n:Nat} {x:V},V.lvl n x=true->V.lvl (n+1) x=true
 | 0,.fsl ..,h=>by simp[V.lvl]at h
 | 0,.fptr ..,h=>by simp[V.lvl]at h
 | 0,.fmap ..,h=>by simp[V.lvl]at h
 | 0,.agg ..,h=>by simp[V.lvl]at h
 | 0,.tup ..,h=>by simp[V.lvl]at h
 | 0,.clo ..,h=>by simp[V.lvl]at h
 | n+1,.fsl es xs,h=>by simp only[V.lvl]at h ⊢;exact zS h
 | n+1,.fptr cs,h=>by simp only[V.lvl]at h ⊢;exact pG h
 | n+1,.fmap kvs,h=>by simp only[V.lvl]at h ⊢;exact BX h
 | n+1,.agg cs,h=>by simp only[V.lvl]at h ⊢;exact pG h
 | n+1,.tup cs,h=>by simp only[V.lvl]at h ⊢;exact pG h
 | n+1,.clo f a b,h=>by simp only[V.lvl,ζh]at h ⊢;exact⟨pG h.1,pG h.2⟩
 | 0,.bool _,_|0,.int ..,_|0,.str _,_|0,.fC,_|0,.ec,_|0,.pU,_|0,.cM,_|0,.aG,_|0,.hsl ..,_|0,.hptr ..,_|0,.yld _,_|0,.hmap _,_=>rfl
 | _+1,.bool _,_|_+1,.int ..,_|_+1,.str _,_|_+1,.fC,_|_+1,.ec,_|_+1,.pU,_|_+1,.cM,_|_+1,.aG,_|_+1,.hsl ..,_|_+1,.hptr ..,_|_+1,.yld _,_|_+1,.hmap _,_=>rfl
theorem pG:∀{n:Nat} {x:List V},V.bR n x=true->V.bR (n+1) x=true
 | n,[],_=>iw _
 | n,a::l,h=>by rw[fT,ζh]at h ⊢;exact⟨xZ h.1,pG h.2⟩
theorem zS:∀{n:Nat} {x:List (List V)},V.kR n x=true->V.kR (n+1) x=true
 | n,[],_=>by simp only[V.kR]
 | n,a::l,h=>by simp only[V.kR,ζh]at h ⊢;exact⟨pG h.1,zS h.2⟩
theorem BX:∀{n:Nat} {x:List (V×V)},V.mK n x=true->V.mK (n+1) x=true
 | n,[],_=>by simp only[V.mK]
 | n,(k,v)::l,h=>by simp only[V.mK,ζh]at h ⊢;exact⟨⟨xZ h.1.1,xZ h.1.2⟩,BX h.2⟩
end
section
variable {α:Type} [aB α]
theorem pL (h:aB.agg α=false) (a:α):cells a=[enc a]:=by
 have hl:(cells a).length=1:=by rw[show (cells a).length=_ from aB.len a,aB.plain h]
 unfold enc;rw[if_neg (by simp[h])]
 match hc:cells a,hl with
 | [x],_=>rfl
theorem vl (h:aB.agg α=true) (a:α):enc a=.agg (cells a):=by unfold enc;rw[if_pos h]
theorem Ga {n:Nat} [Lv n α] (a:α):V.lvl (n+1) (enc a)=true:=by
 have h:=Lv.lv (n:=n) a
 cases ha:aB.agg α with
 | true=>rw[vl ha];exact h
 | false=>
  rw[pL ha,fT,ζh]at h;exact xZ h.1
theorem QZ {n:Nat} [Lv n α] (a:α):V.lvl (n+1) (.fptr (cells a))=true:=Lv.lv a
theorem g_ (a:α):V.good (enc a)=true:=by
 have h:V.bE (cells a)=true:=aB.good a
 cases ha:aB.agg α with
 | true=>rw[vl ha];exact h
 | false=>
  rw[pL ha]at h;simp only[V.bE,Bool.and_true]at h;exact h
theorem kM (s:Sl α):V.one (enc s)=true:=C6 s
theorem nq {n:Nat} [Lv n α] (s:Sl α):V.lvl (n+1) (enc s)=true:=CH s
theorem KF (s:α) (h:aB.agg α=false):V.one (enc s)=true:=by
 have:=aB.one s;rw[show aB.cells s=cells s from rfl,pL h]at this;simpa using this
end
instance {α:Type} [aB α]:aB (Option α) where
 cells o:=[match o with|none=>.fC|some x=>.fptr (cells x)]
 agg:=false
 size:=1
 len _:=rfl
 good o:=by
  cases o with
  | none=>rfl
  | some x=>simp only[V.bE,V.good,Bool.and_true];exact aB.good x
 one o:=by cases o <;> rfl
 plain _:=rfl
instance {n:Nat} {α:Type} [aB α] [Lv n α]:Lv (n+1) (Option α):=⟨λo=>by
 cases o with
 | none=>rfl
 | some x=>
  show V.bR (n+1) [.fptr (cells x)]=true;rw[fT,iw,Bool.and_true];exact Lv.lv x⟩
structure U8 where
 v:Int
 deriving Inhabited,DecidableEq
instance:aB U8 where
 cells n:=[.int .u8 n.v]
 agg:=false
 size:=1
 len _:=rfl
 good _:=rfl
 one _:=rfl
 plain _:=rfl
instance {n:Nat}:Lv n U8:=⟨λ_=>by cases n <;> rfl⟩
structure TX where
 v:Int
 deriving Inhabited,DecidableEq
instance:aB TX where
 cells n:=[.int .u64 n.v]
 agg:=false
 size:=1
 len _:=rfl
 good _:=rfl
 one _:=rfl
 plain _:=rfl
instance {n:Nat}:Lv n TX:=⟨λ_=>by cases n <;> rfl⟩
structure T_ where
 v:Int
 deriving Inhabited,DecidableEq
instance:aB T_ where
 cells n:=[.int .u32 n.v]
 agg:=false
 size:=1
 len _:=rfl
 good _:=rfl
 one _:=rfl
 plain _:=rfl
instance {n:Nat}:Lv n T_:=⟨λ_=>by cases n <;> rfl⟩
structure TS where
 v:Int
 deriving Inhabited,DecidableEq
instance:aB TS where
 cells n:=[.int .i32 n.v]
 agg:=false
 size:=1
 len _:=rfl
 good _:=rfl
 one _:=rfl
 plain _:=rfl
instance {n:Nat}:Lv n TS:=⟨λ_=>by cases n <;> rfl⟩
structure mj (S:Sys) (c:bF) {α δ:Type} (g:FuncId) (w e:List V) (A:α->List V) (R:δ->List V) (p:α->Option δ) (b:Bool):Prop where
 f:ja S c g (λz=>w++A z++e) R p b
 d:V.bR 7 e=true
 dw:V.bR 7 w=true
section
variable {S:Sys} {c:bF} {β γ δ α:Type} {Q:Out×St->Option β} {e:γ->Option β} {fo:Fo} {fs:List Fm} {st0:St} {l:List RO} {d:Option Nat} {gd:Option (Nat×Bool)} {now:Bool} {az:List Arg} {dd:List Nat}
theorem kA {α:Type} [aB α] (a:α):V.cells (enc a)=cells a:=by
 cases ha:aB.agg α with
 | true=>rw[vl ha];rfl
 | false=>
  have h1:V.one (enc a)=true:=KF a ha;rw[pL ha];cases h:enc a <;> first|rfl|(rw[h]at h1;cases h1)
theorem pO {α:Type} [aB α] (a:α):(cells a).all V.one=true:=aB.one a
theorem eN {α:Type} [aB α] (a:α):(cells a).length=aB.size α:=aB.len a
theorem Ast [aB α] (n:Nat) (dr:Bool) (fr:List Nat) (q:List RO) (fs':List Fm) (st:St) (u o:Nat) (x:α) (cs cs':List SV) {sz:Nat} {m:Option β} (hq:q=⟨d,gd,now,.l (.store sz),az,dd,[]⟩::l)
 (hL:(fZ S c n fo fs st0,wanted st.g gd,aZ S.N st.g az,aj st.m u,(!dr||now),sz,Nat.ble (o+sz) cs.length,cs.take o++(cells x).map .v++cs.drop (o+sz))=(some (.ops dr fr q,fs',st),some true,some [.ptr u o,cv x],some (.box cs),true,aB.size α,true,cs'))
 (h:Le m (qx S c Q dr fr d (.l (.store sz)) l fs' dd (bX { st with m:=aQ st.m u (.box cs') } d (.v .undef)))):Le m (rn S c Q fo fs st0):=by
 simp only[ζc]at hL;obtain⟨h1,h2,h3,h4,h5,h6,h7,h8⟩:=hL;refine oP h1 hq h2 ?_ h;rw[sQ,h3];subst h6;have h9:=Nat.le_of_ble_eq_true h7;simp only[ζb,h5,if_true,lS,h4,putCells,kA,eN,pO,h9,and_self,h8,Option.map_some]
theorem xE {α:Type} [aB α]:∀(xs:List α) (pre:List (List V)) (suf:List (List V)),suf.length=xs.length->fD (aB.size α) (pre++suf) ((List.range' pre.length xs.length).zip (xs.map enc))=some (pre++rows xs)
 | [],pre,suf,h=>by
  have:suf=[]:=List.eq_nil_of_length_eq_zero h;subst this;rfl
 | x::xs,pre,s::suf,h=>by
  simp only[List.length_cons,List.range'_succ,List.map_cons,List.zip_cons_cons,fD,kA,eN,pO];rw[if_pos ⟨trivial,by simp,trivial⟩]
  have:=xE xs (pre++[cells x]) suf (by simpa using h)
  simp only[ζi,List.length_cons,List.length_nil,Nat.zero_add]at this;have e:(pre++s::suf).set pre.length (cells x)=pre++[cells x]++suf:=by simp
  rw[e,this];simp[rows]
theorem Vh [aB α] (n:Nat) (dr:Bool) (fr:List Nat) (q:List RO) (fs':List Fm) (st:St) (xs:List α) {u sz ln:Nat} {zero:List V} {ix:List Nat} {m:Option β} (hq:q=⟨some u,gd,now,.a (.buildSl sz ln zero ix),az,dd,[]⟩::l)
 (h4:st.new u=true) (hL:(fZ S c n fo fs st0,wanted st.g gd,aZ S.N st.g az,sz,ln,ix)=(some (.ops dr fr q,fs',st),some true,some ((xs.map enc).map .v),aB.size α,xs.length,List.range' 0 xs.length))
 (h:Le m (qx S c Q dr fr (some u) (.a (.buildSl sz ln zero ix)) l fs' dd { st with g:=aQ st.g u (.own u),m:=aQ st.m u (bW (.row xs)) })):Le m (rn S c Q fo fs st0):=by
 simp only[ζc]at hL;obtain⟨h1,h2,h3,h5,h6,h7⟩:=hL;subst h5 h6 h7;refine oP h1 hq h2 ?_ h;rw[AM,h3];simp only[ζb,h4,if_true,mW,ri,List.length_range',List.length_map,if_true];have:=xE xs [] (List.replicate xs.length zero) (by simp)
 simp only[List.nil_append,List.length_nil]at this;rw[this];rfl
theorem UI [aB α] (n:Nat) (dr:Bool) (fr:List Nat) (q:List RO) (fs':List Fm) (st:St) (x:α) (vs:List V) {z:List V} {pl:List (Nat×Nat)} {m:Option β} (hq:q=⟨d,gd,now,.p (.build z pl),az,dd,[]⟩::l)
 (hp:iX z pl vs=some (cells x)) (ha:aB.agg α=true)
 (hL:(fZ S c n fo fs st0,wanted st.g gd,aZ S.N st.g az)=(some (.ops dr fr q,fs',st),some true,some (vs.map .v)))
 (h:Le m (qx S c Q dr fr d (.p (.build z pl)) l fs' dd (bX st d (cv x)))):Le m (rn S c Q fo fs st0):=by
 simp only[ζc]at hL;refine oP hL.1 hq hL.2.1 (z6 hL.2.2 rfl ?_) h;unfold hG;rw[ri];simp only[Ml,hp,ζb,Option.map_some];show some (SV.v (.agg (cells x)))=some (.v (enc x));rw[vl ha]
section
variable [aB α]
theorem UG (n:Nat) (dr:Bool) (fr:List Nat) (q:List RO) (fs':List Fm) (st:St) (lo hi:Bool) (bs:List V) {sz:Nat} {s:Sl α} {a b:Option Int} {f:Sl α->Option γ} (hq:q=⟨d,gd,now,.p (.slice sz lo hi),az,dd,[]⟩::l)
 (hL:(fZ S c n fo fs st0,wanted st.g gd,aZ S.N st.g az,jB lo hi bs,sz)=(some (.ops dr fr q,fs',st),some true,some (.v (aX s)::bs.map .v),some (a,b),aB.size α))
 (h:∀x,ez s a b=some x->Le ((f x).bind e) (qx S c Q dr fr d (.p (.slice sz lo hi)) l fs' dd (bX st d (.v (aX x))))):Le (((ez s a b).bind f).bind e) (rn S c Q fo fs st0):=by
 simp only[ζc]at hL;refine BI hL.1 hq hL.2.1 (Le.of_eq ?_) h;have hy:aZ S.N st.g az=some ((aX s::bs).map .v):=hL.2.2.1;unfold eu mN;simp only[wanted,eR,hy];have hp:hG S.N st.m (.slice sz lo hi) ((aX s::bs).map .v)=(ez s a b).bind λx=>some (.v (aX x)):=by
  unfold hG;rw[ri];simp only[ai,hL.2.2.2.1,ζb,Ir s a b sz hL.2.2.2.2];cases ez s a b <;> rfl
 simp only[List.map_cons]at hp ⊢;rw[hp];cases ez s a b <;> rfl
def mh (s:Sl α) (lo hi:Option Int):Option (Sl α):=
 match s with
 | .nil|.emp=>none
 | .row x|.part x=>(cF x.length lo hi).map λ(l,h)=>.part ((x.take h).drop l)
theorem SZ (n:Nat) (fr:List Nat) (q:List RO) (fs':List Fm) (st:St) (lo hi:Bool) (u:Nat) (bs:List V) {t sz:Nat} {s:Sl α} {a b:Option Int} {f:Sl α->Option γ} (hq:q=⟨some t,gd,now,.p (.slice sz lo hi),az,dd,[]⟩::l)
 (h7:St.new { st with m:=cR u st.m } t=true) (hL:(fZ S c n fo fs st0,wanted st.g gd,aZ S.N st.g az,jB lo hi bs,aj st.m u,sz)=(some (.ops false fr q,fs',st),some true,some (.own u::bs.map .v),some (a,b),some (bW s),aB.size α))
 (h:∀x,mh s a b=some x->Le ((f x).bind e) (qx S c Q false fr (some t) (.p (.slice sz lo hi)) l fs' dd { st with g:=aQ st.g t (.own t),m:=aQ (cR u st.m) t (bW x) })):Le (((mh s a b).bind f).bind e) (rn S c Q fo fs st0):=by
 simp only[ζc]at hL;refine BI hL.1 hq hL.2.1 (Le.of_eq ?_) h;obtain⟨_,_,h3,h4,h5,h6⟩:=hL;subst h6;unfold eu mN;simp only[wanted,eR,h3,Bool.false_eq_true,if_false,xH,ri,h5,h4,ζb];have hn:(aj st.m u).isSome:=by rw[h5];rfl
 cases s with
 | nil=>simp[mh,bW,Sl.k,bB]
 | emp=>simp[mh,bW,Sl.k,bB]
 | row x=>
  simp only[bW,Sl.k,Sl.l,bB,mh,eE,and_self,if_true,h4,ζb]
  cases cF x.length a b with
  | none=>rfl
  | some r=>simp[h7,bX,rows,List.map_take,List.map_drop]
 | part x=>
  simp only[bW,Sl.k,Sl.l,bB,mh,eE,and_self,if_true,h4,ζb]
  cases cF x.length a b with
  | none=>rfl
  | some r=>simp[h7,bX,rows,List.map_take,List.map_drop]
end
end
end Go.VE
namespace Go.VE
variable [aW]
structure br (n:Nat) (α:Type) where
 l:List α
 len:l.length=n
theorem Lr {α:Type} [aB α] (l:List α):(l.map (cells (α:=α))).flatten.length=l.length*aB.size α:=by
 induction l with
 | nil=>simp
 | cons a l ih=>simp only[List.map_cons,List.flatten_cons,ζi,ih,eN,List.length_cons,Nat.add_mul,Nat.one_mul,Nat.add_comm]
theorem JF {α:Type} [aB α] (l:List α):V.bE (l.map (cells (α:=α))).flatten=true:=by
 induction l with
 | nil=>rfl
 | cons a l ih=>
  simp only[List.map_cons,List.flatten_cons];have h:∀(x y:List V),V.bE x=true->V.bE y=true->V.bE (x++y)=true:=by
   intro x
   induction x with
   | nil=>intro y _ h;exact h
   | cons b x ih2=>intro y h1 h2;simp only[V.bE,ζh,List.cons_append]at h1 ⊢;exact⟨h1.1,ih2 y h1.2 h2⟩
  exact h _ _ (aB.good a) ih
theorem Ej {n:Nat}:∀{x y:List V},V.bR n x=true->V.bR n y=true->V.bR n (x++y)=true
 | [],_,_,h=>h
 | a::x,y,h1,h2=>by
  simp only[fT,ζh,List.cons_append]at h1 ⊢;exact⟨h1.1,Ej h1.2 h2⟩
theorem K1 {n:Nat} {α:Type} [aB α] [Lv n α] (l:List α):V.bR n (l.map (cells (α:=α))).flatten=true:=by
 induction l with
 | nil=>exact iw n
 | cons a l ih=>simp only[List.map_cons,List.flatten_cons];exact Ej (Lv.lv a) ih
instance {n:Nat} {α:Type} [aB α]:aB (br n α) where
 cells a:=(a.l.map cells).flatten
 agg:=true
 size:=n*aB.size α
 len a:=by rw[Lr,a.len]
 good a:=JF a.l
 one a:=by
  have:∀l:List α,(l.map (cells (α:=α))).flatten.all V.one=true:=by
   intro l
   induction l with
   | nil=>rfl
   | cons a l ih=>simp only[List.map_cons,List.flatten_cons,List.all_append,ih,pO,Bool.and_self]
  exact this a.l
 plain h:=by cases h
instance {k n:Nat} {α:Type} [aB α] [Lv k α]:Lv k (br n α):=⟨λa=>K1 a.l⟩
def br.Jq (n:Nat) {α:Type} (z:α):br n α:=⟨List.replicate n z,by simp⟩
def br.at {n:Nat} {α:Type} (a:br n α) (i:Int):Option α:=if 0<=i then a.l[i.toNat]? else none
def br.set {n:Nat} {α:Type} (a:br n α) (i:Int) (x:α):br n α:=⟨a.l.set i.toNat x,by simp[a.len]⟩
def pa {n:Nat} {α:Type} [aB α] (a:br n α) (i:Int):List V:=(cells a).drop (i.toNat*aB.size α)
theorem br.uc {n:Nat} {α:Type} {a:br n α} {i:Int} {x:α} (h:a.at i=some x):0<=i/\i.toNat<n/\a.l[i.toNat]? = some x:=by
 unfold br.at at h;split at h
 .rename_i hi;refine⟨hi,?_,h⟩;have:=(ζe.1 h).1;rw[<-a.len];exact this
 .cases h
theorem B6 {α:Type} [aB α]:∀(l:List α) (k:Nat),((l.map (cells (α:=α))).flatten).drop (k*aB.size α)=((l.drop k).map (cells (α:=α))).flatten
 | [],k=>by simp
 | a::l,0=>by simp
 | a::l,k+1=>by
  have h:(cells a).length=aB.size α:=eN a;rw[List.map_cons,List.flatten_cons,List.drop_succ_cons,<-B6 l k,Nat.add_mul,Nat.one_mul,Nat.add_comm,<-h,List.drop_length_add_append]
theorem yp {n:Nat} {α:Type} [aB α] {a:br n α} {i:Int} {x:α} (h:a.at i=some x):∃r,pa a i=cells x++r:=by
 obtain⟨h1,h2,h3⟩:=br.uc h;obtain⟨hlt,hx⟩:=ζe.1 h3;refine⟨((a.l.drop (i.toNat+1)).map cells).flatten,?_⟩;show ((a.l.map (cells (α:=α))).flatten).drop (i.toNat*aB.size α)=_;rw[B6,List.drop_eq_getElem_cons hlt,List.map_cons,List.flatten_cons,hx]
section
variable {S:Sys} {c:bF} {β γ δ α:Type} {Q:Out×St->Option β} {e:γ->Option β} {fo:Fo} {fs:List Fm} {st0:St} {l:List RO} {d:Option Nat} {gd:Option (Nat×Bool)} {now:Bool} {az:List Arg} {dd:List Nat}
section
variable {N:Nat} [aB α]
theorem SX (n:Nat) (dr:Bool) (fr:List Nat) (q:List RO) (fs':List Fm) (st:St) (k:IntKind) {ln sz:Nat} {a:br N α} {i:Int} {f:α->Option γ} (hq:q=⟨d,gd,now,.p (.idxA ln sz),az,dd,[]⟩::l)
 (hL:(fZ S c n fo fs st0,wanted st.g gd,aZ S.N st.g az,sz,ln)=(some (.ops dr fr q,fs',st),some true,some [cp a,.v (.int k i)],aB.size α,N))
 (h:∀x,a.at i=some x->Le ((f x).bind e) (qx S c Q dr fr d (.p (.idxA ln sz)) l fs' dd (bX st d (.v (.fptr (pa a i)))))):Le (((a.at i).bind f).bind e) (rn S c Q fo fs st0):=by
 simp only[ζc]at hL;obtain⟨h1,h2,h3,h4,h5⟩:=hL;subst h4 h5;refine BI h1 hq h2 (?_:Le ((a.at i).bind λ_=>some (bX st d (.v (.fptr (pa a i))))) _) h
 intro r hr;obtain⟨x,hx,hr⟩:=ζg.1 hr;obtain⟨g1,g2,_⟩:=br.uc hx;rw[z6 (v:=.v (.fptr (pa a i))) h3 rfl ?_]
 .exact hr
 rw[vK];simp only[ai,uw];have hlen:i.toNat*aB.size α<=(cells a).length:=by
  rw[eN];exact Nat.mul_le_mul_right _ (Nat.le_of_lt g2)
 rw[if_pos ⟨g1,by omega⟩,if_pos hlen]
 rfl
theorem UU (n:Nat) (dr:Bool) (fr:List Nat) (q:List RO) (fs':List Fm) (st:St) (a:br N α) (i:Int) (o:Nat) (x:α) (hx:a.at i=some x) {k:Nat} {m:Option β} (hq:q=⟨d,gd,now,.p (.fieldAddr k),az,dd,[]⟩::l)
 (hL:(fZ S c n fo fs st0,wanted st.g gd,aZ S.N st.g az,Nat.ble (o+k) (aB.size α))=(some (.ops dr fr q,fs',st),some true,some [.v (.fptr ((pa a i).drop o))],true))
 (h:Le m (qx S c Q dr fr d (.p (.fieldAddr k)) l fs' dd (bX st d (.v (.fptr ((pa a i).drop (o+k))))))):Le m (rn S c Q fo fs st0):=by
 simp only[ζc]at hL;obtain⟨h1,h2,h3,h4⟩:=hL;refine oP h1 hq h2 (z6 h3 rfl ?_) h;have h9:=Nat.le_of_ble_eq_true h4;obtain⟨r,hr⟩:=yp hx;have hl:(pa a i).length>=aB.size α:=by rw[hr,ζi,eN];omega
 rw[ET,EL,if_pos (by rw[List.length_drop];omega),List.drop_drop]
 rfl
theorem SH (n:Nat) (dr:Bool) (fr:List Nat) (q:List RO) (fs':List Fm) (st:St) (a:br N α) (i:Int) (o:Nat) (x:α) (hx:a.at i=some x) {sz:Nat} {ag:Bool} {v:V} (hv:(cut (cells x) o sz).bind (mk ag)=some v) (v':V) {m:Option β} (hq:q=⟨d,gd,now,.r (.load sz ag),az,dd,[]⟩::l)
 (hL:(fZ S c n fo fs st0,wanted st.g gd,aZ S.N st.g az,v)=(some (.ops dr fr q,fs',st),some true,some [.v (.fptr ((pa a i).drop o))],v'))
 (h:Le m (qx S c Q dr fr d (.r (.load sz ag)) l fs' dd (bX st d (.v v')))):Le m (rn S c Q fo fs st0):=by
 simp only[ζc]at hL;obtain⟨h1,h2,h3,rfl⟩:=hL;refine oP h1 hq h2 ?_ h;rw[yq,h3];have hold:dJ fr [SV.v (.fptr ((pa a i).drop o))]=true:=rfl;simp only[ζb,hold,Bool.or_true,if_true,IY];obtain⟨r,hr⟩:=yp hx;rw[hr];have hc:cut ((cells x++r).drop o) 0 sz=cut (cells x) o sz:=by
  cases hcc:cut (cells x) o sz with
  | none=>rw[hcc]at hv;cases hv
  | some w=>
   unfold cut at hcc ⊢;dsimp only at hcc ⊢;split at hcc
   .rename_i hl;cases hcc;have e1:(List.drop 0 (List.drop o (cells x++r))).take sz=((cells x).drop o).take sz:=by
     rw[List.drop_zero];have ho:sz=0\/o<=(cells x).length:=by
      simp only[List.length_take,List.length_drop]at hl;omega
     rcases ho with rfl|ho
     .simp
     .rw[List.drop_append_of_le_length ho,List.take_append_of_le_length];simp only[List.length_take,List.length_drop]at hl ⊢;omega
    rw[e1,if_pos hl]
   .cases hcc
 rw[hc]
 cases hcc:cut (cells x) o sz with
 | none=>rw[hcc]at hv;cases hv
 | some w=>rw[hcc]at hv;simp only[ζb]at hv ⊢;rw[hv];rfl
theorem QM (n:Nat) (dr:Bool) (fr:List Nat) (q:List RO) (fs':List Fm) (st:St) (cs:List SV) {u sz:Nat} {zero:List V} {m:Option β} (hq:q=⟨some u,gd,now,.a (.alloc sz zero),az,dd,[]⟩::l)
 (h4:st.new u=true) (hL:(fZ S c n fo fs st0,wanted st.g gd,aZ S.N st.g az,zero.map SV.v)=(some (.ops dr fr q,fs',st),some true,some [],cs))
 (h:Le m (qx S c Q dr fr (some u) (.a (.alloc sz zero)) l fs' dd { st with g:=aQ st.g u (.ptr u 0),m:=aQ st.m u (.box cs) })):Le m (rn S c Q fo fs st0):=by
 simp only[ζc]at hL;obtain⟨h1,h2,h3,h5⟩:=hL;subst h5;refine oP h1 hq h2 ?_ h;rw[AM,h3];simp only[ζb,h4,if_true,mW]
theorem q9 (d:Nat) (l:List V):SV.cz d (l.map .v)=false:=by
 induction l with
 | nil=>rfl
 | cons a l ih=>simp only[List.map_cons,SV.cz,SV.bT,ih,Bool.or_self]
theorem qF {α:Type} [aB α] (d:Nat) (x:α):aK.bT d (bx x)=false:=q9 d (cells x)
theorem Tl (n:Nat) (dr:Bool) (fr:List Nat) (q:List RO) (fs':List Fm) (st:St) (k:IntKind) (u:Nat) {ln sz:Nat} {a:br N α} {i:Int} {f:α->Option γ} (hq:q=⟨d,gd,now,.p (.idxA ln sz),az,dd,[]⟩::l)
 (hL:(fZ S c n fo fs st0,wanted st.g gd,aZ S.N st.g az,sz,ln,aj st.m u)=(some (.ops dr fr q,fs',st),some true,some [.ptr u 0,.v (.int k i)],aB.size α,N,some (bx a)))
 (h:∀x,a.at i=some x->Le ((f x).bind e) (qx S c Q dr fr d (.p (.idxA ln sz)) l fs' dd (bX st d (.ptr u (i.toNat*aB.size α+0))))):Le (((a.at i).bind f).bind e) (rn S c Q fo fs st0):=by
 simp only[ζc]at hL;obtain⟨h1,h2,h3,h4,h5,h6⟩:=hL;subst h4 h5;refine BI h1 hq h2 (?_:Le ((a.at i).bind λ_=>some (bX st d (.ptr u (i.toNat*aB.size α+0)))) _) h
 intro r hr;obtain⟨x,hx,hr⟩:=ζg.1 hr;obtain⟨g1,g2,_⟩:=br.uc hx;rw[z6 (v:=.ptr u (i.toNat*aB.size α+0)) h3 rfl ?_]
 .exact hr
 simp only[hG,c6,tX,h6];rw[if_pos ⟨g1,by omega,rfl⟩,Nat.zero_add,Nat.add_zero]
theorem S9 (n:Nat) (dr:Bool) (fr:List Nat) (q:List RO) (fs':List Fm) (st:St) (u:Nat) (a:br N α) (i:Int) (o:Nat) (x:α) (hx:a.at i=some x) {sz:Nat} {ag:Bool} {v:V} (hv:(cut (cells x) o sz).bind (mk ag)=some v) (v':V) {m:Option β} (hq:q=⟨d,gd,now,.r (.load sz ag),az,dd,[]⟩::l)
 (hL:(fZ S c n fo fs st0,wanted st.g gd,aZ S.N st.g az,v,aj st.m u,(!dr||now||dJ fr [.ptr u 0]))=(some (.ops dr fr q,fs',st),some true,some [.ptr u (i.toNat*aB.size α+o)],v',some (bx a),true))
 (h:Le m (qx S c Q dr fr d (.r (.load sz ag)) l fs' dd (bX st d (.v v')))):Le m (rn S c Q fo fs st0):=by
 simp only[ζc]at hL;obtain⟨h1,h2,h3,rfl,h5,h6⟩:=hL;refine oP h1 hq h2 ?_ h;rw[yq,h3];have hold:(!dr||now||dJ fr [SV.ptr u (i.toNat*aB.size α+o)])=true:=h6;simp only[ζb,hold,if_true,UY,h5,Jx];obtain⟨r,hr⟩:=yp hx;have e1:(((cells a).map SV.v).drop (i.toNat*aB.size α+o)).take sz=(((cells x).drop o).take sz).map SV.v:=by
  have hcc:((cells x).drop o).take sz=((cells x++r).drop o).take sz:=by
   cases hc:cut (cells x) o sz with
   | none=>rw[hc]at hv;cases hv
   | some w=>
    unfold cut at hc;dsimp only at hc;split at hc
    .rename_i hl;have ho:sz=0\/o<=(cells x).length:=by
      simp only[List.length_take,List.length_drop]at hl;omega
     rcases ho with rfl|ho
     .simp
     .rw[List.drop_append_of_le_length ho,List.take_append_of_le_length];simp only[List.length_take,List.length_drop]at hl ⊢;omega
    .cases hc
  rw[hcc,<-hr,pa,List.drop_drop,List.map_take,List.map_drop]
 rw[e1];unfold vZ
 cases hc:cut (cells x) o sz with
 | none=>rw[hc]at hv;cases hv
 | some w=>
  rw[hc]at hv;unfold cut at hc;dsimp only at hc;split at hc
  .rename_i hl;cases hc;simp only[List.length_map,hl,if_true];simp only[ζb]at hv;unfold mk at hv
   cases ag with
   | true=>
    simp only[if_true]at hv ⊢;cases hv;rw[ri];rfl
   | false=>
    simp only[Bool.false_eq_true,if_false]at hv ⊢;split at hv
    .rename_i hw;cases hv;rw[hw];rfl
    .cases hv
  .cases hc
theorem Ku {N:Nat} (a:br N α) (i:Int) (y:α) (h:i.toNat<N):cells (a.set i y)=(cells a).take (i.toNat*aB.size α)++cells y++(cells a).drop ((i.toNat+1)*aB.size α):=by
 have key:∀(l:List α) (k:Nat),k<l.length->((l.set k y).map (cells (α:=α))).flatten=(l.map (cells (α:=α))).flatten.take (k*aB.size α)++cells y++(l.map (cells (α:=α))).flatten.drop ((k+1)*aB.size α):=by
  intro l
  induction l with
  | nil=>intro k h;simp at h
  | cons b l ih=>
   intro k h;have hb:(cells b).length=aB.size α:=eN b
   cases k with
   | zero=>
    simp only[List.set_cons_zero,List.map_cons,List.flatten_cons,Nat.zero_mul,List.take_zero,List.nil_append,Nat.zero_add,Nat.one_mul];rw[<-hb,List.drop_left]
   | succ k=>
    simp only[List.set_cons_succ,List.map_cons,List.flatten_cons];rw[ih k (by simpa using h)]
    have e1:(k+1)*aB.size α=(cells b).length+k*aB.size α:=by rw[hb,Nat.add_mul,Nat.one_mul,Nat.add_comm]
    have e2:(k+1+1)*aB.size α=(cells b).length+(k+1)*aB.size α:=by rw[hb,Nat.add_mul (k+1),Nat.one_mul,Nat.add_comm]
    rw[e2,List.drop_length_add_append];rw[e1,List.take_length_add_append];simp[List.append_assoc]
 exact key a.l i.toNat (by rw[a.len];exact h)
theorem S5 (n:Nat) (dr:Bool) (fr:List Nat) (q:List RO) (fs':List Fm) (st:St) (u:Nat) (a:br N α) (i:Int) (o:Nat) (x:α) (hx:a.at i=some x) (y:α) (v:V) {sz:Nat} (hy:cells y=(cells x).take o++v.cells++(cells x).drop (o+sz)) {m:Option β} (hq:q=⟨d,gd,now,.l (.store sz),az,dd,[]⟩::l)
 (hL:(fZ S c n fo fs st0,wanted st.g gd,aZ S.N st.g az,aj st.m u,(!dr||now),v.cells.length,v.cells.all V.one,Nat.ble (o+sz) (aB.size α))=(some (.ops dr fr q,fs',st),some true,some [.ptr u (i.toNat*aB.size α+o),.v v],some (bx a),true,sz,true,true))
 (h:Le m (qx S c Q dr fr d (.l (.store sz)) l fs' dd (bX { st with m:=aQ st.m u (bx (a.set i y)) } d (.v .undef)))):Le m (rn S c Q fo fs st0):=by
 simp only[ζc]at hL;obtain⟨h1,h2,h3,h4,h5,h6,h7,h8⟩:=hL;refine oP h1 hq h2 ?_ h;rw[sQ,h3];have h9:=Nat.le_of_ble_eq_true h8;obtain⟨g1,g2,g3⟩:=br.uc hx;have hb:i.toNat*aB.size α+o+sz<=((cells a).map SV.v).length:=by
  rw[List.length_map,eN];have:(i.toNat+1)*aB.size α<=N*aB.size α:=Nat.mul_le_mul_right _ g2;rw[Nat.add_mul,Nat.one_mul]at this;show _<=N*aB.size α;omega
 simp only[ζb,h5,if_true,lS,h4,putCells,h6,h7,hb,and_self,Option.map_some];obtain⟨r,hr⟩:=yp hx;have e:((cells a).map SV.v).take (i.toNat*aB.size α+o)++v.cells.map .v++((cells a).map SV.v).drop (i.toNat*aB.size α+o+sz)=(cells (a.set i y)).map SV.v:=by
  rw[Ku a i y g2,hy];have hd:(cells a).drop (i.toNat*aB.size α)=cells x++r:=hr;have hlx:(cells x).length=aB.size α:=eN x;have e1:(cells a).take (i.toNat*aB.size α+o)=(cells a).take (i.toNat*aB.size α)++(cells x).take o:=by
   rw[List.take_add,hd,List.take_append_of_le_length (by omega)]
  have e2:(cells a).drop (i.toNat*aB.size α+o+sz)=(cells x).drop (o+sz)++(cells a).drop ((i.toNat+1)*aB.size α):=by
   have e3:(cells a).drop ((i.toNat+1)*aB.size α)=r:=by
    rw[Nat.add_mul,Nat.one_mul,<-List.drop_drop,hd,<-hlx,List.drop_left]
   rw[e3,Nat.add_assoc,<-List.drop_drop,hd,List.drop_append_of_le_length (by omega)]
  rw[<-List.map_take,<-List.map_drop,e1,e2];simp[List.map_append,List.append_assoc]
 rw[e]
end
theorem OZ {α:Type} [aB α] {m:Tb aK} {d:Nat} {x:α} {vs:List V} (h:aj m d=some (bx x)):lI (gH m 8) (.ptr d 0::vs.map .v)=some (.fptr (cells x)::vs):=by
 have h1:gH m 8 (.ptr d 0)=some (.fptr (cells x)):=by
  show (match aj m d with
   | some (.box cs)=>match lI (gH m 7) cs with
    | some xs=>if 0<=xs.length then some (V.fptr (xs.drop 0))else none
    | none=>none
   | _=>none)=_
  rw[h];simp only[DE,Nat.zero_le,if_true,List.drop_zero]
 simp only[lI,h1,DE,ζb]
theorem SA (n:Nat) {fo:Fo} {fs fs':List Fm} {st0 st:St} {rs:List RV} {e:γ->Option (List V)} {r:γ} (svs:List SV) {ys:List V} (h2:lI (gH st.m 8) svs=some ys) (h:(fZ S c n fo fs st0,oq st rs)=(some (.rt,fs',st),some svs)) (h3:e r=some ys) :
 Le ((some r).bind e) (rn S c (ot rs) fo fs st0):=by
 simp only[ζc]at h;rw[mc h.1];refine Le.of_eq ?_;simp only[rn,ot,h.2,ζb,h2];exact h3.symm
abbrev Mo (κ ν:Type):=List (κ×ν)
class Key (κ:Type) [aB κ] [DecidableEq κ] where
 kk:uN
 ok:∀a:κ,nk kk (enc a)=true
 eq:∀a b:κ,sH (enc a) (enc b)=some (decide (a=b))
instance:Key Int where
 kk:=.int .i64
 ok _:=rfl
 eq a b:=by
  show some (a==b)=some (decide (a=b));rw[show (a==b)=decide (a=b)from Bool.eq_iff_iff.2 (by simp)]
instance:Key aa where
 kk:=.ints 2
 ok _:=rfl
 eq a b:=by
  obtain⟨p,i⟩:=a;obtain⟨q,j⟩:=b;simp only[sH,jd,fS,RW,Option.map_some,List.length_cons,if_true,ζa];rw[Bool.eq_iff_iff];simp
section
variable {κ ν:Type} [aB κ] [DecidableEq κ] [Key κ] [aB ν]
def lV (k:κ):Mo κ ν->Option ν
 | []=>none
 | (a,v)::r=>if k=a then some v else lV k r
def mM (m:Mo κ ν) (k:κ) (z:ν):ν:=(lV k m).getD z
def zY (m:Mo κ ν) (k:κ):Bool:=(lV k m).isSome
def mJ (m:Mo κ ν) (k:κ) (v:ν):Mo κ ν:=
 match m with
 | []=>[(k,v)]
 | (a,w)::r=>if k=a then(k,v)::r else(a,w)::mJ r k v
def jy (m:Mo κ ν):List (V×V):=m.map λx=>(enc x.1,enc x.2)
def rq (m:Mo κ ν):aK:=.mp (jy m)
theorem BF (k:κ):∀(m:Mo κ ν) (i:Nat),(fH (enc k) (jy m) i).map (Option.map (·.2))=some ((lV k m).map enc)
 | [],i=>rfl
 | (a,v)::r,i=>by
  simp only[jy,List.map_cons,fH,Key.eq,lV]
  by_cases h:k=a
  .rw[if_pos h];simp[h]
  .rw[if_neg h];simp only[h,decide_false];exact BF k r (i+1)
theorem LJ (k:κ) (v:ν) (m:Mo κ ν):mX (enc k) (enc v) (jy m)=some (jy (mJ m k v)):=by
 unfold mX;have key:∀(m:Mo κ ν) (pre:List (V×V)) (i:Nat),pre.length=i->(match fH (enc k) (jy m) i with
  | some (some (j,_))=>some ((pre++jy m).set j (enc k,enc v))
  | some none=>some (pre++jy m++[(enc k,enc v)])
  | none=>none)=some (pre++jy (mJ m k v)):=by
  intro m
  induction m with
  | nil=>intro pre i h;simp[jy,fH,mJ]
  | cons x r ih=>
   obtain⟨a,w⟩:=x;intro pre i h;rw[show jy ((a,w)::r)=(enc a,enc w)::jy r from rfl];simp only[fH,Key.eq,mJ]
   by_cases hk:k=a
   .subst hk h;simp[jy]
   .simp only[hk,decide_false,if_false];rw[show jy ((a,w)::mJ r k v)=(enc a,enc w)::jy (mJ r k v)from rfl];have:=ih (pre++[(enc a,enc w)]) (i+1) (by simp[h])
    simp only[List.append_assoc,List.cons_append,List.nil_append]at this ⊢;exact this
 have:=key m [] 0 rfl
 cases hf:fH (enc k) (jy m) 0 with
 | none=>rw[hf]at this;cases this
 | some r=>
  rw[hf]at this
  cases r with
  | none=>simpa using this
  | some w=>obtain⟨j,w⟩:=w;simpa using this
theorem Te (n:Nat) (dr:Bool) (fr:List Nat) (q:List RO) (fs':List Fm) (st:St) (u:Nat) (mp:Mo κ ν) (k:κ) (z:ν) {kk:uN} {zv:V} {m:Option β} (hq:q=⟨d,gd,now,.r (.lookup kk zv false),az,dd,[]⟩::l)
 (hL:(fZ S c n fo fs st0,wanted st.g gd,aZ S.N st.g az,aj st.m u,(!dr||now||dJ fr [.mp u,cv k]),zv,kk)=(some (.ops dr fr q,fs',st),some true,some [.mp u,cv k],some (rq mp),true,enc z,Key.kk κ))
 (h:Le m (qx S c Q dr fr d (.r (.lookup kk zv false)) l fs' dd (bX st d (cv (mM mp k z))))):Le m (rn S c Q fo fs st0):=by
 simp only[ζc]at hL;obtain⟨h1,h2,h3,h4,h5,h6,h7⟩:=hL;subst h6 h7;refine oP h1 hq h2 ?_ h;rw[yq,h3];simp only[ζb,h5,if_true,lP,h4,rq,Key.ok];have:=BF k mp 0;simp only[mM]
 cases hf:fH (enc k) (jy mp) 0 with
 | none=>rw[hf]at this;cases this
 | some r=>
  rw[hf]at this;simp only[Option.map_some,ζa]at this
  cases r with
  | none=>
   cases hm:lV k mp with
   | none=>rfl
   | some w=>rw[hm]at this;cases this
  | some w=>
   cases hm:lV k mp with
   | none=>rw[hm]at this;cases this
   | some w2=>
    rw[hm]at this;simp only[Option.map_some,ζa]at this;simp only[this];rfl
theorem UH (n:Nat) (dr:Bool) (fr:List Nat) (q:List RO) (fs':List Fm) (st:St) (u:Nat) (mp:Mo κ ν) (k:κ) (v:ν) {kk:uN} {m:Option β} (hq:q=⟨d,gd,now,.l (.mapUp kk),az,dd,[]⟩::l)
 (hL:(fZ S c n fo fs st0,wanted st.g gd,aZ S.N st.g az,aj st.m u,(!dr||now),kk)=(some (.ops dr fr q,fs',st),some true,some [.mp u,cv k,cv v],some (rq mp),true,Key.kk κ))
 (h:Le m (qx S c Q dr fr d (.l (.mapUp kk)) l fs' dd (bX { st with m:=aQ st.m u (rq (mJ mp k v)) } d (.v .undef)))):Le m (rn S c Q fo fs st0):=by
 simp only[ζc]at hL;obtain⟨h1,h2,h3,h4,h5,h6⟩:=hL;subst h6;refine oP h1 hq h2 ?_ h;rw[sQ,h3];simp only[ζb,h5,if_true,lS,h4,rq,Key.ok,LJ,Option.map_some]
end
end
end Go.VE
namespace Go.VE
variable [aW]
instance {n:Nat}:OfNat Arg n:=⟨.s n⟩
abbrev bI (o:BinOp):K:=.p (.bin (some .int) none o)
abbrev ix (n:Nat):K:=.p (.idxS n)
abbrev ld (n:Nat):K:=.r (.load n false)
abbrev lD (n:Nat):K:=.r (.load n true)
abbrev fa (n:Nat):K:=.p (.fieldAddr n)
abbrev ln:K:=.p .lenSl
abbrev su (n:Nat):K:=.l (.store n)
abbrev Iv (n:Nat) (x:Int):Nat×SV:=(n,iv x)
abbrev Bv (n:Nat) (x:Bool):Nat×SV:=(n,bv x)
abbrev Cv {α:Type} [aB α] (n:Nat) (x:α):Nat×SV:=(n,cv x)
abbrev Kv {α:Type} [aB α] (n:Nat) (x:α):Nat×SV:=(n,cp x)
abbrev Pv (n:Nat):Nat×SV:=(n,.ptr n 0)
abbrev Ov (n:Nat):Nat×SV:=(n,.own (2000+n))
abbrev Xb {α:Type} [aB α] (n:Nat) (x:α):Nat×aK:=(n,bx x)
abbrev Lb {α:Type} [aB α] (n:Nat) (x:Sl α):Nat×aK:=(n,bW x)
abbrev on (d:Nat) (k:K) (az:List Arg) (dd:List Nat):RO:=⟨some d,none,true,k,az,dd,[]⟩
abbrev oz (k:K) (az:List Arg) (dd:List Nat):RO:=⟨none,none,false,k,az,dd,[]⟩
abbrev oy (k:K) (az:List Arg) (dd:List Nat):RO:=⟨none,none,true,k,az,dd,[]⟩
theorem Ko {n:Nat} {α:Type} [aB α] [Lv n α] (a:α):V.bR n (cells a)=true:=Lv.lv a
attribute [simp] Ko OU KI fT iw nL lX nW Pb N9 K9 Ga QZ On ON NY N7 Ox
theorem ja.wD {S:Sys} {T:qt} {f:FuncId} {b:Bool} (hT:T f=none) (hk:S.E.keep f=false) (ho:S.wD f []=some (.bool b)) :
 ja S (cA S T) f (λ_:Unit=>[]) (λr:Bool=>[.bool r]) (λ_=>some b) true where
 k:=hk
 h _:=by
  have h:=Cn (az:=[]) hT hk ho;intro r hr;cases hr;unfold kG;rw[h];exact uh 8 [.bool b]
 l _:=by simp
 r _:=by simp
 s _ _:=rfl
end Go.VE
namespace Go.VE
variable [aW]
def Wp {α:Type} (m:Option α) (P:α->Prop):Prop:=∃a,m=some a/\P a
section
variable {α β:Type} {P Q:α->Prop}
theorem af (a:α):Wp (some a) P↔P a:=⟨λh=>by obtain⟨b,e,p⟩:=h;cases e;exact p,λp=>⟨a,rfl,p⟩⟩
theorem NH:Wp (none:Option α) P↔False:=⟨λh=>(by obtain⟨b,e,p⟩:=h;cases e),λh=>False.elim h⟩
theorem di {m:Option β} {k:β->Option α}:Wp (m.bind k) P↔Wp m λb=>Wp (k b) P:=by
 cases m with
 | none=>simp only[Option.bind_none,NH]
 | some b=>simp only[ζb,af]
theorem bp {t:Bool} {a b:Option α}:Wp (aq t a b) P↔(t=true->Wp a P)/\(t=false->Wp b P):=by
 cases t <;> simp[aq]
theorem Wp.mono {m:Option α} (h:Wp m P) (hpq:∀a,P a->Q a):Wp m Q:=let ⟨a,e,p⟩:=h;⟨a,e,hpq a p⟩
theorem Wp.and {m:Option α} (h:Wp m P) (h2:Wp m Q):Wp m λa=>P a/\Q a:=by
 obtain⟨a,e,p⟩:=h;obtain⟨b,e2,q⟩:=h2;rw[e]at e2;cases e2;exact⟨a,e,p,q⟩
theorem Wp.eq {m:Option α} {a:α} (h:Wp m λx=>x=a):m=some a:=by obtain⟨b,e,rfl⟩:=h;exact e
end
section
variable {σ ε ρ:Type}
theorem fK (step:σ->Option (Fw σ ε ρ)) (s:σ):aV step s=(step s).bind λw=>match w with
 | .n s'=>aV step s'
 | .x e=>some (.x e)
 | .r b=>some (.r b):=by
 have h1:∀r,aV step s=some r->((step s).bind λw=>match w with
  | .n s'=>aV step s'
  | .x e=>some (.x e)
  | .r b=>some (.r b))=some r:=by
  intro r h;obtain⟨k,hk⟩:=lB.1 h
  cases k with
  | zero=>simp[gQ]at hk
  | succ k=>
   simp only[gQ]at hk
   cases hs:step s with
   | none=>rw[hs]at hk;cases hk
   | some w=>
    rw[hs]at hk
    cases w with
    | n s'=>exact lB.2 ⟨k,hk⟩
    | x e=>exact hk
    | r b=>exact hk
 cases hw:aV step s with
 | some r=>exact(h1 r hw).symm
 | none=>
  cases hr:((step s).bind λw=>match w with
  | .n s'=>aV step s'
  | .x e=>some (.x e)
  | .r b=>some (.r b))with
  | none=>rfl
  | some r=>
   exfalso
   cases hs:step s with
   | none=>rw[hs]at hr;cases hr
   | some w=>
    rw[hs]at hr;simp only[ζb]at hr;have:aV step s=some r:=by
     cases w with
     | n s'=>
      obtain⟨k,hk⟩:=lB.1 hr;exact lB.2 ⟨k+1,by simp only[gQ,hs];exact hk⟩
     | x e=>exact lB.2 ⟨1,by simp only[gQ,hs];exact hr⟩
     | r b=>exact lB.2 ⟨1,by simp only[gQ,hs];exact hr⟩
    rw[hw]at this;cases this
def Nw (I:σ->Prop) (μ:σ->Nat) (px:ε->Prop) (pr:ρ->Prop) (s:σ):Fw σ ε ρ->Prop
 | .n s'=>I s'/\μ s'<μ s
 | .x e=>px e
 | .r b=>pr b
def Ur (px:ε->Prop) (pr:ρ->Prop):Fw Empty ε ρ->Prop
 | .x e=>px e
 | .r b=>pr b
theorem LY {step:σ->Option (Fw σ ε ρ)} (I:σ->Prop) (μ:σ->Nat) (px:ε->Prop) (pr:ρ->Prop) (h:∀s,I s->Wp (step s) (Nw I μ px pr s)) {s:σ} (hs:I s):Wp (aV step s) (Ur px pr):=by
 have key:∀n s,μ s<=n->I s->Wp (aV step s) (Ur px pr):=by
  intro n
  induction n with
  | zero=>
   intro s hm hi;obtain⟨w,hw,hr⟩:=h s hi;rw[fK,hw]
   cases w with
   | n s'=>exact absurd hr.2 (by omega)
   | x e=>exact⟨_,rfl,hr⟩
   | r b=>exact⟨_,rfl,hr⟩
  | succ n ih=>
   intro s hm hi;obtain⟨w,hw,hr⟩:=h s hi;rw[fK,hw]
   cases w with
   | n s'=>exact ih s' (by have:=hr.2;omega) hr.1
   | x e=>exact⟨_,rfl,hr⟩
   | r b=>exact⟨_,rfl,hr⟩
 exact key (μ s) s (Nat.le_refl _) hs
theorem en {γ:Type} {step:σ->Option (Fw σ ε ρ)} {fx:ε->Option γ} {fr:ρ->Option γ} {P:γ->Prop} (I:σ->Prop) (μ:σ->Nat) {s:σ} (hs:I s)
 (h:∀s,I s->Wp (step s) (Nw I μ (λe=>Wp (fx e) P) (λb=>Wp (fr b) P) s)):Wp ((aV step s).bind (Fw.elim fx fr)) P:=by
 rw[di];refine(LY I μ _ _ h hs).mono ?_;intro w hw
 cases w with
 | n a=>cases a
 | x e=>exact hw
 | r b=>exact hw
end
end Go.VE
namespace Go.VE
variable [aW]
theorem Hf {β γ δ:Type} {e:γ->Option β} {m:Option δ} {f:δ->Option γ} {L:Option β} (h:∀x,m=some x->Le ((f x).bind e) L):Le ((m.bind f).bind e) L:=by
 cases m with
 | none=>exact Le.none _
 | some x=>exact h x rfl
section
variable {S:Sys} {c:bF} {β:Type} {Q:Out×St->Option β} {fo:Fo} {fs:List Fm} {st0:St} {l:List RO} {d:Option Nat} {now:Bool} {az:List Arg} {dd:List Nat}
theorem Le.get {β:Type} {r:β} {L:Option β} (h:Le (some r) L):L=some r:=h r rfl
theorem Kt {n:Nat} {fo fo':Fo} {fs fs':List Fm} {st:St} (A:Bool->St) {t:Bool} {m:Option β} (ht:t=true) (h:fZ S c n fo fs st=some (fo',fs',A t)) (ha:Le m (rn S c Q fo' fs' (A true))):Le m (rn S c Q fo fs st):=by
 rw[mc h,ht];exact ha
theorem Kf {n:Nat} {fo fo':Fo} {fs fs':List Fm} {st:St} (A:Bool->St) {t:Bool} {m:Option β} (ht:t=false) (h:fZ S c n fo fs st=some (fo',fs',A t)) (ha:Le m (rn S c Q fo' fs' (A false))):Le m (rn S c Q fo fs st):=by
 rw[mc h,ht];exact ha
theorem Mg {α:Type} [aB α] {s:Sl α} {i:Int} {x:α} {r:β} {L:Option β} (hx:idx s i=some x) (h:Le (((idx s i).bind λ_=>some r).bind some) L):Le (some r) L:=by
 rw[hx]at h;exact h
theorem TG {n:Nat} {q:List RO} {fs':List Fm} {st:St} {id:Nat} {vs:List SV} {xs:List V} {ws:List (List V)} {m:Option β}
 (hL:fZ S c n fo fs st0=some (.ops false [] q,fs',st)) (hq:q=⟨d,none,now,.c,az,dd,[]⟩::l) (hs:aZ S.N st.g az=some (.yl id::vs)) (ha:c6 vs=some xs) (hw:st.want=xs::ws) (hi:id=st.yid)
 (h:Le m (rn S c Q (.ops false [] l) fs' (mP dd (bX { st with want:=ws } d (.v (.bool (st.more || !ws.isEmpty))))))):Le m (rn S c Q fo fs st0):=by
 refine M_ hL hq rfl ?_ h;unfold eu;simp only[wanted,eR,hs,ha,hw,hi,if_true,and_self,Bool.false_eq_true,if_false]
theorem yD (a:RC) (fs:List Fm) (st:St):rn S c Q (.rc (.loop a)) fs st=(lF (bC S c a) st).bind (BV (ku S c Q fs) (ko S c Q fs) (λst=>Q (.ret,st))):=by
 show kH S c Q (.loop a) fs st=_;unfold kH;rw[As];rfl
theorem O7 {f:St->Option (Out×St)} {st st':St} (h:f st=some (.norm,st')):lF f st=lF f st':=by
 have key:∀r,lF f st=some r↔lF f st'=some r:=λr=>by
  constructor
  .intro hr;obtain⟨k,hk⟩:=kD.1 hr
   cases k with
   | zero=>simp[gI]at hk
   | succ k=>simp only[gI,h]at hk;exact kD.2 ⟨k,hk⟩
  .intro hr;obtain⟨k,hk⟩:=kD.1 hr;exact kD.2 ⟨k+1,by simp only[gI,h];exact hk⟩
 cases hx:lF f st with
 | none=>
  cases hy:lF f st' with
  | none=>rfl
  | some r=>rw[(key r).2 hy]at hx;cases hx
 | some r=>rw[(key r).1 hx]
theorem F9 {f:St->Option (Out×St)} {st st':St} {o:Out} (h:f st=some (o,st')) (ho:o≠.norm):lF f st=some (o,st'):=by
 refine kD.2 ⟨1,?_⟩
 cases o with
 | norm=>exact absurd rfl ho
 | exit k=>simp only[gI,h]
 | ret=>simp only[gI,h]
theorem C1 {a:RC} {fs:List Fm} {st st':St} (h:rn S c some (.rc a) [] st=some (.norm,st')):rn S c Q (.rc (.loop a)) fs st=rn S c Q (.rc (.loop a)) fs st':=by
 rw[yD,yD,O7 (by rw[yB];exact h)]
theorem Co {a:RC} {fs:List Fm} {st st':St} {k:Nat} (h:rn S c some (.rc a) [] st=some (.exit k,st')):rn S c Q (.rc (.loop a)) fs st=rn S c Q (.ex k) fs st':=by
 rw[yD,F9 (by rw[yB];exact h) (by simp)];rfl
theorem Cx {a:RC} {fs:List Fm} {st st':St} (h:rn S c some (.rc a) [] st=some (.ret,st')):rn S c Q (.rc (.loop a)) fs st=Q (.ret,st'):=by
 rw[yD,F9 (by rw[yB];exact h) (by simp)];rfl
end
def Qi:Out×St->Option Unit
 | (.exit _,_)=>none
 | (_,st)=>if st.want.isEmpty then some ()else none
def Sys.bare (S:Sys):Sys:=⟨S.E,S.N,λ_ _ _=>none,λ_ _=>none,λ_=>none⟩
def kP:bF:=λ_ _ _=>none
def Bk (ws rest:List (List V)) (more:Bool):Prop:=more=true/\ws=rest\/more=false/\ws≠[]/\∃r,rest=ws++r
theorem LL (S:Sys) {f:FuncId} {fi:FI} {nm:FuncId->Option Nat} {rf:RF} (hft:S.E.ft f=some fi) (hN:∀g s,nm g=some s->S.N s=g) (hr:v_ S.E nm fi rf) {a b:List V} {xs:List (List V)} (hlen:a.length+1+b.length<=rf.na) (hrs:rf.rs=[])
 (h:∀ws more,Bk ws xs more->∀yid,rn S.bare kP Qi (.rc rf.body) [] ⟨u5 0 (a.map .v++.yl yid::b.map .v),[],[],ws,more,yid⟩=some ()):dW S f a b xs:=by
 have k:dW S.bare f a b xs:=O5 (S:=S.bare) (c:=kP) (fi:=fi) (nm:=nm) (rf:=rf) (λ_ _ h=>by cases h) (λ_ _ _ _ _ h=>by simp[kP]at h) (λ_ _ _ _ h=>by simp[Sys.bare]at h) hft hN hr hlen hrs (λws more hw yid=>by
  have h1:=h ws more hw yid;change kH S.bare kP Qi rf.body [] _=some ()at h1;rw[s_]at h1;obtain⟨⟨o,st'⟩,h2,h3⟩:=ζg.1 h1;refine⟨o,st',h2,?_,?_,rfl⟩
  .rintro id rfl;simp[Qi]at h3
  .cases o <;> simp[Qi]at h3 <;> exact h3)
 intro ws more hw yid J y Z a' b' H h1 h2 h3 h4 h5;exact k ws more hw yid J ⟨y.uW,y.yield⟩ Z a' b' H h1 h2 h3 h4 h5
open Classical in
noncomputable def ve (P:FuncId->List V->List V->List (List V)->Prop) (f:FuncId) (a b:List V):Option (List (List V)):=if h:∃xs,P f a b xs then some (Classical.choose h)else none
theorem HA {P:FuncId->List V->List V->List (List V)->Prop} {f:FuncId} {a b:List V} {xs:List (List V)} (h:P f a b xs) (hu:∀ys,P f a b ys->ys=xs):ve P f a b=some xs:=by
 have h1:∃xs,P f a b xs:=⟨xs,h⟩;unfold ve;rw[dif_pos h1,hu _ (Classical.choose_spec h1)]
theorem HG {P:FuncId->List V->List V->List (List V)->Prop} {f:FuncId} {a b:List V} {xs:List (List V)} (h:ve P f a b=some xs):P f a b xs:=by
 unfold ve at h;split at h
 .rename_i h1;cases h;exact Classical.choose_spec h1
 .cases h
theorem Rm {E:Env} {nm:FuncId->Option Nat} {f:FuncId} {rf:RF}
 (h:((E.ft f).bind λfi=>(aJ ⟨E,nm,fi.ntmps⟩ false fi.body).bind λc=>(fi.results.mapM (yb E)).bind λrs=>some (c,rs,fi.ntmps))=some (erase rf.body,rf.rs,rf.na)):∃fi,E.ft f=some fi/\v_ E nm fi rf:=by
 obtain⟨fi,h1,h2⟩:=ζg.1 h;obtain⟨c,h3,h4⟩:=ζg.1 h2;obtain⟨rs,h5,h6⟩:=ζg.1 h4;simp only[ζa,ζc]at h6;obtain⟨rfl,rfl,h7⟩:=h6;exact⟨fi,h1,h3,h5,h7.symm⟩
theorem xC {n m:Nat} (h:n<=m) {x:V} (hx:V.lvl n x=true):V.lvl m x=true:=by
 induction h with
 | refl=>exact hx
 | step _ ih=>exact xZ ih
theorem yE {n m:Nat} (h:n<=m) {x:List V} (hx:V.bR n x=true):V.bR m x=true:=by
 induction h with
 | refl=>exact hx
 | step _ ih=>exact pG ih
theorem L6 {n m:Nat} (h:n<=m) {x:List (List V)} (hx:V.kR n x=true):V.kR m x=true:=by
 induction h with
 | refl=>exact hx
 | step _ ih=>exact zS ih
theorem O6 {n m:Nat} (h:n<=m) {x:List (V×V)} (hx:V.mK n x=true):V.mK m x=true:=by
 induction h with
 | refl=>exact hx
 | step _ ih=>exact BX ih
mutual
theorem xG:∀x:V,∃n,V.lvl n x=true
 | .fsl es xs=>let ⟨n,h⟩:=EC xs;⟨n+1,by simp only[V.lvl];exact h⟩
 | .fptr cs=>let ⟨n,h⟩:=qP cs;⟨n+1,by simp only[V.lvl];exact h⟩
 | .fmap kvs=>let ⟨n,h⟩:=Gl kvs;⟨n+1,by simp only[V.lvl];exact h⟩
 | .agg cs=>let ⟨n,h⟩:=qP cs;⟨n+1,by simp only[V.lvl];exact h⟩
 | .tup cs=>let ⟨n,h⟩:=qP cs;⟨n+1,by simp only[V.lvl];exact h⟩
 | .clo f a b=>let ⟨n,h⟩:=qP a;let ⟨m,k⟩:=qP b;⟨max n m+1,by simp only[V.lvl,ζh];exact⟨yE (Nat.le_max_left _ _) h,yE (Nat.le_max_right _ _) k⟩⟩
 | .bool _|.int ..|.str _|.fC|.ec|.pU|.cM|.aG|.hsl ..|.hptr ..|.yld _|.hmap _=>⟨0,rfl⟩
theorem qP:∀x:List V,∃n,V.bR n x=true
 | []=>⟨0,by simp only[V.bR]⟩
 | a::l=>let ⟨n,h⟩:=xG a;let ⟨m,k⟩:=qP l;⟨max n m,by simp only[V.bR,ζh];exact⟨xC (Nat.le_max_left _ _) h,yE (Nat.le_max_right _ _) k⟩⟩
theorem EC:∀x:List (List V),∃n,V.kR n x=true
 | []=>⟨0,by simp only[V.kR]⟩
 | a::l=>let ⟨n,h⟩:=qP a;let ⟨m,k⟩:=EC l;⟨max n m,by simp only[V.kR,ζh];exact⟨yE (Nat.le_max_left _ _) h,L6 (Nat.le_max_right _ _) k⟩⟩
theorem Gl:∀x:List (V×V),∃n,V.mK n x=true
 | []=>⟨0,by simp only[V.mK]⟩
 | (a,b)::l=>let ⟨n,h⟩:=xG a;let ⟨m,k⟩:=xG b;let ⟨q,p⟩:=Gl l;⟨max n (max m q),by simp only[V.mK,ζh];exact⟨⟨xC (by omega) h,xC (by omega) k⟩,O6 (by omega) p⟩⟩
end
theorem FR.nr {H:ak} {Z Z':Nat->Prop} {x y z:V} (h:FR H Z x z) (k:FR H Z' y z):x=y:=by
 obtain⟨n,hn⟩:=xG x;obtain⟨m,hm⟩:=xG y;have e1:=h.borrow (max n m) (xC (Nat.le_max_left _ _) hn);have e2:=k.borrow (max n m) (xC (Nat.le_max_right _ _) hm);rw[e1]at e2;exact Option.some.inj e2
open Classical in
noncomputable def xu (E:Env) (f:FuncId) (az:List V):Option V:=if h:∃y,uT E f az y then some (Classical.choose h)else none
theorem I7 {E:Env} {f:FuncId} {az:List V} {y:V} (h:xu E f az=some y):uT E f az y:=by
 unfold xu at h;split at h
 .rename_i h1;cases h;exact Classical.choose_spec h1
 .cases h
theorem tV {E:Env} {f:FuncId} {az:List V} {y:V} (h:uT E f az y):xu E f az=some y:=by
 have h1:∃y,uT E f az y:=⟨y,h⟩;unfold xu;rw[dif_pos h1];obtain⟨n,z,H,Z,k1,k2,_⟩:=h;obtain⟨n',z',H',Z',k3,k4,_⟩:=Classical.choose_spec h1;have e1:=kT E (Nat.le_max_left n n') _ _ _ _ k1;have e2:=kT E (Nat.le_max_right n n') _ _ _ _ k3;rw[e1]at e2;cases e2;rw[FR.nr k4 k2]
theorem FA {E:Env} {f:FuncId} {az:List V} {y:V} (hs:V.scalar y=true) (h:∃n H',run E n (.fn f) az []=some (y,H')):uT E f az y:=by
 obtain⟨n,H',h⟩:=h;exact⟨n,y,H',λ_=>False,h,.same _ (mB hs),λ_ h=>h.elim,⟨λ_ _ _ h=>h.elim⟩⟩
end Go.VE
