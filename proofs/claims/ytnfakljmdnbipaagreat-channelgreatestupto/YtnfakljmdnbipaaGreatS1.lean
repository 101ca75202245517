/-
 Plain values and the steps of a certificate.
-/
import Derived.KernelRfl
import Derived.Test.YtnfakljmdnbipaaGreatN2
set_option linter.all false
namespace Go.VE
inductive Sl (α:Type) where
 | nil
 | emp
 | row (l:List α)
 | part (l:List α)
 deriving Inhabited
def Sl.l {α:Type}:Sl α→List α
 | .nil|.emp=>[]
 | .row l|.part l=>l
def Sl.k {α:Type}:Sl α→Fl
 | .nil=>.nil
 | .emp=>.emp
 | .row _=>.row
 | .part _=>.part
class aC (α:Type) where
 cells:α→List V
 agg:Bool
 size:Nat
 len:∀a,(cells a).length=size
 good:∀a,V.bD (cells a)=true
 one:∀a,(cells a).all V.one=true
 plain:agg=false→size=1
def cells {α:Type} [aC α] (a:α):List V:=aC.cells a
def enc {α:Type} [aC α] (a:α):V:=if aC.agg α then .agg (cells a)else(cells a).headD .undef
def rows {α:Type} [aC α] (l:List α):List (List V):=l.map cells
def aW {α:Type} [aC α] (s:Sl α):V:=kM s.k (aC.size α) (rows s.l)
instance:aC Int where
 cells n:=[.int .i64 n]
 agg:=false
 size:=1
 len _:=rfl
 good _:=rfl
 one _:=rfl
 plain _:=rfl
instance:aC Bool where
 cells b:=[.bool b]
 agg:=false
 size:=1
 len _:=rfl
 good _:=rfl
 one _:=rfl
 plain _:=rfl
instance:aC ByteArray where
 cells s:=[.str s]
 agg:=false
 size:=1
 len _:=rfl
 good _:=rfl
 one _:=rfl
 plain _:=rfl
structure aa where
 proc:Int
 index:Int
 deriving DecidableEq,Inhabited
instance:aC aa where
 cells x:=[.int .i64 x.proc,.int .i64 x.index]
 agg:=true
 size:=2
 len _:=rfl
 good _:=rfl
 one _:=rfl
 plain h:=by cases h
@[simp] theorem Uy (n:Int):enc n=.int .i64 n:=rfl
@[simp] theorem Uo (n:Bool):enc n=.bool n:=rfl
@[simp] theorem Uz (n:ByteArray):enc n=.str n:=rfl
@[simp] theorem SG (n:Int):cells n=[.int .i64 n]:=rfl
@[simp] theorem Su (n:Bool):cells n=[.bool n]:=rfl
@[simp] theorem TI (n:ByteArray):cells n=[.str n]:=rfl
@[simp] theorem Ui (n:aa):cells n=[.int .i64 n.proc,.int .i64 n.index]:=rfl
@[simp] theorem ON (n:aa):enc n=.agg [.int .i64 n.proc,.int .i64 n.index]:=rfl
section
variable {α:Type} [aC α]
theorem dU (l:List α):(rows l).length=l.length:=by simp[rows]
def idx (s:Sl α) (i:Int):Option α:=if 0≤i then s.l[i.toNat]? else none
theorem Jv {N:Nat→FuncId} (s:Sl α) (k:IntKind) (i:Int) {n:Nat} (hn:n=aC.size α):ai N (.idxS n) [aW s,.int k i]=(idx s i).map fun x=>.fptr (cells x):=by
 subst hn;unfold idx aW;simp only[ai,jm]
 by_cases h:i<0
 ·rw[if_pos h,if_neg (by omega)];rfl
 ·rw[if_neg h,if_pos (by omega)]
  cases s <;> simp[Sl.k,Sl.l,kM,rows,Function.comp_def]
theorem IL {N:Nat→FuncId} (s:Sl α):ai N .lenSl [aW s]=some (.int .i64 s.l.length):=by
 cases s <;> simp[ai,kF,aW,Sl.k,Sl.l,kM,dU]
end
section
variable {S:Sys} {c:bJ}
end
end Go.VE
namespace Go.VE
section
variable {S:Sys} {c:bJ}
def isSlice:sD→Bool
 | .slice ..=>true
 | _=>false
theorem LN (dr:Bool) (fr:List Nat) (dst:Option Nat) (now:Bool) (p:sD) (az:List Arg) (st:St) (h:isSlice p=false) :
 dO S c dr fr ⟨dst,none,now,.p p,az,[],[]⟩ st=(aY S.N st.g az).bind fun svs=>(iL S.N st.m p svs).bind fun x=>some (bW st dst x):=by
 unfold dO mj;have hy:eD S.N st.g ⟨dst,none,now,.p p,az,[],[]⟩=none:=by unfold eD;cases p <;> rfl
 simp only[wanted,hy]
 cases hs:aY S.N st.g az with
 | none=>rfl
 | some svs=>
  simp only[ζb];cases p <;> first|(simp[isSlice]at h;done)|(cases hp:iL S.N st.m _ svs <;> simp[hp])
theorem EO (N:Nat→FuncId) (m:Tb aR) (p:sD) (svs:List SV) (xs:List V) (h:cZ svs=some xs):iL N m p svs=(ai N p xs).bind fun x=>some (.v x):=by
 unfold iL;rw[h];dsimp only;cases ai N p xs <;> rfl
theorem Cp (dr:Bool) (fr:List Nat) (dst:Option Nat) (now:Bool) (q:Ik) (az:List Arg) (st:St) :
 dO S c dr fr ⟨dst,none,now,.r q,az,[],[]⟩ st=(aY S.N st.g az).bind fun svs=>if !dr||now||dW fr svs then(nk st.m q svs).bind fun x=>some (bW st dst x)else none:=by
 unfold dO mj;have hy:eD S.N st.g ⟨dst,none,now,.r q,az,[],[]⟩=none:=rfl;simp only[wanted,hy]
 cases hs:aY S.N st.g az with
 | none=>rfl
 | some svs=>
  simp only[ζb];split
  ·cases hp:nk st.m q svs <;> simp
  ·rfl
theorem Am (dr:Bool) (fr:List Nat) (d:Nat) (now:Bool) (q:HW) (az:List Arg) (st:St) :
 dO S c dr fr ⟨some d,none,now,.a q,az,[],[]⟩ st=(aY S.N st.g az).bind fun svs=>if st.new d then(mC st.m q svs d).bind fun r=>some { st with g:=aT st.g d r.2,m:=aT st.m d r.1 } else none:=by
 unfold dO mj;have hy:eD S.N st.g ⟨some d,none,now,.a q,az,[],[]⟩=none:=rfl;simp only[wanted,hy]
 cases hs:aY S.N st.g az with
 | none=>rfl
 | some svs=>
  simp only[ζb];split
  ·cases hp:mC st.m q svs d <;> simp[bW]
  ·rfl
theorem tJ (dr:Bool) (fr:List Nat) (dst:Option Nat) (now:Bool) (q:EY) (az:List Arg) (st:St) :
 dO S c dr fr ⟨dst,none,now,.l q,az,[],[]⟩ st=(aY S.N st.g az).bind fun svs=>if !dr||now then(l_ st dst q svs).bind fun r=>some (bW r.2 dst r.1)else none:=by
 unfold dO mj;have hy:eD S.N st.g ⟨dst,none,now,.l q,az,[],[]⟩=none:=rfl;simp only[wanted,hy]
 cases hs:aY S.N st.g az with
 | none=>rfl
 | some svs=>
  simp only[ζb];split
  ·cases hp:l_ st dst q svs <;> simp
  ·rfl
def mU:List SV→Option (FuncId×List SV)
 | .clo f a b::vs=>some (f,a++vs++b)
 | .v (.clo f a b)::vs=>some (f,a.map .v++vs++b.map .v)
 | _=>none
theorem zT (dr:Bool) (fr:List Nat) (dst:Option Nat) (now:Bool) (az:List Arg) (st:St) (svs:List SV) (f:FuncId) (args:List SV) (hs:aY S.N st.g az=some svs) (hc:mU svs=some (f,args)) :
 dO S c dr fr ⟨dst,none,now,.c,az,[],[]⟩ st=(e_ S c dst dr (!dr||now) (eE st.m fr) f args st).bind fun r=>some (bW r.2 dst r.1):=by
 unfold dO mj;unfold mU at hc;split at hc
 ·simp only[ζa,ζc]at hc;obtain⟨rfl,rfl⟩:=hc;simp only[wanted,eD,hs];cases e_ S c dst dr _ _ _ _ st <;> simp
 ·simp only[ζa,ζc]at hc;obtain⟨rfl,rfl⟩:=hc;simp only[wanted,eD,hs];cases e_ S c dst dr _ _ _ _ st <;> simp
 ·simp at hc
noncomputable def Lr {β:Type} (S:Sys) (c:bJ) (fr:List Nat) (l:List RO) (k:St→Option β):St→Option β:=fun st=>(ko S c false fr l st).bind k
noncomputable def Kj {β:Type} (S:Sys) (c:bJ) (fr:List Nat) (l:List RO) (k:St→Option β):St→Option β:=fun st=>(ko S c true fr l st).bind k
noncomputable def Oz {β:Type} (S:Sys) (c:bJ) (fr dd:List Nat) (l:List RO) (k:St→Option β):St→Option β:=fun st=>Lr S c fr l k (mg dd st)
noncomputable def OM {β:Type} (S:Sys) (c:bJ) (fr dd:List Nat) (l:List RO) (k:St→Option β):St→Option β:=fun st=>Kj S c fr l k (mg dd st)
@[congr] theorem RY {β:Type} {fr:List Nat} {l:List RO} {k:St→Option β} {st st':St} (h:st=st'):Lr S c fr l k st=Lr S c fr l k st':=by rw[h]
@[congr] theorem R3 {β:Type} {fr fr':List Nat} {l:List RO} {k:St→Option β} {st st':St} (hf:fr=fr') (h:st=st'):Kj S c fr l k st=Kj S c fr' l k st':=by rw[h,hf]
@[congr] theorem RH {β:Type} {fr dd:List Nat} {l:List RO} {k:St→Option β} {st st':St} (h:st=st'):Oz S c fr dd l k st=Oz S c fr dd l k st':=by rw[h]
@[congr] theorem Sr {β:Type} {fr fr' dd:List Nat} {l:List RO} {k:St→Option β} {st st':St} (hf:fr=fr') (h:st=st'):OM S c fr dd l k st=OM S c fr' dd l k st':=by rw[h,hf]
@[congr] theorem Ty {dr:Bool} {fr:List Nat} {o:RO} {st st':St} (h:st=st'):dO S c dr fr o st=dO S c dr fr o st':=by rw[h]
end
section
variable {S:Sys} {c:bJ} (dr:Bool) (fr:List Nat) (dst:Option Nat) (now:Bool) (az:List Arg) (st:St)
end
end Go.VE
namespace Go.VE
inductive Fm where
 | seq (b:RC)
 | blk (id:Nat)
 | gst (x:Gh)
section
variable (S:Sys) (c:bJ) {β:Type} (Q:Out×St→Option β)
noncomputable def runK:List Fm→Out×St→Option β
 | [],r=>Q r
 | .seq b::fs,(.norm,st)=>(bA S c b st).bind (runK fs)
 | .seq _::fs,r=>runK fs r
 | .blk id::fs,(.exit k,st)=>if k=id then runK fs (.norm,st)else runK fs (.exit k,st)
 | .blk _::fs,r=>runK fs r
 | .gst x::fs,(.norm,st)=>(ghost x st).bind fun st=>runK fs (.norm,st)
 | .gst _::fs,r=>runK fs r
noncomputable def go (rc:RC) (fs:List Fm) (st:St):Option β:=(bA S c rc st).bind (runK S c Q fs)
noncomputable def Mc (fs:List Fm):St→Option β:=fun st=>runK S c Q fs (.norm,st)
def au {α:Type} (t:Bool) (a b:α):α:=if t then a else b
end
@[congr] theorem Tg {α:Type} {t t':Bool} {a b a' b':α} (h:t=t') (ha:t'=true→a=a') (hb:t'=false→b=b'):au t a b=au t' a' b':=by
 subst h;cases t
 ·exact hb rfl
 ·exact ha rfl
section
variable {S:Sys} {c:bJ} {β:Type} {Q:Out×St→Option β}
@[congr] theorem go_congr {a:RC} {fs:List Fm} {st st':St} (h:st=st'):go S c Q a fs st=go S c Q a fs st':=by rw[h]
@[congr] theorem Rr {fs:List Fm} {st st':St} (h:st=st'):Mc S c Q fs st=Mc S c Q fs st':=by rw[h]
@[congr] theorem R2 {fs:List Fm} {r r':Out×St} (h:r=r'):runK S c Q fs r=runK S c Q fs r':=by rw[h]
theorem DE (rc:RC) (st:St):(bA S c rc st).bind Q=go S c Q rc [] st:=by
 simp only[go];cases bA S c rc st <;> rfl
inductive Fw (ν ε ρ:Type) where
 | n (a:ν)
 | x (e:ε)
 | r (b:ρ)
def gK {σ ε ρ:Type} (step:σ→Option (Fw σ ε ρ)):Nat→σ→Option (Fw Empty ε ρ)
 | 0,_=>none
 | k+1,s=>match step s with
  | some (.n s')=>gK step k s'
  | some (.x e)=>some (.x e)
  | some (.r b)=>some (.r b)
  | none=>none
theorem tV {σ ε ρ:Type} {step:σ→Option (Fw σ ε ρ)}:∀{k k':Nat} {s:σ} {r:Fw Empty ε ρ},k≤k'→gK step k s=some r→gK step k' s=some r
 | 0,_,_,_,_,h=>by simp[gK]at h
 | k+1,0,_,_,hk,_=>by omega
 | k+1,k'+1,s,r,hk,h=>by
  simp only[gK]at h ⊢;split at h
  ·exact tV (Nat.le_of_succ_le_succ hk) h
  ·exact h
  ·exact h
  ·simp at h
open Classical in
noncomputable def aX {σ ε ρ:Type} (step:σ→Option (Fw σ ε ρ)) (s:σ):Option (Fw Empty ε ρ):=
 if h:∃k r,gK step k s=some r then some (Classical.choose (Classical.choose_spec h))else none
theorem kN {σ ε ρ:Type} {step:σ→Option (Fw σ ε ρ)} {s:σ} {r:Fw Empty ε ρ}:aX step s=some r↔∃k,gK step k s=some r:=by
 unfold aX;constructor
 ·intro h;split at h
  ·rename_i hx;simp only[ζa]at h;exact⟨_,by rw[←h];exact Classical.choose_spec (Classical.choose_spec hx)⟩
  ·simp at h
 ·rintro⟨k,hk⟩;have hx:∃k r,gK step k s=some r:=⟨k,r,hk⟩;rw[dif_pos hx];have h2:=Classical.choose_spec (Classical.choose_spec hx);have h3:=tV (Nat.le_max_left (Classical.choose hx) k) h2;have h4:=tV (Nat.le_max_right (Classical.choose hx) k) hk;rw[h3]at h4;exact h4
def Fw.out {ν ε ρ:Type} (eν:ν→St) (eε:ε→Nat×St) (eρ:ρ→St):Fw ν ε ρ→Out×St
 | .n a=>(.norm,eν a)
 | .x e=>(.exit (eε e).1,(eε e).2)
 | .r b=>(.ret,eρ b)
def Fw.elim {ε ρ γ:Type} (fx:ε→γ) (fr:ρ→γ):Fw Empty ε ρ→γ
 | .x e=>fx e
 | .r b=>fr b
end
end Go.VE
namespace Go.VE
class Lv (n:Nat) (α:Type) [aC α]:Prop where
 lv:∀a:α,V.bT n (cells a)=true
instance {n:Nat}:Lv n Int:=⟨fun _=>by cases n <;> rfl⟩
instance {n:Nat}:Lv n Bool:=⟨fun _=>by cases n <;> rfl⟩
instance {n:Nat}:Lv n ByteArray:=⟨fun _=>by cases n <;> rfl⟩
instance {n:Nat}:Lv n aa:=⟨fun _=>by cases n <;> rfl⟩
section
variable {α:Type} [aC α]
theorem Bz (s:Sl α):V.one (aW s)=true:=by cases s <;> rfl
theorem Ir (l:List α):V.lI (rows l)=true:=by
 induction l with
 | nil=>rfl
 | cons a l ih=>simp only[rows,List.map_cons,V.lI,ζh];exact⟨aC.good a,ih⟩
theorem GY (s:Sl α):V.good (aW s)=true:=by
 cases s <;> simp only[aW,Sl.k,kM,V.good] <;> exact Ir _
theorem Jx {n:Nat} [Lv n α] (l:List α):V.kE n (rows l)=true:=by
 induction l with
 | nil=>cases n <;> rfl
 | cons a l ih=>simp only[rows,List.map_cons,V.kE,ζh];exact⟨Lv.lv a,ih⟩
theorem Bb {n:Nat} [Lv n α] (s:Sl α):V.lvl (n+1) (aW s)=true:=by
 cases s <;> simp only[aW,Sl.k,kM,V.lvl] <;> exact Jx _
instance:aC (Sl α) where
 cells s:=[aW s]
 agg:=false
 size:=1
 len _:=rfl
 good s:=by simp only[V.bD,GY,Bool.and_self]
 one s:=by simp[Bz]
 plain _:=rfl
instance {n:Nat} [Lv n α]:Lv (n+1) (Sl α):=⟨fun s=>by
 show V.bT (n+1) [aW s]=true;simp only[V.bT,Bb,Bool.and_self]⟩
end
theorem Nv (n:Nat) (cs:List V):V.lvl (n+1) (.agg cs)=V.bT n cs:=rfl
theorem MJ (n:Nat) (cs:List V):V.lvl (n+1) (.tup cs)=V.bT n cs:=rfl
theorem K4 (n:Nat) (cs:List V):V.lvl (n+1) (.fptr cs)=V.bT n cs:=rfl
theorem Nq (n:Nat) (f:FuncId) (a b:List V):V.lvl (n+1) (.clo f a b)=(V.bT n a&&V.bT n b):=rfl
theorem lP (n:Nat) (k:IntKind) (x:Int):V.lvl n (.int k x)=true:=by cases n <;> rfl
theorem kz (n:Nat) (x:Bool):V.lvl n (.bool x)=true:=by cases n <;> rfl
theorem lS (n:Nat) (x:ByteArray):V.lvl n (.str x)=true:=by cases n <;> rfl
theorem ND (n:Nat):V.lvl n .aF=true:=by cases n <;> rfl
theorem Ns (n:Nat):V.lvl n .cH=true:=by cases n <;> rfl
theorem Kz (n:Nat):V.lvl n .fq=true:=by cases n <;> rfl
theorem iI (n:Nat):V.bT n []=true:=by cases n <;> rfl
theorem gb (n:Nat) (x:V) (r:List V):V.bT n (x::r)=(V.lvl n x&&V.bT n r):=by cases n <;> rfl
section
variable {S:Sys} {c:bJ}
def HM (x:Option SV) (b:Bool) (y z:Option St):Option St:=
 match x with
 | some (.v (.bool t))=>au (t==b) y z
 | some (.v _)=>z
 | _=>none
@[congr] theorem QY {x x':Option SV} {b:Bool} {y z:Option St} (h:x=x'):HM x b y z=HM x' b y z:=by rw[h]
def L4 {β:Type} (x:Option SV) (y z:Option β):Option β:=
 match x with
 | some (.v (.bool t))=>au t y z
 | _=>none
@[congr] theorem Rt {β:Type} {x x':Option SV} {y z:Option β} (h:x=x'):L4 x y z=L4 x' y z:=by rw[h]
def jZ (c:bJ) (f:FuncId) (az:List V):Option (List V):=(c f (az.map .v) []).bind fun r=>bY r.2 8 r.1
def HE (dr:Bool) (ok:Bool) (st:St) (ys:List V):Option (SV×St):=
 if V.lvl 8 (result ys)&&((result ys).scalar||ok)then some (.v (result ys),st)else none
theorem My (dst:Option Nat) (dr now:Bool) (old:List SV→Bool) (f:FuncId) (args:List SV) (st:St) (hk:S.E.keep f=false) :
 e_ S c dst dr now old f args st=(bY st.m 8 args).bind fun az=>if V.bT 8 az&&(now||old args)then(jZ c f az).bind (HE dr (cZ args).isSome st)else none:=by
 unfold e_ jZ;simp only[hk,Bool.false_eq_true,if_false]
 cases bY st.m 8 args with
 | none=>rfl
 | some az=>
  simp only[ζb];split
  ·cases c f (az.map .v) []with
   | none=>rfl
   | some r=>
    obtain⟨rs,m'⟩:=r;simp only[ζb];cases bY m' 8 rs <;> rfl
  ·rfl
end
section
variable {S:Sys} {T:pn}
def DH (rs:List RV):Out×St→Option (List V)
 | (.exit _,_)=>none
 | (_,st)=>(nL st rs).bind (bY st.m 8)
theorem K6 {f:FuncId} {rf:RF} (hT:T f=some rf) (az:List V) (hn:az.length≤rf.na):jZ (cw S T) f az=go S (cw S T) (DH rf.rs) rf.body [] (start (az.map .v) []):=by
 unfold jZ;rw[y8 hT];unfold ni;rw[if_pos (by simpa using hn),←DE]
 cases h:bA S (cw S T) rf.body (start (az.map .v) [])with
 | none=>rfl
 | some r=>
  obtain⟨o,st⟩:=r;cases o <;> simp only[ζb,DH] <;> (try rfl) <;> (cases nL st rf.rs <;> rfl)
end
end Go.VE
namespace Go.VE
variable {N:Nat→FuncId}
def sP (a b:Int):Option Int:=if b=0 then none else some (a.tmod b)
theorem PN (e:Option KT) (q:Option Nat) (k:IntKind) (a b:Int):ai N (.bin e q .rem) [.int k a,.int k b]=(sP a b).bind fun x=>some (.int k x):=by
 simp only[ai,eG,sP,if_true];split <;> rfl
def vt (k:IntKind) (a b:Int):Option Int:=if b<0 then none else some (a.fdiv (2 ^ (min b.toNat k.bits)))
theorem QU (e:Option KT) (q:Option Nat) (k k':IntKind) (a b:Int):ai N (.bin e q .shr) [.int k a,.int k' b]=(vt k a b).bind fun x=>some (.int k x):=by
 simp only[ai,eG,vt];split <;> rfl
theorem DR (o:Nat) (cs:List V):ai N (.fieldAddr o) [.fptr cs]=if o≤cs.length then some (.fptr (cs.drop o))else none:=rfl
def iq (s:ByteArray) (n:Int):Option Int:=if 0≤n then(s[n.toNat]?).map fun b=>(b.toNat:Int)else none
theorem HL (s:ByteArray) (k:IntKind) (n:Int):ai N .idxStr [.str s,.int k n]=(iq s n).bind fun x=>some (.int .u8 x):=by
 simp only[ai,iq];split
 ·cases s[n.toNat]? <;> rfl
 ·rfl
theorem J8 (z:List V) (pl:List (Nat×Nat)) (vs:List V):ai N (.build z pl) vs=(jq z pl vs).bind fun cs=>some (.agg cs):=by
 simp only[ai];cases jq z pl vs <;> rfl
section
variable {α:Type} [aC α]
theorem AE (s:Sl α) (k:IntKind) (i:Int) (n:Nat) (hn:n=aC.size α):ai N (.idxS n) [aW s,.int k i]=(idx s i).bind fun x=>some (.fptr (cells x)):=by
 rw[Jv s k i hn];cases idx s i <;> rfl
theorem vf (s:Sl α):ai N .lenSl [aW s]=some (.int .i64 s.l.length):=IL s
def Sl.isNil {α:Type} (s:Sl α):Option Bool:=
 match s with
 | .nil=>some true
 | .emp=>none
 | _=>some false
theorem J5 (q:Option Nat) (s:Sl α):ai N (.bin (some .slice) q .eql) [aW s,.aF]=s.isNil.bind fun t=>some (.bool t):=by
 cases s <;> rfl
def dZ (s:Sl α) (lo hi:Option Int):Option (Sl α):=
 (cD s.l.length lo hi).map fun (l,h)=>match s with
  | .nil=>.nil
  | .emp=>.emp
  | .row x=>.part ((x.take h).drop l)
  | .part x=>.part ((x.take h).drop l)
theorem GK (s:Sl α) (lo hi:Option Int) (n:Nat) (hn:n=aC.size α):fD n (aW s) lo hi=(dZ s lo hi).bind fun x=>some (aW x):=by
 subst hn
 cases s with
 | nil=>simp only[aW,Sl.k,kM,fD,dZ,Sl.l,List.length_nil];cases cD 0 lo hi <;> rfl
 | emp=>simp only[aW,Sl.k,kM,fD,dZ,Sl.l,List.length_nil];cases cD 0 lo hi <;> rfl
 | row l=>simp only[aW,Sl.k,kM,fD,dZ,Sl.l,if_true,dU];cases cD l.length lo hi <;> simp[rows,List.map_take,List.map_drop]
 | part l=>simp only[aW,Sl.k,kM,fD,dZ,Sl.l,if_true,dU];cases cD l.length lo hi <;> simp[rows,List.map_take,List.map_drop]
end
theorem IQ (m:Tb aR) (n:Nat) (a:Bool) (cs:List V):nk m (.load n a) [.v (.fptr cs)]=(cut cs 0 n).bind fun r=>(mk a r).bind fun x=>some (.v x):=by
 simp only[nk,cS]
 cases cut cs 0 n with
 | none=>rfl
 | some r=>simp only[ζb];cases mk a r <;> rfl
end Go.VE
namespace Go.VE
section
variable {α:Type} [aC α]
def bP (s:Sl α):aR:=.sl s.k (aC.size α) (rows s.l)
def Sl.mN (s:Sl α) (i:Int):Option Nat:=if 0≤i∧i.toNat<s.l.length then some i.toNat else none
def Sl.get (s:Sl α) (i:Nat):Option α:=s.l[i]?
def Sl.put (s:Sl α) (i:Nat) (x:α):Option (Sl α):=
 if i<s.l.length then some (match s with|.row l=>.row (l.set i x)|.part l=>.part (l.set i x)|s=>s)else none
def gy (s:Sl α) (x:α):Option (Sl α):=if s.l.length+1≤2147483648 then some (.row (s.l++[x]))else none
def nJ (n:Int) (z:α):Option (Sl α):=if 0≤n∧n≤2147483648 then some (.row (List.replicate n.toNat z))else none
end
section
variable {α:Type} [aC α] {N:Nat→FuncId} {m:Tb aR}
def GL (n d:Nat) (o:Option aR) (i:Int):Option SV:=
 match o with
 | some (.sl k es xs)=>if br k∧es=n∧0≤i∧i.toNat<xs.length then some (.el d i.toNat 0)else none
 | _=>none
theorem MS (n d:Nat) (k:IntKind) (i:Int):iL N m (.idxS n) [.own d,.v (.int k i)]=GL n d (aj m d) i:=by
 simp only[iL,cZ,xq,GL]
 cases aj m d with
 | none=>rfl
 | some o=>cases o <;> rfl
theorem NN (n d:Nat) (s:Sl α) (i:Int) (h:n=aC.size α):GL n d (some (bP s)) i=(s.mN i).bind fun j=>some (.el d j 0):=by
 subst h;simp only[GL,bP,dU,true_and,Sl.mN]
 cases s with
 | nil=>simp[Sl.l,Sl.k,br]
 | emp=>simp[Sl.l,Sl.k,br]
 | row l=>simp only[Sl.k,Sl.l,br,true_and];by_cases h:0≤i∧i.toNat<l.length <;> simp[h]
 | part l=>simp only[Sl.k,Sl.l,br,true_and];by_cases h:0≤i∧i.toNat<l.length <;> simp[h]
def FF (o:Option aR):Option SV:=
 match o with
 | some (.sl _ _ xs)=>some (.v (.int .i64 xs.length))
 | _=>none
theorem Kc (d:Nat):iL N m .lenSl [.own d]=FF (aj m d):=by
 simp only[iL,cZ,xq,FF]
 cases aj m d with
 | none=>rfl
 | some o=>cases o <;> rfl
theorem No (s:Sl α):FF (some (bP s))=some (.v (.int .i64 s.l.length)):=by simp[FF,bP,dU]
def GN (n:Nat) (a:Bool) (o:Nat) (ob:Option aR):Option SV:=
 match ob with
 | some (.box cs)=>xN n a ((cs.drop o).take n)
 | _=>none
theorem Ub (n:Nat) (a:Bool) (d o:Nat):nk m (.load n a) [.ptr d o]=GN n a o (aj m d):=by
 simp only[nk,GN];rfl
theorem Jl (n:Nat) (a:Bool) (o:Nat) (cs:List SV):GN n a o (some (.box cs))=xN n a ((cs.drop o).take n):=rfl
def zz (n:Nat) (a:Bool) (i o:Nat) (ob:Option aR):Option SV:=
 match ob with
 | some (.sl _ _ xs)=>match xs[i]? with
  | some cs=>((cut cs o n).bind (mk a)).map .v
  | none=>none
 | _=>none
theorem Si (n:Nat) (a:Bool) (d i o:Nat):nk m (.load n a) [.el d i o]=zz n a i o (aj m d):=by
 simp only[nk,zz];rfl
theorem I6 (n:Nat) (a:Bool) (i o:Nat) (s:Sl α):zz n a i o (some (bP s))=(s.get i).bind fun x=>(cut (cells x) o n).bind fun r=>(mk a r).bind fun y=>some (.v y):=by
 simp only[zz,bP,Sl.get,rows,List.getElem?_map]
 cases s.l[i]? with
 | none=>rfl
 | some x=>
  simp only[Option.map_some,ζb]
  cases cut (cells x) o n with
  | none=>rfl
  | some r=>simp only[ζb];cases mk a r <;> rfl
theorem Sm (z:α) (n:Int) (d:Nat) (size:Nat) (zero:List V) (h:zero=cells z) (h2:size=aC.size α) :
 mC m (.makeSl size zero) [.v (.int .i64 n),.v (.int .i64 n)] d=(nJ n z).bind fun s=>some (bP s,.own d):=by
 subst h h2;simp only[mC,nJ,true_and,Int.le_refl];split
 ·simp[bP,Sl.k,Sl.l,rows,List.map_replicate]
 ·rfl
def xy (st:St) (d i o size:Nat) (x:V) (ob:Option aR):Option (SV×St):=
 match ob with
 | some (.sl k es xs)=>match xs[i]? with
  | some cs=>if x.cells.length=size∧o+size≤cs.length∧x.cells.all V.one=true then
   some (.v .undef,{ st with m:=aT st.m d (.sl k es (xs.set i (cs.take o++x.cells++cs.drop (o+x.cells.length)))) })else none
  | none=>none
 | _=>none
theorem G5 (st:St) (dst:Option Nat) (size d i o:Nat) (x:V):l_ st dst (.store size) [.el d i o,.v x]=xy st d i o size x (aj st.m d):=by
 simp only[l_,xy];rfl
theorem FL (g:Tb SV) (p:List Nat) (w:List (List V)) (mo:Bool) (y:Nat) (d i size:Nat) (x:V) (a:α) (hx:x.cells=cells a) (hs:size=aC.size α) (s:Sl α) :
 xy ⟨g,m,p,w,mo,y⟩ d i 0 size x (some (bP s))=(s.put i a).bind fun s'=>some (.v .undef,⟨g,aT m d (bP s'),p,w,mo,y⟩):=by
 have h1:(cells a).all V.one=true:=aC.one a;have hl:∀b:α,(cells b).length=aC.size α:=aC.len;subst hs;simp only[xy,bP,rows,List.getElem?_map,hx,Sl.put]
 by_cases hi:i<s.l.length
 ·have hg:s.l[i]? = some s.l[i]:=ζd hi;rw[if_pos hi,hg];simp only[Option.map_some,hl,h1,ζb];rw[if_pos ⟨trivial,by omega,trivial⟩]
  cases s with
  | nil=>simp[Sl.l]at hi
  | emp=>simp[Sl.l]at hi
  | row l=>simp[Sl.k,Sl.l,rows,List.drop_of_length_le,hl,List.map_set]
  | part l=>simp[Sl.k,Sl.l,rows,List.drop_of_length_le,hl,List.map_set]
 ·rw[if_neg hi,List.getElem?_eq_none (by omega)];rfl
def oA (st:St) (t n:Nat) (s:SV) (xs ys:Option (List (List V))):Option (SV×St):=
 match xs,ys with
 | some _,some []=>match s with
  | .own d=>match aj st.m d with
   | some ob=>if St.new { st with m:=cK d st.m } t then some (.own t,{ st with m:=aT (cK d st.m) t ob })else none
   | none=>none
  | .v .aF=>if st.new t then some (.own t,{ st with m:=aT st.m t (.sl .nil n []) })else none
  | .v .cH=>if st.new t then some (.own t,{ st with m:=aT st.m t (.sl .emp n []) })else none
  | _=>none
 | some xs,some ys=>
  if xs.length+ys.length≤2147483648∧zh s=true then
   if St.new { st with m:=giveUp st.m s } t then some (.own t,{ st with m:=aT (giveUp st.m s) t (.sl .row n (xs++ys)) })else none
  else none
 | _,_=>none
theorem wI (st:St) (t n:Nat) (s x:SV):l_ st (some t) (.append n) [s,x]=oA st t n s (iV st.m n s) (iV st.m n x):=by
 cases s <;> cases x <;> (simp only[l_,oA];rfl)
def FD (n:Nat) (o:Option aR):Option (List (List V)):=
 match o with
 | some (.sl k es xs)=>if br k then(if es=n then some xs else none)else some []
 | _=>none
theorem AT (n d:Nat):iV m n (.own d)=FD n (aj m d):=by
 simp only[iV,FD]
 cases aj m d with
 | none=>rfl
 | some ob=>cases ob <;> rfl
theorem xo (n:Nat) (s:Sl α) (h:n=aC.size α):FD n (some (bP s))=some (rows s.l):=by
 subst h;cases s <;> simp[FD,bP,Sl.k,Sl.l,br,rows]
theorem M4 (n:Nat):iV m n (.v .aF)=some []:=rfl
theorem Nf (n:Nat):iV m n (.v .cH)=some []:=rfl
theorem Ig (g:Tb SV) (p:List Nat) (w:List (List V)) (mo:Bool) (y:Nat) (t n d:Nat) (l:List α) (x:α) (h:n=aC.size α):oA ⟨g,m,p,w,mo,y⟩ t n (.own d) (some (rows l)) (some (rows [x])) =
 (gy (.row l) x).bind fun s=>if St.new ⟨g,cK d m,p,w,mo,y⟩ t then some (.own t,⟨g,aT (cK d m) t (bP s),p,w,mo,y⟩)else none:=by
 subst h;have e:(rows l).length+(rows [x]).length=l.length+1:=by simp[dU]
 by_cases h:l.length+1≤2147483648
 ·have h1:gy (.row l) x=some (.row (l++[x])):=if_pos h;have h2:oA ⟨g,m,p,w,mo,y⟩ t (aC.size α) (.own d) (some (rows l)) (some (rows [x]))=if St.new ⟨g,cK d m,p,w,mo,y⟩ t then some (.own t,⟨g,aT (cK d m) t (.sl .row (aC.size α) (rows l++rows [x])),p,w,mo,y⟩)else none:=if_pos ⟨by omega,rfl⟩
  rw[h1,h2];simp only[ζb,bP,Sl.k,Sl.l,rows,List.map_append,List.map_cons,List.map_nil]
 ·have h1:gy (.row l) x=none:=if_neg h;have h2:oA ⟨g,m,p,w,mo,y⟩ t (aC.size α) (.own d) (some (rows l)) (some (rows [x]))=none:=if_neg (fun q=>h (by omega))
  rw[h1,h2];rfl
theorem H9 (g:Tb SV) (p:List Nat) (w:List (List V)) (mo:Bool) (y:Nat) (t n:Nat) (x:α) (h:n=aC.size α):oA ⟨g,m,p,w,mo,y⟩ t n (.v .aF) (some []) (some (rows [x])) =
 if St.new ⟨g,m,p,w,mo,y⟩ t then some (.own t,⟨g,aT m t (bP (.row [x])),p,w,mo,y⟩)else none:=by
 subst h;simp[oA,rows,zh,giveUp,bP,Sl.k,Sl.l];rfl
theorem Jh (g:Tb SV) (p:List Nat) (w:List (List V)) (mo:Bool) (y:Nat) (t n:Nat) (x:α) (h:n=aC.size α):oA ⟨g,m,p,w,mo,y⟩ t n (.v .cH) (some []) (some (rows [x])) =
 if St.new ⟨g,m,p,w,mo,y⟩ t then some (.own t,⟨g,aT m t (bP (.row [x])),p,w,mo,y⟩)else none:=by
 subst h;simp[oA,rows,zh,giveUp,bP,Sl.k,Sl.l];rfl
end
theorem uf (g:Tb SV) (m:Tb aR) (p:List Nat) (w:List (List V)) (mo:Bool) (y d:Nat):St.new ⟨g,m,p,w,mo,y⟩ d=(!(p.contains d)&&(aj m d).isNone && !(rI d g) && !(pe d m)):=rfl
theorem oK (d:Nat):rI d []=false:=rfl
theorem nu (d n:Nat) (x:SV) (r:Tb SV):rI d ((n,x)::r)=(SV.b7 d x||rI d r):=rfl
theorem oL (d:Nat):pe d []=false:=rfl
theorem nD (d n:Nat) (x:aR) (r:Tb aR):pe d ((n,x)::r)=(aR.b7 d x||pe d r):=rfl
theorem uE (d:Nat) (x:V):SV.b7 d (.v x)=false:=rfl
theorem pT (d e:Nat):SV.b7 d (.own e)=(e==d):=rfl
theorem pS (d e o:Nat):SV.b7 d (.ptr e o)=(e==d):=rfl
theorem rV (d e i o:Nat):SV.b7 d (.el e i o)=(e==d):=rfl
theorem si (d e:Nat):SV.b7 d (.mp e)=(e==d):=rfl
theorem pW (d:Nat) (f:FuncId) (a b:List SV):SV.b7 d (.clo f a b)=(SV.cE d a||SV.cE d b):=rfl
theorem qd (d:Nat) (l:List SV):SV.b7 d (.tup l)=SV.cE d l:=rfl
theorem oO (d:Nat):SV.cE d []=false:=rfl
theorem mS (d:Nat) (x:SV) (r:List SV):SV.cE d (x::r)=(SV.b7 d x||SV.cE d r):=rfl
theorem oT (d:Nat) (cs:List SV):aR.b7 d (.box cs)=SV.cE d cs:=rfl
theorem By (m:Tb aR) (n:Nat):bY m n []=some []:=by cases n <;> simp only[bY]
theorem Az (m:Tb aR) (n:Nat) (x:SV) (r:List SV):bY m n (x::r)=(shut m n x).bind fun y=>(bY m n r).bind fun s=>some (y::s):=by
 cases n <;> (simp only[bY];cases shut m _ x <;> (try rfl) <;> (cases bY m _ r <;> rfl))
theorem Pu (m:Tb aR) (n:Nat) (x:V):shut m n (.v x)=some x:=by cases n <;> simp only[shut]
theorem JH (m:Tb aR) (n:Nat) (f:FuncId) (a b:List SV):shut m (n+1) (.clo f a b)=(bY m n a).bind fun x=>(bY m n b).bind fun y=>some (.clo f x y):=by
 simp only[shut];cases bY m n a <;> (try rfl) <;> (cases bY m n b <;> rfl)
theorem JR (m:Tb aR) (n:Nat) (l:List SV):shut m (n+1) (.tup l)=(bY m n l).bind fun x=>some (.tup x):=by
 simp only[shut];cases bY m n l <;> rfl
theorem qv {α:Type} (n:Nat):cK n ([]:Tb α)=[]:=rfl
theorem oM {α:Type} (n k:Nat) (x:α) (r:Tb α):cK n ((k,x)::r)=if k=n then cK n r else(k,x)::cK n r:=rfl
theorem mapM_nil (f:List SV→List SV):mapM f []=[]:=rfl
end Go.VE
namespace Go.VE
section
variable {N:Nat→FuncId} {m:Tb aR}
theorem Mt:result []=.tup []:=rfl
theorem M8 (x:V):result [x]=x:=rfl
theorem NK (x y:V) (l:List V):result (x::y::l)=.tup (x::y::l):=rfl
theorem CE (p:sD) (a:V):iL N m p [.v a]=(ai N p [a]).bind fun x=>some (.v x):=EO N m p _ [a] rfl
theorem pZ (p:sD) (a b:V):iL N m p [.v a,.v b]=(ai N p [a,b]).bind fun x=>some (.v x):=EO N m p _ [a,b] rfl
theorem oC (l:List V):cZ (l.map .v)=some l:=by
 induction l with
 | nil=>rfl
 | cons a l ih=>simp only[List.map_cons,cZ,ih];rfl
theorem s8 (n:Nat) (l:List V):bY m n (l.map .v)=some l:=by
 induction l with
 | nil=>exact By m n
 | cons a l ih=>rw[List.map_cons,Az,Pu,ih];rfl
theorem Sl.Mb {α:Type} (l:List α):(Sl.row l).l=l:=rfl
theorem Ij (cs:List V):jq cs [] []=some cs:=rfl
theorem FX (cs:List V) (off size:Nat) (pl:List (Nat×Nat)) (v:V) (vs:List V):jq cs ((off,size)::pl) (v::vs) =
 if v.cells.length=size∧off+v.cells.length≤cs.length then jq (cs.take off++v.cells++cs.drop (off+v.cells.length)) pl vs else none:=by
 simp only[jq]
 by_cases h:v.cells.length=size <;> by_cases h2:off+v.cells.length≤cs.length
 ·rw[if_neg (by simp[h];omega),if_pos ⟨h,h2⟩]
 ·rw[if_pos (by simp[h];omega),if_neg (fun q=>h2 q.2)]
 ·rw[if_pos (by simp[h]),if_neg (fun q=>h q.1)]
 ·rw[if_pos (by simp[h]),if_neg (fun q=>h q.1)]
theorem Q8 (k:IntKind) (n:Int):V.cells (.int k n)=[.int k n]:=rfl
theorem M9 (n:Bool):V.cells (.bool n)=[.bool n]:=rfl
theorem OA (n:ByteArray):V.cells (.str n)=[.str n]:=rfl
theorem P8:V.cells .aF=[.aF]:=rfl
theorem nE (k:IntKind) (n:Int):V.one (.int k n)=true:=rfl
theorem lu (n:Bool):V.one (.bool n)=true:=rfl
theorem mT (n:ByteArray):V.one (.str n)=true:=rfl
end
end Go.VE
namespace Go.VE
section
variable {S:Sys} {c:bJ} {β γ δ:Type} {Q:Out×St→Option β} {L:Option β} {e:γ→Option β}
theorem Jg {dr:Bool} {fr:List Nat} {d:Option Nat} {gd:Option (Nat×Bool)} {now:Bool} {k:K} {az:List Arg} {st:St} (h:wanted st.g gd=some true) :
 dO S c dr fr ⟨d,gd,now,k,az,[],[]⟩ st=dO S c dr fr ⟨d,none,now,k,az,[],[]⟩ st:=by
 unfold dO;rw[h];rfl
theorem yZ (dr:Bool) (st:St):yT dr [] st=some st:=by cases dr <;> rfl
def lX (f:SV→Option V):List SV→Option (List V)
 | []=>some []
 | x::r=>(f x).bind fun y=>(lX f r).bind fun s=>some (y::s)
def gP (m:Tb aR):Nat→SV→Option V
 | 0,x=>match x with
  | .v y=>some y
  | .own d=>match aj m d with
   | some (.sl k es xs)=>some (kM k es xs)
   | _=>none
  | .mp d=>match aj m d with
   | some (.mp kvs)=>some (.fmap kvs)
   | _=>none
  | _=>none
 | n+1,x=>match x with
  | .v y=>some y
  | .own d=>match aj m d with
   | some (.sl k es xs)=>some (kM k es xs)
   | _=>none
  | .ptr d o=>match aj m d with
   | some (.box cs)=>match lX (gP m n) cs with
    | some xs=>if o≤xs.length then some (.fptr (xs.drop o))else none
    | none=>none
   | _=>none
  | .mp d=>match aj m d with
   | some (.mp kvs)=>some (.fmap kvs)
   | _=>none
  | .clo f a b=>(lX (gP m n) a).bind fun x=>(lX (gP m n) b).bind fun y=>some (.clo f x y)
  | .tup l=>(lX (gP m n) l).bind fun x=>some (.tup x)
  | _=>none
theorem xx (m:Tb aR):∀(n:Nat),(∀x,shut m n x=gP m n x)∧∀l,bY m n l=lX (gP m n) l:=by
 have hl:∀n,(∀x,shut m n x=gP m n x)→∀l,bY m n l=lX (gP m n) l:=by
  intro n h l
  induction l with
  | nil=>exact By m n
  | cons a l ih=>rw[Az,h a,ih];rfl
 intro n
 induction n with
 | zero=>
  have h0:∀x,shut m 0 x=gP m 0 x:=by
   intro x;cases x <;> simp only[shut,gP] <;> rfl
  exact⟨h0,hl 0 h0⟩
 | succ n ih=>
  have h1:∀x,shut m (n+1) x=gP m (n+1) x:=by
   intro x
   cases x with
   | ptr d o=>simp only[shut,gP,ih.2];rfl
   | clo f a b=>rw[JH,ih.2,ih.2];rfl
   | tup l=>rw[JR,ih.2];rfl
   | _=>simp only[shut,gP] <;> rfl
  exact⟨h1,hl _ h1⟩
noncomputable def sY (S:Sys) (c:bJ) (dr:Bool):List Nat→List RO→(St→Option β)→St→Option β
 | _,[],k,st=>k st
 | fr,o::r,k,st=>((yT dr o.pre st).bind (dO S c dr fr o.strip)).bind fun st'=>sY S c dr (if dr then nW fr o.strip else fr) r k (mg o.dead st')
theorem AN (dr:Bool):∀(l:List RO) (fr:List Nat) (k:St→Option β) (st:St),sY S c dr fr l k st=(ko S c dr fr l st).bind k
 | [],_,_,_=>rfl
 | o::r,fr,k,st=>by
  simp only[sY,ko]
  cases (yT dr o.pre st).bind (dO S c dr fr o.strip)with
  | none=>rfl
  | some st'=>exact AN dr r _ k _
noncomputable def kO (S:Sys) (c:bJ):RC→(St→Option β)→(Nat→St→Option β)→(St→Option β)→St→Option β
 | .skip,n,_,_,st=>n st
 | .ops l,n,_,_,st=>sY S c false [] l n st
 | .mm l,n,_,_,st=>sY S c true [] l n st
 | .seq a b,n,x,r,st=>kO S c a (fun st=>kO S c b n x r st) x r st
 | .cond y a b,n,x,r,st=>match ou S.N st.g y with
  | some (.v (.bool t))=>au t (kO S c a n x r st) (kO S c b n x r st)
  | _=>none
 | .block id a,n,x,r,st=>kO S c a n (fun k st=>if k=id then n st else x k st) r st
 | .loop a,n,x,r,st=>(lp (bA S c a) st).bind fun q=>match q with|(.norm,st)=>n st|(.exit k,st)=>x k st|(.ret,st)=>r st
 | .each g ps a b,n,x,r,st=>(bA S c (.each g ps a b) st).bind fun q=>match q with|(.norm,st)=>n st|(.exit k,st)=>x k st|(.ret,st)=>r st
 | .exit k,_,x,_,st=>x k st
 | .ret,_,_,r,st=>r st
 | .gh g a,n,x,r,st=>(ghost g st).bind fun st=>kO S c a n x r st
 | .hg a g,n,x,r,st=>kO S c a (fun st=>(ghost g st).bind n) x r st
def AM (n:St→Option β) (x:Nat→St→Option β) (r:St→Option β):Out×St→Option β
 | (.norm,st)=>n st
 | (.exit k,st)=>x k st
 | (.ret,st)=>r st
theorem zN:∀(rc:RC) (n:St→Option β) (x:Nat→St→Option β) (r:St→Option β) (st:St),kO S c rc n x r st=(bA S c rc st).bind (AM n x r):=by
 intro rc
 induction rc with
 | skip=>intros;rfl
 | ops l=>intro n x r st;simp only[kO,bA,AN];cases ko S c false [] l st <;> rfl
 | mm l=>intro n x r st;simp only[kO,bA,AN];cases ko S c true [] l st <;> rfl
 | seq a b iha ihb=>
  intro n x r st;simp only[kO,bA,iha,ihb]
  cases h:bA S c a st with
  | none=>rfl
  | some q=>obtain⟨o,st'⟩:=q;cases o <;> rfl
 | cond y a b iha ihb=>
  intro n x r st;simp only[kO,bA,iha,ihb]
  cases ou S.N st.g y with
  | none=>rfl
  | some v=>cases v with
   | v z=>cases z with
    | bool t=>cases t <;> rfl
    | _=>rfl
   | _=>rfl
 | block id a ih=>
  intro n x r st;simp only[kO,bA,ih]
  cases h:bA S c a st with
  | none=>rfl
  | some q=>
   obtain⟨o,st'⟩:=q
   cases o with
   | exit k=>simp only[ζb,AM];split <;> rfl
   | _=>rfl
 | loop a ih=>
  intro n x r st;simp only[kO,bA];rfl
 | each g ps a b iha ihb=>
  intro n x r st;simp only[kO];rfl
 | exit k=>intros;rfl
 | ret=>intros;rfl
 | gh g a ih=>
  intro n x r st;simp only[kO,bA,ih];cases ghost g st <;> rfl
 | hg a g ih=>
  intro n x r st;simp only[kO,bA,ih]
  cases h:bA S c a st with
  | none=>rfl
  | some q=>
   obtain⟨o,st'⟩:=q
   cases o with
   | norm=>simp only[ζb,AM];cases ghost g st' <;> rfl
   | _=>rfl
section
variable (S c Q)
mutual
noncomputable def jS:List Fm→St→Option β
 | []=>fun st=>Q (.norm,st)
 | .seq b::fs=>fun st=>kO S c b (jS fs) (jU fs) (fun st=>Q (.ret,st)) st
 | .blk _::fs=>jS fs
 | .gst g::fs=>fun st=>(ghost g st).bind (jS fs)
noncomputable def jU:List Fm→Nat→St→Option β
 | []=>fun k st=>Q (.exit k,st)
 | .seq _::fs=>jU fs
 | .blk id::fs=>fun k st=>if k=id then jS fs st else jU fs k st
 | .gst _::fs=>jU fs
end
noncomputable def jT (rc:RC) (fs:List Fm) (st:St):Option β:=kO S c rc (jS S c Q fs) (jU S c Q fs) (fun st=>Q (.ret,st)) st
end
section
variable {dr:Bool} {fr:List Nat} {d:Nat} {dst:Option Nat} {now:Bool} {az:List Arg} {st:St} {α:Type} [aC α]
theorem EP {p:sD} {svs:List SV} {m:Option δ} {v:δ→SV} (hs:aY S.N st.g az=some svs) (hi:isSlice p=false) (h:iL S.N st.m p svs=m.bind fun x=>some (v x)) :
 dO S c dr fr ⟨dst,none,now,.p p,az,[],[]⟩ st=m.bind fun x=>some (bW st dst (v x)):=by
 rw[LN _ _ _ _ _ _ _ hi,hs];simp only[ζb,h];cases m <;> rfl
theorem AU {p:sD} {svs:List SV} {v:SV} (hs:aY S.N st.g az=some svs) (hi:isSlice p=false) (h:iL S.N st.m p svs=some v) :
 dO S c dr fr ⟨dst,none,now,.p p,az,[],[]⟩ st=some (bW st dst v):=by
 rw[LN _ _ _ _ _ _ _ hi,hs];simp only[ζb,h]
theorem Md {n:Nat} {s:Sl α} {k:IntKind} {i:Int} (hs:aY S.N st.g az=some [.v (aW s),.v (.int k i)]) (hn:n=aC.size α) :
 dO S c dr fr ⟨dst,none,now,.p (.idxS n),az,[],[]⟩ st=(idx s i).bind fun x=>some (bW st dst (.v (.fptr (cells x)))):=
 EP hs rfl (by rw[pZ,AE s k i n hn];cases idx s i <;> rfl)
theorem Sb {n e:Nat} {s:Sl α} {k:IntKind} {i:Int} (hs:aY S.N st.g az=some [.own e,.v (.int k i)]) (ho:aj st.m e=some (bP s)) (hn:n=aC.size α) :
 dO S c dr fr ⟨dst,none,now,.p (.idxS n),az,[],[]⟩ st=(s.mN i).bind fun j=>some (bW st dst (.el e j 0)):=
 EP hs rfl (by rw[MS,ho,NN n e s i hn])
theorem LW {s:Sl α} (hs:aY S.N st.g az=some [.v (aW s)]):dO S c dr fr ⟨dst,none,now,.p .lenSl,az,[],[]⟩ st=some (bW st dst (.v (.int .i64 s.l.length))):=
 AU hs rfl (by rw[CE,vf];rfl)
theorem Qm {e:Nat} {s:Sl α} (hs:aY S.N st.g az=some [.own e]) (ho:aj st.m e=some (bP s)):dO S c dr fr ⟨dst,none,now,.p .lenSl,az,[],[]⟩ st=some (bW st dst (.v (.int .i64 s.l.length))):=
 AU hs rfl (by rw[Kc,ho,No])
theorem R4 {q:Option KT} {u:Option Nat} {k:IntKind} {a b:Int} (hs:aY S.N st.g az=some [.v (.int k a),.v (.int k b)]):dO S c dr fr ⟨dst,none,now,.p (.bin q u .rem),az,[],[]⟩ st=(sP a b).bind fun x=>some (bW st dst (.v (.int k x))):=
 EP hs rfl (by rw[pZ,PN];cases sP a b <;> rfl)
theorem Sj {q:Option KT} {u:Option Nat} {k k':IntKind} {a b:Int} (hs:aY S.N st.g az=some [.v (.int k a),.v (.int k' b)]):dO S c dr fr ⟨dst,none,now,.p (.bin q u .shr),az,[],[]⟩ st=(vt k a b).bind fun x=>some (bW st dst (.v (.int k x))):=
 EP hs rfl (by rw[pZ,QU];cases vt k a b <;> rfl)
theorem Np {u:Option Nat} {s:Sl α} (hs:aY S.N st.g az=some [.v (aW s),.v .aF]):dO S c dr fr ⟨dst,none,now,.p (.bin (some .slice) u .eql),az,[],[]⟩ st=s.isNil.bind fun t=>some (bW st dst (.v (.bool t))):=
 EP hs rfl (by rw[pZ,J5];cases s.isNil <;> rfl)
theorem Kg {s:ByteArray} {k:IntKind} {n:Int} (hs:aY S.N st.g az=some [.v (.str s),.v (.int k n)]):dO S c dr fr ⟨dst,none,now,.p .idxStr,az,[],[]⟩ st=(iq s n).bind fun x=>some (bW st dst (.v (.int .u8 x))):=
 EP hs rfl (by rw[pZ,HL];cases iq s n <;> rfl)
theorem Ph {n e i o:Nat} {a:Bool} {s:Sl α} {v:α→V} (hs:aY S.N st.g az=some [.el e i o]) (hd:(!dr||now||dW fr [.el e i o])=true) (ho:aj st.m e=some (bP s)) (hv:∀x:α,(cut (cells x) o n).bind (mk a)=some (v x)) :
 dO S c dr fr ⟨dst,none,now,.r (.load n a),az,[],[]⟩ st=(s.get i).bind fun x=>some (bW st dst (.v (v x))):=by
 rw[Cp,hs];simp only[ζb,hd,if_true,Si,ho,I6]
 cases s.get i with
 | none=>rfl
 | some x=>
  simp only[ζb];have:=hv x
  cases hc:cut (cells x) o n with
  | none=>rw[hc]at this;cases this
  | some r=>rw[hc]at this;simp only[ζb]at this ⊢;rw[this];rfl
theorem M0 {n e i:Nat} {s:Sl α} {x:V} {a:α} (hs:aY S.N st.g az=some [.el e i 0,.v x]) (hd:(!dr||now)=true) (ho:aj st.m e=some (bP s)) (hx:x.cells=cells a) (hn:n=aC.size α) :
 dO S c dr fr ⟨dst,none,now,.l (.store n),az,[],[]⟩ st=(s.put i a).bind fun s'=>some (bW { st with m:=aT st.m e (bP s') } dst (.v .undef)):=by
 rw[tJ,hs];simp only[ζb,hd,if_true,G5,ho];rw[FL st.g st.pin st.want st.more st.yid e i n x a hx hn s];cases s.put i a <;> rfl
theorem Rk {n:Nat} {z:α} {zero:List V} {i:Int} (hs:aY S.N st.g az=some [.v (.int .i64 i),.v (.int .i64 i)]) (hz:zero=cells z) (hn:n=aC.size α) (hw:st.new d=true) :
 dO S c dr fr ⟨some d,none,now,.a (.makeSl n zero),az,[],[]⟩ st=(nJ i z).bind fun s=>some { st with g:=aT st.g d (.own d),m:=aT st.m d (bP s) }:=by
 rw[Am,hs];simp only[ζb,hw,if_true];rw[Sm z i d n zero hz hn];cases nJ i z <;> rfl
theorem RN {n e u:Nat} {s:Sl α} {x:α} (hs:aY S.N st.g az=some [.own e,.own u]) (hd:(!dr||now)=true) (ho:aj st.m e=some (bP s)) (hu:aj st.m u=some (bP (.row [x]))) (hn:n=aC.size α) (hw:St.new { st with m:=cK e st.m } d=true) :
 dO S c dr fr ⟨some d,none,now,.l (.append n),az,[],[]⟩ st=(gy s x).bind fun s'=>some { st with g:=aT st.g d (.own d),m:=aT (cK e st.m) d (bP s') }:=by
 rw[tJ,hs];simp only[ζb,hd,if_true,wI,AT,ho,hu];rw[xo n s hn,xo n (.row [x]) hn];have:=Ig (m:=st.m) st.g st.pin st.want st.more st.yid d n e s.l x hn;simp only[Sl.Mb];rw[show oA st d n (.own e) (some (rows s.l)) (some (rows [x]))=_ from this];have ha:gy (.row s.l) x=gy s x:=by cases s <;> rfl
 rw[ha]
 cases gy s x with
 | none=>rfl
 | some s'=>
  simp only[ζb];rw[if_pos hw];rfl
theorem OZ {n u:Nat} {x:α} {v:V} (hv:v=.aF∨v=.cH) (hs:aY S.N st.g az=some [.v v,.own u]) (hd:(!dr||now)=true) (hu:aj st.m u=some (bP (.row [x]))) (hn:n=aC.size α) (hw:st.new d=true) :
 dO S c dr fr ⟨some d,none,now,.l (.append n),az,[],[]⟩ st=some { st with g:=aT st.g d (.own d),m:=aT st.m d (bP (.row [x])) }:=by
 rw[tJ,hs];simp only[ζb,hd,if_true,wI,AT,hu];rw[xo n (.row [x]) hn];simp only[Sl.Mb];rcases hv with rfl|rfl
 ·rw[M4,show oA st d n (.v .aF) (some []) (some (rows [x]))=_ from H9 (m:=st.m) st.g st.pin st.want st.more st.yid d n x hn];rw[if_pos hw];rfl
 ·rw[Nf,show oA st d n (.v .cH) (some []) (some (rows [x]))=_ from Jh (m:=st.m) st.g st.pin st.want st.more st.yid d n x hn];rw[if_pos hw];rfl
theorem O7 {f:FuncId} {svs args:List SV} {cs:List V} {m:Option δ} {E:δ→List V} (hc:jZ c f cs=m.bind fun r=>some (E r)) (hk:S.E.keep f=false) (hs:aY S.N st.g az=some svs) (hf:mU svs=some (f,args))
 (hsh:lX (gP st.m 8) args=some cs) (hl:V.bT 8 cs=true) (ho:((!dr||now)||eE st.m fr args)=true) (hr:∀r,(V.lvl 8 (result (E r))&&((result (E r)).scalar||(cZ args).isSome))=true) :
 dO S c dr fr ⟨dst,none,now,.c,az,[],[]⟩ st=m.bind fun r=>some (bW st dst (.v (result (E r)))):=by
 rw[zT dr fr dst now az st svs f args hs hf,My _ _ _ _ _ _ _ hk,(xx st.m 8).2,hsh];simp only[ζb,hl,ho,Bool.and_self,if_true,hc]
 cases m with
 | none=>rfl
 | some r=>
  simp only[ζb,HE];rw[if_pos (hr r)];rfl
end
end
end Go.VE
namespace Go.VE
section
variable {S:Sys} {c:bJ} {β γ:Type} {Q:Out×St→Option β} {L:Option β} {e:γ→Option β}
theorem rX (rc:RC) (st:St):jT S c Q rc [] st=(bA S c rc st).bind Q:=by
 unfold jT;rw[zN]
 congr 1
 funext q;obtain⟨o,st⟩:=q
 cases o <;> rfl
theorem xm (rc:RC) (st:St):bA S c rc st=jT S c some rc [] st:=by
 rw[rX];cases bA S c rc st <;> rfl
def oE (rs:List RV):Out×St→Option (List V)
 | (.exit _,_)=>none
 | (_,st)=>(nL st rs).bind (lX (gP st.m 8))
theorem MQ (rs:List RV):DH rs=oE rs:=by
 funext q;obtain⟨o,st⟩:=q
 cases o
 ·simp only[DH,oE];congr 1;funext l;exact(xx st.m 8).2 l
 ·rfl
 ·simp only[DH,oE];congr 1;funext l;exact(xx st.m 8).2 l
theorem NH {S:Sys} {T:pn} {f:FuncId} {rf:RF} (hT:T f=some rf) (az:List V) (hn:az.length≤rf.na):jZ (cw S T) f az=jT S (cw S T) (oE rf.rs) rf.body [] (start (az.map .v) []):=by
 rw[K6 hT az hn,←DE,rX,MQ]
end
end Go.VE
namespace Go.VE
def kY {α σ ε ρ:Type} (step:α→σ→Option (Fw σ ε ρ)):List α→σ→Option (Fw σ ε ρ)
 | [],s=>some (.n s)
 | x::xs,s=>(step x s).bind fun w=>match w with
  | .n s'=>kY step xs s'
  | .x e=>some (.x e)
  | .r b=>some (.r b)
def Fw.tI {ν ε ρ γ:Type} (fn:ν→γ) (fx:ε→γ) (fr:ρ→γ):Fw ν ε ρ→γ
 | .n a=>fn a
 | .x e=>fx e
 | .r b=>fr b
def Fw.sF {ν ε ρ:Type} (eν:ν→Tb aR) (eε:ε→Nat×Tb aR) (eρ:ρ→Tb aR):Fw ν ε ρ→Out×Tb aR
 | .n a=>(.norm,eν a)
 | .x e=>(.exit (eε e).1,(eε e).2)
 | .r b=>(.ret,eρ b)
def sF (q:Out×St):Option (Out×Tb aR):=some (q.1,q.2.m)
section
variable {S:Sys} {c:bJ} {β γ:Type} {Q:Out×St→Option β} {L:Option β} {e:γ→Option β}
noncomputable def vq (S:Sys) (c:bJ) (b:RC):Out×St→Option (Out×Tb aR)
 | (.norm,st)=>jT S c sF b [] st
 | _=>none
theorem FT (ps:List Nat) (a b:RC) (st:St) (x:List V) (m:Tb aR) (hx:x.length=ps.length) :
 f_ ps (bA S c a) (bA S c b) st x m=jT S c (vq S c b) a [] ⟨ta st.g ps (x.map .v),m,st.pin++mF st.g,[],true,0⟩:=by
 unfold f_;rw[if_pos hx,rX]
 cases bA S c a ⟨ta st.g ps (x.map .v),m,st.pin++mF st.g,[],true,0⟩with
 | none=>rfl
 | some q=>
  obtain⟨o,st1⟩:=q
  cases o with
  | norm=>
   simp only[ζb,vq];rw[rX];cases bA S c b st1 <;> rfl
  | _=>rfl
end
end Go.VE
namespace Go.VE
def Le {α:Type} (a b:Option α):Prop:=∀r,a=some r→b=some r
section
variable {α:Type}
theorem Le.refl (a:Option α):Le a a:=fun _ h=>h
theorem Le.of_eq {a b:Option α} (h:b=a):Le a b:=fun _ h2=>h.trans h2
theorem Le.trans {a b d:Option α} (h1:Le a b) (h2:Le b d):Le a d:=fun r h=>h2 r (h1 r h)
theorem Le.none (b:Option α):Le (none:Option α) b:=fun r h=>by cases h
theorem Le.bind {β:Type} {a b:Option α} {f g:α→Option β} (h:Le a b) (hf:∀x,Le (f x) (g x)):Le (a.bind f) (b.bind g):=fun r hr=>by
 obtain⟨x,h1,h2⟩:=ζg.1 hr;rw[h x h1];exact hf x r h2
end
section
variable {S:Sys} {c:bJ} {β γ δ:Type} {Q:Out×St→Option β} {L:Option β} {e:γ→Option β}
theorem DO {dr:Bool} {fr:List Nat} {dst:Option Nat} {now:Bool} {az:List Arg} {st:St} {f:FuncId} {svs args:List SV} {cs:List V} {m:Option δ} {E:δ→List V} (hc:Le (m.bind fun r=>some (E r)) (jZ c f cs)) (hk:S.E.keep f=false) (hs:aY S.N st.g az=some svs) (hf:mU svs=some (f,args))
 (hsh:lX (gP st.m 8) args=some cs) (hl:V.bT 8 cs=true) (ho:((!dr||now)||eE st.m fr args)=true) (hr:∀r,(V.lvl 8 (result (E r))&&((result (E r)).scalar||(cZ args).isSome))=true) :
 Le (m.bind fun r=>some (bW st dst (.v (result (E r))))) (dO S c dr fr ⟨dst,none,now,.c,az,[],[]⟩ st):=by
 intro q hq;obtain⟨r,h1,h2⟩:=ζg.1 hq;have hc':jZ c f cs=(some r).bind fun r=>some (E r):=hc _ (by rw[h1];rfl)
 rw[O7 (m:=some r) hc' hk hs hf hsh hl ho hr];exact h2
theorem JD {σ ε ρ:Type} {f:St→Option (Out×St)} {step:σ→Option (Fw σ ε ρ)} {eσ:σ→St} {eε:ε→Nat×St} {eρ:ρ→St} (h:∀s,Le ((step s).bind fun w=>some (Fw.out eσ eε eρ w)) (f (eσ s))) (s:σ) :
 Le ((aX step s).bind fun w=>some (Fw.out (fun e=>Empty.elim e) eε eρ w)) (lp f (eσ s)):=by
 have key:∀k s r,gK step k s=some r→gD f k (eσ s)=some (Fw.out (fun e=>Empty.elim e) eε eρ r):=by
  intro k
  induction k with
  | zero=>intro s r h;simp[gK]at h
  | succ k ih=>
   intro s r hw;simp only[gK]at hw
   cases hs:step s with
   | none=>rw[hs]at hw;cases hw
   | some w=>
    rw[hs]at hw;have h2:=h s (Fw.out eσ eε eρ w) (by rw[hs];rfl)
    simp only[gD,h2]
    cases w with
    | n a=>exact ih a r hw
    | x e=>cases hw;rfl
    | r b=>cases hw;rfl
 intro r hr;obtain⟨w,h1,h2⟩:=ζg.1 hr;obtain⟨k,hk⟩:=kN.1 h1;cases h2;exact ki.2 ⟨k,key k s w hk⟩
theorem Rw {σ ε ρ:Type} {a:RC} {fs:List Fm} {step:σ→Option (Fw σ ε ρ)} {eσ:σ→St} {eε:ε→Nat×St} {eρ:ρ→St} {s:σ} {fx:ε→Option γ} {fr:ρ→Option γ}
 (hL:L=jT S c Q (.loop a) fs (eσ s)) (h:∀s,Le ((step s).bind fun w=>some (Fw.out eσ eε eρ w)) (jT S c some a [] (eσ s)))
 (hx:∀x,Le ((fx x).bind e) (jU S c Q fs (eε x).1 (eε x).2)) (hr:∀b,Le ((fr b).bind e) (Q (.ret,eρ b))):Le (((aX step s).bind (Fw.elim fx fr)).bind e) L:=by
 subst hL;have h1:jT S c Q (.loop a) fs (eσ s)=(lp (bA S c a) (eσ s)).bind (AM (jS S c Q fs) (jU S c Q fs) (fun st=>Q (.ret,st))):=by
  unfold jT;rw[zN];rfl
 rw[h1];have h2:=JD (step:=step) (f:=bA S c a) (eσ:=eσ) (eε:=eε) (eρ:=eρ) (fun s=>by rw[xm];exact h s) s
 cases hw:aX step s with
 | none=>exact Le.none _
 | some w=>
  have h3:=h2 _ (by rw[hw];rfl)
  rw[h3]
  cases w with
  | n a=>cases a
  | x a=>exact hx a
  | r a=>exact hr a
theorem C_ {α σ ε ρ:Type} {f:List V→Tb aR→Option (Out×Tb aR)} {step:α→σ→Option (Fw σ ε ρ)} {eI:α→List V} {eσ:σ→Tb aR} {eε:ε→Nat×Tb aR} {eρ:ρ→Tb aR}
 (h:∀x s,Le ((step x s).bind fun w=>some (Fw.sF eσ eε eρ w)) (f (eI x) (eσ s))):∀(xs:List α) (s:σ),Le ((kY step xs s).bind fun w=>some (Fw.sF eσ eε eρ w)) (me f (xs.map eI) (eσ s))
 | [],s=>fun r hr=>hr
 | x::xs,s=>by
  simp only[List.map_cons,me,kY]
  cases hs:step x s with
  | none=>exact Le.none _
  | some w=>
   have h2:=h x s (Fw.sF eσ eε eρ w) (by rw[hs];rfl)
   rw[h2]
   cases w with
   | n s'=>simp only[ζb,Fw.sF];exact C_ h xs s'
   | x e=>exact Le.refl _
   | r b=>exact Le.refl _
theorem Sz {α σ ε ρ:Type} {g:Arg} {ps:List Nat} {a b:RC} {fs:List Fm} {f:FuncId} {x y:List V} {items:List α} {eI:α→List V} {step:α→σ→Option (Fw σ ε ρ)} {eσ:σ→Tb aR} {eε:ε→Nat×Tb aR} {eρ:ρ→Tb aR} {gt:Tb SV} {s:σ}
 {fn:σ→Option γ} {fx:ε→Option γ} {fr:ρ→Option γ}
 (hL:L=jT S c Q (.each g ps a b) fs ⟨gt,eσ s,[],[],true,0⟩) (hg:ou S.N gt g=some (.v (.clo f x y))) (hi:S.items f x y=some (items.map eI)) (hl:∀x,(eI x).length=ps.length)
 (h:∀x s,Le ((step x s).bind fun w=>some (Fw.sF eσ eε eρ w)) (jT S c (vq S c b) a [] ⟨ta gt ps ((eI x).map .v),eσ s,mF gt,[],true,0⟩))
 (hn:∀s,Le ((fn s).bind e) (jS S c Q fs ⟨gt,eσ s,[],[],true,0⟩))
 (hx:∀x,Le ((fx x).bind e) (jU S c Q fs (eε x).1 ⟨gt,(eε x).2,[],[],true,0⟩)) (hr:∀b,Le ((fr b).bind e) (Q (.ret,⟨gt,eρ b,[],[],true,0⟩))) :
 Le (((kY step items s).bind (Fw.tI fn fx fr)).bind e) L:=by
 subst hL;have h1:jT S c Q (.each g ps a b) fs ⟨gt,eσ s,[],[],true,0⟩=(bA S c (.each g ps a b) ⟨gt,eσ s,[],[],true,0⟩).bind (AM (jS S c Q fs) (jU S c Q fs) (fun st=>Q (.ret,st))):=by
  unfold jT;rw[zN]
 rw[h1];simp only[bA,hg,hi];have h2:=C_ (step:=step) (f:=f_ ps (bA S c a) (bA S c b) ⟨gt,eσ s,[],[],true,0⟩) (eI:=eI) (eσ:=eσ) (eε:=eε) (eρ:=eρ) (fun x s=>by rw[FT _ _ _ _ _ _ (hl x)];exact h x s) items s
 cases hw:kY step items s with
 | none=>exact Le.none _
 | some w=>
  have h3:=h2 _ (by rw[hw];rfl)
  rw[h3]
  cases w with
  | n a=>exact hn a
  | x a=>exact hx a
  | r a=>exact hr a
end
end Go.VE
namespace Go.VE
inductive Fo where
 | rc (c:RC)
 | ops (dr:Bool) (fr:List Nat) (l:List RO)
 | nx
 | ex (k:Nat)
 | rt
abbrev aS (g:Tb SV) (m:Tb aR):St:=⟨g,m,[],[],true,0⟩
section
variable (S:Sys) (c:bJ) {β:Type} (Q:Out×St→Option β)
noncomputable def rn:Fo→List Fm→St→Option β
 | .rc a,fs,st=>jT S c Q a fs st
 | .ops dr fr l,fs,st=>sY S c dr fr l (jS S c Q fs) st
 | .nx,fs,st=>jS S c Q fs st
 | .ex k,fs,st=>jU S c Q fs k st
 | .rt,_,st=>Q (.ret,st)
noncomputable def uQ:Fo→List Fm→St→Option (Fo×List Fm×St)
 | .rc .skip,fs,st=>some (.nx,fs,st)
 | .rc (.ops l),fs,st=>some (.ops false [] l,fs,st)
 | .rc (.mm l),fs,st=>some (.ops true [] l,fs,st)
 | .rc (.seq a b),fs,st=>some (.rc a,.seq b::fs,st)
 | .rc (.cond y a b),fs,st=>match ou S.N st.g y with
  | some (.v (.bool true))=>some (.rc a,fs,st)
  | some (.v (.bool false))=>some (.rc b,fs,st)
  | _=>none
 | .rc (.block id a),fs,st=>some (.rc a,.blk id::fs,st)
 | .rc (.exit k),fs,st=>some (.ex k,fs,st)
 | .rc .ret,fs,st=>some (.rt,fs,st)
 | .rc (.gh g a),fs,st=>match ghost g st with
  | some st'=>some (.rc a,fs,st')
  | none=>none
 | .rc (.hg a g),fs,st=>some (.rc a,.gst g::fs,st)
 | .rc (.loop _),_,_=>none
 | .rc (.each ..),_,_=>none
 | .ops _ _ [],fs,st=>some (.nx,fs,st)
 | .ops dr fr (⟨d,gd,now,k,az,dd,[]⟩::r),fs,st=>match dO S c dr fr ⟨d,gd,now,k,az,[],[]⟩ st with
  | some st'=>some (.ops dr (if dr then nW fr ⟨d,gd,now,k,az,[],[]⟩else fr) r,fs,mg dd st')
  | none=>none
 | .ops false fr (⟨d,gd,now,k,az,dd,x::xs⟩::r),fs,st=>match ghost x st with
  | some st'=>some (.ops false fr (⟨d,gd,now,k,az,dd,xs⟩::r),fs,st')
  | none=>none
 | .ops true _ (⟨_,_,_,_,_,_,_::_⟩::_),_,_=>none
 | .nx,.seq b::fs,st=>some (.rc b,fs,st)
 | .nx,.blk _::fs,st=>some (.nx,fs,st)
 | .nx,.gst g::fs,st=>match ghost g st with
  | some st'=>some (.nx,fs,st')
  | none=>none
 | .nx,[],_=>none
 | .ex k,.seq _::fs,st=>some (.ex k,fs,st)
 | .ex k,.blk id::fs,st=>some (if k=id then .nx else .ex k,fs,st)
 | .ex k,.gst _::fs,st=>some (.ex k,fs,st)
 | .ex _,[],_=>none
 | .rt,_,_=>none
noncomputable def fH:Nat→Fo→List Fm→St→Option (Fo×List Fm×St)
 | 0,fo,fs,st=>some (fo,fs,st)
 | n+1,fo,fs,st=>match uQ S c fo fs st with
  | some (fo',fs',st')=>fH n fo' fs' st'
  | none=>none
end
section
variable {S:Sys} {c:bJ} {β γ δ:Type} {Q:Out×St→Option β} {e:γ→Option β}
theorem Lk {fo fo':Fo} {fs fs':List Fm} {st st':St} (h:uQ S c fo fs st=some (fo',fs',st')):rn S c Q fo fs st=rn S c Q fo' fs' st':=by
 cases fo with
 | rc a=>
  cases a with
  | cond y a b=>
   simp only[uQ]at h;split at h
   ·rename_i hs;cases h;simp only[rn,jT,kO,hs,au,if_true]
   ·rename_i hs;cases h;simp only[rn,jT,kO,hs,au];rfl
   ·cases h
  | gh g a=>
   simp only[uQ]at h;split at h
   ·rename_i hs;cases h;simp only[rn,jT,kO,hs,ζb]
   ·cases h
  | loop a=>cases h
  | each g ps a b=>cases h
  | seq a b=>cases h;simp only[rn,jT,kO,jS,jU]
  | block id a=>cases h;simp only[rn,jT,kO,jS,jU]
  | hg a g=>cases h;simp only[rn,jT,kO,jS,jU]
  | _=>cases h;simp only[rn,jT,kO]
 | ops dr fr l=>
  cases l with
  | nil=>cases h;simp only[rn,sY]
  | cons o r=>
   obtain⟨d,gd,now,k,az,dd,pre⟩:=o
   cases pre with
   | nil=>
    simp only[uQ]at h;split at h
    ·rename_i hs;cases h;simp only[rn,sY,yZ,RO.strip,ζb,hs]
    ·cases h
   | cons x xs=>
    cases dr with
    | true=>cases h
    | false=>
     simp only[uQ]at h;split at h
     ·rename_i hs;cases h;simp only[rn,sY,RO.strip,yT,pE,Bool.false_eq_true,if_false,hs,ζb]
     ·cases h
 | nx=>
  cases fs with
  | nil=>cases h
  | cons f fs=>
   cases f with
   | seq b=>cases h;simp only[rn,jT,jS]
   | blk id=>cases h;simp only[rn,jS]
   | gst g=>
    simp only[uQ]at h;split at h
    ·rename_i hs;cases h;simp only[rn,jS,hs,ζb]
    ·cases h
 | ex k=>
  cases fs with
  | nil=>cases h
  | cons f fs=>
   cases f with
   | seq b=>cases h;simp only[rn,jU]
   | blk id=>
    cases h;simp only[rn,jU]
    by_cases hk:k=id
    ·simp only[if_pos hk,rn]
    ·simp only[if_neg hk,rn]
   | gst g=>cases h;simp only[rn,jU]
 | rt=>cases h
theorem lG:∀{n:Nat} {fo fo':Fo} {fs fs':List Fm} {st st':St},fH S c n fo fs st=some (fo',fs',st')→rn S c Q fo fs st=rn S c Q fo' fs' st'
 | 0,fo,fo',fs,fs',st,st',h=>by cases h;rfl
 | n+1,fo,fo',fs,fs',st,st',h=>by
  simp only[fH]at h;split at h
  ·rename_i a b d hs;rw[Lk hs];exact lG h
  ·cases h
theorem AH {n:Nat} {fo fo':Fo} {fs fs':List Fm} {st st':St} {m:Option β} (h:fH S c n fo fs st=some (fo',fs',st')) (h2:Le m (rn S c Q fo' fs' st')):Le m (rn S c Q fo fs st):=by
 rw[lG h];exact h2
theorem Un {n:Nat} {fo fo':Fo} {fs fs':List Fm} {st st':St} {r:γ} (h:fH S c n fo fs st=some (fo',fs',st')) (h2:rn S c Q fo' fs' st'=e r):Le ((some r).bind e) (rn S c Q fo fs st):=by
 rw[lG h];exact Le.of_eq h2
theorem LO {m:Option δ} {f:δ→Option γ} {L:Option β} (k:δ→Option β) (h2:Le (m.bind k) L) (h1:∀r,Le ((f r).bind e) (k r)):Le ((m.bind f).bind e) L:=by
 intro r hr
 cases m with
 | none=>cases hr
 | some x=>exact h2 r (h1 x r hr)
theorem Uc {n:Nat} {fo:Fo} {fs fs':List Fm} {st0:St} {dr:Bool} {q l:List RO} {fr:List Nat} {st:St} {d:Option Nat} {gd:Option (Nat×Bool)} {now:Bool} {k:K} {az:List Arg} {dd:List Nat} {m:Option δ} {g:δ→St} {f:δ→Option γ}
 (hL:fH S c n fo fs st0=some (.ops dr fr q,fs',st)) (hq:q=⟨d,gd,now,k,az,dd,[]⟩::l) (hg:wanted st.g gd=some true)
 (hs:Le (m.bind fun x=>some (g x)) (dO S c dr fr ⟨d,none,now,k,az,[],[]⟩ st))
 (h:∀x,m=some x→Le ((f x).bind e) (rn S c Q (.ops dr (if dr then nW fr ⟨d,gd,now,k,az,[],[]⟩else fr) l) fs' (mg dd (g x)))):Le ((m.bind f).bind e) (rn S c Q fo fs st0):=by
 rw[lG hL];subst hq;simp only[rn,sY,RO.strip,yZ,ζb];rw[Jg hg]
 cases m with
 | none=>exact Le.none _
 | some x=>rw[hs (g x) rfl];exact h x rfl
theorem Mg {n:Nat} {fo:Fo} {fs fs':List Fm} {st0:St} {dr:Bool} {q l:List RO} {fr:List Nat} {st st':St} {d:Option Nat} {gd:Option (Nat×Bool)} {now:Bool} {k:K} {az:List Arg} {dd:List Nat} {m:Option β}
 (hL:fH S c n fo fs st0=some (.ops dr fr q,fs',st)) (hq:q=⟨d,gd,now,k,az,dd,[]⟩::l) (hg:wanted st.g gd=some true)
 (hs:dO S c dr fr ⟨d,none,now,k,az,[],[]⟩ st=some st')
 (h:Le m (rn S c Q (.ops dr (if dr then nW fr ⟨d,gd,now,k,az,[],[]⟩else fr) l) fs' (mg dd st'))):Le m (rn S c Q fo fs st0):=by
 rw[lG hL];subst hq;simp only[rn,sY,RO.strip,yZ,ζb];rw[Jg hg,hs];exact h
theorem Dv {n:Nat} {fo:Fo} {fs0:List Fm} {st:St} {σ ε ρ:Type} {a:RC} {fs:List Fm} {step:σ→Option (Fw σ ε ρ)} {eσ:σ→St} {eε:ε→Nat×St} {eρ:ρ→St} {s:σ} {fx:ε→Option γ} {fr:ρ→Option γ}
 (hL:fH S c n fo fs0 st=some (.rc (.loop a),fs,eσ s)) (h:∀s,Le ((step s).bind fun w=>some (Fw.out eσ eε eρ w)) (rn S c some (.rc a) [] (eσ s)))
 (hx:∀x,Le ((fx x).bind e) (rn S c Q (.ex (eε x).1) fs (eε x).2)) (hr:∀b,Le ((fr b).bind e) (Q (.ret,eρ b))):Le (((aX step s).bind (Fw.elim fx fr)).bind e) (rn S c Q fo fs0 st):=by
 rw[lG hL];exact Rw (L:=rn S c Q (.rc (.loop a)) fs (eσ s)) rfl h hx hr
theorem Pk {n:Nat} {fo:Fo} {fs0:List Fm} {st:St} {α σ ε ρ:Type} {g:Arg} {ps:List Nat} {a b:RC} {fs:List Fm} {f:FuncId} {x y:List V} {items:List α} {eI:α→List V} {step:α→σ→Option (Fw σ ε ρ)} {eσ:σ→Tb aR} {eε:ε→Nat×Tb aR} {eρ:ρ→Tb aR} {gt:Tb SV} {s:σ}
 {fn:σ→Option γ} {fx:ε→Option γ} {fr:ρ→Option γ}
 (hL:fH S c n fo fs0 st=some (.rc (.each g ps a b),fs,aS gt (eσ s))) (hg:ou S.N gt g=some (.v (.clo f x y))) (hi:S.items f x y=some (items.map eI)) (hl:∀x,(eI x).length=ps.length)
 (h:∀x s,Le ((step x s).bind fun w=>some (Fw.sF eσ eε eρ w)) (rn S c (vq S c b) (.rc a) [] ⟨ta gt ps ((eI x).map .v),eσ s,mF gt,[],true,0⟩))
 (hn:∀s,Le ((fn s).bind e) (rn S c Q .nx fs (aS gt (eσ s))))
 (hx:∀x,Le ((fx x).bind e) (rn S c Q (.ex (eε x).1) fs (aS gt (eε x).2))) (hr:∀b,Le ((fr b).bind e) (Q (.ret,aS gt (eρ b)))) :
 Le (((kY step items s).bind (Fw.tI fn fx fr)).bind e) (rn S c Q fo fs0 st):=by
 rw[lG hL];exact Sz (L:=rn S c Q (.rc (.each g ps a b)) fs (aS gt (eσ s))) rfl hg hi hl h hn hx hr
theorem PY {b:RC} {st st':St} {m:Option (Out×Tb aR)} {fs:List Fm} {n:Nat} {fo:Fo} (h:fH S c n fo fs st=some (.nx,[],st')) (h2:Le m (rn S c sF (.rc b) [] st')):Le m (rn S c (vq S c b) fo fs st):=by
 rw[lG h];exact h2
theorem Sa {α:Type} {n:Nat} {fo fo':Fo} {fs fs':List Fm} {st:St} {A:Option α→St} {o:Option α} {f:α→Option γ} (h:fH S c n fo fs st=some (fo',fs',A o))
 (h2:∀x,o=some x→Le ((f x).bind e) (rn S c Q fo' fs' (A (some x)))):Le ((o.bind f).bind e) (rn S c Q fo fs st):=by
 rw[lG h]
 cases o with
 | none=>exact Le.none _
 | some x=>exact h2 x rfl
theorem Ue {T:pn} {f:FuncId} {rf:RF} {az:List V} {m:Option (List V)} (hT:T f=some rf) (hn:az.length≤rf.na) (h:Le m (rn S (cw S T) (oE rf.rs) (.rc rf.body) [] (start (az.map .v) []))):Le m (jZ (cw S T) f az):=by
 rw[NH hT az hn];exact h
end
section
variable {α:Type} [aC α]
abbrev cv (x:α):SV:=.v (enc x)
abbrev cp (x:α):SV:=.v (.fptr (cells x))
abbrev bx (x:α):aR:=.box ((cells x).map .v)
end
end Go.VE
namespace Go.VE
structure jH (S:Sys) (c:bJ) {α δ:Type} (fn:FuncId) (A:α→List V) (E:δ→List V) (p:α→Option δ) (sc:Bool):Prop where
 k:S.E.keep fn=false
 h:∀z,Le ((p z).bind fun r=>some (E r)) (jZ c fn (A z))
 l:∀z,V.bT 8 (A z)=true
 r:∀r,V.lvl 8 (result (E r))=true
 s:sc=true→∀r,(result (E r)).scalar=true
section
variable {S:Sys} {c:bJ} {β γ δ α:Type} {Q:Out×St→Option β} {e:γ→Option β} {fo:Fo} {fs:List Fm} {st0:St} {l:List RO} {d:Option Nat} {gd:Option (Nat×Bool)} {now:Bool} {az:List Arg} {dd:List Nat}
noncomputable abbrev pR (S:Sys) (c:bJ) (Q:Out×St→Option β) (dr:Bool) (fr:List Nat) (d:Option Nat) (k:K) (l:List RO) (fs:List Fm) (dd:List Nat) (st:St):Option β:=
 rn S c Q (.ops dr (if dr then(match k with|.p _|.r _=>fr|_=>match d with|some d=>d::fr|none=>fr)else fr) l) fs (mg dd st)
theorem Be (fr:List Nat) (k:K):nW fr ⟨d,gd,now,k,az,[],[]⟩=(match k with|.p _|.r _=>fr|_=>match d with|some d=>d::fr|none=>fr):=by
 cases k <;> cases d <;> rfl
theorem A4 {n:Nat} {dr:Bool} {fr:List Nat} {q:List RO} {fs':List Fm} {st:St} {k:K} {m:Option δ} {g:δ→St} {f:δ→Option γ}
 (hL:fH S c n fo fs st0=some (.ops dr fr q,fs',st)) (hq:q=⟨d,gd,now,k,az,dd,[]⟩::l) (hg:wanted st.g gd=some true)
 (hs:Le (m.bind fun x=>some (g x)) (dO S c dr fr ⟨d,none,now,k,az,[],[]⟩ st))
 (h:∀x,m=some x→Le ((f x).bind e) (pR S c Q dr fr d k l fs' dd (g x))):Le ((m.bind f).bind e) (rn S c Q fo fs st0):=
 Uc hL hq hg hs (fun x hx=>by rw[Be];exact h x hx)
theorem oe {n:Nat} {dr:Bool} {fr:List Nat} {q:List RO} {fs':List Fm} {st st':St} {k:K} {m:Option β}
 (hL:fH S c n fo fs st0=some (.ops dr fr q,fs',st)) (hq:q=⟨d,gd,now,k,az,dd,[]⟩::l) (hg:wanted st.g gd=some true)
 (hs:dO S c dr fr ⟨d,none,now,k,az,[],[]⟩ st=some st') (h:Le m (pR S c Q dr fr d k l fs' dd st')):Le m (rn S c Q fo fs st0):=
 Mg hL hq hg hs (by rw[Be];exact h)
section
variable [aC α]
theorem KD (n:Nat) (dr:Bool) (fr:List Nat) (q:List RO) (fs':List Fm) (st:St) (k:IntKind) {sz:Nat} {s:Sl α} {i:Int} {f:α→Option γ} (hq:q=⟨d,gd,now,.p (.idxS sz),az,dd,[]⟩::l)
 (hL:(fH S c n fo fs st0,wanted st.g gd,aY S.N st.g az,sz)=(some (.ops dr fr q,fs',st),some true,some [.v (aW s),.v (.int k i)],aC.size α))
 (h:∀x,idx s i=some x→Le ((f x).bind e) (pR S c Q dr fr d (.p (.idxS sz)) l fs' dd (bW st d (cp x)))):Le (((idx s i).bind f).bind e) (rn S c Q fo fs st0):=by
 simp only[ζc]at hL;exact A4 hL.1 hq hL.2.1 (Le.of_eq (Md hL.2.2.1 hL.2.2.2)) h
theorem PO (n:Nat) (dr:Bool) (fr:List Nat) (q:List RO) (fs':List Fm) (st:St) (s:Sl α) {m:Option β} (hq:q=⟨d,gd,now,.p .lenSl,az,dd,[]⟩::l)
 (hL:(fH S c n fo fs st0,wanted st.g gd,aY S.N st.g az)=(some (.ops dr fr q,fs',st),some true,some [.v (aW s)]))
 (h:Le m (pR S c Q dr fr d (.p .lenSl) l fs' dd (bW st d (.v (.int .i64 s.l.length))))):Le m (rn S c Q fo fs st0):=by
 simp only[ζc]at hL;exact oe hL.1 hq hL.2.1 (LW hL.2.2) h
end
section
variable {q:List RO} {fs':List Fm}
end
theorem CY (m:Tb aR) (n:Nat) (l:List V):lX (gP m n) (l.map .v)=some l:=by rw[←(xx m n).2,s8]
variable {A:α→List V} {E:δ→List V} {p:α→Option δ} {fn:FuncId} {sc:Bool}
end
end Go.VE
namespace Go.VE
abbrev iv (n:Int):SV:=.v (.int .i64 n)
abbrev bv (b:Bool):SV:=.v (.bool b)
abbrev len {α:Type} (s:Sl α):Int:=((List.length (Sl.l s):Nat):Int)
abbrev o1 (d:Nat) (a:Arg) (dd:List Nat):RO:=⟨some d,none,false,.p .id,[a],dd,[]⟩
abbrev o2 (d:Nat) (k:K) (az:List Arg) (dd:List Nat):RO:=⟨some d,none,false,k,az,dd,[]⟩
abbrev o3 (d s:Nat) (b:Bool) (k:K) (az:List Arg) (dd:List Nat):RO:=⟨some d,some (s,b),false,k,az,dd,[]⟩
def E3 (a b:aa):Bool:=[a.proc,a.index]==[b.proc,b.index]
mutual
theorem wz:∀{n:Nat} {x:V},V.lvl n x=true→V.lvl (n+1) x=true
 | 0,.fsl ..,h=>by simp[V.lvl]at h
 | 0,.fptr ..,h=>by simp[V.lvl]at h
 | 0,.fmap ..,h=>by simp[V.lvl]at h
 | 0,.agg ..,h=>by simp[V.lvl]at h
 | 0,.tup ..,h=>by simp[V.lvl]at h
 | 0,.clo ..,h=>by simp[V.lvl]at h
 | n+1,.fsl es xs,h=>by simp only[V.lvl]at h ⊢;exact zd h
 | n+1,.fptr cs,h=>by simp only[V.lvl]at h ⊢;exact o6 h
 | n+1,.fmap kvs,h=>by simp only[V.lvl]at h ⊢;exact AY h
 | n+1,.agg cs,h=>by simp only[V.lvl]at h ⊢;exact o6 h
 | n+1,.tup cs,h=>by simp only[V.lvl]at h ⊢;exact o6 h
 | n+1,.clo f a b,h=>by simp only[V.lvl,ζh]at h ⊢;exact⟨o6 h.1,o6 h.2⟩
 | 0,.bool _,_|0,.int ..,_|0,.str _,_|0,.fq,_|0,.eO,_|0,.oU,_|0,.cH,_|0,.aF,_|0,.hsl ..,_|0,.hptr ..,_|0,.yld _,_|0,.hmap _,_=>rfl
 | _+1,.bool _,_|_+1,.int ..,_|_+1,.str _,_|_+1,.fq,_|_+1,.eO,_|_+1,.oU,_|_+1,.cH,_|_+1,.aF,_|_+1,.hsl ..,_|_+1,.hptr ..,_|_+1,.yld _,_|_+1,.hmap _,_=>rfl
theorem o6:∀{n:Nat} {x:List V},V.bT n x=true→V.bT (n+1) x=true
 | n,[],_=>iI _
 | n,a::l,h=>by rw[gb,ζh]at h ⊢;exact⟨wz h.1,o6 h.2⟩
theorem zd:∀{n:Nat} {x:List (List V)},V.kE n x=true→V.kE (n+1) x=true
 | n,[],_=>by simp only[V.kE]
 | n,a::l,h=>by simp only[V.kE,ζh]at h ⊢;exact⟨o6 h.1,zd h.2⟩
theorem AY:∀{n:Nat} {x:List (V×V)},V.pO n x=true→V.pO (n+1) x=true
 | n,[],_=>by simp only[V.pO]
 | n,(k,v)::l,h=>by simp only[V.pO,ζh]at h ⊢;exact⟨⟨wz h.1.1,wz h.1.2⟩,AY h.2⟩
end
section
variable {α:Type} [aC α]
theorem qP (h:aC.agg α=false) (a:α):cells a=[enc a]:=by
 have hl:(cells a).length=1:=by rw[show (cells a).length=_ from aC.len a,aC.plain h]
 unfold enc;rw[if_neg (by simp[h])]
 match hc:cells a,hl with
 | [x],_=>rfl
theorem uD (h:aC.agg α=true) (a:α):enc a=.agg (cells a):=by unfold enc;rw[if_pos h]
theorem M1 {n:Nat} [Lv n α] (a:α):V.lvl (n+1) (enc a)=true:=by
 have h:=Lv.lv (n:=n) a
 cases ha:aC.agg α with
 | true=>rw[uD ha];exact h
 | false=>
  rw[qP ha,gb,ζh]at h;exact wz h.1
theorem OD {n:Nat} [Lv n α] (a:α):V.lvl (n+1) (.fptr (cells a))=true:=Lv.lv a
theorem iG (a:α):V.good (enc a)=true:=by
 have h:V.bD (cells a)=true:=aC.good a
 cases ha:aC.agg α with
 | true=>rw[uD ha];exact h
 | false=>
  rw[qP ha]at h;simp only[V.bD,Bool.and_true]at h;exact h
theorem kS (s:Sl α):V.one (enc s)=true:=Bz s
theorem lz {n:Nat} [Lv n α] (s:Sl α):V.lvl (n+1) (enc s)=true:=Bb s
theorem Js (s:α) (h:aC.agg α=false):V.one (enc s)=true:=by
 have:=aC.one s;rw[show aC.cells s=cells s from rfl,qP h]at this;simpa using this
end
instance {α:Type} [aC α]:aC (Option α) where
 cells o:=[match o with|none=>.fq|some x=>.fptr (cells x)]
 agg:=false
 size:=1
 len _:=rfl
 good o:=by
  cases o with
  | none=>rfl
  | some x=>simp only[V.bD,V.good,Bool.and_true];exact aC.good x
 one o:=by cases o <;> rfl
 plain _:=rfl
instance {n:Nat} {α:Type} [aC α] [Lv n α]:Lv (n+1) (Option α):=⟨fun o=>by
 cases o with
 | none=>rfl
 | some x=>
  show V.bT (n+1) [.fptr (cells x)]=true;rw[gb,iI,Bool.and_true];exact Lv.lv x⟩
structure U8 where
 v:Int
 deriving Inhabited,DecidableEq
instance:aC U8 where
 cells n:=[.int .u8 n.v]
 agg:=false
 size:=1
 len _:=rfl
 good _:=rfl
 one _:=rfl
 plain _:=rfl
instance {n:Nat}:Lv n U8:=⟨fun _=>by cases n <;> rfl⟩
structure TX where
 v:Int
 deriving Inhabited,DecidableEq
instance:aC TX where
 cells n:=[.int .u64 n.v]
 agg:=false
 size:=1
 len _:=rfl
 good _:=rfl
 one _:=rfl
 plain _:=rfl
instance {n:Nat}:Lv n TX:=⟨fun _=>by cases n <;> rfl⟩
structure Ua where
 v:Int
 deriving Inhabited,DecidableEq
instance:aC Ua where
 cells n:=[.int .u32 n.v]
 agg:=false
 size:=1
 len _:=rfl
 good _:=rfl
 one _:=rfl
 plain _:=rfl
instance {n:Nat}:Lv n Ua:=⟨fun _=>by cases n <;> rfl⟩
structure SI where
 v:Int
 deriving Inhabited,DecidableEq
instance:aC SI where
 cells n:=[.int .i32 n.v]
 agg:=false
 size:=1
 len _:=rfl
 good _:=rfl
 one _:=rfl
 plain _:=rfl
instance {n:Nat}:Lv n SI:=⟨fun _=>by cases n <;> rfl⟩
structure oP (S:Sys) (c:bJ) {α δ:Type} (g:FuncId) (e:List V) (A:α→List V) (R:δ→List V) (p:α→Option δ):Prop where
 f:jH S c g (fun z=>A z++e) R p true
 d:V.bT 7 e=true
theorem oP.of {S:Sys} {c:bJ} {α α' δ:Type} {fn:FuncId} {e:List V} {A:α→List V} {A':α'→List V} {E:δ→List V} {P:α→Option δ} {p:α'→Option δ} (F:jH S c fn A E P true) (ι:α'→α)
 (hA:∀z,A (ι z)=A' z++e) (hp:∀z,P (ι z)=p z) (hd:V.bT 7 e=true):oP S c fn e A' E p where
 f:={ k:=F.k,h:=fun z=>by rw[←hp,←hA];exact F.h (ι z),l:=fun z=>by rw[←hA];exact F.l (ι z),r:=F.r,s:=F.s }
 d:=hd
section
variable {S:Sys} {c:bJ} {β γ δ α:Type} {Q:Out×St→Option β} {e:γ→Option β} {fo:Fo} {fs:List Fm} {st0:St} {l:List RO} {d:Option Nat} {gd:Option (Nat×Bool)} {now:Bool} {az:List Arg} {dd:List Nat}
theorem mI {α:Type} [aC α] (a:α):V.cells (enc a)=cells a:=by
 cases ha:aC.agg α with
 | true=>rw[uD ha];rfl
 | false=>
  have h1:V.one (enc a)=true:=Js a ha;rw[qP ha];cases h:enc a <;> first|rfl|(rw[h]at h1;cases h1)
theorem oW {α:Type} [aC α] (a:α):(cells a).all V.one=true:=aC.one a
theorem eB {α:Type} [aC α] (a:α):(cells a).length=aC.size α:=aC.len a
theorem Ast [aC α] (n:Nat) (dr:Bool) (fr:List Nat) (q:List RO) (fs':List Fm) (st:St) (u o:Nat) (x:α) (cs cs':List SV) {sz:Nat} {m:Option β} (hq:q=⟨d,gd,now,.l (.store sz),az,dd,[]⟩::l)
 (hL:(fH S c n fo fs st0,wanted st.g gd,aY S.N st.g az,aj st.m u,(!dr||now),sz,Nat.ble (o+sz) cs.length,cs.take o++(cells x).map .v++cs.drop (o+sz))=(some (.ops dr fr q,fs',st),some true,some [.ptr u o,cv x],some (.box cs),true,aC.size α,true,cs'))
 (h:Le m (pR S c Q dr fr d (.l (.store sz)) l fs' dd (bW { st with m:=aT st.m u (.box cs') } d (.v .undef)))):Le m (rn S c Q fo fs st0):=by
 simp only[ζc]at hL;obtain⟨h1,h2,h3,h4,h5,h6,h7,h8⟩:=hL;refine oe h1 hq h2 ?_ h;rw[tJ,h3];subst h6;have h9:=Nat.le_of_ble_eq_true h7;simp only[ζb,h5,if_true,l_,h4,putCells,mI,eB,oW,h9,and_self,h8,Option.map_some]
theorem wU {α:Type} [aC α]:∀(xs:List α) (pre:List (List V)) (suf:List (List V)),suf.length=xs.length→fm (aC.size α) (pre++suf) ((List.range' pre.length xs.length).zip (xs.map enc))=some (pre++rows xs)
 | [],pre,suf,h=>by
  have:suf=[]:=List.eq_nil_of_length_eq_zero h;subst this;rfl
 | x::xs,pre,s::suf,h=>by
  simp only[List.length_cons,List.range'_succ,List.map_cons,List.zip_cons_cons,fm,mI,eB,oW];rw[if_pos ⟨trivial,by simp,trivial⟩]
  have:=wU xs (pre++[cells x]) suf (by simpa using h)
  simp only[ζi,List.length_cons,List.length_nil,Nat.zero_add]at this;have e:(pre++s::suf).set pre.length (cells x)=pre++[cells x]++suf:=by simp
  rw[e,this];simp[rows]
theorem UE [aC α] (n:Nat) (dr:Bool) (fr:List Nat) (q:List RO) (fs':List Fm) (st:St) (xs:List α) {u sz ln:Nat} {zero:List V} {ix:List Nat} {m:Option β} (hq:q=⟨some u,gd,now,.a (.buildSl sz ln zero ix),az,dd,[]⟩::l)
 (h4:st.new u=true) (hL:(fH S c n fo fs st0,wanted st.g gd,aY S.N st.g az,sz,ln,ix)=(some (.ops dr fr q,fs',st),some true,some ((xs.map enc).map .v),aC.size α,xs.length,List.range' 0 xs.length))
 (h:Le m (pR S c Q dr fr (some u) (.a (.buildSl sz ln zero ix)) l fs' dd { st with g:=aT st.g u (.own u),m:=aT st.m u (bP (.row xs)) })):Le m (rn S c Q fo fs st0):=by
 simp only[ζc]at hL;obtain⟨h1,h2,h3,h5,h6,h7⟩:=hL;subst h5 h6 h7;refine oe h1 hq h2 ?_ h;rw[Am,h3];simp only[ζb,h4,if_true,mC,oC,List.length_range',List.length_map,if_true];have:=wU xs [] (List.replicate xs.length zero) (by simp)
 simp only[List.nil_append,List.length_nil]at this;rw[this];rfl
theorem Uv [aC α] (n:Nat) (dr:Bool) (fr:List Nat) (q:List RO) (fs':List Fm) (st:St) (x:α) (vs:List V) {z:List V} {pl:List (Nat×Nat)} {m:Option β} (hq:q=⟨d,gd,now,.p (.build z pl),az,dd,[]⟩::l)
 (hp:jq z pl vs=some (cells x)) (ha:aC.agg α=true)
 (hL:(fH S c n fo fs st0,wanted st.g gd,aY S.N st.g az)=(some (.ops dr fr q,fs',st),some true,some (vs.map .v)))
 (h:Le m (pR S c Q dr fr d (.p (.build z pl)) l fs' dd (bW st d (cv x)))):Le m (rn S c Q fo fs st0):=by
 simp only[ζc]at hL;refine oe hL.1 hq hL.2.1 (AU hL.2.2 rfl ?_) h;unfold iL;rw[oC];simp only[J8,hp,ζb,Option.map_some];show some (SV.v (.agg (cells x)))=some (.v (enc x));rw[uD ha]
section
variable [aC α]
theorem Uh (n:Nat) (dr:Bool) (fr:List Nat) (q:List RO) (fs':List Fm) (st:St) (lo hi:Bool) (bs:List V) {sz:Nat} {s:Sl α} {a b:Option Int} {f:Sl α→Option γ} (hq:q=⟨d,gd,now,.p (.slice sz lo hi),az,dd,[]⟩::l)
 (hL:(fH S c n fo fs st0,wanted st.g gd,aY S.N st.g az,jc lo hi bs,sz)=(some (.ops dr fr q,fs',st),some true,some (.v (aW s)::bs.map .v),some (a,b),aC.size α))
 (h:∀x,dZ s a b=some x→Le ((f x).bind e) (pR S c Q dr fr d (.p (.slice sz lo hi)) l fs' dd (bW st d (.v (aW x))))):Le (((dZ s a b).bind f).bind e) (rn S c Q fo fs st0):=by
 simp only[ζc]at hL;refine A4 hL.1 hq hL.2.1 (Le.of_eq ?_) h;have hy:aY S.N st.g az=some ((aW s::bs).map .v):=hL.2.2.1;unfold dO mj;simp only[wanted,eD,hy];have hp:iL S.N st.m (.slice sz lo hi) ((aW s::bs).map .v)=(dZ s a b).bind fun x=>some (.v (aW x)):=by
  unfold iL;rw[oC];simp only[ai,hL.2.2.2.1,ζb,GK s a b sz hL.2.2.2.2];cases dZ s a b <;> rfl
 simp only[List.map_cons]at hp ⊢;rw[hp];cases dZ s a b <;> rfl
def lJ (s:Sl α) (lo hi:Option Int):Option (Sl α):=
 match s with
 | .nil|.emp=>none
 | .row x|.part x=>(cD x.length lo hi).map fun (l,h)=>.part ((x.take h).drop l)
theorem Sv (n:Nat) (fr:List Nat) (q:List RO) (fs':List Fm) (st:St) (lo hi:Bool) (u:Nat) (bs:List V) {t sz:Nat} {s:Sl α} {a b:Option Int} {f:Sl α→Option γ} (hq:q=⟨some t,gd,now,.p (.slice sz lo hi),az,dd,[]⟩::l)
 (h7:St.new { st with m:=cK u st.m } t=true) (hL:(fH S c n fo fs st0,wanted st.g gd,aY S.N st.g az,jc lo hi bs,aj st.m u,sz)=(some (.ops false fr q,fs',st),some true,some (.own u::bs.map .v),some (a,b),some (bP s),aC.size α))
 (h:∀x,lJ s a b=some x→Le ((f x).bind e) (pR S c Q false fr (some t) (.p (.slice sz lo hi)) l fs' dd { st with g:=aT st.g t (.own t),m:=aT (cK u st.m) t (bP x) })):Le (((lJ s a b).bind f).bind e) (rn S c Q fo fs st0):=by
 simp only[ζc]at hL;refine A4 hL.1 hq hL.2.1 (Le.of_eq ?_) h;obtain⟨_,_,h3,h4,h5,h6⟩:=hL;subst h6;unfold dO mj;simp only[wanted,eD,h3,Bool.false_eq_true,if_false,vO,oC,h5,h4,ζb];have hn:(aj st.m u).isSome:=by rw[h5];rfl
 cases s with
 | nil=>simp[lJ,bP,Sl.k,br]
 | emp=>simp[lJ,bP,Sl.k,br]
 | row x=>
  simp only[bP,Sl.k,Sl.l,br,lJ,dU,and_self,if_true,h4,ζb]
  cases cD x.length a b with
  | none=>rfl
  | some r=>simp[h7,bW,rows,List.map_take,List.map_drop]
 | part x=>
  simp only[bP,Sl.k,Sl.l,br,lJ,dU,and_self,if_true,h4,ζb]
  cases cD x.length a b with
  | none=>rfl
  | some r=>simp[h7,bW,rows,List.map_take,List.map_drop]
end
end
end Go.VE
namespace Go.VE
structure bK (n:Nat) (α:Type) where
 l:List α
 len:l.length=n
theorem JM {α:Type} [aC α] (l:List α):(l.map (cells (α:=α))).flatten.length=l.length*aC.size α:=by
 induction l with
 | nil=>simp
 | cons a l ih=>simp only[List.map_cons,List.flatten_cons,ζi,ih,eB,List.length_cons,Nat.add_mul,Nat.one_mul,Nat.add_comm]
theorem HF {α:Type} [aC α] (l:List α):V.bD (l.map (cells (α:=α))).flatten=true:=by
 induction l with
 | nil=>rfl
 | cons a l ih=>
  simp only[List.map_cons,List.flatten_cons];have h:∀(x y:List V),V.bD x=true→V.bD y=true→V.bD (x++y)=true:=by
   intro x
   induction x with
   | nil=>intro y _ h;exact h
   | cons b x ih2=>intro y h1 h2;simp only[V.bD,ζh,List.cons_append]at h1 ⊢;exact⟨h1.1,ih2 y h1.2 h2⟩
  exact h _ _ (aC.good a) ih
theorem CM {n:Nat}:∀{x y:List V},V.bT n x=true→V.bT n y=true→V.bT n (x++y)=true
 | [],_,_,h=>h
 | a::x,y,h1,h2=>by
  simp only[gb,ζh,List.cons_append]at h1 ⊢;exact⟨h1.1,CM h1.2 h2⟩
theorem K9 {n:Nat} {α:Type} [aC α] [Lv n α] (l:List α):V.bT n (l.map (cells (α:=α))).flatten=true:=by
 induction l with
 | nil=>exact iI n
 | cons a l ih=>simp only[List.map_cons,List.flatten_cons];exact CM (Lv.lv a) ih
instance {n:Nat} {α:Type} [aC α]:aC (bK n α) where
 cells a:=(a.l.map cells).flatten
 agg:=true
 size:=n*aC.size α
 len a:=by rw[JM,a.len]
 good a:=HF a.l
 one a:=by
  have:∀l:List α,(l.map (cells (α:=α))).flatten.all V.one=true:=by
   intro l
   induction l with
   | nil=>rfl
   | cons a l ih=>simp only[List.map_cons,List.flatten_cons,List.all_append,ih,oW,Bool.and_self]
  exact this a.l
 plain h:=by cases h
instance {k n:Nat} {α:Type} [aC α] [Lv k α]:Lv k (bK n α):=⟨fun a=>K9 a.l⟩
def bK.Hu (n:Nat) {α:Type} (z:α):bK n α:=⟨List.replicate n z,by simp⟩
def bK.at {n:Nat} {α:Type} (a:bK n α) (i:Int):Option α:=if 0≤i then a.l[i.toNat]? else none
def bK.set {n:Nat} {α:Type} (a:bK n α) (i:Int) (x:α):bK n α:=⟨a.l.set i.toNat x,by simp[a.len]⟩
def pa {n:Nat} {α:Type} [aC α] (a:bK n α) (i:Int):List V:=(cells a).drop (i.toNat*aC.size α)
theorem bK.tH {n:Nat} {α:Type} {a:bK n α} {i:Int} {x:α} (h:a.at i=some x):0≤i∧i.toNat<n∧a.l[i.toNat]? = some x:=by
 unfold bK.at at h;split at h
 ·rename_i hi;refine⟨hi,?_,h⟩;have:=(ζe.1 h).1;rw[←a.len];exact this
 ·cases h
theorem BO {α:Type} [aC α]:∀(l:List α) (k:Nat),((l.map (cells (α:=α))).flatten).drop (k*aC.size α)=((l.drop k).map (cells (α:=α))).flatten
 | [],k=>by simp
 | a::l,0=>by simp
 | a::l,k+1=>by
  have h:(cells a).length=aC.size α:=eB a;rw[List.map_cons,List.flatten_cons,List.drop_succ_cons,←BO l k,Nat.add_mul,Nat.one_mul,Nat.add_comm,←h,List.drop_length_add_append]
theorem xK {n:Nat} {α:Type} [aC α] {a:bK n α} {i:Int} {x:α} (h:a.at i=some x):∃r,pa a i=cells x++r:=by
 obtain⟨h1,h2,h3⟩:=bK.tH h;obtain⟨hlt,hx⟩:=ζe.1 h3;refine⟨((a.l.drop (i.toNat+1)).map cells).flatten,?_⟩;show ((a.l.map (cells (α:=α))).flatten).drop (i.toNat*aC.size α)=_;rw[BO,List.drop_eq_getElem_cons hlt,List.map_cons,List.flatten_cons,hx]
section
variable {S:Sys} {c:bJ} {β γ δ α:Type} {Q:Out×St→Option β} {e:γ→Option β} {fo:Fo} {fs:List Fm} {st0:St} {l:List RO} {d:Option Nat} {gd:Option (Nat×Bool)} {now:Bool} {az:List Arg} {dd:List Nat}
section
variable {N:Nat} [aC α]
theorem Sc (n:Nat) (dr:Bool) (fr:List Nat) (q:List RO) (fs':List Fm) (st:St) (k:IntKind) {ln sz:Nat} {a:bK N α} {i:Int} {f:α→Option γ} (hq:q=⟨d,gd,now,.p (.idxA ln sz),az,dd,[]⟩::l)
 (hL:(fH S c n fo fs st0,wanted st.g gd,aY S.N st.g az,sz,ln)=(some (.ops dr fr q,fs',st),some true,some [cp a,.v (.int k i)],aC.size α,N))
 (h:∀x,a.at i=some x→Le ((f x).bind e) (pR S c Q dr fr d (.p (.idxA ln sz)) l fs' dd (bW st d (.v (.fptr (pa a i)))))):Le (((a.at i).bind f).bind e) (rn S c Q fo fs st0):=by
 simp only[ζc]at hL;obtain⟨h1,h2,h3,h4,h5⟩:=hL;subst h4 h5;refine A4 h1 hq h2 (?_:Le ((a.at i).bind fun _=>some (bW st d (.v (.fptr (pa a i))))) _) h
 intro r hr;obtain⟨x,hx,hr⟩:=ζg.1 hr;obtain⟨g1,g2,_⟩:=bK.tH hx;rw[AU (v:=.v (.fptr (pa a i))) h3 rfl ?_]
 ·exact hr
 rw[pZ];simp only[ai,tj];have hlen:i.toNat*aC.size α≤(cells a).length:=by
  rw[eB];exact Nat.mul_le_mul_right _ (Nat.le_of_lt g2)
 rw[if_pos ⟨g1,by omega⟩,if_pos hlen]
 rfl
theorem Ul (n:Nat) (dr:Bool) (fr:List Nat) (q:List RO) (fs':List Fm) (st:St) (a:bK N α) (i:Int) (o:Nat) (x:α) (hx:a.at i=some x) {k:Nat} {m:Option β} (hq:q=⟨d,gd,now,.p (.fieldAddr k),az,dd,[]⟩::l)
 (hL:(fH S c n fo fs st0,wanted st.g gd,aY S.N st.g az,Nat.ble (o+k) (aC.size α))=(some (.ops dr fr q,fs',st),some true,some [.v (.fptr ((pa a i).drop o))],true))
 (h:Le m (pR S c Q dr fr d (.p (.fieldAddr k)) l fs' dd (bW st d (.v (.fptr ((pa a i).drop (o+k))))))):Le m (rn S c Q fo fs st0):=by
 simp only[ζc]at hL;obtain⟨h1,h2,h3,h4⟩:=hL;refine oe h1 hq h2 (AU h3 rfl ?_) h;have h9:=Nat.le_of_ble_eq_true h4;obtain⟨r,hr⟩:=xK hx;have hl:(pa a i).length≥aC.size α:=by rw[hr,ζi,eB];omega
 rw[CE,DR,if_pos (by rw[List.length_drop];omega),List.drop_drop]
 rfl
theorem Sx (n:Nat) (dr:Bool) (fr:List Nat) (q:List RO) (fs':List Fm) (st:St) (a:bK N α) (i:Int) (o:Nat) (x:α) (hx:a.at i=some x) {sz:Nat} {ag:Bool} {v:V} (hv:(cut (cells x) o sz).bind (mk ag)=some v) (v':V) {m:Option β} (hq:q=⟨d,gd,now,.r (.load sz ag),az,dd,[]⟩::l)
 (hL:(fH S c n fo fs st0,wanted st.g gd,aY S.N st.g az,v)=(some (.ops dr fr q,fs',st),some true,some [.v (.fptr ((pa a i).drop o))],v'))
 (h:Le m (pR S c Q dr fr d (.r (.load sz ag)) l fs' dd (bW st d (.v v')))):Le m (rn S c Q fo fs st0):=by
 simp only[ζc]at hL;obtain⟨h1,h2,h3,rfl⟩:=hL;refine oe h1 hq h2 ?_ h;rw[Cp,h3];have hold:dW fr [SV.v (.fptr ((pa a i).drop o))]=true:=rfl;simp only[ζb,hold,Bool.or_true,if_true,IQ];obtain⟨r,hr⟩:=xK hx;rw[hr];have hc:cut ((cells x++r).drop o) 0 sz=cut (cells x) o sz:=by
  cases hcc:cut (cells x) o sz with
  | none=>rw[hcc]at hv;cases hv
  | some w=>
   unfold cut at hcc ⊢;dsimp only at hcc ⊢;split at hcc
   ·rename_i hl;cases hcc;have e1:(List.drop 0 (List.drop o (cells x++r))).take sz=((cells x).drop o).take sz:=by
     rw[List.drop_zero];have ho:sz=0∨o≤(cells x).length:=by
      simp only[List.length_take,List.length_drop]at hl;omega
     rcases ho with rfl|ho
     ·simp
     ·rw[List.drop_append_of_le_length ho,List.take_append_of_le_length];simp only[List.length_take,List.length_drop]at hl ⊢;omega
    rw[e1,if_pos hl]
   ·cases hcc
 rw[hc]
 cases hcc:cut (cells x) o sz with
 | none=>rw[hcc]at hv;cases hv
 | some w=>rw[hcc]at hv;simp only[ζb]at hv ⊢;rw[hv];rfl
theorem PI (n:Nat) (dr:Bool) (fr:List Nat) (q:List RO) (fs':List Fm) (st:St) (cs:List SV) {u sz:Nat} {zero:List V} {m:Option β} (hq:q=⟨some u,gd,now,.a (.alloc sz zero),az,dd,[]⟩::l)
 (h4:st.new u=true) (hL:(fH S c n fo fs st0,wanted st.g gd,aY S.N st.g az,zero.map SV.v)=(some (.ops dr fr q,fs',st),some true,some [],cs))
 (h:Le m (pR S c Q dr fr (some u) (.a (.alloc sz zero)) l fs' dd { st with g:=aT st.g u (.ptr u 0),m:=aT st.m u (.box cs) })):Le m (rn S c Q fo fs st0):=by
 simp only[ζc]at hL;obtain⟨h1,h2,h3,h5⟩:=hL;subst h5;refine oe h1 hq h2 ?_ h;rw[Am,h3];simp only[ζb,h4,if_true,mC]
theorem qb (d:Nat) (l:List V):SV.cE d (l.map .v)=false:=by
 induction l with
 | nil=>rfl
 | cons a l ih=>simp only[List.map_cons,SV.cE,SV.b7,ih,Bool.or_self]
theorem qp {α:Type} [aC α] (d:Nat) (x:α):aR.b7 d (bx x)=false:=qb d (cells x)
theorem RS (n:Nat) (dr:Bool) (fr:List Nat) (q:List RO) (fs':List Fm) (st:St) (k:IntKind) (u:Nat) {ln sz:Nat} {a:bK N α} {i:Int} {f:α→Option γ} (hq:q=⟨d,gd,now,.p (.idxA ln sz),az,dd,[]⟩::l)
 (hL:(fH S c n fo fs st0,wanted st.g gd,aY S.N st.g az,sz,ln,aj st.m u)=(some (.ops dr fr q,fs',st),some true,some [.ptr u 0,.v (.int k i)],aC.size α,N,some (bx a)))
 (h:∀x,a.at i=some x→Le ((f x).bind e) (pR S c Q dr fr d (.p (.idxA ln sz)) l fs' dd (bW st d (.ptr u (i.toNat*aC.size α+0))))):Le (((a.at i).bind f).bind e) (rn S c Q fo fs st0):=by
 simp only[ζc]at hL;obtain⟨h1,h2,h3,h4,h5,h6⟩:=hL;subst h4 h5;refine A4 h1 hq h2 (?_:Le ((a.at i).bind fun _=>some (bW st d (.ptr u (i.toNat*aC.size α+0)))) _) h
 intro r hr;obtain⟨x,hx,hr⟩:=ζg.1 hr;obtain⟨g1,g2,_⟩:=bK.tH hx;rw[AU (v:=.ptr u (i.toNat*aC.size α+0)) h3 rfl ?_]
 ·exact hr
 simp only[iL,cZ,xq,h6];rw[if_pos ⟨g1,by omega,rfl⟩,Nat.zero_add,Nat.add_zero]
theorem RB (n:Nat) (dr:Bool) (fr:List Nat) (q:List RO) (fs':List Fm) (st:St) (u:Nat) (a:bK N α) (i:Int) (o:Nat) (x:α) (hx:a.at i=some x) {sz:Nat} {ag:Bool} {v:V} (hv:(cut (cells x) o sz).bind (mk ag)=some v) (v':V) {m:Option β} (hq:q=⟨d,gd,now,.r (.load sz ag),az,dd,[]⟩::l)
 (hL:(fH S c n fo fs st0,wanted st.g gd,aY S.N st.g az,v,aj st.m u,(!dr||now||dW fr [.ptr u 0]))=(some (.ops dr fr q,fs',st),some true,some [.ptr u (i.toNat*aC.size α+o)],v',some (bx a),true))
 (h:Le m (pR S c Q dr fr d (.r (.load sz ag)) l fs' dd (bW st d (.v v')))):Le m (rn S c Q fo fs st0):=by
 simp only[ζc]at hL;obtain⟨h1,h2,h3,rfl,h5,h6⟩:=hL;refine oe h1 hq h2 ?_ h;rw[Cp,h3];have hold:(!dr||now||dW fr [SV.ptr u (i.toNat*aC.size α+o)])=true:=h6;simp only[ζb,hold,if_true,Ub,h5,Jl];obtain⟨r,hr⟩:=xK hx;have e1:(((cells a).map SV.v).drop (i.toNat*aC.size α+o)).take sz=(((cells x).drop o).take sz).map SV.v:=by
  have hcc:((cells x).drop o).take sz=((cells x++r).drop o).take sz:=by
   cases hc:cut (cells x) o sz with
   | none=>rw[hc]at hv;cases hv
   | some w=>
    unfold cut at hc;dsimp only at hc;split at hc
    ·rename_i hl;have ho:sz=0∨o≤(cells x).length:=by
      simp only[List.length_take,List.length_drop]at hl;omega
     rcases ho with rfl|ho
     ·simp
     ·rw[List.drop_append_of_le_length ho,List.take_append_of_le_length];simp only[List.length_take,List.length_drop]at hl ⊢;omega
    ·cases hc
  rw[hcc,←hr,pa,List.drop_drop,List.map_take,List.map_drop]
 rw[e1];unfold xN
 cases hc:cut (cells x) o sz with
 | none=>rw[hc]at hv;cases hv
 | some w=>
  rw[hc]at hv;unfold cut at hc;dsimp only at hc;split at hc
  ·rename_i hl;cases hc;simp only[List.length_map,hl,if_true];simp only[ζb]at hv;unfold mk at hv
   cases ag with
   | true=>
    simp only[if_true]at hv ⊢;cases hv;rw[oC];rfl
   | false=>
    simp only[Bool.false_eq_true,if_false]at hv ⊢;split at hv
    ·rename_i hw;cases hv;rw[hw];rfl
    ·cases hv
  ·cases hc
theorem Hx {N:Nat} (a:bK N α) (i:Int) (y:α) (h:i.toNat<N):cells (a.set i y)=(cells a).take (i.toNat*aC.size α)++cells y++(cells a).drop ((i.toNat+1)*aC.size α):=by
 have key:∀(l:List α) (k:Nat),k<l.length→((l.set k y).map (cells (α:=α))).flatten=(l.map (cells (α:=α))).flatten.take (k*aC.size α)++cells y++(l.map (cells (α:=α))).flatten.drop ((k+1)*aC.size α):=by
  intro l
  induction l with
  | nil=>intro k h;simp at h
  | cons b l ih=>
   intro k h;have hb:(cells b).length=aC.size α:=eB b
   cases k with
   | zero=>
    simp only[List.set_cons_zero,List.map_cons,List.flatten_cons,Nat.zero_mul,List.take_zero,List.nil_append,Nat.zero_add,Nat.one_mul];rw[←hb,List.drop_left]
   | succ k=>
    simp only[List.set_cons_succ,List.map_cons,List.flatten_cons];rw[ih k (by simpa using h)]
    have e1:(k+1)*aC.size α=(cells b).length+k*aC.size α:=by rw[hb,Nat.add_mul,Nat.one_mul,Nat.add_comm]
    have e2:(k+1+1)*aC.size α=(cells b).length+(k+1)*aC.size α:=by rw[hb,Nat.add_mul (k+1),Nat.one_mul,Nat.add_comm]
    rw[e2,List.drop_length_add_append];rw[e1,List.take_length_add_append];simp[List.append_assoc]
 exact key a.l i.toNat (by rw[a.len];exact h)
theorem RX (n:Nat) (dr:Bool) (fr:List Nat) (q:List RO) (fs':List Fm) (st:St) (u:Nat) (a:bK N α) (i:Int) (o:Nat) (x:α) (hx:a.at i=some x) (y:α) (v:V) {sz:Nat} (hy:cells y=(cells x).take o++v.cells++(cells x).drop (o+sz)) {m:Option β} (hq:q=⟨d,gd,now,.l (.store sz),az,dd,[]⟩::l)
 (hL:(fH S c n fo fs st0,wanted st.g gd,aY S.N st.g az,aj st.m u,(!dr||now),v.cells.length,v.cells.all V.one,Nat.ble (o+sz) (aC.size α))=(some (.ops dr fr q,fs',st),some true,some [.ptr u (i.toNat*aC.size α+o),.v v],some (bx a),true,sz,true,true))
 (h:Le m (pR S c Q dr fr d (.l (.store sz)) l fs' dd (bW { st with m:=aT st.m u (bx (a.set i y)) } d (.v .undef)))):Le m (rn S c Q fo fs st0):=by
 simp only[ζc]at hL;obtain⟨h1,h2,h3,h4,h5,h6,h7,h8⟩:=hL;refine oe h1 hq h2 ?_ h;rw[tJ,h3];have h9:=Nat.le_of_ble_eq_true h8;obtain⟨g1,g2,g3⟩:=bK.tH hx;have hb:i.toNat*aC.size α+o+sz≤((cells a).map SV.v).length:=by
  rw[List.length_map,eB];have:(i.toNat+1)*aC.size α≤N*aC.size α:=Nat.mul_le_mul_right _ g2;rw[Nat.add_mul,Nat.one_mul]at this;show _≤N*aC.size α;omega
 simp only[ζb,h5,if_true,l_,h4,putCells,h6,h7,hb,and_self,Option.map_some];obtain⟨r,hr⟩:=xK hx;have e:((cells a).map SV.v).take (i.toNat*aC.size α+o)++v.cells.map .v++((cells a).map SV.v).drop (i.toNat*aC.size α+o+sz)=(cells (a.set i y)).map SV.v:=by
  rw[Hx a i y g2,hy];have hd:(cells a).drop (i.toNat*aC.size α)=cells x++r:=hr;have hlx:(cells x).length=aC.size α:=eB x;have e1:(cells a).take (i.toNat*aC.size α+o)=(cells a).take (i.toNat*aC.size α)++(cells x).take o:=by
   rw[List.take_add,hd,List.take_append_of_le_length (by omega)]
  have e2:(cells a).drop (i.toNat*aC.size α+o+sz)=(cells x).drop (o+sz)++(cells a).drop ((i.toNat+1)*aC.size α):=by
   have e3:(cells a).drop ((i.toNat+1)*aC.size α)=r:=by
    rw[Nat.add_mul,Nat.one_mul,←List.drop_drop,hd,←hlx,List.drop_left]
   rw[e3,Nat.add_assoc,←List.drop_drop,hd,List.drop_append_of_le_length (by omega)]
  rw[←List.map_take,←List.map_drop,e1,e2];simp[List.map_append,List.append_assoc]
 rw[e]
end
theorem MZ {α:Type} [aC α] {m:Tb aR} {d:Nat} {x:α} {vs:List V} (h:aj m d=some (bx x)):lX (gP m 8) (.ptr d 0::vs.map .v)=some (.fptr (cells x)::vs):=by
 have h1:gP m 8 (.ptr d 0)=some (.fptr (cells x)):=by
  show (match aj m d with
   | some (.box cs)=>match lX (gP m 7) cs with
    | some xs=>if 0≤xs.length then some (V.fptr (xs.drop 0))else none
    | none=>none
   | _=>none)=_
  rw[h];simp only[CY,Nat.zero_le,if_true,List.drop_zero]
 simp only[lX,h1,CY,ζb]
theorem Sp (n:Nat) {fo:Fo} {fs fs':List Fm} {st0 st:St} {rs:List RV} {e:γ→Option (List V)} {r:γ} (svs:List SV) {ys:List V} (h2:lX (gP st.m 8) svs=some ys) (h:(fH S c n fo fs st0,nL st rs)=(some (.rt,fs',st),some svs)) (h3:e r=some ys) :
 Le ((some r).bind e) (rn S c (oE rs) fo fs st0):=by
 simp only[ζc]at h;rw[lG h.1];refine Le.of_eq ?_;simp only[rn,oE,h.2,ζb,h2];exact h3.symm
abbrev Mo (κ ν:Type):=List (κ×ν)
class Key (κ:Type) [aC κ] [DecidableEq κ] where
 kk:tP
 ok:∀a:κ,mM kk (enc a)=true
 eq:∀a b:κ,rM (enc a) (enc b)=some (decide (a=b))
instance:Key Int where
 kk:=.int .i64
 ok _:=rfl
 eq a b:=by
  show some (a==b)=some (decide (a=b));rw[show (a==b)=decide (a=b)from Bool.eq_iff_iff.2 (by simp)]
instance:Key aa where
 kk:=.ints 2
 ok _:=rfl
 eq a b:=by
  obtain⟨p,i⟩:=a;obtain⟨q,j⟩:=b;simp only[rM,jI,g_,ON,Option.map_some,List.length_cons,if_true,ζa];rw[Bool.eq_iff_iff];simp
section
variable {κ ν:Type} [aC κ] [DecidableEq κ] [Key κ] [aC ν]
def qB (k:κ):Mo κ ν→Option ν
 | []=>none
 | (a,v)::r=>if k=a then some v else qB k r
def A1 (m:Mo κ ν) (k:κ) (z:ν):ν:=(qB k m).getD z
def oF (m:Mo κ ν) (k:κ) (v:ν):Mo κ ν:=
 match m with
 | []=>[(k,v)]
 | (a,w)::r=>if k=a then(k,v)::r else(a,w)::oF r k v
def mB (m:Mo κ ν):List (V×V):=m.map fun x=>(enc x.1,enc x.2)
def sM (m:Mo κ ν):aR:=.mp (mB m)
theorem EG (k:κ):∀(m:Mo κ ν) (i:Nat),(fJ (enc k) (mB m) i).map (Option.map (·.2))=some ((qB k m).map enc)
 | [],i=>rfl
 | (a,v)::r,i=>by
  simp only[mB,List.map_cons,fJ,Key.eq,qB]
  by_cases h:k=a
  ·rw[if_pos h];simp[h]
  ·rw[if_neg h];simp only[h,decide_false];exact EG k r (i+1)
theorem Jt (k:κ) (v:ν) (m:Mo κ ν):mw (enc k) (enc v) (mB m)=some (mB (oF m k v)):=by
 unfold mw;have key:∀(m:Mo κ ν) (pre:List (V×V)) (i:Nat),pre.length=i→(match fJ (enc k) (mB m) i with
  | some (some (j,_))=>some ((pre++mB m).set j (enc k,enc v))
  | some none=>some (pre++mB m++[(enc k,enc v)])
  | none=>none)=some (pre++mB (oF m k v)):=by
  intro m
  induction m with
  | nil=>intro pre i h;simp[mB,fJ,oF]
  | cons x r ih=>
   obtain⟨a,w⟩:=x;intro pre i h;rw[show mB ((a,w)::r)=(enc a,enc w)::mB r from rfl];simp only[fJ,Key.eq,oF]
   by_cases hk:k=a
   ·subst hk h;simp[mB]
   ·simp only[hk,decide_false,if_false];rw[show mB ((a,w)::oF r k v)=(enc a,enc w)::mB (oF r k v)from rfl];have:=ih (pre++[(enc a,enc w)]) (i+1) (by simp[h])
    simp only[List.append_assoc,List.cons_append,List.nil_append]at this ⊢;exact this
 have:=key m [] 0 rfl
 cases hf:fJ (enc k) (mB m) 0 with
 | none=>rw[hf]at this;cases this
 | some r=>
  rw[hf]at this
  cases r with
  | none=>simpa using this
  | some w=>obtain⟨j,w⟩:=w;simpa using this
theorem RJ (n:Nat) (dr:Bool) (fr:List Nat) (q:List RO) (fs':List Fm) (st:St) (u:Nat) (mp:Mo κ ν) (k:κ) (z:ν) {kk:tP} {zv:V} {m:Option β} (hq:q=⟨d,gd,now,.r (.lookup kk zv false),az,dd,[]⟩::l)
 (hL:(fH S c n fo fs st0,wanted st.g gd,aY S.N st.g az,aj st.m u,(!dr||now||dW fr [.mp u,cv k]),zv,kk)=(some (.ops dr fr q,fs',st),some true,some [.mp u,cv k],some (sM mp),true,enc z,Key.kk κ))
 (h:Le m (pR S c Q dr fr d (.r (.lookup kk zv false)) l fs' dd (bW st d (cv (A1 mp k z))))):Le m (rn S c Q fo fs st0):=by
 simp only[ζc]at hL;obtain⟨h1,h2,h3,h4,h5,h6,h7⟩:=hL;subst h6 h7;refine oe h1 hq h2 ?_ h;rw[Cp,h3];simp only[ζb,h5,if_true,nk,h4,sM,Key.ok];have:=EG k mp 0;simp only[A1]
 cases hf:fJ (enc k) (mB mp) 0 with
 | none=>rw[hf]at this;cases this
 | some r=>
  rw[hf]at this;simp only[Option.map_some,ζa]at this
  cases r with
  | none=>
   cases hm:qB k mp with
   | none=>rfl
   | some w=>rw[hm]at this;cases this
  | some w=>
   cases hm:qB k mp with
   | none=>rw[hm]at this;cases this
   | some w2=>
    rw[hm]at this;simp only[Option.map_some,ζa]at this;simp only[this];rfl
theorem Ur (n:Nat) (dr:Bool) (fr:List Nat) (q:List RO) (fs':List Fm) (st:St) (u:Nat) (mp:Mo κ ν) (k:κ) (v:ν) {kk:tP} {m:Option β} (hq:q=⟨d,gd,now,.l (.mapUp kk),az,dd,[]⟩::l)
 (hL:(fH S c n fo fs st0,wanted st.g gd,aY S.N st.g az,aj st.m u,(!dr||now),kk)=(some (.ops dr fr q,fs',st),some true,some [.mp u,cv k,cv v],some (sM mp),true,Key.kk κ))
 (h:Le m (pR S c Q dr fr d (.l (.mapUp kk)) l fs' dd (bW { st with m:=aT st.m u (sM (oF mp k v)) } d (.v .undef)))):Le m (rn S c Q fo fs st0):=by
 simp only[ζc]at hL;obtain⟨h1,h2,h3,h4,h5,h6⟩:=hL;subst h6;refine oe h1 hq h2 ?_ h;rw[tJ,h3];simp only[ζb,h5,if_true,l_,h4,sM,Key.ok,Jt,Option.map_some]
end
end
end Go.VE
namespace Go.VE
instance {n:Nat}:OfNat Arg n:=⟨.s n⟩
abbrev bI (o:BinOp):K:=.p (.bin (some .int) none o)
abbrev ix (n:Nat):K:=.p (.idxS n)
abbrev ld (n:Nat):K:=.r (.load n false)
abbrev lD (n:Nat):K:=.r (.load n true)
abbrev fa (n:Nat):K:=.p (.fieldAddr n)
abbrev ln:K:=.p .lenSl
abbrev su (n:Nat):K:=.l (.store n)
abbrev Iv (n:Nat) (x:Int):Nat×SV:=(n,iv x)
abbrev Bv (n:Nat) (x:Bool):Nat×SV:=(n,bv x)
abbrev Cv {α:Type} [aC α] (n:Nat) (x:α):Nat×SV:=(n,cv x)
abbrev Kv {α:Type} [aC α] (n:Nat) (x:α):Nat×SV:=(n,cp x)
abbrev Pv (n:Nat):Nat×SV:=(n,.ptr n 0)
abbrev Ov (n:Nat):Nat×SV:=(n,.own (2000+n))
abbrev Xb {α:Type} [aC α] (n:Nat) (x:α):Nat×aR:=(n,bx x)
abbrev Lb {α:Type} [aC α] (n:Nat) (x:Sl α):Nat×aR:=(n,bP x)
abbrev on (d:Nat) (k:K) (az:List Arg) (dd:List Nat):RO:=⟨some d,none,true,k,az,dd,[]⟩
abbrev oz (k:K) (az:List Arg) (dd:List Nat):RO:=⟨none,none,false,k,az,dd,[]⟩
abbrev oy (k:K) (az:List Arg) (dd:List Nat):RO:=⟨none,none,true,k,az,dd,[]⟩
theorem HS {n:Nat} {α:Type} [aC α] [Lv n α] (a:α):V.bT n (cells a)=true:=Lv.lv a
attribute [simp] HS Nv K4 gb iI lP kz lS ND Ns Kz M1 OD Nq MJ M8 NK Mt
theorem jH.vH {S:Sys} {T:pn} {f:FuncId} {b:Bool} (hT:T f=none) (hk:S.E.keep f=false) (ho:S.vH f []=some (.bool b)) :
 jH S (cw S T) f (fun _:Unit=>[]) (fun r:Bool=>[.bool r]) (fun _=>some b) true where
 k:=hk
 h _:=by
  have h:=BE (az:=[]) hT hk ho;intro r hr;cases hr;unfold jZ;rw[h];exact s8 8 [.bool b]
 l _:=by simp
 r _:=by simp
 s _ _:=rfl
end Go.VE
namespace Go.VE
def Wp {α:Type} (m:Option α) (P:α→Prop):Prop:=∃a,m=some a∧P a
section
variable {α β:Type} {P Q:α→Prop}
theorem af (a:α):Wp (some a) P↔P a:=⟨fun h=>by obtain⟨b,e,p⟩:=h;cases e;exact p,fun p=>⟨a,rfl,p⟩⟩
theorem Ng:Wp (none:Option α) P↔False:=⟨fun h=>(by obtain⟨b,e,p⟩:=h;cases e),fun h=>False.elim h⟩
theorem bt {m:Option β} {k:β→Option α}:Wp (m.bind k) P↔Wp m fun b=>Wp (k b) P:=by
 cases m with
 | none=>simp only[Option.bind_none,Ng]
 | some b=>simp only[ζb,af]
theorem aH {t:Bool} {a b:Option α}:Wp (au t a b) P↔(t=true→Wp a P)∧(t=false→Wp b P):=by
 cases t <;> simp[au]
theorem Wp.mono {m:Option α} (h:Wp m P) (hpq:∀a,P a→Q a):Wp m Q:=let ⟨a,e,p⟩:=h;⟨a,e,hpq a p⟩
theorem Wp.and {m:Option α} (h:Wp m P) (h2:Wp m Q):Wp m fun a=>P a∧Q a:=by
 obtain⟨a,e,p⟩:=h;obtain⟨b,e2,q⟩:=h2;rw[e]at e2;cases e2;exact⟨a,e,p,q⟩
theorem Wp.eq {m:Option α} {a:α} (h:Wp m fun x=>x=a):m=some a:=by obtain⟨b,e,rfl⟩:=h;exact e
end
section
variable {σ ε ρ:Type}
theorem gE (step:σ→Option (Fw σ ε ρ)) (s:σ):aX step s=(step s).bind fun w=>match w with
 | .n s'=>aX step s'
 | .x e=>some (.x e)
 | .r b=>some (.r b):=by
 have h1:∀r,aX step s=some r→((step s).bind fun w=>match w with
  | .n s'=>aX step s'
  | .x e=>some (.x e)
  | .r b=>some (.r b))=some r:=by
  intro r h;obtain⟨k,hk⟩:=kN.1 h
  cases k with
  | zero=>simp[gK]at hk
  | succ k=>
   simp only[gK]at hk
   cases hs:step s with
   | none=>rw[hs]at hk;cases hk
   | some w=>
    rw[hs]at hk
    cases w with
    | n s'=>exact kN.2 ⟨k,hk⟩
    | x e=>exact hk
    | r b=>exact hk
 cases hw:aX step s with
 | some r=>exact(h1 r hw).symm
 | none=>
  cases hr:((step s).bind fun w=>match w with
  | .n s'=>aX step s'
  | .x e=>some (.x e)
  | .r b=>some (.r b))with
  | none=>rfl
  | some r=>
   exfalso
   cases hs:step s with
   | none=>rw[hs]at hr;cases hr
   | some w=>
    rw[hs]at hr;simp only[ζb]at hr;have:aX step s=some r:=by
     cases w with
     | n s'=>
      obtain⟨k,hk⟩:=kN.1 hr;exact kN.2 ⟨k+1,by simp only[gK,hs];exact hk⟩
     | x e=>exact kN.2 ⟨1,by simp only[gK,hs];exact hr⟩
     | r b=>exact kN.2 ⟨1,by simp only[gK,hs];exact hr⟩
    rw[hw]at this;cases this
def LX (I:σ→Prop) (μ:σ→Nat) (px:ε→Prop) (pr:ρ→Prop) (s:σ):Fw σ ε ρ→Prop
 | .n s'=>I s'∧μ s'<μ s
 | .x e=>px e
 | .r b=>pr b
def Td (px:ε→Prop) (pr:ρ→Prop):Fw Empty ε ρ→Prop
 | .x e=>px e
 | .r b=>pr b
theorem Ld {step:σ→Option (Fw σ ε ρ)} (I:σ→Prop) (μ:σ→Nat) (px:ε→Prop) (pr:ρ→Prop) (h:∀s,I s→Wp (step s) (LX I μ px pr s)) {s:σ} (hs:I s):Wp (aX step s) (Td px pr):=by
 have key:∀n s,μ s≤n→I s→Wp (aX step s) (Td px pr):=by
  intro n
  induction n with
  | zero=>
   intro s hm hi;obtain⟨w,hw,hr⟩:=h s hi;rw[gE,hw]
   cases w with
   | n s'=>exact absurd hr.2 (by omega)
   | x e=>exact⟨_,rfl,hr⟩
   | r b=>exact⟨_,rfl,hr⟩
  | succ n ih=>
   intro s hm hi;obtain⟨w,hw,hr⟩:=h s hi;rw[gE,hw]
   cases w with
   | n s'=>exact ih s' (by have:=hr.2;omega) hr.1
   | x e=>exact⟨_,rfl,hr⟩
   | r b=>exact⟨_,rfl,hr⟩
 exact key (μ s) s (Nat.le_refl _) hs
theorem cO {γ:Type} {step:σ→Option (Fw σ ε ρ)} {fx:ε→Option γ} {fr:ρ→Option γ} {P:γ→Prop} (I:σ→Prop) (μ:σ→Nat) {s:σ} (hs:I s)
 (h:∀s,I s→Wp (step s) (LX I μ (fun e=>Wp (fx e) P) (fun b=>Wp (fr b) P) s)):Wp ((aX step s).bind (Fw.elim fx fr)) P:=by
 rw[bt];refine(Ld I μ _ _ h hs).mono ?_;intro w hw
 cases w with
 | n a=>cases a
 | x e=>exact hw
 | r b=>exact hw
end
end Go.VE
namespace Go.VE
theorem Ga {β γ δ:Type} {e:γ→Option β} {m:Option δ} {f:δ→Option γ} {L:Option β} (h:∀x,m=some x→Le ((f x).bind e) L):Le ((m.bind f).bind e) L:=by
 cases m with
 | none=>exact Le.none _
 | some x=>exact h x rfl
section
variable {S:Sys} {c:bJ} {β:Type} {Q:Out×St→Option β} {fo:Fo} {fs:List Fm} {st0:St} {l:List RO} {d:Option Nat} {now:Bool} {az:List Arg} {dd:List Nat}
theorem Le.get {β:Type} {r:β} {L:Option β} (h:Le (some r) L):L=some r:=h r rfl
theorem Kt {n:Nat} {fo fo':Fo} {fs fs':List Fm} {st:St} (A:Bool→St) {t:Bool} {m:Option β} (ht:t=true) (h:fH S c n fo fs st=some (fo',fs',A t)) (ha:Le m (rn S c Q fo' fs' (A true))):Le m (rn S c Q fo fs st):=by
 rw[lG h,ht];exact ha
theorem Kf {n:Nat} {fo fo':Fo} {fs fs':List Fm} {st:St} (A:Bool→St) {t:Bool} {m:Option β} (ht:t=false) (h:fH S c n fo fs st=some (fo',fs',A t)) (ha:Le m (rn S c Q fo' fs' (A false))):Le m (rn S c Q fo fs st):=by
 rw[lG h,ht];exact ha
theorem Ky {α:Type} [aC α] {s:Sl α} {i:Int} {x:α} {r:β} {L:Option β} (hx:idx s i=some x) (h:Le (((idx s i).bind fun _=>some r).bind some) L):Le (some r) L:=by
 rw[hx]at h;exact h
theorem SH {n:Nat} {q:List RO} {fs':List Fm} {st:St} {id:Nat} {vs:List SV} {xs:List V} {ws:List (List V)} {m:Option β}
 (hL:fH S c n fo fs st0=some (.ops false [] q,fs',st)) (hq:q=⟨d,none,now,.c,az,dd,[]⟩::l) (hs:aY S.N st.g az=some (.yl id::vs)) (ha:cZ vs=some xs) (hw:st.want=xs::ws) (hi:id=st.yid)
 (h:Le m (rn S c Q (.ops false [] l) fs' (mg dd (bW { st with want:=ws } d (.v (.bool (st.more || !ws.isEmpty))))))):Le m (rn S c Q fo fs st0):=by
 refine Mg hL hq rfl ?_ h;unfold dO;simp only[wanted,eD,hs,ha,hw,hi,if_true,and_self,Bool.false_eq_true,if_false]
theorem xM (a:RC) (fs:List Fm) (st:St):rn S c Q (.rc (.loop a)) fs st=(lp (bA S c a) st).bind (AM (jS S c Q fs) (jU S c Q fs) (fun st=>Q (.ret,st))):=by
 show jT S c Q (.loop a) fs st=_;unfold jT;rw[zN];rfl
theorem NT {f:St→Option (Out×St)} {st st':St} (h:f st=some (.norm,st')):lp f st=lp f st':=by
 have key:∀r,lp f st=some r↔lp f st'=some r:=fun r=>by
  constructor
  ·intro hr;obtain⟨k,hk⟩:=ki.1 hr
   cases k with
   | zero=>simp[gD]at hk
   | succ k=>simp only[gD,h]at hk;exact ki.2 ⟨k,hk⟩
  ·intro hr;obtain⟨k,hk⟩:=ki.1 hr;exact ki.2 ⟨k+1,by simp only[gD,h];exact hk⟩
 cases hx:lp f st with
 | none=>
  cases hy:lp f st' with
  | none=>rfl
  | some r=>rw[(key r).2 hy]at hx;cases hx
 | some r=>rw[(key r).1 hx]
theorem EH {f:St→Option (Out×St)} {st st':St} {o:Out} (h:f st=some (o,st')) (ho:o≠.norm):lp f st=some (o,st'):=by
 refine ki.2 ⟨1,?_⟩
 cases o with
 | norm=>exact absurd rfl ho
 | exit k=>simp only[gD,h]
 | ret=>simp only[gD,h]
theorem BV {a:RC} {fs:List Fm} {st st':St} (h:rn S c some (.rc a) [] st=some (.norm,st')):rn S c Q (.rc (.loop a)) fs st=rn S c Q (.rc (.loop a)) fs st':=by
 rw[xM,xM,NT (by rw[xm];exact h)]
theorem Bk {a:RC} {fs:List Fm} {st st':St} {k:Nat} (h:rn S c some (.rc a) [] st=some (.exit k,st')):rn S c Q (.rc (.loop a)) fs st=rn S c Q (.ex k) fs st':=by
 rw[xM,EH (by rw[xm];exact h) (by simp)];rfl
theorem BS {a:RC} {fs:List Fm} {st st':St} (h:rn S c some (.rc a) [] st=some (.ret,st')):rn S c Q (.rc (.loop a)) fs st=Q (.ret,st'):=by
 rw[xM,EH (by rw[xm];exact h) (by simp)];rfl
end
def Qi:Out×St→Option Unit
 | (.exit _,_)=>none
 | (_,st)=>if st.want.isEmpty then some ()else none
def Sys.bare (S:Sys):Sys:=⟨S.E,S.N,fun _ _ _=>none,fun _ _=>none,fun _=>none⟩
def kC:bJ:=fun _ _ _=>none
def z8 (ws rest:List (List V)) (more:Bool):Prop:=more=true∧ws=rest∨more=false∧ws≠[]∧∃r,rest=ws++r
theorem Ks (S:Sys) {f:FuncId} {fi:FI} {nm:FuncId→Option Nat} {rf:RF} (hft:S.E.ft f=some fi) (hN:∀g s,nm g=some s→S.N s=g) (hr:uS S.E nm fi rf) {a b:List V} {xs:List (List V)} (hlen:a.length+1+b.length≤rf.na) (hrs:rf.rs=[])
 (h:∀ws more,z8 ws xs more→∀yid,rn S.bare kC Qi (.rc rf.body) [] ⟨tT 0 (a.map .v++.yl yid::b.map .v),[],[],ws,more,yid⟩=some ()):dP S f a b xs:=by
 have k:dP S.bare f a b xs:=M7 (S:=S.bare) (c:=kC) (fi:=fi) (nm:=nm) (rf:=rf) (fun _ _ h=>by cases h) (fun _ _ _ _ _ h=>by simp[kC]at h) (fun _ _ _ _ h=>by simp[Sys.bare]at h) hft hN hr hlen hrs (fun ws more hw yid=>by
  have h1:=h ws more hw yid;change jT S.bare kC Qi rf.body [] _=some ()at h1;rw[rX]at h1;obtain⟨⟨o,st'⟩,h2,h3⟩:=ζg.1 h1;refine⟨o,st',h2,?_,?_,rfl⟩
  ·rintro id rfl;simp[Qi]at h3
  ·cases o <;> simp[Qi]at h3 <;> exact h3)
 intro ws more hw yid J y Z a' b' H h1 h2 h3 h4 h5;exact k ws more hw yid J ⟨y.tN,y.yield⟩ Z a' b' H h1 h2 h3 h4 h5
open Classical in
noncomputable def uv (P:FuncId→List V→List V→List (List V)→Prop) (f:FuncId) (a b:List V):Option (List (List V)):=if h:∃xs,P f a b xs then some (Classical.choose h)else none
theorem Gg {P:FuncId→List V→List V→List (List V)→Prop} {f:FuncId} {a b:List V} {xs:List (List V)} (h:P f a b xs) (hu:∀ys,P f a b ys→ys=xs):uv P f a b=some xs:=by
 have h1:∃xs,P f a b xs:=⟨xs,h⟩;unfold uv;rw[dif_pos h1,hu _ (Classical.choose_spec h1)]
theorem Fz {P:FuncId→List V→List V→List (List V)→Prop} {f:FuncId} {a b:List V} {xs:List (List V)} (h:uv P f a b=some xs):P f a b xs:=by
 unfold uv at h;split at h
 ·rename_i h1;cases h;exact Classical.choose_spec h1
 ·cases h
theorem Pf {E:Env} {nm:FuncId→Option Nat} {f:FuncId} {rf:RF}
 (h:((E.ft f).bind fun fi=>(aM ⟨E,nm,fi.ntmps⟩ false fi.body).bind fun c=>(fi.results.mapM (xL E)).bind fun rs=>some (c,rs,fi.ntmps))=some (erase rf.body,rf.rs,rf.na)):∃fi,E.ft f=some fi∧uS E nm fi rf:=by
 obtain⟨fi,h1,h2⟩:=ζg.1 h;obtain⟨c,h3,h4⟩:=ζg.1 h2;obtain⟨rs,h5,h6⟩:=ζg.1 h4;simp only[ζa,ζc]at h6;obtain⟨rfl,rfl,h7⟩:=h6;exact⟨fi,h1,h3,h5,h7.symm⟩
theorem vP {n m:Nat} (h:n≤m) {x:V} (hx:V.lvl n x=true):V.lvl m x=true:=by
 induction h with
 | refl=>exact hx
 | step _ ih=>exact wz ih
theorem xI {n m:Nat} (h:n≤m) {x:List V} (hx:V.bT n x=true):V.bT m x=true:=by
 induction h with
 | refl=>exact hx
 | step _ ih=>exact o6 ih
theorem KA {n m:Nat} (h:n≤m) {x:List (List V)} (hx:V.kE n x=true):V.kE m x=true:=by
 induction h with
 | refl=>exact hx
 | step _ ih=>exact zd ih
theorem MT {n m:Nat} (h:n≤m) {x:List (V×V)} (hx:V.pO n x=true):V.pO m x=true:=by
 induction h with
 | refl=>exact hx
 | step _ ih=>exact AY ih
mutual
theorem wV:∀x:V,∃n,V.lvl n x=true
 | .fsl es xs=>let ⟨n,h⟩:=CH xs;⟨n+1,by simp only[V.lvl];exact h⟩
 | .fptr cs=>let ⟨n,h⟩:=qt cs;⟨n+1,by simp only[V.lvl];exact h⟩
 | .fmap kvs=>let ⟨n,h⟩:=E8 kvs;⟨n+1,by simp only[V.lvl];exact h⟩
 | .agg cs=>let ⟨n,h⟩:=qt cs;⟨n+1,by simp only[V.lvl];exact h⟩
 | .tup cs=>let ⟨n,h⟩:=qt cs;⟨n+1,by simp only[V.lvl];exact h⟩
 | .clo f a b=>let ⟨n,h⟩:=qt a;let ⟨m,k⟩:=qt b;⟨max n m+1,by simp only[V.lvl,ζh];exact⟨xI (Nat.le_max_left _ _) h,xI (Nat.le_max_right _ _) k⟩⟩
 | .bool _|.int ..|.str _|.fq|.eO|.oU|.cH|.aF|.hsl ..|.hptr ..|.yld _|.hmap _=>⟨0,rfl⟩
theorem qt:∀x:List V,∃n,V.bT n x=true
 | []=>⟨0,by simp only[V.bT]⟩
 | a::l=>let ⟨n,h⟩:=wV a;let ⟨m,k⟩:=qt l;⟨max n m,by simp only[V.bT,ζh];exact⟨vP (Nat.le_max_left _ _) h,xI (Nat.le_max_right _ _) k⟩⟩
theorem CH:∀x:List (List V),∃n,V.kE n x=true
 | []=>⟨0,by simp only[V.kE]⟩
 | a::l=>let ⟨n,h⟩:=qt a;let ⟨m,k⟩:=CH l;⟨max n m,by simp only[V.kE,ζh];exact⟨xI (Nat.le_max_left _ _) h,KA (Nat.le_max_right _ _) k⟩⟩
theorem E8:∀x:List (V×V),∃n,V.pO n x=true
 | []=>⟨0,by simp only[V.pO]⟩
 | (a,b)::l=>let ⟨n,h⟩:=wV a;let ⟨m,k⟩:=wV b;let ⟨q,p⟩:=E8 l;⟨max n (max m q),by simp only[V.pO,ζh];exact⟨⟨vP (by omega) h,vP (by omega) k⟩,MT (by omega) p⟩⟩
end
theorem FR.mG {H:ak} {Z Z':Nat→Prop} {x y z:V} (h:FR H Z x z) (k:FR H Z' y z):x=y:=by
 obtain⟨n,hn⟩:=wV x;obtain⟨m,hm⟩:=wV y;have e1:=h.borrow (max n m) (vP (Nat.le_max_left _ _) hn);have e2:=k.borrow (max n m) (vP (Nat.le_max_right _ _) hm);rw[e1]at e2;exact Option.some.inj e2
open Classical in
noncomputable def wF (E:Env) (f:FuncId) (az:List V):Option V:=if h:∃y,wB E f az y then some (Classical.choose h)else none
theorem Hw {E:Env} {f:FuncId} {az:List V} {y:V} (h:wF E f az=some y):wB E f az y:=by
 unfold wF at h;split at h
 ·rename_i h1;cases h;exact Classical.choose_spec h1
 ·cases h
theorem we {E:Env} {f:FuncId} {az:List V} {y:V} (h:wB E f az y):wF E f az=some y:=by
 have h1:∃y,wB E f az y:=⟨y,h⟩;unfold wF;rw[dif_pos h1];obtain⟨n,z,H,Z,k1,k2,_⟩:=h;obtain⟨n',z',H',Z',k3,k4,_⟩:=Classical.choose_spec h1;have e1:=jV E (Nat.le_max_left n n') _ _ _ _ k1;have e2:=jV E (Nat.le_max_right n n') _ _ _ _ k3;rw[e1]at e2;cases e2;rw[FR.mG k4 k2]
theorem D6 {E:Env} {f:FuncId} {az:List V} {y:V} (hs:V.scalar y=true) (h:∃n H',run E n (.fn f) az []=some (y,H')):wB E f az y:=by
 obtain⟨n,H',h⟩:=h;exact⟨n,y,H',fun _=>False,h,.same _ (lT hs),fun _ h=>h.elim,⟨fun _ _ _ h=>h.elim⟩⟩
end Go.VE
