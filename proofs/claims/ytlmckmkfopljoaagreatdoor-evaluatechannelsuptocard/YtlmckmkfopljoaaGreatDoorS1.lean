/-
 Plain values and the steps of a certificate.
-/
import Derived.KernelRfl
import Derived.Test.YtlmckmkfopljoaaGreatDoorN2
set_option linter.all false
namespace Go.VE
variable [bM]
inductive Sl (α:Type) where
 | nil
 | emp
 | row (l:List α)
 | part (l:List α)
 deriving Inhabited
def Sl.l {α:Type}:Sl α->List α
 | .nil|.emp=>[]
 | .row l|.part l=>l
def Sl.k {α:Type}:Sl α->Fl
 | .nil=>.nil
 | .emp=>.emp
 | .row _=>.row
 | .part _=>.part
class bz (α:Type) where
 cells:α->List V
 agg:Bool
 size:Nat
 len:∀a,(cells a).length=size
 good:∀a,V.cu (cells a)=true
 one:∀a,(cells a).all V.one=true
 plain:agg=false->size=1
def cells {α:Type} [bz α] (a:α):List V:=bz.cells a
def enc {α:Type} [bz α] (a:α):V:=if bz.agg α then .agg (cells a)else(cells a).headD .undef
def rows {α:Type} [bz α] (l:List α):List (List V):=l.map cells
def bZ {α:Type} [bz α] (s:Sl α):V:=mB s.k (bz.size α) (rows s.l)
instance:bz Int where
 cells n:=[.int .i64 n]
 agg:=false
 size:=1
 len _:=rfl
 good _:=rfl
 one _:=rfl
 plain _:=rfl
instance:bz Bool where
 cells b:=[.bool b]
 agg:=false
 size:=1
 len _:=rfl
 good _:=rfl
 one _:=rfl
 plain _:=rfl
instance:bz ByteArray where
 cells s:=[.str s]
 agg:=false
 size:=1
 len _:=rfl
 good _:=rfl
 one _:=rfl
 plain _:=rfl
structure aY where
 proc:Int
 index:Int
 deriving DecidableEq,Inhabited
instance:bz aY where
 cells x:=[.int .i64 x.proc,.int .i64 x.index]
 agg:=true
 size:=2
 len _:=rfl
 good _:=rfl
 one _:=rfl
 plain h:=by cases h
@[simp] theorem SS (n:Int):enc n=.int .i64 n:=rfl
@[simp] theorem SO (n:Bool):enc n=.bool n:=rfl
@[simp] theorem SX (n:ByteArray):enc n=.str n:=rfl
@[simp] theorem Sg (n:Int):cells n=[.int .i64 n]:=rfl
@[simp] theorem RD (n:Bool):cells n=[.bool n]:=rfl
@[simp] theorem Sj (n:ByteArray):cells n=[.str n]:=rfl
@[simp] theorem SK (n:aY):cells n=[.int .i64 n.proc,.int .i64 n.index]:=rfl
@[simp] theorem Q1 (n:aY):enc n=.agg [.int .i64 n.proc,.int .i64 n.index]:=rfl
section
variable {α:Type} [bz α]
theorem jx (l:List α):(rows l).length=l.length:=by simp[rows]
def idx (s:Sl α) (i:Int):Option α:=if 0<=i then s.l[i.toNat]? else none
theorem L0 {N:Nat->FuncId} (s:Sl α) (k:IntKind) (i:Int) {n:Nat} (B:n=bz.size α):bn N (.idxS n) [bZ s,.int k i]=(idx s i).map λx=>.fptr (cells x):=by
 subst B;unfold idx bZ;simp only[bn,kj]
 by_cases h:i<0
 .rw[if_pos h,if_neg (by omega)];rfl
 .rw[if_neg h,if_pos (by omega)]
  cases s <;> simp[Sl.k,Sl.l,mB,rows,Function.comp_def]
theorem KE {N:Nat->FuncId} (s:Sl α):bn N .lenSl [bZ s]=some (.int .i64 s.l.length):=by
 cases s <;> simp[bn,o_,bZ,Sl.k,Sl.l,mB,jx]
end
section
variable {S:Sys} {c:bO}
end
end Go.VE
namespace Go.VE
variable [bM]
section
variable {S:Sys} {c:bO}
def isSlice:s9->Bool
 | .slice ..=>true
 | _=>false
theorem NG (dr:Bool) (fr:List Nat) (dst:Option Nat) (now:Bool) (p:s9) (az:List Arg) (st:St) (h:isSlice p=false) :
 eT S c dr fr ⟨dst,none,now,.p p,az,[],[]⟩ st=(bV S.N st.g az).bind λsvs=>(jg S.N st.m p svs).bind λx=>some (cV st dst x):=by
 unfold eT kR;have u:e8 S.N st.g ⟨dst,none,now,.p p,az,[],[]⟩=none:=by unfold e8;grind
 simp[wanted,u]
 cases z:bV S.N st.g az with
 | none=>rfl
 | some svs=>
  simp;cases p <;> first|(simp[isSlice]at h;done)|(cases w:jg S.N st.m _ svs <;> simp[w])
theorem Hg (N:Nat->FuncId) (m:Tb bC) (p:s9) (svs:List SV) (xs:List V) (h:di svs=some xs):jg N m p svs=(bn N p xs).bind λx=>some (.v x):=by
 unfold jg;rw[h];dsimp only;cases bn N p xs <;> rfl
theorem DU (dr:Bool) (fr:List Nat) (dst:Option Nat) (now:Bool) (q:Hl) (az:List Arg) (st:St) :
 eT S c dr fr ⟨dst,none,now,.r q,az,[],[]⟩ st=(bV S.N st.g az).bind λsvs=>if !dr||now||eF fr svs then(nK st.m q svs).bind λx=>some (cV st dst x)else none:=by
 unfold eT kR;have u:e8 S.N st.g ⟨dst,none,now,.r q,az,[],[]⟩=none:=rfl;simp[wanted,u]
 cases w:bV S.N st.g az with
 | none=>rfl
 | some svs=>
  simp;split
  .cases z:nK st.m q svs <;> simp
  .rfl
theorem A2 (dr:Bool) (fr:List Nat) (d:Nat) (now:Bool) (q:JG) (az:List Arg) (st:St) :
 eT S c dr fr ⟨some d,none,now,.a q,az,[],[]⟩ st=(bV S.N st.g az).bind λsvs=>if st.new d then(om st.m q svs d).bind λr=>some { st with g:=bJ st.g d r.2,m:=bJ st.m d r.1 } else none:=by
 unfold eT kR;have u:e8 S.N st.g ⟨some d,none,now,.a q,az,[],[]⟩=none:=rfl;simp[wanted,u]
 cases w:bV S.N st.g az with
 | none=>rfl
 | some svs=>
  simp;split
  .cases z:om st.m q svs d <;> simp[cV]
  .rfl
theorem uR (dr:Bool) (fr:List Nat) (dst:Option Nat) (now:Bool) (q:G5) (az:List Arg) (st:St) :
 eT S c dr fr ⟨dst,none,now,.l q,az,[],[]⟩ st=(bV S.N st.g az).bind λsvs=>if !dr||now then(k9 st dst q svs).bind λr=>some (cV r.2 dst r.1)else none:=by
 unfold eT kR;have u:e8 S.N st.g ⟨dst,none,now,.l q,az,[],[]⟩=none:=rfl;simp[wanted,u]
 cases w:bV S.N st.g az with
 | none=>rfl
 | some svs=>
  simp;split
  .cases z:k9 st dst q svs <;> simp
  .rfl
def kZ:List SV->Option (FuncId×List SV)
 | .clo f a b::vs=>some (f,a++vs++b)
 | .v (.clo f a b)::vs=>some (f,a.map .v++vs++b.map .v)
 | _=>none
theorem A6 (dr:Bool) (fr:List Nat) (dst:Option Nat) (now:Bool) (az:List Arg) (st:St) (svs:List SV) (f:FuncId) (args:List SV) (B:bV S.N st.g az=some svs) (hc:kZ svs=some (f,args)) :
 eT S c dr fr ⟨dst,none,now,.c,az,[],[]⟩ st=(fJ S c dst dr (!dr||now) (fI st.m fr) f args st).bind λr=>some (cV r.2 dst r.1):=by
 unfold eT kR;unfold kZ at hc;split at hc
 .obtain⟨rfl,rfl⟩:=hc;simp[wanted,e8,B];cases fJ S c dst dr _ _ _ _ st <;> simp
 .obtain⟨rfl,rfl⟩:=hc;simp[wanted,e8,B];cases fJ S c dst dr _ _ _ _ st <;> simp
 grind
noncomputable def Mw {β:Type} (S:Sys) (c:bO) (fr:List Nat) (l:List RO) (k:St->Option β):St->Option β:=λst=>(lN S c false fr l st).bind k
noncomputable def MA {β:Type} (S:Sys) (c:bO) (fr:List Nat) (l:List RO) (k:St->Option β):St->Option β:=λst=>(lN S c true fr l st).bind k
noncomputable def Qs {β:Type} (S:Sys) (c:bO) (fr dd:List Nat) (l:List RO) (k:St->Option β):St->Option β:=λst=>Mw S c fr l k (nC dd st)
noncomputable def Re {β:Type} (S:Sys) (c:bO) (fr dd:List Nat) (l:List RO) (k:St->Option β):St->Option β:=λst=>MA S c fr l k (nC dd st)
@[congr] theorem RX {β:Type} {fr:List Nat} {l:List RO} {k:St->Option β} {st st':St} (h:st=st'):Mw S c fr l k st=Mw S c fr l k st':=by rw[h]
@[congr] theorem Ry {β:Type} {fr B:List Nat} {l:List RO} {k:St->Option β} {st st':St} (D:fr=B) (h:st=st'):MA S c fr l k st=MA S c B l k st':=by simp_all
@[congr] theorem R3 {β:Type} {fr dd:List Nat} {l:List RO} {k:St->Option β} {st st':St} (h:st=st'):Qs S c fr dd l k st=Qs S c fr dd l k st':=by rw[h]
@[congr] theorem RZ {β:Type} {fr B dd:List Nat} {l:List RO} {k:St->Option β} {st st':St} (D:fr=B) (h:st=st'):Re S c fr dd l k st=Re S c B dd l k st':=by simp_all
@[congr] theorem Sp {dr:Bool} {fr:List Nat} {o:RO} {st st':St} (h:st=st'):eT S c dr fr o st=eT S c dr fr o st':=by rw[h]
end
section
variable {S:Sys} {c:bO} (dr:Bool) (fr:List Nat) (dst:Option Nat) (now:Bool) (az:List Arg) (st:St)
end
end Go.VE
namespace Go.VE
variable [bM]
inductive Fm where
 | seq (b:RC)
 | blk (id:Nat)
 | gst (x:Gh)
section
variable (S:Sys) (c:bO) {β:Type} (Q:Out×St->Option β)
noncomputable def runK:List Fm->Out×St->Option β
 | [],r=>Q r
 | .seq b::fs,(.norm,st)=>(cz S c b st).bind (runK fs)
 | .seq _::fs,r=>runK fs r
 | .blk id::fs,(.exit k,st)=>if k=id then runK fs (.norm,st)else runK fs (.exit k,st)
 | .blk _::fs,r=>runK fs r
 | .gst x::fs,(.norm,st)=>(ghost x st).bind λst=>runK fs (.norm,st)
 | .gst _::fs,r=>runK fs r
noncomputable def go (rc:RC) (fs:List Fm) (st:St):Option β:=(cz S c rc st).bind (runK S c Q fs)
noncomputable def NV (fs:List Fm):St->Option β:=λst=>runK S c Q fs (.norm,st)
def bl {α:Type} (t:Bool) (a b:α):α:=if t then a else b
end
@[congr] theorem Sw {α:Type} {t B:Bool} {a b a' D:α} (h:t=B) (G:B=true->a=a') (J:B=false->b=D):bl t a b=bl B a' D:=by
 subst h;cases t
 .exact J rfl
 .exact G rfl
section
variable {S:Sys} {c:bO} {β:Type} {Q:Out×St->Option β}
@[congr] theorem go_congr {a:RC} {fs:List Fm} {st st':St} (h:st=st'):go S c Q a fs st=go S c Q a fs st':=by rw[h]
@[congr] theorem Rl {fs:List Fm} {st st':St} (h:st=st'):NV S c Q fs st=NV S c Q fs st':=by rw[h]
@[congr] theorem R4 {fs:List Fm} {r B:Out×St} (h:r=B):runK S c Q fs r=runK S c Q fs B:=by rw[h]
theorem FV (rc:RC) (st:St):(cz S c rc st).bind Q=go S c Q rc [] st:=by
 simp only[go];cases cz S c rc st <;> rfl
inductive Fw (ν ε ρ:Type) where
 | n (a:ν)
 | x (e:ε)
 | r (b:ρ)
def iE {σ ε ρ:Type} (step:σ->Option (Fw σ ε ρ)):Nat->σ->Option (Fw Empty ε ρ)
 | 0,_=>none
 | k+1,s=>match step s with
  | some (.n B)=>iE step k B
  | some (.x e)=>some (.x e)
  | some (.r b)=>some (.r b)
  | none=>none
theorem vC {σ ε ρ:Type} {step:σ->Option (Fw σ ε ρ)}:∀{k B:Nat} {s:σ} {r:Fw Empty ε ρ},k<=B->iE step k s=some r->iE step B s=some r
 | 0,_,_,_,_,h=>by simp[iE]at h
 | k+1,0,_,_,hk,_=>by omega
 | k+1,B+1,s,r,hk,h=>by
  simp only[iE]at h ⊢;split at h
  .exact vC (Nat.le_of_succ_le_succ hk) h
  .exact h
  .exact h
  .simp at h
open Classical in
noncomputable def bX {σ ε ρ:Type} (step:σ->Option (Fw σ ε ρ)) (s:σ):Option (Fw Empty ε ρ):=
 if h:∃k r,iE step k s=some r then some (Classical.choose (Classical.choose_spec h))else none
theorem mD {σ ε ρ:Type} {step:σ->Option (Fw σ ε ρ)} {s:σ} {r:Fw Empty ε ρ}:bX step s=some r↔∃k,iE step k s=some r:=by
 unfold bX;constructor
 .intro h;split at h
  .rename_i u;simp only[ζa]at h;exact⟨_,by rw[<-h];exact Classical.choose_spec (Classical.choose_spec u)⟩
  .simp at h
 .rintro⟨k,hk⟩;have u:∃k r,iE step k s=some r:=⟨k,r,hk⟩;rw[dif_pos u];have z:=Classical.choose_spec (Classical.choose_spec u);have A:=vC (Nat.le_max_left (Classical.choose u) k) z;have w:=vC (Nat.le_max_right (Classical.choose u) k) hk;rw[A]at w;exact w
def Fw.out {ν ε ρ:Type} (D:ν->St) (B:ε->Nat×St) (G:ρ->St):Fw ν ε ρ->Out×St
 | .n a=>(.norm,D a)
 | .x e=>(.exit (B e).1,(B e).2)
 | .r b=>(.ret,G b)
def Fw.elim {ε ρ γ:Type} (B:ε->γ) (fr:ρ->γ):Fw Empty ε ρ->γ
 | .x e=>B e
 | .r b=>fr b
end
end Go.VE
namespace Go.VE
variable [bM]
section
variable {α:Type} [bz α]
theorem CA (s:Sl α):V.one (bZ s)=true:=by cases s <;> rfl
theorem Kz (l:List α):V.lu (rows l)=true:=by
 induction l with
 | nil=>rfl
 | cons a l u=>simp only[rows,List.map_cons,V.lu,ζh];exact⟨bz.good a,u⟩
theorem HY (s:Sl α):V.good (bZ s)=true:=by
 cases s <;> simp only[bZ,Sl.k,mB,V.good] <;> exact Kz _
instance:bz (Sl α) where
 cells s:=[bZ s]
 agg:=false
 size:=1
 len _:=rfl
 good s:=by simp only[V.cu,HY,Bool.and_self]
 one s:=by simp[CA]
 plain _:=rfl
end
section
variable {S:Sys} {c:bO}
def KX (x:Option SV) (b:Bool) (y z:Option St):Option St:=
 match x with
 | some (.v (.bool t))=>bl (t==b) y z
 | some (.v _)=>z
 | _=>none
@[congr] theorem Qb {x B:Option SV} {b:Bool} {y z:Option St} (h:x=B):KX x b y z=KX B b y z:=by rw[h]
def N9 {β:Type} (x:Option SV) (y z:Option β):Option β:=
 match x with
 | some (.v (.bool t))=>bl t y z
 | _=>none
@[congr] theorem Ri {β:Type} {x B:Option SV} {y z:Option β} (h:x=B):N9 x y z=N9 B y z:=by rw[h]
def iL (c:bO) (f:FuncId) (az:List V):Option (List V):=(c f (az.map .v) []).bind λr=>cO r.2 8 r.1
def K6 (now:Bool) (args:List SV) (ok:Bool) (st:St) (ys:List V):Option (SV×St):=
 if(result ys).scalar||ok then some (.v (result ys),st)else if now then(rowsOf args).map λds=>(.v (result ys),{ st with m:=nE ds st.m })else none
theorem O3 (dst:Option Nat) (dr now:Bool) (old:List SV->Bool) (f:FuncId) (args:List SV) (st:St) (hk:S.E.keep f=false) :
 fJ S c dst dr now old f args st=(cO st.m 8 args).bind λaz=>if now||old args then(iL c f az).bind (K6 now args (di args).isSome st)else none:=by
 unfold fJ iL;simp only[hk,Bool.false_eq_true,if_false]
 cases cO st.m 8 args with
 | none=>rfl
 | some az=>
  simp only[ζb];split
  .cases c f (az.map .v) []with
   | none=>rfl
   | some r=>
    obtain⟨rs,m'⟩:=r;simp only[ζb];cases cO m' 8 rs <;> rfl
  .rfl
end
section
variable {S:Sys} {T:oh}
def Ef (rs:List RV):Out×St->Option (List V)
 | (.exit _,_)=>none
 | (_,st)=>(jf st rs).bind (cO st.m 8)
theorem No {f:FuncId} {rf:RF} (B:T f=some rf) (az:List V) (D:az.length<=rf.na):iL (dx S T) f az=go S (dx S T) (Ef rf.rs) rf.body [] (start (az.map .v) []):=by
 unfold iL;rw[p9 B];unfold lq;rw[if_pos (by simpa using D),<-FV]
 cases h:cz S (dx S T) rf.body (start (az.map .v) [])with
 | none=>rfl
 | some r=>
  obtain⟨o,st⟩:=r;cases o <;> simp only[ζb,Ef] <;> (try rfl) <;> (cases jf st rf.rs <;> rfl)
end
end Go.VE
namespace Go.VE
variable [bM]
variable {N:Nat->FuncId}
def Cj (k:IntKind) (a b:Int):Option Int:=if b=0 then none else some (k.wrap (a.tdiv b))
theorem Q9 (e:Option KT) (q:Option Nat) (k:IntKind) (a b:Int):bn N (.bin e q .quo) [.int k a,.int k b]=(Cj k a b).bind λx=>some (.int k x):=by
 simp only[bn,iJ,Cj,if_true];split <;> rfl
def To (k:IntKind) (a b:Int):Option Int:=if b<0 then none else some (a.fdiv (2 ^ (min b.toNat k.bits)))
theorem Ga (o:Nat) (cs:List V):bn N (.fieldAddr o) [.fptr cs]=if o<=cs.length then some (.fptr (cs.drop o))else none:=rfl
def jE (s:ByteArray) (n:Int):Option Int:=if 0<=n then(s[n.toNat]?).map λb=>(b.toNat:Int)else none
theorem JX (s:ByteArray) (k:IntKind) (n:Int):bn N .idxStr [.str s,.int k n]=(jE s n).bind λx=>some (.int .u8 x):=by
 simp only[bn,jE];split
 .cases s[n.toNat]? <;> rfl
 .rfl
theorem Ly (z:List V) (pl:List (Nat×Nat)) (vs:List V):bn N (.build z pl) vs=(jv z pl vs).bind λcs=>some (.agg cs):=by
 simp only[bn];cases jv z pl vs <;> rfl
section
variable {α:Type} [bz α]
theorem B_ (s:Sl α) (k:IntKind) (i:Int) (n:Nat) (B:n=bz.size α):bn N (.idxS n) [bZ s,.int k i]=(idx s i).bind λx=>some (.fptr (cells x)):=by
 rw[L0 s k i B];cases idx s i <;> rfl
theorem wU (s:Sl α):bn N .lenSl [bZ s]=some (.int .i64 s.l.length):=KE s
def Sl.isNil {α:Type} (s:Sl α):Option Bool:=
 match s with
 | .nil=>some true
 | .emp=>none
 | _=>some false
theorem Mn (q:Option Nat) (s:Sl α):bn N (.bin (some .slice) q .eql) [bZ s,.bL]=s.isNil.bind λt=>some (.bool t):=by
 cases s <;> rfl
def ij (s:Sl α) (B D:Option Int):Option (Sl α):=
 (dM s.l.length B D).map λ(l,h)=>match s with
  | .nil=>.nil
  | .emp=>.emp
  | .row x=>.part ((x.take h).drop l)
  | .part x=>.part ((x.take h).drop l)
theorem Ia (s:Sl α) (B D:Option Int) (n:Nat) (G:n=bz.size α):gI n (bZ s) B D=(ij s B D).bind λx=>some (bZ x):=by
 subst G
 cases s with
 | nil=>simp only[bZ,Sl.k,mB,gI,ij,Sl.l,List.length_nil];cases dM 0 B D <;> rfl
 | emp=>simp only[bZ,Sl.k,mB,gI,ij,Sl.l,List.length_nil];cases dM 0 B D <;> rfl
 | row l=>simp only[bZ,Sl.k,mB,gI,ij,Sl.l,if_true,jx];cases dM l.length B D <;> simp[rows,List.map_take,List.map_drop]
 | part l=>simp only[bZ,Sl.k,mB,gI,ij,Sl.l,if_true,jx];cases dM l.length B D <;> simp[rows,List.map_take,List.map_drop]
end
theorem KM (m:Tb bC) (n:Nat) (a:Bool) (cs:List V):nK m (.load n a) [.v (.fptr cs)]=(cut cs 0 n).bind λr=>(mk a r).bind λx=>some (.v x):=by
 simp only[nK,dJ]
 cases cut cs 0 n with
 | none=>rfl
 | some r=>simp only[ζb];cases mk a r <;> rfl
end Go.VE
namespace Go.VE
variable [bM]
section
variable {α:Type} [bz α]
def cS (s:Sl α):bC:=.sl s.k (bz.size α) (rows s.l)
def Sl.qw (s:Sl α) (i:Int):Option Nat:=if 0<=i/\i.toNat<s.l.length then some i.toNat else none
def Sl.get (s:Sl α) (i:Nat):Option α:=s.l[i]?
def Sl.put (s:Sl α) (i:Nat) (x:α):Option (Sl α):=
 if i<s.l.length then some (match s with|.row l=>.row (l.set i x)|.part l=>.part (l.set i x)|s=>s)else none
def iU (s:Sl α) (x:α):Option (Sl α):=if s.l.length+1<=2147483648 then some (.row (s.l++[x]))else none
def Au (n:Int) (z:α):Option (Sl α):=if 0<=n/\n<=2147483648 then some (.row (List.replicate n.toNat z))else none
end
section
variable {α:Type} [bz α] {N:Nat->FuncId} {m:Tb bC}
def HG (n d:Nat) (o:Option bC) (i:Int):Option SV:=
 match o with
 | some (.sl k es u)=>if cH k/\es=n/\0<=i/\i.toNat<u.length then some (.el d i.toNat 0)else none
 | _=>none
theorem PJ (n d:Nat) (k:IntKind) (i:Int):jg N m (.idxS n) [.own d,.v (.int k i)]=HG n d (a_ m d) i:=by
 simp[jg,di,zg,HG]
 grind
theorem Pw (n d:Nat) (s:Sl α) (i:Int) (h:n=bz.size α):HG n d (some (cS s)) i=(s.qw i).bind λj=>some (.el d j 0):=by
 simp[HG,cS,jx,Sl.qw]
 cases s with
 | nil=>simp[Sl.l,cH]
 | emp=>simp[Sl.l,cH]
 | row l=>simp[Sl.k,Sl.l,cH];grind
 | part l=>simp[Sl.k,Sl.l,cH];grind
def IN (o:Option bC):Option SV:=
 match o with
 | some (.sl _ _ u)=>some (.v (.int .i64 u.length))
 | _=>none
theorem LX (d:Nat):jg N m .lenSl [.own d]=IN (a_ m d):=by
 simp[jg,di,zg,IN]
 grind
theorem Od (s:Sl α):IN (some (cS s))=some (.v (.int .i64 s.l.length)):=by simp[IN,cS,jx]
def Nv (n:Nat) (a:Bool) (o:Nat) (ob:Option bC):Option SV:=
 match ob with
 | some (.box cs)=>tF n a ((cs.drop o).take n)
 | _=>none
theorem SP (n:Nat) (a:Bool) (d o:Nat):nK m (.load n a) [.ptr d o]=Nv n a o (a_ m d):=by
 rfl
theorem Ka (n:Nat) (a:Bool) (o:Nat) (cs:List SV):Nv n a o (some (.box cs))=tF n a ((cs.drop o).take n):=rfl
def EY (n:Nat) (a:Bool) (i o:Nat) (ob:Option bC):Option SV:=
 match ob with
 | some (.sl _ _ u)=>match u[i]? with
  | some cs=>((cut cs o n).bind (mk a)).map .v
  | none=>none
 | _=>none
theorem R8 (n:Nat) (a:Bool) (d i o:Nat):nK m (.load n a) [.el d i o]=EY n a i o (a_ m d):=by
 rfl
theorem K7 (n:Nat) (a:Bool) (i o:Nat) (s:Sl α):EY n a i o (some (cS s))=(s.get i).bind λx=>(cut (cells x) o n).bind λr=>(mk a r).bind λy=>some (.v y):=by
 simp only[EY,cS,Sl.get,rows,List.getElem?_map]
 cases s.l[i]? with
 | none=>rfl
 | some x=>
  simp only[Option.map_some,ζb]
  cases cut (cells x) o n with
  | none=>rfl
  | some r=>simp ;cases mk a r <;> rfl
theorem R7 (z:α) (n:Int) (d:Nat) (size:Nat) (zero:List V) (h:zero=cells z) (B:size=bz.size α) :
 om m (.makeSl size zero) [.v (.int .i64 n),.v (.int .i64 n)] d=(Au n z).bind λs=>some (cS s,.own d):=by
 subst h B;simp[om,Au];split
 .simp[cS,Sl.k,Sl.l,rows]
 .rfl
def Ck (st:St) (d i o size:Nat) (x:V) (ob:Option bC):Option (SV×St):=
 match ob with
 | some (.sl k es u)=>match u[i]? with
  | some cs=>if x.cells.length=size/\o+size<=cs.length/\x.cells.all V.one=true then
   some (.v .undef,{ st with m:=bJ st.m d (.sl k es (u.set i (cs.take o++x.cells++cs.drop (o+x.cells.length)))) })else none
  | none=>none
 | _=>none
theorem Jk (st:St) (dst:Option Nat) (size d i o:Nat) (x:V):k9 st dst (.store size) [.el d i o,.v x]=Ck st d i o size x (a_ st.m d):=by
 rfl
theorem Ig (g:Tb SV) (p:List Nat) (w:List (List V)) (B:Bool) (y:Nat) (d i size:Nat) (x:V) (a:α) (D:x.cells=cells a) (G:size=bz.size α) (s:Sl α) :
 Ck ⟨g,m,p,w,B,y⟩ d i 0 size x (some (cS s))=(s.put i a).bind λJ=>some (.v .undef,⟨g,bJ m d (cS J),p,w,B,y⟩):=by
 have h1:(cells a).all V.one=true:=bz.one a;have z:∀b:α,(cells b).length=bz.size α:=bz.len;subst G;simp only[Ck,cS,rows,List.getElem?_map,D,Sl.put]
 by_cases u:i<s.l.length
 .have hg  := ζd u;rw[if_pos u,hg];simp[z,h1]
  cases s with
  | nil=>simp[Sl.l]at u
  | emp=>simp[Sl.l]at u
  | row l=>simp[Sl.k,Sl.l,List.drop_of_length_le,z]
  | part l=>simp[Sl.k,Sl.l,List.drop_of_length_le,z]
 grind
def wD (st:St) (t n:Nat) (s:SV) (xs ys:Option (List (List V))):Option (SV×St):=
 match xs,ys with
 | some _,some []=>match s with
  | .own d=>match a_ st.m d with
   | some ob=>if St.new { st with m:=dR d st.m } t then some (.own t,{ st with m:=bJ (dR d st.m) t ob })else none
   | none=>none
  | .v .bL=>if st.new t then some (.own t,{ st with m:=bJ st.m t (.sl .nil n []) })else none
  | .v .dh=>if st.new t then some (.own t,{ st with m:=bJ st.m t (.sl .emp n []) })else none
  | _=>none
 | some xs,some ys=>
  if xs.length+ys.length<=2147483648/\EM s=true then
   if St.new { st with m:=giveUp st.m s } t then some (.own t,{ st with m:=bJ (giveUp st.m s) t (.sl .row n (xs++ys)) })else none
  else none
 | _,_=>none
theorem yg (st:St) (t n:Nat) (s x:SV):k9 st (some t) (.append n) [s,x]=wD st t n s (jl st.m n s) (jl st.m n x):=by
 cases s <;> cases x <;> (rfl)
def IP (n:Nat) (o:Option bC):Option (List (List V)):=
 match o with
 | some (.sl k es u)=>if cH k then(if es=n then some u else none)else some []
 | _=>none
theorem Cp (n d:Nat):jl m n (.own d)=IP n (a_ m d):=by
 simp[jl,IP]
 grind
theorem zz (n:Nat) (s:Sl α) (h:n=bz.size α):IP n (some (cS s))=some (rows s.l):=by
 subst h;cases s <;> simp[IP,cS,Sl.k,Sl.l,cH,rows]
theorem PD (n:Nat):jl m n (.v .bL)=some []:=rfl
theorem Oi (n:Nat):jl m n (.v .dh)=some []:=rfl
theorem KG (g:Tb SV) (p:List Nat) (w:List (List V)) (B:Bool) (y:Nat) (t n d:Nat) (l:List α) (x:α) (h:n=bz.size α):wD ⟨g,m,p,w,B,y⟩ t n (.own d) (some (rows l)) (some (rows [x])) =
 (iU (.row l) x).bind λs=>if St.new ⟨g,dR d m,p,w,B,y⟩ t then some (.own t,⟨g,bJ (dR d m) t (cS s),p,w,B,y⟩)else none:=by
 subst h;have e:(rows l).length+(rows [x]).length=l.length+1:=by simp[jx]
 by_cases h:l.length+1<=2147483648
 .have h1:iU (.row l) x=some (.row (l++[x])):=if_pos h;have u:wD ⟨g,m,p,w,B,y⟩ t (bz.size α) (.own d) (some (rows l)) (some (rows [x]))=if St.new ⟨g,dR d m,p,w,B,y⟩ t then some (.own t,⟨g,bJ (dR d m) t (.sl .row (bz.size α) (rows l++rows [x])),p,w,B,y⟩)else none:=if_pos ⟨by omega,rfl⟩
  rw[h1,u];simp[cS,Sl.k,Sl.l,rows]
 .have h1:iU (.row l) x=none:=if_neg h;have u:wD ⟨g,m,p,w,B,y⟩ t (bz.size α) (.own d) (some (rows l)) (some (rows [x]))=none:=if_neg (λq=>h (by omega))
  grind
theorem JM (g:Tb SV) (p:List Nat) (w:List (List V)) (B:Bool) (y:Nat) (t n:Nat) (x:α) (h:n=bz.size α):wD ⟨g,m,p,w,B,y⟩ t n (.v .bL) (some []) (some (rows [x])) =
 if St.new ⟨g,m,p,w,B,y⟩ t then some (.own t,⟨g,bJ m t (cS (.row [x])),p,w,B,y⟩)else none:=by
 subst h;rfl
theorem JA (g:Tb SV) (p:List Nat) (w:List (List V)) (B:Bool) (y:Nat) (t n:Nat) (x:α) (h:n=bz.size α):wD ⟨g,m,p,w,B,y⟩ t n (.v .dh) (some []) (some (rows [x])) =
 if St.new ⟨g,m,p,w,B,y⟩ t then some (.own t,⟨g,bJ m t (cS (.row [x])),p,w,B,y⟩)else none:=by
 subst h;rfl
end
theorem vQ (g:Tb SV) (m:Tb bC) (p:List Nat) (w:List (List V)) (B:Bool) (y d:Nat):St.new ⟨g,m,p,w,B,y⟩ d=(!(p.contains d)&&(a_ m d).isNone && !(tv d g) && !(qR d m)):=rfl
theorem qx (d:Nat):tv d []=false:=rfl
theorem oO (d n:Nat) (x:SV) (r:Tb SV):tv d ((n,x)::r)=(SV.cI d x||tv d r):=rfl
theorem qg (d:Nat):qR d []=false:=rfl
theorem ow (d n:Nat) (x:bC) (r:Tb bC):qR d ((n,x)::r)=(bC.cI d x||qR d r):=rfl
theorem vP (d:Nat) (x:V):SV.cI d (.v x)=false:=rfl
theorem qV (d e:Nat):SV.cI d (.own e)=(e==d):=rfl
theorem rj (d e o:Nat):SV.cI d (.ptr e o)=(e==d):=rfl
theorem tR (d e i o:Nat):SV.cI d (.el e i o)=(e==d):=rfl
theorem tW (d e:Nat):SV.cI d (.mp e)=(e==d):=rfl
theorem rC (d:Nat) (f:FuncId) (a b:List SV):SV.cI d (.clo f a b)=(SV.dc d a||SV.dc d b):=rfl
theorem rH (d:Nat) (l:List SV):SV.cI d (.tup l)=SV.dc d l:=rfl
theorem qa (d:Nat):SV.dc d []=false:=rfl
theorem oI (d:Nat) (x:SV) (r:List SV):SV.dc d (x::r)=(SV.cI d x||SV.dc d r):=rfl
theorem qn (d:Nat) (cs:List SV):bC.cI d (.box cs)=SV.dc d cs:=rfl
theorem CU (m:Tb bC) (n:Nat):cO m n []=some []:=by cases n <;> simp[cO]
theorem AW (m:Tb bC) (n:Nat) (x:SV) (r:List SV):cO m n (x::r)=(shut m n x).bind λy=>(cO m n r).bind λs=>some (y::s):=by
 cases n <;> (simp[cO];cases shut m _ x <;> (try rfl) <;> (cases cO m _ r <;> rfl))
theorem Qd (m:Tb bC) (n:Nat) (x:V):shut m n (.v x)=some x:=by cases n <;> simp[shut]
theorem MZ (m:Tb bC) (n:Nat) (f:FuncId) (a b:List SV):shut m (n+1) (.clo f a b)=(cO m n a).bind λx=>(cO m n b).bind λy=>some (.clo f x y):=by
 simp[shut];cases cO m n a <;> (try rfl) <;> (cases cO m n b <;> rfl)
theorem Nc (m:Tb bC) (n:Nat) (l:List SV):shut m (n+1) (.tup l)=(cO m n l).bind λx=>some (.tup x):=by
 simp[shut];cases cO m n l <;> rfl
theorem Nj (m:Tb bC) (n:Nat) (l:List SV):shut m (n+1) (.agg l)=(cO m n l).bind λx=>some (.agg x):=by
 simp[shut];cases cO m n l <;> rfl
theorem ru {α:Type} (n:Nat):dR n ([]:Tb α)=[]:=rfl
theorem qd {α:Type} (n k:Nat) (x:α) (r:Tb α):dR n ((k,x)::r)=if k=n then dR n r else(k,x)::dR n r:=rfl
theorem mapM_nil (f:List SV->List SV):mapM f []=[]:=rfl
end Go.VE
namespace Go.VE
variable [bM]
section
variable {N:Nat->FuncId} {m:Tb bC}
theorem Oq:result []=.tup []:=rfl
theorem O4 (x:V):result [x]=x:=rfl
theorem Pm (x y:V) (l:List V):result (x::y::l)=.tup (x::y::l):=rfl
theorem Ew (p:s9) (a:V):jg N m p [.v a]=(bn N p [a]).bind λx=>some (.v x):=Hg N m p _ [a] rfl
theorem ua (p:s9) (a b:V):jg N m p [.v a,.v b]=(bn N p [a,b]).bind λx=>some (.v x):=Hg N m p _ [a,b] rfl
theorem kL (l:List V):di (l.map .v)=some l:=by
 induction l with
 | nil=>rfl
 | cons a l u=>simp only[List.map_cons,di,u];rfl
theorem uQ (n:Nat) (l:List V):cO m n (l.map .v)=some l:=by
 induction l with
 | nil=>exact CU m n
 | cons a l u=>rw[List.map_cons,AW,Qd,u];rfl
theorem Sl.N8 {α:Type} (l:List α):(Sl.row l).l=l:=rfl
theorem ql (cs:List V):jv cs [] []=some cs:=rfl
theorem oN (cs:List V) (off size:Nat) (pl:List (Nat×Nat)) (v:V) (vs:List V):jv cs ((off,size)::pl) (v::vs) =
 if v.cells.length=size/\off+v.cells.length<=cs.length then jv (cs.take off++v.cells++cs.drop (off+v.cells.length)) pl vs else none:=by
 simp only[jv]
 by_cases h:v.cells.length=size <;> by_cases u:off+v.cells.length<=cs.length
 .rw[if_neg (by simp[h];omega),if_pos ⟨h,u⟩]
 .rw[if_pos (by simp[h];omega),if_neg (λq=>u q.2)]
 .rw[if_pos (by simp[h]),if_neg (λq=>h q.1)]
 .rw[if_pos (by simp[h]),if_neg (λq=>h q.1)]
theorem vS (k:IntKind) (n:Int):V.cells (.int k n)=[.int k n]:=rfl
theorem tT (n:Bool):V.cells (.bool n)=[.bool n]:=rfl
theorem vN (n:ByteArray):V.cells (.str n)=[.str n]:=rfl
theorem vZ:V.cells .bL=[.bL]:=rfl
theorem oM (k:IntKind) (n:Int):V.one (.int k n)=true:=rfl
theorem mH (n:Bool):V.one (.bool n)=true:=rfl
theorem oE (n:ByteArray):V.one (.str n)=true:=rfl
end
end Go.VE
namespace Go.VE
variable [bM]
section
variable {S:Sys} {c:bO} {β γ δ:Type} {Q:Out×St->Option β} {L:Option β} {e:γ->Option β}
theorem Kp {dr:Bool} {fr:List Nat} {d:Option Nat} {gd:Option (Nat×Bool)} {now:Bool} {k:K} {az:List Arg} {st:St} (h:wanted st.g gd=some true) :
 eT S c dr fr ⟨d,gd,now,k,az,[],[]⟩ st=eT S c dr fr ⟨d,none,now,k,az,[],[]⟩ st:=by
 unfold eT;rw[h];rfl
theorem Ag (dr:Bool) (st:St):AH dr [] st=some st:=by cases dr <;> rfl
def mq (f:SV->Option V):List SV->Option (List V)
 | []=>some []
 | x::r=>(f x).bind λy=>(mq f r).bind λs=>some (y::s)
def gP (m:Tb bC):Nat->SV->Option V
 | 0,x=>match x with
  | .v y=>some y
  | .own d=>match a_ m d with
   | some (.sl k es xs)=>some (mB k es xs)
   | _=>none
  | .mp d=>match a_ m d with
   | some (.mp B)=>some (.fmap B)
   | _=>none
  | _=>none
 | n+1,x=>match x with
  | .v y=>some y
  | .own d=>match a_ m d with
   | some (.sl k es xs)=>some (mB k es xs)
   | _=>none
  | .ptr d o=>match a_ m d with
   | some (.box cs)=>match mq (gP m n) cs with
    | some xs=>if o<=xs.length then some (.fptr (xs.drop o))else none
    | none=>none
   | _=>none
  | .mp d=>match a_ m d with
   | some (.mp B)=>some (.fmap B)
   | _=>none
  | .clo f a b=>(mq (gP m n) a).bind λx=>(mq (gP m n) b).bind λy=>some (.clo f x y)
  | .tup l=>(mq (gP m n) l).bind λx=>some (.tup x)
  | .agg l=>(mq (gP m n) l).bind λx=>some (.agg x)
  | _=>none
theorem wh (m:Tb bC):∀(n:Nat),(∀x,shut m n x=gP m n x)/\∀l,cO m n l=mq (gP m n) l:=by
 have w:∀n,(∀x,shut m n x=gP m n x)->∀l,cO m n l=mq (gP m n) l:=by
  intro n h l
  induction l with
  | nil=>exact CU m n
  | cons a l u=>rw[AW,h a,u];rfl
 intro n
 induction n with
 | zero=>
  have h0:∀x,shut m 0 x=gP m 0 x:=by
   intro x;cases x <;> simp[shut,gP] <;> rfl
  grind
 | succ n u=>
  have h1:∀x,shut m (n+1) x=gP m (n+1) x:=by
   intro x
   cases x with
   | ptr d o=>simp[shut,gP,u.2];rfl
   | clo f a b=>rw[MZ,u.2,u.2];rfl
   | tup l=>rw[Nc,u.2];rfl
   | agg l=>rw[Nj,u.2];rfl
   | _=>simp[shut,gP] <;> rfl
  grind
noncomputable def sP (S:Sys) (c:bO) (dr:Bool):List Nat->List RO->(St->Option β)->St->Option β
 | _,[],k,st=>k st
 | fr,o::r,k,st=>((AH dr o.pre st).bind (eT S c dr fr o.strip)).bind λst'=>sP S c dr (if dr then pF fr o.strip else fr) r k (nC o.dead st')
theorem B7 (dr:Bool):∀(l:List RO) (fr:List Nat) (k:St->Option β) (st:St),sP S c dr fr l k st=(lN S c dr fr l st).bind k
 | [],_,_,_=>rfl
 | o::r,fr,k,st=>by
  simp[sP,lN]
  cases (AH dr o.pre st).bind (eT S c dr fr o.strip)with
  | none=>rfl
  | some st'=>exact B7 dr r _ k _
noncomputable def nL (S:Sys) (c:bO):RC->(St->Option β)->(Nat->St->Option β)->(St->Option β)->St->Option β
 | .skip,n,_,_,st=>n st
 | .ops l,n,_,_,st=>sP S c false [] l n st
 | .ny l,n,_,_,st=>sP S c true [] l n st
 | .seq a b,n,x,r,st=>nL S c a (λst=>nL S c b n x r st) x r st
 | .cond y a b,n,x,r,st=>match o5 S.N st.g y with
  | some (.v (.bool t))=>bl t (nL S c a n x r st) (nL S c b n x r st)
  | _=>none
 | .block id a,n,x,r,st=>nL S c a n (λk st=>if k=id then n st else x k st) r st
 | .loop a,n,x,r,st=>(mG (cz S c a) st).bind λq=>match q with|(.norm,st)=>n st|(.exit k,st)=>x k st|(.ret,st)=>r st
 | .each g ps a b,n,x,r,st=>(cz S c (.each g ps a b) st).bind λq=>match q with|(.norm,st)=>n st|(.exit k,st)=>x k st|(.ret,st)=>r st
 | .exit k,_,x,_,st=>x k st
 | .ret,_,_,r,st=>r st
 | .gh g a,n,x,r,st=>(ghost g st).bind λst=>nL S c a n x r st
 | .hg a g,n,x,r,st=>nL S c a (λst=>(ghost g st).bind n) x r st
def Co (n:St->Option β) (x:Nat->St->Option β) (r:St->Option β):Out×St->Option β
 | (.norm,st)=>n st
 | (.exit k,st)=>x k st
 | (.ret,st)=>r st
theorem BV:∀(rc:RC) (n:St->Option β) (x:Nat->St->Option β) (r:St->Option β) (st:St),nL S c rc n x r st=(cz S c rc st).bind (Co n x r):=by
 intro rc
 induction rc with
 | skip=>intros;rfl
 | ops l=>intro n x r st;simp[nL,cz,B7];cases lN S c false [] l st <;> rfl
 | ny l=>intro n x r st;simp[nL,cz,B7];cases lN S c true [] l st <;> rfl
 | seq a b u w=>
  intro n x r st;simp[nL,cz,u,w]
  cases h:cz S c a st with
  | none=>rfl
  | some q=>obtain⟨o,st'⟩:=q;cases o <;> rfl
 | cond y a b u w=>
  intro n x r st;simp[nL,cz,u,w]
  cases o5 S.N st.g y with
  | none=>rfl
  | some v=>cases v with
   | v z=>cases z with
    | bool t=>cases t <;> rfl
    | _=>rfl
   | _=>rfl
 | block id a A=>
  intro n x r st;simp[nL,cz,A]
  cases h:cz S c a st with
  | none=>rfl
  | some q=>
   obtain⟨o,st'⟩:=q
   cases o with
   | exit k=>simp[Co];split <;> rfl
   | _=>rfl
 | loop a A=>
  intro n x r st;rfl
 | each g B a b u w=>
  intro n x r st;rfl
 | exit k=>intros;rfl
 | ret=>intros;rfl
 | gh g a A=>
  simp[nL,cz,A]
  grind
 | hg a g A=>
  intro n x r st;simp[nL,cz,A]
  cases h:cz S c a st with
  | none=>rfl
  | some q=>
   obtain⟨o,st'⟩:=q
   cases o with
   | norm=>simp[Co];cases ghost g st' <;> rfl
   | _=>rfl
section
variable (S c Q)
mutual
noncomputable def lB:List Fm->St->Option β
 | []=>λst=>Q (.norm,st)
 | .seq b::fs=>λst=>nL S c b (lB fs) (lF fs) (λst=>Q (.ret,st)) st
 | .blk _::fs=>lB fs
 | .gst g::fs=>λst=>(ghost g st).bind (lB fs)
noncomputable def lF:List Fm->Nat->St->Option β
 | []=>λk st=>Q (.exit k,st)
 | .seq _::fs=>lF fs
 | .blk id::fs=>λk st=>if k=id then lB fs st else lF fs k st
 | .gst _::fs=>lF fs
end
noncomputable def ji (rc:RC) (fs:List Fm) (st:St):Option β:=nL S c rc (lB S c Q fs) (lF S c Q fs) (λst=>Q (.ret,st)) st
end
section
variable {dr:Bool} {fr:List Nat} {d:Nat} {dst:Option Nat} {now:Bool} {az:List Arg} {st:St} {α:Type} [bz α]
theorem KV {p:s9} {svs:List SV} {m:Option δ} {v:δ->SV} (B:bV S.N st.g az=some svs) (D:isSlice p=false) (h:jg S.N st.m p svs=m.bind λx=>some (v x)) :
 eT S c dr fr ⟨dst,none,now,.p p,az,[],[]⟩ st=m.bind λx=>some (cV st dst (v x)):=by
 rw[NG _ _ _ _ _ _ _ D,B]
 grind
theorem Cw {p:s9} {svs:List SV} {v:SV} (B:bV S.N st.g az=some svs) (D:isSlice p=false) (h:jg S.N st.m p svs=some v) :
 eT S c dr fr ⟨dst,none,now,.p p,az,[],[]⟩ st=some (cV st dst v):=by
 rw[NG _ _ _ _ _ _ _ D,B]
 grind
theorem NC {n:Nat} {s:Sl α} {k:IntKind} {i:Int} (B:bV S.N st.g az=some [.v (bZ s),.v (.int k i)]) (D:n=bz.size α) :
 eT S c dr fr ⟨dst,none,now,.p (.idxS n),az,[],[]⟩ st=(idx s i).bind λx=>some (cV st dst (.v (.fptr (cells x)))):=
 KV B rfl (by rw[ua,B_ s k i n D];grind)
theorem RQ {n e:Nat} {s:Sl α} {k:IntKind} {i:Int} (B:bV S.N st.g az=some [.own e,.v (.int k i)]) (D:a_ st.m e=some (cS s)) (G:n=bz.size α) :
 eT S c dr fr ⟨dst,none,now,.p (.idxS n),az,[],[]⟩ st=(s.qw i).bind λj=>some (cV st dst (.el e j 0)):=
 KV B rfl (by rw[PJ,D,Pw n e s i G])
theorem Nq {s:Sl α} (B:bV S.N st.g az=some [.v (bZ s)]):eT S c dr fr ⟨dst,none,now,.p .lenSl,az,[],[]⟩ st=some (cV st dst (.v (.int .i64 s.l.length))):=
 Cw B rfl (by rw[Ew,wU];rfl)
theorem QI {e:Nat} {s:Sl α} (B:bV S.N st.g az=some [.own e]) (D:a_ st.m e=some (cS s)):eT S c dr fr ⟨dst,none,now,.p .lenSl,az,[],[]⟩ st=some (cV st dst (.v (.int .i64 s.l.length))):=
 Cw B rfl (by rw[LX,D,Od])
theorem R6 {q:Option KT} {u:Option Nat} {k:IntKind} {a b:Int} (B:bV S.N st.g az=some [.v (.int k a),.v (.int k b)]):eT S c dr fr ⟨dst,none,now,.p (.bin q u .quo),az,[],[]⟩ st=(Cj k a b).bind λx=>some (cV st dst (.v (.int k x))):=
 KV B rfl (by rw[ua,Q9];grind)
theorem OE {u:Option Nat} {s:Sl α} (B:bV S.N st.g az=some [.v (bZ s),.v .bL]):eT S c dr fr ⟨dst,none,now,.p (.bin (some .slice) u .eql),az,[],[]⟩ st=s.isNil.bind λt=>some (cV st dst (.v (.bool t))):=
 KV B rfl (by rw[ua,Mn];grind)
theorem MF {s:ByteArray} {k:IntKind} {n:Int} (B:bV S.N st.g az=some [.v (.str s),.v (.int k n)]):eT S c dr fr ⟨dst,none,now,.p .idxStr,az,[],[]⟩ st=(jE s n).bind λx=>some (cV st dst (.v (.int .u8 x))):=
 KV B rfl (by rw[ua,JX];grind)
theorem Q8 {n e i o:Nat} {a:Bool} {s:Sl α} {v:α->V} (B:bV S.N st.g az=some [.el e i o]) (hd:(!dr||now||eF fr [.el e i o])=true) (D:a_ st.m e=some (cS s)) (hv:∀x:α,(cut (cells x) o n).bind (mk a)=some (v x)) :
 eT S c dr fr ⟨dst,none,now,.r (.load n a),az,[],[]⟩ st=(s.get i).bind λx=>some (cV st dst (.v (v x))):=by
 rw[DU,B];simp only[ζb,hd,R8,D,K7]
 cases s.get i with
 | none=>rfl
 | some x=>
  cases hc:cut (cells x) o n with
  | none=>grind
  | some r=>grind
theorem OR {n e i:Nat} {s:Sl α} {x:V} {a:α} (B:bV S.N st.g az=some [.el e i 0,.v x]) (hd:(!dr||now)=true) (D:a_ st.m e=some (cS s)) (G:x.cells=cells a) (J:n=bz.size α) :
 eT S c dr fr ⟨dst,none,now,.l (.store n),az,[],[]⟩ st=(s.put i a).bind λU=>some (cV { st with m:=bJ st.m e (cS U) } dst (.v .undef)):=by
 rw[uR,B];simp[hd,Jk,D];rw[Ig st.g st.pin st.want st.more st.yid e i n x a G J s]
 grind
theorem QX {n:Nat} {z:α} {zero:List V} {i:Int} (B:bV S.N st.g az=some [.v (.int .i64 i),.v (.int .i64 i)]) (D:zero=cells z) (G:n=bz.size α) (J:st.new d=true) :
 eT S c dr fr ⟨some d,none,now,.a (.makeSl n zero),az,[],[]⟩ st=(Au i z).bind λs=>some { st with g:=bJ st.g d (.own d),m:=bJ st.m d (cS s) }:=by
 rw[A2,B];simp[J];rw[R7 z i d n zero D G]
 grind
theorem RP {n e u:Nat} {s:Sl α} {x:α} (G:bV S.N st.g az=some [.own e,.own u]) (hd:(!dr||now)=true) (J:a_ st.m e=some (cS s)) (hu:a_ st.m u=some (cS (.row [x]))) (B:n=bz.size α) (U:St.new { st with m:=dR e st.m } d=true) :
 eT S c dr fr ⟨some d,none,now,.l (.append n),az,[],[]⟩ st=(iU s x).bind λD=>some { st with g:=bJ st.g d (.own d),m:=bJ (dR e st.m) d (cS D) }:=by
 rw[uR,G];simp[hd,yg,Cp,J,hu];rw[zz n s B,zz n (.row [x]) B];have:=KG (m:=st.m) st.g st.pin st.want st.more st.yid d n e s.l x B;simp[Sl.N8];rw[this];have w:iU (.row s.l) x=iU s x:=by cases s <;> rfl
 rw[w]
 cases iU s x with
 | none=>rfl
 | some D=>
  simp;rw[if_pos U];rfl
theorem QH {n u:Nat} {x:α} {v:V} (hv:v=.bL\/v=.dh) (G:bV S.N st.g az=some [.v v,.own u]) (hd:(!dr||now)=true) (hu:a_ st.m u=some (cS (.row [x]))) (B:n=bz.size α) (D:st.new d=true) :
 eT S c dr fr ⟨some d,none,now,.l (.append n),az,[],[]⟩ st=some { st with g:=bJ st.g d (.own d),m:=bJ st.m d (cS (.row [x])) }:=by
 rw[uR,G];simp[hd,yg,Cp,hu];rw[zz n (.row [x]) B];simp[Sl.N8];rcases hv with rfl|rfl
 .rw[PD,JM (m:=st.m) st.g st.pin st.want st.more st.yid d n x B];rw[if_pos D];rfl
 .rw[Oi,JA (m:=st.m) st.g st.pin st.want st.more st.yid d n x B];rw[if_pos D];rfl
theorem Q_ {f:FuncId} {svs args:List SV} {cs:List V} {m:Option δ} {E:δ->List V} (hc:iL c f cs=m.bind λr=>some (E r)) (hk:S.E.keep f=false) (D:bV S.N st.g az=some svs) (G:kZ svs=some (f,args))
 (B:mq (gP st.m 8) args=some cs) (J:((!dr||now)||fI st.m fr args)=true) (hr:∀r,((result (E r)).scalar||(di args).isSome)=true) :
 eT S c dr fr ⟨dst,none,now,.c,az,[],[]⟩ st=m.bind λr=>some (cV st dst (.v (result (E r)))):=by
 rw[A6 dr fr dst now az st svs f args D G,O3 _ _ _ _ _ _ _ hk,(wh st.m 8).2,B];simp[J,hc]
 cases m with
 | none=>rfl
 | some r=>
  simp[K6]
  grind
end
end
end Go.VE
namespace Go.VE
variable [bM]
section
variable {S:Sys} {c:bO} {β γ:Type} {Q:Out×St->Option β} {L:Option β} {e:γ->Option β}
theorem m_ (rc:RC) (st:St):ji S c Q rc [] st=(cz S c rc st).bind Q:=by
 unfold ji;rw[BV]
 congr 1
 funext q;obtain⟨o,st⟩:=q
 cases o <;> rfl
theorem zw (rc:RC) (st:St):cz S c rc st=ji S c some rc [] st:=by
 rw[m_];cases cz S c rc st <;> rfl
def n_ (rs:List RV):Out×St->Option (List V)
 | (.exit _,_)=>none
 | (_,st)=>(jf st rs).bind (mq (gP st.m 8))
theorem OZ (rs:List RV):Ef rs=n_ rs:=by
 funext q;obtain⟨o,st⟩:=q
 cases o
 .simp only[Ef,n_];congr 1;funext l;exact(wh st.m 8).2 l
 .rfl
 .simp only[Ef,n_];congr 1;funext l;exact(wh st.m 8).2 l
theorem Ow {S:Sys} {T:oh} {f:FuncId} {rf:RF} (B:T f=some rf) (az:List V) (D:az.length<=rf.na):iL (dx S T) f az=ji S (dx S T) (n_ rf.rs) rf.body [] (start (az.map .v) []):=by
 rw[No B az D,<-FV,m_,OZ]
end
end Go.VE
namespace Go.VE
variable [bM]
def jO {α σ ε ρ:Type} (step:α->σ->Option (Fw σ ε ρ)):List α->σ->Option (Fw σ ε ρ)
 | [],s=>some (.n s)
 | x::xs,s=>(step x s).bind λw=>match w with
  | .n B=>jO step xs B
  | .x e=>some (.x e)
  | .r b=>some (.r b)
def Fw.pR {ν ε ρ γ:Type} (fn:ν->γ) (B:ε->γ) (fr:ρ->γ):Fw ν ε ρ->γ
 | .n a=>fn a
 | .x e=>B e
 | .r b=>fr b
def Fw.t_ {ν ε ρ:Type} (D:ν->Tb bC) (B:ε->Nat×Tb bC) (G:ρ->Tb bC):Fw ν ε ρ->Out×Tb bC
 | .n a=>(.norm,D a)
 | .x e=>(.exit (B e).1,(B e).2)
 | .r b=>(.ret,G b)
def t_ (q:Out×St):Option (Out×Tb bC):=some (q.1,q.2.m)
section
variable {S:Sys} {c:bO} {β γ:Type} {Q:Out×St->Option β} {L:Option β} {e:γ->Option β}
noncomputable def wA (S:Sys) (c:bO) (b:RC):Out×St->Option (Out×Tb bC)
 | (.norm,st)=>ji S c t_ b [] st
 | _=>none
theorem IE (ps:List Nat) (a b:RC) (st:St) (x:List V) (m:Tb bC) (B:x.length=ps.length) :
 gJ ps (cz S c a) (cz S c b) st x m=ji S c (wA S c b) a [] ⟨uY st.g ps (x.map .v),m,st.pin++og st.g,[],true,0⟩:=by
 unfold gJ;rw[if_pos B,m_]
 cases cz S c a ⟨uY st.g ps (x.map .v),m,st.pin++og st.g,[],true,0⟩with
 | none=>rfl
 | some q=>
  obtain⟨o,u⟩:=q
  cases o with
  | norm=>
   simp only[ζb,wA];rw[m_];cases cz S c b u <;> rfl
  | _=>rfl
end
end Go.VE
namespace Go.VE
variable [bM]
def Le {α:Type} (a b:Option α):Prop:=∀r,a=some r->b=some r
section
variable {α:Type}
theorem Le.refl (a:Option α):Le a a:=λ_ h=>h
theorem Le.of_eq {a b:Option α} (h:b=a):Le a b:=λ_ u=>h.trans u
theorem Le.trans {a b d:Option α} (h1:Le a b) (B:Le b d):Le a d:=λr h=>B r (h1 r h)
theorem Le.none (b:Option α):Le (none:Option α) b:=λr h=>by cases h
theorem Le.bind {β:Type} {a b:Option α} {f g:α->Option β} (h:Le a b) (B:∀x,Le (f x) (g x)):Le (a.bind f) (b.bind g):=λr hr=>by
 obtain⟨x,h1,u⟩:=ζg.1 hr;rw[h x h1];exact B x r u
end
section
variable {S:Sys} {c:bO} {β γ δ:Type} {Q:Out×St->Option β} {L:Option β} {e:γ->Option β}
theorem E4 {dr:Bool} {fr:List Nat} {dst:Option Nat} {now:Bool} {az:List Arg} {st:St} {f:FuncId} {svs args:List SV} {cs:List V} {m:Option δ} {E:δ->List V} (hc:Le (m.bind λr=>some (E r)) (iL c f cs)) (hk:S.E.keep f=false) (D:bV S.N st.g az=some svs) (G:kZ svs=some (f,args))
 (B:mq (gP st.m 8) args=some cs) (J:((!dr||now)||fI st.m fr args)=true) (hr:∀r,((result (E r)).scalar||(di args).isSome)=true) :
 Le (m.bind λr=>some (cV st dst (.v (result (E r))))) (eT S c dr fr ⟨dst,none,now,.c,az,[],[]⟩ st):=by
 intro q w;obtain⟨r,h1,z⟩:=ζg.1 w;have u:iL c f cs=(some r).bind λr=>some (E r):=hc _ (by rw[h1];rfl)
 rw[Q_ (m:=some r) u hk D G B J hr];exact z
theorem My {σ ε ρ:Type} {f:St->Option (Out×St)} {step:σ->Option (Fw σ ε ρ)} {B:σ->St} {D:ε->Nat×St} {G:ρ->St} (h:∀s,Le ((step s).bind λw=>some (Fw.out B D G w)) (f (B s))) (s:σ) :
 Le ((bX step s).bind λw=>some (Fw.out (λe=>Empty.elim e) D G w)) (mG f (B s)):=by
 have key:∀k s r,iE step k s=some r->iq f k (B s)=some (Fw.out (λe=>Empty.elim e) D G r):=by
  intro k
  induction k with
  | zero=>intro s r h;simp[iE]at h
  | succ k C=>
   intro s r u;simp only[iE]at u
   cases z:step s with
   | none=>rw[z]at u;cases u
   | some w=>
    rw[z]at u;have A:=h s (Fw.out B D G w) (by rw[z];rfl)
    simp only[iq,A]
    cases w with
    | n a=>exact C a r u
    | x e=>cases u;rfl
    | r b=>cases u;rfl
 intro r hr;obtain⟨w,h1,A⟩:=ζg.1 hr;obtain⟨k,hk⟩:=mD.1 h1;cases A;exact lC.2 ⟨k,key k s w hk⟩
theorem RG {σ ε ρ:Type} {a:RC} {fs:List Fm} {step:σ->Option (Fw σ ε ρ)} {B:σ->St} {D:ε->Nat×St} {G:ρ->St} {s:σ} {J:ε->Option γ} {fr:ρ->Option γ}
 (U:L=ji S c Q (.loop a) fs (B s)) (h:∀s,Le ((step s).bind λw=>some (Fw.out B D G w)) (ji S c some a [] (B s)))
 (W:∀x,Le ((J x).bind e) (lF S c Q fs (D x).1 (D x).2)) (hr:∀b,Le ((fr b).bind e) (Q (.ret,G b))):Le (((bX step s).bind (Fw.elim J fr)).bind e) L:=by
 subst U;have h1:ji S c Q (.loop a) fs (B s)=(mG (cz S c a) (B s)).bind (Co (lB S c Q fs) (lF S c Q fs) (λst=>Q (.ret,st))):=by
  unfold ji;rw[BV];rfl
 rw[h1];have u:=My (step:=step) (f:=cz S c a) (B:=B) (D:=D) (G:=G) (λs=>by rw[zw];exact h s) s
 cases z:bX step s with
 | none=>exact Le.none _
 | some w=>
  have A:=u _ (by rw[z];rfl)
  rw[A]
  cases w with
  | n a=>cases a
  | x a=>exact W a
  | r a=>exact hr a
theorem Eu {α σ ε ρ:Type} {f:List V->Tb bC->Option (Out×Tb bC)} {step:α->σ->Option (Fw σ ε ρ)} {eI:α->List V} {B:σ->Tb bC} {D:ε->Nat×Tb bC} {G:ρ->Tb bC}
 (h:∀x s,Le ((step x s).bind λw=>some (Fw.t_ B D G w)) (f (eI x) (B s))):∀(xs:List α) (s:σ),Le ((jO step xs s).bind λw=>some (Fw.t_ B D G w)) (oG f (xs.map eI) (B s))
 | [],s=>λr hr=>hr
 | x::xs,s=>by
  simp only[List.map_cons,oG,jO]
  cases J:step x s with
  | none=>exact Le.none _
  | some w=>
   have U:=h x s (Fw.t_ B D G w) (by rw[J];rfl)
   rw[U]
   cases w with
   | n u=>simp only[ζb,Fw.t_];exact Eu h xs u
   | x e=>exact Le.refl _
   | r b=>exact Le.refl _
theorem R2 {α σ ε ρ:Type} {g:Arg} {ps:List Nat} {a b:RC} {fs:List Fm} {f:FuncId} {x y:List V} {items:List α} {eI:α->List V} {step:α->σ->Option (Fw σ ε ρ)} {B:σ->Tb bC} {D:ε->Nat×Tb bC} {G:ρ->Tb bC} {gt:Tb SV} {s:σ}
 {fn:σ->Option γ} {J:ε->Option γ} {fr:ρ->Option γ}
 (U:L=ji S c Q (.each g ps a b) fs ⟨gt,B s,[],[],true,0⟩) (hg:o5 S.N gt g=some (.v (.clo f x y))) (W:S.items f x y=some (items.map eI)) (Y:∀x,(eI x).length=ps.length)
 (h:∀x s,Le ((step x s).bind λw=>some (Fw.t_ B D G w)) (ji S c (wA S c b) a [] ⟨uY gt ps ((eI x).map .v),B s,og gt,[],true,0⟩))
 (hn:∀s,Le ((fn s).bind e) (lB S c Q fs ⟨gt,B s,[],[],true,0⟩))
 (hx:∀x,Le ((J x).bind e) (lF S c Q fs (D x).1 ⟨gt,(D x).2,[],[],true,0⟩)) (hr:∀b,Le ((fr b).bind e) (Q (.ret,⟨gt,G b,[],[],true,0⟩))) :
 Le (((jO step items s).bind (Fw.pR fn J fr)).bind e) L:=by
 subst U;have h1:ji S c Q (.each g ps a b) fs ⟨gt,B s,[],[],true,0⟩=(cz S c (.each g ps a b) ⟨gt,B s,[],[],true,0⟩).bind (Co (lB S c Q fs) (lF S c Q fs) (λst=>Q (.ret,st))):=by
  unfold ji;rw[BV]
 rw[h1];simp only[cz,hg,W];have u:=Eu (step:=step) (f:=gJ ps (cz S c a) (cz S c b) ⟨gt,B s,[],[],true,0⟩) (eI:=eI) (B:=B) (D:=D) (G:=G) (λx s=>by rw[IE _ _ _ _ _ _ (Y x)];exact h x s) items s
 cases z:jO step items s with
 | none=>exact Le.none _
 | some w=>
  have A:=u _ (by rw[z];rfl)
  rw[A]
  cases w with
  | n a=>exact hn a
  | x a=>exact hx a
  | r a=>exact hr a
end
end Go.VE
namespace Go.VE
variable [bM]
inductive Fo where
 | rc (c:RC)
 | ops (dr:Bool) (fr:List Nat) (l:List RO)
 | nx
 | ex (k:Nat)
 | rt
abbrev bU (g:Tb SV) (m:Tb bC):St:=⟨g,m,[],[],true,0⟩
section
variable (S:Sys) (c:bO) {β:Type} (Q:Out×St->Option β)
noncomputable def rn:Fo->List Fm->St->Option β
 | .rc a,fs,st=>ji S c Q a fs st
 | .ops dr fr l,fs,st=>sP S c dr fr l (lB S c Q fs) st
 | .nx,fs,st=>lB S c Q fs st
 | .ex k,fs,st=>lF S c Q fs k st
 | .rt,_,st=>Q (.ret,st)
noncomputable def wv:Fo->List Fm->St->Option (Fo×List Fm×St)
 | .rc .skip,fs,st=>some (.nx,fs,st)
 | .rc (.ops l),fs,st=>some (.ops false [] l,fs,st)
 | .rc (.ny l),fs,st=>some (.ops true [] l,fs,st)
 | .rc (.seq a b),fs,st=>some (.rc a,.seq b::fs,st)
 | .rc (.cond y a b),fs,st=>match o5 S.N st.g y with
  | some (.v (.bool true))=>some (.rc a,fs,st)
  | some (.v (.bool false))=>some (.rc b,fs,st)
  | _=>none
 | .rc (.block id a),fs,st=>some (.rc a,.blk id::fs,st)
 | .rc (.exit k),fs,st=>some (.ex k,fs,st)
 | .rc .ret,fs,st=>some (.rt,fs,st)
 | .rc (.gh g a),fs,st=>match ghost g st with
  | some st'=>some (.rc a,fs,st')
  | none=>none
 | .rc (.hg a g),fs,st=>some (.rc a,.gst g::fs,st)
 | .rc (.loop _),_,_=>none
 | .rc (.each ..),_,_=>none
 | .ops _ _ [],fs,st=>some (.nx,fs,st)
 | .ops dr fr (⟨d,gd,now,k,az,dd,[]⟩::r),fs,st=>match eT S c dr fr ⟨d,gd,now,k,az,[],[]⟩ st with
  | some st'=>some (.ops dr (if dr then pF fr ⟨d,gd,now,k,az,[],[]⟩else fr) r,fs,nC dd st')
  | none=>none
 | .ops dr fr (⟨d,gd,now,k,az,dd,x::xs⟩::r),fs,st=>if dr && !(yq x&&xs.all yq)then none else match ghost x st with
  | some st'=>some (.ops dr fr (⟨d,gd,now,k,az,dd,xs⟩::r),fs,st')
  | none=>none
 | .nx,.seq b::fs,st=>some (.rc b,fs,st)
 | .nx,.blk _::fs,st=>some (.nx,fs,st)
 | .nx,.gst g::fs,st=>match ghost g st with
  | some st'=>some (.nx,fs,st')
  | none=>none
 | .nx,[],_=>none
 | .ex k,.seq _::fs,st=>some (.ex k,fs,st)
 | .ex k,.blk id::fs,st=>some (if k=id then .nx else .ex k,fs,st)
 | .ex k,.gst _::fs,st=>some (.ex k,fs,st)
 | .ex _,[],_=>none
 | .rt,_,_=>none
noncomputable def fZ:Nat->Fo->List Fm->St->Option (Fo×List Fm×St)
 | 0,fo,fs,st=>some (fo,fs,st)
 | n+1,fo,fs,st=>match wv S c fo fs st with
  | some (fo',fs',st')=>fZ n fo' fs' st'
  | none=>none
end
section
variable {S:Sys} {c:bO} {β γ δ:Type} {Q:Out×St->Option β} {e:γ->Option β}
theorem Lq {fo fo':Fo} {fs fs':List Fm} {st st':St} (h:wv S c fo fs st=some (fo',fs',st')):rn S c Q fo fs st=rn S c Q fo' fs' st':=by
 cases fo with
 | rc a=>
  cases a with
  | cond y a b=>
   simp only[wv]at h;split at h
   .rename_i u;cases h;simp only[rn,ji,nL,u,bl,if_true]
   .rename_i u;cases h;simp only[rn,ji,nL,u,bl];rfl
   .cases h
  | gh g a=>
   simp only[wv]at h;split at h
   .rename_i u;cases h;simp only[rn,ji,nL,u,ζb]
   .cases h
  | loop a=>cases h
  | each g w a b=>cases h
  | seq a b=>cases h;simp only[rn,ji,nL,lB,lF]
  | block id a=>cases h;simp only[rn,ji,nL,lB,lF]
  | hg a g=>cases h;simp only[rn,ji,nL,lB,lF]
  | _=>cases h;simp only[rn,ji,nL]
 | ops dr fr l=>
  cases l with
  | nil=>cases h;simp only[rn,sP]
  | cons o r=>
   obtain⟨d,gd,now,k,az,dd,pre⟩:=o
   cases pre with
   | nil=>
    simp only[wv]at h;split at h
    .rename_i u;cases h;simp only[rn,sP,Ag,RO.strip,ζb,u]
    .cases h
   | cons x z=>
    simp only[wv]at h;split at h
    .cases h
    rename_i hd;split at h
    .rename_i u;cases h
     cases dr with
     | true=>
      simp only[Bool.true_and,Bool.not_eq_true',Bool.not_eq_false,ζh]at hd;simp only[rn,sP,RO.strip,AH,mW,if_true,List.all_cons,hd.1,hd.2,Bool.and_self,u,ζb]
     | false=>simp only[rn,sP,RO.strip,AH,mW,Bool.false_eq_true,if_false,u,ζb]
    .cases h
 | nx=>
  cases fs with
  | nil=>cases h
  | cons f fs=>
   cases f with
   | seq b=>cases h;simp only[rn,ji,lB]
   | blk id=>cases h;simp only[rn,lB]
   | gst g=>
    simp only[wv]at h;split at h
    .rename_i u;cases h;simp only[rn,lB,u,ζb]
    .cases h
 | ex k=>
  cases fs with
  | nil=>cases h
  | cons f fs=>
   cases f with
   | seq b=>cases h;simp only[rn,lF]
   | blk id=>
    cases h;simp only[rn,lF]
    by_cases hk:k=id
    .simp only[if_pos hk,rn]
    .simp only[if_neg hk,rn]
   | gst g=>cases h;simp only[rn,lF]
 | rt=>cases h
theorem mX:∀{n:Nat} {fo fo':Fo} {fs fs':List Fm} {st st':St},fZ S c n fo fs st=some (fo',fs',st')->rn S c Q fo fs st=rn S c Q fo' fs' st'
 | 0,fo,fo',fs,fs',st,st',h=>by cases h;rfl
 | n+1,fo,fo',fs,fs',st,st',h=>by
  simp only[fZ]at h;split at h
  .rename_i a b d B;rw[Lq B];exact mX h
  .cases h
theorem yB {n:Nat} {fo fo':Fo} {fs fs':List Fm} {st st':St} {m:Option β} (h:fZ S c n fo fs st=some (fo',fs',st')) (B:Le m (rn S c Q fo' fs' st')):Le m (rn S c Q fo fs st):=by
 rw[mX h];exact B
theorem SM {n:Nat} {fo fo':Fo} {fs fs':List Fm} {st st':St} {r:γ} (h:fZ S c n fo fs st=some (fo',fs',st')) (B:rn S c Q fo' fs' st'=e r):Le ((some r).bind e) (rn S c Q fo fs st):=by
 rw[mX h];exact Le.of_eq B
theorem NJ {m:Option δ} {f:δ->Option γ} {L:Option β} (k:δ->Option β) (B:Le (m.bind k) L) (h1:∀r,Le ((f r).bind e) (k r)):Le ((m.bind f).bind e) L:=by
 intro r hr
 cases m with
 | none=>cases hr
 | some x=>exact B r (h1 x r hr)
theorem SI {n:Nat} {fo:Fo} {fs fs':List Fm} {st0:St} {dr:Bool} {q l:List RO} {fr:List Nat} {st:St} {d:Option Nat} {gd:Option (Nat×Bool)} {now:Bool} {k:K} {az:List Arg} {dd:List Nat} {m:Option δ} {g:δ->St} {f:δ->Option γ}
 (B:fZ S c n fo fs st0=some (.ops dr fr q,fs',st)) (D:q=⟨d,gd,now,k,az,dd,[]⟩::l) (hg:wanted st.g gd=some true)
 (G:Le (m.bind λx=>some (g x)) (eT S c dr fr ⟨d,none,now,k,az,[],[]⟩ st))
 (h:∀x,m=some x->Le ((f x).bind e) (rn S c Q (.ops dr (if dr then pF fr ⟨d,gd,now,k,az,[],[]⟩else fr) l) fs' (nC dd (g x)))):Le ((m.bind f).bind e) (rn S c Q fo fs st0):=by
 rw[mX B];subst D;simp only[rn,sP,RO.strip,Ag,ζb];rw[Kp hg]
 cases m with
 | none=>exact Le.none _
 | some x=>rw[G (g x) rfl];exact h x rfl
theorem NF {n:Nat} {fo:Fo} {fs fs':List Fm} {st0:St} {dr:Bool} {q l:List RO} {fr:List Nat} {st st':St} {d:Option Nat} {gd:Option (Nat×Bool)} {now:Bool} {k:K} {az:List Arg} {dd:List Nat} {m:Option β}
 (B:fZ S c n fo fs st0=some (.ops dr fr q,fs',st)) (D:q=⟨d,gd,now,k,az,dd,[]⟩::l) (hg:wanted st.g gd=some true)
 (G:eT S c dr fr ⟨d,none,now,k,az,[],[]⟩ st=some st')
 (h:Le m (rn S c Q (.ops dr (if dr then pF fr ⟨d,gd,now,k,az,[],[]⟩else fr) l) fs' (nC dd st'))):Le m (rn S c Q fo fs st0):=by
 rw[mX B];subst D;simp only[rn,sP,RO.strip,Ag,ζb];rw[Kp hg,G];exact h
theorem KU {n:Nat} {fo:Fo} {B:List Fm} {st:St} {σ ε ρ:Type} {a:RC} {fs:List Fm} {step:σ->Option (Fw σ ε ρ)} {D:σ->St} {G:ε->Nat×St} {J:ρ->St} {s:σ} {U:ε->Option γ} {fr:ρ->Option γ}
 (W:fZ S c n fo B st=some (.rc (.loop a),fs,D s)) (h:∀s,Le ((step s).bind λw=>some (Fw.out D G J w)) (rn S c some (.rc a) [] (D s)))
 (Y:∀x,Le ((U x).bind e) (rn S c Q (.ex (G x).1) fs (G x).2)) (hr:∀b,Le ((fr b).bind e) (Q (.ret,J b))):Le (((bX step s).bind (Fw.elim U fr)).bind e) (rn S c Q fo B st):=by
 rw[mX W];exact RG (L:=rn S c Q (.rc (.loop a)) fs (D s)) rfl h Y hr
theorem Qe {n:Nat} {fo:Fo} {B:List Fm} {st:St} {α σ ε ρ:Type} {g:Arg} {ps:List Nat} {a b:RC} {fs:List Fm} {f:FuncId} {x y:List V} {items:List α} {eI:α->List V} {step:α->σ->Option (Fw σ ε ρ)} {D:σ->Tb bC} {G:ε->Nat×Tb bC} {J:ρ->Tb bC} {gt:Tb SV} {s:σ}
 {fn:σ->Option γ} {U:ε->Option γ} {fr:ρ->Option γ}
 (W:fZ S c n fo B st=some (.rc (.each g ps a b),fs,bU gt (D s))) (hg:o5 S.N gt g=some (.v (.clo f x y))) (Y:S.items f x y=some (items.map eI)) (hl:∀x,(eI x).length=ps.length)
 (h:∀x s,Le ((step x s).bind λw=>some (Fw.t_ D G J w)) (rn S c (wA S c b) (.rc a) [] ⟨uY gt ps ((eI x).map .v),D s,og gt,[],true,0⟩))
 (hn:∀s,Le ((fn s).bind e) (rn S c Q .nx fs (bU gt (D s))))
 (hx:∀x,Le ((U x).bind e) (rn S c Q (.ex (G x).1) fs (bU gt (G x).2))) (hr:∀b,Le ((fr b).bind e) (Q (.ret,bU gt (J b)))) :
 Le (((jO step items s).bind (Fw.pR fn U fr)).bind e) (rn S c Q fo B st):=by
 rw[mX W];exact R2 (L:=rn S c Q (.rc (.each g ps a b)) fs (bU gt (D s))) rfl hg Y hl h hn hx hr
theorem Q7 {b:RC} {st st':St} {m:Option (Out×Tb bC)} {fs:List Fm} {n:Nat} {fo:Fo} (h:fZ S c n fo fs st=some (.nx,[],st')) (B:Le m (rn S c t_ (.rc b) [] st')):Le m (rn S c (wA S c b) fo fs st):=by
 rw[mX h];exact B
theorem Rm {α:Type} {n:Nat} {fo fo':Fo} {fs fs':List Fm} {st:St} {A:Option α->St} {o:Option α} {f:α->Option γ} (h:fZ S c n fo fs st=some (fo',fs',A o))
 (B:∀x,o=some x->Le ((f x).bind e) (rn S c Q fo' fs' (A (some x)))):Le ((o.bind f).bind e) (rn S c Q fo fs st):=by
 rw[mX h]
 cases o with
 | none=>exact Le.none _
 | some x=>exact B x rfl
theorem SR {T:oh} {f:FuncId} {rf:RF} {az:List V} {m:Option (List V)} (B:T f=some rf) (D:az.length<=rf.na) (h:Le m (rn S (dx S T) (n_ rf.rs) (.rc rf.body) [] (start (az.map .v) []))):Le m (iL (dx S T) f az):=by
 rw[Ow B az D];exact h
end
section
variable {α:Type} [bz α]
abbrev cv (x:α):SV:=.v (enc x)
abbrev cp (x:α):SV:=.v (.fptr (cells x))
abbrev bx (x:α):bC:=.box ((cells x).map .v)
end
end Go.VE
namespace Go.VE
variable [bM]
structure iI (S:Sys) (c:bO) {α δ:Type} (fn:FuncId) (A:α->List V) (E:δ->List V) (p:α->Option δ) (sc:Bool):Prop where
 k:S.E.keep fn=false
 h:∀z,Le ((p z).bind λr=>some (E r)) (iL c fn (A z))
 s:sc=true->∀r,(result (E r)).scalar=true
section
variable {S:Sys} {c:bO} {β γ δ α:Type} {Q:Out×St->Option β} {e:γ->Option β} {fo:Fo} {fs:List Fm} {st0:St} {l:List RO} {d:Option Nat} {gd:Option (Nat×Bool)} {now:Bool} {az:List Arg} {dd:List Nat}
noncomputable abbrev qU (S:Sys) (c:bO) (Q:Out×St->Option β) (dr:Bool) (fr:List Nat) (d:Option Nat) (k:K) (l:List RO) (fs:List Fm) (dd:List Nat) (st:St):Option β:=
 rn S c Q (.ops dr (if dr then(match k with|.p _|.r _=>fr|_=>match d with|some d=>d::fr|none=>fr)else fr) l) fs (nC dd st)
theorem Ds (fr:List Nat) (k:K):pF fr ⟨d,gd,now,k,az,[],[]⟩=(match k with|.p _|.r _=>fr|_=>match d with|some d=>d::fr|none=>fr):=by
 cases k <;> cases d <;> rfl
theorem Cl {n:Nat} {dr:Bool} {fr:List Nat} {q:List RO} {fs':List Fm} {st:St} {k:K} {m:Option δ} {g:δ->St} {f:δ->Option γ}
 (B:fZ S c n fo fs st0=some (.ops dr fr q,fs',st)) (D:q=⟨d,gd,now,k,az,dd,[]⟩::l) (hg:wanted st.g gd=some true)
 (G:Le (m.bind λx=>some (g x)) (eT S c dr fr ⟨d,none,now,k,az,[],[]⟩ st))
 (h:∀x,m=some x->Le ((f x).bind e) (qU S c Q dr fr d k l fs' dd (g x))):Le ((m.bind f).bind e) (rn S c Q fo fs st0):=
 SI B D hg G (λx u=>by rw[Ds];grind)
theorem pG {n:Nat} {dr:Bool} {fr:List Nat} {q:List RO} {fs':List Fm} {st st':St} {k:K} {m:Option β}
 (B:fZ S c n fo fs st0=some (.ops dr fr q,fs',st)) (D:q=⟨d,gd,now,k,az,dd,[]⟩::l) (hg:wanted st.g gd=some true)
 (G:eT S c dr fr ⟨d,none,now,k,az,[],[]⟩ st=some st') (h:Le m (qU S c Q dr fr d k l fs' dd st')):Le m (rn S c Q fo fs st0):=
 NF B D hg G (by rw[Ds];omega)
section
variable [bz α]
theorem Mh (n:Nat) (dr:Bool) (fr:List Nat) (q:List RO) (fs':List Fm) (st:St) (k:IntKind) {sz:Nat} {s:Sl α} {i:Int} {f:α->Option γ} (D:q=⟨d,gd,now,.p (.idxS sz),az,dd,[]⟩::l)
 (B:(fZ S c n fo fs st0,wanted st.g gd,bV S.N st.g az,sz)=(some (.ops dr fr q,fs',st),some true,some [.v (bZ s),.v (.int k i)],bz.size α))
 (h:∀x,idx s i=some x->Le ((f x).bind e) (qU S c Q dr fr d (.p (.idxS sz)) l fs' dd (cV st d (cp x)))):Le (((idx s i).bind f).bind e) (rn S c Q fo fs st0):=by
 simp  at B;exact Cl B.1 D B.2.1 (Le.of_eq (NC B.2.2.1 B.2.2.2)) h
theorem Q3 (n:Nat) (dr:Bool) (fr:List Nat) (q:List RO) (fs':List Fm) (st:St) (s:Sl α) {m:Option β} (D:q=⟨d,gd,now,.p .lenSl,az,dd,[]⟩::l)
 (B:(fZ S c n fo fs st0,wanted st.g gd,bV S.N st.g az)=(some (.ops dr fr q,fs',st),some true,some [.v (bZ s)]))
 (h:Le m (qU S c Q dr fr d (.p .lenSl) l fs' dd (cV st d (.v (.int .i64 s.l.length))))):Le m (rn S c Q fo fs st0):=by
 simp  at B;exact pG B.1 D B.2.1 (Nq B.2.2) h
end
section
variable {q:List RO} {fs':List Fm}
end
theorem EV (m:Tb bC) (n:Nat) (l:List V):mq (gP m n) (l.map .v)=some l:=by rw[<-(wh m n).2,uQ]
variable {A:α->List V} {E:δ->List V} {p:α->Option δ} {fn:FuncId} {sc:Bool}
end
end Go.VE
namespace Go.VE
variable [bM]
abbrev iv (n:Int):SV:=.v (.int .i64 n)
abbrev bv (b:Bool):SV:=.v (.bool b)
abbrev len {α:Type} (s:Sl α):Int:=((List.length (Sl.l s):Nat):Int)
abbrev o1 (d:Nat) (a:Arg) (dd:List Nat):RO:=⟨some d,none,false,.p .id,[a],dd,[]⟩
abbrev o2 (d:Nat) (k:K) (az:List Arg) (dd:List Nat):RO:=⟨some d,none,false,k,az,dd,[]⟩
abbrev o3 (d s:Nat) (b:Bool) (k:K) (az:List Arg) (dd:List Nat):RO:=⟨some d,some (s,b),false,k,az,dd,[]⟩
def He (a b:aY):Bool:=[a.proc,a.index]==[b.proc,b.index]
section
variable {α:Type} [bz α]
theorem uI (h:bz.agg α=false) (a:α):cells a=[enc a]:=by
 have u:(cells a).length=1:=by rw[show (cells a).length=_ from bz.len a,bz.plain h]
 unfold enc;rw[if_neg (by simp[h])]
 match hc:cells a,u with
 | [x],_=>rfl
theorem zl (h:bz.agg α=true) (a:α):enc a=.agg (cells a):=by unfold enc;grind
theorem kK (a:α):V.good (enc a)=true:=by
 have h:V.cu (cells a)=true:=bz.good a
 cases u:bz.agg α with
 | true=>rw[zl u];exact h
 | false=>
  rw[uI u]at h;simp[V.cu]at h;omega
theorem oq (s:Sl α):V.one (enc s)=true:=CA s
theorem LS (s:α) (h:bz.agg α=false):V.one (enc s)=true:=by
 have:=bz.one s;rw[show bz.cells s=cells s from rfl,uI h]at this
 grind
end
instance {α:Type} [bz α]:bz (Option α) where
 cells o:=[match o with|none=>.gj|some x=>.fptr (cells x)]
 agg:=false
 size:=1
 len _:=rfl
 good o:=by
  cases o with
  | none=>rfl
  | some x=>simp only[V.cu,V.good,Bool.and_true];exact bz.good x
 one o:=by cases o <;> rfl
 plain _:=rfl
structure U8 where
 v:Int
 deriving Inhabited,DecidableEq
instance:bz U8 where
 cells n:=[.int .u8 n.v]
 agg:=false
 size:=1
 len _:=rfl
 good _:=rfl
 one _:=rfl
 plain _:=rfl
structure Tg where
 v:Int
 deriving Inhabited,DecidableEq
instance:bz Tg where
 cells n:=[.int .u64 n.v]
 agg:=false
 size:=1
 len _:=rfl
 good _:=rfl
 one _:=rfl
 plain _:=rfl
structure S7 where
 v:Int
 deriving Inhabited,DecidableEq
instance:bz S7 where
 cells n:=[.int .u32 n.v]
 agg:=false
 size:=1
 len _:=rfl
 good _:=rfl
 one _:=rfl
 plain _:=rfl
structure S9 where
 v:Int
 deriving Inhabited,DecidableEq
instance:bz S9 where
 cells n:=[.int .i32 n.v]
 agg:=false
 size:=1
 len _:=rfl
 good _:=rfl
 one _:=rfl
 plain _:=rfl
structure kA (S:Sys) (c:bO) {α δ:Type} (g:FuncId) (w e:List V) (A:α->List V) (R:δ->List V) (p:α->Option δ) (b:Bool):Prop where
 f:iI S c g (λz=>w++A z++e) R p b
section
variable {S:Sys} {c:bO} {β γ δ α:Type} {Q:Out×St->Option β} {e:γ->Option β} {fo:Fo} {fs:List Fm} {st0:St} {l:List RO} {d:Option Nat} {gd:Option (Nat×Bool)} {now:Bool} {az:List Arg} {dd:List Nat}
theorem gQ {α:Type} [bz α] (a:α):V.cells (enc a)=cells a:=by
 cases u:bz.agg α with
 | true=>rw[zl u];rfl
 | false=>
  have h1  := LS a u;rw[uI u];cases h:enc a <;> first|rfl|(rw[h]at h1;cases h1)
theorem oC {α:Type} [bz α] (a:α):(cells a).all V.one=true:=bz.one a
theorem fG {α:Type} [bz α] (a:α):(cells a).length=bz.size α:=bz.len a
theorem Ast [bz α] (n:Nat) (dr:Bool) (fr:List Nat) (q:List RO) (fs':List Fm) (st:St) (u o:Nat) (x:α) (cs B:List SV) {sz:Nat} {m:Option β} (G:q=⟨d,gd,now,.l (.store sz),az,dd,[]⟩::l)
 (D:(fZ S c n fo fs st0,wanted st.g gd,bV S.N st.g az,a_ st.m u,(!dr||now),sz,Nat.ble (o+sz) cs.length,cs.take o++(cells x).map .v++cs.drop (o+sz))=(some (.ops dr fr q,fs',st),some true,some [.ptr u o,cv x],some (.box cs),true,bz.size α,true,B))
 (h:Le m (qU S c Q dr fr d (.l (.store sz)) l fs' dd (cV { st with m:=bJ st.m u (.box B) } d (.v .undef)))):Le m (rn S c Q fo fs st0):=by
 simp only[ζc]at D;obtain⟨h1,w,z,A,C,I,J,L⟩:=D;refine pG h1 G w ?_ h;rw[uR,z];subst I;have O:=Nat.le_of_ble_eq_true J;simp only[ζb,C,if_true,k9,A,putCells,gQ,fG,oC,O,and_self,L,Option.map_some]
theorem xK {α:Type} [bz α]:∀(xs:List α) (pre:List (List V)) (B:List (List V)),B.length=xs.length->fN (bz.size α) (pre++B) ((List.range' pre.length xs.length).zip (xs.map enc))=some (pre++rows xs)
 | [],pre,B,h=>by
  have  := List.eq_nil_of_length_eq_zero h;subst this;rfl
 | x::xs,pre,s::B,h=>by
  simp only[List.length_cons,List.range'_succ,List.map_cons,List.zip_cons_cons,fN,gQ,fG,oC];have:=xK xs (pre++[cells x]) B (by grind)
  simp only[ζi,List.length_cons,List.length_nil]at this;have e:(pre++s::B).set pre.length (cells x)=pre++[cells x]++B:=by simp
  rw[e,this];simp[rows]
theorem Td [bz α] (n:Nat) (dr:Bool) (fr:List Nat) (q:List RO) (fs':List Fm) (st:St) (xs:List α) {u sz ln:Nat} {zero:List V} {ix:List Nat} {m:Option β} (D:q=⟨some u,gd,now,.a (.buildSl sz ln zero ix),az,dd,[]⟩::l)
 (G:st.new u=true) (B:(fZ S c n fo fs st0,wanted st.g gd,bV S.N st.g az,sz,ln,ix)=(some (.ops dr fr q,fs',st),some true,some ((xs.map enc).map .v),bz.size α,xs.length,List.range' 0 xs.length))
 (h:Le m (qU S c Q dr fr (some u) (.a (.buildSl sz ln zero ix)) l fs' dd { st with g:=bJ st.g u (.own u),m:=bJ st.m u (cS (.row xs)) })):Le m (rn S c Q fo fs st0):=by
 simp only[ζc]at B;obtain⟨h1,w,z,A,C,I⟩:=B;subst A C I;refine pG h1 D w ?_ h;rw[A2,z];simp only[ζb,G,om,kL,List.length_range',List.length_map];have:=xK xs [] (List.replicate xs.length zero) (by simp)
 simp  at this;rw[this];rfl
theorem SF [bz α] (n:Nat) (dr:Bool) (fr:List Nat) (q:List RO) (fs':List Fm) (st:St) (x:α) (vs:List V) {z:List V} {pl:List (Nat×Nat)} {m:Option β} (D:q=⟨d,gd,now,.p (.build z pl),az,dd,[]⟩::l)
 (hp:jv z pl vs=some (cells x)) (G:bz.agg α=true)
 (B:(fZ S c n fo fs st0,wanted st.g gd,bV S.N st.g az)=(some (.ops dr fr q,fs',st),some true,some (vs.map .v)))
 (h:Le m (qU S c Q dr fr d (.p (.build z pl)) l fs' dd (cV st d (cv x)))):Le m (rn S c Q fo fs st0):=by
 simp  at B;refine pG B.1 D B.2.1 (Cw B.2.2 rfl ?_) h;unfold jg;rw[kL];simp only[Ly,hp,Option.map_some];show some (SV.v (.agg (cells x)))=some (.v (enc x));rw[zl G]
section
variable [bz α]
theorem SE (n:Nat) (dr:Bool) (fr:List Nat) (q:List RO) (fs':List Fm) (st:St) (D G:Bool) (J:List V) {sz:Nat} {s:Sl α} {a b:Option Int} {f:Sl α->Option γ} (U:q=⟨d,gd,now,.p (.slice sz D G),az,dd,[]⟩::l)
 (B:(fZ S c n fo fs st0,wanted st.g gd,bV S.N st.g az,kS D G J,sz)=(some (.ops dr fr q,fs',st),some true,some (.v (bZ s)::J.map .v),some (a,b),bz.size α))
 (h:∀x,ij s a b=some x->Le ((f x).bind e) (qU S c Q dr fr d (.p (.slice sz D G)) l fs' dd (cV st d (.v (bZ x))))):Le (((ij s a b).bind f).bind e) (rn S c Q fo fs st0):=by
 simp  at B;refine Cl B.1 U B.2.1 (Le.of_eq ?_) h;have w  := B.2.2.1;unfold eT kR;simp[wanted,e8,w];have u:jg S.N st.m (.slice sz D G) ((bZ s::J).map .v)=(ij s a b).bind λx=>some (.v (bZ x)):=by
  unfold jg;rw[kL];simp[bn,B.2.2.2.1,Ia s a b sz B.2.2.2.2];cases ij s a b <;> rfl
 simp  at u ⊢;rw[u];cases ij s a b <;> rfl
def mV (s:Sl α) (B D:Option Int):Option (Sl α):=
 match s with
 | .nil|.emp=>none
 | .row x|.part x=>(dM x.length B D).map λ(l,h)=>.part ((x.take h).drop l)
theorem RJ (n:Nat) (fr:List Nat) (q:List RO) (fs':List Fm) (st:St) (D G:Bool) (u:Nat) (J:List V) {t sz:Nat} {s:Sl α} {a b:Option Int} {f:Sl α->Option γ} (W:q=⟨some t,gd,now,.p (.slice sz D G),az,dd,[]⟩::l)
 (U:St.new { st with m:=dR u st.m } t=true) (B:(fZ S c n fo fs st0,wanted st.g gd,bV S.N st.g az,kS D G J,a_ st.m u,sz)=(some (.ops false fr q,fs',st),some true,some (.own u::J.map .v),some (a,b),some (cS s),bz.size α))
 (h:∀x,mV s a b=some x->Le ((f x).bind e) (qU S c Q false fr (some t) (.p (.slice sz D G)) l fs' dd { st with g:=bJ st.g t (.own t),m:=bJ (dR u st.m) t (cS x) })):Le (((mV s a b).bind f).bind e) (rn S c Q fo fs st0):=by
 simp  at B;refine Cl B.1 W B.2.1 (Le.of_eq ?_) h;obtain⟨_,_,z,w,A,C⟩:=B;subst C;unfold eT kR;simp[wanted,e8,z,xW,kL,A,w]
 cases s with
 | nil=>simp[mV,cS,Sl.k,cH]
 | emp=>simp[mV,cS,Sl.k,cH]
 | row x=>
  simp[cS,Sl.k,Sl.l,cH,mV,jx,w]
  cases dM x.length a b with
  | none=>rfl
  | some r=>simp[U,cV,rows,List.map_drop]
 | part x=>
  simp[cS,Sl.k,Sl.l,cH,mV,jx,w]
  cases dM x.length a b with
  | none=>rfl
  | some r=>simp[U,cV,rows,List.map_drop]
end
end
end Go.VE
namespace Go.VE
variable [bM]
structure cC (n:Nat) (α:Type) where
 l:List α
 len:l.length=n
theorem M6 {α:Type} [bz α] (l:List α):(l.map (cells (α:=α))).flatten.length=l.length*bz.size α:=by
 induction l with
 | nil=>simp
 | cons a l u=>simp[u,fG,Nat.add_mul,Nat.add_comm]
theorem KL {α:Type} [bz α] (l:List α):V.cu (l.map (cells (α:=α))).flatten=true:=by
 induction l with
 | nil=>rfl
 | cons a l u=>
  have h:∀(x y:List V),V.cu x=true->V.cu y=true->V.cu (x++y)=true:=by
   intro x
   induction x with
   | nil=>grind
   | cons b x w=>intro y h1 z;simp[V.cu]at h1 ⊢;grind
  exact h _ _ (bz.good a) u
instance {n:Nat} {α:Type} [bz α]:bz (cC n α) where
 cells a:=(a.l.map cells).flatten
 agg:=true
 size:=n*bz.size α
 len a:=by rw[M6,a.len]
 good a:=KL a.l
 one a:=by
  have:∀l:List α,(l.map (cells (α:=α))).flatten.all V.one=true:=by
   intro l
   induction l with
   | nil=>rfl
   | cons a l u=>simp only[List.map_cons,List.flatten_cons,List.all_append,u,oC,Bool.and_self]
  exact this a.l
 plain h:=by cases h
def cC.JL (n:Nat) {α:Type} (z:α):cC n α:=⟨List.replicate n z,by simp⟩
def cC.at {n:Nat} {α:Type} (a:cC n α) (i:Int):Option α:=if 0<=i then a.l[i.toNat]? else none
def cC.set {n:Nat} {α:Type} (a:cC n α) (i:Int) (x:α):cC n α:=⟨a.l.set i.toNat x,by simp[a.len]⟩
def pa {n:Nat} {α:Type} [bz α] (a:cC n α) (i:Int):List V:=(cells a).drop (i.toNat*bz.size α)
theorem cC.rZ {n:Nat} {α:Type} {a:cC n α} {i:Int} {x:α} (h:a.at i=some x):0<=i/\i.toNat<n/\a.l[i.toNat]? = some x:=by
 unfold cC.at at h;split at h
 .rename_i u;refine⟨u,?_,h⟩;have:=(ζe.1 h).1;rw[<-a.len];simp_all
 simp_all
theorem Dr {α:Type} [bz α]:∀(l:List α) (k:Nat),((l.map (cells (α:=α))).flatten).drop (k*bz.size α)=((l.drop k).map (cells (α:=α))).flatten
 | [],k=>by simp
 | a::l,0=>by simp
 | a::l,k+1=>by
  have h  := fG a;rw[List.map_cons,List.flatten_cons,List.drop_succ_cons,<-Dr l k,Nat.add_mul,Nat.one_mul,Nat.add_comm,<-h,List.drop_length_add_append]
theorem zx {n:Nat} {α:Type} [bz α] {a:cC n α} {i:Int} {x:α} (h:a.at i=some x):∃r,pa a i=cells x++r:=by
 obtain⟨h1,A,w⟩:=cC.rZ h;obtain⟨u,z⟩:=ζe.1 w;refine⟨((a.l.drop (i.toNat+1)).map cells).flatten,?_⟩;show ((a.l.map (cells )).flatten).drop (i.toNat*bz.size α)=_;rw[Dr,List.drop_eq_getElem_cons u,List.map_cons,List.flatten_cons,z]
section
variable {S:Sys} {c:bO} {β γ δ α:Type} {Q:Out×St->Option β} {e:γ->Option β} {fo:Fo} {fs:List Fm} {st0:St} {l:List RO} {d:Option Nat} {gd:Option (Nat×Bool)} {now:Bool} {az:List Arg} {dd:List Nat}
section
variable {N:Nat} [bz α]
theorem Rr (n:Nat) (dr:Bool) (fr:List Nat) (q:List RO) (fs':List Fm) (st:St) (k:IntKind) {ln sz:Nat} {a:cC N α} {i:Int} {f:α->Option γ} (D:q=⟨d,gd,now,.p (.idxA ln sz),az,dd,[]⟩::l)
 (B:(fZ S c n fo fs st0,wanted st.g gd,bV S.N st.g az,sz,ln)=(some (.ops dr fr q,fs',st),some true,some [cp a,.v (.int k i)],bz.size α,N))
 (h:∀x,a.at i=some x->Le ((f x).bind e) (qU S c Q dr fr d (.p (.idxA ln sz)) l fs' dd (cV st d (.v (.fptr (pa a i)))))):Le (((a.at i).bind f).bind e) (rn S c Q fo fs st0):=by
 simp  at B;obtain⟨h1,w,z,A,C⟩:=B;subst A C;refine Cl h1 D w ?_ h;intro r hr;obtain⟨x,G,hr⟩:=ζg.1 hr;obtain⟨g1,g2,_⟩:=cC.rZ G;rw[Cw  z rfl ?_]
 .omega
 rw[ua];simp[bn,u6];have u:i.toNat*bz.size α<=(cells a).length:=by
  rw[fG];exact Nat.mul_le_mul_right _ (Nat.le_of_lt g2)
 rw[if_pos ⟨g1,by omega⟩,if_pos u]
 rfl
theorem SG (n:Nat) (dr:Bool) (fr:List Nat) (q:List RO) (fs':List Fm) (st:St) (a:cC N α) (i:Int) (o:Nat) (x:α) (D:a.at i=some x) {k:Nat} {m:Option β} (G:q=⟨d,gd,now,.p (.fieldAddr k),az,dd,[]⟩::l)
 (B:(fZ S c n fo fs st0,wanted st.g gd,bV S.N st.g az,Nat.ble (o+k) (bz.size α))=(some (.ops dr fr q,fs',st),some true,some [.v (.fptr ((pa a i).drop o))],true))
 (h:Le m (qU S c Q dr fr d (.p (.fieldAddr k)) l fs' dd (cV st d (.v (.fptr ((pa a i).drop (o+k))))))):Le m (rn S c Q fo fs st0):=by
 simp only[ζc]at B;obtain⟨h1,u,w,z⟩:=B;refine pG h1 G u (Cw w rfl ?_) h;have A:=Nat.le_of_ble_eq_true z;obtain⟨r,hr⟩:=zx D;have C:(pa a i).length>=bz.size α:=by rw[hr,ζi,fG];omega
 rw[Ew,Ga,if_pos (by grind),List.drop_drop]
 rfl
theorem Ro (n:Nat) (dr:Bool) (fr:List Nat) (q:List RO) (fs':List Fm) (st:St) (a:cC N α) (i:Int) (o:Nat) (x:α) (G:a.at i=some x) {sz:Nat} {ag:Bool} {v:V} (hv:(cut (cells x) o sz).bind (mk ag)=some v) (B:V) {m:Option β} (J:q=⟨d,gd,now,.r (.load sz ag),az,dd,[]⟩::l)
 (D:(fZ S c n fo fs st0,wanted st.g gd,bV S.N st.g az,v)=(some (.ops dr fr q,fs',st),some true,some [.v (.fptr ((pa a i).drop o))],B))
 (h:Le m (qU S c Q dr fr d (.r (.load sz ag)) l fs' dd (cV st d (.v B)))):Le m (rn S c Q fo fs st0):=by
 simp  at D;obtain⟨h1,z,A,rfl⟩:=D;refine pG h1 J z ?_ h;rw[DU,A];have hold:eF fr [SV.v (.fptr ((pa a i).drop o))]=true:=rfl;simp[hold,KM];obtain⟨r,hr⟩:=zx G;rw[hr];have hc:cut ((cells x++r).drop o) 0 sz=cut (cells x) o sz:=by
  cases u:cut (cells x) o sz with
  | none=>grind
  | some w=>
   unfold cut at u ⊢;dsimp only at u ⊢;split at u
   .have e1:(List.drop 0 (List.drop o (cells x++r))).take sz=((cells x).drop o).take sz:=by
     have C:sz=0\/o<=(cells x).length:=by
      grind
     grind
    grind
   grind
 cases u:cut (cells x) o sz with
 | none=>grind
 | some w=>grind
theorem QU (n:Nat) (dr:Bool) (fr:List Nat) (q:List RO) (fs':List Fm) (st:St) (cs:List SV) {u sz:Nat} {zero:List V} {m:Option β} (D:q=⟨some u,gd,now,.a (.alloc sz zero),az,dd,[]⟩::l)
 (G:st.new u=true) (B:(fZ S c n fo fs st0,wanted st.g gd,bV S.N st.g az,zero.map SV.v)=(some (.ops dr fr q,fs',st),some true,some [],cs))
 (h:Le m (qU S c Q dr fr (some u) (.a (.alloc sz zero)) l fs' dd { st with g:=bJ st.g u (.ptr u 0),m:=bJ st.m u (.box cs) })):Le m (rn S c Q fo fs st0):=by
 simp  at B;obtain⟨h1,w,z,A⟩:=B;subst A;refine pG h1 D w ?_ h;rw[A2,z];simp[G,om]
theorem ri (d:Nat) (l:List V):SV.dc d (l.map .v)=false:=by
 induction l with
 | nil=>rfl
 | cons a l u=>simp[SV.dc,SV.cI,u]
theorem rJ {α:Type} [bz α] (d:Nat) (x:α):bC.cI d (bx x)=false:=ri d (cells x)
theorem Rq (n:Nat) (dr:Bool) (fr:List Nat) (q:List RO) (fs':List Fm) (st:St) (k:IntKind) (u:Nat) {ln sz:Nat} {a:cC N α} {i:Int} {f:α->Option γ} (D:q=⟨d,gd,now,.p (.idxA ln sz),az,dd,[]⟩::l)
 (B:(fZ S c n fo fs st0,wanted st.g gd,bV S.N st.g az,sz,ln,a_ st.m u)=(some (.ops dr fr q,fs',st),some true,some [.ptr u 0,.v (.int k i)],bz.size α,N,some (bx a)))
 (h:∀x,a.at i=some x->Le ((f x).bind e) (qU S c Q dr fr d (.p (.idxA ln sz)) l fs' dd (cV st d (.ptr u (i.toNat*bz.size α+0))))):Le (((a.at i).bind f).bind e) (rn S c Q fo fs st0):=by
 simp  at B;obtain⟨h1,w,z,G,I,A⟩:=B;refine Cl h1 D w ?_ h;intro r hr;obtain⟨x,C,hr⟩:=ζg.1 hr;obtain⟨g1,g2,_⟩:=cC.rZ C;rw[Cw  z rfl ?_]
 .omega
 simp[jg,di,zg,A]
 grind
theorem LH {a:cC N α} {i:Int} {o:Nat} {x:α} (B:a.at i=some x) {sz:Nat} {ag:Bool} {v:V} (hv:(cut (cells x) o sz).bind (mk ag)=some v):tF sz ag ((((cells a).map SV.v).drop (i.toNat*bz.size α+o)).take sz)=some (.v v):=by
 obtain⟨r,hr⟩:=zx B;have e1:(((cells a).map SV.v).drop (i.toNat*bz.size α+o)).take sz=(((cells x).drop o).take sz).map SV.v:=by
  have u:((cells x).drop o).take sz=((cells x++r).drop o).take sz:=by
   cases hc:cut (cells x) o sz with
   | none=>grind
   | some w=>
    unfold cut at hc;dsimp only at hc;split at hc
    .have A:sz=0\/o<=(cells x).length:=by
      grind
     grind
    simp_all
  rw[u,<-hr,pa,List.drop_drop,List.map_take,List.map_drop]
 rw[e1];unfold tF
 cases hc:cut (cells x) o sz with
 | none=>grind
 | some w=>
  rw[hc]at hv;unfold cut at hc;dsimp only at hc;split at hc
  .rename_i z;cases hc;simp only[List.length_map,z];unfold mk at hv
   cases ag with
   | true=>
    simp only[if_true]at hv ⊢;cases hv;rw[kL]
   | false=>
    grind
  simp_all
theorem RE (n:Nat) (dr:Bool) (fr:List Nat) (q:List RO) (fs':List Fm) (st:St) (u:Nat) (a:cC N α) (i:Int) (o:Nat) (x:α) (G:a.at i=some x) {sz:Nat} {ag:Bool} {v:V} (hv:(cut (cells x) o sz).bind (mk ag)=some v) (B:V) {m:Option β} (J:q=⟨d,gd,now,.r (.load sz ag),az,dd,[]⟩::l)
 (D:(fZ S c n fo fs st0,wanted st.g gd,bV S.N st.g az,v,a_ st.m u,(!dr||now||eF fr [.ptr u 0]))=(some (.ops dr fr q,fs',st),some true,some [.ptr u (i.toNat*bz.size α+o)],B,some (bx a),true))
 (h:Le m (qU S c Q dr fr d (.r (.load sz ag)) l fs' dd (cV st d (.v B)))):Le m (rn S c Q fo fs st0):=by
 simp only[ζc]at D;obtain⟨h1,w,z,rfl,A,C⟩:=D;refine pG h1 J w ?_ h;rw[DU,z];have hold:(!dr||now||eF fr [SV.ptr u (i.toNat*bz.size α+o)])=true:=C;simp only[ζb,hold,SP,A,Ka];rw[LH G hv];rfl
theorem K5 {N:Nat} (a:cC N α) (i:Int) (y:α) (h:i.toNat<N):cells (a.set i y)=(cells a).take (i.toNat*bz.size α)++cells y++(cells a).drop ((i.toNat+1)*bz.size α):=by
 have key:∀(l:List α) (k:Nat),k<l.length->((l.set k y).map (cells )).flatten=(l.map (cells )).flatten.take (k*bz.size α)++cells y++(l.map (cells )).flatten.drop ((k+1)*bz.size α):=by
  intro l
  induction l with
  | nil=>grind
  | cons b l u=>
   intro k h;have w  := fG b
   cases k with
   | zero=>
    grind
   | succ k=>
    simp only[List.map_cons,List.flatten_cons];have e1:(k+1)*bz.size α=(cells b).length+k*bz.size α:=by grind
    have e2:(k+1+1)*bz.size α=(cells b).length+(k+1)*bz.size α:=by grind
    rw[e2,List.drop_length_add_append]
    grind
 exact key a.l i.toNat (by rw[a.len];omega)
theorem RM (n:Nat) (dr:Bool) (fr:List Nat) (q:List RO) (fs':List Fm) (st:St) (u:Nat) (a:cC N α) (i:Int) (o:Nat) (x:α) (B:a.at i=some x) (y:α) (v:V) {sz:Nat} (G:cells y=(cells x).take o++v.cells++(cells x).drop (o+sz)) {m:Option β} (J:q=⟨d,gd,now,.l (.store sz),az,dd,[]⟩::l)
 (D:(fZ S c n fo fs st0,wanted st.g gd,bV S.N st.g az,a_ st.m u,(!dr||now),v.cells.length,v.cells.all V.one,Nat.ble (o+sz) (bz.size α))=(some (.ops dr fr q,fs',st),some true,some [.ptr u (i.toNat*bz.size α+o),.v v],some (bx a),true,sz,true,true))
 (h:Le m (qU S c Q dr fr d (.l (.store sz)) l fs' dd (cV { st with m:=bJ st.m u (bx (a.set i y)) } d (.v .undef)))):Le m (rn S c Q fo fs st0):=by
 simp only[ζc]at D;obtain⟨h1,z,A,C,I,L,O,T⟩:=D;refine pG h1 J z ?_ h;rw[uR,A];have W:=Nat.le_of_ble_eq_true T;obtain⟨g1,g2,g3⟩:=cC.rZ B;have U:i.toNat*bz.size α+o+sz<=((cells a).map SV.v).length:=by
  rw[List.length_map,fG];have:(i.toNat+1)*bz.size α<=N*bz.size α:=Nat.mul_le_mul_right _ g2;rw[Nat.add_mul,Nat.one_mul]at this;show _<=N*bz.size α;omega
 simp only[ζb,I,if_true,k9,C,putCells,L,O,U,and_self,Option.map_some];obtain⟨r,hr⟩:=zx B;have e:((cells a).map SV.v).take (i.toNat*bz.size α+o)++v.cells.map .v++((cells a).map SV.v).drop (i.toNat*bz.size α+o+sz)=(cells (a.set i y)).map SV.v:=by
  rw[K5 a i y g2,G];have hd:(cells a).drop (i.toNat*bz.size α)=cells x++r:=hr;have w  := fG x;have e1:(cells a).take (i.toNat*bz.size α+o)=(cells a).take (i.toNat*bz.size α)++(cells x).take o:=by
   rw[List.take_add,hd,List.take_append_of_le_length (by omega)]
  have e2:(cells a).drop (i.toNat*bz.size α+o+sz)=(cells x).drop (o+sz)++(cells a).drop ((i.toNat+1)*bz.size α):=by
   have e3:(cells a).drop ((i.toNat+1)*bz.size α)=r:=by
    rw[Nat.add_mul,Nat.one_mul,<-List.drop_drop,hd,<-w,List.drop_left]
   rw[e3,Nat.add_assoc,<-List.drop_drop,hd,List.drop_append_of_le_length (by omega)]
  rw[<-List.map_take,<-List.map_drop,e1,e2]
  grind
 rw[e]
end
theorem PE {α:Type} [bz α] {m:Tb bC} {d:Nat} {x:α} {vs:List V} (h:a_ m d=some (bx x)):mq (gP m 8) (.ptr d 0::vs.map .v)=some (.fptr (cells x)::vs):=by
 have h1:gP m 8 (.ptr d 0)=some (.fptr (cells x)):=by
  show (match a_ m d with
   | some (.box cs)=>match mq (gP m 7) cs with
    | some u=>if 0<=u.length then some (V.fptr (u.drop 0))else none
    | none=>none
   | _=>none)=_
  rw[h];simp[EV]
 simp[mq,h1,EV]
theorem RS (n:Nat) {fo:Fo} {fs fs':List Fm} {st0 st:St} {rs:List RV} {e:γ->Option (List V)} {r:γ} (svs:List SV) {ys:List V} (B:mq (gP st.m 8) svs=some ys) (h:(fZ S c n fo fs st0,jf st rs)=(some (.rt,fs',st),some svs)) (D:e r=some ys) :
 Le ((some r).bind e) (rn S c (n_ rs) fo fs st0):=by
 simp  at h;rw[mX h.1];refine Le.of_eq ?_;simp[rn,n_,h.2,B]
 grind
abbrev Mo (κ ν:Type):=List (κ×ν)
class Key (κ:Type) [bz κ] [DecidableEq κ] where
 kk:vu
 ok:∀a:κ,oc kk (enc a)=true
 eq:∀a b:κ,uV (enc a) (enc b)=some (decide (a=b))
instance:Key Int where
 kk:=.int .i64
 ok _:=rfl
 eq a b:=by
  show some (a==b)=some (decide (a=b));rw[show (a==b)=decide (a=b)from Bool.eq_iff_iff.2 (by simp)]
instance:Key aY where
 kk:=.ints 2
 ok _:=rfl
 eq a b:=by
  obtain⟨p,i⟩:=a;obtain⟨q,j⟩:=b;simp only[uV,jD,gu,Q1,Option.map_some,List.length_cons,if_true,ζa];rw[Bool.eq_iff_iff];simp
section
variable {κ ν:Type} [bz κ] [DecidableEq κ] [Key κ] [bz ν]
def rV (k:κ):Mo κ ν->Option ν
 | []=>none
 | (a,v)::r=>if k=a then some v else rV k r
def Cu (m:Mo κ ν) (k:κ) (z:ν):ν:=(rV k m).getD z
def p_ (m:Mo κ ν) (k:κ) (v:ν):Mo κ ν:=
 match m with
 | []=>[(k,v)]
 | (a,w)::r=>if k=a then(k,v)::r else(a,w)::p_ r k v
def mK (m:Mo κ ν):List (V×V):=m.map λx=>(enc x.1,enc x.2)
def ud (m:Mo κ ν):bC:=.mp (mK m)
theorem Hq (k:κ):∀(m:Mo κ ν) (i:Nat),(gF (enc k) (mK m) i).map (Option.map (·.2))=some ((rV k m).map enc)
 | [],i=>rfl
 | (a,v)::r,i=>by
  simp only[mK,List.map_cons,gF,Key.eq,rV]
  by_cases h:k=a
  .grind
  .simp only[h];exact Hq k r (i+1)
theorem Mg (k:κ) (v:ν) (m:Mo κ ν):ot (enc k) (enc v) (mK m)=some (mK (p_ m k v)):=by
 unfold ot;have key:∀(m:Mo κ ν) (pre:List (V×V)) (i:Nat),pre.length=i->(match gF (enc k) (mK m) i with
  | some (some (j,_))=>some ((pre++mK m).set j (enc k,enc v))
  | some none=>some (pre++mK m++[(enc k,enc v)])
  | none=>none)=some (pre++mK (p_ m k v)):=by
  intro m
  induction m with
  | nil=>simp[mK,gF,p_]
  | cons x r u=>
   obtain⟨a,w⟩:=x;intro pre i h;rw[show mK ((a,w)::r)=(enc a,enc w)::mK r from rfl];simp[gF,Key.eq,p_]
   by_cases hk:k=a
   .subst hk h;simp[mK]
   .simp[hk];rw[show mK ((a,w)::p_ r k v)=(enc a,enc w)::mK (p_ r k v)from rfl];have:=u (pre++[(enc a,enc w)]) (i+1) (by simp[h])
    grind
 have:=key m [] 0 rfl
 grind
theorem RH (n:Nat) (dr:Bool) (fr:List Nat) (q:List RO) (fs':List Fm) (st:St) (u:Nat) (mp:Mo κ ν) (k:κ) (z:ν) {kk:vu} {B:V} {m:Option β} (G:q=⟨d,gd,now,.r (.lookup kk B false),az,dd,[]⟩::l)
 (D:(fZ S c n fo fs st0,wanted st.g gd,bV S.N st.g az,a_ st.m u,(!dr||now||eF fr [.mp u,cv k]),B,kk)=(some (.ops dr fr q,fs',st),some true,some [.mp u,cv k],some (ud mp),true,enc z,Key.kk κ))
 (h:Le m (qU S c Q dr fr d (.r (.lookup kk B false)) l fs' dd (cV st d (cv (Cu mp k z))))):Le m (rn S c Q fo fs st0):=by
 simp only[ζc]at D;obtain⟨h1,A,C,I,J,L,O⟩:=D;subst L O;refine pG h1 G A ?_ h;rw[DU,C];simp only[ζb,J,nK,I,ud,Key.ok];have:=Hq k mp 0;simp[Cu]
 cases T:gF (enc k) (mK mp) 0 with
 | none=>grind
 | some r=>
  rw[T]at this
  cases r with
  | none=>
   cases U:rV k mp with
   | none=>rfl
   | some w=>grind
  | some w=>
   cases U:rV k mp with
   | none=>grind
   | some W=>
    grind
theorem SA (n:Nat) (dr:Bool) (fr:List Nat) (q:List RO) (fs':List Fm) (st:St) (u:Nat) (mp:Mo κ ν) (k:κ) (v:ν) {kk:vu} {m:Option β} (D:q=⟨d,gd,now,.l (.mapUp kk),az,dd,[]⟩::l)
 (B:(fZ S c n fo fs st0,wanted st.g gd,bV S.N st.g az,a_ st.m u,(!dr||now),kk)=(some (.ops dr fr q,fs',st),some true,some [.mp u,cv k,cv v],some (ud mp),true,Key.kk κ))
 (h:Le m (qU S c Q dr fr d (.l (.mapUp kk)) l fs' dd (cV { st with m:=bJ st.m u (ud (p_ mp k v)) } d (.v .undef)))):Le m (rn S c Q fo fs st0):=by
 simp only[ζc]at B;obtain⟨h1,w,z,A,C,G⟩:=B;subst G;refine pG h1 D w ?_ h;rw[uR,z];simp[C,k9,A,ud,Key.ok,Mg]
end
end
end Go.VE
namespace Go.VE
variable [bM]
instance {n:Nat}:OfNat Arg n:=⟨.s n⟩
abbrev bI (o:BinOp):K:=.p (.bin (some .int) none o)
abbrev ix (n:Nat):K:=.p (.idxS n)
abbrev ld (n:Nat):K:=.r (.load n false)
abbrev lD (n:Nat):K:=.r (.load n true)
abbrev fa (n:Nat):K:=.p (.fieldAddr n)
abbrev ln:K:=.p .lenSl
abbrev su (n:Nat):K:=.l (.store n)
abbrev Iv (n:Nat) (x:Int):Nat×SV:=(n,iv x)
abbrev Bv (n:Nat) (x:Bool):Nat×SV:=(n,bv x)
abbrev Cv {α:Type} [bz α] (n:Nat) (x:α):Nat×SV:=(n,cv x)
abbrev Kv {α:Type} [bz α] (n:Nat) (x:α):Nat×SV:=(n,cp x)
abbrev Pv (n:Nat):Nat×SV:=(n,.ptr n 0)
abbrev Ov (n:Nat):Nat×SV:=(n,.own (2000+n))
abbrev Xb {α:Type} [bz α] (n:Nat) (x:α):Nat×bC:=(n,bx x)
abbrev Lb {α:Type} [bz α] (n:Nat) (x:Sl α):Nat×bC:=(n,cS x)
abbrev on (d:Nat) (k:K) (az:List Arg) (dd:List Nat):RO:=⟨some d,none,true,k,az,dd,[]⟩
abbrev oz (k:K) (az:List Arg) (dd:List Nat):RO:=⟨none,none,false,k,az,dd,[]⟩
abbrev oy (k:K) (az:List Arg) (dd:List Nat):RO:=⟨none,none,true,k,az,dd,[]⟩
attribute [simp] O4 Pm Oq
theorem iI.uU {S:Sys} {T:oh} {f:FuncId} {b:Bool} (B:T f=none) (hk:S.E.keep f=false) (D:S.uU f []=some (.bool b)) :
 iI S (dx S T) f (λ_:Unit=>[]) (λr:Bool=>[.bool r]) (λ_=>some b) true where
 k:=hk
 h _:=by
  have h:=Dh (az:=[]) B hk D;intro r hr;cases hr;unfold iL;rw[h];exact uQ 8 [.bool b]
 s _ _:=rfl
end Go.VE
namespace Go.VE
variable [bM]
def Wp {α:Type} (m:Option α) (P:α->Prop):Prop:=∃a,m=some a/\P a
section
variable {α β:Type} {P Q:α->Prop}
theorem bh (a:α):Wp (some a) P↔P a:=⟨λh=>by obtain⟨b,e,p⟩:=h;cases e;exact p,λp=>⟨a,rfl,p⟩⟩
theorem Pp:Wp (none:Option α) P↔False:=⟨λh=>(by obtain⟨b,e,p⟩:=h;cases e),λh=>False.elim h⟩
theorem gW {m:Option β} {k:β->Option α}:Wp (m.bind k) P↔Wp m λb=>Wp (k b) P:=by
 cases m with
 | none=>simp only[Option.bind_none,Pp]
 | some b=>simp only[ζb,bh]
theorem cm {t:Bool} {a b:Option α}:Wp (bl t a b) P↔(t=true->Wp a P)/\(t=false->Wp b P):=by
 cases t <;> simp[bl]
theorem Wp.mono {m:Option α} (h:Wp m P) (B:∀a,P a->Q a):Wp m Q:=let ⟨a,e,p⟩:=h;⟨a,e,B a p⟩
theorem Wp.and {m:Option α} (h:Wp m P) (B:Wp m Q):Wp m λa=>P a/\Q a:=by
 obtain⟨a,e,p⟩:=h;obtain⟨b,e2,q⟩:=B;rw[e]at e2;cases e2;exact⟨a,e,p,q⟩
theorem Wp.eq {m:Option α} {a:α} (h:Wp m λx=>x=a):m=some a:=by obtain⟨b,e,rfl⟩:=h;exact e
end
section
variable {σ ε ρ:Type}
theorem eo (step:σ->Option (Fw σ ε ρ)) (s:σ):bX step s=(step s).bind λw=>match w with
 | .n B=>bX step B
 | .x e=>some (.x e)
 | .r b=>some (.r b):=by
 have h1:∀r,bX step s=some r->((step s).bind λw=>match w with
  | .n B=>bX step B
  | .x e=>some (.x e)
  | .r b=>some (.r b))=some r:=by
  intro r h;obtain⟨k,hk⟩:=mD.1 h
  cases k with
  | zero=>simp[iE]at hk
  | succ k=>
   simp only[iE]at hk
   cases u:step s with
   | none=>rw[u]at hk;cases hk
   | some w=>
    rw[u]at hk
    cases w with
    | n B=>exact mD.2 ⟨k,hk⟩
    | x e=>exact hk
    | r b=>exact hk
 cases z:bX step s with
 | some r=>exact(h1 r z).symm
 | none=>
  cases hr:((step s).bind λw=>match w with
  | .n B=>bX step B
  | .x e=>some (.x e)
  | .r b=>some (.r b))with
  | none=>rfl
  | some r=>
   exfalso
   cases u:step s with
   | none=>rw[u]at hr;cases hr
   | some w=>
    rw[u]at hr;simp only[ζb]at hr;have:bX step s=some r:=by
     cases w with
     | n B=>
      obtain⟨k,hk⟩:=mD.1 hr;exact mD.2 ⟨k+1,by simp only[iE,u];exact hk⟩
     | x e=>exact mD.2 ⟨1,by simp only[iE,u];exact hr⟩
     | r b=>exact mD.2 ⟨1,by simp only[iE,u];exact hr⟩
    rw[z]at this;cases this
def N0 (I:σ->Prop) (μ:σ->Nat) (D:ε->Prop) (G:ρ->Prop) (s:σ):Fw σ ε ρ->Prop
 | .n B=>I B/\μ B<μ s
 | .x e=>D e
 | .r b=>G b
def Sx (B:ε->Prop) (D:ρ->Prop):Fw Empty ε ρ->Prop
 | .x e=>B e
 | .r b=>D b
theorem Mf {step:σ->Option (Fw σ ε ρ)} (I:σ->Prop) (μ:σ->Nat) (B:ε->Prop) (D:ρ->Prop) (h:∀s,I s->Wp (step s) (N0 I μ B D s)) {s:σ} (G:I s):Wp (bX step s) (Sx B D):=by
 have key:∀n s,μ s<=n->I s->Wp (bX step s) (Sx B D):=by
  intro n
  induction n with
  | zero=>
   intro s C u;obtain⟨w,z,hr⟩:=h s u;rw[eo,z]
   cases w with
   | n A=>exact absurd hr.2 (by omega)
   | x e=>exact⟨_,rfl,hr⟩
   | r b=>exact⟨_,rfl,hr⟩
  | succ n J=>
   intro s C u;obtain⟨w,z,hr⟩:=h s u;rw[eo,z]
   cases w with
   | n A=>exact J A (by have:=hr.2;omega) hr.1
   | x e=>exact⟨_,rfl,hr⟩
   | r b=>exact⟨_,rfl,hr⟩
 exact key (μ s) s (Nat.le_refl _) G
theorem eO {γ:Type} {step:σ->Option (Fw σ ε ρ)} {B:ε->Option γ} {fr:ρ->Option γ} {P:γ->Prop} (I:σ->Prop) (μ:σ->Nat) {s:σ} (D:I s)
 (h:∀s,I s->Wp (step s) (N0 I μ (λe=>Wp (B e) P) (λb=>Wp (fr b) P) s)):Wp ((bX step s).bind (Fw.elim B fr)) P:=by
 rw[gW];refine(Mf I μ _ _ h D).mono ?_;intro w u
 cases w with
 | n a=>cases a
 | x e=>exact u
 | r b=>exact u
end
end Go.VE
namespace Go.VE
variable [bM]
theorem Ct {β γ δ:Type} {e:γ->Option β} {m:Option δ} {f:δ->Option γ} {L:Option β} (h:∀x,m=some x->Le ((f x).bind e) L):Le ((m.bind f).bind e) L:=by
 cases m with
 | none=>exact Le.none _
 | some x=>exact h x rfl
section
variable {S:Sys} {c:bO} {β:Type} {Q:Out×St->Option β} {fo:Fo} {fs:List Fm} {st0:St} {l:List RO} {d:Option Nat} {now:Bool} {az:List Arg} {dd:List Nat}
theorem Le.get {β:Type} {r:β} {L:Option β} (h:Le (some r) L):L=some r:=h r rfl
theorem Kt {n:Nat} {fo fo':Fo} {fs fs':List Fm} {st:St} (A:Bool->St) {t:Bool} {m:Option β} (B:t=true) (h:fZ S c n fo fs st=some (fo',fs',A t)) (D:Le m (rn S c Q fo' fs' (A true))):Le m (rn S c Q fo fs st):=by
 rw[mX h,B];exact D
theorem Kf {n:Nat} {fo fo':Fo} {fs fs':List Fm} {st:St} (A:Bool->St) {t:Bool} {m:Option β} (B:t=false) (h:fZ S c n fo fs st=some (fo',fs',A t)) (D:Le m (rn S c Q fo' fs' (A false))):Le m (rn S c Q fo fs st):=by
 rw[mX h,B];exact D
theorem Nb {α:Type} [bz α] {s:Sl α} {i:Int} {x:α} {r:β} {L:Option β} (B:idx s i=some x) (h:Le (((idx s i).bind λ_=>some r).bind some) L):Le (some r) L:=by
 rw[B]at h;exact h
theorem Sk {n:Nat} {q:List RO} {fs':List Fm} {st:St} {id:Nat} {vs:List SV} {xs:List V} {B:List (List V)} {m:Option β}
 (D:fZ S c n fo fs st0=some (.ops false [] q,fs',st)) (G:q=⟨d,none,now,.c,az,dd,[]⟩::l) (J:bV S.N st.g az=some (.yl id::vs)) (U:di vs=some xs) (W:st.want=xs::B) (Y:id=st.yid)
 (h:Le m (rn S c Q (.ops false [] l) fs' (nC dd (cV { st with want:=B } d (.v (.bool (st.more || !B.isEmpty))))))):Le m (rn S c Q fo fs st0):=by
 refine NF D G rfl ?_ h;unfold eT;simp only[wanted,e8,J,U,W,Y,if_true,and_self,Bool.false_eq_true,if_false]
theorem zo (a:RC) (fs:List Fm) (st:St):rn S c Q (.rc (.loop a)) fs st=(mG (cz S c a) st).bind (Co (lB S c Q fs) (lF S c Q fs) (λst=>Q (.ret,st))):=by
 show ji S c Q (.loop a) fs st=_;unfold ji;rw[BV];rfl
theorem Pf {f:St->Option (Out×St)} {st st':St} (h:f st=some (.norm,st')):mG f st=mG f st':=by
 have key:∀r,mG f st=some r↔mG f st'=some r:=λr=>by
  constructor
  .intro hr;obtain⟨k,hk⟩:=lC.1 hr
   cases k with
   | zero=>simp[iq]at hk
   | succ k=>simp only[iq,h]at hk;exact lC.2 ⟨k,hk⟩
  .intro hr;obtain⟨k,hk⟩:=lC.1 hr;exact lC.2 ⟨k+1,by simp only[iq,h];exact hk⟩
 cases u:mG f st with
 | none=>
  cases w:mG f st' with
  | none=>rfl
  | some r=>rw[(key r).2 w]at u;cases u
 | some r=>rw[(key r).1 u]
theorem G6 {f:St->Option (Out×St)} {st st':St} {o:Out} (h:f st=some (o,st')) (B:o≠.norm):mG f st=some (o,st'):=by
 refine lC.2 ⟨1,?_⟩
 cases o with
 | norm=>exact absurd rfl B
 | exit k=>simp only[iq,h]
 | ret=>simp only[iq,h]
theorem Dm {a:RC} {fs:List Fm} {st st':St} (h:rn S c some (.rc a) [] st=some (.norm,st')):rn S c Q (.rc (.loop a)) fs st=rn S c Q (.rc (.loop a)) fs st':=by
 rw[zo,zo,Pf (by rw[zw];exact h)]
theorem C0 {a:RC} {fs:List Fm} {st st':St} {k:Nat} (h:rn S c some (.rc a) [] st=some (.exit k,st')):rn S c Q (.rc (.loop a)) fs st=rn S c Q (.ex k) fs st':=by
 rw[zo,G6 (by rw[zw];exact h) (by simp)];rfl
theorem Dj {a:RC} {fs:List Fm} {st st':St} (h:rn S c some (.rc a) [] st=some (.ret,st')):rn S c Q (.rc (.loop a)) fs st=Q (.ret,st'):=by
 rw[zo,G6 (by rw[zw];exact h) (by simp)];rfl
end
def Qi:Out×St->Option Unit
 | (.exit _,_)=>none
 | (_,st)=>if st.want.isEmpty then some ()else none
def Sys.bare (S:Sys):Sys:=⟨S.E,S.N,λ_ _ _=>none,λ_ _=>none,λ_=>none⟩
def lW:bO:=λ_ _ _=>none
def sJ (B rest:List (List V)) (more:Bool):Prop:=more=true/\B=rest\/more=false/\B≠[]/\∃r,rest=B++r
theorem Ms (S:Sys) {f:FuncId} {fi:FI} {nm:FuncId->Option Nat} {rf:RF} (G:S.E.ft f=some fi) (W:∀g s,nm g=some s->S.N s=g) (hr:uW S.E nm fi rf) {a b:List V} {xs:List (List V)} (D:a.length+1+b.length<=rf.na) (U:rf.rs=[])
 (h:∀B more,sJ B xs more->∀yid,rn S.bare lW Qi (.rc rf.body) [] ⟨s7 0 (a.map .v++.yl yid::b.map .v),[],[],B,more,yid⟩=some ()):eD S f a b xs:=by
 have k:eD S.bare f a b xs:=Hr (S:=S.bare) (c:=lW) (fi:=fi) (nm:=nm) (rf:=rf) (λ_ _ h=>by cases h) (λ_ _ _ _ _ h=>by simp[lW]at h) (λ_ _ _ _ h=>by simp[Sys.bare]at h) G W hr D U (λB more w yid=>by
  have h1:=h B more w yid;change ji S.bare lW Qi rf.body [] _=some ()at h1;rw[m_]at h1;obtain⟨⟨o,st'⟩,z,u⟩:=ζg.1 h1;refine⟨o,st',z,?_,?_,rfl⟩
  .rintro id rfl;simp[Qi]at u
  .cases o <;> simp[Qi]at u <;> exact u)
 intro B more w yid J y Z A C H h1 z u I L;exact k B more w yid J ⟨y.uB,y.yield⟩ Z A C H h1 z u I L
open Classical in
noncomputable def v_ (P:FuncId->List V->List V->List (List V)->Prop) (f:FuncId) (a b:List V):Option (List (List V)):=if h:∃u,P f a b u then some (Classical.choose h)else none
theorem BL {P:FuncId->List V->List V->List (List V)->Prop} {f:FuncId} {a b:List V} {xs:List (List V)} (h:P f a b xs) (hu:∀ys,P f a b ys->ys=xs):v_ P f a b=some xs:=by
 have h1:∃xs,P f a b xs:=⟨xs,h⟩;unfold v_;rw[dif_pos h1,hu _ (Classical.choose_spec h1)]
theorem Ib {P:FuncId->List V->List V->List (List V)->Prop} {f:FuncId} {a b:List V} {xs:List (List V)} (h:v_ P f a b=some xs):P f a b xs:=by
 unfold v_ at h;split at h
 .rename_i h1;cases h;exact Classical.choose_spec h1
 .cases h
theorem Qc {E:Env} {nm:FuncId->Option Nat} {f:FuncId} {rf:RF}
 (h:((E.ft f).bind λfi=>(bH ⟨E,nm,fi.ntmps⟩ false fi.body).bind λc=>(fi.results.mapM (zq E)).bind λrs=>some (c,rs,fi.ntmps))=some (erase rf.body,rf.rs,rf.na)):∃fi,E.ft f=some fi/\uW E nm fi rf:=by
 obtain⟨fi,h1,w⟩:=ζg.1 h;obtain⟨c,z,A⟩:=ζg.1 w;obtain⟨rs,B,u⟩:=ζg.1 A;simp only[ζa,ζc]at u;obtain⟨rfl,rfl,C⟩:=u;exact⟨fi,h1,z,B,C.symm⟩
theorem FR.nF {H:bf} {Z Z':Nat->Prop} {x y z:V} (h:FR H Z x z) (k:FR H Z' y z):x=y:=by
 obtain⟨n,u⟩:=yu x;obtain⟨m,w⟩:=yu y;have e1:=h.borrow (max n m) (yZ (Nat.le_max_left _ _) u);have e2:=k.borrow (max n m) (yZ (Nat.le_max_right _ _) w);rw[e1]at e2;exact Option.some.inj e2
open Classical in
noncomputable def v7 (E:Env) (f:FuncId) (az:List V):Option V:=if h:∃y,Ah E f az y then some (Classical.choose h)else none
theorem CY {E:Env} {f:FuncId} {az:List V} {y:V} (h:v7 E f az=some y):Ah E f az y:=by
 unfold v7 at h;split at h
 .rename_i h1;cases h;exact Classical.choose_spec h1
 .cases h
theorem CZ {E:Env} {f:FuncId} {az:List V} {y:V} (h:Ah E f az y):v7 E f az=some y:=by
 have h1:∃y,Ah E f az y:=⟨y,h⟩;unfold v7;rw[dif_pos h1];obtain⟨n,z,H,Z,k1,w,_⟩:=h;obtain⟨u,C,H',Z',A,B,_⟩:=Classical.choose_spec h1;have e1:=(sH E (Nat.le_max_left n u)).go _ _ _ _ k1;have e2:=(sH E (Nat.le_max_right n u)).go _ _ _ _ A;rw[e1]at e2;cases e2;rw[FR.nF B w]
theorem GU {E:Env} {f:FuncId} {az:List V} {y:V} (B:V.scalar y=true) (h:∃n H',run E n (.fn f) az []=some (y,H')):Ah E f az y:=by
 obtain⟨n,H',h⟩:=h;exact⟨n,y,H',λ_=>False,h,.same _ (jA B),λ_ h=>h.elim,⟨λ_ _ _ h=>h.elim⟩⟩
end Go.VE
