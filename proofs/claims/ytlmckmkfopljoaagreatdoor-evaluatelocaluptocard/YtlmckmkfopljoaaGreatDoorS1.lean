/-
 Plain values and the steps of a certificate.
-/
import Derived.KernelRfl
import Derived.Test.YtlmckmkfopljoaaGreatDoorN2
set_option linter.all false
namespace Go.VE
variable [bN]
inductive Sl (α:Type) where
 | nil
 | emp
 | row (l:List α)
 | part (l:List α)
 deriving Inhabited
def Sl.l {α:Type}:Sl α->List α
 | .nil|.emp=>[]
 | .row l|.part l=>l
def Sl.k {α:Type}:Sl α->Fl
 | .nil=>.nil
 | .emp=>.emp
 | .row _=>.row
 | .part _=>.part
class bq (α:Type) where
 cells:α->List V
 agg:Bool
 size:Nat
 len:∀a,(cells a).length=size
 good:∀a,V.cD (cells a)=true
 one:∀a,(cells a).all V.one=true
 plain:agg=false->size=1
def cells {α:Type} [bq α] (a:α):List V:=bq.cells a
def enc {α:Type} [bq α] (a:α):V:=if bq.agg α then .agg (cells a)else(cells a).headD .undef
def rows {α:Type} [bq α] (l:List α):List (List V):=l.map cells
def bQ {α:Type} [bq α] (s:Sl α):V:=mS s.k (bq.size α) (rows s.l)
instance:bq Int where
 cells n:=[.int .i64 n]
 agg:=false
 size:=1
 len _:=rfl
 good _:=rfl
 one _:=rfl
 plain _:=rfl
instance:bq Bool where
 cells b:=[.bool b]
 agg:=false
 size:=1
 len _:=rfl
 good _:=rfl
 one _:=rfl
 plain _:=rfl
instance:bq ByteArray where
 cells s:=[.str s]
 agg:=false
 size:=1
 len _:=rfl
 good _:=rfl
 one _:=rfl
 plain _:=rfl
structure aY where
 proc:Int
 index:Int
 deriving DecidableEq,Inhabited
instance:bq aY where
 cells x:=[.int .i64 x.proc,.int .i64 x.index]
 agg:=true
 size:=2
 len _:=rfl
 good _:=rfl
 one _:=rfl
 plain h:=by cases h
@[simp] theorem Vq (n:Int):enc n=.int .i64 n:=rfl
@[simp] theorem Vl (n:Bool):enc n=.bool n:=rfl
@[simp] theorem Vr (n:ByteArray):enc n=.str n:=rfl
@[simp] theorem UO (n:Int):cells n=[.int .i64 n]:=rfl
@[simp] theorem T_ (n:Bool):cells n=[.bool n]:=rfl
@[simp] theorem UU (n:ByteArray):cells n=[.str n]:=rfl
@[simp] theorem Vf (n:aY):cells n=[.int .i64 n.proc,.int .i64 n.index]:=rfl
@[simp] theorem Tu (n:aY):enc n=.agg [.int .i64 n.proc,.int .i64 n.index]:=rfl
section
variable {α:Type} [bq α]
theorem fL (l:List α):(rows l).length=l.length:=by simp[rows]
def idx (s:Sl α) (i:Int):Option α:=if 0<=i then s.l[i.toNat]? else none
theorem Pe {N:Nat->FuncId} (s:Sl α) (k:IntKind) (i:Int) {n:Nat} (B:n=bq.size α):bn N (.idxS n) [bQ s,.int k i]=(idx s i).map λx=>.fptr (cells x):=by
 subst B;unfold idx bQ;simp only[bn,lE]
 by_cases h:i<0
 .rw[if_pos h,if_neg (by omega)];rfl
 .rw[if_neg h,if_pos (by omega)]
  cases s <;> simp[Sl.k,Sl.l,mS,rows,Function.comp_def]
theorem KW {N:Nat->FuncId} (s:Sl α):bn N .lenSl [bQ s]=some (.int .i64 s.l.length):=by
 cases s <;> simp[bn,mT,bQ,Sl.k,Sl.l,mS,fL]
end
section
variable {S:Sys} {c:bS}
end
end Go.VE
namespace Go.VE
variable [bN]
section
variable {S:Sys} {c:bS}
def isSlice:tY->Bool
 | .slice ..=>true
 | _=>false
theorem PC (dr:Bool) (fr:List Nat) (dst:Option Nat) (now:Bool) (p:tY) (az:List Arg) (st:St) (h:isSlice p=false) :
 eZ S c dr fr ⟨dst,none,now,.p p,az,[],[]⟩ st=(bP S.N st.g az).bind λsvs=>(iW S.N st.m p svs).bind λx=>some (cT st dst x):=by
 unfold eZ lH;have u:fm S.N st.g ⟨dst,none,now,.p p,az,[],[]⟩=none:=by unfold fm;grind
 simp[wanted,u]
 cases z:bP S.N st.g az with
 | none=>rfl
 | some svs=>
  simp;cases p <;> first|(simp[isSlice]at h;done)|(cases w:iW S.N st.m _ svs <;> simp[w])
theorem IN (N:Nat->FuncId) (m:Tb bu) (p:tY) (svs:List SV) (xs:List V) (h:cZ svs=some xs):iW N m p svs=(bn N p xs).bind λx=>some (.v x):=by
 unfold iW;rw[h];dsimp only;cases bn N p xs <;> rfl
theorem Et (dr:Bool) (fr:List Nat) (dst:Option Nat) (now:Bool) (q:H6) (az:List Arg) (st:St) :
 eZ S c dr fr ⟨dst,none,now,.r q,az,[],[]⟩ st=(bP S.N st.g az).bind λsvs=>if !dr||now||eO fr svs then(nZ st.m q svs).bind λx=>some (cT st dst x)else none:=by
 unfold eZ lH;have u:fm S.N st.g ⟨dst,none,now,.r q,az,[],[]⟩=none:=rfl;simp[wanted,u]
 cases w:bP S.N st.g az with
 | none=>rfl
 | some svs=>
  simp;split
  .cases z:nZ st.m q svs <;> simp
  .rfl
theorem BZ (dr:Bool) (fr:List Nat) (d:Nat) (now:Bool) (q:Md) (az:List Arg) (st:St) :
 eZ S c dr fr ⟨some d,none,now,.a q,az,[],[]⟩ st=(bP S.N st.g az).bind λsvs=>if st.new d then(oC st.m q svs d).bind λr=>some { st with g:=bH st.g d r.2,m:=bH st.m d r.1 } else none:=by
 unfold eZ lH;have u:fm S.N st.g ⟨some d,none,now,.a q,az,[],[]⟩=none:=rfl;simp[wanted,u]
 cases w:bP S.N st.g az with
 | none=>rfl
 | some svs=>
  simp;split
  .cases z:oC st.m q svs d <;> simp[cT]
  .rfl
theorem uo (dr:Bool) (fr:List Nat) (dst:Option Nat) (now:Bool) (q:Ih) (az:List Arg) (st:St) :
 eZ S c dr fr ⟨dst,none,now,.l q,az,[],[]⟩ st=(bP S.N st.g az).bind λsvs=>if !dr||now then(lC st dst q svs).bind λr=>some (cT r.2 dst r.1)else none:=by
 unfold eZ lH;have u:fm S.N st.g ⟨dst,none,now,.l q,az,[],[]⟩=none:=rfl;simp[wanted,u]
 cases w:bP S.N st.g az with
 | none=>rfl
 | some svs=>
  simp;split
  .cases z:lC st dst q svs <;> simp
  .rfl
def jZ:List SV->Option (FuncId×List SV)
 | .clo f a b::vs=>some (f,a++vs++b)
 | .v (.clo f a b)::vs=>some (f,a.map .v++vs++b.map .v)
 | _=>none
theorem uj (dr:Bool) (fr:List Nat) (dst:Option Nat) (now:Bool) (az:List Arg) (st:St) (svs:List SV) (f:FuncId) (args:List SV) (B:bP S.N st.g az=some svs) (hc:jZ svs=some (f,args)) :
 eZ S c dr fr ⟨dst,none,now,.c,az,[],[]⟩ st=(eB S c dst dr (!dr||now) (eN st.m fr) f args st).bind λr=>some (cT r.2 dst r.1):=by
 unfold eZ lH;unfold jZ at hc;split at hc
 .obtain⟨rfl,rfl⟩:=hc;simp[wanted,fm,B];cases eB S c dst dr _ _ _ _ st <;> simp
 .obtain⟨rfl,rfl⟩:=hc;simp[wanted,fm,B];cases eB S c dst dr _ _ _ _ st <;> simp
 grind
noncomputable def NY {β:Type} (S:Sys) (c:bS) (fr:List Nat) (l:List RO) (k:St->Option β):St->Option β:=λst=>(me S c false fr l st).bind k
noncomputable def N_ {β:Type} (S:Sys) (c:bS) (fr:List Nat) (l:List RO) (k:St->Option β):St->Option β:=λst=>(me S c true fr l st).bind k
noncomputable def Te {β:Type} (S:Sys) (c:bS) (fr dd:List Nat) (l:List RO) (k:St->Option β):St->Option β:=λst=>NY S c fr l k (og dd st)
noncomputable def SH {β:Type} (S:Sys) (c:bS) (fr dd:List Nat) (l:List RO) (k:St->Option β):St->Option β:=λst=>N_ S c fr l k (og dd st)
@[congr] theorem T0 {β:Type} {fr:List Nat} {l:List RO} {k:St->Option β} {st st':St} (h:st=st'):NY S c fr l k st=NY S c fr l k st':=by rw[h]
@[congr] theorem TG {β:Type} {fr B:List Nat} {l:List RO} {k:St->Option β} {st st':St} (D:fr=B) (h:st=st'):N_ S c fr l k st=N_ S c B l k st':=by simp_all
@[congr] theorem TT {β:Type} {fr dd:List Nat} {l:List RO} {k:St->Option β} {st st':St} (h:st=st'):Te S c fr dd l k st=Te S c fr dd l k st':=by rw[h]
@[congr] theorem Uf {β:Type} {fr B dd:List Nat} {l:List RO} {k:St->Option β} {st st':St} (D:fr=B) (h:st=st'):SH S c fr dd l k st=SH S c B dd l k st':=by simp_all
@[congr] theorem UD {dr:Bool} {fr:List Nat} {o:RO} {st st':St} (h:st=st'):eZ S c dr fr o st=eZ S c dr fr o st':=by rw[h]
end
section
variable {S:Sys} {c:bS} (dr:Bool) (fr:List Nat) (dst:Option Nat) (now:Bool) (az:List Arg) (st:St)
end
end Go.VE
namespace Go.VE
variable [bN]
inductive Fm where
 | seq (b:RC)
 | blk (id:Nat)
 | gst (x:Gh)
section
variable (S:Sys) (c:bS) {β:Type} (Q:Out×St->Option β)
noncomputable def runK:List Fm->Out×St->Option β
 | [],r=>Q r
 | .seq b::fs,(.norm,st)=>(cu S c b st).bind (runK fs)
 | .seq _::fs,r=>runK fs r
 | .blk id::fs,(.exit k,st)=>if k=id then runK fs (.norm,st)else runK fs (.exit k,st)
 | .blk _::fs,r=>runK fs r
 | .gst x::fs,(.norm,st)=>(ghost x st).bind λst=>runK fs (.norm,st)
 | .gst _::fs,r=>runK fs r
noncomputable def go (rc:RC) (fs:List Fm) (st:St):Option β:=(cu S c rc st).bind (runK S c Q fs)
noncomputable def PK (fs:List Fm):St->Option β:=λst=>runK S c Q fs (.norm,st)
def bp {α:Type} (t:Bool) (a b:α):α:=if t then a else b
end
@[congr] theorem UJ {α:Type} {t B:Bool} {a b a' D:α} (h:t=B) (G:B=true->a=a') (J:B=false->b=D):bp t a b=bp B a' D:=by
 subst h;cases t
 .exact J rfl
 .exact G rfl
section
variable {S:Sys} {c:bS} {β:Type} {Q:Out×St->Option β}
@[congr] theorem go_congr {a:RC} {fs:List Fm} {st st':St} (h:st=st'):go S c Q a fs st=go S c Q a fs st':=by rw[h]
@[congr] theorem TF {fs:List Fm} {st st':St} (h:st=st'):PK S c Q fs st=PK S c Q fs st':=by rw[h]
@[congr] theorem TS {fs:List Fm} {r B:Out×St} (h:r=B):runK S c Q fs r=runK S c Q fs B:=by rw[h]
theorem GJ (rc:RC) (st:St):(cu S c rc st).bind Q=go S c Q rc [] st:=by
 simp only[go];cases cu S c rc st <;> rfl
inductive Fw (ν ε ρ:Type) where
 | n (a:ν)
 | x (e:ε)
 | r (b:ρ)
def kB {σ ε ρ:Type} (step:σ->Option (Fw σ ε ρ)):Nat->σ->Option (Fw Empty ε ρ)
 | 0,_=>none
 | k+1,s=>match step s with
  | some (.n B)=>kB step k B
  | some (.x e)=>some (.x e)
  | some (.r b)=>some (.r b)
  | none=>none
theorem vW {σ ε ρ:Type} {step:σ->Option (Fw σ ε ρ)}:∀{k B:Nat} {s:σ} {r:Fw Empty ε ρ},k<=B->kB step k s=some r->kB step B s=some r
 | 0,_,_,_,_,h=>by simp[kB]at h
 | k+1,0,_,_,hk,_=>by omega
 | k+1,B+1,s,r,hk,h=>by
  simp only[kB]at h ⊢;split at h
  .exact vW (Nat.le_of_succ_le_succ hk) h
  .exact h
  .exact h
  .simp at h
open Classical in
noncomputable def cE {σ ε ρ:Type} (step:σ->Option (Fw σ ε ρ)) (s:σ):Option (Fw Empty ε ρ):=
 if h:∃k r,kB step k s=some r then some (Classical.choose (Classical.choose_spec h))else none
theorem oG {σ ε ρ:Type} {step:σ->Option (Fw σ ε ρ)} {s:σ} {r:Fw Empty ε ρ}:cE step s=some r↔∃k,kB step k s=some r:=by
 unfold cE;constructor
 .intro h;split at h
  .rename_i u;simp only[ζa]at h;exact⟨_,by rw[<-h];exact Classical.choose_spec (Classical.choose_spec u)⟩
  .simp at h
 .rintro⟨k,hk⟩;have u:∃k r,kB step k s=some r:=⟨k,r,hk⟩;rw[dif_pos u];have z:=Classical.choose_spec (Classical.choose_spec u);have A:=vW (Nat.le_max_left (Classical.choose u) k) z;have w:=vW (Nat.le_max_right (Classical.choose u) k) hk;rw[A]at w;exact w
def Fw.out {ν ε ρ:Type} (D:ν->St) (B:ε->Nat×St) (G:ρ->St):Fw ν ε ρ->Out×St
 | .n a=>(.norm,D a)
 | .x e=>(.exit (B e).1,(B e).2)
 | .r b=>(.ret,G b)
def Fw.elim {ε ρ γ:Type} (B:ε->γ) (fr:ρ->γ):Fw Empty ε ρ->γ
 | .x e=>B e
 | .r b=>fr b
end
end Go.VE
namespace Go.VE
variable [bN]
section
variable {α:Type} [bq α]
theorem DB (s:Sl α):V.one (bQ s)=true:=by cases s <;> rfl
theorem MD (l:List α):V.lY (rows l)=true:=by
 induction l with
 | nil=>rfl
 | cons a l u=>simp only[rows,List.map_cons,V.lY,ζh];exact⟨bq.good a,u⟩
theorem KD (s:Sl α):V.good (bQ s)=true:=by
 cases s <;> simp only[bQ,Sl.k,mS,V.good] <;> exact MD _
instance:bq (Sl α) where
 cells s:=[bQ s]
 agg:=false
 size:=1
 len _:=rfl
 good s:=by simp only[V.cD,KD,Bool.and_self]
 one s:=by simp[DB]
 plain _:=rfl
end
section
variable {S:Sys} {c:bS}
def Ll (x:Option SV) (b:Bool) (y z:Option St):Option St:=
 match x with
 | some (.v (.bool t))=>bp (t==b) y z
 | some (.v _)=>z
 | _=>none
@[congr] theorem SR {x B:Option SV} {b:Bool} {y z:Option St} (h:x=B):Ll x b y z=Ll B b y z:=by rw[h]
def PM {β:Type} (x:Option SV) (y z:Option β):Option β:=
 match x with
 | some (.v (.bool t))=>bp t y z
 | _=>none
@[congr] theorem TA {β:Type} {x B:Option SV} {y z:Option β} (h:x=B):PM x y z=PM B y z:=by rw[h]
def iG (c:bS) (f:FuncId) (az:List V):Option (List V):=(c f (az.map .v) []).bind λr=>cQ r.2 8 r.1
def Ms (now:Bool) (args:List SV) (ok:Bool) (st:St) (ys:List V):Option (SV×St):=
 if(result ys).scalar||ok then some (.v (result ys),st)else if now then(rowsOf args).map λds=>(.v (result ys),{ st with m:=oe ds st.m })else none
theorem Q6 (dst:Option Nat) (dr now:Bool) (old:List SV->Bool) (f:FuncId) (args:List SV) (st:St) (hk:S.E.keep f=false) :
 eB S c dst dr now old f args st=(cQ st.m 8 args).bind λaz=>if now||old args then(iG c f az).bind (Ms now args (cZ args).isSome st)else none:=by
 unfold eB iG;simp only[hk,Bool.false_eq_true,if_false]
 cases cQ st.m 8 args with
 | none=>rfl
 | some az=>
  simp only[ζb];split
  .cases c f (az.map .v) []with
   | none=>rfl
   | some r=>
    obtain⟨rs,m'⟩:=r;simp only[ζb];cases cQ m' 8 rs <;> rfl
  .rfl
end
section
variable {S:Sys} {T:pF}
def Fq (rs:List RV):Out×St->Option (List V)
 | (.exit _,_)=>none
 | (_,st)=>(jB st rs).bind (cQ st.m 8)
theorem Oz {f:FuncId} {rf:RF} (B:T f=some rf) (az:List V) (D:az.length<=rf.na):iG (cU S T) f az=go S (cU S T) (Fq rf.rs) rf.body [] (start (az.map .v) []):=by
 unfold iG;rw[sn B];unfold mD;rw[if_pos (by simpa using D),<-GJ]
 cases h:cu S (cU S T) rf.body (start (az.map .v) [])with
 | none=>rfl
 | some r=>
  obtain⟨o,st⟩:=r;cases o <;> simp only[ζb,Fq] <;> (try rfl) <;> (cases jB st rf.rs <;> rfl)
end
end Go.VE
namespace Go.VE
variable [bN]
variable {N:Nat->FuncId}
def zd (k:IntKind) (a b:Int):Option Int:=if b=0 then none else some (k.wrap (a.tdiv b))
theorem Td (e:Option KT) (q:Option Nat) (k:IntKind) (a b:Int):bn N (.bin e q .quo) [.int k a,.int k b]=(zd k a b).bind λx=>some (.int k x):=by
 simp only[bn,iE,zd,if_true];split <;> rfl
def VS (k:IntKind) (a b:Int):Option Int:=if b<0 then none else some (a.fdiv (2 ^ (min b.toNat k.bits)))
theorem Fp (o:Nat) (cs:List V):bn N (.fieldAddr o) [.fptr cs]=if o<=cs.length then some (.fptr (cs.drop o))else none:=rfl
def mU (s:ByteArray) (n:Int):Option Int:=if 0<=n then(s[n.toNat]?).map λb=>(b.toNat:Int)else none
theorem Lt (s:ByteArray) (k:IntKind) (n:Int):bn N .idxStr [.str s,.int k n]=(mU s n).bind λx=>some (.int .u8 x):=by
 simp only[bn,mU];split
 .cases s[n.toNat]? <;> rfl
 .rfl
theorem NX (z:List V) (pl:List (Nat×Nat)) (vs:List V):bn N (.build z pl) vs=(jS z pl vs).bind λcs=>some (.agg cs):=by
 simp only[bn];cases jS z pl vs <;> rfl
section
variable {α:Type} [bq α]
theorem HY (s:Sl α) (k:IntKind) (i:Int) (n:Nat) (B:n=bq.size α):bn N (.idxS n) [bQ s,.int k i]=(idx s i).bind λx=>some (.fptr (cells x)):=by
 rw[Pe s k i B];cases idx s i <;> rfl
theorem FJ (s:Sl α):bn N .lenSl [bQ s]=some (.int .i64 s.l.length):=KW s
def Sl.isNil {α:Type} (s:Sl α):Option Bool:=
 match s with
 | .nil=>some true
 | .emp=>none
 | _=>some false
theorem Oo (q:Option Nat) (s:Sl α):bn N (.bin (some .slice) q .eql) [bQ s,.bE]=s.isNil.bind λt=>some (.bool t):=by
 cases s <;> rfl
def jm (s:Sl α) (lo hi:Option Int):Option (Sl α):=
 (dI s.l.length lo hi).map λ(l,h)=>match s with
  | .nil=>.nil
  | .emp=>.emp
  | .row x=>.part ((x.take h).drop l)
  | .part x=>.part ((x.take h).drop l)
theorem IT (s:Sl α) (lo hi:Option Int) (n:Nat) (B:n=bq.size α):gB n (bQ s) lo hi=(jm s lo hi).bind λx=>some (bQ x):=by
 subst B
 cases s with
 | nil=>simp only[bQ,Sl.k,mS,gB,jm,Sl.l,List.length_nil];cases dI 0 lo hi <;> rfl
 | emp=>simp only[bQ,Sl.k,mS,gB,jm,Sl.l,List.length_nil];cases dI 0 lo hi <;> rfl
 | row l=>simp only[bQ,Sl.k,mS,gB,jm,Sl.l,if_true,fL];cases dI l.length lo hi <;> simp[rows,List.map_take,List.map_drop]
 | part l=>simp only[bQ,Sl.k,mS,gB,jm,Sl.l,if_true,fL];cases dI l.length lo hi <;> simp[rows,List.map_take,List.map_drop]
end
theorem Ln (m:Tb bu) (n:Nat) (a:Bool) (cs:List V):nZ m (.load n a) [.v (.fptr cs)]=(cut cs 0 n).bind λr=>(mk a r).bind λx=>some (.v x):=by
 simp only[nZ,ei]
 cases cut cs 0 n with
 | none=>rfl
 | some r=>simp only[ζb];cases mk a r <;> rfl
end Go.VE
namespace Go.VE
variable [bN]
section
variable {α:Type} [bq α]
def cA (s:Sl α):bu:=.sl s.k (bq.size α) (rows s.l)
def Sl.rM (s:Sl α) (i:Int):Option Nat:=if 0<=i/\i.toNat<s.l.length then some i.toNat else none
def Sl.get (s:Sl α) (i:Nat):Option α:=s.l[i]?
def Sl.put (s:Sl α) (i:Nat) (x:α):Option (Sl α):=
 if i<s.l.length then some (match s with|.row l=>.row (l.set i x)|.part l=>.part (l.set i x)|s=>s)else none
def fZ (s:Sl α) (x:α):Option (Sl α):=if s.l.length+1<=2147483648 then some (.row (s.l++[x]))else none
def uU (n:Int) (z:α):Option (Sl α):=if 0<=n/\n<=2147483648 then some (.row (List.replicate n.toNat z))else none
end
section
variable {α:Type} [bq α] {N:Nat->FuncId} {m:Tb bu}
def JZ (n d:Nat) (o:Option bu) (i:Int):Option SV:=
 match o with
 | some (.sl k es u)=>if cC k/\es=n/\0<=i/\i.toNat<u.length then some (.el d i.toNat 0)else none
 | _=>none
theorem Qv (n d:Nat) (k:IntKind) (i:Int):iW N m (.idxS n) [.own d,.v (.int k i)]=JZ n d (a_ m d) i:=by
 simp[iW,cZ,vH,JZ]
 grind
theorem Rr (n d:Nat) (s:Sl α) (i:Int) (h:n=bq.size α):JZ n d (some (cA s)) i=(s.rM i).bind λj=>some (.el d j 0):=by
 simp[JZ,cA,fL,Sl.rM]
 cases s with
 | nil=>simp[Sl.l,cC]
 | emp=>simp[Sl.l,cC]
 | row l=>simp[Sl.k,Sl.l,cC];grind
 | part l=>simp[Sl.k,Sl.l,cC];grind
def Jb (o:Option bu):Option SV:=
 match o with
 | some (.sl _ _ u)=>some (.v (.int .i64 u.length))
 | _=>none
theorem OJ (d:Nat):iW N m .lenSl [.own d]=Jb (a_ m d):=by
 simp[iW,cZ,vH,Jb]
 grind
theorem Q2 (s:Sl α):Jb (some (cA s))=some (.v (.int .i64 s.l.length)):=by simp[Jb,cA,fL]
def Pn (n:Nat) (a:Bool) (o:Nat) (ob:Option bu):Option SV:=
 match ob with
 | some (.box cs)=>ua n a ((cs.drop o).take n)
 | _=>none
theorem Vc (n:Nat) (a:Bool) (d o:Nat):nZ m (.load n a) [.ptr d o]=Pn n a o (a_ m d):=by
 rfl
theorem KX (n:Nat) (a:Bool) (o:Nat) (cs:List SV):Pn n a o (some (.box cs))=ua n a ((cs.drop o).take n):=rfl
def E5 (n:Nat) (a:Bool) (i o:Nat) (ob:Option bu):Option SV:=
 match ob with
 | some (.sl _ _ u)=>match u[i]? with
  | some cs=>((cut cs o n).bind (mk a)).map .v
  | none=>none
 | _=>none
theorem TM (n:Nat) (a:Bool) (d i o:Nat):nZ m (.load n a) [.el d i o]=E5 n a i o (a_ m d):=by
 rfl
theorem KQ (n:Nat) (a:Bool) (i o:Nat) (s:Sl α):E5 n a i o (some (cA s))=(s.get i).bind λx=>(cut (cells x) o n).bind λr=>(mk a r).bind λy=>some (.v y):=by
 simp only[E5,cA,Sl.get,rows,List.getElem?_map]
 cases s.l[i]? with
 | none=>rfl
 | some x=>
  simp only[Option.map_some,ζb]
  cases cut (cells x) o n with
  | none=>rfl
  | some r=>simp ;cases mk a r <;> rfl
theorem TQ (z:α) (n:Int) (d:Nat) (size:Nat) (zero:List V) (h:zero=cells z) (B:size=bq.size α) :
 oC m (.makeSl size zero) [.v (.int .i64 n),.v (.int .i64 n)] d=(uU n z).bind λs=>some (cA s,.own d):=by
 subst h B;simp[oC,uU];split
 .simp[cA,Sl.k,Sl.l,rows]
 .rfl
def C6 (st:St) (d i o size:Nat) (x:V) (ob:Option bu):Option (SV×St):=
 match ob with
 | some (.sl k es u)=>match u[i]? with
  | some cs=>if x.cells.length=size/\o+size<=cs.length/\x.cells.all V.one=true then
   some (.v .undef,{ st with m:=bH st.m d (.sl k es (u.set i (cs.take o++x.cells++cs.drop (o+x.cells.length)))) })else none
  | none=>none
 | _=>none
theorem J7 (st:St) (dst:Option Nat) (size d i o:Nat) (x:V):lC st dst (.store size) [.el d i o,.v x]=C6 st d i o size x (a_ st.m d):=by
 rfl
theorem Ju (g:Tb SV) (p:List Nat) (w:List (List V)) (B:Bool) (y:Nat) (d i size:Nat) (x:V) (a:α) (D:x.cells=cells a) (G:size=bq.size α) (s:Sl α) :
 C6 ⟨g,m,p,w,B,y⟩ d i 0 size x (some (cA s))=(s.put i a).bind λJ=>some (.v .undef,⟨g,bH m d (cA J),p,w,B,y⟩):=by
 have h1:(cells a).all V.one=true:=bq.one a;have u:∀b:α,(cells b).length=bq.size α:=bq.len;subst G;simp only[C6,cA,rows,List.getElem?_map,D,Sl.put]
 by_cases hi:i<s.l.length
 .have hg  := ζd hi;rw[if_pos hi,hg];simp[u,h1]
  cases s with
  | nil=>simp[Sl.l]at hi
  | emp=>simp[Sl.l]at hi
  | row l=>simp[Sl.k,Sl.l,List.drop_of_length_le,u]
  | part l=>simp[Sl.k,Sl.l,List.drop_of_length_le,u]
 grind
def xd (st:St) (t n:Nat) (s:SV) (xs ys:Option (List (List V))):Option (SV×St):=
 match xs,ys with
 | some _,some []=>match s with
  | .own d=>match a_ st.m d with
   | some ob=>if St.new { st with m:=dO d st.m } t then some (.own t,{ st with m:=bH (dO d st.m) t ob })else none
   | none=>none
  | .v .bE=>if st.new t then some (.own t,{ st with m:=bH st.m t (.sl .nil n []) })else none
  | .v .dm=>if st.new t then some (.own t,{ st with m:=bH st.m t (.sl .emp n []) })else none
  | _=>none
 | some xs,some ys=>
  if xs.length+ys.length<=2147483648/\FA s=true then
   if St.new { st with m:=giveUp st.m s } t then some (.own t,{ st with m:=bH (giveUp st.m s) t (.sl .row n (xs++ys)) })else none
  else none
 | _,_=>none
theorem yB (st:St) (t n:Nat) (s x:SV):lC st (some t) (.append n) [s,x]=xd st t n s (jF st.m n s) (jF st.m n x):=by
 cases s <;> cases x <;> (rfl)
def Kp (n:Nat) (o:Option bu):Option (List (List V)):=
 match o with
 | some (.sl k es u)=>if cC k then(if es=n then some u else none)else some []
 | _=>none
theorem CE (n d:Nat):jF m n (.own d)=Kp n (a_ m d):=by
 simp[jF,Kp]
 grind
theorem zM (n:Nat) (s:Sl α) (h:n=bq.size α):Kp n (some (cA s))=some (rows s.l):=by
 subst h;cases s <;> simp[Kp,cA,Sl.k,Sl.l,cC,rows]
theorem Qh (n:Nat):jF m n (.v .bE)=some []:=rfl
theorem Ra (n:Nat):jF m n (.v .dm)=some []:=rfl
theorem ME (g:Tb SV) (p:List Nat) (w:List (List V)) (B:Bool) (y:Nat) (t n d:Nat) (l:List α) (x:α) (h:n=bq.size α):xd ⟨g,m,p,w,B,y⟩ t n (.own d) (some (rows l)) (some (rows [x])) =
 (fZ (.row l) x).bind λs=>if St.new ⟨g,dO d m,p,w,B,y⟩ t then some (.own t,⟨g,bH (dO d m) t (cA s),p,w,B,y⟩)else none:=by
 subst h;have e:(rows l).length+(rows [x]).length=l.length+1:=by simp[fL]
 by_cases h:l.length+1<=2147483648
 .have h1:fZ (.row l) x=some (.row (l++[x])):=if_pos h;have u:xd ⟨g,m,p,w,B,y⟩ t (bq.size α) (.own d) (some (rows l)) (some (rows [x]))=if St.new ⟨g,dO d m,p,w,B,y⟩ t then some (.own t,⟨g,bH (dO d m) t (.sl .row (bq.size α) (rows l++rows [x])),p,w,B,y⟩)else none:=if_pos ⟨by omega,rfl⟩
  rw[h1,u];simp[cA,Sl.k,Sl.l,rows]
 .have h1:fZ (.row l) x=none:=if_neg h;have u:xd ⟨g,m,p,w,B,y⟩ t (bq.size α) (.own d) (some (rows l)) (some (rows [x]))=none:=if_neg (λq=>h (by omega))
  grind
theorem Lc (g:Tb SV) (p:List Nat) (w:List (List V)) (B:Bool) (y:Nat) (t n:Nat) (x:α) (h:n=bq.size α):xd ⟨g,m,p,w,B,y⟩ t n (.v .bE) (some []) (some (rows [x])) =
 if St.new ⟨g,m,p,w,B,y⟩ t then some (.own t,⟨g,bH m t (cA (.row [x])),p,w,B,y⟩)else none:=by
 subst h;rfl
theorem L_ (g:Tb SV) (p:List Nat) (w:List (List V)) (B:Bool) (y:Nat) (t n:Nat) (x:α) (h:n=bq.size α):xd ⟨g,m,p,w,B,y⟩ t n (.v .dm) (some []) (some (rows [x])) =
 if St.new ⟨g,m,p,w,B,y⟩ t then some (.own t,⟨g,bH m t (cA (.row [x])),p,w,B,y⟩)else none:=by
 subst h;rfl
end
theorem wz (g:Tb SV) (m:Tb bu) (p:List Nat) (w:List (List V)) (B:Bool) (y d:Nat):St.new ⟨g,m,p,w,B,y⟩ d=(!(p.contains d)&&(a_ m d).isNone && !(uA d g) && !(q9 d m)):=rfl
theorem qD (d:Nat):uA d []=false:=rfl
theorem pg (d n:Nat) (x:SV) (r:Tb SV):uA d ((n,x)::r)=(SV.cM d x||uA d r):=rfl
theorem qT (d:Nat):q9 d []=false:=rfl
theorem oS (d n:Nat) (x:bu) (r:Tb bu):q9 d ((n,x)::r)=(bu.cM d x||q9 d r):=rfl
theorem wA (d:Nat) (x:V):SV.cM d (.v x)=false:=rfl
theorem sy (d e:Nat):SV.cM d (.own e)=(e==d):=rfl
theorem rT (d e o:Nat):SV.cM d (.ptr e o)=(e==d):=rfl
theorem uL (d e i o:Nat):SV.cM d (.el e i o)=(e==d):=rfl
theorem uG (d e:Nat):SV.cM d (.mp e)=(e==d):=rfl
theorem sK (d:Nat) (f:FuncId) (a b:List SV):SV.cM d (.clo f a b)=(SV.di d a||SV.di d b):=rfl
theorem sA (d:Nat) (l:List SV):SV.cM d (.tup l)=SV.di d l:=rfl
theorem qP (d:Nat):SV.di d []=false:=rfl
theorem o8 (d:Nat) (x:SV) (r:List SV):SV.di d (x::r)=(SV.cM d x||SV.di d r):=rfl
theorem qQ (d:Nat) (cs:List SV):bu.cM d (.box cs)=SV.di d cs:=rfl
theorem Df (m:Tb bu) (n:Nat):cQ m n []=some []:=by cases n <;> simp[cQ]
theorem B5 (m:Tb bu) (n:Nat) (x:SV) (r:List SV):cQ m n (x::r)=(shut m n x).bind λy=>(cQ m n r).bind λs=>some (y::s):=by
 cases n <;> (simp[cQ];cases shut m _ x <;> (try rfl) <;> (cases cQ m _ r <;> rfl))
theorem Th (m:Tb bu) (n:Nat) (x:V):shut m n (.v x)=some x:=by cases n <;> simp[shut]
theorem OC (m:Tb bu) (n:Nat) (f:FuncId) (a b:List SV):shut m (n+1) (.clo f a b)=(cQ m n a).bind λx=>(cQ m n b).bind λy=>some (.clo f x y):=by
 simp[shut];cases cQ m n a <;> (try rfl) <;> (cases cQ m n b <;> rfl)
theorem Ox (m:Tb bu) (n:Nat) (l:List SV):shut m (n+1) (.tup l)=(cQ m n l).bind λx=>some (.tup x):=by
 simp[shut];cases cQ m n l <;> rfl
theorem N2 (m:Tb bu) (n:Nat) (l:List SV):shut m (n+1) (.agg l)=(cQ m n l).bind λx=>some (.agg x):=by
 simp[shut];cases cQ m n l <;> rfl
theorem sI {α:Type} (n:Nat):dO n ([]:Tb α)=[]:=rfl
theorem qL {α:Type} (n k:Nat) (x:α) (r:Tb α):dO n ((k,x)::r)=if k=n then dO n r else(k,x)::dO n r:=rfl
theorem mapM_nil (f:List SV->List SV):mapM f []=[]:=rfl
end Go.VE
namespace Go.VE
variable [bN]
section
variable {N:Nat->FuncId} {m:Tb bu}
theorem Rq:result []=.tup []:=rfl
theorem Rj (x:V):result [x]=x:=rfl
theorem QV (x y:V) (l:List V):result (x::y::l)=.tup (x::y::l):=rfl
theorem Gn (p:tY) (a:V):iW N m p [.v a]=(bn N p [a]).bind λx=>some (.v x):=IN N m p _ [a] rfl
theorem vg (p:tY) (a b:V):iW N m p [.v a,.v b]=(bn N p [a,b]).bind λx=>some (.v x):=IN N m p _ [a,b] rfl
theorem kn (l:List V):cZ (l.map .v)=some l:=by
 induction l with
 | nil=>rfl
 | cons a l u=>simp only[List.map_cons,cZ,u];rfl
theorem tu (n:Nat) (l:List V):cQ m n (l.map .v)=some l:=by
 induction l with
 | nil=>exact Df m n
 | cons a l u=>rw[List.map_cons,B5,Th,u];rfl
theorem Sl.P3 {α:Type} (l:List α):(Sl.row l).l=l:=rfl
theorem tq (cs:List V):jS cs [] []=some cs:=rfl
theorem qZ (cs:List V) (off size:Nat) (pl:List (Nat×Nat)) (v:V) (vs:List V):jS cs ((off,size)::pl) (v::vs) =
 if v.cells.length=size/\off+v.cells.length<=cs.length then jS (cs.take off++v.cells++cs.drop (off+v.cells.length)) pl vs else none:=by
 simp only[jS]
 by_cases h:v.cells.length=size <;> by_cases u:off+v.cells.length<=cs.length
 .rw[if_neg (by simp[h];omega),if_pos ⟨h,u⟩]
 .rw[if_pos (by simp[h];omega),if_neg (λq=>u q.2)]
 .rw[if_pos (by simp[h]),if_neg (λq=>h q.1)]
 .rw[if_pos (by simp[h]),if_neg (λq=>h q.1)]
theorem wQ (k:IntKind) (n:Int):V.cells (.int k n)=[.int k n]:=rfl
theorem uK (n:Bool):V.cells (.bool n)=[.bool n]:=rfl
theorem wJ (n:ByteArray):V.cells (.str n)=[.str n]:=rfl
theorem wD:V.cells .bE=[.bE]:=rfl
theorem mW (k:IntKind) (n:Int):V.one (.int k n)=true:=rfl
theorem lg (n:Bool):V.one (.bool n)=true:=rfl
theorem mP (n:ByteArray):V.one (.str n)=true:=rfl
end
end Go.VE
namespace Go.VE
variable [bN]
section
variable {S:Sys} {c:bS} {β γ δ:Type} {Q:Out×St->Option β} {L:Option β} {e:γ->Option β}
theorem L0 {dr:Bool} {fr:List Nat} {d:Option Nat} {gd:Option (Nat×Bool)} {now:Bool} {k:K} {az:List Arg} {st:St} (h:wanted st.g gd=some true) :
 eZ S c dr fr ⟨d,gd,now,k,az,[],[]⟩ st=eZ S c dr fr ⟨d,none,now,k,az,[],[]⟩ st:=by
 unfold eZ;rw[h];rfl
theorem A7 (dr:Bool) (st:St):Ba dr [] st=some st:=by cases dr <;> rfl
def mO (f:SV->Option V):List SV->Option (List V)
 | []=>some []
 | x::r=>(f x).bind λy=>(mO f r).bind λs=>some (y::s)
def ig (m:Tb bu):Nat->SV->Option V
 | 0,x=>match x with
  | .v y=>some y
  | .own d=>match a_ m d with
   | some (.sl k es xs)=>some (mS k es xs)
   | _=>none
  | .mp d=>match a_ m d with
   | some (.mp B)=>some (.fmap B)
   | _=>none
  | _=>none
 | n+1,x=>match x with
  | .v y=>some y
  | .own d=>match a_ m d with
   | some (.sl k es xs)=>some (mS k es xs)
   | _=>none
  | .ptr d o=>match a_ m d with
   | some (.box cs)=>match mO (ig m n) cs with
    | some xs=>if o<=xs.length then some (.fptr (xs.drop o))else none
    | none=>none
   | _=>none
  | .mp d=>match a_ m d with
   | some (.mp B)=>some (.fmap B)
   | _=>none
  | .clo f a b=>(mO (ig m n) a).bind λx=>(mO (ig m n) b).bind λy=>some (.clo f x y)
  | .tup l=>(mO (ig m n) l).bind λx=>some (.tup x)
  | .agg l=>(mO (ig m n) l).bind λx=>some (.agg x)
  | _=>none
theorem w_ (m:Tb bu):∀(n:Nat),(∀x,shut m n x=ig m n x)/\∀l,cQ m n l=mO (ig m n) l:=by
 have w:∀n,(∀x,shut m n x=ig m n x)->∀l,cQ m n l=mO (ig m n) l:=by
  intro n h l
  induction l with
  | nil=>exact Df m n
  | cons a l u=>rw[B5,h a,u];rfl
 intro n
 induction n with
 | zero=>
  have z:∀x,shut m 0 x=ig m 0 x:=by
   intro x;cases x <;> simp[shut,ig] <;> rfl
  grind
 | succ n u=>
  have h1:∀x,shut m (n+1) x=ig m (n+1) x:=by
   intro x
   cases x with
   | ptr d o=>simp[shut,ig,u.2];rfl
   | clo f a b=>rw[OC,u.2,u.2];rfl
   | tup l=>rw[Ox,u.2];rfl
   | agg l=>rw[N2,u.2];rfl
   | _=>simp[shut,ig] <;> rfl
  grind
noncomputable def tU (S:Sys) (c:bS) (dr:Bool):List Nat->List RO->(St->Option β)->St->Option β
 | _,[],k,st=>k st
 | fr,o::r,k,st=>((Ba dr o.pre st).bind (eZ S c dr fr o.strip)).bind λst'=>tU S c dr (if dr then pO fr o.strip else fr) r k (og o.dead st')
theorem C_ (dr:Bool):∀(l:List RO) (fr:List Nat) (k:St->Option β) (st:St),tU S c dr fr l k st=(me S c dr fr l st).bind k
 | [],_,_,_=>rfl
 | o::r,fr,k,st=>by
  simp[tU,me]
  cases (Ba dr o.pre st).bind (eZ S c dr fr o.strip)with
  | none=>rfl
  | some st'=>exact C_ dr r _ k _
noncomputable def n_ (S:Sys) (c:bS):RC->(St->Option β)->(Nat->St->Option β)->(St->Option β)->St->Option β
 | .skip,n,_,_,st=>n st
 | .ops l,n,_,_,st=>tU S c false [] l n st
 | .ru l,n,_,_,st=>tU S c true [] l n st
 | .seq a b,n,x,r,st=>n_ S c a (λst=>n_ S c b n x r st) x r st
 | .cond y a b,n,x,r,st=>match pI S.N st.g y with
  | some (.v (.bool t))=>bp t (n_ S c a n x r st) (n_ S c b n x r st)
  | _=>none
 | .block id a,n,x,r,st=>n_ S c a n (λk st=>if k=id then n st else x k st) r st
 | .loop a,n,x,r,st=>(nu (cu S c a) st).bind λq=>match q with|(.norm,st)=>n st|(.exit k,st)=>x k st|(.ret,st)=>r st
 | .each g ps a b,n,x,r,st=>(cu S c (.each g ps a b) st).bind λq=>match q with|(.norm,st)=>n st|(.exit k,st)=>x k st|(.ret,st)=>r st
 | .exit k,_,x,_,st=>x k st
 | .ret,_,_,r,st=>r st
 | .gh g a,n,x,r,st=>(ghost g st).bind λst=>n_ S c a n x r st
 | .hg a g,n,x,r,st=>n_ S c a (λst=>(ghost g st).bind n) x r st
def CQ (n:St->Option β) (x:Nat->St->Option β) (r:St->Option β):Out×St->Option β
 | (.norm,st)=>n st
 | (.exit k,st)=>x k st
 | (.ret,st)=>r st
theorem Ce:∀(rc:RC) (n:St->Option β) (x:Nat->St->Option β) (r:St->Option β) (st:St),n_ S c rc n x r st=(cu S c rc st).bind (CQ n x r):=by
 intro rc
 induction rc with
 | skip=>intros;rfl
 | ops l=>intro n x r st;simp[n_,cu,C_];cases me S c false [] l st <;> rfl
 | ru l=>intro n x r st;simp[n_,cu,C_];cases me S c true [] l st <;> rfl
 | seq a b u w=>
  intro n x r st;simp[n_,cu,u,w]
  cases h:cu S c a st with
  | none=>rfl
  | some q=>obtain⟨o,st'⟩:=q;cases o <;> rfl
 | cond y a b u w=>
  intro n x r st;simp[n_,cu,u,w]
  cases pI S.N st.g y with
  | none=>rfl
  | some v=>cases v with
   | v z=>cases z with
    | bool t=>cases t <;> rfl
    | _=>rfl
   | _=>rfl
 | block id a A=>
  intro n x r st;simp[n_,cu,A]
  cases h:cu S c a st with
  | none=>rfl
  | some q=>
   obtain⟨o,st'⟩:=q
   cases o with
   | exit k=>simp[CQ];split <;> rfl
   | _=>rfl
 | loop a A=>
  intro n x r st;rfl
 | each g B a b u w=>
  intro n x r st;rfl
 | exit k=>intros;rfl
 | ret=>intros;rfl
 | gh g a A=>
  simp[n_,cu,A]
  grind
 | hg a g A=>
  intro n x r st;simp[n_,cu,A]
  cases h:cu S c a st with
  | none=>rfl
  | some q=>
   obtain⟨o,st'⟩:=q
   cases o with
   | norm=>simp[CQ];cases ghost g st' <;> rfl
   | _=>rfl
section
variable (S c Q)
mutual
noncomputable def lW:List Fm->St->Option β
 | []=>λst=>Q (.norm,st)
 | .seq b::fs=>λst=>n_ S c b (lW fs) (lN fs) (λst=>Q (.ret,st)) st
 | .blk _::fs=>lW fs
 | .gst g::fs=>λst=>(ghost g st).bind (lW fs)
noncomputable def lN:List Fm->Nat->St->Option β
 | []=>λk st=>Q (.exit k,st)
 | .seq _::fs=>lN fs
 | .blk id::fs=>λk st=>if k=id then lW fs st else lN fs k st
 | .gst _::fs=>lN fs
end
noncomputable def jN (rc:RC) (fs:List Fm) (st:St):Option β:=n_ S c rc (lW S c Q fs) (lN S c Q fs) (λst=>Q (.ret,st)) st
end
section
variable {dr:Bool} {fr:List Nat} {d:Nat} {dst:Option Nat} {now:Bool} {az:List Arg} {st:St} {α:Type} [bq α]
theorem Mh {p:tY} {svs:List SV} {m:Option δ} {v:δ->SV} (B:bP S.N st.g az=some svs) (hi:isSlice p=false) (h:iW S.N st.m p svs=m.bind λx=>some (v x)) :
 eZ S c dr fr ⟨dst,none,now,.p p,az,[],[]⟩ st=m.bind λx=>some (cT st dst (v x)):=by
 rw[PC _ _ _ _ _ _ _ hi,B]
 grind
theorem AL {p:tY} {svs:List SV} {v:SV} (B:bP S.N st.g az=some svs) (hi:isSlice p=false) (h:iW S.N st.m p svs=some v) :
 eZ S c dr fr ⟨dst,none,now,.p p,az,[],[]⟩ st=some (cT st dst v):=by
 rw[PC _ _ _ _ _ _ _ hi,B]
 grind
theorem PI {n:Nat} {s:Sl α} {k:IntKind} {i:Int} (B:bP S.N st.g az=some [.v (bQ s),.v (.int k i)]) (D:n=bq.size α) :
 eZ S c dr fr ⟨dst,none,now,.p (.idxS n),az,[],[]⟩ st=(idx s i).bind λx=>some (cT st dst (.v (.fptr (cells x)))):=
 Mh B rfl (by rw[vg,HY s k i n D];grind)
theorem UA {n e:Nat} {s:Sl α} {k:IntKind} {i:Int} (B:bP S.N st.g az=some [.own e,.v (.int k i)]) (D:a_ st.m e=some (cA s)) (G:n=bq.size α) :
 eZ S c dr fr ⟨dst,none,now,.p (.idxS n),az,[],[]⟩ st=(s.rM i).bind λj=>some (cT st dst (.el e j 0)):=
 Mh B rfl (by rw[Qv,D,Rr n e s i G])
theorem PZ {s:Sl α} (B:bP S.N st.g az=some [.v (bQ s)]):eZ S c dr fr ⟨dst,none,now,.p .lenSl,az,[],[]⟩ st=some (cT st dst (.v (.int .i64 s.l.length))):=
 AL B rfl (by rw[Gn,FJ];rfl)
theorem Sw {e:Nat} {s:Sl α} (B:bP S.N st.g az=some [.own e]) (D:a_ st.m e=some (cA s)):eZ S c dr fr ⟨dst,none,now,.p .lenSl,az,[],[]⟩ st=some (cT st dst (.v (.int .i64 s.l.length))):=
 AL B rfl (by rw[OJ,D,Q2])
theorem TL {q:Option KT} {u:Option Nat} {k:IntKind} {a b:Int} (B:bP S.N st.g az=some [.v (.int k a),.v (.int k b)]):eZ S c dr fr ⟨dst,none,now,.p (.bin q u .quo),az,[],[]⟩ st=(zd k a b).bind λx=>some (cT st dst (.v (.int k x))):=
 Mh B rfl (by rw[vg,Td];grind)
theorem QY {u:Option Nat} {s:Sl α} (B:bP S.N st.g az=some [.v (bQ s),.v .bE]):eZ S c dr fr ⟨dst,none,now,.p (.bin (some .slice) u .eql),az,[],[]⟩ st=s.isNil.bind λt=>some (cT st dst (.v (.bool t))):=
 Mh B rfl (by rw[vg,Oo];grind)
theorem NC {s:ByteArray} {k:IntKind} {n:Int} (B:bP S.N st.g az=some [.v (.str s),.v (.int k n)]):eZ S c dr fr ⟨dst,none,now,.p .idxStr,az,[],[]⟩ st=(mU s n).bind λx=>some (cT st dst (.v (.int .u8 x))):=
 Mh B rfl (by rw[vg,Lt];grind)
theorem Tc {n e i o:Nat} {a:Bool} {s:Sl α} {v:α->V} (B:bP S.N st.g az=some [.el e i o]) (hd:(!dr||now||eO fr [.el e i o])=true) (D:a_ st.m e=some (cA s)) (hv:∀x:α,(cut (cells x) o n).bind (mk a)=some (v x)) :
 eZ S c dr fr ⟨dst,none,now,.r (.load n a),az,[],[]⟩ st=(s.get i).bind λx=>some (cT st dst (.v (v x))):=by
 rw[Et,B];simp only[ζb,hd,TM,D,KQ]
 cases s.get i with
 | none=>rfl
 | some x=>
  cases hc:cut (cells x) o n with
  | none=>grind
  | some r=>grind
theorem Ic {n e i:Nat} {s:Sl α} {x:V} {a:α} (B:bP S.N st.g az=some [.el e i 0,.v x]) (hd:(!dr||now)=true) (D:a_ st.m e=some (cA s)) (G:x.cells=cells a) (J:n=bq.size α) :
 eZ S c dr fr ⟨dst,none,now,.l (.store n),az,[],[]⟩ st=(s.put i a).bind λT=>some (cT { st with m:=bH st.m e (cA T) } dst (.v .undef)):=by
 rw[uo,B];simp[hd,J7,D];rw[Ju st.g st.pin st.want st.more st.yid e i n x a G J s]
 grind
theorem Sk {n:Nat} {z:α} {zero:List V} {i:Int} (B:bP S.N st.g az=some [.v (.int .i64 i),.v (.int .i64 i)]) (D:zero=cells z) (G:n=bq.size α) (J:st.new d=true) :
 eZ S c dr fr ⟨some d,none,now,.a (.makeSl n zero),az,[],[]⟩ st=(uU i z).bind λs=>some { st with g:=bH st.g d (.own d),m:=bH st.m d (cA s) }:=by
 rw[BZ,B];simp[J];rw[TQ z i d n zero D G]
 grind
theorem Ul {n e u:Nat} {s:Sl α} {x:α} (G:bP S.N st.g az=some [.own e,.own u]) (hd:(!dr||now)=true) (J:a_ st.m e=some (cA s)) (hu:a_ st.m u=some (cA (.row [x]))) (B:n=bq.size α) (T:St.new { st with m:=dO e st.m } d=true) :
 eZ S c dr fr ⟨some d,none,now,.l (.append n),az,[],[]⟩ st=(fZ s x).bind λD=>some { st with g:=bH st.g d (.own d),m:=bH (dO e st.m) d (cA D) }:=by
 rw[uo,G];simp[hd,yB,CE,J,hu];rw[zM n s B,zM n (.row [x]) B];have:=ME (m:=st.m) st.g st.pin st.want st.more st.yid d n e s.l x B;simp[Sl.P3];rw[this];have w:fZ (.row s.l) x=fZ s x:=by cases s <;> rfl
 rw[w]
 cases fZ s x with
 | none=>rfl
 | some D=>
  simp;rw[if_pos T];rfl
theorem S_ {n u:Nat} {x:α} {v:V} (hv:v=.bE\/v=.dm) (G:bP S.N st.g az=some [.v v,.own u]) (hd:(!dr||now)=true) (hu:a_ st.m u=some (cA (.row [x]))) (B:n=bq.size α) (D:st.new d=true) :
 eZ S c dr fr ⟨some d,none,now,.l (.append n),az,[],[]⟩ st=some { st with g:=bH st.g d (.own d),m:=bH st.m d (cA (.row [x])) }:=by
 rw[uo,G];simp[hd,yB,CE,hu];rw[zM n (.row [x]) B];simp[Sl.P3];rcases hv with rfl|rfl
 .rw[Qh,Lc (m:=st.m) st.g st.pin st.want st.more st.yid d n x B];rw[if_pos D];rfl
 .rw[Ra,L_ (m:=st.m) st.g st.pin st.want st.more st.yid d n x B];rw[if_pos D];rfl
theorem Sn {f:FuncId} {svs args:List SV} {cs:List V} {m:Option δ} {E:δ->List V} (hc:iG c f cs=m.bind λr=>some (E r)) (hk:S.E.keep f=false) (D:bP S.N st.g az=some svs) (G:jZ svs=some (f,args))
 (B:mO (ig st.m 8) args=some cs) (J:((!dr||now)||eN st.m fr args)=true) (hr:∀r,((result (E r)).scalar||(cZ args).isSome)=true) :
 eZ S c dr fr ⟨dst,none,now,.c,az,[],[]⟩ st=m.bind λr=>some (cT st dst (.v (result (E r)))):=by
 rw[uj dr fr dst now az st svs f args D G,Q6 _ _ _ _ _ _ _ hk,(w_ st.m 8).2,B];simp[J,hc]
 cases m with
 | none=>rfl
 | some r=>
  simp[Ms]
  grind
end
end
end Go.VE
namespace Go.VE
variable [bN]
section
variable {S:Sys} {c:bS} {β γ:Type} {Q:Out×St->Option β} {L:Option β} {e:γ->Option β}
theorem nV (rc:RC) (st:St):jN S c Q rc [] st=(cu S c rc st).bind Q:=by
 unfold jN;rw[Ce]
 congr 1
 funext q;obtain⟨o,st⟩:=q
 cases o <;> rfl
theorem zN (rc:RC) (st:St):cu S c rc st=jN S c some rc [] st:=by
 rw[nV];cases cu S c rc st <;> rfl
def nk (rs:List RV):Out×St->Option (List V)
 | (.exit _,_)=>none
 | (_,st)=>(jB st rs).bind (mO (ig st.m 8))
theorem Q1 (rs:List RV):Fq rs=nk rs:=by
 funext q;obtain⟨o,st⟩:=q
 cases o
 .simp only[Fq,nk];congr 1;funext l;exact(w_ st.m 8).2 l
 .rfl
 .simp only[Fq,nk];congr 1;funext l;exact(w_ st.m 8).2 l
theorem RM {S:Sys} {T:pF} {f:FuncId} {rf:RF} (B:T f=some rf) (az:List V) (D:az.length<=rf.na):iG (cU S T) f az=jN S (cU S T) (nk rf.rs) rf.body [] (start (az.map .v) []):=by
 rw[Oz B az D,<-GJ,nV,Q1]
end
end Go.VE
namespace Go.VE
variable [bN]
def jC {α σ ε ρ:Type} (step:α->σ->Option (Fw σ ε ρ)):List α->σ->Option (Fw σ ε ρ)
 | [],s=>some (.n s)
 | x::xs,s=>(step x s).bind λw=>match w with
  | .n B=>jC step xs B
  | .x e=>some (.x e)
  | .r b=>some (.r b)
def Fw.o5 {ν ε ρ γ:Type} (fn:ν->γ) (B:ε->γ) (fr:ρ->γ):Fw ν ε ρ->γ
 | .n a=>fn a
 | .x e=>B e
 | .r b=>fr b
def Fw.vj {ν ε ρ:Type} (D:ν->Tb bu) (B:ε->Nat×Tb bu) (G:ρ->Tb bu):Fw ν ε ρ->Out×Tb bu
 | .n a=>(.norm,D a)
 | .x e=>(.exit (B e).1,(B e).2)
 | .r b=>(.ret,G b)
def vj (q:Out×St):Option (Out×Tb bu):=some (q.1,q.2.m)
section
variable {S:Sys} {c:bS} {β γ:Type} {Q:Out×St->Option β} {L:Option β} {e:γ->Option β}
noncomputable def xm (S:Sys) (c:bS) (b:RC):Out×St->Option (Out×Tb bu)
 | (.norm,st)=>jN S c vj b [] st
 | _=>none
theorem Jt (ps:List Nat) (a b:RC) (st:St) (x:List V) (m:Tb bu) (B:x.length=ps.length) :
 hG ps (cu S c a) (cu S c b) st x m=jN S c (xm S c b) a [] ⟨vz st.g ps (x.map .v),m,st.pin++oA st.g,[],true,0⟩:=by
 unfold hG;rw[if_pos B,nV]
 cases cu S c a ⟨vz st.g ps (x.map .v),m,st.pin++oA st.g,[],true,0⟩with
 | none=>rfl
 | some q=>
  obtain⟨o,u⟩:=q
  cases o with
  | norm=>
   simp only[ζb,xm];rw[nV];cases cu S c b u <;> rfl
  | _=>rfl
end
end Go.VE
namespace Go.VE
variable [bN]
def Le {α:Type} (a b:Option α):Prop:=∀r,a=some r->b=some r
section
variable {α:Type}
theorem Le.refl (a:Option α):Le a a:=λ_ h=>h
theorem Le.of_eq {a b:Option α} (h:b=a):Le a b:=λ_ u=>h.trans u
theorem Le.trans {a b d:Option α} (h1:Le a b) (B:Le b d):Le a d:=λr h=>B r (h1 r h)
theorem Le.none (b:Option α):Le (none:Option α) b:=λr h=>by cases h
theorem Le.bind {β:Type} {a b:Option α} {f g:α->Option β} (h:Le a b) (B:∀x,Le (f x) (g x)):Le (a.bind f) (b.bind g):=λr hr=>by
 obtain⟨x,h1,u⟩:=ζg.1 hr;rw[h x h1];exact B x r u
end
section
variable {S:Sys} {c:bS} {β γ δ:Type} {Q:Out×St->Option β} {L:Option β} {e:γ->Option β}
theorem GL {dr:Bool} {fr:List Nat} {dst:Option Nat} {now:Bool} {az:List Arg} {st:St} {f:FuncId} {svs args:List SV} {cs:List V} {m:Option δ} {E:δ->List V} (hc:Le (m.bind λr=>some (E r)) (iG c f cs)) (hk:S.E.keep f=false) (D:bP S.N st.g az=some svs) (G:jZ svs=some (f,args))
 (B:mO (ig st.m 8) args=some cs) (J:((!dr||now)||eN st.m fr args)=true) (hr:∀r,((result (E r)).scalar||(cZ args).isSome)=true) :
 Le (m.bind λr=>some (cT st dst (.v (result (E r))))) (eZ S c dr fr ⟨dst,none,now,.c,az,[],[]⟩ st):=by
 intro q w;obtain⟨r,h1,z⟩:=ζg.1 w;have u:iG c f cs=(some r).bind λr=>some (E r):=hc _ (by rw[h1];rfl)
 rw[Sn (m:=some r) u hk D G B J hr];exact z
theorem NT {σ ε ρ:Type} {f:St->Option (Out×St)} {step:σ->Option (Fw σ ε ρ)} {B:σ->St} {D:ε->Nat×St} {G:ρ->St} (h:∀s,Le ((step s).bind λw=>some (Fw.out B D G w)) (f (B s))) (s:σ) :
 Le ((cE step s).bind λw=>some (Fw.out (λe=>Empty.elim e) D G w)) (nu f (B s)):=by
 have key:∀k s r,kB step k s=some r->iH f k (B s)=some (Fw.out (λe=>Empty.elim e) D G r):=by
  intro k
  induction k with
  | zero=>intro s r h;simp[kB]at h
  | succ k C=>
   intro s r u;simp only[kB]at u
   cases z:step s with
   | none=>rw[z]at u;cases u
   | some w=>
    rw[z]at u;have A:=h s (Fw.out B D G w) (by rw[z];rfl)
    simp only[iH,A]
    cases w with
    | n a=>exact C a r u
    | x e=>cases u;rfl
    | r b=>cases u;rfl
 intro r hr;obtain⟨w,h1,A⟩:=ζg.1 hr;obtain⟨k,hk⟩:=oG.1 h1;cases A;exact lR.2 ⟨k,key k s w hk⟩
theorem T5 {σ ε ρ:Type} {a:RC} {fs:List Fm} {step:σ->Option (Fw σ ε ρ)} {B:σ->St} {D:ε->Nat×St} {G:ρ->St} {s:σ} {J:ε->Option γ} {fr:ρ->Option γ}
 (T:L=jN S c Q (.loop a) fs (B s)) (h:∀s,Le ((step s).bind λw=>some (Fw.out B D G w)) (jN S c some a [] (B s)))
 (U:∀x,Le ((J x).bind e) (lN S c Q fs (D x).1 (D x).2)) (hr:∀b,Le ((fr b).bind e) (Q (.ret,G b))):Le (((cE step s).bind (Fw.elim J fr)).bind e) L:=by
 subst T;have h1:jN S c Q (.loop a) fs (B s)=(nu (cu S c a) (B s)).bind (CQ (lW S c Q fs) (lN S c Q fs) (λst=>Q (.ret,st))):=by
  unfold jN;rw[Ce];rfl
 rw[h1];have u:=NT (step:=step) (f:=cu S c a) (B:=B) (D:=D) (G:=G) (λs=>by rw[zN];exact h s) s
 cases z:cE step s with
 | none=>exact Le.none _
 | some w=>
  have A:=u _ (by rw[z];rfl)
  rw[A]
  cases w with
  | n a=>cases a
  | x a=>exact U a
  | r a=>exact hr a
theorem Gk {α σ ε ρ:Type} {f:List V->Tb bu->Option (Out×Tb bu)} {step:α->σ->Option (Fw σ ε ρ)} {eI:α->List V} {B:σ->Tb bu} {D:ε->Nat×Tb bu} {G:ρ->Tb bu}
 (h:∀x s,Le ((step x s).bind λw=>some (Fw.vj B D G w)) (f (eI x) (B s))):∀(xs:List α) (s:σ),Le ((jC step xs s).bind λw=>some (Fw.vj B D G w)) (oV f (xs.map eI) (B s))
 | [],s=>λr hr=>hr
 | x::xs,s=>by
  simp only[List.map_cons,oV,jC]
  cases J:step x s with
  | none=>exact Le.none _
  | some w=>
   have T:=h x s (Fw.vj B D G w) (by rw[J];rfl)
   rw[T]
   cases w with
   | n u=>simp only[ζb,Fw.vj];exact Gk h xs u
   | x e=>exact Le.refl _
   | r b=>exact Le.refl _
theorem Uq {α σ ε ρ:Type} {g:Arg} {ps:List Nat} {a b:RC} {fs:List Fm} {f:FuncId} {x y:List V} {items:List α} {eI:α->List V} {step:α->σ->Option (Fw σ ε ρ)} {B:σ->Tb bu} {D:ε->Nat×Tb bu} {G:ρ->Tb bu} {gt:Tb SV} {s:σ}
 {fn:σ->Option γ} {J:ε->Option γ} {fr:ρ->Option γ}
 (T:L=jN S c Q (.each g ps a b) fs ⟨gt,B s,[],[],true,0⟩) (hg:pI S.N gt g=some (.v (.clo f x y))) (hi:S.items f x y=some (items.map eI)) (U:∀x,(eI x).length=ps.length)
 (h:∀x s,Le ((step x s).bind λw=>some (Fw.vj B D G w)) (jN S c (xm S c b) a [] ⟨vz gt ps ((eI x).map .v),B s,oA gt,[],true,0⟩))
 (W:∀s,Le ((fn s).bind e) (lW S c Q fs ⟨gt,B s,[],[],true,0⟩))
 (Y:∀x,Le ((J x).bind e) (lN S c Q fs (D x).1 ⟨gt,(D x).2,[],[],true,0⟩)) (hr:∀b,Le ((fr b).bind e) (Q (.ret,⟨gt,G b,[],[],true,0⟩))) :
 Le (((jC step items s).bind (Fw.o5 fn J fr)).bind e) L:=by
 subst T;have h1:jN S c Q (.each g ps a b) fs ⟨gt,B s,[],[],true,0⟩=(cu S c (.each g ps a b) ⟨gt,B s,[],[],true,0⟩).bind (CQ (lW S c Q fs) (lN S c Q fs) (λst=>Q (.ret,st))):=by
  unfold jN;rw[Ce]
 rw[h1];simp only[cu,hg,hi];have u:=Gk (step:=step) (f:=hG ps (cu S c a) (cu S c b) ⟨gt,B s,[],[],true,0⟩) (eI:=eI) (B:=B) (D:=D) (G:=G) (λx s=>by rw[Jt _ _ _ _ _ _ (U x)];exact h x s) items s
 cases z:jC step items s with
 | none=>exact Le.none _
 | some w=>
  have A:=u _ (by rw[z];rfl)
  rw[A]
  cases w with
  | n a=>exact W a
  | x a=>exact Y a
  | r a=>exact hr a
end
end Go.VE
namespace Go.VE
variable [bN]
inductive Fo where
 | rc (c:RC)
 | ops (dr:Bool) (fr:List Nat) (l:List RO)
 | nx
 | ex (k:Nat)
 | rt
abbrev cK (g:Tb SV) (m:Tb bu):St:=⟨g,m,[],[],true,0⟩
section
variable (S:Sys) (c:bS) {β:Type} (Q:Out×St->Option β)
noncomputable def rn:Fo->List Fm->St->Option β
 | .rc a,fs,st=>jN S c Q a fs st
 | .ops dr fr l,fs,st=>tU S c dr fr l (lW S c Q fs) st
 | .nx,fs,st=>lW S c Q fs st
 | .ex k,fs,st=>lN S c Q fs k st
 | .rt,_,st=>Q (.ret,st)
noncomputable def xY:Fo->List Fm->St->Option (Fo×List Fm×St)
 | .rc .skip,fs,st=>some (.nx,fs,st)
 | .rc (.ops l),fs,st=>some (.ops false [] l,fs,st)
 | .rc (.ru l),fs,st=>some (.ops true [] l,fs,st)
 | .rc (.seq a b),fs,st=>some (.rc a,.seq b::fs,st)
 | .rc (.cond y a b),fs,st=>match pI S.N st.g y with
  | some (.v (.bool true))=>some (.rc a,fs,st)
  | some (.v (.bool false))=>some (.rc b,fs,st)
  | _=>none
 | .rc (.block id a),fs,st=>some (.rc a,.blk id::fs,st)
 | .rc (.exit k),fs,st=>some (.ex k,fs,st)
 | .rc .ret,fs,st=>some (.rt,fs,st)
 | .rc (.gh g a),fs,st=>match ghost g st with
  | some st'=>some (.rc a,fs,st')
  | none=>none
 | .rc (.hg a g),fs,st=>some (.rc a,.gst g::fs,st)
 | .rc (.loop _),_,_=>none
 | .rc (.each ..),_,_=>none
 | .ops _ _ [],fs,st=>some (.nx,fs,st)
 | .ops dr fr (⟨d,gd,now,k,az,dd,[]⟩::r),fs,st=>match eZ S c dr fr ⟨d,gd,now,k,az,[],[]⟩ st with
  | some st'=>some (.ops dr (if dr then pO fr ⟨d,gd,now,k,az,[],[]⟩else fr) r,fs,og dd st')
  | none=>none
 | .ops dr fr (⟨d,gd,now,k,az,dd,x::xs⟩::r),fs,st=>if dr && !(zh x&&xs.all zh)then none else match ghost x st with
  | some st'=>some (.ops dr fr (⟨d,gd,now,k,az,dd,xs⟩::r),fs,st')
  | none=>none
 | .nx,.seq b::fs,st=>some (.rc b,fs,st)
 | .nx,.blk _::fs,st=>some (.nx,fs,st)
 | .nx,.gst g::fs,st=>match ghost g st with
  | some st'=>some (.nx,fs,st')
  | none=>none
 | .nx,[],_=>none
 | .ex k,.seq _::fs,st=>some (.ex k,fs,st)
 | .ex k,.blk id::fs,st=>some (if k=id then .nx else .ex k,fs,st)
 | .ex k,.gst _::fs,st=>some (.ex k,fs,st)
 | .ex _,[],_=>none
 | .rt,_,_=>none
noncomputable def gE:Nat->Fo->List Fm->St->Option (Fo×List Fm×St)
 | 0,fo,fs,st=>some (fo,fs,st)
 | n+1,fo,fs,st=>match xY S c fo fs st with
  | some (fo',fs',st')=>gE n fo' fs' st'
  | none=>none
end
section
variable {S:Sys} {c:bS} {β γ δ:Type} {Q:Out×St->Option β} {e:γ->Option β}
theorem Oi {fo fo':Fo} {fs fs':List Fm} {st st':St} (h:xY S c fo fs st=some (fo',fs',st')):rn S c Q fo fs st=rn S c Q fo' fs' st':=by
 cases fo with
 | rc a=>
  cases a with
  | cond y a b=>
   simp only[xY]at h;split at h
   .rename_i u;cases h;simp only[rn,jN,n_,u,bp,if_true]
   .rename_i u;cases h;simp only[rn,jN,n_,u,bp];rfl
   .cases h
  | gh g a=>
   simp only[xY]at h;split at h
   .rename_i u;cases h;simp only[rn,jN,n_,u,ζb]
   .cases h
  | loop a=>cases h
  | each g w a b=>cases h
  | seq a b=>cases h;simp only[rn,jN,n_,lW,lN]
  | block id a=>cases h;simp only[rn,jN,n_,lW,lN]
  | hg a g=>cases h;simp only[rn,jN,n_,lW,lN]
  | _=>cases h;simp only[rn,jN,n_]
 | ops dr fr l=>
  cases l with
  | nil=>cases h;simp only[rn,tU]
  | cons o r=>
   obtain⟨d,gd,now,k,az,dd,pre⟩:=o
   cases pre with
   | nil=>
    simp only[xY]at h;split at h
    .rename_i u;cases h;simp only[rn,tU,A7,RO.strip,ζb,u]
    .cases h
   | cons x z=>
    simp only[xY]at h;split at h
    .cases h
    rename_i hd;split at h
    .rename_i u;cases h
     cases dr with
     | true=>
      simp only[Bool.true_and,Bool.not_eq_true',Bool.not_eq_false,ζh]at hd;simp only[rn,tU,RO.strip,Ba,nK,if_true,List.all_cons,hd.1,hd.2,Bool.and_self,u,ζb]
     | false=>simp only[rn,tU,RO.strip,Ba,nK,Bool.false_eq_true,if_false,u,ζb]
    .cases h
 | nx=>
  cases fs with
  | nil=>cases h
  | cons f fs=>
   cases f with
   | seq b=>cases h;simp only[rn,jN,lW]
   | blk id=>cases h;simp only[rn,lW]
   | gst g=>
    simp only[xY]at h;split at h
    .rename_i u;cases h;simp only[rn,lW,u,ζb]
    .cases h
 | ex k=>
  cases fs with
  | nil=>cases h
  | cons f fs=>
   cases f with
   | seq b=>cases h;simp only[rn,lN]
   | blk id=>
    cases h;simp only[rn,lN]
    by_cases hk:k=id
    .simp only[if_pos hk,rn]
    .simp only[if_neg hk,rn]
   | gst g=>cases h;simp only[rn,lN]
 | rt=>cases h
theorem nJ:∀{n:Nat} {fo fo':Fo} {fs fs':List Fm} {st st':St},gE S c n fo fs st=some (fo',fs',st')->rn S c Q fo fs st=rn S c Q fo' fs' st'
 | 0,fo,fo',fs,fs',st,st',h=>by cases h;rfl
 | n+1,fo,fo',fs,fs',st,st',h=>by
  simp only[gE]at h;split at h
  .rename_i a b d B;rw[Oi B];exact nJ h
  .cases h
theorem zo {n:Nat} {fo fo':Fo} {fs fs':List Fm} {st st':St} {m:Option β} (h:gE S c n fo fs st=some (fo',fs',st')) (B:Le m (rn S c Q fo' fs' st')):Le m (rn S c Q fo fs st):=by
 rw[nJ h];exact B
theorem Vh {n:Nat} {fo fo':Fo} {fs fs':List Fm} {st st':St} {r:γ} (h:gE S c n fo fs st=some (fo',fs',st')) (B:rn S c Q fo' fs' st'=e r):Le ((some r).bind e) (rn S c Q fo fs st):=by
 rw[nJ h];exact Le.of_eq B
theorem Po {m:Option δ} {f:δ->Option γ} {L:Option β} (k:δ->Option β) (B:Le (m.bind k) L) (h1:∀r,Le ((f r).bind e) (k r)):Le ((m.bind f).bind e) L:=by
 intro r hr
 cases m with
 | none=>cases hr
 | some x=>exact B r (h1 x r hr)
theorem U7 {n:Nat} {fo:Fo} {fs fs':List Fm} {st0:St} {dr:Bool} {q l:List RO} {fr:List Nat} {st:St} {d:Option Nat} {gd:Option (Nat×Bool)} {now:Bool} {k:K} {az:List Arg} {dd:List Nat} {m:Option δ} {g:δ->St} {f:δ->Option γ}
 (B:gE S c n fo fs st0=some (.ops dr fr q,fs',st)) (D:q=⟨d,gd,now,k,az,dd,[]⟩::l) (hg:wanted st.g gd=some true)
 (G:Le (m.bind λx=>some (g x)) (eZ S c dr fr ⟨d,none,now,k,az,[],[]⟩ st))
 (h:∀x,m=some x->Le ((f x).bind e) (rn S c Q (.ops dr (if dr then pO fr ⟨d,gd,now,k,az,[],[]⟩else fr) l) fs' (og dd (g x)))):Le ((m.bind f).bind e) (rn S c Q fo fs st0):=by
 rw[nJ B];subst D;simp only[rn,tU,RO.strip,A7,ζb];rw[L0 hg]
 cases m with
 | none=>exact Le.none _
 | some x=>rw[G (g x) rfl];exact h x rfl
theorem Pq {n:Nat} {fo:Fo} {fs fs':List Fm} {st0:St} {dr:Bool} {q l:List RO} {fr:List Nat} {st st':St} {d:Option Nat} {gd:Option (Nat×Bool)} {now:Bool} {k:K} {az:List Arg} {dd:List Nat} {m:Option β}
 (B:gE S c n fo fs st0=some (.ops dr fr q,fs',st)) (D:q=⟨d,gd,now,k,az,dd,[]⟩::l) (hg:wanted st.g gd=some true)
 (G:eZ S c dr fr ⟨d,none,now,k,az,[],[]⟩ st=some st')
 (h:Le m (rn S c Q (.ops dr (if dr then pO fr ⟨d,gd,now,k,az,[],[]⟩else fr) l) fs' (og dd st'))):Le m (rn S c Q fo fs st0):=by
 rw[nJ B];subst D;simp only[rn,tU,RO.strip,A7,ζb];rw[L0 hg,G];exact h
theorem Lq {n:Nat} {fo:Fo} {B:List Fm} {st:St} {σ ε ρ:Type} {a:RC} {fs:List Fm} {step:σ->Option (Fw σ ε ρ)} {D:σ->St} {G:ε->Nat×St} {J:ρ->St} {s:σ} {T:ε->Option γ} {fr:ρ->Option γ}
 (U:gE S c n fo B st=some (.rc (.loop a),fs,D s)) (h:∀s,Le ((step s).bind λw=>some (Fw.out D G J w)) (rn S c some (.rc a) [] (D s)))
 (W:∀x,Le ((T x).bind e) (rn S c Q (.ex (G x).1) fs (G x).2)) (hr:∀b,Le ((fr b).bind e) (Q (.ret,J b))):Le (((cE step s).bind (Fw.elim T fr)).bind e) (rn S c Q fo B st):=by
 rw[nJ U];exact T5 (L:=rn S c Q (.rc (.loop a)) fs (D s)) rfl h W hr
theorem S6 {n:Nat} {fo:Fo} {B:List Fm} {st:St} {α σ ε ρ:Type} {g:Arg} {ps:List Nat} {a b:RC} {fs:List Fm} {f:FuncId} {x y:List V} {items:List α} {eI:α->List V} {step:α->σ->Option (Fw σ ε ρ)} {D:σ->Tb bu} {G:ε->Nat×Tb bu} {J:ρ->Tb bu} {gt:Tb SV} {s:σ}
 {fn:σ->Option γ} {T:ε->Option γ} {fr:ρ->Option γ}
 (U:gE S c n fo B st=some (.rc (.each g ps a b),fs,cK gt (D s))) (hg:pI S.N gt g=some (.v (.clo f x y))) (hi:S.items f x y=some (items.map eI)) (W:∀x,(eI x).length=ps.length)
 (h:∀x s,Le ((step x s).bind λw=>some (Fw.vj D G J w)) (rn S c (xm S c b) (.rc a) [] ⟨vz gt ps ((eI x).map .v),D s,oA gt,[],true,0⟩))
 (Y:∀s,Le ((fn s).bind e) (rn S c Q .nx fs (cK gt (D s))))
 (hx:∀x,Le ((T x).bind e) (rn S c Q (.ex (G x).1) fs (cK gt (G x).2))) (hr:∀b,Le ((fr b).bind e) (Q (.ret,cK gt (J b)))) :
 Le (((jC step items s).bind (Fw.o5 fn T fr)).bind e) (rn S c Q fo B st):=by
 rw[nJ U];exact Uq (L:=rn S c Q (.rc (.each g ps a b)) fs (cK gt (D s))) rfl hg hi W h Y hx hr
theorem SM {b:RC} {st st':St} {m:Option (Out×Tb bu)} {fs:List Fm} {n:Nat} {fo:Fo} (h:gE S c n fo fs st=some (.nx,[],st')) (B:Le m (rn S c vj (.rc b) [] st')):Le m (rn S c (xm S c b) fo fs st):=by
 rw[nJ h];exact B
theorem TX {α:Type} {n:Nat} {fo fo':Fo} {fs fs':List Fm} {st:St} {A:Option α->St} {o:Option α} {f:α->Option γ} (h:gE S c n fo fs st=some (fo',fs',A o))
 (B:∀x,o=some x->Le ((f x).bind e) (rn S c Q fo' fs' (A (some x)))):Le ((o.bind f).bind e) (rn S c Q fo fs st):=by
 rw[nJ h]
 cases o with
 | none=>exact Le.none _
 | some x=>exact B x rfl
theorem U9 {T:pF} {f:FuncId} {rf:RF} {az:List V} {m:Option (List V)} (B:T f=some rf) (D:az.length<=rf.na) (h:Le m (rn S (cU S T) (nk rf.rs) (.rc rf.body) [] (start (az.map .v) []))):Le m (iG (cU S T) f az):=by
 rw[RM B az D];exact h
end
section
variable {α:Type} [bq α]
abbrev cv (x:α):SV:=.v (enc x)
abbrev cp (x:α):SV:=.v (.fptr (cells x))
abbrev bx (x:α):bu:=.box ((cells x).map .v)
end
end Go.VE
namespace Go.VE
variable [bN]
structure fK (S:Sys) (c:bS) {α δ:Type} (fn:FuncId) (A:α->List V) (E:δ->List V) (p:α->Option δ) (sc:Bool):Prop where
 k:S.E.keep fn=false
 h:∀z,Le ((p z).bind λr=>some (E r)) (iG c fn (A z))
 s:sc=true->∀r,(result (E r)).scalar=true
section
variable {S:Sys} {c:bS} {β γ δ α:Type} {Q:Out×St->Option β} {e:γ->Option β} {fo:Fo} {fs:List Fm} {st0:St} {l:List RO} {d:Option Nat} {gd:Option (Nat×Bool)} {now:Bool} {az:List Arg} {dd:List Nat}
noncomputable abbrev rP (S:Sys) (c:bS) (Q:Out×St->Option β) (dr:Bool) (fr:List Nat) (d:Option Nat) (k:K) (l:List RO) (fs:List Fm) (dd:List Nat) (st:St):Option β:=
 rn S c Q (.ops dr (if dr then(match k with|.p _|.r _=>fr|_=>match d with|some d=>d::fr|none=>fr)else fr) l) fs (og dd st)
theorem Dr (fr:List Nat) (k:K):pO fr ⟨d,gd,now,k,az,[],[]⟩=(match k with|.p _|.r _=>fr|_=>match d with|some d=>d::fr|none=>fr):=by
 cases k <;> cases d <;> rfl
theorem CB {n:Nat} {dr:Bool} {fr:List Nat} {q:List RO} {fs':List Fm} {st:St} {k:K} {m:Option δ} {g:δ->St} {f:δ->Option γ}
 (B:gE S c n fo fs st0=some (.ops dr fr q,fs',st)) (D:q=⟨d,gd,now,k,az,dd,[]⟩::l) (hg:wanted st.g gd=some true)
 (G:Le (m.bind λx=>some (g x)) (eZ S c dr fr ⟨d,none,now,k,az,[],[]⟩ st))
 (h:∀x,m=some x->Le ((f x).bind e) (rP S c Q dr fr d k l fs' dd (g x))):Le ((m.bind f).bind e) (rn S c Q fo fs st0):=
 U7 B D hg G (λx u=>by rw[Dr];grind)
theorem p_ {n:Nat} {dr:Bool} {fr:List Nat} {q:List RO} {fs':List Fm} {st st':St} {k:K} {m:Option β}
 (B:gE S c n fo fs st0=some (.ops dr fr q,fs',st)) (D:q=⟨d,gd,now,k,az,dd,[]⟩::l) (hg:wanted st.g gd=some true)
 (G:eZ S c dr fr ⟨d,none,now,k,az,[],[]⟩ st=some st') (h:Le m (rP S c Q dr fr d k l fs' dd st')):Le m (rn S c Q fo fs st0):=
 Pq B D hg G (by rw[Dr];omega)
section
variable [bq α]
theorem NH (n:Nat) (dr:Bool) (fr:List Nat) (q:List RO) (fs':List Fm) (st:St) (k:IntKind) {sz:Nat} {s:Sl α} {i:Int} {f:α->Option γ} (D:q=⟨d,gd,now,.p (.idxS sz),az,dd,[]⟩::l)
 (B:(gE S c n fo fs st0,wanted st.g gd,bP S.N st.g az,sz)=(some (.ops dr fr q,fs',st),some true,some [.v (bQ s),.v (.int k i)],bq.size α))
 (h:∀x,idx s i=some x->Le ((f x).bind e) (rP S c Q dr fr d (.p (.idxS sz)) l fs' dd (cT st d (cp x)))):Le (((idx s i).bind f).bind e) (rn S c Q fo fs st0):=by
 simp  at B;exact CB B.1 D B.2.1 (Le.of_eq (PI B.2.2.1 B.2.2.2)) h
theorem SA (n:Nat) (dr:Bool) (fr:List Nat) (q:List RO) (fs':List Fm) (st:St) (s:Sl α) {m:Option β} (D:q=⟨d,gd,now,.p .lenSl,az,dd,[]⟩::l)
 (B:(gE S c n fo fs st0,wanted st.g gd,bP S.N st.g az)=(some (.ops dr fr q,fs',st),some true,some [.v (bQ s)]))
 (h:Le m (rP S c Q dr fr d (.p .lenSl) l fs' dd (cT st d (.v (.int .i64 s.l.length))))):Le m (rn S c Q fo fs st0):=by
 simp  at B;exact p_ B.1 D B.2.1 (PZ B.2.2) h
end
section
variable {q:List RO} {fs':List Fm}
end
theorem Gm (m:Tb bu) (n:Nat) (l:List V):mO (ig m n) (l.map .v)=some l:=by rw[<-(w_ m n).2,tu]
variable {A:α->List V} {E:δ->List V} {p:α->Option δ} {fn:FuncId} {sc:Bool}
end
end Go.VE
namespace Go.VE
variable [bN]
abbrev iv (n:Int):SV:=.v (.int .i64 n)
abbrev bv (b:Bool):SV:=.v (.bool b)
abbrev len {α:Type} (s:Sl α):Int:=((List.length (Sl.l s):Nat):Int)
abbrev o1 (d:Nat) (a:Arg) (dd:List Nat):RO:=⟨some d,none,false,.p .id,[a],dd,[]⟩
abbrev o2 (d:Nat) (k:K) (az:List Arg) (dd:List Nat):RO:=⟨some d,none,false,k,az,dd,[]⟩
abbrev o3 (d s:Nat) (b:Bool) (k:K) (az:List Arg) (dd:List Nat):RO:=⟨some d,some (s,b),false,k,az,dd,[]⟩
def SD (a b:aY):Bool:=[a.proc,a.index]==[b.proc,b.index]
section
variable {α:Type} [bq α]
theorem tc (h:bq.agg α=false) (a:α):cells a=[enc a]:=by
 have u:(cells a).length=1:=by rw[show (cells a).length=_ from bq.len a,bq.plain h]
 unfold enc;rw[if_neg (by simp[h])]
 match hc:cells a,u with
 | [x],_=>rfl
theorem Ah (h:bq.agg α=true) (a:α):enc a=.agg (cells a):=by unfold enc;grind
theorem jI (a:α):V.good (enc a)=true:=by
 have h:V.cD (cells a)=true:=bq.good a
 cases u:bq.agg α with
 | true=>rw[Ah u];exact h
 | false=>
  rw[tc u]at h;simp[V.cD]at h;omega
theorem l_ (s:Sl α):V.one (enc s)=true:=DB s
theorem Nd (s:α) (h:bq.agg α=false):V.one (enc s)=true:=by
 have:=bq.one s;rw[show bq.cells s=cells s from rfl,tc h]at this
 grind
end
instance {α:Type} [bq α]:bq (Option α) where
 cells o:=[match o with|none=>.gF|some x=>.fptr (cells x)]
 agg:=false
 size:=1
 len _:=rfl
 good o:=by
  cases o with
  | none=>rfl
  | some x=>simp only[V.cD,V.good,Bool.and_true];exact bq.good x
 one o:=by cases o <;> rfl
 plain _:=rfl
structure U8 where
 v:Int
 deriving Inhabited,DecidableEq
instance:bq U8 where
 cells n:=[.int .u8 n.v]
 agg:=false
 size:=1
 len _:=rfl
 good _:=rfl
 one _:=rfl
 plain _:=rfl
structure VI where
 v:Int
 deriving Inhabited,DecidableEq
instance:bq VI where
 cells n:=[.int .u64 n.v]
 agg:=false
 size:=1
 len _:=rfl
 good _:=rfl
 one _:=rfl
 plain _:=rfl
structure Vv where
 v:Int
 deriving Inhabited,DecidableEq
instance:bq Vv where
 cells n:=[.int .u32 n.v]
 agg:=false
 size:=1
 len _:=rfl
 good _:=rfl
 one _:=rfl
 plain _:=rfl
structure Vu where
 v:Int
 deriving Inhabited,DecidableEq
instance:bq Vu where
 cells n:=[.int .i32 n.v]
 agg:=false
 size:=1
 len _:=rfl
 good _:=rfl
 one _:=rfl
 plain _:=rfl
structure kC (S:Sys) (c:bS) {α δ:Type} (g:FuncId) (w e:List V) (A:α->List V) (R:δ->List V) (p:α->Option δ) (b:Bool):Prop where
 f:fK S c g (λz=>w++A z++e) R p b
section
variable {S:Sys} {c:bS} {β γ δ α:Type} {Q:Out×St->Option β} {e:γ->Option β} {fo:Fo} {fs:List Fm} {st0:St} {l:List RO} {d:Option Nat} {gd:Option (Nat×Bool)} {now:Bool} {az:List Arg} {dd:List Nat}
theorem iS {α:Type} [bq α] (a:α):V.cells (enc a)=cells a:=by
 cases u:bq.agg α with
 | true=>rw[Ah u];rfl
 | false=>
  have h1  := Nd a u;rw[tc u];cases h:enc a <;> first|rfl|(rw[h]at h1;cases h1)
theorem sE {α:Type} [bq α] (a:α):(cells a).all V.one=true:=bq.one a
theorem gx {α:Type} [bq α] (a:α):(cells a).length=bq.size α:=bq.len a
theorem Ast [bq α] (n:Nat) (dr:Bool) (fr:List Nat) (q:List RO) (fs':List Fm) (st:St) (u o:Nat) (x:α) (cs B:List SV) {sz:Nat} {m:Option β} (G:q=⟨d,gd,now,.l (.store sz),az,dd,[]⟩::l)
 (D:(gE S c n fo fs st0,wanted st.g gd,bP S.N st.g az,a_ st.m u,(!dr||now),sz,Nat.ble (o+sz) cs.length,cs.take o++(cells x).map .v++cs.drop (o+sz))=(some (.ops dr fr q,fs',st),some true,some [.ptr u o,cv x],some (.box cs),true,bq.size α,true,B))
 (h:Le m (rP S c Q dr fr d (.l (.store sz)) l fs' dd (cT { st with m:=bH st.m u (.box B) } d (.v .undef)))):Le m (rn S c Q fo fs st0):=by
 simp only[ζc]at D;obtain⟨h1,w,z,A,C,I,J,L⟩:=D;refine p_ h1 G w ?_ h;rw[uo,z];subst I;have O:=Nat.le_of_ble_eq_true J;simp only[ζb,C,if_true,lC,A,putCells,iS,gx,sE,O,and_self,L,Option.map_some]
theorem zC {α:Type} [bq α]:∀(xs:List α) (pre:List (List V)) (B:List (List V)),B.length=xs.length->gL (bq.size α) (pre++B) ((List.range' pre.length xs.length).zip (xs.map enc))=some (pre++rows xs)
 | [],pre,B,h=>by
  have  := List.eq_nil_of_length_eq_zero h;subst this;rfl
 | x::xs,pre,s::B,h=>by
  simp only[List.length_cons,List.range'_succ,List.map_cons,List.zip_cons_cons,gL,iS,gx,sE];have:=zC xs (pre++[cells x]) B (by grind)
  simp only[ζi,List.length_cons,List.length_nil]at this;have e:(pre++s::B).set pre.length (cells x)=pre++[cells x]++B:=by simp
  rw[e,this];simp[rows]
theorem VA [bq α] (n:Nat) (dr:Bool) (fr:List Nat) (q:List RO) (fs':List Fm) (st:St) (xs:List α) {u sz ln:Nat} {zero:List V} {ix:List Nat} {m:Option β} (D:q=⟨some u,gd,now,.a (.buildSl sz ln zero ix),az,dd,[]⟩::l)
 (G:st.new u=true) (B:(gE S c n fo fs st0,wanted st.g gd,bP S.N st.g az,sz,ln,ix)=(some (.ops dr fr q,fs',st),some true,some ((xs.map enc).map .v),bq.size α,xs.length,List.range' 0 xs.length))
 (h:Le m (rP S c Q dr fr (some u) (.a (.buildSl sz ln zero ix)) l fs' dd { st with g:=bH st.g u (.own u),m:=bH st.m u (cA (.row xs)) })):Le m (rn S c Q fo fs st0):=by
 simp only[ζc]at B;obtain⟨h1,w,z,A,C,I⟩:=B;subst A C I;refine p_ h1 D w ?_ h;rw[BZ,z];simp only[ζb,G,oC,kn,List.length_range',List.length_map];have:=zC xs [] (List.replicate xs.length zero) (by simp)
 simp  at this;rw[this];rfl
theorem U6 [bq α] (n:Nat) (dr:Bool) (fr:List Nat) (q:List RO) (fs':List Fm) (st:St) (x:α) (vs:List V) {z:List V} {pl:List (Nat×Nat)} {m:Option β} (D:q=⟨d,gd,now,.p (.build z pl),az,dd,[]⟩::l)
 (hp:jS z pl vs=some (cells x)) (G:bq.agg α=true)
 (B:(gE S c n fo fs st0,wanted st.g gd,bP S.N st.g az)=(some (.ops dr fr q,fs',st),some true,some (vs.map .v)))
 (h:Le m (rP S c Q dr fr d (.p (.build z pl)) l fs' dd (cT st d (cv x)))):Le m (rn S c Q fo fs st0):=by
 simp  at B;refine p_ B.1 D B.2.1 (AL B.2.2 rfl ?_) h;unfold iW;rw[kn];simp only[NX,hp,Option.map_some];show some (SV.v (.agg (cells x)))=some (.v (enc x));rw[Ah G]
section
variable [bq α]
theorem Va (n:Nat) (dr:Bool) (fr:List Nat) (q:List RO) (fs':List Fm) (st:St) (lo hi:Bool) (D:List V) {sz:Nat} {s:Sl α} {a b:Option Int} {f:Sl α->Option γ} (G:q=⟨d,gd,now,.p (.slice sz lo hi),az,dd,[]⟩::l)
 (B:(gE S c n fo fs st0,wanted st.g gd,bP S.N st.g az,k7 lo hi D,sz)=(some (.ops dr fr q,fs',st),some true,some (.v (bQ s)::D.map .v),some (a,b),bq.size α))
 (h:∀x,jm s a b=some x->Le ((f x).bind e) (rP S c Q dr fr d (.p (.slice sz lo hi)) l fs' dd (cT st d (.v (bQ x))))):Le (((jm s a b).bind f).bind e) (rn S c Q fo fs st0):=by
 simp  at B;refine CB B.1 G B.2.1 (Le.of_eq ?_) h;have w  := B.2.2.1;unfold eZ lH;simp[wanted,fm,w];have u:iW S.N st.m (.slice sz lo hi) ((bQ s::D).map .v)=(jm s a b).bind λx=>some (.v (bQ x)):=by
  unfold iW;rw[kn];simp[bn,B.2.2.2.1,IT s a b sz B.2.2.2.2];cases jm s a b <;> rfl
 simp  at u ⊢;rw[u];cases jm s a b <;> rfl
def nH (s:Sl α) (lo hi:Option Int):Option (Sl α):=
 match s with
 | .nil|.emp=>none
 | .row x|.part x=>(dI x.length lo hi).map λ(l,h)=>.part ((x.take h).drop l)
theorem T4 (n:Nat) (fr:List Nat) (q:List RO) (fs':List Fm) (st:St) (lo hi:Bool) (u:Nat) (D:List V) {t sz:Nat} {s:Sl α} {a b:Option Int} {f:Sl α->Option γ} (J:q=⟨some t,gd,now,.p (.slice sz lo hi),az,dd,[]⟩::l)
 (G:St.new { st with m:=dO u st.m } t=true) (B:(gE S c n fo fs st0,wanted st.g gd,bP S.N st.g az,k7 lo hi D,a_ st.m u,sz)=(some (.ops false fr q,fs',st),some true,some (.own u::D.map .v),some (a,b),some (cA s),bq.size α))
 (h:∀x,nH s a b=some x->Le ((f x).bind e) (rP S c Q false fr (some t) (.p (.slice sz lo hi)) l fs' dd { st with g:=bH st.g t (.own t),m:=bH (dO u st.m) t (cA x) })):Le (((nH s a b).bind f).bind e) (rn S c Q fo fs st0):=by
 simp  at B;refine CB B.1 J B.2.1 (Le.of_eq ?_) h;obtain⟨_,_,z,w,A,C⟩:=B;subst C;unfold eZ lH;simp[wanted,fm,z,zk,kn,A,w]
 cases s with
 | nil=>simp[nH,cA,Sl.k,cC]
 | emp=>simp[nH,cA,Sl.k,cC]
 | row x=>
  simp[cA,Sl.k,Sl.l,cC,nH,fL,w]
  cases dI x.length a b with
  | none=>rfl
  | some r=>simp[G,cT,rows,List.map_drop]
 | part x=>
  simp[cA,Sl.k,Sl.l,cC,nH,fL,w]
  cases dI x.length a b with
  | none=>rfl
  | some r=>simp[G,cT,rows,List.map_drop]
end
end
end Go.VE
namespace Go.VE
variable [bN]
structure cq (n:Nat) (α:Type) where
 l:List α
 len:l.length=n
theorem M7 {α:Type} [bq α] (l:List α):(l.map (cells (α:=α))).flatten.length=l.length*bq.size α:=by
 induction l with
 | nil=>simp
 | cons a l u=>simp[u,gx,Nat.add_mul,Nat.add_comm]
theorem LD {α:Type} [bq α] (l:List α):V.cD (l.map (cells (α:=α))).flatten=true:=by
 induction l with
 | nil=>rfl
 | cons a l u=>
  have h:∀(x y:List V),V.cD x=true->V.cD y=true->V.cD (x++y)=true:=by
   intro x
   induction x with
   | nil=>grind
   | cons b x w=>intro y h1 z;simp[V.cD]at h1 ⊢;grind
  exact h _ _ (bq.good a) u
instance {n:Nat} {α:Type} [bq α]:bq (cq n α) where
 cells a:=(a.l.map cells).flatten
 agg:=true
 size:=n*bq.size α
 len a:=by rw[M7,a.len]
 good a:=LD a.l
 one a:=by
  have:∀l:List α,(l.map (cells (α:=α))).flatten.all V.one=true:=by
   intro l
   induction l with
   | nil=>rfl
   | cons a l u=>simp only[List.map_cons,List.flatten_cons,List.all_append,u,sE,Bool.and_self]
  exact this a.l
 plain h:=by cases h
def cq.K6 (n:Nat) {α:Type} (z:α):cq n α:=⟨List.replicate n z,by simp⟩
def cq.at {n:Nat} {α:Type} (a:cq n α) (i:Int):Option α:=if 0<=i then a.l[i.toNat]? else none
def cq.set {n:Nat} {α:Type} (a:cq n α) (i:Int) (x:α):cq n α:=⟨a.l.set i.toNat x,by simp[a.len]⟩
def pa {n:Nat} {α:Type} [bq α] (a:cq n α) (i:Int):List V:=(cells a).drop (i.toNat*bq.size α)
theorem cq.s6 {n:Nat} {α:Type} {a:cq n α} {i:Int} {x:α} (h:a.at i=some x):0<=i/\i.toNat<n/\a.l[i.toNat]? = some x:=by
 unfold cq.at at h;split at h
 .rename_i hi;refine⟨hi,?_,h⟩;have:=(ζe.1 h).1;rw[<-a.len];simp_all
 simp_all
theorem Da {α:Type} [bq α]:∀(l:List α) (k:Nat),((l.map (cells (α:=α))).flatten).drop (k*bq.size α)=((l.drop k).map (cells (α:=α))).flatten
 | [],k=>by simp
 | a::l,0=>by simp
 | a::l,k+1=>by
  have h  := gx a;rw[List.map_cons,List.flatten_cons,List.drop_succ_cons,<-Da l k,Nat.add_mul,Nat.one_mul,Nat.add_comm,<-h,List.drop_length_add_append]
theorem zP {n:Nat} {α:Type} [bq α] {a:cq n α} {i:Int} {x:α} (h:a.at i=some x):∃r,pa a i=cells x++r:=by
 obtain⟨h1,A,w⟩:=cq.s6 h;obtain⟨u,z⟩:=ζe.1 w;refine⟨((a.l.drop (i.toNat+1)).map cells).flatten,?_⟩;show ((a.l.map (cells )).flatten).drop (i.toNat*bq.size α)=_;rw[Da,List.drop_eq_getElem_cons u,List.map_cons,List.flatten_cons,z]
section
variable {S:Sys} {c:bS} {β γ δ α:Type} {Q:Out×St->Option β} {e:γ->Option β} {fo:Fo} {fs:List Fm} {st0:St} {l:List RO} {d:Option Nat} {gd:Option (Nat×Bool)} {now:Bool} {az:List Arg} {dd:List Nat}
section
variable {N:Nat} [bq α]
theorem Ua (n:Nat) (dr:Bool) (fr:List Nat) (q:List RO) (fs':List Fm) (st:St) (k:IntKind) {ln sz:Nat} {a:cq N α} {i:Int} {f:α->Option γ} (D:q=⟨d,gd,now,.p (.idxA ln sz),az,dd,[]⟩::l)
 (B:(gE S c n fo fs st0,wanted st.g gd,bP S.N st.g az,sz,ln)=(some (.ops dr fr q,fs',st),some true,some [cp a,.v (.int k i)],bq.size α,N))
 (h:∀x,a.at i=some x->Le ((f x).bind e) (rP S c Q dr fr d (.p (.idxA ln sz)) l fs' dd (cT st d (.v (.fptr (pa a i)))))):Le (((a.at i).bind f).bind e) (rn S c Q fo fs st0):=by
 simp  at B;obtain⟨h1,w,z,A,C⟩:=B;subst A C;refine CB h1 D w ?_ h;intro r hr;obtain⟨x,G,hr⟩:=ζg.1 hr;obtain⟨g1,g2,_⟩:=cq.s6 G;rw[AL  z rfl ?_]
 .omega
 rw[vg];simp[bn,vF];have u:i.toNat*bq.size α<=(cells a).length:=by
  rw[gx];exact Nat.mul_le_mul_right _ (Nat.le_of_lt g2)
 rw[if_pos ⟨g1,by omega⟩,if_pos u]
 rfl
theorem Ve (n:Nat) (dr:Bool) (fr:List Nat) (q:List RO) (fs':List Fm) (st:St) (a:cq N α) (i:Int) (o:Nat) (x:α) (D:a.at i=some x) {k:Nat} {m:Option β} (G:q=⟨d,gd,now,.p (.fieldAddr k),az,dd,[]⟩::l)
 (B:(gE S c n fo fs st0,wanted st.g gd,bP S.N st.g az,Nat.ble (o+k) (bq.size α))=(some (.ops dr fr q,fs',st),some true,some [.v (.fptr ((pa a i).drop o))],true))
 (h:Le m (rP S c Q dr fr d (.p (.fieldAddr k)) l fs' dd (cT st d (.v (.fptr ((pa a i).drop (o+k))))))):Le m (rn S c Q fo fs st0):=by
 simp only[ζc]at B;obtain⟨h1,u,w,z⟩:=B;refine p_ h1 G u (AL w rfl ?_) h;have A:=Nat.le_of_ble_eq_true z;obtain⟨r,hr⟩:=zP D;have C:(pa a i).length>=bq.size α:=by rw[hr,ζi,gx];omega
 rw[Gn,Fp,if_pos (by grind),List.drop_drop]
 rfl
theorem TH (n:Nat) (dr:Bool) (fr:List Nat) (q:List RO) (fs':List Fm) (st:St) (a:cq N α) (i:Int) (o:Nat) (x:α) (G:a.at i=some x) {sz:Nat} {ag:Bool} {v:V} (hv:(cut (cells x) o sz).bind (mk ag)=some v) (B:V) {m:Option β} (J:q=⟨d,gd,now,.r (.load sz ag),az,dd,[]⟩::l)
 (D:(gE S c n fo fs st0,wanted st.g gd,bP S.N st.g az,v)=(some (.ops dr fr q,fs',st),some true,some [.v (.fptr ((pa a i).drop o))],B))
 (h:Le m (rP S c Q dr fr d (.r (.load sz ag)) l fs' dd (cT st d (.v B)))):Le m (rn S c Q fo fs st0):=by
 simp  at D;obtain⟨h1,z,A,rfl⟩:=D;refine p_ h1 J z ?_ h;rw[Et,A];have hold:eO fr [SV.v (.fptr ((pa a i).drop o))]=true:=rfl;simp[hold,Ln];obtain⟨r,hr⟩:=zP G;rw[hr];have hc:cut ((cells x++r).drop o) 0 sz=cut (cells x) o sz:=by
  cases u:cut (cells x) o sz with
  | none=>grind
  | some w=>
   unfold cut at u ⊢;dsimp only at u ⊢;split at u
   .have e1:(List.drop 0 (List.drop o (cells x++r))).take sz=((cells x).drop o).take sz:=by
     have C:sz=0\/o<=(cells x).length:=by
      grind
     grind
    grind
   grind
 cases u:cut (cells x) o sz with
 | none=>grind
 | some w=>grind
theorem SU (n:Nat) (dr:Bool) (fr:List Nat) (q:List RO) (fs':List Fm) (st:St) (cs:List SV) {u sz:Nat} {zero:List V} {m:Option β} (D:q=⟨some u,gd,now,.a (.alloc sz zero),az,dd,[]⟩::l)
 (G:st.new u=true) (B:(gE S c n fo fs st0,wanted st.g gd,bP S.N st.g az,zero.map SV.v)=(some (.ops dr fr q,fs',st),some true,some [],cs))
 (h:Le m (rP S c Q dr fr (some u) (.a (.alloc sz zero)) l fs' dd { st with g:=bH st.g u (.ptr u 0),m:=bH st.m u (.box cs) })):Le m (rn S c Q fo fs st0):=by
 simp  at B;obtain⟨h1,w,z,A⟩:=B;subst A;refine p_ h1 D w ?_ h;rw[BZ,z];simp[G,oC]
theorem rU (d:Nat) (l:List V):SV.di d (l.map .v)=false:=by
 induction l with
 | nil=>rfl
 | cons a l u=>simp[SV.di,SV.cM,u]
theorem sB {α:Type} [bq α] (d:Nat) (x:α):bu.cM d (bx x)=false:=rU d (cells x)
theorem Uy (n:Nat) (dr:Bool) (fr:List Nat) (q:List RO) (fs':List Fm) (st:St) (k:IntKind) (u:Nat) {ln sz:Nat} {a:cq N α} {i:Int} {f:α->Option γ} (D:q=⟨d,gd,now,.p (.idxA ln sz),az,dd,[]⟩::l)
 (B:(gE S c n fo fs st0,wanted st.g gd,bP S.N st.g az,sz,ln,a_ st.m u)=(some (.ops dr fr q,fs',st),some true,some [.ptr u 0,.v (.int k i)],bq.size α,N,some (bx a)))
 (h:∀x,a.at i=some x->Le ((f x).bind e) (rP S c Q dr fr d (.p (.idxA ln sz)) l fs' dd (cT st d (.ptr u (i.toNat*bq.size α+0))))):Le (((a.at i).bind f).bind e) (rn S c Q fo fs st0):=by
 simp  at B;obtain⟨h1,w,z,G,I,A⟩:=B;refine CB h1 D w ?_ h;intro r hr;obtain⟨x,C,hr⟩:=ζg.1 hr;obtain⟨g1,g2,_⟩:=cq.s6 C;rw[AL  z rfl ?_]
 .omega
 simp[iW,cZ,vH,A]
 grind
theorem Ny {a:cq N α} {i:Int} {o:Nat} {x:α} (B:a.at i=some x) {sz:Nat} {ag:Bool} {v:V} (hv:(cut (cells x) o sz).bind (mk ag)=some v):ua sz ag ((((cells a).map SV.v).drop (i.toNat*bq.size α+o)).take sz)=some (.v v):=by
 obtain⟨r,hr⟩:=zP B;have e1:(((cells a).map SV.v).drop (i.toNat*bq.size α+o)).take sz=(((cells x).drop o).take sz).map SV.v:=by
  have u:((cells x).drop o).take sz=((cells x++r).drop o).take sz:=by
   cases hc:cut (cells x) o sz with
   | none=>grind
   | some w=>
    unfold cut at hc;dsimp only at hc;split at hc
    .have A:sz=0\/o<=(cells x).length:=by
      grind
     grind
    simp_all
  rw[u,<-hr,pa,List.drop_drop,List.map_take,List.map_drop]
 rw[e1];unfold ua
 cases hc:cut (cells x) o sz with
 | none=>grind
 | some w=>
  rw[hc]at hv;unfold cut at hc;dsimp only at hc;split at hc
  .rename_i z;cases hc;simp only[List.length_map,z];unfold mk at hv
   cases ag with
   | true=>
    simp only[if_true]at hv ⊢;cases hv;rw[kn]
   | false=>
    grind
  simp_all
theorem Ut (n:Nat) (dr:Bool) (fr:List Nat) (q:List RO) (fs':List Fm) (st:St) (u:Nat) (a:cq N α) (i:Int) (o:Nat) (x:α) (G:a.at i=some x) {sz:Nat} {ag:Bool} {v:V} (hv:(cut (cells x) o sz).bind (mk ag)=some v) (B:V) {m:Option β} (J:q=⟨d,gd,now,.r (.load sz ag),az,dd,[]⟩::l)
 (D:(gE S c n fo fs st0,wanted st.g gd,bP S.N st.g az,v,a_ st.m u,(!dr||now||eO fr [.ptr u 0]))=(some (.ops dr fr q,fs',st),some true,some [.ptr u (i.toNat*bq.size α+o)],B,some (bx a),true))
 (h:Le m (rP S c Q dr fr d (.r (.load sz ag)) l fs' dd (cT st d (.v B)))):Le m (rn S c Q fo fs st0):=by
 simp only[ζc]at D;obtain⟨h1,w,z,rfl,A,C⟩:=D;refine p_ h1 J w ?_ h;rw[Et,z];have hold:(!dr||now||eO fr [SV.ptr u (i.toNat*bq.size α+o)])=true:=C;simp only[ζb,hold,Vc,A,KX];rw[Ny G hv];rfl
theorem KS {N:Nat} (a:cq N α) (i:Int) (y:α) (h:i.toNat<N):cells (a.set i y)=(cells a).take (i.toNat*bq.size α)++cells y++(cells a).drop ((i.toNat+1)*bq.size α):=by
 have key:∀(l:List α) (k:Nat),k<l.length->((l.set k y).map (cells )).flatten=(l.map (cells )).flatten.take (k*bq.size α)++cells y++(l.map (cells )).flatten.drop ((k+1)*bq.size α):=by
  intro l
  induction l with
  | nil=>grind
  | cons b l u=>
   intro k h;have w  := gx b
   cases k with
   | zero=>
    grind
   | succ k=>
    simp only[List.map_cons,List.flatten_cons];have e1:(k+1)*bq.size α=(cells b).length+k*bq.size α:=by grind
    have e2:(k+1+1)*bq.size α=(cells b).length+(k+1)*bq.size α:=by grind
    rw[e2,List.drop_length_add_append]
    grind
 exact key a.l i.toNat (by rw[a.len];omega)
theorem Ub (n:Nat) (dr:Bool) (fr:List Nat) (q:List RO) (fs':List Fm) (st:St) (u:Nat) (a:cq N α) (i:Int) (o:Nat) (x:α) (B:a.at i=some x) (y:α) (v:V) {sz:Nat} (G:cells y=(cells x).take o++v.cells++(cells x).drop (o+sz)) {m:Option β} (J:q=⟨d,gd,now,.l (.store sz),az,dd,[]⟩::l)
 (D:(gE S c n fo fs st0,wanted st.g gd,bP S.N st.g az,a_ st.m u,(!dr||now),v.cells.length,v.cells.all V.one,Nat.ble (o+sz) (bq.size α))=(some (.ops dr fr q,fs',st),some true,some [.ptr u (i.toNat*bq.size α+o),.v v],some (bx a),true,sz,true,true))
 (h:Le m (rP S c Q dr fr d (.l (.store sz)) l fs' dd (cT { st with m:=bH st.m u (bx (a.set i y)) } d (.v .undef)))):Le m (rn S c Q fo fs st0):=by
 simp only[ζc]at D;obtain⟨h1,z,A,C,I,L,O,T⟩:=D;refine p_ h1 J z ?_ h;rw[uo,A];have W:=Nat.le_of_ble_eq_true T;obtain⟨g1,g2,g3⟩:=cq.s6 B;have U:i.toNat*bq.size α+o+sz<=((cells a).map SV.v).length:=by
  rw[List.length_map,gx];have:(i.toNat+1)*bq.size α<=N*bq.size α:=Nat.mul_le_mul_right _ g2;rw[Nat.add_mul,Nat.one_mul]at this;show _<=N*bq.size α;omega
 simp only[ζb,I,if_true,lC,C,putCells,L,O,U,and_self,Option.map_some];obtain⟨r,hr⟩:=zP B;have e:((cells a).map SV.v).take (i.toNat*bq.size α+o)++v.cells.map .v++((cells a).map SV.v).drop (i.toNat*bq.size α+o+sz)=(cells (a.set i y)).map SV.v:=by
  rw[KS a i y g2,G];have hd:(cells a).drop (i.toNat*bq.size α)=cells x++r:=hr;have w  := gx x;have e1:(cells a).take (i.toNat*bq.size α+o)=(cells a).take (i.toNat*bq.size α)++(cells x).take o:=by
   rw[List.take_add,hd,List.take_append_of_le_length (by omega)]
  have e2:(cells a).drop (i.toNat*bq.size α+o+sz)=(cells x).drop (o+sz)++(cells a).drop ((i.toNat+1)*bq.size α):=by
   have e3:(cells a).drop ((i.toNat+1)*bq.size α)=r:=by
    rw[Nat.add_mul,Nat.one_mul,<-List.drop_drop,hd,<-w,List.drop_left]
   rw[e3,Nat.add_assoc,<-List.drop_drop,hd,List.drop_append_of_le_length (by omega)]
  rw[<-List.map_take,<-List.map_drop,e1,e2]
  grind
 rw[e]
end
theorem QA {α:Type} [bq α] {m:Tb bu} {d:Nat} {x:α} {vs:List V} (h:a_ m d=some (bx x)):mO (ig m 8) (.ptr d 0::vs.map .v)=some (.fptr (cells x)::vs):=by
 have h1:ig m 8 (.ptr d 0)=some (.fptr (cells x)):=by
  show (match a_ m d with
   | some (.box cs)=>match mO (ig m 7) cs with
    | some u=>if 0<=u.length then some (V.fptr (u.drop 0))else none
    | none=>none
   | _=>none)=_
  rw[h];simp[Gm]
 simp[mO,h1,Gm]
theorem Ud (n:Nat) {fo:Fo} {fs fs':List Fm} {st0 st:St} {rs:List RV} {e:γ->Option (List V)} {r:γ} (svs:List SV) {ys:List V} (B:mO (ig st.m 8) svs=some ys) (h:(gE S c n fo fs st0,jB st rs)=(some (.rt,fs',st),some svs)) (D:e r=some ys) :
 Le ((some r).bind e) (rn S c (nk rs) fo fs st0):=by
 simp  at h;rw[nJ h.1];refine Le.of_eq ?_;simp[rn,nk,h.2,B]
 grind
abbrev Mo (κ ν:Type):=List (κ×ν)
class Key (κ:Type) [bq κ] [DecidableEq κ] where
 kk:vP
 ok:∀a:κ,oK kk (enc a)=true
 eq:∀a b:κ,vB (enc a) (enc b)=some (decide (a=b))
instance:Key Int where
 kk:=.int .i64
 ok _:=rfl
 eq a b:=by
  show some (a==b)=some (decide (a=b));rw[show (a==b)=decide (a=b)from Bool.eq_iff_iff.2 (by simp)]
instance:Key aY where
 kk:=.ints 2
 ok _:=rfl
 eq a b:=by
  obtain⟨p,i⟩:=a;obtain⟨q,j⟩:=b;simp only[vB,jY,gJ,Tu,Option.map_some,List.length_cons,if_true,ζa];rw[Bool.eq_iff_iff];simp
section
variable {κ ν:Type} [bq κ] [DecidableEq κ] [Key κ] [bq ν]
def sM (k:κ):Mo κ ν->Option ν
 | []=>none
 | (a,v)::r=>if k=a then some v else sM k r
def CD (m:Mo κ ν) (k:κ) (z:ν):ν:=(sM k m).getD z
def qp (m:Mo κ ν) (k:κ) (v:ν):Mo κ ν:=
 match m with
 | []=>[(k,v)]
 | (a,w)::r=>if k=a then(k,v)::r else(a,w)::qp r k v
def nv (m:Mo κ ν):List (V×V):=m.map λx=>(enc x.1,enc x.2)
def vh (m:Mo κ ν):bu:=.mp (nv m)
theorem It (k:κ):∀(m:Mo κ ν) (i:Nat),(gR (enc k) (nv m) i).map (Option.map (·.2))=some ((sM k m).map enc)
 | [],i=>rfl
 | (a,v)::r,i=>by
  simp only[nv,List.map_cons,gR,Key.eq,sM]
  by_cases h:k=a
  .grind
  .simp only[h];exact It k r (i+1)
theorem Nb (k:κ) (v:ν) (m:Mo κ ν):oB (enc k) (enc v) (nv m)=some (nv (qp m k v)):=by
 unfold oB;have key:∀(m:Mo κ ν) (pre:List (V×V)) (i:Nat),pre.length=i->(match gR (enc k) (nv m) i with
  | some (some (j,_))=>some ((pre++nv m).set j (enc k,enc v))
  | some none=>some (pre++nv m++[(enc k,enc v)])
  | none=>none)=some (pre++nv (qp m k v)):=by
  intro m
  induction m with
  | nil=>simp[nv,gR,qp]
  | cons x r u=>
   obtain⟨a,w⟩:=x;intro pre i h;rw[show nv ((a,w)::r)=(enc a,enc w)::nv r from rfl];simp[gR,Key.eq,qp]
   by_cases hk:k=a
   .subst hk h;simp[nv]
   .simp[hk];rw[show nv ((a,w)::qp r k v)=(enc a,enc w)::nv (qp r k v)from rfl];have:=u (pre++[(enc a,enc w)]) (i+1) (by simp[h])
    grind
 have:=key m [] 0 rfl
 grind
theorem Uu (n:Nat) (dr:Bool) (fr:List Nat) (q:List RO) (fs':List Fm) (st:St) (u:Nat) (mp:Mo κ ν) (k:κ) (z:ν) {kk:vP} {B:V} {m:Option β} (G:q=⟨d,gd,now,.r (.lookup kk B false),az,dd,[]⟩::l)
 (D:(gE S c n fo fs st0,wanted st.g gd,bP S.N st.g az,a_ st.m u,(!dr||now||eO fr [.mp u,cv k]),B,kk)=(some (.ops dr fr q,fs',st),some true,some [.mp u,cv k],some (vh mp),true,enc z,Key.kk κ))
 (h:Le m (rP S c Q dr fr d (.r (.lookup kk B false)) l fs' dd (cT st d (cv (CD mp k z))))):Le m (rn S c Q fo fs st0):=by
 simp only[ζc]at D;obtain⟨h1,A,C,I,J,L,O⟩:=D;subst L O;refine p_ h1 G A ?_ h;rw[Et,C];simp only[ζb,J,nZ,I,vh,Key.ok];have:=It k mp 0;simp[CD]
 cases T:gR (enc k) (nv mp) 0 with
 | none=>grind
 | some r=>
  rw[T]at this
  cases r with
  | none=>
   cases U:sM k mp with
   | none=>rfl
   | some w=>grind
  | some w=>
   cases U:sM k mp with
   | none=>grind
   | some W=>
    grind
theorem U0 (n:Nat) (dr:Bool) (fr:List Nat) (q:List RO) (fs':List Fm) (st:St) (u:Nat) (mp:Mo κ ν) (k:κ) (v:ν) {kk:vP} {m:Option β} (D:q=⟨d,gd,now,.l (.mapUp kk),az,dd,[]⟩::l)
 (B:(gE S c n fo fs st0,wanted st.g gd,bP S.N st.g az,a_ st.m u,(!dr||now),kk)=(some (.ops dr fr q,fs',st),some true,some [.mp u,cv k,cv v],some (vh mp),true,Key.kk κ))
 (h:Le m (rP S c Q dr fr d (.l (.mapUp kk)) l fs' dd (cT { st with m:=bH st.m u (vh (qp mp k v)) } d (.v .undef)))):Le m (rn S c Q fo fs st0):=by
 simp only[ζc]at B;obtain⟨h1,w,z,A,C,G⟩:=B;subst G;refine p_ h1 D w ?_ h;rw[uo,z];simp[C,lC,A,vh,Key.ok,Nb]
end
end
end Go.VE
namespace Go.VE
variable [bN]
instance {n:Nat}:OfNat Arg n:=⟨.s n⟩
abbrev bI (o:BinOp):K:=.p (.bin (some .int) none o)
abbrev ix (n:Nat):K:=.p (.idxS n)
abbrev ld (n:Nat):K:=.r (.load n false)
abbrev lD (n:Nat):K:=.r (.load n true)
abbrev fa (n:Nat):K:=.p (.fieldAddr n)
abbrev ln:K:=.p .lenSl
abbrev Iv (n:Nat) (x:Int):Nat×SV:=(n,iv x)
abbrev Bv (n:Nat) (x:Bool):Nat×SV:=(n,bv x)
abbrev Cv {α:Type} [bq α] (n:Nat) (x:α):Nat×SV:=(n,cv x)
abbrev Kv {α:Type} [bq α] (n:Nat) (x:α):Nat×SV:=(n,cp x)
abbrev Pv (n:Nat):Nat×SV:=(n,.ptr n 0)
abbrev Ov (n:Nat):Nat×SV:=(n,.own (2000+n))
abbrev Xb {α:Type} [bq α] (n:Nat) (x:α):Nat×bu:=(n,bx x)
abbrev Lb {α:Type} [bq α] (n:Nat) (x:Sl α):Nat×bu:=(n,cA x)
abbrev on (d:Nat) (k:K) (az:List Arg) (dd:List Nat):RO:=⟨some d,none,true,k,az,dd,[]⟩
abbrev oz (k:K) (az:List Arg) (dd:List Nat):RO:=⟨none,none,false,k,az,dd,[]⟩
attribute [simp] Rj QV Rq
theorem fK.wL {S:Sys} {T:pF} {f:FuncId} {b:Bool} (B:T f=none) (hk:S.E.keep f=false) (D:S.wL f []=some (.bool b)) :
 fK S (cU S T) f (λ_:Unit=>[]) (λr:Bool=>[.bool r]) (λ_=>some b) true where
 k:=hk
 h _:=by
  have h:=Ed (az:=[]) B hk D;intro r hr;cases hr;unfold iG;rw[h];exact tu 8 [.bool b]
 s _ _:=rfl
end Go.VE
namespace Go.VE
variable [bN]
def Wp {α:Type} (m:Option α) (P:α->Prop):Prop:=∃a,m=some a/\P a
section
variable {α β:Type} {P Q:α->Prop}
theorem bh (a:α):Wp (some a) P↔P a:=⟨λh=>by obtain⟨b,e,p⟩:=h;cases e;exact p,λp=>⟨a,rfl,p⟩⟩
theorem Qd:Wp (none:Option α) P↔False:=⟨λh=>(by obtain⟨b,e,p⟩:=h;cases e),λh=>False.elim h⟩
theorem js {m:Option β} {k:β->Option α}:Wp (m.bind k) P↔Wp m λb=>Wp (k b) P:=by
 cases m with
 | none=>simp only[Option.bind_none,Qd]
 | some b=>simp only[ζb,bh]
theorem dH {t:Bool} {a b:Option α}:Wp (bp t a b) P↔(t=true->Wp a P)/\(t=false->Wp b P):=by
 cases t <;> simp[bp]
theorem Wp.mono {m:Option α} (h:Wp m P) (B:∀a,P a->Q a):Wp m Q:=let ⟨a,e,p⟩:=h;⟨a,e,B a p⟩
theorem Wp.and {m:Option α} (h:Wp m P) (B:Wp m Q):Wp m λa=>P a/\Q a:=by
 obtain⟨a,e,p⟩:=h;obtain⟨b,e2,q⟩:=B;rw[e]at e2;cases e2;exact⟨a,e,p,q⟩
theorem Wp.eq {m:Option α} {a:α} (h:Wp m λx=>x=a):m=some a:=by obtain⟨b,e,rfl⟩:=h;exact e
end
section
variable {σ ε ρ:Type}
theorem fq (step:σ->Option (Fw σ ε ρ)) (s:σ):cE step s=(step s).bind λw=>match w with
 | .n B=>cE step B
 | .x e=>some (.x e)
 | .r b=>some (.r b):=by
 have h1:∀r,cE step s=some r->((step s).bind λw=>match w with
  | .n B=>cE step B
  | .x e=>some (.x e)
  | .r b=>some (.r b))=some r:=by
  intro r h;obtain⟨k,hk⟩:=oG.1 h
  cases k with
  | zero=>simp[kB]at hk
  | succ k=>
   simp only[kB]at hk
   cases u:step s with
   | none=>rw[u]at hk;cases hk
   | some w=>
    rw[u]at hk
    cases w with
    | n B=>exact oG.2 ⟨k,hk⟩
    | x e=>exact hk
    | r b=>exact hk
 cases z:cE step s with
 | some r=>exact(h1 r z).symm
 | none=>
  cases hr:((step s).bind λw=>match w with
  | .n B=>cE step B
  | .x e=>some (.x e)
  | .r b=>some (.r b))with
  | none=>rfl
  | some r=>
   exfalso
   cases u:step s with
   | none=>rw[u]at hr;cases hr
   | some w=>
    rw[u]at hr;simp only[ζb]at hr;have:cE step s=some r:=by
     cases w with
     | n B=>
      obtain⟨k,hk⟩:=oG.1 hr;exact oG.2 ⟨k+1,by simp only[kB,u];exact hk⟩
     | x e=>exact oG.2 ⟨1,by simp only[kB,u];exact hr⟩
     | r b=>exact oG.2 ⟨1,by simp only[kB,u];exact hr⟩
    rw[z]at this;cases this
def UG (I:σ->Prop) (μ:σ->Nat) (D:ε->Prop) (pr:ρ->Prop) (s:σ):Fw σ ε ρ->Prop
 | .n B=>I B/\μ B<μ s
 | .x e=>D e
 | .r b=>pr b
def UF (B:ε->Prop) (pr:ρ->Prop):Fw Empty ε ρ->Prop
 | .x e=>B e
 | .r b=>pr b
theorem M8 {step:σ->Option (Fw σ ε ρ)} (I:σ->Prop) (μ:σ->Nat) (B:ε->Prop) (pr:ρ->Prop) (h:∀s,I s->Wp (step s) (UG I μ B pr s)) {s:σ} (D:I s):Wp (cE step s) (UF B pr):=by
 have key:∀n s,μ s<=n->I s->Wp (cE step s) (UF B pr):=by
  intro n
  induction n with
  | zero=>
   intro s A hi;obtain⟨w,u,hr⟩:=h s hi;rw[fq,u]
   cases w with
   | n z=>exact absurd hr.2 (by omega)
   | x e=>exact⟨_,rfl,hr⟩
   | r b=>exact⟨_,rfl,hr⟩
  | succ n C=>
   intro s A hi;obtain⟨w,u,hr⟩:=h s hi;rw[fq,u]
   cases w with
   | n z=>exact C z (by have:=hr.2;omega) hr.1
   | x e=>exact⟨_,rfl,hr⟩
   | r b=>exact⟨_,rfl,hr⟩
 exact key (μ s) s (Nat.le_refl _) D
theorem lK {γ:Type} {step:σ->Option (Fw σ ε ρ)} {B:ε->Option γ} {fr:ρ->Option γ} {P:γ->Prop} (I:σ->Prop) (μ:σ->Nat) {s:σ} (D:I s)
 (h:∀s,I s->Wp (step s) (UG I μ (λe=>Wp (B e) P) (λb=>Wp (fr b) P) s)):Wp ((cE step s).bind (Fw.elim B fr)) P:=by
 rw[js];refine(M8 I μ _ _ h D).mono ?_;intro w u
 cases w with
 | n a=>cases a
 | x e=>exact u
 | r b=>exact u
end
end Go.VE
namespace Go.VE
variable [bN]
theorem C8 {β γ δ:Type} {e:γ->Option β} {m:Option δ} {f:δ->Option γ} {L:Option β} (h:∀x,m=some x->Le ((f x).bind e) L):Le ((m.bind f).bind e) L:=by
 cases m with
 | none=>exact Le.none _
 | some x=>exact h x rfl
section
variable {S:Sys} {c:bS} {β:Type} {Q:Out×St->Option β} {fo:Fo} {fs:List Fm} {st0:St} {l:List RO} {d:Option Nat} {now:Bool} {az:List Arg} {dd:List Nat}
theorem Le.get {β:Type} {r:β} {L:Option β} (h:Le (some r) L):L=some r:=h r rfl
theorem Kt {n:Nat} {fo fo':Fo} {fs fs':List Fm} {st:St} (A:Bool->St) {t:Bool} {m:Option β} (B:t=true) (h:gE S c n fo fs st=some (fo',fs',A t)) (D:Le m (rn S c Q fo' fs' (A true))):Le m (rn S c Q fo fs st):=by
 rw[nJ h,B];exact D
theorem Kf {n:Nat} {fo fo':Fo} {fs fs':List Fm} {st:St} (A:Bool->St) {t:Bool} {m:Option β} (B:t=false) (h:gE S c n fo fs st=some (fo',fs',A t)) (D:Le m (rn S c Q fo' fs' (A false))):Le m (rn S c Q fo fs st):=by
 rw[nJ h,B];exact D
theorem NL {α:Type} [bq α] {s:Sl α} {i:Int} {x:α} {r:β} {L:Option β} (B:idx s i=some x) (h:Le (((idx s i).bind λ_=>some r).bind some) L):Le (some r) L:=by
 rw[B]at h;exact h
theorem UN {n:Nat} {q:List RO} {fs':List Fm} {st:St} {id:Nat} {vs:List SV} {xs:List V} {B:List (List V)} {m:Option β}
 (D:gE S c n fo fs st0=some (.ops false [] q,fs',st)) (G:q=⟨d,none,now,.c,az,dd,[]⟩::l) (J:bP S.N st.g az=some (.yl id::vs)) (T:cZ vs=some xs) (U:st.want=xs::B) (hi:id=st.yid)
 (h:Le m (rn S c Q (.ops false [] l) fs' (og dd (cT { st with want:=B } d (.v (.bool (st.more || !B.isEmpty))))))):Le m (rn S c Q fo fs st0):=by
 refine Pq D G rfl ?_ h;unfold eZ;simp only[wanted,fm,J,T,U,hi,if_true,and_self,Bool.false_eq_true,if_false]
theorem zR (a:RC) (fs:List Fm) (st:St):rn S c Q (.rc (.loop a)) fs st=(nu (cu S c a) st).bind (CQ (lW S c Q fs) (lN S c Q fs) (λst=>Q (.ret,st))):=by
 show jN S c Q (.loop a) fs st=_;unfold jN;rw[Ce];rfl
theorem Qr {f:St->Option (Out×St)} {st st':St} (h:f st=some (.norm,st')):nu f st=nu f st':=by
 have key:∀r,nu f st=some r↔nu f st'=some r:=λr=>by
  constructor
  .intro hr;obtain⟨k,hk⟩:=lR.1 hr
   cases k with
   | zero=>simp[iH]at hk
   | succ k=>simp only[iH,h]at hk;exact lR.2 ⟨k,hk⟩
  .intro hr;obtain⟨k,hk⟩:=lR.1 hr;exact lR.2 ⟨k+1,by simp only[iH,h];exact hk⟩
 cases u:nu f st with
 | none=>
  cases w:nu f st' with
  | none=>rfl
  | some r=>rw[(key r).2 w]at u;cases u
 | some r=>rw[(key r).1 u]
theorem IE {f:St->Option (Out×St)} {st st':St} {o:Out} (h:f st=some (o,st')) (B:o≠.norm):nu f st=some (o,st'):=by
 refine lR.2 ⟨1,?_⟩
 cases o with
 | norm=>exact absurd rfl B
 | exit k=>simp only[iH,h]
 | ret=>simp only[iH,h]
theorem D_ {a:RC} {fs:List Fm} {st st':St} (h:rn S c some (.rc a) [] st=some (.norm,st')):rn S c Q (.rc (.loop a)) fs st=rn S c Q (.rc (.loop a)) fs st':=by
 rw[zR,zR,Qr (by rw[zN];exact h)]
theorem DR {a:RC} {fs:List Fm} {st st':St} {k:Nat} (h:rn S c some (.rc a) [] st=some (.exit k,st')):rn S c Q (.rc (.loop a)) fs st=rn S c Q (.ex k) fs st':=by
 rw[zR,IE (by rw[zN];exact h) (by simp)];rfl
theorem DG {a:RC} {fs:List Fm} {st st':St} (h:rn S c some (.rc a) [] st=some (.ret,st')):rn S c Q (.rc (.loop a)) fs st=Q (.ret,st'):=by
 rw[zR,IE (by rw[zN];exact h) (by simp)];rfl
end
def Qi:Out×St->Option Unit
 | (.exit _,_)=>none
 | (_,st)=>if st.want.isEmpty then some ()else none
def Sys.bare (S:Sys):Sys:=⟨S.E,S.N,λ_ _ _=>none,λ_ _=>none,λ_=>none⟩
def mA:bS:=λ_ _ _=>none
def tH (B rest:List (List V)) (more:Bool):Prop:=more=true/\B=rest\/more=false/\B≠[]/\∃r,rest=B++r
theorem M4 (S:Sys) {f:FuncId} {fi:FI} {nm:FuncId->Option Nat} {rf:RF} (G:S.E.ft f=some fi) (U:∀g s,nm g=some s->S.N s=g) (hr:vO S.E nm fi rf) {a b:List V} {xs:List (List V)} (D:a.length+1+b.length<=rf.na) (T:rf.rs=[])
 (h:∀B more,tH B xs more->∀yid,rn S.bare mA Qi (.rc rf.body) [] ⟨tS 0 (a.map .v++.yl yid::b.map .v),[],[],B,more,yid⟩=some ()):dZ S f a b xs:=by
 have k:dZ S.bare f a b xs:=IF (S:=S.bare) (c:=mA) (fi:=fi) (nm:=nm) (rf:=rf) (λ_ _ h=>by cases h) (λ_ _ _ _ _ h=>by simp[mA]at h) (λ_ _ _ _ h=>by simp[Sys.bare]at h) G U hr D T (λB more w yid=>by
  have h1:=h B more w yid;change jN S.bare mA Qi rf.body [] _=some ()at h1;rw[nV]at h1;obtain⟨⟨o,st'⟩,z,u⟩:=ζg.1 h1;refine⟨o,st',z,?_,?_,rfl⟩
  .rintro id rfl;simp[Qi]at u
  .cases o <;> simp[Qi]at u <;> exact u)
 intro B more w yid J y Z A C H h1 z u I L;exact k B more w yid J ⟨y.uQ,y.yield⟩ Z A C H h1 z u I L
open Classical in
noncomputable def wS (P:FuncId->List V->List V->List (List V)->Prop) (f:FuncId) (a b:List V):Option (List (List V)):=if h:∃u,P f a b u then some (Classical.choose h)else none
theorem BH {P:FuncId->List V->List V->List (List V)->Prop} {f:FuncId} {a b:List V} {xs:List (List V)} (h:P f a b xs) (hu:∀ys,P f a b ys->ys=xs):wS P f a b=some xs:=by
 have h1:∃xs,P f a b xs:=⟨xs,h⟩;unfold wS;rw[dif_pos h1,hu _ (Classical.choose_spec h1)]
theorem JU {P:FuncId->List V->List V->List (List V)->Prop} {f:FuncId} {a b:List V} {xs:List (List V)} (h:wS P f a b=some xs):P f a b xs:=by
 unfold wS at h;split at h
 .rename_i h1;cases h;exact Classical.choose_spec h1
 .cases h
theorem SY {E:Env} {nm:FuncId->Option Nat} {f:FuncId} {rf:RF}
 (h:((E.ft f).bind λfi=>(bJ ⟨E,nm,fi.ntmps⟩ false fi.body).bind λc=>(fi.results.mapM (Ae E)).bind λrs=>some (c,rs,fi.ntmps))=some (erase rf.body,rf.rs,rf.na)):∃fi,E.ft f=some fi/\vO E nm fi rf:=by
 obtain⟨fi,h1,w⟩:=ζg.1 h;obtain⟨c,z,A⟩:=ζg.1 w;obtain⟨rs,B,u⟩:=ζg.1 A;simp only[ζa,ζc]at u;obtain⟨rfl,rfl,C⟩:=u;exact⟨fi,h1,z,B,C.symm⟩
theorem FR.oc {H:bf} {Z Z':Nat->Prop} {x y z:V} (h:FR H Z x z) (k:FR H Z' y z):x=y:=by
 obtain⟨n,u⟩:=yR x;obtain⟨m,w⟩:=yR y;have e1:=h.borrow (max n m) (w9 (Nat.le_max_left _ _) u);have e2:=k.borrow (max n m) (w9 (Nat.le_max_right _ _) w);rw[e1]at e2;exact Option.some.inj e2
open Classical in
noncomputable def wq (E:Env) (f:FuncId) (az:List V):Option V:=if h:∃y,Bc E f az y then some (Classical.choose h)else none
theorem D0 {E:Env} {f:FuncId} {az:List V} {y:V} (h:wq E f az=some y):Bc E f az y:=by
 unfold wq at h;split at h
 .rename_i h1;cases h;exact Classical.choose_spec h1
 .cases h
theorem D4 {E:Env} {f:FuncId} {az:List V} {y:V} (h:Bc E f az y):wq E f az=some y:=by
 have h1:∃y,Bc E f az y:=⟨y,h⟩;unfold wq;rw[dif_pos h1];obtain⟨n,z,H,Z,k1,w,_⟩:=h;obtain⟨u,C,H',Z',A,B,_⟩:=Classical.choose_spec h1;have e1:=(nI E (Nat.le_max_left n u)).go _ _ _ _ k1;have e2:=(nI E (Nat.le_max_right n u)).go _ _ _ _ A;rw[e1]at e2;cases e2;rw[FR.oc B w]
theorem HT {E:Env} {f:FuncId} {az:List V} {y:V} (B:V.scalar y=true) (h:∃n H',run E n (.fn f) az []=some (y,H')):Bc E f az y:=by
 obtain⟨n,H',h⟩:=h;exact⟨n,y,H',λ_=>False,h,.same _ (jR B),λ_ h=>h.elim,⟨λ_ _ _ h=>h.elim⟩⟩
end Go.VE
