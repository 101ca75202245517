/-
 Plain values and the steps of a certificate.
-/
import Derived.KernelRfl
import Derived.Test.YtlmckmkfopljoaaGreatDoorN2
set_option linter.all false
namespace Go.VE
variable [bV]
inductive Sl (α:Type) where
 | nil
 | emp
 | row (l:List α)
 | part (l:List α)
 deriving Inhabited
def Sl.l {α:Type}:Sl α->List α
 | .nil|.emp=>[]
 | .row l|.part l=>l
def Sl.k {α:Type}:Sl α->Fl
 | .nil=>.nil
 | .emp=>.emp
 | .row _=>.row
 | .part _=>.part
class bB (α:Type) where
 cells:α->List V
 agg:Bool
 size:Nat
 len:∀a,(cells a).length=size
 good:∀a,V.cG (cells a)=true
 one:∀a,(cells a).all V.one=true
 plain:agg=false->size=1
def cells {α:Type} [bB α] (a:α):List V:=bB.cells a
def enc {α:Type} [bB α] (a:α):V:=if bB.agg α then .agg (cells a)else(cells a).headD .undef
def rows {α:Type} [bB α] (l:List α):List (List V):=l.map cells
def cq {α:Type} [bB α] (s:Sl α):V:=ow s.k (bB.size α) (rows s.l)
instance:bB Int where
 cells n:=[.int .i64 n]
 agg:=false
 size:=1
 len _:=rfl
 good _:=rfl
 one _:=rfl
 plain _:=rfl
instance:bB Bool where
 cells b:=[.bool b]
 agg:=false
 size:=1
 len _:=rfl
 good _:=rfl
 one _:=rfl
 plain _:=rfl
instance:bB ByteArray where
 cells s:=[.str s]
 agg:=false
 size:=1
 len _:=rfl
 good _:=rfl
 one _:=rfl
 plain _:=rfl
structure aY where
 proc:Int
 index:Int
 deriving DecidableEq,Inhabited
instance:bB aY where
 cells x:=[.int .i64 x.proc,.int .i64 x.index]
 agg:=true
 size:=2
 len _:=rfl
 good _:=rfl
 one _:=rfl
 plain h:=by cases h
@[simp] theorem WR (n:Int):enc n=.int .i64 n:=rfl
@[simp] theorem WC (n:Bool):enc n=.bool n:=rfl
@[simp] theorem WQ (n:ByteArray):enc n=.str n:=rfl
@[simp] theorem V8 (n:Int):cells n=[.int .i64 n]:=rfl
@[simp] theorem Vm (n:Bool):cells n=[.bool n]:=rfl
@[simp] theorem V9 (n:ByteArray):cells n=[.str n]:=rfl
@[simp] theorem WJ (n:aY):cells n=[.int .i64 n.proc,.int .i64 n.index]:=rfl
@[simp] theorem U7 (n:aY):enc n=.agg [.int .i64 n.proc,.int .i64 n.index]:=rfl
section
variable {α:Type} [bB α]
theorem kI (l:List α):(rows l).length=l.length:=by simp[rows]
def idx (s:Sl α) (i:Int):Option α:=if 0<=i then s.l[i.toNat]? else none
theorem O5 {N:Nat->FuncId} (s:Sl α) (k:IntKind) (i:Int) {n:Nat} (B:n=bB.size α):bn N (.idxS n) [cq s,.int k i]=(idx s i).map λx=>.fptr (cells x):=by
 subst B;unfold idx cq;simp only[bn,lR]
 by_cases h:i<0
 .rw[if_pos h,if_neg (by omega)];rfl
 .rw[if_neg h,if_pos (by omega)]
  cases s <;> simp[Sl.k,Sl.l,ow,rows,Function.comp_def]
theorem M8 {N:Nat->FuncId} (s:Sl α):bn N .lenSl [cq s]=some (.int .i64 s.l.length):=by
 cases s <;> simp[bn,qL,cq,Sl.k,Sl.l,ow,kI]
end
section
variable {S:Sys} {c:b7}
end
end Go.VE
namespace Go.VE
variable [bV]
section
variable {S:Sys} {c:b7}
def isSlice:uT->Bool
 | .slice ..=>true
 | _=>false
theorem Q0 (dr:Bool) (fr:List Nat) (dst:Option Nat) (now:Bool) (p:uT) (az:List Arg) (st:St) (h:isSlice p=false) :
 fG S c dr fr ⟨dst,none,now,.p p,az,[],[]⟩ st=(b_ S.N st.g az).bind λsvs=>(kz S.N st.m p svs).bind λx=>some (c8 st dst x):=by
 unfold fG mG;have u:fZ S.N st.g ⟨dst,none,now,.p p,az,[],[]⟩=none:=by unfold fZ;grind
 simp[wanted,u]
 cases z:b_ S.N st.g az with
 | none=>rfl
 | some svs=>
  simp;cases p <;> first|(simp[isSlice]at h;done)|(cases w:kz S.N st.m _ svs <;> simp[w])
theorem Ka (N:Nat->FuncId) (m:Tb bJ) (p:uT) (svs:List SV) (xs:List V) (h:dD svs=some xs):kz N m p svs=(bn N p xs).bind λx=>some (.v x):=by
 unfold kz;rw[h];dsimp only;cases bn N p xs <;> rfl
theorem FU (dr:Bool) (fr:List Nat) (dst:Option Nat) (now:Bool) (q:J8) (az:List Arg) (st:St) :
 fG S c dr fr ⟨dst,none,now,.r q,az,[],[]⟩ st=(b_ S.N st.g az).bind λsvs=>if !dr||now||fc fr svs then(pg st.m q svs).bind λx=>some (c8 st dst x)else none:=by
 unfold fG mG;have u:fZ S.N st.g ⟨dst,none,now,.r q,az,[],[]⟩=none:=rfl;simp[wanted,u]
 cases w:b_ S.N st.g az with
 | none=>rfl
 | some svs=>
  simp;split
  .cases z:pg st.m q svs <;> simp
  .rfl
theorem Dz (dr:Bool) (fr:List Nat) (d:Nat) (now:Bool) (q:NZ) (az:List Arg) (st:St) :
 fG S c dr fr ⟨some d,none,now,.a q,az,[],[]⟩ st=(b_ S.N st.g az).bind λsvs=>if st.new d then(qf st.m q svs d).bind λr=>some { st with g:=bQ st.g d r.2,m:=bQ st.m d r.1 } else none:=by
 unfold fG mG;have u:fZ S.N st.g ⟨some d,none,now,.a q,az,[],[]⟩=none:=rfl;simp[wanted,u]
 cases w:b_ S.N st.g az with
 | none=>rfl
 | some svs=>
  simp;split
  .cases z:qf st.m q svs d <;> simp[c8]
  .rfl
theorem wB (dr:Bool) (fr:List Nat) (dst:Option Nat) (now:Bool) (q:JC) (az:List Arg) (st:St) :
 fG S c dr fr ⟨dst,none,now,.l q,az,[],[]⟩ st=(b_ S.N st.g az).bind λsvs=>if !dr||now then(nh st dst q svs).bind λr=>some (c8 r.2 dst r.1)else none:=by
 unfold fG mG;have u:fZ S.N st.g ⟨dst,none,now,.l q,az,[],[]⟩=none:=rfl;simp[wanted,u]
 cases w:b_ S.N st.g az with
 | none=>rfl
 | some svs=>
  simp;split
  .cases z:nh st dst q svs <;> simp
  .rfl
def mh:List SV->Option (FuncId×List SV)
 | .clo f a b::vs=>some (f,a++vs++b)
 | .v (.clo f a b)::vs=>some (f,a.map .v++vs++b.map .v)
 | _=>none
theorem A9 (dr:Bool) (fr:List Nat) (dst:Option Nat) (now:Bool) (az:List Arg) (st:St) (svs:List SV) (f:FuncId) (args:List SV) (B:b_ S.N st.g az=some svs) (hc:mh svs=some (f,args)) :
 fG S c dr fr ⟨dst,none,now,.c,az,[],[]⟩ st=(ga S c dst dr (!dr||now) (gx st.m fr) f args st).bind λr=>some (c8 r.2 dst r.1):=by
 unfold fG mG;unfold mh at hc;split at hc
 .obtain⟨rfl,rfl⟩:=hc;simp[wanted,fZ,B];cases ga S c dst dr _ _ _ _ st <;> simp
 .obtain⟨rfl,rfl⟩:=hc;simp[wanted,fZ,B];cases ga S c dst dr _ _ _ _ st <;> simp
 grind
noncomputable def Qr {β:Type} (S:Sys) (c:b7) (fr:List Nat) (l:List RO) (k:St->Option β):St->Option β:=λst=>(nD S c false fr l st).bind k
noncomputable def Qv {β:Type} (S:Sys) (c:b7) (fr:List Nat) (l:List RO) (k:St->Option β):St->Option β:=λst=>(nD S c true fr l st).bind k
noncomputable def T7 {β:Type} (S:Sys) (c:b7) (fr dd:List Nat) (l:List RO) (k:St->Option β):St->Option β:=λst=>Qr S c fr l k (pH dd st)
noncomputable def UA {β:Type} (S:Sys) (c:b7) (fr dd:List Nat) (l:List RO) (k:St->Option β):St->Option β:=λst=>Qv S c fr l k (pH dd st)
@[congr] theorem VC {β:Type} {fr:List Nat} {l:List RO} {k:St->Option β} {st st':St} (h:st=st'):Qr S c fr l k st=Qr S c fr l k st':=by rw[h]
@[congr] theorem VB {β:Type} {fr B:List Nat} {l:List RO} {k:St->Option β} {st st':St} (D:fr=B) (h:st=st'):Qv S c fr l k st=Qv S c B l k st':=by simp_all
@[congr] theorem VG {β:Type} {fr dd:List Nat} {l:List RO} {k:St->Option β} {st st':St} (h:st=st'):T7 S c fr dd l k st=T7 S c fr dd l k st':=by rw[h]
@[congr] theorem Vn {β:Type} {fr B dd:List Nat} {l:List RO} {k:St->Option β} {st st':St} (D:fr=B) (h:st=st'):UA S c fr dd l k st=UA S c B dd l k st':=by simp_all
@[congr] theorem V6 {dr:Bool} {fr:List Nat} {o:RO} {st st':St} (h:st=st'):fG S c dr fr o st=fG S c dr fr o st':=by rw[h]
end
section
variable {S:Sys} {c:b7} (dr:Bool) (fr:List Nat) (dst:Option Nat) (now:Bool) (az:List Arg) (st:St)
end
end Go.VE
namespace Go.VE
variable [bV]
inductive Fm where
 | seq (b:RC)
 | blk (id:Nat)
 | gst (x:Gh)
section
variable (S:Sys) (c:b7) {β:Type} (Q:Out×St->Option β)
noncomputable def runK:List Fm->Out×St->Option β
 | [],r=>Q r
 | .seq b::fs,(.norm,st)=>(cE S c b st).bind (runK fs)
 | .seq _::fs,r=>runK fs r
 | .blk id::fs,(.exit k,st)=>if k=id then runK fs (.norm,st)else runK fs (.exit k,st)
 | .blk _::fs,r=>runK fs r
 | .gst x::fs,(.norm,st)=>(ghost x st).bind λst=>runK fs (.norm,st)
 | .gst _::fs,r=>runK fs r
noncomputable def go (rc:RC) (fs:List Fm) (st:St):Option β:=(cE S c rc st).bind (runK S c Q fs)
noncomputable def Rj (fs:List Fm):St->Option β:=λst=>runK S c Q fs (.norm,st)
def bf {α:Type} (t:Bool) (a b:α):α:=if t then a else b
end
@[congr] theorem Wr {α:Type} {t B:Bool} {a b a' D:α} (h:t=B) (G:B=true->a=a') (J:B=false->b=D):bf t a b=bf B a' D:=by
 subst h;cases t
 .exact J rfl
 .exact G rfl
section
variable {S:Sys} {c:b7} {β:Type} {Q:Out×St->Option β}
@[congr] theorem go_congr {a:RC} {fs:List Fm} {st st':St} (h:st=st'):go S c Q a fs st=go S c Q a fs st':=by rw[h]
@[congr] theorem Va {fs:List Fm} {st st':St} (h:st=st'):Rj S c Q fs st=Rj S c Q fs st':=by rw[h]
@[congr] theorem VY {fs:List Fm} {r B:Out×St} (h:r=B):runK S c Q fs r=runK S c Q fs B:=by rw[h]
theorem HD (rc:RC) (st:St):(cE S c rc st).bind Q=go S c Q rc [] st:=by
 simp only[go];cases cE S c rc st <;> rfl
inductive Fw (ν ε ρ:Type) where
 | n (a:ν)
 | x (e:ε)
 | r (b:ρ)
def jD {σ ε ρ:Type} (step:σ->Option (Fw σ ε ρ)):Nat->σ->Option (Fw Empty ε ρ)
 | 0,_=>none
 | k+1,s=>match step s with
  | some (.n B)=>jD step k B
  | some (.x e)=>some (.x e)
  | some (.r b)=>some (.r b)
  | none=>none
theorem w8 {σ ε ρ:Type} {step:σ->Option (Fw σ ε ρ)}:∀{k B:Nat} {s:σ} {r:Fw Empty ε ρ},k<=B->jD step k s=some r->jD step B s=some r
 | 0,_,_,_,_,h=>by simp[jD]at h
 | k+1,0,_,_,hk,_=>by omega
 | k+1,B+1,s,r,hk,h=>by
  simp only[jD]at h ⊢;split at h
  .exact w8 (Nat.le_of_succ_le_succ hk) h
  .exact h
  .exact h
  .simp at h
open Classical in
noncomputable def bW {σ ε ρ:Type} (step:σ->Option (Fw σ ε ρ)) (s:σ):Option (Fw Empty ε ρ):=
 if h:∃k r,jD step k s=some r then some (Classical.choose (Classical.choose_spec h))else none
theorem ou {σ ε ρ:Type} {step:σ->Option (Fw σ ε ρ)} {s:σ} {r:Fw Empty ε ρ}:bW step s=some r↔∃k,jD step k s=some r:=by
 unfold bW;constructor
 .intro h;split at h
  .rename_i u;simp only[ζa]at h;exact⟨_,by rw[<-h];exact Classical.choose_spec (Classical.choose_spec u)⟩
  .simp at h
 .rintro⟨k,hk⟩;have u:∃k r,jD step k s=some r:=⟨k,r,hk⟩;rw[dif_pos u];have z:=Classical.choose_spec (Classical.choose_spec u);have A:=w8 (Nat.le_max_left (Classical.choose u) k) z;have w:=w8 (Nat.le_max_right (Classical.choose u) k) hk;rw[A]at w;exact w
def Fw.out {ν ε ρ:Type} (D:ν->St) (B:ε->Nat×St) (G:ρ->St):Fw ν ε ρ->Out×St
 | .n a=>(.norm,D a)
 | .x e=>(.exit (B e).1,(B e).2)
 | .r b=>(.ret,G b)
def Fw.elim {ε ρ γ:Type} (B:ε->γ) (fr:ρ->γ):Fw Empty ε ρ->γ
 | .x e=>B e
 | .r b=>fr b
end
end Go.VE
namespace Go.VE
variable [bV]
section
variable {α:Type} [bB α]
theorem Fz (s:Sl α):V.one (cq s)=true:=by cases s <;> rfl
theorem M4 (l:List α):V.mX (rows l)=true:=by
 induction l with
 | nil=>rfl
 | cons a l u=>simp only[rows,List.map_cons,V.mX,ζh];exact⟨bB.good a,u⟩
theorem Li (s:Sl α):V.good (cq s)=true:=by
 cases s <;> simp only[cq,Sl.k,ow,V.good] <;> exact M4 _
instance:bB (Sl α) where
 cells s:=[cq s]
 agg:=false
 size:=1
 len _:=rfl
 good s:=by simp only[V.cG,Li,Bool.and_self]
 one s:=by simp[Fz]
 plain _:=rfl
end
section
variable {S:Sys} {c:b7}
def MJ (x:Option SV) (b:Bool) (y z:Option St):Option St:=
 match x with
 | some (.v (.bool t))=>bf (t==b) y z
 | some (.v _)=>z
 | _=>none
@[congr] theorem UE {x B:Option SV} {b:Bool} {y z:Option St} (h:x=B):MJ x b y z=MJ B b y z:=by rw[h]
def QV {β:Type} (x:Option SV) (y z:Option β):Option β:=
 match x with
 | some (.v (.bool t))=>bf t y z
 | _=>none
@[congr] theorem Vb {β:Type} {x B:Option SV} {y z:Option β} (h:x=B):QV x y z=QV B y z:=by rw[h]
def fS (c:b7) (f:FuncId) (az:List V):Option (List V):=(c f (az.map .v) []).bind λr=>cT r.2 8 r.1
def MC (now:Bool) (args:List SV) (ok:Bool) (st:St) (ys:List V):Option (SV×St):=
 if(result ys).scalar||ok then some (.v (result ys),st)else if now then(rowsOf args).map λds=>(.v (result ys),{ st with m:=pq ds st.m })else none
theorem Rr (dst:Option Nat) (dr now:Bool) (old:List SV->Bool) (f:FuncId) (args:List SV) (st:St) (hk:S.E.keep f=false) :
 ga S c dst dr now old f args st=(cT st.m 8 args).bind λaz=>if now||old args then(fS c f az).bind (MC now args (dD args).isSome st)else none:=by
 unfold ga fS;simp only[hk,Bool.false_eq_true,if_false]
 cases cT st.m 8 args with
 | none=>rfl
 | some az=>
  simp only[ζb];split
  .cases c f (az.map .v) []with
   | none=>rfl
   | some r=>
    obtain⟨rs,m'⟩:=r;simp only[ζb];cases cT m' 8 rs <;> rfl
  .rfl
end
section
variable {S:Sys} {T:pT}
def HX (rs:List RV):Out×St->Option (List V)
 | (.exit _,_)=>none
 | (_,st)=>(ku st rs).bind (cT st.m 8)
theorem Oq {f:FuncId} {rf:RF} (B:T f=some rf) (az:List V) (D:az.length<=rf.na):fS (dM S T) f az=go S (dM S T) (HX rf.rs) rf.body [] (start (az.map .v) []):=by
 unfold fS;rw[rJ B];unfold mT;rw[if_pos (by simpa using D),<-HD]
 cases h:cE S (dM S T) rf.body (start (az.map .v) [])with
 | none=>rfl
 | some r=>
  obtain⟨o,st⟩:=r;cases o <;> simp only[ζb,HX] <;> (try rfl) <;> (cases ku st rf.rs <;> rfl)
end
end Go.VE
namespace Go.VE
variable [bV]
variable {N:Nat->FuncId}
def yY (k:IntKind) (a b:Int):Option Int:=if b=0 then none else some (k.wrap (a.tdiv b))
theorem TZ (e:Option KT) (q:Option Nat) (k:IntKind) (a b:Int):bn N (.bin e q .quo) [.int k a,.int k b]=(yY k a b).bind λx=>some (.int k x):=by
 simp only[bn,jv,yY,if_true];split <;> rfl
theorem HS (o:Nat) (cs:List V):bn N (.fieldAddr o) [.fptr cs]=if o<=cs.length then some (.fptr (cs.drop o))else none:=rfl
def kO (s:ByteArray) (n:Int):Option Int:=if 0<=n then(s[n.toNat]?).map λb=>(b.toNat:Int)else none
theorem Mx (s:ByteArray) (k:IntKind) (n:Int):bn N .idxStr [.str s,.int k n]=(kO s n).bind λx=>some (.int .u8 x):=by
 simp only[bn,kO];split
 .cases s[n.toNat]? <;> rfl
 .rfl
theorem Pw (z:List V) (pl:List (Nat×Nat)) (vs:List V):bn N (.build z pl) vs=(kK z pl vs).bind λcs=>some (.agg cs):=by
 simp only[bn];cases kK z pl vs <;> rfl
section
variable {α:Type} [bB α]
theorem Ei (s:Sl α) (k:IntKind) (i:Int) (n:Nat) (B:n=bB.size α):bn N (.idxS n) [cq s,.int k i]=(idx s i).bind λx=>some (.fptr (cells x)):=by
 rw[O5 s k i B];cases idx s i <;> rfl
theorem zb (s:Sl α):bn N .lenSl [cq s]=some (.int .i64 s.l.length):=M8 s
def Sl.isNil {α:Type} (s:Sl α):Option Bool:=
 match s with
 | .nil=>some true
 | .emp=>none
 | _=>some false
theorem Om (q:Option Nat) (s:Sl α):bn N (.bin (some .slice) q .eql) [cq s,.bX]=s.isNil.bind λt=>some (.bool t):=by
 cases s <;> rfl
def jS (s:Sl α) (lo hi:Option Int):Option (Sl α):=
 (dX s.l.length lo hi).map λ(l,h)=>match s with
  | .nil=>.nil
  | .emp=>.emp
  | .row x=>.part ((x.take h).drop l)
  | .part x=>.part ((x.take h).drop l)
theorem L8 (s:Sl α) (lo hi:Option Int) (n:Nat) (B:n=bB.size α):iM n (cq s) lo hi=(jS s lo hi).bind λx=>some (cq x):=by
 subst B
 cases s with
 | nil=>simp only[cq,Sl.k,ow,iM,jS,Sl.l,List.length_nil];cases dX 0 lo hi <;> rfl
 | emp=>simp only[cq,Sl.k,ow,iM,jS,Sl.l,List.length_nil];cases dX 0 lo hi <;> rfl
 | row l=>simp only[cq,Sl.k,ow,iM,jS,Sl.l,if_true,kI];cases dX l.length lo hi <;> simp[rows,List.map_take,List.map_drop]
 | part l=>simp only[cq,Sl.k,ow,iM,jS,Sl.l,if_true,kI];cases dX l.length lo hi <;> simp[rows,List.map_take,List.map_drop]
end
theorem NP (m:Tb bJ) (n:Nat) (a:Bool) (cs:List V):pg m (.load n a) [.v (.fptr cs)]=(cut cs 0 n).bind λr=>(mk a r).bind λx=>some (.v x):=by
 simp only[pg,dW]
 cases cut cs 0 n with
 | none=>rfl
 | some r=>simp only[ζb];cases mk a r <;> rfl
end Go.VE
namespace Go.VE
variable [bV]
section
variable {α:Type} [bB α]
def cW (s:Sl α):bJ:=.sl s.k (bB.size α) (rows s.l)
def Sl.rQ (s:Sl α) (i:Int):Option Nat:=if 0<=i/\i.toNat<s.l.length then some i.toNat else none
def Sl.get (s:Sl α) (i:Nat):Option α:=s.l[i]?
def Sl.put (s:Sl α) (i:Nat) (x:α):Option (Sl α):=
 if i<s.l.length then some (match s with|.row l=>.row (l.set i x)|.part l=>.part (l.set i x)|s=>s)else none
def iP (s:Sl α) (x:α):Option (Sl α):=if s.l.length+1<=2147483648 then some (.row (s.l++[x]))else none
def Cd (n:Int) (z:α):Option (Sl α):=if 0<=n/\n<=2147483648 then some (.row (List.replicate n.toNat z))else none
end
section
variable {α:Type} [bB α] {N:Nat->FuncId} {m:Tb bJ}
def LV (n d:Nat) (o:Option bJ) (i:Int):Option SV:=
 match o with
 | some (.sl k es u)=>if cQ k/\es=n/\0<=i/\i.toNat<u.length then some (.el d i.toNat 0)else none
 | _=>none
theorem Ta (n d:Nat) (k:IntKind) (i:Int):kz N m (.idxS n) [.own d,.v (.int k i)]=LV n d (bg m d) i:=by
 simp[kz,dD,AX,LV]
 grind
theorem SX (n d:Nat) (s:Sl α) (i:Int) (h:n=bB.size α):LV n d (some (cW s)) i=(s.rQ i).bind λj=>some (.el d j 0):=by
 simp[LV,cW,kI,Sl.rQ]
 cases s with
 | nil=>simp[Sl.l,cQ]
 | emp=>simp[Sl.l,cQ]
 | row l=>simp[Sl.k,Sl.l,cQ];grind
 | part l=>simp[Sl.k,Sl.l,cQ];grind
def Km (o:Option bJ):Option SV:=
 match o with
 | some (.sl _ _ u)=>some (.v (.int .i64 u.length))
 | _=>none
theorem OF (d:Nat):kz N m .lenSl [.own d]=Km (bg m d):=by
 simp[kz,dD,AX,Km]
 grind
theorem SZ (s:Sl α):Km (some (cW s))=some (.v (.int .i64 s.l.length)):=by simp[Km,cW,kI]
def Rb (n:Nat) (a:Bool) (o:Nat) (ob:Option bJ):Option SV:=
 match ob with
 | some (.box cs)=>u5 n a ((cs.drop o).take n)
 | _=>none
theorem WD (n:Nat) (a:Bool) (d o:Nat):pg m (.load n a) [.ptr d o]=Rb n a o (bg m d):=by
 rfl
theorem Na (n:Nat) (a:Bool) (o:Nat) (cs:List SV):Rb n a o (some (.box cs))=u5 n a ((cs.drop o).take n):=rfl
def Ip (n:Nat) (a:Bool) (i o:Nat) (ob:Option bJ):Option SV:=
 match ob with
 | some (.sl _ _ u)=>match u[i]? with
  | some cs=>((cut cs o n).bind (mk a)).map .v
  | none=>none
 | _=>none
theorem VA (n:Nat) (a:Bool) (d i o:Nat):pg m (.load n a) [.el d i o]=Ip n a i o (bg m d):=by
 rfl
theorem Nb (n:Nat) (a:Bool) (i o:Nat) (s:Sl α):Ip n a i o (some (cW s))=(s.get i).bind λx=>(cut (cells x) o n).bind λr=>(mk a r).bind λy=>some (.v y):=by
 simp only[Ip,cW,Sl.get,rows,List.getElem?_map]
 cases s.l[i]? with
 | none=>rfl
 | some x=>
  simp only[Option.map_some,ζb]
  cases cut (cells x) o n with
  | none=>rfl
  | some r=>simp ;cases mk a r <;> rfl
theorem VZ (z:α) (n:Int) (d:Nat) (size:Nat) (zero:List V) (h:zero=cells z) (B:size=bB.size α) :
 qf m (.makeSl size zero) [.v (.int .i64 n),.v (.int .i64 n)] d=(Cd n z).bind λs=>some (cW s,.own d):=by
 subst h B;simp[qf,Cd];split
 .simp[cW,Sl.k,Sl.l,rows]
 .rfl
def Ef (st:St) (d i o size:Nat) (x:V) (ob:Option bJ):Option (SV×St):=
 match ob with
 | some (.sl k es u)=>match u[i]? with
  | some cs=>if x.cells.length=size/\o+size<=cs.length/\x.cells.all V.one=true then
   some (.v .undef,{ st with m:=bQ st.m d (.sl k es (u.set i (cs.take o++x.cells++cs.drop (o+x.cells.length)))) })else none
  | none=>none
 | _=>none
theorem LY (st:St) (dst:Option Nat) (size d i o:Nat) (x:V):nh st dst (.store size) [.el d i o,.v x]=Ef st d i o size x (bg st.m d):=by
 rfl
theorem LU (g:Tb SV) (p:List Nat) (w:List (List V)) (B:Bool) (y:Nat) (d i size:Nat) (x:V) (a:α) (D:x.cells=cells a) (G:size=bB.size α) (s:Sl α) :
 Ef ⟨g,m,p,w,B,y⟩ d i 0 size x (some (cW s))=(s.put i a).bind λJ=>some (.v .undef,⟨g,bQ m d (cW J),p,w,B,y⟩):=by
 have h1:(cells a).all V.one=true:=bB.one a;have u:∀b:α,(cells b).length=bB.size α:=bB.len;subst G;simp only[Ef,cW,rows,List.getElem?_map,D,Sl.put]
 by_cases hi:i<s.l.length
 .have hg  := ζd hi;rw[if_pos hi,hg];simp[u,h1]
  cases s with
  | nil=>simp[Sl.l]at hi
  | emp=>simp[Sl.l]at hi
  | row l=>simp[Sl.k,Sl.l,List.drop_of_length_le,u]
  | part l=>simp[Sl.k,Sl.l,List.drop_of_length_le,u]
 grind
def yB (st:St) (t n:Nat) (s:SV) (xs ys:Option (List (List V))):Option (SV×St):=
 match xs,ys with
 | some _,some []=>match s with
  | .own d=>match bg st.m d with
   | some ob=>if St.new { st with m:=eo d st.m } t then some (.own t,{ st with m:=bQ (eo d st.m) t ob })else none
   | none=>none
  | .v .bX=>if st.new t then some (.own t,{ st with m:=bQ st.m t (.sl .nil n []) })else none
  | .v .dA=>if st.new t then some (.own t,{ st with m:=bQ st.m t (.sl .emp n []) })else none
  | _=>none
 | some xs,some ys=>
  if xs.length+ys.length<=2147483648/\GW s=true then
   if St.new { st with m:=giveUp st.m s } t then some (.own t,{ st with m:=bQ (giveUp st.m s) t (.sl .row n (xs++ys)) })else none
  else none
 | _,_=>none
theorem Ab (st:St) (t n:Nat) (s x:SV):nh st (some t) (.append n) [s,x]=yB st t n s (kB st.m n s) (kB st.m n x):=by
 cases s <;> cases x <;> (rfl)
def K8 (n:Nat) (o:Option bJ):Option (List (List V)):=
 match o with
 | some (.sl k es u)=>if cQ k then(if es=n then some u else none)else some []
 | _=>none
theorem DZ (n d:Nat):kB m n (.own d)=K8 n (bg m d):=by
 simp[kB,K8]
 grind
theorem A7 (n:Nat) (s:Sl α) (h:n=bB.size α):K8 n (some (cW s))=some (rows s.l):=by
 subst h;cases s <;> simp[K8,cW,Sl.k,Sl.l,cQ,rows]
theorem RE (n:Nat):kB m n (.v .bX)=some []:=rfl
theorem S4 (n:Nat):kB m n (.v .dA)=some []:=rfl
theorem NI (g:Tb SV) (p:List Nat) (w:List (List V)) (B:Bool) (y:Nat) (t n d:Nat) (l:List α) (x:α) (h:n=bB.size α):yB ⟨g,m,p,w,B,y⟩ t n (.own d) (some (rows l)) (some (rows [x])) =
 (iP (.row l) x).bind λs=>if St.new ⟨g,eo d m,p,w,B,y⟩ t then some (.own t,⟨g,bQ (eo d m) t (cW s),p,w,B,y⟩)else none:=by
 subst h;have e:(rows l).length+(rows [x]).length=l.length+1:=by simp[kI]
 by_cases h:l.length+1<=2147483648
 .have h1:iP (.row l) x=some (.row (l++[x])):=if_pos h;have u:yB ⟨g,m,p,w,B,y⟩ t (bB.size α) (.own d) (some (rows l)) (some (rows [x]))=if St.new ⟨g,eo d m,p,w,B,y⟩ t then some (.own t,⟨g,bQ (eo d m) t (.sl .row (bB.size α) (rows l++rows [x])),p,w,B,y⟩)else none:=if_pos ⟨by omega,rfl⟩
  rw[h1,u];simp[cW,Sl.k,Sl.l,rows]
 .have h1:iP (.row l) x=none:=if_neg h;have u:yB ⟨g,m,p,w,B,y⟩ t (bB.size α) (.own d) (some (rows l)) (some (rows [x]))=none:=if_neg (λq=>h (by omega))
  grind
theorem MN (g:Tb SV) (p:List Nat) (w:List (List V)) (B:Bool) (y:Nat) (t n:Nat) (x:α) (h:n=bB.size α):yB ⟨g,m,p,w,B,y⟩ t n (.v .bX) (some []) (some (rows [x])) =
 if St.new ⟨g,m,p,w,B,y⟩ t then some (.own t,⟨g,bQ m t (cW (.row [x])),p,w,B,y⟩)else none:=by
 subst h;rfl
theorem NT (g:Tb SV) (p:List Nat) (w:List (List V)) (B:Bool) (y:Nat) (t n:Nat) (x:α) (h:n=bB.size α):yB ⟨g,m,p,w,B,y⟩ t n (.v .dA) (some []) (some (rows [x])) =
 if St.new ⟨g,m,p,w,B,y⟩ t then some (.own t,⟨g,bQ m t (cW (.row [x])),p,w,B,y⟩)else none:=by
 subst h;rfl
end
theorem ye (g:Tb SV) (m:Tb bJ) (p:List Nat) (w:List (List V)) (B:Bool) (y d:Nat):St.new ⟨g,m,p,w,B,y⟩ d=(!(p.contains d)&&(bg m d).isNone && !(vi d g) && !(sO d m)):=rfl
theorem r_ (d:Nat):vi d []=false:=rfl
theorem qA (d n:Nat) (x:SV) (r:Tb SV):vi d ((n,x)::r)=(SV.cN d x||vi d r):=rfl
theorem rL (d:Nat):sO d []=false:=rfl
theorem qo (d n:Nat) (x:bJ) (r:Tb bJ):sO d ((n,x)::r)=(bJ.cN d x||sO d r):=rfl
theorem xN (d:Nat) (x:V):SV.cN d (.v x)=false:=rfl
theorem tF (d e:Nat):SV.cN d (.own e)=(e==d):=rfl
theorem th (d e o:Nat):SV.cN d (.ptr e o)=(e==d):=rfl
theorem vC (d e i o:Nat):SV.cN d (.el e i o)=(e==d):=rfl
theorem vE (d e:Nat):SV.cN d (.mp e)=(e==d):=rfl
theorem tf (d:Nat) (f:FuncId) (a b:List SV):SV.cN d (.clo f a b)=(SV.dz d a||SV.dz d b):=rfl
theorem s_ (d:Nat) (l:List SV):SV.cN d (.tup l)=SV.dz d l:=rfl
theorem rP (d:Nat):SV.dz d []=false:=rfl
theorem ql (d:Nat) (x:SV) (r:List SV):SV.dz d (x::r)=(SV.cN d x||SV.dz d r):=rfl
theorem sj (d:Nat) (cs:List SV):bJ.cN d (.box cs)=SV.dz d cs:=rfl
theorem EZ (m:Tb bJ) (n:Nat):cT m n []=some []:=by cases n <;> simp[cT]
theorem Df (m:Tb bJ) (n:Nat) (x:SV) (r:List SV):cT m n (x::r)=(shut m n x).bind λy=>(cT m n r).bind λs=>some (y::s):=by
 cases n <;> (simp[cT];cases shut m _ x <;> (try rfl) <;> (cases cT m _ r <;> rfl))
theorem UU (m:Tb bJ) (n:Nat) (x:V):shut m n (.v x)=some x:=by cases n <;> simp[shut]
theorem OA (m:Tb bJ) (n:Nat) (f:FuncId) (a b:List SV):shut m (n+1) (.clo f a b)=(cT m n a).bind λx=>(cT m n b).bind λy=>some (.clo f x y):=by
 simp[shut];cases cT m n a <;> (try rfl) <;> (cases cT m n b <;> rfl)
theorem OV (m:Tb bJ) (n:Nat) (l:List SV):shut m (n+1) (.tup l)=(cT m n l).bind λx=>some (.tup x):=by
 simp[shut];cases cT m n l <;> rfl
theorem Pd (m:Tb bJ) (n:Nat) (l:List SV):shut m (n+1) (.agg l)=(cT m n l).bind λx=>some (.agg x):=by
 simp[shut];cases cT m n l <;> rfl
theorem s7 {α:Type} (n:Nat):eo n ([]:Tb α)=[]:=rfl
theorem sw {α:Type} (n k:Nat) (x:α) (r:Tb α):eo n ((k,x)::r)=if k=n then eo n r else(k,x)::eo n r:=rfl
theorem mapM_nil (f:List SV->List SV):mapM f []=[]:=rfl
end Go.VE
namespace Go.VE
variable [bV]
section
variable {N:Nat->FuncId} {m:Tb bJ}
theorem Tj:result []=.tup []:=rfl
theorem RM (x:V):result [x]=x:=rfl
theorem Ss (x y:V) (l:List V):result (x::y::l)=.tup (x::y::l):=rfl
theorem Iz (p:uT) (a:V):kz N m p [.v a]=(bn N p [a]).bind λx=>some (.v x):=Ka N m p _ [a] rfl
theorem vU (p:uT) (a b:V):kz N m p [.v a,.v b]=(bn N p [a,b]).bind λx=>some (.v x):=Ka N m p _ [a,b] rfl
theorem lF (l:List V):dD (l.map .v)=some l:=by
 induction l with
 | nil=>rfl
 | cons a l u=>simp only[List.map_cons,dD,u];rfl
theorem wG (n:Nat) (l:List V):cT m n (l.map .v)=some l:=by
 induction l with
 | nil=>exact EZ m n
 | cons a l u=>rw[List.map_cons,Df,UU,u];rfl
theorem Sl.QN {α:Type} (l:List α):(Sl.row l).l=l:=rfl
theorem wT (cs:List V):kK cs [] []=some cs:=rfl
theorem vj (cs:List V) (off size:Nat) (pl:List (Nat×Nat)) (v:V) (vs:List V):kK cs ((off,size)::pl) (v::vs) =
 if v.cells.length=size/\off+v.cells.length<=cs.length then kK (cs.take off++v.cells++cs.drop (off+v.cells.length)) pl vs else none:=by
 simp only[kK]
 by_cases h:v.cells.length=size <;> by_cases u:off+v.cells.length<=cs.length
 .rw[if_neg (by simp[h];omega),if_pos ⟨h,u⟩]
 .rw[if_pos (by simp[h];omega),if_neg (λq=>u q.2)]
 .rw[if_pos (by simp[h]),if_neg (λq=>h q.1)]
 .rw[if_pos (by simp[h]),if_neg (λq=>h q.1)]
theorem Du (k:IntKind) (n:Int):V.cells (.int k n)=[.int k n]:=rfl
theorem A_ (n:Bool):V.cells (.bool n)=[.bool n]:=rfl
theorem Da (n:ByteArray):V.cells (.str n)=[.str n]:=rfl
theorem Dc:V.cells .bX=[.bX]:=rfl
theorem qy (k:IntKind) (n:Int):V.one (.int k n)=true:=rfl
theorem oK (n:Bool):V.one (.bool n)=true:=rfl
theorem qq (n:ByteArray):V.one (.str n)=true:=rfl
end
end Go.VE
namespace Go.VE
variable [bV]
section
variable {S:Sys} {c:b7} {β γ δ:Type} {Q:Out×St->Option β} {L:Option β} {e:γ->Option β}
theorem N0 {dr:Bool} {fr:List Nat} {d:Option Nat} {gd:Option (Nat×Bool)} {now:Bool} {k:K} {az:List Arg} {st:St} (h:wanted st.g gd=some true) :
 fG S c dr fr ⟨d,gd,now,k,az,[],[]⟩ st=fG S c dr fr ⟨d,none,now,k,az,[],[]⟩ st:=by
 unfold fG;rw[h];rfl
theorem BJ (dr:Bool) (st:St):Cq dr [] st=some st:=by cases dr <;> rfl
def nX (f:SV->Option V):List SV->Option (List V)
 | []=>some []
 | x::r=>(f x).bind λy=>(nX f r).bind λs=>some (y::s)
def ja (m:Tb bJ):Nat->SV->Option V
 | 0,x=>match x with
  | .v y=>some y
  | .own d=>match bg m d with
   | some (.sl k es xs)=>some (ow k es xs)
   | _=>none
  | .mp d=>match bg m d with
   | some (.mp B)=>some (.fmap B)
   | _=>none
  | _=>none
 | n+1,x=>match x with
  | .v y=>some y
  | .own d=>match bg m d with
   | some (.sl k es xs)=>some (ow k es xs)
   | _=>none
  | .ptr d o=>match bg m d with
   | some (.box cs)=>match nX (ja m n) cs with
    | some xs=>if o<=xs.length then some (.fptr (xs.drop o))else none
    | none=>none
   | _=>none
  | .mp d=>match bg m d with
   | some (.mp B)=>some (.fmap B)
   | _=>none
  | .clo f a b=>(nX (ja m n) a).bind λx=>(nX (ja m n) b).bind λy=>some (.clo f x y)
  | .tup l=>(nX (ja m n) l).bind λx=>some (.tup x)
  | .agg l=>(nX (ja m n) l).bind λx=>some (.agg x)
  | _=>none
theorem xF (m:Tb bJ):∀(n:Nat),(∀x,shut m n x=ja m n x)/\∀l,cT m n l=nX (ja m n) l:=by
 have w:∀n,(∀x,shut m n x=ja m n x)->∀l,cT m n l=nX (ja m n) l:=by
  intro n h l
  induction l with
  | nil=>exact EZ m n
  | cons a l u=>rw[Df,h a,u];rfl
 intro n
 induction n with
 | zero=>
  have h0:∀x,shut m 0 x=ja m 0 x:=by
   intro x;cases x <;> simp[shut,ja] <;> rfl
  grind
 | succ n u=>
  have h1:∀x,shut m (n+1) x=ja m (n+1) x:=by
   intro x
   cases x with
   | ptr d o=>simp[shut,ja,u.2];rfl
   | clo f a b=>rw[OA,u.2,u.2];rfl
   | tup l=>rw[OV,u.2];rfl
   | agg l=>rw[Pd,u.2];rfl
   | _=>simp[shut,ja] <;> rfl
  grind
noncomputable def uL (S:Sys) (c:b7) (dr:Bool):List Nat->List RO->(St->Option β)->St->Option β
 | _,[],k,st=>k st
 | fr,o::r,k,st=>((Cq dr o.pre st).bind (fG S c dr fr o.strip)).bind λst'=>uL S c dr (if dr then qP fr o.strip else fr) r k (pH o.dead st')
theorem Eg (dr:Bool):∀(l:List RO) (fr:List Nat) (k:St->Option β) (st:St),uL S c dr fr l k st=(nD S c dr fr l st).bind k
 | [],_,_,_=>rfl
 | o::r,fr,k,st=>by
  simp[uL,nD]
  cases (Cq dr o.pre st).bind (fG S c dr fr o.strip)with
  | none=>rfl
  | some st'=>exact Eg dr r _ k _
noncomputable def o9 (S:Sys) (c:b7):RC->(St->Option β)->(Nat->St->Option β)->(St->Option β)->St->Option β
 | .skip,n,_,_,st=>n st
 | .ops l,n,_,_,st=>uL S c false [] l n st
 | .pG l,n,_,_,st=>uL S c true [] l n st
 | .seq a b,n,x,r,st=>o9 S c a (λst=>o9 S c b n x r st) x r st
 | .cond y a b,n,x,r,st=>match qI S.N st.g y with
  | some (.v (.bool t))=>bf t (o9 S c a n x r st) (o9 S c b n x r st)
  | _=>none
 | .block id a,n,x,r,st=>o9 S c a n (λk st=>if k=id then n st else x k st) r st
 | .loop a,n,x,r,st=>(oF (cE S c a) st).bind λq=>match q with|(.norm,st)=>n st|(.exit k,st)=>x k st|(.ret,st)=>r st
 | .each g ps a b,n,x,r,st=>(cE S c (.each g ps a b) st).bind λq=>match q with|(.norm,st)=>n st|(.exit k,st)=>x k st|(.ret,st)=>r st
 | .exit k,_,x,_,st=>x k st
 | .ret,_,_,r,st=>r st
 | .gh g a,n,x,r,st=>(ghost g st).bind λst=>o9 S c a n x r st
 | .hg a g,n,x,r,st=>o9 S c a (λst=>(ghost g st).bind n) x r st
def DQ (n:St->Option β) (x:Nat->St->Option β) (r:St->Option β):Out×St->Option β
 | (.norm,st)=>n st
 | (.exit k,st)=>x k st
 | (.ret,st)=>r st
theorem Cy:∀(rc:RC) (n:St->Option β) (x:Nat->St->Option β) (r:St->Option β) (st:St),o9 S c rc n x r st=(cE S c rc st).bind (DQ n x r):=by
 intro rc
 induction rc with
 | skip=>intros;rfl
 | ops l=>intro n x r st;simp[o9,cE,Eg];cases nD S c false [] l st <;> rfl
 | pG l=>intro n x r st;simp[o9,cE,Eg];cases nD S c true [] l st <;> rfl
 | seq a b u w=>
  intro n x r st;simp[o9,cE,u,w]
  cases h:cE S c a st with
  | none=>rfl
  | some q=>obtain⟨o,st'⟩:=q;cases o <;> rfl
 | cond y a b u w=>
  intro n x r st;simp[o9,cE,u,w]
  cases qI S.N st.g y with
  | none=>rfl
  | some v=>cases v with
   | v z=>cases z with
    | bool t=>cases t <;> rfl
    | _=>rfl
   | _=>rfl
 | block id a A=>
  intro n x r st;simp[o9,cE,A]
  cases h:cE S c a st with
  | none=>rfl
  | some q=>
   obtain⟨o,st'⟩:=q
   cases o with
   | exit k=>simp[DQ];split <;> rfl
   | _=>rfl
 | loop a A=>
  intro n x r st;rfl
 | each g B a b u w=>
  intro n x r st;rfl
 | exit k=>intros;rfl
 | ret=>intros;rfl
 | gh g a A=>
  simp[o9,cE,A]
  grind
 | hg a g A=>
  intro n x r st;simp[o9,cE,A]
  cases h:cE S c a st with
  | none=>rfl
  | some q=>
   obtain⟨o,st'⟩:=q
   cases o with
   | norm=>simp[DQ];cases ghost g st' <;> rfl
   | _=>rfl
section
variable (S c Q)
mutual
noncomputable def mV:List Fm->St->Option β
 | []=>λst=>Q (.norm,st)
 | .seq b::fs=>λst=>o9 S c b (mV fs) (ni fs) (λst=>Q (.ret,st)) st
 | .blk _::fs=>mV fs
 | .gst g::fs=>λst=>(ghost g st).bind (mV fs)
noncomputable def ni:List Fm->Nat->St->Option β
 | []=>λk st=>Q (.exit k,st)
 | .seq _::fs=>ni fs
 | .blk id::fs=>λk st=>if k=id then mV fs st else ni fs k st
 | .gst _::fs=>ni fs
end
noncomputable def kD (rc:RC) (fs:List Fm) (st:St):Option β:=o9 S c rc (mV S c Q fs) (ni S c Q fs) (λst=>Q (.ret,st)) st
end
section
variable {dr:Bool} {fr:List Nat} {d:Nat} {dst:Option Nat} {now:Bool} {az:List Arg} {st:St} {α:Type} [bB α]
theorem NL {p:uT} {svs:List SV} {m:Option δ} {v:δ->SV} (B:b_ S.N st.g az=some svs) (hi:isSlice p=false) (h:kz S.N st.m p svs=m.bind λx=>some (v x)) :
 fG S c dr fr ⟨dst,none,now,.p p,az,[],[]⟩ st=m.bind λx=>some (c8 st dst (v x)):=by
 rw[Q0 _ _ _ _ _ _ _ hi,B]
 grind
theorem DM {p:uT} {svs:List SV} {v:SV} (B:b_ S.N st.g az=some svs) (hi:isSlice p=false) (h:kz S.N st.m p svs=some v) :
 fG S c dr fr ⟨dst,none,now,.p p,az,[],[]⟩ st=some (c8 st dst v):=by
 rw[Q0 _ _ _ _ _ _ _ hi,B]
 grind
theorem Qy {n:Nat} {s:Sl α} {k:IntKind} {i:Int} (B:b_ S.N st.g az=some [.v (cq s),.v (.int k i)]) (D:n=bB.size α) :
 fG S c dr fr ⟨dst,none,now,.p (.idxS n),az,[],[]⟩ st=(idx s i).bind λx=>some (c8 st dst (.v (.fptr (cells x)))):=
 NL B rfl (by rw[vU,Ei s k i n D];grind)
theorem Vu {n e:Nat} {s:Sl α} {k:IntKind} {i:Int} (B:b_ S.N st.g az=some [.own e,.v (.int k i)]) (D:bg st.m e=some (cW s)) (G:n=bB.size α) :
 fG S c dr fr ⟨dst,none,now,.p (.idxS n),az,[],[]⟩ st=(s.rQ i).bind λj=>some (c8 st dst (.el e j 0)):=
 NL B rfl (by rw[Ta,D,SX n e s i G])
theorem QZ {s:Sl α} (B:b_ S.N st.g az=some [.v (cq s)]):fG S c dr fr ⟨dst,none,now,.p .lenSl,az,[],[]⟩ st=some (c8 st dst (.v (.int .i64 s.l.length))):=
 DM B rfl (by rw[Iz,zb];rfl)
theorem Uv {e:Nat} {s:Sl α} (B:b_ S.N st.g az=some [.own e]) (D:bg st.m e=some (cW s)):fG S c dr fr ⟨dst,none,now,.p .lenSl,az,[],[]⟩ st=some (c8 st dst (.v (.int .i64 s.l.length))):=
 DM B rfl (by rw[OF,D,SZ])
theorem Vk {q:Option KT} {u:Option Nat} {k:IntKind} {a b:Int} (B:b_ S.N st.g az=some [.v (.int k a),.v (.int k b)]):fG S c dr fr ⟨dst,none,now,.p (.bin q u .quo),az,[],[]⟩ st=(yY k a b).bind λx=>some (c8 st dst (.v (.int k x))):=
 NL B rfl (by rw[vU,TZ];grind)
theorem S_ {u:Option Nat} {s:Sl α} (B:b_ S.N st.g az=some [.v (cq s),.v .bX]):fG S c dr fr ⟨dst,none,now,.p (.bin (some .slice) u .eql),az,[],[]⟩ st=s.isNil.bind λt=>some (c8 st dst (.v (.bool t))):=
 NL B rfl (by rw[vU,Om];grind)
theorem Ph {s:ByteArray} {k:IntKind} {n:Int} (B:b_ S.N st.g az=some [.v (.str s),.v (.int k n)]):fG S c dr fr ⟨dst,none,now,.p .idxStr,az,[],[]⟩ st=(kO s n).bind λx=>some (c8 st dst (.v (.int .u8 x))):=
 NL B rfl (by rw[vU,Mx];grind)
theorem TR {n e i o:Nat} {a:Bool} {s:Sl α} {v:α->V} (B:b_ S.N st.g az=some [.el e i o]) (hd:(!dr||now||fc fr [.el e i o])=true) (D:bg st.m e=some (cW s)) (hv:∀x:α,(cut (cells x) o n).bind (mk a)=some (v x)) :
 fG S c dr fr ⟨dst,none,now,.r (.load n a),az,[],[]⟩ st=(s.get i).bind λx=>some (c8 st dst (.v (v x))):=by
 rw[FU,B];simp only[ζb,hd,VA,D,Nb]
 cases s.get i with
 | none=>rfl
 | some x=>
  cases hc:cut (cells x) o n with
  | none=>grind
  | some r=>grind
theorem S7 {n e i:Nat} {s:Sl α} {x:V} {a:α} (B:b_ S.N st.g az=some [.el e i 0,.v x]) (hd:(!dr||now)=true) (D:bg st.m e=some (cW s)) (G:x.cells=cells a) (J:n=bB.size α) :
 fG S c dr fr ⟨dst,none,now,.l (.store n),az,[],[]⟩ st=(s.put i a).bind λU=>some (c8 { st with m:=bQ st.m e (cW U) } dst (.v .undef)):=by
 rw[wB,B];simp[hd,LY,D];rw[LU st.g st.pin st.want st.more st.yid e i n x a G J s]
 grind
theorem UO {n:Nat} {z:α} {zero:List V} {i:Int} (B:b_ S.N st.g az=some [.v (.int .i64 i),.v (.int .i64 i)]) (D:zero=cells z) (G:n=bB.size α) (J:st.new d=true) :
 fG S c dr fr ⟨some d,none,now,.a (.makeSl n zero),az,[],[]⟩ st=(Cd i z).bind λs=>some { st with g:=bQ st.g d (.own d),m:=bQ st.m d (cW s) }:=by
 rw[Dz,B];simp[J];rw[VZ z i d n zero D G]
 grind
theorem VV {n e u:Nat} {s:Sl α} {x:α} (G:b_ S.N st.g az=some [.own e,.own u]) (hd:(!dr||now)=true) (J:bg st.m e=some (cW s)) (hu:bg st.m u=some (cW (.row [x]))) (B:n=bB.size α) (U:St.new { st with m:=eo e st.m } d=true) :
 fG S c dr fr ⟨some d,none,now,.l (.append n),az,[],[]⟩ st=(iP s x).bind λD=>some { st with g:=bQ st.g d (.own d),m:=bQ (eo e st.m) d (cW D) }:=by
 rw[wB,G];simp[hd,Ab,DZ,J,hu];rw[A7 n s B,A7 n (.row [x]) B];have:=NI (m:=st.m) st.g st.pin st.want st.more st.yid d n e s.l x B;simp[Sl.QN];rw[this];have w:iP (.row s.l) x=iP s x:=by cases s <;> rfl
 rw[w]
 cases iP s x with
 | none=>rfl
 | some D=>
  simp;rw[if_pos U];rfl
theorem TW {n u:Nat} {x:α} {v:V} (hv:v=.bX\/v=.dA) (G:b_ S.N st.g az=some [.v v,.own u]) (hd:(!dr||now)=true) (hu:bg st.m u=some (cW (.row [x]))) (B:n=bB.size α) (D:st.new d=true) :
 fG S c dr fr ⟨some d,none,now,.l (.append n),az,[],[]⟩ st=some { st with g:=bQ st.g d (.own d),m:=bQ st.m d (cW (.row [x])) }:=by
 rw[wB,G];simp[hd,Ab,DZ,hu];rw[A7 n (.row [x]) B];simp[Sl.QN];rcases hv with rfl|rfl
 .rw[RE,MN (m:=st.m) st.g st.pin st.want st.more st.yid d n x B];rw[if_pos D];rfl
 .rw[S4,NT (m:=st.m) st.g st.pin st.want st.more st.yid d n x B];rw[if_pos D];rfl
theorem UP {f:FuncId} {svs args:List SV} {cs:List V} {m:Option δ} {E:δ->List V} (hc:fS c f cs=m.bind λr=>some (E r)) (hk:S.E.keep f=false) (D:b_ S.N st.g az=some svs) (G:mh svs=some (f,args))
 (B:nX (ja st.m 8) args=some cs) (J:((!dr||now)||gx st.m fr args)=true) (hr:∀r,((result (E r)).scalar||(dD args).isSome)=true) :
 fG S c dr fr ⟨dst,none,now,.c,az,[],[]⟩ st=m.bind λr=>some (c8 st dst (.v (result (E r)))):=by
 rw[A9 dr fr dst now az st svs f args D G,Rr _ _ _ _ _ _ _ hk,(xF st.m 8).2,B];simp[J,hc]
 cases m with
 | none=>rfl
 | some r=>
  simp[MC]
  grind
end
end
end Go.VE
namespace Go.VE
variable [bV]
section
variable {S:Sys} {c:b7} {β γ:Type} {Q:Out×St->Option β} {L:Option β} {e:γ->Option β}
theorem o7 (rc:RC) (st:St):kD S c Q rc [] st=(cE S c rc st).bind Q:=by
 unfold kD;rw[Cy]
 congr 1
 funext q;obtain⟨o,st⟩:=q
 cases o <;> rfl
theorem AZ (rc:RC) (st:St):cE S c rc st=kD S c some rc [] st:=by
 rw[o7];cases cE S c rc st <;> rfl
def mK (rs:List RV):Out×St->Option (List V)
 | (.exit _,_)=>none
 | (_,st)=>(ku st rs).bind (nX (ja st.m 8))
theorem RK (rs:List RV):HX rs=mK rs:=by
 funext q;obtain⟨o,st⟩:=q
 cases o
 .simp only[HX,mK];congr 1;funext l;exact(xF st.m 8).2 l
 .rfl
 .simp only[HX,mK];congr 1;funext l;exact(xF st.m 8).2 l
theorem Rz {S:Sys} {T:pT} {f:FuncId} {rf:RF} (B:T f=some rf) (az:List V) (D:az.length<=rf.na):fS (dM S T) f az=kD S (dM S T) (mK rf.rs) rf.body [] (start (az.map .v) []):=by
 rw[Oq B az D,<-HD,o7,RK]
end
end Go.VE
namespace Go.VE
variable [bV]
def kA {α σ ε ρ:Type} (step:α->σ->Option (Fw σ ε ρ)):List α->σ->Option (Fw σ ε ρ)
 | [],s=>some (.n s)
 | x::xs,s=>(step x s).bind λw=>match w with
  | .n B=>kA step xs B
  | .x e=>some (.x e)
  | .r b=>some (.r b)
def Fw.qw {ν ε ρ γ:Type} (fn:ν->γ) (B:ε->γ) (fr:ρ->γ):Fw ν ε ρ->γ
 | .n a=>fn a
 | .x e=>B e
 | .r b=>fr b
def Fw.vX {ν ε ρ:Type} (D:ν->Tb bJ) (B:ε->Nat×Tb bJ) (G:ρ->Tb bJ):Fw ν ε ρ->Out×Tb bJ
 | .n a=>(.norm,D a)
 | .x e=>(.exit (B e).1,(B e).2)
 | .r b=>(.ret,G b)
def vX (q:Out×St):Option (Out×Tb bJ):=some (q.1,q.2.m)
section
variable {S:Sys} {c:b7} {β γ:Type} {Q:Out×St->Option β} {L:Option β} {e:γ->Option β}
noncomputable def yh (S:Sys) (c:b7) (b:RC):Out×St->Option (Out×Tb bJ)
 | (.norm,st)=>kD S c vX b [] st
 | _=>none
theorem Ko (ps:List Nat) (a b:RC) (st:St) (x:List V) (m:Tb bJ) (B:x.length=ps.length) :
 iV ps (cE S c a) (cE S c b) st x m=kD S c (yh S c b) a [] ⟨wY st.g ps (x.map .v),m,st.pin++qa st.g,[],true,0⟩:=by
 unfold iV;rw[if_pos B,o7]
 cases cE S c a ⟨wY st.g ps (x.map .v),m,st.pin++qa st.g,[],true,0⟩with
 | none=>rfl
 | some q=>
  obtain⟨o,u⟩:=q
  cases o with
  | norm=>
   simp only[ζb,yh];rw[o7];cases cE S c b u <;> rfl
  | _=>rfl
end
end Go.VE
namespace Go.VE
variable [bV]
def Le {α:Type} (a b:Option α):Prop:=∀r,a=some r->b=some r
section
variable {α:Type}
theorem Le.refl (a:Option α):Le a a:=λ_ h=>h
theorem Le.of_eq {a b:Option α} (h:b=a):Le a b:=λ_ u=>h.trans u
theorem Le.trans {a b d:Option α} (h1:Le a b) (B:Le b d):Le a d:=λr h=>B r (h1 r h)
theorem Le.none (b:Option α):Le (none:Option α) b:=λr h=>by cases h
theorem Le.bind {β:Type} {a b:Option α} {f g:α->Option β} (h:Le a b) (B:∀x,Le (f x) (g x)):Le (a.bind f) (b.bind g):=λr hr=>by
 obtain⟨x,h1,u⟩:=ζg.1 hr;rw[h x h1];exact B x r u
end
section
variable {S:Sys} {c:b7} {β γ δ:Type} {Q:Out×St->Option β} {L:Option β} {e:γ->Option β}
theorem Hu {dr:Bool} {fr:List Nat} {dst:Option Nat} {now:Bool} {az:List Arg} {st:St} {f:FuncId} {svs args:List SV} {cs:List V} {m:Option δ} {E:δ->List V} (hc:Le (m.bind λr=>some (E r)) (fS c f cs)) (hk:S.E.keep f=false) (D:b_ S.N st.g az=some svs) (G:mh svs=some (f,args))
 (B:nX (ja st.m 8) args=some cs) (J:((!dr||now)||gx st.m fr args)=true) (hr:∀r,((result (E r)).scalar||(dD args).isSome)=true) :
 Le (m.bind λr=>some (c8 st dst (.v (result (E r))))) (fG S c dr fr ⟨dst,none,now,.c,az,[],[]⟩ st):=by
 intro q w;obtain⟨r,h1,z⟩:=ζg.1 w;have u:fS c f cs=(some r).bind λr=>some (E r):=hc _ (by rw[h1];rfl)
 rw[UP (m:=some r) u hk D G B J hr];exact z
theorem Qu {σ ε ρ:Type} {f:St->Option (Out×St)} {step:σ->Option (Fw σ ε ρ)} {B:σ->St} {D:ε->Nat×St} {G:ρ->St} (h:∀s,Le ((step s).bind λw=>some (Fw.out B D G w)) (f (B s))) (s:σ) :
 Le ((bW step s).bind λw=>some (Fw.out (λe=>Empty.elim e) D G w)) (oF f (B s)):=by
 have key:∀k s r,jD step k s=some r->jr f k (B s)=some (Fw.out (λe=>Empty.elim e) D G r):=by
  intro k
  induction k with
  | zero=>intro s r h;simp[jD]at h
  | succ k C=>
   intro s r u;simp only[jD]at u
   cases z:step s with
   | none=>rw[z]at u;cases u
   | some w=>
    rw[z]at u;have A:=h s (Fw.out B D G w) (by rw[z];rfl)
    simp only[jr,A]
    cases w with
    | n a=>exact C a r u
    | x e=>cases u;rfl
    | r b=>cases u;rfl
 intro r hr;obtain⟨w,h1,A⟩:=ζg.1 hr;obtain⟨k,hk⟩:=ou.1 h1;cases A;exact ng.2 ⟨k,key k s w hk⟩
theorem Vp {σ ε ρ:Type} {a:RC} {fs:List Fm} {step:σ->Option (Fw σ ε ρ)} {B:σ->St} {D:ε->Nat×St} {G:ρ->St} {s:σ} {J:ε->Option γ} {fr:ρ->Option γ}
 (U:L=kD S c Q (.loop a) fs (B s)) (h:∀s,Le ((step s).bind λw=>some (Fw.out B D G w)) (kD S c some a [] (B s)))
 (W:∀x,Le ((J x).bind e) (ni S c Q fs (D x).1 (D x).2)) (hr:∀b,Le ((fr b).bind e) (Q (.ret,G b))):Le (((bW step s).bind (Fw.elim J fr)).bind e) L:=by
 subst U;have h1:kD S c Q (.loop a) fs (B s)=(oF (cE S c a) (B s)).bind (DQ (mV S c Q fs) (ni S c Q fs) (λst=>Q (.ret,st))):=by
  unfold kD;rw[Cy];rfl
 rw[h1];have u:=Qu (step:=step) (f:=cE S c a) (B:=B) (D:=D) (G:=G) (λs=>by rw[AZ];exact h s) s
 cases z:bW step s with
 | none=>exact Le.none _
 | some w=>
  have A:=u _ (by rw[z];rfl)
  rw[A]
  cases w with
  | n a=>cases a
  | x a=>exact W a
  | r a=>exact hr a
theorem Hy {α σ ε ρ:Type} {f:List V->Tb bJ->Option (Out×Tb bJ)} {step:α->σ->Option (Fw σ ε ρ)} {eI:α->List V} {B:σ->Tb bJ} {D:ε->Nat×Tb bJ} {G:ρ->Tb bJ}
 (h:∀x s,Le ((step x s).bind λw=>some (Fw.vX B D G w)) (f (eI x) (B s))):∀(xs:List α) (s:σ),Le ((kA step xs s).bind λw=>some (Fw.vX B D G w)) (qn f (xs.map eI) (B s))
 | [],s=>λr hr=>hr
 | x::xs,s=>by
  simp only[List.map_cons,qn,kA]
  cases J:step x s with
  | none=>exact Le.none _
  | some w=>
   have U:=h x s (Fw.vX B D G w) (by rw[J];rfl)
   rw[U]
   cases w with
   | n u=>simp only[ζb,Fw.vX];exact Hy h xs u
   | x e=>exact Le.refl _
   | r b=>exact Le.refl _
theorem Vt {α σ ε ρ:Type} {g:Arg} {ps:List Nat} {a b:RC} {fs:List Fm} {f:FuncId} {x y:List V} {items:List α} {eI:α->List V} {step:α->σ->Option (Fw σ ε ρ)} {B:σ->Tb bJ} {D:ε->Nat×Tb bJ} {G:ρ->Tb bJ} {gt:Tb SV} {s:σ}
 {fn:σ->Option γ} {J:ε->Option γ} {fr:ρ->Option γ}
 (U:L=kD S c Q (.each g ps a b) fs ⟨gt,B s,[],[],true,0⟩) (hg:qI S.N gt g=some (.v (.clo f x y))) (hi:S.items f x y=some (items.map eI)) (W:∀x,(eI x).length=ps.length)
 (h:∀x s,Le ((step x s).bind λw=>some (Fw.vX B D G w)) (kD S c (yh S c b) a [] ⟨wY gt ps ((eI x).map .v),B s,qa gt,[],true,0⟩))
 (Y:∀s,Le ((fn s).bind e) (mV S c Q fs ⟨gt,B s,[],[],true,0⟩))
 (hx:∀x,Le ((J x).bind e) (ni S c Q fs (D x).1 ⟨gt,(D x).2,[],[],true,0⟩)) (hr:∀b,Le ((fr b).bind e) (Q (.ret,⟨gt,G b,[],[],true,0⟩))) :
 Le (((kA step items s).bind (Fw.qw fn J fr)).bind e) L:=by
 subst U;have h1:kD S c Q (.each g ps a b) fs ⟨gt,B s,[],[],true,0⟩=(cE S c (.each g ps a b) ⟨gt,B s,[],[],true,0⟩).bind (DQ (mV S c Q fs) (ni S c Q fs) (λst=>Q (.ret,st))):=by
  unfold kD;rw[Cy]
 rw[h1];simp only[cE,hg,hi];have u:=Hy (step:=step) (f:=iV ps (cE S c a) (cE S c b) ⟨gt,B s,[],[],true,0⟩) (eI:=eI) (B:=B) (D:=D) (G:=G) (λx s=>by rw[Ko _ _ _ _ _ _ (W x)];exact h x s) items s
 cases z:kA step items s with
 | none=>exact Le.none _
 | some w=>
  have A:=u _ (by rw[z];rfl)
  rw[A]
  cases w with
  | n a=>exact Y a
  | x a=>exact hx a
  | r a=>exact hr a
end
end Go.VE
namespace Go.VE
variable [bV]
inductive Fo where
 | rc (c:RC)
 | ops (dr:Bool) (fr:List Nat) (l:List RO)
 | nx
 | ex (k:Nat)
 | rt
abbrev bO (g:Tb SV) (m:Tb bJ):St:=⟨g,m,[],[],true,0⟩
section
variable (S:Sys) (c:b7) {β:Type} (Q:Out×St->Option β)
noncomputable def rn:Fo->List Fm->St->Option β
 | .rc a,fs,st=>kD S c Q a fs st
 | .ops dr fr l,fs,st=>uL S c dr fr l (mV S c Q fs) st
 | .nx,fs,st=>mV S c Q fs st
 | .ex k,fs,st=>ni S c Q fs k st
 | .rt,_,st=>Q (.ret,st)
noncomputable def zh:Fo->List Fm->St->Option (Fo×List Fm×St)
 | .rc .skip,fs,st=>some (.nx,fs,st)
 | .rc (.ops l),fs,st=>some (.ops false [] l,fs,st)
 | .rc (.pG l),fs,st=>some (.ops true [] l,fs,st)
 | .rc (.seq a b),fs,st=>some (.rc a,.seq b::fs,st)
 | .rc (.cond y a b),fs,st=>match qI S.N st.g y with
  | some (.v (.bool true))=>some (.rc a,fs,st)
  | some (.v (.bool false))=>some (.rc b,fs,st)
  | _=>none
 | .rc (.block id a),fs,st=>some (.rc a,.blk id::fs,st)
 | .rc (.exit k),fs,st=>some (.ex k,fs,st)
 | .rc .ret,fs,st=>some (.rt,fs,st)
 | .rc (.gh g a),fs,st=>match ghost g st with
  | some st'=>some (.rc a,fs,st')
  | none=>none
 | .rc (.hg a g),fs,st=>some (.rc a,.gst g::fs,st)
 | .rc (.loop _),_,_=>none
 | .rc (.each ..),_,_=>none
 | .ops _ _ [],fs,st=>some (.nx,fs,st)
 | .ops dr fr (⟨d,gd,now,k,az,dd,[]⟩::r),fs,st=>match fG S c dr fr ⟨d,gd,now,k,az,[],[]⟩ st with
  | some st'=>some (.ops dr (if dr then qP fr ⟨d,gd,now,k,az,[],[]⟩else fr) r,fs,pH dd st')
  | none=>none
 | .ops dr fr (⟨d,gd,now,k,az,dd,x::xs⟩::r),fs,st=>if dr && !(z8 x&&xs.all z8)then none else match ghost x st with
  | some st'=>some (.ops dr fr (⟨d,gd,now,k,az,dd,xs⟩::r),fs,st')
  | none=>none
 | .nx,.seq b::fs,st=>some (.rc b,fs,st)
 | .nx,.blk _::fs,st=>some (.nx,fs,st)
 | .nx,.gst g::fs,st=>match ghost g st with
  | some st'=>some (.nx,fs,st')
  | none=>none
 | .nx,[],_=>none
 | .ex k,.seq _::fs,st=>some (.ex k,fs,st)
 | .ex k,.blk id::fs,st=>some (if k=id then .nx else .ex k,fs,st)
 | .ex k,.gst _::fs,st=>some (.ex k,fs,st)
 | .ex _,[],_=>none
 | .rt,_,_=>none
noncomputable def gY:Nat->Fo->List Fm->St->Option (Fo×List Fm×St)
 | 0,fo,fs,st=>some (fo,fs,st)
 | n+1,fo,fs,st=>match zh S c fo fs st with
  | some (fo',fs',st')=>gY n fo' fs' st'
  | none=>none
end
section
variable {S:Sys} {c:b7} {β γ δ:Type} {Q:Out×St->Option β} {e:γ->Option β}
theorem OW {fo fo':Fo} {fs fs':List Fm} {st st':St} (h:zh S c fo fs st=some (fo',fs',st')):rn S c Q fo fs st=rn S c Q fo' fs' st':=by
 cases fo with
 | rc a=>
  cases a with
  | cond y a b=>
   simp only[zh]at h;split at h
   .rename_i u;cases h;simp only[rn,kD,o9,u,bf,if_true]
   .rename_i u;cases h;simp only[rn,kD,o9,u,bf];rfl
   .cases h
  | gh g a=>
   simp only[zh]at h;split at h
   .rename_i u;cases h;simp only[rn,kD,o9,u,ζb]
   .cases h
  | loop a=>cases h
  | each g w a b=>cases h
  | seq a b=>cases h;simp only[rn,kD,o9,mV,ni]
  | block id a=>cases h;simp only[rn,kD,o9,mV,ni]
  | hg a g=>cases h;simp only[rn,kD,o9,mV,ni]
  | _=>cases h;simp only[rn,kD,o9]
 | ops dr fr l=>
  cases l with
  | nil=>cases h;simp only[rn,uL]
  | cons o r=>
   obtain⟨d,gd,now,k,az,dd,pre⟩:=o
   cases pre with
   | nil=>
    simp only[zh]at h;split at h
    .rename_i u;cases h;simp only[rn,uL,BJ,RO.strip,ζb,u]
    .cases h
   | cons x z=>
    simp only[zh]at h;split at h
    .cases h
    rename_i hd;split at h
    .rename_i u;cases h
     cases dr with
     | true=>
      simp only[Bool.true_and,Bool.not_eq_true',Bool.not_eq_false,ζh]at hd;simp only[rn,uL,RO.strip,Cq,oL,if_true,List.all_cons,hd.1,hd.2,Bool.and_self,u,ζb]
     | false=>simp only[rn,uL,RO.strip,Cq,oL,Bool.false_eq_true,if_false,u,ζb]
    .cases h
 | nx=>
  cases fs with
  | nil=>cases h
  | cons f fs=>
   cases f with
   | seq b=>cases h;simp only[rn,kD,mV]
   | blk id=>cases h;simp only[rn,mV]
   | gst g=>
    simp only[zh]at h;split at h
    .rename_i u;cases h;simp only[rn,mV,u,ζb]
    .cases h
 | ex k=>
  cases fs with
  | nil=>cases h
  | cons f fs=>
   cases f with
   | seq b=>cases h;simp only[rn,ni]
   | blk id=>
    cases h;simp only[rn,ni]
    by_cases hk:k=id
    .simp only[if_pos hk,rn]
    .simp only[if_neg hk,rn]
   | gst g=>cases h;simp only[rn,ni]
 | rt=>cases h
theorem oP:∀{n:Nat} {fo fo':Fo} {fs fs':List Fm} {st st':St},gY S c n fo fs st=some (fo',fs',st')->rn S c Q fo fs st=rn S c Q fo' fs' st'
 | 0,fo,fo',fs,fs',st,st',h=>by cases h;rfl
 | n+1,fo,fo',fs,fs',st,st',h=>by
  simp only[gY]at h;split at h
  .rename_i a b d B;rw[OW B];exact oP h
  .cases h
theorem zN {n:Nat} {fo fo':Fo} {fs fs':List Fm} {st st':St} {m:Option β} (h:gY S c n fo fs st=some (fo',fs',st')) (B:Le m (rn S c Q fo' fs' st')):Le m (rn S c Q fo fs st):=by
 rw[oP h];exact B
theorem Wv {n:Nat} {fo fo':Fo} {fs fs':List Fm} {st st':St} {r:γ} (h:gY S c n fo fs st=some (fo',fs',st')) (B:rn S c Q fo' fs' st'=e r):Le ((some r).bind e) (rn S c Q fo fs st):=by
 rw[oP h];exact Le.of_eq B
theorem Qx {m:Option δ} {f:δ->Option γ} {L:Option β} (k:δ->Option β) (B:Le (m.bind k) L) (h1:∀r,Le ((f r).bind e) (k r)):Le ((m.bind f).bind e) L:=by
 intro r hr
 cases m with
 | none=>cases hr
 | some x=>exact B r (h1 x r hr)
theorem WK {n:Nat} {fo:Fo} {fs fs':List Fm} {st0:St} {dr:Bool} {q l:List RO} {fr:List Nat} {st:St} {d:Option Nat} {gd:Option (Nat×Bool)} {now:Bool} {k:K} {az:List Arg} {dd:List Nat} {m:Option δ} {g:δ->St} {f:δ->Option γ}
 (B:gY S c n fo fs st0=some (.ops dr fr q,fs',st)) (D:q=⟨d,gd,now,k,az,dd,[]⟩::l) (hg:wanted st.g gd=some true)
 (G:Le (m.bind λx=>some (g x)) (fG S c dr fr ⟨d,none,now,k,az,[],[]⟩ st))
 (h:∀x,m=some x->Le ((f x).bind e) (rn S c Q (.ops dr (if dr then qP fr ⟨d,gd,now,k,az,[],[]⟩else fr) l) fs' (pH dd (g x)))):Le ((m.bind f).bind e) (rn S c Q fo fs st0):=by
 rw[oP B];subst D;simp only[rn,uL,RO.strip,BJ,ζb];rw[N0 hg]
 cases m with
 | none=>exact Le.none _
 | some x=>rw[G (g x) rfl];exact h x rfl
theorem Ra {n:Nat} {fo:Fo} {fs fs':List Fm} {st0:St} {dr:Bool} {q l:List RO} {fr:List Nat} {st st':St} {d:Option Nat} {gd:Option (Nat×Bool)} {now:Bool} {k:K} {az:List Arg} {dd:List Nat} {m:Option β}
 (B:gY S c n fo fs st0=some (.ops dr fr q,fs',st)) (D:q=⟨d,gd,now,k,az,dd,[]⟩::l) (hg:wanted st.g gd=some true)
 (G:fG S c dr fr ⟨d,none,now,k,az,[],[]⟩ st=some st')
 (h:Le m (rn S c Q (.ops dr (if dr then qP fr ⟨d,gd,now,k,az,[],[]⟩else fr) l) fs' (pH dd st'))):Le m (rn S c Q fo fs st0):=by
 rw[oP B];subst D;simp only[rn,uL,RO.strip,BJ,ζb];rw[N0 hg,G];exact h
theorem MP {n:Nat} {fo:Fo} {B:List Fm} {st:St} {σ ε ρ:Type} {a:RC} {fs:List Fm} {step:σ->Option (Fw σ ε ρ)} {D:σ->St} {G:ε->Nat×St} {J:ρ->St} {s:σ} {U:ε->Option γ} {fr:ρ->Option γ}
 (W:gY S c n fo B st=some (.rc (.loop a),fs,D s)) (h:∀s,Le ((step s).bind λw=>some (Fw.out D G J w)) (rn S c some (.rc a) [] (D s)))
 (Y:∀x,Le ((U x).bind e) (rn S c Q (.ex (G x).1) fs (G x).2)) (hr:∀b,Le ((fr b).bind e) (Q (.ret,J b))):Le (((bW step s).bind (Fw.elim U fr)).bind e) (rn S c Q fo B st):=by
 rw[oP W];exact Vp (L:=rn S c Q (.rc (.loop a)) fs (D s)) rfl h Y hr
theorem UW {n:Nat} {fo:Fo} {B:List Fm} {st:St} {α σ ε ρ:Type} {g:Arg} {ps:List Nat} {a b:RC} {fs:List Fm} {f:FuncId} {x y:List V} {items:List α} {eI:α->List V} {step:α->σ->Option (Fw σ ε ρ)} {D:σ->Tb bJ} {G:ε->Nat×Tb bJ} {J:ρ->Tb bJ} {gt:Tb SV} {s:σ}
 {fn:σ->Option γ} {U:ε->Option γ} {fr:ρ->Option γ}
 (W:gY S c n fo B st=some (.rc (.each g ps a b),fs,bO gt (D s))) (hg:qI S.N gt g=some (.v (.clo f x y))) (hi:S.items f x y=some (items.map eI)) (Y:∀x,(eI x).length=ps.length)
 (h:∀x s,Le ((step x s).bind λw=>some (Fw.vX D G J w)) (rn S c (yh S c b) (.rc a) [] ⟨wY gt ps ((eI x).map .v),D s,qa gt,[],true,0⟩))
 (hn:∀s,Le ((fn s).bind e) (rn S c Q .nx fs (bO gt (D s))))
 (hx:∀x,Le ((U x).bind e) (rn S c Q (.ex (G x).1) fs (bO gt (G x).2))) (hr:∀b,Le ((fr b).bind e) (Q (.ret,bO gt (J b)))) :
 Le (((kA step items s).bind (Fw.qw fn U fr)).bind e) (rn S c Q fo B st):=by
 rw[oP W];exact Vt (L:=rn S c Q (.rc (.each g ps a b)) fs (bO gt (D s))) rfl hg hi Y h hn hx hr
theorem UK {b:RC} {st st':St} {m:Option (Out×Tb bJ)} {fs:List Fm} {n:Nat} {fo:Fo} (h:gY S c n fo fs st=some (.nx,[],st')) (B:Le m (rn S c vX (.rc b) [] st')):Le m (rn S c (yh S c b) fo fs st):=by
 rw[oP h];exact B
theorem Vw {α:Type} {n:Nat} {fo fo':Fo} {fs fs':List Fm} {st:St} {A:Option α->St} {o:Option α} {f:α->Option γ} (h:gY S c n fo fs st=some (fo',fs',A o))
 (B:∀x,o=some x->Le ((f x).bind e) (rn S c Q fo' fs' (A (some x)))):Le ((o.bind f).bind e) (rn S c Q fo fs st):=by
 rw[oP h]
 cases o with
 | none=>exact Le.none _
 | some x=>exact B x rfl
theorem Wx {T:pT} {f:FuncId} {rf:RF} {az:List V} {m:Option (List V)} (B:T f=some rf) (D:az.length<=rf.na) (h:Le m (rn S (dM S T) (mK rf.rs) (.rc rf.body) [] (start (az.map .v) []))):Le m (fS (dM S T) f az):=by
 rw[Rz B az D];exact h
end
section
variable {α:Type} [bB α]
abbrev cv (x:α):SV:=.v (enc x)
abbrev cp (x:α):SV:=.v (.fptr (cells x))
abbrev bx (x:α):bJ:=.box ((cells x).map .v)
end
end Go.VE
namespace Go.VE
variable [bV]
structure eR (S:Sys) (c:b7) {α δ:Type} (fn:FuncId) (A:α->List V) (E:δ->List V) (p:α->Option δ) (sc:Bool):Prop where
 k:S.E.keep fn=false
 h:∀z,Le ((p z).bind λr=>some (E r)) (fS c fn (A z))
 s:sc=true->∀r,(result (E r)).scalar=true
section
variable {S:Sys} {c:b7} {β γ δ α:Type} {Q:Out×St->Option β} {e:γ->Option β} {fo:Fo} {fs:List Fm} {st0:St} {l:List RO} {d:Option Nat} {gd:Option (Nat×Bool)} {now:Bool} {az:List Arg} {dd:List Nat}
noncomputable abbrev sV (S:Sys) (c:b7) (Q:Out×St->Option β) (dr:Bool) (fr:List Nat) (d:Option Nat) (k:K) (l:List RO) (fs:List Fm) (dd:List Nat) (st:St):Option β:=
 rn S c Q (.ops dr (if dr then(match k with|.p _|.r _=>fr|_=>match d with|some d=>d::fr|none=>fr)else fr) l) fs (pH dd st)
theorem E6 (fr:List Nat) (k:K):qP fr ⟨d,gd,now,k,az,[],[]⟩=(match k with|.p _|.r _=>fr|_=>match d with|some d=>d::fr|none=>fr):=by
 cases k <;> cases d <;> rfl
theorem Ed {n:Nat} {dr:Bool} {fr:List Nat} {q:List RO} {fs':List Fm} {st:St} {k:K} {m:Option δ} {g:δ->St} {f:δ->Option γ}
 (B:gY S c n fo fs st0=some (.ops dr fr q,fs',st)) (D:q=⟨d,gd,now,k,az,dd,[]⟩::l) (hg:wanted st.g gd=some true)
 (G:Le (m.bind λx=>some (g x)) (fG S c dr fr ⟨d,none,now,k,az,[],[]⟩ st))
 (h:∀x,m=some x->Le ((f x).bind e) (sV S c Q dr fr d k l fs' dd (g x))):Le ((m.bind f).bind e) (rn S c Q fo fs st0):=
 WK B D hg G (λx u=>by rw[E6];grind)
theorem qT {n:Nat} {dr:Bool} {fr:List Nat} {q:List RO} {fs':List Fm} {st st':St} {k:K} {m:Option β}
 (B:gY S c n fo fs st0=some (.ops dr fr q,fs',st)) (D:q=⟨d,gd,now,k,az,dd,[]⟩::l) (hg:wanted st.g gd=some true)
 (G:fG S c dr fr ⟨d,none,now,k,az,[],[]⟩ st=some st') (h:Le m (sV S c Q dr fr d k l fs' dd st')):Le m (rn S c Q fo fs st0):=
 Ra B D hg G (by rw[E6];omega)
section
variable [bB α]
theorem PC (n:Nat) (dr:Bool) (fr:List Nat) (q:List RO) (fs':List Fm) (st:St) (k:IntKind) {sz:Nat} {s:Sl α} {i:Int} {f:α->Option γ} (D:q=⟨d,gd,now,.p (.idxS sz),az,dd,[]⟩::l)
 (B:(gY S c n fo fs st0,wanted st.g gd,b_ S.N st.g az,sz)=(some (.ops dr fr q,fs',st),some true,some [.v (cq s),.v (.int k i)],bB.size α))
 (h:∀x,idx s i=some x->Le ((f x).bind e) (sV S c Q dr fr d (.p (.idxS sz)) l fs' dd (c8 st d (cp x)))):Le (((idx s i).bind f).bind e) (rn S c Q fo fs st0):=by
 simp  at B;exact Ed B.1 D B.2.1 (Le.of_eq (Qy B.2.2.1 B.2.2.2)) h
theorem UQ (n:Nat) (dr:Bool) (fr:List Nat) (q:List RO) (fs':List Fm) (st:St) (s:Sl α) {m:Option β} (D:q=⟨d,gd,now,.p .lenSl,az,dd,[]⟩::l)
 (B:(gY S c n fo fs st0,wanted st.g gd,b_ S.N st.g az)=(some (.ops dr fr q,fs',st),some true,some [.v (cq s)]))
 (h:Le m (sV S c Q dr fr d (.p .lenSl) l fs' dd (c8 st d (.v (.int .i64 s.l.length))))):Le m (rn S c Q fo fs st0):=by
 simp  at B;exact qT B.1 D B.2.1 (QZ B.2.2) h
end
section
variable {q:List RO} {fs':List Fm}
end
theorem GP (m:Tb bJ) (n:Nat) (l:List V):nX (ja m n) (l.map .v)=some l:=by rw[<-(xF m n).2,wG]
variable {A:α->List V} {E:δ->List V} {p:α->Option δ} {fn:FuncId} {sc:Bool}
end
end Go.VE
namespace Go.VE
variable [bV]
abbrev iv (n:Int):SV:=.v (.int .i64 n)
abbrev bv (b:Bool):SV:=.v (.bool b)
abbrev len {α:Type} (s:Sl α):Int:=((List.length (Sl.l s):Nat):Int)
abbrev o1 (d:Nat) (a:Arg) (dd:List Nat):RO:=⟨some d,none,false,.p .id,[a],dd,[]⟩
abbrev o2 (d:Nat) (k:K) (az:List Arg) (dd:List Nat):RO:=⟨some d,none,false,k,az,dd,[]⟩
abbrev o3 (d s:Nat) (b:Bool) (k:K) (az:List Arg) (dd:List Nat):RO:=⟨some d,some (s,b),false,k,az,dd,[]⟩
def JW (a b:aY):Bool:=[a.proc,a.index]==[b.proc,b.index]
section
variable {α:Type} [bB α]
theorem uF (h:bB.agg α=false) (a:α):cells a=[enc a]:=by
 have u:(cells a).length=1:=by rw[show (cells a).length=_ from bB.len a,bB.plain h]
 unfold enc;rw[if_neg (by simp[h])]
 match hc:cells a,u with
 | [x],_=>rfl
theorem AV (h:bB.agg α=true) (a:α):enc a=.agg (cells a):=by unfold enc;grind
theorem mA (a:α):V.good (enc a)=true:=by
 have h:V.cG (cells a)=true:=bB.good a
 cases u:bB.agg α with
 | true=>rw[AV u];exact h
 | false=>
  rw[uF u]at h;simp[V.cG]at h;omega
theorem pX (s:Sl α):V.one (enc s)=true:=Fz s
theorem OL (s:α) (h:bB.agg α=false):V.one (enc s)=true:=by
 have:=bB.one s;rw[show bB.cells s=cells s from rfl,uF h]at this
 grind
end
instance {α:Type} [bB α]:bB (Option α) where
 cells o:=[match o with|none=>.hG|some x=>.fptr (cells x)]
 agg:=false
 size:=1
 len _:=rfl
 good o:=by
  cases o with
  | none=>rfl
  | some x=>simp only[V.cG,V.good,Bool.and_true];exact bB.good x
 one o:=by cases o <;> rfl
 plain _:=rfl
structure U8 where
 v:Int
 deriving Inhabited,DecidableEq
instance:bB U8 where
 cells n:=[.int .u8 n.v]
 agg:=false
 size:=1
 len _:=rfl
 good _:=rfl
 one _:=rfl
 plain _:=rfl
structure WW where
 v:Int
 deriving Inhabited,DecidableEq
instance:bB WW where
 cells n:=[.int .u64 n.v]
 agg:=false
 size:=1
 len _:=rfl
 good _:=rfl
 one _:=rfl
 plain _:=rfl
structure WS where
 v:Int
 deriving Inhabited,DecidableEq
instance:bB WS where
 cells n:=[.int .u32 n.v]
 agg:=false
 size:=1
 len _:=rfl
 good _:=rfl
 one _:=rfl
 plain _:=rfl
structure Xe where
 v:Int
 deriving Inhabited,DecidableEq
instance:bB Xe where
 cells n:=[.int .i32 n.v]
 agg:=false
 size:=1
 len _:=rfl
 good _:=rfl
 one _:=rfl
 plain _:=rfl
structure lY (S:Sys) (c:b7) {α δ:Type} (g:FuncId) (w e:List V) (A:α->List V) (R:δ->List V) (p:α->Option δ) (b:Bool):Prop where
 f:eR S c g (λz=>w++A z++e) R p b
section
variable {S:Sys} {c:b7} {β γ δ α:Type} {Q:Out×St->Option β} {e:γ->Option β} {fo:Fo} {fs:List Fm} {st0:St} {l:List RO} {d:Option Nat} {gd:Option (Nat×Bool)} {now:Bool} {az:List Arg} {dd:List Nat}
theorem ko {α:Type} [bB α] (a:α):V.cells (enc a)=cells a:=by
 cases u:bB.agg α with
 | true=>rw[AV u];rfl
 | false=>
  have h1  := OL a u;rw[uF u];cases h:enc a <;> first|rfl|(rw[h]at h1;cases h1)
theorem qt {α:Type} [bB α] (a:α):(cells a).all V.one=true:=bB.one a
theorem gE {α:Type} [bB α] (a:α):(cells a).length=bB.size α:=bB.len a
theorem Ast [bB α] (n:Nat) (dr:Bool) (fr:List Nat) (q:List RO) (fs':List Fm) (st:St) (u o:Nat) (x:α) (cs B:List SV) {sz:Nat} {m:Option β} (G:q=⟨d,gd,now,.l (.store sz),az,dd,[]⟩::l)
 (D:(gY S c n fo fs st0,wanted st.g gd,b_ S.N st.g az,bg st.m u,(!dr||now),sz,Nat.ble (o+sz) cs.length,cs.take o++(cells x).map .v++cs.drop (o+sz))=(some (.ops dr fr q,fs',st),some true,some [.ptr u o,cv x],some (.box cs),true,bB.size α,true,B))
 (h:Le m (sV S c Q dr fr d (.l (.store sz)) l fs' dd (c8 { st with m:=bQ st.m u (.box B) } d (.v .undef)))):Le m (rn S c Q fo fs st0):=by
 simp only[ζc]at D;obtain⟨h1,w,z,A,C,I,J,L⟩:=D;refine qT h1 G w ?_ h;rw[wB,z];subst I;have O:=Nat.le_of_ble_eq_true J;simp only[ζb,C,if_true,nh,A,putCells,ko,gE,qt,O,and_self,L,Option.map_some]
theorem zO {α:Type} [bB α]:∀(xs:List α) (pre:List (List V)) (B:List (List V)),B.length=xs.length->gJ (bB.size α) (pre++B) ((List.range' pre.length xs.length).zip (xs.map enc))=some (pre++rows xs)
 | [],pre,B,h=>by
  have  := List.eq_nil_of_length_eq_zero h;subst this;rfl
 | x::xs,pre,s::B,h=>by
  simp only[List.length_cons,List.range'_succ,List.map_cons,List.zip_cons_cons,gJ,ko,gE,qt];have:=zO xs (pre++[cells x]) B (by grind)
  simp only[ζi,List.length_cons,List.length_nil]at this;have e:(pre++s::B).set pre.length (cells x)=pre++[cells x]++B:=by simp
  rw[e,this];simp[rows]
theorem Xc [bB α] (n:Nat) (dr:Bool) (fr:List Nat) (q:List RO) (fs':List Fm) (st:St) (xs:List α) {u sz ln:Nat} {zero:List V} {ix:List Nat} {m:Option β} (D:q=⟨some u,gd,now,.a (.buildSl sz ln zero ix),az,dd,[]⟩::l)
 (G:st.new u=true) (B:(gY S c n fo fs st0,wanted st.g gd,b_ S.N st.g az,sz,ln,ix)=(some (.ops dr fr q,fs',st),some true,some ((xs.map enc).map .v),bB.size α,xs.length,List.range' 0 xs.length))
 (h:Le m (sV S c Q dr fr (some u) (.a (.buildSl sz ln zero ix)) l fs' dd { st with g:=bQ st.g u (.own u),m:=bQ st.m u (cW (.row xs)) })):Le m (rn S c Q fo fs st0):=by
 simp only[ζc]at B;obtain⟨h1,w,z,A,C,I⟩:=B;subst A C I;refine qT h1 D w ?_ h;rw[Dz,z];simp only[ζb,G,qf,lF,List.length_range',List.length_map];have:=zO xs [] (List.replicate xs.length zero) (by simp)
 simp  at this;rw[this];rfl
theorem WB [bB α] (n:Nat) (dr:Bool) (fr:List Nat) (q:List RO) (fs':List Fm) (st:St) (x:α) (vs:List V) {z:List V} {pl:List (Nat×Nat)} {m:Option β} (D:q=⟨d,gd,now,.p (.build z pl),az,dd,[]⟩::l)
 (hp:kK z pl vs=some (cells x)) (G:bB.agg α=true)
 (B:(gY S c n fo fs st0,wanted st.g gd,b_ S.N st.g az)=(some (.ops dr fr q,fs',st),some true,some (vs.map .v)))
 (h:Le m (sV S c Q dr fr d (.p (.build z pl)) l fs' dd (c8 st d (cv x)))):Le m (rn S c Q fo fs st0):=by
 simp  at B;refine qT B.1 D B.2.1 (DM B.2.2 rfl ?_) h;unfold kz;rw[lF];simp only[Pw,hp,Option.map_some];show some (SV.v (.agg (cells x)))=some (.v (enc x));rw[AV G]
section
variable [bB α]
theorem Wy (n:Nat) (dr:Bool) (fr:List Nat) (q:List RO) (fs':List Fm) (st:St) (lo hi:Bool) (D:List V) {sz:Nat} {s:Sl α} {a b:Option Int} {f:Sl α->Option γ} (G:q=⟨d,gd,now,.p (.slice sz lo hi),az,dd,[]⟩::l)
 (B:(gY S c n fo fs st0,wanted st.g gd,b_ S.N st.g az,mI lo hi D,sz)=(some (.ops dr fr q,fs',st),some true,some (.v (cq s)::D.map .v),some (a,b),bB.size α))
 (h:∀x,jS s a b=some x->Le ((f x).bind e) (sV S c Q dr fr d (.p (.slice sz lo hi)) l fs' dd (c8 st d (.v (cq x))))):Le (((jS s a b).bind f).bind e) (rn S c Q fo fs st0):=by
 simp  at B;refine Ed B.1 G B.2.1 (Le.of_eq ?_) h;have w  := B.2.2.1;unfold fG mG;simp[wanted,fZ,w];have u:kz S.N st.m (.slice sz lo hi) ((cq s::D).map .v)=(jS s a b).bind λx=>some (.v (cq x)):=by
  unfold kz;rw[lF];simp[bn,B.2.2.2.1,L8 s a b sz B.2.2.2.2];cases jS s a b <;> rfl
 simp  at u ⊢;rw[u];cases jS s a b <;> rfl
def oM (s:Sl α) (lo hi:Option Int):Option (Sl α):=
 match s with
 | .nil|.emp=>none
 | .row x|.part x=>(dX x.length lo hi).map λ(l,h)=>.part ((x.take h).drop l)
theorem VJ (n:Nat) (fr:List Nat) (q:List RO) (fs':List Fm) (st:St) (lo hi:Bool) (u:Nat) (D:List V) {t sz:Nat} {s:Sl α} {a b:Option Int} {f:Sl α->Option γ} (J:q=⟨some t,gd,now,.p (.slice sz lo hi),az,dd,[]⟩::l)
 (G:St.new { st with m:=eo u st.m } t=true) (B:(gY S c n fo fs st0,wanted st.g gd,b_ S.N st.g az,mI lo hi D,bg st.m u,sz)=(some (.ops false fr q,fs',st),some true,some (.own u::D.map .v),some (a,b),some (cW s),bB.size α))
 (h:∀x,oM s a b=some x->Le ((f x).bind e) (sV S c Q false fr (some t) (.p (.slice sz lo hi)) l fs' dd { st with g:=bQ st.g t (.own t),m:=bQ (eo u st.m) t (cW x) })):Le (((oM s a b).bind f).bind e) (rn S c Q fo fs st0):=by
 simp  at B;refine Ed B.1 J B.2.1 (Le.of_eq ?_) h;obtain⟨_,_,z,w,A,C⟩:=B;subst C;unfold fG mG;simp[wanted,fZ,z,Ax,lF,A,w]
 cases s with
 | nil=>simp[oM,cW,Sl.k,cQ]
 | emp=>simp[oM,cW,Sl.k,cQ]
 | row x=>
  simp[cW,Sl.k,Sl.l,cQ,oM,kI,w]
  cases dX x.length a b with
  | none=>rfl
  | some r=>simp[G,c8,rows,List.map_drop]
 | part x=>
  simp[cW,Sl.k,Sl.l,cQ,oM,kI,w]
  cases dX x.length a b with
  | none=>rfl
  | some r=>simp[G,c8,rows,List.map_drop]
end
end
end Go.VE
namespace Go.VE
variable [bV]
structure cC (n:Nat) (α:Type) where
 l:List α
 len:l.length=n
theorem P0 {α:Type} [bB α] (l:List α):(l.map (cells (α:=α))).flatten.length=l.length*bB.size α:=by
 induction l with
 | nil=>simp
 | cons a l u=>simp[u,gE,Nat.add_mul,Nat.add_comm]
theorem NF {α:Type} [bB α] (l:List α):V.cG (l.map (cells (α:=α))).flatten=true:=by
 induction l with
 | nil=>rfl
 | cons a l u=>
  have h:∀(x y:List V),V.cG x=true->V.cG y=true->V.cG (x++y)=true:=by
   intro x
   induction x with
   | nil=>grind
   | cons b x w=>intro y h1 z;simp[V.cG]at h1 ⊢;grind
  exact h _ _ (bB.good a) u
instance {n:Nat} {α:Type} [bB α]:bB (cC n α) where
 cells a:=(a.l.map cells).flatten
 agg:=true
 size:=n*bB.size α
 len a:=by rw[P0,a.len]
 good a:=NF a.l
 one a:=by
  have:∀l:List α,(l.map (cells (α:=α))).flatten.all V.one=true:=by
   intro l
   induction l with
   | nil=>rfl
   | cons a l u=>simp only[List.map_cons,List.flatten_cons,List.all_append,u,qt,Bool.and_self]
  exact this a.l
 plain h:=by cases h
def cC.Ny (n:Nat) {α:Type} (z:α):cC n α:=⟨List.replicate n z,by simp⟩
def cC.at {n:Nat} {α:Type} (a:cC n α) (i:Int):Option α:=if 0<=i then a.l[i.toNat]? else none
def cC.set {n:Nat} {α:Type} (a:cC n α) (i:Int) (x:α):cC n α:=⟨a.l.set i.toNat x,by simp[a.len]⟩
def pa {n:Nat} {α:Type} [bB α] (a:cC n α) (i:Int):List V:=(cells a).drop (i.toNat*bB.size α)
theorem cC.tN {n:Nat} {α:Type} {a:cC n α} {i:Int} {x:α} (h:a.at i=some x):0<=i/\i.toNat<n/\a.l[i.toNat]? = some x:=by
 unfold cC.at at h;split at h
 .rename_i hi;refine⟨hi,?_,h⟩;have:=(ζe.1 h).1;rw[<-a.len];simp_all
 simp_all
theorem Es {α:Type} [bB α]:∀(l:List α) (k:Nat),((l.map (cells (α:=α))).flatten).drop (k*bB.size α)=((l.drop k).map (cells (α:=α))).flatten
 | [],k=>by simp
 | a::l,0=>by simp
 | a::l,k+1=>by
  have h  := gE a;rw[List.map_cons,List.flatten_cons,List.drop_succ_cons,<-Es l k,Nat.add_mul,Nat.one_mul,Nat.add_comm,<-h,List.drop_length_add_append]
theorem A2 {n:Nat} {α:Type} [bB α] {a:cC n α} {i:Int} {x:α} (h:a.at i=some x):∃r,pa a i=cells x++r:=by
 obtain⟨h1,A,w⟩:=cC.tN h;obtain⟨u,z⟩:=ζe.1 w;refine⟨((a.l.drop (i.toNat+1)).map cells).flatten,?_⟩;show ((a.l.map (cells )).flatten).drop (i.toNat*bB.size α)=_;rw[Es,List.drop_eq_getElem_cons u,List.map_cons,List.flatten_cons,z]
section
variable {S:Sys} {c:b7} {β γ δ α:Type} {Q:Out×St->Option β} {e:γ->Option β} {fo:Fo} {fs:List Fm} {st0:St} {l:List RO} {d:Option Nat} {gd:Option (Nat×Bool)} {now:Bool} {az:List Arg} {dd:List Nat}
section
variable {N:Nat} [bB α]
theorem VW (n:Nat) (dr:Bool) (fr:List Nat) (q:List RO) (fs':List Fm) (st:St) (k:IntKind) {ln sz:Nat} {a:cC N α} {i:Int} {f:α->Option γ} (D:q=⟨d,gd,now,.p (.idxA ln sz),az,dd,[]⟩::l)
 (B:(gY S c n fo fs st0,wanted st.g gd,b_ S.N st.g az,sz,ln)=(some (.ops dr fr q,fs',st),some true,some [cp a,.v (.int k i)],bB.size α,N))
 (h:∀x,a.at i=some x->Le ((f x).bind e) (sV S c Q dr fr d (.p (.idxA ln sz)) l fs' dd (c8 st d (.v (.fptr (pa a i)))))):Le (((a.at i).bind f).bind e) (rn S c Q fo fs st0):=by
 simp  at B;obtain⟨h1,w,z,A,C⟩:=B;subst A C;refine Ed h1 D w ?_ h;intro r hr;obtain⟨x,G,hr⟩:=ζg.1 hr;obtain⟨g1,g2,_⟩:=cC.tN G;rw[DM  z rfl ?_]
 .omega
 rw[vU];simp[bn,wA];have u:i.toNat*bB.size α<=(cells a).length:=by
  rw[gE];exact Nat.mul_le_mul_right _ (Nat.le_of_lt g2)
 rw[if_pos ⟨g1,by omega⟩,if_pos u]
 rfl
theorem WL (n:Nat) (dr:Bool) (fr:List Nat) (q:List RO) (fs':List Fm) (st:St) (a:cC N α) (i:Int) (o:Nat) (x:α) (D:a.at i=some x) {k:Nat} {m:Option β} (G:q=⟨d,gd,now,.p (.fieldAddr k),az,dd,[]⟩::l)
 (B:(gY S c n fo fs st0,wanted st.g gd,b_ S.N st.g az,Nat.ble (o+k) (bB.size α))=(some (.ops dr fr q,fs',st),some true,some [.v (.fptr ((pa a i).drop o))],true))
 (h:Le m (sV S c Q dr fr d (.p (.fieldAddr k)) l fs' dd (c8 st d (.v (.fptr ((pa a i).drop (o+k))))))):Le m (rn S c Q fo fs st0):=by
 simp only[ζc]at B;obtain⟨h1,u,w,z⟩:=B;refine qT h1 G u (DM w rfl ?_) h;have A:=Nat.le_of_ble_eq_true z;obtain⟨r,hr⟩:=A2 D;have C:(pa a i).length>=bB.size α:=by rw[hr,ζi,gE];omega
 rw[Iz,HS,if_pos (by grind),List.drop_drop]
 rfl
theorem Vx (n:Nat) (dr:Bool) (fr:List Nat) (q:List RO) (fs':List Fm) (st:St) (a:cC N α) (i:Int) (o:Nat) (x:α) (G:a.at i=some x) {sz:Nat} {ag:Bool} {v:V} (hv:(cut (cells x) o sz).bind (mk ag)=some v) (B:V) {m:Option β} (J:q=⟨d,gd,now,.r (.load sz ag),az,dd,[]⟩::l)
 (D:(gY S c n fo fs st0,wanted st.g gd,b_ S.N st.g az,v)=(some (.ops dr fr q,fs',st),some true,some [.v (.fptr ((pa a i).drop o))],B))
 (h:Le m (sV S c Q dr fr d (.r (.load sz ag)) l fs' dd (c8 st d (.v B)))):Le m (rn S c Q fo fs st0):=by
 simp  at D;obtain⟨h1,z,A,rfl⟩:=D;refine qT h1 J z ?_ h;rw[FU,A];have hold:fc fr [SV.v (.fptr ((pa a i).drop o))]=true:=rfl;simp[hold,NP];obtain⟨r,hr⟩:=A2 G;rw[hr];have hc:cut ((cells x++r).drop o) 0 sz=cut (cells x) o sz:=by
  cases u:cut (cells x) o sz with
  | none=>grind
  | some w=>
   unfold cut at u ⊢;dsimp only at u ⊢;split at u
   .have e1:(List.drop 0 (List.drop o (cells x++r))).take sz=((cells x).drop o).take sz:=by
     have C:sz=0\/o<=(cells x).length:=by
      grind
     grind
    grind
   grind
 cases u:cut (cells x) o sz with
 | none=>grind
 | some w=>grind
theorem Us (n:Nat) (dr:Bool) (fr:List Nat) (q:List RO) (fs':List Fm) (st:St) (cs:List SV) {u sz:Nat} {zero:List V} {m:Option β} (D:q=⟨some u,gd,now,.a (.alloc sz zero),az,dd,[]⟩::l)
 (G:st.new u=true) (B:(gY S c n fo fs st0,wanted st.g gd,b_ S.N st.g az,zero.map SV.v)=(some (.ops dr fr q,fs',st),some true,some [],cs))
 (h:Le m (sV S c Q dr fr (some u) (.a (.alloc sz zero)) l fs' dd { st with g:=bQ st.g u (.ptr u 0),m:=bQ st.m u (.box cs) })):Le m (rn S c Q fo fs st0):=by
 simp  at B;obtain⟨h1,w,z,A⟩:=B;subst A;refine qT h1 D w ?_ h;rw[Dz,z];simp[G,qf]
theorem tg (d:Nat) (l:List V):SV.dz d (l.map .v)=false:=by
 induction l with
 | nil=>rfl
 | cons a l u=>simp[SV.dz,SV.cN,u]
theorem s9 {α:Type} [bB α] (d:Nat) (x:α):bJ.cN d (bx x)=false:=tg d (cells x)
theorem Vr (n:Nat) (dr:Bool) (fr:List Nat) (q:List RO) (fs':List Fm) (st:St) (k:IntKind) (u:Nat) {ln sz:Nat} {a:cC N α} {i:Int} {f:α->Option γ} (D:q=⟨d,gd,now,.p (.idxA ln sz),az,dd,[]⟩::l)
 (B:(gY S c n fo fs st0,wanted st.g gd,b_ S.N st.g az,sz,ln,bg st.m u)=(some (.ops dr fr q,fs',st),some true,some [.ptr u 0,.v (.int k i)],bB.size α,N,some (bx a)))
 (h:∀x,a.at i=some x->Le ((f x).bind e) (sV S c Q dr fr d (.p (.idxA ln sz)) l fs' dd (c8 st d (.ptr u (i.toNat*bB.size α+0))))):Le (((a.at i).bind f).bind e) (rn S c Q fo fs st0):=by
 simp  at B;obtain⟨h1,w,z,G,I,A⟩:=B;refine Ed h1 D w ?_ h;intro r hr;obtain⟨x,C,hr⟩:=ζg.1 hr;obtain⟨g1,g2,_⟩:=cC.tN C;rw[DM  z rfl ?_]
 .omega
 simp[kz,dD,AX,A]
 grind
theorem P5 {a:cC N α} {i:Int} {o:Nat} {x:α} (B:a.at i=some x) {sz:Nat} {ag:Bool} {v:V} (hv:(cut (cells x) o sz).bind (mk ag)=some v):u5 sz ag ((((cells a).map SV.v).drop (i.toNat*bB.size α+o)).take sz)=some (.v v):=by
 obtain⟨r,hr⟩:=A2 B;have e1:(((cells a).map SV.v).drop (i.toNat*bB.size α+o)).take sz=(((cells x).drop o).take sz).map SV.v:=by
  have u:((cells x).drop o).take sz=((cells x++r).drop o).take sz:=by
   cases hc:cut (cells x) o sz with
   | none=>grind
   | some w=>
    unfold cut at hc;dsimp only at hc;split at hc
    .have A:sz=0\/o<=(cells x).length:=by
      grind
     grind
    simp_all
  rw[u,<-hr,pa,List.drop_drop,List.map_take,List.map_drop]
 rw[e1];unfold u5
 cases hc:cut (cells x) o sz with
 | none=>grind
 | some w=>
  rw[hc]at hv;unfold cut at hc;dsimp only at hc;split at hc
  .rename_i z;cases hc;simp only[List.length_map,z];unfold mk at hv
   cases ag with
   | true=>
    simp only[if_true]at hv ⊢;cases hv;rw[lF]
   | false=>
    grind
  simp_all
theorem VO (n:Nat) (dr:Bool) (fr:List Nat) (q:List RO) (fs':List Fm) (st:St) (u:Nat) (a:cC N α) (i:Int) (o:Nat) (x:α) (G:a.at i=some x) {sz:Nat} {ag:Bool} {v:V} (hv:(cut (cells x) o sz).bind (mk ag)=some v) (B:V) {m:Option β} (J:q=⟨d,gd,now,.r (.load sz ag),az,dd,[]⟩::l)
 (D:(gY S c n fo fs st0,wanted st.g gd,b_ S.N st.g az,v,bg st.m u,(!dr||now||fc fr [.ptr u 0]))=(some (.ops dr fr q,fs',st),some true,some [.ptr u (i.toNat*bB.size α+o)],B,some (bx a),true))
 (h:Le m (sV S c Q dr fr d (.r (.load sz ag)) l fs' dd (c8 st d (.v B)))):Le m (rn S c Q fo fs st0):=by
 simp only[ζc]at D;obtain⟨h1,w,z,rfl,A,C⟩:=D;refine qT h1 J w ?_ h;rw[FU,z];have hold:(!dr||now||fc fr [SV.ptr u (i.toNat*bB.size α+o)])=true:=C;simp only[ζb,hold,WD,A,Na];rw[P5 G hv];rfl
theorem NM {N:Nat} (a:cC N α) (i:Int) (y:α) (h:i.toNat<N):cells (a.set i y)=(cells a).take (i.toNat*bB.size α)++cells y++(cells a).drop ((i.toNat+1)*bB.size α):=by
 have key:∀(l:List α) (k:Nat),k<l.length->((l.set k y).map (cells )).flatten=(l.map (cells )).flatten.take (k*bB.size α)++cells y++(l.map (cells )).flatten.drop ((k+1)*bB.size α):=by
  intro l
  induction l with
  | nil=>grind
  | cons b l u=>
   intro k h;have w  := gE b
   cases k with
   | zero=>
    grind
   | succ k=>
    simp only[List.map_cons,List.flatten_cons];have e1:(k+1)*bB.size α=(cells b).length+k*bB.size α:=by grind
    have e2:(k+1+1)*bB.size α=(cells b).length+(k+1)*bB.size α:=by grind
    rw[e2,List.drop_length_add_append]
    grind
 exact key a.l i.toNat (by rw[a.len];omega)
theorem V3 (n:Nat) (dr:Bool) (fr:List Nat) (q:List RO) (fs':List Fm) (st:St) (u:Nat) (a:cC N α) (i:Int) (o:Nat) (x:α) (B:a.at i=some x) (y:α) (v:V) {sz:Nat} (G:cells y=(cells x).take o++v.cells++(cells x).drop (o+sz)) {m:Option β} (J:q=⟨d,gd,now,.l (.store sz),az,dd,[]⟩::l)
 (D:(gY S c n fo fs st0,wanted st.g gd,b_ S.N st.g az,bg st.m u,(!dr||now),v.cells.length,v.cells.all V.one,Nat.ble (o+sz) (bB.size α))=(some (.ops dr fr q,fs',st),some true,some [.ptr u (i.toNat*bB.size α+o),.v v],some (bx a),true,sz,true,true))
 (h:Le m (sV S c Q dr fr d (.l (.store sz)) l fs' dd (c8 { st with m:=bQ st.m u (bx (a.set i y)) } d (.v .undef)))):Le m (rn S c Q fo fs st0):=by
 simp only[ζc]at D;obtain⟨h1,z,A,C,I,L,O,T⟩:=D;refine qT h1 J z ?_ h;rw[wB,A];have W:=Nat.le_of_ble_eq_true T;obtain⟨g1,g2,g3⟩:=cC.tN B;have U:i.toNat*bB.size α+o+sz<=((cells a).map SV.v).length:=by
  rw[List.length_map,gE];have:(i.toNat+1)*bB.size α<=N*bB.size α:=Nat.mul_le_mul_right _ g2;rw[Nat.add_mul,Nat.one_mul]at this;show _<=N*bB.size α;omega
 simp only[ζb,I,if_true,nh,C,putCells,L,O,U,and_self,Option.map_some];obtain⟨r,hr⟩:=A2 B;have e:((cells a).map SV.v).take (i.toNat*bB.size α+o)++v.cells.map .v++((cells a).map SV.v).drop (i.toNat*bB.size α+o+sz)=(cells (a.set i y)).map SV.v:=by
  rw[NM a i y g2,G];have hd:(cells a).drop (i.toNat*bB.size α)=cells x++r:=hr;have w  := gE x;have e1:(cells a).take (i.toNat*bB.size α+o)=(cells a).take (i.toNat*bB.size α)++(cells x).take o:=by
   rw[List.take_add,hd,List.take_append_of_le_length (by omega)]
  have e2:(cells a).drop (i.toNat*bB.size α+o+sz)=(cells x).drop (o+sz)++(cells a).drop ((i.toNat+1)*bB.size α):=by
   have e3:(cells a).drop ((i.toNat+1)*bB.size α)=r:=by
    rw[Nat.add_mul,Nat.one_mul,<-List.drop_drop,hd,<-w,List.drop_left]
   rw[e3,Nat.add_assoc,<-List.drop_drop,hd,List.drop_append_of_le_length (by omega)]
  rw[<-List.map_take,<-List.map_drop,e1,e2]
  grind
 rw[e]
end
theorem RN {α:Type} [bB α] {m:Tb bJ} {d:Nat} {x:α} {vs:List V} (h:bg m d=some (bx x)):nX (ja m 8) (.ptr d 0::vs.map .v)=some (.fptr (cells x)::vs):=by
 have h1:ja m 8 (.ptr d 0)=some (.fptr (cells x)):=by
  show (match bg m d with
   | some (.box cs)=>match nX (ja m 7) cs with
    | some u=>if 0<=u.length then some (V.fptr (u.drop 0))else none
    | none=>none
   | _=>none)=_
  rw[h];simp[GP]
 simp[nX,h1,GP]
theorem Vz (n:Nat) {fo:Fo} {fs fs':List Fm} {st0 st:St} {rs:List RV} {e:γ->Option (List V)} {r:γ} (svs:List SV) {ys:List V} (B:nX (ja st.m 8) svs=some ys) (h:(gY S c n fo fs st0,ku st rs)=(some (.rt,fs',st),some svs)) (D:e r=some ys) :
 Le ((some r).bind e) (rn S c (mK rs) fo fs st0):=by
 simp  at h;rw[oP h.1];refine Le.of_eq ?_;simp[rn,mK,h.2,B]
 grind
abbrev Mo (κ ν:Type):=List (κ×ν)
class Key (κ:Type) [bB κ] [DecidableEq κ] where
 kk:xx
 ok:∀a:κ,pP kk (enc a)=true
 eq:∀a b:κ,wV (enc a) (enc b)=some (decide (a=b))
instance:Key Int where
 kk:=.int .i64
 ok _:=rfl
 eq a b:=by
  show some (a==b)=some (decide (a=b));rw[show (a==b)=decide (a=b)from Bool.eq_iff_iff.2 (by simp)]
instance:Key aY where
 kk:=.ints 2
 ok _:=rfl
 eq a b:=by
  obtain⟨p,i⟩:=a;obtain⟨q,j⟩:=b;simp only[wV,kR,ir,U7,Option.map_some,List.length_cons,if_true,ζa];rw[Bool.eq_iff_iff];simp
section
variable {κ ν:Type} [bB κ] [DecidableEq κ] [Key κ] [bB ν]
def uc (k:κ):Mo κ ν->Option ν
 | []=>none
 | (a,v)::r=>if k=a then some v else uc k r
def DX (m:Mo κ ν) (k:κ) (z:ν):ν:=(uc k m).getD z
def rA (m:Mo κ ν) (k:κ) (v:ν):Mo κ ν:=
 match m with
 | []=>[(k,v)]
 | (a,w)::r=>if k=a then(k,v)::r else(a,w)::rA r k v
def oH (m:Mo κ ν):List (V×V):=m.map λx=>(enc x.1,enc x.2)
def vY (m:Mo κ ν):bJ:=.mp (oH m)
theorem JO (k:κ):∀(m:Mo κ ν) (i:Nat),(iJ (enc k) (oH m) i).map (Option.map (·.2))=some ((uc k m).map enc)
 | [],i=>rfl
 | (a,v)::r,i=>by
  simp only[oH,List.map_cons,iJ,Key.eq,uc]
  by_cases h:k=a
  .grind
  .simp only[h];exact JO k r (i+1)
theorem Qp (k:κ) (v:ν) (m:Mo κ ν):pV (enc k) (enc v) (oH m)=some (oH (rA m k v)):=by
 unfold pV;have key:∀(m:Mo κ ν) (pre:List (V×V)) (i:Nat),pre.length=i->(match iJ (enc k) (oH m) i with
  | some (some (j,_))=>some ((pre++oH m).set j (enc k,enc v))
  | some none=>some (pre++oH m++[(enc k,enc v)])
  | none=>none)=some (pre++oH (rA m k v)):=by
  intro m
  induction m with
  | nil=>simp[oH,iJ,rA]
  | cons x r u=>
   obtain⟨a,w⟩:=x;intro pre i h;rw[show oH ((a,w)::r)=(enc a,enc w)::oH r from rfl];simp[iJ,Key.eq,rA]
   by_cases hk:k=a
   .subst hk h;simp[oH]
   .simp[hk];rw[show oH ((a,w)::rA r k v)=(enc a,enc w)::oH (rA r k v)from rfl];have:=u (pre++[(enc a,enc w)]) (i+1) (by simp[h])
    grind
 have:=key m [] 0 rfl
 grind
theorem VD (n:Nat) (dr:Bool) (fr:List Nat) (q:List RO) (fs':List Fm) (st:St) (u:Nat) (mp:Mo κ ν) (k:κ) (z:ν) {kk:xx} {B:V} {m:Option β} (G:q=⟨d,gd,now,.r (.lookup kk B false),az,dd,[]⟩::l)
 (D:(gY S c n fo fs st0,wanted st.g gd,b_ S.N st.g az,bg st.m u,(!dr||now||fc fr [.mp u,cv k]),B,kk)=(some (.ops dr fr q,fs',st),some true,some [.mp u,cv k],some (vY mp),true,enc z,Key.kk κ))
 (h:Le m (sV S c Q dr fr d (.r (.lookup kk B false)) l fs' dd (c8 st d (cv (DX mp k z))))):Le m (rn S c Q fo fs st0):=by
 simp only[ζc]at D;obtain⟨h1,A,C,I,J,L,O⟩:=D;subst L O;refine qT h1 G A ?_ h;rw[FU,C];simp only[ζb,J,pg,I,vY,Key.ok];have:=JO k mp 0;simp[DX]
 cases T:iJ (enc k) (oH mp) 0 with
 | none=>grind
 | some r=>
  rw[T]at this
  cases r with
  | none=>
   cases U:uc k mp with
   | none=>rfl
   | some w=>grind
  | some w=>
   cases U:uc k mp with
   | none=>grind
   | some W=>
    grind
theorem Wz (n:Nat) (dr:Bool) (fr:List Nat) (q:List RO) (fs':List Fm) (st:St) (u:Nat) (mp:Mo κ ν) (k:κ) (v:ν) {kk:xx} {m:Option β} (D:q=⟨d,gd,now,.l (.mapUp kk),az,dd,[]⟩::l)
 (B:(gY S c n fo fs st0,wanted st.g gd,b_ S.N st.g az,bg st.m u,(!dr||now),kk)=(some (.ops dr fr q,fs',st),some true,some [.mp u,cv k,cv v],some (vY mp),true,Key.kk κ))
 (h:Le m (sV S c Q dr fr d (.l (.mapUp kk)) l fs' dd (c8 { st with m:=bQ st.m u (vY (rA mp k v)) } d (.v .undef)))):Le m (rn S c Q fo fs st0):=by
 simp only[ζc]at B;obtain⟨h1,w,z,A,C,G⟩:=B;subst G;refine qT h1 D w ?_ h;rw[wB,z];simp[C,nh,A,vY,Key.ok,Qp]
end
end
end Go.VE
namespace Go.VE
variable [bV]
instance {n:Nat}:OfNat Arg n:=⟨.s n⟩
abbrev bI (o:BinOp):K:=.p (.bin (some .int) none o)
abbrev ix (n:Nat):K:=.p (.idxS n)
abbrev ld (n:Nat):K:=.r (.load n false)
abbrev lD (n:Nat):K:=.r (.load n true)
abbrev fa (n:Nat):K:=.p (.fieldAddr n)
abbrev ln:K:=.p .lenSl
abbrev su (n:Nat):K:=.l (.store n)
abbrev Iv (n:Nat) (x:Int):Nat×SV:=(n,iv x)
abbrev Bv (n:Nat) (x:Bool):Nat×SV:=(n,bv x)
abbrev Cv {α:Type} [bB α] (n:Nat) (x:α):Nat×SV:=(n,cv x)
abbrev Kv {α:Type} [bB α] (n:Nat) (x:α):Nat×SV:=(n,cp x)
abbrev Pv (n:Nat):Nat×SV:=(n,.ptr n 0)
abbrev Ov (n:Nat):Nat×SV:=(n,.own (2000+n))
abbrev Xb {α:Type} [bB α] (n:Nat) (x:α):Nat×bJ:=(n,bx x)
abbrev Lb {α:Type} [bB α] (n:Nat) (x:Sl α):Nat×bJ:=(n,cW x)
abbrev on (d:Nat) (k:K) (az:List Arg) (dd:List Nat):RO:=⟨some d,none,true,k,az,dd,[]⟩
abbrev oz (k:K) (az:List Arg) (dd:List Nat):RO:=⟨none,none,false,k,az,dd,[]⟩
abbrev oy (k:K) (az:List Arg) (dd:List Nat):RO:=⟨none,none,true,k,az,dd,[]⟩
attribute [simp] RM Ss Tj
theorem eR.wQ {S:Sys} {T:pT} {f:FuncId} {b:Bool} (B:T f=none) (hk:S.E.keep f=false) (D:S.wQ f []=some (.bool b)) :
 eR S (dM S T) f (λ_:Unit=>[]) (λr:Bool=>[.bool r]) (λ_=>some b) true where
 k:=hk
 h _:=by
  have h:=EG (az:=[]) B hk D;intro r hr;cases hr;unfold fS;rw[h];exact wG 8 [.bool b]
 s _ _:=rfl
end Go.VE
namespace Go.VE
variable [bV]
def Wp {α:Type} (m:Option α) (P:α->Prop):Prop:=∃a,m=some a/\P a
section
variable {α β:Type} {P Q:α->Prop}
theorem a_ (a:α):Wp (some a) P↔P a:=⟨λh=>by obtain⟨b,e,p⟩:=h;cases e;exact p,λp=>⟨a,rfl,p⟩⟩
theorem SS:Wp (none:Option α) P↔False:=⟨λh=>(by obtain⟨b,e,p⟩:=h;cases e),λh=>False.elim h⟩
theorem jc {m:Option β} {k:β->Option α}:Wp (m.bind k) P↔Wp m λb=>Wp (k b) P:=by
 cases m with
 | none=>simp only[Option.bind_none,SS]
 | some b=>simp only[ζb,a_]
theorem cu {t:Bool} {a b:Option α}:Wp (bf t a b) P↔(t=true->Wp a P)/\(t=false->Wp b P):=by
 cases t <;> simp[bf]
theorem Wp.mono {m:Option α} (h:Wp m P) (B:∀a,P a->Q a):Wp m Q:=let ⟨a,e,p⟩:=h;⟨a,e,B a p⟩
theorem Wp.and {m:Option α} (h:Wp m P) (B:Wp m Q):Wp m λa=>P a/\Q a:=by
 obtain⟨a,e,p⟩:=h;obtain⟨b,e2,q⟩:=B;rw[e]at e2;cases e2;exact⟨a,e,p,q⟩
theorem Wp.eq {m:Option α} {a:α} (h:Wp m λx=>x=a):m=some a:=by obtain⟨b,e,rfl⟩:=h;exact e
end
section
variable {σ ε ρ:Type}
theorem eO (step:σ->Option (Fw σ ε ρ)) (s:σ):bW step s=(step s).bind λw=>match w with
 | .n B=>bW step B
 | .x e=>some (.x e)
 | .r b=>some (.r b):=by
 have h1:∀r,bW step s=some r->((step s).bind λw=>match w with
  | .n B=>bW step B
  | .x e=>some (.x e)
  | .r b=>some (.r b))=some r:=by
  intro r h;obtain⟨k,hk⟩:=ou.1 h
  cases k with
  | zero=>simp[jD]at hk
  | succ k=>
   simp only[jD]at hk
   cases u:step s with
   | none=>rw[u]at hk;cases hk
   | some w=>
    rw[u]at hk
    cases w with
    | n B=>exact ou.2 ⟨k,hk⟩
    | x e=>exact hk
    | r b=>exact hk
 cases z:bW step s with
 | some r=>exact(h1 r z).symm
 | none=>
  cases hr:((step s).bind λw=>match w with
  | .n B=>bW step B
  | .x e=>some (.x e)
  | .r b=>some (.r b))with
  | none=>rfl
  | some r=>
   exfalso
   cases u:step s with
   | none=>rw[u]at hr;cases hr
   | some w=>
    rw[u]at hr;simp only[ζb]at hr;have:bW step s=some r:=by
     cases w with
     | n B=>
      obtain⟨k,hk⟩:=ou.1 hr;exact ou.2 ⟨k+1,by simp only[jD,u];exact hk⟩
     | x e=>exact ou.2 ⟨1,by simp only[jD,u];exact hr⟩
     | r b=>exact ou.2 ⟨1,by simp only[jD,u];exact hr⟩
    rw[z]at this;cases this
def Q5 (I:σ->Prop) (μ:σ->Nat) (D:ε->Prop) (G:ρ->Prop) (s:σ):Fw σ ε ρ->Prop
 | .n B=>I B/\μ B<μ s
 | .x e=>D e
 | .r b=>G b
def Wi (B:ε->Prop) (D:ρ->Prop):Fw Empty ε ρ->Prop
 | .x e=>B e
 | .r b=>D b
theorem Qc {step:σ->Option (Fw σ ε ρ)} (I:σ->Prop) (μ:σ->Nat) (B:ε->Prop) (D:ρ->Prop) (h:∀s,I s->Wp (step s) (Q5 I μ B D s)) {s:σ} (G:I s):Wp (bW step s) (Wi B D):=by
 have key:∀n s,μ s<=n->I s->Wp (bW step s) (Wi B D):=by
  intro n
  induction n with
  | zero=>
   intro s A hi;obtain⟨w,u,hr⟩:=h s hi;rw[eO,u]
   cases w with
   | n z=>exact absurd hr.2 (by omega)
   | x e=>exact⟨_,rfl,hr⟩
   | r b=>exact⟨_,rfl,hr⟩
  | succ n C=>
   intro s A hi;obtain⟨w,u,hr⟩:=h s hi;rw[eO,u]
   cases w with
   | n z=>exact C z (by have:=hr.2;omega) hr.1
   | x e=>exact⟨_,rfl,hr⟩
   | r b=>exact⟨_,rfl,hr⟩
 exact key (μ s) s (Nat.le_refl _) G
theorem eD {γ:Type} {step:σ->Option (Fw σ ε ρ)} {B:ε->Option γ} {fr:ρ->Option γ} {P:γ->Prop} (I:σ->Prop) (μ:σ->Nat) {s:σ} (D:I s)
 (h:∀s,I s->Wp (step s) (Q5 I μ (λe=>Wp (B e) P) (λb=>Wp (fr b) P) s)):Wp ((bW step s).bind (Fw.elim B fr)) P:=by
 rw[jc];refine(Qc I μ _ _ h D).mono ?_;intro w u
 cases w with
 | n a=>cases a
 | x e=>exact u
 | r b=>exact u
end
end Go.VE
namespace Go.VE
variable [bV]
theorem D2 {β γ δ:Type} {e:γ->Option β} {m:Option δ} {f:δ->Option γ} {L:Option β} (h:∀x,m=some x->Le ((f x).bind e) L):Le ((m.bind f).bind e) L:=by
 cases m with
 | none=>exact Le.none _
 | some x=>exact h x rfl
section
variable {S:Sys} {c:b7} {β:Type} {Q:Out×St->Option β} {fo:Fo} {fs:List Fm} {st0:St} {l:List RO} {d:Option Nat} {now:Bool} {az:List Arg} {dd:List Nat}
theorem Le.get {β:Type} {r:β} {L:Option β} (h:Le (some r) L):L=some r:=h r rfl
theorem Kt {n:Nat} {fo fo':Fo} {fs fs':List Fm} {st:St} (A:Bool->St) {t:Bool} {m:Option β} (B:t=true) (h:gY S c n fo fs st=some (fo',fs',A t)) (D:Le m (rn S c Q fo' fs' (A true))):Le m (rn S c Q fo fs st):=by
 rw[oP h,B];exact D
theorem Kf {n:Nat} {fo fo':Fo} {fs fs':List Fm} {st:St} (A:Bool->St) {t:Bool} {m:Option β} (B:t=false) (h:gY S c n fo fs st=some (fo',fs',A t)) (D:Le m (rn S c Q fo' fs' (A false))):Le m (rn S c Q fo fs st):=by
 rw[oP h,B];exact D
theorem OQ {α:Type} [bB α] {s:Sl α} {i:Int} {x:α} {r:β} {L:Option β} (B:idx s i=some x) (h:Le (((idx s i).bind λ_=>some r).bind some) L):Le (some r) L:=by
 rw[B]at h;exact h
theorem Wl {n:Nat} {q:List RO} {fs':List Fm} {st:St} {id:Nat} {vs:List SV} {xs:List V} {B:List (List V)} {m:Option β}
 (D:gY S c n fo fs st0=some (.ops false [] q,fs',st)) (G:q=⟨d,none,now,.c,az,dd,[]⟩::l) (J:b_ S.N st.g az=some (.yl id::vs)) (U:dD vs=some xs) (W:st.want=xs::B) (hi:id=st.yid)
 (h:Le m (rn S c Q (.ops false [] l) fs' (pH dd (c8 { st with want:=B } d (.v (.bool (st.more || !B.isEmpty))))))):Le m (rn S c Q fo fs st0):=by
 refine Ra D G rfl ?_ h;unfold fG;simp only[wanted,fZ,J,U,W,hi,if_true,and_self,Bool.false_eq_true,if_false]
theorem AU (a:RC) (fs:List Fm) (st:St):rn S c Q (.rc (.loop a)) fs st=(oF (cE S c a) st).bind (DQ (mV S c Q fs) (ni S c Q fs) (λst=>Q (.ret,st))):=by
 show kD S c Q (.loop a) fs st=_;unfold kD;rw[Cy];rfl
theorem R2 {f:St->Option (Out×St)} {st st':St} (h:f st=some (.norm,st')):oF f st=oF f st':=by
 have key:∀r,oF f st=some r↔oF f st'=some r:=λr=>by
  constructor
  .intro hr;obtain⟨k,hk⟩:=ng.1 hr
   cases k with
   | zero=>simp[jr]at hk
   | succ k=>simp only[jr,h]at hk;exact ng.2 ⟨k,hk⟩
  .intro hr;obtain⟨k,hk⟩:=ng.1 hr;exact ng.2 ⟨k+1,by simp only[jr,h];exact hk⟩
 cases u:oF f st with
 | none=>
  cases w:oF f st' with
  | none=>rfl
  | some r=>rw[(key r).2 w]at u;cases u
 | some r=>rw[(key r).1 u]
theorem JY {f:St->Option (Out×St)} {st st':St} {o:Out} (h:f st=some (o,st')) (B:o≠.norm):oF f st=some (o,st'):=by
 refine ng.2 ⟨1,?_⟩
 cases o with
 | norm=>exact absurd rfl B
 | exit k=>simp only[jr,h]
 | ret=>simp only[jr,h]
theorem EJ {a:RC} {fs:List Fm} {st st':St} (h:rn S c some (.rc a) [] st=some (.norm,st')):rn S c Q (.rc (.loop a)) fs st=rn S c Q (.rc (.loop a)) fs st':=by
 rw[AU,AU,R2 (by rw[AZ];exact h)]
theorem EX {a:RC} {fs:List Fm} {st st':St} {k:Nat} (h:rn S c some (.rc a) [] st=some (.exit k,st')):rn S c Q (.rc (.loop a)) fs st=rn S c Q (.ex k) fs st':=by
 rw[AU,JY (by rw[AZ];exact h) (by simp)];rfl
theorem FA {a:RC} {fs:List Fm} {st st':St} (h:rn S c some (.rc a) [] st=some (.ret,st')):rn S c Q (.rc (.loop a)) fs st=Q (.ret,st'):=by
 rw[AU,JY (by rw[AZ];exact h) (by simp)];rfl
end
def Qi:Out×St->Option Unit
 | (.exit _,_)=>none
 | (_,st)=>if st.want.isEmpty then some ()else none
def Sys.bare (S:Sys):Sys:=⟨S.E,S.N,λ_ _ _=>none,λ_ _=>none,λ_=>none⟩
def nN:b7:=λ_ _ _=>none
def uz (B rest:List (List V)) (more:Bool):Prop:=more=true/\B=rest\/more=false/\B≠[]/\∃r,rest=B++r
theorem OO (S:Sys) {f:FuncId} {fi:FI} {nm:FuncId->Option Nat} {rf:RF} (G:S.E.ft f=some fi) (W:∀g s,nm g=some s->S.N s=g) (hr:wH S.E nm fi rf) {a b:List V} {xs:List (List V)} (D:a.length+1+b.length<=rf.na) (U:rf.rs=[])
 (h:∀B more,uz B xs more->∀yid,rn S.bare nN Qi (.rc rf.body) [] ⟨uS 0 (a.map .v++.yl yid::b.map .v),[],[],B,more,yid⟩=some ()):e_ S f a b xs:=by
 have k:e_ S.bare f a b xs:=JH (S:=S.bare) (c:=nN) (fi:=fi) (nm:=nm) (rf:=rf) (λ_ _ h=>by cases h) (λ_ _ _ _ _ h=>by simp[nN]at h) (λ_ _ _ _ h=>by simp[Sys.bare]at h) G W hr D U (λB more w yid=>by
  have h1:=h B more w yid;change kD S.bare nN Qi rf.body [] _=some ()at h1;rw[o7]at h1;obtain⟨⟨o,st'⟩,z,u⟩:=ζg.1 h1;refine⟨o,st',z,?_,?_,rfl⟩
  .rintro id rfl;simp[Qi]at u
  .cases o <;> simp[Qi]at u <;> exact u)
 intro B more w yid J y Z A C H h1 z u I L;exact k B more w yid J ⟨y.vW,y.yield⟩ Z A C H h1 z u I L
open Classical in
noncomputable def xE (P:FuncId->List V->List V->List (List V)->Prop) (f:FuncId) (a b:List V):Option (List (List V)):=if h:∃u,P f a b u then some (Classical.choose h)else none
theorem Dn {P:FuncId->List V->List V->List (List V)->Prop} {f:FuncId} {a b:List V} {xs:List (List V)} (h:P f a b xs) (hu:∀ys,P f a b ys->ys=xs):xE P f a b=some xs:=by
 have h1:∃xs,P f a b xs:=⟨xs,h⟩;unfold xE;rw[dif_pos h1,hu _ (Classical.choose_spec h1)]
theorem KD {P:FuncId->List V->List V->List (List V)->Prop} {f:FuncId} {a b:List V} {xs:List (List V)} (h:xE P f a b=some xs):P f a b xs:=by
 unfold xE at h;split at h
 .rename_i h1;cases h;exact Classical.choose_spec h1
 .cases h
theorem Uu {E:Env} {nm:FuncId->Option Nat} {f:FuncId} {rf:RF}
 (h:((E.ft f).bind λfi=>(bP ⟨E,nm,fi.ntmps⟩ false fi.body).bind λc=>(fi.results.mapM (Bb E)).bind λrs=>some (c,rs,fi.ntmps))=some (erase rf.body,rf.rs,rf.na)):∃fi,E.ft f=some fi/\wH E nm fi rf:=by
 obtain⟨fi,h1,w⟩:=ζg.1 h;obtain⟨c,z,A⟩:=ζg.1 w;obtain⟨rs,B,u⟩:=ζg.1 A;simp only[ζa,ζc]at u;obtain⟨rfl,rfl,C⟩:=u;exact⟨fi,h1,z,B,C.symm⟩
theorem FR.pz {H:bh} {Z Z':Nat->Prop} {x y z:V} (h:FR H Z x z) (k:FR H Z' y z):x=y:=by
 obtain⟨n,u⟩:=zS x;obtain⟨m,w⟩:=zS y;have e1:=h.borrow (max n m) (zZ (Nat.le_max_left _ _) u);have e2:=k.borrow (max n m) (zZ (Nat.le_max_right _ _) w);rw[e1]at e2;exact Option.some.inj e2
open Classical in
noncomputable def xH (E:Env) (f:FuncId) (az:List V):Option V:=if h:∃y,BS E f az y then some (Classical.choose h)else none
theorem FC {E:Env} {f:FuncId} {az:List V} {y:V} (h:xH E f az=some y):BS E f az y:=by
 unfold xH at h;split at h
 .rename_i h1;cases h;exact Classical.choose_spec h1
 .cases h
theorem Fi {E:Env} {f:FuncId} {az:List V} {y:V} (h:BS E f az y):xH E f az=some y:=by
 have h1:∃y,BS E f az y:=⟨y,h⟩;unfold xH;rw[dif_pos h1];obtain⟨n,z,H,Z,k1,w,_⟩:=h;obtain⟨u,C,H',Z',A,B,_⟩:=Classical.choose_spec h1;have e1:=(uh E (Nat.le_max_left n u)).go _ _ _ _ k1;have e2:=(uh E (Nat.le_max_right n u)).go _ _ _ _ A;rw[e1]at e2;cases e2;rw[FR.pz B w]
theorem Jc {E:Env} {f:FuncId} {az:List V} {y:V} (B:V.scalar y=true) (h:∃n H',run E n (.fn f) az []=some (y,H')):BS E f az y:=by
 obtain⟨n,H',h⟩:=h;exact⟨n,y,H',λ_=>False,h,.same _ (kM B),λ_ h=>h.elim,⟨λ_ _ _ h=>h.elim⟩⟩
end Go.VE
