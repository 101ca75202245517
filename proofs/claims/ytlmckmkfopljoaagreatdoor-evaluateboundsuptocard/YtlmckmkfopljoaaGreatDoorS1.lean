/-
 Plain values and the steps of a certificate.
-/
import Derived.KernelRfl
import Derived.Test.YtlmckmkfopljoaaGreatDoorN2
set_option linter.all false
namespace Go.VE
variable [bW]
inductive Sl (α:Type) where
 | nil
 | emp
 | row (l:List α)
 | part (l:List α)
 deriving Inhabited
def Sl.l {α:Type}:Sl α->List α
 | .nil|.emp=>[]
 | .row l|.part l=>l
def Sl.k {α:Type}:Sl α->Fl
 | .nil=>.nil
 | .emp=>.emp
 | .row _=>.row
 | .part _=>.part
class bC (α:Type) where
 cells:α->List V
 agg:Bool
 size:Nat
 len:∀a,(cells a).length=size
 good:∀a,V.cI (cells a)=true
 one:∀a,(cells a).all V.one=true
 plain:agg=false->size=1
def cells {α:Type} [bC α] (a:α):List V:=bC.cells a
def enc {α:Type} [bC α] (a:α):V:=if bC.agg α then .agg (cells a)else(cells a).headD .undef
def rows {α:Type} [bC α] (l:List α):List (List V):=l.map cells
def cq {α:Type} [bC α] (s:Sl α):V:=ox s.k (bC.size α) (rows s.l)
instance:bC Int where
 cells n:=[.int .i64 n]
 agg:=false
 size:=1
 len _:=rfl
 good _:=rfl
 one _:=rfl
 plain _:=rfl
instance:bC Bool where
 cells b:=[.bool b]
 agg:=false
 size:=1
 len _:=rfl
 good _:=rfl
 one _:=rfl
 plain _:=rfl
instance:bC ByteArray where
 cells s:=[.str s]
 agg:=false
 size:=1
 len _:=rfl
 good _:=rfl
 one _:=rfl
 plain _:=rfl
structure aY where
 proc:Int
 index:Int
 deriving DecidableEq,Inhabited
instance:bC aY where
 cells x:=[.int .i64 x.proc,.int .i64 x.index]
 agg:=true
 size:=2
 len _:=rfl
 good _:=rfl
 one _:=rfl
 plain h:=by cases h
@[simp] theorem WX (n:Int):enc n=.int .i64 n:=rfl
@[simp] theorem Wy (n:Bool):enc n=.bool n:=rfl
@[simp] theorem WT (n:ByteArray):enc n=.str n:=rfl
@[simp] theorem Wt (n:Int):cells n=[.int .i64 n]:=rfl
@[simp] theorem VL (n:Bool):cells n=[.bool n]:=rfl
@[simp] theorem Wh (n:ByteArray):cells n=[.str n]:=rfl
@[simp] theorem WS (n:aY):cells n=[.int .i64 n.proc,.int .i64 n.index]:=rfl
@[simp] theorem U5 (n:aY):enc n=.agg [.int .i64 n.proc,.int .i64 n.index]:=rfl
section
variable {α:Type} [bC α]
theorem kI (l:List α):(rows l).length=l.length:=by simp[rows]
def idx (s:Sl α) (i:Int):Option α:=if 0<=i then s.l[i.toNat]? else none
theorem Py {N:Nat->FuncId} (s:Sl α) (k:IntKind) (i:Int) {n:Nat} (B:n=bC.size α):bn N (.idxS n) [cq s,.int k i]=(idx s i).map λx=>.fptr (cells x):=by
 subst B;unfold idx cq;simp only[bn,lR]
 by_cases h:i<0
 .rw[if_pos h,if_neg (by omega)];rfl
 .rw[if_neg h,if_pos (by omega)]
  cases s <;> simp[Sl.k,Sl.l,ox,rows,Function.comp_def]
theorem Nh {N:Nat->FuncId} (s:Sl α):bn N .lenSl [cq s]=some (.int .i64 s.l.length):=by
 cases s <;> simp[bn,qM,cq,Sl.k,Sl.l,ox,kI]
end
section
variable {S:Sys} {c:bZ}
end
end Go.VE
namespace Go.VE
variable [bW]
section
variable {S:Sys} {c:bZ}
def isSlice:uX->Bool
 | .slice ..=>true
 | _=>false
theorem Re (dr:Bool) (fr:List Nat) (dst:Option Nat) (now:Bool) (p:uX) (az:List Arg) (st:St) (h:isSlice p=false) :
 fK S c dr fr ⟨dst,none,now,.p p,az,[],[]⟩ st=(b_ S.N st.g az).bind λsvs=>(kn S.N st.m p svs).bind λx=>some (c_ st dst x):=by
 unfold fK mC;have u:fV S.N st.g ⟨dst,none,now,.p p,az,[],[]⟩=none:=by unfold fV;grind
 simp[wanted,u]
 cases z:b_ S.N st.g az with
 | none=>rfl
 | some svs=>
  simp;cases p <;> first|(simp[isSlice]at h;done)|(cases w:kn S.N st.m _ svs <;> simp[w])
theorem JM (N:Nat->FuncId) (m:Tb bJ) (p:uX) (svs:List SV) (xs:List V) (h:dG svs=some xs):kn N m p svs=(bn N p xs).bind λx=>some (.v x):=by
 unfold kn;rw[h];dsimp only;cases bn N p xs <;> rfl
theorem Gm (dr:Bool) (fr:List Nat) (dst:Option Nat) (now:Bool) (q:Kc) (az:List Arg) (st:St) :
 fK S c dr fr ⟨dst,none,now,.r q,az,[],[]⟩ st=(b_ S.N st.g az).bind λsvs=>if !dr||now||fc fr svs then(pG st.m q svs).bind λx=>some (c_ st dst x)else none:=by
 unfold fK mC;have u:fV S.N st.g ⟨dst,none,now,.r q,az,[],[]⟩=none:=rfl;simp[wanted,u]
 cases w:b_ S.N st.g az with
 | none=>rfl
 | some svs=>
  simp;split
  .cases z:pG st.m q svs <;> simp
  .rfl
theorem CU (dr:Bool) (fr:List Nat) (d:Nat) (now:Bool) (q:MK) (az:List Arg) (st:St) :
 fK S c dr fr ⟨some d,none,now,.a q,az,[],[]⟩ st=(b_ S.N st.g az).bind λsvs=>if st.new d then(p_ st.m q svs d).bind λr=>some { st with g:=bR st.g d r.2,m:=bR st.m d r.1 } else none:=by
 unfold fK mC;have u:fV S.N st.g ⟨some d,none,now,.a q,az,[],[]⟩=none:=rfl;simp[wanted,u]
 cases w:b_ S.N st.g az with
 | none=>rfl
 | some svs=>
  simp;split
  .cases z:p_ st.m q svs d <;> simp[c_]
  .rfl
theorem wQ (dr:Bool) (fr:List Nat) (dst:Option Nat) (now:Bool) (q:Ks) (az:List Arg) (st:St) :
 fK S c dr fr ⟨dst,none,now,.l q,az,[],[]⟩ st=(b_ S.N st.g az).bind λsvs=>if !dr||now then(mV st dst q svs).bind λr=>some (c_ r.2 dst r.1)else none:=by
 unfold fK mC;have u:fV S.N st.g ⟨dst,none,now,.l q,az,[],[]⟩=none:=rfl;simp[wanted,u]
 cases w:b_ S.N st.g az with
 | none=>rfl
 | some svs=>
  simp;split
  .cases z:mV st dst q svs <;> simp
  .rfl
def mb:List SV->Option (FuncId×List SV)
 | .clo f a b::vs=>some (f,a++vs++b)
 | .v (.clo f a b)::vs=>some (f,a.map .v++vs++b.map .v)
 | _=>none
theorem AX (dr:Bool) (fr:List Nat) (dst:Option Nat) (now:Bool) (az:List Arg) (st:St) (svs:List SV) (f:FuncId) (args:List SV) (B:b_ S.N st.g az=some svs) (hc:mb svs=some (f,args)) :
 fK S c dr fr ⟨dst,none,now,.c,az,[],[]⟩ st=(f_ S c dst dr (!dr||now) (gw st.m fr) f args st).bind λr=>some (c_ r.2 dst r.1):=by
 unfold fK mC;unfold mb at hc;split at hc
 .obtain⟨rfl,rfl⟩:=hc;simp[wanted,fV,B];cases f_ S c dst dr _ _ _ _ st <;> simp
 .obtain⟨rfl,rfl⟩:=hc;simp[wanted,fV,B];cases f_ S c dst dr _ _ _ _ st <;> simp
 grind
noncomputable def O4 {β:Type} (S:Sys) (c:bZ) (fr:List Nat) (l:List RO) (k:St->Option β):St->Option β:=λst=>(nv S c false fr l st).bind k
noncomputable def PB {β:Type} (S:Sys) (c:bZ) (fr:List Nat) (l:List RO) (k:St->Option β):St->Option β:=λst=>(nv S c true fr l st).bind k
noncomputable def U_ {β:Type} (S:Sys) (c:bZ) (fr dd:List Nat) (l:List RO) (k:St->Option β):St->Option β:=λst=>O4 S c fr l k (pn dd st)
noncomputable def UN {β:Type} (S:Sys) (c:bZ) (fr dd:List Nat) (l:List RO) (k:St->Option β):St->Option β:=λst=>PB S c fr l k (pn dd st)
@[congr] theorem VJ {β:Type} {fr:List Nat} {l:List RO} {k:St->Option β} {st st':St} (h:st=st'):O4 S c fr l k st=O4 S c fr l k st':=by rw[h]
@[congr] theorem Vx {β:Type} {fr B:List Nat} {l:List RO} {k:St->Option β} {st st':St} (D:fr=B) (h:st=st'):PB S c fr l k st=PB S c B l k st':=by simp_all
@[congr] theorem VB {β:Type} {fr dd:List Nat} {l:List RO} {k:St->Option β} {st st':St} (h:st=st'):U_ S c fr dd l k st=U_ S c fr dd l k st':=by rw[h]
@[congr] theorem VA {β:Type} {fr B dd:List Nat} {l:List RO} {k:St->Option β} {st st':St} (D:fr=B) (h:st=st'):UN S c fr dd l k st=UN S c B dd l k st':=by simp_all
@[congr] theorem Wf {dr:Bool} {fr:List Nat} {o:RO} {st st':St} (h:st=st'):fK S c dr fr o st=fK S c dr fr o st':=by rw[h]
end
section
variable {S:Sys} {c:bZ} (dr:Bool) (fr:List Nat) (dst:Option Nat) (now:Bool) (az:List Arg) (st:St)
end
end Go.VE
namespace Go.VE
variable [bW]
inductive Fm where
 | seq (b:RC)
 | blk (id:Nat)
 | gst (x:Gh)
section
variable (S:Sys) (c:bZ) {β:Type} (Q:Out×St->Option β)
noncomputable def runK:List Fm->Out×St->Option β
 | [],r=>Q r
 | .seq b::fs,(.norm,st)=>(cH S c b st).bind (runK fs)
 | .seq _::fs,r=>runK fs r
 | .blk id::fs,(.exit k,st)=>if k=id then runK fs (.norm,st)else runK fs (.exit k,st)
 | .blk _::fs,r=>runK fs r
 | .gst x::fs,(.norm,st)=>(ghost x st).bind λst=>runK fs (.norm,st)
 | .gst _::fs,r=>runK fs r
noncomputable def go (rc:RC) (fs:List Fm) (st:St):Option β:=(cH S c rc st).bind (runK S c Q fs)
noncomputable def Q5 (fs:List Fm):St->Option β:=λst=>runK S c Q fs (.norm,st)
def a_ {α:Type} (t:Bool) (a b:α):α:=if t then a else b
end
@[congr] theorem Ws {α:Type} {t B:Bool} {a b a' D:α} (h:t=B) (G:B=true->a=a') (J:B=false->b=D):a_ t a b=a_ B a' D:=by
 subst h;cases t
 .exact J rfl
 .exact G rfl
section
variable {S:Sys} {c:bZ} {β:Type} {Q:Out×St->Option β}
@[congr] theorem go_congr {a:RC} {fs:List Fm} {st st':St} (h:st=st'):go S c Q a fs st=go S c Q a fs st':=by rw[h]
@[congr] theorem Vi {fs:List Fm} {st st':St} (h:st=st'):Q5 S c Q fs st=Q5 S c Q fs st':=by rw[h]
@[congr] theorem VX {fs:List Fm} {r B:Out×St} (h:r=B):runK S c Q fs r=runK S c Q fs B:=by rw[h]
theorem Hy (rc:RC) (st:St):(cH S c rc st).bind Q=go S c Q rc [] st:=by
 simp only[go];cases cH S c rc st <;> rfl
inductive Fw (ν ε ρ:Type) where
 | n (a:ν)
 | x (e:ε)
 | r (b:ρ)
def jv {σ ε ρ:Type} (step:σ->Option (Fw σ ε ρ)):Nat->σ->Option (Fw Empty ε ρ)
 | 0,_=>none
 | k+1,s=>match step s with
  | some (.n B)=>jv step k B
  | some (.x e)=>some (.x e)
  | some (.r b)=>some (.r b)
  | none=>none
theorem xo {σ ε ρ:Type} {step:σ->Option (Fw σ ε ρ)}:∀{k B:Nat} {s:σ} {r:Fw Empty ε ρ},k<=B->jv step k s=some r->jv step B s=some r
 | 0,_,_,_,_,h=>by simp[jv]at h
 | k+1,0,_,_,hk,_=>by omega
 | k+1,B+1,s,r,hk,h=>by
  simp only[jv]at h ⊢;split at h
  .exact xo (Nat.le_of_succ_le_succ hk) h
  .exact h
  .exact h
  .simp at h
open Classical in
noncomputable def bV {σ ε ρ:Type} (step:σ->Option (Fw σ ε ρ)) (s:σ):Option (Fw Empty ε ρ):=
 if h:∃k r,jv step k s=some r then some (Classical.choose (Classical.choose_spec h))else none
theorem oq {σ ε ρ:Type} {step:σ->Option (Fw σ ε ρ)} {s:σ} {r:Fw Empty ε ρ}:bV step s=some r↔∃k,jv step k s=some r:=by
 unfold bV;constructor
 .intro h;split at h
  .rename_i u;simp only[ζa]at h;exact⟨_,by rw[<-h];exact Classical.choose_spec (Classical.choose_spec u)⟩
  .simp at h
 .rintro⟨k,hk⟩;have u:∃k r,jv step k s=some r:=⟨k,r,hk⟩;rw[dif_pos u];have z:=Classical.choose_spec (Classical.choose_spec u);have A:=xo (Nat.le_max_left (Classical.choose u) k) z;have w:=xo (Nat.le_max_right (Classical.choose u) k) hk;rw[A]at w;exact w
def Fw.out {ν ε ρ:Type} (D:ν->St) (B:ε->Nat×St) (G:ρ->St):Fw ν ε ρ->Out×St
 | .n a=>(.norm,D a)
 | .x e=>(.exit (B e).1,(B e).2)
 | .r b=>(.ret,G b)
def Fw.elim {ε ρ γ:Type} (B:ε->γ) (fr:ρ->γ):Fw Empty ε ρ->γ
 | .x e=>B e
 | .r b=>fr b
end
end Go.VE
namespace Go.VE
variable [bW]
section
variable {α:Type} [bC α]
theorem Fy (s:Sl α):V.one (cq s)=true:=by cases s <;> rfl
theorem MZ (l:List α):V.mO (rows l)=true:=by
 induction l with
 | nil=>rfl
 | cons a l u=>simp only[rows,List.map_cons,V.mO,ζh];exact⟨bC.good a,u⟩
theorem KE (s:Sl α):V.good (cq s)=true:=by
 cases s <;> simp only[cq,Sl.k,ox,V.good] <;> exact MZ _
instance:bC (Sl α) where
 cells s:=[cq s]
 agg:=false
 size:=1
 len _:=rfl
 good s:=by simp only[V.cI,KE,Bool.and_self]
 one s:=by simp[Fy]
 plain _:=rfl
end
section
variable {S:Sys} {c:bZ}
def Nb (x:Option SV) (b:Bool) (y z:Option St):Option St:=
 match x with
 | some (.v (.bool t))=>a_ (t==b) y z
 | some (.v _)=>z
 | _=>none
@[congr] theorem U9 {x B:Option SV} {b:Bool} {y z:Option St} (h:x=B):Nb x b y z=Nb B b y z:=by rw[h]
def Q8 {β:Type} (x:Option SV) (y z:Option β):Option β:=
 match x with
 | some (.v (.bool t))=>a_ t y z
 | _=>none
@[congr] theorem Vm {β:Type} {x B:Option SV} {y z:Option β} (h:x=B):Q8 x y z=Q8 B y z:=by rw[h]
def fQ (c:bZ) (f:FuncId) (az:List V):Option (List V):=(c f (az.map .v) []).bind λr=>cV r.2 8 r.1
def NF (now:Bool) (args:List SV) (ok:Bool) (st:St) (ys:List V):Option (SV×St):=
 if(result ys).scalar||ok then some (.v (result ys),st)else if now then(rowsOf args).map λds=>(.v (result ys),{ st with m:=o_ ds st.m })else none
theorem Sf (dst:Option Nat) (dr now:Bool) (old:List SV->Bool) (f:FuncId) (args:List SV) (st:St) (hk:S.E.keep f=false) :
 f_ S c dst dr now old f args st=(cV st.m 8 args).bind λaz=>if now||old args then(fQ c f az).bind (NF now args (dG args).isSome st)else none:=by
 unfold f_ fQ;simp only[hk,Bool.false_eq_true,if_false]
 cases cV st.m 8 args with
 | none=>rfl
 | some az=>
  simp only[ζb];split
  .cases c f (az.map .v) []with
   | none=>rfl
   | some r=>
    obtain⟨rs,m'⟩:=r;simp only[ζb];cases cV m' 8 rs <;> rfl
  .rfl
end
section
variable {S:Sys} {T:qb}
def Hu (rs:List RV):Out×St->Option (List V)
 | (.exit _,_)=>none
 | (_,st)=>(kg st rs).bind (cV st.m 8)
theorem PD {f:FuncId} {rf:RF} (B:T f=some rf) (az:List V) (D:az.length<=rf.na):fQ (dO S T) f az=go S (dO S T) (Hu rf.rs) rf.body [] (start (az.map .v) []):=by
 unfold fQ;rw[rB B];unfold m_;rw[if_pos (by simpa using D),<-Hy]
 cases h:cH S (dO S T) rf.body (start (az.map .v) [])with
 | none=>rfl
 | some r=>
  obtain⟨o,st⟩:=r;cases o <;> simp only[ζb,Hu] <;> (try rfl) <;> (cases kg st rf.rs <;> rfl)
end
end Go.VE
namespace Go.VE
variable [bW]
variable {N:Nat->FuncId}
def xD (k:IntKind) (a b:Int):Option Int:=if b=0 then none else some (k.wrap (a.tdiv b))
theorem Uu (e:Option KT) (q:Option Nat) (k:IntKind) (a b:Int):bn N (.bin e q .quo) [.int k a,.int k b]=(xD k a b).bind λx=>some (.int k x):=by
 simp only[bn,jr,xD,if_true];split <;> rfl
theorem Ij (o:Nat) (cs:List V):bn N (.fieldAddr o) [.fptr cs]=if o<=cs.length then some (.fptr (cs.drop o))else none:=rfl
def kR (s:ByteArray) (n:Int):Option Int:=if 0<=n then(s[n.toNat]?).map λb=>(b.toNat:Int)else none
theorem No (s:ByteArray) (k:IntKind) (n:Int):bn N .idxStr [.str s,.int k n]=(kR s n).bind λx=>some (.int .u8 x):=by
 simp only[bn,kR];split
 .cases s[n.toNat]? <;> rfl
 .rfl
theorem Ou (z:List V) (pl:List (Nat×Nat)) (vs:List V):bn N (.build z pl) vs=(kG z pl vs).bind λcs=>some (.agg cs):=by
 simp only[bn];cases kG z pl vs <;> rfl
section
variable {α:Type} [bC α]
theorem DZ (s:Sl α) (k:IntKind) (i:Int) (n:Nat) (B:n=bC.size α):bn N (.idxS n) [cq s,.int k i]=(idx s i).bind λx=>some (.fptr (cells x)):=by
 rw[Py s k i B];cases idx s i <;> rfl
theorem yL (s:Sl α):bn N .lenSl [cq s]=some (.int .i64 s.l.length):=Nh s
def Sl.isNil {α:Type} (s:Sl α):Option Bool:=
 match s with
 | .nil=>some true
 | .emp=>none
 | _=>some false
theorem Pe (q:Option Nat) (s:Sl α):bn N (.bin (some .slice) q .eql) [cq s,.bX]=s.isNil.bind λt=>some (.bool t):=by
 cases s <;> rfl
def jJ (s:Sl α) (lo hi:Option Int):Option (Sl α):=
 (dW s.l.length lo hi).map λ(l,h)=>match s with
  | .nil=>.nil
  | .emp=>.emp
  | .row x=>.part ((x.take h).drop l)
  | .part x=>.part ((x.take h).drop l)
theorem LY (s:Sl α) (lo hi:Option Int) (n:Nat) (B:n=bC.size α):iH n (cq s) lo hi=(jJ s lo hi).bind λx=>some (cq x):=by
 subst B
 cases s with
 | nil=>simp only[cq,Sl.k,ox,iH,jJ,Sl.l,List.length_nil];cases dW 0 lo hi <;> rfl
 | emp=>simp only[cq,Sl.k,ox,iH,jJ,Sl.l,List.length_nil];cases dW 0 lo hi <;> rfl
 | row l=>simp only[cq,Sl.k,ox,iH,jJ,Sl.l,if_true,kI];cases dW l.length lo hi <;> simp[rows,List.map_take,List.map_drop]
 | part l=>simp only[cq,Sl.k,ox,iH,jJ,Sl.l,if_true,kI];cases dW l.length lo hi <;> simp[rows,List.map_take,List.map_drop]
end
theorem Mr (m:Tb bJ) (n:Nat) (a:Bool) (cs:List V):pG m (.load n a) [.v (.fptr cs)]=(cut cs 0 n).bind λr=>(mk a r).bind λx=>some (.v x):=by
 simp only[pG,dX]
 cases cut cs 0 n with
 | none=>rfl
 | some r=>simp only[ζb];cases mk a r <;> rfl
end Go.VE
namespace Go.VE
variable [bW]
section
variable {α:Type} [bC α]
def c6 (s:Sl α):bJ:=.sl s.k (bC.size α) (rows s.l)
def Sl.rT (s:Sl α) (i:Int):Option Nat:=if 0<=i/\i.toNat<s.l.length then some i.toNat else none
def Sl.get (s:Sl α) (i:Nat):Option α:=s.l[i]?
def Sl.put (s:Sl α) (i:Nat) (x:α):Option (Sl α):=
 if i<s.l.length then some (match s with|.row l=>.row (l.set i x)|.part l=>.part (l.set i x)|s=>s)else none
def jf (s:Sl α) (x:α):Option (Sl α):=if s.l.length+1<=2147483648 then some (.row (s.l++[x]))else none
def B3 (n:Int) (z:α):Option (Sl α):=if 0<=n/\n<=2147483648 then some (.row (List.replicate n.toNat z))else none
end
section
variable {α:Type} [bC α] {N:Nat->FuncId} {m:Tb bJ}
def LZ (n d:Nat) (o:Option bJ) (i:Int):Option SV:=
 match o with
 | some (.sl k es u)=>if cR k/\es=n/\0<=i/\i.toNat<u.length then some (.el d i.toNat 0)else none
 | _=>none
theorem SJ (n d:Nat) (k:IntKind) (i:Int):kn N m (.idxS n) [.own d,.v (.int k i)]=LZ n d (bg m d) i:=by
 simp[kn,dG,A6,LZ]
 grind
theorem To (n d:Nat) (s:Sl α) (i:Int) (h:n=bC.size α):LZ n d (some (c6 s)) i=(s.rT i).bind λj=>some (.el d j 0):=by
 simp[LZ,c6,kI,Sl.rT]
 cases s with
 | nil=>simp[Sl.l,cR]
 | emp=>simp[Sl.l,cR]
 | row l=>simp[Sl.k,Sl.l,cR];grind
 | part l=>simp[Sl.k,Sl.l,cR];grind
def K1 (o:Option bJ):Option SV:=
 match o with
 | some (.sl _ _ u)=>some (.v (.int .i64 u.length))
 | _=>none
theorem PU (d:Nat):kn N m .lenSl [.own d]=K1 (bg m d):=by
 simp[kn,dG,A6,K1]
 grind
theorem Tw (s:Sl α):K1 (some (c6 s))=some (.v (.int .i64 s.l.length)):=by simp[K1,c6,kI]
def Rf (n:Nat) (a:Bool) (o:Nat) (ob:Option bJ):Option SV:=
 match ob with
 | some (.box cs)=>vn n a ((cs.drop o).take n)
 | _=>none
theorem WB (n:Nat) (a:Bool) (d o:Nat):pG m (.load n a) [.ptr d o]=Rf n a o (bg m d):=by
 rfl
theorem Nq (n:Nat) (a:Bool) (o:Nat) (cs:List SV):Rf n a o (some (.box cs))=vn n a ((cs.drop o).take n):=rfl
def Hl (n:Nat) (a:Bool) (i o:Nat) (ob:Option bJ):Option SV:=
 match ob with
 | some (.sl _ _ u)=>match u[i]? with
  | some cs=>((cut cs o n).bind (mk a)).map .v
  | none=>none
 | _=>none
theorem Vu (n:Nat) (a:Bool) (d i o:Nat):pG m (.load n a) [.el d i o]=Hl n a i o (bg m d):=by
 rfl
theorem NR (n:Nat) (a:Bool) (i o:Nat) (s:Sl α):Hl n a i o (some (c6 s))=(s.get i).bind λx=>(cut (cells x) o n).bind λr=>(mk a r).bind λy=>some (.v y):=by
 simp only[Hl,c6,Sl.get,rows,List.getElem?_map]
 cases s.l[i]? with
 | none=>rfl
 | some x=>
  simp only[Option.map_some,ζb]
  cases cut (cells x) o n with
  | none=>rfl
  | some r=>simp ;cases mk a r <;> rfl
theorem VP (z:α) (n:Int) (d:Nat) (size:Nat) (zero:List V) (h:zero=cells z) (B:size=bC.size α) :
 p_ m (.makeSl size zero) [.v (.int .i64 n),.v (.int .i64 n)] d=(B3 n z).bind λs=>some (c6 s,.own d):=by
 subst h B;simp[p_,B3];split
 .simp[c6,Sl.k,Sl.l,rows]
 .rfl
def D1 (st:St) (d i o size:Nat) (x:V) (ob:Option bJ):Option (SV×St):=
 match ob with
 | some (.sl k es u)=>match u[i]? with
  | some cs=>if x.cells.length=size/\o+size<=cs.length/\x.cells.all V.one=true then
   some (.v .undef,{ st with m:=bR st.m d (.sl k es (u.set i (cs.take o++x.cells++cs.drop (o+x.cells.length)))) })else none
  | none=>none
 | _=>none
theorem Lh (st:St) (dst:Option Nat) (size d i o:Nat) (x:V):mV st dst (.store size) [.el d i o,.v x]=D1 st d i o size x (bg st.m d):=by
 rfl
theorem Lc (g:Tb SV) (p:List Nat) (w:List (List V)) (B:Bool) (y:Nat) (d i size:Nat) (x:V) (a:α) (D:x.cells=cells a) (G:size=bC.size α) (s:Sl α) :
 D1 ⟨g,m,p,w,B,y⟩ d i 0 size x (some (c6 s))=(s.put i a).bind λJ=>some (.v .undef,⟨g,bR m d (c6 J),p,w,B,y⟩):=by
 have h1:(cells a).all V.one=true:=bC.one a;have u:∀b:α,(cells b).length=bC.size α:=bC.len;subst G;simp only[D1,c6,rows,List.getElem?_map,D,Sl.put]
 by_cases hi:i<s.l.length
 .have hg  := ζd hi;rw[if_pos hi,hg];simp[u,h1]
  cases s with
  | nil=>simp[Sl.l]at hi
  | emp=>simp[Sl.l]at hi
  | row l=>simp[Sl.k,Sl.l,List.drop_of_length_le,u]
  | part l=>simp[Sl.k,Sl.l,List.drop_of_length_le,u]
 grind
def zm (st:St) (t n:Nat) (s:SV) (xs ys:Option (List (List V))):Option (SV×St):=
 match xs,ys with
 | some _,some []=>match s with
  | .own d=>match bg st.m d with
   | some ob=>if St.new { st with m:=en d st.m } t then some (.own t,{ st with m:=bR (en d st.m) t ob })else none
   | none=>none
  | .v .bX=>if st.new t then some (.own t,{ st with m:=bR st.m t (.sl .nil n []) })else none
  | .v .dB=>if st.new t then some (.own t,{ st with m:=bR st.m t (.sl .emp n []) })else none
  | _=>none
 | some xs,some ys=>
  if xs.length+ys.length<=2147483648/\Iq s=true then
   if St.new { st with m:=giveUp st.m s } t then some (.own t,{ st with m:=bR (giveUp st.m s) t (.sl .row n (xs++ys)) })else none
  else none
 | _,_=>none
theorem Ad (st:St) (t n:Nat) (s x:SV):mV st (some t) (.append n) [s,x]=zm st t n s (ku st.m n s) (ku st.m n x):=by
 cases s <;> cases x <;> (rfl)
def L4 (n:Nat) (o:Option bJ):Option (List (List V)):=
 match o with
 | some (.sl k es u)=>if cR k then(if es=n then some u else none)else some []
 | _=>none
theorem EB (n d:Nat):ku m n (.own d)=L4 n (bg m d):=by
 simp[ku,L4]
 grind
theorem A5 (n:Nat) (s:Sl α) (h:n=bC.size α):L4 n (some (c6 s))=some (rows s.l):=by
 subst h;cases s <;> simp[L4,c6,Sl.k,Sl.l,cR,rows]
theorem RD (n:Nat):ku m n (.v .bX)=some []:=rfl
theorem S5 (n:Nat):ku m n (.v .dB)=some []:=rfl
theorem NA (g:Tb SV) (p:List Nat) (w:List (List V)) (B:Bool) (y:Nat) (t n d:Nat) (l:List α) (x:α) (h:n=bC.size α):zm ⟨g,m,p,w,B,y⟩ t n (.own d) (some (rows l)) (some (rows [x])) =
 (jf (.row l) x).bind λs=>if St.new ⟨g,en d m,p,w,B,y⟩ t then some (.own t,⟨g,bR (en d m) t (c6 s),p,w,B,y⟩)else none:=by
 subst h;have e:(rows l).length+(rows [x]).length=l.length+1:=by simp[kI]
 by_cases h:l.length+1<=2147483648
 .have h1:jf (.row l) x=some (.row (l++[x])):=if_pos h;have u:zm ⟨g,m,p,w,B,y⟩ t (bC.size α) (.own d) (some (rows l)) (some (rows [x]))=if St.new ⟨g,en d m,p,w,B,y⟩ t then some (.own t,⟨g,bR (en d m) t (.sl .row (bC.size α) (rows l++rows [x])),p,w,B,y⟩)else none:=if_pos ⟨by omega,rfl⟩
  rw[h1,u];simp[c6,Sl.k,Sl.l,rows]
 .have h1:jf (.row l) x=none:=if_neg h;have u:zm ⟨g,m,p,w,B,y⟩ t (bC.size α) (.own d) (some (rows l)) (some (rows [x]))=none:=if_neg (λq=>h (by omega))
  grind
theorem Ni (g:Tb SV) (p:List Nat) (w:List (List V)) (B:Bool) (y:Nat) (t n:Nat) (x:α) (h:n=bC.size α):zm ⟨g,m,p,w,B,y⟩ t n (.v .bX) (some []) (some (rows [x])) =
 if St.new ⟨g,m,p,w,B,y⟩ t then some (.own t,⟨g,bR m t (c6 (.row [x])),p,w,B,y⟩)else none:=by
 subst h;rfl
theorem NG (g:Tb SV) (p:List Nat) (w:List (List V)) (B:Bool) (y:Nat) (t n:Nat) (x:α) (h:n=bC.size α):zm ⟨g,m,p,w,B,y⟩ t n (.v .dB) (some []) (some (rows [x])) =
 if St.new ⟨g,m,p,w,B,y⟩ t then some (.own t,⟨g,bR m t (c6 (.row [x])),p,w,B,y⟩)else none:=by
 subst h;rfl
end
theorem xQ (g:Tb SV) (m:Tb bJ) (p:List Nat) (w:List (List V)) (B:Bool) (y d:Nat):St.new ⟨g,m,p,w,B,y⟩ d=(!(p.contains d)&&(bg m d).isNone && !(vg d g) && !(sP d m)):=rfl
theorem rY (d:Nat):vg d []=false:=rfl
theorem qh (d n:Nat) (x:SV) (r:Tb SV):vg d ((n,x)::r)=(SV.cQ d x||vg d r):=rfl
theorem rV (d:Nat):sP d []=false:=rfl
theorem qz (d n:Nat) (x:bJ) (r:Tb bJ):sP d ((n,x)::r)=(bJ.cQ d x||sP d r):=rfl
theorem xU (d:Nat) (x:V):SV.cQ d (.v x)=false:=rfl
theorem tu (d e:Nat):SV.cQ d (.own e)=(e==d):=rfl
theorem tM (d e o:Nat):SV.cQ d (.ptr e o)=(e==d):=rfl
theorem vM (d e i o:Nat):SV.cQ d (.el e i o)=(e==d):=rfl
theorem vE (d e:Nat):SV.cQ d (.mp e)=(e==d):=rfl
theorem s_ (d:Nat) (f:FuncId) (a b:List SV):SV.cQ d (.clo f a b)=(SV.dA d a||SV.dA d b):=rfl
theorem tq (d:Nat) (l:List SV):SV.cQ d (.tup l)=SV.dA d l:=rfl
theorem sx (d:Nat):SV.dA d []=false:=rfl
theorem qy (d:Nat) (x:SV) (r:List SV):SV.dA d (x::r)=(SV.cQ d x||SV.dA d r):=rfl
theorem rQ (d:Nat) (cs:List SV):bJ.cQ d (.box cs)=SV.dA d cs:=rfl
theorem E0 (m:Tb bJ) (n:Nat):cV m n []=some []:=by cases n <;> simp[cV]
theorem DX (m:Tb bJ) (n:Nat) (x:SV) (r:List SV):cV m n (x::r)=(shut m n x).bind λy=>(cV m n r).bind λs=>some (y::s):=by
 cases n <;> (simp[cV];cases shut m _ x <;> (try rfl) <;> (cases cV m _ r <;> rfl))
theorem Vc (m:Tb bJ) (n:Nat) (x:V):shut m n (.v x)=some x:=by cases n <;> simp[shut]
theorem PK (m:Tb bJ) (n:Nat) (f:FuncId) (a b:List SV):shut m (n+1) (.clo f a b)=(cV m n a).bind λx=>(cV m n b).bind λy=>some (.clo f x y):=by
 simp[shut];cases cV m n a <;> (try rfl) <;> (cases cV m n b <;> rfl)
theorem Pn (m:Tb bJ) (n:Nat) (l:List SV):shut m (n+1) (.tup l)=(cV m n l).bind λx=>some (.tup x):=by
 simp[shut];cases cV m n l <;> rfl
theorem OA (m:Tb bJ) (n:Nat) (l:List SV):shut m (n+1) (.agg l)=(cV m n l).bind λx=>some (.agg x):=by
 simp[shut];cases cV m n l <;> rfl
theorem tA {α:Type} (n:Nat):en n ([]:Tb α)=[]:=rfl
theorem rU {α:Type} (n k:Nat) (x:α) (r:Tb α):en n ((k,x)::r)=if k=n then en n r else(k,x)::en n r:=rfl
theorem mapM_nil (f:List SV->List SV):mapM f []=[]:=rfl
end Go.VE
namespace Go.VE
variable [bW]
section
variable {N:Nat->FuncId} {m:Tb bJ}
theorem SG:result []=.tup []:=rfl
theorem Sh (x:V):result [x]=x:=rfl
theorem R4 (x y:V) (l:List V):result (x::y::l)=.tup (x::y::l):=rfl
theorem HP (p:uX) (a:V):kn N m p [.v a]=(bn N p [a]).bind λx=>some (.v x):=JM N m p _ [a] rfl
theorem vU (p:uX) (a b:V):kn N m p [.v a,.v b]=(bn N p [a,b]).bind λx=>some (.v x):=JM N m p _ [a,b] rfl
theorem lg (l:List V):dG (l.map .v)=some l:=by
 induction l with
 | nil=>rfl
 | cons a l u=>simp only[List.map_cons,dG,u];rfl
theorem wJ (n:Nat) (l:List V):cV m n (l.map .v)=some l:=by
 induction l with
 | nil=>exact E0 m n
 | cons a l u=>rw[List.map_cons,DX,Vc,u];rfl
theorem Sl.Rb {α:Type} (l:List α):(Sl.row l).l=l:=rfl
theorem wM (cs:List V):kG cs [] []=some cs:=rfl
theorem vi (cs:List V) (off size:Nat) (pl:List (Nat×Nat)) (v:V) (vs:List V):kG cs ((off,size)::pl) (v::vs) =
 if v.cells.length=size/\off+v.cells.length<=cs.length then kG (cs.take off++v.cells++cs.drop (off+v.cells.length)) pl vs else none:=by
 simp only[kG]
 by_cases h:v.cells.length=size <;> by_cases u:off+v.cells.length<=cs.length
 .rw[if_neg (by simp[h];omega),if_pos ⟨h,u⟩]
 .rw[if_pos (by simp[h];omega),if_neg (λq=>u q.2)]
 .rw[if_pos (by simp[h]),if_neg (λq=>h q.1)]
 .rw[if_pos (by simp[h]),if_neg (λq=>h q.1)]
theorem CT (k:IntKind) (n:Int):V.cells (.int k n)=[.int k n]:=rfl
theorem Bj (n:Bool):V.cells (.bool n)=[.bool n]:=rfl
theorem DL (n:ByteArray):V.cells (.str n)=[.str n]:=rfl
theorem CZ:V.cells .bX=[.bX]:=rfl
theorem qp (k:IntKind) (n:Int):V.one (.int k n)=true:=rfl
theorem oF (n:Bool):V.one (.bool n)=true:=rfl
theorem qg (n:ByteArray):V.one (.str n)=true:=rfl
end
end Go.VE
namespace Go.VE
variable [bW]
section
variable {S:Sys} {c:bZ} {β γ δ:Type} {Q:Out×St->Option β} {L:Option β} {e:γ->Option β}
theorem MS {dr:Bool} {fr:List Nat} {d:Option Nat} {gd:Option (Nat×Bool)} {now:Bool} {k:K} {az:List Arg} {st:St} (h:wanted st.g gd=some true) :
 fK S c dr fr ⟨d,gd,now,k,az,[],[]⟩ st=fK S c dr fr ⟨d,none,now,k,az,[],[]⟩ st:=by
 unfold fK;rw[h];rfl
theorem Cd (dr:Bool) (st:St):Cj dr [] st=some st:=by cases dr <;> rfl
def nZ (f:SV->Option V):List SV->Option (List V)
 | []=>some []
 | x::r=>(f x).bind λy=>(nZ f r).bind λs=>some (y::s)
def iQ (m:Tb bJ):Nat->SV->Option V
 | 0,x=>match x with
  | .v y=>some y
  | .own d=>match bg m d with
   | some (.sl k es xs)=>some (ox k es xs)
   | _=>none
  | .mp d=>match bg m d with
   | some (.mp B)=>some (.fmap B)
   | _=>none
  | _=>none
 | n+1,x=>match x with
  | .v y=>some y
  | .own d=>match bg m d with
   | some (.sl k es xs)=>some (ox k es xs)
   | _=>none
  | .ptr d o=>match bg m d with
   | some (.box cs)=>match nZ (iQ m n) cs with
    | some xs=>if o<=xs.length then some (.fptr (xs.drop o))else none
    | none=>none
   | _=>none
  | .mp d=>match bg m d with
   | some (.mp B)=>some (.fmap B)
   | _=>none
  | .clo f a b=>(nZ (iQ m n) a).bind λx=>(nZ (iQ m n) b).bind λy=>some (.clo f x y)
  | .tup l=>(nZ (iQ m n) l).bind λx=>some (.tup x)
  | .agg l=>(nZ (iQ m n) l).bind λx=>some (.agg x)
  | _=>none
theorem yg (m:Tb bJ):∀(n:Nat),(∀x,shut m n x=iQ m n x)/\∀l,cV m n l=nZ (iQ m n) l:=by
 have w:∀n,(∀x,shut m n x=iQ m n x)->∀l,cV m n l=nZ (iQ m n) l:=by
  intro n h l
  induction l with
  | nil=>exact E0 m n
  | cons a l u=>rw[DX,h a,u];rfl
 intro n
 induction n with
 | zero=>
  have h0:∀x,shut m 0 x=iQ m 0 x:=by
   intro x;cases x <;> simp[shut,iQ] <;> rfl
  grind
 | succ n u=>
  have h1:∀x,shut m (n+1) x=iQ m (n+1) x:=by
   intro x
   cases x with
   | ptr d o=>simp[shut,iQ,u.2];rfl
   | clo f a b=>rw[PK,u.2,u.2];rfl
   | tup l=>rw[Pn,u.2];rfl
   | agg l=>rw[OA,u.2];rfl
   | _=>simp[shut,iQ] <;> rfl
  grind
noncomputable def uP (S:Sys) (c:bZ) (dr:Bool):List Nat->List RO->(St->Option β)->St->Option β
 | _,[],k,st=>k st
 | fr,o::r,k,st=>((Cj dr o.pre st).bind (fK S c dr fr o.strip)).bind λst'=>uP S c dr (if dr then qN fr o.strip else fr) r k (pn o.dead st')
theorem Er (dr:Bool):∀(l:List RO) (fr:List Nat) (k:St->Option β) (st:St),uP S c dr fr l k st=(nv S c dr fr l st).bind k
 | [],_,_,_=>rfl
 | o::r,fr,k,st=>by
  simp[uP,nv]
  cases (Cj dr o.pre st).bind (fK S c dr fr o.strip)with
  | none=>rfl
  | some st'=>exact Er dr r _ k _
noncomputable def pq (S:Sys) (c:bZ):RC->(St->Option β)->(Nat->St->Option β)->(St->Option β)->St->Option β
 | .skip,n,_,_,st=>n st
 | .ops l,n,_,_,st=>uP S c false [] l n st
 | .pe l,n,_,_,st=>uP S c true [] l n st
 | .seq a b,n,x,r,st=>pq S c a (λst=>pq S c b n x r st) x r st
 | .cond y a b,n,x,r,st=>match qL S.N st.g y with
  | some (.v (.bool t))=>a_ t (pq S c a n x r st) (pq S c b n x r st)
  | _=>none
 | .block id a,n,x,r,st=>pq S c a n (λk st=>if k=id then n st else x k st) r st
 | .loop a,n,x,r,st=>(oK (cH S c a) st).bind λq=>match q with|(.norm,st)=>n st|(.exit k,st)=>x k st|(.ret,st)=>r st
 | .each g ps a b,n,x,r,st=>(cH S c (.each g ps a b) st).bind λq=>match q with|(.norm,st)=>n st|(.exit k,st)=>x k st|(.ret,st)=>r st
 | .exit k,_,x,_,st=>x k st
 | .ret,_,_,r,st=>r st
 | .gh g a,n,x,r,st=>(ghost g st).bind λst=>pq S c a n x r st
 | .hg a g,n,x,r,st=>pq S c a (λst=>(ghost g st).bind n) x r st
def Ek (n:St->Option β) (x:Nat->St->Option β) (r:St->Option β):Out×St->Option β
 | (.norm,st)=>n st
 | (.exit k,st)=>x k st
 | (.ret,st)=>r st
theorem DF:∀(rc:RC) (n:St->Option β) (x:Nat->St->Option β) (r:St->Option β) (st:St),pq S c rc n x r st=(cH S c rc st).bind (Ek n x r):=by
 intro rc
 induction rc with
 | skip=>intros;rfl
 | ops l=>intro n x r st;simp[pq,cH,Er];cases nv S c false [] l st <;> rfl
 | pe l=>intro n x r st;simp[pq,cH,Er];cases nv S c true [] l st <;> rfl
 | seq a b u w=>
  intro n x r st;simp[pq,cH,u,w]
  cases h:cH S c a st with
  | none=>rfl
  | some q=>obtain⟨o,st'⟩:=q;cases o <;> rfl
 | cond y a b u w=>
  intro n x r st;simp[pq,cH,u,w]
  cases qL S.N st.g y with
  | none=>rfl
  | some v=>cases v with
   | v z=>cases z with
    | bool t=>cases t <;> rfl
    | _=>rfl
   | _=>rfl
 | block id a A=>
  intro n x r st;simp[pq,cH,A]
  cases h:cH S c a st with
  | none=>rfl
  | some q=>
   obtain⟨o,st'⟩:=q
   cases o with
   | exit k=>simp[Ek];split <;> rfl
   | _=>rfl
 | loop a A=>
  intro n x r st;rfl
 | each g B a b u w=>
  intro n x r st;rfl
 | exit k=>intros;rfl
 | ret=>intros;rfl
 | gh g a A=>
  simp[pq,cH,A]
  grind
 | hg a g A=>
  intro n x r st;simp[pq,cH,A]
  cases h:cH S c a st with
  | none=>rfl
  | some q=>
   obtain⟨o,st'⟩:=q
   cases o with
   | norm=>simp[Ek];cases ghost g st' <;> rfl
   | _=>rfl
section
variable (S c Q)
mutual
noncomputable def mU:List Fm->St->Option β
 | []=>λst=>Q (.norm,st)
 | .seq b::fs=>λst=>pq S c b (mU fs) (mN fs) (λst=>Q (.ret,st)) st
 | .blk _::fs=>mU fs
 | .gst g::fs=>λst=>(ghost g st).bind (mU fs)
noncomputable def mN:List Fm->Nat->St->Option β
 | []=>λk st=>Q (.exit k,st)
 | .seq _::fs=>mN fs
 | .blk id::fs=>λk st=>if k=id then mU fs st else mN fs k st
 | .gst _::fs=>mN fs
end
noncomputable def kr (rc:RC) (fs:List Fm) (st:St):Option β:=pq S c rc (mU S c Q fs) (mN S c Q fs) (λst=>Q (.ret,st)) st
end
section
variable {dr:Bool} {fr:List Nat} {d:Nat} {dst:Option Nat} {now:Bool} {az:List Arg} {st:St} {α:Type} [bC α]
theorem MC {p:uX} {svs:List SV} {m:Option δ} {v:δ->SV} (B:b_ S.N st.g az=some svs) (hi:isSlice p=false) (h:kn S.N st.m p svs=m.bind λx=>some (v x)) :
 fK S c dr fr ⟨dst,none,now,.p p,az,[],[]⟩ st=m.bind λx=>some (c_ st dst (v x)):=by
 rw[Re _ _ _ _ _ _ _ hi,B]
 grind
theorem Et {p:uX} {svs:List SV} {v:SV} (B:b_ S.N st.g az=some svs) (hi:isSlice p=false) (h:kn S.N st.m p svs=some v) :
 fK S c dr fr ⟨dst,none,now,.p p,az,[],[]⟩ st=some (c_ st dst v):=by
 rw[Re _ _ _ _ _ _ _ hi,B]
 grind
theorem QY {n:Nat} {s:Sl α} {k:IntKind} {i:Int} (B:b_ S.N st.g az=some [.v (cq s),.v (.int k i)]) (D:n=bC.size α) :
 fK S c dr fr ⟨dst,none,now,.p (.idxS n),az,[],[]⟩ st=(idx s i).bind λx=>some (c_ st dst (.v (.fptr (cells x)))):=
 MC B rfl (by rw[vU,DZ s k i n D];grind)
theorem Vq {n e:Nat} {s:Sl α} {k:IntKind} {i:Int} (B:b_ S.N st.g az=some [.own e,.v (.int k i)]) (D:bg st.m e=some (c6 s)) (G:n=bC.size α) :
 fK S c dr fr ⟨dst,none,now,.p (.idxS n),az,[],[]⟩ st=(s.rT i).bind λj=>some (c_ st dst (.el e j 0)):=
 MC B rfl (by rw[SJ,D,To n e s i G])
theorem Q9 {s:Sl α} (B:b_ S.N st.g az=some [.v (cq s)]):fK S c dr fr ⟨dst,none,now,.p .lenSl,az,[],[]⟩ st=some (c_ st dst (.v (.int .i64 s.l.length))):=
 Et B rfl (by rw[HP,yL];rfl)
theorem UK {e:Nat} {s:Sl α} (B:b_ S.N st.g az=some [.own e]) (D:bg st.m e=some (c6 s)):fK S c dr fr ⟨dst,none,now,.p .lenSl,az,[],[]⟩ st=some (c_ st dst (.v (.int .i64 s.l.length))):=
 Et B rfl (by rw[PU,D,Tw])
theorem VS {q:Option KT} {u:Option Nat} {k:IntKind} {a b:Int} (B:b_ S.N st.g az=some [.v (.int k a),.v (.int k b)]):fK S c dr fr ⟨dst,none,now,.p (.bin q u .quo),az,[],[]⟩ st=(xD k a b).bind λx=>some (c_ st dst (.v (.int k x))):=
 MC B rfl (by rw[vU,Uu];grind)
theorem Sw {u:Option Nat} {s:Sl α} (B:b_ S.N st.g az=some [.v (cq s),.v .bX]):fK S c dr fr ⟨dst,none,now,.p (.bin (some .slice) u .eql),az,[],[]⟩ st=s.isNil.bind λt=>some (c_ st dst (.v (.bool t))):=
 MC B rfl (by rw[vU,Pe];grind)
theorem Pf {s:ByteArray} {k:IntKind} {n:Int} (B:b_ S.N st.g az=some [.v (.str s),.v (.int k n)]):fK S c dr fr ⟨dst,none,now,.p .idxStr,az,[],[]⟩ st=(kR s n).bind λx=>some (c_ st dst (.v (.int .u8 x))):=
 MC B rfl (by rw[vU,No];grind)
theorem Us {n e i o:Nat} {a:Bool} {s:Sl α} {v:α->V} (B:b_ S.N st.g az=some [.el e i o]) (hd:(!dr||now||fc fr [.el e i o])=true) (D:bg st.m e=some (c6 s)) (hv:∀x:α,(cut (cells x) o n).bind (mk a)=some (v x)) :
 fK S c dr fr ⟨dst,none,now,.r (.load n a),az,[],[]⟩ st=(s.get i).bind λx=>some (c_ st dst (.v (v x))):=by
 rw[Gm,B];simp only[ζb,hd,Vu,D,NR]
 cases s.get i with
 | none=>rfl
 | some x=>
  cases hc:cut (cells x) o n with
  | none=>grind
  | some r=>grind
theorem SA {n e i:Nat} {s:Sl α} {x:V} {a:α} (B:b_ S.N st.g az=some [.el e i 0,.v x]) (hd:(!dr||now)=true) (D:bg st.m e=some (c6 s)) (G:x.cells=cells a) (J:n=bC.size α) :
 fK S c dr fr ⟨dst,none,now,.l (.store n),az,[],[]⟩ st=(s.put i a).bind λU=>some (c_ { st with m:=bR st.m e (c6 U) } dst (.v .undef)):=by
 rw[wQ,B];simp[hd,Lh,D];rw[Lc st.g st.pin st.want st.more st.yid e i n x a G J s]
 grind
theorem U6 {n:Nat} {z:α} {zero:List V} {i:Int} (B:b_ S.N st.g az=some [.v (.int .i64 i),.v (.int .i64 i)]) (D:zero=cells z) (G:n=bC.size α) (J:st.new d=true) :
 fK S c dr fr ⟨some d,none,now,.a (.makeSl n zero),az,[],[]⟩ st=(B3 i z).bind λs=>some { st with g:=bR st.g d (.own d),m:=bR st.m d (c6 s) }:=by
 rw[CU,B];simp[J];rw[VP z i d n zero D G]
 grind
theorem Vt {n e u:Nat} {s:Sl α} {x:α} (G:b_ S.N st.g az=some [.own e,.own u]) (hd:(!dr||now)=true) (J:bg st.m e=some (c6 s)) (hu:bg st.m u=some (c6 (.row [x]))) (B:n=bC.size α) (U:St.new { st with m:=en e st.m } d=true) :
 fK S c dr fr ⟨some d,none,now,.l (.append n),az,[],[]⟩ st=(jf s x).bind λD=>some { st with g:=bR st.g d (.own d),m:=bR (en e st.m) d (c6 D) }:=by
 rw[wQ,G];simp[hd,Ad,EB,J,hu];rw[A5 n s B,A5 n (.row [x]) B];have:=NA (m:=st.m) st.g st.pin st.want st.more st.yid d n e s.l x B;simp[Sl.Rb];rw[this];have w:jf (.row s.l) x=jf s x:=by cases s <;> rfl
 rw[w]
 cases jf s x with
 | none=>rfl
 | some D=>
  simp;rw[if_pos U];rfl
theorem Vf {n u:Nat} {x:α} {v:V} (hv:v=.bX\/v=.dB) (G:b_ S.N st.g az=some [.v v,.own u]) (hd:(!dr||now)=true) (hu:bg st.m u=some (c6 (.row [x]))) (B:n=bC.size α) (D:st.new d=true) :
 fK S c dr fr ⟨some d,none,now,.l (.append n),az,[],[]⟩ st=some { st with g:=bR st.g d (.own d),m:=bR st.m d (c6 (.row [x])) }:=by
 rw[wQ,G];simp[hd,Ad,EB,hu];rw[A5 n (.row [x]) B];simp[Sl.Rb];rcases hv with rfl|rfl
 .rw[RD,Ni (m:=st.m) st.g st.pin st.want st.more st.yid d n x B];rw[if_pos D];rfl
 .rw[S5,NG (m:=st.m) st.g st.pin st.want st.more st.yid d n x B];rw[if_pos D];rfl
theorem UF {f:FuncId} {svs args:List SV} {cs:List V} {m:Option δ} {E:δ->List V} (hc:fQ c f cs=m.bind λr=>some (E r)) (hk:S.E.keep f=false) (D:b_ S.N st.g az=some svs) (G:mb svs=some (f,args))
 (B:nZ (iQ st.m 8) args=some cs) (J:((!dr||now)||gw st.m fr args)=true) (hr:∀r,((result (E r)).scalar||(dG args).isSome)=true) :
 fK S c dr fr ⟨dst,none,now,.c,az,[],[]⟩ st=m.bind λr=>some (c_ st dst (.v (result (E r)))):=by
 rw[AX dr fr dst now az st svs f args D G,Sf _ _ _ _ _ _ _ hk,(yg st.m 8).2,B];simp[J,hc]
 cases m with
 | none=>rfl
 | some r=>
  simp[NF]
  grind
end
end
end Go.VE
namespace Go.VE
variable [bW]
section
variable {S:Sys} {c:bZ} {β γ:Type} {Q:Out×St->Option β} {L:Option β} {e:γ->Option β}
theorem oZ (rc:RC) (st:St):kr S c Q rc [] st=(cH S c rc st).bind Q:=by
 unfold kr;rw[DF]
 congr 1
 funext q;obtain⟨o,st⟩:=q
 cases o <;> rfl
theorem Bh (rc:RC) (st:St):cH S c rc st=kr S c some rc [] st:=by
 rw[oZ];cases cH S c rc st <;> rfl
def mF (rs:List RV):Out×St->Option (List V)
 | (.exit _,_)=>none
 | (_,st)=>(kg st rs).bind (nZ (iQ st.m 8))
theorem S0 (rs:List RV):Hu rs=mF rs:=by
 funext q;obtain⟨o,st⟩:=q
 cases o
 .simp only[Hu,mF];congr 1;funext l;exact(yg st.m 8).2 l
 .rfl
 .simp only[Hu,mF];congr 1;funext l;exact(yg st.m 8).2 l
theorem Se {S:Sys} {T:qb} {f:FuncId} {rf:RF} (B:T f=some rf) (az:List V) (D:az.length<=rf.na):fQ (dO S T) f az=kr S (dO S T) (mF rf.rs) rf.body [] (start (az.map .v) []):=by
 rw[PD B az D,<-Hy,oZ,S0]
end
end Go.VE
namespace Go.VE
variable [bW]
def kj {α σ ε ρ:Type} (step:α->σ->Option (Fw σ ε ρ)):List α->σ->Option (Fw σ ε ρ)
 | [],s=>some (.n s)
 | x::xs,s=>(step x s).bind λw=>match w with
  | .n B=>kj step xs B
  | .x e=>some (.x e)
  | .r b=>some (.r b)
def Fw.qt {ν ε ρ γ:Type} (fn:ν->γ) (B:ε->γ) (fr:ρ->γ):Fw ν ε ρ->γ
 | .n a=>fn a
 | .x e=>B e
 | .r b=>fr b
def Fw.wq {ν ε ρ:Type} (D:ν->Tb bJ) (B:ε->Nat×Tb bJ) (G:ρ->Tb bJ):Fw ν ε ρ->Out×Tb bJ
 | .n a=>(.norm,D a)
 | .x e=>(.exit (B e).1,(B e).2)
 | .r b=>(.ret,G b)
def wq (q:Out×St):Option (Out×Tb bJ):=some (q.1,q.2.m)
section
variable {S:Sys} {c:bZ} {β γ:Type} {Q:Out×St->Option β} {L:Option β} {e:γ->Option β}
noncomputable def yJ (S:Sys) (c:bZ) (b:RC):Out×St->Option (Out×Tb bJ)
 | (.norm,st)=>kr S c wq b [] st
 | _=>none
theorem KW (ps:List Nat) (a b:RC) (st:St) (x:List V) (m:Tb bJ) (B:x.length=ps.length) :
 iM ps (cH S c a) (cH S c b) st x m=kr S c (yJ S c b) a [] ⟨wR st.g ps (x.map .v),m,st.pin++pH st.g,[],true,0⟩:=by
 unfold iM;rw[if_pos B,oZ]
 cases cH S c a ⟨wR st.g ps (x.map .v),m,st.pin++pH st.g,[],true,0⟩with
 | none=>rfl
 | some q=>
  obtain⟨o,u⟩:=q
  cases o with
  | norm=>
   simp only[ζb,yJ];rw[oZ];cases cH S c b u <;> rfl
  | _=>rfl
end
end Go.VE
namespace Go.VE
variable [bW]
def Le {α:Type} (a b:Option α):Prop:=∀r,a=some r->b=some r
section
variable {α:Type}
theorem Le.refl (a:Option α):Le a a:=λ_ h=>h
theorem Le.of_eq {a b:Option α} (h:b=a):Le a b:=λ_ u=>h.trans u
theorem Le.trans {a b d:Option α} (h1:Le a b) (B:Le b d):Le a d:=λr h=>B r (h1 r h)
theorem Le.none (b:Option α):Le (none:Option α) b:=λr h=>by cases h
theorem Le.bind {β:Type} {a b:Option α} {f g:α->Option β} (h:Le a b) (B:∀x,Le (f x) (g x)):Le (a.bind f) (b.bind g):=λr hr=>by
 obtain⟨x,h1,u⟩:=ζg.1 hr;rw[h x h1];exact B x r u
end
section
variable {S:Sys} {c:bZ} {β γ δ:Type} {Q:Out×St->Option β} {L:Option β} {e:γ->Option β}
theorem GL {dr:Bool} {fr:List Nat} {dst:Option Nat} {now:Bool} {az:List Arg} {st:St} {f:FuncId} {svs args:List SV} {cs:List V} {m:Option δ} {E:δ->List V} (hc:Le (m.bind λr=>some (E r)) (fQ c f cs)) (hk:S.E.keep f=false) (D:b_ S.N st.g az=some svs) (G:mb svs=some (f,args))
 (B:nZ (iQ st.m 8) args=some cs) (J:((!dr||now)||gw st.m fr args)=true) (hr:∀r,((result (E r)).scalar||(dG args).isSome)=true) :
 Le (m.bind λr=>some (c_ st dst (.v (result (E r))))) (fK S c dr fr ⟨dst,none,now,.c,az,[],[]⟩ st):=by
 intro q w;obtain⟨r,h1,z⟩:=ζg.1 w;have u:fQ c f cs=(some r).bind λr=>some (E r):=hc _ (by rw[h1];rfl)
 rw[UF (m:=some r) u hk D G B J hr];exact z
theorem OO {σ ε ρ:Type} {f:St->Option (Out×St)} {step:σ->Option (Fw σ ε ρ)} {B:σ->St} {D:ε->Nat×St} {G:ρ->St} (h:∀s,Le ((step s).bind λw=>some (Fw.out B D G w)) (f (B s))) (s:σ) :
 Le ((bV step s).bind λw=>some (Fw.out (λe=>Empty.elim e) D G w)) (oK f (B s)):=by
 have key:∀k s r,jv step k s=some r->jk f k (B s)=some (Fw.out (λe=>Empty.elim e) D G r):=by
  intro k
  induction k with
  | zero=>intro s r h;simp[jv]at h
  | succ k C=>
   intro s r u;simp only[jv]at u
   cases z:step s with
   | none=>rw[z]at u;cases u
   | some w=>
    rw[z]at u;have A:=h s (Fw.out B D G w) (by rw[z];rfl)
    simp only[jk,A]
    cases w with
    | n a=>exact C a r u
    | x e=>cases u;rfl
    | r b=>cases u;rfl
 intro r hr;obtain⟨w,h1,A⟩:=ζg.1 hr;obtain⟨k,hk⟩:=oq.1 h1;cases A;exact mQ.2 ⟨k,key k s w hk⟩
theorem V9 {σ ε ρ:Type} {a:RC} {fs:List Fm} {step:σ->Option (Fw σ ε ρ)} {B:σ->St} {D:ε->Nat×St} {G:ρ->St} {s:σ} {J:ε->Option γ} {fr:ρ->Option γ}
 (U:L=kr S c Q (.loop a) fs (B s)) (h:∀s,Le ((step s).bind λw=>some (Fw.out B D G w)) (kr S c some a [] (B s)))
 (W:∀x,Le ((J x).bind e) (mN S c Q fs (D x).1 (D x).2)) (hr:∀b,Le ((fr b).bind e) (Q (.ret,G b))):Le (((bV step s).bind (Fw.elim J fr)).bind e) L:=by
 subst U;have h1:kr S c Q (.loop a) fs (B s)=(oK (cH S c a) (B s)).bind (Ek (mU S c Q fs) (mN S c Q fs) (λst=>Q (.ret,st))):=by
  unfold kr;rw[DF];rfl
 rw[h1];have u:=OO (step:=step) (f:=cH S c a) (B:=B) (D:=D) (G:=G) (λs=>by rw[Bh];exact h s) s
 cases z:bV step s with
 | none=>exact Le.none _
 | some w=>
  have A:=u _ (by rw[z];rfl)
  rw[A]
  cases w with
  | n a=>cases a
  | x a=>exact W a
  | r a=>exact hr a
theorem GO {α σ ε ρ:Type} {f:List V->Tb bJ->Option (Out×Tb bJ)} {step:α->σ->Option (Fw σ ε ρ)} {eI:α->List V} {B:σ->Tb bJ} {D:ε->Nat×Tb bJ} {G:ρ->Tb bJ}
 (h:∀x s,Le ((step x s).bind λw=>some (Fw.wq B D G w)) (f (eI x) (B s))):∀(xs:List α) (s:σ),Le ((kj step xs s).bind λw=>some (Fw.wq B D G w)) (qm f (xs.map eI) (B s))
 | [],s=>λr hr=>hr
 | x::xs,s=>by
  simp only[List.map_cons,qm,kj]
  cases J:step x s with
  | none=>exact Le.none _
  | some w=>
   have U:=h x s (Fw.wq B D G w) (by rw[J];rfl)
   rw[U]
   cases w with
   | n u=>simp only[ζb,Fw.wq];exact GO h xs u
   | x e=>exact Le.refl _
   | r b=>exact Le.refl _
theorem VW {α σ ε ρ:Type} {g:Arg} {ps:List Nat} {a b:RC} {fs:List Fm} {f:FuncId} {x y:List V} {items:List α} {eI:α->List V} {step:α->σ->Option (Fw σ ε ρ)} {B:σ->Tb bJ} {D:ε->Nat×Tb bJ} {G:ρ->Tb bJ} {gt:Tb SV} {s:σ}
 {fn:σ->Option γ} {J:ε->Option γ} {fr:ρ->Option γ}
 (U:L=kr S c Q (.each g ps a b) fs ⟨gt,B s,[],[],true,0⟩) (hg:qL S.N gt g=some (.v (.clo f x y))) (hi:S.items f x y=some (items.map eI)) (W:∀x,(eI x).length=ps.length)
 (h:∀x s,Le ((step x s).bind λw=>some (Fw.wq B D G w)) (kr S c (yJ S c b) a [] ⟨wR gt ps ((eI x).map .v),B s,pH gt,[],true,0⟩))
 (Y:∀s,Le ((fn s).bind e) (mU S c Q fs ⟨gt,B s,[],[],true,0⟩))
 (hx:∀x,Le ((J x).bind e) (mN S c Q fs (D x).1 ⟨gt,(D x).2,[],[],true,0⟩)) (hr:∀b,Le ((fr b).bind e) (Q (.ret,⟨gt,G b,[],[],true,0⟩))) :
 Le (((kj step items s).bind (Fw.qt fn J fr)).bind e) L:=by
 subst U;have h1:kr S c Q (.each g ps a b) fs ⟨gt,B s,[],[],true,0⟩=(cH S c (.each g ps a b) ⟨gt,B s,[],[],true,0⟩).bind (Ek (mU S c Q fs) (mN S c Q fs) (λst=>Q (.ret,st))):=by
  unfold kr;rw[DF]
 rw[h1];simp only[cH,hg,hi];have u:=GO (step:=step) (f:=iM ps (cH S c a) (cH S c b) ⟨gt,B s,[],[],true,0⟩) (eI:=eI) (B:=B) (D:=D) (G:=G) (λx s=>by rw[KW _ _ _ _ _ _ (W x)];exact h x s) items s
 cases z:kj step items s with
 | none=>exact Le.none _
 | some w=>
  have A:=u _ (by rw[z];rfl)
  rw[A]
  cases w with
  | n a=>exact Y a
  | x a=>exact hx a
  | r a=>exact hr a
end
end Go.VE
namespace Go.VE
variable [bW]
inductive Fo where
 | rc (c:RC)
 | ops (dr:Bool) (fr:List Nat) (l:List RO)
 | nx
 | ex (k:Nat)
 | rt
abbrev bO (g:Tb SV) (m:Tb bJ):St:=⟨g,m,[],[],true,0⟩
section
variable (S:Sys) (c:bZ) {β:Type} (Q:Out×St->Option β)
noncomputable def rn:Fo->List Fm->St->Option β
 | .rc a,fs,st=>kr S c Q a fs st
 | .ops dr fr l,fs,st=>uP S c dr fr l (mU S c Q fs) st
 | .nx,fs,st=>mU S c Q fs st
 | .ex k,fs,st=>mN S c Q fs k st
 | .rt,_,st=>Q (.ret,st)
noncomputable def yU:Fo->List Fm->St->Option (Fo×List Fm×St)
 | .rc .skip,fs,st=>some (.nx,fs,st)
 | .rc (.ops l),fs,st=>some (.ops false [] l,fs,st)
 | .rc (.pe l),fs,st=>some (.ops true [] l,fs,st)
 | .rc (.seq a b),fs,st=>some (.rc a,.seq b::fs,st)
 | .rc (.cond y a b),fs,st=>match qL S.N st.g y with
  | some (.v (.bool true))=>some (.rc a,fs,st)
  | some (.v (.bool false))=>some (.rc b,fs,st)
  | _=>none
 | .rc (.block id a),fs,st=>some (.rc a,.blk id::fs,st)
 | .rc (.exit k),fs,st=>some (.ex k,fs,st)
 | .rc .ret,fs,st=>some (.rt,fs,st)
 | .rc (.gh g a),fs,st=>match ghost g st with
  | some st'=>some (.rc a,fs,st')
  | none=>none
 | .rc (.hg a g),fs,st=>some (.rc a,.gst g::fs,st)
 | .rc (.loop _),_,_=>none
 | .rc (.each ..),_,_=>none
 | .ops _ _ [],fs,st=>some (.nx,fs,st)
 | .ops dr fr (⟨d,gd,now,k,az,dd,[]⟩::r),fs,st=>match fK S c dr fr ⟨d,gd,now,k,az,[],[]⟩ st with
  | some st'=>some (.ops dr (if dr then qN fr ⟨d,gd,now,k,az,[],[]⟩else fr) r,fs,pn dd st')
  | none=>none
 | .ops dr fr (⟨d,gd,now,k,az,dd,x::xs⟩::r),fs,st=>if dr && !(AT x&&xs.all AT)then none else match ghost x st with
  | some st'=>some (.ops dr fr (⟨d,gd,now,k,az,dd,xs⟩::r),fs,st')
  | none=>none
 | .nx,.seq b::fs,st=>some (.rc b,fs,st)
 | .nx,.blk _::fs,st=>some (.nx,fs,st)
 | .nx,.gst g::fs,st=>match ghost g st with
  | some st'=>some (.nx,fs,st')
  | none=>none
 | .nx,[],_=>none
 | .ex k,.seq _::fs,st=>some (.ex k,fs,st)
 | .ex k,.blk id::fs,st=>some (if k=id then .nx else .ex k,fs,st)
 | .ex k,.gst _::fs,st=>some (.ex k,fs,st)
 | .ex _,[],_=>none
 | .rt,_,_=>none
noncomputable def gT:Nat->Fo->List Fm->St->Option (Fo×List Fm×St)
 | 0,fo,fs,st=>some (fo,fs,st)
 | n+1,fo,fs,st=>match yU S c fo fs st with
  | some (fo',fs',st')=>gT n fo' fs' st'
  | none=>none
end
section
variable {S:Sys} {c:bZ} {β γ δ:Type} {Q:Out×St->Option β} {e:γ->Option β}
theorem OZ {fo fo':Fo} {fs fs':List Fm} {st st':St} (h:yU S c fo fs st=some (fo',fs',st')):rn S c Q fo fs st=rn S c Q fo' fs' st':=by
 cases fo with
 | rc a=>
  cases a with
  | cond y a b=>
   simp only[yU]at h;split at h
   .rename_i u;cases h;simp only[rn,kr,pq,u,a_,if_true]
   .rename_i u;cases h;simp only[rn,kr,pq,u,a_];rfl
   .cases h
  | gh g a=>
   simp only[yU]at h;split at h
   .rename_i u;cases h;simp only[rn,kr,pq,u,ζb]
   .cases h
  | loop a=>cases h
  | each g w a b=>cases h
  | seq a b=>cases h;simp only[rn,kr,pq,mU,mN]
  | block id a=>cases h;simp only[rn,kr,pq,mU,mN]
  | hg a g=>cases h;simp only[rn,kr,pq,mU,mN]
  | _=>cases h;simp only[rn,kr,pq]
 | ops dr fr l=>
  cases l with
  | nil=>cases h;simp only[rn,uP]
  | cons o r=>
   obtain⟨d,gd,now,k,az,dd,pre⟩:=o
   cases pre with
   | nil=>
    simp only[yU]at h;split at h
    .rename_i u;cases h;simp only[rn,uP,Cd,RO.strip,ζb,u]
    .cases h
   | cons x z=>
    simp only[yU]at h;split at h
    .cases h
    rename_i hd;split at h
    .rename_i u;cases h
     cases dr with
     | true=>
      simp only[Bool.true_and,Bool.not_eq_true',Bool.not_eq_false,ζh]at hd;simp only[rn,uP,RO.strip,Cj,oR,if_true,List.all_cons,hd.1,hd.2,Bool.and_self,u,ζb]
     | false=>simp only[rn,uP,RO.strip,Cj,oR,Bool.false_eq_true,if_false,u,ζb]
    .cases h
 | nx=>
  cases fs with
  | nil=>cases h
  | cons f fs=>
   cases f with
   | seq b=>cases h;simp only[rn,kr,mU]
   | blk id=>cases h;simp only[rn,mU]
   | gst g=>
    simp only[yU]at h;split at h
    .rename_i u;cases h;simp only[rn,mU,u,ζb]
    .cases h
 | ex k=>
  cases fs with
  | nil=>cases h
  | cons f fs=>
   cases f with
   | seq b=>cases h;simp only[rn,mN]
   | blk id=>
    cases h;simp only[rn,mN]
    by_cases hk:k=id
    .simp only[if_pos hk,rn]
    .simp only[if_neg hk,rn]
   | gst g=>cases h;simp only[rn,mN]
 | rt=>cases h
theorem oS:∀{n:Nat} {fo fo':Fo} {fs fs':List Fm} {st st':St},gT S c n fo fs st=some (fo',fs',st')->rn S c Q fo fs st=rn S c Q fo' fs' st'
 | 0,fo,fo',fs,fs',st,st',h=>by cases h;rfl
 | n+1,fo,fo',fs,fs',st,st',h=>by
  simp only[gT]at h;split at h
  .rename_i a b d B;rw[OZ B];exact oS h
  .cases h
theorem Ak {n:Nat} {fo fo':Fo} {fs fs':List Fm} {st st':St} {m:Option β} (h:gT S c n fo fs st=some (fo',fs',st')) (B:Le m (rn S c Q fo' fs' st')):Le m (rn S c Q fo fs st):=by
 rw[oS h];exact B
theorem WR {n:Nat} {fo fo':Fo} {fs fs':List Fm} {st st':St} {r:γ} (h:gT S c n fo fs st=some (fo',fs',st')) (B:rn S c Q fo' fs' st'=e r):Le ((some r).bind e) (rn S c Q fo fs st):=by
 rw[oS h];exact Le.of_eq B
theorem Q2 {m:Option δ} {f:δ->Option γ} {L:Option β} (k:δ->Option β) (B:Le (m.bind k) L) (h1:∀r,Le ((f r).bind e) (k r)):Le ((m.bind f).bind e) L:=by
 intro r hr
 cases m with
 | none=>cases hr
 | some x=>exact B r (h1 x r hr)
theorem WQ {n:Nat} {fo:Fo} {fs fs':List Fm} {st0:St} {dr:Bool} {q l:List RO} {fr:List Nat} {st:St} {d:Option Nat} {gd:Option (Nat×Bool)} {now:Bool} {k:K} {az:List Arg} {dd:List Nat} {m:Option δ} {g:δ->St} {f:δ->Option γ}
 (B:gT S c n fo fs st0=some (.ops dr fr q,fs',st)) (D:q=⟨d,gd,now,k,az,dd,[]⟩::l) (hg:wanted st.g gd=some true)
 (G:Le (m.bind λx=>some (g x)) (fK S c dr fr ⟨d,none,now,k,az,[],[]⟩ st))
 (h:∀x,m=some x->Le ((f x).bind e) (rn S c Q (.ops dr (if dr then qN fr ⟨d,gd,now,k,az,[],[]⟩else fr) l) fs' (pn dd (g x)))):Le ((m.bind f).bind e) (rn S c Q fo fs st0):=by
 rw[oS B];subst D;simp only[rn,uP,RO.strip,Cd,ζb];rw[MS hg]
 cases m with
 | none=>exact Le.none _
 | some x=>rw[G (g x) rfl];exact h x rfl
theorem Ro {n:Nat} {fo:Fo} {fs fs':List Fm} {st0:St} {dr:Bool} {q l:List RO} {fr:List Nat} {st st':St} {d:Option Nat} {gd:Option (Nat×Bool)} {now:Bool} {k:K} {az:List Arg} {dd:List Nat} {m:Option β}
 (B:gT S c n fo fs st0=some (.ops dr fr q,fs',st)) (D:q=⟨d,gd,now,k,az,dd,[]⟩::l) (hg:wanted st.g gd=some true)
 (G:fK S c dr fr ⟨d,none,now,k,az,[],[]⟩ st=some st')
 (h:Le m (rn S c Q (.ops dr (if dr then qN fr ⟨d,gd,now,k,az,[],[]⟩else fr) l) fs' (pn dd st'))):Le m (rn S c Q fo fs st0):=by
 rw[oS B];subst D;simp only[rn,uP,RO.strip,Cd,ζb];rw[MS hg,G];exact h
theorem M6 {n:Nat} {fo:Fo} {B:List Fm} {st:St} {σ ε ρ:Type} {a:RC} {fs:List Fm} {step:σ->Option (Fw σ ε ρ)} {D:σ->St} {G:ε->Nat×St} {J:ρ->St} {s:σ} {U:ε->Option γ} {fr:ρ->Option γ}
 (W:gT S c n fo B st=some (.rc (.loop a),fs,D s)) (h:∀s,Le ((step s).bind λw=>some (Fw.out D G J w)) (rn S c some (.rc a) [] (D s)))
 (Y:∀x,Le ((U x).bind e) (rn S c Q (.ex (G x).1) fs (G x).2)) (hr:∀b,Le ((fr b).bind e) (Q (.ret,J b))):Le (((bV step s).bind (Fw.elim U fr)).bind e) (rn S c Q fo B st):=by
 rw[oS W];exact V9 (L:=rn S c Q (.rc (.loop a)) fs (D s)) rfl h Y hr
theorem T7 {n:Nat} {fo:Fo} {B:List Fm} {st:St} {α σ ε ρ:Type} {g:Arg} {ps:List Nat} {a b:RC} {fs:List Fm} {f:FuncId} {x y:List V} {items:List α} {eI:α->List V} {step:α->σ->Option (Fw σ ε ρ)} {D:σ->Tb bJ} {G:ε->Nat×Tb bJ} {J:ρ->Tb bJ} {gt:Tb SV} {s:σ}
 {fn:σ->Option γ} {U:ε->Option γ} {fr:ρ->Option γ}
 (W:gT S c n fo B st=some (.rc (.each g ps a b),fs,bO gt (D s))) (hg:qL S.N gt g=some (.v (.clo f x y))) (hi:S.items f x y=some (items.map eI)) (Y:∀x,(eI x).length=ps.length)
 (h:∀x s,Le ((step x s).bind λw=>some (Fw.wq D G J w)) (rn S c (yJ S c b) (.rc a) [] ⟨wR gt ps ((eI x).map .v),D s,pH gt,[],true,0⟩))
 (hn:∀s,Le ((fn s).bind e) (rn S c Q .nx fs (bO gt (D s))))
 (hx:∀x,Le ((U x).bind e) (rn S c Q (.ex (G x).1) fs (bO gt (G x).2))) (hr:∀b,Le ((fr b).bind e) (Q (.ret,bO gt (J b)))) :
 Le (((kj step items s).bind (Fw.qt fn U fr)).bind e) (rn S c Q fo B st):=by
 rw[oS W];exact VW (L:=rn S c Q (.rc (.each g ps a b)) fs (bO gt (D s))) rfl hg hi Y h hn hx hr
theorem UE {b:RC} {st st':St} {m:Option (Out×Tb bJ)} {fs:List Fm} {n:Nat} {fo:Fo} (h:gT S c n fo fs st=some (.nx,[],st')) (B:Le m (rn S c wq (.rc b) [] st')):Le m (rn S c (yJ S c b) fo fs st):=by
 rw[oS h];exact B
theorem VN {α:Type} {n:Nat} {fo fo':Fo} {fs fs':List Fm} {st:St} {A:Option α->St} {o:Option α} {f:α->Option γ} (h:gT S c n fo fs st=some (fo',fs',A o))
 (B:∀x,o=some x->Le ((f x).bind e) (rn S c Q fo' fs' (A (some x)))):Le ((o.bind f).bind e) (rn S c Q fo fs st):=by
 rw[oS h]
 cases o with
 | none=>exact Le.none _
 | some x=>exact B x rfl
theorem WO {T:qb} {f:FuncId} {rf:RF} {az:List V} {m:Option (List V)} (B:T f=some rf) (D:az.length<=rf.na) (h:Le m (rn S (dO S T) (mF rf.rs) (.rc rf.body) [] (start (az.map .v) []))):Le m (fQ (dO S T) f az):=by
 rw[Se B az D];exact h
end
section
variable {α:Type} [bC α]
abbrev cv (x:α):SV:=.v (enc x)
abbrev cp (x:α):SV:=.v (.fptr (cells x))
abbrev bx (x:α):bJ:=.box ((cells x).map .v)
end
end Go.VE
namespace Go.VE
variable [bW]
structure eS (S:Sys) (c:bZ) {α δ:Type} (fn:FuncId) (A:α->List V) (E:δ->List V) (p:α->Option δ) (sc:Bool):Prop where
 k:S.E.keep fn=false
 h:∀z,Le ((p z).bind λr=>some (E r)) (fQ c fn (A z))
 s:sc=true->∀r,(result (E r)).scalar=true
section
variable {S:Sys} {c:bZ} {β γ δ α:Type} {Q:Out×St->Option β} {e:γ->Option β} {fo:Fo} {fs:List Fm} {st0:St} {l:List RO} {d:Option Nat} {gd:Option (Nat×Bool)} {now:Bool} {az:List Arg} {dd:List Nat}
noncomputable abbrev s9 (S:Sys) (c:bZ) (Q:Out×St->Option β) (dr:Bool) (fr:List Nat) (d:Option Nat) (k:K) (l:List RO) (fs:List Fm) (dd:List Nat) (st:St):Option β:=
 rn S c Q (.ops dr (if dr then(match k with|.p _|.r _=>fr|_=>match d with|some d=>d::fr|none=>fr)else fr) l) fs (pn dd st)
theorem FO (fr:List Nat) (k:K):qN fr ⟨d,gd,now,k,az,[],[]⟩=(match k with|.p _|.r _=>fr|_=>match d with|some d=>d::fr|none=>fr):=by
 cases k <;> cases d <;> rfl
theorem Ey {n:Nat} {dr:Bool} {fr:List Nat} {q:List RO} {fs':List Fm} {st:St} {k:K} {m:Option δ} {g:δ->St} {f:δ->Option γ}
 (B:gT S c n fo fs st0=some (.ops dr fr q,fs',st)) (D:q=⟨d,gd,now,k,az,dd,[]⟩::l) (hg:wanted st.g gd=some true)
 (G:Le (m.bind λx=>some (g x)) (fK S c dr fr ⟨d,none,now,k,az,[],[]⟩ st))
 (h:∀x,m=some x->Le ((f x).bind e) (s9 S c Q dr fr d k l fs' dd (g x))):Le ((m.bind f).bind e) (rn S c Q fo fs st0):=
 WQ B D hg G (λx u=>by rw[FO];grind)
theorem q_ {n:Nat} {dr:Bool} {fr:List Nat} {q:List RO} {fs':List Fm} {st st':St} {k:K} {m:Option β}
 (B:gT S c n fo fs st0=some (.ops dr fr q,fs',st)) (D:q=⟨d,gd,now,k,az,dd,[]⟩::l) (hg:wanted st.g gd=some true)
 (G:fK S c dr fr ⟨d,none,now,k,az,[],[]⟩ st=some st') (h:Le m (s9 S c Q dr fr d k l fs' dd st')):Le m (rn S c Q fo fs st0):=
 Ro B D hg G (by rw[FO];omega)
section
variable [bC α]
theorem Pa (n:Nat) (dr:Bool) (fr:List Nat) (q:List RO) (fs':List Fm) (st:St) (k:IntKind) {sz:Nat} {s:Sl α} {i:Int} {f:α->Option γ} (D:q=⟨d,gd,now,.p (.idxS sz),az,dd,[]⟩::l)
 (B:(gT S c n fo fs st0,wanted st.g gd,b_ S.N st.g az,sz)=(some (.ops dr fr q,fs',st),some true,some [.v (cq s),.v (.int k i)],bC.size α))
 (h:∀x,idx s i=some x->Le ((f x).bind e) (s9 S c Q dr fr d (.p (.idxS sz)) l fs' dd (c_ st d (cp x)))):Le (((idx s i).bind f).bind e) (rn S c Q fo fs st0):=by
 simp  at B;exact Ey B.1 D B.2.1 (Le.of_eq (QY B.2.2.1 B.2.2.2)) h
theorem UI (n:Nat) (dr:Bool) (fr:List Nat) (q:List RO) (fs':List Fm) (st:St) (s:Sl α) {m:Option β} (D:q=⟨d,gd,now,.p .lenSl,az,dd,[]⟩::l)
 (B:(gT S c n fo fs st0,wanted st.g gd,b_ S.N st.g az)=(some (.ops dr fr q,fs',st),some true,some [.v (cq s)]))
 (h:Le m (s9 S c Q dr fr d (.p .lenSl) l fs' dd (c_ st d (.v (.int .i64 s.l.length))))):Le m (rn S c Q fo fs st0):=by
 simp  at B;exact q_ B.1 D B.2.1 (Q9 B.2.2) h
end
section
variable {q:List RO} {fs':List Fm}
end
theorem IT (m:Tb bJ) (n:Nat) (l:List V):nZ (iQ m n) (l.map .v)=some l:=by rw[<-(yg m n).2,wJ]
variable {A:α->List V} {E:δ->List V} {p:α->Option δ} {fn:FuncId} {sc:Bool}
end
end Go.VE
namespace Go.VE
variable [bW]
abbrev iv (n:Int):SV:=.v (.int .i64 n)
abbrev bv (b:Bool):SV:=.v (.bool b)
abbrev len {α:Type} (s:Sl α):Int:=((List.length (Sl.l s):Nat):Int)
abbrev o1 (d:Nat) (a:Arg) (dd:List Nat):RO:=⟨some d,none,false,.p .id,[a],dd,[]⟩
abbrev o2 (d:Nat) (k:K) (az:List Arg) (dd:List Nat):RO:=⟨some d,none,false,k,az,dd,[]⟩
abbrev o3 (d s:Nat) (b:Bool) (k:K) (az:List Arg) (dd:List Nat):RO:=⟨some d,some (s,b),false,k,az,dd,[]⟩
def J6 (a b:aY):Bool:=[a.proc,a.index]==[b.proc,b.index]
section
variable {α:Type} [bC α]
theorem uI (h:bC.agg α=false) (a:α):cells a=[enc a]:=by
 have u:(cells a).length=1:=by rw[show (cells a).length=_ from bC.len a,bC.plain h]
 unfold enc;rw[if_neg (by simp[h])]
 match hc:cells a,u with
 | [x],_=>rfl
theorem A2 (h:bC.agg α=true) (a:α):enc a=.agg (cells a):=by unfold enc;grind
theorem mA (a:α):V.good (enc a)=true:=by
 have h:V.cI (cells a)=true:=bC.good a
 cases u:bC.agg α with
 | true=>rw[A2 u];exact h
 | false=>
  rw[uI u]at h;simp[V.cI]at h;omega
theorem pY (s:Sl α):V.one (enc s)=true:=Fy s
theorem PL (s:α) (h:bC.agg α=false):V.one (enc s)=true:=by
 have:=bC.one s;rw[show bC.cells s=cells s from rfl,uI h]at this
 grind
end
instance {α:Type} [bC α]:bC (Option α) where
 cells o:=[match o with|none=>.gX|some x=>.fptr (cells x)]
 agg:=false
 size:=1
 len _:=rfl
 good o:=by
  cases o with
  | none=>rfl
  | some x=>simp only[V.cI,V.good,Bool.and_true];exact bC.good x
 one o:=by cases o <;> rfl
 plain _:=rfl
structure U8 where
 v:Int
 deriving Inhabited,DecidableEq
instance:bC U8 where
 cells n:=[.int .u8 n.v]
 agg:=false
 size:=1
 len _:=rfl
 good _:=rfl
 one _:=rfl
 plain _:=rfl
structure W9 where
 v:Int
 deriving Inhabited,DecidableEq
instance:bC W9 where
 cells n:=[.int .u64 n.v]
 agg:=false
 size:=1
 len _:=rfl
 good _:=rfl
 one _:=rfl
 plain _:=rfl
structure Xl where
 v:Int
 deriving Inhabited,DecidableEq
instance:bC Xl where
 cells n:=[.int .u32 n.v]
 agg:=false
 size:=1
 len _:=rfl
 good _:=rfl
 one _:=rfl
 plain _:=rfl
structure Xa where
 v:Int
 deriving Inhabited,DecidableEq
instance:bC Xa where
 cells n:=[.int .i32 n.v]
 agg:=false
 size:=1
 len _:=rfl
 good _:=rfl
 one _:=rfl
 plain _:=rfl
structure lW (S:Sys) (c:bZ) {α δ:Type} (g:FuncId) (w e:List V) (A:α->List V) (R:δ->List V) (p:α->Option δ) (b:Bool):Prop where
 f:eS S c g (λz=>w++A z++e) R p b
section
variable {S:Sys} {c:bZ} {β γ δ α:Type} {Q:Out×St->Option β} {e:γ->Option β} {fo:Fo} {fs:List Fm} {st0:St} {l:List RO} {d:Option Nat} {gd:Option (Nat×Bool)} {now:Bool} {az:List Arg} {dd:List Nat}
theorem j_ {α:Type} [bC α] (a:α):V.cells (enc a)=cells a:=by
 cases u:bC.agg α with
 | true=>rw[A2 u];rfl
 | false=>
  have h1  := PL a u;rw[uI u];cases h:enc a <;> first|rfl|(rw[h]at h1;cases h1)
theorem qx {α:Type} [bC α] (a:α):(cells a).all V.one=true:=bC.one a
theorem gB {α:Type} [bC α] (a:α):(cells a).length=bC.size α:=bC.len a
theorem Ast [bC α] (n:Nat) (dr:Bool) (fr:List Nat) (q:List RO) (fs':List Fm) (st:St) (u o:Nat) (x:α) (cs B:List SV) {sz:Nat} {m:Option β} (G:q=⟨d,gd,now,.l (.store sz),az,dd,[]⟩::l)
 (D:(gT S c n fo fs st0,wanted st.g gd,b_ S.N st.g az,bg st.m u,(!dr||now),sz,Nat.ble (o+sz) cs.length,cs.take o++(cells x).map .v++cs.drop (o+sz))=(some (.ops dr fr q,fs',st),some true,some [.ptr u o,cv x],some (.box cs),true,bC.size α,true,B))
 (h:Le m (s9 S c Q dr fr d (.l (.store sz)) l fs' dd (c_ { st with m:=bR st.m u (.box B) } d (.v .undef)))):Le m (rn S c Q fo fs st0):=by
 simp only[ζc]at D;obtain⟨h1,w,z,A,C,I,J,L⟩:=D;refine q_ h1 G w ?_ h;rw[wQ,z];subst I;have O:=Nat.le_of_ble_eq_true J;simp only[ζb,C,if_true,mV,A,putCells,j_,gB,qx,O,and_self,L,Option.map_some]
theorem AG {α:Type} [bC α]:∀(xs:List α) (pre:List (List V)) (B:List (List V)),B.length=xs.length->gG (bC.size α) (pre++B) ((List.range' pre.length xs.length).zip (xs.map enc))=some (pre++rows xs)
 | [],pre,B,h=>by
  have  := List.eq_nil_of_length_eq_zero h;subst this;rfl
 | x::xs,pre,s::B,h=>by
  simp only[List.length_cons,List.range'_succ,List.map_cons,List.zip_cons_cons,gG,j_,gB,qx];have:=AG xs (pre++[cells x]) B (by grind)
  simp only[ζi,List.length_cons,List.length_nil]at this;have e:(pre++s::B).set pre.length (cells x)=pre++[cells x]++B:=by simp
  rw[e,this];simp[rows]
theorem Xe [bC α] (n:Nat) (dr:Bool) (fr:List Nat) (q:List RO) (fs':List Fm) (st:St) (xs:List α) {u sz ln:Nat} {zero:List V} {ix:List Nat} {m:Option β} (D:q=⟨some u,gd,now,.a (.buildSl sz ln zero ix),az,dd,[]⟩::l)
 (G:st.new u=true) (B:(gT S c n fo fs st0,wanted st.g gd,b_ S.N st.g az,sz,ln,ix)=(some (.ops dr fr q,fs',st),some true,some ((xs.map enc).map .v),bC.size α,xs.length,List.range' 0 xs.length))
 (h:Le m (s9 S c Q dr fr (some u) (.a (.buildSl sz ln zero ix)) l fs' dd { st with g:=bR st.g u (.own u),m:=bR st.m u (c6 (.row xs)) })):Le m (rn S c Q fo fs st0):=by
 simp only[ζc]at B;obtain⟨h1,w,z,A,C,I⟩:=B;subst A C I;refine q_ h1 D w ?_ h;rw[CU,z];simp only[ζb,G,p_,lg,List.length_range',List.length_map];have:=AG xs [] (List.replicate xs.length zero) (by simp)
 simp  at this;rw[this];rfl
theorem WE [bC α] (n:Nat) (dr:Bool) (fr:List Nat) (q:List RO) (fs':List Fm) (st:St) (x:α) (vs:List V) {z:List V} {pl:List (Nat×Nat)} {m:Option β} (D:q=⟨d,gd,now,.p (.build z pl),az,dd,[]⟩::l)
 (hp:kG z pl vs=some (cells x)) (G:bC.agg α=true)
 (B:(gT S c n fo fs st0,wanted st.g gd,b_ S.N st.g az)=(some (.ops dr fr q,fs',st),some true,some (vs.map .v)))
 (h:Le m (s9 S c Q dr fr d (.p (.build z pl)) l fs' dd (c_ st d (cv x)))):Le m (rn S c Q fo fs st0):=by
 simp  at B;refine q_ B.1 D B.2.1 (Et B.2.2 rfl ?_) h;unfold kn;rw[lg];simp only[Ou,hp,Option.map_some];show some (SV.v (.agg (cells x)))=some (.v (enc x));rw[A2 G]
section
variable [bC α]
theorem WM (n:Nat) (dr:Bool) (fr:List Nat) (q:List RO) (fs':List Fm) (st:St) (lo hi:Bool) (D:List V) {sz:Nat} {s:Sl α} {a b:Option Int} {f:Sl α->Option γ} (G:q=⟨d,gd,now,.p (.slice sz lo hi),az,dd,[]⟩::l)
 (B:(gT S c n fo fs st0,wanted st.g gd,b_ S.N st.g az,mE lo hi D,sz)=(some (.ops dr fr q,fs',st),some true,some (.v (cq s)::D.map .v),some (a,b),bC.size α))
 (h:∀x,jJ s a b=some x->Le ((f x).bind e) (s9 S c Q dr fr d (.p (.slice sz lo hi)) l fs' dd (c_ st d (.v (cq x))))):Le (((jJ s a b).bind f).bind e) (rn S c Q fo fs st0):=by
 simp  at B;refine Ey B.1 G B.2.1 (Le.of_eq ?_) h;have w  := B.2.2.1;unfold fK mC;simp[wanted,fV,w];have u:kn S.N st.m (.slice sz lo hi) ((cq s::D).map .v)=(jJ s a b).bind λx=>some (.v (cq x)):=by
  unfold kn;rw[lg];simp[bn,B.2.2.2.1,LY s a b sz B.2.2.2.2];cases jJ s a b <;> rfl
 simp  at u ⊢;rw[u];cases jJ s a b <;> rfl
def oP (s:Sl α) (lo hi:Option Int):Option (Sl α):=
 match s with
 | .nil|.emp=>none
 | .row x|.part x=>(dW x.length lo hi).map λ(l,h)=>.part ((x.take h).drop l)
theorem VY (n:Nat) (fr:List Nat) (q:List RO) (fs':List Fm) (st:St) (lo hi:Bool) (u:Nat) (D:List V) {t sz:Nat} {s:Sl α} {a b:Option Int} {f:Sl α->Option γ} (J:q=⟨some t,gd,now,.p (.slice sz lo hi),az,dd,[]⟩::l)
 (G:St.new { st with m:=en u st.m } t=true) (B:(gT S c n fo fs st0,wanted st.g gd,b_ S.N st.g az,mE lo hi D,bg st.m u,sz)=(some (.ops false fr q,fs',st),some true,some (.own u::D.map .v),some (a,b),some (c6 s),bC.size α))
 (h:∀x,oP s a b=some x->Le ((f x).bind e) (s9 S c Q false fr (some t) (.p (.slice sz lo hi)) l fs' dd { st with g:=bR st.g t (.own t),m:=bR (en u st.m) t (c6 x) })):Le (((oP s a b).bind f).bind e) (rn S c Q fo fs st0):=by
 simp  at B;refine Ey B.1 J B.2.1 (Le.of_eq ?_) h;obtain⟨_,_,z,w,A,C⟩:=B;subst C;unfold fK mC;simp[wanted,fV,z,AJ,lg,A,w]
 cases s with
 | nil=>simp[oP,c6,Sl.k,cR]
 | emp=>simp[oP,c6,Sl.k,cR]
 | row x=>
  simp[c6,Sl.k,Sl.l,cR,oP,kI,w]
  cases dW x.length a b with
  | none=>rfl
  | some r=>simp[G,c_,rows,List.map_drop]
 | part x=>
  simp[c6,Sl.k,Sl.l,cR,oP,kI,w]
  cases dW x.length a b with
  | none=>rfl
  | some r=>simp[G,c_,rows,List.map_drop]
end
end
end Go.VE
namespace Go.VE
variable [bW]
structure cE (n:Nat) (α:Type) where
 l:List α
 len:l.length=n
theorem OP {α:Type} [bC α] (l:List α):(l.map (cells (α:=α))).flatten.length=l.length*bC.size α:=by
 induction l with
 | nil=>simp
 | cons a l u=>simp[u,gB,Nat.add_mul,Nat.add_comm]
theorem NU {α:Type} [bC α] (l:List α):V.cI (l.map (cells (α:=α))).flatten=true:=by
 induction l with
 | nil=>rfl
 | cons a l u=>
  have h:∀(x y:List V),V.cI x=true->V.cI y=true->V.cI (x++y)=true:=by
   intro x
   induction x with
   | nil=>grind
   | cons b x w=>intro y h1 z;simp[V.cI]at h1 ⊢;grind
  exact h _ _ (bC.good a) u
instance {n:Nat} {α:Type} [bC α]:bC (cE n α) where
 cells a:=(a.l.map cells).flatten
 agg:=true
 size:=n*bC.size α
 len a:=by rw[OP,a.len]
 good a:=NU a.l
 one a:=by
  have:∀l:List α,(l.map (cells (α:=α))).flatten.all V.one=true:=by
   intro l
   induction l with
   | nil=>rfl
   | cons a l u=>simp only[List.map_cons,List.flatten_cons,List.all_append,u,qx,Bool.and_self]
  exact this a.l
 plain h:=by cases h
def cE.Na (n:Nat) {α:Type} (z:α):cE n α:=⟨List.replicate n z,by simp⟩
def cE.at {n:Nat} {α:Type} (a:cE n α) (i:Int):Option α:=if 0<=i then a.l[i.toNat]? else none
def cE.set {n:Nat} {α:Type} (a:cE n α) (i:Int) (x:α):cE n α:=⟨a.l.set i.toNat x,by simp[a.len]⟩
def pa {n:Nat} {α:Type} [bC α] (a:cE n α) (i:Int):List V:=(cells a).drop (i.toNat*bC.size α)
theorem cE.tR {n:Nat} {α:Type} {a:cE n α} {i:Int} {x:α} (h:a.at i=some x):0<=i/\i.toNat<n/\a.l[i.toNat]? = some x:=by
 unfold cE.at at h;split at h
 .rename_i hi;refine⟨hi,?_,h⟩;have:=(ζe.1 h).1;rw[<-a.len];simp_all
 simp_all
theorem Fk {α:Type} [bC α]:∀(l:List α) (k:Nat),((l.map (cells (α:=α))).flatten).drop (k*bC.size α)=((l.drop k).map (cells (α:=α))).flatten
 | [],k=>by simp
 | a::l,0=>by simp
 | a::l,k+1=>by
  have h  := gB a;rw[List.map_cons,List.flatten_cons,List.drop_succ_cons,<-Fk l k,Nat.add_mul,Nat.one_mul,Nat.add_comm,<-h,List.drop_length_add_append]
theorem A9 {n:Nat} {α:Type} [bC α] {a:cE n α} {i:Int} {x:α} (h:a.at i=some x):∃r,pa a i=cells x++r:=by
 obtain⟨h1,A,w⟩:=cE.tR h;obtain⟨u,z⟩:=ζe.1 w;refine⟨((a.l.drop (i.toNat+1)).map cells).flatten,?_⟩;show ((a.l.map (cells )).flatten).drop (i.toNat*bC.size α)=_;rw[Fk,List.drop_eq_getElem_cons u,List.map_cons,List.flatten_cons,z]
section
variable {S:Sys} {c:bZ} {β γ δ α:Type} {Q:Out×St->Option β} {e:γ->Option β} {fo:Fo} {fs:List Fm} {st0:St} {l:List RO} {d:Option Nat} {gd:Option (Nat×Bool)} {now:Bool} {az:List Arg} {dd:List Nat}
section
variable {N:Nat} [bC α]
theorem V0 (n:Nat) (dr:Bool) (fr:List Nat) (q:List RO) (fs':List Fm) (st:St) (k:IntKind) {ln sz:Nat} {a:cE N α} {i:Int} {f:α->Option γ} (D:q=⟨d,gd,now,.p (.idxA ln sz),az,dd,[]⟩::l)
 (B:(gT S c n fo fs st0,wanted st.g gd,b_ S.N st.g az,sz,ln)=(some (.ops dr fr q,fs',st),some true,some [cp a,.v (.int k i)],bC.size α,N))
 (h:∀x,a.at i=some x->Le ((f x).bind e) (s9 S c Q dr fr d (.p (.idxA ln sz)) l fs' dd (c_ st d (.v (.fptr (pa a i)))))):Le (((a.at i).bind f).bind e) (rn S c Q fo fs st0):=by
 simp  at B;obtain⟨h1,w,z,A,C⟩:=B;subst A C;refine Ey h1 D w ?_ h;intro r hr;obtain⟨x,G,hr⟩:=ζg.1 hr;obtain⟨g1,g2,_⟩:=cE.tR G;rw[Et  z rfl ?_]
 .omega
 rw[vU];simp[bn,w8];have u:i.toNat*bC.size α<=(cells a).length:=by
  rw[gB];exact Nat.mul_le_mul_right _ (Nat.le_of_lt g2)
 rw[if_pos ⟨g1,by omega⟩,if_pos u]
 rfl
theorem WJ (n:Nat) (dr:Bool) (fr:List Nat) (q:List RO) (fs':List Fm) (st:St) (a:cE N α) (i:Int) (o:Nat) (x:α) (D:a.at i=some x) {k:Nat} {m:Option β} (G:q=⟨d,gd,now,.p (.fieldAddr k),az,dd,[]⟩::l)
 (B:(gT S c n fo fs st0,wanted st.g gd,b_ S.N st.g az,Nat.ble (o+k) (bC.size α))=(some (.ops dr fr q,fs',st),some true,some [.v (.fptr ((pa a i).drop o))],true))
 (h:Le m (s9 S c Q dr fr d (.p (.fieldAddr k)) l fs' dd (c_ st d (.v (.fptr ((pa a i).drop (o+k))))))):Le m (rn S c Q fo fs st0):=by
 simp only[ζc]at B;obtain⟨h1,u,w,z⟩:=B;refine q_ h1 G u (Et w rfl ?_) h;have A:=Nat.le_of_ble_eq_true z;obtain⟨r,hr⟩:=A9 D;have C:(pa a i).length>=bC.size α:=by rw[hr,ζi,gB];omega
 rw[HP,Ij,if_pos (by grind),List.drop_drop]
 rfl
theorem Vs (n:Nat) (dr:Bool) (fr:List Nat) (q:List RO) (fs':List Fm) (st:St) (a:cE N α) (i:Int) (o:Nat) (x:α) (G:a.at i=some x) {sz:Nat} {ag:Bool} {v:V} (hv:(cut (cells x) o sz).bind (mk ag)=some v) (B:V) {m:Option β} (J:q=⟨d,gd,now,.r (.load sz ag),az,dd,[]⟩::l)
 (D:(gT S c n fo fs st0,wanted st.g gd,b_ S.N st.g az,v)=(some (.ops dr fr q,fs',st),some true,some [.v (.fptr ((pa a i).drop o))],B))
 (h:Le m (s9 S c Q dr fr d (.r (.load sz ag)) l fs' dd (c_ st d (.v B)))):Le m (rn S c Q fo fs st0):=by
 simp  at D;obtain⟨h1,z,A,rfl⟩:=D;refine q_ h1 J z ?_ h;rw[Gm,A];have hold:fc fr [SV.v (.fptr ((pa a i).drop o))]=true:=rfl;simp[hold,Mr];obtain⟨r,hr⟩:=A9 G;rw[hr];have hc:cut ((cells x++r).drop o) 0 sz=cut (cells x) o sz:=by
  cases u:cut (cells x) o sz with
  | none=>grind
  | some w=>
   unfold cut at u ⊢;dsimp only at u ⊢;split at u
   .have e1:(List.drop 0 (List.drop o (cells x++r))).take sz=((cells x).drop o).take sz:=by
     have C:sz=0\/o<=(cells x).length:=by
      grind
     grind
    grind
   grind
 cases u:cut (cells x) o sz with
 | none=>grind
 | some w=>grind
theorem Ue (n:Nat) (dr:Bool) (fr:List Nat) (q:List RO) (fs':List Fm) (st:St) (cs:List SV) {u sz:Nat} {zero:List V} {m:Option β} (D:q=⟨some u,gd,now,.a (.alloc sz zero),az,dd,[]⟩::l)
 (G:st.new u=true) (B:(gT S c n fo fs st0,wanted st.g gd,b_ S.N st.g az,zero.map SV.v)=(some (.ops dr fr q,fs',st),some true,some [],cs))
 (h:Le m (s9 S c Q dr fr (some u) (.a (.alloc sz zero)) l fs' dd { st with g:=bR st.g u (.ptr u 0),m:=bR st.m u (.box cs) })):Le m (rn S c Q fo fs st0):=by
 simp  at B;obtain⟨h1,w,z,A⟩:=B;subst A;refine q_ h1 D w ?_ h;rw[CU,z];simp[G,p_]
theorem tj (d:Nat) (l:List V):SV.dA d (l.map .v)=false:=by
 induction l with
 | nil=>rfl
 | cons a l u=>simp[SV.dA,SV.cQ,u]
theorem tg {α:Type} [bC α] (d:Nat) (x:α):bJ.cQ d (bx x)=false:=tj d (cells x)
theorem V2 (n:Nat) (dr:Bool) (fr:List Nat) (q:List RO) (fs':List Fm) (st:St) (k:IntKind) (u:Nat) {ln sz:Nat} {a:cE N α} {i:Int} {f:α->Option γ} (D:q=⟨d,gd,now,.p (.idxA ln sz),az,dd,[]⟩::l)
 (B:(gT S c n fo fs st0,wanted st.g gd,b_ S.N st.g az,sz,ln,bg st.m u)=(some (.ops dr fr q,fs',st),some true,some [.ptr u 0,.v (.int k i)],bC.size α,N,some (bx a)))
 (h:∀x,a.at i=some x->Le ((f x).bind e) (s9 S c Q dr fr d (.p (.idxA ln sz)) l fs' dd (c_ st d (.ptr u (i.toNat*bC.size α+0))))):Le (((a.at i).bind f).bind e) (rn S c Q fo fs st0):=by
 simp  at B;obtain⟨h1,w,z,G,I,A⟩:=B;refine Ey h1 D w ?_ h;intro r hr;obtain⟨x,C,hr⟩:=ζg.1 hr;obtain⟨g1,g2,_⟩:=cE.tR C;rw[Et  z rfl ?_]
 .omega
 simp[kn,dG,A6,A]
 grind
theorem Oi {a:cE N α} {i:Int} {o:Nat} {x:α} (B:a.at i=some x) {sz:Nat} {ag:Bool} {v:V} (hv:(cut (cells x) o sz).bind (mk ag)=some v):vn sz ag ((((cells a).map SV.v).drop (i.toNat*bC.size α+o)).take sz)=some (.v v):=by
 obtain⟨r,hr⟩:=A9 B;have e1:(((cells a).map SV.v).drop (i.toNat*bC.size α+o)).take sz=(((cells x).drop o).take sz).map SV.v:=by
  have u:((cells x).drop o).take sz=((cells x++r).drop o).take sz:=by
   cases hc:cut (cells x) o sz with
   | none=>grind
   | some w=>
    unfold cut at hc;dsimp only at hc;split at hc
    .have A:sz=0\/o<=(cells x).length:=by
      grind
     grind
    simp_all
  rw[u,<-hr,pa,List.drop_drop,List.map_take,List.map_drop]
 rw[e1];unfold vn
 cases hc:cut (cells x) o sz with
 | none=>grind
 | some w=>
  rw[hc]at hv;unfold cut at hc;dsimp only at hc;split at hc
  .rename_i z;cases hc;simp only[List.length_map,z];unfold mk at hv
   cases ag with
   | true=>
    simp only[if_true]at hv ⊢;cases hv;rw[lg]
   | false=>
    grind
  simp_all
theorem V1 (n:Nat) (dr:Bool) (fr:List Nat) (q:List RO) (fs':List Fm) (st:St) (u:Nat) (a:cE N α) (i:Int) (o:Nat) (x:α) (G:a.at i=some x) {sz:Nat} {ag:Bool} {v:V} (hv:(cut (cells x) o sz).bind (mk ag)=some v) (B:V) {m:Option β} (J:q=⟨d,gd,now,.r (.load sz ag),az,dd,[]⟩::l)
 (D:(gT S c n fo fs st0,wanted st.g gd,b_ S.N st.g az,v,bg st.m u,(!dr||now||fc fr [.ptr u 0]))=(some (.ops dr fr q,fs',st),some true,some [.ptr u (i.toNat*bC.size α+o)],B,some (bx a),true))
 (h:Le m (s9 S c Q dr fr d (.r (.load sz ag)) l fs' dd (c_ st d (.v B)))):Le m (rn S c Q fo fs st0):=by
 simp only[ζc]at D;obtain⟨h1,w,z,rfl,A,C⟩:=D;refine q_ h1 J w ?_ h;rw[Gm,z];have hold:(!dr||now||fc fr [SV.ptr u (i.toNat*bC.size α+o)])=true:=C;simp only[ζb,hold,WB,A,Nq];rw[Oi G hv];rfl
theorem M9 {N:Nat} (a:cE N α) (i:Int) (y:α) (h:i.toNat<N):cells (a.set i y)=(cells a).take (i.toNat*bC.size α)++cells y++(cells a).drop ((i.toNat+1)*bC.size α):=by
 have key:∀(l:List α) (k:Nat),k<l.length->((l.set k y).map (cells )).flatten=(l.map (cells )).flatten.take (k*bC.size α)++cells y++(l.map (cells )).flatten.drop ((k+1)*bC.size α):=by
  intro l
  induction l with
  | nil=>grind
  | cons b l u=>
   intro k h;have w  := gB b
   cases k with
   | zero=>
    grind
   | succ k=>
    simp only[List.map_cons,List.flatten_cons];have e1:(k+1)*bC.size α=(cells b).length+k*bC.size α:=by grind
    have e2:(k+1+1)*bC.size α=(cells b).length+(k+1)*bC.size α:=by grind
    rw[e2,List.drop_length_add_append]
    grind
 exact key a.l i.toNat (by rw[a.len];omega)
theorem VZ (n:Nat) (dr:Bool) (fr:List Nat) (q:List RO) (fs':List Fm) (st:St) (u:Nat) (a:cE N α) (i:Int) (o:Nat) (x:α) (B:a.at i=some x) (y:α) (v:V) {sz:Nat} (G:cells y=(cells x).take o++v.cells++(cells x).drop (o+sz)) {m:Option β} (J:q=⟨d,gd,now,.l (.store sz),az,dd,[]⟩::l)
 (D:(gT S c n fo fs st0,wanted st.g gd,b_ S.N st.g az,bg st.m u,(!dr||now),v.cells.length,v.cells.all V.one,Nat.ble (o+sz) (bC.size α))=(some (.ops dr fr q,fs',st),some true,some [.ptr u (i.toNat*bC.size α+o),.v v],some (bx a),true,sz,true,true))
 (h:Le m (s9 S c Q dr fr d (.l (.store sz)) l fs' dd (c_ { st with m:=bR st.m u (bx (a.set i y)) } d (.v .undef)))):Le m (rn S c Q fo fs st0):=by
 simp only[ζc]at D;obtain⟨h1,z,A,C,I,L,O,T⟩:=D;refine q_ h1 J z ?_ h;rw[wQ,A];have W:=Nat.le_of_ble_eq_true T;obtain⟨g1,g2,g3⟩:=cE.tR B;have U:i.toNat*bC.size α+o+sz<=((cells a).map SV.v).length:=by
  rw[List.length_map,gB];have:(i.toNat+1)*bC.size α<=N*bC.size α:=Nat.mul_le_mul_right _ g2;rw[Nat.add_mul,Nat.one_mul]at this;show _<=N*bC.size α;omega
 simp only[ζb,I,if_true,mV,C,putCells,L,O,U,and_self,Option.map_some];obtain⟨r,hr⟩:=A9 B;have e:((cells a).map SV.v).take (i.toNat*bC.size α+o)++v.cells.map .v++((cells a).map SV.v).drop (i.toNat*bC.size α+o+sz)=(cells (a.set i y)).map SV.v:=by
  rw[M9 a i y g2,G];have hd:(cells a).drop (i.toNat*bC.size α)=cells x++r:=hr;have w  := gB x;have e1:(cells a).take (i.toNat*bC.size α+o)=(cells a).take (i.toNat*bC.size α)++(cells x).take o:=by
   rw[List.take_add,hd,List.take_append_of_le_length (by omega)]
  have e2:(cells a).drop (i.toNat*bC.size α+o+sz)=(cells x).drop (o+sz)++(cells a).drop ((i.toNat+1)*bC.size α):=by
   have e3:(cells a).drop ((i.toNat+1)*bC.size α)=r:=by
    rw[Nat.add_mul,Nat.one_mul,<-List.drop_drop,hd,<-w,List.drop_left]
   rw[e3,Nat.add_assoc,<-List.drop_drop,hd,List.drop_append_of_le_length (by omega)]
  rw[<-List.map_take,<-List.map_drop,e1,e2]
  grind
 rw[e]
end
theorem S6 {α:Type} [bC α] {m:Tb bJ} {d:Nat} {x:α} {vs:List V} (h:bg m d=some (bx x)):nZ (iQ m 8) (.ptr d 0::vs.map .v)=some (.fptr (cells x)::vs):=by
 have h1:iQ m 8 (.ptr d 0)=some (.fptr (cells x)):=by
  show (match bg m d with
   | some (.box cs)=>match nZ (iQ m 7) cs with
    | some u=>if 0<=u.length then some (V.fptr (u.drop 0))else none
    | none=>none
   | _=>none)=_
  rw[h];simp[IT]
 simp[nZ,h1,IT]
theorem Vr (n:Nat) {fo:Fo} {fs fs':List Fm} {st0 st:St} {rs:List RV} {e:γ->Option (List V)} {r:γ} (svs:List SV) {ys:List V} (B:nZ (iQ st.m 8) svs=some ys) (h:(gT S c n fo fs st0,kg st rs)=(some (.rt,fs',st),some svs)) (D:e r=some ys) :
 Le ((some r).bind e) (rn S c (mF rs) fo fs st0):=by
 simp  at h;rw[oS h.1];refine Le.of_eq ?_;simp[rn,mF,h.2,B]
 grind
abbrev Mo (κ ν:Type):=List (κ×ν)
class Key (κ:Type) [bC κ] [DecidableEq κ] where
 kk:xe
 ok:∀a:κ,pZ kk (enc a)=true
 eq:∀a b:κ,xd (enc a) (enc b)=some (decide (a=b))
instance:Key Int where
 kk:=.int .i64
 ok _:=rfl
 eq a b:=by
  show some (a==b)=some (decide (a=b));rw[show (a==b)=decide (a=b)from Bool.eq_iff_iff.2 (by simp)]
instance:Key aY where
 kk:=.ints 2
 ok _:=rfl
 eq a b:=by
  obtain⟨p,i⟩:=a;obtain⟨q,j⟩:=b;simp only[xd,kM,hU,U5,Option.map_some,List.length_cons,if_true,ζa];rw[Bool.eq_iff_iff];simp
section
variable {κ ν:Type} [bC κ] [DecidableEq κ] [Key κ] [bC ν]
def ue (k:κ):Mo κ ν->Option ν
 | []=>none
 | (a,v)::r=>if k=a then some v else ue k r
def Eu (m:Mo κ ν) (k:κ) (z:ν):ν:=(ue k m).getD z
def rF (m:Mo κ ν) (k:κ) (v:ν):Mo κ ν:=
 match m with
 | []=>[(k,v)]
 | (a,w)::r=>if k=a then(k,v)::r else(a,w)::rF r k v
def oJ (m:Mo κ ν):List (V×V):=m.map λx=>(enc x.1,enc x.2)
def we (m:Mo κ ν):bJ:=.mp (oJ m)
theorem Kr (k:κ):∀(m:Mo κ ν) (i:Nat),(iE (enc k) (oJ m) i).map (Option.map (·.2))=some ((ue k m).map enc)
 | [],i=>rfl
 | (a,v)::r,i=>by
  simp only[oJ,List.map_cons,iE,Key.eq,ue]
  by_cases h:k=a
  .grind
  .simp only[h];exact Kr k r (i+1)
theorem Pc (k:κ) (v:ν) (m:Mo κ ν):qe (enc k) (enc v) (oJ m)=some (oJ (rF m k v)):=by
 unfold qe;have key:∀(m:Mo κ ν) (pre:List (V×V)) (i:Nat),pre.length=i->(match iE (enc k) (oJ m) i with
  | some (some (j,_))=>some ((pre++oJ m).set j (enc k,enc v))
  | some none=>some (pre++oJ m++[(enc k,enc v)])
  | none=>none)=some (pre++oJ (rF m k v)):=by
  intro m
  induction m with
  | nil=>simp[oJ,iE,rF]
  | cons x r u=>
   obtain⟨a,w⟩:=x;intro pre i h;rw[show oJ ((a,w)::r)=(enc a,enc w)::oJ r from rfl];simp[iE,Key.eq,rF]
   by_cases hk:k=a
   .subst hk h;simp[oJ]
   .simp[hk];rw[show oJ ((a,w)::rF r k v)=(enc a,enc w)::oJ (rF r k v)from rfl];have:=u (pre++[(enc a,enc w)]) (i+1) (by simp[h])
    grind
 have:=key m [] 0 rfl
 grind
theorem Vo (n:Nat) (dr:Bool) (fr:List Nat) (q:List RO) (fs':List Fm) (st:St) (u:Nat) (mp:Mo κ ν) (k:κ) (z:ν) {kk:xe} {B:V} {m:Option β} (G:q=⟨d,gd,now,.r (.lookup kk B false),az,dd,[]⟩::l)
 (D:(gT S c n fo fs st0,wanted st.g gd,b_ S.N st.g az,bg st.m u,(!dr||now||fc fr [.mp u,cv k]),B,kk)=(some (.ops dr fr q,fs',st),some true,some [.mp u,cv k],some (we mp),true,enc z,Key.kk κ))
 (h:Le m (s9 S c Q dr fr d (.r (.lookup kk B false)) l fs' dd (c_ st d (cv (Eu mp k z))))):Le m (rn S c Q fo fs st0):=by
 simp only[ζc]at D;obtain⟨h1,A,C,I,J,L,O⟩:=D;subst L O;refine q_ h1 G A ?_ h;rw[Gm,C];simp only[ζb,J,pG,I,we,Key.ok];have:=Kr k mp 0;simp[Eu]
 cases T:iE (enc k) (oJ mp) 0 with
 | none=>grind
 | some r=>
  rw[T]at this
  cases r with
  | none=>
   cases U:ue k mp with
   | none=>rfl
   | some w=>grind
  | some w=>
   cases U:ue k mp with
   | none=>grind
   | some W=>
    grind
theorem Wz (n:Nat) (dr:Bool) (fr:List Nat) (q:List RO) (fs':List Fm) (st:St) (u:Nat) (mp:Mo κ ν) (k:κ) (v:ν) {kk:xe} {m:Option β} (D:q=⟨d,gd,now,.l (.mapUp kk),az,dd,[]⟩::l)
 (B:(gT S c n fo fs st0,wanted st.g gd,b_ S.N st.g az,bg st.m u,(!dr||now),kk)=(some (.ops dr fr q,fs',st),some true,some [.mp u,cv k,cv v],some (we mp),true,Key.kk κ))
 (h:Le m (s9 S c Q dr fr d (.l (.mapUp kk)) l fs' dd (c_ { st with m:=bR st.m u (we (rF mp k v)) } d (.v .undef)))):Le m (rn S c Q fo fs st0):=by
 simp only[ζc]at B;obtain⟨h1,w,z,A,C,G⟩:=B;subst G;refine q_ h1 D w ?_ h;rw[wQ,z];simp[C,mV,A,we,Key.ok,Pc]
end
end
end Go.VE
namespace Go.VE
variable [bW]
instance {n:Nat}:OfNat Arg n:=⟨.s n⟩
abbrev bI (o:BinOp):K:=.p (.bin (some .int) none o)
abbrev ix (n:Nat):K:=.p (.idxS n)
abbrev ld (n:Nat):K:=.r (.load n false)
abbrev lD (n:Nat):K:=.r (.load n true)
abbrev fa (n:Nat):K:=.p (.fieldAddr n)
abbrev ln:K:=.p .lenSl
abbrev su (n:Nat):K:=.l (.store n)
abbrev Iv (n:Nat) (x:Int):Nat×SV:=(n,iv x)
abbrev Bv (n:Nat) (x:Bool):Nat×SV:=(n,bv x)
abbrev Cv {α:Type} [bC α] (n:Nat) (x:α):Nat×SV:=(n,cv x)
abbrev Kv {α:Type} [bC α] (n:Nat) (x:α):Nat×SV:=(n,cp x)
abbrev Pv (n:Nat):Nat×SV:=(n,.ptr n 0)
abbrev Ov (n:Nat):Nat×SV:=(n,.own (2000+n))
abbrev Xb {α:Type} [bC α] (n:Nat) (x:α):Nat×bJ:=(n,bx x)
abbrev Lb {α:Type} [bC α] (n:Nat) (x:Sl α):Nat×bJ:=(n,c6 x)
abbrev on (d:Nat) (k:K) (az:List Arg) (dd:List Nat):RO:=⟨some d,none,true,k,az,dd,[]⟩
abbrev oz (k:K) (az:List Arg) (dd:List Nat):RO:=⟨none,none,false,k,az,dd,[]⟩
abbrev oy (k:K) (az:List Arg) (dd:List Nat):RO:=⟨none,none,true,k,az,dd,[]⟩
attribute [simp] Sh R4 SG
theorem eS.wX {S:Sys} {T:qb} {f:FuncId} {b:Bool} (B:T f=none) (hk:S.E.keep f=false) (D:S.wX f []=some (.bool b)) :
 eS S (dO S T) f (λ_:Unit=>[]) (λr:Bool=>[.bool r]) (λ_=>some b) true where
 k:=hk
 h _:=by
  have h:=EC (az:=[]) B hk D;intro r hr;cases hr;unfold fQ;rw[h];exact wJ 8 [.bool b]
 s _ _:=rfl
end Go.VE
namespace Go.VE
variable [bW]
def Wp {α:Type} (m:Option α) (P:α->Prop):Prop:=∃a,m=some a/\P a
section
variable {α β:Type} {P Q:α->Prop}
theorem bf (a:α):Wp (some a) P↔P a:=⟨λh=>by obtain⟨b,e,p⟩:=h;cases e;exact p,λp=>⟨a,rfl,p⟩⟩
theorem Tn:Wp (none:Option α) P↔False:=⟨λh=>(by obtain⟨b,e,p⟩:=h;cases e),λh=>False.elim h⟩
theorem iW {m:Option β} {k:β->Option α}:Wp (m.bind k) P↔Wp m λb=>Wp (k b) P:=by
 cases m with
 | none=>simp only[Option.bind_none,Tn]
 | some b=>simp only[ζb,bf]
theorem cw {t:Bool} {a b:Option α}:Wp (a_ t a b) P↔(t=true->Wp a P)/\(t=false->Wp b P):=by
 cases t <;> simp[a_]
theorem Wp.mono {m:Option α} (h:Wp m P) (B:∀a,P a->Q a):Wp m Q:=let ⟨a,e,p⟩:=h;⟨a,e,B a p⟩
theorem Wp.and {m:Option α} (h:Wp m P) (B:Wp m Q):Wp m λa=>P a/\Q a:=by
 obtain⟨a,e,p⟩:=h;obtain⟨b,e2,q⟩:=B;rw[e]at e2;cases e2;exact⟨a,e,p,q⟩
theorem Wp.eq {m:Option α} {a:α} (h:Wp m λx=>x=a):m=some a:=by obtain⟨b,e,rfl⟩:=h;exact e
end
section
variable {σ ε ρ:Type}
theorem eH (step:σ->Option (Fw σ ε ρ)) (s:σ):bV step s=(step s).bind λw=>match w with
 | .n B=>bV step B
 | .x e=>some (.x e)
 | .r b=>some (.r b):=by
 have h1:∀r,bV step s=some r->((step s).bind λw=>match w with
  | .n B=>bV step B
  | .x e=>some (.x e)
  | .r b=>some (.r b))=some r:=by
  intro r h;obtain⟨k,hk⟩:=oq.1 h
  cases k with
  | zero=>simp[jv]at hk
  | succ k=>
   simp only[jv]at hk
   cases u:step s with
   | none=>rw[u]at hk;cases hk
   | some w=>
    rw[u]at hk
    cases w with
    | n B=>exact oq.2 ⟨k,hk⟩
    | x e=>exact hk
    | r b=>exact hk
 cases z:bV step s with
 | some r=>exact(h1 r z).symm
 | none=>
  cases hr:((step s).bind λw=>match w with
  | .n B=>bV step B
  | .x e=>some (.x e)
  | .r b=>some (.r b))with
  | none=>rfl
  | some r=>
   exfalso
   cases u:step s with
   | none=>rw[u]at hr;cases hr
   | some w=>
    rw[u]at hr;simp only[ζb]at hr;have:bV step s=some r:=by
     cases w with
     | n B=>
      obtain⟨k,hk⟩:=oq.1 hr;exact oq.2 ⟨k+1,by simp only[jv,u];exact hk⟩
     | x e=>exact oq.2 ⟨1,by simp only[jv,u];exact hr⟩
     | r b=>exact oq.2 ⟨1,by simp only[jv,u];exact hr⟩
    rw[z]at this;cases this
def Rp (I:σ->Prop) (μ:σ->Nat) (D:ε->Prop) (G:ρ->Prop) (s:σ):Fw σ ε ρ->Prop
 | .n B=>I B/\μ B<μ s
 | .x e=>D e
 | .r b=>G b
def Wx (B:ε->Prop) (D:ρ->Prop):Fw Empty ε ρ->Prop
 | .x e=>B e
 | .r b=>D b
theorem OS {step:σ->Option (Fw σ ε ρ)} (I:σ->Prop) (μ:σ->Nat) (B:ε->Prop) (D:ρ->Prop) (h:∀s,I s->Wp (step s) (Rp I μ B D s)) {s:σ} (G:I s):Wp (bV step s) (Wx B D):=by
 have key:∀n s,μ s<=n->I s->Wp (bV step s) (Wx B D):=by
  intro n
  induction n with
  | zero=>
   intro s A hi;obtain⟨w,u,hr⟩:=h s hi;rw[eH,u]
   cases w with
   | n z=>exact absurd hr.2 (by omega)
   | x e=>exact⟨_,rfl,hr⟩
   | r b=>exact⟨_,rfl,hr⟩
  | succ n C=>
   intro s A hi;obtain⟨w,u,hr⟩:=h s hi;rw[eH,u]
   cases w with
   | n z=>exact C z (by have:=hr.2;omega) hr.1
   | x e=>exact⟨_,rfl,hr⟩
   | r b=>exact⟨_,rfl,hr⟩
 exact key (μ s) s (Nat.le_refl _) G
theorem eW {γ:Type} {step:σ->Option (Fw σ ε ρ)} {B:ε->Option γ} {fr:ρ->Option γ} {P:γ->Prop} (I:σ->Prop) (μ:σ->Nat) {s:σ} (D:I s)
 (h:∀s,I s->Wp (step s) (Rp I μ (λe=>Wp (B e) P) (λb=>Wp (fr b) P) s)):Wp ((bV step s).bind (Fw.elim B fr)) P:=by
 rw[iW];refine(OS I μ _ _ h D).mono ?_;intro w u
 cases w with
 | n a=>cases a
 | x e=>exact u
 | r b=>exact u
end
end Go.VE
namespace Go.VE
variable [bW]
theorem Em {β γ δ:Type} {e:γ->Option β} {m:Option δ} {f:δ->Option γ} {L:Option β} (h:∀x,m=some x->Le ((f x).bind e) L):Le ((m.bind f).bind e) L:=by
 cases m with
 | none=>exact Le.none _
 | some x=>exact h x rfl
section
variable {S:Sys} {c:bZ} {β:Type} {Q:Out×St->Option β} {fo:Fo} {fs:List Fm} {st0:St} {l:List RO} {d:Option Nat} {now:Bool} {az:List Arg} {dd:List Nat}
theorem Le.get {β:Type} {r:β} {L:Option β} (h:Le (some r) L):L=some r:=h r rfl
theorem Kt {n:Nat} {fo fo':Fo} {fs fs':List Fm} {st:St} (A:Bool->St) {t:Bool} {m:Option β} (B:t=true) (h:gT S c n fo fs st=some (fo',fs',A t)) (D:Le m (rn S c Q fo' fs' (A true))):Le m (rn S c Q fo fs st):=by
 rw[oS h,B];exact D
theorem Kf {n:Nat} {fo fo':Fo} {fs fs':List Fm} {st:St} (A:Bool->St) {t:Bool} {m:Option β} (B:t=false) (h:gT S c n fo fs st=some (fo',fs',A t)) (D:Le m (rn S c Q fo' fs' (A false))):Le m (rn S c Q fo fs st):=by
 rw[oS h,B];exact D
theorem OF {α:Type} [bC α] {s:Sl α} {i:Int} {x:α} {r:β} {L:Option β} (B:idx s i=some x) (h:Le (((idx s i).bind λ_=>some r).bind some) L):Le (some r) L:=by
 rw[B]at h;exact h
theorem Wl {n:Nat} {q:List RO} {fs':List Fm} {st:St} {id:Nat} {vs:List SV} {xs:List V} {B:List (List V)} {m:Option β}
 (D:gT S c n fo fs st0=some (.ops false [] q,fs',st)) (G:q=⟨d,none,now,.c,az,dd,[]⟩::l) (J:b_ S.N st.g az=some (.yl id::vs)) (U:dG vs=some xs) (W:st.want=xs::B) (hi:id=st.yid)
 (h:Le m (rn S c Q (.ops false [] l) fs' (pn dd (c_ { st with want:=B } d (.v (.bool (st.more || !B.isEmpty))))))):Le m (rn S c Q fo fs st0):=by
 refine Ro D G rfl ?_ h;unfold fK;simp only[wanted,fV,J,U,W,hi,if_true,and_self,Bool.false_eq_true,if_false]
theorem Bc (a:RC) (fs:List Fm) (st:St):rn S c Q (.rc (.loop a)) fs st=(oK (cH S c a) st).bind (Ek (mU S c Q fs) (mN S c Q fs) (λst=>Q (.ret,st))):=by
 show kr S c Q (.loop a) fs st=_;unfold kr;rw[DF];rfl
theorem SQ {f:St->Option (Out×St)} {st st':St} (h:f st=some (.norm,st')):oK f st=oK f st':=by
 have key:∀r,oK f st=some r↔oK f st'=some r:=λr=>by
  constructor
  .intro hr;obtain⟨k,hk⟩:=mQ.1 hr
   cases k with
   | zero=>simp[jk]at hk
   | succ k=>simp only[jk,h]at hk;exact mQ.2 ⟨k,hk⟩
  .intro hr;obtain⟨k,hk⟩:=mQ.1 hr;exact mQ.2 ⟨k+1,by simp only[jk,h];exact hk⟩
 cases u:oK f st with
 | none=>
  cases w:oK f st' with
  | none=>rfl
  | some r=>rw[(key r).2 w]at u;cases u
 | some r=>rw[(key r).1 u]
theorem J8 {f:St->Option (Out×St)} {st st':St} {o:Out} (h:f st=some (o,st')) (B:o≠.norm):oK f st=some (o,st'):=by
 refine mQ.2 ⟨1,?_⟩
 cases o with
 | norm=>exact absurd rfl B
 | exit k=>simp only[jk,h]
 | ret=>simp only[jk,h]
theorem FB {a:RC} {fs:List Fm} {st st':St} (h:rn S c some (.rc a) [] st=some (.norm,st')):rn S c Q (.rc (.loop a)) fs st=rn S c Q (.rc (.loop a)) fs st':=by
 rw[Bc,Bc,SQ (by rw[Bh];exact h)]
theorem FU {a:RC} {fs:List Fm} {st st':St} {k:Nat} (h:rn S c some (.rc a) [] st=some (.exit k,st')):rn S c Q (.rc (.loop a)) fs st=rn S c Q (.ex k) fs st':=by
 rw[Bc,J8 (by rw[Bh];exact h) (by simp)];rfl
theorem E8 {a:RC} {fs:List Fm} {st st':St} (h:rn S c some (.rc a) [] st=some (.ret,st')):rn S c Q (.rc (.loop a)) fs st=Q (.ret,st'):=by
 rw[Bc,J8 (by rw[Bh];exact h) (by simp)];rfl
end
def Qi:Out×St->Option Unit
 | (.exit _,_)=>none
 | (_,st)=>if st.want.isEmpty then some ()else none
def Sys.bare (S:Sys):Sys:=⟨S.E,S.N,λ_ _ _=>none,λ_ _=>none,λ_=>none⟩
def nO:bZ:=λ_ _ _=>none
def uj (B rest:List (List V)) (more:Bool):Prop:=more=true/\B=rest\/more=false/\B≠[]/\∃r,rest=B++r
theorem OQ (S:Sys) {f:FuncId} {fi:FI} {nm:FuncId->Option Nat} {rf:RF} (G:S.E.ft f=some fi) (W:∀g s,nm g=some s->S.N s=g) (hr:wH S.E nm fi rf) {a b:List V} {xs:List (List V)} (D:a.length+1+b.length<=rf.na) (U:rf.rs=[])
 (h:∀B more,uj B xs more->∀yid,rn S.bare nO Qi (.rc rf.body) [] ⟨uW 0 (a.map .v++.yl yid::b.map .v),[],[],B,more,yid⟩=some ()):e_ S f a b xs:=by
 have k:e_ S.bare f a b xs:=Ko (S:=S.bare) (c:=nO) (fi:=fi) (nm:=nm) (rf:=rf) (λ_ _ h=>by cases h) (λ_ _ _ _ _ h=>by simp[nO]at h) (λ_ _ _ _ h=>by simp[Sys.bare]at h) G W hr D U (λB more w yid=>by
  have h1:=h B more w yid;change kr S.bare nO Qi rf.body [] _=some ()at h1;rw[oZ]at h1;obtain⟨⟨o,st'⟩,z,u⟩:=ζg.1 h1;refine⟨o,st',z,?_,?_,rfl⟩
  .rintro id rfl;simp[Qi]at u
  .cases o <;> simp[Qi]at u <;> exact u)
 intro B more w yid J y Z A C H h1 z u I L;exact k B more w yid J ⟨y.vP,y.yield⟩ Z A C H h1 z u I L
open Classical in
noncomputable def xY (P:FuncId->List V->List V->List (List V)->Prop) (f:FuncId) (a b:List V):Option (List (List V)):=if h:∃u,P f a b u then some (Classical.choose h)else none
theorem Dn {P:FuncId->List V->List V->List (List V)->Prop} {f:FuncId} {a b:List V} {xs:List (List V)} (h:P f a b xs) (hu:∀ys,P f a b ys->ys=xs):xY P f a b=some xs:=by
 have h1:∃xs,P f a b xs:=⟨xs,h⟩;unfold xY;rw[dif_pos h1,hu _ (Classical.choose_spec h1)]
theorem LG {P:FuncId->List V->List V->List (List V)->Prop} {f:FuncId} {a b:List V} {xs:List (List V)} (h:xY P f a b=some xs):P f a b xs:=by
 unfold xY at h;split at h
 .rename_i h1;cases h;exact Classical.choose_spec h1
 .cases h
theorem Up {E:Env} {nm:FuncId->Option Nat} {f:FuncId} {rf:RF}
 (h:((E.ft f).bind λfi=>(bP ⟨E,nm,fi.ntmps⟩ false fi.body).bind λc=>(fi.results.mapM (Bg E)).bind λrs=>some (c,rs,fi.ntmps))=some (erase rf.body,rf.rs,rf.na)):∃fi,E.ft f=some fi/\wH E nm fi rf:=by
 obtain⟨fi,h1,w⟩:=ζg.1 h;obtain⟨c,z,A⟩:=ζg.1 w;obtain⟨rs,B,u⟩:=ζg.1 A;simp only[ζa,ζc]at u;obtain⟨rfl,rfl,C⟩:=u;exact⟨fi,h1,z,B,C.symm⟩
theorem FR.pF {H:bh} {Z Z':Nat->Prop} {x y z:V} (h:FR H Z x z) (k:FR H Z' y z):x=y:=by
 obtain⟨n,u⟩:=AR x;obtain⟨m,w⟩:=AR y;have e1:=h.borrow (max n m) (AP (Nat.le_max_left _ _) u);have e2:=k.borrow (max n m) (AP (Nat.le_max_right _ _) w);rw[e1]at e2;exact Option.some.inj e2
open Classical in
noncomputable def yb (E:Env) (f:FuncId) (az:List V):Option V:=if h:∃y,Ch E f az y then some (Classical.choose h)else none
theorem E9 {E:Env} {f:FuncId} {az:List V} {y:V} (h:yb E f az=some y):Ch E f az y:=by
 unfold yb at h;split at h
 .rename_i h1;cases h;exact Classical.choose_spec h1
 .cases h
theorem ET {E:Env} {f:FuncId} {az:List V} {y:V} (h:Ch E f az y):yb E f az=some y:=by
 have h1:∃y,Ch E f az y:=⟨y,h⟩;unfold yb;rw[dif_pos h1];obtain⟨n,z,H,Z,k1,w,_⟩:=h;obtain⟨u,C,H',Z',A,B,_⟩:=Classical.choose_spec h1;have e1:=(uK E (Nat.le_max_left n u)).go _ _ _ _ k1;have e2:=(uK E (Nat.le_max_right n u)).go _ _ _ _ A;rw[e1]at e2;cases e2;rw[FR.pF B w]
theorem Jk {E:Env} {f:FuncId} {az:List V} {y:V} (B:V.scalar y=true) (h:∃n H',run E n (.fn f) az []=some (y,H')):Ch E f az y:=by
 obtain⟨n,H',h⟩:=h;exact⟨n,y,H',λ_=>False,h,.same _ (kE B),λ_ h=>h.elim,⟨λ_ _ _ h=>h.elim⟩⟩
end Go.VE
