/-
 Plain values and the steps of a certificate.
-/
import Derived.KernelRfl
import Derived.Test.YtlmckmkfopljoaaGreatDoorN2
set_option linter.all false
namespace Go.VE
variable [bS]
inductive Sl (α:Type) where
 | nil
 | emp
 | row (l:List α)
 | part (l:List α)
 deriving Inhabited
def Sl.l {α:Type}:Sl α->List α
 | .nil|.emp=>[]
 | .row l|.part l=>l
def Sl.k {α:Type}:Sl α->Fl
 | .nil=>.nil
 | .emp=>.emp
 | .row _=>.row
 | .part _=>.part
class bA (α:Type) where
 cells:α->List V
 agg:Bool
 size:Nat
 len:∀a,(cells a).length=size
 good:∀a,V.cD (cells a)=true
 one:∀a,(cells a).all V.one=true
 plain:agg=false->size=1
def cells {α:Type} [bA α] (a:α):List V:=bA.cells a
def enc {α:Type} [bA α] (a:α):V:=if bA.agg α then .agg (cells a)else(cells a).headD .undef
def rows {α:Type} [bA α] (l:List α):List (List V):=l.map cells
def cn {α:Type} [bA α] (s:Sl α):V:=nX s.k (bA.size α) (rows s.l)
instance:bA Int where
 cells n:=[.int .i64 n]
 agg:=false
 size:=1
 len _:=rfl
 good _:=rfl
 one _:=rfl
 plain _:=rfl
instance:bA Bool where
 cells b:=[.bool b]
 agg:=false
 size:=1
 len _:=rfl
 good _:=rfl
 one _:=rfl
 plain _:=rfl
instance:bA ByteArray where
 cells s:=[.str s]
 agg:=false
 size:=1
 len _:=rfl
 good _:=rfl
 one _:=rfl
 plain _:=rfl
structure aY where
 proc:Int
 index:Int
 deriving DecidableEq,Inhabited
instance:bA aY where
 cells x:=[.int .i64 x.proc,.int .i64 x.index]
 agg:=true
 size:=2
 len _:=rfl
 good _:=rfl
 one _:=rfl
 plain h:=by cases h
@[simp] theorem WA (n:Int):enc n=.int .i64 n:=rfl
@[simp] theorem Wq (n:Bool):enc n=.bool n:=rfl
@[simp] theorem WB (n:ByteArray):enc n=.str n:=rfl
@[simp] theorem V2 (n:Int):cells n=[.int .i64 n]:=rfl
@[simp] theorem VD (n:Bool):cells n=[.bool n]:=rfl
@[simp] theorem V3 (n:ByteArray):cells n=[.str n]:=rfl
@[simp] theorem Wt (n:aY):cells n=[.int .i64 n.proc,.int .i64 n.index]:=rfl
@[simp] theorem Uh (n:aY):enc n=.agg [.int .i64 n.proc,.int .i64 n.index]:=rfl
section
variable {α:Type} [bA α]
theorem kB (l:List α):(rows l).length=l.length:=by simp[rows]
def idx (s:Sl α) (i:Int):Option α:=if 0<=i then s.l[i.toNat]? else none
theorem Pc {N:Nat->FuncId} (s:Sl α) (k:IntKind) (i:Int) {n:Nat} (B:n=bA.size α):bp N (.idxS n) [cn s,.int k i]=(idx s i).map λx=>.fptr (cells x):=by
 subst B;unfold idx cn;simp only[bp,lE]
 by_cases h:i<0
 .rw[if_pos h,if_neg (by omega)];rfl
 .rw[if_neg h,if_pos (by omega)]
  cases s <;> simp[Sl.k,Sl.l,nX,rows,Function.comp_def]
theorem Nx {N:Nat->FuncId} (s:Sl α):bp N .lenSl [cn s]=some (.int .i64 s.l.length):=by
 cases s <;> simp[bp,qN,cn,Sl.k,Sl.l,nX,kB]
end
section
variable {S:Sys} {c:bX}
end
end Go.VE
namespace Go.VE
variable [bS]
section
variable {S:Sys} {c:bX}
def isSlice:uQ->Bool
 | .slice ..=>true
 | _=>false
theorem Qr (dr:Bool) (fr:List Nat) (dst:Option Nat) (now:Bool) (p:uQ) (az:List Arg) (st:St) (h:isSlice p=false) :
 fL S c dr fr ⟨dst,none,now,.p p,az,[],[]⟩ st=(bZ S.N st.g az).bind λsvs=>(jP S.N st.m p svs).bind λx=>some (c7 st dst x):=by
 unfold fL mo;have u:fU S.N st.g ⟨dst,none,now,.p p,az,[],[]⟩=none:=by unfold fU;grind
 simp[wanted,u]
 cases z:bZ S.N st.g az with
 | none=>rfl
 | some svs=>
  simp;cases p <;> first|(simp[isSlice]at h;done)|(cases w:jP S.N st.m _ svs <;> simp[w])
theorem Jh (N:Nat->FuncId) (m:Tb bE) (p:uQ) (svs:List SV) (xs:List V) (h:dw svs=some xs):jP N m p svs=(bp N p xs).bind λx=>some (.v x):=by
 unfold jP;rw[h];dsimp only;cases bp N p xs <;> rfl
theorem FU (dr:Bool) (fr:List Nat) (dst:Option Nat) (now:Bool) (q:JO) (az:List Arg) (st:St) :
 fL S c dr fr ⟨dst,none,now,.r q,az,[],[]⟩ st=(bZ S.N st.g az).bind λsvs=>if !dr||now||fc fr svs then(pn st.m q svs).bind λx=>some (c7 st dst x)else none:=by
 unfold fL mo;have u:fU S.N st.g ⟨dst,none,now,.r q,az,[],[]⟩=none:=rfl;simp[wanted,u]
 cases w:bZ S.N st.g az with
 | none=>rfl
 | some svs=>
  simp;split
  .cases z:pn st.m q svs <;> simp
  .rfl
theorem CB (dr:Bool) (fr:List Nat) (d:Nat) (now:Bool) (q:MM) (az:List Arg) (st:St) :
 fL S c dr fr ⟨some d,none,now,.a q,az,[],[]⟩ st=(bZ S.N st.g az).bind λsvs=>if st.new d then(pM st.m q svs d).bind λr=>some { st with g:=bM st.g d r.2,m:=bM st.m d r.1 } else none:=by
 unfold fL mo;have u:fU S.N st.g ⟨some d,none,now,.a q,az,[],[]⟩=none:=rfl;simp[wanted,u]
 cases w:bZ S.N st.g az with
 | none=>rfl
 | some svs=>
  simp;split
  .cases z:pM st.m q svs d <;> simp[c7]
  .rfl
theorem uZ (dr:Bool) (fr:List Nat) (dst:Option Nat) (now:Bool) (q:Jk) (az:List Arg) (st:St) :
 fL S c dr fr ⟨dst,none,now,.l q,az,[],[]⟩ st=(bZ S.N st.g az).bind λsvs=>if !dr||now then(mj st dst q svs).bind λr=>some (c7 r.2 dst r.1)else none:=by
 unfold fL mo;have u:fU S.N st.g ⟨dst,none,now,.l q,az,[],[]⟩=none:=rfl;simp[wanted,u]
 cases w:bZ S.N st.g az with
 | none=>rfl
 | some svs=>
  simp;split
  .cases z:mj st dst q svs <;> simp
  .rfl
def lV:List SV->Option (FuncId×List SV)
 | .clo f a b::vs=>some (f,a++vs++b)
 | .v (.clo f a b)::vs=>some (f,a.map .v++vs++b.map .v)
 | _=>none
theorem AX (dr:Bool) (fr:List Nat) (dst:Option Nat) (now:Bool) (az:List Arg) (st:St) (svs:List SV) (f:FuncId) (args:List SV) (B:bZ S.N st.g az=some svs) (hc:lV svs=some (f,args)) :
 fL S c dr fr ⟨dst,none,now,.c,az,[],[]⟩ st=(fV S c dst dr (!dr||now) (gp st.m fr) f args st).bind λr=>some (c7 r.2 dst r.1):=by
 unfold fL mo;unfold lV at hc;split at hc
 .obtain⟨rfl,rfl⟩:=hc;simp[wanted,fU,B];cases fV S c dst dr _ _ _ _ st <;> simp
 .obtain⟨rfl,rfl⟩:=hc;simp[wanted,fU,B];cases fV S c dst dr _ _ _ _ st <;> simp
 grind
noncomputable def Ow {β:Type} (S:Sys) (c:bX) (fr:List Nat) (l:List RO) (k:St->Option β):St->Option β:=λst=>(mZ S c false fr l st).bind k
noncomputable def OQ {β:Type} (S:Sys) (c:bX) (fr:List Nat) (l:List RO) (k:St->Option β):St->Option β:=λst=>(mZ S c true fr l st).bind k
noncomputable def Ug {β:Type} (S:Sys) (c:bX) (fr dd:List Nat) (l:List RO) (k:St->Option β):St->Option β:=λst=>Ow S c fr l k (o8 dd st)
noncomputable def UA {β:Type} (S:Sys) (c:bX) (fr dd:List Nat) (l:List RO) (k:St->Option β):St->Option β:=λst=>OQ S c fr l k (o8 dd st)
@[congr] theorem Vm {β:Type} {fr:List Nat} {l:List RO} {k:St->Option β} {st st':St} (h:st=st'):Ow S c fr l k st=Ow S c fr l k st':=by rw[h]
@[congr] theorem Vn {β:Type} {fr B:List Nat} {l:List RO} {k:St->Option β} {st st':St} (D:fr=B) (h:st=st'):OQ S c fr l k st=OQ S c B l k st':=by simp_all
@[congr] theorem Vo {β:Type} {fr dd:List Nat} {l:List RO} {k:St->Option β} {st st':St} (h:st=st'):Ug S c fr dd l k st=Ug S c fr dd l k st':=by rw[h]
@[congr] theorem VJ {β:Type} {fr B dd:List Nat} {l:List RO} {k:St->Option β} {st st':St} (D:fr=B) (h:st=st'):UA S c fr dd l k st=UA S c B dd l k st':=by simp_all
@[congr] theorem V9 {dr:Bool} {fr:List Nat} {o:RO} {st st':St} (h:st=st'):fL S c dr fr o st=fL S c dr fr o st':=by rw[h]
end
section
variable {S:Sys} {c:bX} (dr:Bool) (fr:List Nat) (dst:Option Nat) (now:Bool) (az:List Arg) (st:St)
end
end Go.VE
namespace Go.VE
variable [bS]
inductive Fm where
 | seq (b:RC)
 | blk (id:Nat)
 | gst (x:Gh)
section
variable (S:Sys) (c:bX) {β:Type} (Q:Out×St->Option β)
noncomputable def runK:List Fm->Out×St->Option β
 | [],r=>Q r
 | .seq b::fs,(.norm,st)=>(cC S c b st).bind (runK fs)
 | .seq _::fs,r=>runK fs r
 | .blk id::fs,(.exit k,st)=>if k=id then runK fs (.norm,st)else runK fs (.exit k,st)
 | .blk _::fs,r=>runK fs r
 | .gst x::fs,(.norm,st)=>(ghost x st).bind λst=>runK fs (.norm,st)
 | .gst _::fs,r=>runK fs r
noncomputable def go (rc:RC) (fs:List Fm) (st:St):Option β:=(cC S c rc st).bind (runK S c Q fs)
noncomputable def Q2 (fs:List Fm):St->Option β:=λst=>runK S c Q fs (.norm,st)
def a_ {α:Type} (t:Bool) (a b:α):α:=if t then a else b
end
@[congr] theorem VX {α:Type} {t B:Bool} {a b a' D:α} (h:t=B) (G:B=true->a=a') (J:B=false->b=D):a_ t a b=a_ B a' D:=by
 subst h;cases t
 .exact J rfl
 .exact G rfl
section
variable {S:Sys} {c:bX} {β:Type} {Q:Out×St->Option β}
@[congr] theorem go_congr {a:RC} {fs:List Fm} {st st':St} (h:st=st'):go S c Q a fs st=go S c Q a fs st':=by rw[h]
@[congr] theorem UZ {fs:List Fm} {st st':St} (h:st=st'):Q2 S c Q fs st=Q2 S c Q fs st':=by rw[h]
@[congr] theorem VN {fs:List Fm} {r B:Out×St} (h:r=B):runK S c Q fs r=runK S c Q fs B:=by rw[h]
theorem HG (rc:RC) (st:St):(cC S c rc st).bind Q=go S c Q rc [] st:=by
 simp only[go];cases cC S c rc st <;> rfl
inductive Fw (ν ε ρ:Type) where
 | n (a:ν)
 | x (e:ε)
 | r (b:ρ)
def jw {σ ε ρ:Type} (step:σ->Option (Fw σ ε ρ)):Nat->σ->Option (Fw Empty ε ρ)
 | 0,_=>none
 | k+1,s=>match step s with
  | some (.n B)=>jw step k B
  | some (.x e)=>some (.x e)
  | some (.r b)=>some (.r b)
  | none=>none
theorem xy {σ ε ρ:Type} {step:σ->Option (Fw σ ε ρ)}:∀{k B:Nat} {s:σ} {r:Fw Empty ε ρ},k<=B->jw step k s=some r->jw step B s=some r
 | 0,_,_,_,_,h=>by simp[jw]at h
 | k+1,0,_,_,hk,_=>by omega
 | k+1,B+1,s,r,hk,h=>by
  simp only[jw]at h ⊢;split at h
  .exact xy (Nat.le_of_succ_le_succ hk) h
  .exact h
  .exact h
  .simp at h
open Classical in
noncomputable def bV {σ ε ρ:Type} (step:σ->Option (Fw σ ε ρ)) (s:σ):Option (Fw Empty ε ρ):=
 if h:∃k r,jw step k s=some r then some (Classical.choose (Classical.choose_spec h))else none
theorem nU {σ ε ρ:Type} {step:σ->Option (Fw σ ε ρ)} {s:σ} {r:Fw Empty ε ρ}:bV step s=some r↔∃k,jw step k s=some r:=by
 unfold bV;constructor
 .intro h;split at h
  .rename_i u;simp only[ζa]at h;exact⟨_,by rw[<-h];exact Classical.choose_spec (Classical.choose_spec u)⟩
  .simp at h
 .rintro⟨k,hk⟩;have u:∃k r,jw step k s=some r:=⟨k,r,hk⟩;rw[dif_pos u];have z:=Classical.choose_spec (Classical.choose_spec u);have A:=xy (Nat.le_max_left (Classical.choose u) k) z;have w:=xy (Nat.le_max_right (Classical.choose u) k) hk;rw[A]at w;exact w
def Fw.out {ν ε ρ:Type} (D:ν->St) (B:ε->Nat×St) (G:ρ->St):Fw ν ε ρ->Out×St
 | .n a=>(.norm,D a)
 | .x e=>(.exit (B e).1,(B e).2)
 | .r b=>(.ret,G b)
def Fw.elim {ε ρ γ:Type} (B:ε->γ) (fr:ρ->γ):Fw Empty ε ρ->γ
 | .x e=>B e
 | .r b=>fr b
end
end Go.VE
namespace Go.VE
variable [bS]
section
variable {α:Type} [bA α]
theorem Eu (s:Sl α):V.one (cn s)=true:=by cases s <;> rfl
theorem MR (l:List α):V.mC (rows l)=true:=by
 induction l with
 | nil=>rfl
 | cons a l u=>simp only[rows,List.map_cons,V.mC,ζh];exact⟨bA.good a,u⟩
theorem KC (s:Sl α):V.good (cn s)=true:=by
 cases s <;> simp only[cn,Sl.k,nX,V.good] <;> exact MR _
instance:bA (Sl α) where
 cells s:=[cn s]
 agg:=false
 size:=1
 len _:=rfl
 good s:=by simp only[V.cD,KC,Bool.and_self]
 one s:=by simp[Eu]
 plain _:=rfl
end
section
variable {S:Sys} {c:bX}
def Mm (x:Option SV) (b:Bool) (y z:Option St):Option St:=
 match x with
 | some (.v (.bool t))=>a_ (t==b) y z
 | some (.v _)=>z
 | _=>none
@[congr] theorem Uq {x B:Option SV} {b:Bool} {y z:Option St} (h:x=B):Mm x b y z=Mm B b y z:=by rw[h]
def QH {β:Type} (x:Option SV) (y z:Option β):Option β:=
 match x with
 | some (.v (.bool t))=>a_ t y z
 | _=>none
@[congr] theorem U4 {β:Type} {x B:Option SV} {y z:Option β} (h:x=B):QH x y z=QH B y z:=by rw[h]
def fE (c:bX) (f:FuncId) (az:List V):Option (List V):=(c f (az.map .v) []).bind λr=>cU r.2 8 r.1
def L7 (now:Bool) (args:List SV) (ok:Bool) (st:St) (ys:List V):Option (SV×St):=
 if(result ys).scalar||ok then some (.v (result ys),st)else if now then(rowsOf args).map λds=>(.v (result ys),{ st with m:=pe ds st.m })else none
theorem RK (dst:Option Nat) (dr now:Bool) (old:List SV->Bool) (f:FuncId) (args:List SV) (st:St) (hk:S.E.keep f=false) :
 fV S c dst dr now old f args st=(cU st.m 8 args).bind λaz=>if now||old args then(fE c f az).bind (L7 now args (dw args).isSome st)else none:=by
 unfold fV fE;simp only[hk,Bool.false_eq_true,if_false]
 cases cU st.m 8 args with
 | none=>rfl
 | some az=>
  simp only[ζb];split
  .cases c f (az.map .v) []with
   | none=>rfl
   | some r=>
    obtain⟨rs,m'⟩:=r;simp only[ζb];cases cU m' 8 rs <;> rfl
  .rfl
end
section
variable {S:Sys} {T:pK}
def Il (rs:List RV):Out×St->Option (List V)
 | (.exit _,_)=>none
 | (_,st)=>(j7 st rs).bind (cU st.m 8)
theorem OY {f:FuncId} {rf:RF} (B:T f=some rf) (az:List V) (D:az.length<=rf.na):fE (dI S T) f az=go S (dI S T) (Il rf.rs) rf.body [] (start (az.map .v) []):=by
 unfold fE;rw[rF B];unfold mE;rw[if_pos (by simpa using D),<-HG]
 cases h:cC S (dI S T) rf.body (start (az.map .v) [])with
 | none=>rfl
 | some r=>
  obtain⟨o,st⟩:=r;cases o <;> simp only[ζb,Il] <;> (try rfl) <;> (cases j7 st rf.rs <;> rfl)
end
end Go.VE
namespace Go.VE
variable [bS]
variable {N:Nat->FuncId}
def yS (k:IntKind) (a b:Int):Option Int:=if b=0 then none else some (k.wrap (a.tdiv b))
theorem UQ (e:Option KT) (q:Option Nat) (k:IntKind) (a b:Int):bp N (.bin e q .quo) [.int k a,.int k b]=(yS k a b).bind λx=>some (.int k x):=by
 simp only[bp,jD,yS,if_true];split <;> rfl
theorem F9 (o:Nat) (cs:List V):bp N (.fieldAddr o) [.fptr cs]=if o<=cs.length then some (.fptr (cs.drop o))else none:=rfl
def kE (s:ByteArray) (n:Int):Option Int:=if 0<=n then(s[n.toNat]?).map λb=>(b.toNat:Int)else none
theorem MX (s:ByteArray) (k:IntKind) (n:Int):bp N .idxStr [.str s,.int k n]=(kE s n).bind λx=>some (.int .u8 x):=by
 simp only[bp,kE];split
 .cases s[n.toNat]? <;> rfl
 .rfl
section
variable {α:Type} [bA α]
theorem D6 (s:Sl α) (k:IntKind) (i:Int) (n:Nat) (B:n=bA.size α):bp N (.idxS n) [cn s,.int k i]=(idx s i).bind λx=>some (.fptr (cells x)):=by
 rw[Pc s k i B];cases idx s i <;> rfl
theorem yd (s:Sl α):bp N .lenSl [cn s]=some (.int .i64 s.l.length):=Nx s
def Sl.isNil {α:Type} (s:Sl α):Option Bool:=
 match s with
 | .nil=>some true
 | .emp=>none
 | _=>some false
theorem OG (q:Option Nat) (s:Sl α):bp N (.bin (some .slice) q .eql) [cn s,.bW]=s.isNil.bind λt=>some (.bool t):=by
 cases s <;> rfl
def jQ (s:Sl α) (lo hi:Option Int):Option (Sl α):=
 (dQ s.l.length lo hi).map λ(l,h)=>match s with
  | .nil=>.nil
  | .emp=>.emp
  | .row x=>.part ((x.take h).drop l)
  | .part x=>.part ((x.take h).drop l)
theorem LN (s:Sl α) (lo hi:Option Int) (n:Nat) (B:n=bA.size α):iK n (cn s) lo hi=(jQ s lo hi).bind λx=>some (cn x):=by
 subst B
 cases s with
 | nil=>simp only[cn,Sl.k,nX,iK,jQ,Sl.l,List.length_nil];cases dQ 0 lo hi <;> rfl
 | emp=>simp only[cn,Sl.k,nX,iK,jQ,Sl.l,List.length_nil];cases dQ 0 lo hi <;> rfl
 | row l=>simp only[cn,Sl.k,nX,iK,jQ,Sl.l,if_true,kB];cases dQ l.length lo hi <;> simp[rows,List.map_take,List.map_drop]
 | part l=>simp only[cn,Sl.k,nX,iK,jQ,Sl.l,if_true,kB];cases dQ l.length lo hi <;> simp[rows,List.map_take,List.map_drop]
end
theorem Mq (m:Tb bE) (n:Nat) (a:Bool) (cs:List V):pn m (.load n a) [.v (.fptr cs)]=(cut cs 0 n).bind λr=>(mk a r).bind λx=>some (.v x):=by
 simp only[pn,dS]
 cases cut cs 0 n with
 | none=>rfl
 | some r=>simp only[ζb];cases mk a r <;> rfl
end Go.VE
namespace Go.VE
variable [bS]
section
variable {α:Type} [bA α]
def cS (s:Sl α):bE:=.sl s.k (bA.size α) (rows s.l)
def Sl.oC (s:Sl α) (i:Int):Option Nat:=if 0<=i/\i.toNat<s.l.length then some i.toNat else none
def Sl.get (s:Sl α) (i:Nat):Option α:=s.l[i]?
def Sl.put (s:Sl α) (i:Nat) (x:α):Option (Sl α):=
 if i<s.l.length then some (match s with|.row l=>.row (l.set i x)|.part l=>.part (l.set i x)|s=>s)else none
def jr (s:Sl α) (x:α):Option (Sl α):=if s.l.length+1<=2147483648 then some (.row (s.l++[x]))else none
def uJ (n:Int) (z:α):Option (Sl α):=if 0<=n/\n<=2147483648 then some (.row (List.replicate n.toNat z))else none
end
section
variable {α:Type} [bA α] {N:Nat->FuncId} {m:Tb bE}
def LB (n d:Nat) (o:Option bE) (i:Int):Option SV:=
 match o with
 | some (.sl k es u)=>if cN k/\es=n/\0<=i/\i.toNat<u.length then some (.el d i.toNat 0)else none
 | _=>none
theorem Ss (n d:Nat) (k:IntKind) (i:Int):jP N m (.idxS n) [.own d,.v (.int k i)]=LB n d (bf m d) i:=by
 simp[jP,dw,wR,LB]
 grind
theorem Rw (n d:Nat) (s:Sl α) (i:Int) (h:n=bA.size α):LB n d (some (cS s)) i=(s.oC i).bind λj=>some (.el d j 0):=by
 simp[LB,cS,kB,Sl.oC]
 cases s with
 | nil=>simp[Sl.l,cN]
 | emp=>simp[Sl.l,cN]
 | row l=>simp[Sl.k,Sl.l,cN];grind
 | part l=>simp[Sl.k,Sl.l,cN];grind
def Lu (o:Option bE):Option SV:=
 match o with
 | some (.sl _ _ u)=>some (.v (.int .i64 u.length))
 | _=>none
theorem OF (d:Nat):jP N m .lenSl [.own d]=Lu (bf m d):=by
 simp[jP,dw,wR,Lu]
 grind
theorem Sj (s:Sl α):Lu (some (cS s))=some (.v (.int .i64 s.l.length)):=by simp[Lu,cS,kB]
def QX (n:Nat) (a:Bool) (o:Nat) (ob:Option bE):Option SV:=
 match ob with
 | some (.box cs)=>vi n a ((cs.drop o).take n)
 | _=>none
theorem Wx (n:Nat) (a:Bool) (d o:Nat):pn m (.load n a) [.ptr d o]=QX n a o (bf m d):=by
 rfl
theorem NH (n:Nat) (a:Bool) (o:Nat) (cs:List SV):QX n a o (some (.box cs))=vi n a ((cs.drop o).take n):=rfl
def Hg (n:Nat) (a:Bool) (i o:Nat) (ob:Option bE):Option SV:=
 match ob with
 | some (.sl _ _ u)=>match u[i]? with
  | some cs=>((cut cs o n).bind (mk a)).map .v
  | none=>none
 | _=>none
theorem VO (n:Nat) (a:Bool) (d i o:Nat):pn m (.load n a) [.el d i o]=Hg n a i o (bf m d):=by
 rfl
theorem Na (n:Nat) (a:Bool) (i o:Nat) (s:Sl α):Hg n a i o (some (cS s))=(s.get i).bind λx=>(cut (cells x) o n).bind λr=>(mk a r).bind λy=>some (.v y):=by
 simp only[Hg,cS,Sl.get,rows,List.getElem?_map]
 cases s.l[i]? with
 | none=>rfl
 | some x=>
  simp only[Option.map_some,ζb]
  cases cut (cells x) o n with
  | none=>rfl
  | some r=>simp ;cases mk a r <;> rfl
theorem U6 (z:α) (n:Int) (d:Nat) (size:Nat) (zero:List V) (h:zero=cells z) (B:size=bA.size α) :
 pM m (.makeSl size zero) [.v (.int .i64 n),.v (.int .i64 n)] d=(uJ n z).bind λs=>some (cS s,.own d):=by
 subst h B;simp[pM,uJ];split
 .simp[cS,Sl.k,Sl.l,rows]
 .rfl
def D0 (st:St) (d i o size:Nat) (x:V) (ob:Option bE):Option (SV×St):=
 match ob with
 | some (.sl k es u)=>match u[i]? with
  | some cs=>if x.cells.length=size/\o+size<=cs.length/\x.cells.all V.one=true then
   some (.v .undef,{ st with m:=bM st.m d (.sl k es (u.set i (cs.take o++x.cells++cs.drop (o+x.cells.length)))) })else none
  | none=>none
 | _=>none
theorem J8 (st:St) (dst:Option Nat) (size d i o:Nat) (x:V):mj st dst (.store size) [.el d i o,.v x]=D0 st d i o size x (bf st.m d):=by
 rfl
theorem Ly (g:Tb SV) (p:List Nat) (w:List (List V)) (B:Bool) (y:Nat) (d i size:Nat) (x:V) (a:α) (D:x.cells=cells a) (G:size=bA.size α) (s:Sl α) :
 D0 ⟨g,m,p,w,B,y⟩ d i 0 size x (some (cS s))=(s.put i a).bind λJ=>some (.v .undef,⟨g,bM m d (cS J),p,w,B,y⟩):=by
 have h1:(cells a).all V.one=true:=bA.one a;have u:∀b:α,(cells b).length=bA.size α:=bA.len;subst G;simp only[D0,cS,rows,List.getElem?_map,D,Sl.put]
 by_cases hi:i<s.l.length
 .have hg  := ζd hi;rw[if_pos hi,hg];simp[u,h1]
  cases s with
  | nil=>simp[Sl.l]at hi
  | emp=>simp[Sl.l]at hi
  | row l=>simp[Sl.k,Sl.l,List.drop_of_length_le,u]
  | part l=>simp[Sl.k,Sl.l,List.drop_of_length_le,u]
 grind
def yW (st:St) (t n:Nat) (s:SV) (xs ys:Option (List (List V))):Option (SV×St):=
 match xs,ys with
 | some _,some []=>match s with
  | .own d=>match bf st.m d with
   | some ob=>if St.new { st with m:=d_ d st.m } t then some (.own t,{ st with m:=bM (d_ d st.m) t ob })else none
   | none=>none
  | .v .bW=>if st.new t then some (.own t,{ st with m:=bM st.m t (.sl .nil n []) })else none
  | .v .dA=>if st.new t then some (.own t,{ st with m:=bM st.m t (.sl .emp n []) })else none
  | _=>none
 | some xs,some ys=>
  if xs.length+ys.length<=2147483648/\Ik s=true then
   if St.new { st with m:=giveUp st.m s } t then some (.own t,{ st with m:=bM (giveUp st.m s) t (.sl .row n (xs++ys)) })else none
  else none
 | _,_=>none
theorem zy (st:St) (t n:Nat) (s x:SV):mj st (some t) (.append n) [s,x]=yW st t n s (kf st.m n s) (kf st.m n x):=by
 cases s <;> cases x <;> (rfl)
def Lv (n:Nat) (o:Option bE):Option (List (List V)):=
 match o with
 | some (.sl k es u)=>if cN k then(if es=n then some u else none)else some []
 | _=>none
theorem Dz (n d:Nat):kf m n (.own d)=Lv n (bf m d):=by
 simp[kf,Lv]
 grind
theorem AV (n:Nat) (s:Sl α) (h:n=bA.size α):Lv n (some (cS s))=some (rows s.l):=by
 subst h;cases s <;> simp[Lv,cS,Sl.k,Sl.l,cN,rows]
theorem RM (n:Nat):kf m n (.v .bW)=some []:=rfl
theorem SF (n:Nat):kf m n (.v .dA)=some []:=rfl
theorem MH (g:Tb SV) (p:List Nat) (w:List (List V)) (B:Bool) (y:Nat) (t n d:Nat) (l:List α) (x:α) (h:n=bA.size α):yW ⟨g,m,p,w,B,y⟩ t n (.own d) (some (rows l)) (some (rows [x])) =
 (jr (.row l) x).bind λs=>if St.new ⟨g,d_ d m,p,w,B,y⟩ t then some (.own t,⟨g,bM (d_ d m) t (cS s),p,w,B,y⟩)else none:=by
 subst h;have e:(rows l).length+(rows [x]).length=l.length+1:=by simp[kB]
 by_cases h:l.length+1<=2147483648
 .have h1:jr (.row l) x=some (.row (l++[x])):=if_pos h;have u:yW ⟨g,m,p,w,B,y⟩ t (bA.size α) (.own d) (some (rows l)) (some (rows [x]))=if St.new ⟨g,d_ d m,p,w,B,y⟩ t then some (.own t,⟨g,bM (d_ d m) t (.sl .row (bA.size α) (rows l++rows [x])),p,w,B,y⟩)else none:=if_pos ⟨by omega,rfl⟩
  rw[h1,u];simp[cS,Sl.k,Sl.l,rows]
 .have h1:jr (.row l) x=none:=if_neg h;have u:yW ⟨g,m,p,w,B,y⟩ t (bA.size α) (.own d) (some (rows l)) (some (rows [x]))=none:=if_neg (λq=>h (by omega))
  grind
theorem NF (g:Tb SV) (p:List Nat) (w:List (List V)) (B:Bool) (y:Nat) (t n:Nat) (x:α) (h:n=bA.size α):yW ⟨g,m,p,w,B,y⟩ t n (.v .bW) (some []) (some (rows [x])) =
 if St.new ⟨g,m,p,w,B,y⟩ t then some (.own t,⟨g,bM m t (cS (.row [x])),p,w,B,y⟩)else none:=by
 subst h;rfl
theorem Mn (g:Tb SV) (p:List Nat) (w:List (List V)) (B:Bool) (y:Nat) (t n:Nat) (x:α) (h:n=bA.size α):yW ⟨g,m,p,w,B,y⟩ t n (.v .dA) (some []) (some (rows [x])) =
 if St.new ⟨g,m,p,w,B,y⟩ t then some (.own t,⟨g,bM m t (cS (.row [x])),p,w,B,y⟩)else none:=by
 subst h;rfl
end
theorem xS (g:Tb SV) (m:Tb bE) (p:List Nat) (w:List (List V)) (B:Bool) (y d:Nat):St.new ⟨g,m,p,w,B,y⟩ d=(!(p.contains d)&&(bf m d).isNone && !(u7 d g) && !(sq d m)):=rfl
theorem rH (d:Nat):u7 d []=false:=rfl
theorem qv (d n:Nat) (x:SV) (r:Tb SV):u7 d ((n,x)::r)=(SV.cM d x||u7 d r):=rfl
theorem rY (d:Nat):sq d []=false:=rfl
theorem qt (d n:Nat) (x:bE) (r:Tb bE):sq d ((n,x)::r)=(bE.cM d x||sq d r):=rfl
theorem xF (d:Nat) (x:V):SV.cM d (.v x)=false:=rfl
theorem ta (d e:Nat):SV.cM d (.own e)=(e==d):=rfl
theorem tf (d e o:Nat):SV.cM d (.ptr e o)=(e==d):=rfl
theorem vt (d e i o:Nat):SV.cM d (.el e i o)=(e==d):=rfl
theorem vv (d e:Nat):SV.cM d (.mp e)=(e==d):=rfl
theorem tv (d:Nat) (f:FuncId) (a b:List SV):SV.cM d (.clo f a b)=(SV.dz d a||SV.dz d b):=rfl
theorem sX (d:Nat) (l:List SV):SV.cM d (.tup l)=SV.dz d l:=rfl
theorem rQ (d:Nat):SV.dz d []=false:=rfl
theorem qc (d:Nat) (x:SV) (r:List SV):SV.dz d (x::r)=(SV.cM d x||SV.dz d r):=rfl
theorem rK (d:Nat) (cs:List SV):bE.cM d (.box cs)=SV.dz d cs:=rfl
theorem Ed (m:Tb bE) (n:Nat):cU m n []=some []:=by cases n <;> simp[cU]
theorem C3 (m:Tb bE) (n:Nat) (x:SV) (r:List SV):cU m n (x::r)=(shut m n x).bind λy=>(cU m n r).bind λs=>some (y::s):=by
 cases n <;> (simp[cU];cases shut m _ x <;> (try rfl) <;> (cases cU m _ r <;> rfl))
theorem Ue (m:Tb bE) (n:Nat) (x:V):shut m n (.v x)=some x:=by cases n <;> simp[shut]
theorem Pk (m:Tb bE) (n:Nat) (f:FuncId) (a b:List SV):shut m (n+1) (.clo f a b)=(cU m n a).bind λx=>(cU m n b).bind λy=>some (.clo f x y):=by
 simp[shut];cases cU m n a <;> (try rfl) <;> (cases cU m n b <;> rfl)
theorem Pm (m:Tb bE) (n:Nat) (l:List SV):shut m (n+1) (.tup l)=(cU m n l).bind λx=>some (.tup x):=by
 simp[shut];cases cU m n l <;> rfl
theorem N1 (m:Tb bE) (n:Nat) (l:List SV):shut m (n+1) (.agg l)=(cU m n l).bind λx=>some (.agg x):=by
 simp[shut];cases cU m n l <;> rfl
theorem s_ {α:Type} (n:Nat):d_ n ([]:Tb α)=[]:=rfl
theorem rG {α:Type} (n k:Nat) (x:α) (r:Tb α):d_ n ((k,x)::r)=if k=n then d_ n r else(k,x)::d_ n r:=rfl
theorem mapM_nil (f:List SV->List SV):mapM f []=[]:=rfl
end Go.VE
namespace Go.VE
variable [bS]
section
variable {N:Nat->FuncId} {m:Tb bE}
theorem RD:result []=.tup []:=rfl
theorem SL (x:V):result [x]=x:=rfl
theorem Rp (x y:V) (l:List V):result (x::y::l)=.tup (x::y::l):=rfl
theorem Hy (p:uQ) (a:V):jP N m p [.v a]=(bp N p [a]).bind λx=>some (.v x):=Jh N m p _ [a] rfl
theorem vz (p:uQ) (a b:V):jP N m p [.v a,.v b]=(bp N p [a,b]).bind λx=>some (.v x):=Jh N m p _ [a,b] rfl
theorem mc (l:List V):dw (l.map .v)=some l:=by
 induction l with
 | nil=>rfl
 | cons a l u=>simp only[List.map_cons,dw,u];rfl
theorem wL (n:Nat) (l:List V):cU m n (l.map .v)=some l:=by
 induction l with
 | nil=>exact Ed m n
 | cons a l u=>rw[List.map_cons,C3,Ue,u];rfl
theorem Sl.Q0 {α:Type} (l:List α):(Sl.row l).l=l:=rfl
theorem Uk (k:IntKind) (n:Int):V.cells (.int k n)=[.int k n]:=rfl
theorem Rj (n:Bool):V.cells (.bool n)=[.bool n]:=rfl
theorem Ux (n:ByteArray):V.cells (.str n)=[.str n]:=rfl
theorem TE:V.cells .bW=[.bW]:=rfl
theorem oS (k:IntKind) (n:Int):V.one (.int k n)=true:=rfl
theorem mV (n:Bool):V.one (.bool n)=true:=rfl
theorem oM (n:ByteArray):V.one (.str n)=true:=rfl
end
end Go.VE
namespace Go.VE
variable [bS]
section
variable {S:Sys} {c:bX} {β γ δ:Type} {Q:Out×St->Option β} {L:Option β} {e:γ->Option β}
theorem Ma {dr:Bool} {fr:List Nat} {d:Option Nat} {gd:Option (Nat×Bool)} {now:Bool} {k:K} {az:List Arg} {st:St} (h:wanted st.g gd=some true) :
 fL S c dr fr ⟨d,gd,now,k,az,[],[]⟩ st=fL S c dr fr ⟨d,none,now,k,az,[],[]⟩ st:=by
 unfold fL;rw[h];rfl
theorem B4 (dr:Bool) (st:St):B9 dr [] st=some st:=by cases dr <;> rfl
def nK (f:SV->Option V):List SV->Option (List V)
 | []=>some []
 | x::r=>(f x).bind λy=>(nK f r).bind λs=>some (y::s)
def iX (m:Tb bE):Nat->SV->Option V
 | 0,x=>match x with
  | .v y=>some y
  | .own d=>match bf m d with
   | some (.sl k es xs)=>some (nX k es xs)
   | _=>none
  | .mp d=>match bf m d with
   | some (.mp B)=>some (.fmap B)
   | _=>none
  | _=>none
 | n+1,x=>match x with
  | .v y=>some y
  | .own d=>match bf m d with
   | some (.sl k es xs)=>some (nX k es xs)
   | _=>none
  | .ptr d o=>match bf m d with
   | some (.box cs)=>match nK (iX m n) cs with
    | some xs=>if o<=xs.length then some (.fptr (xs.drop o))else none
    | none=>none
   | _=>none
  | .mp d=>match bf m d with
   | some (.mp B)=>some (.fmap B)
   | _=>none
  | .clo f a b=>(nK (iX m n) a).bind λx=>(nK (iX m n) b).bind λy=>some (.clo f x y)
  | .tup l=>(nK (iX m n) l).bind λx=>some (.tup x)
  | .agg l=>(nK (iX m n) l).bind λx=>some (.agg x)
  | _=>none
theorem xM (m:Tb bE):∀(n:Nat),(∀x,shut m n x=iX m n x)/\∀l,cU m n l=nK (iX m n) l:=by
 have w:∀n,(∀x,shut m n x=iX m n x)->∀l,cU m n l=nK (iX m n) l:=by
  intro n h l
  induction l with
  | nil=>exact Ed m n
  | cons a l u=>rw[C3,h a,u];rfl
 intro n
 induction n with
 | zero=>
  have h0:∀x,shut m 0 x=iX m 0 x:=by
   intro x;cases x <;> simp[shut,iX] <;> rfl
  grind
 | succ n u=>
  have h1:∀x,shut m (n+1) x=iX m (n+1) x:=by
   intro x
   cases x with
   | ptr d o=>simp[shut,iX,u.2];rfl
   | clo f a b=>rw[Pk,u.2,u.2];rfl
   | tup l=>rw[Pm,u.2];rfl
   | agg l=>rw[N1,u.2];rfl
   | _=>simp[shut,iX] <;> rfl
  grind
noncomputable def uF (S:Sys) (c:bX) (dr:Bool):List Nat->List RO->(St->Option β)->St->Option β
 | _,[],k,st=>k st
 | fr,o::r,k,st=>((B9 dr o.pre st).bind (fL S c dr fr o.strip)).bind λst'=>uF S c dr (if dr then qH fr o.strip else fr) r k (o8 o.dead st')
theorem D5 (dr:Bool):∀(l:List RO) (fr:List Nat) (k:St->Option β) (st:St),uF S c dr fr l k st=(mZ S c dr fr l st).bind k
 | [],_,_,_=>rfl
 | o::r,fr,k,st=>by
  simp[uF,mZ]
  cases (B9 dr o.pre st).bind (fL S c dr fr o.strip)with
  | none=>rfl
  | some st'=>exact D5 dr r _ k _
noncomputable def pg (S:Sys) (c:bX):RC->(St->Option β)->(Nat->St->Option β)->(St->Option β)->St->Option β
 | .skip,n,_,_,st=>n st
 | .ops l,n,_,_,st=>uF S c false [] l n st
 | .pq l,n,_,_,st=>uF S c true [] l n st
 | .seq a b,n,x,r,st=>pg S c a (λst=>pg S c b n x r st) x r st
 | .cond y a b,n,x,r,st=>match qD S.N st.g y with
  | some (.v (.bool t))=>a_ t (pg S c a n x r st) (pg S c b n x r st)
  | _=>none
 | .block id a,n,x,r,st=>pg S c a n (λk st=>if k=id then n st else x k st) r st
 | .loop a,n,x,r,st=>(ou (cC S c a) st).bind λq=>match q with|(.norm,st)=>n st|(.exit k,st)=>x k st|(.ret,st)=>r st
 | .each g ps a b,n,x,r,st=>(cC S c (.each g ps a b) st).bind λq=>match q with|(.norm,st)=>n st|(.exit k,st)=>x k st|(.ret,st)=>r st
 | .exit k,_,x,_,st=>x k st
 | .ret,_,_,r,st=>r st
 | .gh g a,n,x,r,st=>(ghost g st).bind λst=>pg S c a n x r st
 | .hg a g,n,x,r,st=>pg S c a (λst=>(ghost g st).bind n) x r st
def D7 (n:St->Option β) (x:Nat->St->Option β) (r:St->Option β):Out×St->Option β
 | (.norm,st)=>n st
 | (.exit k,st)=>x k st
 | (.ret,st)=>r st
theorem Dv:∀(rc:RC) (n:St->Option β) (x:Nat->St->Option β) (r:St->Option β) (st:St),pg S c rc n x r st=(cC S c rc st).bind (D7 n x r):=by
 intro rc
 induction rc with
 | skip=>intros;rfl
 | ops l=>intro n x r st;simp[pg,cC,D5];cases mZ S c false [] l st <;> rfl
 | pq l=>intro n x r st;simp[pg,cC,D5];cases mZ S c true [] l st <;> rfl
 | seq a b u w=>
  intro n x r st;simp[pg,cC,u,w]
  cases h:cC S c a st with
  | none=>rfl
  | some q=>obtain⟨o,st'⟩:=q;cases o <;> rfl
 | cond y a b u w=>
  intro n x r st;simp[pg,cC,u,w]
  cases qD S.N st.g y with
  | none=>rfl
  | some v=>cases v with
   | v z=>cases z with
    | bool t=>cases t <;> rfl
    | _=>rfl
   | _=>rfl
 | block id a A=>
  intro n x r st;simp[pg,cC,A]
  cases h:cC S c a st with
  | none=>rfl
  | some q=>
   obtain⟨o,st'⟩:=q
   cases o with
   | exit k=>simp[D7];split <;> rfl
   | _=>rfl
 | loop a A=>
  intro n x r st;rfl
 | each g B a b u w=>
  intro n x r st;rfl
 | exit k=>intros;rfl
 | ret=>intros;rfl
 | gh g a A=>
  simp[pg,cC,A]
  grind
 | hg a g A=>
  intro n x r st;simp[pg,cC,A]
  cases h:cC S c a st with
  | none=>rfl
  | some q=>
   obtain⟨o,st'⟩:=q
   cases o with
   | norm=>simp[D7];cases ghost g st' <;> rfl
   | _=>rfl
section
variable (S c Q)
mutual
noncomputable def mH:List Fm->St->Option β
 | []=>λst=>Q (.norm,st)
 | .seq b::fs=>λst=>pg S c b (mH fs) (mP fs) (λst=>Q (.ret,st)) st
 | .blk _::fs=>mH fs
 | .gst g::fs=>λst=>(ghost g st).bind (mH fs)
noncomputable def mP:List Fm->Nat->St->Option β
 | []=>λk st=>Q (.exit k,st)
 | .seq _::fs=>mP fs
 | .blk id::fs=>λk st=>if k=id then mH fs st else mP fs k st
 | .gst _::fs=>mP fs
end
noncomputable def j9 (rc:RC) (fs:List Fm) (st:St):Option β:=pg S c rc (mH S c Q fs) (mP S c Q fs) (λst=>Q (.ret,st)) st
end
section
variable {dr:Bool} {fr:List Nat} {d:Nat} {dst:Option Nat} {now:Bool} {az:List Arg} {st:St} {α:Type} [bA α]
theorem Ml {p:uQ} {svs:List SV} {m:Option δ} {v:δ->SV} (B:bZ S.N st.g az=some svs) (hi:isSlice p=false) (h:jP S.N st.m p svs=m.bind λx=>some (v x)) :
 fL S c dr fr ⟨dst,none,now,.p p,az,[],[]⟩ st=m.bind λx=>some (c7 st dst (v x)):=by
 rw[Qr _ _ _ _ _ _ _ hi,B]
 grind
theorem D4 {p:uQ} {svs:List SV} {v:SV} (B:bZ S.N st.g az=some svs) (hi:isSlice p=false) (h:jP S.N st.m p svs=some v) :
 fL S c dr fr ⟨dst,none,now,.p p,az,[],[]⟩ st=some (c7 st dst v):=by
 rw[Qr _ _ _ _ _ _ _ hi,B]
 grind
theorem QE {n:Nat} {s:Sl α} {k:IntKind} {i:Int} (B:bZ S.N st.g az=some [.v (cn s),.v (.int k i)]) (D:n=bA.size α) :
 fL S c dr fr ⟨dst,none,now,.p (.idxS n),az,[],[]⟩ st=(idx s i).bind λx=>some (c7 st dst (.v (.fptr (cells x)))):=
 Ml B rfl (by rw[vz,D6 s k i n D];grind)
theorem VM {n e:Nat} {s:Sl α} {k:IntKind} {i:Int} (B:bZ S.N st.g az=some [.own e,.v (.int k i)]) (D:bf st.m e=some (cS s)) (G:n=bA.size α) :
 fL S c dr fr ⟨dst,none,now,.p (.idxS n),az,[],[]⟩ st=(s.oC i).bind λj=>some (c7 st dst (.el e j 0)):=
 Ml B rfl (by rw[Ss,D,Rw n e s i G])
theorem QS {s:Sl α} (B:bZ S.N st.g az=some [.v (cn s)]):fL S c dr fr ⟨dst,none,now,.p .lenSl,az,[],[]⟩ st=some (c7 st dst (.v (.int .i64 s.l.length))):=
 D4 B rfl (by rw[Hy,yd];rfl)
theorem UW {e:Nat} {s:Sl α} (B:bZ S.N st.g az=some [.own e]) (D:bf st.m e=some (cS s)):fL S c dr fr ⟨dst,none,now,.p .lenSl,az,[],[]⟩ st=some (c7 st dst (.v (.int .i64 s.l.length))):=
 D4 B rfl (by rw[OF,D,Sj])
theorem VC {q:Option KT} {u:Option Nat} {k:IntKind} {a b:Int} (B:bZ S.N st.g az=some [.v (.int k a),.v (.int k b)]):fL S c dr fr ⟨dst,none,now,.p (.bin q u .quo),az,[],[]⟩ st=(yS k a b).bind λx=>some (c7 st dst (.v (.int k x))):=
 Ml B rfl (by rw[vz,UQ];grind)
theorem R2 {u:Option Nat} {s:Sl α} (B:bZ S.N st.g az=some [.v (cn s),.v .bW]):fL S c dr fr ⟨dst,none,now,.p (.bin (some .slice) u .eql),az,[],[]⟩ st=s.isNil.bind λt=>some (c7 st dst (.v (.bool t))):=
 Ml B rfl (by rw[vz,OG];grind)
theorem PS {s:ByteArray} {k:IntKind} {n:Int} (B:bZ S.N st.g az=some [.v (.str s),.v (.int k n)]):fL S c dr fr ⟨dst,none,now,.p .idxStr,az,[],[]⟩ st=(kE s n).bind λx=>some (c7 st dst (.v (.int .u8 x))):=
 Ml B rfl (by rw[vz,MX];grind)
theorem UP {n e i o:Nat} {a:Bool} {s:Sl α} {v:α->V} (B:bZ S.N st.g az=some [.el e i o]) (hd:(!dr||now||fc fr [.el e i o])=true) (D:bf st.m e=some (cS s)) (hv:∀x:α,(cut (cells x) o n).bind (mk a)=some (v x)) :
 fL S c dr fr ⟨dst,none,now,.r (.load n a),az,[],[]⟩ st=(s.get i).bind λx=>some (c7 st dst (.v (v x))):=by
 rw[FU,B];simp only[ζb,hd,VO,D,Na]
 cases s.get i with
 | none=>rfl
 | some x=>
  cases hc:cut (cells x) o n with
  | none=>grind
  | some r=>grind
theorem Jw {n e i:Nat} {s:Sl α} {x:V} {a:α} (B:bZ S.N st.g az=some [.el e i 0,.v x]) (hd:(!dr||now)=true) (D:bf st.m e=some (cS s)) (G:x.cells=cells a) (J:n=bA.size α) :
 fL S c dr fr ⟨dst,none,now,.l (.store n),az,[],[]⟩ st=(s.put i a).bind λU=>some (c7 { st with m:=bM st.m e (cS U) } dst (.v .undef)):=by
 rw[uZ,B];simp[hd,J8,D];rw[Ly st.g st.pin st.want st.more st.yid e i n x a G J s]
 grind
theorem UM {n:Nat} {z:α} {zero:List V} {i:Int} (B:bZ S.N st.g az=some [.v (.int .i64 i),.v (.int .i64 i)]) (D:zero=cells z) (G:n=bA.size α) (J:st.new d=true) :
 fL S c dr fr ⟨some d,none,now,.a (.makeSl n zero),az,[],[]⟩ st=(uJ i z).bind λs=>some { st with g:=bM st.g d (.own d),m:=bM st.m d (cS s) }:=by
 rw[CB,B];simp[J];rw[U6 z i d n zero D G]
 grind
theorem U5 {n e u:Nat} {s:Sl α} {x:α} (G:bZ S.N st.g az=some [.own e,.own u]) (hd:(!dr||now)=true) (J:bf st.m e=some (cS s)) (hu:bf st.m u=some (cS (.row [x]))) (B:n=bA.size α) (U:St.new { st with m:=d_ e st.m } d=true) :
 fL S c dr fr ⟨some d,none,now,.l (.append n),az,[],[]⟩ st=(jr s x).bind λD=>some { st with g:=bM st.g d (.own d),m:=bM (d_ e st.m) d (cS D) }:=by
 rw[uZ,G];simp[hd,zy,Dz,J,hu];rw[AV n s B,AV n (.row [x]) B];have:=MH (m:=st.m) st.g st.pin st.want st.more st.yid d n e s.l x B;simp[Sl.Q0];rw[this];have w:jr (.row s.l) x=jr s x:=by cases s <;> rfl
 rw[w]
 cases jr s x with
 | none=>rfl
 | some D=>
  simp;rw[if_pos U];rfl
theorem UX {n u:Nat} {x:α} {v:V} (hv:v=.bW\/v=.dA) (G:bZ S.N st.g az=some [.v v,.own u]) (hd:(!dr||now)=true) (hu:bf st.m u=some (cS (.row [x]))) (B:n=bA.size α) (D:st.new d=true) :
 fL S c dr fr ⟨some d,none,now,.l (.append n),az,[],[]⟩ st=some { st with g:=bM st.g d (.own d),m:=bM st.m d (cS (.row [x])) }:=by
 rw[uZ,G];simp[hd,zy,Dz,hu];rw[AV n (.row [x]) B];simp[Sl.Q0];rcases hv with rfl|rfl
 .rw[RM,NF (m:=st.m) st.g st.pin st.want st.more st.yid d n x B];rw[if_pos D];rfl
 .rw[SF,Mn (m:=st.m) st.g st.pin st.want st.more st.yid d n x B];rw[if_pos D];rfl
theorem T9 {f:FuncId} {svs args:List SV} {cs:List V} {m:Option δ} {E:δ->List V} (hc:fE c f cs=m.bind λr=>some (E r)) (hk:S.E.keep f=false) (D:bZ S.N st.g az=some svs) (G:lV svs=some (f,args))
 (B:nK (iX st.m 8) args=some cs) (J:((!dr||now)||gp st.m fr args)=true) (hr:∀r,((result (E r)).scalar||(dw args).isSome)=true) :
 fL S c dr fr ⟨dst,none,now,.c,az,[],[]⟩ st=m.bind λr=>some (c7 st dst (.v (result (E r)))):=by
 rw[AX dr fr dst now az st svs f args D G,RK _ _ _ _ _ _ _ hk,(xM st.m 8).2,B];simp[J,hc]
 cases m with
 | none=>rfl
 | some r=>
  simp[L7]
  grind
end
end
end Go.VE
namespace Go.VE
variable [bS]
section
variable {S:Sys} {c:bX} {β γ:Type} {Q:Out×St->Option β} {L:Option β} {e:γ->Option β}
theorem oP (rc:RC) (st:St):j9 S c Q rc [] st=(cC S c rc st).bind Q:=by
 unfold j9;rw[Dv]
 congr 1
 funext q;obtain⟨o,st⟩:=q
 cases o <;> rfl
theorem AJ (rc:RC) (st:St):cC S c rc st=j9 S c some rc [] st:=by
 rw[oP];cases cC S c rc st <;> rfl
def k7 (rs:List RV):Out×St->Option (List V)
 | (.exit _,_)=>none
 | (_,st)=>(j7 st rs).bind (nK (iX st.m 8))
theorem RS (rs:List RV):Il rs=k7 rs:=by
 funext q;obtain⟨o,st⟩:=q
 cases o
 .simp only[Il,k7];congr 1;funext l;exact(xM st.m 8).2 l
 .rfl
 .simp only[Il,k7];congr 1;funext l;exact(xM st.m 8).2 l
theorem Rm {S:Sys} {T:pK} {f:FuncId} {rf:RF} (B:T f=some rf) (az:List V) (D:az.length<=rf.na):fE (dI S T) f az=j9 S (dI S T) (k7 rf.rs) rf.body [] (start (az.map .v) []):=by
 rw[OY B az D,<-HG,oP,RS]
end
end Go.VE
namespace Go.VE
variable [bS]
def j8 {α σ ε ρ:Type} (step:α->σ->Option (Fw σ ε ρ)):List α->σ->Option (Fw σ ε ρ)
 | [],s=>some (.n s)
 | x::xs,s=>(step x s).bind λw=>match w with
  | .n B=>j8 step xs B
  | .x e=>some (.x e)
  | .r b=>some (.r b)
def Fw.qg {ν ε ρ γ:Type} (fn:ν->γ) (B:ε->γ) (fr:ρ->γ):Fw ν ε ρ->γ
 | .n a=>fn a
 | .x e=>B e
 | .r b=>fr b
def Fw.vW {ν ε ρ:Type} (D:ν->Tb bE) (B:ε->Nat×Tb bE) (G:ρ->Tb bE):Fw ν ε ρ->Out×Tb bE
 | .n a=>(.norm,D a)
 | .x e=>(.exit (B e).1,(B e).2)
 | .r b=>(.ret,G b)
def vW (q:Out×St):Option (Out×Tb bE):=some (q.1,q.2.m)
section
variable {S:Sys} {c:bX} {β γ:Type} {Q:Out×St->Option β} {L:Option β} {e:γ->Option β}
noncomputable def yN (S:Sys) (c:bX) (b:RC):Out×St->Option (Out×Tb bE)
 | (.norm,st)=>j9 S c vW b [] st
 | _=>none
theorem K4 (ps:List Nat) (a b:RC) (st:St) (x:List V) (m:Tb bE) (B:x.length=ps.length) :
 iQ ps (cC S c a) (cC S c b) st x m=j9 S c (yN S c b) a [] ⟨wB st.g ps (x.map .v),m,st.pin++pN st.g,[],true,0⟩:=by
 unfold iQ;rw[if_pos B,oP]
 cases cC S c a ⟨wB st.g ps (x.map .v),m,st.pin++pN st.g,[],true,0⟩with
 | none=>rfl
 | some q=>
  obtain⟨o,u⟩:=q
  cases o with
  | norm=>
   simp only[ζb,yN];rw[oP];cases cC S c b u <;> rfl
  | _=>rfl
end
end Go.VE
namespace Go.VE
variable [bS]
def Le {α:Type} (a b:Option α):Prop:=∀r,a=some r->b=some r
section
variable {α:Type}
theorem Le.refl (a:Option α):Le a a:=λ_ h=>h
theorem Le.of_eq {a b:Option α} (h:b=a):Le a b:=λ_ u=>h.trans u
theorem Le.trans {a b d:Option α} (h1:Le a b) (B:Le b d):Le a d:=λr h=>B r (h1 r h)
theorem Le.none (b:Option α):Le (none:Option α) b:=λr h=>by cases h
theorem Le.bind {β:Type} {a b:Option α} {f g:α->Option β} (h:Le a b) (B:∀x,Le (f x) (g x)):Le (a.bind f) (b.bind g):=λr hr=>by
 obtain⟨x,h1,u⟩:=ζg.1 hr;rw[h x h1];exact B x r u
end
section
variable {S:Sys} {c:bX} {β γ δ:Type} {Q:Out×St->Option β} {L:Option β} {e:γ->Option β}
theorem GH {dr:Bool} {fr:List Nat} {dst:Option Nat} {now:Bool} {az:List Arg} {st:St} {f:FuncId} {svs args:List SV} {cs:List V} {m:Option δ} {E:δ->List V} (hc:Le (m.bind λr=>some (E r)) (fE c f cs)) (hk:S.E.keep f=false) (D:bZ S.N st.g az=some svs) (G:lV svs=some (f,args))
 (B:nK (iX st.m 8) args=some cs) (J:((!dr||now)||gp st.m fr args)=true) (hr:∀r,((result (E r)).scalar||(dw args).isSome)=true) :
 Le (m.bind λr=>some (c7 st dst (.v (result (E r))))) (fL S c dr fr ⟨dst,none,now,.c,az,[],[]⟩ st):=by
 intro q w;obtain⟨r,h1,z⟩:=ζg.1 w;have u:fE c f cs=(some r).bind λr=>some (E r):=hc _ (by rw[h1];rfl)
 rw[T9 (m:=some r) u hk D G B J hr];exact z
theorem Qb {σ ε ρ:Type} {f:St->Option (Out×St)} {step:σ->Option (Fw σ ε ρ)} {B:σ->St} {D:ε->Nat×St} {G:ρ->St} (h:∀s,Le ((step s).bind λw=>some (Fw.out B D G w)) (f (B s))) (s:σ) :
 Le ((bV step s).bind λw=>some (Fw.out (λe=>Empty.elim e) D G w)) (ou f (B s)):=by
 have key:∀k s r,jw step k s=some r->jh f k (B s)=some (Fw.out (λe=>Empty.elim e) D G r):=by
  intro k
  induction k with
  | zero=>intro s r h;simp[jw]at h
  | succ k C=>
   intro s r u;simp only[jw]at u
   cases z:step s with
   | none=>rw[z]at u;cases u
   | some w=>
    rw[z]at u;have A:=h s (Fw.out B D G w) (by rw[z];rfl)
    simp only[jh,A]
    cases w with
    | n a=>exact C a r u
    | x e=>cases u;rfl
    | r b=>cases u;rfl
 intro r hr;obtain⟨w,h1,A⟩:=ζg.1 hr;obtain⟨k,hk⟩:=nU.1 h1;cases A;exact mI.2 ⟨k,key k s w hk⟩
theorem U_ {σ ε ρ:Type} {a:RC} {fs:List Fm} {step:σ->Option (Fw σ ε ρ)} {B:σ->St} {D:ε->Nat×St} {G:ρ->St} {s:σ} {J:ε->Option γ} {fr:ρ->Option γ}
 (U:L=j9 S c Q (.loop a) fs (B s)) (h:∀s,Le ((step s).bind λw=>some (Fw.out B D G w)) (j9 S c some a [] (B s)))
 (W:∀x,Le ((J x).bind e) (mP S c Q fs (D x).1 (D x).2)) (hr:∀b,Le ((fr b).bind e) (Q (.ret,G b))):Le (((bV step s).bind (Fw.elim J fr)).bind e) L:=by
 subst U;have h1:j9 S c Q (.loop a) fs (B s)=(ou (cC S c a) (B s)).bind (D7 (mH S c Q fs) (mP S c Q fs) (λst=>Q (.ret,st))):=by
  unfold j9;rw[Dv];rfl
 rw[h1];have u:=Qb (step:=step) (f:=cC S c a) (B:=B) (D:=D) (G:=G) (λs=>by rw[AJ];exact h s) s
 cases z:bV step s with
 | none=>exact Le.none _
 | some w=>
  have A:=u _ (by rw[z];rfl)
  rw[A]
  cases w with
  | n a=>cases a
  | x a=>exact W a
  | r a=>exact hr a
theorem GG {α σ ε ρ:Type} {f:List V->Tb bE->Option (Out×Tb bE)} {step:α->σ->Option (Fw σ ε ρ)} {eI:α->List V} {B:σ->Tb bE} {D:ε->Nat×Tb bE} {G:ρ->Tb bE}
 (h:∀x s,Le ((step x s).bind λw=>some (Fw.vW B D G w)) (f (eI x) (B s))):∀(xs:List α) (s:σ),Le ((j8 step xs s).bind λw=>some (Fw.vW B D G w)) (qq f (xs.map eI) (B s))
 | [],s=>λr hr=>hr
 | x::xs,s=>by
  simp only[List.map_cons,qq,j8]
  cases J:step x s with
  | none=>exact Le.none _
  | some w=>
   have U:=h x s (Fw.vW B D G w) (by rw[J];rfl)
   rw[U]
   cases w with
   | n u=>simp only[ζb,Fw.vW];exact GG h xs u
   | x e=>exact Le.refl _
   | r b=>exact Le.refl _
theorem VH {α σ ε ρ:Type} {g:Arg} {ps:List Nat} {a b:RC} {fs:List Fm} {f:FuncId} {x y:List V} {items:List α} {eI:α->List V} {step:α->σ->Option (Fw σ ε ρ)} {B:σ->Tb bE} {D:ε->Nat×Tb bE} {G:ρ->Tb bE} {gt:Tb SV} {s:σ}
 {fn:σ->Option γ} {J:ε->Option γ} {fr:ρ->Option γ}
 (U:L=j9 S c Q (.each g ps a b) fs ⟨gt,B s,[],[],true,0⟩) (hg:qD S.N gt g=some (.v (.clo f x y))) (hi:S.items f x y=some (items.map eI)) (W:∀x,(eI x).length=ps.length)
 (h:∀x s,Le ((step x s).bind λw=>some (Fw.vW B D G w)) (j9 S c (yN S c b) a [] ⟨wB gt ps ((eI x).map .v),B s,pN gt,[],true,0⟩))
 (Y:∀s,Le ((fn s).bind e) (mH S c Q fs ⟨gt,B s,[],[],true,0⟩))
 (hx:∀x,Le ((J x).bind e) (mP S c Q fs (D x).1 ⟨gt,(D x).2,[],[],true,0⟩)) (hr:∀b,Le ((fr b).bind e) (Q (.ret,⟨gt,G b,[],[],true,0⟩))) :
 Le (((j8 step items s).bind (Fw.qg fn J fr)).bind e) L:=by
 subst U;have h1:j9 S c Q (.each g ps a b) fs ⟨gt,B s,[],[],true,0⟩=(cC S c (.each g ps a b) ⟨gt,B s,[],[],true,0⟩).bind (D7 (mH S c Q fs) (mP S c Q fs) (λst=>Q (.ret,st))):=by
  unfold j9;rw[Dv]
 rw[h1];simp only[cC,hg,hi];have u:=GG (step:=step) (f:=iQ ps (cC S c a) (cC S c b) ⟨gt,B s,[],[],true,0⟩) (eI:=eI) (B:=B) (D:=D) (G:=G) (λx s=>by rw[K4 _ _ _ _ _ _ (W x)];exact h x s) items s
 cases z:j8 step items s with
 | none=>exact Le.none _
 | some w=>
  have A:=u _ (by rw[z];rfl)
  rw[A]
  cases w with
  | n a=>exact Y a
  | x a=>exact hx a
  | r a=>exact hr a
end
end Go.VE
namespace Go.VE
variable [bS]
inductive Fo where
 | rc (c:RC)
 | ops (dr:Bool) (fr:List Nat) (l:List RO)
 | nx
 | ex (k:Nat)
 | rt
abbrev bN (g:Tb SV) (m:Tb bE):St:=⟨g,m,[],[],true,0⟩
section
variable (S:Sys) (c:bX) {β:Type} (Q:Out×St->Option β)
noncomputable def rn:Fo->List Fm->St->Option β
 | .rc a,fs,st=>j9 S c Q a fs st
 | .ops dr fr l,fs,st=>uF S c dr fr l (mH S c Q fs) st
 | .nx,fs,st=>mH S c Q fs st
 | .ex k,fs,st=>mP S c Q fs k st
 | .rt,_,st=>Q (.ret,st)
noncomputable def yY:Fo->List Fm->St->Option (Fo×List Fm×St)
 | .rc .skip,fs,st=>some (.nx,fs,st)
 | .rc (.ops l),fs,st=>some (.ops false [] l,fs,st)
 | .rc (.pq l),fs,st=>some (.ops true [] l,fs,st)
 | .rc (.seq a b),fs,st=>some (.rc a,.seq b::fs,st)
 | .rc (.cond y a b),fs,st=>match qD S.N st.g y with
  | some (.v (.bool true))=>some (.rc a,fs,st)
  | some (.v (.bool false))=>some (.rc b,fs,st)
  | _=>none
 | .rc (.block id a),fs,st=>some (.rc a,.blk id::fs,st)
 | .rc (.exit k),fs,st=>some (.ex k,fs,st)
 | .rc .ret,fs,st=>some (.rt,fs,st)
 | .rc (.gh g a),fs,st=>match ghost g st with
  | some st'=>some (.rc a,fs,st')
  | none=>none
 | .rc (.hg a g),fs,st=>some (.rc a,.gst g::fs,st)
 | .rc (.loop _),_,_=>none
 | .rc (.each ..),_,_=>none
 | .ops _ _ [],fs,st=>some (.nx,fs,st)
 | .ops dr fr (⟨d,gd,now,k,az,dd,[]⟩::r),fs,st=>match fL S c dr fr ⟨d,gd,now,k,az,[],[]⟩ st with
  | some st'=>some (.ops dr (if dr then qH fr ⟨d,gd,now,k,az,[],[]⟩else fr) r,fs,o8 dd st')
  | none=>none
 | .ops dr fr (⟨d,gd,now,k,az,dd,x::xs⟩::r),fs,st=>if dr && !(zU x&&xs.all zU)then none else match ghost x st with
  | some st'=>some (.ops dr fr (⟨d,gd,now,k,az,dd,xs⟩::r),fs,st')
  | none=>none
 | .nx,.seq b::fs,st=>some (.rc b,fs,st)
 | .nx,.blk _::fs,st=>some (.nx,fs,st)
 | .nx,.gst g::fs,st=>match ghost g st with
  | some st'=>some (.nx,fs,st')
  | none=>none
 | .nx,[],_=>none
 | .ex k,.seq _::fs,st=>some (.ex k,fs,st)
 | .ex k,.blk id::fs,st=>some (if k=id then .nx else .ex k,fs,st)
 | .ex k,.gst _::fs,st=>some (.ex k,fs,st)
 | .ex _,[],_=>none
 | .rt,_,_=>none
noncomputable def ig:Nat->Fo->List Fm->St->Option (Fo×List Fm×St)
 | 0,fo,fs,st=>some (fo,fs,st)
 | n+1,fo,fs,st=>match yY S c fo fs st with
  | some (fo',fs',st')=>ig n fo' fs' st'
  | none=>none
end
section
variable {S:Sys} {c:bX} {β γ δ:Type} {Q:Out×St->Option β} {e:γ->Option β}
theorem Pr {fo fo':Fo} {fs fs':List Fm} {st st':St} (h:yY S c fo fs st=some (fo',fs',st')):rn S c Q fo fs st=rn S c Q fo' fs' st':=by
 cases fo with
 | rc a=>
  cases a with
  | cond y a b=>
   simp only[yY]at h;split at h
   .rename_i u;cases h;simp only[rn,j9,pg,u,a_,if_true]
   .rename_i u;cases h;simp only[rn,j9,pg,u,a_];rfl
   .cases h
  | gh g a=>
   simp only[yY]at h;split at h
   .rename_i u;cases h;simp only[rn,j9,pg,u,ζb]
   .cases h
  | loop a=>cases h
  | each g w a b=>cases h
  | seq a b=>cases h;simp only[rn,j9,pg,mH,mP]
  | block id a=>cases h;simp only[rn,j9,pg,mH,mP]
  | hg a g=>cases h;simp only[rn,j9,pg,mH,mP]
  | _=>cases h;simp only[rn,j9,pg]
 | ops dr fr l=>
  cases l with
  | nil=>cases h;simp only[rn,uF]
  | cons o r=>
   obtain⟨d,gd,now,k,az,dd,pre⟩:=o
   cases pre with
   | nil=>
    simp only[yY]at h;split at h
    .rename_i u;cases h;simp only[rn,uF,B4,RO.strip,ζb,u]
    .cases h
   | cons x z=>
    simp only[yY]at h;split at h
    .cases h
    rename_i hd;split at h
    .rename_i u;cases h
     cases dr with
     | true=>
      simp only[Bool.true_and,Bool.not_eq_true',Bool.not_eq_false,ζh]at hd;simp only[rn,uF,RO.strip,B9,ox,if_true,List.all_cons,hd.1,hd.2,Bool.and_self,u,ζb]
     | false=>simp only[rn,uF,RO.strip,B9,ox,Bool.false_eq_true,if_false,u,ζb]
    .cases h
 | nx=>
  cases fs with
  | nil=>cases h
  | cons f fs=>
   cases f with
   | seq b=>cases h;simp only[rn,j9,mH]
   | blk id=>cases h;simp only[rn,mH]
   | gst g=>
    simp only[yY]at h;split at h
    .rename_i u;cases h;simp only[rn,mH,u,ζb]
    .cases h
 | ex k=>
  cases fs with
  | nil=>cases h
  | cons f fs=>
   cases f with
   | seq b=>cases h;simp only[rn,mP]
   | blk id=>
    cases h;simp only[rn,mP]
    by_cases hk:k=id
    .simp only[if_pos hk,rn]
    .simp only[if_neg hk,rn]
   | gst g=>cases h;simp only[rn,mP]
 | rt=>cases h
theorem oH:∀{n:Nat} {fo fo':Fo} {fs fs':List Fm} {st st':St},ig S c n fo fs st=some (fo',fs',st')->rn S c Q fo fs st=rn S c Q fo' fs' st'
 | 0,fo,fo',fs,fs',st,st',h=>by cases h;rfl
 | n+1,fo,fo',fs,fs',st,st',h=>by
  simp only[ig]at h;split at h
  .rename_i a b d B;rw[Pr B];exact oH h
  .cases h
theorem Ac {n:Nat} {fo fo':Fo} {fs fs':List Fm} {st st':St} {m:Option β} (h:ig S c n fo fs st=some (fo',fs',st')) (B:Le m (rn S c Q fo' fs' st')):Le m (rn S c Q fo fs st):=by
 rw[oH h];exact B
theorem Wk {n:Nat} {fo fo':Fo} {fs fs':List Fm} {st st':St} {r:γ} (h:ig S c n fo fs st=some (fo',fs',st')) (B:rn S c Q fo' fs' st'=e r):Le ((some r).bind e) (rn S c Q fo fs st):=by
 rw[oH h];exact Le.of_eq B
theorem Rf {m:Option δ} {f:δ->Option γ} {L:Option β} (k:δ->Option β) (B:Le (m.bind k) L) (h1:∀r,Le ((f r).bind e) (k r)):Le ((m.bind f).bind e) L:=by
 intro r hr
 cases m with
 | none=>cases hr
 | some x=>exact B r (h1 x r hr)
theorem Wn {n:Nat} {fo:Fo} {fs fs':List Fm} {st0:St} {dr:Bool} {q l:List RO} {fr:List Nat} {st:St} {d:Option Nat} {gd:Option (Nat×Bool)} {now:Bool} {k:K} {az:List Arg} {dd:List Nat} {m:Option δ} {g:δ->St} {f:δ->Option γ}
 (B:ig S c n fo fs st0=some (.ops dr fr q,fs',st)) (D:q=⟨d,gd,now,k,az,dd,[]⟩::l) (hg:wanted st.g gd=some true)
 (G:Le (m.bind λx=>some (g x)) (fL S c dr fr ⟨d,none,now,k,az,[],[]⟩ st))
 (h:∀x,m=some x->Le ((f x).bind e) (rn S c Q (.ops dr (if dr then qH fr ⟨d,gd,now,k,az,[],[]⟩else fr) l) fs' (o8 dd (g x)))):Le ((m.bind f).bind e) (rn S c Q fo fs st0):=by
 rw[oH B];subst D;simp only[rn,uF,RO.strip,B4,ζb];rw[Ma hg]
 cases m with
 | none=>exact Le.none _
 | some x=>rw[G (g x) rfl];exact h x rfl
theorem Qz {n:Nat} {fo:Fo} {fs fs':List Fm} {st0:St} {dr:Bool} {q l:List RO} {fr:List Nat} {st st':St} {d:Option Nat} {gd:Option (Nat×Bool)} {now:Bool} {k:K} {az:List Arg} {dd:List Nat} {m:Option β}
 (B:ig S c n fo fs st0=some (.ops dr fr q,fs',st)) (D:q=⟨d,gd,now,k,az,dd,[]⟩::l) (hg:wanted st.g gd=some true)
 (G:fL S c dr fr ⟨d,none,now,k,az,[],[]⟩ st=some st')
 (h:Le m (rn S c Q (.ops dr (if dr then qH fr ⟨d,gd,now,k,az,[],[]⟩else fr) l) fs' (o8 dd st'))):Le m (rn S c Q fo fs st0):=by
 rw[oH B];subst D;simp only[rn,uF,RO.strip,B4,ζb];rw[Ma hg,G];exact h
theorem Mg {n:Nat} {fo:Fo} {B:List Fm} {st:St} {σ ε ρ:Type} {a:RC} {fs:List Fm} {step:σ->Option (Fw σ ε ρ)} {D:σ->St} {G:ε->Nat×St} {J:ρ->St} {s:σ} {U:ε->Option γ} {fr:ρ->Option γ}
 (W:ig S c n fo B st=some (.rc (.loop a),fs,D s)) (h:∀s,Le ((step s).bind λw=>some (Fw.out D G J w)) (rn S c some (.rc a) [] (D s)))
 (Y:∀x,Le ((U x).bind e) (rn S c Q (.ex (G x).1) fs (G x).2)) (hr:∀b,Le ((fr b).bind e) (Q (.ret,J b))):Le (((bV step s).bind (Fw.elim U fr)).bind e) (rn S c Q fo B st):=by
 rw[oH W];exact U_ (L:=rn S c Q (.rc (.loop a)) fs (D s)) rfl h Y hr
theorem UF {n:Nat} {fo:Fo} {B:List Fm} {st:St} {α σ ε ρ:Type} {g:Arg} {ps:List Nat} {a b:RC} {fs:List Fm} {f:FuncId} {x y:List V} {items:List α} {eI:α->List V} {step:α->σ->Option (Fw σ ε ρ)} {D:σ->Tb bE} {G:ε->Nat×Tb bE} {J:ρ->Tb bE} {gt:Tb SV} {s:σ}
 {fn:σ->Option γ} {U:ε->Option γ} {fr:ρ->Option γ}
 (W:ig S c n fo B st=some (.rc (.each g ps a b),fs,bN gt (D s))) (hg:qD S.N gt g=some (.v (.clo f x y))) (hi:S.items f x y=some (items.map eI)) (Y:∀x,(eI x).length=ps.length)
 (h:∀x s,Le ((step x s).bind λw=>some (Fw.vW D G J w)) (rn S c (yN S c b) (.rc a) [] ⟨wB gt ps ((eI x).map .v),D s,pN gt,[],true,0⟩))
 (hn:∀s,Le ((fn s).bind e) (rn S c Q .nx fs (bN gt (D s))))
 (hx:∀x,Le ((U x).bind e) (rn S c Q (.ex (G x).1) fs (bN gt (G x).2))) (hr:∀b,Le ((fr b).bind e) (Q (.ret,bN gt (J b)))) :
 Le (((j8 step items s).bind (Fw.qg fn U fr)).bind e) (rn S c Q fo B st):=by
 rw[oH W];exact VH (L:=rn S c Q (.rc (.each g ps a b)) fs (bN gt (D s))) rfl hg hi Y h hn hx hr
theorem Un {b:RC} {st st':St} {m:Option (Out×Tb bE)} {fs:List Fm} {n:Nat} {fo:Fo} (h:ig S c n fo fs st=some (.nx,[],st')) (B:Le m (rn S c vW (.rc b) [] st')):Le m (rn S c (yN S c b) fo fs st):=by
 rw[oH h];exact B
theorem VS {α:Type} {n:Nat} {fo fo':Fo} {fs fs':List Fm} {st:St} {A:Option α->St} {o:Option α} {f:α->Option γ} (h:ig S c n fo fs st=some (fo',fs',A o))
 (B:∀x,o=some x->Le ((f x).bind e) (rn S c Q fo' fs' (A (some x)))):Le ((o.bind f).bind e) (rn S c Q fo fs st):=by
 rw[oH h]
 cases o with
 | none=>exact Le.none _
 | some x=>exact B x rfl
theorem Wy {T:pK} {f:FuncId} {rf:RF} {az:List V} {m:Option (List V)} (B:T f=some rf) (D:az.length<=rf.na) (h:Le m (rn S (dI S T) (k7 rf.rs) (.rc rf.body) [] (start (az.map .v) []))):Le m (fE (dI S T) f az):=by
 rw[Rm B az D];exact h
end
section
variable {α:Type} [bA α]
abbrev cv (x:α):SV:=.v (enc x)
abbrev cp (x:α):SV:=.v (.fptr (cells x))
abbrev bx (x:α):bE:=.box ((cells x).map .v)
end
end Go.VE
namespace Go.VE
variable [bS]
structure dW (S:Sys) (c:bX) {α δ:Type} (fn:FuncId) (A:α->List V) (E:δ->List V) (p:α->Option δ) (sc:Bool):Prop where
 k:S.E.keep fn=false
 h:∀z,Le ((p z).bind λr=>some (E r)) (fE c fn (A z))
 s:sc=true->∀r,(result (E r)).scalar=true
section
variable {S:Sys} {c:bX} {β γ δ α:Type} {Q:Out×St->Option β} {e:γ->Option β} {fo:Fo} {fs:List Fm} {st0:St} {l:List RO} {d:Option Nat} {gd:Option (Nat×Bool)} {now:Bool} {az:List Arg} {dd:List Nat}
noncomputable abbrev ud (S:Sys) (c:bX) (Q:Out×St->Option β) (dr:Bool) (fr:List Nat) (d:Option Nat) (k:K) (l:List RO) (fs:List Fm) (dd:List Nat) (st:St):Option β:=
 rn S c Q (.ops dr (if dr then(match k with|.p _|.r _=>fr|_=>match d with|some d=>d::fr|none=>fr)else fr) l) fs (o8 dd st)
theorem EK (fr:List Nat) (k:K):qH fr ⟨d,gd,now,k,az,[],[]⟩=(match k with|.p _|.r _=>fr|_=>match d with|some d=>d::fr|none=>fr):=by
 cases k <;> cases d <;> rfl
theorem DA {n:Nat} {dr:Bool} {fr:List Nat} {q:List RO} {fs':List Fm} {st:St} {k:K} {m:Option δ} {g:δ->St} {f:δ->Option γ}
 (B:ig S c n fo fs st0=some (.ops dr fr q,fs',st)) (D:q=⟨d,gd,now,k,az,dd,[]⟩::l) (hg:wanted st.g gd=some true)
 (G:Le (m.bind λx=>some (g x)) (fL S c dr fr ⟨d,none,now,k,az,[],[]⟩ st))
 (h:∀x,m=some x->Le ((f x).bind e) (ud S c Q dr fr d k l fs' dd (g x))):Le ((m.bind f).bind e) (rn S c Q fo fs st0):=
 Wn B D hg G (λx u=>by rw[EK];grind)
theorem sO {n:Nat} {dr:Bool} {fr:List Nat} {q:List RO} {fs':List Fm} {st st':St} {k:K} {m:Option β}
 (B:ig S c n fo fs st0=some (.ops dr fr q,fs',st)) (D:q=⟨d,gd,now,k,az,dd,[]⟩::l) (hg:wanted st.g gd=some true)
 (G:fL S c dr fr ⟨d,none,now,k,az,[],[]⟩ st=some st') (h:Le m (ud S c Q dr fr d k l fs' dd st')):Le m (rn S c Q fo fs st0):=
 Qz B D hg G (by rw[EK];omega)
section
variable [bA α]
theorem Qc (n:Nat) (dr:Bool) (fr:List Nat) (q:List RO) (fs':List Fm) (st:St) (k:IntKind) {sz:Nat} {s:Sl α} {i:Int} {f:α->Option γ} (D:q=⟨d,gd,now,.p (.idxS sz),az,dd,[]⟩::l)
 (B:(ig S c n fo fs st0,wanted st.g gd,bZ S.N st.g az,sz)=(some (.ops dr fr q,fs',st),some true,some [.v (cn s),.v (.int k i)],bA.size α))
 (h:∀x,idx s i=some x->Le ((f x).bind e) (ud S c Q dr fr d (.p (.idxS sz)) l fs' dd (c7 st d (cp x)))):Le (((idx s i).bind f).bind e) (rn S c Q fo fs st0):=by
 simp  at B;exact DA B.1 D B.2.1 (Le.of_eq (QE B.2.2.1 B.2.2.2)) h
theorem TI (n:Nat) (dr:Bool) (fr:List Nat) (q:List RO) (fs':List Fm) (st:St) (s:Sl α) {m:Option β} (D:q=⟨d,gd,now,.p .lenSl,az,dd,[]⟩::l)
 (B:(ig S c n fo fs st0,wanted st.g gd,bZ S.N st.g az)=(some (.ops dr fr q,fs',st),some true,some [.v (cn s)]))
 (h:Le m (ud S c Q dr fr d (.p .lenSl) l fs' dd (c7 st d (.v (.int .i64 s.l.length))))):Le m (rn S c Q fo fs st0):=by
 simp  at B;exact sO B.1 D B.2.1 (QS B.2.2) h
end
section
variable {q:List RO} {fs':List Fm}
end
theorem Gf (m:Tb bE) (n:Nat) (l:List V):nK (iX m n) (l.map .v)=some l:=by rw[<-(xM m n).2,wL]
variable {A:α->List V} {E:δ->List V} {p:α->Option δ} {fn:FuncId} {sc:Bool}
end
end Go.VE
namespace Go.VE
variable [bS]
abbrev iv (n:Int):SV:=.v (.int .i64 n)
abbrev bv (b:Bool):SV:=.v (.bool b)
abbrev len {α:Type} (s:Sl α):Int:=((List.length (Sl.l s):Nat):Int)
abbrev o1 (d:Nat) (a:Arg) (dd:List Nat):RO:=⟨some d,none,false,.p .id,[a],dd,[]⟩
abbrev o2 (d:Nat) (k:K) (az:List Arg) (dd:List Nat):RO:=⟨some d,none,false,k,az,dd,[]⟩
abbrev o3 (d s:Nat) (b:Bool) (k:K) (az:List Arg) (dd:List Nat):RO:=⟨some d,some (s,b),false,k,az,dd,[]⟩
def Jy (a b:aY):Bool:=[a.proc,a.index]==[b.proc,b.index]
section
variable {α:Type} [bA α]
theorem uo (h:bA.agg α=false) (a:α):cells a=[enc a]:=by
 have u:(cells a).length=1:=by rw[show (cells a).length=_ from bA.len a,bA.plain h]
 unfold enc;rw[if_neg (by simp[h])]
 match hc:cells a,u with
 | [x],_=>rfl
theorem DI (h:bA.agg α=true) (a:α):enc a=.agg (cells a):=by unfold enc;grind
theorem lX (a:α):V.good (enc a)=true:=by
 have h:V.cD (cells a)=true:=bA.good a
 cases u:bA.agg α with
 | true=>rw[DI u];exact h
 | false=>
  rw[uo u]at h;simp[V.cD]at h;omega
theorem oe (s:Sl α):V.one (enc s)=true:=Eu s
theorem OS (s:α) (h:bA.agg α=false):V.one (enc s)=true:=by
 have:=bA.one s;rw[show bA.cells s=cells s from rfl,uo h]at this
 grind
end
instance {α:Type} [bA α]:bA (Option α) where
 cells o:=[match o with|none=>.gZ|some x=>.fptr (cells x)]
 agg:=false
 size:=1
 len _:=rfl
 good o:=by
  cases o with
  | none=>rfl
  | some x=>simp only[V.cD,V.good,Bool.and_true];exact bA.good x
 one o:=by cases o <;> rfl
 plain _:=rfl
structure U8 where
 v:Int
 deriving Inhabited,DecidableEq
instance:bA U8 where
 cells n:=[.int .u8 n.v]
 agg:=false
 size:=1
 len _:=rfl
 good _:=rfl
 one _:=rfl
 plain _:=rfl
structure WQ where
 v:Int
 deriving Inhabited,DecidableEq
instance:bA WQ where
 cells n:=[.int .u64 n.v]
 agg:=false
 size:=1
 len _:=rfl
 good _:=rfl
 one _:=rfl
 plain _:=rfl
structure WM where
 v:Int
 deriving Inhabited,DecidableEq
instance:bA WM where
 cells n:=[.int .u32 n.v]
 agg:=false
 size:=1
 len _:=rfl
 good _:=rfl
 one _:=rfl
 plain _:=rfl
structure WX where
 v:Int
 deriving Inhabited,DecidableEq
instance:bA WX where
 cells n:=[.int .i32 n.v]
 agg:=false
 size:=1
 len _:=rfl
 good _:=rfl
 one _:=rfl
 plain _:=rfl
structure lJ (S:Sys) (c:bX) {α δ:Type} (g:FuncId) (w e:List V) (A:α->List V) (R:δ->List V) (p:α->Option δ) (b:Bool):Prop where
 f:dW S c g (λz=>w++A z++e) R p b
section
variable {S:Sys} {c:bX} {β γ δ α:Type} {Q:Out×St->Option β} {e:γ->Option β} {fo:Fo} {fs:List Fm} {st0:St} {l:List RO} {d:Option Nat} {gd:Option (Nat×Bool)} {now:Bool} {az:List Arg} {dd:List Nat}
theorem lH {α:Type} [bA α] (a:α):V.cells (enc a)=cells a:=by
 cases u:bA.agg α with
 | true=>rw[DI u];rfl
 | false=>
  have h1  := OS a u;rw[uo u];cases h:enc a <;> first|rfl|(rw[h]at h1;cases h1)
theorem qn {α:Type} [bA α] (a:α):(cells a).all V.one=true:=bA.one a
theorem gB {α:Type} [bA α] (a:α):(cells a).length=bA.size α:=bA.len a
theorem Ast [bA α] (n:Nat) (dr:Bool) (fr:List Nat) (q:List RO) (fs':List Fm) (st:St) (u o:Nat) (x:α) (cs B:List SV) {sz:Nat} {m:Option β} (G:q=⟨d,gd,now,.l (.store sz),az,dd,[]⟩::l)
 (D:(ig S c n fo fs st0,wanted st.g gd,bZ S.N st.g az,bf st.m u,(!dr||now),sz,Nat.ble (o+sz) cs.length,cs.take o++(cells x).map .v++cs.drop (o+sz))=(some (.ops dr fr q,fs',st),some true,some [.ptr u o,cv x],some (.box cs),true,bA.size α,true,B))
 (h:Le m (ud S c Q dr fr d (.l (.store sz)) l fs' dd (c7 { st with m:=bM st.m u (.box B) } d (.v .undef)))):Le m (rn S c Q fo fs st0):=by
 simp only[ζc]at D;obtain⟨h1,w,z,A,C,I,J,L⟩:=D;refine sO h1 G w ?_ h;rw[uZ,z];subst I;have O:=Nat.le_of_ble_eq_true J;simp only[ζb,C,if_true,mj,A,putCells,lH,gB,qn,O,and_self,L,Option.map_some]
theorem Ai {α:Type} [bA α]:∀(xs:List α) (pre:List (List V)) (B:List (List V)),B.length=xs.length->gJ (bA.size α) (pre++B) ((List.range' pre.length xs.length).zip (xs.map enc))=some (pre++rows xs)
 | [],pre,B,h=>by
  have  := List.eq_nil_of_length_eq_zero h;subst this;rfl
 | x::xs,pre,s::B,h=>by
  simp only[List.length_cons,List.range'_succ,List.map_cons,List.zip_cons_cons,gJ,lH,gB,qn];have:=Ai xs (pre++[cells x]) B (by grind)
  simp only[ζi,List.length_cons,List.length_nil]at this;have e:(pre++s::B).set pre.length (cells x)=pre++[cells x]++B:=by simp
  rw[e,this];simp[rows]
theorem WN [bA α] (n:Nat) (dr:Bool) (fr:List Nat) (q:List RO) (fs':List Fm) (st:St) (xs:List α) {u sz ln:Nat} {zero:List V} {ix:List Nat} {m:Option β} (D:q=⟨some u,gd,now,.a (.buildSl sz ln zero ix),az,dd,[]⟩::l)
 (G:st.new u=true) (B:(ig S c n fo fs st0,wanted st.g gd,bZ S.N st.g az,sz,ln,ix)=(some (.ops dr fr q,fs',st),some true,some ((xs.map enc).map .v),bA.size α,xs.length,List.range' 0 xs.length))
 (h:Le m (ud S c Q dr fr (some u) (.a (.buildSl sz ln zero ix)) l fs' dd { st with g:=bM st.g u (.own u),m:=bM st.m u (cS (.row xs)) })):Le m (rn S c Q fo fs st0):=by
 simp only[ζc]at B;obtain⟨h1,w,z,A,C,I⟩:=B;subst A C I;refine sO h1 D w ?_ h;rw[CB,z];simp only[ζb,G,pM,mc,List.length_range',List.length_map];have:=Ai xs [] (List.replicate xs.length zero) (by simp)
 simp  at this;rw[this];rfl
section
variable [bA α]
theorem Wv (n:Nat) (dr:Bool) (fr:List Nat) (q:List RO) (fs':List Fm) (st:St) (lo hi:Bool) (D:List V) {sz:Nat} {s:Sl α} {a b:Option Int} {f:Sl α->Option γ} (G:q=⟨d,gd,now,.p (.slice sz lo hi),az,dd,[]⟩::l)
 (B:(ig S c n fo fs st0,wanted st.g gd,bZ S.N st.g az,mq lo hi D,sz)=(some (.ops dr fr q,fs',st),some true,some (.v (cn s)::D.map .v),some (a,b),bA.size α))
 (h:∀x,jQ s a b=some x->Le ((f x).bind e) (ud S c Q dr fr d (.p (.slice sz lo hi)) l fs' dd (c7 st d (.v (cn x))))):Le (((jQ s a b).bind f).bind e) (rn S c Q fo fs st0):=by
 simp  at B;refine DA B.1 G B.2.1 (Le.of_eq ?_) h;have w  := B.2.2.1;unfold fL mo;simp[wanted,fU,w];have u:jP S.N st.m (.slice sz lo hi) ((cn s::D).map .v)=(jQ s a b).bind λx=>some (.v (cn x)):=by
  unfold jP;rw[mc];simp[bp,B.2.2.2.1,LN s a b sz B.2.2.2.2];cases jQ s a b <;> rfl
 simp  at u ⊢;rw[u];cases jQ s a b <;> rfl
def oE (s:Sl α) (lo hi:Option Int):Option (Sl α):=
 match s with
 | .nil|.emp=>none
 | .row x|.part x=>(dQ x.length lo hi).map λ(l,h)=>.part ((x.take h).drop l)
theorem Vf (n:Nat) (fr:List Nat) (q:List RO) (fs':List Fm) (st:St) (lo hi:Bool) (u:Nat) (D:List V) {t sz:Nat} {s:Sl α} {a b:Option Int} {f:Sl α->Option γ} (J:q=⟨some t,gd,now,.p (.slice sz lo hi),az,dd,[]⟩::l)
 (G:St.new { st with m:=d_ u st.m } t=true) (B:(ig S c n fo fs st0,wanted st.g gd,bZ S.N st.g az,mq lo hi D,bf st.m u,sz)=(some (.ops false fr q,fs',st),some true,some (.own u::D.map .v),some (a,b),some (cS s),bA.size α))
 (h:∀x,oE s a b=some x->Le ((f x).bind e) (ud S c Q false fr (some t) (.p (.slice sz lo hi)) l fs' dd { st with g:=bM st.g t (.own t),m:=bM (d_ u st.m) t (cS x) })):Le (((oE s a b).bind f).bind e) (rn S c Q fo fs st0):=by
 simp  at B;refine DA B.1 J B.2.1 (Le.of_eq ?_) h;obtain⟨_,_,z,w,A,C⟩:=B;subst C;unfold fL mo;simp[wanted,fU,z,Af,mc,A,w]
 cases s with
 | nil=>simp[oE,cS,Sl.k,cN]
 | emp=>simp[oE,cS,Sl.k,cN]
 | row x=>
  simp[cS,Sl.k,Sl.l,cN,oE,kB,w]
  cases dQ x.length a b with
  | none=>rfl
  | some r=>simp[G,c7,rows,List.map_drop]
 | part x=>
  simp[cS,Sl.k,Sl.l,cN,oE,kB,w]
  cases dQ x.length a b with
  | none=>rfl
  | some r=>simp[G,c7,rows,List.map_drop]
end
end
end Go.VE
namespace Go.VE
variable [bS]
structure cI (n:Nat) (α:Type) where
 l:List α
 len:l.length=n
theorem Of {α:Type} [bA α] (l:List α):(l.map (cells (α:=α))).flatten.length=l.length*bA.size α:=by
 induction l with
 | nil=>simp
 | cons a l u=>simp[u,gB,Nat.add_mul,Nat.add_comm]
theorem MU {α:Type} [bA α] (l:List α):V.cD (l.map (cells (α:=α))).flatten=true:=by
 induction l with
 | nil=>rfl
 | cons a l u=>
  have h:∀(x y:List V),V.cD x=true->V.cD y=true->V.cD (x++y)=true:=by
   intro x
   induction x with
   | nil=>grind
   | cons b x w=>intro y h1 z;simp[V.cD]at h1 ⊢;grind
  exact h _ _ (bA.good a) u
instance {n:Nat} {α:Type} [bA α]:bA (cI n α) where
 cells a:=(a.l.map cells).flatten
 agg:=true
 size:=n*bA.size α
 len a:=by rw[Of,a.len]
 good a:=MU a.l
 one a:=by
  have:∀l:List α,(l.map (cells (α:=α))).flatten.all V.one=true:=by
   intro l
   induction l with
   | nil=>rfl
   | cons a l u=>simp only[List.map_cons,List.flatten_cons,List.all_append,u,qn,Bool.and_self]
  exact this a.l
 plain h:=by cases h
def cI.Nc (n:Nat) {α:Type} (z:α):cI n α:=⟨List.replicate n z,by simp⟩
def cI.at {n:Nat} {α:Type} (a:cI n α) (i:Int):Option α:=if 0<=i then a.l[i.toNat]? else none
def cI.set {n:Nat} {α:Type} (a:cI n α) (i:Int) (x:α):cI n α:=⟨a.l.set i.toNat x,by simp[a.len]⟩
def pa {n:Nat} {α:Type} [bA α] (a:cI n α) (i:Int):List V:=(cells a).drop (i.toNat*bA.size α)
theorem cI.t_ {n:Nat} {α:Type} {a:cI n α} {i:Int} {x:α} (h:a.at i=some x):0<=i/\i.toNat<n/\a.l[i.toNat]? = some x:=by
 unfold cI.at at h;split at h
 .rename_i hi;refine⟨hi,?_,h⟩;have:=(ζe.1 h).1;rw[<-a.len];simp_all
 simp_all
theorem Fg {α:Type} [bA α]:∀(l:List α) (k:Nat),((l.map (cells (α:=α))).flatten).drop (k*bA.size α)=((l.drop k).map (cells (α:=α))).flatten
 | [],k=>by simp
 | a::l,0=>by simp
 | a::l,k+1=>by
  have h  := gB a;rw[List.map_cons,List.flatten_cons,List.drop_succ_cons,<-Fg l k,Nat.add_mul,Nat.one_mul,Nat.add_comm,<-h,List.drop_length_add_append]
theorem AU {n:Nat} {α:Type} [bA α] {a:cI n α} {i:Int} {x:α} (h:a.at i=some x):∃r,pa a i=cells x++r:=by
 obtain⟨h1,A,w⟩:=cI.t_ h;obtain⟨u,z⟩:=ζe.1 w;refine⟨((a.l.drop (i.toNat+1)).map cells).flatten,?_⟩;show ((a.l.map (cells )).flatten).drop (i.toNat*bA.size α)=_;rw[Fg,List.drop_eq_getElem_cons u,List.map_cons,List.flatten_cons,z]
section
variable {S:Sys} {c:bX} {β γ δ α:Type} {Q:Out×St->Option β} {e:γ->Option β} {fo:Fo} {fs:List Fm} {st0:St} {l:List RO} {d:Option Nat} {gd:Option (Nat×Bool)} {now:Bool} {az:List Arg} {dd:List Nat}
section
variable {N:Nat} [bA α]
theorem VU (n:Nat) (dr:Bool) (fr:List Nat) (q:List RO) (fs':List Fm) (st:St) (k:IntKind) {ln sz:Nat} {a:cI N α} {i:Int} {f:α->Option γ} (D:q=⟨d,gd,now,.p (.idxA ln sz),az,dd,[]⟩::l)
 (B:(ig S c n fo fs st0,wanted st.g gd,bZ S.N st.g az,sz,ln)=(some (.ops dr fr q,fs',st),some true,some [cp a,.v (.int k i)],bA.size α,N))
 (h:∀x,a.at i=some x->Le ((f x).bind e) (ud S c Q dr fr d (.p (.idxA ln sz)) l fs' dd (c7 st d (.v (.fptr (pa a i)))))):Le (((a.at i).bind f).bind e) (rn S c Q fo fs st0):=by
 simp  at B;obtain⟨h1,w,z,A,C⟩:=B;subst A C;refine DA h1 D w ?_ h;intro r hr;obtain⟨x,G,hr⟩:=ζg.1 hr;obtain⟨g1,g2,_⟩:=cI.t_ G;rw[D4  z rfl ?_]
 .omega
 rw[vz];simp[bp,wm];have u:i.toNat*bA.size α<=(cells a).length:=by
  rw[gB];exact Nat.mul_le_mul_right _ (Nat.le_of_lt g2)
 rw[if_pos ⟨g1,by omega⟩,if_pos u]
 rfl
theorem Wz (n:Nat) (dr:Bool) (fr:List Nat) (q:List RO) (fs':List Fm) (st:St) (a:cI N α) (i:Int) (o:Nat) (x:α) (D:a.at i=some x) {k:Nat} {m:Option β} (G:q=⟨d,gd,now,.p (.fieldAddr k),az,dd,[]⟩::l)
 (B:(ig S c n fo fs st0,wanted st.g gd,bZ S.N st.g az,Nat.ble (o+k) (bA.size α))=(some (.ops dr fr q,fs',st),some true,some [.v (.fptr ((pa a i).drop o))],true))
 (h:Le m (ud S c Q dr fr d (.p (.fieldAddr k)) l fs' dd (c7 st d (.v (.fptr ((pa a i).drop (o+k))))))):Le m (rn S c Q fo fs st0):=by
 simp only[ζc]at B;obtain⟨h1,u,w,z⟩:=B;refine sO h1 G u (D4 w rfl ?_) h;have A:=Nat.le_of_ble_eq_true z;obtain⟨r,hr⟩:=AU D;have C:(pa a i).length>=bA.size α:=by rw[hr,ζi,gB];omega
 rw[Hy,F9,if_pos (by grind),List.drop_drop]
 rfl
theorem VW (n:Nat) (dr:Bool) (fr:List Nat) (q:List RO) (fs':List Fm) (st:St) (a:cI N α) (i:Int) (o:Nat) (x:α) (G:a.at i=some x) {sz:Nat} {ag:Bool} {v:V} (hv:(cut (cells x) o sz).bind (mk ag)=some v) (B:V) {m:Option β} (J:q=⟨d,gd,now,.r (.load sz ag),az,dd,[]⟩::l)
 (D:(ig S c n fo fs st0,wanted st.g gd,bZ S.N st.g az,v)=(some (.ops dr fr q,fs',st),some true,some [.v (.fptr ((pa a i).drop o))],B))
 (h:Le m (ud S c Q dr fr d (.r (.load sz ag)) l fs' dd (c7 st d (.v B)))):Le m (rn S c Q fo fs st0):=by
 simp  at D;obtain⟨h1,z,A,rfl⟩:=D;refine sO h1 J z ?_ h;rw[FU,A];have hold:fc fr [SV.v (.fptr ((pa a i).drop o))]=true:=rfl;simp[hold,Mq];obtain⟨r,hr⟩:=AU G;rw[hr];have hc:cut ((cells x++r).drop o) 0 sz=cut (cells x) o sz:=by
  cases u:cut (cells x) o sz with
  | none=>grind
  | some w=>
   unfold cut at u ⊢;dsimp only at u ⊢;split at u
   .have e1:(List.drop 0 (List.drop o (cells x++r))).take sz=((cells x).drop o).take sz:=by
     have C:sz=0\/o<=(cells x).length:=by
      grind
     grind
    grind
   grind
 cases u:cut (cells x) o sz with
 | none=>grind
 | some w=>grind
theorem Ud (n:Nat) (dr:Bool) (fr:List Nat) (q:List RO) (fs':List Fm) (st:St) (cs:List SV) {u sz:Nat} {zero:List V} {m:Option β} (D:q=⟨some u,gd,now,.a (.alloc sz zero),az,dd,[]⟩::l)
 (G:st.new u=true) (B:(ig S c n fo fs st0,wanted st.g gd,bZ S.N st.g az,zero.map SV.v)=(some (.ops dr fr q,fs',st),some true,some [],cs))
 (h:Le m (ud S c Q dr fr (some u) (.a (.alloc sz zero)) l fs' dd { st with g:=bM st.g u (.ptr u 0),m:=bM st.m u (.box cs) })):Le m (rn S c Q fo fs st0):=by
 simp  at B;obtain⟨h1,w,z,A⟩:=B;subst A;refine sO h1 D w ?_ h;rw[CB,z];simp[G,pM]
theorem tg (d:Nat) (l:List V):SV.dz d (l.map .v)=false:=by
 induction l with
 | nil=>rfl
 | cons a l u=>simp[SV.dz,SV.cM,u]
theorem s8 {α:Type} [bA α] (d:Nat) (x:α):bE.cM d (bx x)=false:=tg d (cells x)
theorem VL (n:Nat) (dr:Bool) (fr:List Nat) (q:List RO) (fs':List Fm) (st:St) (k:IntKind) (u:Nat) {ln sz:Nat} {a:cI N α} {i:Int} {f:α->Option γ} (D:q=⟨d,gd,now,.p (.idxA ln sz),az,dd,[]⟩::l)
 (B:(ig S c n fo fs st0,wanted st.g gd,bZ S.N st.g az,sz,ln,bf st.m u)=(some (.ops dr fr q,fs',st),some true,some [.ptr u 0,.v (.int k i)],bA.size α,N,some (bx a)))
 (h:∀x,a.at i=some x->Le ((f x).bind e) (ud S c Q dr fr d (.p (.idxA ln sz)) l fs' dd (c7 st d (.ptr u (i.toNat*bA.size α+0))))):Le (((a.at i).bind f).bind e) (rn S c Q fo fs st0):=by
 simp  at B;obtain⟨h1,w,z,G,I,A⟩:=B;refine DA h1 D w ?_ h;intro r hr;obtain⟨x,C,hr⟩:=ζg.1 hr;obtain⟨g1,g2,_⟩:=cI.t_ C;rw[D4  z rfl ?_]
 .omega
 simp[jP,dw,wR,A]
 grind
theorem O7 {a:cI N α} {i:Int} {o:Nat} {x:α} (B:a.at i=some x) {sz:Nat} {ag:Bool} {v:V} (hv:(cut (cells x) o sz).bind (mk ag)=some v):vi sz ag ((((cells a).map SV.v).drop (i.toNat*bA.size α+o)).take sz)=some (.v v):=by
 obtain⟨r,hr⟩:=AU B;have e1:(((cells a).map SV.v).drop (i.toNat*bA.size α+o)).take sz=(((cells x).drop o).take sz).map SV.v:=by
  have u:((cells x).drop o).take sz=((cells x++r).drop o).take sz:=by
   cases hc:cut (cells x) o sz with
   | none=>grind
   | some w=>
    unfold cut at hc;dsimp only at hc;split at hc
    .have A:sz=0\/o<=(cells x).length:=by
      grind
     grind
    simp_all
  rw[u,<-hr,pa,List.drop_drop,List.map_take,List.map_drop]
 rw[e1];unfold vi
 cases hc:cut (cells x) o sz with
 | none=>grind
 | some w=>
  rw[hc]at hv;unfold cut at hc;dsimp only at hc;split at hc
  .rename_i z;cases hc;simp only[List.length_map,z];unfold mk at hv
   cases ag with
   | true=>
    simp only[if_true]at hv ⊢;cases hv;rw[mc]
   | false=>
    grind
  simp_all
theorem Ve (n:Nat) (dr:Bool) (fr:List Nat) (q:List RO) (fs':List Fm) (st:St) (u:Nat) (a:cI N α) (i:Int) (o:Nat) (x:α) (G:a.at i=some x) {sz:Nat} {ag:Bool} {v:V} (hv:(cut (cells x) o sz).bind (mk ag)=some v) (B:V) {m:Option β} (J:q=⟨d,gd,now,.r (.load sz ag),az,dd,[]⟩::l)
 (D:(ig S c n fo fs st0,wanted st.g gd,bZ S.N st.g az,v,bf st.m u,(!dr||now||fc fr [.ptr u 0]))=(some (.ops dr fr q,fs',st),some true,some [.ptr u (i.toNat*bA.size α+o)],B,some (bx a),true))
 (h:Le m (ud S c Q dr fr d (.r (.load sz ag)) l fs' dd (c7 st d (.v B)))):Le m (rn S c Q fo fs st0):=by
 simp only[ζc]at D;obtain⟨h1,w,z,rfl,A,C⟩:=D;refine sO h1 J w ?_ h;rw[FU,z];have hold:(!dr||now||fc fr [SV.ptr u (i.toNat*bA.size α+o)])=true:=C;simp only[ζb,hold,Wx,A,NH];rw[O7 G hv];rfl
theorem M9 {N:Nat} (a:cI N α) (i:Int) (y:α) (h:i.toNat<N):cells (a.set i y)=(cells a).take (i.toNat*bA.size α)++cells y++(cells a).drop ((i.toNat+1)*bA.size α):=by
 have key:∀(l:List α) (k:Nat),k<l.length->((l.set k y).map (cells )).flatten=(l.map (cells )).flatten.take (k*bA.size α)++cells y++(l.map (cells )).flatten.drop ((k+1)*bA.size α):=by
  intro l
  induction l with
  | nil=>grind
  | cons b l u=>
   intro k h;have w  := gB b
   cases k with
   | zero=>
    grind
   | succ k=>
    simp only[List.map_cons,List.flatten_cons];have e1:(k+1)*bA.size α=(cells b).length+k*bA.size α:=by grind
    have e2:(k+1+1)*bA.size α=(cells b).length+(k+1)*bA.size α:=by grind
    rw[e2,List.drop_length_add_append]
    grind
 exact key a.l i.toNat (by rw[a.len];omega)
theorem Vy (n:Nat) (dr:Bool) (fr:List Nat) (q:List RO) (fs':List Fm) (st:St) (u:Nat) (a:cI N α) (i:Int) (o:Nat) (x:α) (B:a.at i=some x) (y:α) (v:V) {sz:Nat} (G:cells y=(cells x).take o++v.cells++(cells x).drop (o+sz)) {m:Option β} (J:q=⟨d,gd,now,.l (.store sz),az,dd,[]⟩::l)
 (D:(ig S c n fo fs st0,wanted st.g gd,bZ S.N st.g az,bf st.m u,(!dr||now),v.cells.length,v.cells.all V.one,Nat.ble (o+sz) (bA.size α))=(some (.ops dr fr q,fs',st),some true,some [.ptr u (i.toNat*bA.size α+o),.v v],some (bx a),true,sz,true,true))
 (h:Le m (ud S c Q dr fr d (.l (.store sz)) l fs' dd (c7 { st with m:=bM st.m u (bx (a.set i y)) } d (.v .undef)))):Le m (rn S c Q fo fs st0):=by
 simp only[ζc]at D;obtain⟨h1,z,A,C,I,L,O,T⟩:=D;refine sO h1 J z ?_ h;rw[uZ,A];have W:=Nat.le_of_ble_eq_true T;obtain⟨g1,g2,g3⟩:=cI.t_ B;have U:i.toNat*bA.size α+o+sz<=((cells a).map SV.v).length:=by
  rw[List.length_map,gB];have:(i.toNat+1)*bA.size α<=N*bA.size α:=Nat.mul_le_mul_right _ g2;rw[Nat.add_mul,Nat.one_mul]at this;show _<=N*bA.size α;omega
 simp only[ζb,I,if_true,mj,C,putCells,L,O,U,and_self,Option.map_some];obtain⟨r,hr⟩:=AU B;have e:((cells a).map SV.v).take (i.toNat*bA.size α+o)++v.cells.map .v++((cells a).map SV.v).drop (i.toNat*bA.size α+o+sz)=(cells (a.set i y)).map SV.v:=by
  rw[M9 a i y g2,G];have hd:(cells a).drop (i.toNat*bA.size α)=cells x++r:=hr;have w  := gB x;have e1:(cells a).take (i.toNat*bA.size α+o)=(cells a).take (i.toNat*bA.size α)++(cells x).take o:=by
   rw[List.take_add,hd,List.take_append_of_le_length (by omega)]
  have e2:(cells a).drop (i.toNat*bA.size α+o+sz)=(cells x).drop (o+sz)++(cells a).drop ((i.toNat+1)*bA.size α):=by
   have e3:(cells a).drop ((i.toNat+1)*bA.size α)=r:=by
    rw[Nat.add_mul,Nat.one_mul,<-List.drop_drop,hd,<-w,List.drop_left]
   rw[e3,Nat.add_assoc,<-List.drop_drop,hd,List.drop_append_of_le_length (by omega)]
  rw[<-List.map_take,<-List.map_drop,e1,e2]
  grind
 rw[e]
end
theorem Rx {α:Type} [bA α] {m:Tb bE} {d:Nat} {x:α} {vs:List V} (h:bf m d=some (bx x)):nK (iX m 8) (.ptr d 0::vs.map .v)=some (.fptr (cells x)::vs):=by
 have h1:iX m 8 (.ptr d 0)=some (.fptr (cells x)):=by
  show (match bf m d with
   | some (.box cs)=>match nK (iX m 7) cs with
    | some u=>if 0<=u.length then some (V.fptr (u.drop 0))else none
    | none=>none
   | _=>none)=_
  rw[h];simp[Gf]
 simp[nK,h1,Gf]
theorem VB (n:Nat) {fo:Fo} {fs fs':List Fm} {st0 st:St} {rs:List RV} {e:γ->Option (List V)} {r:γ} (svs:List SV) {ys:List V} (B:nK (iX st.m 8) svs=some ys) (h:(ig S c n fo fs st0,j7 st rs)=(some (.rt,fs',st),some svs)) (D:e r=some ys) :
 Le ((some r).bind e) (rn S c (k7 rs) fo fs st0):=by
 simp  at h;rw[oH h.1];refine Le.of_eq ?_;simp[rn,k7,h.2,B]
 grind
abbrev Mo (κ ν:Type):=List (κ×ν)
class Key (κ:Type) [bA κ] [DecidableEq κ] where
 kk:xA
 ok:∀a:κ,pS kk (enc a)=true
 eq:∀a b:κ,wP (enc a) (enc b)=some (decide (a=b))
instance:Key Int where
 kk:=.int .i64
 ok _:=rfl
 eq a b:=by
  show some (a==b)=some (decide (a=b));rw[show (a==b)=decide (a=b)from Bool.eq_iff_iff.2 (by simp)]
instance:Key aY where
 kk:=.ints 2
 ok _:=rfl
 eq a b:=by
  obtain⟨p,i⟩:=a;obtain⟨q,j⟩:=b;simp only[wP,kG,ir,Uh,Option.map_some,List.length_cons,if_true,ζa];rw[Bool.eq_iff_iff];simp
section
variable {κ ν:Type} [bA κ] [DecidableEq κ] [Key κ] [bA ν]
def tP (k:κ):Mo κ ν->Option ν
 | []=>none
 | (a,v)::r=>if k=a then some v else tP k r
def DE (m:Mo κ ν) (k:κ) (z:ν):ν:=(tP k m).getD z
def rD (m:Mo κ ν) (k:κ) (v:ν):Mo κ ν:=
 match m with
 | []=>[(k,v)]
 | (a,w)::r=>if k=a then(k,v)::r else(a,w)::rD r k v
def ow (m:Mo κ ν):List (V×V):=m.map λx=>(enc x.1,enc x.2)
def vJ (m:Mo κ ν):bE:=.mp (ow m)
theorem JQ (k:κ):∀(m:Mo κ ν) (i:Nat),(iD (enc k) (ow m) i).map (Option.map (·.2))=some ((tP k m).map enc)
 | [],i=>rfl
 | (a,v)::r,i=>by
  simp only[ow,List.map_cons,iD,Key.eq,tP]
  by_cases h:k=a
  .grind
  .simp only[h];exact JQ k r (i+1)
theorem P_ (k:κ) (v:ν) (m:Mo κ ν):pE (enc k) (enc v) (ow m)=some (ow (rD m k v)):=by
 unfold pE;have key:∀(m:Mo κ ν) (pre:List (V×V)) (i:Nat),pre.length=i->(match iD (enc k) (ow m) i with
  | some (some (j,_))=>some ((pre++ow m).set j (enc k,enc v))
  | some none=>some (pre++ow m++[(enc k,enc v)])
  | none=>none)=some (pre++ow (rD m k v)):=by
  intro m
  induction m with
  | nil=>simp[ow,iD,rD]
  | cons x r u=>
   obtain⟨a,w⟩:=x;intro pre i h;rw[show ow ((a,w)::r)=(enc a,enc w)::ow r from rfl];simp[iD,Key.eq,rD]
   by_cases hk:k=a
   .subst hk h;simp[ow]
   .simp[hk];rw[show ow ((a,w)::rD r k v)=(enc a,enc w)::ow (rD r k v)from rfl];have:=u (pre++[(enc a,enc w)]) (i+1) (by simp[h])
    grind
 have:=key m [] 0 rfl
 grind
theorem U7 (n:Nat) (dr:Bool) (fr:List Nat) (q:List RO) (fs':List Fm) (st:St) (u:Nat) (mp:Mo κ ν) (k:κ) (z:ν) {kk:xA} {B:V} {m:Option β} (G:q=⟨d,gd,now,.r (.lookup kk B false),az,dd,[]⟩::l)
 (D:(ig S c n fo fs st0,wanted st.g gd,bZ S.N st.g az,bf st.m u,(!dr||now||fc fr [.mp u,cv k]),B,kk)=(some (.ops dr fr q,fs',st),some true,some [.mp u,cv k],some (vJ mp),true,enc z,Key.kk κ))
 (h:Le m (ud S c Q dr fr d (.r (.lookup kk B false)) l fs' dd (c7 st d (cv (DE mp k z))))):Le m (rn S c Q fo fs st0):=by
 simp only[ζc]at D;obtain⟨h1,A,C,I,J,L,O⟩:=D;subst L O;refine sO h1 G A ?_ h;rw[FU,C];simp only[ζb,J,pn,I,vJ,Key.ok];have:=JQ k mp 0;simp[DE]
 cases T:iD (enc k) (ow mp) 0 with
 | none=>grind
 | some r=>
  rw[T]at this
  cases r with
  | none=>
   cases U:tP k mp with
   | none=>rfl
   | some w=>grind
  | some w=>
   cases U:tP k mp with
   | none=>grind
   | some W=>
    grind
theorem Wr (n:Nat) (dr:Bool) (fr:List Nat) (q:List RO) (fs':List Fm) (st:St) (u:Nat) (mp:Mo κ ν) (k:κ) (v:ν) {kk:xA} {m:Option β} (D:q=⟨d,gd,now,.l (.mapUp kk),az,dd,[]⟩::l)
 (B:(ig S c n fo fs st0,wanted st.g gd,bZ S.N st.g az,bf st.m u,(!dr||now),kk)=(some (.ops dr fr q,fs',st),some true,some [.mp u,cv k,cv v],some (vJ mp),true,Key.kk κ))
 (h:Le m (ud S c Q dr fr d (.l (.mapUp kk)) l fs' dd (c7 { st with m:=bM st.m u (vJ (rD mp k v)) } d (.v .undef)))):Le m (rn S c Q fo fs st0):=by
 simp only[ζc]at B;obtain⟨h1,w,z,A,C,G⟩:=B;subst G;refine sO h1 D w ?_ h;rw[uZ,z];simp[C,mj,A,vJ,Key.ok,P_]
end
end
end Go.VE
namespace Go.VE
variable [bS]
instance {n:Nat}:OfNat Arg n:=⟨.s n⟩
abbrev bI (o:BinOp):K:=.p (.bin (some .int) none o)
abbrev ix (n:Nat):K:=.p (.idxS n)
abbrev ld (n:Nat):K:=.r (.load n false)
abbrev lD (n:Nat):K:=.r (.load n true)
abbrev fa (n:Nat):K:=.p (.fieldAddr n)
abbrev ln:K:=.p .lenSl
abbrev su (n:Nat):K:=.l (.store n)
abbrev Iv (n:Nat) (x:Int):Nat×SV:=(n,iv x)
abbrev Bv (n:Nat) (x:Bool):Nat×SV:=(n,bv x)
abbrev Cv {α:Type} [bA α] (n:Nat) (x:α):Nat×SV:=(n,cv x)
abbrev Kv {α:Type} [bA α] (n:Nat) (x:α):Nat×SV:=(n,cp x)
abbrev Pv (n:Nat):Nat×SV:=(n,.ptr n 0)
abbrev Ov (n:Nat):Nat×SV:=(n,.own (2000+n))
abbrev Xb {α:Type} [bA α] (n:Nat) (x:α):Nat×bE:=(n,bx x)
abbrev Lb {α:Type} [bA α] (n:Nat) (x:Sl α):Nat×bE:=(n,cS x)
abbrev on (d:Nat) (k:K) (az:List Arg) (dd:List Nat):RO:=⟨some d,none,true,k,az,dd,[]⟩
abbrev oz (k:K) (az:List Arg) (dd:List Nat):RO:=⟨none,none,false,k,az,dd,[]⟩
abbrev oy (k:K) (az:List Arg) (dd:List Nat):RO:=⟨none,none,true,k,az,dd,[]⟩
attribute [simp] SL Rp RD
theorem dW.wH {S:Sys} {T:pK} {f:FuncId} {b:Bool} (B:T f=none) (hk:S.E.keep f=false) (D:S.wH f []=some (.bool b)) :
 dW S (dI S T) f (λ_:Unit=>[]) (λr:Bool=>[.bool r]) (λ_=>some b) true where
 k:=hk
 h _:=by
  have h:=E6 (az:=[]) B hk D;intro r hr;cases hr;unfold fE;rw[h];exact wL 8 [.bool b]
 s _ _:=rfl
end Go.VE
namespace Go.VE
variable [bS]
def Wp {α:Type} (m:Option α) (P:α->Prop):Prop:=∃a,m=some a/\P a
section
variable {α β:Type} {P Q:α->Prop}
theorem bl (a:α):Wp (some a) P↔P a:=⟨λh=>by obtain⟨b,e,p⟩:=h;cases e;exact p,λp=>⟨a,rfl,p⟩⟩
theorem S0:Wp (none:Option α) P↔False:=⟨λh=>(by obtain⟨b,e,p⟩:=h;cases e),λh=>False.elim h⟩
theorem qp {m:Option β} {k:β->Option α}:Wp (m.bind k) P↔Wp m λb=>Wp (k b) P:=by
 cases m with
 | none=>simp only[Option.bind_none,S0]
 | some b=>simp only[ζb,bl]
theorem dy {t:Bool} {a b:Option α}:Wp (a_ t a b) P↔(t=true->Wp a P)/\(t=false->Wp b P):=by
 cases t <;> simp[a_]
theorem Wp.mono {m:Option α} (h:Wp m P) (B:∀a,P a->Q a):Wp m Q:=let ⟨a,e,p⟩:=h;⟨a,e,B a p⟩
theorem Wp.and {m:Option α} (h:Wp m P) (B:Wp m Q):Wp m λa=>P a/\Q a:=by
 obtain⟨a,e,p⟩:=h;obtain⟨b,e2,q⟩:=B;rw[e]at e2;cases e2;exact⟨a,e,p,q⟩
theorem Wp.eq {m:Option α} {a:α} (h:Wp m λx=>x=a):m=some a:=by obtain⟨b,e,rfl⟩:=h;exact e
end
section
variable {σ ε ρ:Type}
theorem eD (step:σ->Option (Fw σ ε ρ)) (s:σ):bV step s=(step s).bind λw=>match w with
 | .n B=>bV step B
 | .x e=>some (.x e)
 | .r b=>some (.r b):=by
 have h1:∀r,bV step s=some r->((step s).bind λw=>match w with
  | .n B=>bV step B
  | .x e=>some (.x e)
  | .r b=>some (.r b))=some r:=by
  intro r h;obtain⟨k,hk⟩:=nU.1 h
  cases k with
  | zero=>simp[jw]at hk
  | succ k=>
   simp only[jw]at hk
   cases u:step s with
   | none=>rw[u]at hk;cases hk
   | some w=>
    rw[u]at hk
    cases w with
    | n B=>exact nU.2 ⟨k,hk⟩
    | x e=>exact hk
    | r b=>exact hk
 cases z:bV step s with
 | some r=>exact(h1 r z).symm
 | none=>
  cases hr:((step s).bind λw=>match w with
  | .n B=>bV step B
  | .x e=>some (.x e)
  | .r b=>some (.r b))with
  | none=>rfl
  | some r=>
   exfalso
   cases u:step s with
   | none=>rw[u]at hr;cases hr
   | some w=>
    rw[u]at hr;simp only[ζb]at hr;have:bV step s=some r:=by
     cases w with
     | n B=>
      obtain⟨k,hk⟩:=nU.1 hr;exact nU.2 ⟨k+1,by simp only[jw,u];exact hk⟩
     | x e=>exact nU.2 ⟨1,by simp only[jw,u];exact hr⟩
     | r b=>exact nU.2 ⟨1,by simp only[jw,u];exact hr⟩
    rw[z]at this;cases this
def QU (I:σ->Prop) (μ:σ->Nat) (D:ε->Prop) (pr:ρ->Prop) (s:σ):Fw σ ε ρ->Prop
 | .n B=>I B/\μ B<μ s
 | .x e=>D e
 | .r b=>pr b
def VY (B:ε->Prop) (pr:ρ->Prop):Fw Empty ε ρ->Prop
 | .x e=>B e
 | .r b=>pr b
theorem PA {step:σ->Option (Fw σ ε ρ)} (I:σ->Prop) (μ:σ->Nat) (B:ε->Prop) (pr:ρ->Prop) (h:∀s,I s->Wp (step s) (QU I μ B pr s)) {s:σ} (D:I s):Wp (bV step s) (VY B pr):=by
 have key:∀n s,μ s<=n->I s->Wp (bV step s) (VY B pr):=by
  intro n
  induction n with
  | zero=>
   intro s A hi;obtain⟨w,u,hr⟩:=h s hi;rw[eD,u]
   cases w with
   | n z=>exact absurd hr.2 (by omega)
   | x e=>exact⟨_,rfl,hr⟩
   | r b=>exact⟨_,rfl,hr⟩
  | succ n C=>
   intro s A hi;obtain⟨w,u,hr⟩:=h s hi;rw[eD,u]
   cases w with
   | n z=>exact C z (by have:=hr.2;omega) hr.1
   | x e=>exact⟨_,rfl,hr⟩
   | r b=>exact⟨_,rfl,hr⟩
 exact key (μ s) s (Nat.le_refl _) D
theorem gO {γ:Type} {step:σ->Option (Fw σ ε ρ)} {B:ε->Option γ} {fr:ρ->Option γ} {P:γ->Prop} (I:σ->Prop) (μ:σ->Nat) {s:σ} (D:I s)
 (h:∀s,I s->Wp (step s) (QU I μ (λe=>Wp (B e) P) (λb=>Wp (fr b) P) s)):Wp ((bV step s).bind (Fw.elim B fr)) P:=by
 rw[qp];refine(PA I μ _ _ h D).mono ?_;intro w u
 cases w with
 | n a=>cases a
 | x e=>exact u
 | r b=>exact u
end
end Go.VE
namespace Go.VE
variable [bS]
theorem DB {β γ δ:Type} {e:γ->Option β} {m:Option δ} {f:δ->Option γ} {L:Option β} (h:∀x,m=some x->Le ((f x).bind e) L):Le ((m.bind f).bind e) L:=by
 cases m with
 | none=>exact Le.none _
 | some x=>exact h x rfl
section
variable {S:Sys} {c:bX} {β:Type} {Q:Out×St->Option β} {fo:Fo} {fs:List Fm} {st0:St} {l:List RO} {d:Option Nat} {now:Bool} {az:List Arg} {dd:List Nat}
theorem Le.get {β:Type} {r:β} {L:Option β} (h:Le (some r) L):L=some r:=h r rfl
theorem Kt {n:Nat} {fo fo':Fo} {fs fs':List Fm} {st:St} (A:Bool->St) {t:Bool} {m:Option β} (B:t=true) (h:ig S c n fo fs st=some (fo',fs',A t)) (D:Le m (rn S c Q fo' fs' (A true))):Le m (rn S c Q fo fs st):=by
 rw[oH h,B];exact D
theorem Kf {n:Nat} {fo fo':Fo} {fs fs':List Fm} {st:St} (A:Bool->St) {t:Bool} {m:Option β} (B:t=false) (h:ig S c n fo fs st=some (fo',fs',A t)) (D:Le m (rn S c Q fo' fs' (A false))):Le m (rn S c Q fo fs st):=by
 rw[oH h,B];exact D
theorem N6 {α:Type} [bA α] {s:Sl α} {i:Int} {x:α} {r:β} {L:Option β} (B:idx s i=some x) (h:Le (((idx s i).bind λ_=>some r).bind some) L):Le (some r) L:=by
 rw[B]at h;exact h
theorem V0 {n:Nat} {q:List RO} {fs':List Fm} {st:St} {id:Nat} {vs:List SV} {xs:List V} {B:List (List V)} {m:Option β}
 (D:ig S c n fo fs st0=some (.ops false [] q,fs',st)) (G:q=⟨d,none,now,.c,az,dd,[]⟩::l) (J:bZ S.N st.g az=some (.yl id::vs)) (U:dw vs=some xs) (W:st.want=xs::B) (hi:id=st.yid)
 (h:Le m (rn S c Q (.ops false [] l) fs' (o8 dd (c7 { st with want:=B } d (.v (.bool (st.more || !B.isEmpty))))))):Le m (rn S c Q fo fs st0):=by
 refine Qz D G rfl ?_ h;unfold fL;simp only[wanted,fU,J,U,W,hi,if_true,and_self,Bool.false_eq_true,if_false]
theorem AG (a:RC) (fs:List Fm) (st:St):rn S c Q (.rc (.loop a)) fs st=(ou (cC S c a) st).bind (D7 (mH S c Q fs) (mP S c Q fs) (λst=>Q (.ret,st))):=by
 show j9 S c Q (.loop a) fs st=_;unfold j9;rw[Dv];rfl
theorem Tc {f:St->Option (Out×St)} {st st':St} (h:f st=some (.norm,st')):ou f st=ou f st':=by
 have key:∀r,ou f st=some r↔ou f st'=some r:=λr=>by
  constructor
  .intro hr;obtain⟨k,hk⟩:=mI.1 hr
   cases k with
   | zero=>simp[jh]at hk
   | succ k=>simp only[jh,h]at hk;exact mI.2 ⟨k,hk⟩
  .intro hr;obtain⟨k,hk⟩:=mI.1 hr;exact mI.2 ⟨k+1,by simp only[jh,h];exact hk⟩
 cases u:ou f st with
 | none=>
  cases w:ou f st' with
  | none=>rfl
  | some r=>rw[(key r).2 w]at u;cases u
 | some r=>rw[(key r).1 u]
theorem Jl {f:St->Option (Out×St)} {st st':St} {o:Out} (h:f st=some (o,st')) (B:o≠.norm):ou f st=some (o,st'):=by
 refine mI.2 ⟨1,?_⟩
 cases o with
 | norm=>exact absurd rfl B
 | exit k=>simp only[jh,h]
 | ret=>simp only[jh,h]
theorem Fa {a:RC} {fs:List Fm} {st st':St} (h:rn S c some (.rc a) [] st=some (.norm,st')):rn S c Q (.rc (.loop a)) fs st=rn S c Q (.rc (.loop a)) fs st':=by
 rw[AG,AG,Tc (by rw[AJ];exact h)]
theorem Fi {a:RC} {fs:List Fm} {st st':St} {k:Nat} (h:rn S c some (.rc a) [] st=some (.exit k,st')):rn S c Q (.rc (.loop a)) fs st=rn S c Q (.ex k) fs st':=by
 rw[AG,Jl (by rw[AJ];exact h) (by simp)];rfl
theorem Fb {a:RC} {fs:List Fm} {st st':St} (h:rn S c some (.rc a) [] st=some (.ret,st')):rn S c Q (.rc (.loop a)) fs st=Q (.ret,st'):=by
 rw[AG,Jl (by rw[AJ];exact h) (by simp)];rfl
end
def Qi:Out×St->Option Unit
 | (.exit _,_)=>none
 | (_,st)=>if st.want.isEmpty then some ()else none
def Sys.bare (S:Sys):Sys:=⟨S.E,S.N,λ_ _ _=>none,λ_ _=>none,λ_=>none⟩
def ny:bX:=λ_ _ _=>none
def uv (B rest:List (List V)) (more:Bool):Prop:=more=true/\B=rest\/more=false/\B≠[]/\∃r,rest=B++r
theorem PC (S:Sys) {f:FuncId} {fi:FI} {nm:FuncId->Option Nat} {rf:RF} (G:S.E.ft f=some fi) (W:∀g s,nm g=some s->S.N s=g) (hr:wF S.E nm fi rf) {a b:List V} {xs:List (List V)} (D:a.length+1+b.length<=rf.na) (U:rf.rs=[])
 (h:∀B more,uv B xs more->∀yid,rn S.bare ny Qi (.rc rf.body) [] ⟨uE 0 (a.map .v++.yl yid::b.map .v),[],[],B,more,yid⟩=some ()):e_ S f a b xs:=by
 have k:e_ S.bare f a b xs:=JF (S:=S.bare) (c:=ny) (fi:=fi) (nm:=nm) (rf:=rf) (λ_ _ h=>by cases h) (λ_ _ _ _ _ h=>by simp[ny]at h) (λ_ _ _ _ h=>by simp[Sys.bare]at h) G W hr D U (λB more w yid=>by
  have h1:=h B more w yid;change j9 S.bare ny Qi rf.body [] _=some ()at h1;rw[oP]at h1;obtain⟨⟨o,st'⟩,z,u⟩:=ζg.1 h1;refine⟨o,st',z,?_,?_,rfl⟩
  .rintro id rfl;simp[Qi]at u
  .cases o <;> simp[Qi]at u <;> exact u)
 intro B more w yid J y Z A C H h1 z u I L;exact k B more w yid J ⟨y.vH,y.yield⟩ Z A C H h1 z u I L
open Classical in
noncomputable def xQ (P:FuncId->List V->List V->List (List V)->Prop) (f:FuncId) (a b:List V):Option (List (List V)):=if h:∃u,P f a b u then some (Classical.choose h)else none
theorem Db {P:FuncId->List V->List V->List (List V)->Prop} {f:FuncId} {a b:List V} {xs:List (List V)} (h:P f a b xs) (hu:∀ys,P f a b ys->ys=xs):xQ P f a b=some xs:=by
 have h1:∃xs,P f a b xs:=⟨xs,h⟩;unfold xQ;rw[dif_pos h1,hu _ (Classical.choose_spec h1)]
theorem KR {P:FuncId->List V->List V->List (List V)->Prop} {f:FuncId} {a b:List V} {xs:List (List V)} (h:xQ P f a b=some xs):P f a b xs:=by
 unfold xQ at h;split at h
 .rename_i h1;cases h;exact Classical.choose_spec h1
 .cases h
theorem UB {E:Env} {nm:FuncId->Option Nat} {f:FuncId} {rf:RF}
 (h:((E.ft f).bind λfi=>(bL ⟨E,nm,fi.ntmps⟩ false fi.body).bind λc=>(fi.results.mapM (AR E)).bind λrs=>some (c,rs,fi.ntmps))=some (erase rf.body,rf.rs,rf.na)):∃fi,E.ft f=some fi/\wF E nm fi rf:=by
 obtain⟨fi,h1,w⟩:=ζg.1 h;obtain⟨c,z,A⟩:=ζg.1 w;obtain⟨rs,B,u⟩:=ζg.1 A;simp only[ζa,ζc]at u;obtain⟨rfl,rfl,C⟩:=u;exact⟨fi,h1,z,B,C.symm⟩
theorem FR.o6 {H:bg} {Z Z':Nat->Prop} {x y z:V} (h:FR H Z x z) (k:FR H Z' y z):x=y:=by
 obtain⟨n,u⟩:=zZ x;obtain⟨m,w⟩:=zZ y;have e1:=h.borrow (max n m) (Aq (Nat.le_max_left _ _) u);have e2:=k.borrow (max n m) (Aq (Nat.le_max_right _ _) w);rw[e1]at e2;exact Option.some.inj e2
open Classical in
noncomputable def xW (E:Env) (f:FuncId) (az:List V):Option V:=if h:∃y,BS E f az y then some (Classical.choose h)else none
theorem E7 {E:Env} {f:FuncId} {az:List V} {y:V} (h:xW E f az=some y):BS E f az y:=by
 unfold xW at h;split at h
 .rename_i h1;cases h;exact Classical.choose_spec h1
 .cases h
theorem EC {E:Env} {f:FuncId} {az:List V} {y:V} (h:BS E f az y):xW E f az=some y:=by
 have h1:∃y,BS E f az y:=⟨y,h⟩;unfold xW;rw[dif_pos h1];obtain⟨n,z,H,Z,k1,w,_⟩:=h;obtain⟨u,C,H',Z',A,B,_⟩:=Classical.choose_spec h1;have e1:=(uf E (Nat.le_max_left n u)).go _ _ _ _ k1;have e2:=(uf E (Nat.le_max_right n u)).go _ _ _ _ A;rw[e1]at e2;cases e2;rw[FR.o6 B w]
theorem IS {E:Env} {f:FuncId} {az:List V} {y:V} (B:V.scalar y=true) (h:∃n H',run E n (.fn f) az []=some (y,H')):BS E f az y:=by
 obtain⟨n,H',h⟩:=h;exact⟨n,y,H',λ_=>False,h,.same _ (ku B),λ_ h=>h.elim,⟨λ_ _ _ h=>h.elim⟩⟩
end Go.VE
