/-
 Plain values and the steps of a certificate.
-/
import Derived.KernelRfl
import Derived.Test.YtimppgndlmehbaaGreatN2
set_option linter.all false
namespace Go.VE
variable [aW]
inductive Sl (α:Type) where
 | nil
 | emp
 | row (l:List α)
 | part (l:List α)
 deriving Inhabited
def Sl.l {α:Type}:Sl α->List α
 | .nil|.emp=>[]
 | .row l|.part l=>l
def Sl.k {α:Type}:Sl α->Fl
 | .nil=>.nil
 | .emp=>.emp
 | .row _=>.row
 | .part _=>.part
class aI (α:Type) where
 cells:α->List V
 agg:Bool
 size:Nat
 len:∀a,(cells a).length=size
 good:∀a,V.bL (cells a)=true
 one:∀a,(cells a).all V.one=true
 plain:agg=false->size=1
def cells {α:Type} [aI α] (a:α):List V:=aI.cells a
def enc {α:Type} [aI α] (a:α):V:=if aI.agg α then .agg (cells a)else(cells a).headD .undef
def rows {α:Type} [aI α] (l:List α):List (List V):=l.map cells
def bf {α:Type} [aI α] (s:Sl α):V:=mq s.k (aI.size α) (rows s.l)
instance:aI Int where
 cells n:=[.int .i64 n]
 agg:=false
 size:=1
 len _:=rfl
 good _:=rfl
 one _:=rfl
 plain _:=rfl
instance:aI Bool where
 cells b:=[.bool b]
 agg:=false
 size:=1
 len _:=rfl
 good _:=rfl
 one _:=rfl
 plain _:=rfl
instance:aI ByteArray where
 cells s:=[.str s]
 agg:=false
 size:=1
 len _:=rfl
 good _:=rfl
 one _:=rfl
 plain _:=rfl
structure aa where
 proc:Int
 index:Int
 deriving DecidableEq,Inhabited
instance:aI aa where
 cells x:=[.int .i64 x.proc,.int .i64 x.index]
 agg:=true
 size:=2
 len _:=rfl
 good _:=rfl
 one _:=rfl
 plain h:=by cases h
@[simp] theorem T4 (n:Int):enc n=.int .i64 n:=rfl
@[simp] theorem TY (n:Bool):enc n=.bool n:=rfl
@[simp] theorem T8 (n:ByteArray):enc n=.str n:=rfl
@[simp] theorem Tj (n:Int):cells n=[.int .i64 n]:=rfl
@[simp] theorem SH (n:Bool):cells n=[.bool n]:=rfl
@[simp] theorem Tk (n:ByteArray):cells n=[.str n]:=rfl
@[simp] theorem TZ (n:aa):cells n=[.int .i64 n.proc,.int .i64 n.index]:=rfl
@[simp] theorem Qz (n:aa):enc n=.agg [.int .i64 n.proc,.int .i64 n.index]:=rfl
section
variable {α:Type} [aI α]
theorem jq (l:List α):(rows l).length=l.length:=by simp[rows]
def idx (s:Sl α) (i:Int):Option α:=if 0<=i then s.l[i.toNat]? else none
theorem LX {N:Nat->FuncId} (s:Sl α) (k:IntKind) (i:Int) {n:Nat} (hn:n=aI.size α):aq N (.idxS n) [bf s,.int k i]=(idx s i).map λx=>.fptr (cells x):=by
 subst hn;unfold idx bf;simp only[aq,j7]
 by_cases h:i<0
 .rw[if_pos h,if_neg (by omega)];rfl
 .rw[if_neg h,if_pos (by omega)]
  cases s <;> simp[Sl.k,Sl.l,mq,rows,Function.comp_def]
theorem Kg {N:Nat->FuncId} (s:Sl α):aq N .lenSl [bf s]=some (.int .i64 s.l.length):=by
 cases s <;> simp[aq,o_,bf,Sl.k,Sl.l,mq,jq]
end
section
variable {S:Sys} {c:br}
end
end Go.VE
namespace Go.VE
variable [aW]
section
variable {S:Sys} {c:br}
def isSlice:tC->Bool
 | .slice ..=>true
 | _=>false
theorem Nv (dr:Bool) (fr:List Nat) (dst:Option Nat) (now:Bool) (p:tC) (az:List Arg) (st:St) (h:isSlice p=false) :
 dQ S c dr fr ⟨dst,none,now,.p p,az,[],[]⟩ st=(a_ S.N st.g az).bind λsvs=>(iK S.N st.m p svs).bind λx=>some (b7 st dst x):=by
 unfold dQ kL;have hy:eD S.N st.g ⟨dst,none,now,.p p,az,[],[]⟩=none:=by unfold eD;grind
 simp[wanted,hy]
 cases hs:a_ S.N st.g az with
 | none=>rfl
 | some svs=>
  simp;cases p <;> first|(simp[isSlice]at h;done)|(cases hp:iK S.N st.m _ svs <;> simp[hp])
theorem G1 (N:Nat->FuncId) (m:Tb aM) (p:tC) (svs:List SV) (xs:List V) (h:cG svs=some xs):iK N m p svs=(aq N p xs).bind λx=>some (.v x):=by
 unfold iK;rw[h];dsimp only;cases aq N p xs <;> rfl
theorem DR (dr:Bool) (fr:List Nat) (dst:Option Nat) (now:Bool) (q:GV) (az:List Arg) (st:St) :
 dQ S c dr fr ⟨dst,none,now,.r q,az,[],[]⟩ st=(a_ S.N st.g az).bind λsvs=>if !dr||now||dN fr svs then(nK st.m q svs).bind λx=>some (b7 st dst x)else none:=by
 unfold dQ kL;have hy:eD S.N st.g ⟨dst,none,now,.r q,az,[],[]⟩=none:=rfl;simp[wanted,hy]
 cases hs:a_ S.N st.g az with
 | none=>rfl
 | some svs=>
  simp;split
  .cases hp:nK st.m q svs <;> simp
  .rfl
theorem BC (dr:Bool) (fr:List Nat) (d:Nat) (now:Bool) (q:Kw) (az:List Arg) (st:St) :
 dQ S c dr fr ⟨some d,none,now,.a q,az,[],[]⟩ st=(a_ S.N st.g az).bind λsvs=>if st.new d then(nV st.m q svs d).bind λr=>some { st with g:=aU st.g d r.2,m:=aU st.m d r.1 } else none:=by
 unfold dQ kL;have hy:eD S.N st.g ⟨some d,none,now,.a q,az,[],[]⟩=none:=rfl;simp[wanted,hy]
 cases hs:a_ S.N st.g az with
 | none=>rfl
 | some svs=>
  simp;split
  .cases hp:nV st.m q svs d <;> simp[b7]
  .rfl
theorem qW (dr:Bool) (fr:List Nat) (dst:Option Nat) (now:Bool) (q:GQ) (az:List Arg) (st:St) :
 dQ S c dr fr ⟨dst,none,now,.l q,az,[],[]⟩ st=(a_ S.N st.g az).bind λsvs=>if !dr||now then(iX st dst q svs).bind λr=>some (b7 r.2 dst r.1)else none:=by
 unfold dQ kL;have hy:eD S.N st.g ⟨dst,none,now,.l q,az,[],[]⟩=none:=rfl;simp[wanted,hy]
 cases hs:a_ S.N st.g az with
 | none=>rfl
 | some svs=>
  simp;split
  .cases hp:iX st dst q svs <;> simp
  .rfl
theorem S3 (dr:Bool) (fr:List Nat) (dst:Option Nat) (now:Bool) (n:Nat) (az:List Arg) (st:St) (v:V) (hv:v=.aR\/v=.ck) (x:SV) (hs:a_ S.N st.g az=some [.v v,x]) :
 dQ S c dr fr ⟨dst,none,now,.e n,az,[],[]⟩ st=(iX st dst (.append n) [.v v,x]).bind λr=>some (b7 r.2 dst r.1):=by
 unfold dQ kL;have hy:eD S.N st.g ⟨dst,none,now,.e n,az,[],[]⟩=none:=rfl;simp only[wanted,hy,hs];rcases hv with rfl|rfl
 .show (iX st dst (.append n) [.v .aR,x]).map _=_;cases iX st dst (.append n) [.v .aR,x] <;> rfl
 .show (iX st dst (.append n) [.v .ck,x]).map _=_;cases iX st dst (.append n) [.v .ck,x] <;> rfl
def oM:List SV->Option (FuncId×List SV)
 | .clo f a b::vs=>some (f,a++vs++b)
 | .v (.clo f a b)::vs=>some (f,a.map .v++vs++b.map .v)
 | _=>none
theorem NY (dr:Bool) (fr:List Nat) (dst:Option Nat) (now:Bool) (az:List Arg) (st:St) (svs:List SV) (f:FuncId) (args:List SV) (hs:a_ S.N st.g az=some svs) (hc:oM svs=some (f,args)) :
 dQ S c dr fr ⟨dst,none,now,.c,az,[],[]⟩ st=(iI S c dst dr (!dr||now) (gw st.m fr) f args st).bind λr=>some (b7 r.2 dst r.1):=by
 unfold dQ kL;unfold oM at hc;split at hc
 .obtain⟨rfl,rfl⟩:=hc;simp[wanted,eD,hs];cases iI S c dst dr _ _ _ _ st <;> simp
 .obtain⟨rfl,rfl⟩:=hc;simp[wanted,eD,hs];cases iI S c dst dr _ _ _ _ st <;> simp
 grind
noncomputable def MH {β:Type} (S:Sys) (c:br) (fr:List Nat) (l:List RO) (k:St->Option β):St->Option β:=λst=>(lB S c false fr l st).bind k
noncomputable def ML {β:Type} (S:Sys) (c:br) (fr:List Nat) (l:List RO) (k:St->Option β):St->Option β:=λst=>(lB S c true fr l st).bind k
noncomputable def Ri {β:Type} (S:Sys) (c:br) (fr dd:List Nat) (l:List RO) (k:St->Option β):St->Option β:=λst=>MH S c fr l k (nL dd st)
noncomputable def QW {β:Type} (S:Sys) (c:br) (fr dd:List Nat) (l:List RO) (k:St->Option β):St->Option β:=λst=>ML S c fr l k (nL dd st)
@[congr] theorem Su {β:Type} {fr:List Nat} {l:List RO} {k:St->Option β} {st st':St} (h:st=st'):MH S c fr l k st=MH S c fr l k st':=by rw[h]
@[congr] theorem Sm {β:Type} {fr fr':List Nat} {l:List RO} {k:St->Option β} {st st':St} (hf:fr=fr') (h:st=st'):ML S c fr l k st=ML S c fr' l k st':=by simp_all
@[congr] theorem S9 {β:Type} {fr dd:List Nat} {l:List RO} {k:St->Option β} {st st':St} (h:st=st'):Ri S c fr dd l k st=Ri S c fr dd l k st':=by rw[h]
@[congr] theorem Sc {β:Type} {fr fr' dd:List Nat} {l:List RO} {k:St->Option β} {st st':St} (hf:fr=fr') (h:st=st'):QW S c fr dd l k st=QW S c fr' dd l k st':=by simp_all
@[congr] theorem Tg {dr:Bool} {fr:List Nat} {o:RO} {st st':St} (h:st=st'):dQ S c dr fr o st=dQ S c dr fr o st':=by rw[h]
end
section
variable {S:Sys} {c:br} (dr:Bool) (fr:List Nat) (dst:Option Nat) (now:Bool) (az:List Arg) (st:St)
end
end Go.VE
namespace Go.VE
variable [aW]
inductive Fm where
 | seq (b:RC)
 | blk (id:Nat)
 | gst (x:Gh)
section
variable (S:Sys) (c:br) {β:Type} (Q:Out×St->Option β)
noncomputable def runK:List Fm->Out×St->Option β
 | [],r=>Q r
 | .seq b::fs,(.norm,st)=>(bD S c b st).bind (runK fs)
 | .seq _::fs,r=>runK fs r
 | .blk id::fs,(.exit k,st)=>if k=id then runK fs (.norm,st)else runK fs (.exit k,st)
 | .blk _::fs,r=>runK fs r
 | .gst x::fs,(.norm,st)=>(ghost x st).bind λst=>runK fs (.norm,st)
 | .gst _::fs,r=>runK fs r
noncomputable def go (rc:RC) (fs:List Fm) (st:St):Option β:=(bD S c rc st).bind (runK S c Q fs)
noncomputable def NS (fs:List Fm):St->Option β:=λst=>runK S c Q fs (.norm,st)
def aj {α:Type} (t:Bool) (a b:α):α:=if t then a else b
end
@[congr] theorem Tt {α:Type} {t t':Bool} {a b a' b':α} (h:t=t') (ha:t'=true->a=a') (hb:t'=false->b=b'):aj t a b=aj t' a' b':=by
 subst h;cases t
 .exact hb rfl
 .exact ha rfl
section
variable {S:Sys} {c:br} {β:Type} {Q:Out×St->Option β}
@[congr] theorem go_congr {a:RC} {fs:List Fm} {st st':St} (h:st=st'):go S c Q a fs st=go S c Q a fs st':=by rw[h]
@[congr] theorem R8 {fs:List Fm} {st st':St} (h:st=st'):NS S c Q fs st=NS S c Q fs st':=by rw[h]
@[congr] theorem SB {fs:List Fm} {r r':Out×St} (h:r=r'):runK S c Q fs r=runK S c Q fs r':=by rw[h]
theorem Er (rc:RC) (st:St):(bD S c rc st).bind Q=go S c Q rc [] st:=by
 simp only[go];cases bD S c rc st <;> rfl
inductive Fw (ν ε ρ:Type) where
 | n (a:ν)
 | x (e:ε)
 | r (b:ρ)
def iD {σ ε ρ:Type} (step:σ->Option (Fw σ ε ρ)):Nat->σ->Option (Fw Empty ε ρ)
 | 0,_=>none
 | k+1,s=>match step s with
  | some (.n s')=>iD step k s'
  | some (.x e)=>some (.x e)
  | some (.r b)=>some (.r b)
  | none=>none
theorem vE {σ ε ρ:Type} {step:σ->Option (Fw σ ε ρ)}:∀{k k':Nat} {s:σ} {r:Fw Empty ε ρ},k<=k'->iD step k s=some r->iD step k' s=some r
 | 0,_,_,_,_,h=>by simp[iD]at h
 | k+1,0,_,_,hk,_=>by omega
 | k+1,k'+1,s,r,hk,h=>by
  simp only[iD]at h ⊢;split at h
  .exact vE (Nat.le_of_succ_le_succ hk) h
  .exact h
  .exact h
  .simp at h
open Classical in
noncomputable def aK {σ ε ρ:Type} (step:σ->Option (Fw σ ε ρ)) (s:σ):Option (Fw Empty ε ρ):=
 if h:∃k r,iD step k s=some r then some (Classical.choose (Classical.choose_spec h))else none
theorem mj {σ ε ρ:Type} {step:σ->Option (Fw σ ε ρ)} {s:σ} {r:Fw Empty ε ρ}:aK step s=some r↔∃k,iD step k s=some r:=by
 unfold aK;constructor
 .intro h;split at h
  .rename_i hx;simp only[ζa]at h;exact⟨_,by rw[<-h];exact Classical.choose_spec (Classical.choose_spec hx)⟩
  .simp at h
 .rintro⟨k,hk⟩;have hx:∃k r,iD step k s=some r:=⟨k,r,hk⟩;rw[dif_pos hx];have h2:=Classical.choose_spec (Classical.choose_spec hx);have h3:=vE (Nat.le_max_left (Classical.choose hx) k) h2;have h4:=vE (Nat.le_max_right (Classical.choose hx) k) hk;rw[h3]at h4;exact h4
def Fw.out {ν ε ρ:Type} (eν:ν->St) (eε:ε->Nat×St) (eρ:ρ->St):Fw ν ε ρ->Out×St
 | .n a=>(.norm,eν a)
 | .x e=>(.exit (eε e).1,(eε e).2)
 | .r b=>(.ret,eρ b)
def Fw.elim {ε ρ γ:Type} (fx:ε->γ) (fr:ρ->γ):Fw Empty ε ρ->γ
 | .x e=>fx e
 | .r b=>fr b
end
end Go.VE
namespace Go.VE
variable [aW]
class Lv (n:Nat) (α:Type) [aI α]:Prop where
 lv:∀a:α,V.b8 n (cells a)=true
instance {n:Nat}:Lv n Int:=⟨λ_=>by cases n <;> rfl⟩
instance {n:Nat}:Lv n Bool:=⟨λ_=>by cases n <;> rfl⟩
instance {n:Nat}:Lv n ByteArray:=⟨λ_=>by cases n <;> rfl⟩
instance {n:Nat}:Lv n aa:=⟨λ_=>by cases n <;> rfl⟩
section
variable {α:Type} [aI α]
theorem Dl (s:Sl α):V.one (bf s)=true:=by cases s <;> rfl
theorem Js (l:List α):V.mP (rows l)=true:=by
 induction l with
 | nil=>rfl
 | cons a l ih=>simp only[rows,List.map_cons,V.mP,ζh];exact⟨aI.good a,ih⟩
theorem IE (s:Sl α):V.good (bf s)=true:=by
 cases s <;> simp only[bf,Sl.k,mq,V.good] <;> exact Js _
theorem Lz {n:Nat} [Lv n α] (l:List α):V.lP n (rows l)=true:=by
 induction l with
 | nil=>cases n <;> rfl
 | cons a l ih=>simp only[rows,List.map_cons,V.lP,ζh];exact⟨Lv.lv a,ih⟩
theorem CE {n:Nat} [Lv n α] (s:Sl α):V.lvl (n+1) (bf s)=true:=by
 cases s <;> simp only[bf,Sl.k,mq,V.lvl] <;> exact Lz _
instance:aI (Sl α) where
 cells s:=[bf s]
 agg:=false
 size:=1
 len _:=rfl
 good s:=by simp only[V.bL,IE,Bool.and_self]
 one s:=by simp[Dl]
 plain _:=rfl
instance {n:Nat} [Lv n α]:Lv (n+1) (Sl α):=⟨λs=>by
 show V.b8 (n+1) [bf s]=true;simp only[V.b8,CE,Bool.and_self]⟩
end
theorem OY (n:Nat) (cs:List V):V.lvl (n+1) (.agg cs)=V.b8 n cs:=rfl
theorem OM (n:Nat) (cs:List V):V.lvl (n+1) (.tup cs)=V.b8 n cs:=rfl
theorem MG (n:Nat) (cs:List V):V.lvl (n+1) (.fptr cs)=V.b8 n cs:=rfl
theorem OH (n:Nat) (f:FuncId) (a b:List V):V.lvl (n+1) (.clo f a b)=(V.b8 n a&&V.b8 n b):=rfl
theorem qx (n:Nat) (k:IntKind) (x:Int):V.lvl n (.int k x)=true:=by cases n <;> rfl
theorem nW (n:Nat) (x:Bool):V.lvl n (.bool x)=true:=by cases n <;> rfl
theorem qe (n:Nat) (x:ByteArray):V.lvl n (.str x)=true:=by cases n <;> rfl
theorem Oz (n:Nat):V.lvl n .aR=true:=by cases n <;> rfl
theorem OR (n:Nat):V.lvl n .ck=true:=by cases n <;> rfl
theorem MN (n:Nat):V.lvl n .fI=true:=by cases n <;> rfl
theorem jR (n:Nat):V.b8 n []=true:=by cases n <;> rfl
theorem iF (n:Nat) (x:V) (r:List V):V.b8 n (x::r)=(V.lvl n x&&V.b8 n r):=by cases n <;> rfl
section
variable {S:Sys} {c:br}
def J6 (x:Option SV) (b:Bool) (y z:Option St):Option St:=
 match x with
 | some (.v (.bool t))=>aj (t==b) y z
 | some (.v _)=>z
 | _=>none
@[congr] theorem QJ {x x':Option SV} {b:Bool} {y z:Option St} (h:x=x'):J6 x b y z=J6 x' b y z:=by rw[h]
def Ny {β:Type} (x:Option SV) (y z:Option β):Option β:=
 match x with
 | some (.v (.bool t))=>aj t y z
 | _=>none
@[congr] theorem RZ {β:Type} {x x':Option SV} {y z:Option β} (h:x=x'):Ny x y z=Ny x' y z:=by rw[h]
def lU (c:br) (f:FuncId) (az:List V):Option (List V):=(c f (az.map .v) []).bind λr=>bN r.2 8 r.1
def Li (now:Bool) (args:List SV) (ok:Bool) (st:St) (ys:List V):Option (SV×St):=
 if V.lvl 8 (result ys)&&((result ys).scalar||ok)then some (.v (result ys),st)else if V.lvl 8 (result ys)&&now then(rowsOf args).map λds=>(.v (result ys),{ st with m:=lN ds st.m })else none
theorem PR (dst:Option Nat) (dr now:Bool) (old:List SV->Bool) (f:FuncId) (args:List SV) (st:St) (hk:S.E.keep f=false) :
 iI S c dst dr now old f args st=(bN st.m 8 args).bind λaz=>if V.b8 8 az&&(now||old args)then(lU c f az).bind (Li now args (cG args).isSome st)else none:=by
 unfold iI lU;simp only[hk,Bool.false_eq_true,if_false]
 cases bN st.m 8 args with
 | none=>rfl
 | some az=>
  simp only[ζb];split
  .cases c f (az.map .v) []with
   | none=>rfl
   | some r=>
    obtain⟨rs,m'⟩:=r;simp only[ζb];cases bN m' 8 rs <;> rfl
  .rfl
end
section
variable {S:Sys} {T:qg}
def FP (rs:List RV):Out×St->Option (List V)
 | (.exit _,_)=>none
 | (_,st)=>(mJ st rs).bind (bN st.m 8)
theorem Ni {f:FuncId} {rf:RF} (hT:T f=some rf) (az:List V) (hn:az.length<=rf.na):lU (dA S T) f az=go S (dA S T) (FP rf.rs) rf.body [] (start (az.map .v) []):=by
 unfold lU;rw[wV hT];unfold nE;rw[if_pos (by simpa using hn),<-Er]
 cases h:bD S (dA S T) rf.body (start (az.map .v) [])with
 | none=>rfl
 | some r=>
  obtain⟨o,st⟩:=r;cases o <;> simp only[ζb,FP] <;> (try rfl) <;> (cases mJ st rf.rs <;> rfl)
end
end Go.VE
namespace Go.VE
variable [aW]
variable {N:Nat->FuncId}
theorem EB (o:Nat) (cs:List V):aq N (.fieldAddr o) [.fptr cs]=if o<=cs.length then some (.fptr (cs.drop o))else none:=rfl
def jy (s:ByteArray) (n:Int):Option Int:=if 0<=n then(s[n.toNat]?).map λb=>(b.toNat:Int)else none
theorem JJ (s:ByteArray) (k:IntKind) (n:Int):aq N .idxStr [.str s,.int k n]=(jy s n).bind λx=>some (.int .u8 x):=by
 simp only[aq,jy];split
 .cases s[n.toNat]? <;> rfl
 .rfl
theorem M9 (z:List V) (pl:List (Nat×Nat)) (vs:List V):aq N (.build z pl) vs=(jt z pl vs).bind λcs=>some (.agg cs):=by
 simp only[aq];cases jt z pl vs <;> rfl
section
variable {α:Type} [aI α]
theorem Cb (s:Sl α) (k:IntKind) (i:Int) (n:Nat) (hn:n=aI.size α):aq N (.idxS n) [bf s,.int k i]=(idx s i).bind λx=>some (.fptr (cells x)):=by
 rw[LX s k i hn];cases idx s i <;> rfl
theorem wC (s:Sl α):aq N .lenSl [bf s]=some (.int .i64 s.l.length):=Kg s
def Sl.isNil {α:Type} (s:Sl α):Option Bool:=
 match s with
 | .nil=>some true
 | .emp=>none
 | _=>some false
theorem Nn (q:Option Nat) (s:Sl α):aq N (.bin (some .slice) q .eql) [bf s,.aR]=s.isNil.bind λt=>some (.bool t):=by
 cases s <;> rfl
def eO (s:Sl α) (lo hi:Option Int):Option (Sl α):=
 (cN s.l.length lo hi).map λ(l,h)=>match s with
  | .nil=>.nil
  | .emp=>.emp
  | .row x=>.part ((x.take h).drop l)
  | .part x=>.part ((x.take h).drop l)
theorem Ir (s:Sl α) (lo hi:Option Int) (n:Nat) (hn:n=aI.size α):gC n (bf s) lo hi=(eO s lo hi).bind λx=>some (bf x):=by
 subst hn
 cases s with
 | nil=>simp only[bf,Sl.k,mq,gC,eO,Sl.l,List.length_nil];cases cN 0 lo hi <;> rfl
 | emp=>simp only[bf,Sl.k,mq,gC,eO,Sl.l,List.length_nil];cases cN 0 lo hi <;> rfl
 | row l=>simp only[bf,Sl.k,mq,gC,eO,Sl.l,if_true,jq];cases cN l.length lo hi <;> simp[rows,List.map_take,List.map_drop]
 | part l=>simp only[bf,Sl.k,mq,gC,eO,Sl.l,if_true,jq];cases cN l.length lo hi <;> simp[rows,List.map_take,List.map_drop]
end
theorem Ld (m:Tb aM) (n:Nat) (a:Bool) (cs:List V):nK m (.load n a) [.v (.fptr cs)]=(cut cs 0 n).bind λr=>(mk a r).bind λx=>some (.v x):=by
 simp only[nK,cR]
 cases cut cs 0 n with
 | none=>rfl
 | some r=>simp only[ζb];cases mk a r <;> rfl
end Go.VE
namespace Go.VE
variable [aW]
section
variable {α:Type} [aI α]
def b_ (s:Sl α):aM:=.sl s.k (aI.size α) (rows s.l)
def Sl.mw (s:Sl α) (i:Int):Option Nat:=if 0<=i/\i.toNat<s.l.length then some i.toNat else none
def Sl.get (s:Sl α) (i:Nat):Option α:=s.l[i]?
def Sl.put (s:Sl α) (i:Nat) (x:α):Option (Sl α):=
 if i<s.l.length then some (match s with|.row l=>.row (l.set i x)|.part l=>.part (l.set i x)|s=>s)else none
def fP (s:Sl α) (x:α):Option (Sl α):=if s.l.length+1<=2147483648 then some (.row (s.l++[x]))else none
def tw (n:Int) (z:α):Option (Sl α):=if 0<=n/\n<=2147483648 then some (.row (List.replicate n.toNat z))else none
end
section
variable {α:Type} [aI α] {N:Nat->FuncId} {m:Tb aM}
def IX (n d:Nat) (o:Option aM) (i:Int):Option SV:=
 match o with
 | some (.sl k es xs)=>if bM k/\es=n/\0<=i/\i.toNat<xs.length then some (.el d i.toNat 0)else none
 | _=>none
theorem Pj (n d:Nat) (k:IntKind) (i:Int):iK N m (.idxS n) [.own d,.v (.int k i)]=IX n d (ai m d) i:=by
 simp[iK,cG,vg,IX]
 grind
theorem OZ (n d:Nat) (s:Sl α) (i:Int) (h:n=aI.size α):IX n d (some (b_ s)) i=(s.mw i).bind λj=>some (.el d j 0):=by
 simp[IX,b_,jq,Sl.mw]
 cases s with
 | nil=>simp[Sl.l,bM]
 | emp=>simp[Sl.l,bM]
 | row l=>simp[Sl.k,Sl.l,bM];grind
 | part l=>simp[Sl.k,Sl.l,bM];grind
def IM (o:Option aM):Option SV:=
 match o with
 | some (.sl _ _ xs)=>some (.v (.int .i64 xs.length))
 | _=>none
theorem LL (d:Nat):iK N m .lenSl [.own d]=IM (ai m d):=by
 simp[iK,cG,vg,IM]
 grind
theorem O2 (s:Sl α):IM (some (b_ s))=some (.v (.int .i64 s.l.length)):=by simp[IM,b_,jq]
def N8 (n:Nat) (a:Bool) (o:Nat) (ob:Option aM):Option SV:=
 match ob with
 | some (.box cs)=>tO n a ((cs.drop o).take n)
 | _=>none
theorem TS (n:Nat) (a:Bool) (d o:Nat):nK m (.load n a) [.ptr d o]=N8 n a o (ai m d):=by
 rfl
theorem K7 (n:Nat) (a:Bool) (o:Nat) (cs:List SV):N8 n a o (some (.box cs))=tO n a ((cs.drop o).take n):=rfl
def Fj (n:Nat) (a:Bool) (i o:Nat) (ob:Option aM):Option SV:=
 match ob with
 | some (.sl _ _ xs)=>match xs[i]? with
  | some cs=>((cut cs o n).bind (mk a)).map .v
  | none=>none
 | _=>none
theorem S8 (n:Nat) (a:Bool) (d i o:Nat):nK m (.load n a) [.el d i o]=Fj n a i o (ai m d):=by
 rfl
theorem K1 (n:Nat) (a:Bool) (i o:Nat) (s:Sl α):Fj n a i o (some (b_ s))=(s.get i).bind λx=>(cut (cells x) o n).bind λr=>(mk a r).bind λy=>some (.v y):=by
 simp only[Fj,b_,Sl.get,rows,List.getElem?_map]
 cases s.l[i]? with
 | none=>rfl
 | some x=>
  simp only[Option.map_some,ζb]
  cases cut (cells x) o n with
  | none=>rfl
  | some r=>simp ;cases mk a r <;> rfl
theorem SJ (z:α) (n:Int) (d:Nat) (size:Nat) (zero:List V) (h:zero=cells z) (h2:size=aI.size α) :
 nV m (.makeSl size zero) [.v (.int .i64 n),.v (.int .i64 n)] d=(tw n z).bind λs=>some (b_ s,.own d):=by
 subst h h2;simp[nV,tw];split
 .simp[b_,Sl.k,Sl.l,rows]
 .rfl
def Ci (st:St) (d i o size:Nat) (x:V) (ob:Option aM):Option (SV×St):=
 match ob with
 | some (.sl k es xs)=>match xs[i]? with
  | some cs=>if x.cells.length=size/\o+size<=cs.length/\x.cells.all V.one=true then
   some (.v .undef,{ st with m:=aU st.m d (.sl k es (xs.set i (cs.take o++x.cells++cs.drop (o+x.cells.length)))) })else none
  | none=>none
 | _=>none
theorem Is (st:St) (dst:Option Nat) (size d i o:Nat) (x:V):iX st dst (.store size) [.el d i o,.v x]=Ci st d i o size x (ai st.m d):=by
 rfl
theorem IN (g:Tb SV) (p:List Nat) (w:List (List V)) (mo:Bool) (y:Nat) (d i size:Nat) (x:V) (a:α) (hx:x.cells=cells a) (hs:size=aI.size α) (s:Sl α) :
 Ci ⟨g,m,p,w,mo,y⟩ d i 0 size x (some (b_ s))=(s.put i a).bind λs'=>some (.v .undef,⟨g,aU m d (b_ s'),p,w,mo,y⟩):=by
 have h1:(cells a).all V.one=true:=aI.one a;have hl:∀b:α,(cells b).length=aI.size α:=aI.len;subst hs;simp only[Ci,b_,rows,List.getElem?_map,hx,Sl.put]
 by_cases hi:i<s.l.length
 .have hg  := ζd hi;rw[if_pos hi,hg];simp[hl,h1]
  cases s with
  | nil=>simp[Sl.l]at hi
  | emp=>simp[Sl.l]at hi
  | row l=>simp[Sl.k,Sl.l,List.drop_of_length_le,hl]
  | part l=>simp[Sl.k,Sl.l,List.drop_of_length_le,hl]
 grind
def tu (st:St) (t n:Nat) (s:SV) (xs ys:Option (List (List V))):Option (SV×St):=
 match xs,ys with
 | some _,some []=>match s with
  | .own d=>match ai st.m d with
   | some ob=>if St.new { st with m:=cV d st.m } t then some (.own t,{ st with m:=aU (cV d st.m) t ob })else none
   | none=>none
  | .v .aR=>if st.new t then some (.own t,{ st with m:=aU st.m t (.sl .nil n []) })else none
  | .v .ck=>if st.new t then some (.own t,{ st with m:=aU st.m t (.sl .emp n []) })else none
  | _=>none
 | some xs,some ys=>
  if xs.length+ys.length<=2147483648/\AK s=true then
   if St.new { st with m:=giveUp st.m s } t then some (.own t,{ st with m:=aU (giveUp st.m s) t (.sl .row n (xs++ys)) })else none
  else none
 | _,_=>none
theorem uS (st:St) (t n:Nat) (s x:SV):iX st (some t) (.append n) [s,x]=tu st t n s (jf st.m n s) (jf st.m n x):=by
 cases s <;> cases x <;> (rfl)
def HI (n:Nat) (o:Option aM):Option (List (List V)):=
 match o with
 | some (.sl k es xs)=>if bM k then(if es=n then some xs else none)else some []
 | _=>none
theorem B4 (n d:Nat):jf m n (.own d)=HI n (ai m d):=by
 simp[jf,HI]
 grind
theorem zA (n:Nat) (s:Sl α) (h:n=aI.size α):HI n (some (b_ s))=some (rows s.l):=by
 subst h;cases s <;> simp[HI,b_,Sl.k,Sl.l,bM,rows]
theorem Pz (n:Nat):jf m n (.v .aR)=some []:=rfl
theorem O7 (n:Nat):jf m n (.v .ck)=some []:=rfl
theorem KC (g:Tb SV) (p:List Nat) (w:List (List V)) (mo:Bool) (y:Nat) (t n d:Nat) (l:List α) (x:α) (h:n=aI.size α):tu ⟨g,m,p,w,mo,y⟩ t n (.own d) (some (rows l)) (some (rows [x])) =
 (fP (.row l) x).bind λs=>if St.new ⟨g,cV d m,p,w,mo,y⟩ t then some (.own t,⟨g,aU (cV d m) t (b_ s),p,w,mo,y⟩)else none:=by
 subst h;have e:(rows l).length+(rows [x]).length=l.length+1:=by simp[jq]
 by_cases h:l.length+1<=2147483648
 .have h1:fP (.row l) x=some (.row (l++[x])):=if_pos h;have h2:tu ⟨g,m,p,w,mo,y⟩ t (aI.size α) (.own d) (some (rows l)) (some (rows [x]))=if St.new ⟨g,cV d m,p,w,mo,y⟩ t then some (.own t,⟨g,aU (cV d m) t (.sl .row (aI.size α) (rows l++rows [x])),p,w,mo,y⟩)else none:=if_pos ⟨by omega,rfl⟩
  rw[h1,h2];simp[b_,Sl.k,Sl.l,rows]
 .have h1:fP (.row l) x=none:=if_neg h;have h2:tu ⟨g,m,p,w,mo,y⟩ t (aI.size α) (.own d) (some (rows l)) (some (rows [x]))=none:=if_neg (λq=>h (by omega))
  grind
theorem Lm (g:Tb SV) (p:List Nat) (w:List (List V)) (mo:Bool) (y:Nat) (t n:Nat) (x:α) (h:n=aI.size α):tu ⟨g,m,p,w,mo,y⟩ t n (.v .aR) (some []) (some (rows [x])) =
 if St.new ⟨g,m,p,w,mo,y⟩ t then some (.own t,⟨g,aU m t (b_ (.row [x])),p,w,mo,y⟩)else none:=by
 subst h;rfl
theorem Ko (g:Tb SV) (p:List Nat) (w:List (List V)) (mo:Bool) (y:Nat) (t n:Nat) (x:α) (h:n=aI.size α):tu ⟨g,m,p,w,mo,y⟩ t n (.v .ck) (some []) (some (rows [x])) =
 if St.new ⟨g,m,p,w,mo,y⟩ t then some (.own t,⟨g,aU m t (b_ (.row [x])),p,w,mo,y⟩)else none:=by
 subst h;rfl
end
theorem vW (g:Tb SV) (m:Tb aM) (p:List Nat) (w:List (List V)) (mo:Bool) (y d:Nat):St.new ⟨g,m,p,w,mo,y⟩ d=(!(p.contains d)&&(ai m d).isNone && !(tJ d g) && !(qK d m)):=rfl
theorem p_ (d:Nat):tJ d []=false:=rfl
theorem oA (d n:Nat) (x:SV) (r:Tb SV):tJ d ((n,x)::r)=(SV.bT d x||tJ d r):=rfl
theorem qz (d:Nat):qK d []=false:=rfl
theorem oJ (d n:Nat) (x:aM) (r:Tb aM):qK d ((n,x)::r)=(aM.bT d x||qK d r):=rfl
theorem wk (d:Nat) (x:V):SV.bT d (.v x)=false:=rfl
theorem rP (d e:Nat):SV.bT d (.own e)=(e==d):=rfl
theorem rQ (d e o:Nat):SV.bT d (.ptr e o)=(e==d):=rfl
theorem tY (d e i o:Nat):SV.bT d (.el e i o)=(e==d):=rfl
theorem ua (d e:Nat):SV.bT d (.mp e)=(e==d):=rfl
theorem rZ (d:Nat) (f:FuncId) (a b:List SV):SV.bT d (.clo f a b)=(SV.cB d a||SV.cB d b):=rfl
theorem rW (d:Nat) (l:List SV):SV.bT d (.tup l)=SV.cB d l:=rfl
theorem qn (d:Nat):SV.cB d []=false:=rfl
theorem oG (d:Nat) (x:SV) (r:List SV):SV.cB d (x::r)=(SV.bT d x||SV.cB d r):=rfl
theorem qy (d:Nat) (cs:List SV):aM.bT d (.box cs)=SV.cB d cs:=rfl
theorem CY (m:Tb aM) (n:Nat):bN m n []=some []:=by cases n <;> simp[bN]
theorem Bs (m:Tb aM) (n:Nat) (x:SV) (r:List SV):bN m n (x::r)=(shut m n x).bind λy=>(bN m n r).bind λs=>some (y::s):=by
 cases n <;> (simp[bN];cases shut m _ x <;> (try rfl) <;> (cases bN m _ r <;> rfl))
theorem Ru (m:Tb aM) (n:Nat) (x:V):shut m n (.v x)=some x:=by cases n <;> simp[shut]
theorem MZ (m:Tb aM) (n:Nat) (f:FuncId) (a b:List SV):shut m (n+1) (.clo f a b)=(bN m n a).bind λx=>(bN m n b).bind λy=>some (.clo f x y):=by
 simp[shut];cases bN m n a <;> (try rfl) <;> (cases bN m n b <;> rfl)
theorem LY (m:Tb aM) (n:Nat) (l:List SV):shut m (n+1) (.tup l)=(bN m n l).bind λx=>some (.tup x):=by
 simp[shut];cases bN m n l <;> rfl
theorem LO (m:Tb aM) (n:Nat) (l:List SV):shut m (n+1) (.agg l)=(bN m n l).bind λx=>some (.agg x):=by
 simp[shut];cases bN m n l <;> rfl
theorem rA {α:Type} (n:Nat):cV n ([]:Tb α)=[]:=rfl
theorem qb {α:Type} (n k:Nat) (x:α) (r:Tb α):cV n ((k,x)::r)=if k=n then cV n r else(k,x)::cV n r:=rfl
theorem mapM_nil (f:List SV->List SV):mapM f []=[]:=rfl
end Go.VE
namespace Go.VE
variable [aW]
section
variable {N:Nat->FuncId} {m:Tb aM}
theorem OL:result []=.tup []:=rfl
theorem Oi (x:V):result [x]=x:=rfl
theorem Ph (x y:V) (l:List V):result (x::y::l)=.tup (x::y::l):=rfl
theorem D3 (p:tC) (a:V):iK N m p [.v a]=(aq N p [a]).bind λx=>some (.v x):=G1 N m p _ [a] rfl
theorem wH (p:tC) (a b:V):iK N m p [.v a,.v b]=(aq N p [a,b]).bind λx=>some (.v x):=G1 N m p _ [a,b] rfl
theorem rC (l:List V):cG (l.map .v)=some l:=by
 induction l with
 | nil=>rfl
 | cons a l ih=>simp only[List.map_cons,cG,ih];rfl
theorem u7 (n:Nat) (l:List V):bN m n (l.map .v)=some l:=by
 induction l with
 | nil=>exact CY m n
 | cons a l ih=>rw[List.map_cons,Bs,Ru,ih];rfl
theorem Sl.NC {α:Type} (l:List α):(Sl.row l).l=l:=rfl
theorem qo (cs:List V):jt cs [] []=some cs:=rfl
theorem oI (cs:List V) (off size:Nat) (pl:List (Nat×Nat)) (v:V) (vs:List V):jt cs ((off,size)::pl) (v::vs) =
 if v.cells.length=size/\off+v.cells.length<=cs.length then jt (cs.take off++v.cells++cs.drop (off+v.cells.length)) pl vs else none:=by
 simp only[jt]
 by_cases h:v.cells.length=size <;> by_cases h2:off+v.cells.length<=cs.length
 .rw[if_neg (by simp[h];omega),if_pos ⟨h,h2⟩]
 .rw[if_pos (by simp[h];omega),if_neg (λq=>h2 q.2)]
 .rw[if_pos (by simp[h]),if_neg (λq=>h q.1)]
 .rw[if_pos (by simp[h]),if_neg (λq=>h q.1)]
theorem uy (k:IntKind) (n:Int):V.cells (.int k n)=[.int k n]:=rfl
theorem r_ (n:Bool):V.cells (.bool n)=[.bool n]:=rfl
theorem uF (n:ByteArray):V.cells (.str n)=[.str n]:=rfl
theorem uj:V.cells .aR=[.aR]:=rfl
theorem qa (k:IntKind) (n:Int):V.one (.int k n)=true:=rfl
theorem nX (n:Bool):V.one (.bool n)=true:=rfl
theorem qB (n:ByteArray):V.one (.str n)=true:=rfl
end
end Go.VE
namespace Go.VE
variable [aW]
section
variable {S:Sys} {c:br} {β γ δ:Type} {Q:Out×St->Option β} {L:Option β} {e:γ->Option β}
theorem Ki {dr:Bool} {fr:List Nat} {d:Option Nat} {gd:Option (Nat×Bool)} {now:Bool} {k:K} {az:List Arg} {st:St} (h:wanted st.g gd=some true) :
 dQ S c dr fr ⟨d,gd,now,k,az,[],[]⟩ st=dQ S c dr fr ⟨d,none,now,k,az,[],[]⟩ st:=by
 unfold dQ;rw[h];rfl
theorem Au (dr:Bool) (st:St):AB dr [] st=some st:=by cases dr <;> rfl
def mE (f:SV->Option V):List SV->Option (List V)
 | []=>some []
 | x::r=>(f x).bind λy=>(mE f r).bind λs=>some (y::s)
def gY (m:Tb aM):Nat->SV->Option V
 | 0,x=>match x with
  | .v y=>some y
  | .own d=>match ai m d with
   | some (.sl k es xs)=>some (mq k es xs)
   | _=>none
  | .mp d=>match ai m d with
   | some (.mp kvs)=>some (.fmap kvs)
   | _=>none
  | _=>none
 | n+1,x=>match x with
  | .v y=>some y
  | .own d=>match ai m d with
   | some (.sl k es xs)=>some (mq k es xs)
   | _=>none
  | .ptr d o=>match ai m d with
   | some (.box cs)=>match mE (gY m n) cs with
    | some xs=>if o<=xs.length then some (.fptr (xs.drop o))else none
    | none=>none
   | _=>none
  | .mp d=>match ai m d with
   | some (.mp kvs)=>some (.fmap kvs)
   | _=>none
  | .clo f a b=>(mE (gY m n) a).bind λx=>(mE (gY m n) b).bind λy=>some (.clo f x y)
  | .tup l=>(mE (gY m n) l).bind λx=>some (.tup x)
  | .agg l=>(mE (gY m n) l).bind λx=>some (.agg x)
  | _=>none
theorem zw (m:Tb aM):∀(n:Nat),(∀x,shut m n x=gY m n x)/\∀l,bN m n l=mE (gY m n) l:=by
 have hl:∀n,(∀x,shut m n x=gY m n x)->∀l,bN m n l=mE (gY m n) l:=by
  intro n h l
  induction l with
  | nil=>exact CY m n
  | cons a l ih=>rw[Bs,h a,ih];rfl
 intro n
 induction n with
 | zero=>
  have h0:∀x,shut m 0 x=gY m 0 x:=by
   intro x;cases x <;> simp[shut,gY] <;> rfl
  grind
 | succ n ih=>
  have h1:∀x,shut m (n+1) x=gY m (n+1) x:=by
   intro x
   cases x with
   | ptr d o=>simp[shut,gY,ih.2];rfl
   | clo f a b=>rw[MZ,ih.2,ih.2];rfl
   | tup l=>rw[LY,ih.2];rfl
   | agg l=>rw[LO,ih.2];rfl
   | _=>simp[shut,gY] <;> rfl
  grind
noncomputable def tj (S:Sys) (c:br) (dr:Bool):List Nat->List RO->(St->Option β)->St->Option β
 | _,[],k,st=>k st
 | fr,o::r,k,st=>((AB dr o.pre st).bind (dQ S c dr fr o.strip)).bind λst'=>tj S c dr (if dr then o6 fr o.strip else fr) r k (nL o.dead st')
theorem B0 (dr:Bool):∀(l:List RO) (fr:List Nat) (k:St->Option β) (st:St),tj S c dr fr l k st=(lB S c dr fr l st).bind k
 | [],_,_,_=>rfl
 | o::r,fr,k,st=>by
  simp[tj,lB]
  cases (AB dr o.pre st).bind (dQ S c dr fr o.strip)with
  | none=>rfl
  | some st'=>exact B0 dr r _ k _
noncomputable def nJ (S:Sys) (c:br):RC->(St->Option β)->(Nat->St->Option β)->(St->Option β)->St->Option β
 | .skip,n,_,_,st=>n st
 | .ops l,n,_,_,st=>tj S c false [] l n st
 | .nH l,n,_,_,st=>tj S c true [] l n st
 | .seq a b,n,x,r,st=>nJ S c a (λst=>nJ S c b n x r st) x r st
 | .cond y a b,n,x,r,st=>match oT S.N st.g y with
  | some (.v (.bool t))=>aj t (nJ S c a n x r st) (nJ S c b n x r st)
  | _=>none
 | .block id a,n,x,r,st=>nJ S c a n (λk st=>if k=id then n st else x k st) r st
 | .loop a,n,x,r,st=>(mH (bD S c a) st).bind λq=>match q with|(.norm,st)=>n st|(.exit k,st)=>x k st|(.ret,st)=>r st
 | .each g ps a b,n,x,r,st=>(bD S c (.each g ps a b) st).bind λq=>match q with|(.norm,st)=>n st|(.exit k,st)=>x k st|(.ret,st)=>r st
 | .exit k,_,x,_,st=>x k st
 | .ret,_,_,r,st=>r st
 | .gh g a,n,x,r,st=>(ghost g st).bind λst=>nJ S c a n x r st
 | .hg a g,n,x,r,st=>nJ S c a (λst=>(ghost g st).bind n) x r st
def BU (n:St->Option β) (x:Nat->St->Option β) (r:St->Option β):Out×St->Option β
 | (.norm,st)=>n st
 | (.exit k,st)=>x k st
 | (.ret,st)=>r st
theorem BQ:∀(rc:RC) (n:St->Option β) (x:Nat->St->Option β) (r:St->Option β) (st:St),nJ S c rc n x r st=(bD S c rc st).bind (BU n x r):=by
 intro rc
 induction rc with
 | skip=>intros;rfl
 | ops l=>intro n x r st;simp[nJ,bD,B0];cases lB S c false [] l st <;> rfl
 | nH l=>intro n x r st;simp[nJ,bD,B0];cases lB S c true [] l st <;> rfl
 | seq a b iha ihb=>
  intro n x r st;simp[nJ,bD,iha,ihb]
  cases h:bD S c a st with
  | none=>rfl
  | some q=>obtain⟨o,st'⟩:=q;cases o <;> rfl
 | cond y a b iha ihb=>
  intro n x r st;simp[nJ,bD,iha,ihb]
  cases oT S.N st.g y with
  | none=>rfl
  | some v=>cases v with
   | v z=>cases z with
    | bool t=>cases t <;> rfl
    | _=>rfl
   | _=>rfl
 | block id a ih=>
  intro n x r st;simp[nJ,bD,ih]
  cases h:bD S c a st with
  | none=>rfl
  | some q=>
   obtain⟨o,st'⟩:=q
   cases o with
   | exit k=>simp[BU];split <;> rfl
   | _=>rfl
 | loop a ih=>
  intro n x r st;rfl
 | each g ps a b iha ihb=>
  intro n x r st;rfl
 | exit k=>intros;rfl
 | ret=>intros;rfl
 | gh g a ih=>
  simp[nJ,bD,ih]
  grind
 | hg a g ih=>
  intro n x r st;simp[nJ,bD,ih]
  cases h:bD S c a st with
  | none=>rfl
  | some q=>
   obtain⟨o,st'⟩:=q
   cases o with
   | norm=>simp[BU];cases ghost g st' <;> rfl
   | _=>rfl
section
variable (S c Q)
mutual
noncomputable def kX:List Fm->St->Option β
 | []=>λst=>Q (.norm,st)
 | .seq b::fs=>λst=>nJ S c b (kX fs) (kY fs) (λst=>Q (.ret,st)) st
 | .blk _::fs=>kX fs
 | .gst g::fs=>λst=>(ghost g st).bind (kX fs)
noncomputable def kY:List Fm->Nat->St->Option β
 | []=>λk st=>Q (.exit k,st)
 | .seq _::fs=>kY fs
 | .blk id::fs=>λk st=>if k=id then kX fs st else kY fs k st
 | .gst _::fs=>kY fs
end
noncomputable def kD (rc:RC) (fs:List Fm) (st:St):Option β:=nJ S c rc (kX S c Q fs) (kY S c Q fs) (λst=>Q (.ret,st)) st
end
section
variable {dr:Bool} {fr:List Nat} {d:Nat} {dst:Option Nat} {now:Bool} {az:List Arg} {st:St} {α:Type} [aI α]
theorem NH {p:tC} {svs:List SV} {m:Option δ} {v:δ->SV} (hs:a_ S.N st.g az=some svs) (hi:isSlice p=false) (h:iK S.N st.m p svs=m.bind λx=>some (v x)) :
 dQ S c dr fr ⟨dst,none,now,.p p,az,[],[]⟩ st=m.bind λx=>some (b7 st dst (v x)):=by
 rw[Nv _ _ _ _ _ _ _ hi,hs]
 grind
theorem xT {p:tC} {svs:List SV} {v:SV} (hs:a_ S.N st.g az=some svs) (hi:isSlice p=false) (h:iK S.N st.m p svs=some v) :
 dQ S c dr fr ⟨dst,none,now,.p p,az,[],[]⟩ st=some (b7 st dst v):=by
 rw[Nv _ _ _ _ _ _ _ hi,hs]
 grind
theorem NU {n:Nat} {s:Sl α} {k:IntKind} {i:Int} (hs:a_ S.N st.g az=some [.v (bf s),.v (.int k i)]) (hn:n=aI.size α) :
 dQ S c dr fr ⟨dst,none,now,.p (.idxS n),az,[],[]⟩ st=(idx s i).bind λx=>some (b7 st dst (.v (.fptr (cells x)))):=
 NH hs rfl (by rw[wH,Cb s k i n hn];grind)
theorem Sv {n e:Nat} {s:Sl α} {k:IntKind} {i:Int} (hs:a_ S.N st.g az=some [.own e,.v (.int k i)]) (ho:ai st.m e=some (b_ s)) (hn:n=aI.size α) :
 dQ S c dr fr ⟨dst,none,now,.p (.idxS n),az,[],[]⟩ st=(s.mw i).bind λj=>some (b7 st dst (.el e j 0)):=
 NH hs rfl (by rw[Pj,ho,OZ n e s i hn])
theorem N7 {s:Sl α} (hs:a_ S.N st.g az=some [.v (bf s)]):dQ S c dr fr ⟨dst,none,now,.p .lenSl,az,[],[]⟩ st=some (b7 st dst (.v (.int .i64 s.l.length))):=
 xT hs rfl (by rw[D3,wC];rfl)
theorem QA {e:Nat} {s:Sl α} (hs:a_ S.N st.g az=some [.own e]) (ho:ai st.m e=some (b_ s)):dQ S c dr fr ⟨dst,none,now,.p .lenSl,az,[],[]⟩ st=some (b7 st dst (.v (.int .i64 s.l.length))):=
 xT hs rfl (by rw[LL,ho,O2])
theorem OU {u:Option Nat} {s:Sl α} (hs:a_ S.N st.g az=some [.v (bf s),.v .aR]):dQ S c dr fr ⟨dst,none,now,.p (.bin (some .slice) u .eql),az,[],[]⟩ st=s.isNil.bind λt=>some (b7 st dst (.v (.bool t))):=
 NH hs rfl (by rw[wH,Nn];grind)
theorem Mx {s:ByteArray} {k:IntKind} {n:Int} (hs:a_ S.N st.g az=some [.v (.str s),.v (.int k n)]):dQ S c dr fr ⟨dst,none,now,.p .idxStr,az,[],[]⟩ st=(jy s n).bind λx=>some (b7 st dst (.v (.int .u8 x))):=
 NH hs rfl (by rw[wH,JJ];grind)
theorem Rk {n e i o:Nat} {a:Bool} {s:Sl α} {v:α->V} (hs:a_ S.N st.g az=some [.el e i o]) (hd:(!dr||now||dN fr [.el e i o])=true) (ho:ai st.m e=some (b_ s)) (hv:∀x:α,(cut (cells x) o n).bind (mk a)=some (v x)) :
 dQ S c dr fr ⟨dst,none,now,.r (.load n a),az,[],[]⟩ st=(s.get i).bind λx=>some (b7 st dst (.v (v x))):=by
 rw[DR,hs];simp only[ζb,hd,S8,ho,K1]
 cases s.get i with
 | none=>rfl
 | some x=>
  cases hc:cut (cells x) o n with
  | none=>grind
  | some r=>grind
theorem PW {n e i:Nat} {s:Sl α} {x:V} {a:α} (hs:a_ S.N st.g az=some [.el e i 0,.v x]) (hd:(!dr||now)=true) (ho:ai st.m e=some (b_ s)) (hx:x.cells=cells a) (hn:n=aI.size α) :
 dQ S c dr fr ⟨dst,none,now,.l (.store n),az,[],[]⟩ st=(s.put i a).bind λs'=>some (b7 { st with m:=aU st.m e (b_ s') } dst (.v .undef)):=by
 rw[qW,hs];simp[hd,Is,ho];rw[IN st.g st.pin st.want st.more st.yid e i n x a hx hn s]
 grind
theorem Q4 {n:Nat} {z:α} {zero:List V} {i:Int} (hs:a_ S.N st.g az=some [.v (.int .i64 i),.v (.int .i64 i)]) (hz:zero=cells z) (hn:n=aI.size α) (hw:st.new d=true) :
 dQ S c dr fr ⟨some d,none,now,.a (.makeSl n zero),az,[],[]⟩ st=(tw i z).bind λs=>some { st with g:=aU st.g d (.own d),m:=aU st.m d (b_ s) }:=by
 rw[BC,hs];simp[hw];rw[SJ z i d n zero hz hn]
 grind
theorem Tc {n e u:Nat} {s:Sl α} {x:α} (hs:a_ S.N st.g az=some [.own e,.own u]) (hd:(!dr||now)=true) (ho:ai st.m e=some (b_ s)) (hu:ai st.m u=some (b_ (.row [x]))) (hn:n=aI.size α) (hw:St.new { st with m:=cV e st.m } d=true) :
 dQ S c dr fr ⟨some d,none,now,.l (.append n),az,[],[]⟩ st=(fP s x).bind λs'=>some { st with g:=aU st.g d (.own d),m:=aU (cV e st.m) d (b_ s') }:=by
 rw[qW,hs];simp[hd,uS,B4,ho,hu];rw[zA n s hn,zA n (.row [x]) hn];have:=KC (m:=st.m) st.g st.pin st.want st.more st.yid d n e s.l x hn;simp[Sl.NC];rw[this];have ha:fP (.row s.l) x=fP s x:=by cases s <;> rfl
 rw[ha]
 cases fP s x with
 | none=>rfl
 | some s'=>
  simp;rw[if_pos hw];rfl
theorem QV {n u:Nat} {x:α} {v:V} (hv:v=.aR\/v=.ck) (hs:a_ S.N st.g az=some [.v v,.own u]) (hd:(!dr||now)=true) (hu:ai st.m u=some (b_ (.row [x]))) (hn:n=aI.size α) (hw:st.new d=true) :
 dQ S c dr fr ⟨some d,none,now,.l (.append n),az,[],[]⟩ st=some { st with g:=aU st.g d (.own d),m:=aU st.m d (b_ (.row [x])) }:=by
 rw[qW,hs];simp[hd,uS,B4,hu];rw[zA n (.row [x]) hn];simp[Sl.NC];rcases hv with rfl|rfl
 .rw[Pz,Lm (m:=st.m) st.g st.pin st.want st.more st.yid d n x hn];rw[if_pos hw];rfl
 .rw[O7,Ko (m:=st.m) st.g st.pin st.want st.more st.yid d n x hn];rw[if_pos hw];rfl
theorem Qx {f:FuncId} {svs args:List SV} {cs:List V} {m:Option δ} {E:δ->List V} (hc:lU c f cs=m.bind λr=>some (E r)) (hk:S.E.keep f=false) (hs:a_ S.N st.g az=some svs) (hf:oM svs=some (f,args))
 (hsh:mE (gY st.m 8) args=some cs) (hl:V.b8 8 cs=true) (ho:((!dr||now)||gw st.m fr args)=true) (hr:∀r,(V.lvl 8 (result (E r))&&((result (E r)).scalar||(cG args).isSome))=true) :
 dQ S c dr fr ⟨dst,none,now,.c,az,[],[]⟩ st=m.bind λr=>some (b7 st dst (.v (result (E r)))):=by
 rw[NY dr fr dst now az st svs f args hs hf,PR _ _ _ _ _ _ _ hk,(zw st.m 8).2,hsh];simp[hl,ho,hc]
 cases m with
 | none=>rfl
 | some r=>
  simp[Li]
  grind
end
end
end Go.VE
namespace Go.VE
variable [aW]
section
variable {S:Sys} {c:br} {β γ:Type} {Q:Out×St->Option β} {L:Option β} {e:γ->Option β}
theorem sq (rc:RC) (st:St):kD S c Q rc [] st=(bD S c rc st).bind Q:=by
 unfold kD;rw[BQ]
 congr 1
 funext q;obtain⟨o,st⟩:=q
 cases o <;> rfl
theorem zu (rc:RC) (st:St):bD S c rc st=kD S c some rc [] st:=by
 rw[sq];cases bD S c rc st <;> rfl
def pO (rs:List RV):Out×St->Option (List V)
 | (.exit _,_)=>none
 | (_,st)=>(mJ st rs).bind (mE (gY st.m 8))
theorem PA (rs:List RV):FP rs=pO rs:=by
 funext q;obtain⟨o,st⟩:=q
 cases o
 .simp only[FP,pO];congr 1;funext l;exact(zw st.m 8).2 l
 .rfl
 .simp only[FP,pO];congr 1;funext l;exact(zw st.m 8).2 l
theorem OP {S:Sys} {T:qg} {f:FuncId} {rf:RF} (hT:T f=some rf) (az:List V) (hn:az.length<=rf.na):lU (dA S T) f az=kD S (dA S T) (pO rf.rs) rf.body [] (start (az.map .v) []):=by
 rw[Ni hT az hn,<-Er,sq,PA]
end
end Go.VE
namespace Go.VE
variable [aW]
def mL {α σ ε ρ:Type} (step:α->σ->Option (Fw σ ε ρ)):List α->σ->Option (Fw σ ε ρ)
 | [],s=>some (.n s)
 | x::xs,s=>(step x s).bind λw=>match w with
  | .n s'=>mL step xs s'
  | .x e=>some (.x e)
  | .r b=>some (.r b)
def Fw.u5 {ν ε ρ γ:Type} (fn:ν->γ) (fx:ε->γ) (fr:ρ->γ):Fw ν ε ρ->γ
 | .n a=>fn a
 | .x e=>fx e
 | .r b=>fr b
def Fw.uD {ν ε ρ:Type} (eν:ν->Tb aM) (eε:ε->Nat×Tb aM) (eρ:ρ->Tb aM):Fw ν ε ρ->Out×Tb aM
 | .n a=>(.norm,eν a)
 | .x e=>(.exit (eε e).1,(eε e).2)
 | .r b=>(.ret,eρ b)
def uD (q:Out×St):Option (Out×Tb aM):=some (q.1,q.2.m)
section
variable {S:Sys} {c:br} {β γ:Type} {Q:Out×St->Option β} {L:Option β} {e:γ->Option β}
noncomputable def wE (S:Sys) (c:br) (b:RC):Out×St->Option (Out×Tb aM)
 | (.norm,st)=>kD S c uD b [] st
 | _=>none
theorem HY (ps:List Nat) (a b:RC) (st:St) (x:List V) (m:Tb aM) (hx:x.length=ps.length) :
 gJ ps (bD S c a) (bD S c b) st x m=kD S c (wE S c b) a [] ⟨vi st.g ps (x.map .v),m,st.pin++oh st.g,[],true,0⟩:=by
 unfold gJ;rw[if_pos hx,sq]
 cases bD S c a ⟨vi st.g ps (x.map .v),m,st.pin++oh st.g,[],true,0⟩with
 | none=>rfl
 | some q=>
  obtain⟨o,st1⟩:=q
  cases o with
  | norm=>
   simp only[ζb,wE];rw[sq];cases bD S c b st1 <;> rfl
  | _=>rfl
end
end Go.VE
namespace Go.VE
variable [aW]
def Le {α:Type} (a b:Option α):Prop:=∀r,a=some r->b=some r
section
variable {α:Type}
theorem Le.refl (a:Option α):Le a a:=λ_ h=>h
theorem Le.of_eq {a b:Option α} (h:b=a):Le a b:=λ_ h2=>h.trans h2
theorem Le.trans {a b d:Option α} (h1:Le a b) (h2:Le b d):Le a d:=λr h=>h2 r (h1 r h)
theorem Le.none (b:Option α):Le (none:Option α) b:=λr h=>by cases h
theorem Le.bind {β:Type} {a b:Option α} {f g:α->Option β} (h:Le a b) (hf:∀x,Le (f x) (g x)):Le (a.bind f) (b.bind g):=λr hr=>by
 obtain⟨x,h1,h2⟩:=ζg.1 hr;rw[h x h1];exact hf x r h2
end
section
variable {S:Sys} {c:br} {β γ δ:Type} {Q:Out×St->Option β} {L:Option β} {e:γ->Option β}
theorem E3 {dr:Bool} {fr:List Nat} {dst:Option Nat} {now:Bool} {az:List Arg} {st:St} {f:FuncId} {svs args:List SV} {cs:List V} {m:Option δ} {E:δ->List V} (hc:Le (m.bind λr=>some (E r)) (lU c f cs)) (hk:S.E.keep f=false) (hs:a_ S.N st.g az=some svs) (hf:oM svs=some (f,args))
 (hsh:mE (gY st.m 8) args=some cs) (hl:V.b8 8 cs=true) (ho:((!dr||now)||gw st.m fr args)=true) (hr:∀r,(V.lvl 8 (result (E r))&&((result (E r)).scalar||(cG args).isSome))=true) :
 Le (m.bind λr=>some (b7 st dst (.v (result (E r))))) (dQ S c dr fr ⟨dst,none,now,.c,az,[],[]⟩ st):=by
 intro q hq;obtain⟨r,h1,h2⟩:=ζg.1 hq;have hc':lU c f cs=(some r).bind λr=>some (E r):=hc _ (by rw[h1];rfl)
 rw[Qx (m:=some r) hc' hk hs hf hsh hl ho hr];exact h2
theorem LB {σ ε ρ:Type} {f:St->Option (Out×St)} {step:σ->Option (Fw σ ε ρ)} {eσ:σ->St} {eε:ε->Nat×St} {eρ:ρ->St} (h:∀s,Le ((step s).bind λw=>some (Fw.out eσ eε eρ w)) (f (eσ s))) (s:σ) :
 Le ((aK step s).bind λw=>some (Fw.out (λe=>Empty.elim e) eε eρ w)) (mH f (eσ s)):=by
 have key:∀k s r,iD step k s=some r->gZ f k (eσ s)=some (Fw.out (λe=>Empty.elim e) eε eρ r):=by
  intro k
  induction k with
  | zero=>intro s r h;simp[iD]at h
  | succ k ih=>
   intro s r hw;simp only[iD]at hw
   cases hs:step s with
   | none=>rw[hs]at hw;cases hw
   | some w=>
    rw[hs]at hw;have h2:=h s (Fw.out eσ eε eρ w) (by rw[hs];rfl)
    simp only[gZ,h2]
    cases w with
    | n a=>exact ih a r hw
    | x e=>cases hw;rfl
    | r b=>cases hw;rfl
 intro r hr;obtain⟨w,h1,h2⟩:=ζg.1 hr;obtain⟨k,hk⟩:=mj.1 h1;cases h2;exact lg.2 ⟨k,key k s w hk⟩
theorem Sq {σ ε ρ:Type} {a:RC} {fs:List Fm} {step:σ->Option (Fw σ ε ρ)} {eσ:σ->St} {eε:ε->Nat×St} {eρ:ρ->St} {s:σ} {fx:ε->Option γ} {fr:ρ->Option γ}
 (hL:L=kD S c Q (.loop a) fs (eσ s)) (h:∀s,Le ((step s).bind λw=>some (Fw.out eσ eε eρ w)) (kD S c some a [] (eσ s)))
 (hx:∀x,Le ((fx x).bind e) (kY S c Q fs (eε x).1 (eε x).2)) (hr:∀b,Le ((fr b).bind e) (Q (.ret,eρ b))):Le (((aK step s).bind (Fw.elim fx fr)).bind e) L:=by
 subst hL;have h1:kD S c Q (.loop a) fs (eσ s)=(mH (bD S c a) (eσ s)).bind (BU (kX S c Q fs) (kY S c Q fs) (λst=>Q (.ret,st))):=by
  unfold kD;rw[BQ];rfl
 rw[h1];have h2:=LB (step:=step) (f:=bD S c a) (eσ:=eσ) (eε:=eε) (eρ:=eρ) (λs=>by rw[zu];exact h s) s
 cases hw:aK step s with
 | none=>exact Le.none _
 | some w=>
  have h3:=h2 _ (by rw[hw];rfl)
  rw[h3]
  cases w with
  | n a=>cases a
  | x a=>exact hx a
  | r a=>exact hr a
theorem Fp {α σ ε ρ:Type} {f:List V->Tb aM->Option (Out×Tb aM)} {step:α->σ->Option (Fw σ ε ρ)} {eI:α->List V} {eσ:σ->Tb aM} {eε:ε->Nat×Tb aM} {eρ:ρ->Tb aM}
 (h:∀x s,Le ((step x s).bind λw=>some (Fw.uD eσ eε eρ w)) (f (eI x) (eσ s))):∀(xs:List α) (s:σ),Le ((mL step xs s).bind λw=>some (Fw.uD eσ eε eρ w)) (oN f (xs.map eI) (eσ s))
 | [],s=>λr hr=>hr
 | x::xs,s=>by
  simp only[List.map_cons,oN,mL]
  cases hs:step x s with
  | none=>exact Le.none _
  | some w=>
   have h2:=h x s (Fw.uD eσ eε eρ w) (by rw[hs];rfl)
   rw[h2]
   cases w with
   | n s'=>simp only[ζb,Fw.uD];exact Fp h xs s'
   | x e=>exact Le.refl _
   | r b=>exact Le.refl _
theorem Sa {α σ ε ρ:Type} {g:Arg} {ps:List Nat} {a b:RC} {fs:List Fm} {f:FuncId} {x y:List V} {items:List α} {eI:α->List V} {step:α->σ->Option (Fw σ ε ρ)} {eσ:σ->Tb aM} {eε:ε->Nat×Tb aM} {eρ:ρ->Tb aM} {gt:Tb SV} {s:σ}
 {fn:σ->Option γ} {fx:ε->Option γ} {fr:ρ->Option γ}
 (hL:L=kD S c Q (.each g ps a b) fs ⟨gt,eσ s,[],[],true,0⟩) (hg:oT S.N gt g=some (.v (.clo f x y))) (hi:S.items f x y=some (items.map eI)) (hl:∀x,(eI x).length=ps.length)
 (h:∀x s,Le ((step x s).bind λw=>some (Fw.uD eσ eε eρ w)) (kD S c (wE S c b) a [] ⟨vi gt ps ((eI x).map .v),eσ s,oh gt,[],true,0⟩))
 (hn:∀s,Le ((fn s).bind e) (kX S c Q fs ⟨gt,eσ s,[],[],true,0⟩))
 (hx:∀x,Le ((fx x).bind e) (kY S c Q fs (eε x).1 ⟨gt,(eε x).2,[],[],true,0⟩)) (hr:∀b,Le ((fr b).bind e) (Q (.ret,⟨gt,eρ b,[],[],true,0⟩))) :
 Le (((mL step items s).bind (Fw.u5 fn fx fr)).bind e) L:=by
 subst hL;have h1:kD S c Q (.each g ps a b) fs ⟨gt,eσ s,[],[],true,0⟩=(bD S c (.each g ps a b) ⟨gt,eσ s,[],[],true,0⟩).bind (BU (kX S c Q fs) (kY S c Q fs) (λst=>Q (.ret,st))):=by
  unfold kD;rw[BQ]
 rw[h1];simp only[bD,hg,hi];have h2:=Fp (step:=step) (f:=gJ ps (bD S c a) (bD S c b) ⟨gt,eσ s,[],[],true,0⟩) (eI:=eI) (eσ:=eσ) (eε:=eε) (eρ:=eρ) (λx s=>by rw[HY _ _ _ _ _ _ (hl x)];exact h x s) items s
 cases hw:mL step items s with
 | none=>exact Le.none _
 | some w=>
  have h3:=h2 _ (by rw[hw];rfl)
  rw[h3]
  cases w with
  | n a=>exact hn a
  | x a=>exact hx a
  | r a=>exact hr a
end
end Go.VE
namespace Go.VE
variable [aW]
inductive Fo where
 | rc (c:RC)
 | ops (dr:Bool) (fr:List Nat) (l:List RO)
 | nx
 | ex (k:Nat)
 | rt
abbrev aH (g:Tb SV) (m:Tb aM):St:=⟨g,m,[],[],true,0⟩
section
variable (S:Sys) (c:br) {β:Type} (Q:Out×St->Option β)
noncomputable def rn:Fo->List Fm->St->Option β
 | .rc a,fs,st=>kD S c Q a fs st
 | .ops dr fr l,fs,st=>tj S c dr fr l (kX S c Q fs) st
 | .nx,fs,st=>kX S c Q fs st
 | .ex k,fs,st=>kY S c Q fs k st
 | .rt,_,st=>Q (.ret,st)
noncomputable def wz:Fo->List Fm->St->Option (Fo×List Fm×St)
 | .rc .skip,fs,st=>some (.nx,fs,st)
 | .rc (.ops l),fs,st=>some (.ops false [] l,fs,st)
 | .rc (.nH l),fs,st=>some (.ops true [] l,fs,st)
 | .rc (.seq a b),fs,st=>some (.rc a,.seq b::fs,st)
 | .rc (.cond y a b),fs,st=>match oT S.N st.g y with
  | some (.v (.bool true))=>some (.rc a,fs,st)
  | some (.v (.bool false))=>some (.rc b,fs,st)
  | _=>none
 | .rc (.block id a),fs,st=>some (.rc a,.blk id::fs,st)
 | .rc (.exit k),fs,st=>some (.ex k,fs,st)
 | .rc .ret,fs,st=>some (.rt,fs,st)
 | .rc (.gh g a),fs,st=>match ghost g st with
  | some st'=>some (.rc a,fs,st')
  | none=>none
 | .rc (.hg a g),fs,st=>some (.rc a,.gst g::fs,st)
 | .rc (.loop _),_,_=>none
 | .rc (.each ..),_,_=>none
 | .ops _ _ [],fs,st=>some (.nx,fs,st)
 | .ops dr fr (⟨d,gd,now,k,az,dd,[]⟩::r),fs,st=>match dQ S c dr fr ⟨d,gd,now,k,az,[],[]⟩ st with
  | some st'=>some (.ops dr (if dr then o6 fr ⟨d,gd,now,k,az,[],[]⟩else fr) r,fs,nL dd st')
  | none=>none
 | .ops dr fr (⟨d,gd,now,k,az,dd,x::xs⟩::r),fs,st=>if dr && !(yx x&&xs.all yx)then none else match ghost x st with
  | some st'=>some (.ops dr fr (⟨d,gd,now,k,az,dd,xs⟩::r),fs,st')
  | none=>none
 | .nx,.seq b::fs,st=>some (.rc b,fs,st)
 | .nx,.blk _::fs,st=>some (.nx,fs,st)
 | .nx,.gst g::fs,st=>match ghost g st with
  | some st'=>some (.nx,fs,st')
  | none=>none
 | .nx,[],_=>none
 | .ex k,.seq _::fs,st=>some (.ex k,fs,st)
 | .ex k,.blk id::fs,st=>some (if k=id then .nx else .ex k,fs,st)
 | .ex k,.gst _::fs,st=>some (.ex k,fs,st)
 | .ex _,[],_=>none
 | .rt,_,_=>none
noncomputable def fW:Nat->Fo->List Fm->St->Option (Fo×List Fm×St)
 | 0,fo,fs,st=>some (fo,fs,st)
 | n+1,fo,fs,st=>match wz S c fo fs st with
  | some (fo',fs',st')=>fW n fo' fs' st'
  | none=>none
end
section
variable {S:Sys} {c:br} {β γ δ:Type} {Q:Out×St->Option β} {e:γ->Option β}
theorem L_ {fo fo':Fo} {fs fs':List Fm} {st st':St} (h:wz S c fo fs st=some (fo',fs',st')):rn S c Q fo fs st=rn S c Q fo' fs' st':=by
 cases fo with
 | rc a=>
  cases a with
  | cond y a b=>
   simp only[wz]at h;split at h
   .rename_i hs;cases h;simp only[rn,kD,nJ,hs,aj,if_true]
   .rename_i hs;cases h;simp only[rn,kD,nJ,hs,aj];rfl
   .cases h
  | gh g a=>
   simp only[wz]at h;split at h
   .rename_i hs;cases h;simp only[rn,kD,nJ,hs,ζb]
   .cases h
  | loop a=>cases h
  | each g ps a b=>cases h
  | seq a b=>cases h;simp only[rn,kD,nJ,kX,kY]
  | block id a=>cases h;simp only[rn,kD,nJ,kX,kY]
  | hg a g=>cases h;simp only[rn,kD,nJ,kX,kY]
  | _=>cases h;simp only[rn,kD,nJ]
 | ops dr fr l=>
  cases l with
  | nil=>cases h;simp only[rn,tj]
  | cons o r=>
   obtain⟨d,gd,now,k,az,dd,pre⟩:=o
   cases pre with
   | nil=>
    simp only[wz]at h;split at h
    .rename_i hs;cases h;simp only[rn,tj,Au,RO.strip,ζb,hs]
    .cases h
   | cons x xs=>
    simp only[wz]at h;split at h
    .cases h
    rename_i hd;split at h
    .rename_i hs;cases h
     cases dr with
     | true=>
      simp only[Bool.true_and,Bool.not_eq_true',Bool.not_eq_false,ζh]at hd;simp only[rn,tj,RO.strip,AB,mQ,if_true,List.all_cons,hd.1,hd.2,Bool.and_self,hs,ζb]
     | false=>simp only[rn,tj,RO.strip,AB,mQ,Bool.false_eq_true,if_false,hs,ζb]
    .cases h
 | nx=>
  cases fs with
  | nil=>cases h
  | cons f fs=>
   cases f with
   | seq b=>cases h;simp only[rn,kD,kX]
   | blk id=>cases h;simp only[rn,kX]
   | gst g=>
    simp only[wz]at h;split at h
    .rename_i hs;cases h;simp only[rn,kX,hs,ζb]
    .cases h
 | ex k=>
  cases fs with
  | nil=>cases h
  | cons f fs=>
   cases f with
   | seq b=>cases h;simp only[rn,kY]
   | blk id=>
    cases h;simp only[rn,kY]
    by_cases hk:k=id
    .simp only[if_pos hk,rn]
    .simp only[if_neg hk,rn]
   | gst g=>cases h;simp only[rn,kY]
 | rt=>cases h
theorem mO:∀{n:Nat} {fo fo':Fo} {fs fs':List Fm} {st st':St},fW S c n fo fs st=some (fo',fs',st')->rn S c Q fo fs st=rn S c Q fo' fs' st'
 | 0,fo,fo',fs,fs',st,st',h=>by cases h;rfl
 | n+1,fo,fo',fs,fs',st,st',h=>by
  simp only[fW]at h;split at h
  .rename_i a b d hs;rw[L_ hs];exact mO h
  .cases h
theorem BY {n:Nat} {fo fo':Fo} {fs fs':List Fm} {st st':St} {m:Option β} (h:fW S c n fo fs st=some (fo',fs',st')) (h2:Le m (rn S c Q fo' fs' st')):Le m (rn S c Q fo fs st):=by
 rw[mO h];exact h2
theorem TJ {n:Nat} {fo fo':Fo} {fs fs':List Fm} {st st':St} {r:γ} (h:fW S c n fo fs st=some (fo',fs',st')) (h2:rn S c Q fo' fs' st'=e r):Le ((some r).bind e) (rn S c Q fo fs st):=by
 rw[mO h];exact Le.of_eq h2
theorem NW {m:Option δ} {f:δ->Option γ} {L:Option β} (k:δ->Option β) (h2:Le (m.bind k) L) (h1:∀r,Le ((f r).bind e) (k r)):Le ((m.bind f).bind e) L:=by
 intro r hr
 cases m with
 | none=>cases hr
 | some x=>exact h2 r (h1 x r hr)
theorem Tz {n:Nat} {fo:Fo} {fs fs':List Fm} {st0:St} {dr:Bool} {q l:List RO} {fr:List Nat} {st:St} {d:Option Nat} {gd:Option (Nat×Bool)} {now:Bool} {k:K} {az:List Arg} {dd:List Nat} {m:Option δ} {g:δ->St} {f:δ->Option γ}
 (hL:fW S c n fo fs st0=some (.ops dr fr q,fs',st)) (hq:q=⟨d,gd,now,k,az,dd,[]⟩::l) (hg:wanted st.g gd=some true)
 (hs:Le (m.bind λx=>some (g x)) (dQ S c dr fr ⟨d,none,now,k,az,[],[]⟩ st))
 (h:∀x,m=some x->Le ((f x).bind e) (rn S c Q (.ops dr (if dr then o6 fr ⟨d,gd,now,k,az,[],[]⟩else fr) l) fs' (nL dd (g x)))):Le ((m.bind f).bind e) (rn S c Q fo fs st0):=by
 rw[mO hL];subst hq;simp only[rn,tj,RO.strip,Au,ζb];rw[Ki hg]
 cases m with
 | none=>exact Le.none _
 | some x=>rw[hs (g x) rfl];exact h x rfl
theorem NA {n:Nat} {fo:Fo} {fs fs':List Fm} {st0:St} {dr:Bool} {q l:List RO} {fr:List Nat} {st st':St} {d:Option Nat} {gd:Option (Nat×Bool)} {now:Bool} {k:K} {az:List Arg} {dd:List Nat} {m:Option β}
 (hL:fW S c n fo fs st0=some (.ops dr fr q,fs',st)) (hq:q=⟨d,gd,now,k,az,dd,[]⟩::l) (hg:wanted st.g gd=some true)
 (hs:dQ S c dr fr ⟨d,none,now,k,az,[],[]⟩ st=some st')
 (h:Le m (rn S c Q (.ops dr (if dr then o6 fr ⟨d,gd,now,k,az,[],[]⟩else fr) l) fs' (nL dd st'))):Le m (rn S c Q fo fs st0):=by
 rw[mO hL];subst hq;simp only[rn,tj,RO.strip,Au,ζb];rw[Ki hg,hs];exact h
theorem Jz {n:Nat} {fo:Fo} {fs0:List Fm} {st:St} {σ ε ρ:Type} {a:RC} {fs:List Fm} {step:σ->Option (Fw σ ε ρ)} {eσ:σ->St} {eε:ε->Nat×St} {eρ:ρ->St} {s:σ} {fx:ε->Option γ} {fr:ρ->Option γ}
 (hL:fW S c n fo fs0 st=some (.rc (.loop a),fs,eσ s)) (h:∀s,Le ((step s).bind λw=>some (Fw.out eσ eε eρ w)) (rn S c some (.rc a) [] (eσ s)))
 (hx:∀x,Le ((fx x).bind e) (rn S c Q (.ex (eε x).1) fs (eε x).2)) (hr:∀b,Le ((fr b).bind e) (Q (.ret,eρ b))):Le (((aK step s).bind (Fw.elim fx fr)).bind e) (rn S c Q fo fs0 st):=by
 rw[mO hL];exact Sq (L:=rn S c Q (.rc (.loop a)) fs (eσ s)) rfl h hx hr
theorem QH {n:Nat} {fo:Fo} {fs0:List Fm} {st:St} {α σ ε ρ:Type} {g:Arg} {ps:List Nat} {a b:RC} {fs:List Fm} {f:FuncId} {x y:List V} {items:List α} {eI:α->List V} {step:α->σ->Option (Fw σ ε ρ)} {eσ:σ->Tb aM} {eε:ε->Nat×Tb aM} {eρ:ρ->Tb aM} {gt:Tb SV} {s:σ}
 {fn:σ->Option γ} {fx:ε->Option γ} {fr:ρ->Option γ}
 (hL:fW S c n fo fs0 st=some (.rc (.each g ps a b),fs,aH gt (eσ s))) (hg:oT S.N gt g=some (.v (.clo f x y))) (hi:S.items f x y=some (items.map eI)) (hl:∀x,(eI x).length=ps.length)
 (h:∀x s,Le ((step x s).bind λw=>some (Fw.uD eσ eε eρ w)) (rn S c (wE S c b) (.rc a) [] ⟨vi gt ps ((eI x).map .v),eσ s,oh gt,[],true,0⟩))
 (hn:∀s,Le ((fn s).bind e) (rn S c Q .nx fs (aH gt (eσ s))))
 (hx:∀x,Le ((fx x).bind e) (rn S c Q (.ex (eε x).1) fs (aH gt (eε x).2))) (hr:∀b,Le ((fr b).bind e) (Q (.ret,aH gt (eρ b)))) :
 Le (((mL step items s).bind (Fw.u5 fn fx fr)).bind e) (rn S c Q fo fs0 st):=by
 rw[mO hL];exact Sa (L:=rn S c Q (.rc (.each g ps a b)) fs (aH gt (eσ s))) rfl hg hi hl h hn hx hr
theorem RQ {b:RC} {st st':St} {m:Option (Out×Tb aM)} {fs:List Fm} {n:Nat} {fo:Fo} (h:fW S c n fo fs st=some (.nx,[],st')) (h2:Le m (rn S c uD (.rc b) [] st')):Le m (rn S c (wE S c b) fo fs st):=by
 rw[mO h];exact h2
theorem SK {α:Type} {n:Nat} {fo fo':Fo} {fs fs':List Fm} {st:St} {A:Option α->St} {o:Option α} {f:α->Option γ} (h:fW S c n fo fs st=some (fo',fs',A o))
 (h2:∀x,o=some x->Le ((f x).bind e) (rn S c Q fo' fs' (A (some x)))):Le ((o.bind f).bind e) (rn S c Q fo fs st):=by
 rw[mO h]
 cases o with
 | none=>exact Le.none _
 | some x=>exact h2 x rfl
theorem TA {T:qg} {f:FuncId} {rf:RF} {az:List V} {m:Option (List V)} (hT:T f=some rf) (hn:az.length<=rf.na) (h:Le m (rn S (dA S T) (pO rf.rs) (.rc rf.body) [] (start (az.map .v) []))):Le m (lU (dA S T) f az):=by
 rw[OP hT az hn];exact h
end
section
variable {α:Type} [aI α]
abbrev cv (x:α):SV:=.v (enc x)
abbrev cp (x:α):SV:=.v (.fptr (cells x))
abbrev bx (x:α):aM:=.box ((cells x).map .v)
end
end Go.VE
namespace Go.VE
variable [aW]
structure mm (S:Sys) (c:br) {α δ:Type} (fn:FuncId) (A:α->List V) (E:δ->List V) (p:α->Option δ) (sc:Bool):Prop where
 k:S.E.keep fn=false
 h:∀z,Le ((p z).bind λr=>some (E r)) (lU c fn (A z))
 l:∀z,V.b8 8 (A z)=true
 r:∀r,V.lvl 8 (result (E r))=true
 s:sc=true->∀r,(result (E r)).scalar=true
section
variable {S:Sys} {c:br} {β γ δ α:Type} {Q:Out×St->Option β} {e:γ->Option β} {fo:Fo} {fs:List Fm} {st0:St} {l:List RO} {d:Option Nat} {gd:Option (Nat×Bool)} {now:Bool} {az:List Arg} {dd:List Nat}
noncomputable abbrev q_ (S:Sys) (c:br) (Q:Out×St->Option β) (dr:Bool) (fr:List Nat) (d:Option Nat) (k:K) (l:List RO) (fs:List Fm) (dd:List Nat) (st:St):Option β:=
 rn S c Q (.ops dr (if dr then(match k with|.p _|.r _=>fr|_=>match d with|some d=>d::fr|none=>fr)else fr) l) fs (nL dd st)
theorem CD (fr:List Nat) (k:K):o6 fr ⟨d,gd,now,k,az,[],[]⟩=(match k with|.p _|.r _=>fr|_=>match d with|some d=>d::fr|none=>fr):=by
 cases k <;> cases d <;> rfl
theorem Cq {n:Nat} {dr:Bool} {fr:List Nat} {q:List RO} {fs':List Fm} {st:St} {k:K} {m:Option δ} {g:δ->St} {f:δ->Option γ}
 (hL:fW S c n fo fs st0=some (.ops dr fr q,fs',st)) (hq:q=⟨d,gd,now,k,az,dd,[]⟩::l) (hg:wanted st.g gd=some true)
 (hs:Le (m.bind λx=>some (g x)) (dQ S c dr fr ⟨d,none,now,k,az,[],[]⟩ st))
 (h:∀x,m=some x->Le ((f x).bind e) (q_ S c Q dr fr d k l fs' dd (g x))):Le ((m.bind f).bind e) (rn S c Q fo fs st0):=
 Tz hL hq hg hs (λx hx=>by rw[CD];grind)
theorem pJ {n:Nat} {dr:Bool} {fr:List Nat} {q:List RO} {fs':List Fm} {st st':St} {k:K} {m:Option β}
 (hL:fW S c n fo fs st0=some (.ops dr fr q,fs',st)) (hq:q=⟨d,gd,now,k,az,dd,[]⟩::l) (hg:wanted st.g gd=some true)
 (hs:dQ S c dr fr ⟨d,none,now,k,az,[],[]⟩ st=some st') (h:Le m (q_ S c Q dr fr d k l fs' dd st')):Le m (rn S c Q fo fs st0):=
 NA hL hq hg hs (by rw[CD];omega)
section
variable [aI α]
theorem Np (n:Nat) (dr:Bool) (fr:List Nat) (q:List RO) (fs':List Fm) (st:St) (k:IntKind) {sz:Nat} {s:Sl α} {i:Int} {f:α->Option γ} (hq:q=⟨d,gd,now,.p (.idxS sz),az,dd,[]⟩::l)
 (hL:(fW S c n fo fs st0,wanted st.g gd,a_ S.N st.g az,sz)=(some (.ops dr fr q,fs',st),some true,some [.v (bf s),.v (.int k i)],aI.size α))
 (h:∀x,idx s i=some x->Le ((f x).bind e) (q_ S c Q dr fr d (.p (.idxS sz)) l fs' dd (b7 st d (cp x)))):Le (((idx s i).bind f).bind e) (rn S c Q fo fs st0):=by
 simp  at hL;exact Cq hL.1 hq hL.2.1 (Le.of_eq (NU hL.2.2.1 hL.2.2.2)) h
theorem Rb (n:Nat) (dr:Bool) (fr:List Nat) (q:List RO) (fs':List Fm) (st:St) (s:Sl α) {m:Option β} (hq:q=⟨d,gd,now,.p .lenSl,az,dd,[]⟩::l)
 (hL:(fW S c n fo fs st0,wanted st.g gd,a_ S.N st.g az)=(some (.ops dr fr q,fs',st),some true,some [.v (bf s)]))
 (h:Le m (q_ S c Q dr fr d (.p .lenSl) l fs' dd (b7 st d (.v (.int .i64 s.l.length))))):Le m (rn S c Q fo fs st0):=by
 simp  at hL;exact pJ hL.1 hq hL.2.1 (N7 hL.2.2) h
end
section
variable {q:List RO} {fs':List Fm}
end
theorem EX (m:Tb aM) (n:Nat) (l:List V):mE (gY m n) (l.map .v)=some l:=by rw[<-(zw m n).2,u7]
variable {A:α->List V} {E:δ->List V} {p:α->Option δ} {fn:FuncId} {sc:Bool}
end
end Go.VE
namespace Go.VE
variable [aW]
abbrev iv (n:Int):SV:=.v (.int .i64 n)
abbrev bv (b:Bool):SV:=.v (.bool b)
abbrev len {α:Type} (s:Sl α):Int:=((List.length (Sl.l s):Nat):Int)
abbrev o1 (d:Nat) (a:Arg) (dd:List Nat):RO:=⟨some d,none,false,.p .id,[a],dd,[]⟩
abbrev o2 (d:Nat) (k:K) (az:List Arg) (dd:List Nat):RO:=⟨some d,none,false,k,az,dd,[]⟩
abbrev o3 (d s:Nat) (b:Bool) (k:K) (az:List Arg) (dd:List Nat):RO:=⟨some d,some (s,b),false,k,az,dd,[]⟩
def GR (a b:aa):Bool:=[a.proc,a.index]==[b.proc,b.index]
mutual
theorem y6:∀{n:Nat} {x:V},V.lvl n x=true->V.lvl (n+1) x=true
 | 0,.fsl ..,h=>by simp[V.lvl]at h
 | 0,.fptr ..,h=>by simp[V.lvl]at h
 | 0,.fmap ..,h=>by simp[V.lvl]at h
 | 0,.agg ..,h=>by simp[V.lvl]at h
 | 0,.tup ..,h=>by simp[V.lvl]at h
 | 0,.clo ..,h=>by simp[V.lvl]at h
 | n+1,.fsl es xs,h=>by simp only[V.lvl]at h ⊢;exact z8 h
 | n+1,.fptr cs,h=>by simp only[V.lvl]at h ⊢;exact qp h
 | n+1,.fmap kvs,h=>by simp only[V.lvl]at h ⊢;exact Ck h
 | n+1,.agg cs,h=>by simp only[V.lvl]at h ⊢;exact qp h
 | n+1,.tup cs,h=>by simp only[V.lvl]at h ⊢;exact qp h
 | n+1,.clo f a b,h=>by simp only[V.lvl,ζh]at h ⊢;exact⟨qp h.1,qp h.2⟩
 | 0,.bool _,_|0,.int ..,_|0,.str _,_|0,.fI,_|0,.eX,_|0,.ql,_|0,.ck,_|0,.aR,_|0,.hsl ..,_|0,.hptr ..,_|0,.yld _,_|0,.hmap _,_=>rfl
 | _+1,.bool _,_|_+1,.int ..,_|_+1,.str _,_|_+1,.fI,_|_+1,.eX,_|_+1,.ql,_|_+1,.ck,_|_+1,.aR,_|_+1,.hsl ..,_|_+1,.hptr ..,_|_+1,.yld _,_|_+1,.hmap _,_=>rfl
theorem qp:∀{n:Nat} {x:List V},V.b8 n x=true->V.b8 (n+1) x=true
 | n,[],_=>jR _
 | n,a::l,h=>by rw[iF,ζh]at h ⊢;exact⟨y6 h.1,qp h.2⟩
theorem z8:∀{n:Nat} {x:List (List V)},V.lP n x=true->V.lP (n+1) x=true
 | n,[],_=>by simp only[V.lP]
 | n,a::l,h=>by simp only[V.lP,ζh]at h ⊢;exact⟨qp h.1,z8 h.2⟩
theorem Ck:∀{n:Nat} {x:List (V×V)},V.nC n x=true->V.nC (n+1) x=true
 | n,[],_=>by simp only[V.nC]
 | n,(k,v)::l,h=>by simp only[V.nC,ζh]at h ⊢;exact⟨⟨y6 h.1.1,y6 h.1.2⟩,Ck h.2⟩
end
section
variable {α:Type} [aI α]
theorem sY (h:aI.agg α=false) (a:α):cells a=[enc a]:=by
 have hl:(cells a).length=1:=by rw[show (cells a).length=_ from aI.len a,aI.plain h]
 unfold enc;rw[if_neg (by simp[h])]
 match hc:cells a,hl with
 | [x],_=>rfl
theorem vS (h:aI.agg α=true) (a:α):enc a=.agg (cells a):=by unfold enc;grind
theorem G8 {n:Nat} [Lv n α] (a:α):V.lvl (n+1) (enc a)=true:=by
 have h:=Lv.lv (n:=n) a
 cases ha:aI.agg α with
 | true=>rw[vS ha];exact h
 | false=>
  rw[sY ha,iF,ζh]at h;exact y6 h.1
theorem RW {n:Nat} [Lv n α] (a:α):V.lvl (n+1) (.fptr (cells a))=true:=Lv.lv a
theorem lz (a:α):V.good (enc a)=true:=by
 have h:V.bL (cells a)=true:=aI.good a
 cases ha:aI.agg α with
 | true=>rw[vS ha];exact h
 | false=>
  rw[sY ha]at h;simp[V.bL]at h;omega
theorem oa (s:Sl α):V.one (enc s)=true:=Dl s
theorem pV {n:Nat} [Lv n α] (s:Sl α):V.lvl (n+1) (enc s)=true:=CE s
theorem MX (s:α) (h:aI.agg α=false):V.one (enc s)=true:=by
 have:=aI.one s;rw[show aI.cells s=cells s from rfl,sY h]at this
 grind
end
instance {α:Type} [aI α]:aI (Option α) where
 cells o:=[match o with|none=>.fI|some x=>.fptr (cells x)]
 agg:=false
 size:=1
 len _:=rfl
 good o:=by
  cases o with
  | none=>rfl
  | some x=>simp only[V.bL,V.good,Bool.and_true];exact aI.good x
 one o:=by cases o <;> rfl
 plain _:=rfl
instance {n:Nat} {α:Type} [aI α] [Lv n α]:Lv (n+1) (Option α):=⟨λo=>by
 cases o with
 | none=>rfl
 | some x=>
  show V.b8 (n+1) [.fptr (cells x)]=true;rw[iF,jR,Bool.and_true];exact Lv.lv x⟩
structure U8 where
 v:Int
 deriving Inhabited,DecidableEq
instance:aI U8 where
 cells n:=[.int .u8 n.v]
 agg:=false
 size:=1
 len _:=rfl
 good _:=rfl
 one _:=rfl
 plain _:=rfl
instance {n:Nat}:Lv n U8:=⟨λ_=>by cases n <;> rfl⟩
structure Ty where
 v:Int
 deriving Inhabited,DecidableEq
instance:aI Ty where
 cells n:=[.int .u64 n.v]
 agg:=false
 size:=1
 len _:=rfl
 good _:=rfl
 one _:=rfl
 plain _:=rfl
instance {n:Nat}:Lv n Ty:=⟨λ_=>by cases n <;> rfl⟩
structure Th where
 v:Int
 deriving Inhabited,DecidableEq
instance:aI Th where
 cells n:=[.int .u32 n.v]
 agg:=false
 size:=1
 len _:=rfl
 good _:=rfl
 one _:=rfl
 plain _:=rfl
instance {n:Nat}:Lv n Th:=⟨λ_=>by cases n <;> rfl⟩
structure Tp where
 v:Int
 deriving Inhabited,DecidableEq
instance:aI Tp where
 cells n:=[.int .i32 n.v]
 agg:=false
 size:=1
 len _:=rfl
 good _:=rfl
 one _:=rfl
 plain _:=rfl
instance {n:Nat}:Lv n Tp:=⟨λ_=>by cases n <;> rfl⟩
structure ki (S:Sys) (c:br) {α δ:Type} (g:FuncId) (w e:List V) (A:α->List V) (R:δ->List V) (p:α->Option δ) (b:Bool):Prop where
 f:mm S c g (λz=>w++A z++e) R p b
 d:V.b8 7 e=true
 dw:V.b8 7 w=true
section
variable {S:Sys} {c:br} {β γ δ α:Type} {Q:Out×St->Option β} {e:γ->Option β} {fo:Fo} {fs:List Fm} {st0:St} {l:List RO} {d:Option Nat} {gd:Option (Nat×Bool)} {now:Bool} {az:List Arg} {dd:List Nat}
theorem f_ {α:Type} [aI α] (a:α):V.cells (enc a)=cells a:=by
 cases ha:aI.agg α with
 | true=>rw[vS ha];rfl
 | false=>
  have h1  := MX a ha;rw[sY ha];cases h:enc a <;> first|rfl|(rw[h]at h1;cases h1)
theorem oF {α:Type} [aI α] (a:α):(cells a).all V.one=true:=aI.one a
theorem eY {α:Type} [aI α] (a:α):(cells a).length=aI.size α:=aI.len a
theorem Ast [aI α] (n:Nat) (dr:Bool) (fr:List Nat) (q:List RO) (fs':List Fm) (st:St) (u o:Nat) (x:α) (cs cs':List SV) {sz:Nat} {m:Option β} (hq:q=⟨d,gd,now,.l (.store sz),az,dd,[]⟩::l)
 (hL:(fW S c n fo fs st0,wanted st.g gd,a_ S.N st.g az,ai st.m u,(!dr||now),sz,Nat.ble (o+sz) cs.length,cs.take o++(cells x).map .v++cs.drop (o+sz))=(some (.ops dr fr q,fs',st),some true,some [.ptr u o,cv x],some (.box cs),true,aI.size α,true,cs'))
 (h:Le m (q_ S c Q dr fr d (.l (.store sz)) l fs' dd (b7 { st with m:=aU st.m u (.box cs') } d (.v .undef)))):Le m (rn S c Q fo fs st0):=by
 simp only[ζc]at hL;obtain⟨h1,h2,h3,h4,h5,h6,h7,h8⟩:=hL;refine pJ h1 hq h2 ?_ h;rw[qW,h3];subst h6;have h9:=Nat.le_of_ble_eq_true h7;simp only[ζb,h5,if_true,iX,h4,putCells,f_,eY,oF,h9,and_self,h8,Option.map_some]
theorem yV {α:Type} [aI α]:∀(xs:List α) (pre:List (List V)) (suf:List (List V)),suf.length=xs.length->e_ (aI.size α) (pre++suf) ((List.range' pre.length xs.length).zip (xs.map enc))=some (pre++rows xs)
 | [],pre,suf,h=>by
  have  := List.eq_nil_of_length_eq_zero h;subst this;rfl
 | x::xs,pre,s::suf,h=>by
  simp only[List.length_cons,List.range'_succ,List.map_cons,List.zip_cons_cons,e_,f_,eY,oF];have:=yV xs (pre++[cells x]) suf (by grind)
  simp only[ζi,List.length_cons,List.length_nil]at this;have e:(pre++s::suf).set pre.length (cells x)=pre++[cells x]++suf:=by simp
  rw[e,this];simp[rows]
theorem Ue [aI α] (n:Nat) (dr:Bool) (fr:List Nat) (q:List RO) (fs':List Fm) (st:St) (xs:List α) {u sz ln:Nat} {zero:List V} {ix:List Nat} {m:Option β} (hq:q=⟨some u,gd,now,.a (.buildSl sz ln zero ix),az,dd,[]⟩::l)
 (h4:st.new u=true) (hL:(fW S c n fo fs st0,wanted st.g gd,a_ S.N st.g az,sz,ln,ix)=(some (.ops dr fr q,fs',st),some true,some ((xs.map enc).map .v),aI.size α,xs.length,List.range' 0 xs.length))
 (h:Le m (q_ S c Q dr fr (some u) (.a (.buildSl sz ln zero ix)) l fs' dd { st with g:=aU st.g u (.own u),m:=aU st.m u (b_ (.row xs)) })):Le m (rn S c Q fo fs st0):=by
 simp only[ζc]at hL;obtain⟨h1,h2,h3,h5,h6,h7⟩:=hL;subst h5 h6 h7;refine pJ h1 hq h2 ?_ h;rw[BC,h3];simp only[ζb,h4,nV,rC,List.length_range',List.length_map];have:=yV xs [] (List.replicate xs.length zero) (by simp)
 simp  at this;rw[this];rfl
theorem TV [aI α] (n:Nat) (dr:Bool) (fr:List Nat) (q:List RO) (fs':List Fm) (st:St) (x:α) (vs:List V) {z:List V} {pl:List (Nat×Nat)} {m:Option β} (hq:q=⟨d,gd,now,.p (.build z pl),az,dd,[]⟩::l)
 (hp:jt z pl vs=some (cells x)) (ha:aI.agg α=true)
 (hL:(fW S c n fo fs st0,wanted st.g gd,a_ S.N st.g az)=(some (.ops dr fr q,fs',st),some true,some (vs.map .v)))
 (h:Le m (q_ S c Q dr fr d (.p (.build z pl)) l fs' dd (b7 st d (cv x)))):Le m (rn S c Q fo fs st0):=by
 simp  at hL;refine pJ hL.1 hq hL.2.1 (xT hL.2.2 rfl ?_) h;unfold iK;rw[rC];simp only[M9,hp,Option.map_some];show some (SV.v (.agg (cells x)))=some (.v (enc x));rw[vS ha]
section
variable [aI α]
theorem TH (n:Nat) (dr:Bool) (fr:List Nat) (q:List RO) (fs':List Fm) (st:St) (lo hi:Bool) (bs:List V) {sz:Nat} {s:Sl α} {a b:Option Int} {f:Sl α->Option γ} (hq:q=⟨d,gd,now,.p (.slice sz lo hi),az,dd,[]⟩::l)
 (hL:(fW S c n fo fs st0,wanted st.g gd,a_ S.N st.g az,kM lo hi bs,sz)=(some (.ops dr fr q,fs',st),some true,some (.v (bf s)::bs.map .v),some (a,b),aI.size α))
 (h:∀x,eO s a b=some x->Le ((f x).bind e) (q_ S c Q dr fr d (.p (.slice sz lo hi)) l fs' dd (b7 st d (.v (bf x))))):Le (((eO s a b).bind f).bind e) (rn S c Q fo fs st0):=by
 simp  at hL;refine Cq hL.1 hq hL.2.1 (Le.of_eq ?_) h;have hy  := hL.2.2.1;unfold dQ kL;simp[wanted,eD,hy];have hp:iK S.N st.m (.slice sz lo hi) ((bf s::bs).map .v)=(eO s a b).bind λx=>some (.v (bf x)):=by
  unfold iK;rw[rC];simp[aq,hL.2.2.2.1,Ir s a b sz hL.2.2.2.2];cases eO s a b <;> rfl
 simp  at hp ⊢;rw[hp];cases eO s a b <;> rfl
def mU (s:Sl α) (lo hi:Option Int):Option (Sl α):=
 match s with
 | .nil|.emp=>none
 | .row x|.part x=>(cN x.length lo hi).map λ(l,h)=>.part ((x.take h).drop l)
theorem Sd (n:Nat) (fr:List Nat) (q:List RO) (fs':List Fm) (st:St) (lo hi:Bool) (u:Nat) (bs:List V) {t sz:Nat} {s:Sl α} {a b:Option Int} {f:Sl α->Option γ} (hq:q=⟨some t,gd,now,.p (.slice sz lo hi),az,dd,[]⟩::l)
 (h7:St.new { st with m:=cV u st.m } t=true) (hL:(fW S c n fo fs st0,wanted st.g gd,a_ S.N st.g az,kM lo hi bs,ai st.m u,sz)=(some (.ops false fr q,fs',st),some true,some (.own u::bs.map .v),some (a,b),some (b_ s),aI.size α))
 (h:∀x,mU s a b=some x->Le ((f x).bind e) (q_ S c Q false fr (some t) (.p (.slice sz lo hi)) l fs' dd { st with g:=aU st.g t (.own t),m:=aU (cV u st.m) t (b_ x) })):Le (((mU s a b).bind f).bind e) (rn S c Q fo fs st0):=by
 simp  at hL;refine Cq hL.1 hq hL.2.1 (Le.of_eq ?_) h;obtain⟨_,_,h3,h4,h5,h6⟩:=hL;subst h6;unfold dQ kL;simp[wanted,eD,h3,yJ,rC,h5,h4]
 cases s with
 | nil=>simp[mU,b_,Sl.k,bM]
 | emp=>simp[mU,b_,Sl.k,bM]
 | row x=>
  simp[b_,Sl.k,Sl.l,bM,mU,jq,h4]
  cases cN x.length a b with
  | none=>rfl
  | some r=>simp[h7,b7,rows,List.map_drop]
 | part x=>
  simp[b_,Sl.k,Sl.l,bM,mU,jq,h4]
  cases cN x.length a b with
  | none=>rfl
  | some r=>simp[h7,b7,rows,List.map_drop]
end
end
end Go.VE
namespace Go.VE
variable [aW]
structure bg (n:Nat) (α:Type) where
 l:List α
 len:l.length=n
theorem Lw {α:Type} [aI α] (l:List α):(l.map (cells (α:=α))).flatten.length=l.length*aI.size α:=by
 induction l with
 | nil=>simp
 | cons a l ih=>simp only[List.map_cons,List.flatten_cons,ζi,ih,eY,List.length_cons,Nat.add_mul,Nat.one_mul,Nat.add_comm]
theorem Lq {α:Type} [aI α] (l:List α):V.bL (l.map (cells (α:=α))).flatten=true:=by
 induction l with
 | nil=>rfl
 | cons a l ih=>
  simp only[List.map_cons,List.flatten_cons];have h:∀(x y:List V),V.bL x=true->V.bL y=true->V.bL (x++y)=true:=by
   intro x
   induction x with
   | nil=>intro y _ h;exact h
   | cons b x ih2=>intro y h1 h2;simp only[V.bL,ζh,List.cons_append]at h1 ⊢;exact⟨h1.1,ih2 y h1.2 h2⟩
  exact h _ _ (aI.good a) ih
theorem Ep {n:Nat}:∀{x y:List V},V.b8 n x=true->V.b8 n y=true->V.b8 n (x++y)=true
 | [],_,_,h=>h
 | a::x,y,h1,h2=>by
  simp only[iF,ζh,List.cons_append]at h1 ⊢;exact⟨h1.1,Ep h1.2 h2⟩
theorem LU {n:Nat} {α:Type} [aI α] [Lv n α] (l:List α):V.b8 n (l.map (cells (α:=α))).flatten=true:=by
 induction l with
 | nil=>exact jR n
 | cons a l ih=>simp only[List.map_cons,List.flatten_cons];exact Ep (Lv.lv a) ih
instance {n:Nat} {α:Type} [aI α]:aI (bg n α) where
 cells a:=(a.l.map cells).flatten
 agg:=true
 size:=n*aI.size α
 len a:=by rw[Lw,a.len]
 good a:=Lq a.l
 one a:=by
  have:∀l:List α,(l.map (cells (α:=α))).flatten.all V.one=true:=by
   intro l
   induction l with
   | nil=>rfl
   | cons a l ih=>simp only[List.map_cons,List.flatten_cons,List.all_append,ih,oF,Bool.and_self]
  exact this a.l
 plain h:=by cases h
instance {k n:Nat} {α:Type} [aI α] [Lv k α]:Lv k (bg n α):=⟨λa=>LU a.l⟩
def bg.K2 (n:Nat) {α:Type} (z:α):bg n α:=⟨List.replicate n z,by simp⟩
def bg.at {n:Nat} {α:Type} (a:bg n α) (i:Int):Option α:=if 0<=i then a.l[i.toNat]? else none
def bg.set {n:Nat} {α:Type} (a:bg n α) (i:Int) (x:α):bg n α:=⟨a.l.set i.toNat x,by simp[a.len]⟩
def pa {n:Nat} {α:Type} [aI α] (a:bg n α) (i:Int):List V:=(cells a).drop (i.toNat*aI.size α)
theorem bg.sF {n:Nat} {α:Type} {a:bg n α} {i:Int} {x:α} (h:a.at i=some x):0<=i/\i.toNat<n/\a.l[i.toNat]? = some x:=by
 unfold bg.at at h;split at h
 .rename_i hi;refine⟨hi,?_,h⟩;have:=(ζe.1 h).1;rw[<-a.len];exact this
 .cases h
theorem CH {α:Type} [aI α]:∀(l:List α) (k:Nat),((l.map (cells (α:=α))).flatten).drop (k*aI.size α)=((l.drop k).map (cells (α:=α))).flatten
 | [],k=>by simp
 | a::l,0=>by simp
 | a::l,k+1=>by
  have h:(cells a).length=aI.size α:=eY a;rw[List.map_cons,List.flatten_cons,List.drop_succ_cons,<-CH l k,Nat.add_mul,Nat.one_mul,Nat.add_comm,<-h,List.drop_length_add_append]
theorem zq {n:Nat} {α:Type} [aI α] {a:bg n α} {i:Int} {x:α} (h:a.at i=some x):∃r,pa a i=cells x++r:=by
 obtain⟨h1,h2,h3⟩:=bg.sF h;obtain⟨hlt,hx⟩:=ζe.1 h3;refine⟨((a.l.drop (i.toNat+1)).map cells).flatten,?_⟩;show ((a.l.map (cells (α:=α))).flatten).drop (i.toNat*aI.size α)=_;rw[CH,List.drop_eq_getElem_cons hlt,List.map_cons,List.flatten_cons,hx]
section
variable {S:Sys} {c:br} {β γ δ α:Type} {Q:Out×St->Option β} {e:γ->Option β} {fo:Fo} {fs:List Fm} {st0:St} {l:List RO} {d:Option Nat} {gd:Option (Nat×Bool)} {now:Bool} {az:List Arg} {dd:List Nat}
section
variable {N:Nat} [aI α]
theorem Sr (n:Nat) (dr:Bool) (fr:List Nat) (q:List RO) (fs':List Fm) (st:St) (k:IntKind) {ln sz:Nat} {a:bg N α} {i:Int} {f:α->Option γ} (hq:q=⟨d,gd,now,.p (.idxA ln sz),az,dd,[]⟩::l)
 (hL:(fW S c n fo fs st0,wanted st.g gd,a_ S.N st.g az,sz,ln)=(some (.ops dr fr q,fs',st),some true,some [cp a,.v (.int k i)],aI.size α,N))
 (h:∀x,a.at i=some x->Le ((f x).bind e) (q_ S c Q dr fr d (.p (.idxA ln sz)) l fs' dd (b7 st d (.v (.fptr (pa a i)))))):Le (((a.at i).bind f).bind e) (rn S c Q fo fs st0):=by
 simp only[ζc]at hL;obtain⟨h1,h2,h3,h4,h5⟩:=hL;subst h4 h5;refine Cq h1 hq h2 (?_:Le ((a.at i).bind λ_=>some (b7 st d (.v (.fptr (pa a i))))) _) h
 intro r hr;obtain⟨x,hx,hr⟩:=ζg.1 hr;obtain⟨g1,g2,_⟩:=bg.sF hx;rw[xT (v:=.v (.fptr (pa a i))) h3 rfl ?_]
 .exact hr
 rw[wH];simp only[aq,uT];have hlen:i.toNat*aI.size α<=(cells a).length:=by
  rw[eY];exact Nat.mul_le_mul_right _ (Nat.le_of_lt g2)
 rw[if_pos ⟨g1,by omega⟩,if_pos hlen]
 rfl
theorem TW (n:Nat) (dr:Bool) (fr:List Nat) (q:List RO) (fs':List Fm) (st:St) (a:bg N α) (i:Int) (o:Nat) (x:α) (hx:a.at i=some x) {k:Nat} {m:Option β} (hq:q=⟨d,gd,now,.p (.fieldAddr k),az,dd,[]⟩::l)
 (hL:(fW S c n fo fs st0,wanted st.g gd,a_ S.N st.g az,Nat.ble (o+k) (aI.size α))=(some (.ops dr fr q,fs',st),some true,some [.v (.fptr ((pa a i).drop o))],true))
 (h:Le m (q_ S c Q dr fr d (.p (.fieldAddr k)) l fs' dd (b7 st d (.v (.fptr ((pa a i).drop (o+k))))))):Le m (rn S c Q fo fs st0):=by
 simp only[ζc]at hL;obtain⟨h1,h2,h3,h4⟩:=hL;refine pJ h1 hq h2 (xT h3 rfl ?_) h;have h9:=Nat.le_of_ble_eq_true h4;obtain⟨r,hr⟩:=zq hx;have hl:(pa a i).length>=aI.size α:=by rw[hr,ζi,eY];omega
 rw[D3,EB,if_pos (by rw[List.length_drop];omega),List.drop_drop]
 rfl
theorem Sz (n:Nat) (dr:Bool) (fr:List Nat) (q:List RO) (fs':List Fm) (st:St) (a:bg N α) (i:Int) (o:Nat) (x:α) (hx:a.at i=some x) {sz:Nat} {ag:Bool} {v:V} (hv:(cut (cells x) o sz).bind (mk ag)=some v) (v':V) {m:Option β} (hq:q=⟨d,gd,now,.r (.load sz ag),az,dd,[]⟩::l)
 (hL:(fW S c n fo fs st0,wanted st.g gd,a_ S.N st.g az,v)=(some (.ops dr fr q,fs',st),some true,some [.v (.fptr ((pa a i).drop o))],v'))
 (h:Le m (q_ S c Q dr fr d (.r (.load sz ag)) l fs' dd (b7 st d (.v v')))):Le m (rn S c Q fo fs st0):=by
 simp only[ζc]at hL;obtain⟨h1,h2,h3,rfl⟩:=hL;refine pJ h1 hq h2 ?_ h;rw[DR,h3];have hold:dN fr [SV.v (.fptr ((pa a i).drop o))]=true:=rfl;simp only[ζb,hold,Bool.or_true,if_true,Ld];obtain⟨r,hr⟩:=zq hx;rw[hr];have hc:cut ((cells x++r).drop o) 0 sz=cut (cells x) o sz:=by
  cases hcc:cut (cells x) o sz with
  | none=>rw[hcc]at hv;cases hv
  | some w=>
   unfold cut at hcc ⊢;dsimp only at hcc ⊢;split at hcc
   .rename_i hl;cases hcc;have e1:(List.drop 0 (List.drop o (cells x++r))).take sz=((cells x).drop o).take sz:=by
     rw[List.drop_zero];have ho:sz=0\/o<=(cells x).length:=by
      simp only[List.length_take,List.length_drop]at hl;omega
     rcases ho with rfl|ho
     .simp
     .rw[List.drop_append_of_le_length ho,List.take_append_of_le_length];simp only[List.length_take,List.length_drop]at hl ⊢;omega
    rw[e1,if_pos hl]
   .cases hcc
 rw[hc]
 cases hcc:cut (cells x) o sz with
 | none=>rw[hcc]at hv;cases hv
 | some w=>rw[hcc]at hv;simp only[ζb]at hv ⊢;rw[hv];rfl
theorem Rq (n:Nat) (dr:Bool) (fr:List Nat) (q:List RO) (fs':List Fm) (st:St) (cs:List SV) {u sz:Nat} {zero:List V} {m:Option β} (hq:q=⟨some u,gd,now,.a (.alloc sz zero),az,dd,[]⟩::l)
 (h4:st.new u=true) (hL:(fW S c n fo fs st0,wanted st.g gd,a_ S.N st.g az,zero.map SV.v)=(some (.ops dr fr q,fs',st),some true,some [],cs))
 (h:Le m (q_ S c Q dr fr (some u) (.a (.alloc sz zero)) l fs' dd { st with g:=aU st.g u (.ptr u 0),m:=aU st.m u (.box cs) })):Le m (rn S c Q fo fs st0):=by
 simp only[ζc]at hL;obtain⟨h1,h2,h3,h5⟩:=hL;subst h5;refine pJ h1 hq h2 ?_ h;rw[BC,h3];simp only[ζb,h4,if_true,nV]
theorem rm (d:Nat) (l:List V):SV.cB d (l.map .v)=false:=by
 induction l with
 | nil=>rfl
 | cons a l ih=>simp only[List.map_cons,SV.cB,SV.bT,ih,Bool.or_self]
theorem si {α:Type} [aI α] (d:Nat) (x:α):aM.bT d (bx x)=false:=rm d (cells x)
theorem R_ (n:Nat) (dr:Bool) (fr:List Nat) (q:List RO) (fs':List Fm) (st:St) (k:IntKind) (u:Nat) {ln sz:Nat} {a:bg N α} {i:Int} {f:α->Option γ} (hq:q=⟨d,gd,now,.p (.idxA ln sz),az,dd,[]⟩::l)
 (hL:(fW S c n fo fs st0,wanted st.g gd,a_ S.N st.g az,sz,ln,ai st.m u)=(some (.ops dr fr q,fs',st),some true,some [.ptr u 0,.v (.int k i)],aI.size α,N,some (bx a)))
 (h:∀x,a.at i=some x->Le ((f x).bind e) (q_ S c Q dr fr d (.p (.idxA ln sz)) l fs' dd (b7 st d (.ptr u (i.toNat*aI.size α+0))))):Le (((a.at i).bind f).bind e) (rn S c Q fo fs st0):=by
 simp only[ζc]at hL;obtain⟨h1,h2,h3,h4,h5,h6⟩:=hL;subst h4 h5;refine Cq h1 hq h2 (?_:Le ((a.at i).bind λ_=>some (b7 st d (.ptr u (i.toNat*aI.size α+0)))) _) h
 intro r hr;obtain⟨x,hx,hr⟩:=ζg.1 hr;obtain⟨g1,g2,_⟩:=bg.sF hx;rw[xT (v:=.ptr u (i.toNat*aI.size α+0)) h3 rfl ?_]
 .exact hr
 simp only[iK,cG,vg,h6];rw[if_pos ⟨g1,by omega,rfl⟩,Nat.zero_add,Nat.add_zero]
theorem Nc {a:bg N α} {i:Int} {o:Nat} {x:α} (hx:a.at i=some x) {sz:Nat} {ag:Bool} {v:V} (hv:(cut (cells x) o sz).bind (mk ag)=some v):tO sz ag ((((cells a).map SV.v).drop (i.toNat*aI.size α+o)).take sz)=some (.v v):=by
 obtain⟨r,hr⟩:=zq hx;have e1:(((cells a).map SV.v).drop (i.toNat*aI.size α+o)).take sz=(((cells x).drop o).take sz).map SV.v:=by
  have hcc:((cells x).drop o).take sz=((cells x++r).drop o).take sz:=by
   cases hc:cut (cells x) o sz with
   | none=>rw[hc]at hv;cases hv
   | some w=>
    unfold cut at hc;dsimp only at hc;split at hc
    .rename_i hl;have ho:sz=0\/o<=(cells x).length:=by
      simp only[List.length_take,List.length_drop]at hl;omega
     rcases ho with rfl|ho
     .simp
     .rw[List.drop_append_of_le_length ho,List.take_append_of_le_length];simp only[List.length_take,List.length_drop]at hl ⊢;omega
    .cases hc
  rw[hcc,<-hr,pa,List.drop_drop,List.map_take,List.map_drop]
 rw[e1];unfold tO
 cases hc:cut (cells x) o sz with
 | none=>rw[hc]at hv;cases hv
 | some w=>
  rw[hc]at hv;unfold cut at hc;dsimp only at hc;split at hc
  .rename_i hl;cases hc;simp only[List.length_map,hl,if_true];simp only[ζb]at hv;unfold mk at hv
   cases ag with
   | true=>
    simp only[if_true]at hv ⊢;cases hv;rw[rC]
   | false=>
    simp only[Bool.false_eq_true,if_false]at hv ⊢;split at hv
    .rename_i hw;cases hv;rw[hw];rfl
    .cases hv
  .cases hc
theorem S_ (n:Nat) (dr:Bool) (fr:List Nat) (q:List RO) (fs':List Fm) (st:St) (u:Nat) (a:bg N α) (i:Int) (o:Nat) (x:α) (hx:a.at i=some x) {sz:Nat} {ag:Bool} {v:V} (hv:(cut (cells x) o sz).bind (mk ag)=some v) (v':V) {m:Option β} (hq:q=⟨d,gd,now,.r (.load sz ag),az,dd,[]⟩::l)
 (hL:(fW S c n fo fs st0,wanted st.g gd,a_ S.N st.g az,v,ai st.m u,(!dr||now||dN fr [.ptr u 0]))=(some (.ops dr fr q,fs',st),some true,some [.ptr u (i.toNat*aI.size α+o)],v',some (bx a),true))
 (h:Le m (q_ S c Q dr fr d (.r (.load sz ag)) l fs' dd (b7 st d (.v v')))):Le m (rn S c Q fo fs st0):=by
 simp only[ζc]at hL;obtain⟨h1,h2,h3,rfl,h5,h6⟩:=hL;refine pJ h1 hq h2 ?_ h;rw[DR,h3];have hold:(!dr||now||dN fr [SV.ptr u (i.toNat*aI.size α+o)])=true:=h6;simp only[ζb,hold,if_true,TS,h5,K7];rw[Nc hx hv];rfl
theorem KG {N:Nat} (a:bg N α) (i:Int) (y:α) (h:i.toNat<N):cells (a.set i y)=(cells a).take (i.toNat*aI.size α)++cells y++(cells a).drop ((i.toNat+1)*aI.size α):=by
 have key:∀(l:List α) (k:Nat),k<l.length->((l.set k y).map (cells (α:=α))).flatten=(l.map (cells (α:=α))).flatten.take (k*aI.size α)++cells y++(l.map (cells (α:=α))).flatten.drop ((k+1)*aI.size α):=by
  intro l
  induction l with
  | nil=>intro k h;simp at h
  | cons b l ih=>
   intro k h;have hb:(cells b).length=aI.size α:=eY b
   cases k with
   | zero=>
    simp only[List.set_cons_zero,List.map_cons,List.flatten_cons,Nat.zero_mul,List.take_zero,List.nil_append,Nat.zero_add,Nat.one_mul];rw[<-hb,List.drop_left]
   | succ k=>
    simp only[List.set_cons_succ,List.map_cons,List.flatten_cons];rw[ih k (by simpa using h)]
    have e1:(k+1)*aI.size α=(cells b).length+k*aI.size α:=by rw[hb,Nat.add_mul,Nat.one_mul,Nat.add_comm]
    have e2:(k+1+1)*aI.size α=(cells b).length+(k+1)*aI.size α:=by rw[hb,Nat.add_mul (k+1),Nat.one_mul,Nat.add_comm]
    rw[e2,List.drop_length_add_append];rw[e1,List.take_length_add_append];simp[List.append_assoc]
 exact key a.l i.toNat (by rw[a.len];exact h)
theorem SG (n:Nat) (dr:Bool) (fr:List Nat) (q:List RO) (fs':List Fm) (st:St) (u:Nat) (a:bg N α) (i:Int) (o:Nat) (x:α) (hx:a.at i=some x) (y:α) (v:V) {sz:Nat} (hy:cells y=(cells x).take o++v.cells++(cells x).drop (o+sz)) {m:Option β} (hq:q=⟨d,gd,now,.l (.store sz),az,dd,[]⟩::l)
 (hL:(fW S c n fo fs st0,wanted st.g gd,a_ S.N st.g az,ai st.m u,(!dr||now),v.cells.length,v.cells.all V.one,Nat.ble (o+sz) (aI.size α))=(some (.ops dr fr q,fs',st),some true,some [.ptr u (i.toNat*aI.size α+o),.v v],some (bx a),true,sz,true,true))
 (h:Le m (q_ S c Q dr fr d (.l (.store sz)) l fs' dd (b7 { st with m:=aU st.m u (bx (a.set i y)) } d (.v .undef)))):Le m (rn S c Q fo fs st0):=by
 simp only[ζc]at hL;obtain⟨h1,h2,h3,h4,h5,h6,h7,h8⟩:=hL;refine pJ h1 hq h2 ?_ h;rw[qW,h3];have h9:=Nat.le_of_ble_eq_true h8;obtain⟨g1,g2,g3⟩:=bg.sF hx;have hb:i.toNat*aI.size α+o+sz<=((cells a).map SV.v).length:=by
  rw[List.length_map,eY];have:(i.toNat+1)*aI.size α<=N*aI.size α:=Nat.mul_le_mul_right _ g2;rw[Nat.add_mul,Nat.one_mul]at this;show _<=N*aI.size α;omega
 simp only[ζb,h5,if_true,iX,h4,putCells,h6,h7,hb,and_self,Option.map_some];obtain⟨r,hr⟩:=zq hx;have e:((cells a).map SV.v).take (i.toNat*aI.size α+o)++v.cells.map .v++((cells a).map SV.v).drop (i.toNat*aI.size α+o+sz)=(cells (a.set i y)).map SV.v:=by
  rw[KG a i y g2,hy];have hd:(cells a).drop (i.toNat*aI.size α)=cells x++r:=hr;have hlx:(cells x).length=aI.size α:=eY x;have e1:(cells a).take (i.toNat*aI.size α+o)=(cells a).take (i.toNat*aI.size α)++(cells x).take o:=by
   rw[List.take_add,hd,List.take_append_of_le_length (by omega)]
  have e2:(cells a).drop (i.toNat*aI.size α+o+sz)=(cells x).drop (o+sz)++(cells a).drop ((i.toNat+1)*aI.size α):=by
   have e3:(cells a).drop ((i.toNat+1)*aI.size α)=r:=by
    rw[Nat.add_mul,Nat.one_mul,<-List.drop_drop,hd,<-hlx,List.drop_left]
   rw[e3,Nat.add_assoc,<-List.drop_drop,hd,List.drop_append_of_le_length (by omega)]
  rw[<-List.map_take,<-List.map_drop,e1,e2];simp[List.map_append,List.append_assoc]
 rw[e]
end
theorem PT {α:Type} [aI α] {m:Tb aM} {d:Nat} {x:α} {vs:List V} (h:ai m d=some (bx x)):mE (gY m 8) (.ptr d 0::vs.map .v)=some (.fptr (cells x)::vs):=by
 have h1:gY m 8 (.ptr d 0)=some (.fptr (cells x)):=by
  show (match ai m d with
   | some (.box cs)=>match mE (gY m 7) cs with
    | some xs=>if 0<=xs.length then some (V.fptr (xs.drop 0))else none
    | none=>none
   | _=>none)=_
  rw[h];simp only[EX,Nat.zero_le,if_true,List.drop_zero]
 simp only[mE,h1,EX,ζb]
theorem SQ (n:Nat) {fo:Fo} {fs fs':List Fm} {st0 st:St} {rs:List RV} {e:γ->Option (List V)} {r:γ} (svs:List SV) {ys:List V} (h2:mE (gY st.m 8) svs=some ys) (h:(fW S c n fo fs st0,mJ st rs)=(some (.rt,fs',st),some svs)) (h3:e r=some ys) :
 Le ((some r).bind e) (rn S c (pO rs) fo fs st0):=by
 simp only[ζc]at h;rw[mO h.1];refine Le.of_eq ?_;simp only[rn,pO,h.2,ζb,h2];exact h3.symm
abbrev Mo (κ ν:Type):=List (κ×ν)
class Key (κ:Type) [aI κ] [DecidableEq κ] where
 kk:vL
 ok:∀a:κ,n9 kk (enc a)=true
 eq:∀a b:κ,vk (enc a) (enc b)=some (decide (a=b))
instance:Key Int where
 kk:=.int .i64
 ok _:=rfl
 eq a b:=by
  show some (a==b)=some (decide (a=b));rw[show (a==b)=decide (a=b)from Bool.eq_iff_iff.2 (by simp)]
instance:Key aa where
 kk:=.ints 2
 ok _:=rfl
 eq a b:=by
  obtain⟨p,i⟩:=a;obtain⟨q,j⟩:=b;simp only[vk,jx,gj,Qz,Option.map_some,List.length_cons,if_true,ζa];rw[Bool.eq_iff_iff];simp
section
variable {κ ν:Type} [aI κ] [DecidableEq κ] [Key κ] [aI ν]
def sA (k:κ):Mo κ ν->Option ν
 | []=>none
 | (a,v)::r=>if k=a then some v else sA k r
def BW (m:Mo κ ν) (k:κ) (z:ν):ν:=(sA k m).getD z
def pQ (m:Mo κ ν) (k:κ) (v:ν):Mo κ ν:=
 match m with
 | []=>[(k,v)]
 | (a,w)::r=>if k=a then(k,v)::r else(a,w)::pQ r k v
def kH (m:Mo κ ν):List (V×V):=m.map λx=>(enc x.1,enc x.2)
def uv (m:Mo κ ν):aM:=.mp (kH m)
theorem GJ (k:κ):∀(m:Mo κ ν) (i:Nat),(fT (enc k) (kH m) i).map (Option.map (·.2))=some ((sA k m).map enc)
 | [],i=>rfl
 | (a,v)::r,i=>by
  simp only[kH,List.map_cons,fT,Key.eq,sA]
  by_cases h:k=a
  .rw[if_pos h];simp[h]
  .rw[if_neg h];simp only[h,decide_false];exact GJ k r (i+1)
theorem LR (k:κ) (v:ν) (m:Mo κ ν):od (enc k) (enc v) (kH m)=some (kH (pQ m k v)):=by
 unfold od;have key:∀(m:Mo κ ν) (pre:List (V×V)) (i:Nat),pre.length=i->(match fT (enc k) (kH m) i with
  | some (some (j,_))=>some ((pre++kH m).set j (enc k,enc v))
  | some none=>some (pre++kH m++[(enc k,enc v)])
  | none=>none)=some (pre++kH (pQ m k v)):=by
  intro m
  induction m with
  | nil=>intro pre i h;simp[kH,fT,pQ]
  | cons x r ih=>
   obtain⟨a,w⟩:=x;intro pre i h;rw[show kH ((a,w)::r)=(enc a,enc w)::kH r from rfl];simp only[fT,Key.eq,pQ]
   by_cases hk:k=a
   .subst hk h;simp[kH]
   .simp only[hk,decide_false,if_false];rw[show kH ((a,w)::pQ r k v)=(enc a,enc w)::kH (pQ r k v)from rfl];have:=ih (pre++[(enc a,enc w)]) (i+1) (by simp[h])
    simp only[List.append_assoc,List.cons_append,List.nil_append]at this ⊢;exact this
 have:=key m [] 0 rfl
 cases hf:fT (enc k) (kH m) 0 with
 | none=>rw[hf]at this;cases this
 | some r=>
  rw[hf]at this
  cases r with
  | none=>simpa using this
  | some w=>obtain⟨j,w⟩:=w;simpa using this
theorem S6 (n:Nat) (dr:Bool) (fr:List Nat) (q:List RO) (fs':List Fm) (st:St) (u:Nat) (mp:Mo κ ν) (k:κ) (z:ν) {kk:vL} {zv:V} {m:Option β} (hq:q=⟨d,gd,now,.r (.lookup kk zv false),az,dd,[]⟩::l)
 (hL:(fW S c n fo fs st0,wanted st.g gd,a_ S.N st.g az,ai st.m u,(!dr||now||dN fr [.mp u,cv k]),zv,kk)=(some (.ops dr fr q,fs',st),some true,some [.mp u,cv k],some (uv mp),true,enc z,Key.kk κ))
 (h:Le m (q_ S c Q dr fr d (.r (.lookup kk zv false)) l fs' dd (b7 st d (cv (BW mp k z))))):Le m (rn S c Q fo fs st0):=by
 simp only[ζc]at hL;obtain⟨h1,h2,h3,h4,h5,h6,h7⟩:=hL;subst h6 h7;refine pJ h1 hq h2 ?_ h;rw[DR,h3];simp only[ζb,h5,if_true,nK,h4,uv,Key.ok];have:=GJ k mp 0;simp only[BW]
 cases hf:fT (enc k) (kH mp) 0 with
 | none=>rw[hf]at this;cases this
 | some r=>
  rw[hf]at this;simp only[Option.map_some,ζa]at this
  cases r with
  | none=>
   cases hm:sA k mp with
   | none=>rfl
   | some w=>rw[hm]at this;cases this
  | some w=>
   cases hm:sA k mp with
   | none=>rw[hm]at this;cases this
   | some w2=>
    rw[hm]at this;simp only[Option.map_some,ζa]at this;simp only[this];rfl
theorem TG (n:Nat) (dr:Bool) (fr:List Nat) (q:List RO) (fs':List Fm) (st:St) (u:Nat) (mp:Mo κ ν) (k:κ) (v:ν) {kk:vL} {m:Option β} (hq:q=⟨d,gd,now,.l (.mapUp kk),az,dd,[]⟩::l)
 (hL:(fW S c n fo fs st0,wanted st.g gd,a_ S.N st.g az,ai st.m u,(!dr||now),kk)=(some (.ops dr fr q,fs',st),some true,some [.mp u,cv k,cv v],some (uv mp),true,Key.kk κ))
 (h:Le m (q_ S c Q dr fr d (.l (.mapUp kk)) l fs' dd (b7 { st with m:=aU st.m u (uv (pQ mp k v)) } d (.v .undef)))):Le m (rn S c Q fo fs st0):=by
 simp only[ζc]at hL;obtain⟨h1,h2,h3,h4,h5,h6⟩:=hL;subst h6;refine pJ h1 hq h2 ?_ h;rw[qW,h3];simp only[ζb,h5,if_true,iX,h4,uv,Key.ok,LR,Option.map_some]
end
end
end Go.VE
namespace Go.VE
variable [aW]
instance {n:Nat}:OfNat Arg n:=⟨.s n⟩
abbrev bI (o:BinOp):K:=.p (.bin (some .int) none o)
abbrev ix (n:Nat):K:=.p (.idxS n)
abbrev ld (n:Nat):K:=.r (.load n false)
abbrev lD (n:Nat):K:=.r (.load n true)
abbrev fa (n:Nat):K:=.p (.fieldAddr n)
abbrev ln:K:=.p .lenSl
abbrev su (n:Nat):K:=.l (.store n)
abbrev Iv (n:Nat) (x:Int):Nat×SV:=(n,iv x)
abbrev Bv (n:Nat) (x:Bool):Nat×SV:=(n,bv x)
abbrev Cv {α:Type} [aI α] (n:Nat) (x:α):Nat×SV:=(n,cv x)
abbrev Kv {α:Type} [aI α] (n:Nat) (x:α):Nat×SV:=(n,cp x)
abbrev Pv (n:Nat):Nat×SV:=(n,.ptr n 0)
abbrev Ov (n:Nat):Nat×SV:=(n,.own (2000+n))
abbrev Xb {α:Type} [aI α] (n:Nat) (x:α):Nat×aM:=(n,bx x)
abbrev Lb {α:Type} [aI α] (n:Nat) (x:Sl α):Nat×aM:=(n,b_ x)
abbrev on (d:Nat) (k:K) (az:List Arg) (dd:List Nat):RO:=⟨some d,none,true,k,az,dd,[]⟩
abbrev oz (k:K) (az:List Arg) (dd:List Nat):RO:=⟨none,none,false,k,az,dd,[]⟩
abbrev oy (k:K) (az:List Arg) (dd:List Nat):RO:=⟨none,none,true,k,az,dd,[]⟩
theorem KZ {n:Nat} {α:Type} [aI α] [Lv n α] (a:α):V.b8 n (cells a)=true:=Lv.lv a
attribute [simp] KZ OY MG iF jR qx nW qe Oz OR MN G8 RW OH OM Oi Ph OL
theorem mm.xI {S:Sys} {T:qg} {f:FuncId} {b:Bool} (hT:T f=none) (hk:S.E.keep f=false) (ho:S.xI f []=some (.bool b)) :
 mm S (dA S T) f (λ_:Unit=>[]) (λr:Bool=>[.bool r]) (λ_=>some b) true where
 k:=hk
 h _:=by
  have h:=Db (az:=[]) hT hk ho;intro r hr;cases hr;unfold lU;rw[h];exact u7 8 [.bool b]
 l _:=by simp
 r _:=by simp
 s _ _:=rfl
end Go.VE
namespace Go.VE
variable [aW]
def Wp {α:Type} (m:Option α) (P:α->Prop):Prop:=∃a,m=some a/\P a
section
variable {α β:Type} {P Q:α->Prop}
theorem ah (a:α):Wp (some a) P↔P a:=⟨λh=>by obtain⟨b,e,p⟩:=h;cases e;exact p,λp=>⟨a,rfl,p⟩⟩
theorem Ou:Wp (none:Option α) P↔False:=⟨λh=>(by obtain⟨b,e,p⟩:=h;cases e),λh=>False.elim h⟩
theorem eB {m:Option β} {k:β->Option α}:Wp (m.bind k) P↔Wp m λb=>Wp (k b) P:=by
 cases m with
 | none=>simp only[Option.bind_none,Ou]
 | some b=>simp only[ζb,ah]
theorem bh {t:Bool} {a b:Option α}:Wp (aj t a b) P↔(t=true->Wp a P)/\(t=false->Wp b P):=by
 cases t <;> simp[aj]
theorem Wp.mono {m:Option α} (h:Wp m P) (hpq:∀a,P a->Q a):Wp m Q:=let ⟨a,e,p⟩:=h;⟨a,e,hpq a p⟩
theorem Wp.and {m:Option α} (h:Wp m P) (h2:Wp m Q):Wp m λa=>P a/\Q a:=by
 obtain⟨a,e,p⟩:=h;obtain⟨b,e2,q⟩:=h2;rw[e]at e2;cases e2;exact⟨a,e,p,q⟩
theorem Wp.eq {m:Option α} {a:α} (h:Wp m λx=>x=a):m=some a:=by obtain⟨b,e,rfl⟩:=h;exact e
end
section
variable {σ ε ρ:Type}
theorem fN (step:σ->Option (Fw σ ε ρ)) (s:σ):aK step s=(step s).bind λw=>match w with
 | .n s'=>aK step s'
 | .x e=>some (.x e)
 | .r b=>some (.r b):=by
 have h1:∀r,aK step s=some r->((step s).bind λw=>match w with
  | .n s'=>aK step s'
  | .x e=>some (.x e)
  | .r b=>some (.r b))=some r:=by
  intro r h;obtain⟨k,hk⟩:=mj.1 h
  cases k with
  | zero=>simp[iD]at hk
  | succ k=>
   simp only[iD]at hk
   cases hs:step s with
   | none=>rw[hs]at hk;cases hk
   | some w=>
    rw[hs]at hk
    cases w with
    | n s'=>exact mj.2 ⟨k,hk⟩
    | x e=>exact hk
    | r b=>exact hk
 cases hw:aK step s with
 | some r=>exact(h1 r hw).symm
 | none=>
  cases hr:((step s).bind λw=>match w with
  | .n s'=>aK step s'
  | .x e=>some (.x e)
  | .r b=>some (.r b))with
  | none=>rfl
  | some r=>
   exfalso
   cases hs:step s with
   | none=>rw[hs]at hr;cases hr
   | some w=>
    rw[hs]at hr;simp only[ζb]at hr;have:aK step s=some r:=by
     cases w with
     | n s'=>
      obtain⟨k,hk⟩:=mj.1 hr;exact mj.2 ⟨k+1,by simp only[iD,hs];exact hk⟩
     | x e=>exact mj.2 ⟨1,by simp only[iD,hs];exact hr⟩
     | r b=>exact mj.2 ⟨1,by simp only[iD,hs];exact hr⟩
    rw[hw]at this;cases this
def NM (I:σ->Prop) (μ:σ->Nat) (px:ε->Prop) (pr:ρ->Prop) (s:σ):Fw σ ε ρ->Prop
 | .n s'=>I s'/\μ s'<μ s
 | .x e=>px e
 | .r b=>pr b
def To (px:ε->Prop) (pr:ρ->Prop):Fw Empty ε ρ->Prop
 | .x e=>px e
 | .r b=>pr b
theorem Mq {step:σ->Option (Fw σ ε ρ)} (I:σ->Prop) (μ:σ->Nat) (px:ε->Prop) (pr:ρ->Prop) (h:∀s,I s->Wp (step s) (NM I μ px pr s)) {s:σ} (hs:I s):Wp (aK step s) (To px pr):=by
 have key:∀n s,μ s<=n->I s->Wp (aK step s) (To px pr):=by
  intro n
  induction n with
  | zero=>
   intro s hm hi;obtain⟨w,hw,hr⟩:=h s hi;rw[fN,hw]
   cases w with
   | n s'=>exact absurd hr.2 (by omega)
   | x e=>exact⟨_,rfl,hr⟩
   | r b=>exact⟨_,rfl,hr⟩
  | succ n ih=>
   intro s hm hi;obtain⟨w,hw,hr⟩:=h s hi;rw[fN,hw]
   cases w with
   | n s'=>exact ih s' (by have:=hr.2;omega) hr.1
   | x e=>exact⟨_,rfl,hr⟩
   | r b=>exact⟨_,rfl,hr⟩
 exact key (μ s) s (Nat.le_refl _) hs
theorem dI {γ:Type} {step:σ->Option (Fw σ ε ρ)} {fx:ε->Option γ} {fr:ρ->Option γ} {P:γ->Prop} (I:σ->Prop) (μ:σ->Nat) {s:σ} (hs:I s)
 (h:∀s,I s->Wp (step s) (NM I μ (λe=>Wp (fx e) P) (λb=>Wp (fr b) P) s)):Wp ((aK step s).bind (Fw.elim fx fr)) P:=by
 rw[eB];refine(Mq I μ _ _ h hs).mono ?_;intro w hw
 cases w with
 | n a=>cases a
 | x e=>exact hw
 | r b=>exact hw
end
end Go.VE
namespace Go.VE
variable [aW]
theorem HB {β γ δ:Type} {e:γ->Option β} {m:Option δ} {f:δ->Option γ} {L:Option β} (h:∀x,m=some x->Le ((f x).bind e) L):Le ((m.bind f).bind e) L:=by
 cases m with
 | none=>exact Le.none _
 | some x=>exact h x rfl
section
variable {S:Sys} {c:br} {β:Type} {Q:Out×St->Option β} {fo:Fo} {fs:List Fm} {st0:St} {l:List RO} {d:Option Nat} {now:Bool} {az:List Arg} {dd:List Nat}
theorem Le.get {β:Type} {r:β} {L:Option β} (h:Le (some r) L):L=some r:=h r rfl
theorem Kt {n:Nat} {fo fo':Fo} {fs fs':List Fm} {st:St} (A:Bool->St) {t:Bool} {m:Option β} (ht:t=true) (h:fW S c n fo fs st=some (fo',fs',A t)) (ha:Le m (rn S c Q fo' fs' (A true))):Le m (rn S c Q fo fs st):=by
 rw[mO h,ht];exact ha
theorem Kf {n:Nat} {fo fo':Fo} {fs fs':List Fm} {st:St} (A:Bool->St) {t:Bool} {m:Option β} (ht:t=false) (h:fW S c n fo fs st=some (fo',fs',A t)) (ha:Le m (rn S c Q fo' fs' (A false))):Le m (rn S c Q fo fs st):=by
 rw[mO h,ht];exact ha
theorem No {α:Type} [aI α] {s:Sl α} {i:Int} {x:α} {r:β} {L:Option β} (hx:idx s i=some x) (h:Le (((idx s i).bind λ_=>some r).bind some) L):Le (some r) L:=by
 rw[hx]at h;exact h
theorem Tq {n:Nat} {q:List RO} {fs':List Fm} {st:St} {id:Nat} {vs:List SV} {xs:List V} {ws:List (List V)} {m:Option β}
 (hL:fW S c n fo fs st0=some (.ops false [] q,fs',st)) (hq:q=⟨d,none,now,.c,az,dd,[]⟩::l) (hs:a_ S.N st.g az=some (.yl id::vs)) (ha:cG vs=some xs) (hw:st.want=xs::ws) (hi:id=st.yid)
 (h:Le m (rn S c Q (.ops false [] l) fs' (nL dd (b7 { st with want:=ws } d (.v (.bool (st.more || !ws.isEmpty))))))):Le m (rn S c Q fo fs st0):=by
 refine NA hL hq rfl ?_ h;unfold dQ;simp only[wanted,eD,hs,ha,hw,hi,if_true,and_self,Bool.false_eq_true,if_false]
theorem zn (a:RC) (fs:List Fm) (st:St):rn S c Q (.rc (.loop a)) fs st=(mH (bD S c a) st).bind (BU (kX S c Q fs) (kY S c Q fs) (λst=>Q (.ret,st))):=by
 show kD S c Q (.loop a) fs st=_;unfold kD;rw[BQ];rfl
theorem Og {f:St->Option (Out×St)} {st st':St} (h:f st=some (.norm,st')):mH f st=mH f st':=by
 have key:∀r,mH f st=some r↔mH f st'=some r:=λr=>by
  constructor
  .intro hr;obtain⟨k,hk⟩:=lg.1 hr
   cases k with
   | zero=>simp[gZ]at hk
   | succ k=>simp only[gZ,h]at hk;exact lg.2 ⟨k,hk⟩
  .intro hr;obtain⟨k,hk⟩:=lg.1 hr;exact lg.2 ⟨k+1,by simp only[gZ,h];exact hk⟩
 cases hx:mH f st with
 | none=>
  cases hy:mH f st' with
  | none=>rfl
  | some r=>rw[(key r).2 hy]at hx;cases hx
 | some r=>rw[(key r).1 hx]
theorem Hv {f:St->Option (Out×St)} {st st':St} {o:Out} (h:f st=some (o,st')) (ho:o≠.norm):mH f st=some (o,st'):=by
 refine lg.2 ⟨1,?_⟩
 cases o with
 | norm=>exact absurd rfl ho
 | exit k=>simp only[gZ,h]
 | ret=>simp only[gZ,h]
theorem De {a:RC} {fs:List Fm} {st st':St} (h:rn S c some (.rc a) [] st=some (.norm,st')):rn S c Q (.rc (.loop a)) fs st=rn S c Q (.rc (.loop a)) fs st':=by
 rw[zn,zn,Og (by rw[zu];exact h)]
theorem CW {a:RC} {fs:List Fm} {st st':St} {k:Nat} (h:rn S c some (.rc a) [] st=some (.exit k,st')):rn S c Q (.rc (.loop a)) fs st=rn S c Q (.ex k) fs st':=by
 rw[zn,Hv (by rw[zu];exact h) (by simp)];rfl
theorem CT {a:RC} {fs:List Fm} {st st':St} (h:rn S c some (.rc a) [] st=some (.ret,st')):rn S c Q (.rc (.loop a)) fs st=Q (.ret,st'):=by
 rw[zn,Hv (by rw[zu];exact h) (by simp)];rfl
end
def Qi:Out×St->Option Unit
 | (.exit _,_)=>none
 | (_,st)=>if st.want.isEmpty then some ()else none
def Sys.bare (S:Sys):Sys:=⟨S.E,S.N,λ_ _ _=>none,λ_ _=>none,λ_=>none⟩
def lT:br:=λ_ _ _=>none
def A7 (ws rest:List (List V)) (more:Bool):Prop:=more=true/\ws=rest\/more=false/\ws≠[]/\∃r,rest=ws++r
theorem Nj (S:Sys) {f:FuncId} {fi:FI} {nm:FuncId->Option Nat} {rf:RF} (hft:S.E.ft f=some fi) (hN:∀g s,nm g=some s->S.N s=g) (hr:wQ S.E nm fi rf) {a b:List V} {xs:List (List V)} (hlen:a.length+1+b.length<=rf.na) (hrs:rf.rs=[])
 (h:∀ws more,A7 ws xs more->∀yid,rn S.bare lT Qi (.rc rf.body) [] ⟨vt 0 (a.map .v++.yl yid::b.map .v),[],[],ws,more,yid⟩=some ()):gm S f a b xs:=by
 have k:gm S.bare f a b xs:=PV (S:=S.bare) (c:=lT) (fi:=fi) (nm:=nm) (rf:=rf) (λ_ _ h=>by cases h) (λ_ _ _ _ _ h=>by simp[lT]at h) (λ_ _ _ _ h=>by simp[Sys.bare]at h) hft hN hr hlen hrs (λws more hw yid=>by
  have h1:=h ws more hw yid;change kD S.bare lT Qi rf.body [] _=some ()at h1;rw[sq]at h1;obtain⟨⟨o,st'⟩,h2,h3⟩:=ζg.1 h1;refine⟨o,st',h2,?_,?_,rfl⟩
  .rintro id rfl;simp[Qi]at h3
  .cases o <;> simp[Qi]at h3 <;> exact h3)
 intro ws more hw yid J y Z a' b' H h1 h2 h3 h4 h5;exact k ws more hw yid J ⟨y.vq,y.yield⟩ Z a' b' H h1 h2 h3 h4 h5
open Classical in
noncomputable def wo (P:FuncId->List V->List V->List (List V)->Prop) (f:FuncId) (a b:List V):Option (List (List V)):=if h:∃xs,P f a b xs then some (Classical.choose h)else none
theorem Jf {P:FuncId->List V->List V->List (List V)->Prop} {f:FuncId} {a b:List V} {xs:List (List V)} (h:P f a b xs) (hu:∀ys,P f a b ys->ys=xs):wo P f a b=some xs:=by
 have h1:∃xs,P f a b xs:=⟨xs,h⟩;unfold wo;rw[dif_pos h1,hu _ (Classical.choose_spec h1)]
theorem IG {P:FuncId->List V->List V->List (List V)->Prop} {f:FuncId} {a b:List V} {xs:List (List V)} (h:wo P f a b=some xs):P f a b xs:=by
 unfold wo at h;split at h
 .rename_i h1;cases h;exact Classical.choose_spec h1
 .cases h
theorem QK {E:Env} {nm:FuncId->Option Nat} {f:FuncId} {rf:RF}
 (h:((E.ft f).bind λfi=>(aP ⟨E,nm,fi.ntmps⟩ false fi.body).bind λc=>(fi.results.mapM (zz E)).bind λrs=>some (c,rs,fi.ntmps))=some (erase rf.body,rf.rs,rf.na)):∃fi,E.ft f=some fi/\wQ E nm fi rf:=by
 obtain⟨fi,h1,h2⟩:=ζg.1 h;obtain⟨c,h3,h4⟩:=ζg.1 h2;obtain⟨rs,h5,h6⟩:=ζg.1 h4;simp only[ζa,ζc]at h6;obtain⟨rfl,rfl,h7⟩:=h6;exact⟨fi,h1,h3,h5,h7.symm⟩
theorem yu {n m:Nat} (h:n<=m) {x:V} (hx:V.lvl n x=true):V.lvl m x=true:=by
 induction h with
 | refl=>exact hx
 | step _ ih=>exact y6 ih
theorem zf {n m:Nat} (h:n<=m) {x:List V} (hx:V.b8 n x=true):V.b8 m x=true:=by
 induction h with
 | refl=>exact hx
 | step _ ih=>exact qp ih
theorem LD {n m:Nat} (h:n<=m) {x:List (List V)} (hx:V.lP n x=true):V.lP m x=true:=by
 induction h with
 | refl=>exact hx
 | step _ ih=>exact z8 ih
theorem Pp {n m:Nat} (h:n<=m) {x:List (V×V)} (hx:V.nC n x=true):V.nC m x=true:=by
 induction h with
 | refl=>exact hx
 | step _ ih=>exact Ck ih
mutual
theorem xX:∀x:V,∃n,V.lvl n x=true
 | .fsl es xs=>let ⟨n,h⟩:=E5 xs;⟨n+1,by simp only[V.lvl];exact h⟩
 | .fptr cs=>let ⟨n,h⟩:=rR cs;⟨n+1,by simp only[V.lvl];exact h⟩
 | .fmap kvs=>let ⟨n,h⟩:=GA kvs;⟨n+1,by simp only[V.lvl];exact h⟩
 | .agg cs=>let ⟨n,h⟩:=rR cs;⟨n+1,by simp only[V.lvl];exact h⟩
 | .tup cs=>let ⟨n,h⟩:=rR cs;⟨n+1,by simp only[V.lvl];exact h⟩
 | .clo f a b=>let ⟨n,h⟩:=rR a;let ⟨m,k⟩:=rR b;⟨max n m+1,by simp only[V.lvl,ζh];exact⟨zf (Nat.le_max_left _ _) h,zf (Nat.le_max_right _ _) k⟩⟩
 | .bool _|.int ..|.str _|.fI|.eX|.ql|.ck|.aR|.hsl ..|.hptr ..|.yld _|.hmap _=>⟨0,rfl⟩
theorem rR:∀x:List V,∃n,V.b8 n x=true
 | []=>⟨0,by simp only[V.b8]⟩
 | a::l=>let ⟨n,h⟩:=xX a;let ⟨m,k⟩:=rR l;⟨max n m,by simp only[V.b8,ζh];exact⟨yu (Nat.le_max_left _ _) h,zf (Nat.le_max_right _ _) k⟩⟩
theorem E5:∀x:List (List V),∃n,V.lP n x=true
 | []=>⟨0,by simp only[V.lP]⟩
 | a::l=>let ⟨n,h⟩:=rR a;let ⟨m,k⟩:=E5 l;⟨max n m,by simp only[V.lP,ζh];exact⟨zf (Nat.le_max_left _ _) h,LD (Nat.le_max_right _ _) k⟩⟩
theorem GA:∀x:List (V×V),∃n,V.nC n x=true
 | []=>⟨0,by simp only[V.nC]⟩
 | (a,b)::l=>let ⟨n,h⟩:=xX a;let ⟨m,k⟩:=xX b;let ⟨q,p⟩:=GA l;⟨max n (max m q),by simp only[V.nC,ζh];exact⟨⟨yu (by omega) h,yu (by omega) k⟩,Pp (by omega) p⟩⟩
end
theorem FR.nG {H:ak} {Z Z':Nat->Prop} {x y z:V} (h:FR H Z x z) (k:FR H Z' y z):x=y:=by
 obtain⟨n,hn⟩:=xX x;obtain⟨m,hm⟩:=xX y;have e1:=h.borrow (max n m) (yu (Nat.le_max_left _ _) hn);have e2:=k.borrow (max n m) (yu (Nat.le_max_right _ _) hm);rw[e1]at e2;exact Option.some.inj e2
open Classical in
noncomputable def xS (E:Env) (f:FuncId) (az:List V):Option V:=if h:∃y,Af E f az y then some (Classical.choose h)else none
theorem JK {E:Env} {f:FuncId} {az:List V} {y:V} (h:xS E f az=some y):Af E f az y:=by
 unfold xS at h;split at h
 .rename_i h1;cases h;exact Classical.choose_spec h1
 .cases h
theorem CA {E:Env} {f:FuncId} {az:List V} {y:V} (h:Af E f az y):xS E f az=some y:=by
 have h1:∃y,Af E f az y:=⟨y,h⟩;unfold xS;rw[dif_pos h1];obtain⟨n,z,H,Z,k1,k2,_⟩:=h;obtain⟨n',z',H',Z',k3,k4,_⟩:=Classical.choose_spec h1;have e1:=sP E (Nat.le_max_left n n') _ _ _ _ k1;have e2:=sP E (Nat.le_max_right n n') _ _ _ _ k3;rw[e1]at e2;cases e2;rw[FR.nG k4 k2]
theorem Gd {E:Env} {f:FuncId} {az:List V} {y:V} (hs:V.scalar y=true) (h:∃n H',run E n (.fn f) az []=some (y,H')):Af E f az y:=by
 obtain⟨n,H',h⟩:=h;exact⟨n,y,H',λ_=>False,h,.same _ (lq hs),λ_ h=>h.elim,⟨λ_ _ _ h=>h.elim⟩⟩
end Go.VE
