/-
 Plain values and the steps of a certificate.
-/
import Derived.KernelRfl
import Derived.Test.YtjbnbbbiijdbpaaGreatDoorN2
set_option linter.all false
namespace Go.VE
variable [aX]
inductive Sl (α:Type) where
 | nil
 | emp
 | row (l:List α)
 | part (l:List α)
 deriving Inhabited
def Sl.l {α:Type}:Sl α→List α
 | .nil|.emp=>[]
 | .row l|.part l=>l
def Sl.k {α:Type}:Sl α→Fl
 | .nil=>.nil
 | .emp=>.emp
 | .row _=>.row
 | .part _=>.part
class aI (α:Type) where
 cells:α→List V
 agg:Bool
 size:Nat
 len:∀a,(cells a).length=size
 good:∀a,V.bH (cells a)=true
 one:∀a,(cells a).all V.one=true
 plain:agg=false→size=1
def cells {α:Type} [aI α] (a:α):List V:=aI.cells a
def enc {α:Type} [aI α] (a:α):V:=if aI.agg α then .agg (cells a)else(cells a).headD .undef
def rows {α:Type} [aI α] (l:List α):List (List V):=l.map cells
def bz {α:Type} [aI α] (s:Sl α):V:=lC s.k (aI.size α) (rows s.l)
instance:aI Int where
 cells n:=[.int .i64 n]
 agg:=false
 size:=1
 len _:=rfl
 good _:=rfl
 one _:=rfl
 plain _:=rfl
instance:aI Bool where
 cells b:=[.bool b]
 agg:=false
 size:=1
 len _:=rfl
 good _:=rfl
 one _:=rfl
 plain _:=rfl
instance:aI ByteArray where
 cells s:=[.str s]
 agg:=false
 size:=1
 len _:=rfl
 good _:=rfl
 one _:=rfl
 plain _:=rfl
structure aa where
 proc:Int
 index:Int
 deriving DecidableEq,Inhabited
instance:aI aa where
 cells x:=[.int .i64 x.proc,.int .i64 x.index]
 agg:=true
 size:=2
 len _:=rfl
 good _:=rfl
 one _:=rfl
 plain h:=by cases h
@[simp] theorem Zt (n:Int):enc n=.int .i64 n:=rfl
@[simp] theorem Zc (n:Bool):enc n=.bool n:=rfl
@[simp] theorem Zu (n:ByteArray):enc n=.str n:=rfl
@[simp] theorem XD (n:Int):cells n=[.int .i64 n]:=rfl
@[simp] theorem WI (n:Bool):cells n=[.bool n]:=rfl
@[simp] theorem Yv (n:ByteArray):cells n=[.str n]:=rfl
@[simp] theorem Y8 (n:aa):cells n=[.int .i64 n.proc,.int .i64 n.index]:=rfl
@[simp] theorem SL (n:aa):enc n=.agg [.int .i64 n.proc,.int .i64 n.index]:=rfl
section
variable {α:Type} [aI α]
theorem iy (l:List α):(rows l).length=l.length:=by simp[rows]
def idx (s:Sl α) (i:Int):Option α:=if 0≤i then s.l[i.toNat]? else none
theorem KS {N:Nat→FuncId} (s:Sl α) (k:IntKind) (i:Int) {n:Nat} (hn:n=aI.size α):ay N (.idxS n) [bz s,.int k i]=(idx s i).map fun x=>.fptr (cells x):=by
 subst hn;unfold idx bz;simp only[ay,i_]
 by_cases h:i<0
 ·rw[if_pos h,if_neg (by omega)];rfl
 ·rw[if_neg h,if_pos (by omega)]
  cases s <;> simp[Sl.k,Sl.l,lC,rows,Function.comp_def]
theorem H9 {N:Nat→FuncId} (s:Sl α):ay N .lenSl [bz s]=some (.int .i64 s.l.length):=by
 cases s <;> simp[ay,nj,bz,Sl.k,Sl.l,lC,iy]
end
section
variable {S:Sys} {c:bE}
end
end Go.VE
namespace Go.VE
variable [aX]
section
variable {S:Sys} {c:bE}
def isSlice:sJ→Bool
 | .slice ..=>true
 | _=>false
theorem Mb (dr:Bool) (fr:List Nat) (dst:Option Nat) (now:Bool) (p:sJ) (az:List Arg) (st:St) (h:isSlice p=false) :
 dZ S c dr fr ⟨dst,none,now,.p p,az,[],[]⟩ st=(bp S.N st.g az).bind fun svs=>(iL S.N st.m p svs).bind fun x=>some (cr st dst x):=by
 unfold dZ lB;have hy:eu S.N st.g ⟨dst,none,now,.p p,az,[],[]⟩=none:=by unfold eu;cases p <;> rfl
 simp only[wanted,hy]
 cases hs:bp S.N st.g az with
 | none=>rfl
 | some svs=>
  simp only[ζb];cases p <;> first|(simp[isSlice]at h;done)|(cases hp:iL S.N st.m _ svs <;> simp[hp])
theorem EZ (N:Nat→FuncId) (m:Tb aQ) (p:sJ) (svs:List SV) (xs:List V) (h:dg svs=some xs):iL N m p svs=(ay N p xs).bind fun x=>some (.v x):=by
 unfold iL;rw[h];dsimp only;cases ay N p xs <;> rfl
theorem Cr (dr:Bool) (fr:List Nat) (dst:Option Nat) (now:Bool) (q:IX) (az:List Arg) (st:St) :
 dZ S c dr fr ⟨dst,none,now,.r q,az,[],[]⟩ st=(bp S.N st.g az).bind fun svs=>if !dr||now||dV fr svs then(mH st.m q svs).bind fun x=>some (cr st dst x)else none:=by
 unfold dZ lB;have hy:eu S.N st.g ⟨dst,none,now,.r q,az,[],[]⟩=none:=rfl;simp only[wanted,hy]
 cases hs:bp S.N st.g az with
 | none=>rfl
 | some svs=>
  simp only[ζb];split
  ·cases hp:mH st.m q svs <;> simp
  ·rfl
theorem zU (dr:Bool) (fr:List Nat) (d:Nat) (now:Bool) (q:H7) (az:List Arg) (st:St) :
 dZ S c dr fr ⟨some d,none,now,.a q,az,[],[]⟩ st=(bp S.N st.g az).bind fun svs=>if st.new d then(lU st.m q svs d).bind fun r=>some { st with g:=aV st.g d r.2,m:=aV st.m d r.1 } else none:=by
 unfold dZ lB;have hy:eu S.N st.g ⟨some d,none,now,.a q,az,[],[]⟩=none:=rfl;simp only[wanted,hy]
 cases hs:bp S.N st.g az with
 | none=>rfl
 | some svs=>
  simp only[ζb];split
  ·cases hp:lU st.m q svs d <;> simp[cr]
  ·rfl
theorem vv (dr:Bool) (fr:List Nat) (dst:Option Nat) (now:Bool) (q:Fz) (az:List Arg) (st:St) :
 dZ S c dr fr ⟨dst,none,now,.l q,az,[],[]⟩ st=(bp S.N st.g az).bind fun svs=>if !dr||now then(lI st dst q svs).bind fun r=>some (cr r.2 dst r.1)else none:=by
 unfold dZ lB;have hy:eu S.N st.g ⟨dst,none,now,.l q,az,[],[]⟩=none:=rfl;simp only[wanted,hy]
 cases hs:bp S.N st.g az with
 | none=>rfl
 | some svs=>
  simp only[ζb];split
  ·cases hp:lI st dst q svs <;> simp
  ·rfl
def oD:List SV→Option (FuncId×List SV)
 | .clo f a b::vs=>some (f,a++vs++b)
 | .v (.clo f a b)::vs=>some (f,a.map .v++vs++b.map .v)
 | _=>none
theorem W_ (dr:Bool) (fr:List Nat) (dst:Option Nat) (now:Bool) (az:List Arg) (st:St) (svs:List SV) (f:FuncId) (args:List SV) (hs:bp S.N st.g az=some svs) (hc:oD svs=some (f,args)) :
 dZ S c dr fr ⟨dst,none,now,.c,az,[],[]⟩ st=(h_ S c dst dr (!dr||now) (fU st.m fr) f args st).bind fun r=>some (cr r.2 dst r.1):=by
 unfold dZ lB;unfold oD at hc;split at hc
 ·simp only[ζa,ζc]at hc;obtain⟨rfl,rfl⟩:=hc;simp only[wanted,eu,hs];cases h_ S c dst dr _ _ _ _ st <;> simp
 ·simp only[ζa,ζc]at hc;obtain⟨rfl,rfl⟩:=hc;simp only[wanted,eu,hs];cases h_ S c dst dr _ _ _ _ st <;> simp
 ·simp at hc
noncomputable def KD {β:Type} (S:Sys) (c:bE) (fr:List Nat) (l:List RO) (k:St→Option β):St→Option β:=fun st=>(jR S c false fr l st).bind k
noncomputable def J2 {β:Type} (S:Sys) (c:bE) (fr:List Nat) (l:List RO) (k:St→Option β):St→Option β:=fun st=>(jR S c true fr l st).bind k
noncomputable def SP {β:Type} (S:Sys) (c:bE) (fr dd:List Nat) (l:List RO) (k:St→Option β):St→Option β:=fun st=>KD S c fr l k (lM dd st)
noncomputable def Ur {β:Type} (S:Sys) (c:bE) (fr dd:List Nat) (l:List RO) (k:St→Option β):St→Option β:=fun st=>J2 S c fr l k (lM dd st)
@[congr] theorem WG {β:Type} {fr:List Nat} {l:List RO} {k:St→Option β} {st st':St} (h:st=st'):KD S c fr l k st=KD S c fr l k st':=by rw[h]
@[congr] theorem Wf {β:Type} {fr fr':List Nat} {l:List RO} {k:St→Option β} {st st':St} (hf:fr=fr') (h:st=st'):J2 S c fr l k st=J2 S c fr' l k st':=by rw[h,hf]
@[congr] theorem Xa {β:Type} {fr dd:List Nat} {l:List RO} {k:St→Option β} {st st':St} (h:st=st'):SP S c fr dd l k st=SP S c fr dd l k st':=by rw[h]
@[congr] theorem Wr {β:Type} {fr fr' dd:List Nat} {l:List RO} {k:St→Option β} {st st':St} (hf:fr=fr') (h:st=st'):Ur S c fr dd l k st=Ur S c fr' dd l k st':=by rw[h,hf]
@[congr] theorem YB {dr:Bool} {fr:List Nat} {o:RO} {st st':St} (h:st=st'):dZ S c dr fr o st=dZ S c dr fr o st':=by rw[h]
end
section
variable {S:Sys} {c:bE} (dr:Bool) (fr:List Nat) (dst:Option Nat) (now:Bool) (az:List Arg) (st:St)
end
end Go.VE
namespace Go.VE
variable [aX]
inductive Fm where
 | seq (b:RC)
 | blk (id:Nat)
 | gst (x:Gh)
section
variable (S:Sys) (c:bE) {β:Type} (Q:Out×St→Option β)
noncomputable def runK:List Fm→Out×St→Option β
 | [],r=>Q r
 | .seq b::fs,(.norm,st)=>(br S c b st).bind (runK fs)
 | .seq _::fs,r=>runK fs r
 | .blk id::fs,(.exit k,st)=>if k=id then runK fs (.norm,st)else runK fs (.exit k,st)
 | .blk _::fs,r=>runK fs r
 | .gst x::fs,(.norm,st)=>(ghost x st).bind fun st=>runK fs (.norm,st)
 | .gst _::fs,r=>runK fs r
noncomputable def go (rc:RC) (fs:List Fm) (st:St):Option β:=(br S c rc st).bind (runK S c Q fs)
noncomputable def Mj (fs:List Fm):St→Option β:=fun st=>runK S c Q fs (.norm,st)
def au {α:Type} (t:Bool) (a b:α):α:=if t then a else b
end
@[congr] theorem Yl {α:Type} {t t':Bool} {a b a' b':α} (h:t=t') (ha:t'=true→a=a') (hb:t'=false→b=b'):au t a b=au t' a' b':=by
 subst h;cases t
 ·exact hb rfl
 ·exact ha rfl
section
variable {S:Sys} {c:bE} {β:Type} {Q:Out×St→Option β}
@[congr] theorem go_congr {a:RC} {fs:List Fm} {st st':St} (h:st=st'):go S c Q a fs st=go S c Q a fs st':=by rw[h]
@[congr] theorem VY {fs:List Fm} {st st':St} (h:st=st'):Mj S c Q fs st=Mj S c Q fs st':=by rw[h]
@[congr] theorem WE {fs:List Fm} {r r':Out×St} (h:r=r'):runK S c Q fs r=runK S c Q fs r':=by rw[h]
theorem C2 (rc:RC) (st:St):(br S c rc st).bind Q=go S c Q rc [] st:=by
 simp only[go];cases br S c rc st <;> rfl
inductive Fw (ν ε ρ:Type) where
 | n (a:ν)
 | x (e:ε)
 | r (b:ρ)
def gw {σ ε ρ:Type} (step:σ→Option (Fw σ ε ρ)):Nat→σ→Option (Fw Empty ε ρ)
 | 0,_=>none
 | k+1,s=>match step s with
  | some (.n s')=>gw step k s'
  | some (.x e)=>some (.x e)
  | some (.r b)=>some (.r b)
  | none=>none
theorem tT {σ ε ρ:Type} {step:σ→Option (Fw σ ε ρ)}:∀{k k':Nat} {s:σ} {r:Fw Empty ε ρ},k≤k'→gw step k s=some r→gw step k' s=some r
 | 0,_,_,_,_,h=>by simp[gw]at h
 | k+1,0,_,_,hk,_=>by omega
 | k+1,k'+1,s,r,hk,h=>by
  simp only[gw]at h ⊢;split at h
  ·exact tT (Nat.le_of_succ_le_succ hk) h
  ·exact h
  ·exact h
  ·simp at h
open Classical in
noncomputable def aW {σ ε ρ:Type} (step:σ→Option (Fw σ ε ρ)) (s:σ):Option (Fw Empty ε ρ):=
 if h:∃k r,gw step k s=some r then some (Classical.choose (Classical.choose_spec h))else none
theorem kz {σ ε ρ:Type} {step:σ→Option (Fw σ ε ρ)} {s:σ} {r:Fw Empty ε ρ}:aW step s=some r↔∃k,gw step k s=some r:=by
 unfold aW;constructor
 ·intro h;split at h
  ·rename_i hx;simp only[ζa]at h;exact⟨_,by rw[←h];exact Classical.choose_spec (Classical.choose_spec hx)⟩
  ·simp at h
 ·rintro⟨k,hk⟩;have hx:∃k r,gw step k s=some r:=⟨k,r,hk⟩;rw[dif_pos hx];have h2:=Classical.choose_spec (Classical.choose_spec hx);have h3:=tT (Nat.le_max_left (Classical.choose hx) k) h2;have h4:=tT (Nat.le_max_right (Classical.choose hx) k) hk;rw[h3]at h4;exact h4
def Fw.out {ν ε ρ:Type} (eν:ν→St) (eε:ε→Nat×St) (eρ:ρ→St):Fw ν ε ρ→Out×St
 | .n a=>(.norm,eν a)
 | .x e=>(.exit (eε e).1,(eε e).2)
 | .r b=>(.ret,eρ b)
def Fw.elim {ε ρ γ:Type} (fx:ε→γ) (fr:ρ→γ):Fw Empty ε ρ→γ
 | .x e=>fx e
 | .r b=>fr b
end
end Go.VE
namespace Go.VE
variable [aX]
class Lv (n:Nat) (α:Type) [aI α]:Prop where
 lv:∀a:α,V.ck n (cells a)=true
instance {n:Nat}:Lv n Int:=⟨fun _=>by cases n <;> rfl⟩
instance {n:Nat}:Lv n Bool:=⟨fun _=>by cases n <;> rfl⟩
instance {n:Nat}:Lv n ByteArray:=⟨fun _=>by cases n <;> rfl⟩
instance {n:Nat}:Lv n aa:=⟨fun _=>by cases n <;> rfl⟩
section
variable {α:Type} [aI α]
theorem BV (s:Sl α):V.one (bz s)=true:=by cases s <;> rfl
theorem IF (l:List α):V.kM (rows l)=true:=by
 induction l with
 | nil=>rfl
 | cons a l ih=>simp only[rows,List.map_cons,V.kM,ζh];exact⟨aI.good a,ih⟩
theorem GF (s:Sl α):V.good (bz s)=true:=by
 cases s <;> simp only[bz,Sl.k,lC,V.good] <;> exact IF _
theorem Lq {n:Nat} [Lv n α] (l:List α):V.jY n (rows l)=true:=by
 induction l with
 | nil=>cases n <;> rfl
 | cons a l ih=>simp only[rows,List.map_cons,V.jY,ζh];exact⟨Lv.lv a,ih⟩
theorem Bu {n:Nat} [Lv n α] (s:Sl α):V.lvl (n+1) (bz s)=true:=by
 cases s <;> simp only[bz,Sl.k,lC,V.lvl] <;> exact Lq _
instance:aI (Sl α) where
 cells s:=[bz s]
 agg:=false
 size:=1
 len _:=rfl
 good s:=by simp only[V.bH,GF,Bool.and_self]
 one s:=by simp[BV]
 plain _:=rfl
instance {n:Nat} [Lv n α]:Lv (n+1) (Sl α):=⟨fun s=>by
 show V.ck (n+1) [bz s]=true;simp only[V.ck,Bu,Bool.and_self]⟩
end
theorem NB (n:Nat) (cs:List V):V.lvl (n+1) (.agg cs)=V.ck n cs:=rfl
theorem Pp (n:Nat) (cs:List V):V.lvl (n+1) (.tup cs)=V.ck n cs:=rfl
theorem JJ (n:Nat) (cs:List V):V.lvl (n+1) (.fptr cs)=V.ck n cs:=rfl
theorem Nh (n:Nat) (f:FuncId) (a b:List V):V.lvl (n+1) (.clo f a b)=(V.ck n a&&V.ck n b):=rfl
theorem nU (n:Nat) (k:IntKind) (x:Int):V.lvl n (.int k x)=true:=by cases n <;> rfl
theorem lP (n:Nat) (x:Bool):V.lvl n (.bool x)=true:=by cases n <;> rfl
theorem oe (n:Nat) (x:ByteArray):V.lvl n (.str x)=true:=by cases n <;> rfl
theorem O5 (n:Nat):V.lvl n .aG=true:=by cases n <;> rfl
theorem MY (n:Nat):V.lvl n .cC=true:=by cases n <;> rfl
theorem KF (n:Nat):V.lvl n .eW=true:=by cases n <;> rfl
theorem jx (n:Nat):V.ck n []=true:=by cases n <;> rfl
theorem gY (n:Nat) (x:V) (r:List V):V.ck n (x::r)=(V.lvl n x&&V.ck n r):=by cases n <;> rfl
section
variable {S:Sys} {c:bE}
def HJ (x:Option SV) (b:Bool) (y z:Option St):Option St:=
 match x with
 | some (.v (.bool t))=>au (t==b) y z
 | some (.v _)=>z
 | _=>none
@[congr] theorem Um {x x':Option SV} {b:Bool} {y z:Option St} (h:x=x'):HJ x b y z=HJ x' b y z:=by rw[h]
def Mn {β:Type} (x:Option SV) (y z:Option β):Option β:=
 match x with
 | some (.v (.bool t))=>au t y z
 | _=>none
@[congr] theorem V0 {β:Type} {x x':Option SV} {y z:Option β} (h:x=x'):Mn x y z=Mn x' y z:=by rw[h]
def jJ (c:bE) (f:FuncId) (az:List V):Option (List V):=(c f (az.map .v) []).bind fun r=>bQ r.2 8 r.1
def HL (dr:Bool) (ok:Bool) (st:St) (ys:List V):Option (SV×St):=
 if V.lvl 8 (result ys)&&((result ys).scalar||ok)then some (.v (result ys),st)else none
theorem OK (dst:Option Nat) (dr now:Bool) (old:List SV→Bool) (f:FuncId) (args:List SV) (st:St) (hk:S.E.keep f=false) :
 h_ S c dst dr now old f args st=(bQ st.m 8 args).bind fun az=>if V.ck 8 az&&(now||old args)then(jJ c f az).bind (HL dr (dg args).isSome st)else none:=by
 unfold h_ jJ;simp only[hk,Bool.false_eq_true,if_false]
 cases bQ st.m 8 args with
 | none=>rfl
 | some az=>
  simp only[ζb];split
  ·cases c f (az.map .v) []with
   | none=>rfl
   | some r=>
    obtain⟨rs,m'⟩:=r;simp only[ζb];cases bQ m' 8 rs <;> rfl
  ·rfl
end
section
variable {S:Sys} {T:pJ}
def C6 (rs:List RV):Out×St→Option (List V)
 | (.exit _,_)=>none
 | (_,st)=>(mN st rs).bind (bQ st.m 8)
theorem Kc {f:FuncId} {rf:RF} (hT:T f=some rf) (az:List V) (hn:az.length≤rf.na):jJ (dU S T) f az=go S (dU S T) (C6 rf.rs) rf.body [] (start (az.map .v) []):=by
 unfold jJ;rw[D3 hT];unfold nv;rw[if_pos (by simpa using hn),←C2]
 cases h:br S (dU S T) rf.body (start (az.map .v) [])with
 | none=>rfl
 | some r=>
  obtain⟨o,st⟩:=r;cases o <;> simp only[ζb,C6] <;> (try rfl) <;> (cases mN st rf.rs <;> rfl)
end
end Go.VE
namespace Go.VE
variable [aX]
variable {N:Nat→FuncId}
def RR (a b:Int):Option Int:=if b=0 then none else some (a.tmod b)
def R6 (k:IntKind) (a b:Int):Option Int:=if b<0 then none else some (a.fdiv (2 ^ (min b.toNat k.bits)))
theorem CI (o:Nat) (cs:List V):ay N (.fieldAddr o) [.fptr cs]=if o≤cs.length then some (.fptr (cs.drop o))else none:=rfl
def gO (s:ByteArray) (n:Int):Option Int:=if 0≤n then(s[n.toNat]?).map fun b=>(b.toNat:Int)else none
theorem HY (s:ByteArray) (k:IntKind) (n:Int):ay N .idxStr [.str s,.int k n]=(gO s n).bind fun x=>some (.int .u8 x):=by
 simp only[ay,gO];split
 ·cases s[n.toNat]? <;> rfl
 ·rfl
section
variable {α:Type} [aI α]
theorem AN (s:Sl α) (k:IntKind) (i:Int) (n:Nat) (hn:n=aI.size α):ay N (.idxS n) [bz s,.int k i]=(idx s i).bind fun x=>some (.fptr (cells x)):=by
 rw[KS s k i hn];cases idx s i <;> rfl
theorem vB (s:Sl α):ay N .lenSl [bz s]=some (.int .i64 s.l.length):=H9 s
def gy (s:Sl α) (lo hi:Option Int):Option (Sl α):=
 (cE s.l.length lo hi).map fun (l,h)=>match s with
  | .nil=>.nil
  | .emp=>.emp
  | .row x=>.part ((x.take h).drop l)
  | .part x=>.part ((x.take h).drop l)
theorem Gg (s:Sl α) (lo hi:Option Int) (n:Nat) (hn:n=aI.size α):fP n (bz s) lo hi=(gy s lo hi).bind fun x=>some (bz x):=by
 subst hn
 cases s with
 | nil=>simp only[bz,Sl.k,lC,fP,gy,Sl.l,List.length_nil];cases cE 0 lo hi <;> rfl
 | emp=>simp only[bz,Sl.k,lC,fP,gy,Sl.l,List.length_nil];cases cE 0 lo hi <;> rfl
 | row l=>simp only[bz,Sl.k,lC,fP,gy,Sl.l,if_true,iy];cases cE l.length lo hi <;> simp[rows,List.map_take,List.map_drop]
 | part l=>simp only[bz,Sl.k,lC,fP,gy,Sl.l,if_true,iy];cases cE l.length lo hi <;> simp[rows,List.map_take,List.map_drop]
end
theorem Je (m:Tb aQ) (n:Nat) (a:Bool) (cs:List V):mH m (.load n a) [.v (.fptr cs)]=(cut cs 0 n).bind fun r=>(mk a r).bind fun x=>some (.v x):=by
 simp only[mH,cM]
 cases cut cs 0 n with
 | none=>rfl
 | some r=>simp only[ζb];cases mk a r <;> rfl
end Go.VE
namespace Go.VE
variable [aX]
section
variable {α:Type} [aI α]
def cR (s:Sl α):aQ:=.sl s.k (aI.size α) (rows s.l)
def Sl.oR (s:Sl α) (i:Int):Option Nat:=if 0≤i∧i.toNat<s.l.length then some i.toNat else none
def Sl.get (s:Sl α) (i:Nat):Option α:=s.l[i]?
def Sl.put (s:Sl α) (i:Nat) (x:α):Option (Sl α):=
 if i<s.l.length then some (match s with|.row l=>.row (l.set i x)|.part l=>.part (l.set i x)|s=>s)else none
def kB (s:Sl α) (x:α):Option (Sl α):=if s.l.length+1≤2147483648 then some (.row (s.l++[x]))else none
def sV (n:Int) (z:α):Option (Sl α):=if 0≤n∧n≤2147483648 then some (.row (List.replicate n.toNat z))else none
end
section
variable {α:Type} [aI α] {N:Nat→FuncId} {m:Tb aQ}
def GX (n d:Nat) (o:Option aQ) (i:Int):Option SV:=
 match o with
 | some (.sl k es xs)=>if bD k∧es=n∧0≤i∧i.toNat<xs.length then some (.el d i.toNat 0)else none
 | _=>none
theorem Nq (n d:Nat) (k:IntKind) (i:Int):iL N m (.idxS n) [.own d,.v (.int k i)]=GX n d (an m d) i:=by
 simp only[iL,dg,xF,GX]
 cases an m d with
 | none=>rfl
 | some o=>cases o <;> rfl
theorem NW (n d:Nat) (s:Sl α) (i:Int) (h:n=aI.size α):GX n d (some (cR s)) i=(s.oR i).bind fun j=>some (.el d j 0):=by
 subst h;simp only[GX,cR,iy,true_and,Sl.oR]
 cases s with
 | nil=>simp[Sl.l,Sl.k,bD]
 | emp=>simp[Sl.l,Sl.k,bD]
 | row l=>simp only[Sl.k,Sl.l,bD,true_and];by_cases h:0≤i∧i.toNat<l.length <;> simp[h]
 | part l=>simp only[Sl.k,Sl.l,bD,true_and];by_cases h:0≤i∧i.toNat<l.length <;> simp[h]
def G7 (o:Option aQ):Option SV:=
 match o with
 | some (.sl _ _ xs)=>some (.v (.int .i64 xs.length))
 | _=>none
theorem KA (d:Nat):iL N m .lenSl [.own d]=G7 (an m d):=by
 simp only[iL,dg,xF,G7]
 cases an m d with
 | none=>rfl
 | some o=>cases o <;> rfl
theorem NR (s:Sl α):G7 (some (cR s))=some (.v (.int .i64 s.l.length)):=by simp[G7,cR,iy]
def Gm (n:Nat) (a:Bool) (o:Nat) (ob:Option aQ):Option SV:=
 match ob with
 | some (.box cs)=>xh n a ((cs.drop o).take n)
 | _=>none
theorem Y5 (n:Nat) (a:Bool) (d o:Nat):mH m (.load n a) [.ptr d o]=Gm n a o (an m d):=by
 simp only[mH,Gm];rfl
theorem It (n:Nat) (a:Bool) (o:Nat) (cs:List SV):Gm n a o (some (.box cs))=xh n a ((cs.drop o).take n):=rfl
def zB (n:Nat) (a:Bool) (i o:Nat) (ob:Option aQ):Option SV:=
 match ob with
 | some (.sl _ _ xs)=>match xs[i]? with
  | some cs=>((cut cs o n).bind (mk a)).map .v
  | none=>none
 | _=>none
theorem Wb (n:Nat) (a:Bool) (d i o:Nat):mH m (.load n a) [.el d i o]=zB n a i o (an m d):=by
 simp only[mH,zB];rfl
theorem HN (n:Nat) (a:Bool) (i o:Nat) (s:Sl α):zB n a i o (some (cR s))=(s.get i).bind fun x=>(cut (cells x) o n).bind fun r=>(mk a r).bind fun y=>some (.v y):=by
 simp only[zB,cR,Sl.get,rows,List.getElem?_map]
 cases s.l[i]? with
 | none=>rfl
 | some x=>
  simp only[Option.map_some,ζb]
  cases cut (cells x) o n with
  | none=>rfl
  | some r=>simp only[ζb];cases mk a r <;> rfl
theorem Wy (z:α) (n:Int) (d:Nat) (size:Nat) (zero:List V) (h:zero=cells z) (h2:size=aI.size α) :
 lU m (.makeSl size zero) [.v (.int .i64 n),.v (.int .i64 n)] d=(sV n z).bind fun s=>some (cR s,.own d):=by
 subst h h2;simp only[lU,sV,true_and,Int.le_refl];split
 ·simp[cR,Sl.k,Sl.l,rows,List.map_replicate]
 ·rfl
def xH (st:St) (d i o size:Nat) (x:V) (ob:Option aQ):Option (SV×St):=
 match ob with
 | some (.sl k es xs)=>match xs[i]? with
  | some cs=>if x.cells.length=size∧o+size≤cs.length∧x.cells.all V.one=true then
   some (.v .undef,{ st with m:=aV st.m d (.sl k es (xs.set i (cs.take o++x.cells++cs.drop (o+x.cells.length)))) })else none
  | none=>none
 | _=>none
theorem G2 (st:St) (dst:Option Nat) (size d i o:Nat) (x:V):lI st dst (.store size) [.el d i o,.v x]=xH st d i o size x (an st.m d):=by
 simp only[lI,xH];rfl
theorem GR (g:Tb SV) (p:List Nat) (w:List (List V)) (mo:Bool) (y:Nat) (d i size:Nat) (x:V) (a:α) (hx:x.cells=cells a) (hs:size=aI.size α) (s:Sl α) :
 xH ⟨g,m,p,w,mo,y⟩ d i 0 size x (some (cR s))=(s.put i a).bind fun s'=>some (.v .undef,⟨g,aV m d (cR s'),p,w,mo,y⟩):=by
 have h1:(cells a).all V.one=true:=aI.one a;have hl:∀b:α,(cells b).length=aI.size α:=aI.len;subst hs;simp only[xH,cR,rows,List.getElem?_map,hx,Sl.put]
 by_cases hi:i<s.l.length
 ·have hg:s.l[i]? = some s.l[i]:=ζd hi;rw[if_pos hi,hg];simp only[Option.map_some,hl,h1,ζb];rw[if_pos ⟨trivial,by omega,trivial⟩]
  cases s with
  | nil=>simp[Sl.l]at hi
  | emp=>simp[Sl.l]at hi
  | row l=>simp[Sl.k,Sl.l,rows,List.drop_of_length_le,hl,List.map_set]
  | part l=>simp[Sl.k,Sl.l,rows,List.drop_of_length_le,hl,List.map_set]
 ·rw[if_neg hi,List.getElem?_eq_none (by omega)];rfl
def rm (st:St) (t n:Nat) (s:SV) (xs ys:Option (List (List V))):Option (SV×St):=
 match xs,ys with
 | some _,some []=>match s with
  | .own d=>match an st.m d with
   | some ob=>if St.new { st with m:=dm d st.m } t then some (.own t,{ st with m:=aV (dm d st.m) t ob })else none
   | none=>none
  | .v .aG=>if st.new t then some (.own t,{ st with m:=aV st.m t (.sl .nil n []) })else none
  | .v .cC=>if st.new t then some (.own t,{ st with m:=aV st.m t (.sl .emp n []) })else none
  | _=>none
 | some xs,some ys=>
  if xs.length+ys.length≤2147483648∧AX s=true then
   if St.new { st with m:=giveUp st.m s } t then some (.own t,{ st with m:=aV (giveUp st.m s) t (.sl .row n (xs++ys)) })else none
  else none
 | _,_=>none
theorem Bn (st:St) (t n:Nat) (s x:SV):lI st (some t) (.append n) [s,x]=rm st t n s (kT st.m n s) (kT st.m n x):=by
 cases s <;> cases x <;> (simp only[lI,rm];rfl)
def G3 (n:Nat) (o:Option aQ):Option (List (List V)):=
 match o with
 | some (.sl k es xs)=>if bD k then(if es=n then some xs else none)else some []
 | _=>none
theorem Fv (n d:Nat):kT m n (.own d)=G3 n (an m d):=by
 simp only[kT,G3]
 cases an m d with
 | none=>rfl
 | some ob=>cases ob <;> rfl
theorem AD (n:Nat) (s:Sl α) (h:n=aI.size α):G3 n (some (cR s))=some (rows s.l):=by
 subst h;cases s <;> simp[G3,cR,Sl.k,Sl.l,bD,rows]
theorem Pq (n:Nat):kT m n (.v .aG)=some []:=rfl
theorem NT (n:Nat):kT m n (.v .cC)=some []:=rfl
theorem Ic (g:Tb SV) (p:List Nat) (w:List (List V)) (mo:Bool) (y:Nat) (t n d:Nat) (l:List α) (x:α) (h:n=aI.size α):rm ⟨g,m,p,w,mo,y⟩ t n (.own d) (some (rows l)) (some (rows [x])) =
 (kB (.row l) x).bind fun s=>if St.new ⟨g,dm d m,p,w,mo,y⟩ t then some (.own t,⟨g,aV (dm d m) t (cR s),p,w,mo,y⟩)else none:=by
 subst h;have e:(rows l).length+(rows [x]).length=l.length+1:=by simp[iy]
 by_cases h:l.length+1≤2147483648
 ·have h1:kB (.row l) x=some (.row (l++[x])):=if_pos h;have h2:rm ⟨g,m,p,w,mo,y⟩ t (aI.size α) (.own d) (some (rows l)) (some (rows [x]))=if St.new ⟨g,dm d m,p,w,mo,y⟩ t then some (.own t,⟨g,aV (dm d m) t (.sl .row (aI.size α) (rows l++rows [x])),p,w,mo,y⟩)else none:=if_pos ⟨by omega,rfl⟩
  rw[h1,h2];simp only[ζb,cR,Sl.k,Sl.l,rows,List.map_append,List.map_cons,List.map_nil]
 ·have h1:kB (.row l) x=none:=if_neg h;have h2:rm ⟨g,m,p,w,mo,y⟩ t (aI.size α) (.own d) (some (rows l)) (some (rows [x]))=none:=if_neg (fun q=>h (by omega))
  rw[h1,h2];rfl
theorem HK (g:Tb SV) (p:List Nat) (w:List (List V)) (mo:Bool) (y:Nat) (t n:Nat) (x:α) (h:n=aI.size α):rm ⟨g,m,p,w,mo,y⟩ t n (.v .aG) (some []) (some (rows [x])) =
 if St.new ⟨g,m,p,w,mo,y⟩ t then some (.own t,⟨g,aV m t (cR (.row [x])),p,w,mo,y⟩)else none:=by
 subst h;simp[rm,rows,AX,giveUp,cR,Sl.k,Sl.l];rfl
theorem Ig (g:Tb SV) (p:List Nat) (w:List (List V)) (mo:Bool) (y:Nat) (t n:Nat) (x:α) (h:n=aI.size α):rm ⟨g,m,p,w,mo,y⟩ t n (.v .cC) (some []) (some (rows [x])) =
 if St.new ⟨g,m,p,w,mo,y⟩ t then some (.own t,⟨g,aV m t (cR (.row [x])),p,w,mo,y⟩)else none:=by
 subst h;simp[rm,rows,AX,giveUp,cR,Sl.k,Sl.l];rfl
end
theorem uu (g:Tb SV) (m:Tb aQ) (p:List Nat) (w:List (List V)) (mo:Bool) (y d:Nat):St.new ⟨g,m,p,w,mo,y⟩ d=(!(p.contains d)&&(an m d).isNone && !(rO d g) && !(oL d m)):=rfl
theorem nY (d:Nat):rO d []=false:=rfl
theorem mA (d n:Nat) (x:SV) (r:Tb SV):rO d ((n,x)::r)=(SV.bW d x||rO d r):=rfl
theorem oC (d:Nat):oL d []=false:=rfl
theorem mq (d n:Nat) (x:aQ) (r:Tb aQ):oL d ((n,x)::r)=(aQ.bW d x||oL d r):=rfl
theorem uH (d:Nat) (x:V):SV.bW d (.v x)=false:=rfl
theorem pW (d e:Nat):SV.bW d (.own e)=(e==d):=rfl
theorem pL (d e o:Nat):SV.bW d (.ptr e o)=(e==d):=rfl
theorem rX (d e i o:Nat):SV.bW d (.el e i o)=(e==d):=rfl
theorem rU (d e:Nat):SV.bW d (.mp e)=(e==d):=rfl
theorem qf (d:Nat) (f:FuncId) (a b:List SV):SV.bW d (.clo f a b)=(SV.cA d a||SV.cA d b):=rfl
theorem pO (d:Nat) (l:List SV):SV.bW d (.tup l)=SV.cA d l:=rfl
theorem nX (d:Nat):SV.cA d []=false:=rfl
theorem mL (d:Nat) (x:SV) (r:List SV):SV.cA d (x::r)=(SV.bW d x||SV.cA d r):=rfl
theorem nW (d:Nat) (cs:List SV):aQ.bW d (.box cs)=SV.cA d cs:=rfl
theorem By (m:Tb aQ) (n:Nat):bQ m n []=some []:=by cases n <;> simp only[bQ]
theorem zI (m:Tb aQ) (n:Nat) (x:SV) (r:List SV):bQ m n (x::r)=(shut m n x).bind fun y=>(bQ m n r).bind fun s=>some (y::s):=by
 cases n <;> (simp only[bQ];cases shut m _ x <;> (try rfl) <;> (cases bQ m _ r <;> rfl))
theorem RL (m:Tb aQ) (n:Nat) (x:V):shut m n (.v x)=some x:=by cases n <;> simp only[shut]
theorem LO (m:Tb aQ) (n:Nat) (f:FuncId) (a b:List SV):shut m (n+1) (.clo f a b)=(bQ m n a).bind fun x=>(bQ m n b).bind fun y=>some (.clo f x y):=by
 simp only[shut];cases bQ m n a <;> (try rfl) <;> (cases bQ m n b <;> rfl)
theorem KE (m:Tb aQ) (n:Nat) (l:List SV):shut m (n+1) (.tup l)=(bQ m n l).bind fun x=>some (.tup x):=by
 simp only[shut];cases bQ m n l <;> rfl
theorem qc {α:Type} (n:Nat):dm n ([]:Tb α)=[]:=rfl
theorem oq {α:Type} (n k:Nat) (x:α) (r:Tb α):dm n ((k,x)::r)=if k=n then dm n r else(k,x)::dm n r:=rfl
theorem mapM_nil (f:List SV→List SV):mapM f []=[]:=rfl
end Go.VE
namespace Go.VE
variable [aX]
section
variable {N:Nat→FuncId} {m:Tb aQ}
theorem OZ:result []=.tup []:=rfl
theorem Nd (x:V):result [x]=x:=rfl
theorem Oc (x y:V) (l:List V):result (x::y::l)=.tup (x::y::l):=rfl
theorem Cx (p:sJ) (a:V):iL N m p [.v a]=(ay N p [a]).bind fun x=>some (.v x):=EZ N m p _ [a] rfl
theorem yK (p:sJ) (a b:V):iL N m p [.v a,.v b]=(ay N p [a,b]).bind fun x=>some (.v x):=EZ N m p _ [a,b] rfl
theorem sB (l:List V):dg (l.map .v)=some l:=by
 induction l with
 | nil=>rfl
 | cons a l ih=>simp only[List.map_cons,dg,ih];rfl
theorem wq (n:Nat) (l:List V):bQ m n (l.map .v)=some l:=by
 induction l with
 | nil=>exact By m n
 | cons a l ih=>rw[List.map_cons,zI,RL,ih];rfl
theorem Sl.L5 {α:Type} (l:List α):(Sl.row l).l=l:=rfl
theorem pM (k:IntKind) (n:Int):V.one (.int k n)=true:=rfl
theorem nE (n:Bool):V.one (.bool n)=true:=rfl
theorem pP (n:ByteArray):V.one (.str n)=true:=rfl
end
end Go.VE
namespace Go.VE
variable [aX]
section
variable {S:Sys} {c:bE} {β γ δ:Type} {Q:Out×St→Option β} {L:Option β} {e:γ→Option β}
theorem Ih {dr:Bool} {fr:List Nat} {d:Option Nat} {gd:Option (Nat×Bool)} {now:Bool} {k:K} {az:List Arg} {st:St} (h:wanted st.g gd=some true) :
 dZ S c dr fr ⟨d,gd,now,k,az,[],[]⟩ st=dZ S c dr fr ⟨d,none,now,k,az,[],[]⟩ st:=by
 unfold dZ;rw[h];rfl
theorem yW (dr:Bool) (st:St):yI dr [] st=some st:=by cases dr <;> rfl
def lu (f:SV→Option V):List SV→Option (List V)
 | []=>some []
 | x::r=>(f x).bind fun y=>(lu f r).bind fun s=>some (y::s)
def gD (m:Tb aQ):Nat→SV→Option V
 | 0,x=>match x with
  | .v y=>some y
  | .own d=>match an m d with
   | some (.sl k es xs)=>some (lC k es xs)
   | _=>none
  | .mp d=>match an m d with
   | some (.mp kvs)=>some (.fmap kvs)
   | _=>none
  | _=>none
 | n+1,x=>match x with
  | .v y=>some y
  | .own d=>match an m d with
   | some (.sl k es xs)=>some (lC k es xs)
   | _=>none
  | .ptr d o=>match an m d with
   | some (.box cs)=>match lu (gD m n) cs with
    | some xs=>if o≤xs.length then some (.fptr (xs.drop o))else none
    | none=>none
   | _=>none
  | .mp d=>match an m d with
   | some (.mp kvs)=>some (.fmap kvs)
   | _=>none
  | .clo f a b=>(lu (gD m n) a).bind fun x=>(lu (gD m n) b).bind fun y=>some (.clo f x y)
  | .tup l=>(lu (gD m n) l).bind fun x=>some (.tup x)
  | _=>none
theorem xK (m:Tb aQ):∀(n:Nat),(∀x,shut m n x=gD m n x)∧∀l,bQ m n l=lu (gD m n) l:=by
 have hl:∀n,(∀x,shut m n x=gD m n x)→∀l,bQ m n l=lu (gD m n) l:=by
  intro n h l
  induction l with
  | nil=>exact By m n
  | cons a l ih=>rw[zI,h a,ih];rfl
 intro n
 induction n with
 | zero=>
  have h0:∀x,shut m 0 x=gD m 0 x:=by
   intro x;cases x <;> simp only[shut,gD] <;> rfl
  exact⟨h0,hl 0 h0⟩
 | succ n ih=>
  have h1:∀x,shut m (n+1) x=gD m (n+1) x:=by
   intro x
   cases x with
   | ptr d o=>simp only[shut,gD,ih.2];rfl
   | clo f a b=>rw[LO,ih.2,ih.2];rfl
   | tup l=>rw[KE,ih.2];rfl
   | _=>simp only[shut,gD] <;> rfl
  exact⟨h1,hl _ h1⟩
noncomputable def sU (S:Sys) (c:bE) (dr:Bool):List Nat→List RO→(St→Option β)→St→Option β
 | _,[],k,st=>k st
 | fr,o::r,k,st=>((yI dr o.pre st).bind (dZ S c dr fr o.strip)).bind fun st'=>sU S c dr (if dr then m_ fr o.strip else fr) r k (lM o.dead st')
theorem A3 (dr:Bool):∀(l:List RO) (fr:List Nat) (k:St→Option β) (st:St),sU S c dr fr l k st=(jR S c dr fr l st).bind k
 | [],_,_,_=>rfl
 | o::r,fr,k,st=>by
  simp only[sU,jR]
  cases (yI dr o.pre st).bind (dZ S c dr fr o.strip)with
  | none=>rfl
  | some st'=>exact A3 dr r _ k _
noncomputable def kq (S:Sys) (c:bE):RC→(St→Option β)→(Nat→St→Option β)→(St→Option β)→St→Option β
 | .skip,n,_,_,st=>n st
 | .ops l,n,_,_,st=>sU S c false [] l n st
 | .lK l,n,_,_,st=>sU S c true [] l n st
 | .seq a b,n,x,r,st=>kq S c a (fun st=>kq S c b n x r st) x r st
 | .cond y a b,n,x,r,st=>match mR S.N st.g y with
  | some (.v (.bool t))=>au t (kq S c a n x r st) (kq S c b n x r st)
  | _=>none
 | .block id a,n,x,r,st=>kq S c a n (fun k st=>if k=id then n st else x k st) r st
 | .loop a,n,x,r,st=>(kJ (br S c a) st).bind fun q=>match q with|(.norm,st)=>n st|(.exit k,st)=>x k st|(.ret,st)=>r st
 | .each g ps a b,n,x,r,st=>(br S c (.each g ps a b) st).bind fun q=>match q with|(.norm,st)=>n st|(.exit k,st)=>x k st|(.ret,st)=>r st
 | .exit k,_,x,_,st=>x k st
 | .ret,_,_,r,st=>r st
 | .gh g a,n,x,r,st=>(ghost g st).bind fun st=>kq S c a n x r st
 | .hg a g,n,x,r,st=>kq S c a (fun st=>(ghost g st).bind n) x r st
def AE (n:St→Option β) (x:Nat→St→Option β) (r:St→Option β):Out×St→Option β
 | (.norm,st)=>n st
 | (.exit k,st)=>x k st
 | (.ret,st)=>r st
theorem Al:∀(rc:RC) (n:St→Option β) (x:Nat→St→Option β) (r:St→Option β) (st:St),kq S c rc n x r st=(br S c rc st).bind (AE n x r):=by
 intro rc
 induction rc with
 | skip=>intros;rfl
 | ops l=>intro n x r st;simp only[kq,br,A3];cases jR S c false [] l st <;> rfl
 | lK l=>intro n x r st;simp only[kq,br,A3];cases jR S c true [] l st <;> rfl
 | seq a b iha ihb=>
  intro n x r st;simp only[kq,br,iha,ihb]
  cases h:br S c a st with
  | none=>rfl
  | some q=>obtain⟨o,st'⟩:=q;cases o <;> rfl
 | cond y a b iha ihb=>
  intro n x r st;simp only[kq,br,iha,ihb]
  cases mR S.N st.g y with
  | none=>rfl
  | some v=>cases v with
   | v z=>cases z with
    | bool t=>cases t <;> rfl
    | _=>rfl
   | _=>rfl
 | block id a ih=>
  intro n x r st;simp only[kq,br,ih]
  cases h:br S c a st with
  | none=>rfl
  | some q=>
   obtain⟨o,st'⟩:=q
   cases o with
   | exit k=>simp only[ζb,AE];split <;> rfl
   | _=>rfl
 | loop a ih=>
  intro n x r st;simp only[kq,br];rfl
 | each g ps a b iha ihb=>
  intro n x r st;simp only[kq];rfl
 | exit k=>intros;rfl
 | ret=>intros;rfl
 | gh g a ih=>
  intro n x r st;simp only[kq,br,ih];cases ghost g st <;> rfl
 | hg a g ih=>
  intro n x r st;simp only[kq,br,ih]
  cases h:br S c a st with
  | none=>rfl
  | some q=>
   obtain⟨o,st'⟩:=q
   cases o with
   | norm=>simp only[ζb,AE];cases ghost g st' <;> rfl
   | _=>rfl
section
variable (S c Q)
mutual
noncomputable def jQ:List Fm→St→Option β
 | []=>fun st=>Q (.norm,st)
 | .seq b::fs=>fun st=>kq S c b (jQ fs) (jH fs) (fun st=>Q (.ret,st)) st
 | .blk _::fs=>jQ fs
 | .gst g::fs=>fun st=>(ghost g st).bind (jQ fs)
noncomputable def jH:List Fm→Nat→St→Option β
 | []=>fun k st=>Q (.exit k,st)
 | .seq _::fs=>jH fs
 | .blk id::fs=>fun k st=>if k=id then jQ fs st else jH fs k st
 | .gst _::fs=>jH fs
end
noncomputable def jW (rc:RC) (fs:List Fm) (st:St):Option β:=kq S c rc (jQ S c Q fs) (jH S c Q fs) (fun st=>Q (.ret,st)) st
end
section
variable {dr:Bool} {fr:List Nat} {d:Nat} {dst:Option Nat} {now:Bool} {az:List Arg} {st:St} {α:Type} [aI α]
theorem Rk {p:sJ} {svs:List SV} {m:Option δ} {v:δ→SV} (hs:bp S.N st.g az=some svs) (hi:isSlice p=false) (h:iL S.N st.m p svs=m.bind fun x=>some (v x)) :
 dZ S c dr fr ⟨dst,none,now,.p p,az,[],[]⟩ st=m.bind fun x=>some (cr st dst (v x)):=by
 rw[Mb _ _ _ _ _ _ _ hi,hs];simp only[ζb,h];cases m <;> rfl
theorem CE {p:sJ} {svs:List SV} {v:SV} (hs:bp S.N st.g az=some svs) (hi:isSlice p=false) (h:iL S.N st.m p svs=some v) :
 dZ S c dr fr ⟨dst,none,now,.p p,az,[],[]⟩ st=some (cr st dst v):=by
 rw[Mb _ _ _ _ _ _ _ hi,hs];simp only[ζb,h]
theorem L9 {n:Nat} {s:Sl α} {k:IntKind} {i:Int} (hs:bp S.N st.g az=some [.v (bz s),.v (.int k i)]) (hn:n=aI.size α) :
 dZ S c dr fr ⟨dst,none,now,.p (.idxS n),az,[],[]⟩ st=(idx s i).bind fun x=>some (cr st dst (.v (.fptr (cells x)))):=
 Rk hs rfl (by rw[yK,AN s k i n hn];cases idx s i <;> rfl)
theorem Wd {n e:Nat} {s:Sl α} {k:IntKind} {i:Int} (hs:bp S.N st.g az=some [.own e,.v (.int k i)]) (ho:an st.m e=some (cR s)) (hn:n=aI.size α) :
 dZ S c dr fr ⟨dst,none,now,.p (.idxS n),az,[],[]⟩ st=(s.oR i).bind fun j=>some (cr st dst (.el e j 0)):=
 Rk hs rfl (by rw[Nq,ho,NW n e s i hn])
theorem Mf {s:Sl α} (hs:bp S.N st.g az=some [.v (bz s)]):dZ S c dr fr ⟨dst,none,now,.p .lenSl,az,[],[]⟩ st=some (cr st dst (.v (.int .i64 s.l.length))):=
 CE hs rfl (by rw[Cx,vB];rfl)
theorem VF {e:Nat} {s:Sl α} (hs:bp S.N st.g az=some [.own e]) (ho:an st.m e=some (cR s)):dZ S c dr fr ⟨dst,none,now,.p .lenSl,az,[],[]⟩ st=some (cr st dst (.v (.int .i64 s.l.length))):=
 CE hs rfl (by rw[KA,ho,NR])
theorem Ll {s:ByteArray} {k:IntKind} {n:Int} (hs:bp S.N st.g az=some [.v (.str s),.v (.int k n)]):dZ S c dr fr ⟨dst,none,now,.p .idxStr,az,[],[]⟩ st=(gO s n).bind fun x=>some (cr st dst (.v (.int .u8 x))):=
 Rk hs rfl (by rw[yK,HY];cases gO s n <;> rfl)
theorem Vx {n e i o:Nat} {a:Bool} {s:Sl α} {v:α→V} (hs:bp S.N st.g az=some [.el e i o]) (hd:(!dr||now||dV fr [.el e i o])=true) (ho:an st.m e=some (cR s)) (hv:∀x:α,(cut (cells x) o n).bind (mk a)=some (v x)) :
 dZ S c dr fr ⟨dst,none,now,.r (.load n a),az,[],[]⟩ st=(s.get i).bind fun x=>some (cr st dst (.v (v x))):=by
 rw[Cr,hs];simp only[ζb,hd,if_true,Wb,ho,HN]
 cases s.get i with
 | none=>rfl
 | some x=>
  simp only[ζb];have:=hv x
  cases hc:cut (cells x) o n with
  | none=>rw[hc]at this;cases this
  | some r=>rw[hc]at this;simp only[ζb]at this ⊢;rw[this];rfl
theorem M6 {n e i:Nat} {s:Sl α} {x:V} {a:α} (hs:bp S.N st.g az=some [.el e i 0,.v x]) (hd:(!dr||now)=true) (ho:an st.m e=some (cR s)) (hx:x.cells=cells a) (hn:n=aI.size α) :
 dZ S c dr fr ⟨dst,none,now,.l (.store n),az,[],[]⟩ st=(s.put i a).bind fun s'=>some (cr { st with m:=aV st.m e (cR s') } dst (.v .undef)):=by
 rw[vv,hs];simp only[ζb,hd,if_true,G2,ho];rw[GR st.g st.pin st.want st.more st.yid e i n x a hx hn s];cases s.put i a <;> rfl
theorem Vj {n:Nat} {z:α} {zero:List V} {i:Int} (hs:bp S.N st.g az=some [.v (.int .i64 i),.v (.int .i64 i)]) (hz:zero=cells z) (hn:n=aI.size α) (hw:st.new d=true) :
 dZ S c dr fr ⟨some d,none,now,.a (.makeSl n zero),az,[],[]⟩ st=(sV i z).bind fun s=>some { st with g:=aV st.g d (.own d),m:=aV st.m d (cR s) }:=by
 rw[zU,hs];simp only[ζb,hw,if_true];rw[Wy z i d n zero hz hn];cases sV i z <;> rfl
theorem W0 {n e u:Nat} {s:Sl α} {x:α} (hs:bp S.N st.g az=some [.own e,.own u]) (hd:(!dr||now)=true) (ho:an st.m e=some (cR s)) (hu:an st.m u=some (cR (.row [x]))) (hn:n=aI.size α) (hw:St.new { st with m:=dm e st.m } d=true) :
 dZ S c dr fr ⟨some d,none,now,.l (.append n),az,[],[]⟩ st=(kB s x).bind fun s'=>some { st with g:=aV st.g d (.own d),m:=aV (dm e st.m) d (cR s') }:=by
 rw[vv,hs];simp only[ζb,hd,if_true,Bn,Fv,ho,hu];rw[AD n s hn,AD n (.row [x]) hn];have:=Ic (m:=st.m) st.g st.pin st.want st.more st.yid d n e s.l x hn;simp only[Sl.L5];rw[show rm st d n (.own e) (some (rows s.l)) (some (rows [x]))=_ from this];have ha:kB (.row s.l) x=kB s x:=by cases s <;> rfl
 rw[ha]
 cases kB s x with
 | none=>rfl
 | some s'=>
  simp only[ζb];rw[if_pos hw];rfl
theorem VL {n u:Nat} {x:α} {v:V} (hv:v=.aG∨v=.cC) (hs:bp S.N st.g az=some [.v v,.own u]) (hd:(!dr||now)=true) (hu:an st.m u=some (cR (.row [x]))) (hn:n=aI.size α) (hw:st.new d=true) :
 dZ S c dr fr ⟨some d,none,now,.l (.append n),az,[],[]⟩ st=some { st with g:=aV st.g d (.own d),m:=aV st.m d (cR (.row [x])) }:=by
 rw[vv,hs];simp only[ζb,hd,if_true,Bn,Fv,hu];rw[AD n (.row [x]) hn];simp only[Sl.L5];rcases hv with rfl|rfl
 ·rw[Pq,show rm st d n (.v .aG) (some []) (some (rows [x]))=_ from HK (m:=st.m) st.g st.pin st.want st.more st.yid d n x hn];rw[if_pos hw];rfl
 ·rw[NT,show rm st d n (.v .cC) (some []) (some (rows [x]))=_ from Ig (m:=st.m) st.g st.pin st.want st.more st.yid d n x hn];rw[if_pos hw];rfl
theorem Tf {f:FuncId} {svs args:List SV} {cs:List V} {m:Option δ} {E:δ→List V} (hc:jJ c f cs=m.bind fun r=>some (E r)) (hk:S.E.keep f=false) (hs:bp S.N st.g az=some svs) (hf:oD svs=some (f,args))
 (hsh:lu (gD st.m 8) args=some cs) (hl:V.ck 8 cs=true) (ho:((!dr||now)||fU st.m fr args)=true) (hr:∀r,(V.lvl 8 (result (E r))&&((result (E r)).scalar||(dg args).isSome))=true) :
 dZ S c dr fr ⟨dst,none,now,.c,az,[],[]⟩ st=m.bind fun r=>some (cr st dst (.v (result (E r)))):=by
 rw[W_ dr fr dst now az st svs f args hs hf,OK _ _ _ _ _ _ _ hk,(xK st.m 8).2,hsh];simp only[ζb,hl,ho,Bool.and_self,if_true,hc]
 cases m with
 | none=>rfl
 | some r=>
  simp only[ζb,HL];rw[if_pos (hr r)];rfl
end
end
end Go.VE
namespace Go.VE
variable [aX]
section
variable {S:Sys} {c:bE} {β γ:Type} {Q:Out×St→Option β} {L:Option β} {e:γ→Option β}
theorem rW (rc:RC) (st:St):jW S c Q rc [] st=(br S c rc st).bind Q:=by
 unfold jW;rw[Al]
 congr 1
 funext q;obtain⟨o,st⟩:=q
 cases o <;> rfl
theorem xO (rc:RC) (st:St):br S c rc st=jW S c some rc [] st:=by
 rw[rW];cases br S c rc st <;> rfl
def nQ (rs:List RV):Out×St→Option (List V)
 | (.exit _,_)=>none
 | (_,st)=>(mN st rs).bind (lu (gD st.m 8))
theorem Ou (rs:List RV):C6 rs=nQ rs:=by
 funext q;obtain⟨o,st⟩:=q
 cases o
 ·simp only[C6,nQ];congr 1;funext l;exact(xK st.m 8).2 l
 ·rfl
 ·simp only[C6,nQ];congr 1;funext l;exact(xK st.m 8).2 l
theorem Ny {S:Sys} {T:pJ} {f:FuncId} {rf:RF} (hT:T f=some rf) (az:List V) (hn:az.length≤rf.na):jJ (dU S T) f az=jW S (dU S T) (nQ rf.rs) rf.body [] (start (az.map .v) []):=by
 rw[Kc hT az hn,←C2,rW,Ou]
end
end Go.VE
namespace Go.VE
variable [aX]
def kH {α σ ε ρ:Type} (step:α→σ→Option (Fw σ ε ρ)):List α→σ→Option (Fw σ ε ρ)
 | [],s=>some (.n s)
 | x::xs,s=>(step x s).bind fun w=>match w with
  | .n s'=>kH step xs s'
  | .x e=>some (.x e)
  | .r b=>some (.r b)
def Fw.tH {ν ε ρ γ:Type} (fn:ν→γ) (fx:ε→γ) (fr:ρ→γ):Fw ν ε ρ→γ
 | .n a=>fn a
 | .x e=>fx e
 | .r b=>fr b
def Fw.sO {ν ε ρ:Type} (eν:ν→Tb aQ) (eε:ε→Nat×Tb aQ) (eρ:ρ→Tb aQ):Fw ν ε ρ→Out×Tb aQ
 | .n a=>(.norm,eν a)
 | .x e=>(.exit (eε e).1,(eε e).2)
 | .r b=>(.ret,eρ b)
def sO (q:Out×St):Option (Out×Tb aQ):=some (q.1,q.2.m)
section
variable {S:Sys} {c:bE} {β γ:Type} {Q:Out×St→Option β} {L:Option β} {e:γ→Option β}
noncomputable def uR (S:Sys) (c:bE) (b:RC):Out×St→Option (Out×Tb aQ)
 | (.norm,st)=>jW S c sO b [] st
 | _=>none
theorem GV (ps:List Nat) (a b:RC) (st:St) (x:List V) (m:Tb aQ) (hx:x.length=ps.length) :
 fR ps (br S c a) (br S c b) st x m=jW S c (uR S c b) a [] ⟨tE st.g ps (x.map .v),m,st.pin++lV st.g,[],true,0⟩:=by
 unfold fR;rw[if_pos hx,rW]
 cases br S c a ⟨tE st.g ps (x.map .v),m,st.pin++lV st.g,[],true,0⟩with
 | none=>rfl
 | some q=>
  obtain⟨o,st1⟩:=q
  cases o with
  | norm=>
   simp only[ζb,uR];rw[rW];cases br S c b st1 <;> rfl
  | _=>rfl
end
end Go.VE
namespace Go.VE
variable [aX]
def Le {α:Type} (a b:Option α):Prop:=∀r,a=some r→b=some r
section
variable {α:Type}
theorem Le.refl (a:Option α):Le a a:=fun _ h=>h
theorem Le.of_eq {a b:Option α} (h:b=a):Le a b:=fun _ h2=>h.trans h2
theorem Le.trans {a b d:Option α} (h1:Le a b) (h2:Le b d):Le a d:=fun r h=>h2 r (h1 r h)
theorem Le.none (b:Option α):Le (none:Option α) b:=fun r h=>by cases h
theorem Le.bind {β:Type} {a b:Option α} {f g:α→Option β} (h:Le a b) (hf:∀x,Le (f x) (g x)):Le (a.bind f) (b.bind g):=fun r hr=>by
 obtain⟨x,h1,h2⟩:=ζg.1 hr;rw[h x h1];exact hf x r h2
end
section
variable {S:Sys} {c:bE} {β γ δ:Type} {Q:Out×St→Option β} {L:Option β} {e:γ→Option β}
theorem C1 {dr:Bool} {fr:List Nat} {dst:Option Nat} {now:Bool} {az:List Arg} {st:St} {f:FuncId} {svs args:List SV} {cs:List V} {m:Option δ} {E:δ→List V} (hc:Le (m.bind fun r=>some (E r)) (jJ c f cs)) (hk:S.E.keep f=false) (hs:bp S.N st.g az=some svs) (hf:oD svs=some (f,args))
 (hsh:lu (gD st.m 8) args=some cs) (hl:V.ck 8 cs=true) (ho:((!dr||now)||fU st.m fr args)=true) (hr:∀r,(V.lvl 8 (result (E r))&&((result (E r)).scalar||(dg args).isSome))=true) :
 Le (m.bind fun r=>some (cr st dst (.v (result (E r))))) (dZ S c dr fr ⟨dst,none,now,.c,az,[],[]⟩ st):=by
 intro q hq;obtain⟨r,h1,h2⟩:=ζg.1 hq;have hc':jJ c f cs=(some r).bind fun r=>some (E r):=hc _ (by rw[h1];rfl)
 rw[Tf (m:=some r) hc' hk hs hf hsh hl ho hr];exact h2
theorem K5 {σ ε ρ:Type} {f:St→Option (Out×St)} {step:σ→Option (Fw σ ε ρ)} {eσ:σ→St} {eε:ε→Nat×St} {eρ:ρ→St} (h:∀s,Le ((step s).bind fun w=>some (Fw.out eσ eε eρ w)) (f (eσ s))) (s:σ) :
 Le ((aW step s).bind fun w=>some (Fw.out (fun e=>Empty.elim e) eε eρ w)) (kJ f (eσ s)):=by
 have key:∀k s r,gw step k s=some r→gm f k (eσ s)=some (Fw.out (fun e=>Empty.elim e) eε eρ r):=by
  intro k
  induction k with
  | zero=>intro s r h;simp[gw]at h
  | succ k ih=>
   intro s r hw;simp only[gw]at hw
   cases hs:step s with
   | none=>rw[hs]at hw;cases hw
   | some w=>
    rw[hs]at hw;have h2:=h s (Fw.out eσ eε eρ w) (by rw[hs];rfl)
    simp only[gm,h2]
    cases w with
    | n a=>exact ih a r hw
    | x e=>cases hw;rfl
    | r b=>cases hw;rfl
 intro r hr;obtain⟨w,h1,h2⟩:=ζg.1 hr;obtain⟨k,hk⟩:=kz.1 h1;cases h2;exact jK.2 ⟨k,key k s w hk⟩
theorem WW {σ ε ρ:Type} {a:RC} {fs:List Fm} {step:σ→Option (Fw σ ε ρ)} {eσ:σ→St} {eε:ε→Nat×St} {eρ:ρ→St} {s:σ} {fx:ε→Option γ} {fr:ρ→Option γ}
 (hL:L=jW S c Q (.loop a) fs (eσ s)) (h:∀s,Le ((step s).bind fun w=>some (Fw.out eσ eε eρ w)) (jW S c some a [] (eσ s)))
 (hx:∀x,Le ((fx x).bind e) (jH S c Q fs (eε x).1 (eε x).2)) (hr:∀b,Le ((fr b).bind e) (Q (.ret,eρ b))):Le (((aW step s).bind (Fw.elim fx fr)).bind e) L:=by
 subst hL;have h1:jW S c Q (.loop a) fs (eσ s)=(kJ (br S c a) (eσ s)).bind (AE (jQ S c Q fs) (jH S c Q fs) (fun st=>Q (.ret,st))):=by
  unfold jW;rw[Al];rfl
 rw[h1];have h2:=K5 (step:=step) (f:=br S c a) (eσ:=eσ) (eε:=eε) (eρ:=eρ) (fun s=>by rw[xO];exact h s) s
 cases hw:aW step s with
 | none=>exact Le.none _
 | some w=>
  have h3:=h2 _ (by rw[hw];rfl)
  rw[h3]
  cases w with
  | n a=>cases a
  | x a=>exact hx a
  | r a=>exact hr a
theorem Cz {α σ ε ρ:Type} {f:List V→Tb aQ→Option (Out×Tb aQ)} {step:α→σ→Option (Fw σ ε ρ)} {eI:α→List V} {eσ:σ→Tb aQ} {eε:ε→Nat×Tb aQ} {eρ:ρ→Tb aQ}
 (h:∀x s,Le ((step x s).bind fun w=>some (Fw.sO eσ eε eρ w)) (f (eI x) (eσ s))):∀(xs:List α) (s:σ),Le ((kH step xs s).bind fun w=>some (Fw.sO eσ eε eρ w)) (lH f (xs.map eI) (eσ s))
 | [],s=>fun r hr=>hr
 | x::xs,s=>by
  simp only[List.map_cons,lH,kH]
  cases hs:step x s with
  | none=>exact Le.none _
  | some w=>
   have h2:=h x s (Fw.sO eσ eε eρ w) (by rw[hs];rfl)
   rw[h2]
   cases w with
   | n s'=>simp only[ζb,Fw.sO];exact Cz h xs s'
   | x e=>exact Le.refl _
   | r b=>exact Le.refl _
theorem Wq {α σ ε ρ:Type} {g:Arg} {ps:List Nat} {a b:RC} {fs:List Fm} {f:FuncId} {x y:List V} {items:List α} {eI:α→List V} {step:α→σ→Option (Fw σ ε ρ)} {eσ:σ→Tb aQ} {eε:ε→Nat×Tb aQ} {eρ:ρ→Tb aQ} {gt:Tb SV} {s:σ}
 {fn:σ→Option γ} {fx:ε→Option γ} {fr:ρ→Option γ}
 (hL:L=jW S c Q (.each g ps a b) fs ⟨gt,eσ s,[],[],true,0⟩) (hg:mR S.N gt g=some (.v (.clo f x y))) (hi:S.items f x y=some (items.map eI)) (hl:∀x,(eI x).length=ps.length)
 (h:∀x s,Le ((step x s).bind fun w=>some (Fw.sO eσ eε eρ w)) (jW S c (uR S c b) a [] ⟨tE gt ps ((eI x).map .v),eσ s,lV gt,[],true,0⟩))
 (hn:∀s,Le ((fn s).bind e) (jQ S c Q fs ⟨gt,eσ s,[],[],true,0⟩))
 (hx:∀x,Le ((fx x).bind e) (jH S c Q fs (eε x).1 ⟨gt,(eε x).2,[],[],true,0⟩)) (hr:∀b,Le ((fr b).bind e) (Q (.ret,⟨gt,eρ b,[],[],true,0⟩))) :
 Le (((kH step items s).bind (Fw.tH fn fx fr)).bind e) L:=by
 subst hL;have h1:jW S c Q (.each g ps a b) fs ⟨gt,eσ s,[],[],true,0⟩=(br S c (.each g ps a b) ⟨gt,eσ s,[],[],true,0⟩).bind (AE (jQ S c Q fs) (jH S c Q fs) (fun st=>Q (.ret,st))):=by
  unfold jW;rw[Al]
 rw[h1];simp only[br,hg,hi];have h2:=Cz (step:=step) (f:=fR ps (br S c a) (br S c b) ⟨gt,eσ s,[],[],true,0⟩) (eI:=eI) (eσ:=eσ) (eε:=eε) (eρ:=eρ) (fun x s=>by rw[GV _ _ _ _ _ _ (hl x)];exact h x s) items s
 cases hw:kH step items s with
 | none=>exact Le.none _
 | some w=>
  have h3:=h2 _ (by rw[hw];rfl)
  rw[h3]
  cases w with
  | n a=>exact hn a
  | x a=>exact hx a
  | r a=>exact hr a
end
end Go.VE
namespace Go.VE
variable [aX]
inductive Fo where
 | rc (c:RC)
 | ops (dr:Bool) (fr:List Nat) (l:List RO)
 | nx
 | ex (k:Nat)
 | rt
abbrev aR (g:Tb SV) (m:Tb aQ):St:=⟨g,m,[],[],true,0⟩
section
variable (S:Sys) (c:bE) {β:Type} (Q:Out×St→Option β)
noncomputable def rn:Fo→List Fm→St→Option β
 | .rc a,fs,st=>jW S c Q a fs st
 | .ops dr fr l,fs,st=>sU S c dr fr l (jQ S c Q fs) st
 | .nx,fs,st=>jQ S c Q fs st
 | .ex k,fs,st=>jH S c Q fs k st
 | .rt,_,st=>Q (.ret,st)
noncomputable def uU:Fo→List Fm→St→Option (Fo×List Fm×St)
 | .rc .skip,fs,st=>some (.nx,fs,st)
 | .rc (.ops l),fs,st=>some (.ops false [] l,fs,st)
 | .rc (.lK l),fs,st=>some (.ops true [] l,fs,st)
 | .rc (.seq a b),fs,st=>some (.rc a,.seq b::fs,st)
 | .rc (.cond y a b),fs,st=>match mR S.N st.g y with
  | some (.v (.bool true))=>some (.rc a,fs,st)
  | some (.v (.bool false))=>some (.rc b,fs,st)
  | _=>none
 | .rc (.block id a),fs,st=>some (.rc a,.blk id::fs,st)
 | .rc (.exit k),fs,st=>some (.ex k,fs,st)
 | .rc .ret,fs,st=>some (.rt,fs,st)
 | .rc (.gh g a),fs,st=>match ghost g st with
  | some st'=>some (.rc a,fs,st')
  | none=>none
 | .rc (.hg a g),fs,st=>some (.rc a,.gst g::fs,st)
 | .rc (.loop _),_,_=>none
 | .rc (.each ..),_,_=>none
 | .ops _ _ [],fs,st=>some (.nx,fs,st)
 | .ops dr fr (⟨d,gd,now,k,az,dd,[]⟩::r),fs,st=>match dZ S c dr fr ⟨d,gd,now,k,az,[],[]⟩ st with
  | some st'=>some (.ops dr (if dr then m_ fr ⟨d,gd,now,k,az,[],[]⟩else fr) r,fs,lM dd st')
  | none=>none
 | .ops false fr (⟨d,gd,now,k,az,dd,x::xs⟩::r),fs,st=>match ghost x st with
  | some st'=>some (.ops false fr (⟨d,gd,now,k,az,dd,xs⟩::r),fs,st')
  | none=>none
 | .ops true _ (⟨_,_,_,_,_,_,_::_⟩::_),_,_=>none
 | .nx,.seq b::fs,st=>some (.rc b,fs,st)
 | .nx,.blk _::fs,st=>some (.nx,fs,st)
 | .nx,.gst g::fs,st=>match ghost g st with
  | some st'=>some (.nx,fs,st')
  | none=>none
 | .nx,[],_=>none
 | .ex k,.seq _::fs,st=>some (.ex k,fs,st)
 | .ex k,.blk id::fs,st=>some (if k=id then .nx else .ex k,fs,st)
 | .ex k,.gst _::fs,st=>some (.ex k,fs,st)
 | .ex _,[],_=>none
 | .rt,_,_=>none
noncomputable def fI:Nat→Fo→List Fm→St→Option (Fo×List Fm×St)
 | 0,fo,fs,st=>some (fo,fs,st)
 | n+1,fo,fs,st=>match uU S c fo fs st with
  | some (fo',fs',st')=>fI n fo' fs' st'
  | none=>none
end
section
variable {S:Sys} {c:bE} {β γ δ:Type} {Q:Out×St→Option β} {e:γ→Option β}
theorem Lh {fo fo':Fo} {fs fs':List Fm} {st st':St} (h:uU S c fo fs st=some (fo',fs',st')):rn S c Q fo fs st=rn S c Q fo' fs' st':=by
 cases fo with
 | rc a=>
  cases a with
  | cond y a b=>
   simp only[uU]at h;split at h
   ·rename_i hs;cases h;simp only[rn,jW,kq,hs,au,if_true]
   ·rename_i hs;cases h;simp only[rn,jW,kq,hs,au];rfl
   ·cases h
  | gh g a=>
   simp only[uU]at h;split at h
   ·rename_i hs;cases h;simp only[rn,jW,kq,hs,ζb]
   ·cases h
  | loop a=>cases h
  | each g ps a b=>cases h
  | seq a b=>cases h;simp only[rn,jW,kq,jQ,jH]
  | block id a=>cases h;simp only[rn,jW,kq,jQ,jH]
  | hg a g=>cases h;simp only[rn,jW,kq,jQ,jH]
  | _=>cases h;simp only[rn,jW,kq]
 | ops dr fr l=>
  cases l with
  | nil=>cases h;simp only[rn,sU]
  | cons o r=>
   obtain⟨d,gd,now,k,az,dd,pre⟩:=o
   cases pre with
   | nil=>
    simp only[uU]at h;split at h
    ·rename_i hs;cases h;simp only[rn,sU,yW,RO.strip,ζb,hs]
    ·cases h
   | cons x xs=>
    cases dr with
    | true=>cases h
    | false=>
     simp only[uU]at h;split at h
     ·rename_i hs;cases h;simp only[rn,sU,RO.strip,yI,oF,Bool.false_eq_true,if_false,hs,ζb]
     ·cases h
 | nx=>
  cases fs with
  | nil=>cases h
  | cons f fs=>
   cases f with
   | seq b=>cases h;simp only[rn,jW,jQ]
   | blk id=>cases h;simp only[rn,jQ]
   | gst g=>
    simp only[uU]at h;split at h
    ·rename_i hs;cases h;simp only[rn,jQ,hs,ζb]
    ·cases h
 | ex k=>
  cases fs with
  | nil=>cases h
  | cons f fs=>
   cases f with
   | seq b=>cases h;simp only[rn,jH]
   | blk id=>
    cases h;simp only[rn,jH]
    by_cases hk:k=id
    ·simp only[if_pos hk,rn]
    ·simp only[if_neg hk,rn]
   | gst g=>cases h;simp only[rn,jH]
 | rt=>cases h
theorem kP:∀{n:Nat} {fo fo':Fo} {fs fs':List Fm} {st st':St},fI S c n fo fs st=some (fo',fs',st')→rn S c Q fo fs st=rn S c Q fo' fs' st'
 | 0,fo,fo',fs,fs',st,st',h=>by cases h;rfl
 | n+1,fo,fo',fs,fs',st,st',h=>by
  simp only[fI]at h;split at h
  ·rename_i a b d hs;rw[Lh hs];exact kP h
  ·cases h
theorem AV {n:Nat} {fo fo':Fo} {fs fs':List Fm} {st st':St} {m:Option β} (h:fI S c n fo fs st=some (fo',fs',st')) (h2:Le m (rn S c Q fo' fs' st')):Le m (rn S c Q fo fs st):=by
 rw[kP h];exact h2
theorem Zl {n:Nat} {fo fo':Fo} {fs fs':List Fm} {st st':St} {r:γ} (h:fI S c n fo fs st=some (fo',fs',st')) (h2:rn S c Q fo' fs' st'=e r):Le ((some r).bind e) (rn S c Q fo fs st):=by
 rw[kP h];exact Le.of_eq h2
theorem LY {m:Option δ} {f:δ→Option γ} {L:Option β} (k:δ→Option β) (h2:Le (m.bind k) L) (h1:∀r,Le ((f r).bind e) (k r)):Le ((m.bind f).bind e) L:=by
 intro r hr
 cases m with
 | none=>cases hr
 | some x=>exact h2 r (h1 x r hr)
theorem Y3 {n:Nat} {fo:Fo} {fs fs':List Fm} {st0:St} {dr:Bool} {q l:List RO} {fr:List Nat} {st:St} {d:Option Nat} {gd:Option (Nat×Bool)} {now:Bool} {k:K} {az:List Arg} {dd:List Nat} {m:Option δ} {g:δ→St} {f:δ→Option γ}
 (hL:fI S c n fo fs st0=some (.ops dr fr q,fs',st)) (hq:q=⟨d,gd,now,k,az,dd,[]⟩::l) (hg:wanted st.g gd=some true)
 (hs:Le (m.bind fun x=>some (g x)) (dZ S c dr fr ⟨d,none,now,k,az,[],[]⟩ st))
 (h:∀x,m=some x→Le ((f x).bind e) (rn S c Q (.ops dr (if dr then m_ fr ⟨d,gd,now,k,az,[],[]⟩else fr) l) fs' (lM dd (g x)))):Le ((m.bind f).bind e) (rn S c Q fo fs st0):=by
 rw[kP hL];subst hq;simp only[rn,sU,RO.strip,yW,ζb];rw[Ih hg]
 cases m with
 | none=>exact Le.none _
 | some x=>rw[hs (g x) rfl];exact h x rfl
theorem Me {n:Nat} {fo:Fo} {fs fs':List Fm} {st0:St} {dr:Bool} {q l:List RO} {fr:List Nat} {st st':St} {d:Option Nat} {gd:Option (Nat×Bool)} {now:Bool} {k:K} {az:List Arg} {dd:List Nat} {m:Option β}
 (hL:fI S c n fo fs st0=some (.ops dr fr q,fs',st)) (hq:q=⟨d,gd,now,k,az,dd,[]⟩::l) (hg:wanted st.g gd=some true)
 (hs:dZ S c dr fr ⟨d,none,now,k,az,[],[]⟩ st=some st')
 (h:Le m (rn S c Q (.ops dr (if dr then m_ fr ⟨d,gd,now,k,az,[],[]⟩else fr) l) fs' (lM dd st'))):Le m (rn S c Q fo fs st0):=by
 rw[kP hL];subst hq;simp only[rn,sU,RO.strip,yW,ζb];rw[Ih hg,hs];exact h
theorem Ji {n:Nat} {fo:Fo} {fs0:List Fm} {st:St} {σ ε ρ:Type} {a:RC} {fs:List Fm} {step:σ→Option (Fw σ ε ρ)} {eσ:σ→St} {eε:ε→Nat×St} {eρ:ρ→St} {s:σ} {fx:ε→Option γ} {fr:ρ→Option γ}
 (hL:fI S c n fo fs0 st=some (.rc (.loop a),fs,eσ s)) (h:∀s,Le ((step s).bind fun w=>some (Fw.out eσ eε eρ w)) (rn S c some (.rc a) [] (eσ s)))
 (hx:∀x,Le ((fx x).bind e) (rn S c Q (.ex (eε x).1) fs (eε x).2)) (hr:∀b,Le ((fr b).bind e) (Q (.ret,eρ b))):Le (((aW step s).bind (Fw.elim fx fr)).bind e) (rn S c Q fo fs0 st):=by
 rw[kP hL];exact WW (L:=rn S c Q (.rc (.loop a)) fs (eσ s)) rfl h hx hr
theorem Rp {n:Nat} {fo:Fo} {fs0:List Fm} {st:St} {α σ ε ρ:Type} {g:Arg} {ps:List Nat} {a b:RC} {fs:List Fm} {f:FuncId} {x y:List V} {items:List α} {eI:α→List V} {step:α→σ→Option (Fw σ ε ρ)} {eσ:σ→Tb aQ} {eε:ε→Nat×Tb aQ} {eρ:ρ→Tb aQ} {gt:Tb SV} {s:σ}
 {fn:σ→Option γ} {fx:ε→Option γ} {fr:ρ→Option γ}
 (hL:fI S c n fo fs0 st=some (.rc (.each g ps a b),fs,aR gt (eσ s))) (hg:mR S.N gt g=some (.v (.clo f x y))) (hi:S.items f x y=some (items.map eI)) (hl:∀x,(eI x).length=ps.length)
 (h:∀x s,Le ((step x s).bind fun w=>some (Fw.sO eσ eε eρ w)) (rn S c (uR S c b) (.rc a) [] ⟨tE gt ps ((eI x).map .v),eσ s,lV gt,[],true,0⟩))
 (hn:∀s,Le ((fn s).bind e) (rn S c Q .nx fs (aR gt (eσ s))))
 (hx:∀x,Le ((fx x).bind e) (rn S c Q (.ex (eε x).1) fs (aR gt (eε x).2))) (hr:∀b,Le ((fr b).bind e) (Q (.ret,aR gt (eρ b)))) :
 Le (((kH step items s).bind (Fw.tH fn fx fr)).bind e) (rn S c Q fo fs0 st):=by
 rw[kP hL];exact Wq (L:=rn S c Q (.rc (.each g ps a b)) fs (aR gt (eσ s))) rfl hg hi hl h hn hx hr
theorem UN {b:RC} {st st':St} {m:Option (Out×Tb aQ)} {fs:List Fm} {n:Nat} {fo:Fo} (h:fI S c n fo fs st=some (.nx,[],st')) (h2:Le m (rn S c sO (.rc b) [] st')):Le m (rn S c (uR S c b) fo fs st):=by
 rw[kP h];exact h2
theorem Wn {α:Type} {n:Nat} {fo fo':Fo} {fs fs':List Fm} {st:St} {A:Option α→St} {o:Option α} {f:α→Option γ} (h:fI S c n fo fs st=some (fo',fs',A o))
 (h2:∀x,o=some x→Le ((f x).bind e) (rn S c Q fo' fs' (A (some x)))):Le ((o.bind f).bind e) (rn S c Q fo fs st):=by
 rw[kP h]
 cases o with
 | none=>exact Le.none _
 | some x=>exact h2 x rfl
theorem Zk {T:pJ} {f:FuncId} {rf:RF} {az:List V} {m:Option (List V)} (hT:T f=some rf) (hn:az.length≤rf.na) (h:Le m (rn S (dU S T) (nQ rf.rs) (.rc rf.body) [] (start (az.map .v) []))):Le m (jJ (dU S T) f az):=by
 rw[Ny hT az hn];exact h
end
section
variable {α:Type} [aI α]
abbrev cv (x:α):SV:=.v (enc x)
abbrev cp (x:α):SV:=.v (.fptr (cells x))
abbrev bx (x:α):aQ:=.box ((cells x).map .v)
end
end Go.VE
namespace Go.VE
variable [aX]
structure lE (S:Sys) (c:bE) {α δ:Type} (fn:FuncId) (A:α→List V) (E:δ→List V) (p:α→Option δ) (sc:Bool):Prop where
 k:S.E.keep fn=false
 h:∀z,Le ((p z).bind fun r=>some (E r)) (jJ c fn (A z))
 l:∀z,V.ck 8 (A z)=true
 r:∀r,V.lvl 8 (result (E r))=true
 s:sc=true→∀r,(result (E r)).scalar=true
section
variable {S:Sys} {c:bE} {β γ δ α:Type} {Q:Out×St→Option β} {e:γ→Option β} {fo:Fo} {fs:List Fm} {st0:St} {l:List RO} {d:Option Nat} {gd:Option (Nat×Bool)} {now:Bool} {az:List Arg} {dd:List Nat}
noncomputable abbrev ri (S:Sys) (c:bE) (Q:Out×St→Option β) (dr:Bool) (fr:List Nat) (d:Option Nat) (k:K) (l:List RO) (fs:List Fm) (dd:List Nat) (st:St):Option β:=
 rn S c Q (.ops dr (if dr then(match k with|.p _|.r _=>fr|_=>match d with|some d=>d::fr|none=>fr)else fr) l) fs (lM dd st)
theorem Be (fr:List Nat) (k:K):m_ fr ⟨d,gd,now,k,az,[],[]⟩=(match k with|.p _|.r _=>fr|_=>match d with|some d=>d::fr|none=>fr):=by
 cases k <;> cases d <;> rfl
theorem AY {n:Nat} {dr:Bool} {fr:List Nat} {q:List RO} {fs':List Fm} {st:St} {k:K} {m:Option δ} {g:δ→St} {f:δ→Option γ}
 (hL:fI S c n fo fs st0=some (.ops dr fr q,fs',st)) (hq:q=⟨d,gd,now,k,az,dd,[]⟩::l) (hg:wanted st.g gd=some true)
 (hs:Le (m.bind fun x=>some (g x)) (dZ S c dr fr ⟨d,none,now,k,az,[],[]⟩ st))
 (h:∀x,m=some x→Le ((f x).bind e) (ri S c Q dr fr d k l fs' dd (g x))):Le ((m.bind f).bind e) (rn S c Q fo fs st0):=
 Y3 hL hq hg hs (fun x hx=>by rw[Be];exact h x hx)
theorem pq {n:Nat} {dr:Bool} {fr:List Nat} {q:List RO} {fs':List Fm} {st st':St} {k:K} {m:Option β}
 (hL:fI S c n fo fs st0=some (.ops dr fr q,fs',st)) (hq:q=⟨d,gd,now,k,az,dd,[]⟩::l) (hg:wanted st.g gd=some true)
 (hs:dZ S c dr fr ⟨d,none,now,k,az,[],[]⟩ st=some st') (h:Le m (ri S c Q dr fr d k l fs' dd st')):Le m (rn S c Q fo fs st0):=
 Me hL hq hg hs (by rw[Be];exact h)
section
variable [aI α]
theorem Lz (n:Nat) (dr:Bool) (fr:List Nat) (q:List RO) (fs':List Fm) (st:St) (k:IntKind) {sz:Nat} {s:Sl α} {i:Int} {f:α→Option γ} (hq:q=⟨d,gd,now,.p (.idxS sz),az,dd,[]⟩::l)
 (hL:(fI S c n fo fs st0,wanted st.g gd,bp S.N st.g az,sz)=(some (.ops dr fr q,fs',st),some true,some [.v (bz s),.v (.int k i)],aI.size α))
 (h:∀x,idx s i=some x→Le ((f x).bind e) (ri S c Q dr fr d (.p (.idxS sz)) l fs' dd (cr st d (cp x)))):Le (((idx s i).bind f).bind e) (rn S c Q fo fs st0):=by
 simp only[ζc]at hL;exact AY hL.1 hq hL.2.1 (Le.of_eq (L9 hL.2.2.1 hL.2.2.2)) h
theorem U9 (n:Nat) (dr:Bool) (fr:List Nat) (q:List RO) (fs':List Fm) (st:St) (s:Sl α) {m:Option β} (hq:q=⟨d,gd,now,.p .lenSl,az,dd,[]⟩::l)
 (hL:(fI S c n fo fs st0,wanted st.g gd,bp S.N st.g az)=(some (.ops dr fr q,fs',st),some true,some [.v (bz s)]))
 (h:Le m (ri S c Q dr fr d (.p .lenSl) l fs' dd (cr st d (.v (.int .i64 s.l.length))))):Le m (rn S c Q fo fs st0):=by
 simp only[ζc]at hL;exact pq hL.1 hq hL.2.1 (Mf hL.2.2) h
end
section
variable {q:List RO} {fs':List Fm}
end
theorem Dh (m:Tb aQ) (n:Nat) (l:List V):lu (gD m n) (l.map .v)=some l:=by rw[←(xK m n).2,wq]
variable {A:α→List V} {E:δ→List V} {p:α→Option δ} {fn:FuncId} {sc:Bool}
end
end Go.VE
namespace Go.VE
variable [aX]
abbrev iv (n:Int):SV:=.v (.int .i64 n)
abbrev bv (b:Bool):SV:=.v (.bool b)
abbrev len {α:Type} (s:Sl α):Int:=((List.length (Sl.l s):Nat):Int)
abbrev o1 (d:Nat) (a:Arg) (dd:List Nat):RO:=⟨some d,none,false,.p .id,[a],dd,[]⟩
abbrev o2 (d:Nat) (k:K) (az:List Arg) (dd:List Nat):RO:=⟨some d,none,false,k,az,dd,[]⟩
abbrev o3 (d s:Nat) (b:Bool) (k:K) (az:List Arg) (dd:List Nat):RO:=⟨some d,some (s,b),false,k,az,dd,[]⟩
def FJ (a b:aa):Bool:=[a.proc,a.index]==[b.proc,b.index]
mutual
theorem xe:∀{n:Nat} {x:V},V.lvl n x=true→V.lvl (n+1) x=true
 | 0,.fsl ..,h=>by simp[V.lvl]at h
 | 0,.fptr ..,h=>by simp[V.lvl]at h
 | 0,.fmap ..,h=>by simp[V.lvl]at h
 | 0,.agg ..,h=>by simp[V.lvl]at h
 | 0,.tup ..,h=>by simp[V.lvl]at h
 | 0,.clo ..,h=>by simp[V.lvl]at h
 | n+1,.fsl es xs,h=>by simp only[V.lvl]at h ⊢;exact yN h
 | n+1,.fptr cs,h=>by simp only[V.lvl]at h ⊢;exact oB h
 | n+1,.fmap kvs,h=>by simp only[V.lvl]at h ⊢;exact A5 h
 | n+1,.agg cs,h=>by simp only[V.lvl]at h ⊢;exact oB h
 | n+1,.tup cs,h=>by simp only[V.lvl]at h ⊢;exact oB h
 | n+1,.clo f a b,h=>by simp only[V.lvl,ζh]at h ⊢;exact⟨oB h.1,oB h.2⟩
 | 0,.bool _,_|0,.int ..,_|0,.str _,_|0,.eW,_|0,.eC,_|0,.od,_|0,.cC,_|0,.aG,_|0,.hsl ..,_|0,.hptr ..,_|0,.yld _,_|0,.hmap _,_=>rfl
 | _+1,.bool _,_|_+1,.int ..,_|_+1,.str _,_|_+1,.eW,_|_+1,.eC,_|_+1,.od,_|_+1,.cC,_|_+1,.aG,_|_+1,.hsl ..,_|_+1,.hptr ..,_|_+1,.yld _,_|_+1,.hmap _,_=>rfl
theorem oB:∀{n:Nat} {x:List V},V.ck n x=true→V.ck (n+1) x=true
 | n,[],_=>jx _
 | n,a::l,h=>by rw[gY,ζh]at h ⊢;exact⟨xe h.1,oB h.2⟩
theorem yN:∀{n:Nat} {x:List (List V)},V.jY n x=true→V.jY (n+1) x=true
 | n,[],_=>by simp only[V.jY]
 | n,a::l,h=>by simp only[V.jY,ζh]at h ⊢;exact⟨oB h.1,yN h.2⟩
theorem A5:∀{n:Nat} {x:List (V×V)},V.o4 n x=true→V.o4 (n+1) x=true
 | n,[],_=>by simp only[V.o4]
 | n,(k,v)::l,h=>by simp only[V.o4,ζh]at h ⊢;exact⟨⟨xe h.1.1,xe h.1.2⟩,A5 h.2⟩
end
section
variable {α:Type} [aI α]
theorem qU (h:aI.agg α=false) (a:α):cells a=[enc a]:=by
 have hl:(cells a).length=1:=by rw[show (cells a).length=_ from aI.len a,aI.plain h]
 unfold enc;rw[if_neg (by simp[h])]
 match hc:cells a,hl with
 | [x],_=>rfl
theorem xE (h:aI.agg α=true) (a:α):enc a=.agg (cells a):=by unfold enc;rw[if_pos h]
theorem O2 {n:Nat} [Lv n α] (a:α):V.lvl (n+1) (enc a)=true:=by
 have h:=Lv.lv (n:=n) a
 cases ha:aI.agg α with
 | true=>rw[xE ha];exact h
 | false=>
  rw[qU ha,gY,ζh]at h;exact xe h.1
theorem SE {n:Nat} [Lv n α] (a:α):V.lvl (n+1) (.fptr (cells a))=true:=Lv.lv a
theorem kG (a:α):V.good (enc a)=true:=by
 have h:V.bH (cells a)=true:=aI.good a
 cases ha:aI.agg α with
 | true=>rw[xE ha];exact h
 | false=>
  rw[qU ha]at h;simp only[V.bH,Bool.and_true]at h;exact h
theorem nG (s:Sl α):V.one (enc s)=true:=BV s
theorem nO {n:Nat} [Lv n α] (s:Sl α):V.lvl (n+1) (enc s)=true:=Bu s
theorem KB (s:α) (h:aI.agg α=false):V.one (enc s)=true:=by
 have:=aI.one s;rw[show aI.cells s=cells s from rfl,qU h]at this;simpa using this
end
instance {α:Type} [aI α]:aI (Option α) where
 cells o:=[match o with|none=>.eW|some x=>.fptr (cells x)]
 agg:=false
 size:=1
 len _:=rfl
 good o:=by
  cases o with
  | none=>rfl
  | some x=>simp only[V.bH,V.good,Bool.and_true];exact aI.good x
 one o:=by cases o <;> rfl
 plain _:=rfl
instance {n:Nat} {α:Type} [aI α] [Lv n α]:Lv (n+1) (Option α):=⟨fun o=>by
 cases o with
 | none=>rfl
 | some x=>
  show V.ck (n+1) [.fptr (cells x)]=true;rw[gY,jx,Bool.and_true];exact Lv.lv x⟩
structure U8 where
 v:Int
 deriving Inhabited,DecidableEq
instance:aI U8 where
 cells n:=[.int .u8 n.v]
 agg:=false
 size:=1
 len _:=rfl
 good _:=rfl
 one _:=rfl
 plain _:=rfl
instance {n:Nat}:Lv n U8:=⟨fun _=>by cases n <;> rfl⟩
structure Yd where
 v:Int
 deriving Inhabited,DecidableEq
instance:aI Yd where
 cells n:=[.int .u64 n.v]
 agg:=false
 size:=1
 len _:=rfl
 good _:=rfl
 one _:=rfl
 plain _:=rfl
instance {n:Nat}:Lv n Yd:=⟨fun _=>by cases n <;> rfl⟩
structure Yu where
 v:Int
 deriving Inhabited,DecidableEq
instance:aI Yu where
 cells n:=[.int .u32 n.v]
 agg:=false
 size:=1
 len _:=rfl
 good _:=rfl
 one _:=rfl
 plain _:=rfl
instance {n:Nat}:Lv n Yu:=⟨fun _=>by cases n <;> rfl⟩
structure Yg where
 v:Int
 deriving Inhabited,DecidableEq
instance:aI Yg where
 cells n:=[.int .i32 n.v]
 agg:=false
 size:=1
 len _:=rfl
 good _:=rfl
 one _:=rfl
 plain _:=rfl
instance {n:Nat}:Lv n Yg:=⟨fun _=>by cases n <;> rfl⟩
structure iW (S:Sys) (c:bE) {α δ:Type} (g:FuncId) (e:List V) (A:α→List V) (R:δ→List V) (p:α→Option δ):Prop where
 f:lE S c g (fun z=>A z++e) R p true
 d:V.ck 7 e=true
theorem iW.of {S:Sys} {c:bE} {α α' δ:Type} {fn:FuncId} {e:List V} {A:α→List V} {A':α'→List V} {E:δ→List V} {P:α→Option δ} {p:α'→Option δ} (F:lE S c fn A E P true) (ι:α'→α)
 (hA:∀z,A (ι z)=A' z++e) (hp:∀z,P (ι z)=p z) (hd:V.ck 7 e=true):iW S c fn e A' E p where
 f:={ k:=F.k,h:=fun z=>by rw[←hp,←hA];exact F.h (ι z),l:=fun z=>by rw[←hA];exact F.l (ι z),r:=F.r,s:=F.s }
 d:=hd
section
variable {S:Sys} {c:bE} {β γ δ α:Type} {Q:Out×St→Option β} {e:γ→Option β} {fo:Fo} {fs:List Fm} {st0:St} {l:List RO} {d:Option Nat} {gd:Option (Nat×Bool)} {now:Bool} {az:List Arg} {dd:List Nat}
theorem ox {α:Type} [aI α] (a:α):V.cells (enc a)=cells a:=by
 cases ha:aI.agg α with
 | true=>rw[xE ha];rfl
 | false=>
  have h1:V.one (enc a)=true:=KB a ha;rw[qU ha];cases h:enc a <;> first|rfl|(rw[h]at h1;cases h1)
theorem nV {α:Type} [aI α] (a:α):(cells a).all V.one=true:=aI.one a
theorem eV {α:Type} [aI α] (a:α):(cells a).length=aI.size α:=aI.len a
theorem Ast [aI α] (n:Nat) (dr:Bool) (fr:List Nat) (q:List RO) (fs':List Fm) (st:St) (u o:Nat) (x:α) (cs cs':List SV) {sz:Nat} {m:Option β} (hq:q=⟨d,gd,now,.l (.store sz),az,dd,[]⟩::l)
 (hL:(fI S c n fo fs st0,wanted st.g gd,bp S.N st.g az,an st.m u,(!dr||now),sz,Nat.ble (o+sz) cs.length,cs.take o++(cells x).map .v++cs.drop (o+sz))=(some (.ops dr fr q,fs',st),some true,some [.ptr u o,cv x],some (.box cs),true,aI.size α,true,cs'))
 (h:Le m (ri S c Q dr fr d (.l (.store sz)) l fs' dd (cr { st with m:=aV st.m u (.box cs') } d (.v .undef)))):Le m (rn S c Q fo fs st0):=by
 simp only[ζc]at hL;obtain⟨h1,h2,h3,h4,h5,h6,h7,h8⟩:=hL;refine pq h1 hq h2 ?_ h;rw[vv,h3];subst h6;have h9:=Nat.le_of_ble_eq_true h7;simp only[ζb,h5,if_true,lI,h4,putCells,ox,eV,nV,h9,and_self,h8,Option.map_some]
theorem wo {α:Type} [aI α]:∀(xs:List α) (pre:List (List V)) (suf:List (List V)),suf.length=xs.length→eX (aI.size α) (pre++suf) ((List.range' pre.length xs.length).zip (xs.map enc))=some (pre++rows xs)
 | [],pre,suf,h=>by
  have:suf=[]:=List.eq_nil_of_length_eq_zero h;subst this;rfl
 | x::xs,pre,s::suf,h=>by
  simp only[List.length_cons,List.range'_succ,List.map_cons,List.zip_cons_cons,eX,ox,eV,nV];rw[if_pos ⟨trivial,by simp,trivial⟩]
  have:=wo xs (pre++[cells x]) suf (by simpa using h)
  simp only[ζi,List.length_cons,List.length_nil,Nat.zero_add]at this;have e:(pre++s::suf).set pre.length (cells x)=pre++[cells x]++suf:=by simp
  rw[e,this];simp[rows]
theorem ZE [aI α] (n:Nat) (dr:Bool) (fr:List Nat) (q:List RO) (fs':List Fm) (st:St) (xs:List α) {u sz ln:Nat} {zero:List V} {ix:List Nat} {m:Option β} (hq:q=⟨some u,gd,now,.a (.buildSl sz ln zero ix),az,dd,[]⟩::l)
 (h4:st.new u=true) (hL:(fI S c n fo fs st0,wanted st.g gd,bp S.N st.g az,sz,ln,ix)=(some (.ops dr fr q,fs',st),some true,some ((xs.map enc).map .v),aI.size α,xs.length,List.range' 0 xs.length))
 (h:Le m (ri S c Q dr fr (some u) (.a (.buildSl sz ln zero ix)) l fs' dd { st with g:=aV st.g u (.own u),m:=aV st.m u (cR (.row xs)) })):Le m (rn S c Q fo fs st0):=by
 simp only[ζc]at hL;obtain⟨h1,h2,h3,h5,h6,h7⟩:=hL;subst h5 h6 h7;refine pq h1 hq h2 ?_ h;rw[zU,h3];simp only[ζb,h4,if_true,lU,sB,List.length_range',List.length_map,if_true];have:=wo xs [] (List.replicate xs.length zero) (by simp)
 simp only[List.nil_append,List.length_nil]at this;rw[this];rfl
section
variable [aI α]
theorem YY (n:Nat) (dr:Bool) (fr:List Nat) (q:List RO) (fs':List Fm) (st:St) (lo hi:Bool) (bs:List V) {sz:Nat} {s:Sl α} {a b:Option Int} {f:Sl α→Option γ} (hq:q=⟨d,gd,now,.p (.slice sz lo hi),az,dd,[]⟩::l)
 (hL:(fI S c n fo fs st0,wanted st.g gd,bp S.N st.g az,jy lo hi bs,sz)=(some (.ops dr fr q,fs',st),some true,some (.v (bz s)::bs.map .v),some (a,b),aI.size α))
 (h:∀x,gy s a b=some x→Le ((f x).bind e) (ri S c Q dr fr d (.p (.slice sz lo hi)) l fs' dd (cr st d (.v (bz x))))):Le (((gy s a b).bind f).bind e) (rn S c Q fo fs st0):=by
 simp only[ζc]at hL;refine AY hL.1 hq hL.2.1 (Le.of_eq ?_) h;have hy:bp S.N st.g az=some ((bz s::bs).map .v):=hL.2.2.1;unfold dZ lB;simp only[wanted,eu,hy];have hp:iL S.N st.m (.slice sz lo hi) ((bz s::bs).map .v)=(gy s a b).bind fun x=>some (.v (bz x)):=by
  unfold iL;rw[sB];simp only[ay,hL.2.2.2.1,ζb,Gg s a b sz hL.2.2.2.2];cases gy s a b <;> rfl
 simp only[List.map_cons]at hp ⊢;rw[hp];cases gy s a b <;> rfl
def kN (s:Sl α) (lo hi:Option Int):Option (Sl α):=
 match s with
 | .nil|.emp=>none
 | .row x|.part x=>(cE x.length lo hi).map fun (l,h)=>.part ((x.take h).drop l)
theorem We (n:Nat) (fr:List Nat) (q:List RO) (fs':List Fm) (st:St) (lo hi:Bool) (u:Nat) (bs:List V) {t sz:Nat} {s:Sl α} {a b:Option Int} {f:Sl α→Option γ} (hq:q=⟨some t,gd,now,.p (.slice sz lo hi),az,dd,[]⟩::l)
 (h7:St.new { st with m:=dm u st.m } t=true) (hL:(fI S c n fo fs st0,wanted st.g gd,bp S.N st.g az,jy lo hi bs,an st.m u,sz)=(some (.ops false fr q,fs',st),some true,some (.own u::bs.map .v),some (a,b),some (cR s),aI.size α))
 (h:∀x,kN s a b=some x→Le ((f x).bind e) (ri S c Q false fr (some t) (.p (.slice sz lo hi)) l fs' dd { st with g:=aV st.g t (.own t),m:=aV (dm u st.m) t (cR x) })):Le (((kN s a b).bind f).bind e) (rn S c Q fo fs st0):=by
 simp only[ζc]at hL;refine AY hL.1 hq hL.2.1 (Le.of_eq ?_) h;obtain⟨_,_,h3,h4,h5,h6⟩:=hL;subst h6;unfold dZ lB;simp only[wanted,eu,h3,Bool.false_eq_true,if_false,wA,sB,h5,h4,ζb];have hn:(an st.m u).isSome:=by rw[h5];rfl
 cases s with
 | nil=>simp[kN,cR,Sl.k,bD]
 | emp=>simp[kN,cR,Sl.k,bD]
 | row x=>
  simp only[cR,Sl.k,Sl.l,bD,kN,iy,and_self,if_true,h4,ζb]
  cases cE x.length a b with
  | none=>rfl
  | some r=>simp[h7,cr,rows,List.map_take,List.map_drop]
 | part x=>
  simp only[cR,Sl.k,Sl.l,bD,kN,iy,and_self,if_true,h4,ζb]
  cases cE x.length a b with
  | none=>rfl
  | some r=>simp[h7,cr,rows,List.map_take,List.map_drop]
end
end
end Go.VE
namespace Go.VE
variable [aX]
structure bq (n:Nat) (α:Type) where
 l:List α
 len:l.length=n
theorem KU {α:Type} [aI α] (l:List α):(l.map (cells (α:=α))).flatten.length=l.length*aI.size α:=by
 induction l with
 | nil=>simp
 | cons a l ih=>simp only[List.map_cons,List.flatten_cons,ζi,ih,eV,List.length_cons,Nat.add_mul,Nat.one_mul,Nat.add_comm]
theorem Jg {α:Type} [aI α] (l:List α):V.bH (l.map (cells (α:=α))).flatten=true:=by
 induction l with
 | nil=>rfl
 | cons a l ih=>
  simp only[List.map_cons,List.flatten_cons];have h:∀(x y:List V),V.bH x=true→V.bH y=true→V.bH (x++y)=true:=by
   intro x
   induction x with
   | nil=>intro y _ h;exact h
   | cons b x ih2=>intro y h1 h2;simp only[V.bH,ζh,List.cons_append]at h1 ⊢;exact⟨h1.1,ih2 y h1.2 h2⟩
  exact h _ _ (aI.good a) ih
theorem DT {n:Nat}:∀{x y:List V},V.ck n x=true→V.ck n y=true→V.ck n (x++y)=true
 | [],_,_,h=>h
 | a::x,y,h1,h2=>by
  simp only[gY,ζh,List.cons_append]at h1 ⊢;exact⟨h1.1,DT h1.2 h2⟩
theorem J7 {n:Nat} {α:Type} [aI α] [Lv n α] (l:List α):V.ck n (l.map (cells (α:=α))).flatten=true:=by
 induction l with
 | nil=>exact jx n
 | cons a l ih=>simp only[List.map_cons,List.flatten_cons];exact DT (Lv.lv a) ih
instance {n:Nat} {α:Type} [aI α]:aI (bq n α) where
 cells a:=(a.l.map cells).flatten
 agg:=true
 size:=n*aI.size α
 len a:=by rw[KU,a.len]
 good a:=Jg a.l
 one a:=by
  have:∀l:List α,(l.map (cells (α:=α))).flatten.all V.one=true:=by
   intro l
   induction l with
   | nil=>rfl
   | cons a l ih=>simp only[List.map_cons,List.flatten_cons,List.all_append,ih,nV,Bool.and_self]
  exact this a.l
 plain h:=by cases h
instance {k n:Nat} {α:Type} [aI α] [Lv k α]:Lv k (bq n α):=⟨fun a=>J7 a.l⟩
def bq.Iq (n:Nat) {α:Type} (z:α):bq n α:=⟨List.replicate n z,by simp⟩
def bq.at {n:Nat} {α:Type} (a:bq n α) (i:Int):Option α:=if 0≤i then a.l[i.toNat]? else none
def bq.set {n:Nat} {α:Type} (a:bq n α) (i:Int) (x:α):bq n α:=⟨a.l.set i.toNat x,by simp[a.len]⟩
def pa {n:Nat} {α:Type} [aI α] (a:bq n α) (i:Int):List V:=(cells a).drop (i.toNat*aI.size α)
theorem bq.s7 {n:Nat} {α:Type} {a:bq n α} {i:Int} {x:α} (h:a.at i=some x):0≤i∧i.toNat<n∧a.l[i.toNat]? = some x:=by
 unfold bq.at at h;split at h
 ·rename_i hi;refine⟨hi,?_,h⟩;have:=(ζe.1 h).1;rw[←a.len];exact this
 ·cases h
theorem Bl {α:Type} [aI α]:∀(l:List α) (k:Nat),((l.map (cells (α:=α))).flatten).drop (k*aI.size α)=((l.drop k).map (cells (α:=α))).flatten
 | [],k=>by simp
 | a::l,0=>by simp
 | a::l,k+1=>by
  have h:(cells a).length=aI.size α:=eV a;rw[List.map_cons,List.flatten_cons,List.drop_succ_cons,←Bl l k,Nat.add_mul,Nat.one_mul,Nat.add_comm,←h,List.drop_length_add_append]
theorem xG {n:Nat} {α:Type} [aI α] {a:bq n α} {i:Int} {x:α} (h:a.at i=some x):∃r,pa a i=cells x++r:=by
 obtain⟨h1,h2,h3⟩:=bq.s7 h;obtain⟨hlt,hx⟩:=ζe.1 h3;refine⟨((a.l.drop (i.toNat+1)).map cells).flatten,?_⟩;show ((a.l.map (cells (α:=α))).flatten).drop (i.toNat*aI.size α)=_;rw[Bl,List.drop_eq_getElem_cons hlt,List.map_cons,List.flatten_cons,hx]
section
variable {S:Sys} {c:bE} {β γ δ α:Type} {Q:Out×St→Option β} {e:γ→Option β} {fo:Fo} {fs:List Fm} {st0:St} {l:List RO} {d:Option Nat} {gd:Option (Nat×Bool)} {now:Bool} {az:List Arg} {dd:List Nat}
section
variable {N:Nat} [aI α]
theorem Wv (n:Nat) (dr:Bool) (fr:List Nat) (q:List RO) (fs':List Fm) (st:St) (k:IntKind) {ln sz:Nat} {a:bq N α} {i:Int} {f:α→Option γ} (hq:q=⟨d,gd,now,.p (.idxA ln sz),az,dd,[]⟩::l)
 (hL:(fI S c n fo fs st0,wanted st.g gd,bp S.N st.g az,sz,ln)=(some (.ops dr fr q,fs',st),some true,some [cp a,.v (.int k i)],aI.size α,N))
 (h:∀x,a.at i=some x→Le ((f x).bind e) (ri S c Q dr fr d (.p (.idxA ln sz)) l fs' dd (cr st d (.v (.fptr (pa a i)))))):Le (((a.at i).bind f).bind e) (rn S c Q fo fs st0):=by
 simp only[ζc]at hL;obtain⟨h1,h2,h3,h4,h5⟩:=hL;subst h4 h5;refine AY h1 hq h2 (?_:Le ((a.at i).bind fun _=>some (cr st d (.v (.fptr (pa a i))))) _) h
 intro r hr;obtain⟨x,hx,hr⟩:=ζg.1 hr;obtain⟨g1,g2,_⟩:=bq.s7 hx;rw[CE (v:=.v (.fptr (pa a i))) h3 rfl ?_]
 ·exact hr
 rw[yK];simp only[ay,tB];have hlen:i.toNat*aI.size α≤(cells a).length:=by
  rw[eV];exact Nat.mul_le_mul_right _ (Nat.le_of_lt g2)
 rw[if_pos ⟨g1,by omega⟩,if_pos hlen]
 rfl
theorem Y_ (n:Nat) (dr:Bool) (fr:List Nat) (q:List RO) (fs':List Fm) (st:St) (a:bq N α) (i:Int) (o:Nat) (x:α) (hx:a.at i=some x) {k:Nat} {m:Option β} (hq:q=⟨d,gd,now,.p (.fieldAddr k),az,dd,[]⟩::l)
 (hL:(fI S c n fo fs st0,wanted st.g gd,bp S.N st.g az,Nat.ble (o+k) (aI.size α))=(some (.ops dr fr q,fs',st),some true,some [.v (.fptr ((pa a i).drop o))],true))
 (h:Le m (ri S c Q dr fr d (.p (.fieldAddr k)) l fs' dd (cr st d (.v (.fptr ((pa a i).drop (o+k))))))):Le m (rn S c Q fo fs st0):=by
 simp only[ζc]at hL;obtain⟨h1,h2,h3,h4⟩:=hL;refine pq h1 hq h2 (CE h3 rfl ?_) h;have h9:=Nat.le_of_ble_eq_true h4;obtain⟨r,hr⟩:=xG hx;have hl:(pa a i).length≥aI.size α:=by rw[hr,ζi,eV];omega
 rw[Cx,CI,if_pos (by rw[List.length_drop];omega),List.drop_drop]
 rfl
theorem WX (n:Nat) (dr:Bool) (fr:List Nat) (q:List RO) (fs':List Fm) (st:St) (a:bq N α) (i:Int) (o:Nat) (x:α) (hx:a.at i=some x) {sz:Nat} {ag:Bool} {v:V} (hv:(cut (cells x) o sz).bind (mk ag)=some v) (v':V) {m:Option β} (hq:q=⟨d,gd,now,.r (.load sz ag),az,dd,[]⟩::l)
 (hL:(fI S c n fo fs st0,wanted st.g gd,bp S.N st.g az,v)=(some (.ops dr fr q,fs',st),some true,some [.v (.fptr ((pa a i).drop o))],v'))
 (h:Le m (ri S c Q dr fr d (.r (.load sz ag)) l fs' dd (cr st d (.v v')))):Le m (rn S c Q fo fs st0):=by
 simp only[ζc]at hL;obtain⟨h1,h2,h3,rfl⟩:=hL;refine pq h1 hq h2 ?_ h;rw[Cr,h3];have hold:dV fr [SV.v (.fptr ((pa a i).drop o))]=true:=rfl;simp only[ζb,hold,Bool.or_true,if_true,Je];obtain⟨r,hr⟩:=xG hx;rw[hr];have hc:cut ((cells x++r).drop o) 0 sz=cut (cells x) o sz:=by
  cases hcc:cut (cells x) o sz with
  | none=>rw[hcc]at hv;cases hv
  | some w=>
   unfold cut at hcc ⊢;dsimp only at hcc ⊢;split at hcc
   ·rename_i hl;cases hcc;have e1:(List.drop 0 (List.drop o (cells x++r))).take sz=((cells x).drop o).take sz:=by
     rw[List.drop_zero];have ho:sz=0∨o≤(cells x).length:=by
      simp only[List.length_take,List.length_drop]at hl;omega
     rcases ho with rfl|ho
     ·simp
     ·rw[List.drop_append_of_le_length ho,List.take_append_of_le_length];simp only[List.length_take,List.length_drop]at hl ⊢;omega
    rw[e1,if_pos hl]
   ·cases hcc
 rw[hc]
 cases hcc:cut (cells x) o sz with
 | none=>rw[hcc]at hv;cases hv
 | some w=>rw[hcc]at hv;simp only[ζb]at hv ⊢;rw[hv];rfl
theorem Ti (n:Nat) (dr:Bool) (fr:List Nat) (q:List RO) (fs':List Fm) (st:St) (cs:List SV) {u sz:Nat} {zero:List V} {m:Option β} (hq:q=⟨some u,gd,now,.a (.alloc sz zero),az,dd,[]⟩::l)
 (h4:st.new u=true) (hL:(fI S c n fo fs st0,wanted st.g gd,bp S.N st.g az,zero.map SV.v)=(some (.ops dr fr q,fs',st),some true,some [],cs))
 (h:Le m (ri S c Q dr fr (some u) (.a (.alloc sz zero)) l fs' dd { st with g:=aV st.g u (.ptr u 0),m:=aV st.m u (.box cs) })):Le m (rn S c Q fo fs st0):=by
 simp only[ζc]at hL;obtain⟨h1,h2,h3,h5⟩:=hL;subst h5;refine pq h1 hq h2 ?_ h;rw[zU,h3];simp only[ζb,h4,if_true,lU]
theorem pX (d:Nat) (l:List V):SV.cA d (l.map .v)=false:=by
 induction l with
 | nil=>rfl
 | cons a l ih=>simp only[List.map_cons,SV.cA,SV.bW,ih,Bool.or_self]
theorem qg {α:Type} [aI α] (d:Nat) (x:α):aQ.bW d (bx x)=false:=pX d (cells x)
theorem Wh (n:Nat) (dr:Bool) (fr:List Nat) (q:List RO) (fs':List Fm) (st:St) (k:IntKind) (u:Nat) {ln sz:Nat} {a:bq N α} {i:Int} {f:α→Option γ} (hq:q=⟨d,gd,now,.p (.idxA ln sz),az,dd,[]⟩::l)
 (hL:(fI S c n fo fs st0,wanted st.g gd,bp S.N st.g az,sz,ln,an st.m u)=(some (.ops dr fr q,fs',st),some true,some [.ptr u 0,.v (.int k i)],aI.size α,N,some (bx a)))
 (h:∀x,a.at i=some x→Le ((f x).bind e) (ri S c Q dr fr d (.p (.idxA ln sz)) l fs' dd (cr st d (.ptr u (i.toNat*aI.size α+0))))):Le (((a.at i).bind f).bind e) (rn S c Q fo fs st0):=by
 simp only[ζc]at hL;obtain⟨h1,h2,h3,h4,h5,h6⟩:=hL;subst h4 h5;refine AY h1 hq h2 (?_:Le ((a.at i).bind fun _=>some (cr st d (.ptr u (i.toNat*aI.size α+0)))) _) h
 intro r hr;obtain⟨x,hx,hr⟩:=ζg.1 hr;obtain⟨g1,g2,_⟩:=bq.s7 hx;rw[CE (v:=.ptr u (i.toNat*aI.size α+0)) h3 rfl ?_]
 ·exact hr
 simp only[iL,dg,xF,h6];rw[if_pos ⟨g1,by omega,rfl⟩,Nat.zero_add,Nat.add_zero]
theorem Wg (n:Nat) (dr:Bool) (fr:List Nat) (q:List RO) (fs':List Fm) (st:St) (u:Nat) (a:bq N α) (i:Int) (o:Nat) (x:α) (hx:a.at i=some x) {sz:Nat} {ag:Bool} {v:V} (hv:(cut (cells x) o sz).bind (mk ag)=some v) (v':V) {m:Option β} (hq:q=⟨d,gd,now,.r (.load sz ag),az,dd,[]⟩::l)
 (hL:(fI S c n fo fs st0,wanted st.g gd,bp S.N st.g az,v,an st.m u,(!dr||now||dV fr [.ptr u 0]))=(some (.ops dr fr q,fs',st),some true,some [.ptr u (i.toNat*aI.size α+o)],v',some (bx a),true))
 (h:Le m (ri S c Q dr fr d (.r (.load sz ag)) l fs' dd (cr st d (.v v')))):Le m (rn S c Q fo fs st0):=by
 simp only[ζc]at hL;obtain⟨h1,h2,h3,rfl,h5,h6⟩:=hL;refine pq h1 hq h2 ?_ h;rw[Cr,h3];have hold:(!dr||now||dV fr [SV.ptr u (i.toNat*aI.size α+o)])=true:=h6;simp only[ζb,hold,if_true,Y5,h5,It];obtain⟨r,hr⟩:=xG hx;have e1:(((cells a).map SV.v).drop (i.toNat*aI.size α+o)).take sz=(((cells x).drop o).take sz).map SV.v:=by
  have hcc:((cells x).drop o).take sz=((cells x++r).drop o).take sz:=by
   cases hc:cut (cells x) o sz with
   | none=>rw[hc]at hv;cases hv
   | some w=>
    unfold cut at hc;dsimp only at hc;split at hc
    ·rename_i hl;have ho:sz=0∨o≤(cells x).length:=by
      simp only[List.length_take,List.length_drop]at hl;omega
     rcases ho with rfl|ho
     ·simp
     ·rw[List.drop_append_of_le_length ho,List.take_append_of_le_length];simp only[List.length_take,List.length_drop]at hl ⊢;omega
    ·cases hc
  rw[hcc,←hr,pa,List.drop_drop,List.map_take,List.map_drop]
 rw[e1];unfold xh
 cases hc:cut (cells x) o sz with
 | none=>rw[hc]at hv;cases hv
 | some w=>
  rw[hc]at hv;unfold cut at hc;dsimp only at hc;split at hc
  ·rename_i hl;cases hc;simp only[List.length_map,hl,if_true];simp only[ζb]at hv;unfold mk at hv
   cases ag with
   | true=>
    simp only[if_true]at hv ⊢;cases hv;rw[sB];rfl
   | false=>
    simp only[Bool.false_eq_true,if_false]at hv ⊢;split at hv
    ·rename_i hw;cases hv;rw[hw];rfl
    ·cases hv
  ·cases hc
theorem Ip {N:Nat} (a:bq N α) (i:Int) (y:α) (h:i.toNat<N):cells (a.set i y)=(cells a).take (i.toNat*aI.size α)++cells y++(cells a).drop ((i.toNat+1)*aI.size α):=by
 have key:∀(l:List α) (k:Nat),k<l.length→((l.set k y).map (cells (α:=α))).flatten=(l.map (cells (α:=α))).flatten.take (k*aI.size α)++cells y++(l.map (cells (α:=α))).flatten.drop ((k+1)*aI.size α):=by
  intro l
  induction l with
  | nil=>intro k h;simp at h
  | cons b l ih=>
   intro k h;have hb:(cells b).length=aI.size α:=eV b
   cases k with
   | zero=>
    simp only[List.set_cons_zero,List.map_cons,List.flatten_cons,Nat.zero_mul,List.take_zero,List.nil_append,Nat.zero_add,Nat.one_mul];rw[←hb,List.drop_left]
   | succ k=>
    simp only[List.set_cons_succ,List.map_cons,List.flatten_cons];rw[ih k (by simpa using h)]
    have e1:(k+1)*aI.size α=(cells b).length+k*aI.size α:=by rw[hb,Nat.add_mul,Nat.one_mul,Nat.add_comm]
    have e2:(k+1+1)*aI.size α=(cells b).length+(k+1)*aI.size α:=by rw[hb,Nat.add_mul (k+1),Nat.one_mul,Nat.add_comm]
    rw[e2,List.drop_length_add_append];rw[e1,List.take_length_add_append];simp[List.append_assoc]
 exact key a.l i.toNat (by rw[a.len];exact h)
theorem WN (n:Nat) (dr:Bool) (fr:List Nat) (q:List RO) (fs':List Fm) (st:St) (u:Nat) (a:bq N α) (i:Int) (o:Nat) (x:α) (hx:a.at i=some x) (y:α) (v:V) {sz:Nat} (hy:cells y=(cells x).take o++v.cells++(cells x).drop (o+sz)) {m:Option β} (hq:q=⟨d,gd,now,.l (.store sz),az,dd,[]⟩::l)
 (hL:(fI S c n fo fs st0,wanted st.g gd,bp S.N st.g az,an st.m u,(!dr||now),v.cells.length,v.cells.all V.one,Nat.ble (o+sz) (aI.size α))=(some (.ops dr fr q,fs',st),some true,some [.ptr u (i.toNat*aI.size α+o),.v v],some (bx a),true,sz,true,true))
 (h:Le m (ri S c Q dr fr d (.l (.store sz)) l fs' dd (cr { st with m:=aV st.m u (bx (a.set i y)) } d (.v .undef)))):Le m (rn S c Q fo fs st0):=by
 simp only[ζc]at hL;obtain⟨h1,h2,h3,h4,h5,h6,h7,h8⟩:=hL;refine pq h1 hq h2 ?_ h;rw[vv,h3];have h9:=Nat.le_of_ble_eq_true h8;obtain⟨g1,g2,g3⟩:=bq.s7 hx;have hb:i.toNat*aI.size α+o+sz≤((cells a).map SV.v).length:=by
  rw[List.length_map,eV];have:(i.toNat+1)*aI.size α≤N*aI.size α:=Nat.mul_le_mul_right _ g2;rw[Nat.add_mul,Nat.one_mul]at this;show _≤N*aI.size α;omega
 simp only[ζb,h5,if_true,lI,h4,putCells,h6,h7,hb,and_self,Option.map_some];obtain⟨r,hr⟩:=xG hx;have e:((cells a).map SV.v).take (i.toNat*aI.size α+o)++v.cells.map .v++((cells a).map SV.v).drop (i.toNat*aI.size α+o+sz)=(cells (a.set i y)).map SV.v:=by
  rw[Ip a i y g2,hy];have hd:(cells a).drop (i.toNat*aI.size α)=cells x++r:=hr;have hlx:(cells x).length=aI.size α:=eV x;have e1:(cells a).take (i.toNat*aI.size α+o)=(cells a).take (i.toNat*aI.size α)++(cells x).take o:=by
   rw[List.take_add,hd,List.take_append_of_le_length (by omega)]
  have e2:(cells a).drop (i.toNat*aI.size α+o+sz)=(cells x).drop (o+sz)++(cells a).drop ((i.toNat+1)*aI.size α):=by
   have e3:(cells a).drop ((i.toNat+1)*aI.size α)=r:=by
    rw[Nat.add_mul,Nat.one_mul,←List.drop_drop,hd,←hlx,List.drop_left]
   rw[e3,Nat.add_assoc,←List.drop_drop,hd,List.drop_append_of_le_length (by omega)]
  rw[←List.map_take,←List.map_drop,e1,e2];simp[List.map_append,List.append_assoc]
 rw[e]
end
theorem MO {α:Type} [aI α] {m:Tb aQ} {d:Nat} {x:α} {vs:List V} (h:an m d=some (bx x)):lu (gD m 8) (.ptr d 0::vs.map .v)=some (.fptr (cells x)::vs):=by
 have h1:gD m 8 (.ptr d 0)=some (.fptr (cells x)):=by
  show (match an m d with
   | some (.box cs)=>match lu (gD m 7) cs with
    | some xs=>if 0≤xs.length then some (V.fptr (xs.drop 0))else none
    | none=>none
   | _=>none)=_
  rw[h];simp only[Dh,Nat.zero_le,if_true,List.drop_zero]
 simp only[lu,h1,Dh,ζb]
theorem V_ (n:Nat) {fo:Fo} {fs fs':List Fm} {st0 st:St} {rs:List RV} {e:γ→Option (List V)} {r:γ} (svs:List SV) {ys:List V} (h2:lu (gD st.m 8) svs=some ys) (h:(fI S c n fo fs st0,mN st rs)=(some (.rt,fs',st),some svs)) (h3:e r=some ys) :
 Le ((some r).bind e) (rn S c (nQ rs) fo fs st0):=by
 simp only[ζc]at h;rw[kP h.1];refine Le.of_eq ?_;simp only[rn,nQ,h.2,ζb,h2];exact h3.symm
abbrev Mo (κ ν:Type):=List (κ×ν)
class Key (κ:Type) [aI κ] [DecidableEq κ] where
 kk:tM
 ok:∀a:κ,lS kk (enc a)=true
 eq:∀a b:κ,rF (enc a) (enc b)=some (decide (a=b))
instance:Key Int where
 kk:=.int .i64
 ok _:=rfl
 eq a b:=by
  show some (a==b)=some (decide (a=b));rw[show (a==b)=decide (a=b)from Bool.eq_iff_iff.2 (by simp)]
instance:Key aa where
 kk:=.ints 2
 ok _:=rfl
 eq a b:=by
  obtain⟨p,i⟩:=a;obtain⟨q,j⟩:=b;simp only[rF,jv,gI,SL,Option.map_some,List.length_cons,if_true,ζa];rw[Bool.eq_iff_iff];simp
section
variable {κ ν:Type} [aI κ] [DecidableEq κ] [Key κ] [aI ν]
def qn (k:κ):Mo κ ν→Option ν
 | []=>none
 | (a,v)::r=>if k=a then some v else qn k r
def AB (m:Mo κ ν) (k:κ) (z:ν):ν:=(qn k m).getD z
def nK (m:Mo κ ν) (k:κ) (v:ν):Mo κ ν:=
 match m with
 | []=>[(k,v)]
 | (a,w)::r=>if k=a then(k,v)::r else(a,w)::nK r k v
def lW (m:Mo κ ν):List (V×V):=m.map fun x=>(enc x.1,enc x.2)
def sy (m:Mo κ ν):aQ:=.mp (lW m)
theorem E3 (k:κ):∀(m:Mo κ ν) (i:Nat),(fq (enc k) (lW m) i).map (Option.map (·.2))=some ((qn k m).map enc)
 | [],i=>rfl
 | (a,v)::r,i=>by
  simp only[lW,List.map_cons,fq,Key.eq,qn]
  by_cases h:k=a
  ·rw[if_pos h];simp[h]
  ·rw[if_neg h];simp only[h,decide_false];exact E3 k r (i+1)
theorem JG (k:κ) (v:ν) (m:Mo κ ν):mc (enc k) (enc v) (lW m)=some (lW (nK m k v)):=by
 unfold mc;have key:∀(m:Mo κ ν) (pre:List (V×V)) (i:Nat),pre.length=i→(match fq (enc k) (lW m) i with
  | some (some (j,_))=>some ((pre++lW m).set j (enc k,enc v))
  | some none=>some (pre++lW m++[(enc k,enc v)])
  | none=>none)=some (pre++lW (nK m k v)):=by
  intro m
  induction m with
  | nil=>intro pre i h;simp[lW,fq,nK]
  | cons x r ih=>
   obtain⟨a,w⟩:=x;intro pre i h;rw[show lW ((a,w)::r)=(enc a,enc w)::lW r from rfl];simp only[fq,Key.eq,nK]
   by_cases hk:k=a
   ·subst hk h;simp[lW]
   ·simp only[hk,decide_false,if_false];rw[show lW ((a,w)::nK r k v)=(enc a,enc w)::lW (nK r k v)from rfl];have:=ih (pre++[(enc a,enc w)]) (i+1) (by simp[h])
    simp only[List.append_assoc,List.cons_append,List.nil_append]at this ⊢;exact this
 have:=key m [] 0 rfl
 cases hf:fq (enc k) (lW m) 0 with
 | none=>rw[hf]at this;cases this
 | some r=>
  rw[hf]at this
  cases r with
  | none=>simpa using this
  | some w=>obtain⟨j,w⟩:=w;simpa using this
theorem V8 (n:Nat) (dr:Bool) (fr:List Nat) (q:List RO) (fs':List Fm) (st:St) (u:Nat) (mp:Mo κ ν) (k:κ) (z:ν) {kk:tM} {zv:V} {m:Option β} (hq:q=⟨d,gd,now,.r (.lookup kk zv false),az,dd,[]⟩::l)
 (hL:(fI S c n fo fs st0,wanted st.g gd,bp S.N st.g az,an st.m u,(!dr||now||dV fr [.mp u,cv k]),zv,kk)=(some (.ops dr fr q,fs',st),some true,some [.mp u,cv k],some (sy mp),true,enc z,Key.kk κ))
 (h:Le m (ri S c Q dr fr d (.r (.lookup kk zv false)) l fs' dd (cr st d (cv (AB mp k z))))):Le m (rn S c Q fo fs st0):=by
 simp only[ζc]at hL;obtain⟨h1,h2,h3,h4,h5,h6,h7⟩:=hL;subst h6 h7;refine pq h1 hq h2 ?_ h;rw[Cr,h3];simp only[ζb,h5,if_true,mH,h4,sy,Key.ok];have:=E3 k mp 0;simp only[AB]
 cases hf:fq (enc k) (lW mp) 0 with
 | none=>rw[hf]at this;cases this
 | some r=>
  rw[hf]at this;simp only[Option.map_some,ζa]at this
  cases r with
  | none=>
   cases hm:qn k mp with
   | none=>rfl
   | some w=>rw[hm]at this;cases this
  | some w=>
   cases hm:qn k mp with
   | none=>rw[hm]at this;cases this
   | some w2=>
    rw[hm]at this;simp only[Option.map_some,ζa]at this;simp only[this];rfl
theorem Zm (n:Nat) (dr:Bool) (fr:List Nat) (q:List RO) (fs':List Fm) (st:St) (u:Nat) (mp:Mo κ ν) (k:κ) (v:ν) {kk:tM} {m:Option β} (hq:q=⟨d,gd,now,.l (.mapUp kk),az,dd,[]⟩::l)
 (hL:(fI S c n fo fs st0,wanted st.g gd,bp S.N st.g az,an st.m u,(!dr||now),kk)=(some (.ops dr fr q,fs',st),some true,some [.mp u,cv k,cv v],some (sy mp),true,Key.kk κ))
 (h:Le m (ri S c Q dr fr d (.l (.mapUp kk)) l fs' dd (cr { st with m:=aV st.m u (sy (nK mp k v)) } d (.v .undef)))):Le m (rn S c Q fo fs st0):=by
 simp only[ζc]at hL;obtain⟨h1,h2,h3,h4,h5,h6⟩:=hL;subst h6;refine pq h1 hq h2 ?_ h;rw[vv,h3];simp only[ζb,h5,if_true,lI,h4,sy,Key.ok,JG,Option.map_some]
end
end
end Go.VE
namespace Go.VE
variable [aX]
instance {n:Nat}:OfNat Arg n:=⟨.s n⟩
abbrev bI (o:BinOp):K:=.p (.bin (some .int) none o)
abbrev ix (n:Nat):K:=.p (.idxS n)
abbrev ld (n:Nat):K:=.r (.load n false)
abbrev lD (n:Nat):K:=.r (.load n true)
abbrev fa (n:Nat):K:=.p (.fieldAddr n)
abbrev ln:K:=.p .lenSl
abbrev su (n:Nat):K:=.l (.store n)
abbrev Iv (n:Nat) (x:Int):Nat×SV:=(n,iv x)
abbrev Bv (n:Nat) (x:Bool):Nat×SV:=(n,bv x)
abbrev Cv {α:Type} [aI α] (n:Nat) (x:α):Nat×SV:=(n,cv x)
abbrev Kv {α:Type} [aI α] (n:Nat) (x:α):Nat×SV:=(n,cp x)
abbrev Pv (n:Nat):Nat×SV:=(n,.ptr n 0)
abbrev Ov (n:Nat):Nat×SV:=(n,.own (2000+n))
abbrev Xb {α:Type} [aI α] (n:Nat) (x:α):Nat×aQ:=(n,bx x)
abbrev Lb {α:Type} [aI α] (n:Nat) (x:Sl α):Nat×aQ:=(n,cR x)
abbrev on (d:Nat) (k:K) (az:List Arg) (dd:List Nat):RO:=⟨some d,none,true,k,az,dd,[]⟩
abbrev oz (k:K) (az:List Arg) (dd:List Nat):RO:=⟨none,none,false,k,az,dd,[]⟩
abbrev oy (k:K) (az:List Arg) (dd:List Nat):RO:=⟨none,none,true,k,az,dd,[]⟩
theorem Jh {n:Nat} {α:Type} [aI α] [Lv n α] (a:α):V.ck n (cells a)=true:=Lv.lv a
attribute [simp] Jh NB JJ gY jx nU lP oe O5 MY KF O2 SE Nh Pp Nd Oc OZ
theorem lE.vF {S:Sys} {T:pJ} {f:FuncId} {b:Bool} (hT:T f=none) (hk:S.E.keep f=false) (ho:S.vF f []=some (.bool b)) :
 lE S (dU S T) f (fun _:Unit=>[]) (fun r:Bool=>[.bool r]) (fun _=>some b) true where
 k:=hk
 h _:=by
  have h:=Bk (az:=[]) hT hk ho;intro r hr;cases hr;unfold jJ;rw[h];exact wq 8 [.bool b]
 l _:=by simp
 r _:=by simp
 s _ _:=rfl
end Go.VE
namespace Go.VE
variable [aX]
def Wp {α:Type} (m:Option α) (P:α→Prop):Prop:=∃a,m=some a∧P a
section
variable {α β:Type} {P Q:α→Prop}
theorem ai (a:α):Wp (some a) P↔P a:=⟨fun h=>by obtain⟨b,e,p⟩:=h;cases e;exact p,fun p=>⟨a,rfl,p⟩⟩
theorem PR:Wp (none:Option α) P↔False:=⟨fun h=>(by obtain⟨b,e,p⟩:=h;cases e),fun h=>False.elim h⟩
theorem dx {m:Option β} {k:β→Option α}:Wp (m.bind k) P↔Wp m fun b=>Wp (k b) P:=by
 cases m with
 | none=>simp only[Option.bind_none,PR]
 | some b=>simp only[ζb,ai]
theorem aU {t:Bool} {a b:Option α}:Wp (au t a b) P↔(t=true→Wp a P)∧(t=false→Wp b P):=by
 cases t <;> simp[au]
theorem Wp.mono {m:Option α} (h:Wp m P) (hpq:∀a,P a→Q a):Wp m Q:=let ⟨a,e,p⟩:=h;⟨a,e,hpq a p⟩
theorem Wp.and {m:Option α} (h:Wp m P) (h2:Wp m Q):Wp m fun a=>P a∧Q a:=by
 obtain⟨a,e,p⟩:=h;obtain⟨b,e2,q⟩:=h2;rw[e]at e2;cases e2;exact⟨a,e,p,q⟩
theorem Wp.eq {m:Option α} {a:α} (h:Wp m fun x=>x=a):m=some a:=by obtain⟨b,e,rfl⟩:=h;exact e
end
section
variable {σ ε ρ:Type}
theorem eZ (step:σ→Option (Fw σ ε ρ)) (s:σ):aW step s=(step s).bind fun w=>match w with
 | .n s'=>aW step s'
 | .x e=>some (.x e)
 | .r b=>some (.r b):=by
 have h1:∀r,aW step s=some r→((step s).bind fun w=>match w with
  | .n s'=>aW step s'
  | .x e=>some (.x e)
  | .r b=>some (.r b))=some r:=by
  intro r h;obtain⟨k,hk⟩:=kz.1 h
  cases k with
  | zero=>simp[gw]at hk
  | succ k=>
   simp only[gw]at hk
   cases hs:step s with
   | none=>rw[hs]at hk;cases hk
   | some w=>
    rw[hs]at hk
    cases w with
    | n s'=>exact kz.2 ⟨k,hk⟩
    | x e=>exact hk
    | r b=>exact hk
 cases hw:aW step s with
 | some r=>exact(h1 r hw).symm
 | none=>
  cases hr:((step s).bind fun w=>match w with
  | .n s'=>aW step s'
  | .x e=>some (.x e)
  | .r b=>some (.r b))with
  | none=>rfl
  | some r=>
   exfalso
   cases hs:step s with
   | none=>rw[hs]at hr;cases hr
   | some w=>
    rw[hs]at hr;simp only[ζb]at hr;have:aW step s=some r:=by
     cases w with
     | n s'=>
      obtain⟨k,hk⟩:=kz.1 hr;exact kz.2 ⟨k+1,by simp only[gw,hs];exact hk⟩
     | x e=>exact kz.2 ⟨1,by simp only[gw,hs];exact hr⟩
     | r b=>exact kz.2 ⟨1,by simp only[gw,hs];exact hr⟩
    rw[hw]at this;cases this
def MA (I:σ→Prop) (μ:σ→Nat) (px:ε→Prop) (pr:ρ→Prop) (s:σ):Fw σ ε ρ→Prop
 | .n s'=>I s'∧μ s'<μ s
 | .x e=>px e
 | .r b=>pr b
def Xq (px:ε→Prop) (pr:ρ→Prop):Fw Empty ε ρ→Prop
 | .x e=>px e
 | .r b=>pr b
theorem J8 {step:σ→Option (Fw σ ε ρ)} (I:σ→Prop) (μ:σ→Nat) (px:ε→Prop) (pr:ρ→Prop) (h:∀s,I s→Wp (step s) (MA I μ px pr s)) {s:σ} (hs:I s):Wp (aW step s) (Xq px pr):=by
 have key:∀n s,μ s≤n→I s→Wp (aW step s) (Xq px pr):=by
  intro n
  induction n with
  | zero=>
   intro s hm hi;obtain⟨w,hw,hr⟩:=h s hi;rw[eZ,hw]
   cases w with
   | n s'=>exact absurd hr.2 (by omega)
   | x e=>exact⟨_,rfl,hr⟩
   | r b=>exact⟨_,rfl,hr⟩
  | succ n ih=>
   intro s hm hi;obtain⟨w,hw,hr⟩:=h s hi;rw[eZ,hw]
   cases w with
   | n s'=>exact ih s' (by have:=hr.2;omega) hr.1
   | x e=>exact⟨_,rfl,hr⟩
   | r b=>exact⟨_,rfl,hr⟩
 exact key (μ s) s (Nat.le_refl _) hs
theorem c8 {γ:Type} {step:σ→Option (Fw σ ε ρ)} {fx:ε→Option γ} {fr:ρ→Option γ} {P:γ→Prop} (I:σ→Prop) (μ:σ→Nat) {s:σ} (hs:I s)
 (h:∀s,I s→Wp (step s) (MA I μ (fun e=>Wp (fx e) P) (fun b=>Wp (fr b) P) s)):Wp ((aW step s).bind (Fw.elim fx fr)) P:=by
 rw[dx];refine(J8 I μ _ _ h hs).mono ?_;intro w hw
 cases w with
 | n a=>cases a
 | x e=>exact hw
 | r b=>exact hw
end
end Go.VE
namespace Go.VE
variable [aX]
theorem Hy {β γ δ:Type} {e:γ→Option β} {m:Option δ} {f:δ→Option γ} {L:Option β} (h:∀x,m=some x→Le ((f x).bind e) L):Le ((m.bind f).bind e) L:=by
 cases m with
 | none=>exact Le.none _
 | some x=>exact h x rfl
section
variable {S:Sys} {c:bE} {β:Type} {Q:Out×St→Option β} {fo:Fo} {fs:List Fm} {st0:St} {l:List RO} {d:Option Nat} {now:Bool} {az:List Arg} {dd:List Nat}
theorem Le.get {β:Type} {r:β} {L:Option β} (h:Le (some r) L):L=some r:=h r rfl
theorem Kt {n:Nat} {fo fo':Fo} {fs fs':List Fm} {st:St} (A:Bool→St) {t:Bool} {m:Option β} (ht:t=true) (h:fI S c n fo fs st=some (fo',fs',A t)) (ha:Le m (rn S c Q fo' fs' (A true))):Le m (rn S c Q fo fs st):=by
 rw[kP h,ht];exact ha
theorem Kf {n:Nat} {fo fo':Fo} {fs fs':List Fm} {st:St} (A:Bool→St) {t:Bool} {m:Option β} (ht:t=false) (h:fI S c n fo fs st=some (fo',fs',A t)) (ha:Le m (rn S c Q fo' fs' (A false))):Le m (rn S c Q fo fs st):=by
 rw[kP h,ht];exact ha
theorem Lc {α:Type} [aI α] {s:Sl α} {i:Int} {x:α} {r:β} {L:Option β} (hx:idx s i=some x) (h:Le (((idx s i).bind fun _=>some r).bind some) L):Le (some r) L:=by
 rw[hx]at h;exact h
theorem Xy {n:Nat} {q:List RO} {fs':List Fm} {st:St} {id:Nat} {vs:List SV} {xs:List V} {ws:List (List V)} {m:Option β}
 (hL:fI S c n fo fs st0=some (.ops false [] q,fs',st)) (hq:q=⟨d,none,now,.c,az,dd,[]⟩::l) (hs:bp S.N st.g az=some (.yl id::vs)) (ha:dg vs=some xs) (hw:st.want=xs::ws) (hi:id=st.yid)
 (h:Le m (rn S c Q (.ops false [] l) fs' (lM dd (cr { st with want:=ws } d (.v (.bool (st.more || !ws.isEmpty))))))):Le m (rn S c Q fo fs st0):=by
 refine Me hL hq rfl ?_ h;unfold dZ;simp only[wanted,eu,hs,ha,hw,hi,if_true,and_self,Bool.false_eq_true,if_false]
theorem xD (a:RC) (fs:List Fm) (st:St):rn S c Q (.rc (.loop a)) fs st=(kJ (br S c a) st).bind (AE (jQ S c Q fs) (jH S c Q fs) (fun st=>Q (.ret,st))):=by
 show jW S c Q (.loop a) fs st=_;unfold jW;rw[Al];rfl
theorem OC {f:St→Option (Out×St)} {st st':St} (h:f st=some (.norm,st')):kJ f st=kJ f st':=by
 have key:∀r,kJ f st=some r↔kJ f st'=some r:=fun r=>by
  constructor
  ·intro hr;obtain⟨k,hk⟩:=jK.1 hr
   cases k with
   | zero=>simp[gm]at hk
   | succ k=>simp only[gm,h]at hk;exact jK.2 ⟨k,hk⟩
  ·intro hr;obtain⟨k,hk⟩:=jK.1 hr;exact jK.2 ⟨k+1,by simp only[gm,h];exact hk⟩
 cases hx:kJ f st with
 | none=>
  cases hy:kJ f st' with
  | none=>rfl
  | some r=>rw[(key r).2 hy]at hx;cases hx
 | some r=>rw[(key r).1 hx]
theorem EM {f:St→Option (Out×St)} {st st':St} {o:Out} (h:f st=some (o,st')) (ho:o≠.norm):kJ f st=some (o,st'):=by
 refine jK.2 ⟨1,?_⟩
 cases o with
 | norm=>exact absurd rfl ho
 | exit k=>simp only[gm,h]
 | ret=>simp only[gm,h]
theorem BF {a:RC} {fs:List Fm} {st st':St} (h:rn S c some (.rc a) [] st=some (.norm,st')):rn S c Q (.rc (.loop a)) fs st=rn S c Q (.rc (.loop a)) fs st':=by
 rw[xD,xD,OC (by rw[xO];exact h)]
theorem BN {a:RC} {fs:List Fm} {st st':St} {k:Nat} (h:rn S c some (.rc a) [] st=some (.exit k,st')):rn S c Q (.rc (.loop a)) fs st=rn S c Q (.ex k) fs st':=by
 rw[xD,EM (by rw[xO];exact h) (by simp)];rfl
theorem BE {a:RC} {fs:List Fm} {st st':St} (h:rn S c some (.rc a) [] st=some (.ret,st')):rn S c Q (.rc (.loop a)) fs st=Q (.ret,st'):=by
 rw[xD,EM (by rw[xO];exact h) (by simp)];rfl
end
def Qi:Out×St→Option Unit
 | (.exit _,_)=>none
 | (_,st)=>if st.want.isEmpty then some ()else none
def Sys.bare (S:Sys):Sys:=⟨S.E,S.N,fun _ _ _=>none,fun _ _=>none,fun _=>none⟩
def j_:bE:=fun _ _ _=>none
def Ai (ws rest:List (List V)) (more:Bool):Prop:=more=true∧ws=rest∨more=false∧ws≠[]∧∃r,rest=ws++r
theorem KV (S:Sys) {f:FuncId} {fi:FI} {nm:FuncId→Option Nat} {rf:RF} (hft:S.E.ft f=some fi) (hN:∀g s,nm g=some s→S.N s=g) (hr:vw S.E nm fi rf) {a b:List V} {xs:List (List V)} (hlen:a.length+1+b.length≤rf.na) (hrs:rf.rs=[])
 (h:∀ws more,Ai ws xs more→∀yid,rn S.bare j_ Qi (.rc rf.body) [] ⟨ue 0 (a.map .v++.yl yid::b.map .v),[],[],ws,more,yid⟩=some ()):fE S f a b xs:=by
 have k:fE S.bare f a b xs:=PB (S:=S.bare) (c:=j_) (fi:=fi) (nm:=nm) (rf:=rf) (fun _ _ h=>by cases h) (fun _ _ _ _ _ h=>by simp[j_]at h) (fun _ _ _ _ h=>by simp[Sys.bare]at h) hft hN hr hlen hrs (fun ws more hw yid=>by
  have h1:=h ws more hw yid;change jW S.bare j_ Qi rf.body [] _=some ()at h1;rw[rW]at h1;obtain⟨⟨o,st'⟩,h2,h3⟩:=ζg.1 h1;refine⟨o,st',h2,?_,?_,rfl⟩
  ·rintro id rfl;simp[Qi]at h3
  ·cases o <;> simp[Qi]at h3 <;> exact h3)
 intro ws more hw yid J y Z a' b' H h1 h2 h3 h4 h5;exact k ws more hw yid J ⟨y.tJ,y.yield⟩ Z a' b' H h1 h2 h3 h4 h5
open Classical in
noncomputable def um (P:FuncId→List V→List V→List (List V)→Prop) (f:FuncId) (a b:List V):Option (List (List V)):=if h:∃xs,P f a b xs then some (Classical.choose h)else none
theorem Hl {P:FuncId→List V→List V→List (List V)→Prop} {f:FuncId} {a b:List V} {xs:List (List V)} (h:P f a b xs) (hu:∀ys,P f a b ys→ys=xs):um P f a b=some xs:=by
 have h1:∃xs,P f a b xs:=⟨xs,h⟩;unfold um;rw[dif_pos h1,hu _ (Classical.choose_spec h1)]
theorem FL {P:FuncId→List V→List V→List (List V)→Prop} {f:FuncId} {a b:List V} {xs:List (List V)} (h:um P f a b=some xs):P f a b xs:=by
 unfold um at h;split at h
 ·rename_i h1;cases h;exact Classical.choose_spec h1
 ·cases h
theorem Ty {E:Env} {nm:FuncId→Option Nat} {f:FuncId} {rf:RF}
 (h:((E.ft f).bind fun fi=>(aN ⟨E,nm,fi.ntmps⟩ false fi.body).bind fun c=>(fi.results.mapM (xN E)).bind fun rs=>some (c,rs,fi.ntmps))=some (erase rf.body,rf.rs,rf.na)):∃fi,E.ft f=some fi∧vw E nm fi rf:=by
 obtain⟨fi,h1,h2⟩:=ζg.1 h;obtain⟨c,h3,h4⟩:=ζg.1 h2;obtain⟨rs,h5,h6⟩:=ζg.1 h4;simp only[ζa,ζc]at h6;obtain⟨rfl,rfl,h7⟩:=h6;exact⟨fi,h1,h3,h5,h7.symm⟩
theorem wV {n m:Nat} (h:n≤m) {x:V} (hx:V.lvl n x=true):V.lvl m x=true:=by
 induction h with
 | refl=>exact hx
 | step _ ih=>exact xe ih
theorem xM {n m:Nat} (h:n≤m) {x:List V} (hx:V.ck n x=true):V.ck m x=true:=by
 induction h with
 | refl=>exact hx
 | step _ ih=>exact oB ih
theorem Kl {n m:Nat} (h:n≤m) {x:List (List V)} (hx:V.jY n x=true):V.jY m x=true:=by
 induction h with
 | refl=>exact hx
 | step _ ih=>exact yN ih
theorem PE {n m:Nat} (h:n≤m) {x:List (V×V)} (hx:V.o4 n x=true):V.o4 m x=true:=by
 induction h with
 | refl=>exact hx
 | step _ ih=>exact A5 ih
mutual
theorem vT:∀x:V,∃n,V.lvl n x=true
 | .fsl es xs=>let ⟨n,h⟩:=C4 xs;⟨n+1,by simp only[V.lvl];exact h⟩
 | .fptr cs=>let ⟨n,h⟩:=pR cs;⟨n+1,by simp only[V.lvl];exact h⟩
 | .fmap kvs=>let ⟨n,h⟩:=ED kvs;⟨n+1,by simp only[V.lvl];exact h⟩
 | .agg cs=>let ⟨n,h⟩:=pR cs;⟨n+1,by simp only[V.lvl];exact h⟩
 | .tup cs=>let ⟨n,h⟩:=pR cs;⟨n+1,by simp only[V.lvl];exact h⟩
 | .clo f a b=>let ⟨n,h⟩:=pR a;let ⟨m,k⟩:=pR b;⟨max n m+1,by simp only[V.lvl,ζh];exact⟨xM (Nat.le_max_left _ _) h,xM (Nat.le_max_right _ _) k⟩⟩
 | .bool _|.int ..|.str _|.eW|.eC|.od|.cC|.aG|.hsl ..|.hptr ..|.yld _|.hmap _=>⟨0,rfl⟩
theorem pR:∀x:List V,∃n,V.ck n x=true
 | []=>⟨0,by simp only[V.ck]⟩
 | a::l=>let ⟨n,h⟩:=vT a;let ⟨m,k⟩:=pR l;⟨max n m,by simp only[V.ck,ζh];exact⟨wV (Nat.le_max_left _ _) h,xM (Nat.le_max_right _ _) k⟩⟩
theorem C4:∀x:List (List V),∃n,V.jY n x=true
 | []=>⟨0,by simp only[V.jY]⟩
 | a::l=>let ⟨n,h⟩:=pR a;let ⟨m,k⟩:=C4 l;⟨max n m,by simp only[V.jY,ζh];exact⟨xM (Nat.le_max_left _ _) h,Kl (Nat.le_max_right _ _) k⟩⟩
theorem ED:∀x:List (V×V),∃n,V.o4 n x=true
 | []=>⟨0,by simp only[V.o4]⟩
 | (a,b)::l=>let ⟨n,h⟩:=vT a;let ⟨m,k⟩:=vT b;let ⟨q,p⟩:=ED l;⟨max n (max m q),by simp only[V.o4,ζh];exact⟨⟨wV (by omega) h,wV (by omega) k⟩,PE (by omega) p⟩⟩
end
theorem FR.l8 {H:aq} {Z Z':Nat→Prop} {x y z:V} (h:FR H Z x z) (k:FR H Z' y z):x=y:=by
 obtain⟨n,hn⟩:=vT x;obtain⟨m,hm⟩:=vT y;have e1:=h.borrow (max n m) (wV (Nat.le_max_left _ _) hn);have e2:=k.borrow (max n m) (wV (Nat.le_max_right _ _) hm);rw[e1]at e2;exact Option.some.inj e2
open Classical in
noncomputable def wY (E:Env) (f:FuncId) (az:List V):Option V:=if h:∃y,yZ E f az y then some (Classical.choose h)else none
theorem I_ {E:Env} {f:FuncId} {az:List V} {y:V} (h:wY E f az=some y):yZ E f az y:=by
 unfold wY at h;split at h
 ·rename_i h1;cases h;exact Classical.choose_spec h1
 ·cases h
theorem BZ {E:Env} {f:FuncId} {az:List V} {y:V} (h:yZ E f az y):wY E f az=some y:=by
 have h1:∃y,yZ E f az y:=⟨y,h⟩;unfold wY;rw[dif_pos h1];obtain⟨n,z,H,Z,k1,k2,_⟩:=h;obtain⟨n',z',H',Z',k3,k4,_⟩:=Classical.choose_spec h1;have e1:=qJ E (Nat.le_max_left n n') _ _ _ _ k1;have e2:=qJ E (Nat.le_max_right n n') _ _ _ _ k3;rw[e1]at e2;cases e2;rw[FR.l8 k4 k2]
theorem Ep {E:Env} {f:FuncId} {az:List V} {y:V} (hs:V.scalar y=true) (h:∃n H',run E n (.fn f) az []=some (y,H')):yZ E f az y:=by
 obtain⟨n,H',h⟩:=h;exact⟨n,y,H',fun _=>False,h,.same _ (lg hs),fun _ h=>h.elim,⟨fun _ _ _ h=>h.elim⟩⟩
end Go.VE
