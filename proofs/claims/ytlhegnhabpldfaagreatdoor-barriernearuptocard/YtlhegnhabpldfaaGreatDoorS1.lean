/-
 Plain values and the steps of a certificate.
-/
import Derived.KernelRfl
import Derived.Test.YtlhegnhabpldfaaGreatDoorN2
set_option linter.all false
namespace Go.VE
variable [bV]
inductive Sl (α:Type) where
 | nil
 | emp
 | row (l:List α)
 | part (l:List α)
 deriving Inhabited
def Sl.l {α:Type}:Sl α->List α
 | .nil|.emp=>[]
 | .row l|.part l=>l
def Sl.k {α:Type}:Sl α->Fl
 | .nil=>.nil
 | .emp=>.emp
 | .row _=>.row
 | .part _=>.part
class bB (α:Type) where
 cells:α->List V
 agg:Bool
 size:Nat
 len:∀a,(cells a).length=size
 good:∀a,V.cA (cells a)=true
 one:∀a,(cells a).all V.one=true
 plain:agg=false->size=1
def cells {α:Type} [bB α] (a:α):List V:=bB.cells a
def enc {α:Type} [bB α] (a:α):V:=if bB.agg α then .agg (cells a)else(cells a).headD .undef
def rows {α:Type} [bB α] (l:List α):List (List V):=l.map cells
def b8 {α:Type} [bB α] (s:Sl α):V:=nO s.k (bB.size α) (rows s.l)
instance:bB Int where
 cells n:=[.int .i64 n]
 agg:=false
 size:=1
 len _:=rfl
 good _:=rfl
 one _:=rfl
 plain _:=rfl
instance:bB Bool where
 cells b:=[.bool b]
 agg:=false
 size:=1
 len _:=rfl
 good _:=rfl
 one _:=rfl
 plain _:=rfl
instance:bB ByteArray where
 cells s:=[.str s]
 agg:=false
 size:=1
 len _:=rfl
 good _:=rfl
 one _:=rfl
 plain _:=rfl
structure aZ where
 proc:Int
 index:Int
 deriving DecidableEq,Inhabited
instance:bB aZ where
 cells x:=[.int .i64 x.proc,.int .i64 x.index]
 agg:=true
 size:=2
 len _:=rfl
 good _:=rfl
 one _:=rfl
 plain h:=by cases h
@[simp] theorem Wv (n:Int):enc n=.int .i64 n:=rfl
@[simp] theorem Wf (n:Bool):enc n=.bool n:=rfl
@[simp] theorem Ww (n:ByteArray):enc n=.str n:=rfl
@[simp] theorem VU (n:Int):cells n=[.int .i64 n]:=rfl
@[simp] theorem Vz (n:Bool):cells n=[.bool n]:=rfl
@[simp] theorem V2 (n:ByteArray):cells n=[.str n]:=rfl
@[simp] theorem Wg (n:aZ):cells n=[.int .i64 n.proc,.int .i64 n.index]:=rfl
@[simp] theorem Uz (n:aZ):enc n=.agg [.int .i64 n.proc,.int .i64 n.index]:=rfl
section
variable {α:Type} [bB α]
theorem gn (l:List α):(rows l).length=l.length:=by simp[rows]
def idx (s:Sl α) (i:Int):Option α:=if 0<=i then s.l[i.toNat]? else none
theorem Pe {N:Nat->FuncId} (s:Sl α) (k:IntKind) (i:Int) {n:Nat} (B:n=bB.size α):bn N (.idxS n) [b8 s,.int k i]=(idx s i).map λx=>.fptr (cells x):=by
 subst B;unfold idx b8;simp only[bn,lu]
 by_cases h:i<0
 .rw[if_pos h,if_neg Za];rfl
 rw[if_neg h,if_pos Za]
 cases s <;> simp[Sl.k,Sl.l,nO,rows,Function.comp_def]
theorem M0 {N:Nat->FuncId} (s:Sl α):bn N .lenSl [b8 s]=some (.int .i64 s.l.length):=by
 cases s <;> simp[bn,nG,b8,Sl.k,Sl.l,nO,gn]
end
section
variable {S:Sys} {c:ck}
end
end Go.VE
namespace Go.VE
variable [bV]
section
variable {S:Sys} {c:ck}
def isSlice:uz->Bool
 | .slice ..=>true
 | _=>false
theorem Qy (dr:Bool) (fr:List Nat) (dst:Option Nat) (now:Bool) (p:uz) (az:List Arg) (st:St) (h:isSlice p=false) :
 fK S c dr fr ⟨dst,none,now,.p p,az,[],[]⟩ st=(bY S.N st.g az).bind λsvs=>(jy S.N st.m p svs).bind λx=>some (dg st dst x):=by
 unfold fK mb;have u:fT S.N st.g ⟨dst,none,now,.p p,az,[],[]⟩=none:=by unfold fT;grind
 simp[wanted,u]
 cases z:bY S.N st.g az with
 | none=>rfl
 | some svs=>
  simp;cases p <;> first|(simp[isSlice]at h;done)|(cases w:jy S.N st.m _ svs <;> simp[w])
theorem IN (N:Nat->FuncId) (m:Tb bG) (p:uz) (svs:List SV) (xs:List V) (h:dw svs=some xs):jy N m p svs=(bn N p xs).bind λx=>some (.v x):=by
 unfold jy;rw[h];dsimp only;cases bn N p xs <;> rfl
theorem xM (dr:Bool) (fr:List Nat) (dst:Option Nat) (now:Bool) (q:Iz) (az:List Arg) (st:St) :
 fK S c dr fr ⟨dst,none,now,.r q,az,[],[]⟩ st=(bY S.N st.g az).bind λsvs=>if !dr||now||eM fr svs then(mh st.m q svs).bind λx=>some (dg st dst x)else none:=by
 unfold fK mb;have u:fT S.N st.g ⟨dst,none,now,.r q,az,[],[]⟩=none:=rfl;simp[wanted,u]
 cases w:bY S.N st.g az with
 | none=>rfl
 | some svs=>
  simp;split
  .cases z:mh st.m q svs <;> simp
  rfl
theorem vF (dr:Bool) (fr:List Nat) (d:Nat) (now:Bool) (q:Mz) (az:List Arg) (st:St) :
 fK S c dr fr ⟨some d,none,now,.a q,az,[],[]⟩ st=(bY S.N st.g az).bind λsvs=>if st.new d then(mJ st.m q svs d).bind λr=>some { st with g:=bM st.g d r.2,m:=bM st.m d r.1 } else none:=by
 unfold fK mb;have u:fT S.N st.g ⟨some d,none,now,.a q,az,[],[]⟩=none:=rfl;simp[wanted,u]
 cases w:bY S.N st.g az with
 | none=>rfl
 | some svs=>
  simp;split
  .cases z:mJ st.m q svs d <;> simp[dg]
  rfl
theorem uC (dr:Bool) (fr:List Nat) (dst:Option Nat) (now:Bool) (q:Iu) (az:List Arg) (st:St) :
 fK S c dr fr ⟨dst,none,now,.l q,az,[],[]⟩ st=(bY S.N st.g az).bind λsvs=>if !dr||now then(mg st dst q svs).bind λr=>some (dg r.2 dst r.1)else none:=by
 unfold fK mb;have u:fT S.N st.g ⟨dst,none,now,.l q,az,[],[]⟩=none:=rfl;simp[wanted,u]
 cases w:bY S.N st.g az with
 | none=>rfl
 | some svs=>
  simp;split
  .cases z:mg st dst q svs <;> simp
  rfl
def ni:List SV->Option (FuncId×List SV)
 | .clo f a b::vs=>some (f,a++vs++b)
 | .v (.clo f a b)::vs=>some (f,a.map .v++vs++b.map .v)
 | _=>none
theorem An (dr:Bool) (fr:List Nat) (dst:Option Nat) (now:Bool) (az:List Arg) (st:St) (svs:List SV) (f:FuncId) (args:List SV) (B:bY S.N st.g az=some svs) (hc:ni svs=some (f,args)) :
 fK S c dr fr ⟨dst,none,now,.c,az,[],[]⟩ st=(fP S c dst dr (!dr||now) (fe st.m fr) f args st).bind λr=>some (dg r.2 dst r.1):=by
 unfold fK mb;unfold ni at hc;split at hc
 .obtain⟨rfl,rfl⟩:=hc;simp[wanted,fT,B];cases fP S c dst dr _ _ _ _ st <;> simp
 .obtain⟨rfl,rfl⟩:=hc;simp[wanted,fT,B];cases fP S c dst dr _ _ _ _ st <;> simp
 grind
noncomputable def Ol {β:Type} (S:Sys) (c:ck) (fr:List Nat) (l:List RO) (k:St->Option β):St->Option β:=λst=>(mM S c false fr l st).bind k
noncomputable def N1 {β:Type} (S:Sys) (c:ck) (fr:List Nat) (l:List RO) (k:St->Option β):St->Option β:=λst=>(mM S c true fr l st).bind k
noncomputable def TV {β:Type} (S:Sys) (c:ck) (fr dd:List Nat) (l:List RO) (k:St->Option β):St->Option β:=λst=>Ol S c fr l k (oL dd st)
noncomputable def TT {β:Type} (S:Sys) (c:ck) (fr dd:List Nat) (l:List RO) (k:St->Option β):St->Option β:=λst=>N1 S c fr l k (oL dd st)
@[congr] theorem US {β:Type} {fr:List Nat} {l:List RO} {k:St->Option β} {st st':St} (h:st=st'):Ol S c fr l k st=Ol S c fr l k st':=by rw[h]
@[congr] theorem VH {β:Type} {fr B:List Nat} {l:List RO} {k:St->Option β} {st st':St} (D:fr=B) (h:st=st'):N1 S c fr l k st=N1 S c B l k st':=by simp_all
@[congr] theorem Vp {β:Type} {fr dd:List Nat} {l:List RO} {k:St->Option β} {st st':St} (h:st=st'):TV S c fr dd l k st=TV S c fr dd l k st':=by rw[h]
@[congr] theorem Vi {β:Type} {fr B dd:List Nat} {l:List RO} {k:St->Option β} {st st':St} (D:fr=B) (h:st=st'):TT S c fr dd l k st=TT S c B dd l k st':=by simp_all
@[congr] theorem V1 {dr:Bool} {fr:List Nat} {o:RO} {st st':St} (h:st=st'):fK S c dr fr o st=fK S c dr fr o st':=by rw[h]
end
section
variable {S:Sys} {c:ck} (dr:Bool) (fr:List Nat) (dst:Option Nat) (now:Bool) (az:List Arg) (st:St)
end
inductive Fm where
 | seq (b:RC)
 | blk (id:Nat)
 | gst (x:Gh)
section
variable (S:Sys) (c:ck) {β:Type} (Q:Out×St->Option β)
noncomputable def runK:List Fm->Out×St->Option β
 | [],r=>Q r
 | .seq b::fs,(.norm,st)=>(cH S c b st).bind (runK fs)
 | .seq _::fs,r=>runK fs r
 | .blk id::fs,(.exit k,st)=>if k=id then runK fs (.norm,st)else runK fs (.exit k,st)
 | .blk _::fs,r=>runK fs r
 | .gst x::fs,(.norm,st)=>(ghost x st).bind λst=>runK fs (.norm,st)
 | .gst _::fs,r=>runK fs r
noncomputable def go (rc:RC) (fs:List Fm) (st:St):Option β:=(cH S c rc st).bind (runK S c Q fs)
noncomputable def QF (fs:List Fm):St->Option β:=λst=>runK S c Q fs (.norm,st)
def br {α:Type} (t:Bool) (a b:α):α:=if t then a else b
end
@[congr] theorem VZ {α:Type} {t B:Bool} {a b a' D:α} (h:t=B) (G:B=true->a=a') (J:B=false->b=D):br t a b=br B a' D:=by
 subst h;cases t
 .exact J rfl
 exact G rfl
section
variable {S:Sys} {c:ck} {β:Type} {Q:Out×St->Option β}
@[congr] theorem go_congr {a:RC} {fs:List Fm} {st st':St} (h:st=st'):go S c Q a fs st=go S c Q a fs st':=by rw[h]
@[congr] theorem UH {fs:List Fm} {st st':St} (h:st=st'):QF S c Q fs st=QF S c Q fs st':=by rw[h]
@[congr] theorem UU {fs:List Fm} {r B:Out×St} (h:r=B):runK S c Q fs r=runK S c Q fs B:=by rw[h]
theorem GN (rc:RC) (st:St):(cH S c rc st).bind Q=go S c Q rc [] st:=by
 simp only[go];cases cH S c rc st <;> rfl
inductive Fw (ν ε ρ:Type) where
 | n (a:ν)
 | x (e:ε)
 | r (b:ρ)
def jt {σ ε ρ:Type} (step:σ->Option (Fw σ ε ρ)):Nat->σ->Option (Fw Empty ε ρ)
 | 0,_=>none
 | k+1,s=>match step s with
  | some (.n B)=>jt step k B
  | some (.x e)=>some (.x e)
  | some (.r b)=>some (.r b)
  | none=>none
theorem wG {σ ε ρ:Type} {step:σ->Option (Fw σ ε ρ)}:∀{k B:Nat} {s:σ} {r:Fw Empty ε ρ},k<=B->jt step k s=some r->jt step B s=some r
 | 0,_,_,_,_,h=>by simp[jt]at h
 | k+1,0,_,_,hk,_=>by omega
 | k+1,B+1,s,r,hk,h=>by
  simp only[jt]at h ⊢;split at h
  .exact wG (Nat.le_of_succ_le_succ hk) h
  .exact h
  .exact h
  simp at h
open Classical in
noncomputable def bR {σ ε ρ:Type} (step:σ->Option (Fw σ ε ρ)) (s:σ):Option (Fw Empty ε ρ):=
 if h:∃k r,jt step k s=some r then some (Classical.choose (Classical.choose_spec h))else none
theorem nR {σ ε ρ:Type} {step:σ->Option (Fw σ ε ρ)} {s:σ} {r:Fw Empty ε ρ}:bR step s=some r↔∃k,jt step k s=some r:=by
 unfold bR;constructor
 .intro h;split at h
  next u=>simp only[ζa]at h;exact⟨_,by rw[<-h];exact Classical.choose_spec (Classical.choose_spec u)⟩
  simp at h
 rintro⟨k,hk⟩;have u:∃k r,jt step k s=some r:=⟨k,r,hk⟩;rw[dif_pos u];have z:=Classical.choose_spec (Classical.choose_spec u);have B:=wG (Nat.le_max_left (Classical.choose u) k) z;have w:=wG (Nat.le_max_right (Classical.choose u) k) hk;rw[B]at w;exact w
def Fw.out {ν ε ρ:Type} (B:ν->St) (eε:ε->Nat×St) (eρ:ρ->St):Fw ν ε ρ->Out×St
 | .n a=>(.norm,B a)
 | .x e=>(.exit (eε e).1,(eε e).2)
 | .r b=>(.ret,eρ b)
def Fw.elim {ε ρ γ:Type} (B:ε->γ) (fr:ρ->γ):Fw Empty ε ρ->γ
 | .x e=>B e
 | .r b=>fr b
end
section
variable {α:Type} [bB α]
theorem D7 (s:Sl α):V.one (b8 s)=true:=by cases s <;> rfl
theorem MX (l:List α):V.mG (rows l)=true:=by
 induction l with
 | nil=>rfl
 | cons a l u=>simp only[rows,List.map_cons,V.mG,ζh];exact⟨bB.good a,u⟩
theorem Kx (s:Sl α):V.good (b8 s)=true:=by
 cases s <;> simp only[b8,Sl.k,nO,V.good] <;> exact MX _
instance:bB (Sl α) where
 cells s:=[b8 s]
 agg:=false
 size:=1
 len _:=rfl
 good s:=by simp only[V.cA,Kx,Bool.and_self]
 one s:=by simp[D7]
 plain _:=rfl
end
section
variable {S:Sys} {c:ck}
def LB (x:Option SV) (b:Bool) (y z:Option St):Option St:=
 match x with
 | some (.v (.bool t))=>br (t==b) y z
 | some (.v _)=>z
 | _=>none
@[congr] theorem Tv {x B:Option SV} {b:Bool} {y z:Option St} (h:x=B):LB x b y z=LB B b y z:=by rw[h]
def P0 {β:Type} (x:Option SV) (y z:Option β):Option β:=
 match x with
 | some (.v (.bool t))=>br t y z
 | _=>none
@[congr] theorem UF {β:Type} {x B:Option SV} {y z:Option β} (h:x=B):P0 x y z=P0 B y z:=by rw[h]
def mV (c:ck) (f:FuncId) (az:List V):Option (List V):=(c f (az.map .v) []).bind λr=>cV r.2 8 r.1
def Lz (now:Bool) (args:List SV) (ok:Bool) (st:St) (ys:List V):Option (SV×St):=
 if(result ys).scalar||ok then some (.v (result ys),st)else if now then(rowsOf args).map λds=>(.v (result ys),{ st with m:=oN ds st.m })else none
theorem RJ (dst:Option Nat) (dr now:Bool) (old:List SV->Bool) (f:FuncId) (args:List SV) (st:St) (hk:S.E.keep f=false) :
 fP S c dst dr now old f args st=(cV st.m 8 args).bind λaz=>if now||old args then(mV c f az).bind (Lz now args (dw args).isSome st)else none:=by
 unfold fP mV;simp only[hk,Bool.false_eq_true,if_false]
 cases cV st.m 8 args with
 | none=>rfl
 | some az=>
  simp only[ζb];split
  .cases c f (az.map .v) []with
   | none=>rfl
   | some r=>
    obtain⟨rs,m'⟩:=r;simp only[ζb];cases cV m' 8 rs <;> rfl
  rfl
end
section
variable {S:Sys} {T:pI}
def G0 (rs:List RV):Out×St->Option (List V)
 | (.exit _,_)=>none
 | (_,st)=>(kP st rs).bind (cV st.m 8)
theorem NV {f:FuncId} {rf:RF} (B:T f=some rf) (az:List V) (D:az.length<=rf.na):mV (c_ S T) f az=go S (c_ S T) (G0 rf.rs) rf.body [] (start (az.map .v) []):=by
 unfold mV;rw[qQ B];unfold mB;rw[if_pos (by simpa using D),<-GN]
 cases h:cH S (c_ S T) rf.body (start (az.map .v) [])with
 | none=>rfl
 | some r=>
  obtain⟨o,st⟩:=r;cases o <;> simp only[ζb,G0] <;> (try rfl) <;> (cases kP st rf.rs <;> rfl)
end
end Go.VE
namespace Go.VE
variable [bV]
variable {N:Nat->FuncId}
theorem FO (o:Nat) (cs:List V):bn N (.fieldAddr o) [.fptr cs]=if o<=cs.length then some (.fptr (cs.drop o))else none:=rfl
def kK (s:ByteArray) (n:Int):Option Int:=if 0<=n then(s[n.toNat]?).map λb=>(b.toNat:Int)else none
theorem Mh (s:ByteArray) (k:IntKind) (n:Int):bn N .idxStr [.str s,.int k n]=(kK s n).bind λx=>some (.int .u8 x):=by
 simp only[bn,kK];split
 .cases s[n.toNat]? <;> rfl
 rfl
theorem PM (z:List V) (pl:List (Nat×Nat)) (vs:List V):bn N (.build z pl) vs=(kz z pl vs).bind λcs=>some (.agg cs):=by
 simp only[bn];cases kz z pl vs <;> rfl
section
variable {α:Type} [bB α]
theorem DJ (s:Sl α) (k:IntKind) (i:Int) (n:Nat) (B:n=bB.size α):bn N (.idxS n) [b8 s,.int k i]=(idx s i).bind λx=>some (.fptr (cells x)):=by
 rw[Pe s k i B];cases idx s i <;> rfl
theorem xV (s:Sl α):bn N .lenSl [b8 s]=some (.int .i64 s.l.length):=M0 s
def Sl.isNil {α:Type} (s:Sl α):Option Bool:=
 match s with
 | .nil=>some true
 | .emp=>none
 | _=>some false
theorem Pa (q:Option Nat) (s:Sl α):bn N (.bin (some .slice) q .eql) [b8 s,.bK]=s.isNil.bind λt=>some (.bool t):=by
 cases s <;> rfl
def fS (s:Sl α) (B D:Option Int):Option (Sl α):=
 (dU s.l.length B D).map λ(l,h)=>match s with
  | .nil=>.nil
  | .emp=>.emp
  | .row x=>.part ((x.take h).drop l)
  | .part x=>.part ((x.take h).drop l)
theorem K7 (s:Sl α) (B D:Option Int) (n:Nat) (G:n=bB.size α):gO n (b8 s) B D=(fS s B D).bind λx=>some (b8 x):=by
 subst G
 cases s with
 | nil=>simp only[b8,Sl.k,nO,gO,fS,Sl.l,List.length_nil];cases dU 0 B D <;> rfl
 | emp=>simp only[b8,Sl.k,nO,gO,fS,Sl.l,List.length_nil];cases dU 0 B D <;> rfl
 | row l=>simp only[b8,Sl.k,nO,gO,fS,Sl.l,if_true,gn];cases dU l.length B D <;> simp[rows,List.map_take,List.map_drop]
 | part l=>simp only[b8,Sl.k,nO,gO,fS,Sl.l,if_true,gn];cases dU l.length B D <;> simp[rows,List.map_take,List.map_drop]
end
theorem Ls (m:Tb bG) (n:Nat) (a:Bool) (cs:List V):mh m (.load n a) [.v (.fptr cs)]=(cut cs 0 n).bind λr=>(mk a r).bind λx=>some (.v x):=by
 simp only[mh,ey]
 cases cut cs 0 n with
 | none=>rfl
 | some r=>simp only[ζb];cases mk a r <;> rfl
end Go.VE
namespace Go.VE
variable [bV]
section
variable {α:Type} [bB α]
def cF (s:Sl α):bG:=.sl s.k (bB.size α) (rows s.l)
def Sl.mj (s:Sl α) (i:Int):Option Nat:=if 0<=i/\i.toNat<s.l.length then some i.toNat else none
def Sl.get (s:Sl α) (i:Nat):Option α:=s.l[i]?
def Sl.put (s:Sl α) (i:Nat) (x:α):Option (Sl α):=
 if i<s.l.length then some (match s with|.row l=>.row (l.set i x)|.part l=>.part (l.set i x)|s=>s)else none
def gw (s:Sl α) (x:α):Option (Sl α):=if s.l.length+1<=2147483648 then some (.row (s.l++[x]))else none
def mP (n:Int) (z:α):Option (Sl α):=if 0<=n/\n<=2147483648 then some (.row (List.replicate n.toNat z))else none
end
section
variable {α:Type} [bB α] {N:Nat->FuncId} {m:Tb bG}
def Ke (n d:Nat) (o:Option bG) (i:Int):Option SV:=
 match o with
 | some (.sl k es u)=>if cN k/\es=n/\0<=i/\i.toNat<u.length then some (.el d i.toNat 0)else none
 | _=>none
theorem Rg (n d:Nat) (k:IntKind) (i:Int):jy N m (.idxS n) [.own d,.v (.int k i)]=Ke n d (bh m d) i:=by
 simp[jy,dw,vG,Ke]
 grind
theorem RY (n d:Nat) (s:Sl α) (i:Int) (h:n=bB.size α):Ke n d (some (cF s)) i=(s.mj i).bind λj=>some (.el d j 0):=by
 simp[Ke,cF,gn,Sl.mj]
 cases s with
 | nil=>simp[Sl.l,cN]
 | emp=>simp[Sl.l,cN]
 | row l=>simp[Sl.k,Sl.l,cN];grind
 | part l=>simp[Sl.k,Sl.l,cN];grind
def Js (o:Option bG):Option SV:=
 match o with
 | some (.sl _ _ u)=>some (.v (.int .i64 u.length))
 | _=>none
theorem Om (d:Nat):jy N m .lenSl [.own d]=Js (bh m d):=by
 simp[jy,dw,vG,Js]
 grind
theorem R7 (s:Sl α):Js (some (cF s))=some (.v (.int .i64 s.l.length)):=by simp[Js,cF,gn]
def P9 (n:Nat) (a:Bool) (o:Nat) (ob:Option bG):Option SV:=
 match ob with
 | some (.box u)=>tG n a ((u.drop o).take n)
 | _=>none
theorem Wn (n:Nat) (a:Bool) (d o:Nat):mh m (.load n a) [.ptr d o]=P9 n a o (bh m d):=by
 rfl
theorem LA (n:Nat) (a:Bool) (o:Nat) (cs:List SV):P9 n a o (some (.box cs))=tG n a ((cs.drop o).take n):=rfl
def Gv (n:Nat) (a:Bool) (i o:Nat) (ob:Option bG):Option SV:=
 match ob with
 | some (.sl _ _ u)=>match u[i]? with
  | some w=>((cut w o n).bind (mk a)).map .v
  | none=>none
 | _=>none
theorem Vc (n:Nat) (a:Bool) (d i o:Nat):mh m (.load n a) [.el d i o]=Gv n a i o (bh m d):=by
 rfl
theorem Lx (n:Nat) (a:Bool) (i o:Nat) (s:Sl α):Gv n a i o (some (cF s))=(s.get i).bind λx=>(cut (cells x) o n).bind λr=>(mk a r).bind λy=>some (.v y):=by
 simp only[Gv,cF,Sl.get,rows,List.getElem?_map]
 cases s.l[i]? with
 | none=>rfl
 | some x=>
  simp only[Option.map_some,ζb]
  cases cut (cells x) o n with
  | none=>rfl
  | some r=>simp ;cases mk a r <;> rfl
theorem U5 (z:α) (n:Int) (d:Nat) (size:Nat) (zero:List V) (h:zero=cells z) (B:size=bB.size α) :
 mJ m (.makeSl size zero) [.v (.int .i64 n),.v (.int .i64 n)] d=(mP n z).bind λs=>some (cF s,.own d):=by
 subst h B;simp[mJ,mP];split
 .simp[cF,Sl.k,Sl.l,rows]
 rfl
def Dw (st:St) (d i o size:Nat) (x:V) (ob:Option bG):Option (SV×St):=
 match ob with
 | some (.sl k es w)=>match w[i]? with
  | some u=>if x.cells.length=size/\o+size<=u.length/\x.cells.all V.one=true then
   some (.v .undef,{ st with m:=bM st.m d (.sl k es (w.set i (u.take o++x.cells++u.drop (o+x.cells.length)))) })else none
  | none=>none
 | _=>none
theorem Lh (st:St) (dst:Option Nat) (size d i o:Nat) (x:V):mg st dst (.store size) [.el d i o,.v x]=Dw st d i o size x (bh st.m d):=by
 rfl
theorem JL (g:Tb SV) (p:List Nat) (w:List (List V)) (B:Bool) (y:Nat) (d i size:Nat) (x:V) (a:α) (D:x.cells=cells a) (G:size=bB.size α) (s:Sl α) :
 Dw ⟨g,m,p,w,B,y⟩ d i 0 size x (some (cF s))=(s.put i a).bind λJ=>some (.v .undef,⟨g,bM m d (cF J),p,w,B,y⟩):=by
 have h1:(cells a).all V.one=true:=bB.one a;have z:∀b:α,(cells b).length=bB.size α:=bB.len;subst G;simp only[Dw,cF,rows,List.getElem?_map,D,Sl.put]
 by_cases u:i<s.l.length
 .have hg  := ζd u;rw[if_pos u,hg];simp[z,h1]
  cases s with
  | nil=>simp[Sl.l]at u
  | emp=>simp[Sl.l]at u
  | row l=>simp[Sl.k,Sl.l,List.drop_of_length_le,z]
  | part l=>simp[Sl.k,Sl.l,List.drop_of_length_le,z]
 grind
def xK (st:St) (t n:Nat) (s:SV) (xs ys:Option (List (List V))):Option (SV×St):=
 match xs,ys with
 | some _,some []=>match s with
  | .own d=>match bh st.m d with
   | some ob=>if St.new { st with m:=eo d st.m } t then some (.own t,{ st with m:=bM (eo d st.m) t ob })else none
   | none=>none
  | .v .bK=>if st.new t then some (.own t,{ st with m:=bM st.m t (.sl .nil n []) })else none
  | .v .dD=>if st.new t then some (.own t,{ st with m:=bM st.m t (.sl .emp n []) })else none
  | _=>none
 | some xs,some ys=>
  if xs.length+ys.length<=2147483648/\Gm s=true then
   if St.new { st with m:=giveUp st.m s } t then some (.own t,{ st with m:=bM (giveUp st.m s) t (.sl .row n (xs++ys)) })else none
  else none
 | _,_=>none
theorem zZ (st:St) (t n:Nat) (s x:SV):mg st (some t) (.append n) [s,x]=xK st t n s (iU st.m n s) (iU st.m n x):=by
 cases s <;> cases x <;> (rfl)
def KH (n:Nat) (o:Option bG):Option (List (List V)):=
 match o with
 | some (.sl k es u)=>if cN k then(if es=n then some u else none)else some []
 | _=>none
theorem DA (n d:Nat):iU m n (.own d)=KH n (bh m d):=by
 simp[iU,KH]
 grind
theorem Am (n:Nat) (s:Sl α) (h:n=bB.size α):KH n (some (cF s))=some (rows s.l):=by
 subst h;cases s <;> simp[KH,cF,Sl.k,Sl.l,cN,rows]
theorem Rk (n:Nat):iU m n (.v .bK)=some []:=rfl
theorem QO (n:Nat):iU m n (.v .dD)=some []:=rfl
theorem Ll (g:Tb SV) (p:List Nat) (w:List (List V)) (B:Bool) (y:Nat) (t n d:Nat) (l:List α) (x:α) (h:n=bB.size α):xK ⟨g,m,p,w,B,y⟩ t n (.own d) (some (rows l)) (some (rows [x])) =
 (gw (.row l) x).bind λs=>if St.new ⟨g,eo d m,p,w,B,y⟩ t then some (.own t,⟨g,bM (eo d m) t (cF s),p,w,B,y⟩)else none:=by
 subst h;have e:(rows l).length+(rows [x]).length=l.length+1:=by simp[gn]
 by_cases h:l.length+1<=2147483648
 .have h1:gw (.row l) x=some (.row (l++[x])):=if_pos h;have u:xK ⟨g,m,p,w,B,y⟩ t (bB.size α) (.own d) (some (rows l)) (some (rows [x]))=if St.new ⟨g,eo d m,p,w,B,y⟩ t then some (.own t,⟨g,bM (eo d m) t (.sl .row (bB.size α) (rows l++rows [x])),p,w,B,y⟩)else none:=if_pos ⟨by omega,rfl⟩
  rw[h1,u];simp[cF,Sl.k,Sl.l,rows]
 have h1:gw (.row l) x=none:=if_neg h;have u:xK ⟨g,m,p,w,B,y⟩ t (bB.size α) (.own d) (some (rows l)) (some (rows [x]))=none:=if_neg (λq=>h Za)
 grind
theorem MC (g:Tb SV) (p:List Nat) (w:List (List V)) (B:Bool) (y:Nat) (t n:Nat) (x:α) (h:n=bB.size α):xK ⟨g,m,p,w,B,y⟩ t n (.v .bK) (some []) (some (rows [x])) =
 if St.new ⟨g,m,p,w,B,y⟩ t then some (.own t,⟨g,bM m t (cF (.row [x])),p,w,B,y⟩)else none:=by
 subst h;rfl
theorem MW (g:Tb SV) (p:List Nat) (w:List (List V)) (B:Bool) (y:Nat) (t n:Nat) (x:α) (h:n=bB.size α):xK ⟨g,m,p,w,B,y⟩ t n (.v .dD) (some []) (some (rows [x])) =
 if St.new ⟨g,m,p,w,B,y⟩ t then some (.own t,⟨g,bM m t (cF (.row [x])),p,w,B,y⟩)else none:=by
 subst h;rfl
end
theorem wW (g:Tb SV) (m:Tb bG) (p:List Nat) (w:List (List V)) (B:Bool) (y d:Nat):St.new ⟨g,m,p,w,B,y⟩ d=(!(p.contains d)&&(bh m d).isNone && !(uB d g) && !(r_ d m)):=rfl
theorem q9 (d:Nat):uB d []=false:=rfl
theorem pW (d n:Nat) (x:SV) (r:Tb SV):uB d ((n,x)::r)=(SV.cR d x||uB d r):=rfl
theorem qY (d:Nat):r_ d []=false:=rfl
theorem pT (d n:Nat) (x:bG) (r:Tb bG):r_ d ((n,x)::r)=(bG.cR d x||r_ d r):=rfl
theorem wZ (d:Nat) (x:V):SV.cR d (.v x)=false:=rfl
theorem sP (d e:Nat):SV.cR d (.own e)=(e==d):=rfl
theorem s6 (d e o:Nat):SV.cR d (.ptr e o)=(e==d):=rfl
theorem uS (d e i o:Nat):SV.cR d (.el e i o)=(e==d):=rfl
theorem uW (d e:Nat):SV.cR d (.mp e)=(e==d):=rfl
theorem sN (d:Nat) (f:FuncId) (a b:List SV):SV.cR d (.clo f a b)=(SV.dz d a||SV.dz d b):=rfl
theorem sS (d:Nat) (l:List SV):SV.cR d (.tup l)=SV.dz d l:=rfl
theorem rE (d:Nat):SV.dz d []=false:=rfl
theorem pQ (d:Nat) (x:SV) (r:List SV):SV.dz d (x::r)=(SV.cR d x||SV.dz d r):=rfl
theorem rq (d:Nat) (cs:List SV):bG.cR d (.box cs)=SV.dz d cs:=rfl
theorem EC (m:Tb bG) (n:Nat):cV m n []=some []:=by cases n <;> simp[cV]
theorem BT (m:Tb bG) (n:Nat) (x:SV) (r:List SV):cV m n (x::r)=(shut m n x).bind λy=>(cV m n r).bind λs=>some (y::s):=by
 cases n <;> (simp[cV];cases shut m _ x <;> (try rfl) <;> (cases cV m _ r <;> rfl))
theorem TS (m:Tb bG) (n:Nat) (x:V):shut m n (.v x)=some x:=by cases n <;> simp[shut]
def K3 (o:Option bG):Option V:=
 match o with
 | some (.sl k es u)=>some (nO k es u)
 | _=>none
theorem NI (m:Tb bG) (n d:Nat):shut m n (.own d)=K3 (bh m d):=by
 cases n <;> (simp[shut,K3];rfl)
theorem OL {α:Type} [bB α] (s:Sl α):K3 (some (cF s))=some (b8 s):=rfl
theorem OT (m:Tb bG) (n:Nat) (f:FuncId) (a b:List SV):shut m (n+1) (.clo f a b)=(cV m n a).bind λx=>(cV m n b).bind λy=>some (.clo f x y):=by
 simp[shut];cases cV m n a <;> (try rfl) <;> (cases cV m n b <;> rfl)
theorem Oz (m:Tb bG) (n:Nat) (l:List SV):shut m (n+1) (.tup l)=(cV m n l).bind λx=>some (.tup x):=by
 simp[shut];cases cV m n l <;> rfl
theorem Py (m:Tb bG) (n:Nat) (l:List SV):shut m (n+1) (.agg l)=(cV m n l).bind λx=>some (.agg x):=by
 simp[shut];cases cV m n l <;> rfl
theorem s_ {α:Type} (n:Nat):eo n ([]:Tb α)=[]:=rfl
theorem q_ {α:Type} (n k:Nat) (x:α) (r:Tb α):eo n ((k,x)::r)=if k=n then eo n r else(k,x)::eo n r:=rfl
theorem mapM_nil (f:List SV->List SV):mapM f []=[]:=rfl
section
variable {N:Nat->FuncId} {m:Tb bG}
theorem Sq:result []=.tup []:=rfl
theorem Q_ (x:V):result [x]=x:=rfl
theorem R_ (x y:V) (l:List V):result (x::y::l)=.tup (x::y::l):=rfl
theorem GV (p:uz) (a:V):jy N m p [.v a]=(bn N p [a]).bind λx=>some (.v x):=IN N m p _ [a] rfl
theorem yh (p:uz) (a b:V):jy N m p [.v a,.v b]=(bn N p [a,b]).bind λx=>some (.v x):=IN N m p _ [a,b] rfl
theorem pn (l:List V):dw (l.map .v)=some l:=by
 induction l with
 | nil=>rfl
 | cons a l u=>simp only[List.map_cons,dw,u];rfl
theorem tR (n:Nat) (l:List V):cV m n (l.map .v)=some l:=by
 induction l with
 | nil=>exact EC m n
 | cons a l u=>rw[List.map_cons,BT,TS,u];rfl
theorem Sl.Qk {α:Type} (l:List α):(Sl.row l).l=l:=rfl
theorem MH (cs:List V):kz cs [] []=some cs:=rfl
theorem JD (cs:List V) (off size:Nat) (pl:List (Nat×Nat)) (v:V) (vs:List V):kz cs ((off,size)::pl) (v::vs) =
 if v.cells.length=size/\off+v.cells.length<=cs.length then kz (cs.take off++v.cells++cs.drop (off+v.cells.length)) pl vs else none:=by
 simp only[kz]
 by_cases h:v.cells.length=size <;> by_cases u:off+v.cells.length<=cs.length
 .rw[if_neg (by simp[h];omega),if_pos ⟨h,u⟩]
 .rw[if_pos (by simp[h];omega),if_neg (λq=>u q.2)]
 .rw[if_pos (by simp[h]),if_neg (λq=>h q.1)]
 rw[if_pos (by simp[h]),if_neg (λq=>h q.1)]
theorem L6 (k:IntKind) (n:Int):V.cells (.int k n)=[.int k n]:=rfl
theorem Iw (n:Bool):V.cells (.bool n)=[.bool n]:=rfl
theorem MD (n:ByteArray):V.cells (.str n)=[.str n]:=rfl
theorem Ni:V.cells .bK=[.bK]:=rfl
theorem lT (k:IntKind) (n:Int):V.one (.int k n)=true:=rfl
theorem kg (n:Bool):V.one (.bool n)=true:=rfl
theorem lK (n:ByteArray):V.one (.str n)=true:=rfl
end
section
variable {S:Sys} {c:ck} {β γ δ:Type} {Q:Out×St->Option β} {L:Option β} {e:γ->Option β}
theorem M5 {dr:Bool} {fr:List Nat} {d:Option Nat} {gd:Option (Nat×Bool)} {now:Bool} {k:K} {az:List Arg} {st:St} (h:wanted st.g gd=some true) :
 fK S c dr fr ⟨d,gd,now,k,az,[],[]⟩ st=fK S c dr fr ⟨d,none,now,k,az,[],[]⟩ st:=by
 unfold fK;rw[h];rfl
theorem Bz (dr:Bool) (st:St):Bs dr [] st=some st:=by cases dr <;> rfl
def nS (f:SV->Option V):List SV->Option (List V)
 | []=>some []
 | x::r=>(f x).bind λy=>(nS f r).bind λs=>some (y::s)
def jb (m:Tb bG):Nat->SV->Option V
 | 0,x=>match x with
  | .v y=>some y
  | .own d=>match bh m d with
   | some (.sl k es xs)=>some (nO k es xs)
   | _=>none
  | .mp d=>match bh m d with
   | some (.mp B)=>some (.fmap B)
   | _=>none
  | _=>none
 | n+1,x=>match x with
  | .v y=>some y
  | .own d=>match bh m d with
   | some (.sl k es xs)=>some (nO k es xs)
   | _=>none
  | .ptr d o=>match bh m d with
   | some (.box cs)=>match nS (jb m n) cs with
    | some xs=>if o<=xs.length then some (.fptr (xs.drop o))else none
    | none=>none
   | _=>none
  | .mp d=>match bh m d with
   | some (.mp B)=>some (.fmap B)
   | _=>none
  | .clo f a b=>(nS (jb m n) a).bind λx=>(nS (jb m n) b).bind λy=>some (.clo f x y)
  | .tup l=>(nS (jb m n) l).bind λx=>some (.tup x)
  | .agg l=>(nS (jb m n) l).bind λx=>some (.agg x)
  | _=>none
theorem Ar (m:Tb bG):∀(n:Nat),(∀x,shut m n x=jb m n x)/\∀l,cV m n l=nS (jb m n) l:=by
 have w:∀n,(∀x,shut m n x=jb m n x)->∀l,cV m n l=nS (jb m n) l:=by
  intro n h l
  induction l with
  | nil=>exact EC m n
  | cons a l u=>rw[BT,h a,u];rfl
 intro n
 induction n with
 | zero=>
  have h0:∀x,shut m 0 x=jb m 0 x:=by
   intro x;cases x <;> simp[shut,jb] <;> rfl
  grind
 | succ n u=>
  have h1:∀x,shut m (n+1) x=jb m (n+1) x:=by
   intro x
   cases x with
   | ptr d o=>simp[shut,jb,u.2];rfl
   | clo f a b=>rw[OT,u.2,u.2];rfl
   | tup l=>rw[Oz,u.2];rfl
   | agg l=>rw[Py,u.2];rfl
   | _=>simp[shut,jb] <;> rfl
  grind
noncomputable def uu (S:Sys) (c:ck) (dr:Bool):List Nat->List RO->(St->Option β)->St->Option β
 | _,[],k,st=>k st
 | fr,o::r,k,st=>((Bs dr o.pre st).bind (fK S c dr fr o.strip)).bind λst'=>uu S c dr (if dr then qj fr o.strip else fr) r k (oL o.dead st')
theorem Dz (dr:Bool):∀(l:List RO) (fr:List Nat) (k:St->Option β) (st:St),uu S c dr fr l k st=(mM S c dr fr l st).bind k
 | [],_,_,_=>rfl
 | o::r,fr,k,st=>by
  simp[uu,mM]
  cases (Bs dr o.pre st).bind (fK S c dr fr o.strip)with
  | none=>rfl
  | some st'=>exact Dz dr r _ k _
noncomputable def oU (S:Sys) (c:ck):RC->(St->Option β)->(Nat->St->Option β)->(St->Option β)->St->Option β
 | .skip,n,_,_,st=>n st
 | .ops l,n,_,_,st=>uu S c false [] l n st
 | .oQ l,n,_,_,st=>uu S c true [] l n st
 | .seq a b,n,x,r,st=>oU S c a (λst=>oU S c b n x r st) x r st
 | .cond y a b,n,x,r,st=>match qh S.N st.g y with
  | some (.v (.bool t))=>br t (oU S c a n x r st) (oU S c b n x r st)
  | _=>none
 | .block id a,n,x,r,st=>oU S c a n (λk st=>if k=id then n st else x k st) r st
 | .loop a,n,x,r,st=>(nZ (cH S c a) st).bind λq=>match q with|(.norm,st)=>n st|(.exit k,st)=>x k st|(.ret,st)=>r st
 | .each g ps a b,n,x,r,st=>(cH S c (.each g ps a b) st).bind λq=>match q with|(.norm,st)=>n st|(.exit k,st)=>x k st|(.ret,st)=>r st
 | .exit k,_,x,_,st=>x k st
 | .ret,_,_,r,st=>r st
 | .gh g a,n,x,r,st=>(ghost g st).bind λst=>oU S c a n x r st
 | .hg a g,n,x,r,st=>oU S c a (λst=>(ghost g st).bind n) x r st
def DC (n:St->Option β) (x:Nat->St->Option β) (r:St->Option β):Out×St->Option β
 | (.norm,st)=>n st
 | (.exit k,st)=>x k st
 | (.ret,st)=>r st
theorem Cg:∀(rc:RC) (n:St->Option β) (x:Nat->St->Option β) (r:St->Option β) (st:St),oU S c rc n x r st=(cH S c rc st).bind (DC n x r):=by
 intro rc
 induction rc with
 | skip=>intros;rfl
 | ops l=>intro n x r st;simp[oU,cH,Dz];cases mM S c false [] l st <;> rfl
 | oQ l=>intro n x r st;simp[oU,cH,Dz];cases mM S c true [] l st <;> rfl
 | seq a b u w=>
  intro n x r st;simp[oU,cH,u,w]
  cases h:cH S c a st with
  | none=>rfl
  | some q=>obtain⟨o,st'⟩:=q;cases o <;> rfl
 | cond y a b u w=>
  intro n x r st;simp[oU,cH,u,w]
  cases qh S.N st.g y with
  | none=>rfl
  | some v=>cases v with
   | v z=>cases z with
    | bool t=>cases t <;> rfl
    | _=>rfl
   | _=>rfl
 | block id a B=>
  intro n x r st;simp[oU,cH,B]
  cases h:cH S c a st with
  | none=>rfl
  | some q=>
   obtain⟨o,st'⟩:=q
   cases o with
   | exit k=>simp[DC];split <;> rfl
   | _=>rfl
 | loop a B=>
  intro n x r st;rfl
 | each g ps a b u w=>
  intro n x r st;rfl
 | exit k=>intros;rfl
 | ret=>intros;rfl
 | gh g a B=>
  simp[oU,cH,B]
  grind
 | hg a g B=>
  intro n x r st;simp[oU,cH,B]
  cases h:cH S c a st with
  | none=>rfl
  | some q=>
   obtain⟨o,st'⟩:=q
   cases o with
   | norm=>simp[DC];cases ghost g st' <;> rfl
   | _=>rfl
section
variable (S c Q)
mutual
noncomputable def mC:List Fm->St->Option β
 | []=>λst=>Q (.norm,st)
 | .seq b::fs=>λst=>oU S c b (mC fs) (mF fs) (λst=>Q (.ret,st)) st
 | .blk _::fs=>mC fs
 | .gst g::fs=>λst=>(ghost g st).bind (mC fs)
noncomputable def mF:List Fm->Nat->St->Option β
 | []=>λk st=>Q (.exit k,st)
 | .seq _::fs=>mF fs
 | .blk id::fs=>λk st=>if k=id then mC fs st else mF fs k st
 | .gst _::fs=>mF fs
end
noncomputable def kj (rc:RC) (fs:List Fm) (st:St):Option β:=oU S c rc (mC S c Q fs) (mF S c Q fs) (λst=>Q (.ret,st)) st
end
section
variable {dr:Bool} {fr:List Nat} {d:Nat} {dst:Option Nat} {now:Bool} {az:List Arg} {st:St} {α:Type} [bB α]
theorem Qj {p:uz} {svs:List SV} {m:Option δ} {v:δ->SV} (B:bY S.N st.g az=some svs) (D:isSlice p=false) (h:jy S.N st.m p svs=m.bind λx=>some (v x)) :
 fK S c dr fr ⟨dst,none,now,.p p,az,[],[]⟩ st=m.bind λx=>some (dg st dst (v x)):=by
 rw[Qy _ _ _ _ _ _ _ D,B]
 grind
theorem Bl {p:uz} {svs:List SV} {v:SV} (B:bY S.N st.g az=some svs) (D:isSlice p=false) (h:jy S.N st.m p svs=some v) :
 fK S c dr fr ⟨dst,none,now,.p p,az,[],[]⟩ st=some (dg st dst v):=by
 rw[Qy _ _ _ _ _ _ _ D,B]
 grind
theorem Qu {n:Nat} {s:Sl α} {k:IntKind} {i:Int} (B:bY S.N st.g az=some [.v (b8 s),.v (.int k i)]) (D:n=bB.size α) :
 fK S c dr fr ⟨dst,none,now,.p (.idxS n),az,[],[]⟩ st=(idx s i).bind λx=>some (dg st dst (.v (.fptr (cells x)))):=
 Qj B rfl (by rw[yh,DJ s k i n D];grind)
theorem UQ {n e:Nat} {s:Sl α} {k:IntKind} {i:Int} (B:bY S.N st.g az=some [.own e,.v (.int k i)]) (D:bh st.m e=some (cF s)) (G:n=bB.size α) :
 fK S c dr fr ⟨dst,none,now,.p (.idxS n),az,[],[]⟩ st=(s.mj i).bind λj=>some (dg st dst (.el e j 0)):=
 Qj B rfl (by rw[Rg,D,RY n e s i G])
theorem Qo {s:Sl α} (B:bY S.N st.g az=some [.v (b8 s)]):fK S c dr fr ⟨dst,none,now,.p .lenSl,az,[],[]⟩ st=some (dg st dst (.v (.int .i64 s.l.length))):=
 Bl B rfl (by rw[GV,xV];rfl)
theorem S_ {e:Nat} {s:Sl α} (B:bY S.N st.g az=some [.own e]) (D:bh st.m e=some (cF s)):fK S c dr fr ⟨dst,none,now,.p .lenSl,az,[],[]⟩ st=some (dg st dst (.v (.int .i64 s.l.length))):=
 Bl B rfl (by rw[Om,D,R7])
theorem Q2 {u:Option Nat} {s:Sl α} (B:bY S.N st.g az=some [.v (b8 s),.v .bK]):fK S c dr fr ⟨dst,none,now,.p (.bin (some .slice) u .eql),az,[],[]⟩ st=s.isNil.bind λt=>some (dg st dst (.v (.bool t))):=
 Qj B rfl (by rw[yh,Pa];grind)
theorem NX {s:ByteArray} {k:IntKind} {n:Int} (B:bY S.N st.g az=some [.v (.str s),.v (.int k n)]):fK S c dr fr ⟨dst,none,now,.p .idxStr,az,[],[]⟩ st=(kK s n).bind λx=>some (dg st dst (.v (.int .u8 x))):=
 Qj B rfl (by rw[yh,Mh];grind)
theorem Tu {n e i o:Nat} {a:Bool} {s:Sl α} {v:α->V} (B:bY S.N st.g az=some [.el e i o]) (D:(!dr||now||eM fr [.el e i o])=true) (G:bh st.m e=some (cF s)) (hv:∀x:α,(cut (cells x) o n).bind (mk a)=some (v x)) :
 fK S c dr fr ⟨dst,none,now,.r (.load n a),az,[],[]⟩ st=(s.get i).bind λx=>some (dg st dst (.v (v x))):=by
 rw[xM,B];simp only[ζb,D,Vc,G,Lx]
 cases s.get i with
 | none=>rfl
 | some x=>
  cases hc:cut (cells x) o n with
  | none=>grind
  | some r=>grind
theorem Sz {n e i:Nat} {s:Sl α} {x:V} {a:α} (B:bY S.N st.g az=some [.el e i 0,.v x]) (D:(!dr||now)=true) (G:bh st.m e=some (cF s)) (J:x.cells=cells a) (O:n=bB.size α) :
 fK S c dr fr ⟨dst,none,now,.l (.store n),az,[],[]⟩ st=(s.put i a).bind λU=>some (dg { st with m:=bM st.m e (cF U) } dst (.v .undef)):=by
 rw[uC,B];simp[D,Lh,G];rw[JL st.g st.pin st.want st.more st.yid e i n x a J O s]
 grind
theorem TM {n:Nat} {z:α} {zero:List V} {i:Int} (B:bY S.N st.g az=some [.v (.int .i64 i),.v (.int .i64 i)]) (D:zero=cells z) (G:n=bB.size α) (J:st.new d=true) :
 fK S c dr fr ⟨some d,none,now,.a (.makeSl n zero),az,[],[]⟩ st=(mP i z).bind λs=>some { st with g:=bM st.g d (.own d),m:=bM st.m d (cF s) }:=by
 rw[vF,B];simp[J];rw[U5 z i d n zero D G]
 grind
theorem Vw {n e u:Nat} {s:Sl α} {x:α} (G:bY S.N st.g az=some [.own e,.own u]) (J:(!dr||now)=true) (O:bh st.m e=some (cF s)) (hu:bh st.m u=some (cF (.row [x]))) (B:n=bB.size α) (U:St.new { st with m:=eo e st.m } d=true) :
 fK S c dr fr ⟨some d,none,now,.l (.append n),az,[],[]⟩ st=(gw s x).bind λD=>some { st with g:=bM st.g d (.own d),m:=bM (eo e st.m) d (cF D) }:=by
 rw[uC,G];simp[J,zZ,DA,O,hu];rw[Am n s B,Am n (.row [x]) B];have:=Ll (m:=st.m) st.g st.pin st.want st.more st.yid d n e s.l x B;simp[Sl.Qk];rw[this];have w:gw (.row s.l) x=gw s x:=by cases s <;> rfl
 rw[w]
 cases gw s x with
 | none=>rfl
 | some D=>
  simp;rw[if_pos U];rfl
theorem Tp {n u:Nat} {x:α} {v:V} (hv:v=.bK\/v=.dD) (G:bY S.N st.g az=some [.v v,.own u]) (J:(!dr||now)=true) (hu:bh st.m u=some (cF (.row [x]))) (B:n=bB.size α) (D:st.new d=true) :
 fK S c dr fr ⟨some d,none,now,.l (.append n),az,[],[]⟩ st=some { st with g:=bM st.g d (.own d),m:=bM st.m d (cF (.row [x])) }:=by
 rw[uC,G];simp[J,zZ,DA,hu];rw[Am n (.row [x]) B];simp[Sl.Qk];rcases hv with rfl|rfl
 .rw[Rk,MC (m:=st.m) st.g st.pin st.want st.more st.yid d n x B];rw[if_pos D];rfl
 rw[QO,MW (m:=st.m) st.g st.pin st.want st.more st.yid d n x B];rw[if_pos D];rfl
theorem Tq {f:FuncId} {svs args:List SV} {cs:List V} {m:Option δ} {E:δ->List V} (hc:mV c f cs=m.bind λr=>some (E r)) (hk:S.E.keep f=false) (D:bY S.N st.g az=some svs) (G:ni svs=some (f,args))
 (B:nS (jb st.m 8) args=some cs) (J:((!dr||now)||fe st.m fr args)=true) (hr:∀r,((result (E r)).scalar||(dw args).isSome)=true) :
 fK S c dr fr ⟨dst,none,now,.c,az,[],[]⟩ st=m.bind λr=>some (dg st dst (.v (result (E r)))):=by
 rw[An dr fr dst now az st svs f args D G,RJ _ _ _ _ _ _ _ hk,(Ar st.m 8).2,B];simp[J,hc]
 cases m with
 | none=>rfl
 | some r=>
  simp[Lz]
  grind
end
end
section
variable {S:Sys} {c:ck} {β γ:Type} {Q:Out×St->Option β} {L:Option β} {e:γ->Option β}
theorem pV (rc:RC) (st:St):kj S c Q rc [] st=(cH S c rc st).bind Q:=by
 unfold kj;rw[Cg]
 congr 1
 funext q;obtain⟨o,st⟩:=q
 cases o <;> rfl
theorem AE (rc:RC) (st:St):cH S c rc st=kj S c some rc [] st:=by
 rw[pV];cases cH S c rc st <;> rfl
def qU (rs:List RV):Out×St->Option (List V)
 | (.exit _,_)=>none
 | (_,st)=>(kP st rs).bind (nS (jb st.m 8))
theorem QY (rs:List RV):G0 rs=qU rs:=by
 funext q;obtain⟨o,st⟩:=q
 cases o
 .simp only[G0,qU];congr 1;funext l;exact(Ar st.m 8).2 l
 .rfl
 simp only[G0,qU];congr 1;funext l;exact(Ar st.m 8).2 l
theorem Sc {S:Sys} {T:pI} {f:FuncId} {rf:RF} (B:T f=some rf) (az:List V) (D:az.length<=rf.na):mV (c_ S T) f az=kj S (c_ S T) (qU rf.rs) rf.body [] (start (az.map .v) []):=by
 rw[NV B az D,<-GN,pV,QY]
end
def nT {α σ ε ρ:Type} (step:α->σ->Option (Fw σ ε ρ)):List α->σ->Option (Fw σ ε ρ)
 | [],s=>some (.n s)
 | x::xs,s=>(step x s).bind λw=>match w with
  | .n B=>nT step xs B
  | .x e=>some (.x e)
  | .r b=>some (.r b)
def Fw.vL {ν ε ρ γ:Type} (fn:ν->γ) (B:ε->γ) (fr:ρ->γ):Fw ν ε ρ->γ
 | .n a=>fn a
 | .x e=>B e
 | .r b=>fr b
def Fw.vt {ν ε ρ:Type} (B:ν->Tb bG) (eε:ε->Nat×Tb bG) (eρ:ρ->Tb bG):Fw ν ε ρ->Out×Tb bG
 | .n a=>(.norm,B a)
 | .x e=>(.exit (eε e).1,(eε e).2)
 | .r b=>(.ret,eρ b)
def vt (q:Out×St):Option (Out×Tb bG):=some (q.1,q.2.m)
section
variable {S:Sys} {c:ck} {β γ:Type} {Q:Out×St->Option β} {L:Option β} {e:γ->Option β}
noncomputable def xP (S:Sys) (c:ck) (b:RC):Out×St->Option (Out×Tb bG)
 | (.norm,st)=>kj S c vt b [] st
 | _=>none
theorem KU (ps:List Nat) (a b:RC) (st:St) (x:List V) (m:Tb bG) (B:x.length=ps.length) :
 iK ps (cH S c a) (cH S c b) st x m=kj S c (xP S c b) a [] ⟨vN st.g ps (x.map .v),m,st.pin++pz st.g,[],true,0⟩:=by
 unfold iK;rw[if_pos B,pV]
 cases cH S c a ⟨vN st.g ps (x.map .v),m,st.pin++pz st.g,[],true,0⟩with
 | none=>rfl
 | some q=>
  obtain⟨o,u⟩:=q
  cases o with
  | norm=>
   simp only[ζb,xP];rw[pV];cases cH S c b u <;> rfl
  | _=>rfl
end
def Le {α:Type} (a b:Option α):Prop:=∀r,a=some r->b=some r
section
variable {α:Type}
theorem Le.refl (a:Option α):Le a a:=λ_ h=>h
theorem Le.of_eq {a b:Option α} (h:b=a):Le a b:=λ_ u=>h.trans u
theorem Le.trans {a b d:Option α} (h1:Le a b) (B:Le b d):Le a d:=λr h=>B r (h1 r h)
theorem Le.none (b:Option α):Le (none:Option α) b:=λr h=>by cases h
theorem Le.bind {β:Type} {a b:Option α} {f g:α->Option β} (h:Le a b) (B:∀x,Le (f x) (g x)):Le (a.bind f) (b.bind g):=λr hr=>by
 obtain⟨x,h1,u⟩:=ζg.1 hr;rw[h x h1];exact B x r u
end
section
variable {S:Sys} {c:ck} {β γ δ:Type} {Q:Out×St->Option β} {L:Option β} {e:γ->Option β}
theorem FT {dr:Bool} {fr:List Nat} {dst:Option Nat} {now:Bool} {az:List Arg} {st:St} {f:FuncId} {svs args:List SV} {cs:List V} {m:Option δ} {E:δ->List V} (hc:Le (m.bind λr=>some (E r)) (mV c f cs)) (hk:S.E.keep f=false) (D:bY S.N st.g az=some svs) (G:ni svs=some (f,args))
 (B:nS (jb st.m 8) args=some cs) (J:((!dr||now)||fe st.m fr args)=true) (hr:∀r,((result (E r)).scalar||(dw args).isSome)=true) :
 Le (m.bind λr=>some (dg st dst (.v (result (E r))))) (fK S c dr fr ⟨dst,none,now,.c,az,[],[]⟩ st):=by
 intro q w;obtain⟨r,h1,z⟩:=ζg.1 w;have u:mV c f cs=(some r).bind λr=>some (E r):=hc _ (by rw[h1];rfl)
 rw[Tq (m:=some r) u hk D G B J hr];exact z
theorem Pn {σ ε ρ:Type} {f:St->Option (Out×St)} {step:σ->Option (Fw σ ε ρ)} {eσ:σ->St} {eε:ε->Nat×St} {eρ:ρ->St} (h:∀s,Le ((step s).bind λw=>some (Fw.out eσ eε eρ w)) (f (eσ s))) (s:σ) :
 Le ((bR step s).bind λw=>some (Fw.out (λe=>Empty.elim e) eε eρ w)) (nZ f (eσ s)):=by
 have key:∀k s r,jt step k s=some r->jc f k (eσ s)=some (Fw.out (λe=>Empty.elim e) eε eρ r):=by
  intro k
  induction k with
  | zero=>intro s r h;simp[jt]at h
  | succ k C=>
   intro s r u;simp only[jt]at u
   cases z:step s with
   | none=>rw[z]at u;cases u
   | some w=>
    rw[z]at u;have B:=h s (Fw.out eσ eε eρ w) (by rw[z];rfl)
    simp only[jc,B]
    cases w with
    | n a=>exact C a r u
    | x e=>cases u;rfl
    | r b=>cases u;rfl
 intro r hr;obtain⟨w,h1,B⟩:=ζg.1 hr;obtain⟨k,hk⟩:=nR.1 h1;cases B;exact mH.2 ⟨k,key k s w hk⟩
theorem Vj {σ ε ρ:Type} {a:RC} {fs:List Fm} {step:σ->Option (Fw σ ε ρ)} {eσ:σ->St} {eε:ε->Nat×St} {eρ:ρ->St} {s:σ} {B:ε->Option γ} {fr:ρ->Option γ}
 (D:L=kj S c Q (.loop a) fs (eσ s)) (h:∀s,Le ((step s).bind λw=>some (Fw.out eσ eε eρ w)) (kj S c some a [] (eσ s)))
 (G:∀x,Le ((B x).bind e) (mF S c Q fs (eε x).1 (eε x).2)) (hr:∀b,Le ((fr b).bind e) (Q (.ret,eρ b))):Le (((bR step s).bind (Fw.elim B fr)).bind e) L:=by
 subst D;have h1:kj S c Q (.loop a) fs (eσ s)=(nZ (cH S c a) (eσ s)).bind (DC (mC S c Q fs) (mF S c Q fs) (λst=>Q (.ret,st))):=by
  unfold kj;rw[Cg];rfl
 rw[h1];have u:=Pn (step:=step) (f:=cH S c a) (eσ:=eσ) (eε:=eε) (eρ:=eρ) (λs=>by rw[AE];exact h s) s
 cases z:bR step s with
 | none=>exact Le.none _
 | some w=>
  have C:=u _ (by rw[z];rfl)
  rw[C]
  cases w with
  | n a=>cases a
  | x a=>exact G a
  | r a=>exact hr a
theorem FY {α σ ε ρ:Type} {f:List V->Tb bG->Option (Out×Tb bG)} {step:α->σ->Option (Fw σ ε ρ)} {eI:α->List V} {eσ:σ->Tb bG} {eε:ε->Nat×Tb bG} {eρ:ρ->Tb bG}
 (h:∀x s,Le ((step x s).bind λw=>some (Fw.vt eσ eε eρ w)) (f (eI x) (eσ s))):∀(xs:List α) (s:σ),Le ((nT step xs s).bind λw=>some (Fw.vt eσ eε eρ w)) (pX f (xs.map eI) (eσ s))
 | [],s=>λr hr=>hr
 | x::xs,s=>by
  simp only[List.map_cons,pX,nT]
  cases B:step x s with
  | none=>exact Le.none _
  | some w=>
   have D:=h x s (Fw.vt eσ eε eρ w) (by rw[B];rfl)
   rw[D]
   cases w with
   | n u=>simp only[ζb,Fw.vt];exact FY h xs u
   | x e=>exact Le.refl _
   | r b=>exact Le.refl _
theorem VG {α σ ε ρ:Type} {g:Arg} {ps:List Nat} {a b:RC} {fs:List Fm} {f:FuncId} {x y:List V} {items:List α} {eI:α->List V} {step:α->σ->Option (Fw σ ε ρ)} {eσ:σ->Tb bG} {eε:ε->Nat×Tb bG} {eρ:ρ->Tb bG} {gt:Tb SV} {s:σ}
 {fn:σ->Option γ} {B:ε->Option γ} {fr:ρ->Option γ}
 (D:L=kj S c Q (.each g ps a b) fs ⟨gt,eσ s,[],[],true,0⟩) (hg:qh S.N gt g=some (.v (.clo f x y))) (G:S.items f x y=some (items.map eI)) (J:∀x,(eI x).length=ps.length)
 (h:∀x s,Le ((step x s).bind λw=>some (Fw.vt eσ eε eρ w)) (kj S c (xP S c b) a [] ⟨vN gt ps ((eI x).map .v),eσ s,pz gt,[],true,0⟩))
 (O:∀s,Le ((fn s).bind e) (mC S c Q fs ⟨gt,eσ s,[],[],true,0⟩))
 (U:∀x,Le ((B x).bind e) (mF S c Q fs (eε x).1 ⟨gt,(eε x).2,[],[],true,0⟩)) (hr:∀b,Le ((fr b).bind e) (Q (.ret,⟨gt,eρ b,[],[],true,0⟩))) :
 Le (((nT step items s).bind (Fw.vL fn B fr)).bind e) L:=by
 subst D;have h1:kj S c Q (.each g ps a b) fs ⟨gt,eσ s,[],[],true,0⟩=(cH S c (.each g ps a b) ⟨gt,eσ s,[],[],true,0⟩).bind (DC (mC S c Q fs) (mF S c Q fs) (λst=>Q (.ret,st))):=by
  unfold kj;rw[Cg]
 rw[h1];simp only[cH,hg,G];have u:=FY (step:=step) (f:=iK ps (cH S c a) (cH S c b) ⟨gt,eσ s,[],[],true,0⟩) (eI:=eI) (eσ:=eσ) (eε:=eε) (eρ:=eρ) (λx s=>by rw[KU _ _ _ _ _ _ (J x)];exact h x s) items s
 cases z:nT step items s with
 | none=>exact Le.none _
 | some w=>
  have C:=u _ (by rw[z];rfl)
  rw[C]
  cases w with
  | n a=>exact O a
  | x a=>exact U a
  | r a=>exact hr a
end
inductive Fo where
 | rc (c:RC)
 | ops (dr:Bool) (fr:List Nat) (l:List RO)
 | nx
 | ex (k:Nat)
 | rt
abbrev bF (g:Tb SV) (m:Tb bG):St:=⟨g,m,[],[],true,0⟩
section
variable (S:Sys) (c:ck) {β:Type} (Q:Out×St->Option β)
noncomputable def rn:Fo->List Fm->St->Option β
 | .rc a,fs,st=>kj S c Q a fs st
 | .ops dr fr l,fs,st=>uu S c dr fr l (mC S c Q fs) st
 | .nx,fs,st=>mC S c Q fs st
 | .ex k,fs,st=>mF S c Q fs k st
 | .rt,_,st=>Q (.ret,st)
noncomputable def xE:Fo->List Fm->St->Option (Fo×List Fm×St)
 | .rc .skip,fs,st=>some (.nx,fs,st)
 | .rc (.ops l),fs,st=>some (.ops false [] l,fs,st)
 | .rc (.oQ l),fs,st=>some (.ops true [] l,fs,st)
 | .rc (.seq a b),fs,st=>some (.rc a,.seq b::fs,st)
 | .rc (.cond y a b),fs,st=>match qh S.N st.g y with
  | some (.v (.bool true))=>some (.rc a,fs,st)
  | some (.v (.bool false))=>some (.rc b,fs,st)
  | _=>none
 | .rc (.block id a),fs,st=>some (.rc a,.blk id::fs,st)
 | .rc (.exit k),fs,st=>some (.ex k,fs,st)
 | .rc .ret,fs,st=>some (.rt,fs,st)
 | .rc (.gh g a),fs,st=>match ghost g st with
  | some st'=>some (.rc a,fs,st')
  | none=>none
 | .rc (.hg a g),fs,st=>some (.rc a,.gst g::fs,st)
 | .rc (.loop _),_,_=>none
 | .rc (.each ..),_,_=>none
 | .ops _ _ [],fs,st=>some (.nx,fs,st)
 | .ops dr fr (⟨d,gd,now,k,az,dd,[]⟩::r),fs,st=>match fK S c dr fr ⟨d,gd,now,k,az,[],[]⟩ st with
  | some st'=>some (.ops dr (if dr then qj fr ⟨d,gd,now,k,az,[],[]⟩else fr) r,fs,oL dd st')
  | none=>none
 | .ops dr fr (⟨d,gd,now,k,az,dd,x::xs⟩::r),fs,st=>if dr && !(zi x&&xs.all zi)then none else match ghost x st with
  | some st'=>some (.ops dr fr (⟨d,gd,now,k,az,dd,xs⟩::r),fs,st')
  | none=>none
 | .nx,.seq b::fs,st=>some (.rc b,fs,st)
 | .nx,.blk _::fs,st=>some (.nx,fs,st)
 | .nx,.gst g::fs,st=>match ghost g st with
  | some st'=>some (.nx,fs,st')
  | none=>none
 | .nx,[],_=>none
 | .ex k,.seq _::fs,st=>some (.ex k,fs,st)
 | .ex k,.blk id::fs,st=>some (if k=id then .nx else .ex k,fs,st)
 | .ex k,.gst _::fs,st=>some (.ex k,fs,st)
 | .ex _,[],_=>none
 | .rt,_,_=>none
noncomputable def gQ:Nat->Fo->List Fm->St->Option (Fo×List Fm×St)
 | 0,fo,fs,st=>some (fo,fs,st)
 | n+1,fo,fs,st=>match xE S c fo fs st with
  | some (fo',fs',st')=>gQ n fo' fs' st'
  | none=>none
end
section
variable {S:Sys} {c:ck} {β γ δ:Type} {Q:Out×St->Option β} {e:γ->Option β}
theorem NP {fo fo':Fo} {fs fs':List Fm} {st st':St} (h:xE S c fo fs st=some (fo',fs',st')):rn S c Q fo fs st=rn S c Q fo' fs' st':=by
 cases fo with
 | rc a=>
  cases a with
  | cond y a b=>
   simp only[xE]at h;split at h
   next u=>cases h;simp only[rn,kj,oU,u,br,if_true]
   next u=>cases h;simp only[rn,kj,oU,u,br];rfl
   cases h
  | gh g a=>
   simp only[xE]at h;split at h
   next u=>cases h;simp only[rn,kj,oU,u,ζb]
   cases h
  | loop a=>cases h
  | each g ps a b=>cases h
  | seq a b=>cases h;simp only[rn,kj,oU,mC,mF]
  | block id a=>cases h;simp only[rn,kj,oU,mC,mF]
  | hg a g=>cases h;simp only[rn,kj,oU,mC,mF]
  | _=>cases h;simp only[rn,kj,oU]
 | ops dr fr l=>
  cases l with
  | nil=>cases h;simp only[rn,uu]
  | cons o r=>
   obtain⟨d,gd,now,k,az,dd,pre⟩:=o
   cases pre with
   | nil=>
    simp only[xE]at h;split at h
    next u=>cases h;simp only[rn,uu,Bz,RO.strip,ζb,u]
    cases h
   | cons x z=>
    simp only[xE]at h;split at h
    .cases h
    rename_i w;split at h
    .rename_i u;cases h
     cases dr with
     | true=>
      simp only[Bool.true_and,Bool.not_eq_true',Bool.not_eq_false,ζh]at w;simp only[rn,uu,RO.strip,Bs,ot,if_true,List.all_cons,w.1,w.2,Bool.and_self,u,ζb]
     | false=>simp only[rn,uu,RO.strip,Bs,ot,Bool.false_eq_true,if_false,u,ζb]
    cases h
 | nx=>
  cases fs with
  | nil=>cases h
  | cons f fs=>
   cases f with
   | seq b=>cases h;simp only[rn,kj,mC]
   | blk id=>cases h;simp only[rn,mC]
   | gst g=>
    simp only[xE]at h;split at h
    next u=>cases h;simp only[rn,mC,u,ζb]
    cases h
 | ex k=>
  cases fs with
  | nil=>cases h
  | cons f fs=>
   cases f with
   | seq b=>cases h;simp only[rn,mF]
   | blk id=>
    cases h;simp only[rn,mF]
    by_cases hk:k=id
    .simp only[if_pos hk,rn]
    simp only[if_neg hk,rn]
   | gst g=>cases h;simp only[rn,mF]
 | rt=>cases h
theorem om:∀{n:Nat} {fo fo':Fo} {fs fs':List Fm} {st st':St},gQ S c n fo fs st=some (fo',fs',st')->rn S c Q fo fs st=rn S c Q fo' fs' st'
 | 0,fo,fo',fs,fs',st,st',h=>by cases h;rfl
 | n+1,fo,fo',fs,fs',st,st',h=>by
  simp only[gQ]at h;split at h
  next a b d B=>rw[NP B];exact om h
  cases h
theorem Dg {n:Nat} {fo fo':Fo} {fs fs':List Fm} {st st':St} {m:Option β} (h:gQ S c n fo fs st=some (fo',fs',st')) (B:Le m (rn S c Q fo' fs' st')):Le m (rn S c Q fo fs st):=by
 rw[om h];exact B
theorem Wc {n:Nat} {fo fo':Fo} {fs fs':List Fm} {st st':St} {r:γ} (h:gQ S c n fo fs st=some (fo',fs',st')) (B:rn S c Q fo' fs' st'=e r):Le ((some r).bind e) (rn S c Q fo fs st):=by
 rw[om h];exact Le.of_eq B
theorem PS {m:Option δ} {f:δ->Option γ} {L:Option β} (k:δ->Option β) (B:Le (m.bind k) L) (h1:∀r,Le ((f r).bind e) (k r)):Le ((m.bind f).bind e) L:=by
 intro r hr
 cases m with
 | none=>cases hr
 | some x=>exact B r (h1 x r hr)
theorem Wh {n:Nat} {fo:Fo} {fs fs':List Fm} {st0:St} {dr:Bool} {q l:List RO} {fr:List Nat} {st:St} {d:Option Nat} {gd:Option (Nat×Bool)} {now:Bool} {k:K} {az:List Arg} {dd:List Nat} {m:Option δ} {g:δ->St} {f:δ->Option γ}
 (B:gQ S c n fo fs st0=some (.ops dr fr q,fs',st)) (D:q=⟨d,gd,now,k,az,dd,[]⟩::l) (hg:wanted st.g gd=some true)
 (G:Le (m.bind λx=>some (g x)) (fK S c dr fr ⟨d,none,now,k,az,[],[]⟩ st))
 (h:∀x,m=some x->Le ((f x).bind e) (rn S c Q (.ops dr (if dr then qj fr ⟨d,gd,now,k,az,[],[]⟩else fr) l) fs' (oL dd (g x)))):Le ((m.bind f).bind e) (rn S c Q fo fs st0):=by
 rw[om B];subst D;simp only[rn,uu,RO.strip,Bz,ζb];rw[M5 hg]
 cases m with
 | none=>exact Le.none _
 | some x=>rw[G (g x) rfl];exact h x rfl
theorem P6 {n:Nat} {fo:Fo} {fs fs':List Fm} {st0:St} {dr:Bool} {q l:List RO} {fr:List Nat} {st st':St} {d:Option Nat} {gd:Option (Nat×Bool)} {now:Bool} {k:K} {az:List Arg} {dd:List Nat} {m:Option β}
 (B:gQ S c n fo fs st0=some (.ops dr fr q,fs',st)) (D:q=⟨d,gd,now,k,az,dd,[]⟩::l) (hg:wanted st.g gd=some true)
 (G:fK S c dr fr ⟨d,none,now,k,az,[],[]⟩ st=some st')
 (h:Le m (rn S c Q (.ops dr (if dr then qj fr ⟨d,gd,now,k,az,[],[]⟩else fr) l) fs' (oL dd st'))):Le m (rn S c Q fo fs st0):=by
 rw[om B];subst D;simp only[rn,uu,RO.strip,Bz,ζb];rw[M5 hg,G];exact h
theorem MR {n:Nat} {fo:Fo} {B:List Fm} {st:St} {σ ε ρ:Type} {a:RC} {fs:List Fm} {step:σ->Option (Fw σ ε ρ)} {eσ:σ->St} {eε:ε->Nat×St} {eρ:ρ->St} {s:σ} {D:ε->Option γ} {fr:ρ->Option γ}
 (G:gQ S c n fo B st=some (.rc (.loop a),fs,eσ s)) (h:∀s,Le ((step s).bind λw=>some (Fw.out eσ eε eρ w)) (rn S c some (.rc a) [] (eσ s)))
 (J:∀x,Le ((D x).bind e) (rn S c Q (.ex (eε x).1) fs (eε x).2)) (hr:∀b,Le ((fr b).bind e) (Q (.ret,eρ b))):Le (((bR step s).bind (Fw.elim D fr)).bind e) (rn S c Q fo B st):=by
 rw[om G];exact Vj (L:=rn S c Q (.rc (.loop a)) fs (eσ s)) rfl h J hr
theorem Uq {n:Nat} {fo:Fo} {B:List Fm} {st:St} {α σ ε ρ:Type} {g:Arg} {ps:List Nat} {a b:RC} {fs:List Fm} {f:FuncId} {x y:List V} {items:List α} {eI:α->List V} {step:α->σ->Option (Fw σ ε ρ)} {eσ:σ->Tb bG} {eε:ε->Nat×Tb bG} {eρ:ρ->Tb bG} {gt:Tb SV} {s:σ}
 {fn:σ->Option γ} {D:ε->Option γ} {fr:ρ->Option γ}
 (G:gQ S c n fo B st=some (.rc (.each g ps a b),fs,bF gt (eσ s))) (hg:qh S.N gt g=some (.v (.clo f x y))) (J:S.items f x y=some (items.map eI)) (O:∀x,(eI x).length=ps.length)
 (h:∀x s,Le ((step x s).bind λw=>some (Fw.vt eσ eε eρ w)) (rn S c (xP S c b) (.rc a) [] ⟨vN gt ps ((eI x).map .v),eσ s,pz gt,[],true,0⟩))
 (U:∀s,Le ((fn s).bind e) (rn S c Q .nx fs (bF gt (eσ s))))
 (W:∀x,Le ((D x).bind e) (rn S c Q (.ex (eε x).1) fs (bF gt (eε x).2))) (hr:∀b,Le ((fr b).bind e) (Q (.ret,bF gt (eρ b)))) :
 Le (((nT step items s).bind (Fw.vL fn D fr)).bind e) (rn S c Q fo B st):=by
 rw[om G];exact VG (L:=rn S c Q (.rc (.each g ps a b)) fs (bF gt (eσ s))) rfl hg J O h U W hr
theorem Ut {b:RC} {st st':St} {m:Option (Out×Tb bG)} {fs:List Fm} {n:Nat} {fo:Fo} (h:gQ S c n fo fs st=some (.nx,[],st')) (B:Le m (rn S c vt (.rc b) [] st')):Le m (rn S c (xP S c b) fo fs st):=by
 rw[om h];exact B
theorem U6 {α:Type} {n:Nat} {fo fo':Fo} {fs fs':List Fm} {st:St} {A:Option α->St} {o:Option α} {f:α->Option γ} (h:gQ S c n fo fs st=some (fo',fs',A o))
 (B:∀x,o=some x->Le ((f x).bind e) (rn S c Q fo' fs' (A (some x)))):Le ((o.bind f).bind e) (rn S c Q fo fs st):=by
 rw[om h]
 cases o with
 | none=>exact Le.none _
 | some x=>exact B x rfl
theorem Ws {T:pI} {f:FuncId} {rf:RF} {az:List V} {m:Option (List V)} (B:T f=some rf) (D:az.length<=rf.na) (h:Le m (rn S (c_ S T) (qU rf.rs) (.rc rf.body) [] (start (az.map .v) []))):Le m (mV (c_ S T) f az):=by
 rw[Sc B az D];exact h
end
section
variable {α:Type} [bB α]
abbrev cv (x:α):SV:=.v (enc x)
abbrev cp (x:α):SV:=.v (.fptr (cells x))
abbrev bx (x:α):bG:=.box ((cells x).map .v)
end
structure kB (S:Sys) (c:ck) {α δ:Type} (fn:FuncId) (A:α->List V) (E:δ->List V) (p:α->Option δ) (sc:Bool):Prop where
 k:S.E.keep fn=false
 h:∀z,Le ((p z).bind λr=>some (E r)) (mV c fn (A z))
 s:sc=true->∀r,(result (E r)).scalar=true
section
variable {S:Sys} {c:ck} {β γ δ α:Type} {Q:Out×St->Option β} {e:γ->Option β} {fo:Fo} {fs:List Fm} {st0:St} {l:List RO} {d:Option Nat} {gd:Option (Nat×Bool)} {now:Bool} {az:List Arg} {dd:List Nat}
noncomputable abbrev rz (S:Sys) (c:ck) (Q:Out×St->Option β) (dr:Bool) (fr:List Nat) (d:Option Nat) (k:K) (l:List RO) (fs:List Fm) (dd:List Nat) (st:St):Option β:=
 rn S c Q (.ops dr (if dr then(match k with|.p _|.r _=>fr|_=>match d with|some d=>d::fr|none=>fr)else fr) l) fs (oL dd st)
theorem D4 (fr:List Nat) (k:K):qj fr ⟨d,gd,now,k,az,[],[]⟩=(match k with|.p _|.r _=>fr|_=>match d with|some d=>d::fr|none=>fr):=by
 cases k <;> cases d <;> rfl
theorem BG {n:Nat} {dr:Bool} {fr:List Nat} {q:List RO} {fs':List Fm} {st:St} {k:K} {m:Option δ} {g:δ->St} {f:δ->Option γ}
 (B:gQ S c n fo fs st0=some (.ops dr fr q,fs',st)) (D:q=⟨d,gd,now,k,az,dd,[]⟩::l) (hg:wanted st.g gd=some true)
 (G:Le (m.bind λx=>some (g x)) (fK S c dr fr ⟨d,none,now,k,az,[],[]⟩ st))
 (h:∀x,m=some x->Le ((f x).bind e) (rz S c Q dr fr d k l fs' dd (g x))):Le ((m.bind f).bind e) (rn S c Q fo fs st0):=
 Wh B D hg G (λx u=>by rw[D4];grind)
theorem qe {n:Nat} {dr:Bool} {fr:List Nat} {q:List RO} {fs':List Fm} {st st':St} {k:K} {m:Option β}
 (B:gQ S c n fo fs st0=some (.ops dr fr q,fs',st)) (D:q=⟨d,gd,now,k,az,dd,[]⟩::l) (hg:wanted st.g gd=some true)
 (G:fK S c dr fr ⟨d,none,now,k,az,[],[]⟩ st=some st') (h:Le m (rz S c Q dr fr d k l fs' dd st')):Le m (rn S c Q fo fs st0):=
 P6 B D hg G (by rw[D4];omega)
section
variable [bB α]
theorem Od (n:Nat) (dr:Bool) (fr:List Nat) (q:List RO) (fs':List Fm) (st:St) (k:IntKind) {sz:Nat} {s:Sl α} {i:Int} {f:α->Option γ} (D:q=⟨d,gd,now,.p (.idxS sz),az,dd,[]⟩::l)
 (B:(gQ S c n fo fs st0,wanted st.g gd,bY S.N st.g az,sz)=(some (.ops dr fr q,fs',st),some true,some [.v (b8 s),.v (.int k i)],bB.size α))
 (h:∀x,idx s i=some x->Le ((f x).bind e) (rz S c Q dr fr d (.p (.idxS sz)) l fs' dd (dg st d (cp x)))):Le (((idx s i).bind f).bind e) (rn S c Q fo fs st0):=by
 simp  at B;exact BG B.1 D B.2.1 (Le.of_eq (Qu B.2.2.1 B.2.2.2)) h
theorem TW (n:Nat) (dr:Bool) (fr:List Nat) (q:List RO) (fs':List Fm) (st:St) (s:Sl α) {m:Option β} (D:q=⟨d,gd,now,.p .lenSl,az,dd,[]⟩::l)
 (B:(gQ S c n fo fs st0,wanted st.g gd,bY S.N st.g az)=(some (.ops dr fr q,fs',st),some true,some [.v (b8 s)]))
 (h:Le m (rz S c Q dr fr d (.p .lenSl) l fs' dd (dg st d (.v (.int .i64 s.l.length))))):Le m (rn S c Q fo fs st0):=by
 simp  at B;exact qe B.1 D B.2.1 (Qo B.2.2) h
end
section
variable {q:List RO} {fs':List Fm}
end
theorem Gf (m:Tb bG) (n:Nat) (l:List V):nS (jb m n) (l.map .v)=some l:=by rw[<-(Ar m n).2,tR]
variable {A:α->List V} {E:δ->List V} {p:α->Option δ} {fn:FuncId} {sc:Bool}
end
abbrev iv (n:Int):SV:=.v (.int .i64 n)
abbrev bv (b:Bool):SV:=.v (.bool b)
abbrev len {α:Type} (s:Sl α):Int:=((List.length (Sl.l s):Nat):Int)
abbrev o1 (d:Nat) (a:Arg) (dd:List Nat):RO:=⟨some d,none,false,.p .id,[a],dd,[]⟩
abbrev o2 (d:Nat) (k:K) (az:List Arg) (dd:List Nat):RO:=⟨some d,none,false,k,az,dd,[]⟩
abbrev o3 (d s:Nat) (b:Bool) (k:K) (az:List Arg) (dd:List Nat):RO:=⟨some d,some (s,b),false,k,az,dd,[]⟩
def I6 (a b:aZ):Bool:=[a.proc,a.index]==[b.proc,b.index]
section
variable {α:Type} [bB α]
theorem vU (h:bB.agg α=false) (a:α):cells a=[enc a]:=by
 have u:(cells a).length=1:=by rw[show (cells a).length=_ from bB.len a,bB.plain h]
 unfold enc;rw[if_neg (by simp[h])]
 match hc:cells a,u with
 | [x],_=>rfl
theorem w6 (h:bB.agg α=true) (a:α):enc a=.agg (cells a):=by unfold enc;grind
theorem ig (a:α):V.good (enc a)=true:=by
 have h:V.cA (cells a)=true:=bB.good a
 cases u:bB.agg α with
 | true=>rw[w6 u];exact h
 | false=>
  rw[vU u]at h;simp[V.cA]at h;omega
theorem kR (s:Sl α):V.one (enc s)=true:=D7 s
theorem OP (s:α) (h:bB.agg α=false):V.one (enc s)=true:=by
 have:=bB.one s;rw[show bB.cells s=cells s from rfl,vU h]at this
 grind
end
instance {α:Type} [bB α]:bB (Option α) where
 cells o:=[match o with|none=>.gY|some x=>.fptr (cells x)]
 agg:=false
 size:=1
 len _:=rfl
 good o:=by
  cases o with
  | none=>rfl
  | some x=>simp only[V.cA,V.good,Bool.and_true];exact bB.good x
 one o:=by cases o <;> rfl
 plain _:=rfl
structure U8 where
 v:Int
 deriving Inhabited,DecidableEq
instance:bB U8 where
 cells n:=[.int .u8 n.v]
 agg:=false
 size:=1
 len _:=rfl
 good _:=rfl
 one _:=rfl
 plain _:=rfl
structure WA where
 v:Int
 deriving Inhabited,DecidableEq
instance:bB WA where
 cells n:=[.int .u64 n.v]
 agg:=false
 size:=1
 len _:=rfl
 good _:=rfl
 one _:=rfl
 plain _:=rfl
structure WU where
 v:Int
 deriving Inhabited,DecidableEq
instance:bB WU where
 cells n:=[.int .u32 n.v]
 agg:=false
 size:=1
 len _:=rfl
 good _:=rfl
 one _:=rfl
 plain _:=rfl
structure WC where
 v:Int
 deriving Inhabited,DecidableEq
instance:bB WC where
 cells n:=[.int .i32 n.v]
 agg:=false
 size:=1
 len _:=rfl
 good _:=rfl
 one _:=rfl
 plain _:=rfl
structure nN (S:Sys) (c:ck) {α δ:Type} (g:FuncId) (w e:List V) (A:α->List V) (R:δ->List V) (p:α->Option δ) (b:Bool):Prop where
 f:kB S c g (λz=>w++A z++e) R p b
section
variable {S:Sys} {c:ck} {β γ δ α:Type} {Q:Out×St->Option β} {e:γ->Option β} {fo:Fo} {fs:List Fm} {st0:St} {l:List RO} {d:Option Nat} {gd:Option (Nat×Bool)} {now:Bool} {az:List Arg} {dd:List Nat}
theorem kE {α:Type} [bB α] (a:α):V.cells (enc a)=cells a:=by
 cases u:bB.agg α with
 | true=>rw[w6 u];rfl
 | false=>
  have h1  := OP a u;rw[vU u];cases h:enc a <;> first|rfl|(rw[h]at h1;cases h1)
theorem ow {α:Type} [bB α] (a:α):(cells a).all V.one=true:=bB.one a
theorem eX {α:Type} [bB α] (a:α):(cells a).length=bB.size α:=bB.len a
theorem Ast [bB α] (n:Nat) (dr:Bool) (fr:List Nat) (q:List RO) (fs':List Fm) (st:St) (u o:Nat) (x:α) (cs B:List SV) {sz:Nat} {m:Option β} (G:q=⟨d,gd,now,.l (.store sz),az,dd,[]⟩::l)
 (D:(gQ S c n fo fs st0,wanted st.g gd,bY S.N st.g az,bh st.m u,(!dr||now),sz,Nat.ble (o+sz) cs.length,cs.take o++(cells x).map .v++cs.drop (o+sz))=(some (.ops dr fr q,fs',st),some true,some [.ptr u o,cv x],some (.box cs),true,bB.size α,true,B))
 (h:Le m (rz S c Q dr fr d (.l (.store sz)) l fs' dd (dg { st with m:=bM st.m u (.box B) } d (.v .undef)))):Le m (rn S c Q fo fs st0):=by
 simp only[ζc]at D;obtain⟨h1,w,z,C,I,J,L,O⟩:=D;refine qe h1 G w ?_ h;rw[uC,z];subst J;have T:=Nat.le_of_ble_eq_true L;simp only[ζb,I,if_true,mg,C,putCells,kE,eX,ow,T,and_self,O,Option.map_some]
theorem zy {α:Type} [bB α]:∀(xs:List α) (pre:List (List V)) (B:List (List V)),B.length=xs.length->gA (bB.size α) (pre++B) ((List.range' pre.length xs.length).zip (xs.map enc))=some (pre++rows xs)
 | [],pre,B,h=>by
  have  := List.eq_nil_of_length_eq_zero h;subst this;rfl
 | x::xs,pre,s::B,h=>by
  simp only[List.length_cons,List.range'_succ,List.map_cons,List.zip_cons_cons,gA,kE,eX,ow];have:=zy xs (pre++[cells x]) B Zd
  simp only[ζi,List.length_cons,List.length_nil]at this;have e:(pre++s::B).set pre.length (cells x)=pre++[cells x]++B:=by simp
  rw[e,this];simp[rows]
theorem WS [bB α] (n:Nat) (dr:Bool) (fr:List Nat) (q:List RO) (fs':List Fm) (st:St) (xs:List α) {u sz ln:Nat} {zero:List V} {ix:List Nat} {m:Option β} (D:q=⟨some u,gd,now,.a (.buildSl sz ln zero ix),az,dd,[]⟩::l)
 (G:st.new u=true) (B:(gQ S c n fo fs st0,wanted st.g gd,bY S.N st.g az,sz,ln,ix)=(some (.ops dr fr q,fs',st),some true,some ((xs.map enc).map .v),bB.size α,xs.length,List.range' 0 xs.length))
 (h:Le m (rz S c Q dr fr (some u) (.a (.buildSl sz ln zero ix)) l fs' dd { st with g:=bM st.g u (.own u),m:=bM st.m u (cF (.row xs)) })):Le m (rn S c Q fo fs st0):=by
 simp only[ζc]at B;obtain⟨h1,w,z,C,I,J⟩:=B;subst C I J;refine qe h1 D w ?_ h;rw[vF,z];simp only[ζb,G,mJ,pn,List.length_range',List.length_map];have:=zy xs [] (List.replicate xs.length zero) Zc
 simp  at this;rw[this];rfl
theorem V8 [bB α] (n:Nat) (dr:Bool) (fr:List Nat) (q:List RO) (fs':List Fm) (st:St) (x:α) (vs:List V) {z:List V} {pl:List (Nat×Nat)} {m:Option β} (D:q=⟨d,gd,now,.p (.build z pl),az,dd,[]⟩::l)
 (G:kz z pl vs=some (cells x)) (J:bB.agg α=true)
 (B:(gQ S c n fo fs st0,wanted st.g gd,bY S.N st.g az)=(some (.ops dr fr q,fs',st),some true,some (vs.map .v)))
 (h:Le m (rz S c Q dr fr d (.p (.build z pl)) l fs' dd (dg st d (cv x)))):Le m (rn S c Q fo fs st0):=by
 simp  at B;refine qe B.1 D B.2.1 (Bl B.2.2 rfl ?_) h;unfold jy;rw[pn];simp only[PM,G,Option.map_some];show some (SV.v (.agg (cells x)))=some (.v (enc x));rw[w6 J]
section
variable [bB α]
theorem V9 (n:Nat) (dr:Bool) (fr:List Nat) (q:List RO) (fs':List Fm) (st:St) (D G:Bool) (J:List V) {sz:Nat} {s:Sl α} {a b:Option Int} {f:Sl α->Option γ} (O:q=⟨d,gd,now,.p (.slice sz D G),az,dd,[]⟩::l)
 (B:(gQ S c n fo fs st0,wanted st.g gd,bY S.N st.g az,lB D G J,sz)=(some (.ops dr fr q,fs',st),some true,some (.v (b8 s)::J.map .v),some (a,b),bB.size α))
 (h:∀x,fS s a b=some x->Le ((f x).bind e) (rz S c Q dr fr d (.p (.slice sz D G)) l fs' dd (dg st d (.v (b8 x))))):Le (((fS s a b).bind f).bind e) (rn S c Q fo fs st0):=by
 simp  at B;refine BG B.1 O B.2.1 (Le.of_eq ?_) h;have w  := B.2.2.1;unfold fK mb;simp[wanted,fT,w];have u:jy S.N st.m (.slice sz D G) ((b8 s::J).map .v)=(fS s a b).bind λx=>some (.v (b8 x)):=by
  unfold jy;rw[pn];simp[bn,B.2.2.2.1,K7 s a b sz B.2.2.2.2];cases fS s a b <;> rfl
 simp  at u ⊢;rw[u];cases fS s a b <;> rfl
def oh (s:Sl α) (B D:Option Int):Option (Sl α):=
 match s with
 | .nil|.emp=>none
 | .row x|.part x=>(dU x.length B D).map λ(l,h)=>.part ((x.take h).drop l)
theorem Vk (n:Nat) (fr:List Nat) (q:List RO) (fs':List Fm) (st:St) (D G:Bool) (u:Nat) (J:List V) {t sz:Nat} {s:Sl α} {a b:Option Int} {f:Sl α->Option γ} (U:q=⟨some t,gd,now,.p (.slice sz D G),az,dd,[]⟩::l)
 (O:St.new { st with m:=eo u st.m } t=true) (B:(gQ S c n fo fs st0,wanted st.g gd,bY S.N st.g az,lB D G J,bh st.m u,sz)=(some (.ops false fr q,fs',st),some true,some (.own u::J.map .v),some (a,b),some (cF s),bB.size α))
 (h:∀x,oh s a b=some x->Le ((f x).bind e) (rz S c Q false fr (some t) (.p (.slice sz D G)) l fs' dd { st with g:=bM st.g t (.own t),m:=bM (eo u st.m) t (cF x) })):Le (((oh s a b).bind f).bind e) (rn S c Q fo fs st0):=by
 simp  at B;refine BG B.1 U B.2.1 (Le.of_eq ?_) h;obtain⟨_,_,z,w,C,I⟩:=B;subst I;unfold fK mb;simp[wanted,fT,z,zW,pn,C,w]
 cases s with
 | nil=>simp[oh,cF,Sl.k,cN]
 | emp=>simp[oh,cF,Sl.k,cN]
 | row x=>
  simp[cF,Sl.k,Sl.l,cN,oh,gn,w]
  cases dU x.length a b with
  | none=>rfl
  | some r=>simp[O,dg,rows,List.map_drop]
 | part x=>
  simp[cF,Sl.k,Sl.l,cN,oh,gn,w]
  cases dU x.length a b with
  | none=>rfl
  | some r=>simp[O,dg,rows,List.map_drop]
def uc (n:Int) (_z:α):Option (Sl α):=if 0<=n/\n<=2147483648 then some (if n=0 then .row []else .part [])else none
theorem Wt (n:Nat) (dr:Bool) (fr:List Nat) (q:List RO) (fs':List Fm) (st:St) {u:Nat} {sz:Nat} {zero:List V} {i:Int} {z:α} {f:Sl α->Option γ} (G:q=⟨some u,gd,now,.a (.makeSl sz zero),az,dd,[]⟩::l)
 (J:st.new u=true) (D:(gQ S c n fo fs st0,wanted st.g gd,bY S.N st.g az,sz)=(some (.ops dr fr q,fs',st),some true,some [.v (.int .i64 0),.v (.int .i64 i)],bB.size α))
 (h:∀B,uc i z=some B->Le ((f B).bind e) (rz S c Q dr fr (some u) (.a (.makeSl sz zero)) l fs' dd { st with g:=bM st.g u (.own u),m:=bM st.m u (cF B) })):Le (((uc i z).bind f).bind e) (rn S c Q fo fs st0):=by
 simp  at D;obtain⟨h1,C,I,L⟩:=D;subst L;refine BG h1 G C (Le.of_eq ?_) h;rw[vF,I];simp only[ζb,J,if_true,mJ,true_and,uc]
 by_cases w:0<=i/\i<=2147483648
 .rw[if_pos w,if_pos ⟨Int.le_refl 0,w⟩]
  by_cases h0:i=0
  .subst h0;rfl
  have:¬0=i:=λh=>h0 h.symm
  simp[if_neg h0,if_neg this];rfl
 grind
end
end
structure bW (n:Nat) (α:Type) where
 l:List α
 len:l.length=n
theorem Pu {α:Type} [bB α] (l:List α):(l.map (cells (α:=α))).flatten.length=l.length*bB.size α:=by
 induction l with
 | nil=>simp
 | cons a l u=>simp[u,eX,Nat.add_mul,Nat.add_comm]
theorem MY {α:Type} [bB α] (l:List α):V.cA (l.map (cells (α:=α))).flatten=true:=by
 induction l with
 | nil=>rfl
 | cons a l u=>
  have h:∀(x y:List V),V.cA x=true->V.cA y=true->V.cA (x++y)=true:=by
   intro x
   induction x with
   | nil=>grind
   | cons b x w=>intro y h1 z;simp[V.cA]at h1 ⊢;grind
  exact h _ _ (bB.good a) u
instance {n:Nat} {α:Type} [bB α]:bB (bW n α) where
 cells a:=(a.l.map cells).flatten
 agg:=true
 size:=n*bB.size α
 len a:=by rw[Pu,a.len]
 good a:=MY a.l
 one a:=by
  have:∀l:List α,(l.map (cells (α:=α))).flatten.all V.one=true:=by
   intro l
   induction l with
   | nil=>rfl
   | cons a l u=>simp only[List.map_cons,List.flatten_cons,List.all_append,u,ow,Bool.and_self]
  exact this a.l
 plain h:=by cases h
def bW.EN (n:Nat) {α:Type} (z:α):bW n α:=⟨List.replicate n z,by simp⟩
def bW.at {n:Nat} {α:Type} (a:bW n α) (i:Int):Option α:=if 0<=i then a.l[i.toNat]? else none
def bW.set {n:Nat} {α:Type} (a:bW n α) (i:Int) (x:α):bW n α:=⟨a.l.set i.toNat x,by simp[a.len]⟩
def pa {n:Nat} {α:Type} [bB α] (a:bW n α) (i:Int):List V:=(cells a).drop (i.toNat*bB.size α)
theorem bW.tD {n:Nat} {α:Type} {a:bW n α} {i:Int} {x:α} (h:a.at i=some x):0<=i/\i.toNat<n/\a.l[i.toNat]? = some x:=by
 unfold bW.at at h;split at h
 next u=>refine⟨u,?_,h⟩;have:=(ζe.1 h).1;rw[<-a.len];simp_all
 simp_all
theorem ET {α:Type} [bB α]:∀(l:List α) (k:Nat),((l.map (cells (α:=α))).flatten).drop (k*bB.size α)=((l.drop k).map (cells (α:=α))).flatten
 | [],k=>by simp
 | a::l,0=>by simp
 | a::l,k+1=>by
  have h  := eX a;rw[List.map_cons,List.flatten_cons,List.drop_succ_cons,<-ET l k,Nat.add_mul,Nat.one_mul,Nat.add_comm,<-h,List.drop_length_add_append]
theorem AG {n:Nat} {α:Type} [bB α] {a:bW n α} {i:Int} {x:α} (h:a.at i=some x):∃r,pa a i=cells x++r:=by
 obtain⟨h1,B,w⟩:=bW.tD h;obtain⟨u,z⟩:=ζe.1 w;refine⟨((a.l.drop (i.toNat+1)).map cells).flatten,?_⟩;show ((a.l.map (cells )).flatten).drop (i.toNat*bB.size α)=_;rw[ET,List.drop_eq_getElem_cons u,List.map_cons,List.flatten_cons,z]
section
variable {S:Sys} {c:ck} {β γ δ α:Type} {Q:Out×St->Option β} {e:γ->Option β} {fo:Fo} {fs:List Fm} {st0:St} {l:List RO} {d:Option Nat} {gd:Option (Nat×Bool)} {now:Bool} {az:List Arg} {dd:List Nat}
section
variable {N:Nat} [bB α]
theorem UM (n:Nat) (dr:Bool) (fr:List Nat) (q:List RO) (fs':List Fm) (st:St) (k:IntKind) {ln sz:Nat} {a:bW N α} {i:Int} {f:α->Option γ} (D:q=⟨d,gd,now,.p (.idxA ln sz),az,dd,[]⟩::l)
 (B:(gQ S c n fo fs st0,wanted st.g gd,bY S.N st.g az,sz,ln)=(some (.ops dr fr q,fs',st),some true,some [cp a,.v (.int k i)],bB.size α,N))
 (h:∀x,a.at i=some x->Le ((f x).bind e) (rz S c Q dr fr d (.p (.idxA ln sz)) l fs' dd (dg st d (.v (.fptr (pa a i)))))):Le (((a.at i).bind f).bind e) (rn S c Q fo fs st0):=by
 simp  at B;obtain⟨h1,w,z,C,G⟩:=B;subst C G;refine BG h1 D w ?_ h;intro r hr;obtain⟨x,I,hr⟩:=ζg.1 hr;obtain⟨g1,g2,_⟩:=bW.tD I;rw[Bl  z rfl ?_]
 .omega
 rw[yh];simp[bn,vS];have u:i.toNat*bB.size α<=(cells a).length:=by
  rw[eX];exact Nat.mul_le_mul_right _ (Nat.le_of_lt g2)
 rw[if_pos ⟨g1,by omega⟩,if_pos u]
 rfl
theorem Wo (n:Nat) (dr:Bool) (fr:List Nat) (q:List RO) (fs':List Fm) (st:St) (a:bW N α) (i:Int) (o:Nat) (x:α) (D:a.at i=some x) {k:Nat} {m:Option β} (G:q=⟨d,gd,now,.p (.fieldAddr k),az,dd,[]⟩::l)
 (B:(gQ S c n fo fs st0,wanted st.g gd,bY S.N st.g az,Nat.ble (o+k) (bB.size α))=(some (.ops dr fr q,fs',st),some true,some [.v (.fptr ((pa a i).drop o))],true))
 (h:Le m (rz S c Q dr fr d (.p (.fieldAddr k)) l fs' dd (dg st d (.v (.fptr ((pa a i).drop (o+k))))))):Le m (rn S c Q fo fs st0):=by
 simp only[ζc]at B;obtain⟨h1,u,w,z⟩:=B;refine qe h1 G u (Bl w rfl ?_) h;have C:=Nat.le_of_ble_eq_true z;obtain⟨r,hr⟩:=AG D;have I:(pa a i).length>=bB.size α:=by rw[hr,ζi,eX];omega
 rw[GV,FO,if_pos Zd,List.drop_drop]
 rfl
theorem U0 (n:Nat) (dr:Bool) (fr:List Nat) (q:List RO) (fs':List Fm) (st:St) (a:bW N α) (i:Int) (o:Nat) (x:α) (G:a.at i=some x) {sz:Nat} {ag:Bool} {v:V} (hv:(cut (cells x) o sz).bind (mk ag)=some v) (B:V) {m:Option β} (J:q=⟨d,gd,now,.r (.load sz ag),az,dd,[]⟩::l)
 (D:(gQ S c n fo fs st0,wanted st.g gd,bY S.N st.g az,v)=(some (.ops dr fr q,fs',st),some true,some [.v (.fptr ((pa a i).drop o))],B))
 (h:Le m (rz S c Q dr fr d (.r (.load sz ag)) l fs' dd (dg st d (.v B)))):Le m (rn S c Q fo fs st0):=by
 simp  at D;obtain⟨h1,z,C,rfl⟩:=D;refine qe h1 J z ?_ h;rw[xM,C];have hold:eM fr [SV.v (.fptr ((pa a i).drop o))]=true:=rfl;simp[hold,Ls];obtain⟨r,hr⟩:=AG G;rw[hr];have hc:cut ((cells x++r).drop o) 0 sz=cut (cells x) o sz:=by
  cases u:cut (cells x) o sz with
  | none=>grind
  | some w=>
   unfold cut at u ⊢;dsimp only at u ⊢;split at u
   .have e1:(List.drop 0 (List.drop o (cells x++r))).take sz=((cells x).drop o).take sz:=by
     have I:sz=0\/o<=(cells x).length:=by
      grind
     grind
    grind
   grind
 cases u:cut (cells x) o sz with
 | none=>grind
 | some w=>grind
theorem Up (n:Nat) (dr:Bool) (fr:List Nat) (q:List RO) (fs':List Fm) (st:St) (cs:List SV) {u sz:Nat} {zero:List V} {m:Option β} (D:q=⟨some u,gd,now,.a (.alloc sz zero),az,dd,[]⟩::l)
 (G:st.new u=true) (B:(gQ S c n fo fs st0,wanted st.g gd,bY S.N st.g az,zero.map SV.v)=(some (.ops dr fr q,fs',st),some true,some [],cs))
 (h:Le m (rz S c Q dr fr (some u) (.a (.alloc sz zero)) l fs' dd { st with g:=bM st.g u (.ptr u 0),m:=bM st.m u (.box cs) })):Le m (rn S c Q fo fs st0):=by
 simp  at B;obtain⟨h1,w,z,C⟩:=B;subst C;refine qe h1 D w ?_ h;rw[vF,z];simp[G,mJ]
theorem sO (d:Nat) (l:List V):SV.dz d (l.map .v)=false:=by
 induction l with
 | nil=>rfl
 | cons a l u=>simp[SV.dz,SV.cR,u]
theorem sL {α:Type} [bB α] (d:Nat) (x:α):bG.cR d (bx x)=false:=sO d (cells x)
theorem UX (n:Nat) (dr:Bool) (fr:List Nat) (q:List RO) (fs':List Fm) (st:St) (k:IntKind) (u:Nat) {ln sz:Nat} {a:bW N α} {i:Int} {f:α->Option γ} (D:q=⟨d,gd,now,.p (.idxA ln sz),az,dd,[]⟩::l)
 (B:(gQ S c n fo fs st0,wanted st.g gd,bY S.N st.g az,sz,ln,bh st.m u)=(some (.ops dr fr q,fs',st),some true,some [.ptr u 0,.v (.int k i)],bB.size α,N,some (bx a)))
 (h:∀x,a.at i=some x->Le ((f x).bind e) (rz S c Q dr fr d (.p (.idxA ln sz)) l fs' dd (dg st d (.ptr u (i.toNat*bB.size α+0))))):Le (((a.at i).bind f).bind e) (rn S c Q fo fs st0):=by
 simp  at B;obtain⟨h1,w,z,I,J,C⟩:=B;refine BG h1 D w ?_ h;intro r hr;obtain⟨x,G,hr⟩:=ζg.1 hr;obtain⟨g1,g2,_⟩:=bW.tD G;rw[Bl  z rfl ?_]
 .omega
 simp[jy,dw,vG,C]
 grind
theorem Oo {a:bW N α} {i:Int} {o:Nat} {x:α} (B:a.at i=some x) {sz:Nat} {ag:Bool} {v:V} (hv:(cut (cells x) o sz).bind (mk ag)=some v):tG sz ag ((((cells a).map SV.v).drop (i.toNat*bB.size α+o)).take sz)=some (.v v):=by
 obtain⟨r,hr⟩:=AG B;have e1:(((cells a).map SV.v).drop (i.toNat*bB.size α+o)).take sz=(((cells x).drop o).take sz).map SV.v:=by
  have u:((cells x).drop o).take sz=((cells x++r).drop o).take sz:=by
   cases hc:cut (cells x) o sz with
   | none=>grind
   | some w=>
    unfold cut at hc;dsimp only at hc;split at hc
    .have C:sz=0\/o<=(cells x).length:=by
      grind
     grind
    simp_all
  rw[u,<-hr,pa,List.drop_drop,List.map_take,List.map_drop]
 rw[e1];unfold tG
 cases hc:cut (cells x) o sz with
 | none=>grind
 | some w=>
  rw[hc]at hv;unfold cut at hc;dsimp only at hc;split at hc
  .rename_i z;cases hc;simp only[List.length_map,z];unfold mk at hv
   cases ag with
   | true=>
    simp only[if_true]at hv ⊢;cases hv;rw[pn]
   | false=>
    grind
  simp_all
theorem UI (n:Nat) (dr:Bool) (fr:List Nat) (q:List RO) (fs':List Fm) (st:St) (u:Nat) (a:bW N α) (i:Int) (o:Nat) (x:α) (G:a.at i=some x) {sz:Nat} {ag:Bool} {v:V} (hv:(cut (cells x) o sz).bind (mk ag)=some v) (B:V) {m:Option β} (J:q=⟨d,gd,now,.r (.load sz ag),az,dd,[]⟩::l)
 (D:(gQ S c n fo fs st0,wanted st.g gd,bY S.N st.g az,v,bh st.m u,(!dr||now||eM fr [.ptr u 0]))=(some (.ops dr fr q,fs',st),some true,some [.ptr u (i.toNat*bB.size α+o)],B,some (bx a),true))
 (h:Le m (rz S c Q dr fr d (.r (.load sz ag)) l fs' dd (dg st d (.v B)))):Le m (rn S c Q fo fs st0):=by
 simp only[ζc]at D;obtain⟨h1,w,z,rfl,C,I⟩:=D;refine qe h1 J w ?_ h;rw[xM,z];have hold:(!dr||now||eM fr [SV.ptr u (i.toNat*bB.size α+o)])=true:=I;simp only[ζb,hold,Wn,C,LA];rw[Oo G hv];rfl
theorem MV {N:Nat} (a:bW N α) (i:Int) (y:α) (h:i.toNat<N):cells (a.set i y)=(cells a).take (i.toNat*bB.size α)++cells y++(cells a).drop ((i.toNat+1)*bB.size α):=by
 have key:∀(l:List α) (k:Nat),k<l.length->((l.set k y).map (cells )).flatten=(l.map (cells )).flatten.take (k*bB.size α)++cells y++(l.map (cells )).flatten.drop ((k+1)*bB.size α):=by
  intro l
  induction l with
  | nil=>grind
  | cons b l u=>
   intro k h;have w  := eX b
   cases k with
   | zero=>
    grind
   | succ k=>
    simp only[List.map_cons,List.flatten_cons];have e1:(k+1)*bB.size α=(cells b).length+k*bB.size α:=by grind
    have e2:(k+1+1)*bB.size α=(cells b).length+(k+1)*bB.size α:=by grind
    rw[e2,List.drop_length_add_append]
    grind
 exact key a.l i.toNat (by rw[a.len];omega)
theorem Qc (n:Nat) (dr:Bool) (fr:List Nat) (q:List RO) (fs':List Fm) (st:St) (u:Nat) (a:bW N α) (i:Int) (o:Nat) (x:α) (B:a.at i=some x) (y:α) (v:V) {sz:Nat} (G:cells y=(cells x).take o++v.cells++(cells x).drop (o+sz)) {m:Option β} (J:q=⟨d,gd,now,.l (.store sz),az,dd,[]⟩::l)
 (D:(gQ S c n fo fs st0,wanted st.g gd,bY S.N st.g az,bh st.m u,(!dr||now),v.cells.length,v.cells.all V.one,Nat.ble (o+sz) (bB.size α))=(some (.ops dr fr q,fs',st),some true,some [.ptr u (i.toNat*bB.size α+o),.v v],some (bx a),true,sz,true,true))
 (h:Le m (rz S c Q dr fr d (.l (.store sz)) l fs' dd (dg { st with m:=bM st.m u (bx (a.set i y)) } d (.v .undef)))):Le m (rn S c Q fo fs st0):=by
 simp only[ζc]at D;obtain⟨h1,C,I,L,O,T,U,W⟩:=D;refine qe h1 J C ?_ h;rw[uC,I];have Y:=Nat.le_of_ble_eq_true W;obtain⟨g1,g2,g3⟩:=bW.tD B;have X:i.toNat*bB.size α+o+sz<=((cells a).map SV.v).length:=by
  rw[List.length_map,eX];have:(i.toNat+1)*bB.size α<=N*bB.size α:=Nat.mul_le_mul_right _ g2;rw[Nat.add_mul,Nat.one_mul]at this;show _<=N*bB.size α;omega
 simp only[ζb,O,if_true,mg,L,putCells,T,U,X,and_self,Option.map_some];obtain⟨r,hr⟩:=AG B;have e:((cells a).map SV.v).take (i.toNat*bB.size α+o)++v.cells.map .v++((cells a).map SV.v).drop (i.toNat*bB.size α+o+sz)=(cells (a.set i y)).map SV.v:=by
  rw[MV a i y g2,G];have w:(cells a).drop (i.toNat*bB.size α)=cells x++r:=hr;have z  := eX x;have e1:(cells a).take (i.toNat*bB.size α+o)=(cells a).take (i.toNat*bB.size α)++(cells x).take o:=by
   rw[List.take_add,w,List.take_append_of_le_length Za]
  have e2:(cells a).drop (i.toNat*bB.size α+o+sz)=(cells x).drop (o+sz)++(cells a).drop ((i.toNat+1)*bB.size α):=by
   have e3:(cells a).drop ((i.toNat+1)*bB.size α)=r:=by
    rw[Nat.add_mul,Nat.one_mul,<-List.drop_drop,w,<-z,List.drop_left]
   rw[e3,Nat.add_assoc,<-List.drop_drop,w,List.drop_append_of_le_length Za]
  rw[<-List.map_take,<-List.map_drop,e1,e2]
  grind
 rw[e]
end
theorem Sv {α:Type} [bB α] {m:Tb bG} {d:Nat} {x:α} {vs:List V} (h:bh m d=some (bx x)):nS (jb m 8) (.ptr d 0::vs.map .v)=some (.fptr (cells x)::vs):=by
 have h1:jb m 8 (.ptr d 0)=some (.fptr (cells x)):=by
  show (match bh m d with
   | some (.box w)=>match nS (jb m 7) w with
    | some u=>if 0<=u.length then some (V.fptr (u.drop 0))else none
    | none=>none
   | _=>none)=_
  rw[h];simp[Gf]
 simp[nS,h1,Gf]
theorem Vq (n:Nat) {fo:Fo} {fs fs':List Fm} {st0 st:St} {rs:List RV} {e:γ->Option (List V)} {r:γ} (svs:List SV) {ys:List V} (B:nS (jb st.m 8) svs=some ys) (h:(gQ S c n fo fs st0,kP st rs)=(some (.rt,fs',st),some svs)) (D:e r=some ys) :
 Le ((some r).bind e) (rn S c (qU rs) fo fs st0):=by
 simp  at h;rw[om h.1];refine Le.of_eq ?_;simp[rn,qU,h.2,B]
 grind
abbrev Mo (κ ν:Type):=List (κ×ν)
class Key (κ:Type) [bB κ] [DecidableEq κ] where
 kk:vu
 ok:∀a:κ,oZ kk (enc a)=true
 eq:∀a b:κ,vQ (enc a) (enc b)=some (decide (a=b))
instance:Key Int where
 kk:=.int .i64
 ok _:=rfl
 eq a b:=by
  show some (a==b)=some (decide (a=b));rw[show (a==b)=decide (a=b)from Bool.eq_iff_iff.2 Zc]
instance:Key aZ where
 kk:=.ints 2
 ok _:=rfl
 eq a b:=by
  obtain⟨p,i⟩:=a;obtain⟨q,j⟩:=b;simp only[vQ,kJ,iA,Uz,Option.map_some,List.length_cons,if_true,ζa];rw[Bool.eq_iff_iff];simp
section
variable {κ ν:Type} [bB κ] [DecidableEq κ] [Key κ] [bB ν]
def jL (k:κ):Mo κ ν->Option ν
 | []=>none
 | (a,v)::r=>if k=a then some v else jL k r
def iZ (m:Mo κ ν) (k:κ) (z:ν):ν:=(jL k m).getD z
def wk (m:Mo κ ν) (k:κ):Bool:=(jL k m).isSome
def kS (m:Mo κ ν) (k:κ) (v:ν):Mo κ ν:=
 match m with
 | []=>[(k,v)]
 | (a,w)::r=>if k=a then(k,v)::r else(a,w)::kS r k v
def mo (m:Mo κ ν):List (V×V):=m.map λx=>(enc x.1,enc x.2)
def iX (m:Mo κ ν):bG:=.mp (mo m)
theorem Av (k:κ):∀(m:Mo κ ν) (i:Nat),(gR (enc k) (mo m) i).map (Option.map (·.2))=some ((jL k m).map enc)
 | [],i=>rfl
 | (a,v)::r,i=>by
  simp only[mo,List.map_cons,gR,Key.eq,jL]
  by_cases h:k=a
  .grind
  simp only[h];exact Av k r (i+1)
theorem Nz (k:κ) (v:ν) (m:Mo κ ν):pK (enc k) (enc v) (mo m)=some (mo (kS m k v)):=by
 unfold pK;have key:∀(m:Mo κ ν) (pre:List (V×V)) (i:Nat),pre.length=i->(match gR (enc k) (mo m) i with
  | some (some (j,_))=>some ((pre++mo m).set j (enc k,enc v))
  | some none=>some (pre++mo m++[(enc k,enc v)])
  | none=>none)=some (pre++mo (kS m k v)):=by
  intro m
  induction m with
  | nil=>simp[mo,gR,kS]
  | cons x r u=>
   obtain⟨a,w⟩:=x;intro pre i h;rw[show mo ((a,w)::r)=(enc a,enc w)::mo r from rfl];simp[gR,Key.eq,kS]
   by_cases hk:k=a
   .subst hk h;simp[mo]
   simp[hk];rw[show mo ((a,w)::kS r k v)=(enc a,enc w)::mo (kS r k v)from rfl];have:=u (pre++[(enc a,enc w)]) (i+1) (by simp[h])
   grind
 have:=key m [] 0 rfl
 grind
theorem Vn (n:Nat) (dr:Bool) (fr:List Nat) (q:List RO) (fs':List Fm) (st:St) (u:Nat) (mp:Mo κ ν) (k:κ) (z:ν) {kk:vu} {B:V} {m:Option β} (G:q=⟨d,gd,now,.r (.lookup kk B false),az,dd,[]⟩::l)
 (D:(gQ S c n fo fs st0,wanted st.g gd,bY S.N st.g az,bh st.m u,(!dr||now||eM fr [.mp u,cv k]),B,kk)=(some (.ops dr fr q,fs',st),some true,some [.mp u,cv k],some (iX mp),true,enc z,Key.kk κ))
 (h:Le m (rz S c Q dr fr d (.r (.lookup kk B false)) l fs' dd (dg st d (cv (iZ mp k z))))):Le m (rn S c Q fo fs st0):=by
 simp only[ζc]at D;obtain⟨h1,C,I,J,L,O,T⟩:=D;subst O T;refine qe h1 G C ?_ h;rw[xM,I];simp only[ζb,L,mh,J,iX,Key.ok];have:=Av k mp 0;simp[iZ]
 cases U:gR (enc k) (mo mp) 0 with
 | none=>grind
 | some r=>
  rw[U]at this
  cases r with
  | none=>
   cases W:jL k mp with
   | none=>rfl
   | some w=>grind
  | some w=>
   cases W:jL k mp with
   | none=>grind
   | some X=>
    grind
theorem Uw (n:Nat) (dr:Bool) (fr:List Nat) (q:List RO) (fs':List Fm) (st:St) (u:Nat) (mp:Mo κ ν) (k:κ) (z:ν) {kk:vu} {B:V} {m:Option β} (G:q=⟨d,gd,now,.r (.lookup kk B true),az,dd,[]⟩::l)
 (D:(gQ S c n fo fs st0,wanted st.g gd,bY S.N st.g az,bh st.m u,(!dr||now||eM fr [.mp u,cv k]),B,kk)=(some (.ops dr fr q,fs',st),some true,some [.mp u,cv k],some (iX mp),true,enc z,Key.kk κ))
 (h:Le m (rz S c Q dr fr d (.r (.lookup kk B true)) l fs' dd (dg st d (.v (.tup [enc (iZ mp k z),.bool (wk mp k)]))))):Le m (rn S c Q fo fs st0):=by
 simp only[ζc]at D;obtain⟨h1,C,I,J,L,O,T⟩:=D;subst O T;refine qe h1 G C ?_ h;rw[xM,I];simp only[ζb,L,mh,J,iX,Key.ok];have:=Av k mp 0;simp[iZ,wk]
 cases U:gR (enc k) (mo mp) 0 with
 | none=>grind
 | some r=>
  rw[U]at this
  cases r with
  | none=>
   cases W:jL k mp with
   | none=>rfl
   | some w=>grind
  | some w=>
   cases W:jL k mp with
   | none=>grind
   | some X=>
    grind
theorem V6 (n:Nat) (dr:Bool) (fr:List Nat) (q:List RO) (fs':List Fm) (st:St) (u:Nat) (mp:Mo κ ν) (k:κ) (v:ν) {kk:vu} {m:Option β} (D:q=⟨d,gd,now,.l (.mapUp kk),az,dd,[]⟩::l)
 (B:(gQ S c n fo fs st0,wanted st.g gd,bY S.N st.g az,bh st.m u,(!dr||now),kk)=(some (.ops dr fr q,fs',st),some true,some [.mp u,cv k,cv v],some (iX mp),true,Key.kk κ))
 (h:Le m (rz S c Q dr fr d (.l (.mapUp kk)) l fs' dd (dg { st with m:=bM st.m u (iX (kS mp k v)) } d (.v .undef)))):Le m (rn S c Q fo fs st0):=by
 simp only[ζc]at B;obtain⟨h1,w,z,C,G,I⟩:=B;subst I;refine qe h1 D w ?_ h;rw[uC,z];simp[G,mg,C,iX,Key.ok,Nz]
end
end
instance {n:Nat}:OfNat Arg n:=⟨.s n⟩
abbrev bI (o:BinOp):K:=.p (.bin (some .int) none o)
abbrev ix (n:Nat):K:=.p (.idxS n)
abbrev ld (n:Nat):K:=.r (.load n false)
abbrev lD (n:Nat):K:=.r (.load n true)
abbrev fa (n:Nat):K:=.p (.fieldAddr n)
abbrev ln:K:=.p .lenSl
abbrev su (n:Nat):K:=.l (.store n)
abbrev Iv (n:Nat) (x:Int):Nat×SV:=(n,iv x)
abbrev Bv (n:Nat) (x:Bool):Nat×SV:=(n,bv x)
abbrev Cv {α:Type} [bB α] (n:Nat) (x:α):Nat×SV:=(n,cv x)
abbrev Kv {α:Type} [bB α] (n:Nat) (x:α):Nat×SV:=(n,cp x)
abbrev Pv (n:Nat):Nat×SV:=(n,.ptr n 0)
abbrev Ov (n:Nat):Nat×SV:=(n,.own (2000+n))
abbrev Xb {α:Type} [bB α] (n:Nat) (x:α):Nat×bG:=(n,bx x)
abbrev Lb {α:Type} [bB α] (n:Nat) (x:Sl α):Nat×bG:=(n,cF x)
abbrev on (d:Nat) (k:K) (az:List Arg) (dd:List Nat):RO:=⟨some d,none,true,k,az,dd,[]⟩
abbrev oz (k:K) (az:List Arg) (dd:List Nat):RO:=⟨none,none,false,k,az,dd,[]⟩
abbrev oy (k:K) (az:List Arg) (dd:List Nat):RO:=⟨none,none,true,k,az,dd,[]⟩
attribute [simp] Q_ R_ Sq
theorem kB.yB {S:Sys} {T:pI} {f:FuncId} {b:Bool} (B:T f=none) (hk:S.E.keep f=false) (D:S.yB f []=some (.bool b)) :
 kB S (c_ S T) f (λ_:Unit=>[]) (λr:Bool=>[.bool r]) (λ_=>some b) true where
 k:=hk
 h _:=by
  have h:=DW (az:=[]) B hk D;intro r hr;cases hr;unfold mV;rw[h];exact tR 8 [.bool b]
 s _ _:=rfl
def Wp {α:Type} (m:Option α) (P:α->Prop):Prop:=∃a,m=some a/\P a
section
variable {α β:Type} {P Q:α->Prop}
theorem a_ (a:α):Wp (some a) P↔P a:=⟨λh=>by obtain⟨b,e,p⟩:=h;cases e;exact p,λp=>⟨a,rfl,p⟩⟩
theorem Sr:Wp (none:Option α) P↔False:=⟨λh=>(by obtain⟨b,e,p⟩:=h;cases e),λh=>False.elim h⟩
theorem dJ {m:Option β} {k:β->Option α}:Wp (m.bind k) P↔Wp m λb=>Wp (k b) P:=by
 cases m with
 | none=>simp only[Option.bind_none,Sr]
 | some b=>simp only[ζb,a_]
theorem cn {t:Bool} {a b:Option α}:Wp (br t a b) P↔(t=true->Wp a P)/\(t=false->Wp b P):=by
 cases t <;> simp[br]
theorem Wp.mono {m:Option α} (h:Wp m P) (B:∀a,P a->Q a):Wp m Q:=let ⟨a,e,p⟩:=h;⟨a,e,B a p⟩
theorem Wp.and {m:Option α} (h:Wp m P) (B:Wp m Q):Wp m λa=>P a/\Q a:=by
 obtain⟨a,e,p⟩:=h;obtain⟨b,e2,q⟩:=B;rw[e]at e2;cases e2;exact⟨a,e,p,q⟩
theorem Wp.eq {m:Option α} {a:α} (h:Wp m λx=>x=a):m=some a:=by obtain⟨b,e,rfl⟩:=h;exact e
end
section
variable {σ ε ρ:Type}
theorem gX (step:σ->Option (Fw σ ε ρ)) (s:σ):bR step s=(step s).bind λw=>match w with
 | .n B=>bR step B
 | .x e=>some (.x e)
 | .r b=>some (.r b):=by
 have h1:∀r,bR step s=some r->((step s).bind λw=>match w with
  | .n B=>bR step B
  | .x e=>some (.x e)
  | .r b=>some (.r b))=some r:=by
  intro r h;obtain⟨k,hk⟩:=nR.1 h
  cases k with
  | zero=>simp[jt]at hk
  | succ k=>
   simp only[jt]at hk
   cases u:step s with
   | none=>rw[u]at hk;cases hk
   | some w=>
    rw[u]at hk
    cases w with
    | n B=>exact nR.2 ⟨k,hk⟩
    | x e=>exact hk
    | r b=>exact hk
 cases z:bR step s with
 | some r=>exact(h1 r z).symm
 | none=>
  cases hr:((step s).bind λw=>match w with
  | .n B=>bR step B
  | .x e=>some (.x e)
  | .r b=>some (.r b))with
  | none=>rfl
  | some r=>
   exfalso
   cases u:step s with
   | none=>rw[u]at hr;cases hr
   | some w=>
    rw[u]at hr;simp only[ζb]at hr;have:bR step s=some r:=by
     cases w with
     | n B=>
      obtain⟨k,hk⟩:=nR.1 hr;exact nR.2 ⟨k+1,by simp only[jt,u];exact hk⟩
     | x e=>exact nR.2 ⟨1,by simp only[jt,u];exact hr⟩
     | r b=>exact nR.2 ⟨1,by simp only[jt,u];exact hr⟩
    rw[z]at this;cases this
def P8 (I:σ->Prop) (μ:σ->Nat) (D:ε->Prop) (G:ρ->Prop) (s:σ):Fw σ ε ρ->Prop
 | .n B=>I B/\μ B<μ s
 | .x e=>D e
 | .r b=>G b
def V0 (B:ε->Prop) (D:ρ->Prop):Fw Empty ε ρ->Prop
 | .x e=>B e
 | .r b=>D b
theorem O1 {step:σ->Option (Fw σ ε ρ)} (I:σ->Prop) (μ:σ->Nat) (B:ε->Prop) (D:ρ->Prop) (h:∀s,I s->Wp (step s) (P8 I μ B D s)) {s:σ} (G:I s):Wp (bR step s) (V0 B D):=by
 have key:∀n s,μ s<=n->I s->Wp (bR step s) (V0 B D):=by
  intro n
  induction n with
  | zero=>
   intro s J u;obtain⟨w,z,hr⟩:=h s u;rw[gX,z]
   cases w with
   | n C=>exact absurd hr.2 Za
   | x e=>exact⟨_,rfl,hr⟩
   | r b=>exact⟨_,rfl,hr⟩
  | succ n L=>
   intro s J u;obtain⟨w,z,hr⟩:=h s u;rw[gX,z]
   cases w with
   | n C=>exact L C (by have:=hr.2;omega) hr.1
   | x e=>exact⟨_,rfl,hr⟩
   | r b=>exact⟨_,rfl,hr⟩
 exact key (μ s) s (Nat.le_refl _) G
theorem fR {γ:Type} {step:σ->Option (Fw σ ε ρ)} {B:ε->Option γ} {fr:ρ->Option γ} {P:γ->Prop} (I:σ->Prop) (μ:σ->Nat) {s:σ} (D:I s)
 (h:∀s,I s->Wp (step s) (P8 I μ (λe=>Wp (B e) P) (λb=>Wp (fr b) P) s)):Wp ((bR step s).bind (Fw.elim B fr)) P:=by
 rw[dJ];refine(O1 I μ _ _ h D).mono ?_;intro w u
 cases w with
 | n a=>cases a
 | x e=>exact u
 | r b=>exact u
end
theorem JR {β γ δ:Type} {e:γ->Option β} {m:Option δ} {f:δ->Option γ} {L:Option β} (h:∀x,m=some x->Le ((f x).bind e) L):Le ((m.bind f).bind e) L:=by
 cases m with
 | none=>exact Le.none _
 | some x=>exact h x rfl
section
variable {S:Sys} {c:ck} {β:Type} {Q:Out×St->Option β} {fo:Fo} {fs:List Fm} {st0:St} {l:List RO} {d:Option Nat} {now:Bool} {az:List Arg} {dd:List Nat}
theorem Le.get {β:Type} {r:β} {L:Option β} (h:Le (some r) L):L=some r:=h r rfl
theorem Kt {n:Nat} {fo fo':Fo} {fs fs':List Fm} {st:St} (A:Bool->St) {t:Bool} {m:Option β} (B:t=true) (h:gQ S c n fo fs st=some (fo',fs',A t)) (D:Le m (rn S c Q fo' fs' (A true))):Le m (rn S c Q fo fs st):=by
 rw[om h,B];exact D
theorem Kf {n:Nat} {fo fo':Fo} {fs fs':List Fm} {st:St} (A:Bool->St) {t:Bool} {m:Option β} (B:t=false) (h:gQ S c n fo fs st=some (fo',fs',A t)) (D:Le m (rn S c Q fo' fs' (A false))):Le m (rn S c Q fo fs st):=by
 rw[om h,B];exact D
theorem Po {α:Type} [bB α] {s:Sl α} {i:Int} {x:α} {r:β} {L:Option β} (B:idx s i=some x) (h:Le (((idx s i).bind λ_=>some r).bind some) L):Le (some r) L:=by
 rw[B]at h;exact h
theorem VL {n:Nat} {q:List RO} {fs':List Fm} {st:St} {id:Nat} {vs:List SV} {xs:List V} {B:List (List V)} {m:Option β}
 (D:gQ S c n fo fs st0=some (.ops false [] q,fs',st)) (G:q=⟨d,none,now,.c,az,dd,[]⟩::l) (J:bY S.N st.g az=some (.yl id::vs)) (O:dw vs=some xs) (U:st.want=xs::B) (W:id=st.yid)
 (h:Le m (rn S c Q (.ops false [] l) fs' (oL dd (dg { st with want:=B } d (.v (.bool (st.more || !B.isEmpty))))))):Le m (rn S c Q fo fs st0):=by
 refine P6 D G rfl ?_ h;unfold fK;simp only[wanted,fT,J,O,U,W,if_true,and_self,Bool.false_eq_true,if_false]
theorem AF (a:RC) (fs:List Fm) (st:St):rn S c Q (.rc (.loop a)) fs st=(nZ (cH S c a) st).bind (DC (mC S c Q fs) (mF S c Q fs) (λst=>Q (.ret,st))):=by
 show kj S c Q (.loop a) fs st=_;unfold kj;rw[Cg];rfl
theorem Rw {f:St->Option (Out×St)} {st st':St} (h:f st=some (.norm,st')):nZ f st=nZ f st':=by
 have key:∀r,nZ f st=some r↔nZ f st'=some r:=λr=>by
  constructor
  .intro hr;obtain⟨k,hk⟩:=mH.1 hr
   cases k with
   | zero=>simp[jc]at hk
   | succ k=>simp only[jc,h]at hk;exact mH.2 ⟨k,hk⟩
  intro hr;obtain⟨k,hk⟩:=mH.1 hr;exact mH.2 ⟨k+1,by simp only[jc,h];exact hk⟩
 cases u:nZ f st with
 | none=>
  cases w:nZ f st' with
  | none=>rfl
  | some r=>rw[(key r).2 w]at u;cases u
 | some r=>rw[(key r).1 u]
theorem I_ {f:St->Option (Out×St)} {st st':St} {o:Out} (h:f st=some (o,st')) (B:o≠.norm):nZ f st=some (o,st'):=by
 refine mH.2 ⟨1,?_⟩
 cases o with
 | norm=>exact absurd rfl B
 | exit k=>simp only[jc,h]
 | ret=>simp only[jc,h]
theorem Ed {a:RC} {fs:List Fm} {st st':St} (h:rn S c some (.rc a) [] st=some (.norm,st')):rn S c Q (.rc (.loop a)) fs st=rn S c Q (.rc (.loop a)) fs st':=by
 rw[AF,AF,Rw (by rw[AE];exact h)]
theorem DT {a:RC} {fs:List Fm} {st st':St} {k:Nat} (h:rn S c some (.rc a) [] st=some (.exit k,st')):rn S c Q (.rc (.loop a)) fs st=rn S c Q (.ex k) fs st':=by
 rw[AF,I_ (by rw[AE];exact h) Zc];rfl
theorem D9 {a:RC} {fs:List Fm} {st st':St} (h:rn S c some (.rc a) [] st=some (.ret,st')):rn S c Q (.rc (.loop a)) fs st=Q (.ret,st'):=by
 rw[AF,I_ (by rw[AE];exact h) Zc];rfl
end
def Qi:Out×St->Option Unit
 | (.exit _,_)=>none
 | (_,st)=>if st.want.isEmpty then some ()else none
def Sys.bare (S:Sys):Sys:=⟨S.E,S.N,λ_ _ _=>none,λ_ _=>none,λ_=>none⟩
def mY:ck:=λ_ _ _=>none
def Cb (B rest:List (List V)) (more:Bool):Prop:=more=true/\B=rest\/more=false/\B≠[]/\∃r,rest=B++r
theorem PF (S:Sys) {f:FuncId} {fi:FI} {nm:FuncId->Option Nat} {rf:RF} (G:S.E.ft f=some fi) (U:∀g s,nm g=some s->S.N s=g) (hr:xR S.E nm fi rf) {a b:List V} {xs:List (List V)} (D:a.length+1+b.length<=rf.na) (O:rf.rs=[])
 (h:∀B more,Cb B xs more->∀yid,rn S.bare mY Qi (.rc rf.body) [] ⟨wI 0 (a.map .v++.yl yid::b.map .v),[],[],B,more,yid⟩=some ()):fH S f a b xs:=by
 have k:fH S.bare f a b xs:=R5 (S:=S.bare) (c:=mY) (fi:=fi) (nm:=nm) (rf:=rf) (λ_ _ h=>by cases h) (λ_ _ _ _ _ h=>by simp[mY]at h) (λ_ _ _ _ h=>by simp[Sys.bare]at h) G U hr D O (λB more w yid=>by
  have h1:=h B more w yid;change kj S.bare mY Qi rf.body [] _=some ()at h1;rw[pV]at h1;obtain⟨⟨o,st'⟩,z,u⟩:=ζg.1 h1;refine⟨o,st',z,?_,?_,rfl⟩
  .rintro id rfl;simp[Qi]at u
  cases o <;> simp[Qi]at u <;> exact u)
 intro B more w yid J y Z C I H h1 z u L Q;exact k B more w yid J ⟨y.wL,y.yield⟩ Z C I H h1 z u L Q
open Classical in
noncomputable def wP (P:FuncId->List V->List V->List (List V)->Prop) (f:FuncId) (a b:List V):Option (List (List V)):=if h:∃u,P f a b u then some (Classical.choose h)else none
theorem Ko {P:FuncId->List V->List V->List (List V)->Prop} {f:FuncId} {a b:List V} {xs:List (List V)} (h:P f a b xs) (hu:∀ys,P f a b ys->ys=xs):wP P f a b=some xs:=by
 have h1:∃xs,P f a b xs:=⟨xs,h⟩;unfold wP;rw[dif_pos h1,hu _ (Classical.choose_spec h1)]
theorem Ld {P:FuncId->List V->List V->List (List V)->Prop} {f:FuncId} {a b:List V} {xs:List (List V)} (h:wP P f a b=some xs):P f a b xs:=by
 unfold wP at h;split at h
 next h1=>cases h;exact Classical.choose_spec h1
 cases h
theorem T8 {E:Env} {nm:FuncId->Option Nat} {f:FuncId} {rf:RF}
 (h:((E.ft f).bind λfi=>(bQ ⟨E,nm,fi.ntmps⟩ false fi.body).bind λc=>(fi.results.mapM (z8 E)).bind λrs=>some (c,rs,fi.ntmps))=some (erase rf.body,rf.rs,rf.na)):∃fi,E.ft f=some fi/\xR E nm fi rf:=by
 obtain⟨fi,h1,w⟩:=ζg.1 h;obtain⟨c,z,B⟩:=ζg.1 w;obtain⟨rs,C,u⟩:=ζg.1 B;simp only[ζa,ζc]at u;obtain⟨rfl,rfl,D⟩:=u;exact⟨fi,h1,z,C,D.symm⟩
theorem FR.oW {H:bl} {Z Z':Nat->Prop} {x y z:V} (h:FR H Z x z) (k:FR H Z' y z):x=y:=by
 obtain⟨n,u⟩:=yU x;obtain⟨m,w⟩:=yU y;have e1:=h.borrow (max n m) (wO (Nat.le_max_left _ _) u);have e2:=k.borrow (max n m) (wO (Nat.le_max_right _ _) w);rw[e1]at e2;exact Option.some.inj e2
open Classical in
noncomputable def zN (E:Env) (f:FuncId) (az:List V):Option V:=if h:∃y,wK E f az y then some (Classical.choose h)else none
theorem LI {E:Env} {f:FuncId} {az:List V} {y:V} (h:zN E f az=some y):wK E f az y:=by
 unfold zN at h;split at h
 next h1=>cases h;exact Classical.choose_spec h1
 cases h
theorem vK {E:Env} {f:FuncId} {az:List V} {y:V} (h:wK E f az y):zN E f az=some y:=by
 have h1:∃y,wK E f az y:=⟨y,h⟩;unfold zN;rw[dif_pos h1];obtain⟨n,z,H,Z,k1,k2,_⟩:=h;obtain⟨u,w,H',Z',k3,k4,_⟩:=Classical.choose_spec h1;have e1:=(nr E (Nat.le_max_left n u)).go _ _ _ _ k1;have e2:=(nr E (Nat.le_max_right n u)).go _ _ _ _ k3;rw[e1]at e2;cases e2;rw[FR.oW k4 k2]
theorem Ii {E:Env} {f:FuncId} {az:List V} {y:V} (B:V.scalar y=true) (h:∃n H',run E n (.fn f) az []=some (y,H')):wK E f az y:=by
 obtain⟨n,H',h⟩:=h;exact⟨n,y,H',λ_=>False,h,.same _ (kq B),λ_ h=>h.elim,⟨λ_ _ _ h=>h.elim⟩⟩
end Go.VE
