/-
 Plain values and the steps of a certificate.
-/
import Derived.KernelRfl
import Derived.Test.YtegogepdjcdfcacGreatDoorN2
set_option linter.all false
noncomputable section
namespace Go.VE
variable [bO]
inductive Sl (α:Type) where
 | nil
 | emp
 | row (l:List α)
 | part (l:List α)
 deriving Inhabited
def Sl.l {α:Type}:Sl α->a_ α
 | .nil|.emp=>[]
 | .row l|.part l=>l
def Sl.k {α:Type}:Sl α->Fl
 | .nil=>.nil
 | .emp=>.emp
 | .row _=>.row
 | .part _=>.part
class bz (α:Type) where
 cells:α->List V
 agg:Bool
 size:Nat
 len:∀a,(cells a).length=size
 good:∀a,V.cQ (cells a)=true
 one:∀a,(cells a).all V.one=true
 plain:agg=false->size=1
def cells {α:Type} [bz α] (a:α):a_ V:=bz.cells a
def enc {α:Type} [bz α] (a:α):V:=if bz.agg α then .agg (cells a)else(cells a).headD .undef
def rows {α:Type} [bz α] (l:a_ α):a_ (a_ V):=l.map cells
def cI {α:Type} [bz α] (s:Sl α):V:=jK s.k (bz.size α) (rows s.l)
instance:bz Int where
 cells n:=[.int .i64 n]
 agg:=false
 size:=1
 len _:=rfl
 good _:=rfl
 one _:=rfl
 plain _:=rfl
instance:bz Bool where
 cells b:=[.bool b]
 agg:=false
 size:=1
 len _:=rfl
 good _:=rfl
 one _:=rfl
 plain _:=rfl
instance:bz ByteArray where
 cells s:=[.str s]
 agg:=false
 size:=1
 len _:=rfl
 good _:=rfl
 one _:=rfl
 plain _:=rfl
structure bg where
 proc:Int
 index:Int
 deriving DecidableEq,Inhabited
instance:bz bg where
 cells x:=[.int .i64 x.proc,.int .i64 x.index]
 agg:=true
 size:=2
 len _:=rfl
 good _:=rfl
 one _:=rfl
 plain h:=by cases h
@[simp] theorem XM (n:Int):enc n=.int .i64 n:=rfl
@[simp] theorem Xx (n:Bool):enc n=.bool n:=rfl
@[simp] theorem XP (n:ByteArray):enc n=.str n:=rfl
@[simp] theorem Xa (n:Int):cells n=[.int .i64 n]:=rfl
@[simp] theorem Wj (n:Bool):cells n=[.bool n]:=rfl
@[simp] theorem WZ (n:ByteArray):cells n=[.str n]:=rfl
@[simp] theorem Xu (n:bg):cells n=[.int .i64 n.proc,.int .i64 n.index]:=rfl
@[simp] theorem Vr (n:bg):enc n=.agg [.int .i64 n.proc,.int .i64 n.index]:=rfl
section
variable {α:Type} [bz α]
theorem fW (l:a_ α):(rows l).length=l.length:=by simp[rows]
def idx (s:Sl α) (i:Int):bf α:=if 0<=i then s.l[i.toNat]? else none
theorem Po {N:Nat->FuncId} (s:Sl α) (k:IntKind) (i:Int) {n:Nat} (u:n=bz.size α):bS N (.idxS n) [cI s,.int k i]=(idx s i).map λx=>.fptr (cells x):=by
 subst u;unfold idx cI;simp only[bS,kS]
 by_cases h:i<0
 .rw[if_pos h,if_neg Za];rfl
 rw[if_neg h,if_pos Za]
 cases s <;> simp[Sl.k,Sl.l,jK,rows,Function.comp_def]
theorem N8 {N:Nat->FuncId} (s:Sl α):bS N .lenSl [cI s]=some (.int .i64 s.l.length):=by
 cases s <;> simp[bS,qu,cI,Sl.k,Sl.l,jK,fW]
end
section
variable {S:Sys} {c:bU}
end
end Go.VE
namespace Go.VE
variable [bO]
section
variable {S:Sys} {c:bU}
def isSlice:u_->Bool
 | .slice ..=>true
 | _=>false
theorem K8 (dr:Bool) (fr:a_ Nat) (dst:bf Nat) (now:Bool) (p:u_) (az:a_ Arg) (st:St) (h:isSlice p=false) :
 fH S c dr fr ⟨dst,none,now,.p p,az,[],[]⟩ st=(bV S.N st.g az).bind λsvs=>(jl S.N st.m p svs).bind λx=>some (cZ st dst x):=by
 unfold fH lG;have t:gj S.N st.g ⟨dst,none,now,.p p,az,[],[]⟩=none:=by unfold gj;grind
 simp[wanted,t]
 cases w:bV S.N st.g az with
 | none=>rfl
 | some svs=>
  simp;cases p <;> first|(simp[isSlice]at h;done)|(cases u:jl S.N st.m _ svs <;> simp[u])
theorem J9 (N:Nat->FuncId) (m:Tb bu) (p:u_) (svs:a_ SV) (xs:a_ V) (h:cV svs=some xs):jl N m p svs=(bS N p xs).bind λx=>some (.v x):=by
 unfold jl;rw[h];dsimp only;cases bS N p xs <;> rfl
theorem Cz (dr:Bool) (fr:a_ Nat) (dst:bf Nat) (now:Bool) (q:Jr) (az:a_ Arg) (st:St) :
 fH S c dr fr ⟨dst,none,now,.r q,az,[],[]⟩ st=(bV S.N st.g az).bind λsvs=>if !dr||now||eH fr svs then(oI st.m q svs).bind λx=>some (cZ st dst x)else none:=by
 unfold fH lG;have t:gj S.N st.g ⟨dst,none,now,.r q,az,[],[]⟩=none:=rfl;simp[wanted,t]
 cases u:bV S.N st.g az with
 | none=>rfl
 | some svs=>
  simp;split
  .cases w:oI st.m q svs <;> simp
  rfl
theorem yR (dr:Bool) (fr:a_ Nat) (d:Nat) (now:Bool) (q:Mi) (az:a_ Arg) (st:St) :
 fH S c dr fr ⟨some d,none,now,.a q,az,[],[]⟩ st=(bV S.N st.g az).bind λsvs=>if st.new d then(mw st.m q svs d).bind λr=>some { st with g:=bA st.g d r.2,m:=bA st.m d r.1 } else none:=by
 unfold fH lG;have t:gj S.N st.g ⟨some d,none,now,.a q,az,[],[]⟩=none:=rfl;simp[wanted,t]
 cases u:bV S.N st.g az with
 | none=>rfl
 | some svs=>
  simp;split
  .cases w:mw st.m q svs d <;> simp[cZ]
  rfl
theorem r_ (dr:Bool) (fr:a_ Nat) (dst:bf Nat) (now:Bool) (q:Ke) (az:a_ Arg) (st:St) :
 fH S c dr fr ⟨dst,none,now,.l q,az,[],[]⟩ st=(bV S.N st.g az).bind λsvs=>if !dr||now then(jC st dst q svs).bind λr=>some (cZ r.2 dst r.1)else none:=by
 unfold fH lG;have t:gj S.N st.g ⟨dst,none,now,.l q,az,[],[]⟩=none:=rfl;simp[wanted,t]
 cases u:bV S.N st.g az with
 | none=>rfl
 | some svs=>
  simp;split
  .cases w:jC st dst q svs <;> simp
  rfl
def k_:a_ SV->bf (FuncId×a_ SV)
 | .clo f a b::vs=>some (f,a++vs++b)
 | .v (.clo f a b)::vs=>some (f,a.map .v++vs++b.map .v)
 | _=>none
theorem wU (dr:Bool) (fr:a_ Nat) (dst:bf Nat) (now:Bool) (az:a_ Arg) (st:St) (svs:a_ SV) (f:FuncId) (args:a_ SV) (u:bV S.N st.g az=some svs) (hc:k_ svs=some (f,args)) :
 fH S c dr fr ⟨dst,none,now,.c,az,[],[]⟩ st=(ey S c dst dr (!dr||now) (dR st.m fr) f args st).bind λr=>some (cZ r.2 dst r.1):=by
 unfold fH lG;unfold k_ at hc;split at hc
 .obtain⟨rfl,rfl⟩:=hc;simp[wanted,gj,u];cases ey S c dst dr _ _ _ _ st <;> simp
 .obtain⟨rfl,rfl⟩:=hc;simp[wanted,gj,u];cases ey S c dst dr _ _ _ _ st <;> simp
 grind
def PZ {β:Type} (S:Sys) (c:bU) (fr:a_ Nat) (l:a_ RO) (k:St->bf β):St->bf β:=λst=>(mM S c false fr l st).bind k
def O8 {β:Type} (S:Sys) (c:bU) (fr:a_ Nat) (l:a_ RO) (k:St->bf β):St->bf β:=λst=>(mM S c true fr l st).bind k
def Us {β:Type} (S:Sys) (c:bU) (fr dd:a_ Nat) (l:a_ RO) (k:St->bf β):St->bf β:=λst=>PZ S c fr l k (oP dd st)
def UB {β:Type} (S:Sys) (c:bU) (fr dd:a_ Nat) (l:a_ RO) (k:St->bf β):St->bf β:=λst=>O8 S c fr l k (oP dd st)
@[congr] theorem WS {β:Type} {fr:a_ Nat} {l:a_ RO} {k:St->bf β} {st st':St} (h:st=st'):PZ S c fr l k st=PZ S c fr l k st':=by rw[h]
@[congr] theorem Wm {β:Type} {fr u:a_ Nat} {l:a_ RO} {k:St->bf β} {st st':St} (B:fr=u) (h:st=st'):O8 S c fr l k st=O8 S c u l k st':=by simp_all
@[congr] theorem WL {β:Type} {fr dd:a_ Nat} {l:a_ RO} {k:St->bf β} {st st':St} (h:st=st'):Us S c fr dd l k st=Us S c fr dd l k st':=by rw[h]
@[congr] theorem WU {β:Type} {fr u dd:a_ Nat} {l:a_ RO} {k:St->bf β} {st st':St} (B:fr=u) (h:st=st'):UB S c fr dd l k st=UB S c u dd l k st':=by simp_all
@[congr] theorem W8 {dr:Bool} {fr:a_ Nat} {o:RO} {st st':St} (h:st=st'):fH S c dr fr o st=fH S c dr fr o st':=by rw[h]
end
section
variable {S:Sys} {c:bU} (dr:Bool) (fr:a_ Nat) (dst:bf Nat) (now:Bool) (az:a_ Arg) (st:St)
end
inductive Fm where
 | seq (b:RC)
 | blk (id:Nat)
 | gst (x:Gh)
section
variable (S:Sys) (c:bU) {β:Type} (Q:Out×St->bf β)
def runK:a_ Fm->Out×St->bf β
 | [],r=>Q r
 | .seq b::fs,(.norm,st)=>(cw S c b st).bind (runK fs)
 | .seq _::fs,r=>runK fs r
 | .blk id::fs,(.exit k,st)=>if k=id then runK fs (.norm,st)else runK fs (.exit k,st)
 | .blk _::fs,r=>runK fs r
 | .gst x::fs,(.norm,st)=>(ghost x st).bind λst=>runK fs (.norm,st)
 | .gst _::fs,r=>runK fs r
def go (rc:RC) (fs:a_ Fm) (st:St):bf β:=(cw S c rc st).bind (runK S c Q fs)
def QO (fs:a_ Fm):St->bf β:=λst=>runK S c Q fs (.norm,st)
def bp {α:Type} (t:Bool) (a b:α):α:=if t then a else b
end
@[congr] theorem WY {α:Type} {t u:Bool} {a b a' B:α} (h:t=u) (D:u=true->a=a') (G:u=false->b=B):bp t a b=bp u a' B:=by
 subst h;cases t
 .exact G rfl
 exact D rfl
section
variable {S:Sys} {c:bU} {β:Type} {Q:Out×St->bf β}
@[congr] theorem go_congr {a:RC} {fs:a_ Fm} {st st':St} (h:st=st'):go S c Q a fs st=go S c Q a fs st':=by rw[h]
@[congr] theorem V1 {fs:a_ Fm} {st st':St} (h:st=st'):QO S c Q fs st=QO S c Q fs st':=by rw[h]
@[congr] theorem We {fs:a_ Fm} {r u:Out×St} (h:r=u):runK S c Q fs r=runK S c Q fs u:=by rw[h]
theorem Ik (rc:RC) (st:St):(cw S c rc st).bind Q=go S c Q rc [] st:=by
 simp only[go];cases cw S c rc st <;> rfl
inductive Fw (ν ε ρ:Type) where
 | n (a:ν)
 | x (e:ε)
 | r (b:ρ)
def kQ {σ ε ρ:Type} (step:σ->bf (Fw σ ε ρ)):Nat->σ->bf (Fw Empty ε ρ)
 | 0,_=>none
 | k+1,s=>match step s with
  | some (.n u)=>kQ step k u
  | some (.x e)=>some (.x e)
  | some (.r b)=>some (.r b)
  | none=>none
theorem xF {σ ε ρ:Type} {step:σ->bf (Fw σ ε ρ)}:∀{k u:Nat} {s:σ} {r:Fw Empty ε ρ},k<=u->kQ step k s=some r->kQ step u s=some r
 | 0,_,_,_,_,h=>by simp[kQ]at h
 | k+1,0,_,_,hk,_=>by omega
 | k+1,u+1,s,r,hk,h=>by
  simp only[kQ]at h ⊢;split at h
  .exact xF (Nat.le_of_succ_le_succ hk) h
  .exact h
  .exact h
  simp at h
open Classical in
def bM {σ ε ρ:Type} (step:σ->bf (Fw σ ε ρ)) (s:σ):bf (Fw Empty ε ρ):=
 if h:∃k r,kQ step k s=some r then some (Classical.choose (Classical.choose_spec h))else none
theorem pI {σ ε ρ:Type} {step:σ->bf (Fw σ ε ρ)} {s:σ} {r:Fw Empty ε ρ}:bM step s=some r↔∃k,kQ step k s=some r:=by
 unfold bM;constructor
 .intro h;split at h
  next t=>simp only[ζa]at h;exact⟨_,by rw[<-h];exact Classical.choose_spec (Classical.choose_spec t)⟩
  simp at h
 rintro⟨k,hk⟩;have t:∃k r,kQ step k s=some r:=⟨k,r,hk⟩;rw[dif_pos t];have w:=Classical.choose_spec (Classical.choose_spec t);have z:=xF (Nat.le_max_left (Classical.choose t) k) w;have u:=xF (Nat.le_max_right (Classical.choose t) k) hk;rw[z]at u;exact u
def Fw.out {ν ε ρ:Type} (u:ν->St) (eε:ε->Nat×St) (eρ:ρ->St):Fw ν ε ρ->Out×St
 | .n a=>(.norm,u a)
 | .x e=>(.exit (eε e).1,(eε e).2)
 | .r b=>(.ret,eρ b)
def Fw.elim {ε ρ γ:Type} (u:ε->γ) (fr:ρ->γ):Fw Empty ε ρ->γ
 | .x e=>u e
 | .r b=>fr b
end
section
variable {α:Type} [bz α]
theorem E6 (s:Sl α):V.one (cI s)=true:=by cases s <;> rfl
theorem Ni (l:a_ α):V.mz (rows l)=true:=by
 induction l with
 | nil=>rfl
 | cons a l t=>simp only[rows,List.map_cons,V.mz,ζh];exact⟨bz.good a,t⟩
theorem LZ (s:Sl α):V.good (cI s)=true:=by
 cases s <;> simp only[cI,Sl.k,jK,V.good] <;> exact Ni _
instance:bz (Sl α) where
 cells s:=[cI s]
 agg:=false
 size:=1
 len _:=rfl
 good s:=by simp only[V.cQ,LZ,Bool.and_self]
 one s:=by simp[E6]
 plain _:=rfl
theorem PD (s:Sl α):cells s=[cI s]:=rfl
end
section
variable {S:Sys} {c:bU}
def Nk (x:bf SV) (b:Bool) (y z:bf St):bf St:=
 match x with
 | some (.v (.bool t))=>bp (t==b) y z
 | some (.v _)=>z
 | _=>none
@[congr] theorem UN {x u:bf SV} {b:Bool} {y z:bf St} (h:x=u):Nk x b y z=Nk u b y z:=by rw[h]
def QN {β:Type} (x:bf SV) (y z:bf β):bf β:=
 match x with
 | some (.v (.bool t))=>bp t y z
 | _=>none
@[congr] theorem VY {β:Type} {x u:bf SV} {y z:bf β} (h:x=u):QN x y z=QN u y z:=by rw[h]
def lW (c:bU) (f:FuncId) (az:a_ V):bf (a_ V):=(c f (az.map .v) []).bind λr=>cO r.2 8 r.1
def Mx (now:Bool) (args:a_ SV) (ok:Bool) (st:St) (ys:a_ V):bf (SV×St):=
 if(result ys).scalar||ok then some (.v (result ys),st)else if now then(rowsOf st.m args).map λds=>(.v (result ys),{ st with m:=oO ds st.m })else none
theorem SA (dst:bf Nat) (dr now:Bool) (old:a_ SV->Bool) (f:FuncId) (args:a_ SV) (st:St) (hk:S.E.keep f=false) :
 ey S c dst dr now old f args st=(cO st.m 8 args).bind λaz=>if now||old args then(lW c f az).bind (Mx now args (cV args).isSome st)else none:=by
 unfold ey lW;simp only[hk,Bool.false_eq_true,if_false]
 cases cO st.m 8 args with
 | none=>rfl
 | some az=>
  simp only[ζb];split
  .cases c f (az.map .v) []with
   | none=>rfl
   | some r=>
    obtain⟨rs,m'⟩:=r;simp only[ζb];cases cO m' 8 rs <;> rfl
  rfl
end
section
variable {S:Sys} {T:pe}
def ID (rs:a_ RV):Out×St->bf (a_ V)
 | (.exit _,_)=>none
 | (_,st)=>(i_ st rs).bind (cO st.m 8)
theorem O_ {f:FuncId} {rf:RF} (u:T f=some rf) (az:a_ V) (B:az.length<=rf.na):lW (dc S T) f az=go S (dc S T) (ID rf.rs) rf.body [] (start (az.map .v) []):=by
 unfold lW;rw[qT u];unfold mB;rw[if_pos (by simpa using B),<-Ik]
 cases h:cw S (dc S T) rf.body (start (az.map .v) [])with
 | none=>rfl
 | some r=>
  obtain⟨o,st⟩:=r;cases o <;> simp only[ζb,ID] <;> (try rfl) <;> (cases i_ st rf.rs <;> rfl)
end
end Go.VE
namespace Go.VE
variable [bO]
variable {N:Nat->FuncId}
def Yn (k:IntKind) (a b:Int):bf Int:=if b=0 then none else some (k.wrap (a.tdiv b))
theorem Gn (o:Nat) (cs:a_ V):bS N (.fieldAddr o) [.fptr cs]=if o<=cs.length then some (.fptr (cs.drop o))else none:=rfl
def ki (s:ByteArray) (n:Int):bf Int:=if 0<=n then(s[n.toNat]?).map λb=>(b.toNat:Int)else none
theorem M3 (s:ByteArray) (k:IntKind) (n:Int):bS N .idxStr [.str s,.int k n]=(ki s n).bind λx=>some (.int .u8 x):=by
 simp only[bS,ki];split
 .cases s[n.toNat]? <;> rfl
 rfl
theorem P6 (z:a_ V) (pl:a_ (Nat×Nat)) (vs:a_ V):bS N (.build z pl) vs=(kf z pl vs).bind λcs=>some (.agg cs):=by
 simp only[bS];cases kf z pl vs <;> rfl
section
variable {α:Type} [bz α]
theorem Kc (s:Sl α) (k:IntKind) (i:Int) (n:Nat) (u:n=bz.size α):bS N (.idxS n) [cI s,.int k i]=(idx s i).bind λx=>some (.fptr (cells x)):=by
 rw[Po s k i u];cases idx s i <;> rfl
theorem Is (s:Sl α):bS N .lenSl [cI s]=some (.int .i64 s.l.length):=N8 s
def Sl.isNil {α:Type} (s:Sl α):bf Bool:=
 match s with
 | .nil=>some true
 | .emp=>none
 | _=>some false
theorem PE (q:bf Nat) (s:Sl α):bS N (.bin (some .slice) q .eql) [cI s,.bN]=s.isNil.bind λt=>some (.bool t):=by
 cases s <;> rfl
def gm (s:Sl α) (u B:bf Int):bf (Sl α):=
 (dH s.l.length u B).map λ(l,h)=>match s with
  | .nil=>.nil
  | .emp=>.emp
  | .row x=>.part ((x.take h).drop l)
  | .part x=>.part ((x.take h).drop l)
theorem KN (s:Sl α) (u B:bf Int) (n:Nat) (D:n=bz.size α):ir n (cI s) u B=(gm s u B).bind λx=>some (cI x):=by
 subst D
 cases s with
 | nil=>simp only[cI,Sl.k,jK,ir,gm,Sl.l,List.length_nil];cases dH 0 u B <;> rfl
 | emp=>simp only[cI,Sl.k,jK,ir,gm,Sl.l,List.length_nil];cases dH 0 u B <;> rfl
 | row l=>simp only[cI,Sl.k,jK,ir,gm,Sl.l,if_true,fW];cases dH l.length u B <;> simp[rows,List.map_take,List.map_drop]
 | part l=>simp only[cI,Sl.k,jK,ir,gm,Sl.l,if_true,fW];cases dH l.length u B <;> simp[rows,List.map_take,List.map_drop]
end
theorem MZ (m:Tb bu) (n:Nat) (a:Bool) (cs:a_ V):oI m (.load n a) [.v (.fptr cs)]=(cut cs 0 n).bind λr=>(mk a r).bind λx=>some (.v x):=by
 simp only[oI,dX]
 cases cut cs 0 n with
 | none=>rfl
 | some r=>simp only[ζb];cases mk a r <;> rfl
end Go.VE
namespace Go.VE
variable [bO]
section
variable {α:Type} [bz α]
def cn (s:Sl α):bu:=.sl s.k (bz.size α) (rows s.l)
def Sl.j7 (s:Sl α) (i:Int):bf Nat:=if 0<=i/\i.toNat<s.l.length then some i.toNat else none
def Sl.get (s:Sl α) (i:Nat):bf α:=s.l[i]?
def Sl.put (s:Sl α) (i:Nat) (x:α):bf (Sl α):=
 if i<s.l.length then some (match s with|.row l=>.row (l.set i x)|.part l=>.part (l.set i x)|s=>s)else none
def eT (s:Sl α) (x:α):bf (Sl α):=if s.l.length+1<=2147483648 then some (.row (s.l++[x]))else none
def kX (n:Int) (z:α):bf (Sl α):=if 0<=n/\n<=2147483648 then some (.row (List.replicate n.toNat z))else none
end
section
variable {α:Type} [bz α] {N:Nat->FuncId} {m:Tb bu}
def Hy (n d:Nat) (o:bf bu) (i:Int):bf SV:=
 match o with
 | some (.sl k es t)=>if bQ k/\es=n/\0<=i/\i.toNat<t.length then some (.el d i.toNat 0)else none
 | some (.dp k t _)=>if bQ k/\1=n/\0<=i/\i.toNat<t.length then some (.el d i.toNat 0)else none
 | _=>none
theorem JD (n d:Nat) (k:IntKind) (i:Int):jl N m (.idxS n) [.own d,.v (.int k i)]=Hy n d (bl m d) i:=by
 simp[jl,cV,wW,Hy]
 grind
theorem RW (n d:Nat) (s:Sl α) (i:Int) (h:n=bz.size α):Hy n d (some (cn s)) i=(s.j7 i).bind λj=>some (.el d j 0):=by
 simp[Hy,cn,fW,Sl.j7]
 cases s with
 | nil=>simp[Sl.l,bQ]
 | emp=>simp[Sl.l,bQ]
 | row l=>simp[Sl.k,Sl.l,bQ];grind
 | part l=>simp[Sl.k,Sl.l,bQ];grind
def Ku (o:bf bu):bf SV:=
 match o with
 | some (.sl _ _ t)=>some (.v (.int .i64 t.length))
 | some (.dp _ t _)=>some (.v (.int .i64 t.length))
 | _=>none
theorem PN (d:Nat):jl N m .lenSl [.own d]=Ku (bl m d):=by
 simp[jl,cV,wW,Ku]
 grind
theorem SZ (s:Sl α):Ku (some (cn s))=some (.v (.int .i64 s.l.length)):=by simp[Ku,cn,fW]
def Rf (n:Nat) (a:Bool) (o:Nat) (ob:bf bu):bf SV:=
 match ob with
 | some (.box cs)=>vk n a ((cs.drop o).take n)
 | _=>none
theorem XK (n:Nat) (a:Bool) (d o:Nat):oI m (.load n a) [.ptr d o]=Rf n a o (bl m d):=by
 rfl
theorem Nv (n:Nat) (a:Bool) (o:Nat) (cs:a_ SV):Rf n a o (some (.box cs))=vk n a ((cs.drop o).take n):=rfl
def CZ (n:Nat) (a:Bool) (i o:Nat) (ob:bf bu):bf SV:=
 match ob with
 | some (.sl _ _ u)=>match u[i]? with
  | some cs=>((cut cs o n).bind (mk a)).map .v
  | none=>none
 | some (.dp _ _ (some (j,t)))=>if j=i/\o=0/\n=1/\a=false then some (.own t)else none
 | _=>none
theorem QW (n:Nat) (a:Bool) (d i o:Nat):oI m (.load n a) [.el d i o]=CZ n a i o (bl m d):=by
 rfl
theorem N6 (n:Nat) (a:Bool) (i o:Nat) (s:Sl α):CZ n a i o (some (cn s))=(s.get i).bind λx=>(cut (cells x) o n).bind λr=>(mk a r).bind λy=>some (.v y):=by
 simp only[CZ,cn,Sl.get,rows,List.getElem?_map]
 cases s.l[i]? with
 | none=>rfl
 | some x=>
  simp only[Option.map_some,ζb]
  cases cut (cells x) o n with
  | none=>rfl
  | some r=>simp ;cases mk a r <;> rfl
theorem WI (z:α) (n:Int) (d:Nat) (size:Nat) (zero:a_ V) (h:zero=cells z) (u:size=bz.size α) :
 mw m (.makeSl size zero) [.v (.int .i64 n),.v (.int .i64 n)] d=(kX n z).bind λs=>some (cn s,.own d):=by
 subst h u;simp[mw,kX];split
 .simp[cn,Sl.k,Sl.l,rows]
 rfl
def Ea (st:St) (d i o size:Nat) (x:V) (ob:bf bu):bf (SV×St):=
 match ob with
 | some (.sl k es t)=>match t[i]? with
  | some cs=>if x.cells.length=size/\o+size<=cs.length/\x.cells.all V.one=true then
   some (.v .undef,{ st with m:=bA st.m d (.sl k es (t.set i (cs.take o++x.cells++cs.drop (o+x.cells.length)))) })else none
  | none=>none
 | _=>none
theorem KB (st:St) (dst:bf Nat) (size d i o:Nat) (x:V):jC st dst (.store size) [.el d i o,.v x]=Ea st d i o size x (bl st.m d):=by
 rfl
theorem K_ (g:Tb SV) (p:a_ Nat) (w:a_ (a_ V)) (B:Bool) (y:Nat) (d i size:Nat) (x:V) (a:α) (D:x.cells=cells a) (G:size=bz.size α) (s:Sl α) :
 Ea ⟨g,m,p,w,B,y⟩ d i 0 size x (some (cn s))=(s.put i a).bind λJ=>some (.v .undef,⟨g,bA m d (cn J),p,w,B,y⟩):=by
 have h1:(cells a).all V.one=true:=bz.one a;have u:∀b:α,(cells b).length=bz.size α:=bz.len;subst G;simp only[Ea,cn,rows,List.getElem?_map,D,Sl.put]
 by_cases t:i<s.l.length
 .have hg  := ζd t;rw[if_pos t,hg];simp[u,h1]
  cases s with
  | nil=>simp[Sl.l]at t
  | emp=>simp[Sl.l]at t
  | row l=>simp[Sl.k,Sl.l,List.drop_of_length_le,u]
  | part l=>simp[Sl.k,Sl.l,List.drop_of_length_le,u]
 grind
def xo (st:St) (t n:Nat) (s:SV) (xs ys:bf (a_ (a_ V))):bf (SV×St):=
 match xs,ys with
 | some _,some []=>match s with
  | .own d=>match bl st.m d with
   | some ob=>if St.new { st with m:=cz d st.m } t then some (.own t,{ st with m:=bA (cz d st.m) t ob })else none
   | none=>none
  | .v .bN=>if st.new t then some (.own t,{ st with m:=bA st.m t (.sl .nil n []) })else none
  | .v .c_=>if st.new t then some (.own t,{ st with m:=bA st.m t (.sl .emp n []) })else none
  | _=>none
 | some xs,some ys=>
  if xs.length+ys.length<=2147483648/\G6 s=true then
   if St.new { st with m:=giveUp st.m s } t then some (.own t,{ st with m:=bA (giveUp st.m s) t (.sl .row n (xs++ys)) })else none
  else none
 | _,_=>none
theorem wP {st:St} {t n:Nat} {s x:SV} {xs ys:a_ (a_ V)} (h1:iM st.m n s=some xs) (u:iM st.m n x=some ys):jC st (some t) (.append n) [s,x]=xo st t n s (some xs) (some ys):=by
 cases ys <;> cases s <;> cases x <;> (unfold jC xo;simp only[h1,u];try rfl)
def LW (n:Nat) (o:bf bu):bf (a_ (a_ V)):=
 match o with
 | some (.sl k es t)=>if bQ k then(if es=n then some t else none)else some []
 | _=>none
theorem AX (n d:Nat):iM m n (.own d)=LW n (bl m d):=by
 simp[iM,LW]
 grind
theorem A5 (n:Nat) (s:Sl α) (h:n=bz.size α):LW n (some (cn s))=some (rows s.l):=by
 subst h;cases s <;> simp[LW,cn,Sl.k,Sl.l,bQ,rows]
theorem Sh (n:Nat):iM m n (.v .bN)=some []:=rfl
theorem Tp (n:Nat):iM m n (.v .c_)=some []:=rfl
theorem NC (g:Tb SV) (p:a_ Nat) (w:a_ (a_ V)) (u:Bool) (y:Nat) (t n d:Nat) (l:a_ α) (x:α) (h:n=bz.size α):xo ⟨g,m,p,w,u,y⟩ t n (.own d) (some (rows l)) (some (rows [x])) =
 (eT (.row l) x).bind λs=>if St.new ⟨g,cz d m,p,w,u,y⟩ t then some (.own t,⟨g,bA (cz d m) t (cn s),p,w,u,y⟩)else none:=by
 subst h;have e:(rows l).length+(rows [x]).length=l.length+1:=by simp[fW]
 by_cases h:l.length+1<=2147483648
 .have h1:eT (.row l) x=some (.row (l++[x])):=if_pos h;have z:xo ⟨g,m,p,w,u,y⟩ t (bz.size α) (.own d) (some (rows l)) (some (rows [x]))=if St.new ⟨g,cz d m,p,w,u,y⟩ t then some (.own t,⟨g,bA (cz d m) t (.sl .row (bz.size α) (rows l++rows [x])),p,w,u,y⟩)else none:=if_pos ⟨by omega,rfl⟩
  rw[h1,z];simp[cn,Sl.k,Sl.l,rows]
 have h1:eT (.row l) x=none:=if_neg h;have z:xo ⟨g,m,p,w,u,y⟩ t (bz.size α) (.own d) (some (rows l)) (some (rows [x]))=none:=if_neg (λq=>h Za)
 grind
theorem Nq (g:Tb SV) (p:a_ Nat) (w:a_ (a_ V)) (u:Bool) (y:Nat) (t n:Nat) (x:α) (h:n=bz.size α):xo ⟨g,m,p,w,u,y⟩ t n (.v .bN) (some []) (some (rows [x])) =
 if St.new ⟨g,m,p,w,u,y⟩ t then some (.own t,⟨g,bA m t (cn (.row [x])),p,w,u,y⟩)else none:=by
 subst h;rfl
theorem MK (g:Tb SV) (p:a_ Nat) (w:a_ (a_ V)) (u:Bool) (y:Nat) (t n:Nat) (x:α) (h:n=bz.size α):xo ⟨g,m,p,w,u,y⟩ t n (.v .c_) (some []) (some (rows [x])) =
 if St.new ⟨g,m,p,w,u,y⟩ t then some (.own t,⟨g,bA m t (cn (.row [x])),p,w,u,y⟩)else none:=by
 subst h;rfl
end
theorem xJ (g:Tb SV) (m:Tb bu) (p:a_ Nat) (w:a_ (a_ V)) (u:Bool) (y d:Nat):St.new ⟨g,m,p,w,u,y⟩ d=(!(p.contains d)&&(bl m d).isNone && !(tQ d g) && !(rX d m)):=rfl
theorem rP (d:Nat):tQ d []=false:=rfl
theorem qd (d n:Nat) (x:SV) (r:Tb SV):tQ d ((n,x)::r)=(SV.ct d x||tQ d r):=rfl
theorem rz (d:Nat):rX d []=false:=rfl
theorem pW (d n:Nat) (x:bu) (r:Tb bu):rX d ((n,x)::r)=(bu.ct d x||rX d r):=rfl
theorem xO (d:Nat) (x:V):SV.ct d (.v x)=false:=rfl
theorem sZ (d e:Nat):SV.ct d (.own e)=(e==d):=rfl
theorem tP (d e o:Nat):SV.ct d (.ptr e o)=(e==d):=rfl
theorem vA (d e i o:Nat):SV.ct d (.el e i o)=(e==d):=rfl
theorem vz (d e:Nat):SV.ct d (.mp e)=(e==d):=rfl
theorem tq (d:Nat) (f:FuncId) (a b:a_ SV):SV.ct d (.clo f a b)=(SV.c6 d a||SV.c6 d b):=rfl
theorem tI (d:Nat) (l:a_ SV):SV.ct d (.tup l)=SV.c6 d l:=rfl
theorem rH (d:Nat):SV.c6 d []=false:=rfl
theorem pX (d:Nat) (x:SV) (r:a_ SV):SV.c6 d (x::r)=(SV.ct d x||SV.c6 d r):=rfl
theorem rO (d:Nat) (cs:a_ SV):bu.ct d (.box cs)=SV.c6 d cs:=rfl
theorem EY (m:Tb bu) (n:Nat):cO m n []=some []:=by cases n <;> simp[cO]
theorem CF (m:Tb bu) (n:Nat) (x:SV) (r:a_ SV):cO m n (x::r)=(shut m n x).bind λy=>(cO m n r).bind λs=>some (y::s):=by
 cases n <;> (simp[cO];cases shut m _ x <;> (try rfl) <;> (cases cO m _ r <;> rfl))
theorem UH (m:Tb bu) (n:Nat) (x:V):shut m n (.v x)=some x:=by cases n <;> simp[shut]
def KC (o:bf bu):bf V:=
 match o with
 | some (.sl k es t)=>some (jK k es t)
 | some (.dp k t none)=>some (jK k 1 t)
 | _=>none
theorem Pc (m:Tb bu) (n d:Nat):shut m n (.own d)=KC (bl m d):=by
 cases n <;> (simp[shut,KC];rfl)
theorem OZ {α:Type} [bz α] (s:Sl α):KC (some (cn s))=some (cI s):=rfl
theorem O4 (m:Tb bu) (n:Nat) (f:FuncId) (a b:a_ SV):shut m (n+1) (.clo f a b)=(cO m n a).bind λx=>(cO m n b).bind λy=>some (.clo f x y):=by
 simp[shut];cases cO m n a <;> (try rfl) <;> (cases cO m n b <;> rfl)
theorem Oz (m:Tb bu) (n:Nat) (l:a_ SV):shut m (n+1) (.tup l)=(cO m n l).bind λx=>some (.tup x):=by
 simp[shut];cases cO m n l <;> rfl
theorem OD (m:Tb bu) (n:Nat) (l:a_ SV):shut m (n+1) (.agg l)=(cO m n l).bind λx=>some (.agg x):=by
 simp[shut];cases cO m n l <;> rfl
theorem tD {α:Type} (n:Nat):cz n ([]:Tb α)=[]:=rfl
theorem rE {α:Type} (n k:Nat) (x:α) (r:Tb α):cz n ((k,x)::r)=if k=n then cz n r else(k,x)::cz n r:=rfl
theorem mapM_nil (f:a_ SV->a_ SV):mapM f []=[]:=rfl
section
variable {N:Nat->FuncId} {m:Tb bu}
theorem SO:result []=.tup []:=rfl
theorem Td (x:V):result [x]=x:=rfl
theorem TG (x y:V) (l:a_ V):result (x::y::l)=.tup (x::y::l):=rfl
theorem H_ (p:u_) (a:V):jl N m p [.v a]=(bS N p [a]).bind λx=>some (.v x):=J9 N m p _ [a] rfl
theorem yE (p:u_) (a b:V):jl N m p [.v a,.v b]=(bS N p [a,b]).bind λx=>some (.v x):=J9 N m p _ [a,b] rfl
theorem kL (l:a_ V):cV (l.map .v)=some l:=by
 induction l with
 | nil=>rfl
 | cons a l t=>simp only[List.map_cons,cV,t];rfl
theorem pg (n:Nat) (l:a_ V):cO m n (l.map .v)=some l:=by
 induction l with
 | nil=>exact EY m n
 | cons a l t=>rw[List.map_cons,CF,UH,t];rfl
theorem pz (cs:a_ V):kf cs [] []=some cs:=rfl
theorem nW (cs:a_ V) (off size:Nat) (pl:a_ (Nat×Nat)) (v:V) (vs:a_ V):kf cs ((off,size)::pl) (v::vs) =
 if v.cells.length=size/\off+v.cells.length<=cs.length then kf (cs.take off++v.cells++cs.drop (off+v.cells.length)) pl vs else none:=by
 simp only[kf]
 by_cases h:v.cells.length=size <;> by_cases t:off+v.cells.length<=cs.length
 .rw[if_neg (by simp[h];omega),if_pos ⟨h,t⟩]
 .rw[if_pos (by simp[h];omega),if_neg (λq=>t q.2)]
 .rw[if_pos (by simp[h]),if_neg (λq=>h q.1)]
 rw[if_pos (by simp[h]),if_neg (λq=>h q.1)]
theorem uk (k:IntKind) (n:Int):V.cells (.int k n)=[.int k n]:=rfl
theorem rA (n:Bool):V.cells (.bool n)=[.bool n]:=rfl
theorem uP (n:ByteArray):V.cells (.str n)=[.str n]:=rfl
theorem uF:V.cells .bN=[.bN]:=rfl
theorem ox (k:IntKind) (n:Int):V.one (.int k n)=true:=rfl
theorem mS (n:Bool):V.one (.bool n)=true:=rfl
theorem oF (n:ByteArray):V.one (.str n)=true:=rfl
end
section
variable {S:Sys} {c:bU} {β γ δ:Type} {Q:Out×St->bf β} {L:bf β} {e:γ->bf β}
theorem No {dr:Bool} {fr:a_ Nat} {d:bf Nat} {gd:bf (Nat×Bool)} {now:Bool} {k:K} {az:a_ Arg} {st:St} (h:wanted st.g gd=some true) :
 fH S c dr fr ⟨d,gd,now,k,az,[],[]⟩ st=fH S c dr fr ⟨d,none,now,k,az,[],[]⟩ st:=by
 unfold fH;rw[h];rfl
theorem BW (dr:Bool) (st:St):BX dr [] st=some st:=by cases dr <;> rfl
def nS (f:SV->bf V):a_ SV->bf (a_ V)
 | []=>some []
 | x::r=>(f x).bind λy=>(nS f r).bind λs=>some (y::s)
def iV (m:Tb bu):Nat->SV->bf V
 | 0,x=>match x with
  | .v y=>some y
  | .own d=>match bl m d with
   | some (.sl k es xs)=>some (jK k es xs)
   | some (.dp k xs none)=>some (jK k 1 xs)
   | _=>none
  | .mp d=>match bl m d with
   | some (.mp u)=>some (.fmap u)
   | _=>none
  | _=>none
 | n+1,x=>match x with
  | .v y=>some y
  | .own d=>match bl m d with
   | some (.sl k es xs)=>some (jK k es xs)
   | some (.dp k xs none)=>some (jK k 1 xs)
   | _=>none
  | .ptr d o=>match bl m d with
   | some (.box cs)=>match nS (iV m n) cs with
    | some xs=>if o<=xs.length then some (.fptr (xs.drop o))else none
    | none=>none
   | _=>none
  | .mp d=>match bl m d with
   | some (.mp u)=>some (.fmap u)
   | _=>none
  | .clo f a b=>(nS (iV m n) a).bind λx=>(nS (iV m n) b).bind λy=>some (.clo f x y)
  | .tup l=>(nS (iV m n) l).bind λx=>some (.tup x)
  | .agg l=>(nS (iV m n) l).bind λx=>some (.agg x)
  | _=>none
theorem A4 (m:Tb bu):∀(n:Nat),(∀x,shut m n x=iV m n x)/\∀l,cO m n l=nS (iV m n) l:=by
 have u:∀n,(∀x,shut m n x=iV m n x)->∀l,cO m n l=nS (iV m n) l:=by
  intro n h l
  induction l with
  | nil=>exact EY m n
  | cons a l t=>rw[CF,h a,t];rfl
 intro n
 induction n with
 | zero=>
  have w:∀x,shut m 0 x=iV m 0 x:=by
   intro x;cases x <;> simp[shut,iV] <;> rfl
  grind
 | succ n t=>
  have h1:∀x,shut m (n+1) x=iV m (n+1) x:=by
   intro x
   cases x with
   | ptr d o=>simp[shut,iV,t.2];rfl
   | clo f a b=>rw[O4,t.2,t.2];rfl
   | tup l=>rw[Oz,t.2];rfl
   | agg l=>rw[OD,t.2];rfl
   | _=>simp[shut,iV] <;> rfl
  grind
def u5 (S:Sys) (c:bU) (dr:Bool):a_ Nat->a_ RO->(St->bf β)->St->bf β
 | _,[],k,st=>k st
 | fr,o::r,k,st=>((BX dr o.pre st).bind (fH S c dr fr o.strip)).bind λst'=>u5 S c dr (if dr then qy fr o.strip else fr) r k (oP o.dead st')
theorem D_ (dr:Bool):∀(l:a_ RO) (fr:a_ Nat) (k:St->bf β) (st:St),u5 S c dr fr l k st=(mM S c dr fr l st).bind k
 | [],_,_,_=>rfl
 | o::r,fr,k,st=>by
  simp[u5,mM]
  cases (BX dr o.pre st).bind (fH S c dr fr o.strip)with
  | none=>rfl
  | some st'=>exact D_ dr r _ k _
def oM (S:Sys) (c:bU):RC->(St->bf β)->(Nat->St->bf β)->(St->bf β)->St->bf β
 | .skip,n,_,_,st=>n st
 | .ops l,n,_,_,st=>u5 S c false [] l n st
 | .sV l,n,_,_,st=>u5 S c true [] l n st
 | .seq a b,n,x,r,st=>oM S c a (λst=>oM S c b n x r st) x r st
 | .cond y a b,n,x,r,st=>match qj S.N st.g y with
  | some (.v (.bool t))=>bp t (oM S c a n x r st) (oM S c b n x r st)
  | _=>none
 | .block id a,n,x,r,st=>oM S c a n (λk st=>if k=id then n st else x k st) r st
 | .loop a,n,x,r,st=>(n5 (cw S c a) st).bind λq=>match q with|(.norm,st)=>n st|(.exit k,st)=>x k st|(.ret,st)=>r st
 | .each g ps a b,n,x,r,st=>(cw S c (.each g ps a b) st).bind λq=>match q with|(.norm,st)=>n st|(.exit k,st)=>x k st|(.ret,st)=>r st
 | .exit k,_,x,_,st=>x k st
 | .ret,_,_,r,st=>r st
 | .gh g a,n,x,r,st=>(ghost g st).bind λst=>oM S c a n x r st
 | .hg a g,n,x,r,st=>oM S c a (λst=>(ghost g st).bind n) x r st
def D3 (n:St->bf β) (x:Nat->St->bf β) (r:St->bf β):Out×St->bf β
 | (.norm,st)=>n st
 | (.exit k,st)=>x k st
 | (.ret,st)=>r st
theorem CK:∀(rc:RC) (n:St->bf β) (x:Nat->St->bf β) (r:St->bf β) (st:St),oM S c rc n x r st=(cw S c rc st).bind (D3 n x r):=by
 intro rc
 induction rc with
 | skip=>intros;rfl
 | ops l=>intro n x r st;simp[oM,cw,D_];cases mM S c false [] l st <;> rfl
 | sV l=>intro n x r st;simp[oM,cw,D_];cases mM S c true [] l st <;> rfl
 | seq a b u w=>
  intro n x r st;simp[oM,cw,u,w]
  cases h:cw S c a st with
  | none=>rfl
  | some q=>obtain⟨o,st'⟩:=q;cases o <;> rfl
 | cond y a b u w=>
  intro n x r st;simp[oM,cw,u,w]
  cases qj S.N st.g y with
  | none=>rfl
  | some v=>cases v with
   | v z=>cases z with
    | bool t=>cases t <;> rfl
    | _=>rfl
   | _=>rfl
 | block id a B=>
  intro n x r st;simp[oM,cw,B]
  cases h:cw S c a st with
  | none=>rfl
  | some q=>
   obtain⟨o,st'⟩:=q
   cases o with
   | exit k=>simp[D3];split <;> rfl
   | _=>rfl
 | loop a B=>
  intro n x r st;rfl
 | each g C a b u w=>
  intro n x r st;rfl
 | exit k=>intros;rfl
 | ret=>intros;rfl
 | gh g a B=>
  simp[oM,cw,B]
  grind
 | hg a g B=>
  intro n x r st;simp[oM,cw,B]
  cases h:cw S c a st with
  | none=>rfl
  | some q=>
   obtain⟨o,st'⟩:=q
   cases o with
   | norm=>simp[D3];cases ghost g st' <;> rfl
   | _=>rfl
section
variable (S c Q)
mutual
def mF:a_ Fm->St->bf β
 | []=>λst=>Q (.norm,st)
 | .seq b::fs=>λst=>oM S c b (mF fs) (mD fs) (λst=>Q (.ret,st)) st
 | .blk _::fs=>mF fs
 | .gst g::fs=>λst=>(ghost g st).bind (mF fs)
def mD:a_ Fm->Nat->St->bf β
 | []=>λk st=>Q (.exit k,st)
 | .seq _::fs=>mD fs
 | .blk id::fs=>λk st=>if k=id then mF fs st else mD fs k st
 | .gst _::fs=>mD fs
end
def jS (rc:RC) (fs:a_ Fm) (st:St):bf β:=oM S c rc (mF S c Q fs) (mD S c Q fs) (λst=>Q (.ret,st)) st
end
section
variable {dr:Bool} {fr:a_ Nat} {d:Nat} {dst:bf Nat} {now:Bool} {az:a_ Arg} {st:St} {α:Type} [bz α]
theorem RD {p:u_} {svs:a_ SV} {m:bf δ} {v:δ->SV} (u:bV S.N st.g az=some svs) (B:isSlice p=false) (h:jl S.N st.m p svs=m.bind λx=>some (v x)) :
 fH S c dr fr ⟨dst,none,now,.p p,az,[],[]⟩ st=m.bind λx=>some (cZ st dst (v x)):=by
 rw[K8 _ _ _ _ _ _ _ B,u]
 grind
theorem B8 {p:u_} {svs:a_ SV} {v:SV} (u:bV S.N st.g az=some svs) (B:isSlice p=false) (h:jl S.N st.m p svs=some v) :
 fH S c dr fr ⟨dst,none,now,.p p,az,[],[]⟩ st=some (cZ st dst v):=by
 rw[K8 _ _ _ _ _ _ _ B,u]
 grind
theorem Q9 {n:Nat} {s:Sl α} {k:IntKind} {i:Int} (u:bV S.N st.g az=some [.v (cI s),.v (.int k i)]) (B:n=bz.size α) :
 fH S c dr fr ⟨dst,none,now,.p (.idxS n),az,[],[]⟩ st=(idx s i).bind λx=>some (cZ st dst (.v (.fptr (cells x)))):=
 RD u rfl (by rw[yE,Kc s k i n B];grind)
theorem WW {n e:Nat} {s:Sl α} {k:IntKind} {i:Int} (u:bV S.N st.g az=some [.own e,.v (.int k i)]) (B:bl st.m e=some (cn s)) (D:n=bz.size α) :
 fH S c dr fr ⟨dst,none,now,.p (.idxS n),az,[],[]⟩ st=(s.j7 i).bind λj=>some (cZ st dst (.el e j 0)):=
 RD u rfl (by rw[JD,B,RW n e s i D])
theorem Q5 {s:Sl α} (u:bV S.N st.g az=some [.v (cI s)]):fH S c dr fr ⟨dst,none,now,.p .lenSl,az,[],[]⟩ st=some (cZ st dst (.v (.int .i64 s.l.length))):=
 B8 u rfl (by rw[H_,Is];rfl)
theorem UX {e:Nat} {s:Sl α} (u:bV S.N st.g az=some [.own e]) (B:bl st.m e=some (cn s)):fH S c dr fr ⟨dst,none,now,.p .lenSl,az,[],[]⟩ st=some (cZ st dst (.v (.int .i64 s.l.length))):=
 B8 u rfl (by rw[PN,B,SZ])
theorem SP {u:bf Nat} {s:Sl α} (B:bV S.N st.g az=some [.v (cI s),.v .bN]):fH S c dr fr ⟨dst,none,now,.p (.bin (some .slice) u .eql),az,[],[]⟩ st=s.isNil.bind λt=>some (cZ st dst (.v (.bool t))):=
 RD B rfl (by rw[yE,PE];grind)
theorem OX {s:ByteArray} {k:IntKind} {n:Int} (u:bV S.N st.g az=some [.v (.str s),.v (.int k n)]):fH S c dr fr ⟨dst,none,now,.p .idxStr,az,[],[]⟩ st=(ki s n).bind λx=>some (cZ st dst (.v (.int .u8 x))):=
 RD u rfl (by rw[yE,M3];grind)
theorem VD {n e i o:Nat} {a:Bool} {s:Sl α} {v:α->V} (u:bV S.N st.g az=some [.el e i o]) (hd:(!dr||now||eH fr [.el e i o])=true) (B:bl st.m e=some (cn s)) (hv:∀x:α,(cut (cells x) o n).bind (mk a)=some (v x)) :
 fH S c dr fr ⟨dst,none,now,.r (.load n a),az,[],[]⟩ st=(s.get i).bind λx=>some (cZ st dst (.v (v x))):=by
 rw[Cz,u];simp only[ζb,hd,QW,B,N6]
 cases s.get i with
 | none=>rfl
 | some x=>
  cases hc:cut (cells x) o n with
  | none=>grind
  | some r=>grind
theorem JE {n e i:Nat} {s:Sl α} {x:V} {a:α} (u:bV S.N st.g az=some [.el e i 0,.v x]) (hd:(!dr||now)=true) (B:bl st.m e=some (cn s)) (D:x.cells=cells a) (G:n=bz.size α) :
 fH S c dr fr ⟨dst,none,now,.l (.store n),az,[],[]⟩ st=(s.put i a).bind λJ=>some (cZ { st with m:=bA st.m e (cn J) } dst (.v .undef)):=by
 rw[r_,u];simp[hd,KB,B];rw[K_ st.g st.pin st.want st.more st.yid e i n x a D G s]
 grind
theorem Uq {n:Nat} {z:α} {zero:a_ V} {i:Int} (u:bV S.N st.g az=some [.v (.int .i64 i),.v (.int .i64 i)]) (B:zero=cells z) (D:n=bz.size α) (G:st.new d=true) :
 fH S c dr fr ⟨some d,none,now,.a (.makeSl n zero),az,[],[]⟩ st=(kX i z).bind λs=>some { st with g:=bA st.g d (.own d),m:=bA st.m d (cn s) }:=by
 rw[yR,u];simp[G];rw[WI z i d n zero B D]
 grind
theorem Wu {n e u:Nat} {s:Sl α} {x:α} (G:bV S.N st.g az=some [.own e,.own u]) (hd:(!dr||now)=true) (J:bl st.m e=some (cn s)) (hu:bl st.m u=some (cn (.row [x]))) (B:n=bz.size α) (O:St.new { st with m:=cz e st.m } d=true) :
 fH S c dr fr ⟨some d,none,now,.l (.append n),az,[],[]⟩ st=(eT s x).bind λD=>some { st with g:=bA st.g d (.own d),m:=bA (cz e st.m) d (cn D) }:=by
 rw[r_,G];simp only[ζb,hd,if_true];rw[wP (xs:=rows s.l) (ys:=rows [x]) (by rw[AX,J,A5 n s B]) (by rw[AX,hu,A5 n (.row [x]) B];rfl)]
 have:=NC (m:=st.m) st.g st.pin st.want st.more st.yid d n e s.l x B;rw[this];have t:eT (.row s.l) x=eT s x:=by cases s <;> rfl
 rw[t]
 cases eT s x with
 | none=>rfl
 | some D=>
  simp;rw[if_pos O];rfl
theorem UO {n u:Nat} {x:α} {v:V} (hv:v=.bN\/v=.c_) (G:bV S.N st.g az=some [.v v,.own u]) (hd:(!dr||now)=true) (hu:bl st.m u=some (cn (.row [x]))) (B:n=bz.size α) (D:st.new d=true) :
 fH S c dr fr ⟨some d,none,now,.l (.append n),az,[],[]⟩ st=some { st with g:=bA st.g d (.own d),m:=bA st.m d (cn (.row [x])) }:=by
 rw[r_,G];simp only[ζb,hd,if_true];have t:iM st.m n (.own u)=some (rows [x]):=by rw[AX,hu,A5 n (.row [x]) B];rfl
 rcases hv with rfl|rfl
 .rw[wP (Sh n) t,Nq (m:=st.m) st.g st.pin st.want st.more st.yid d n x B];rw[if_pos D];rfl
 rw[wP (Tp n) t,MK (m:=st.m) st.g st.pin st.want st.more st.yid d n x B];rw[if_pos D];rfl
theorem UC {f:FuncId} {svs args:a_ SV} {cs:a_ V} {m:bf δ} {E:δ->a_ V} (hc:lW c f cs=m.bind λr=>some (E r)) (hk:S.E.keep f=false) (B:bV S.N st.g az=some svs) (D:k_ svs=some (f,args))
 (u:nS (iV st.m 8) args=some cs) (G:((!dr||now)||dR st.m fr args)=true) (hr:∀r,((result (E r)).scalar||(cV args).isSome)=true) :
 fH S c dr fr ⟨dst,none,now,.c,az,[],[]⟩ st=m.bind λr=>some (cZ st dst (.v (result (E r)))):=by
 rw[wU dr fr dst now az st svs f args B D,SA _ _ _ _ _ _ _ hk,(A4 st.m 8).2,u];simp[G,hc]
 cases m with
 | none=>rfl
 | some r=>
  simp[Mx]
  grind
end
end
section
variable {S:Sys} {c:bU} {β γ:Type} {Q:Out×St->bf β} {L:bf β} {e:γ->bf β}
theorem ot (rc:RC) (st:St):jS S c Q rc [] st=(cw S c rc st).bind Q:=by
 unfold jS;rw[CK]
 congr 1
 funext q;obtain⟨o,st⟩:=q
 cases o <;> rfl
theorem AP (rc:RC) (st:St):cw S c rc st=jS S c some rc [] st:=by
 rw[ot];cases cw S c rc st <;> rfl
def ql (rs:a_ RV):Out×St->bf (a_ V)
 | (.exit _,_)=>none
 | (_,st)=>(i_ st rs).bind (nS (iV st.m 8))
theorem TC (rs:a_ RV):ID rs=ql rs:=by
 funext q;obtain⟨o,st⟩:=q
 cases o
 .simp only[ID,ql];congr 1;funext l;exact(A4 st.m 8).2 l
 .rfl
 simp only[ID,ql];congr 1;funext l;exact(A4 st.m 8).2 l
theorem R4 {S:Sys} {T:pe} {f:FuncId} {rf:RF} (u:T f=some rf) (az:a_ V) (B:az.length<=rf.na):lW (dc S T) f az=jS S (dc S T) (ql rf.rs) rf.body [] (start (az.map .v) []):=by
 rw[O_ u az B,<-Ik,ot,TC]
end
def nV {α σ ε ρ:Type} (step:α->σ->bf (Fw σ ε ρ)):a_ α->σ->bf (Fw σ ε ρ)
 | [],s=>some (.n s)
 | x::xs,s=>(step x s).bind λw=>match w with
  | .n u=>nV step xs u
  | .x e=>some (.x e)
  | .r b=>some (.r b)
def Fw.wN {ν ε ρ γ:Type} (fn:ν->γ) (u:ε->γ) (fr:ρ->γ):Fw ν ε ρ->γ
 | .n a=>fn a
 | .x e=>u e
 | .r b=>fr b
def Fw.vL {ν ε ρ:Type} (u:ν->Tb bu) (eε:ε->Nat×Tb bu) (eρ:ρ->Tb bu):Fw ν ε ρ->Out×Tb bu
 | .n a=>(.norm,u a)
 | .x e=>(.exit (eε e).1,(eε e).2)
 | .r b=>(.ret,eρ b)
def vL (q:Out×St):bf (Out×Tb bu):=some (q.1,q.2.m)
section
variable {S:Sys} {c:bU} {β γ:Type} {Q:Out×St->bf β} {L:bf β} {e:γ->bf β}
def yF (S:Sys) (c:bU) (b:RC):Out×St->bf (Out×Tb bu)
 | (.norm,st)=>jS S c vL b [] st
 | _=>none
theorem Lx (ps:a_ Nat) (a b:RC) (st:St) (x:a_ V) (m:Tb bu) (u:x.length=ps.length) :
 iz ps (cw S c a) (cw S c b) st x m=jS S c (yF S c b) a [] ⟨wG st.g ps (x.map .v),m,st.pin++pJ st.g,[],true,0⟩:=by
 unfold iz;rw[if_pos u,ot]
 cases cw S c a ⟨wG st.g ps (x.map .v),m,st.pin++pJ st.g,[],true,0⟩with
 | none=>rfl
 | some q=>
  obtain⟨o,t⟩:=q
  cases o with
  | norm=>
   simp only[ζb,yF];rw[ot];cases cw S c b t <;> rfl
  | _=>rfl
end
def Le {α:Type} (a b:bf α):Prop:=∀r,a=some r->b=some r
section
variable {α:Type}
theorem Le.refl (a:bf α):Le a a:=λ_ h=>h
theorem Le.of_eq {a b:bf α} (h:b=a):Le a b:=λ_ t=>h.trans t
theorem Le.trans {a b d:bf α} (h1:Le a b) (u:Le b d):Le a d:=λr h=>u r (h1 r h)
theorem Le.none (b:bf α):Le (none:bf α) b:=λr h=>by cases h
theorem Le.bind {β:Type} {a b:bf α} {f g:α->bf β} (h:Le a b) (u:∀x,Le (f x) (g x)):Le (a.bind f) (b.bind g):=λr hr=>by
 obtain⟨x,h1,t⟩:=ζg.1 hr;rw[h x h1];exact u x r t
end
section
variable {S:Sys} {c:bU} {β γ δ:Type} {Q:Out×St->bf β} {L:bf β} {e:γ->bf β}
theorem Iu {dr:Bool} {fr:a_ Nat} {dst:bf Nat} {now:Bool} {az:a_ Arg} {st:St} {f:FuncId} {svs args:a_ SV} {cs:a_ V} {m:bf δ} {E:δ->a_ V} (hc:Le (m.bind λr=>some (E r)) (lW c f cs)) (hk:S.E.keep f=false) (B:bV S.N st.g az=some svs) (D:k_ svs=some (f,args))
 (u:nS (iV st.m 8) args=some cs) (G:((!dr||now)||dR st.m fr args)=true) (hr:∀r,((result (E r)).scalar||(cV args).isSome)=true) :
 Le (m.bind λr=>some (cZ st dst (.v (result (E r))))) (fH S c dr fr ⟨dst,none,now,.c,az,[],[]⟩ st):=by
 intro q w;obtain⟨r,h1,z⟩:=ζg.1 w;have t:lW c f cs=(some r).bind λr=>some (E r):=hc _ (by rw[h1];rfl)
 rw[UC (m:=some r) t hk B D u G hr];exact z
theorem QF {σ ε ρ:Type} {f:St->bf (Out×St)} {step:σ->bf (Fw σ ε ρ)} {eσ:σ->St} {eε:ε->Nat×St} {eρ:ρ->St} (h:∀s,Le ((step s).bind λw=>some (Fw.out eσ eε eρ w)) (f (eσ s))) (s:σ) :
 Le ((bM step s).bind λw=>some (Fw.out (λe=>Empty.elim e) eε eρ w)) (n5 f (eσ s)):=by
 have key:∀k s r,kQ step k s=some r->iW f k (eσ s)=some (Fw.out (λe=>Empty.elim e) eε eρ r):=by
  intro k
  induction k with
  | zero=>intro s r h;simp[kQ]at h
  | succ k B=>
   intro s r t;simp only[kQ]at t
   cases u:step s with
   | none=>rw[u]at t;cases t
   | some w=>
    rw[u]at t;have z:=h s (Fw.out eσ eε eρ w) (by rw[u];rfl)
    simp only[iW,z]
    cases w with
    | n a=>exact B a r t
    | x e=>cases t;rfl
    | r b=>cases t;rfl
 intro r hr;obtain⟨w,h1,z⟩:=ζg.1 hr;obtain⟨k,hk⟩:=pI.1 h1;cases z;exact mE.2 ⟨k,key k s w hk⟩
theorem Wn {σ ε ρ:Type} {a:RC} {fs:a_ Fm} {step:σ->bf (Fw σ ε ρ)} {eσ:σ->St} {eε:ε->Nat×St} {eρ:ρ->St} {s:σ} {u:ε->bf γ} {fr:ρ->bf γ}
 (B:L=jS S c Q (.loop a) fs (eσ s)) (h:∀s,Le ((step s).bind λw=>some (Fw.out eσ eε eρ w)) (jS S c some a [] (eσ s)))
 (D:∀x,Le ((u x).bind e) (mD S c Q fs (eε x).1 (eε x).2)) (hr:∀b,Le ((fr b).bind e) (Q (.ret,eρ b))):Le (((bM step s).bind (Fw.elim u fr)).bind e) L:=by
 subst B;have h1:jS S c Q (.loop a) fs (eσ s)=(n5 (cw S c a) (eσ s)).bind (D3 (mF S c Q fs) (mD S c Q fs) (λst=>Q (.ret,st))):=by
  unfold jS;rw[CK];rfl
 rw[h1];have t:=QF (step:=step) (f:=cw S c a) (eσ:=eσ) (eε:=eε) (eρ:=eρ) (λs=>by rw[AP];exact h s) s
 cases z:bM step s with
 | none=>exact Le.none _
 | some w=>
  have C:=t _ (by rw[z];rfl)
  rw[C]
  cases w with
  | n a=>cases a
  | x a=>exact D a
  | r a=>exact hr a
theorem HV {α σ ε ρ:Type} {f:a_ V->Tb bu->bf (Out×Tb bu)} {step:α->σ->bf (Fw σ ε ρ)} {eI:α->a_ V} {eσ:σ->Tb bu} {eε:ε->Nat×Tb bu} {eρ:ρ->Tb bu}
 (h:∀x s,Le ((step x s).bind λw=>some (Fw.vL eσ eε eρ w)) (f (eI x) (eσ s))):∀(xs:a_ α) (s:σ),Le ((nV step xs s).bind λw=>some (Fw.vL eσ eε eρ w)) (qg f (xs.map eI) (eσ s))
 | [],s=>λr hr=>hr
 | x::xs,s=>by
  simp only[List.map_cons,qg,nV]
  cases u:step x s with
  | none=>exact Le.none _
  | some w=>
   have B:=h x s (Fw.vL eσ eε eρ w) (by rw[u];rfl)
   rw[B]
   cases w with
   | n t=>simp only[ζb,Fw.vL];exact HV h xs t
   | x e=>exact Le.refl _
   | r b=>exact Le.refl _
theorem V5 {α σ ε ρ:Type} {g:Arg} {ps:a_ Nat} {a b:RC} {fs:a_ Fm} {f:FuncId} {x y:a_ V} {items:a_ α} {eI:α->a_ V} {step:α->σ->bf (Fw σ ε ρ)} {eσ:σ->Tb bu} {eε:ε->Nat×Tb bu} {eρ:ρ->Tb bu} {gt:Tb SV} {s:σ}
 {fn:σ->bf γ} {u:ε->bf γ} {fr:ρ->bf γ}
 (B:L=jS S c Q (.each g ps a b) fs ⟨gt,eσ s,[],[],true,0⟩) (hg:qj S.N gt g=some (.v (.clo f x y))) (D:S.items f x y=some (items.map eI)) (G:∀x,(eI x).length=ps.length)
 (h:∀x s,Le ((step x s).bind λw=>some (Fw.vL eσ eε eρ w)) (jS S c (yF S c b) a [] ⟨wG gt ps ((eI x).map .v),eσ s,pJ gt,[],true,0⟩))
 (J:∀s,Le ((fn s).bind e) (mF S c Q fs ⟨gt,eσ s,[],[],true,0⟩))
 (O:∀x,Le ((u x).bind e) (mD S c Q fs (eε x).1 ⟨gt,(eε x).2,[],[],true,0⟩)) (hr:∀b,Le ((fr b).bind e) (Q (.ret,⟨gt,eρ b,[],[],true,0⟩))) :
 Le (((nV step items s).bind (Fw.wN fn u fr)).bind e) L:=by
 subst B;have h1:jS S c Q (.each g ps a b) fs ⟨gt,eσ s,[],[],true,0⟩=(cw S c (.each g ps a b) ⟨gt,eσ s,[],[],true,0⟩).bind (D3 (mF S c Q fs) (mD S c Q fs) (λst=>Q (.ret,st))):=by
  unfold jS;rw[CK]
 rw[h1];simp only[cw,hg,D];have t:=HV (step:=step) (f:=iz ps (cw S c a) (cw S c b) ⟨gt,eσ s,[],[],true,0⟩) (eI:=eI) (eσ:=eσ) (eε:=eε) (eρ:=eρ) (λx s=>by rw[Lx _ _ _ _ _ _ (G x)];exact h x s) items s
 cases z:nV step items s with
 | none=>exact Le.none _
 | some w=>
  have C:=t _ (by rw[z];rfl)
  rw[C]
  cases w with
  | n a=>exact J a
  | x a=>exact O a
  | r a=>exact hr a
end
inductive Fo where
 | rc (c:RC)
 | ops (dr:Bool) (fr:List Nat) (l:List RO)
 | nx
 | ex (k:Nat)
 | rt
abbrev bF (g:Tb SV) (m:Tb bu):St:=⟨g,m,[],[],true,0⟩
section
variable (S:Sys) (c:bU) {β:Type} (Q:Out×St->bf β)
def rn:Fo->a_ Fm->St->bf β
 | .rc a,fs,st=>jS S c Q a fs st
 | .ops dr fr l,fs,st=>u5 S c dr fr l (mF S c Q fs) st
 | .nx,fs,st=>mF S c Q fs st
 | .ex k,fs,st=>mD S c Q fs k st
 | .rt,_,st=>Q (.ret,st)
def vh:Fo->a_ Fm->St->bf (Fo×a_ Fm×St)
 | .rc .skip,fs,st=>some (.nx,fs,st)
 | .rc (.ops l),fs,st=>some (.ops false [] l,fs,st)
 | .rc (.sV l),fs,st=>some (.ops true [] l,fs,st)
 | .rc (.seq a b),fs,st=>some (.rc a,.seq b::fs,st)
 | .rc (.cond y a b),fs,st=>match qj S.N st.g y with
  | some (.v (.bool true))=>some (.rc a,fs,st)
  | some (.v (.bool false))=>some (.rc b,fs,st)
  | _=>none
 | .rc (.block id a),fs,st=>some (.rc a,.blk id::fs,st)
 | .rc (.exit k),fs,st=>some (.ex k,fs,st)
 | .rc .ret,fs,st=>some (.rt,fs,st)
 | .rc (.gh g a),fs,st=>match ghost g st with
  | some st'=>some (.rc a,fs,st')
  | none=>none
 | .rc (.hg a g),fs,st=>some (.rc a,.gst g::fs,st)
 | .rc (.loop _),_,_=>none
 | .rc (.each ..),_,_=>none
 | .ops _ _ [],fs,st=>some (.nx,fs,st)
 | .ops dr fr (⟨d,gd,now,k,az,dd,[]⟩::r),fs,st=>match fH S c dr fr ⟨d,gd,now,k,az,[],[]⟩ st with
  | some st'=>some (.ops dr (if dr then qy fr ⟨d,gd,now,k,az,[],[]⟩else fr) r,fs,oP dd st')
  | none=>none
 | .ops dr fr (⟨d,gd,now,k,az,dd,x::xs⟩::r),fs,st=>if dr && !(zb x&&xs.all zb)then none else match ghost x st with
  | some st'=>some (.ops dr fr (⟨d,gd,now,k,az,dd,xs⟩::r),fs,st')
  | none=>none
 | .nx,.seq b::fs,st=>some (.rc b,fs,st)
 | .nx,.blk _::fs,st=>some (.nx,fs,st)
 | .nx,.gst g::fs,st=>match ghost g st with
  | some st'=>some (.nx,fs,st')
  | none=>none
 | .nx,[],_=>none
 | .ex k,.seq _::fs,st=>some (.ex k,fs,st)
 | .ex k,.blk id::fs,st=>some (if k=id then .nx else .ex k,fs,st)
 | .ex k,.gst _::fs,st=>some (.ex k,fs,st)
 | .ex _,[],_=>none
 | .rt,_,_=>none
def fL:Nat->Fo->a_ Fm->St->bf (Fo×a_ Fm×St)
 | 0,fo,fs,st=>some (fo,fs,st)
 | n+1,fo,fs,st=>match vh S c fo fs st with
  | some (fo',fs',st')=>fL n fo' fs' st'
  | none=>none
end
section
variable {S:Sys} {c:bU} {β γ δ:Type} {Q:Out×St->bf β} {e:γ->bf β}
theorem HX {fo fo':Fo} {fs fs':a_ Fm} {st st':St} (h:vh S c fo fs st=some (fo',fs',st')):rn S c Q fo fs st=rn S c Q fo' fs' st':=by
 cases fo with
 | rc a=>
  cases a with
  | cond y a b=>
   simp only[vh]at h;split at h
   next t=>cases h;simp only[rn,jS,oM,t,bp,if_true]
   next t=>cases h;simp only[rn,jS,oM,t,bp];rfl
   cases h
  | gh g a=>
   simp only[vh]at h;split at h
   next t=>cases h;simp only[rn,jS,oM,t,ζb]
   cases h
  | loop a=>cases h
  | each g u a b=>cases h
  | seq a b=>cases h;simp only[rn,jS,oM,mF,mD]
  | block id a=>cases h;simp only[rn,jS,oM,mF,mD]
  | hg a g=>cases h;simp only[rn,jS,oM,mF,mD]
  | _=>cases h;simp only[rn,jS,oM]
 | ops dr fr l=>
  cases l with
  | nil=>cases h;simp only[rn,u5]
  | cons o r=>
   obtain⟨d,gd,now,k,az,dd,pre⟩:=o
   cases pre with
   | nil=>
    simp only[vh]at h;split at h
    next t=>cases h;simp only[rn,u5,BW,RO.strip,ζb,t]
    cases h
   | cons x w=>
    simp only[vh]at h;split at h
    .cases h
    rename_i hd;split at h
    .rename_i t;cases h
     cases dr with
     | true=>
      simp only[Bool.true_and,Bool.not_eq_true',Bool.not_eq_false,ζh]at hd;simp only[rn,u5,RO.strip,BX,od,if_true,List.all_cons,hd.1,hd.2,Bool.and_self,t,ζb]
     | false=>simp only[rn,u5,RO.strip,BX,od,Bool.false_eq_true,if_false,t,ζb]
    cases h
 | nx=>
  cases fs with
  | nil=>cases h
  | cons f fs=>
   cases f with
   | seq b=>cases h;simp only[rn,jS,mF]
   | blk id=>cases h;simp only[rn,mF]
   | gst g=>
    simp only[vh]at h;split at h
    next t=>cases h;simp only[rn,mF,t,ζb]
    cases h
 | ex k=>
  cases fs with
  | nil=>cases h
  | cons f fs=>
   cases f with
   | seq b=>cases h;simp only[rn,mD]
   | blk id=>
    cases h;simp only[rn,mD]
    by_cases hk:k=id
    .simp only[if_pos hk,rn]
    simp only[if_neg hk,rn]
   | gst g=>cases h;simp only[rn,mD]
 | rt=>cases h
theorem oq:∀{n:Nat} {fo fo':Fo} {fs fs':a_ Fm} {st st':St},fL S c n fo fs st=some (fo',fs',st')->rn S c Q fo fs st=rn S c Q fo' fs' st'
 | 0,fo,fo',fs,fs',st,st',h=>by cases h;rfl
 | n+1,fo,fo',fs,fs',st,st',h=>by
  simp only[fL]at h;split at h
  next a b d u=>rw[HX u];exact oq h
  cases h
theorem zU {n:Nat} {fo fo':Fo} {fs fs':a_ Fm} {st st':St} {m:bf β} (h:fL S c n fo fs st=some (fo',fs',st')) (u:Le m (rn S c Q fo' fs' st')):Le m (rn S c Q fo fs st):=by
 rw[oq h];exact u
theorem XA {n:Nat} {fo fo':Fo} {fs fs':a_ Fm} {st st':St} {r:γ} (h:fL S c n fo fs st=some (fo',fs',st')) (u:rn S c Q fo' fs' st'=e r):Le ((some r).bind e) (rn S c Q fo fs st):=by
 rw[oq h];exact Le.of_eq u
theorem Rg {m:bf δ} {f:δ->bf γ} {L:bf β} (k:δ->bf β) (u:Le (m.bind k) L) (h1:∀r,Le ((f r).bind e) (k r)):Le ((m.bind f).bind e) L:=by
 intro r hr
 cases m with
 | none=>cases hr
 | some x=>exact u r (h1 x r hr)
theorem Xs {n:Nat} {fo:Fo} {fs fs':a_ Fm} {st0:St} {dr:Bool} {q l:a_ RO} {fr:a_ Nat} {st:St} {d:bf Nat} {gd:bf (Nat×Bool)} {now:Bool} {k:K} {az:a_ Arg} {dd:a_ Nat} {m:bf δ} {g:δ->St} {f:δ->bf γ}
 (u:fL S c n fo fs st0=some (.ops dr fr q,fs',st)) (B:q=⟨d,gd,now,k,az,dd,[]⟩::l) (hg:wanted st.g gd=some true)
 (D:Le (m.bind λx=>some (g x)) (fH S c dr fr ⟨d,none,now,k,az,[],[]⟩ st))
 (h:∀x,m=some x->Le ((f x).bind e) (rn S c Q (.ops dr (if dr then qy fr ⟨d,gd,now,k,az,[],[]⟩else fr) l) fs' (oP dd (g x)))):Le ((m.bind f).bind e) (rn S c Q fo fs st0):=by
 rw[oq u];subst B;simp only[rn,u5,RO.strip,BW,ζb];rw[No hg]
 cases m with
 | none=>exact Le.none _
 | some x=>rw[D (g x) rfl];exact h x rfl
theorem QM {n:Nat} {fo:Fo} {fs fs':a_ Fm} {st0:St} {dr:Bool} {q l:a_ RO} {fr:a_ Nat} {st st':St} {d:bf Nat} {gd:bf (Nat×Bool)} {now:Bool} {k:K} {az:a_ Arg} {dd:a_ Nat} {m:bf β}
 (u:fL S c n fo fs st0=some (.ops dr fr q,fs',st)) (B:q=⟨d,gd,now,k,az,dd,[]⟩::l) (hg:wanted st.g gd=some true)
 (D:fH S c dr fr ⟨d,none,now,k,az,[],[]⟩ st=some st')
 (h:Le m (rn S c Q (.ops dr (if dr then qy fr ⟨d,gd,now,k,az,[],[]⟩else fr) l) fs' (oP dd st'))):Le m (rn S c Q fo fs st0):=by
 rw[oq u];subst B;simp only[rn,u5,RO.strip,BW,ζb];rw[No hg,D];exact h
theorem HO {n:Nat} {fo:Fo} {u:a_ Fm} {st:St} {σ ε ρ:Type} {a:RC} {fs:a_ Fm} {step:σ->bf (Fw σ ε ρ)} {eσ:σ->St} {eε:ε->Nat×St} {eρ:ρ->St} {s:σ} {B:ε->bf γ} {fr:ρ->bf γ}
 (D:fL S c n fo u st=some (.rc (.loop a),fs,eσ s)) (h:∀s,Le ((step s).bind λw=>some (Fw.out eσ eε eρ w)) (rn S c some (.rc a) [] (eσ s)))
 (G:∀x,Le ((B x).bind e) (rn S c Q (.ex (eε x).1) fs (eε x).2)) (hr:∀b,Le ((fr b).bind e) (Q (.ret,eρ b))):Le (((bM step s).bind (Fw.elim B fr)).bind e) (rn S c Q fo u st):=by
 rw[oq D];exact Wn (L:=rn S c Q (.rc (.loop a)) fs (eσ s)) rfl h G hr
theorem Vt {n:Nat} {fo:Fo} {u:a_ Fm} {st:St} {α σ ε ρ:Type} {g:Arg} {ps:a_ Nat} {a b:RC} {fs:a_ Fm} {f:FuncId} {x y:a_ V} {items:a_ α} {eI:α->a_ V} {step:α->σ->bf (Fw σ ε ρ)} {eσ:σ->Tb bu} {eε:ε->Nat×Tb bu} {eρ:ρ->Tb bu} {gt:Tb SV} {s:σ}
 {fn:σ->bf γ} {B:ε->bf γ} {fr:ρ->bf γ}
 (D:fL S c n fo u st=some (.rc (.each g ps a b),fs,bF gt (eσ s))) (hg:qj S.N gt g=some (.v (.clo f x y))) (G:S.items f x y=some (items.map eI)) (J:∀x,(eI x).length=ps.length)
 (h:∀x s,Le ((step x s).bind λw=>some (Fw.vL eσ eε eρ w)) (rn S c (yF S c b) (.rc a) [] ⟨wG gt ps ((eI x).map .v),eσ s,pJ gt,[],true,0⟩))
 (O:∀s,Le ((fn s).bind e) (rn S c Q .nx fs (bF gt (eσ s))))
 (T:∀x,Le ((B x).bind e) (rn S c Q (.ex (eε x).1) fs (bF gt (eε x).2))) (hr:∀b,Le ((fr b).bind e) (Q (.ret,bF gt (eρ b)))) :
 Le (((nV step items s).bind (Fw.wN fn B fr)).bind e) (rn S c Q fo u st):=by
 rw[oq D];exact V5 (L:=rn S c Q (.rc (.each g ps a b)) fs (bF gt (eσ s))) rfl hg G J h O T hr
theorem UU {b:RC} {st st':St} {m:bf (Out×Tb bu)} {fs:a_ Fm} {n:Nat} {fo:Fo} (h:fL S c n fo fs st=some (.nx,[],st')) (u:Le m (rn S c vL (.rc b) [] st')):Le m (rn S c (yF S c b) fo fs st):=by
 rw[oq h];exact u
theorem WE {α:Type} {n:Nat} {fo fo':Fo} {fs fs':a_ Fm} {st:St} {A:bf α->St} {o:bf α} {f:α->bf γ} (h:fL S c n fo fs st=some (fo',fs',A o))
 (u:∀x,o=some x->Le ((f x).bind e) (rn S c Q fo' fs' (A (some x)))):Le ((o.bind f).bind e) (rn S c Q fo fs st):=by
 rw[oq h]
 cases o with
 | none=>exact Le.none _
 | some x=>exact u x rfl
theorem Xq {T:pe} {f:FuncId} {rf:RF} {az:a_ V} {m:bf (a_ V)} (u:T f=some rf) (B:az.length<=rf.na) (h:Le m (rn S (dc S T) (ql rf.rs) (.rc rf.body) [] (start (az.map .v) []))):Le m (lW (dc S T) f az):=by
 rw[R4 u az B];exact h
end
section
variable {α:Type} [bz α]
abbrev cv (x:α):SV:=.v (enc x)
abbrev cp (x:α):SV:=.v (.fptr (cells x))
abbrev bx (x:α):bu:=.box ((cells x).map .v)
end
abbrev uv:SV:=.v .undef
structure l8 (S:Sys) (c:bU) {α δ:Type} (fn:FuncId) (A:α->List V) (E:δ->List V) (p:α->Option δ) (sc:Bool):Prop where
 k:S.E.keep fn=false
 h:∀z,Le ((p z).bind λr=>some (E r)) (lW c fn (A z))
 s:sc=true->∀r,(result (E r)).scalar=true
section
variable {S:Sys} {c:bU} {β γ δ α:Type} {Q:Out×St->bf β} {e:γ->bf β} {fo:Fo} {fs:a_ Fm} {st0:St} {l:a_ RO} {d:bf Nat} {gd:bf (Nat×Bool)} {now:Bool} {az:a_ Arg} {dd:a_ Nat}
abbrev sW (S:Sys) (c:bU) (Q:Out×St->bf β) (dr:Bool) (fr:a_ Nat) (d:bf Nat) (k:K) (l:a_ RO) (fs:a_ Fm) (dd:a_ Nat) (st:St):bf β:=
 rn S c Q (.ops dr (if dr then(match k with|.p _|.r _=>fr|_=>match d with|some d=>d::fr|none=>fr)else fr) l) fs (oP dd st)
theorem E5 (fr:a_ Nat) (k:K):qy fr ⟨d,gd,now,k,az,[],[]⟩=(match k with|.p _|.r _=>fr|_=>match d with|some d=>d::fr|none=>fr):=by
 cases k <;> cases d <;> rfl
theorem DZ {n:Nat} {dr:Bool} {fr:a_ Nat} {q:a_ RO} {fs':a_ Fm} {st:St} {k:K} {m:bf δ} {g:δ->St} {f:δ->bf γ}
 (u:fL S c n fo fs st0=some (.ops dr fr q,fs',st)) (B:q=⟨d,gd,now,k,az,dd,[]⟩::l) (hg:wanted st.g gd=some true)
 (D:Le (m.bind λx=>some (g x)) (fH S c dr fr ⟨d,none,now,k,az,[],[]⟩ st))
 (h:∀x,m=some x->Le ((f x).bind e) (sW S c Q dr fr d k l fs' dd (g x))):Le ((m.bind f).bind e) (rn S c Q fo fs st0):=
 Xs u B hg D (λx t=>by rw[E5];grind)
theorem qF {n:Nat} {dr:Bool} {fr:a_ Nat} {q:a_ RO} {fs':a_ Fm} {st st':St} {k:K} {m:bf β}
 (u:fL S c n fo fs st0=some (.ops dr fr q,fs',st)) (B:q=⟨d,gd,now,k,az,dd,[]⟩::l) (hg:wanted st.g gd=some true)
 (D:fH S c dr fr ⟨d,none,now,k,az,[],[]⟩ st=some st') (h:Le m (sW S c Q dr fr d k l fs' dd st')):Le m (rn S c Q fo fs st0):=
 QM u B hg D (by rw[E5];omega)
section
variable [bz α]
theorem Pb (n:Nat) (dr:Bool) (fr:a_ Nat) (q:a_ RO) (fs':a_ Fm) (st:St) (k:IntKind) {sz:Nat} {s:Sl α} {i:Int} {f:α->bf γ} (B:q=⟨d,gd,now,.p (.idxS sz),az,dd,[]⟩::l)
 (u:(fL S c n fo fs st0,wanted st.g gd,bV S.N st.g az,sz)=(some (.ops dr fr q,fs',st),some true,some [.v (cI s),.v (.int k i)],bz.size α))
 (h:∀x,idx s i=some x->Le ((f x).bind e) (sW S c Q dr fr d (.p (.idxS sz)) l fs' dd (cZ st d (cp x)))):Le (((idx s i).bind f).bind e) (rn S c Q fo fs st0):=by
 simp  at u;exact DZ u.1 B u.2.1 (Le.of_eq (Q9 u.2.2.1 u.2.2.2)) h
theorem VF (n:Nat) (dr:Bool) (fr:a_ Nat) (q:a_ RO) (fs':a_ Fm) (st:St) (s:Sl α) {m:bf β} (B:q=⟨d,gd,now,.p .lenSl,az,dd,[]⟩::l)
 (u:(fL S c n fo fs st0,wanted st.g gd,bV S.N st.g az)=(some (.ops dr fr q,fs',st),some true,some [.v (cI s)]))
 (h:Le m (sW S c Q dr fr d (.p .lenSl) l fs' dd (cZ st d (.v (.int .i64 s.l.length))))):Le m (rn S c Q fo fs st0):=by
 simp  at u;exact qF u.1 B u.2.1 (Q5 u.2.2) h
end
section
variable {q:a_ RO} {fs':a_ Fm}
end
theorem Gs (m:Tb bu) (n:Nat) (l:a_ V):nS (iV m n) (l.map .v)=some l:=by rw[<-(A4 m n).2,pg]
variable {A:α->a_ V} {E:δ->a_ V} {p:α->bf δ} {fn:FuncId} {sc:Bool}
end
abbrev iv (n:Int):SV:=.v (.int .i64 n)
abbrev bv (b:Bool):SV:=.v (.bool b)
abbrev len {α:Type} (s:Sl α):Int:=((List.length (Sl.l s):Nat):Int)
abbrev o1 (d:Nat) (a:Arg) (dd:a_ Nat):RO:=⟨some d,none,false,.p .id,[a],dd,[]⟩
abbrev o2 (d:Nat) (k:K) (az:a_ Arg) (dd:a_ Nat):RO:=⟨some d,none,false,k,az,dd,[]⟩
abbrev o3 (d s:Nat) (b:Bool) (k:K) (az:a_ Arg) (dd:a_ Nat):RO:=⟨some d,some (s,b),false,k,az,dd,[]⟩
def J_ (a b:bg):Bool:=[a.proc,a.index]==[b.proc,b.index]
section
variable {α:Type} [bz α]
theorem wR (h:bz.agg α=false) (a:α):cells a=[enc a]:=by
 have t:(cells a).length=1:=by rw[show (cells a).length=_ from bz.len a,bz.plain h]
 unfold enc;rw[if_neg (by simp[h])]
 match hc:cells a,t with
 | [x],_=>rfl
theorem AU (h:bz.agg α=true) (a:α):enc a=.agg (cells a):=by unfold enc;grind
theorem lF (a:α):V.good (enc a)=true:=by
 have h:V.cQ (cells a)=true:=bz.good a
 cases t:bz.agg α with
 | true=>rw[AU t];exact h
 | false=>
  rw[wR t]at h;simp[V.cQ]at h;omega
theorem nX (s:Sl α):V.one (enc s)=true:=E6 s
theorem PG (s:α) (h:bz.agg α=false):V.one (enc s)=true:=by
 have:=bz.one s;rw[show bz.cells s=cells s from rfl,wR h]at this
 grind
end
instance {α:Type} [bz α]:bz (bf α) where
 cells o:=[match o with|none=>.gN|some x=>.fptr (cells x)]
 agg:=false
 size:=1
 len _:=rfl
 good o:=by
  cases o with
  | none=>rfl
  | some x=>simp only[V.cQ,V.good,Bool.and_true];exact bz.good x
 one o:=by cases o <;> rfl
 plain _:=rfl
structure U8 where
 v:Int
 deriving Inhabited,DecidableEq
instance:bz U8 where
 cells n:=[.int .u8 n.v]
 agg:=false
 size:=1
 len _:=rfl
 good _:=rfl
 one _:=rfl
 plain _:=rfl
structure X5 where
 v:Int
 deriving Inhabited,DecidableEq
instance:bz X5 where
 cells n:=[.int .u64 n.v]
 agg:=false
 size:=1
 len _:=rfl
 good _:=rfl
 one _:=rfl
 plain _:=rfl
structure X8 where
 v:Int
 deriving Inhabited,DecidableEq
instance:bz X8 where
 cells n:=[.int .u32 n.v]
 agg:=false
 size:=1
 len _:=rfl
 good _:=rfl
 one _:=rfl
 plain _:=rfl
structure XT where
 v:Int
 deriving Inhabited,DecidableEq
instance:bz XT where
 cells n:=[.int .i32 n.v]
 agg:=false
 size:=1
 len _:=rfl
 good _:=rfl
 one _:=rfl
 plain _:=rfl
structure kG (S:Sys) (c:bU) {α δ:Type} (g:FuncId) (w e:List V) (A:α->List V) (R:δ->List V) (p:α->Option δ) (b:Bool):Prop where
 f:l8 S c g (λz=>w++A z++e) R p b
section
variable {S:Sys} {c:bU} {β γ δ α:Type} {Q:Out×St->bf β} {e:γ->bf β} {fo:Fo} {fs:a_ Fm} {st0:St} {l:a_ RO} {d:bf Nat} {gd:bf (Nat×Bool)} {now:Bool} {az:a_ Arg} {dd:a_ Nat}
theorem gT {α:Type} [bz α] (a:α):V.cells (enc a)=cells a:=by
 cases t:bz.agg α with
 | true=>rw[AU t];rfl
 | false=>
  have h1  := PG a t;rw[wR t];cases h:enc a <;> first|rfl|(rw[h]at h1;cases h1)
theorem tJ {α:Type} [bz α] (a:α):(cells a).all V.one=true:=bz.one a
theorem gH {α:Type} [bz α] (a:α):(cells a).length=bz.size α:=bz.len a
theorem Ast [bz α] (n:Nat) (dr:Bool) (fr:a_ Nat) (q:a_ RO) (fs':a_ Fm) (st:St) (u o:Nat) (x:α) (cs B:a_ SV) {sz:Nat} {m:bf β} (G:q=⟨d,gd,now,.l (.store sz),az,dd,[]⟩::l)
 (D:(fL S c n fo fs st0,wanted st.g gd,bV S.N st.g az,bl st.m u,(!dr||now),sz,Nat.ble (o+sz) cs.length,cs.take o++(cells x).map .v++cs.drop (o+sz))=(some (.ops dr fr q,fs',st),some true,some [.ptr u o,cv x],some (.box cs),true,bz.size α,true,B))
 (h:Le m (sW S c Q dr fr d (.l (.store sz)) l fs' dd (cZ { st with m:=bA st.m u (.box B) } d (.v .undef)))):Le m (rn S c Q fo fs st0):=by
 simp only[ζc]at D;obtain⟨h1,t,w,z,C,I,J,L⟩:=D;refine qF h1 G t ?_ h;rw[r_,w];subst I;have O:=Nat.le_of_ble_eq_true J;simp only[ζb,C,if_true,jC,z,putCells,gT,gH,tJ,O,and_self,L,Option.map_some]
theorem z7 {α:Type} [bz α]:∀(xs:a_ α) (pre:a_ (a_ V)) (u:a_ (a_ V)),u.length=xs.length->eV (bz.size α) (pre++u) ((List.range' pre.length xs.length).zip (xs.map enc))=some (pre++rows xs)
 | [],pre,u,h=>by
  have  := List.eq_nil_of_length_eq_zero h;subst this;rfl
 | x::xs,pre,s::u,h=>by
  simp only[List.length_cons,List.range'_succ,List.map_cons,List.zip_cons_cons,eV,gT,gH,tJ];have:=z7 xs (pre++[cells x]) u Zd
  simp only[ζi,List.length_cons,List.length_nil]at this;have e:(pre++s::u).set pre.length (cells x)=pre++[cells x]++u:=by simp
  rw[e,this];simp[rows]
theorem Ya [bz α] (n:Nat) (dr:Bool) (fr:a_ Nat) (q:a_ RO) (fs':a_ Fm) (st:St) (xs:a_ α) {u sz ln:Nat} {zero:a_ V} {ix:a_ Nat} {m:bf β} (D:q=⟨some u,gd,now,.a (.buildSl sz ln zero ix),az,dd,[]⟩::l)
 (G:st.new u=true) (B:(fL S c n fo fs st0,wanted st.g gd,bV S.N st.g az,sz,ln,ix)=(some (.ops dr fr q,fs',st),some true,some ((xs.map enc).map .v),bz.size α,xs.length,List.range' 0 xs.length))
 (h:Le m (sW S c Q dr fr (some u) (.a (.buildSl sz ln zero ix)) l fs' dd { st with g:=bA st.g u (.own u),m:=bA st.m u (cn (.row xs)) })):Le m (rn S c Q fo fs st0):=by
 simp only[ζc]at B;obtain⟨h1,t,w,z,C,I⟩:=B;subst z C I;refine qF h1 D t ?_ h;rw[yR,w];simp only[ζb,G,mw,kL,List.length_range',List.length_map];have:=z7 xs [] (List.replicate xs.length zero) Zc
 simp  at this;rw[this];rfl
theorem XD [bz α] (n:Nat) (dr:Bool) (fr:a_ Nat) (q:a_ RO) (fs':a_ Fm) (st:St) (x:α) (vs:a_ V) {z:a_ V} {pl:a_ (Nat×Nat)} {m:bf β} (B:q=⟨d,gd,now,.p (.build z pl),az,dd,[]⟩::l)
 (hp:kf z pl vs=some (cells x)) (D:bz.agg α=true)
 (u:(fL S c n fo fs st0,wanted st.g gd,bV S.N st.g az)=(some (.ops dr fr q,fs',st),some true,some (vs.map .v)))
 (h:Le m (sW S c Q dr fr d (.p (.build z pl)) l fs' dd (cZ st d (cv x)))):Le m (rn S c Q fo fs st0):=by
 simp  at u;refine qF u.1 B u.2.1 (B8 u.2.2 rfl ?_) h;unfold jl;rw[kL];simp only[P6,hp,Option.map_some];show some (SV.v (.agg (cells x)))=some (.v (enc x));rw[AU D]
section
variable [bz α]
theorem XL (n:Nat) (dr:Bool) (fr:a_ Nat) (q:a_ RO) (fs':a_ Fm) (st:St) (B D:Bool) (G:a_ V) {sz:Nat} {s:Sl α} {a b:bf Int} {f:Sl α->bf γ} (J:q=⟨d,gd,now,.p (.slice sz B D),az,dd,[]⟩::l)
 (u:(fL S c n fo fs st0,wanted st.g gd,bV S.N st.g az,mO B D G,sz)=(some (.ops dr fr q,fs',st),some true,some (.v (cI s)::G.map .v),some (a,b),bz.size α))
 (h:∀x,gm s a b=some x->Le ((f x).bind e) (sW S c Q dr fr d (.p (.slice sz B D)) l fs' dd (cZ st d (.v (cI x))))):Le (((gm s a b).bind f).bind e) (rn S c Q fo fs st0):=by
 simp  at u;refine DZ u.1 J u.2.1 (Le.of_eq ?_) h;have w  := u.2.2.1;unfold fH lG;simp[wanted,gj,w];have t:jl S.N st.m (.slice sz B D) ((cI s::G).map .v)=(gm s a b).bind λx=>some (.v (cI x)):=by
  unfold jl;rw[kL];simp[bS,u.2.2.2.1,KN s a b sz u.2.2.2.2];cases gm s a b <;> rfl
 simp  at t ⊢;rw[t];cases gm s a b <;> rfl
def kO (s:Sl α) (u B:bf Int):bf (Sl α):=
 match s with
 | .nil|.emp=>none
 | .row x|.part x=>(dH x.length u B).map λ(l,h)=>.part ((x.take h).drop l)
theorem Wf (n:Nat) (fr:a_ Nat) (q:a_ RO) (fs':a_ Fm) (st:St) (D G:Bool) (u:Nat) (J:a_ V) {t sz:Nat} {s:Sl α} {a b:bf Int} {f:Sl α->bf γ} (T:q=⟨some t,gd,now,.p (.slice sz D G),az,dd,[]⟩::l)
 (O:St.new { st with m:=cz u st.m } t=true) (B:(fL S c n fo fs st0,wanted st.g gd,bV S.N st.g az,mO D G J,bl st.m u,sz)=(some (.ops false fr q,fs',st),some true,some (.own u::J.map .v),some (a,b),some (cn s),bz.size α))
 (h:∀x,kO s a b=some x->Le ((f x).bind e) (sW S c Q false fr (some t) (.p (.slice sz D G)) l fs' dd { st with g:=bA st.g t (.own t),m:=bA (cz u st.m) t (cn x) })):Le (((kO s a b).bind f).bind e) (rn S c Q fo fs st0):=by
 simp  at B;refine DZ B.1 T B.2.1 (Le.of_eq ?_) h;obtain⟨_,_,z,w,C,I⟩:=B;subst I;unfold fH lG;simp[wanted,gj,z,zw,kL,C,w]
 cases s with
 | nil=>simp[kO,cn,Sl.k,bQ]
 | emp=>simp[kO,cn,Sl.k,bQ]
 | row x=>
  simp[cn,Sl.k,Sl.l,bQ,kO,fW,w]
  cases dH x.length a b with
  | none=>rfl
  | some r=>simp[O,cZ,rows,List.map_drop]
 | part x=>
  simp[cn,Sl.k,Sl.l,bQ,kO,fW,w]
  cases dH x.length a b with
  | none=>rfl
  | some r=>simp[O,cZ,rows,List.map_drop]
end
end
structure bP (n:Nat) (α:Type) where
 l:List α
 len:l.length=n
theorem ON {α:Type} [bz α] (l:a_ α):(l.map (cells (α:=α))).flatten.length=l.length*bz.size α:=by
 induction l with
 | nil=>simp
 | cons a l t=>simp[t,gH,Nat.add_mul,Nat.add_comm]
theorem MX {α:Type} [bz α] (l:a_ α):V.cQ (l.map (cells (α:=α))).flatten=true:=by
 induction l with
 | nil=>rfl
 | cons a l t=>
  have h:∀(x y:a_ V),V.cQ x=true->V.cQ y=true->V.cQ (x++y)=true:=by
   intro x
   induction x with
   | nil=>grind
   | cons b x u=>intro y h1 w;simp[V.cQ]at h1 ⊢;grind
  exact h _ _ (bz.good a) t
instance {n:Nat} {α:Type} [bz α]:bz (bP n α) where
 cells a:=(a.l.map cells).flatten
 agg:=true
 size:=n*bz.size α
 len a:=by rw[ON,a.len]
 good a:=MX a.l
 one a:=by
  have:∀l:a_ α,(l.map (cells (α:=α))).flatten.all V.one=true:=by
   intro l
   induction l with
   | nil=>rfl
   | cons a l t=>simp only[List.map_cons,List.flatten_cons,List.all_append,t,tJ,Bool.and_self]
  exact this a.l
 plain h:=by cases h
def bP.Mc (n:Nat) {α:Type} (z:α):bP n α:=⟨List.replicate n z,by simp⟩
def bP.at {n:Nat} {α:Type} (a:bP n α) (i:Int):bf α:=if 0<=i then a.l[i.toNat]? else none
def bP.set {n:Nat} {α:Type} (a:bP n α) (i:Int) (x:α):bP n α:=⟨a.l.set i.toNat x,by simp[a.len]⟩
def pa {n:Nat} {α:Type} [bz α] (a:bP n α) (i:Int):a_ V:=(cells a).drop (i.toNat*bz.size α)
theorem bP.vj {n:Nat} {α:Type} {a:bP n α} {i:Int} {x:α} (h:a.at i=some x):0<=i/\i.toNat<n/\a.l[i.toNat]? = some x:=by
 unfold bP.at at h;split at h
 next t=>refine⟨t,?_,h⟩;have:=(ζe.1 h).1;rw[<-a.len];simp_all
 simp_all
theorem E7 {α:Type} [bz α]:∀(l:a_ α) (k:Nat),((l.map (cells (α:=α))).flatten).drop (k*bz.size α)=((l.drop k).map (cells (α:=α))).flatten
 | [],k=>by simp
 | a::l,0=>by simp
 | a::l,k+1=>by
  have h  := gH a;rw[List.map_cons,List.flatten_cons,List.drop_succ_cons,<-E7 l k,Nat.add_mul,Nat.one_mul,Nat.add_comm,<-h,List.drop_length_add_append]
theorem AD {n:Nat} {α:Type} [bz α] {a:bP n α} {i:Int} {x:α} (h:a.at i=some x):∃r,pa a i=cells x++r:=by
 obtain⟨h1,z,u⟩:=bP.vj h;obtain⟨t,w⟩:=ζe.1 u;refine⟨((a.l.drop (i.toNat+1)).map cells).flatten,?_⟩;show ((a.l.map (cells )).flatten).drop (i.toNat*bz.size α)=_;rw[E7,List.drop_eq_getElem_cons t,List.map_cons,List.flatten_cons,w]
section
variable {S:Sys} {c:bU} {β γ δ α:Type} {Q:Out×St->bf β} {e:γ->bf β} {fo:Fo} {fs:a_ Fm} {st0:St} {l:a_ RO} {d:bf Nat} {gd:bf (Nat×Bool)} {now:Bool} {az:a_ Arg} {dd:a_ Nat}
section
variable {N:Nat} [bz α]
theorem V8 (n:Nat) (dr:Bool) (fr:a_ Nat) (q:a_ RO) (fs':a_ Fm) (st:St) (k:IntKind) {ln sz:Nat} {a:bP N α} {i:Int} {f:α->bf γ} (B:q=⟨d,gd,now,.p (.idxA ln sz),az,dd,[]⟩::l)
 (u:(fL S c n fo fs st0,wanted st.g gd,bV S.N st.g az,sz,ln)=(some (.ops dr fr q,fs',st),some true,some [cp a,.v (.int k i)],bz.size α,N))
 (h:∀x,a.at i=some x->Le ((f x).bind e) (sW S c Q dr fr d (.p (.idxA ln sz)) l fs' dd (cZ st d (.v (.fptr (pa a i)))))):Le (((a.at i).bind f).bind e) (rn S c Q fo fs st0):=by
 simp  at u;obtain⟨h1,w,z,C,D⟩:=u;subst C D;refine DZ h1 B w ?_ h;intro r hr;obtain⟨x,G,hr⟩:=ζg.1 hr;obtain⟨g1,g2,_⟩:=bP.vj G;rw[B8  z rfl ?_]
 .omega
 rw[yE];simp[bS,wJ];have t:i.toNat*bz.size α<=(cells a).length:=by
  rw[gH];exact Nat.mul_le_mul_right _ (Nat.le_of_lt g2)
 rw[if_pos ⟨g1,by omega⟩,if_pos t]
 rfl
theorem Xp (n:Nat) (dr:Bool) (fr:a_ Nat) (q:a_ RO) (fs':a_ Fm) (st:St) (a:bP N α) (i:Int) (o:Nat) (x:α) (B:a.at i=some x) {k:Nat} {m:bf β} (D:q=⟨d,gd,now,.p (.fieldAddr k),az,dd,[]⟩::l)
 (u:(fL S c n fo fs st0,wanted st.g gd,bV S.N st.g az,Nat.ble (o+k) (bz.size α))=(some (.ops dr fr q,fs',st),some true,some [.v (.fptr ((pa a i).drop o))],true))
 (h:Le m (sW S c Q dr fr d (.p (.fieldAddr k)) l fs' dd (cZ st d (.v (.fptr ((pa a i).drop (o+k))))))):Le m (rn S c Q fo fs st0):=by
 simp only[ζc]at u;obtain⟨h1,t,w,z⟩:=u;refine qF h1 D t (B8 w rfl ?_) h;have C:=Nat.le_of_ble_eq_true z;obtain⟨r,hr⟩:=AD B;have G:(pa a i).length>=bz.size α:=by rw[hr,ζi,gH];omega
 rw[H_,Gn,if_pos Zd,List.drop_drop]
 rfl
theorem Wz (n:Nat) (dr:Bool) (fr:a_ Nat) (q:a_ RO) (fs':a_ Fm) (st:St) (a:bP N α) (i:Int) (o:Nat) (x:α) (D:a.at i=some x) {sz:Nat} {ag:Bool} {v:V} (hv:(cut (cells x) o sz).bind (mk ag)=some v) (u:V) {m:bf β} (G:q=⟨d,gd,now,.r (.load sz ag),az,dd,[]⟩::l)
 (B:(fL S c n fo fs st0,wanted st.g gd,bV S.N st.g az,v)=(some (.ops dr fr q,fs',st),some true,some [.v (.fptr ((pa a i).drop o))],u))
 (h:Le m (sW S c Q dr fr d (.r (.load sz ag)) l fs' dd (cZ st d (.v u)))):Le m (rn S c Q fo fs st0):=by
 simp  at B;obtain⟨h1,z,C,rfl⟩:=B;refine qF h1 G z ?_ h;rw[Cz,C];have hold:eH fr [SV.v (.fptr ((pa a i).drop o))]=true:=rfl;simp[hold,MZ];obtain⟨r,hr⟩:=AD D;rw[hr];have hc:cut ((cells x++r).drop o) 0 sz=cut (cells x) o sz:=by
  cases t:cut (cells x) o sz with
  | none=>grind
  | some w=>
   unfold cut at t ⊢;dsimp only at t ⊢;split at t
   .have e1:(List.drop 0 (List.drop o (cells x++r))).take sz=((cells x).drop o).take sz:=by
     have I:sz=0\/o<=(cells x).length:=by
      grind
     grind
    grind
   grind
 cases t:cut (cells x) o sz with
 | none=>grind
 | some w=>grind
theorem UD (n:Nat) (dr:Bool) (fr:a_ Nat) (q:a_ RO) (fs':a_ Fm) (st:St) (cs:a_ SV) {u sz:Nat} {zero:a_ V} {m:bf β} (D:q=⟨some u,gd,now,.a (.alloc sz zero),az,dd,[]⟩::l)
 (G:st.new u=true) (B:(fL S c n fo fs st0,wanted st.g gd,bV S.N st.g az,zero.map SV.v)=(some (.ops dr fr q,fs',st),some true,some [],cs))
 (h:Le m (sW S c Q dr fr (some u) (.a (.alloc sz zero)) l fs' dd { st with g:=bA st.g u (.ptr u 0),m:=bA st.m u (.box cs) })):Le m (rn S c Q fo fs st0):=by
 simp  at B;obtain⟨h1,t,w,z⟩:=B;subst z;refine qF h1 D t ?_ h;rw[yR,w];simp[G,mw]
theorem tc (d:Nat) (l:a_ V):SV.c6 d (l.map .v)=false:=by
 induction l with
 | nil=>rfl
 | cons a l t=>simp[SV.c6,SV.ct,t]
theorem s9 {α:Type} [bz α] (d:Nat) (x:α):bu.ct d (bx x)=false:=tc d (cells x)
theorem Wq (n:Nat) (dr:Bool) (fr:a_ Nat) (q:a_ RO) (fs':a_ Fm) (st:St) (k:IntKind) (u:Nat) {ln sz:Nat} {a:bP N α} {i:Int} {f:α->bf γ} (D:q=⟨d,gd,now,.p (.idxA ln sz),az,dd,[]⟩::l)
 (B:(fL S c n fo fs st0,wanted st.g gd,bV S.N st.g az,sz,ln,bl st.m u)=(some (.ops dr fr q,fs',st),some true,some [.ptr u 0,.v (.int k i)],bz.size α,N,some (bx a)))
 (h:∀x,a.at i=some x->Le ((f x).bind e) (sW S c Q dr fr d (.p (.idxA ln sz)) l fs' dd (cZ st d (.ptr u (i.toNat*bz.size α+0))))):Le (((a.at i).bind f).bind e) (rn S c Q fo fs st0):=by
 simp  at B;obtain⟨h1,t,w,G,I,z⟩:=B;refine DZ h1 D t ?_ h;intro r hr;obtain⟨x,C,hr⟩:=ζg.1 hr;obtain⟨g1,g2,_⟩:=bP.vj C;rw[B8  w rfl ?_]
 .omega
 simp[jl,cV,wW,z]
 grind
theorem QA {a:bP N α} {i:Int} {o:Nat} {x:α} (u:a.at i=some x) {sz:Nat} {ag:Bool} {v:V} (hv:(cut (cells x) o sz).bind (mk ag)=some v):vk sz ag ((((cells a).map SV.v).drop (i.toNat*bz.size α+o)).take sz)=some (.v v):=by
 obtain⟨r,hr⟩:=AD u;have e1:(((cells a).map SV.v).drop (i.toNat*bz.size α+o)).take sz=(((cells x).drop o).take sz).map SV.v:=by
  have t:((cells x).drop o).take sz=((cells x++r).drop o).take sz:=by
   cases hc:cut (cells x) o sz with
   | none=>grind
   | some w=>
    unfold cut at hc;dsimp only at hc;split at hc
    .have B:sz=0\/o<=(cells x).length:=by
      grind
     grind
    simp_all
  rw[t,<-hr,pa,List.drop_drop,List.map_take,List.map_drop]
 rw[e1];unfold vk
 cases hc:cut (cells x) o sz with
 | none=>grind
 | some w=>
  rw[hc]at hv;unfold cut at hc;dsimp only at hc;split at hc
  .rename_i z;cases hc;simp only[List.length_map,z];unfold mk at hv
   cases ag with
   | true=>
    simp only[if_true]at hv ⊢;cases hv;rw[kL]
   | false=>
    grind
  simp_all
theorem Wg (n:Nat) (dr:Bool) (fr:a_ Nat) (q:a_ RO) (fs':a_ Fm) (st:St) (u:Nat) (a:bP N α) (i:Int) (o:Nat) (x:α) (G:a.at i=some x) {sz:Nat} {ag:Bool} {v:V} (hv:(cut (cells x) o sz).bind (mk ag)=some v) (B:V) {m:bf β} (J:q=⟨d,gd,now,.r (.load sz ag),az,dd,[]⟩::l)
 (D:(fL S c n fo fs st0,wanted st.g gd,bV S.N st.g az,v,bl st.m u,(!dr||now||eH fr [.ptr u 0]))=(some (.ops dr fr q,fs',st),some true,some [.ptr u (i.toNat*bz.size α+o)],B,some (bx a),true))
 (h:Le m (sW S c Q dr fr d (.r (.load sz ag)) l fs' dd (cZ st d (.v B)))):Le m (rn S c Q fo fs st0):=by
 simp only[ζc]at D;obtain⟨h1,t,w,rfl,z,C⟩:=D;refine qF h1 J t ?_ h;rw[Cz,w];have hold:(!dr||now||eH fr [SV.ptr u (i.toNat*bz.size α+o)])=true:=C;simp only[ζb,hold,XK,z,Nv];rw[QA G hv];rfl
theorem NP {N:Nat} (a:bP N α) (i:Int) (y:α) (h:i.toNat<N):cells (a.set i y)=(cells a).take (i.toNat*bz.size α)++cells y++(cells a).drop ((i.toNat+1)*bz.size α):=by
 have key:∀(l:a_ α) (k:Nat),k<l.length->((l.set k y).map (cells )).flatten=(l.map (cells )).flatten.take (k*bz.size α)++cells y++(l.map (cells )).flatten.drop ((k+1)*bz.size α):=by
  intro l
  induction l with
  | nil=>grind
  | cons b l t=>
   intro k h;have u  := gH b
   cases k with
   | zero=>
    grind
   | succ k=>
    simp only[List.map_cons,List.flatten_cons];have e1:(k+1)*bz.size α=(cells b).length+k*bz.size α:=by grind
    have e2:(k+1+1)*bz.size α=(cells b).length+(k+1)*bz.size α:=by grind
    rw[e2,List.drop_length_add_append]
    grind
 exact key a.l i.toNat (by rw[a.len];omega)
theorem Wx (n:Nat) (dr:Bool) (fr:a_ Nat) (q:a_ RO) (fs':a_ Fm) (st:St) (u:Nat) (a:bP N α) (i:Int) (o:Nat) (x:α) (B:a.at i=some x) (y:α) (v:V) {sz:Nat} (G:cells y=(cells x).take o++v.cells++(cells x).drop (o+sz)) {m:bf β} (J:q=⟨d,gd,now,.l (.store sz),az,dd,[]⟩::l)
 (D:(fL S c n fo fs st0,wanted st.g gd,bV S.N st.g az,bl st.m u,(!dr||now),v.cells.length,v.cells.all V.one,Nat.ble (o+sz) (bz.size α))=(some (.ops dr fr q,fs',st),some true,some [.ptr u (i.toNat*bz.size α+o),.v v],some (bx a),true,sz,true,true))
 (h:Le m (sW S c Q dr fr d (.l (.store sz)) l fs' dd (cZ { st with m:=bA st.m u (bx (a.set i y)) } d (.v .undef)))):Le m (rn S c Q fo fs st0):=by
 simp only[ζc]at D;obtain⟨h1,w,z,C,I,L,O,T⟩:=D;refine qF h1 J w ?_ h;rw[r_,z];have W:=Nat.le_of_ble_eq_true T;obtain⟨g1,g2,g3⟩:=bP.vj B;have U:i.toNat*bz.size α+o+sz<=((cells a).map SV.v).length:=by
  rw[List.length_map,gH];have:(i.toNat+1)*bz.size α<=N*bz.size α:=Nat.mul_le_mul_right _ g2;rw[Nat.add_mul,Nat.one_mul]at this;show _<=N*bz.size α;omega
 simp only[ζb,I,if_true,jC,C,putCells,L,O,U,and_self,Option.map_some];obtain⟨r,hr⟩:=AD B;have e:((cells a).map SV.v).take (i.toNat*bz.size α+o)++v.cells.map .v++((cells a).map SV.v).drop (i.toNat*bz.size α+o+sz)=(cells (a.set i y)).map SV.v:=by
  rw[NP a i y g2,G];have hd:(cells a).drop (i.toNat*bz.size α)=cells x++r:=hr;have t  := gH x;have e1:(cells a).take (i.toNat*bz.size α+o)=(cells a).take (i.toNat*bz.size α)++(cells x).take o:=by
   rw[List.take_add,hd,List.take_append_of_le_length Za]
  have e2:(cells a).drop (i.toNat*bz.size α+o+sz)=(cells x).drop (o+sz)++(cells a).drop ((i.toNat+1)*bz.size α):=by
   have e3:(cells a).drop ((i.toNat+1)*bz.size α)=r:=by
    rw[Nat.add_mul,Nat.one_mul,<-List.drop_drop,hd,<-t,List.drop_left]
   rw[e3,Nat.add_assoc,<-List.drop_drop,hd,List.drop_append_of_le_length Za]
  rw[<-List.map_take,<-List.map_drop,e1,e2]
  grind
 rw[e]
end
theorem R6 {α:Type} [bz α] {m:Tb bu} {d:Nat} {x:α} {vs:a_ V} (h:bl m d=some (bx x)):nS (iV m 8) (.ptr d 0::vs.map .v)=some (.fptr (cells x)::vs):=by
 have h1:iV m 8 (.ptr d 0)=some (.fptr (cells x)):=by
  show (match bl m d with
   | some (.box cs)=>match nS (iV m 7) cs with
    | some t=>if 0<=t.length then some (V.fptr (t.drop 0))else none
    | none=>none
   | _=>none)=_
  rw[h];simp[Gs]
 simp[nS,h1,Gs]
theorem Wo (n:Nat) {fo:Fo} {fs fs':a_ Fm} {st0 st:St} {rs:a_ RV} {e:γ->bf (a_ V)} {r:γ} (svs:a_ SV) {ys:a_ V} (u:nS (iV st.m 8) svs=some ys) (h:(fL S c n fo fs st0,i_ st rs)=(some (.rt,fs',st),some svs)) (B:e r=some ys) :
 Le ((some r).bind e) (rn S c (ql rs) fo fs st0):=by
 simp  at h;rw[oq h.1];refine Le.of_eq ?_;simp[rn,ql,h.2,u]
 grind
abbrev Mo (κ ν:Type):=a_ (κ×ν)
class Key (κ:Type) [bz κ] [DecidableEq κ] where
 kk:wZ
 ok:∀a:κ,oZ kk (enc a)=true
 eq:∀a b:κ,wH (enc a) (enc b)=some (decide (a=b))
instance:Key Int where
 kk:=.int .i64
 ok _:=rfl
 eq a b:=by
  show some (a==b)=some (decide (a=b));rw[show (a==b)=decide (a=b)from Bool.eq_iff_iff.2 Zc]
instance:Key bg where
 kk:=.ints 2
 ok _:=rfl
 eq a b:=by
  obtain⟨p,i⟩:=a;obtain⟨q,j⟩:=b;simp only[wH,kg,gZ,Vr,Option.map_some,List.length_cons,if_true,ζa];rw[Bool.eq_iff_iff];simp
section
variable {κ ν:Type} [bz κ] [DecidableEq κ] [Key κ] [bz ν]
def uc (k:κ):Mo κ ν->bf ν
 | []=>none
 | (a,v)::r=>if k=a then some v else uc k r
def wY (m:Mo κ ν) (k:κ) (z:ν):ν:=(uc k m).getD z
def nr (m:Mo κ ν) (k:κ) (v:ν):Mo κ ν:=
 match m with
 | []=>[(k,v)]
 | (a,w)::r=>if k=a then(k,v)::r else(a,w)::nr r k v
def nT (m:Mo κ ν):a_ (V×V):=m.map λx=>(enc x.1,enc x.2)
def sM (m:Mo κ ν):bu:=.mp (nT m)
theorem Jq (k:κ):∀(m:Mo κ ν) (i:Nat),(ij (enc k) (nT m) i).map (Option.map (·.2))=some ((uc k m).map enc)
 | [],i=>rfl
 | (a,v)::r,i=>by
  simp only[nT,List.map_cons,ij,Key.eq,uc]
  by_cases h:k=a
  .grind
  simp only[h];exact Jq k r (i+1)
theorem OJ (k:κ) (v:ν) (m:Mo κ ν):oT (enc k) (enc v) (nT m)=some (nT (nr m k v)):=by
 unfold oT;have key:∀(m:Mo κ ν) (pre:a_ (V×V)) (i:Nat),pre.length=i->(match ij (enc k) (nT m) i with
  | some (some (j,_))=>some ((pre++nT m).set j (enc k,enc v))
  | some none=>some (pre++nT m++[(enc k,enc v)])
  | none=>none)=some (pre++nT (nr m k v)):=by
  intro m
  induction m with
  | nil=>simp[nT,ij,nr]
  | cons x r t=>
   obtain⟨a,w⟩:=x;intro pre i h;rw[show nT ((a,w)::r)=(enc a,enc w)::nT r from rfl];simp[ij,Key.eq,nr]
   by_cases hk:k=a
   .subst hk h;simp[nT]
   simp[hk];rw[show nT ((a,w)::nr r k v)=(enc a,enc w)::nT (nr r k v)from rfl];have:=t (pre++[(enc a,enc w)]) (i+1) (by simp[h])
   grind
 have:=key m [] 0 rfl
 grind
theorem Wl (n:Nat) (dr:Bool) (fr:a_ Nat) (q:a_ RO) (fs':a_ Fm) (st:St) (u:Nat) (mp:Mo κ ν) (k:κ) (z:ν) {kk:wZ} {B:V} {m:bf β} (G:q=⟨d,gd,now,.r (.lookup kk B false),az,dd,[]⟩::l)
 (D:(fL S c n fo fs st0,wanted st.g gd,bV S.N st.g az,bl st.m u,(!dr||now||eH fr [.mp u,cv k]),B,kk)=(some (.ops dr fr q,fs',st),some true,some [.mp u,cv k],some (sM mp),true,enc z,Key.kk κ))
 (h:Le m (sW S c Q dr fr d (.r (.lookup kk B false)) l fs' dd (cZ st d (cv (wY mp k z))))):Le m (rn S c Q fo fs st0):=by
 simp only[ζc]at D;obtain⟨h1,t,C,I,J,L,O⟩:=D;subst L O;refine qF h1 G t ?_ h;rw[Cz,C];simp only[ζb,J,oI,I,sM,Key.ok];have:=Jq k mp 0;simp[wY]
 cases T:ij (enc k) (nT mp) 0 with
 | none=>grind
 | some r=>
  rw[T]at this
  cases r with
  | none=>
   cases U:uc k mp with
   | none=>rfl
   | some w=>grind
  | some w=>
   cases U:uc k mp with
   | none=>grind
   | some W=>
    grind
theorem Xn (n:Nat) (dr:Bool) (fr:a_ Nat) (q:a_ RO) (fs':a_ Fm) (st:St) (u:Nat) (mp:Mo κ ν) (k:κ) (v:ν) {kk:wZ} {m:bf β} (D:q=⟨d,gd,now,.l (.mapUp kk),az,dd,[]⟩::l)
 (B:(fL S c n fo fs st0,wanted st.g gd,bV S.N st.g az,bl st.m u,(!dr||now),kk)=(some (.ops dr fr q,fs',st),some true,some [.mp u,cv k,cv v],some (sM mp),true,Key.kk κ))
 (h:Le m (sW S c Q dr fr d (.l (.mapUp kk)) l fs' dd (cZ { st with m:=bA st.m u (sM (nr mp k v)) } d (.v .undef)))):Le m (rn S c Q fo fs st0):=by
 simp only[ζc]at B;obtain⟨h1,t,w,z,C,G⟩:=B;subst G;refine qF h1 D t ?_ h;rw[r_,w];simp[C,jC,z,sM,Key.ok,OJ]
end
end
instance {n:Nat}:OfNat Arg n:=⟨.s n⟩
abbrev bI (o:BinOp):K:=.p (.bin (some .int) none o)
abbrev ix (n:Nat):K:=.p (.idxS n)
abbrev ld (n:Nat):K:=.r (.load n false)
abbrev lD (n:Nat):K:=.r (.load n true)
abbrev fa (n:Nat):K:=.p (.fieldAddr n)
abbrev ln:K:=.p .lenSl
abbrev Iv (n:Nat) (x:Int):Nat×SV:=(n,iv x)
abbrev Bv (n:Nat) (x:Bool):Nat×SV:=(n,bv x)
abbrev Cv {α:Type} [bz α] (n:Nat) (x:α):Nat×SV:=(n,cv x)
abbrev Kv {α:Type} [bz α] (n:Nat) (x:α):Nat×SV:=(n,cp x)
abbrev Pv (n:Nat):Nat×SV:=(n,.ptr n 0)
abbrev Ov (n:Nat):Nat×SV:=(n,.own (2000+n))
abbrev Xb {α:Type} [bz α] (n:Nat) (x:α):Nat×bu:=(n,bx x)
abbrev Lb {α:Type} [bz α] (n:Nat) (x:Sl α):Nat×bu:=(n,cn x)
abbrev on (d:Nat) (k:K) (az:a_ Arg) (dd:a_ Nat):RO:=⟨some d,none,true,k,az,dd,[]⟩
abbrev oz (k:K) (az:a_ Arg) (dd:a_ Nat):RO:=⟨none,none,false,k,az,dd,[]⟩
attribute [simp] Td TG SO
theorem l8.zR {S:Sys} {T:pe} {f:FuncId} {b:Bool} (u:T f=none) (hk:S.E.keep f=false) (B:S.zR f []=some (.bool b)) :
 l8 S (dc S T) f (λ_:Unit=>[]) (λr:Bool=>[.bool r]) (λ_=>some b) true where
 k:=hk
 h _:=by
  have h:=EF (az:=[]) u hk B;intro r hr;cases hr;unfold lW;rw[h];exact pg 8 [.bool b]
 s _ _:=rfl
def Wp {α:Type} (m:bf α) (P:α->Prop):Prop:=∃a,m=some a/\P a
section
variable {α β:Type} {P Q:α->Prop}
theorem bk (a:α):Wp (some a) P↔P a:=⟨λh=>by obtain⟨b,e,p⟩:=h;cases e;exact p,λp=>⟨a,rfl,p⟩⟩
theorem S9:Wp (none:bf α) P↔False:=⟨λh=>(by obtain⟨b,e,p⟩:=h;cases e),λh=>False.elim h⟩
theorem eY {m:bf β} {k:β->bf α}:Wp (m.bind k) P↔Wp m λb=>Wp (k b) P:=by
 cases m with
 | none=>simp only[Option.bind_none,S9]
 | some b=>simp only[ζb,bk]
theorem cg {t:Bool} {a b:bf α}:Wp (bp t a b) P↔(t=true->Wp a P)/\(t=false->Wp b P):=by
 cases t <;> simp[bp]
theorem Wp.mono {m:bf α} (h:Wp m P) (u:∀a,P a->Q a):Wp m Q:=let ⟨a,e,p⟩:=h;⟨a,e,u a p⟩
theorem Wp.and {m:bf α} (h:Wp m P) (u:Wp m Q):Wp m λa=>P a/\Q a:=by
 obtain⟨a,e,p⟩:=h;obtain⟨b,e2,q⟩:=u;rw[e]at e2;cases e2;exact⟨a,e,p,q⟩
theorem Wp.eq {m:bf α} {a:α} (h:Wp m λx=>x=a):m=some a:=by obtain⟨b,e,rfl⟩:=h;exact e
end
section
variable {σ ε ρ:Type}
theorem fc (step:σ->bf (Fw σ ε ρ)) (s:σ):bM step s=(step s).bind λw=>match w with
 | .n u=>bM step u
 | .x e=>some (.x e)
 | .r b=>some (.r b):=by
 have h1:∀r,bM step s=some r->((step s).bind λw=>match w with
  | .n u=>bM step u
  | .x e=>some (.x e)
  | .r b=>some (.r b))=some r:=by
  intro r h;obtain⟨k,hk⟩:=pI.1 h
  cases k with
  | zero=>simp[kQ]at hk
  | succ k=>
   simp only[kQ]at hk
   cases t:step s with
   | none=>rw[t]at hk;cases hk
   | some w=>
    rw[t]at hk
    cases w with
    | n u=>exact pI.2 ⟨k,hk⟩
    | x e=>exact hk
    | r b=>exact hk
 cases z:bM step s with
 | some r=>exact(h1 r z).symm
 | none=>
  cases hr:((step s).bind λw=>match w with
  | .n u=>bM step u
  | .x e=>some (.x e)
  | .r b=>some (.r b))with
  | none=>rfl
  | some r=>
   exfalso
   cases t:step s with
   | none=>rw[t]at hr;cases hr
   | some w=>
    rw[t]at hr;simp only[ζb]at hr;have:bM step s=some r:=by
     cases w with
     | n u=>
      obtain⟨k,hk⟩:=pI.1 hr;exact pI.2 ⟨k+1,by simp only[kQ,t];exact hk⟩
     | x e=>exact pI.2 ⟨1,by simp only[kQ,t];exact hr⟩
     | r b=>exact pI.2 ⟨1,by simp only[kQ,t];exact hr⟩
    rw[z]at this;cases this
def RK (I:σ->Prop) (μ:σ->Nat) (B:ε->Prop) (D:ρ->Prop) (s:σ):Fw σ ε ρ->Prop
 | .n u=>I u/\μ u<μ s
 | .x e=>B e
 | .r b=>D b
def Xh (u:ε->Prop) (B:ρ->Prop):Fw Empty ε ρ->Prop
 | .x e=>u e
 | .r b=>B b
theorem PT {step:σ->bf (Fw σ ε ρ)} (I:σ->Prop) (μ:σ->Nat) (u:ε->Prop) (B:ρ->Prop) (h:∀s,I s->Wp (step s) (RK I μ u B s)) {s:σ} (D:I s):Wp (bM step s) (Xh u B):=by
 have key:∀n s,μ s<=n->I s->Wp (bM step s) (Xh u B):=by
  intro n
  induction n with
  | zero=>
   intro s G t;obtain⟨w,z,hr⟩:=h s t;rw[fc,z]
   cases w with
   | n C=>exact absurd hr.2 Za
   | x e=>exact⟨_,rfl,hr⟩
   | r b=>exact⟨_,rfl,hr⟩
  | succ n J=>
   intro s G t;obtain⟨w,z,hr⟩:=h s t;rw[fc,z]
   cases w with
   | n C=>exact J C (by have:=hr.2;omega) hr.1
   | x e=>exact⟨_,rfl,hr⟩
   | r b=>exact⟨_,rfl,hr⟩
 exact key (μ s) s (Nat.le_refl _) D
theorem eG {γ:Type} {step:σ->bf (Fw σ ε ρ)} {u:ε->bf γ} {fr:ρ->bf γ} {P:γ->Prop} (I:σ->Prop) (μ:σ->Nat) {s:σ} (B:I s)
 (h:∀s,I s->Wp (step s) (RK I μ (λe=>Wp (u e) P) (λb=>Wp (fr b) P) s)):Wp ((bM step s).bind (Fw.elim u fr)) P:=by
 rw[eY];refine(PT I μ _ _ h B).mono ?_;intro w t
 cases w with
 | n a=>cases a
 | x e=>exact t
 | r b=>exact t
end
theorem Lg {β γ δ:Type} {e:γ->bf β} {m:bf δ} {f:δ->bf γ} {L:bf β} (h:∀x,m=some x->Le ((f x).bind e) L):Le ((m.bind f).bind e) L:=by
 cases m with
 | none=>exact Le.none _
 | some x=>exact h x rfl
section
variable {S:Sys} {c:bU} {β:Type} {Q:Out×St->bf β} {fo:Fo} {fs:a_ Fm} {st0:St} {l:a_ RO} {d:bf Nat} {now:Bool} {az:a_ Arg} {dd:a_ Nat}
theorem Le.get {β:Type} {r:β} {L:bf β} (h:Le (some r) L):L=some r:=h r rfl
theorem Kt {n:Nat} {fo fo':Fo} {fs fs':a_ Fm} {st:St} (A:Bool->St) {t:Bool} {m:bf β} (u:t=true) (h:fL S c n fo fs st=some (fo',fs',A t)) (B:Le m (rn S c Q fo' fs' (A true))):Le m (rn S c Q fo fs st):=by
 rw[oq h,u];exact B
theorem Kf {n:Nat} {fo fo':Fo} {fs fs':a_ Fm} {st:St} (A:Bool->St) {t:Bool} {m:bf β} (u:t=false) (h:fL S c n fo fs st=some (fo',fs',A t)) (B:Le m (rn S c Q fo' fs' (A false))):Le m (rn S c Q fo fs st):=by
 rw[oq h,u];exact B
theorem Oy {α:Type} [bz α] {s:Sl α} {i:Int} {x:α} {r:β} {L:bf β} (u:idx s i=some x) (h:Le (((idx s i).bind λ_=>some r).bind some) L):Le (some r) L:=by
 rw[u]at h;exact h
theorem Xl {n:Nat} {q:a_ RO} {fs':a_ Fm} {st:St} {id:Nat} {vs:a_ SV} {xs:a_ V} {u:a_ (a_ V)} {m:bf β}
 (B:fL S c n fo fs st0=some (.ops false [] q,fs',st)) (D:q=⟨d,none,now,.c,az,dd,[]⟩::l) (G:bV S.N st.g az=some (.yl id::vs)) (J:cV vs=some xs) (O:st.want=xs::u) (T:id=st.yid)
 (h:Le m (rn S c Q (.ops false [] l) fs' (oP dd (cZ { st with want:=u } d (.v (.bool (st.more || !u.isEmpty))))))):Le m (rn S c Q fo fs st0):=by
 refine QM B D rfl ?_ h;unfold fH;simp only[wanted,gj,G,J,O,T,if_true,and_self,Bool.false_eq_true,if_false]
theorem AN (a:RC) (fs:a_ Fm) (st:St):rn S c Q (.rc (.loop a)) fs st=(n5 (cw S c a) st).bind (D3 (mF S c Q fs) (mD S c Q fs) (λst=>Q (.ret,st))):=by
 show jS S c Q (.loop a) fs st=_;unfold jS;rw[CK];rfl
theorem Sj {f:St->bf (Out×St)} {st st':St} (h:f st=some (.norm,st')):n5 f st=n5 f st':=by
 have key:∀r,n5 f st=some r↔n5 f st'=some r:=λr=>by
  constructor
  .intro hr;obtain⟨k,hk⟩:=mE.1 hr
   cases k with
   | zero=>simp[iW]at hk
   | succ k=>simp only[iW,h]at hk;exact mE.2 ⟨k,hk⟩
  intro hr;obtain⟨k,hk⟩:=mE.1 hr;exact mE.2 ⟨k+1,by simp only[iW,h];exact hk⟩
 cases t:n5 f st with
 | none=>
  cases u:n5 f st' with
  | none=>rfl
  | some r=>rw[(key r).2 u]at t;cases t
 | some r=>rw[(key r).1 t]
theorem Jz {f:St->bf (Out×St)} {st st':St} {o:Out} (h:f st=some (o,st')) (u:o≠.norm):n5 f st=some (o,st'):=by
 refine mE.2 ⟨1,?_⟩
 cases o with
 | norm=>exact absurd rfl u
 | exit k=>simp only[iW,h]
 | ret=>simp only[iW,h]
theorem E_ {a:RC} {fs:a_ Fm} {st st':St} (h:rn S c some (.rc a) [] st=some (.norm,st')):rn S c Q (.rc (.loop a)) fs st=rn S c Q (.rc (.loop a)) fs st':=by
 rw[AN,AN,Sj (by rw[AP];exact h)]
theorem EW {a:RC} {fs:a_ Fm} {st st':St} {k:Nat} (h:rn S c some (.rc a) [] st=some (.exit k,st')):rn S c Q (.rc (.loop a)) fs st=rn S c Q (.ex k) fs st':=by
 rw[AN,Jz (by rw[AP];exact h) Zc];rfl
theorem E3 {a:RC} {fs:a_ Fm} {st st':St} (h:rn S c some (.rc a) [] st=some (.ret,st')):rn S c Q (.rc (.loop a)) fs st=Q (.ret,st'):=by
 rw[AN,Jz (by rw[AP];exact h) Zc];rfl
end
def Qi:Out×St->bf Unit
 | (.exit _,_)=>none
 | (_,st)=>if st.want.isEmpty then some ()else none
def Sys.bare (S:Sys):Sys:=⟨S.E,S.N,λ_ _ _=>none,λ_ _=>none,λ_=>none⟩
def mY:bU:=λ_ _ _=>none
def De (u rest:a_ (a_ V)) (more:Bool):Prop:=more=true/\u=rest\/more=false/\u≠[]/\∃r,rest=u++r
theorem PK (S:Sys) {f:FuncId} {fi:FI} {nm:FuncId->bf Nat} {rf:RF} (D:S.E.ft f=some fi) (O:∀g s,nm g=some s->S.N s=g) (hr:yS S.E nm fi rf) {a b:a_ V} {xs:a_ (a_ V)} (B:a.length+1+b.length<=rf.na) (G:rf.rs=[])
 (h:∀u more,De u xs more->∀yid,rn S.bare mY Qi (.rc rf.body) [] ⟨xD 0 (a.map .v++.yl yid::b.map .v),[],[],u,more,yid⟩=some ()):gI S f a b xs:=by
 have k:gI S.bare f a b xs:=TE (S:=S.bare) (c:=mY) (fi:=fi) (nm:=nm) (rf:=rf) (λ_ _ h=>by cases h) (λ_ _ _ _ _ h=>by simp[mY]at h) (λ_ _ _ _ h=>by simp[Sys.bare]at h) D O hr B G (λu more w yid=>by
  have h1:=h u more w yid;change jS S.bare mY Qi rf.body [] _=some ()at h1;rw[ot]at h1;obtain⟨⟨o,st'⟩,z,t⟩:=ζg.1 h1;refine⟨o,st',z,?_,?_,rfl⟩
  .rintro id rfl;simp[Qi]at t
  cases o <;> simp[Qi]at t <;> exact t)
 intro u more w yid J y Z C I H h1 z t L Q;exact k u more w yid J ⟨y.xB,y.yield⟩ Z C I H h1 z t L Q
open Classical in
def x_ (P:FuncId->a_ V->a_ V->a_ (a_ V)->Prop) (f:FuncId) (a b:a_ V):bf (a_ (a_ V)):=if h:∃t,P f a b t then some (Classical.choose h)else none
theorem LA {P:FuncId->a_ V->a_ V->a_ (a_ V)->Prop} {f:FuncId} {a b:a_ V} {xs:a_ (a_ V)} (h:P f a b xs) (hu:∀ys,P f a b ys->ys=xs):x_ P f a b=some xs:=by
 have h1:∃xs,P f a b xs:=⟨xs,h⟩;unfold x_;rw[dif_pos h1,hu _ (Classical.choose_spec h1)]
theorem LL {P:FuncId->a_ V->a_ V->a_ (a_ V)->Prop} {f:FuncId} {a b:a_ V} {xs:a_ (a_ V)} (h:x_ P f a b=some xs):P f a b xs:=by
 unfold x_ at h;split at h
 next h1=>cases h;exact Classical.choose_spec h1
 cases h
theorem Vk {E:Env} {nm:FuncId->bf Nat} {f:FuncId} {rf:RF}
 (h:((E.ft f).bind λfi=>(bK ⟨E,nm,fi.ntmps⟩ false fi.body).bind λc=>(fi.results.mapM (A1 E)).bind λrs=>some (c,rs,fi.ntmps))=some (erase rf.body,rf.rs,rf.na)):∃fi,E.ft f=some fi/\yS E nm fi rf:=by
 obtain⟨fi,h1,u⟩:=ζg.1 h;obtain⟨c,w,z⟩:=ζg.1 u;obtain⟨rs,B,t⟩:=ζg.1 z;simp only[ζa,ζc]at t;obtain⟨rfl,rfl,C⟩:=t;exact⟨fi,h1,w,B,C.symm⟩
theorem FR.oK {H:bn} {Z Z':Nat->Prop} {x y z:V} (h:FR H Z x z) (k:FR H Z' y z):x=y:=by
 obtain⟨n,t⟩:=Ac x;obtain⟨m,u⟩:=Ac y;have e1:=h.borrow (max n m) (zQ (Nat.le_max_left _ _) t);have e2:=k.borrow (max n m) (zQ (Nat.le_max_right _ _) u);rw[e1]at e2;exact Option.some.inj e2
open Classical in
def zZ (E:Env) (f:FuncId) (az:a_ V):bf V:=if h:∃y,zC E f az y then some (Classical.choose h)else none
theorem M5 {E:Env} {f:FuncId} {az:a_ V} {y:V} (h:zZ E f az=some y):zC E f az y:=by
 unfold zZ at h;split at h
 next h1=>cases h;exact Classical.choose_spec h1
 cases h
theorem FD {E:Env} {f:FuncId} {az:a_ V} {y:V} (h:zC E f az y):zZ E f az=some y:=by
 have h1:∃y,zC E f az y:=⟨y,h⟩;unfold zZ;rw[dif_pos h1];obtain⟨n,z,H,Z,k1,k2,_⟩:=h;obtain⟨t,u,H',Z',k3,k4,_⟩:=Classical.choose_spec h1;have e1:=(qw E (Nat.le_max_left n t)).go _ _ _ _ k1;have e2:=(qw E (Nat.le_max_right n t)).go _ _ _ _ k3;rw[e1]at e2;cases e2;rw[FR.oK k4 k2]
theorem IV {E:Env} {f:FuncId} {az:a_ V} {y:V} (u:V.scalar y=true) (h:∃n H',run E n (.fn f) az []=some (y,H')):zC E f az y:=by
 obtain⟨n,H',h⟩:=h;exact⟨n,y,H',λ_=>False,h,.same _ (jo u),λ_ h=>h.elim,⟨λ_ _ _ h=>h.elim⟩⟩
end Go.VE
