/-
 Plain values and the steps of a certificate.
-/
import Derived.KernelRfl
import Derived.Test.YtegogepdjcdfcagGreatDoorN2
set_option linter.all false
noncomputable section
namespace Go.VE
variable [bK]
inductive Sl (α:Type) where
 | nil
 | emp
 | row (l:List α)
 | part (l:List α)
 deriving Inhabited
def Sl.l {α:Type}:Sl α->a_ α
 | .nil|.emp=>[]
 | .row l|.part l=>l
def Sl.k {α:Type}:Sl α->Fl
 | .nil=>.nil
 | .emp=>.emp
 | .row _=>.row
 | .part _=>.part
class bz (α:Type) where
 cells:α->List V
 agg:Bool
 size:Nat
 len:∀a,(cells a).length=size
 good:∀a,V.cN (cells a)=true
 one:∀a,(cells a).all V.one=true
 plain:agg=false->size=1
def cells {α:Type} [bz α] (a:α):a_ V:=bz.cells a
def enc {α:Type} [bz α] (a:α):V:=if bz.agg α then .agg (cells a)else(cells a).headD .undef
def rows {α:Type} [bz α] (l:a_ α):a_ (a_ V):=l.map cells
def cg {α:Type} [bz α] (s:Sl α):V:=iY s.k (bz.size α) (rows s.l)
instance:bz Int where
 cells n:=[.int .i64 n]
 agg:=false
 size:=1
 len _:=rfl
 good _:=rfl
 one _:=rfl
 plain _:=rfl
instance:bz Bool where
 cells b:=[.bool b]
 agg:=false
 size:=1
 len _:=rfl
 good _:=rfl
 one _:=rfl
 plain _:=rfl
instance:bz ByteArray where
 cells s:=[.str s]
 agg:=false
 size:=1
 len _:=rfl
 good _:=rfl
 one _:=rfl
 plain _:=rfl
structure bg where
 proc:Int
 index:Int
 deriving DecidableEq,Inhabited
instance:bz bg where
 cells x:=[.int .i64 x.proc,.int .i64 x.index]
 agg:=true
 size:=2
 len _:=rfl
 good _:=rfl
 one _:=rfl
 plain h:=by cases h
@[simp] theorem U9 (n:Int):enc n=.int .i64 n:=rfl
@[simp] theorem UZ (n:Bool):enc n=.bool n:=rfl
@[simp] theorem U_ (n:ByteArray):enc n=.str n:=rfl
@[simp] theorem Up (n:Int):cells n=[.int .i64 n]:=rfl
@[simp] theorem TU (n:Bool):cells n=[.bool n]:=rfl
@[simp] theorem Uv (n:ByteArray):cells n=[.str n]:=rfl
@[simp] theorem U5 (n:bg):cells n=[.int .i64 n.proc,.int .i64 n.index]:=rfl
@[simp] theorem RW (n:bg):enc n=.agg [.int .i64 n.proc,.int .i64 n.index]:=rfl
section
variable {α:Type} [bz α]
theorem gi (l:a_ α):(rows l).length=l.length:=by simp[rows]
def idx (s:Sl α) (i:Int):bf α:=if 0<=i then s.l[i.toNat]? else none
theorem MZ {N:Nat->FuncId} (s:Sl α) (k:IntKind) (i:Int) {n:Nat} (u:n=bz.size α):bP N (.idxS n) [cg s,.int k i]=(idx s i).map λx=>.fptr (cells x):=by
 subst u;unfold idx cg;simp only[bP,kC]
 by_cases h:i<0
 .rw[if_pos h,if_neg Za];rfl
 rw[if_neg h,if_pos Za]
 cases s <;> simp[Sl.k,Sl.l,iY,rows,Function.comp_def]
theorem Lh {N:Nat->FuncId} (s:Sl α):bP N .lenSl [cg s]=some (.int .i64 s.l.length):=by
 cases s <;> simp[bP,pE,cg,Sl.k,Sl.l,iY,gi]
end
section
variable {S:Sys} {c:bN}
end
end Go.VE
namespace Go.VE
variable [bK]
section
variable {S:Sys} {c:bN}
def isSlice:tU->Bool
 | .slice ..=>true
 | _=>false
theorem JH (dr:Bool) (fr:a_ Nat) (dst:bf Nat) (now:Bool) (p:tU) (az:a_ Arg) (st:St) (h:isSlice p=false) :
 eS S c dr fr ⟨dst,none,now,.p p,az,[],[]⟩ st=(bQ S.N st.g az).bind λsvs=>(iJ S.N st.m p svs).bind λx=>some (cU st dst x):=by
 unfold eS kF;have t:fA S.N st.g ⟨dst,none,now,.p p,az,[],[]⟩=none:=by unfold fA;grind
 simp[wanted,t]
 cases w:bQ S.N st.g az with
 | none=>rfl
 | some svs=>
  simp;cases p <;> first|(simp[isSlice]at h;done)|(cases u:iJ S.N st.m _ svs <;> simp[u])
theorem HX (N:Nat->FuncId) (m:Tb bu) (p:tU) (svs:a_ SV) (xs:a_ V) (h:cT svs=some xs):iJ N m p svs=(bP N p xs).bind λx=>some (.v x):=by
 unfold iJ;rw[h];dsimp only;cases bP N p xs <;> rfl
theorem BF (dr:Bool) (fr:a_ Nat) (dst:bf Nat) (now:Bool) (q:IE) (az:a_ Arg) (st:St) :
 eS S c dr fr ⟨dst,none,now,.r q,az,[],[]⟩ st=(bQ S.N st.g az).bind λsvs=>if !dr||now||eB fr svs then(n5 st.m q svs).bind λx=>some (cU st dst x)else none:=by
 unfold eS kF;have t:fA S.N st.g ⟨dst,none,now,.r q,az,[],[]⟩=none:=rfl;simp[wanted,t]
 cases u:bQ S.N st.g az with
 | none=>rfl
 | some svs=>
  simp;split
  .cases w:n5 st.m q svs <;> simp
  rfl
theorem wR (dr:Bool) (fr:a_ Nat) (d:Nat) (now:Bool) (q:KN) (az:a_ Arg) (st:St) :
 eS S c dr fr ⟨some d,none,now,.a q,az,[],[]⟩ st=(bQ S.N st.g az).bind λsvs=>if st.new d then(lR st.m q svs d).bind λr=>some { st with g:=bB st.g d r.2,m:=bB st.m d r.1 } else none:=by
 unfold eS kF;have t:fA S.N st.g ⟨some d,none,now,.a q,az,[],[]⟩=none:=rfl;simp[wanted,t]
 cases u:bQ S.N st.g az with
 | none=>rfl
 | some svs=>
  simp;split
  .cases w:lR st.m q svs d <;> simp[cU]
  rfl
theorem oU (dr:Bool) (fr:a_ Nat) (dst:bf Nat) (now:Bool) (q:IG) (az:a_ Arg) (st:St) :
 eS S c dr fr ⟨dst,none,now,.l q,az,[],[]⟩ st=(bQ S.N st.g az).bind λsvs=>if !dr||now then(gB st dst q svs).bind λr=>some (cU r.2 dst r.1)else none:=by
 unfold eS kF;have t:fA S.N st.g ⟨dst,none,now,.l q,az,[],[]⟩=none:=rfl;simp[wanted,t]
 cases u:bQ S.N st.g az with
 | none=>rfl
 | some svs=>
  simp;split
  .cases w:gB st dst q svs <;> simp
  rfl
theorem Ty (dr:Bool) (fr:a_ Nat) (dst:bf Nat) (now:Bool) (n:Nat) (az:a_ Arg) (st:St) (v:V) (hv:v=.bE\/v=.c7) (x:SV) (u:bQ S.N st.g az=some [.v v,x]) :
 eS S c dr fr ⟨dst,none,now,.e n,az,[],[]⟩ st=(gB st dst (.append n) [.v v,x]).bind λr=>some (cU r.2 dst r.1):=by
 unfold eS kF;have t:fA S.N st.g ⟨dst,none,now,.e n,az,[],[]⟩=none:=rfl;simp only[wanted,t,u];rcases hv with rfl|rfl
 .show (gB st dst (.append n) [.v .bE,x]).map _=_;cases gB st dst (.append n) [.v .bE,x] <;> rfl
 show (gB st dst (.append n) [.v .c7,x]).map _=_;cases gB st dst (.append n) [.v .c7,x] <;> rfl
def k_:a_ SV->bf (FuncId×a_ SV)
 | .clo f a b::vs=>some (f,a++vs++b)
 | .v (.clo f a b)::vs=>some (f,a.map .v++vs++b.map .v)
 | _=>none
theorem zh (dr:Bool) (fr:a_ Nat) (dst:bf Nat) (now:Bool) (az:a_ Arg) (st:St) (svs:a_ SV) (f:FuncId) (args:a_ SV) (u:bQ S.N st.g az=some svs) (hc:k_ svs=some (f,args)) :
 eS S c dr fr ⟨dst,none,now,.c,az,[],[]⟩ st=(eO S c dst dr (!dr||now) (eM st.m fr) f args st).bind λr=>some (cU r.2 dst r.1):=by
 unfold eS kF;unfold k_ at hc;split at hc
 .obtain⟨rfl,rfl⟩:=hc;simp[wanted,fA,u];cases eO S c dst dr _ _ _ _ st <;> simp
 .obtain⟨rfl,rfl⟩:=hc;simp[wanted,fA,u];cases eO S c dst dr _ _ _ _ st <;> simp
 grind
def M6 {β:Type} (S:Sys) (c:bN) (fr:a_ Nat) (l:a_ RO) (k:St->bf β):St->bf β:=λst=>(l9 S c false fr l st).bind k
def NQ {β:Type} (S:Sys) (c:bN) (fr:a_ Nat) (l:a_ RO) (k:St->bf β):St->bf β:=λst=>(l9 S c true fr l st).bind k
def Sh {β:Type} (S:Sys) (c:bN) (fr dd:a_ Nat) (l:a_ RO) (k:St->bf β):St->bf β:=λst=>M6 S c fr l k (nY dd st)
def Sf {β:Type} (S:Sys) (c:bN) (fr dd:a_ Nat) (l:a_ RO) (k:St->bf β):St->bf β:=λst=>NQ S c fr l k (nY dd st)
@[congr] theorem T0 {β:Type} {fr:a_ Nat} {l:a_ RO} {k:St->bf β} {st st':St} (h:st=st'):M6 S c fr l k st=M6 S c fr l k st':=by rw[h]
@[congr] theorem TI {β:Type} {fr u:a_ Nat} {l:a_ RO} {k:St->bf β} {st st':St} (B:fr=u) (h:st=st'):NQ S c fr l k st=NQ S c u l k st':=by simp_all
@[congr] theorem TQ {β:Type} {fr dd:a_ Nat} {l:a_ RO} {k:St->bf β} {st st':St} (h:st=st'):Sh S c fr dd l k st=Sh S c fr dd l k st':=by rw[h]
@[congr] theorem T5 {β:Type} {fr u dd:a_ Nat} {l:a_ RO} {k:St->bf β} {st st':St} (B:fr=u) (h:st=st'):Sf S c fr dd l k st=Sf S c u dd l k st':=by simp_all
@[congr] theorem Ux {dr:Bool} {fr:a_ Nat} {o:RO} {st st':St} (h:st=st'):eS S c dr fr o st=eS S c dr fr o st':=by rw[h]
end
section
variable {S:Sys} {c:bN} (dr:Bool) (fr:a_ Nat) (dst:bf Nat) (now:Bool) (az:a_ Arg) (st:St)
end
inductive Fm where
 | seq (b:RC)
 | blk (id:Nat)
 | gst (x:Gh)
section
variable (S:Sys) (c:bN) {β:Type} (Q:Out×St->bf β)
def runK:a_ Fm->Out×St->bf β
 | [],r=>Q r
 | .seq b::fs,(.norm,st)=>(cA S c b st).bind (runK fs)
 | .seq _::fs,r=>runK fs r
 | .blk id::fs,(.exit k,st)=>if k=id then runK fs (.norm,st)else runK fs (.exit k,st)
 | .blk _::fs,r=>runK fs r
 | .gst x::fs,(.norm,st)=>(ghost x st).bind λst=>runK fs (.norm,st)
 | .gst _::fs,r=>runK fs r
def go (rc:RC) (fs:a_ Fm) (st:St):bf β:=(cA S c rc st).bind (runK S c Q fs)
def Oz (fs:a_ Fm):St->bf β:=λst=>runK S c Q fs (.norm,st)
def bt {α:Type} (t:Bool) (a b:α):α:=if t then a else b
end
@[congr] theorem UC {α:Type} {t u:Bool} {a b a' B:α} (h:t=u) (D:u=true->a=a') (G:u=false->b=B):bt t a b=bt u a' B:=by
 subst h;cases t
 .exact G rfl
 exact D rfl
section
variable {S:Sys} {c:bN} {β:Type} {Q:Out×St->bf β}
@[congr] theorem go_congr {a:RC} {fs:a_ Fm} {st st':St} (h:st=st'):go S c Q a fs st=go S c Q a fs st':=by rw[h]
@[congr] theorem Tn {fs:a_ Fm} {st st':St} (h:st=st'):Oz S c Q fs st=Oz S c Q fs st':=by rw[h]
@[congr] theorem TN {fs:a_ Fm} {r u:Out×St} (h:r=u):runK S c Q fs r=runK S c Q fs u:=by rw[h]
theorem Gb (rc:RC) (st:St):(cA S c rc st).bind Q=go S c Q rc [] st:=by
 simp only[go];cases cA S c rc st <;> rfl
inductive Fw (ν ε ρ:Type) where
 | n (a:ν)
 | x (e:ε)
 | r (b:ρ)
def kn {σ ε ρ:Type} (step:σ->bf (Fw σ ε ρ)):Nat->σ->bf (Fw Empty ε ρ)
 | 0,_=>none
 | k+1,s=>match step s with
  | some (.n u)=>kn step k u
  | some (.x e)=>some (.x e)
  | some (.r b)=>some (.r b)
  | none=>none
theorem vF {σ ε ρ:Type} {step:σ->bf (Fw σ ε ρ)}:∀{k u:Nat} {s:σ} {r:Fw Empty ε ρ},k<=u->kn step k s=some r->kn step u s=some r
 | 0,_,_,_,_,h=>by simp[kn]at h
 | k+1,0,_,_,hk,_=>by omega
 | k+1,u+1,s,r,hk,h=>by
  simp only[kn]at h ⊢;split at h
  .exact vF (Nat.le_of_succ_le_succ hk) h
  .exact h
  .exact h
  simp at h
open Classical in
def bM {σ ε ρ:Type} (step:σ->bf (Fw σ ε ρ)) (s:σ):bf (Fw Empty ε ρ):=
 if h:∃k r,kn step k s=some r then some (Classical.choose (Classical.choose_spec h))else none
theorem oJ {σ ε ρ:Type} {step:σ->bf (Fw σ ε ρ)} {s:σ} {r:Fw Empty ε ρ}:bM step s=some r↔∃k,kn step k s=some r:=by
 unfold bM;constructor
 .intro h;split at h
  next t=>simp only[ζa]at h;exact⟨_,by rw[<-h];exact Classical.choose_spec (Classical.choose_spec t)⟩
  simp at h
 rintro⟨k,hk⟩;have t:∃k r,kn step k s=some r:=⟨k,r,hk⟩;rw[dif_pos t];have w:=Classical.choose_spec (Classical.choose_spec t);have z:=vF (Nat.le_max_left (Classical.choose t) k) w;have u:=vF (Nat.le_max_right (Classical.choose t) k) hk;rw[z]at u;exact u
def Fw.out {ν ε ρ:Type} (u:ν->St) (eε:ε->Nat×St) (eρ:ρ->St):Fw ν ε ρ->Out×St
 | .n a=>(.norm,u a)
 | .x e=>(.exit (eε e).1,(eε e).2)
 | .r b=>(.ret,eρ b)
def Fw.elim {ε ρ γ:Type} (u:ε->γ) (fr:ρ->γ):Fw Empty ε ρ->γ
 | .x e=>u e
 | .r b=>fr b
end
section
variable {α:Type} [bz α]
theorem DW (s:Sl α):V.one (cg s)=true:=by cases s <;> rfl
theorem Ma (l:a_ α):V.lQ (rows l)=true:=by
 induction l with
 | nil=>rfl
 | cons a l t=>simp only[rows,List.map_cons,V.lQ,ζh];exact⟨bz.good a,t⟩
theorem Ko (s:Sl α):V.good (cg s)=true:=by
 cases s <;> simp only[cg,Sl.k,iY,V.good] <;> exact Ma _
instance:bz (Sl α) where
 cells s:=[cg s]
 agg:=false
 size:=1
 len _:=rfl
 good s:=by simp only[V.cN,Ko,Bool.and_self]
 one s:=by simp[DW]
 plain _:=rfl
theorem Oa (s:Sl α):cells s=[cg s]:=rfl
end
section
variable {S:Sys} {c:bN}
def KG (x:bf SV) (b:Bool) (y z:bf St):bf St:=
 match x with
 | some (.v (.bool t))=>bt (t==b) y z
 | some (.v _)=>z
 | _=>none
@[congr] theorem Te {x u:bf SV} {b:Bool} {y z:bf St} (h:x=u):KG x b y z=KG u b y z:=by rw[h]
def O7 {β:Type} (x:bf SV) (y z:bf β):bf β:=
 match x with
 | some (.v (.bool t))=>bt t y z
 | _=>none
@[congr] theorem Tq {β:Type} {x u:bf SV} {y z:bf β} (h:x=u):O7 x y z=O7 u y z:=by rw[h]
def lB (c:bN) (f:FuncId) (az:a_ V):bf (a_ V):=(c f (az.map .v) []).bind λr=>cO r.2 8 r.1
def LU (now:Bool) (args:a_ SV) (ok:Bool) (st:St) (ys:a_ V):bf (SV×St):=
 if(result ys).scalar||ok then some (.v (result ys),st)else if now then(rowsOf st.m args).map λds=>(.v (result ys),{ st with m:=n_ ds st.m })else none
theorem Qy (dst:bf Nat) (dr now:Bool) (old:a_ SV->Bool) (f:FuncId) (args:a_ SV) (st:St) (hk:S.E.keep f=false) :
 eO S c dst dr now old f args st=(cO st.m 8 args).bind λaz=>if now||old args then(lB c f az).bind (LU now args (cT args).isSome st)else none:=by
 unfold eO lB;simp only[hk,Bool.false_eq_true,if_false]
 cases cO st.m 8 args with
 | none=>rfl
 | some az=>
  simp only[ζb];split
  .cases c f (az.map .v) []with
   | none=>rfl
   | some r=>
    obtain⟨rs,m'⟩:=r;simp only[ζb];cases cO m' 8 rs <;> rfl
  rfl
end
section
variable {S:Sys} {T:pg}
def GS (rs:a_ RV):Out×St->bf (a_ V)
 | (.exit _,_)=>none
 | (_,st)=>(iN st rs).bind (cO st.m 8)
theorem NW {f:FuncId} {rf:RF} (u:T f=some rf) (az:a_ V) (B:az.length<=rf.na):lB (dA S T) f az=go S (dA S T) (GS rf.rs) rf.body [] (start (az.map .v) []):=by
 unfold lB;rw[qn u];unfold lF;rw[if_pos (by simpa using B),<-Gb]
 cases h:cA S (dA S T) rf.body (start (az.map .v) [])with
 | none=>rfl
 | some r=>
  obtain⟨o,st⟩:=r;cases o <;> simp only[ζb,GS] <;> (try rfl) <;> (cases iN st rf.rs <;> rfl)
end
end Go.VE
namespace Go.VE
variable [bK]
variable {N:Nat->FuncId}
def VO (k:IntKind) (a b:Int):bf Int:=if b=0 then none else some (k.wrap (a.tdiv b))
theorem Gl (o:Nat) (cs:a_ V):bP N (.fieldAddr o) [.fptr cs]=if o<=cs.length then some (.fptr (cs.drop o))else none:=rfl
def jV (s:ByteArray) (n:Int):bf Int:=if 0<=n then(s[n.toNat]?).map λb=>(b.toNat:Int)else none
theorem L5 (s:ByteArray) (k:IntKind) (n:Int):bP N .idxStr [.str s,.int k n]=(jV s n).bind λx=>some (.int .u8 x):=by
 simp only[bP,jV];split
 .cases s[n.toNat]? <;> rfl
 rfl
theorem Nj (z:a_ V) (pl:a_ (Nat×Nat)) (vs:a_ V):bP N (.build z pl) vs=(jL z pl vs).bind λcs=>some (.agg cs):=by
 simp only[bP];cases jL z pl vs <;> rfl
section
variable {α:Type} [bz α]
theorem HW (s:Sl α) (k:IntKind) (i:Int) (n:Nat) (u:n=bz.size α):bP N (.idxS n) [cg s,.int k i]=(idx s i).bind λx=>some (.fptr (cells x)):=by
 rw[MZ s k i u];cases idx s i <;> rfl
theorem GN (s:Sl α):bP N .lenSl [cg s]=some (.int .i64 s.l.length):=Lh s
def Sl.isNil {α:Type} (s:Sl α):bf Bool:=
 match s with
 | .nil=>some true
 | .emp=>none
 | _=>some false
theorem N_ (q:bf Nat) (s:Sl α):bP N (.bin (some .slice) q .eql) [cg s,.bE]=s.isNil.bind λt=>some (.bool t):=by
 cases s <;> rfl
def jD (s:Sl α) (u B:bf Int):bf (Sl α):=
 (dD s.l.length u B).map λ(l,h)=>match s with
  | .nil=>.nil
  | .emp=>.emp
  | .row x=>.part ((x.take h).drop l)
  | .part x=>.part ((x.take h).drop l)
theorem Je (s:Sl α) (u B:bf Int) (n:Nat) (D:n=bz.size α):gX n (cg s) u B=(jD s u B).bind λx=>some (cg x):=by
 subst D
 cases s with
 | nil=>simp only[cg,Sl.k,iY,gX,jD,Sl.l,List.length_nil];cases dD 0 u B <;> rfl
 | emp=>simp only[cg,Sl.k,iY,gX,jD,Sl.l,List.length_nil];cases dD 0 u B <;> rfl
 | row l=>simp only[cg,Sl.k,iY,gX,jD,Sl.l,if_true,gi];cases dD l.length u B <;> simp[rows,List.map_take,List.map_drop]
 | part l=>simp only[cg,Sl.k,iY,gX,jD,Sl.l,if_true,gi];cases dD l.length u B <;> simp[rows,List.map_take,List.map_drop]
end
theorem Mg (m:Tb bu) (n:Nat) (a:Bool) (cs:a_ V):n5 m (.load n a) [.v (.fptr cs)]=(cut cs 0 n).bind λr=>(mk a r).bind λx=>some (.v x):=by
 simp only[n5,dV]
 cases cut cs 0 n with
 | none=>rfl
 | some r=>simp only[ζb];cases mk a r <;> rfl
end Go.VE
namespace Go.VE
variable [bK]
section
variable {α:Type} [bz α]
def cq (s:Sl α):bu:=.sl s.k (bz.size α) (rows s.l)
def Sl.jH (s:Sl α) (i:Int):bf Nat:=if 0<=i/\i.toNat<s.l.length then some i.toNat else none
def Sl.get (s:Sl α) (i:Nat):bf α:=s.l[i]?
def Sl.put (s:Sl α) (i:Nat) (x:α):bf (Sl α):=
 if i<s.l.length then some (match s with|.row l=>.row (l.set i x)|.part l=>.part (l.set i x)|s=>s)else none
def eA (s:Sl α) (x:α):bf (Sl α):=if s.l.length+1<=2147483648 then some (.row (s.l++[x]))else none
def iX (n:Int) (z:α):bf (Sl α):=if 0<=n/\n<=2147483648 then some (.row (List.replicate n.toNat z))else none
end
section
variable {α:Type} [bz α] {N:Nat->FuncId} {m:Tb bu}
def GQ (n d:Nat) (o:bf bu) (i:Int):bf SV:=
 match o with
 | some (.sl k es t)=>if bR k/\es=n/\0<=i/\i.toNat<t.length then some (.el d i.toNat 0)else none
 | some (.dp k t _)=>if bR k/\1=n/\0<=i/\i.toNat<t.length then some (.el d i.toNat 0)else none
 | _=>none
theorem HZ (n d:Nat) (k:IntKind) (i:Int):iJ N m (.idxS n) [.own d,.v (.int k i)]=GQ n d (bh m d) i:=by
 simp[iJ,cT,vh,GQ]
 grind
theorem QG (n d:Nat) (s:Sl α) (i:Int) (h:n=bz.size α):GQ n d (some (cq s)) i=(s.jH i).bind λj=>some (.el d j 0):=by
 simp[GQ,cq,gi,Sl.jH]
 cases s with
 | nil=>simp[Sl.l,bR]
 | emp=>simp[Sl.l,bR]
 | row l=>simp[Sl.k,Sl.l,bR];grind
 | part l=>simp[Sl.k,Sl.l,bR];grind
def JL (o:bf bu):bf SV:=
 match o with
 | some (.sl _ _ t)=>some (.v (.int .i64 t.length))
 | some (.dp _ t _)=>some (.v (.int .i64 t.length))
 | _=>none
theorem Oe (d:Nat):iJ N m .lenSl [.own d]=JL (bh m d):=by
 simp[iJ,cT,vh,JL]
 grind
theorem PB (s:Sl α):JL (some (cq s))=some (.v (.int .i64 s.l.length)):=by simp[JL,cq,gi]
def OH (n:Nat) (a:Bool) (o:Nat) (ob:bf bu):bf SV:=
 match ob with
 | some (.box cs)=>uf n a ((cs.drop o).take n)
 | _=>none
theorem UY (n:Nat) (a:Bool) (d o:Nat):n5 m (.load n a) [.ptr d o]=OH n a o (bh m d):=by
 rfl
theorem KJ (n:Nat) (a:Bool) (o:Nat) (cs:a_ SV):OH n a o (some (.box cs))=uf n a ((cs.drop o).take n):=rfl
def B8 (n:Nat) (a:Bool) (i o:Nat) (ob:bf bu):bf SV:=
 match ob with
 | some (.sl _ _ u)=>match u[i]? with
  | some cs=>((cut cs o n).bind (mk a)).map .v
  | none=>none
 | some (.dp _ _ (some (j,t)))=>if j=i/\o=0/\n=1/\a=false then some (.own t)else none
 | _=>none
theorem OI (n:Nat) (a:Bool) (d i o:Nat):n5 m (.load n a) [.el d i o]=B8 n a i o (bh m d):=by
 rfl
theorem Mi (n:Nat) (a:Bool) (i o:Nat) (s:Sl α):B8 n a i o (some (cq s))=(s.get i).bind λx=>(cut (cells x) o n).bind λr=>(mk a r).bind λy=>some (.v y):=by
 simp only[B8,cq,Sl.get,rows,List.getElem?_map]
 cases s.l[i]? with
 | none=>rfl
 | some x=>
  simp only[Option.map_some,ζb]
  cases cut (cells x) o n with
  | none=>rfl
  | some r=>simp ;cases mk a r <;> rfl
theorem T_ (z:α) (n:Int) (d:Nat) (size:Nat) (zero:a_ V) (h:zero=cells z) (u:size=bz.size α) :
 lR m (.makeSl size zero) [.v (.int .i64 n),.v (.int .i64 n)] d=(iX n z).bind λs=>some (cq s,.own d):=by
 subst h u;simp[lR,iX];split
 .simp[cq,Sl.k,Sl.l,rows]
 rfl
def CJ (st:St) (d i o size:Nat) (x:V) (ob:bf bu):bf (SV×St):=
 match ob with
 | some (.sl k es t)=>match t[i]? with
  | some cs=>if x.cells.length=size/\o+size<=cs.length/\x.cells.all V.one=true then
   some (.v .undef,{ st with m:=bB st.m d (.sl k es (t.set i (cs.take o++x.cells++cs.drop (o+x.cells.length)))) })else none
  | none=>none
 | _=>none
theorem Jg (st:St) (dst:bf Nat) (size d i o:Nat) (x:V):gB st dst (.store size) [.el d i o,.v x]=CJ st d i o size x (bh st.m d):=by
 rfl
theorem IW (g:Tb SV) (p:a_ Nat) (w:a_ (a_ V)) (B:Bool) (y:Nat) (d i size:Nat) (x:V) (a:α) (D:x.cells=cells a) (G:size=bz.size α) (s:Sl α) :
 CJ ⟨g,m,p,w,B,y⟩ d i 0 size x (some (cq s))=(s.put i a).bind λJ=>some (.v .undef,⟨g,bB m d (cq J),p,w,B,y⟩):=by
 have h1:(cells a).all V.one=true:=bz.one a;have u:∀b:α,(cells b).length=bz.size α:=bz.len;subst G;simp only[CJ,cq,rows,List.getElem?_map,D,Sl.put]
 by_cases t:i<s.l.length
 .have hg  := ζd t;rw[if_pos t,hg];simp[u,h1]
  cases s with
  | nil=>simp[Sl.l]at t
  | emp=>simp[Sl.l]at t
  | row l=>simp[Sl.k,Sl.l,List.drop_of_length_le,u]
  | part l=>simp[Sl.k,Sl.l,List.drop_of_length_le,u]
 grind
def si (st:St) (t n:Nat) (s:SV) (xs ys:bf (a_ (a_ V))):bf (SV×St):=
 match xs,ys with
 | some _,some []=>match s with
  | .own d=>match bh st.m d with
   | some ob=>if St.new { st with m:=cB d st.m } t then some (.own t,{ st with m:=bB (cB d st.m) t ob })else none
   | none=>none
  | .v .bE=>if st.new t then some (.own t,{ st with m:=bB st.m t (.sl .nil n []) })else none
  | .v .c7=>if st.new t then some (.own t,{ st with m:=bB st.m t (.sl .emp n []) })else none
  | _=>none
 | some xs,some ys=>
  if xs.length+ys.length<=2147483648/\Az s=true then
   if St.new { st with m:=giveUp st.m s } t then some (.own t,{ st with m:=bB (giveUp st.m s) t (.sl .row n (xs++ys)) })else none
  else none
 | _,_=>none
theorem tv {st:St} {t n:Nat} {s x:SV} {xs ys:a_ (a_ V)} (h1:gW st.m n s=some xs) (u:gW st.m n x=some ys):gB st (some t) (.append n) [s,x]=si st t n s (some xs) (some ys):=by
 cases ys <;> cases s <;> cases x <;> (unfold gB si;simp only[h1,u];try rfl)
def JS (n:Nat) (o:bf bu):bf (a_ (a_ V)):=
 match o with
 | some (.sl k es t)=>if bR k then(if es=n then some t else none)else some []
 | _=>none
theorem zi (n d:Nat):gW m n (.own d)=JS n (bh m d):=by
 simp[gW,JS]
 grind
theorem zS (n:Nat) (s:Sl α) (h:n=bz.size α):JS n (some (cq s))=some (rows s.l):=by
 subst h;cases s <;> simp[JS,cq,Sl.k,Sl.l,bR,rows]
theorem QE (n:Nat):gW m n (.v .bE)=some []:=rfl
theorem Qs (n:Nat):gW m n (.v .c7)=some []:=rfl
theorem KE (g:Tb SV) (p:a_ Nat) (w:a_ (a_ V)) (u:Bool) (y:Nat) (t n d:Nat) (l:a_ α) (x:α) (h:n=bz.size α):si ⟨g,m,p,w,u,y⟩ t n (.own d) (some (rows l)) (some (rows [x])) =
 (eA (.row l) x).bind λs=>if St.new ⟨g,cB d m,p,w,u,y⟩ t then some (.own t,⟨g,bB (cB d m) t (cq s),p,w,u,y⟩)else none:=by
 subst h;have e:(rows l).length+(rows [x]).length=l.length+1:=by simp[gi]
 by_cases h:l.length+1<=2147483648
 .have h1:eA (.row l) x=some (.row (l++[x])):=if_pos h;have z:si ⟨g,m,p,w,u,y⟩ t (bz.size α) (.own d) (some (rows l)) (some (rows [x]))=if St.new ⟨g,cB d m,p,w,u,y⟩ t then some (.own t,⟨g,bB (cB d m) t (.sl .row (bz.size α) (rows l++rows [x])),p,w,u,y⟩)else none:=if_pos ⟨by omega,rfl⟩
  rw[h1,z];simp[cq,Sl.k,Sl.l,rows]
 have h1:eA (.row l) x=none:=if_neg h;have z:si ⟨g,m,p,w,u,y⟩ t (bz.size α) (.own d) (some (rows l)) (some (rows [x]))=none:=if_neg (λq=>h Za)
 grind
theorem K7 (g:Tb SV) (p:a_ Nat) (w:a_ (a_ V)) (u:Bool) (y:Nat) (t n:Nat) (x:α) (h:n=bz.size α):si ⟨g,m,p,w,u,y⟩ t n (.v .bE) (some []) (some (rows [x])) =
 if St.new ⟨g,m,p,w,u,y⟩ t then some (.own t,⟨g,bB m t (cq (.row [x])),p,w,u,y⟩)else none:=by
 subst h;rfl
theorem KB (g:Tb SV) (p:a_ Nat) (w:a_ (a_ V)) (u:Bool) (y:Nat) (t n:Nat) (x:α) (h:n=bz.size α):si ⟨g,m,p,w,u,y⟩ t n (.v .c7) (some []) (some (rows [x])) =
 if St.new ⟨g,m,p,w,u,y⟩ t then some (.own t,⟨g,bB m t (cq (.row [x])),p,w,u,y⟩)else none:=by
 subst h;rfl
end
theorem wo (g:Tb SV) (m:Tb bu) (p:a_ Nat) (w:a_ (a_ V)) (u:Bool) (y d:Nat):St.new ⟨g,m,p,w,u,y⟩ d=(!(p.contains d)&&(bh m d).isNone && !(sV d g) && !(qU d m)):=rfl
theorem qw (d:Nat):sV d []=false:=rfl
theorem oV (d n:Nat) (x:SV) (r:Tb SV):sV d ((n,x)::r)=(SV.cw d x||sV d r):=rfl
theorem qy (d:Nat):qU d []=false:=rfl
theorem oS (d n:Nat) (x:bu) (r:Tb bu):qU d ((n,x)::r)=(bu.cw d x||qU d r):=rfl
theorem we (d:Nat) (x:V):SV.cw d (.v x)=false:=rfl
theorem rQ (d e:Nat):SV.cw d (.own e)=(e==d):=rfl
theorem rS (d e o:Nat):SV.cw d (.ptr e o)=(e==d):=rfl
theorem uq (d e i o:Nat):SV.cw d (.el e i o)=(e==d):=rfl
theorem uk (d e:Nat):SV.cw d (.mp e)=(e==d):=rfl
theorem sy (d:Nat) (f:FuncId) (a b:a_ SV):SV.cw d (.clo f a b)=(SV.c9 d a||SV.c9 d b):=rfl
theorem rJ (d:Nat) (l:a_ SV):SV.cw d (.tup l)=SV.c9 d l:=rfl
theorem qq (d:Nat):SV.c9 d []=false:=rfl
theorem oZ (d:Nat) (x:SV) (r:a_ SV):SV.c9 d (x::r)=(SV.cw d x||SV.c9 d r):=rfl
theorem qE (d:Nat) (cs:a_ SV):bu.cw d (.box cs)=SV.c9 d cs:=rfl
theorem Dw (m:Tb bu) (n:Nat):cO m n []=some []:=by cases n <;> simp[cO]
theorem Bq (m:Tb bu) (n:Nat) (x:SV) (r:a_ SV):cO m n (x::r)=(shut m n x).bind λy=>(cO m n r).bind λs=>some (y::s):=by
 cases n <;> (simp[cO];cases shut m _ x <;> (try rfl) <;> (cases cO m _ r <;> rfl))
theorem RH (m:Tb bu) (n:Nat) (x:V):shut m n (.v x)=some x:=by cases n <;> simp[shut]
def Jr (o:bf bu):bf V:=
 match o with
 | some (.sl k es t)=>some (iY k es t)
 | some (.dp k t none)=>some (iY k 1 t)
 | _=>none
theorem Oh (m:Tb bu) (n d:Nat):shut m n (.own d)=Jr (bh m d):=by
 cases n <;> (simp[shut,Jr];rfl)
theorem MD {α:Type} [bz α] (s:Sl α):Jr (some (cq s))=some (cg s):=rfl
theorem NF (m:Tb bu) (n:Nat) (f:FuncId) (a b:a_ SV):shut m (n+1) (.clo f a b)=(cO m n a).bind λx=>(cO m n b).bind λy=>some (.clo f x y):=by
 simp[shut];cases cO m n a <;> (try rfl) <;> (cases cO m n b <;> rfl)
theorem MV (m:Tb bu) (n:Nat) (l:a_ SV):shut m (n+1) (.tup l)=(cO m n l).bind λx=>some (.tup x):=by
 simp[shut];cases cO m n l <;> rfl
theorem M7 (m:Tb bu) (n:Nat) (l:a_ SV):shut m (n+1) (.agg l)=(cO m n l).bind λx=>some (.agg x):=by
 simp[shut];cases cO m n l <;> rfl
theorem rO {α:Type} (n:Nat):cB n ([]:Tb α)=[]:=rfl
theorem qA {α:Type} (n k:Nat) (x:α) (r:Tb α):cB n ((k,x)::r)=if k=n then cB n r else(k,x)::cB n r:=rfl
theorem mapM_nil (f:a_ SV->a_ SV):mapM f []=[]:=rfl
section
variable {N:Nat->FuncId} {m:Tb bu}
theorem Q4:result []=.tup []:=rfl
theorem Qk (x:V):result [x]=x:=rfl
theorem QV (x y:V) (l:a_ V):result (x::y::l)=.tup (x::y::l):=rfl
theorem EV (p:tU) (a:V):iJ N m p [.v a]=(bP N p [a]).bind λx=>some (.v x):=HX N m p _ [a] rfl
theorem wL (p:tU) (a b:V):iJ N m p [.v a,.v b]=(bP N p [a,b]).bind λx=>some (.v x):=HX N m p _ [a,b] rfl
theorem kV (l:a_ V):cT (l.map .v)=some l:=by
 induction l with
 | nil=>rfl
 | cons a l t=>simp only[List.map_cons,cT,t];rfl
theorem vu (n:Nat) (l:a_ V):cO m n (l.map .v)=some l:=by
 induction l with
 | nil=>exact Dw m n
 | cons a l t=>rw[List.map_cons,Bq,RH,t];rfl
theorem jR (cs:a_ V):jL cs [] []=some cs:=rfl
theorem ji (cs:a_ V) (off size:Nat) (pl:a_ (Nat×Nat)) (v:V) (vs:a_ V):jL cs ((off,size)::pl) (v::vs) =
 if v.cells.length=size/\off+v.cells.length<=cs.length then jL (cs.take off++v.cells++cs.drop (off+v.cells.length)) pl vs else none:=by
 simp only[jL]
 by_cases h:v.cells.length=size <;> by_cases t:off+v.cells.length<=cs.length
 .rw[if_neg (by simp[h];omega),if_pos ⟨h,t⟩]
 .rw[if_pos (by simp[h];omega),if_neg (λq=>t q.2)]
 .rw[if_pos (by simp[h]),if_neg (λq=>h q.1)]
 rw[if_pos (by simp[h]),if_neg (λq=>h q.1)]
theorem mq (k:IntKind) (n:Int):V.cells (.int k n)=[.int k n]:=rfl
theorem kI (n:Bool):V.cells (.bool n)=[.bool n]:=rfl
theorem mS (n:ByteArray):V.cells (.str n)=[.str n]:=rfl
theorem mG:V.cells .bE=[.bE]:=rfl
theorem mw (k:IntKind) (n:Int):V.one (.int k n)=true:=rfl
theorem kR (n:Bool):V.one (.bool n)=true:=rfl
theorem mK (n:ByteArray):V.one (.str n)=true:=rfl
end
section
variable {S:Sys} {c:bN} {β γ δ:Type} {Q:Out×St->bf β} {L:bf β} {e:γ->bf β}
theorem Mf {dr:Bool} {fr:a_ Nat} {d:bf Nat} {gd:bf (Nat×Bool)} {now:Bool} {k:K} {az:a_ Arg} {st:St} (h:wanted st.g gd=some true) :
 eS S c dr fr ⟨d,gd,now,k,az,[],[]⟩ st=eS S c dr fr ⟨d,none,now,k,az,[],[]⟩ st:=by
 unfold eS;rw[h];rfl
theorem AZ (dr:Bool) (st:St):AO dr [] st=some st:=by cases dr <;> rfl
def ng (f:SV->bf V):a_ SV->bf (a_ V)
 | []=>some []
 | x::r=>(f x).bind λy=>(ng f r).bind λs=>some (y::s)
def iL (m:Tb bu):Nat->SV->bf V
 | 0,x=>match x with
  | .v y=>some y
  | .own d=>match bh m d with
   | some (.sl k es xs)=>some (iY k es xs)
   | some (.dp k xs none)=>some (iY k 1 xs)
   | _=>none
  | .mp d=>match bh m d with
   | some (.mp u)=>some (.fmap u)
   | _=>none
  | _=>none
 | n+1,x=>match x with
  | .v y=>some y
  | .own d=>match bh m d with
   | some (.sl k es xs)=>some (iY k es xs)
   | some (.dp k xs none)=>some (iY k 1 xs)
   | _=>none
  | .ptr d o=>match bh m d with
   | some (.box cs)=>match ng (iL m n) cs with
    | some xs=>if o<=xs.length then some (.fptr (xs.drop o))else none
    | none=>none
   | _=>none
  | .mp d=>match bh m d with
   | some (.mp u)=>some (.fmap u)
   | _=>none
  | .clo f a b=>(ng (iL m n) a).bind λx=>(ng (iL m n) b).bind λy=>some (.clo f x y)
  | .tup l=>(ng (iL m n) l).bind λx=>some (.tup x)
  | .agg l=>(ng (iL m n) l).bind λx=>some (.agg x)
  | _=>none
theorem zC (m:Tb bu):∀(n:Nat),(∀x,shut m n x=iL m n x)/\∀l,cO m n l=ng (iL m n) l:=by
 have u:∀n,(∀x,shut m n x=iL m n x)->∀l,cO m n l=ng (iL m n) l:=by
  intro n h l
  induction l with
  | nil=>exact Dw m n
  | cons a l t=>rw[Bq,h a,t];rfl
 intro n
 induction n with
 | zero=>
  have w:∀x,shut m 0 x=iL m 0 x:=by
   intro x;cases x <;> simp[shut,iL] <;> rfl
  grind
 | succ n t=>
  have h1:∀x,shut m (n+1) x=iL m (n+1) x:=by
   intro x
   cases x with
   | ptr d o=>simp[shut,iL,t.2];rfl
   | clo f a b=>rw[NF,t.2,t.2];rfl
   | tup l=>rw[MV,t.2];rfl
   | agg l=>rw[M7,t.2];rfl
   | _=>simp[shut,iL] <;> rfl
  grind
def tI (S:Sys) (c:bN) (dr:Bool):a_ Nat->a_ RO->(St->bf β)->St->bf β
 | _,[],k,st=>k st
 | fr,o::r,k,st=>((AO dr o.pre st).bind (eS S c dr fr o.strip)).bind λst'=>tI S c dr (if dr then pG fr o.strip else fr) r k (nY o.dead st')
theorem CM (dr:Bool):∀(l:a_ RO) (fr:a_ Nat) (k:St->bf β) (st:St),tI S c dr fr l k st=(l9 S c dr fr l st).bind k
 | [],_,_,_=>rfl
 | o::r,fr,k,st=>by
  simp[tI,l9]
  cases (AO dr o.pre st).bind (eS S c dr fr o.strip)with
  | none=>rfl
  | some st'=>exact CM dr r _ k _
def nZ (S:Sys) (c:bN):RC->(St->bf β)->(Nat->St->bf β)->(St->bf β)->St->bf β
 | .skip,n,_,_,st=>n st
 | .ops l,n,_,_,st=>tI S c false [] l n st
 | .qO l,n,_,_,st=>tI S c true [] l n st
 | .seq a b,n,x,r,st=>nZ S c a (λst=>nZ S c b n x r st) x r st
 | .cond y a b,n,x,r,st=>match pn S.N st.g y with
  | some (.v (.bool t))=>bt t (nZ S c a n x r st) (nZ S c b n x r st)
  | _=>none
 | .block id a,n,x,r,st=>nZ S c a n (λk st=>if k=id then n st else x k st) r st
 | .loop a,n,x,r,st=>(ny (cA S c a) st).bind λq=>match q with|(.norm,st)=>n st|(.exit k,st)=>x k st|(.ret,st)=>r st
 | .each g ps a b,n,x,r,st=>(cA S c (.each g ps a b) st).bind λq=>match q with|(.norm,st)=>n st|(.exit k,st)=>x k st|(.ret,st)=>r st
 | .exit k,_,x,_,st=>x k st
 | .ret,_,_,r,st=>r st
 | .gh g a,n,x,r,st=>(ghost g st).bind λst=>nZ S c a n x r st
 | .hg a g,n,x,r,st=>nZ S c a (λst=>(ghost g st).bind n) x r st
def Dc (n:St->bf β) (x:Nat->St->bf β) (r:St->bf β):Out×St->bf β
 | (.norm,st)=>n st
 | (.exit k,st)=>x k st
 | (.ret,st)=>r st
theorem Cl:∀(rc:RC) (n:St->bf β) (x:Nat->St->bf β) (r:St->bf β) (st:St),nZ S c rc n x r st=(cA S c rc st).bind (Dc n x r):=by
 intro rc
 induction rc with
 | skip=>intros;rfl
 | ops l=>intro n x r st;simp[nZ,cA,CM];cases l9 S c false [] l st <;> rfl
 | qO l=>intro n x r st;simp[nZ,cA,CM];cases l9 S c true [] l st <;> rfl
 | seq a b u w=>
  intro n x r st;simp[nZ,cA,u,w]
  cases h:cA S c a st with
  | none=>rfl
  | some q=>obtain⟨o,st'⟩:=q;cases o <;> rfl
 | cond y a b u w=>
  intro n x r st;simp[nZ,cA,u,w]
  cases pn S.N st.g y with
  | none=>rfl
  | some v=>cases v with
   | v z=>cases z with
    | bool t=>cases t <;> rfl
    | _=>rfl
   | _=>rfl
 | block id a B=>
  intro n x r st;simp[nZ,cA,B]
  cases h:cA S c a st with
  | none=>rfl
  | some q=>
   obtain⟨o,st'⟩:=q
   cases o with
   | exit k=>simp[Dc];split <;> rfl
   | _=>rfl
 | loop a B=>
  intro n x r st;rfl
 | each g C a b u w=>
  intro n x r st;rfl
 | exit k=>intros;rfl
 | ret=>intros;rfl
 | gh g a B=>
  simp[nZ,cA,B]
  grind
 | hg a g B=>
  intro n x r st;simp[nZ,cA,B]
  cases h:cA S c a st with
  | none=>rfl
  | some q=>
   obtain⟨o,st'⟩:=q
   cases o with
   | norm=>simp[Dc];cases ghost g st' <;> rfl
   | _=>rfl
section
variable (S c Q)
mutual
def lK:a_ Fm->St->bf β
 | []=>λst=>Q (.norm,st)
 | .seq b::fs=>λst=>nZ S c b (lK fs) (lJ fs) (λst=>Q (.ret,st)) st
 | .blk _::fs=>lK fs
 | .gst g::fs=>λst=>(ghost g st).bind (lK fs)
def lJ:a_ Fm->Nat->St->bf β
 | []=>λk st=>Q (.exit k,st)
 | .seq _::fs=>lJ fs
 | .blk id::fs=>λk st=>if k=id then lK fs st else lJ fs k st
 | .gst _::fs=>lJ fs
end
def jE (rc:RC) (fs:a_ Fm) (st:St):bf β:=nZ S c rc (lK S c Q fs) (lJ S c Q fs) (λst=>Q (.ret,st)) st
end
section
variable {dr:Bool} {fr:a_ Nat} {d:Nat} {dst:bf Nat} {now:Bool} {az:a_ Arg} {st:St} {α:Type} [bz α]
theorem LZ {p:tU} {svs:a_ SV} {m:bf δ} {v:δ->SV} (u:bQ S.N st.g az=some svs) (B:isSlice p=false) (h:iJ S.N st.m p svs=m.bind λx=>some (v x)) :
 eS S c dr fr ⟨dst,none,now,.p p,az,[],[]⟩ st=m.bind λx=>some (cU st dst (v x)):=by
 rw[JH _ _ _ _ _ _ _ B,u]
 grind
theorem xQ {p:tU} {svs:a_ SV} {v:SV} (u:bQ S.N st.g az=some svs) (B:isSlice p=false) (h:iJ S.N st.m p svs=some v) :
 eS S c dr fr ⟨dst,none,now,.p p,az,[],[]⟩ st=some (cU st dst v):=by
 rw[JH _ _ _ _ _ _ _ B,u]
 grind
theorem Pf {n:Nat} {s:Sl α} {k:IntKind} {i:Int} (u:bQ S.N st.g az=some [.v (cg s),.v (.int k i)]) (B:n=bz.size α) :
 eS S c dr fr ⟨dst,none,now,.p (.idxS n),az,[],[]⟩ st=(idx s i).bind λx=>some (cU st dst (.v (.fptr (cells x)))):=
 LZ u rfl (by rw[wL,HW s k i n B];grind)
theorem Ue {n e:Nat} {s:Sl α} {k:IntKind} {i:Int} (u:bQ S.N st.g az=some [.own e,.v (.int k i)]) (B:bh st.m e=some (cq s)) (D:n=bz.size α) :
 eS S c dr fr ⟨dst,none,now,.p (.idxS n),az,[],[]⟩ st=(s.jH i).bind λj=>some (cU st dst (.el e j 0)):=
 LZ u rfl (by rw[HZ,B,QG n e s i D])
theorem OF {s:Sl α} (u:bQ S.N st.g az=some [.v (cg s)]):eS S c dr fr ⟨dst,none,now,.p .lenSl,az,[],[]⟩ st=some (cU st dst (.v (.int .i64 s.l.length))):=
 xQ u rfl (by rw[EV,GN];rfl)
theorem S6 {e:Nat} {s:Sl α} (u:bQ S.N st.g az=some [.own e]) (B:bh st.m e=some (cq s)):eS S c dr fr ⟨dst,none,now,.p .lenSl,az,[],[]⟩ st=some (cU st dst (.v (.int .i64 s.l.length))):=
 xQ u rfl (by rw[Oe,B,PB])
theorem QJ {u:bf Nat} {s:Sl α} (B:bQ S.N st.g az=some [.v (cg s),.v .bE]):eS S c dr fr ⟨dst,none,now,.p (.bin (some .slice) u .eql),az,[],[]⟩ st=s.isNil.bind λt=>some (cU st dst (.v (.bool t))):=
 LZ B rfl (by rw[wL,N_];grind)
theorem Nn {s:ByteArray} {k:IntKind} {n:Int} (u:bQ S.N st.g az=some [.v (.str s),.v (.int k n)]):eS S c dr fr ⟨dst,none,now,.p .idxStr,az,[],[]⟩ st=(jV s n).bind λx=>some (cU st dst (.v (.int .u8 x))):=
 LZ u rfl (by rw[wL,L5];grind)
theorem RY {n e i o:Nat} {a:Bool} {s:Sl α} {v:α->V} (u:bQ S.N st.g az=some [.el e i o]) (hd:(!dr||now||eB fr [.el e i o])=true) (B:bh st.m e=some (cq s)) (hv:∀x:α,(cut (cells x) o n).bind (mk a)=some (v x)) :
 eS S c dr fr ⟨dst,none,now,.r (.load n a),az,[],[]⟩ st=(s.get i).bind λx=>some (cU st dst (.v (v x))):=by
 rw[BF,u];simp only[ζb,hd,OI,B,Mi]
 cases s.get i with
 | none=>rfl
 | some x=>
  cases hc:cut (cells x) o n with
  | none=>grind
  | some r=>grind
theorem Ic {n e i:Nat} {s:Sl α} {x:V} {a:α} (u:bQ S.N st.g az=some [.el e i 0,.v x]) (hd:(!dr||now)=true) (B:bh st.m e=some (cq s)) (D:x.cells=cells a) (G:n=bz.size α) :
 eS S c dr fr ⟨dst,none,now,.l (.store n),az,[],[]⟩ st=(s.put i a).bind λJ=>some (cU { st with m:=bB st.m e (cq J) } dst (.v .undef)):=by
 rw[oU,u];simp[hd,Jg,B];rw[IW st.g st.pin st.want st.more st.yid e i n x a D G s]
 grind
theorem SG {n:Nat} {z:α} {zero:a_ V} {i:Int} (u:bQ S.N st.g az=some [.v (.int .i64 i),.v (.int .i64 i)]) (B:zero=cells z) (D:n=bz.size α) (G:st.new d=true) :
 eS S c dr fr ⟨some d,none,now,.a (.makeSl n zero),az,[],[]⟩ st=(iX i z).bind λs=>some { st with g:=bB st.g d (.own d),m:=bB st.m d (cq s) }:=by
 rw[wR,u];simp[G];rw[T_ z i d n zero B D]
 grind
theorem Tu {n e u:Nat} {s:Sl α} {x:α} (G:bQ S.N st.g az=some [.own e,.own u]) (hd:(!dr||now)=true) (J:bh st.m e=some (cq s)) (hu:bh st.m u=some (cq (.row [x]))) (B:n=bz.size α) (O:St.new { st with m:=cB e st.m } d=true) :
 eS S c dr fr ⟨some d,none,now,.l (.append n),az,[],[]⟩ st=(eA s x).bind λD=>some { st with g:=bB st.g d (.own d),m:=bB (cB e st.m) d (cq D) }:=by
 rw[oU,G];simp only[ζb,hd,if_true];rw[tv (xs:=rows s.l) (ys:=rows [x]) (by rw[zi,J,zS n s B]) (by rw[zi,hu,zS n (.row [x]) B];rfl)]
 have:=KE (m:=st.m) st.g st.pin st.want st.more st.yid d n e s.l x B;rw[this];have t:eA (.row s.l) x=eA s x:=by cases s <;> rfl
 rw[t]
 cases eA s x with
 | none=>rfl
 | some D=>
  simp;rw[if_pos O];rfl
theorem Sx {n u:Nat} {x:α} {v:V} (hv:v=.bE\/v=.c7) (G:bQ S.N st.g az=some [.v v,.own u]) (hd:(!dr||now)=true) (hu:bh st.m u=some (cq (.row [x]))) (B:n=bz.size α) (D:st.new d=true) :
 eS S c dr fr ⟨some d,none,now,.l (.append n),az,[],[]⟩ st=some { st with g:=bB st.g d (.own d),m:=bB st.m d (cq (.row [x])) }:=by
 rw[oU,G];simp only[ζb,hd,if_true];have t:gW st.m n (.own u)=some (rows [x]):=by rw[zi,hu,zS n (.row [x]) B];rfl
 rcases hv with rfl|rfl
 .rw[tv (QE n) t,K7 (m:=st.m) st.g st.pin st.want st.more st.yid d n x B];rw[if_pos D];rfl
 rw[tv (Qs n) t,KB (m:=st.m) st.g st.pin st.want st.more st.yid d n x B];rw[if_pos D];rfl
theorem SR {f:FuncId} {svs args:a_ SV} {cs:a_ V} {m:bf δ} {E:δ->a_ V} (hc:lB c f cs=m.bind λr=>some (E r)) (hk:S.E.keep f=false) (B:bQ S.N st.g az=some svs) (D:k_ svs=some (f,args))
 (u:ng (iL st.m 8) args=some cs) (G:((!dr||now)||eM st.m fr args)=true) (hr:∀r,((result (E r)).scalar||(cT args).isSome)=true) :
 eS S c dr fr ⟨dst,none,now,.c,az,[],[]⟩ st=m.bind λr=>some (cU st dst (.v (result (E r)))):=by
 rw[zh dr fr dst now az st svs f args B D,Qy _ _ _ _ _ _ _ hk,(zC st.m 8).2,u];simp[G,hc]
 cases m with
 | none=>rfl
 | some r=>
  simp[LU]
  grind
end
end
section
variable {S:Sys} {c:bN} {β γ:Type} {Q:Out×St->bf β} {L:bf β} {e:γ->bf β}
theorem nL (rc:RC) (st:St):jE S c Q rc [] st=(cA S c rc st).bind Q:=by
 unfold jE;rw[Cl]
 congr 1
 funext q;obtain⟨o,st⟩:=q
 cases o <;> rfl
theorem zB (rc:RC) (st:St):cA S c rc st=jE S c some rc [] st:=by
 rw[nL];cases cA S c rc st <;> rfl
def qm (rs:a_ RV):Out×St->bf (a_ V)
 | (.exit _,_)=>none
 | (_,st)=>(iN st rs).bind (ng (iL st.m 8))
theorem Q7 (rs:a_ RV):GS rs=qm rs:=by
 funext q;obtain⟨o,st⟩:=q
 cases o
 .simp only[GS,qm];congr 1;funext l;exact(zC st.m 8).2 l
 .rfl
 simp only[GS,qm];congr 1;funext l;exact(zC st.m 8).2 l
theorem Qn {S:Sys} {T:pg} {f:FuncId} {rf:RF} (u:T f=some rf) (az:a_ V) (B:az.length<=rf.na):lB (dA S T) f az=jE S (dA S T) (qm rf.rs) rf.body [] (start (az.map .v) []):=by
 rw[NW u az B,<-Gb,nL,Q7]
end
def nr {α σ ε ρ:Type} (step:α->σ->bf (Fw σ ε ρ)):a_ α->σ->bf (Fw σ ε ρ)
 | [],s=>some (.n s)
 | x::xs,s=>(step x s).bind λw=>match w with
  | .n u=>nr step xs u
  | .x e=>some (.x e)
  | .r b=>some (.r b)
def Fw.vf {ν ε ρ γ:Type} (fn:ν->γ) (u:ε->γ) (fr:ρ->γ):Fw ν ε ρ->γ
 | .n a=>fn a
 | .x e=>u e
 | .r b=>fr b
def Fw.uO {ν ε ρ:Type} (u:ν->Tb bu) (eε:ε->Nat×Tb bu) (eρ:ρ->Tb bu):Fw ν ε ρ->Out×Tb bu
 | .n a=>(.norm,u a)
 | .x e=>(.exit (eε e).1,(eε e).2)
 | .r b=>(.ret,eρ b)
def uO (q:Out×St):bf (Out×Tb bu):=some (q.1,q.2.m)
section
variable {S:Sys} {c:bN} {β γ:Type} {Q:Out×St->bf β} {L:bf β} {e:γ->bf β}
def xo (S:Sys) (c:bN) (b:RC):Out×St->bf (Out×Tb bu)
 | (.norm,st)=>jE S c uO b [] st
 | _=>none
theorem Kg (ps:a_ Nat) (a b:RC) (st:St) (x:a_ V) (m:Tb bu) (u:x.length=ps.length) :
 g_ ps (cA S c a) (cA S c b) st x m=jE S c (xo S c b) a [] ⟨vt st.g ps (x.map .v),m,st.pin++ox st.g,[],true,0⟩:=by
 unfold g_;rw[if_pos u,nL]
 cases cA S c a ⟨vt st.g ps (x.map .v),m,st.pin++ox st.g,[],true,0⟩with
 | none=>rfl
 | some q=>
  obtain⟨o,t⟩:=q
  cases o with
  | norm=>
   simp only[ζb,xo];rw[nL];cases cA S c b t <;> rfl
  | _=>rfl
end
def Le {α:Type} (a b:bf α):Prop:=∀r,a=some r->b=some r
section
variable {α:Type}
theorem Le.refl (a:bf α):Le a a:=λ_ h=>h
theorem Le.of_eq {a b:bf α} (h:b=a):Le a b:=λ_ t=>h.trans t
theorem Le.trans {a b d:bf α} (h1:Le a b) (u:Le b d):Le a d:=λr h=>u r (h1 r h)
theorem Le.none (b:bf α):Le (none:bf α) b:=λr h=>by cases h
theorem Le.bind {β:Type} {a b:bf α} {f g:α->bf β} (h:Le a b) (u:∀x,Le (f x) (g x)):Le (a.bind f) (b.bind g):=λr hr=>by
 obtain⟨x,h1,t⟩:=ζg.1 hr;rw[h x h1];exact u x r t
end
section
variable {S:Sys} {c:bN} {β γ δ:Type} {Q:Out×St->bf β} {L:bf β} {e:γ->bf β}
theorem FP {dr:Bool} {fr:a_ Nat} {dst:bf Nat} {now:Bool} {az:a_ Arg} {st:St} {f:FuncId} {svs args:a_ SV} {cs:a_ V} {m:bf δ} {E:δ->a_ V} (hc:Le (m.bind λr=>some (E r)) (lB c f cs)) (hk:S.E.keep f=false) (B:bQ S.N st.g az=some svs) (D:k_ svs=some (f,args))
 (u:ng (iL st.m 8) args=some cs) (G:((!dr||now)||eM st.m fr args)=true) (hr:∀r,((result (E r)).scalar||(cT args).isSome)=true) :
 Le (m.bind λr=>some (cU st dst (.v (result (E r))))) (eS S c dr fr ⟨dst,none,now,.c,az,[],[]⟩ st):=by
 intro q w;obtain⟨r,h1,z⟩:=ζg.1 w;have t:lB c f cs=(some r).bind λr=>some (E r):=hc _ (by rw[h1];rfl)
 rw[SR (m:=some r) t hk B D u G hr];exact z
theorem Ot {σ ε ρ:Type} {f:St->bf (Out×St)} {step:σ->bf (Fw σ ε ρ)} {eσ:σ->St} {eε:ε->Nat×St} {eρ:ρ->St} (h:∀s,Le ((step s).bind λw=>some (Fw.out eσ eε eρ w)) (f (eσ s))) (s:σ) :
 Le ((bM step s).bind λw=>some (Fw.out (λe=>Empty.elim e) eε eρ w)) (ny f (eσ s)):=by
 have key:∀k s r,kn step k s=some r->iF f k (eσ s)=some (Fw.out (λe=>Empty.elim e) eε eρ r):=by
  intro k
  induction k with
  | zero=>intro s r h;simp[kn]at h
  | succ k B=>
   intro s r t;simp only[kn]at t
   cases u:step s with
   | none=>rw[u]at t;cases t
   | some w=>
    rw[u]at t;have z:=h s (Fw.out eσ eε eρ w) (by rw[u];rfl)
    simp only[iF,z]
    cases w with
    | n a=>exact B a r t
    | x e=>cases t;rfl
    | r b=>cases t;rfl
 intro r hr;obtain⟨w,h1,z⟩:=ζg.1 hr;obtain⟨k,hk⟩:=oJ.1 h1;cases z;exact lN.2 ⟨k,key k s w hk⟩
theorem TV {σ ε ρ:Type} {a:RC} {fs:a_ Fm} {step:σ->bf (Fw σ ε ρ)} {eσ:σ->St} {eε:ε->Nat×St} {eρ:ρ->St} {s:σ} {u:ε->bf γ} {fr:ρ->bf γ}
 (B:L=jE S c Q (.loop a) fs (eσ s)) (h:∀s,Le ((step s).bind λw=>some (Fw.out eσ eε eρ w)) (jE S c some a [] (eσ s)))
 (D:∀x,Le ((u x).bind e) (lJ S c Q fs (eε x).1 (eε x).2)) (hr:∀b,Le ((fr b).bind e) (Q (.ret,eρ b))):Le (((bM step s).bind (Fw.elim u fr)).bind e) L:=by
 subst B;have h1:jE S c Q (.loop a) fs (eσ s)=(ny (cA S c a) (eσ s)).bind (Dc (lK S c Q fs) (lJ S c Q fs) (λst=>Q (.ret,st))):=by
  unfold jE;rw[Cl];rfl
 rw[h1];have t:=Ot (step:=step) (f:=cA S c a) (eσ:=eσ) (eε:=eε) (eρ:=eρ) (λs=>by rw[zB];exact h s) s
 cases z:bM step s with
 | none=>exact Le.none _
 | some w=>
  have C:=t _ (by rw[z];rfl)
  rw[C]
  cases w with
  | n a=>cases a
  | x a=>exact D a
  | r a=>exact hr a
theorem G9 {α σ ε ρ:Type} {f:a_ V->Tb bu->bf (Out×Tb bu)} {step:α->σ->bf (Fw σ ε ρ)} {eI:α->a_ V} {eσ:σ->Tb bu} {eε:ε->Nat×Tb bu} {eρ:ρ->Tb bu}
 (h:∀x s,Le ((step x s).bind λw=>some (Fw.uO eσ eε eρ w)) (f (eI x) (eσ s))):∀(xs:a_ α) (s:σ),Le ((nr step xs s).bind λw=>some (Fw.uO eσ eε eρ w)) (oO f (xs.map eI) (eσ s))
 | [],s=>λr hr=>hr
 | x::xs,s=>by
  simp only[List.map_cons,oO,nr]
  cases u:step x s with
  | none=>exact Le.none _
  | some w=>
   have B:=h x s (Fw.uO eσ eε eρ w) (by rw[u];rfl)
   rw[B]
   cases w with
   | n t=>simp only[ζb,Fw.uO];exact G9 h xs t
   | x e=>exact Le.refl _
   | r b=>exact Le.refl _
theorem TE {α σ ε ρ:Type} {g:Arg} {ps:a_ Nat} {a b:RC} {fs:a_ Fm} {f:FuncId} {x y:a_ V} {items:a_ α} {eI:α->a_ V} {step:α->σ->bf (Fw σ ε ρ)} {eσ:σ->Tb bu} {eε:ε->Nat×Tb bu} {eρ:ρ->Tb bu} {gt:Tb SV} {s:σ}
 {fn:σ->bf γ} {u:ε->bf γ} {fr:ρ->bf γ}
 (B:L=jE S c Q (.each g ps a b) fs ⟨gt,eσ s,[],[],true,0⟩) (hg:pn S.N gt g=some (.v (.clo f x y))) (D:S.items f x y=some (items.map eI)) (G:∀x,(eI x).length=ps.length)
 (h:∀x s,Le ((step x s).bind λw=>some (Fw.uO eσ eε eρ w)) (jE S c (xo S c b) a [] ⟨vt gt ps ((eI x).map .v),eσ s,ox gt,[],true,0⟩))
 (J:∀s,Le ((fn s).bind e) (lK S c Q fs ⟨gt,eσ s,[],[],true,0⟩))
 (O:∀x,Le ((u x).bind e) (lJ S c Q fs (eε x).1 ⟨gt,(eε x).2,[],[],true,0⟩)) (hr:∀b,Le ((fr b).bind e) (Q (.ret,⟨gt,eρ b,[],[],true,0⟩))) :
 Le (((nr step items s).bind (Fw.vf fn u fr)).bind e) L:=by
 subst B;have h1:jE S c Q (.each g ps a b) fs ⟨gt,eσ s,[],[],true,0⟩=(cA S c (.each g ps a b) ⟨gt,eσ s,[],[],true,0⟩).bind (Dc (lK S c Q fs) (lJ S c Q fs) (λst=>Q (.ret,st))):=by
  unfold jE;rw[Cl]
 rw[h1];simp only[cA,hg,D];have t:=G9 (step:=step) (f:=g_ ps (cA S c a) (cA S c b) ⟨gt,eσ s,[],[],true,0⟩) (eI:=eI) (eσ:=eσ) (eε:=eε) (eρ:=eρ) (λx s=>by rw[Kg _ _ _ _ _ _ (G x)];exact h x s) items s
 cases z:nr step items s with
 | none=>exact Le.none _
 | some w=>
  have C:=t _ (by rw[z];rfl)
  rw[C]
  cases w with
  | n a=>exact J a
  | x a=>exact O a
  | r a=>exact hr a
end
inductive Fo where
 | rc (c:RC)
 | ops (dr:Bool) (fr:List Nat) (l:List RO)
 | nx
 | ex (k:Nat)
 | rt
abbrev bJ (g:Tb SV) (m:Tb bu):St:=⟨g,m,[],[],true,0⟩
section
variable (S:Sys) (c:bN) {β:Type} (Q:Out×St->bf β)
def rn:Fo->a_ Fm->St->bf β
 | .rc a,fs,st=>jE S c Q a fs st
 | .ops dr fr l,fs,st=>tI S c dr fr l (lK S c Q fs) st
 | .nx,fs,st=>lK S c Q fs st
 | .ex k,fs,st=>lJ S c Q fs k st
 | .rt,_,st=>Q (.ret,st)
def tX:Fo->a_ Fm->St->bf (Fo×a_ Fm×St)
 | .rc .skip,fs,st=>some (.nx,fs,st)
 | .rc (.ops l),fs,st=>some (.ops false [] l,fs,st)
 | .rc (.qO l),fs,st=>some (.ops true [] l,fs,st)
 | .rc (.seq a b),fs,st=>some (.rc a,.seq b::fs,st)
 | .rc (.cond y a b),fs,st=>match pn S.N st.g y with
  | some (.v (.bool true))=>some (.rc a,fs,st)
  | some (.v (.bool false))=>some (.rc b,fs,st)
  | _=>none
 | .rc (.block id a),fs,st=>some (.rc a,.blk id::fs,st)
 | .rc (.exit k),fs,st=>some (.ex k,fs,st)
 | .rc .ret,fs,st=>some (.rt,fs,st)
 | .rc (.gh g a),fs,st=>match ghost g st with
  | some st'=>some (.rc a,fs,st')
  | none=>none
 | .rc (.hg a g),fs,st=>some (.rc a,.gst g::fs,st)
 | .rc (.loop _),_,_=>none
 | .rc (.each ..),_,_=>none
 | .ops _ _ [],fs,st=>some (.nx,fs,st)
 | .ops dr fr (⟨d,gd,now,k,az,dd,[]⟩::r),fs,st=>match eS S c dr fr ⟨d,gd,now,k,az,[],[]⟩ st with
  | some st'=>some (.ops dr (if dr then pG fr ⟨d,gd,now,k,az,[],[]⟩else fr) r,fs,nY dd st')
  | none=>none
 | .ops dr fr (⟨d,gd,now,k,az,dd,x::xs⟩::r),fs,st=>if dr && !(ym x&&xs.all ym)then none else match ghost x st with
  | some st'=>some (.ops dr fr (⟨d,gd,now,k,az,dd,xs⟩::r),fs,st')
  | none=>none
 | .nx,.seq b::fs,st=>some (.rc b,fs,st)
 | .nx,.blk _::fs,st=>some (.nx,fs,st)
 | .nx,.gst g::fs,st=>match ghost g st with
  | some st'=>some (.nx,fs,st')
  | none=>none
 | .nx,[],_=>none
 | .ex k,.seq _::fs,st=>some (.ex k,fs,st)
 | .ex k,.blk id::fs,st=>some (if k=id then .nx else .ex k,fs,st)
 | .ex k,.gst _::fs,st=>some (.ex k,fs,st)
 | .ex _,[],_=>none
 | .rt,_,_=>none
def fC:Nat->Fo->a_ Fm->St->bf (Fo×a_ Fm×St)
 | 0,fo,fs,st=>some (fo,fs,st)
 | n+1,fo,fs,st=>match tX S c fo fs st with
  | some (fo',fs',st')=>fC n fo' fs' st'
  | none=>none
end
section
variable {S:Sys} {c:bN} {β γ δ:Type} {Q:Out×St->bf β} {e:γ->bf β}
theorem EU {fo fo':Fo} {fs fs':a_ Fm} {st st':St} (h:tX S c fo fs st=some (fo',fs',st')):rn S c Q fo fs st=rn S c Q fo' fs' st':=by
 cases fo with
 | rc a=>
  cases a with
  | cond y a b=>
   simp only[tX]at h;split at h
   next t=>cases h;simp only[rn,jE,nZ,t,bt,if_true]
   next t=>cases h;simp only[rn,jE,nZ,t,bt];rfl
   cases h
  | gh g a=>
   simp only[tX]at h;split at h
   next t=>cases h;simp only[rn,jE,nZ,t,ζb]
   cases h
  | loop a=>cases h
  | each g u a b=>cases h
  | seq a b=>cases h;simp only[rn,jE,nZ,lK,lJ]
  | block id a=>cases h;simp only[rn,jE,nZ,lK,lJ]
  | hg a g=>cases h;simp only[rn,jE,nZ,lK,lJ]
  | _=>cases h;simp only[rn,jE,nZ]
 | ops dr fr l=>
  cases l with
  | nil=>cases h;simp only[rn,tI]
  | cons o r=>
   obtain⟨d,gd,now,k,az,dd,pre⟩:=o
   cases pre with
   | nil=>
    simp only[tX]at h;split at h
    next t=>cases h;simp only[rn,tI,AZ,RO.strip,ζb,t]
    cases h
   | cons x w=>
    simp only[tX]at h;split at h
    .cases h
    rename_i hd;split at h
    .rename_i t;cases h
     cases dr with
     | true=>
      simp only[Bool.true_and,Bool.not_eq_true',Bool.not_eq_false,ζh]at hd;simp only[rn,tI,RO.strip,AO,nE,if_true,List.all_cons,hd.1,hd.2,Bool.and_self,t,ζb]
     | false=>simp only[rn,tI,RO.strip,AO,nE,Bool.false_eq_true,if_false,t,ζb]
    cases h
 | nx=>
  cases fs with
  | nil=>cases h
  | cons f fs=>
   cases f with
   | seq b=>cases h;simp only[rn,jE,lK]
   | blk id=>cases h;simp only[rn,lK]
   | gst g=>
    simp only[tX]at h;split at h
    next t=>cases h;simp only[rn,lK,t,ζb]
    cases h
 | ex k=>
  cases fs with
  | nil=>cases h
  | cons f fs=>
   cases f with
   | seq b=>cases h;simp only[rn,lJ]
   | blk id=>
    cases h;simp only[rn,lJ]
    by_cases hk:k=id
    .simp only[if_pos hk,rn]
    simp only[if_neg hk,rn]
   | gst g=>cases h;simp only[rn,lJ]
 | rt=>cases h
theorem nC:∀{n:Nat} {fo fo':Fo} {fs fs':a_ Fm} {st st':St},fC S c n fo fs st=some (fo',fs',st')->rn S c Q fo fs st=rn S c Q fo' fs' st'
 | 0,fo,fo',fs,fs',st,st',h=>by cases h;rfl
 | n+1,fo,fo',fs,fs',st,st',h=>by
  simp only[fC]at h;split at h
  next a b d u=>rw[EU u];exact nC h
  cases h
theorem yB {n:Nat} {fo fo':Fo} {fs fs':a_ Fm} {st st':St} {m:bf β} (h:fC S c n fo fs st=some (fo',fs',st')) (u:Le m (rn S c Q fo' fs' st')):Le m (rn S c Q fo fs st):=by
 rw[nC h];exact u
theorem U6 {n:Nat} {fo fo':Fo} {fs fs':a_ Fm} {st st':St} {r:γ} (h:fC S c n fo fs st=some (fo',fs',st')) (u:rn S c Q fo' fs' st'=e r):Le ((some r).bind e) (rn S c Q fo fs st):=by
 rw[nC h];exact Le.of_eq u
theorem Oy {m:bf δ} {f:δ->bf γ} {L:bf β} (k:δ->bf β) (u:Le (m.bind k) L) (h1:∀r,Le ((f r).bind e) (k r)):Le ((m.bind f).bind e) L:=by
 intro r hr
 cases m with
 | none=>cases hr
 | some x=>exact u r (h1 x r hr)
theorem UK {n:Nat} {fo:Fo} {fs fs':a_ Fm} {st0:St} {dr:Bool} {q l:a_ RO} {fr:a_ Nat} {st:St} {d:bf Nat} {gd:bf (Nat×Bool)} {now:Bool} {k:K} {az:a_ Arg} {dd:a_ Nat} {m:bf δ} {g:δ->St} {f:δ->bf γ}
 (u:fC S c n fo fs st0=some (.ops dr fr q,fs',st)) (B:q=⟨d,gd,now,k,az,dd,[]⟩::l) (hg:wanted st.g gd=some true)
 (D:Le (m.bind λx=>some (g x)) (eS S c dr fr ⟨d,none,now,k,az,[],[]⟩ st))
 (h:∀x,m=some x->Le ((f x).bind e) (rn S c Q (.ops dr (if dr then pG fr ⟨d,gd,now,k,az,[],[]⟩else fr) l) fs' (nY dd (g x)))):Le ((m.bind f).bind e) (rn S c Q fo fs st0):=by
 rw[nC u];subst B;simp only[rn,tI,RO.strip,AZ,ζb];rw[Mf hg]
 cases m with
 | none=>exact Le.none _
 | some x=>rw[D (g x) rfl];exact h x rfl
theorem Pt {n:Nat} {fo:Fo} {fs fs':a_ Fm} {st0:St} {dr:Bool} {q l:a_ RO} {fr:a_ Nat} {st st':St} {d:bf Nat} {gd:bf (Nat×Bool)} {now:Bool} {k:K} {az:a_ Arg} {dd:a_ Nat} {m:bf β}
 (u:fC S c n fo fs st0=some (.ops dr fr q,fs',st)) (B:q=⟨d,gd,now,k,az,dd,[]⟩::l) (hg:wanted st.g gd=some true)
 (D:eS S c dr fr ⟨d,none,now,k,az,[],[]⟩ st=some st')
 (h:Le m (rn S c Q (.ops dr (if dr then pG fr ⟨d,gd,now,k,az,[],[]⟩else fr) l) fs' (nY dd st'))):Le m (rn S c Q fo fs st0):=by
 rw[nC u];subst B;simp only[rn,tI,RO.strip,AZ,ζb];rw[Mf hg,D];exact h
theorem G_ {n:Nat} {fo:Fo} {u:a_ Fm} {st:St} {σ ε ρ:Type} {a:RC} {fs:a_ Fm} {step:σ->bf (Fw σ ε ρ)} {eσ:σ->St} {eε:ε->Nat×St} {eρ:ρ->St} {s:σ} {B:ε->bf γ} {fr:ρ->bf γ}
 (D:fC S c n fo u st=some (.rc (.loop a),fs,eσ s)) (h:∀s,Le ((step s).bind λw=>some (Fw.out eσ eε eρ w)) (rn S c some (.rc a) [] (eσ s)))
 (G:∀x,Le ((B x).bind e) (rn S c Q (.ex (eε x).1) fs (eε x).2)) (hr:∀b,Le ((fr b).bind e) (Q (.ret,eρ b))):Le (((bM step s).bind (Fw.elim B fr)).bind e) (rn S c Q fo u st):=by
 rw[nC D];exact TV (L:=rn S c Q (.rc (.loop a)) fs (eσ s)) rfl h G hr
theorem SJ {n:Nat} {fo:Fo} {u:a_ Fm} {st:St} {α σ ε ρ:Type} {g:Arg} {ps:a_ Nat} {a b:RC} {fs:a_ Fm} {f:FuncId} {x y:a_ V} {items:a_ α} {eI:α->a_ V} {step:α->σ->bf (Fw σ ε ρ)} {eσ:σ->Tb bu} {eε:ε->Nat×Tb bu} {eρ:ρ->Tb bu} {gt:Tb SV} {s:σ}
 {fn:σ->bf γ} {B:ε->bf γ} {fr:ρ->bf γ}
 (D:fC S c n fo u st=some (.rc (.each g ps a b),fs,bJ gt (eσ s))) (hg:pn S.N gt g=some (.v (.clo f x y))) (G:S.items f x y=some (items.map eI)) (J:∀x,(eI x).length=ps.length)
 (h:∀x s,Le ((step x s).bind λw=>some (Fw.uO eσ eε eρ w)) (rn S c (xo S c b) (.rc a) [] ⟨vt gt ps ((eI x).map .v),eσ s,ox gt,[],true,0⟩))
 (O:∀s,Le ((fn s).bind e) (rn S c Q .nx fs (bJ gt (eσ s))))
 (T:∀x,Le ((B x).bind e) (rn S c Q (.ex (eε x).1) fs (bJ gt (eε x).2))) (hr:∀b,Le ((fr b).bind e) (Q (.ret,bJ gt (eρ b)))) :
 Le (((nr step items s).bind (Fw.vf fn B fr)).bind e) (rn S c Q fo u st):=by
 rw[nC D];exact TE (L:=rn S c Q (.rc (.each g ps a b)) fs (bJ gt (eσ s))) rfl hg G J h O T hr
theorem Tj {b:RC} {st st':St} {m:bf (Out×Tb bu)} {fs:a_ Fm} {n:Nat} {fo:Fo} (h:fC S c n fo fs st=some (.nx,[],st')) (u:Le m (rn S c uO (.rc b) [] st')):Le m (rn S c (xo S c b) fo fs st):=by
 rw[nC h];exact u
theorem TG {α:Type} {n:Nat} {fo fo':Fo} {fs fs':a_ Fm} {st:St} {A:bf α->St} {o:bf α} {f:α->bf γ} (h:fC S c n fo fs st=some (fo',fs',A o))
 (u:∀x,o=some x->Le ((f x).bind e) (rn S c Q fo' fs' (A (some x)))):Le ((o.bind f).bind e) (rn S c Q fo fs st):=by
 rw[nC h]
 cases o with
 | none=>exact Le.none _
 | some x=>exact u x rfl
theorem UT {T:pg} {f:FuncId} {rf:RF} {az:a_ V} {m:bf (a_ V)} (u:T f=some rf) (B:az.length<=rf.na) (h:Le m (rn S (dA S T) (qm rf.rs) (.rc rf.body) [] (start (az.map .v) []))):Le m (lB (dA S T) f az):=by
 rw[Qn u az B];exact h
end
section
variable {α:Type} [bz α]
abbrev cv (x:α):SV:=.v (enc x)
abbrev cp (x:α):SV:=.v (.fptr (cells x))
abbrev bx (x:α):bu:=.box ((cells x).map .v)
end
abbrev uv:SV:=.v .undef
structure lz (S:Sys) (c:bN) {α δ:Type} (fn:FuncId) (A:α->List V) (E:δ->List V) (p:α->Option δ) (sc:Bool):Prop where
 k:S.E.keep fn=false
 h:∀z,Le ((p z).bind λr=>some (E r)) (lB c fn (A z))
 s:sc=true->∀r,(result (E r)).scalar=true
section
variable {S:Sys} {c:bN} {β γ δ α:Type} {Q:Out×St->bf β} {e:γ->bf β} {fo:Fo} {fs:a_ Fm} {st0:St} {l:a_ RO} {d:bf Nat} {gd:bf (Nat×Bool)} {now:Bool} {az:a_ Arg} {dd:a_ Nat}
abbrev rF (S:Sys) (c:bN) (Q:Out×St->bf β) (dr:Bool) (fr:a_ Nat) (d:bf Nat) (k:K) (l:a_ RO) (fs:a_ Fm) (dd:a_ Nat) (st:St):bf β:=
 rn S c Q (.ops dr (if dr then(match k with|.p _|.r _=>fr|_=>match d with|some d=>d::fr|none=>fr)else fr) l) fs (nY dd st)
theorem DZ (fr:a_ Nat) (k:K):pG fr ⟨d,gd,now,k,az,[],[]⟩=(match k with|.p _|.r _=>fr|_=>match d with|some d=>d::fr|none=>fr):=by
 cases k <;> cases d <;> rfl
theorem Dk {n:Nat} {dr:Bool} {fr:a_ Nat} {q:a_ RO} {fs':a_ Fm} {st:St} {k:K} {m:bf δ} {g:δ->St} {f:δ->bf γ}
 (u:fC S c n fo fs st0=some (.ops dr fr q,fs',st)) (B:q=⟨d,gd,now,k,az,dd,[]⟩::l) (hg:wanted st.g gd=some true)
 (D:Le (m.bind λx=>some (g x)) (eS S c dr fr ⟨d,none,now,k,az,[],[]⟩ st))
 (h:∀x,m=some x->Le ((f x).bind e) (rF S c Q dr fr d k l fs' dd (g x))):Le ((m.bind f).bind e) (rn S c Q fo fs st0):=
 UK u B hg D (λx t=>by rw[DZ];grind)
theorem pV {n:Nat} {dr:Bool} {fr:a_ Nat} {q:a_ RO} {fs':a_ Fm} {st st':St} {k:K} {m:bf β}
 (u:fC S c n fo fs st0=some (.ops dr fr q,fs',st)) (B:q=⟨d,gd,now,k,az,dd,[]⟩::l) (hg:wanted st.g gd=some true)
 (D:eS S c dr fr ⟨d,none,now,k,az,[],[]⟩ st=some st') (h:Le m (rF S c Q dr fr d k l fs' dd st')):Le m (rn S c Q fo fs st0):=
 Pt u B hg D (by rw[DZ];omega)
section
variable [bz α]
theorem Np (n:Nat) (dr:Bool) (fr:a_ Nat) (q:a_ RO) (fs':a_ Fm) (st:St) (k:IntKind) {sz:Nat} {s:Sl α} {i:Int} {f:α->bf γ} (B:q=⟨d,gd,now,.p (.idxS sz),az,dd,[]⟩::l)
 (u:(fC S c n fo fs st0,wanted st.g gd,bQ S.N st.g az,sz)=(some (.ops dr fr q,fs',st),some true,some [.v (cg s),.v (.int k i)],bz.size α))
 (h:∀x,idx s i=some x->Le ((f x).bind e) (rF S c Q dr fr d (.p (.idxS sz)) l fs' dd (cU st d (cp x)))):Le (((idx s i).bind f).bind e) (rn S c Q fo fs st0):=by
 simp  at u;exact Dk u.1 B u.2.1 (Le.of_eq (Pf u.2.2.1 u.2.2.2)) h
theorem SD (n:Nat) (dr:Bool) (fr:a_ Nat) (q:a_ RO) (fs':a_ Fm) (st:St) (s:Sl α) {m:bf β} (B:q=⟨d,gd,now,.p .lenSl,az,dd,[]⟩::l)
 (u:(fC S c n fo fs st0,wanted st.g gd,bQ S.N st.g az)=(some (.ops dr fr q,fs',st),some true,some [.v (cg s)]))
 (h:Le m (rF S c Q dr fr d (.p .lenSl) l fs' dd (cU st d (.v (.int .i64 s.l.length))))):Le m (rn S c Q fo fs st0):=by
 simp  at u;exact pV u.1 B u.2.1 (OF u.2.2) h
end
section
variable {q:a_ RO} {fs':a_ Fm}
end
theorem Fa (m:Tb bu) (n:Nat) (l:a_ V):ng (iL m n) (l.map .v)=some l:=by rw[<-(zC m n).2,vu]
variable {A:α->a_ V} {E:δ->a_ V} {p:α->bf δ} {fn:FuncId} {sc:Bool}
end
abbrev iv (n:Int):SV:=.v (.int .i64 n)
abbrev bv (b:Bool):SV:=.v (.bool b)
abbrev len {α:Type} (s:Sl α):Int:=((List.length (Sl.l s):Nat):Int)
abbrev o1 (d:Nat) (a:Arg) (dd:a_ Nat):RO:=⟨some d,none,false,.p .id,[a],dd,[]⟩
abbrev o2 (d:Nat) (k:K) (az:a_ Arg) (dd:a_ Nat):RO:=⟨some d,none,false,k,az,dd,[]⟩
abbrev o3 (d s:Nat) (b:Bool) (k:K) (az:a_ Arg) (dd:a_ Nat):RO:=⟨some d,some (s,b),false,k,az,dd,[]⟩
def Iw (a b:bg):Bool:=[a.proc,a.index]==[b.proc,b.index]
section
variable {α:Type} [bz α]
theorem vz (h:bz.agg α=false) (a:α):cells a=[enc a]:=by
 have t:(cells a).length=1:=by rw[show (cells a).length=_ from bz.len a,bz.plain h]
 unfold enc;rw[if_neg (by simp[h])]
 match hc:cells a,t with
 | [x],_=>rfl
theorem ze (h:bz.agg α=true) (a:α):enc a=.agg (cells a):=by unfold enc;grind
theorem ni (a:α):V.good (enc a)=true:=by
 have h:V.cN (cells a)=true:=bz.good a
 cases t:bz.agg α with
 | true=>rw[ze t];exact h
 | false=>
  rw[vz t]at h;simp[V.cN]at h;omega
theorem mc (s:Sl α):V.one (enc s)=true:=DW s
theorem M9 (s:α) (h:bz.agg α=false):V.one (enc s)=true:=by
 have:=bz.one s;rw[show bz.cells s=cells s from rfl,vz h]at this
 grind
end
instance {α:Type} [bz α]:bz (bf α) where
 cells o:=[match o with|none=>.gu|some x=>.fptr (cells x)]
 agg:=false
 size:=1
 len _:=rfl
 good o:=by
  cases o with
  | none=>rfl
  | some x=>simp only[V.cN,V.good,Bool.and_true];exact bz.good x
 one o:=by cases o <;> rfl
 plain _:=rfl
structure U8 where
 v:Int
 deriving Inhabited,DecidableEq
instance:bz U8 where
 cells n:=[.int .u8 n.v]
 agg:=false
 size:=1
 len _:=rfl
 good _:=rfl
 one _:=rfl
 plain _:=rfl
structure Vo where
 v:Int
 deriving Inhabited,DecidableEq
instance:bz Vo where
 cells n:=[.int .u64 n.v]
 agg:=false
 size:=1
 len _:=rfl
 good _:=rfl
 one _:=rfl
 plain _:=rfl
structure Vg where
 v:Int
 deriving Inhabited,DecidableEq
instance:bz Vg where
 cells n:=[.int .u32 n.v]
 agg:=false
 size:=1
 len _:=rfl
 good _:=rfl
 one _:=rfl
 plain _:=rfl
structure VA where
 v:Int
 deriving Inhabited,DecidableEq
instance:bz VA where
 cells n:=[.int .i32 n.v]
 agg:=false
 size:=1
 len _:=rfl
 good _:=rfl
 one _:=rfl
 plain _:=rfl
structure nF (S:Sys) (c:bN) {α δ:Type} (g:FuncId) (w e:List V) (A:α->List V) (R:δ->List V) (p:α->Option δ) (b:Bool):Prop where
 f:lz S c g (λz=>w++A z++e) R p b
section
variable {S:Sys} {c:bN} {β γ δ α:Type} {Q:Out×St->bf β} {e:γ->bf β} {fo:Fo} {fs:a_ Fm} {st0:St} {l:a_ RO} {d:bf Nat} {gd:bf (Nat×Bool)} {now:Bool} {az:a_ Arg} {dd:a_ Nat}
theorem eH {α:Type} [bz α] (a:α):V.cells (enc a)=cells a:=by
 cases t:bz.agg α with
 | true=>rw[ze t];rfl
 | false=>
  have h1  := M9 a t;rw[vz t];cases h:enc a <;> first|rfl|(rw[h]at h1;cases h1)
theorem sn {α:Type} [bz α] (a:α):(cells a).all V.one=true:=bz.one a
theorem gJ {α:Type} [bz α] (a:α):(cells a).length=bz.size α:=bz.len a
theorem Ast [bz α] (n:Nat) (dr:Bool) (fr:a_ Nat) (q:a_ RO) (fs':a_ Fm) (st:St) (u o:Nat) (x:α) (cs B:a_ SV) {sz:Nat} {m:bf β} (G:q=⟨d,gd,now,.l (.store sz),az,dd,[]⟩::l)
 (D:(fC S c n fo fs st0,wanted st.g gd,bQ S.N st.g az,bh st.m u,(!dr||now),sz,Nat.ble (o+sz) cs.length,cs.take o++(cells x).map .v++cs.drop (o+sz))=(some (.ops dr fr q,fs',st),some true,some [.ptr u o,cv x],some (.box cs),true,bz.size α,true,B))
 (h:Le m (rF S c Q dr fr d (.l (.store sz)) l fs' dd (cU { st with m:=bB st.m u (.box B) } d (.v .undef)))):Le m (rn S c Q fo fs st0):=by
 simp only[ζc]at D;obtain⟨h1,t,w,z,C,I,J,L⟩:=D;refine pV h1 G t ?_ h;rw[oU,w];subst I;have O:=Nat.le_of_ble_eq_true J;simp only[ζb,C,if_true,gB,z,putCells,eH,gJ,sn,O,and_self,L,Option.map_some]
theorem za {α:Type} [bz α]:∀(xs:a_ α) (pre:a_ (a_ V)) (u:a_ (a_ V)),u.length=xs.length->eP (bz.size α) (pre++u) ((List.range' pre.length xs.length).zip (xs.map enc))=some (pre++rows xs)
 | [],pre,u,h=>by
  have  := List.eq_nil_of_length_eq_zero h;subst this;rfl
 | x::xs,pre,s::u,h=>by
  simp only[List.length_cons,List.range'_succ,List.map_cons,List.zip_cons_cons,eP,eH,gJ,sn];have:=za xs (pre++[cells x]) u Zd
  simp only[ζi,List.length_cons,List.length_nil]at this;have e:(pre++s::u).set pre.length (cells x)=pre++[cells x]++u:=by simp
  rw[e,this];simp[rows]
theorem Vk [bz α] (n:Nat) (dr:Bool) (fr:a_ Nat) (q:a_ RO) (fs':a_ Fm) (st:St) (xs:a_ α) {u sz ln:Nat} {zero:a_ V} {ix:a_ Nat} {m:bf β} (D:q=⟨some u,gd,now,.a (.buildSl sz ln zero ix),az,dd,[]⟩::l)
 (G:st.new u=true) (B:(fC S c n fo fs st0,wanted st.g gd,bQ S.N st.g az,sz,ln,ix)=(some (.ops dr fr q,fs',st),some true,some ((xs.map enc).map .v),bz.size α,xs.length,List.range' 0 xs.length))
 (h:Le m (rF S c Q dr fr (some u) (.a (.buildSl sz ln zero ix)) l fs' dd { st with g:=bB st.g u (.own u),m:=bB st.m u (cq (.row xs)) })):Le m (rn S c Q fo fs st0):=by
 simp only[ζc]at B;obtain⟨h1,t,w,z,C,I⟩:=B;subst z C I;refine pV h1 D t ?_ h;rw[wR,w];simp only[ζb,G,lR,kV,List.length_range',List.length_map];have:=za xs [] (List.replicate xs.length zero) Zc
 simp  at this;rw[this];rfl
theorem UQ [bz α] (n:Nat) (dr:Bool) (fr:a_ Nat) (q:a_ RO) (fs':a_ Fm) (st:St) (x:α) (vs:a_ V) {z:a_ V} {pl:a_ (Nat×Nat)} {m:bf β} (B:q=⟨d,gd,now,.p (.build z pl),az,dd,[]⟩::l)
 (hp:jL z pl vs=some (cells x)) (D:bz.agg α=true)
 (u:(fC S c n fo fs st0,wanted st.g gd,bQ S.N st.g az)=(some (.ops dr fr q,fs',st),some true,some (vs.map .v)))
 (h:Le m (rF S c Q dr fr d (.p (.build z pl)) l fs' dd (cU st d (cv x)))):Le m (rn S c Q fo fs st0):=by
 simp  at u;refine pV u.1 B u.2.1 (xQ u.2.2 rfl ?_) h;unfold iJ;rw[kV];simp only[Nj,hp,Option.map_some];show some (SV.v (.agg (cells x)))=some (.v (enc x));rw[ze D]
section
variable [bz α]
theorem UG (n:Nat) (dr:Bool) (fr:a_ Nat) (q:a_ RO) (fs':a_ Fm) (st:St) (B D:Bool) (G:a_ V) {sz:Nat} {s:Sl α} {a b:bf Int} {f:Sl α->bf γ} (J:q=⟨d,gd,now,.p (.slice sz B D),az,dd,[]⟩::l)
 (u:(fC S c n fo fs st0,wanted st.g gd,bQ S.N st.g az,l8 B D G,sz)=(some (.ops dr fr q,fs',st),some true,some (.v (cg s)::G.map .v),some (a,b),bz.size α))
 (h:∀x,jD s a b=some x->Le ((f x).bind e) (rF S c Q dr fr d (.p (.slice sz B D)) l fs' dd (cU st d (.v (cg x))))):Le (((jD s a b).bind f).bind e) (rn S c Q fo fs st0):=by
 simp  at u;refine Dk u.1 J u.2.1 (Le.of_eq ?_) h;have w  := u.2.2.1;unfold eS kF;simp[wanted,fA,w];have t:iJ S.N st.m (.slice sz B D) ((cg s::G).map .v)=(jD s a b).bind λx=>some (.v (cg x)):=by
  unfold iJ;rw[kV];simp[bP,u.2.2.2.1,Je s a b sz u.2.2.2.2];cases jD s a b <;> rfl
 simp  at t ⊢;rw[t];cases jD s a b <;> rfl
def ki (s:Sl α) (u B:bf Int):bf (Sl α):=
 match s with
 | .nil|.emp=>none
 | .row x|.part x=>(dD x.length u B).map λ(l,h)=>.part ((x.take h).drop l)
theorem TP (n:Nat) (fr:a_ Nat) (q:a_ RO) (fs':a_ Fm) (st:St) (D G:Bool) (u:Nat) (J:a_ V) {t sz:Nat} {s:Sl α} {a b:bf Int} {f:Sl α->bf γ} (T:q=⟨some t,gd,now,.p (.slice sz D G),az,dd,[]⟩::l)
 (O:St.new { st with m:=cB u st.m } t=true) (B:(fC S c n fo fs st0,wanted st.g gd,bQ S.N st.g az,l8 D G J,bh st.m u,sz)=(some (.ops false fr q,fs',st),some true,some (.own u::J.map .v),some (a,b),some (cq s),bz.size α))
 (h:∀x,ki s a b=some x->Le ((f x).bind e) (rF S c Q false fr (some t) (.p (.slice sz D G)) l fs' dd { st with g:=bB st.g t (.own t),m:=bB (cB u st.m) t (cq x) })):Le (((ki s a b).bind f).bind e) (rn S c Q fo fs st0):=by
 simp  at B;refine Dk B.1 T B.2.1 (Le.of_eq ?_) h;obtain⟨_,_,z,w,C,I⟩:=B;subst I;unfold eS kF;simp[wanted,fA,z,yb,kV,C,w]
 cases s with
 | nil=>simp[ki,cq,Sl.k,bR]
 | emp=>simp[ki,cq,Sl.k,bR]
 | row x=>
  simp[cq,Sl.k,Sl.l,bR,ki,gi,w]
  cases dD x.length a b with
  | none=>rfl
  | some r=>simp[O,cU,rows,List.map_drop]
 | part x=>
  simp[cq,Sl.k,Sl.l,bR,ki,gi,w]
  cases dD x.length a b with
  | none=>rfl
  | some r=>simp[O,cU,rows,List.map_drop]
end
end
structure bU (n:Nat) (α:Type) where
 l:List α
 len:l.length=n
theorem Nf {α:Type} [bz α] (l:a_ α):(l.map (cells (α:=α))).flatten.length=l.length*bz.size α:=by
 induction l with
 | nil=>simp
 | cons a l t=>simp[t,gJ,Nat.add_mul,Nat.add_comm]
theorem LP {α:Type} [bz α] (l:a_ α):V.cN (l.map (cells (α:=α))).flatten=true:=by
 induction l with
 | nil=>rfl
 | cons a l t=>
  have h:∀(x y:a_ V),V.cN x=true->V.cN y=true->V.cN (x++y)=true:=by
   intro x
   induction x with
   | nil=>grind
   | cons b x u=>intro y h1 w;simp[V.cN]at h1 ⊢;grind
  exact h _ _ (bz.good a) t
instance {n:Nat} {α:Type} [bz α]:bz (bU n α) where
 cells a:=(a.l.map cells).flatten
 agg:=true
 size:=n*bz.size α
 len a:=by rw[Nf,a.len]
 good a:=LP a.l
 one a:=by
  have:∀l:a_ α,(l.map (cells (α:=α))).flatten.all V.one=true:=by
   intro l
   induction l with
   | nil=>rfl
   | cons a l t=>simp only[List.map_cons,List.flatten_cons,List.all_append,t,sn,Bool.and_self]
  exact this a.l
 plain h:=by cases h
def bU.LN (n:Nat) {α:Type} (z:α):bU n α:=⟨List.replicate n z,by simp⟩
def bU.at {n:Nat} {α:Type} (a:bU n α) (i:Int):bf α:=if 0<=i then a.l[i.toNat]? else none
def bU.set {n:Nat} {α:Type} (a:bU n α) (i:Int) (x:α):bU n α:=⟨a.l.set i.toNat x,by simp[a.len]⟩
def pa {n:Nat} {α:Type} [bz α] (a:bU n α) (i:Int):a_ V:=(cells a).drop (i.toNat*bz.size α)
theorem bU.ud {n:Nat} {α:Type} {a:bU n α} {i:Int} {x:α} (h:a.at i=some x):0<=i/\i.toNat<n/\a.l[i.toNat]? = some x:=by
 unfold bU.at at h;split at h
 next t=>refine⟨t,?_,h⟩;have:=(ζe.1 h).1;rw[<-a.len];simp_all
 simp_all
theorem D0 {α:Type} [bz α]:∀(l:a_ α) (k:Nat),((l.map (cells (α:=α))).flatten).drop (k*bz.size α)=((l.drop k).map (cells (α:=α))).flatten
 | [],k=>by simp
 | a::l,0=>by simp
 | a::l,k+1=>by
  have h  := gJ a;rw[List.map_cons,List.flatten_cons,List.drop_succ_cons,<-D0 l k,Nat.add_mul,Nat.one_mul,Nat.add_comm,<-h,List.drop_length_add_append]
theorem zL {n:Nat} {α:Type} [bz α] {a:bU n α} {i:Int} {x:α} (h:a.at i=some x):∃r,pa a i=cells x++r:=by
 obtain⟨h1,z,u⟩:=bU.ud h;obtain⟨t,w⟩:=ζe.1 u;refine⟨((a.l.drop (i.toNat+1)).map cells).flatten,?_⟩;show ((a.l.map (cells )).flatten).drop (i.toNat*bz.size α)=_;rw[D0,List.drop_eq_getElem_cons t,List.map_cons,List.flatten_cons,w]
section
variable {S:Sys} {c:bN} {β γ δ α:Type} {Q:Out×St->bf β} {e:γ->bf β} {fo:Fo} {fs:a_ Fm} {st0:St} {l:a_ RO} {d:bf Nat} {gd:bf (Nat×Bool)} {now:Bool} {az:a_ Arg} {dd:a_ Nat}
section
variable {N:Nat} [bz α]
theorem TR (n:Nat) (dr:Bool) (fr:a_ Nat) (q:a_ RO) (fs':a_ Fm) (st:St) (k:IntKind) {ln sz:Nat} {a:bU N α} {i:Int} {f:α->bf γ} (B:q=⟨d,gd,now,.p (.idxA ln sz),az,dd,[]⟩::l)
 (u:(fC S c n fo fs st0,wanted st.g gd,bQ S.N st.g az,sz,ln)=(some (.ops dr fr q,fs',st),some true,some [cp a,.v (.int k i)],bz.size α,N))
 (h:∀x,a.at i=some x->Le ((f x).bind e) (rF S c Q dr fr d (.p (.idxA ln sz)) l fs' dd (cU st d (.v (.fptr (pa a i)))))):Le (((a.at i).bind f).bind e) (rn S c Q fo fs st0):=by
 simp  at u;obtain⟨h1,w,z,C,D⟩:=u;subst C D;refine Dk h1 B w ?_ h;intro r hr;obtain⟨x,G,hr⟩:=ζg.1 hr;obtain⟨g1,g2,_⟩:=bU.ud G;rw[xQ  z rfl ?_]
 .omega
 rw[wL];simp[bP,vA];have t:i.toNat*bz.size α<=(cells a).length:=by
  rw[gJ];exact Nat.mul_le_mul_right _ (Nat.le_of_lt g2)
 rw[if_pos ⟨g1,by omega⟩,if_pos t]
 rfl
theorem US (n:Nat) (dr:Bool) (fr:a_ Nat) (q:a_ RO) (fs':a_ Fm) (st:St) (a:bU N α) (i:Int) (o:Nat) (x:α) (B:a.at i=some x) {k:Nat} {m:bf β} (D:q=⟨d,gd,now,.p (.fieldAddr k),az,dd,[]⟩::l)
 (u:(fC S c n fo fs st0,wanted st.g gd,bQ S.N st.g az,Nat.ble (o+k) (bz.size α))=(some (.ops dr fr q,fs',st),some true,some [.v (.fptr ((pa a i).drop o))],true))
 (h:Le m (rF S c Q dr fr d (.p (.fieldAddr k)) l fs' dd (cU st d (.v (.fptr ((pa a i).drop (o+k))))))):Le m (rn S c Q fo fs st0):=by
 simp only[ζc]at u;obtain⟨h1,t,w,z⟩:=u;refine pV h1 D t (xQ w rfl ?_) h;have C:=Nat.le_of_ble_eq_true z;obtain⟨r,hr⟩:=zL B;have G:(pa a i).length>=bz.size α:=by rw[hr,ζi,gJ];omega
 rw[EV,Gl,if_pos Zd,List.drop_drop]
 rfl
theorem TX (n:Nat) (dr:Bool) (fr:a_ Nat) (q:a_ RO) (fs':a_ Fm) (st:St) (a:bU N α) (i:Int) (o:Nat) (x:α) (D:a.at i=some x) {sz:Nat} {ag:Bool} {v:V} (hv:(cut (cells x) o sz).bind (mk ag)=some v) (u:V) {m:bf β} (G:q=⟨d,gd,now,.r (.load sz ag),az,dd,[]⟩::l)
 (B:(fC S c n fo fs st0,wanted st.g gd,bQ S.N st.g az,v)=(some (.ops dr fr q,fs',st),some true,some [.v (.fptr ((pa a i).drop o))],u))
 (h:Le m (rF S c Q dr fr d (.r (.load sz ag)) l fs' dd (cU st d (.v u)))):Le m (rn S c Q fo fs st0):=by
 simp  at B;obtain⟨h1,z,C,rfl⟩:=B;refine pV h1 G z ?_ h;rw[BF,C];have hold:eB fr [SV.v (.fptr ((pa a i).drop o))]=true:=rfl;simp[hold,Mg];obtain⟨r,hr⟩:=zL D;rw[hr];have hc:cut ((cells x++r).drop o) 0 sz=cut (cells x) o sz:=by
  cases t:cut (cells x) o sz with
  | none=>grind
  | some w=>
   unfold cut at t ⊢;dsimp only at t ⊢;split at t
   .have e1:(List.drop 0 (List.drop o (cells x++r))).take sz=((cells x).drop o).take sz:=by
     have I:sz=0\/o<=(cells x).length:=by
      grind
     grind
    grind
   grind
 cases t:cut (cells x) o sz with
 | none=>grind
 | some w=>grind
theorem R2 (n:Nat) (dr:Bool) (fr:a_ Nat) (q:a_ RO) (fs':a_ Fm) (st:St) (cs:a_ SV) {u sz:Nat} {zero:a_ V} {m:bf β} (D:q=⟨some u,gd,now,.a (.alloc sz zero),az,dd,[]⟩::l)
 (G:st.new u=true) (B:(fC S c n fo fs st0,wanted st.g gd,bQ S.N st.g az,zero.map SV.v)=(some (.ops dr fr q,fs',st),some true,some [],cs))
 (h:Le m (rF S c Q dr fr (some u) (.a (.alloc sz zero)) l fs' dd { st with g:=bB st.g u (.ptr u 0),m:=bB st.m u (.box cs) })):Le m (rn S c Q fo fs st0):=by
 simp  at B;obtain⟨h1,t,w,z⟩:=B;subst z;refine pV h1 D t ?_ h;rw[wR,w];simp[G,lR]
theorem rV (d:Nat) (l:a_ V):SV.c9 d (l.map .v)=false:=by
 induction l with
 | nil=>rfl
 | cons a l t=>simp[SV.c9,SV.cw,t]
theorem sD {α:Type} [bz α] (d:Nat) (x:α):bu.cw d (bx x)=false:=rV d (cells x)
theorem Tv (n:Nat) (dr:Bool) (fr:a_ Nat) (q:a_ RO) (fs':a_ Fm) (st:St) (k:IntKind) (u:Nat) {ln sz:Nat} {a:bU N α} {i:Int} {f:α->bf γ} (D:q=⟨d,gd,now,.p (.idxA ln sz),az,dd,[]⟩::l)
 (B:(fC S c n fo fs st0,wanted st.g gd,bQ S.N st.g az,sz,ln,bh st.m u)=(some (.ops dr fr q,fs',st),some true,some [.ptr u 0,.v (.int k i)],bz.size α,N,some (bx a)))
 (h:∀x,a.at i=some x->Le ((f x).bind e) (rF S c Q dr fr d (.p (.idxA ln sz)) l fs' dd (cU st d (.ptr u (i.toNat*bz.size α+0))))):Le (((a.at i).bind f).bind e) (rn S c Q fo fs st0):=by
 simp  at B;obtain⟨h1,t,w,G,I,z⟩:=B;refine Dk h1 D t ?_ h;intro r hr;obtain⟨x,C,hr⟩:=ζg.1 hr;obtain⟨g1,g2,_⟩:=bU.ud C;rw[xQ  w rfl ?_]
 .omega
 simp[iJ,cT,vh,z]
 grind
theorem N5 {a:bU N α} {i:Int} {o:Nat} {x:α} (u:a.at i=some x) {sz:Nat} {ag:Bool} {v:V} (hv:(cut (cells x) o sz).bind (mk ag)=some v):uf sz ag ((((cells a).map SV.v).drop (i.toNat*bz.size α+o)).take sz)=some (.v v):=by
 obtain⟨r,hr⟩:=zL u;have e1:(((cells a).map SV.v).drop (i.toNat*bz.size α+o)).take sz=(((cells x).drop o).take sz).map SV.v:=by
  have t:((cells x).drop o).take sz=((cells x++r).drop o).take sz:=by
   cases hc:cut (cells x) o sz with
   | none=>grind
   | some w=>
    unfold cut at hc;dsimp only at hc;split at hc
    .have B:sz=0\/o<=(cells x).length:=by
      grind
     grind
    simp_all
  rw[t,<-hr,pa,List.drop_drop,List.map_take,List.map_drop]
 rw[e1];unfold uf
 cases hc:cut (cells x) o sz with
 | none=>grind
 | some w=>
  rw[hc]at hv;unfold cut at hc;dsimp only at hc;split at hc
  .rename_i z;cases hc;simp only[List.length_map,z];unfold mk at hv
   cases ag with
   | true=>
    simp only[if_true]at hv ⊢;cases hv;rw[kV]
   | false=>
    grind
  simp_all
theorem Tz (n:Nat) (dr:Bool) (fr:a_ Nat) (q:a_ RO) (fs':a_ Fm) (st:St) (u:Nat) (a:bU N α) (i:Int) (o:Nat) (x:α) (G:a.at i=some x) {sz:Nat} {ag:Bool} {v:V} (hv:(cut (cells x) o sz).bind (mk ag)=some v) (B:V) {m:bf β} (J:q=⟨d,gd,now,.r (.load sz ag),az,dd,[]⟩::l)
 (D:(fC S c n fo fs st0,wanted st.g gd,bQ S.N st.g az,v,bh st.m u,(!dr||now||eB fr [.ptr u 0]))=(some (.ops dr fr q,fs',st),some true,some [.ptr u (i.toNat*bz.size α+o)],B,some (bx a),true))
 (h:Le m (rF S c Q dr fr d (.r (.load sz ag)) l fs' dd (cU st d (.v B)))):Le m (rn S c Q fo fs st0):=by
 simp only[ζc]at D;obtain⟨h1,t,w,rfl,z,C⟩:=D;refine pV h1 J t ?_ h;rw[BF,w];have hold:(!dr||now||eB fr [SV.ptr u (i.toNat*bz.size α+o)])=true:=C;simp only[ζb,hold,UY,z,KJ];rw[N5 G hv];rfl
theorem Lp {N:Nat} (a:bU N α) (i:Int) (y:α) (h:i.toNat<N):cells (a.set i y)=(cells a).take (i.toNat*bz.size α)++cells y++(cells a).drop ((i.toNat+1)*bz.size α):=by
 have key:∀(l:a_ α) (k:Nat),k<l.length->((l.set k y).map (cells )).flatten=(l.map (cells )).flatten.take (k*bz.size α)++cells y++(l.map (cells )).flatten.drop ((k+1)*bz.size α):=by
  intro l
  induction l with
  | nil=>grind
  | cons b l t=>
   intro k h;have u  := gJ b
   cases k with
   | zero=>
    grind
   | succ k=>
    simp only[List.map_cons,List.flatten_cons];have e1:(k+1)*bz.size α=(cells b).length+k*bz.size α:=by grind
    have e2:(k+1+1)*bz.size α=(cells b).length+(k+1)*bz.size α:=by grind
    rw[e2,List.drop_length_add_append]
    grind
 exact key a.l i.toNat (by rw[a.len];omega)
theorem Ui (n:Nat) (dr:Bool) (fr:a_ Nat) (q:a_ RO) (fs':a_ Fm) (st:St) (u:Nat) (a:bU N α) (i:Int) (o:Nat) (x:α) (B:a.at i=some x) (y:α) (v:V) {sz:Nat} (G:cells y=(cells x).take o++v.cells++(cells x).drop (o+sz)) {m:bf β} (J:q=⟨d,gd,now,.l (.store sz),az,dd,[]⟩::l)
 (D:(fC S c n fo fs st0,wanted st.g gd,bQ S.N st.g az,bh st.m u,(!dr||now),v.cells.length,v.cells.all V.one,Nat.ble (o+sz) (bz.size α))=(some (.ops dr fr q,fs',st),some true,some [.ptr u (i.toNat*bz.size α+o),.v v],some (bx a),true,sz,true,true))
 (h:Le m (rF S c Q dr fr d (.l (.store sz)) l fs' dd (cU { st with m:=bB st.m u (bx (a.set i y)) } d (.v .undef)))):Le m (rn S c Q fo fs st0):=by
 simp only[ζc]at D;obtain⟨h1,w,z,C,I,L,O,T⟩:=D;refine pV h1 J w ?_ h;rw[oU,z];have W:=Nat.le_of_ble_eq_true T;obtain⟨g1,g2,g3⟩:=bU.ud B;have U:i.toNat*bz.size α+o+sz<=((cells a).map SV.v).length:=by
  rw[List.length_map,gJ];have:(i.toNat+1)*bz.size α<=N*bz.size α:=Nat.mul_le_mul_right _ g2;rw[Nat.add_mul,Nat.one_mul]at this;show _<=N*bz.size α;omega
 simp only[ζb,I,if_true,gB,C,putCells,L,O,U,and_self,Option.map_some];obtain⟨r,hr⟩:=zL B;have e:((cells a).map SV.v).take (i.toNat*bz.size α+o)++v.cells.map .v++((cells a).map SV.v).drop (i.toNat*bz.size α+o+sz)=(cells (a.set i y)).map SV.v:=by
  rw[Lp a i y g2,G];have hd:(cells a).drop (i.toNat*bz.size α)=cells x++r:=hr;have t  := gJ x;have e1:(cells a).take (i.toNat*bz.size α+o)=(cells a).take (i.toNat*bz.size α)++(cells x).take o:=by
   rw[List.take_add,hd,List.take_append_of_le_length Za]
  have e2:(cells a).drop (i.toNat*bz.size α+o+sz)=(cells x).drop (o+sz)++(cells a).drop ((i.toNat+1)*bz.size α):=by
   have e3:(cells a).drop ((i.toNat+1)*bz.size α)=r:=by
    rw[Nat.add_mul,Nat.one_mul,<-List.drop_drop,hd,<-t,List.drop_left]
   rw[e3,Nat.add_assoc,<-List.drop_drop,hd,List.drop_append_of_le_length Za]
  rw[<-List.map_take,<-List.map_drop,e1,e2]
  grind
 rw[e]
end
theorem Qf {α:Type} [bz α] {m:Tb bu} {d:Nat} {x:α} {vs:a_ V} (h:bh m d=some (bx x)):ng (iL m 8) (.ptr d 0::vs.map .v)=some (.fptr (cells x)::vs):=by
 have h1:iL m 8 (.ptr d 0)=some (.fptr (cells x)):=by
  show (match bh m d with
   | some (.box cs)=>match ng (iL m 7) cs with
    | some t=>if 0<=t.length then some (V.fptr (t.drop 0))else none
    | none=>none
   | _=>none)=_
  rw[h];simp[Fa]
 simp[ng,h1,Fa]
theorem TJ (n:Nat) {fo:Fo} {fs fs':a_ Fm} {st0 st:St} {rs:a_ RV} {e:γ->bf (a_ V)} {r:γ} (svs:a_ SV) {ys:a_ V} (u:ng (iL st.m 8) svs=some ys) (h:(fC S c n fo fs st0,iN st rs)=(some (.rt,fs',st),some svs)) (B:e r=some ys) :
 Le ((some r).bind e) (rn S c (qm rs) fo fs st0):=by
 simp  at h;rw[nC h.1];refine Le.of_eq ?_;simp[rn,qm,h.2,u]
 grind
abbrev Mo (κ ν:Type):=a_ (κ×ν)
class Key (κ:Type) [bz κ] [DecidableEq κ] where
 kk:vV
 ok:∀a:κ,oC kk (enc a)=true
 eq:∀a b:κ,vc (enc a) (enc b)=some (decide (a=b))
instance:Key Int where
 kk:=.int .i64
 ok _:=rfl
 eq a b:=by
  show some (a==b)=some (decide (a=b));rw[show (a==b)=decide (a=b)from Bool.eq_iff_iff.2 Zc]
instance:Key bg where
 kk:=.ints 2
 ok _:=rfl
 eq a b:=by
  obtain⟨p,i⟩:=a;obtain⟨q,j⟩:=b;simp only[vc,jW,gF,RW,Option.map_some,List.length_cons,if_true,ζa];rw[Bool.eq_iff_iff];simp
section
variable {κ ν:Type} [bz κ] [DecidableEq κ] [Key κ] [bz ν]
def sW (k:κ):Mo κ ν->bf ν
 | []=>none
 | (a,v)::r=>if k=a then some v else sW k r
def CL (m:Mo κ ν) (k:κ) (z:ν):ν:=(sW k m).getD z
def qg (m:Mo κ ν) (k:κ) (v:ν):Mo κ ν:=
 match m with
 | []=>[(k,v)]
 | (a,w)::r=>if k=a then(k,v)::r else(a,w)::qg r k v
def mY (m:Mo κ ν):a_ (V×V):=m.map λx=>(enc x.1,enc x.2)
def uC (m:Mo κ ν):bu:=.mp (mY m)
theorem Il (k:κ):∀(m:Mo κ ν) (i:Nat),(gN (enc k) (mY m) i).map (Option.map (·.2))=some ((sW k m).map enc)
 | [],i=>rfl
 | (a,v)::r,i=>by
  simp only[mY,List.map_cons,gN,Key.eq,sW]
  by_cases h:k=a
  .grind
  simp only[h];exact Il k r (i+1)
theorem ML (k:κ) (v:ν) (m:Mo κ ν):ot (enc k) (enc v) (mY m)=some (mY (qg m k v)):=by
 unfold ot;have key:∀(m:Mo κ ν) (pre:a_ (V×V)) (i:Nat),pre.length=i->(match gN (enc k) (mY m) i with
  | some (some (j,_))=>some ((pre++mY m).set j (enc k,enc v))
  | some none=>some (pre++mY m++[(enc k,enc v)])
  | none=>none)=some (pre++mY (qg m k v)):=by
  intro m
  induction m with
  | nil=>simp[mY,gN,qg]
  | cons x r t=>
   obtain⟨a,w⟩:=x;intro pre i h;rw[show mY ((a,w)::r)=(enc a,enc w)::mY r from rfl];simp[gN,Key.eq,qg]
   by_cases hk:k=a
   .subst hk h;simp[mY]
   simp[hk];rw[show mY ((a,w)::qg r k v)=(enc a,enc w)::mY (qg r k v)from rfl];have:=t (pre++[(enc a,enc w)]) (i+1) (by simp[h])
   grind
 have:=key m [] 0 rfl
 grind
theorem TO (n:Nat) (dr:Bool) (fr:a_ Nat) (q:a_ RO) (fs':a_ Fm) (st:St) (u:Nat) (mp:Mo κ ν) (k:κ) (z:ν) {kk:vV} {B:V} {m:bf β} (G:q=⟨d,gd,now,.r (.lookup kk B false),az,dd,[]⟩::l)
 (D:(fC S c n fo fs st0,wanted st.g gd,bQ S.N st.g az,bh st.m u,(!dr||now||eB fr [.mp u,cv k]),B,kk)=(some (.ops dr fr q,fs',st),some true,some [.mp u,cv k],some (uC mp),true,enc z,Key.kk κ))
 (h:Le m (rF S c Q dr fr d (.r (.lookup kk B false)) l fs' dd (cU st d (cv (CL mp k z))))):Le m (rn S c Q fo fs st0):=by
 simp only[ζc]at D;obtain⟨h1,t,C,I,J,L,O⟩:=D;subst L O;refine pV h1 G t ?_ h;rw[BF,C];simp only[ζb,J,n5,I,uC,Key.ok];have:=Il k mp 0;simp[CL]
 cases T:gN (enc k) (mY mp) 0 with
 | none=>grind
 | some r=>
  rw[T]at this
  cases r with
  | none=>
   cases U:sW k mp with
   | none=>rfl
   | some w=>grind
  | some w=>
   cases U:sW k mp with
   | none=>grind
   | some W=>
    grind
theorem UH (n:Nat) (dr:Bool) (fr:a_ Nat) (q:a_ RO) (fs':a_ Fm) (st:St) (u:Nat) (mp:Mo κ ν) (k:κ) (v:ν) {kk:vV} {m:bf β} (D:q=⟨d,gd,now,.l (.mapUp kk),az,dd,[]⟩::l)
 (B:(fC S c n fo fs st0,wanted st.g gd,bQ S.N st.g az,bh st.m u,(!dr||now),kk)=(some (.ops dr fr q,fs',st),some true,some [.mp u,cv k,cv v],some (uC mp),true,Key.kk κ))
 (h:Le m (rF S c Q dr fr d (.l (.mapUp kk)) l fs' dd (cU { st with m:=bB st.m u (uC (qg mp k v)) } d (.v .undef)))):Le m (rn S c Q fo fs st0):=by
 simp only[ζc]at B;obtain⟨h1,t,w,z,C,G⟩:=B;subst G;refine pV h1 D t ?_ h;rw[oU,w];simp[C,gB,z,uC,Key.ok,ML]
end
end
instance {n:Nat}:OfNat Arg n:=⟨.s n⟩
abbrev bI (o:BinOp):K:=.p (.bin (some .int) none o)
abbrev ix (n:Nat):K:=.p (.idxS n)
abbrev ld (n:Nat):K:=.r (.load n false)
abbrev lD (n:Nat):K:=.r (.load n true)
abbrev fa (n:Nat):K:=.p (.fieldAddr n)
abbrev ln:K:=.p .lenSl
abbrev Iv (n:Nat) (x:Int):Nat×SV:=(n,iv x)
abbrev Bv (n:Nat) (x:Bool):Nat×SV:=(n,bv x)
abbrev Cv {α:Type} [bz α] (n:Nat) (x:α):Nat×SV:=(n,cv x)
abbrev Kv {α:Type} [bz α] (n:Nat) (x:α):Nat×SV:=(n,cp x)
abbrev Pv (n:Nat):Nat×SV:=(n,.ptr n 0)
abbrev Ov (n:Nat):Nat×SV:=(n,.own (2000+n))
abbrev Xb {α:Type} [bz α] (n:Nat) (x:α):Nat×bu:=(n,bx x)
abbrev Lb {α:Type} [bz α] (n:Nat) (x:Sl α):Nat×bu:=(n,cq x)
abbrev on (d:Nat) (k:K) (az:a_ Arg) (dd:a_ Nat):RO:=⟨some d,none,true,k,az,dd,[]⟩
abbrev oz (k:K) (az:a_ Arg) (dd:a_ Nat):RO:=⟨none,none,false,k,az,dd,[]⟩
attribute [simp] Qk QV Q4
theorem lz.Aq {S:Sys} {T:pg} {f:FuncId} {b:Bool} (u:T f=none) (hk:S.E.keep f=false) (B:S.Aq f []=some (.bool b)) :
 lz S (dA S T) f (λ_:Unit=>[]) (λr:Bool=>[.bool r]) (λ_=>some b) true where
 k:=hk
 h _:=by
  have h:=L1 (az:=[]) u hk B;intro r hr;cases hr;unfold lB;rw[h];exact vu 8 [.bool b]
 s _ _:=rfl
def Wp {α:Type} (m:bf α) (P:α->Prop):Prop:=∃a,m=some a/\P a
section
variable {α β:Type} {P Q:α->Prop}
theorem bk (a:α):Wp (some a) P↔P a:=⟨λh=>by obtain⟨b,e,p⟩:=h;cases e;exact p,λp=>⟨a,rfl,p⟩⟩
theorem Qm:Wp (none:bf α) P↔False:=⟨λh=>(by obtain⟨b,e,p⟩:=h;cases e),λh=>False.elim h⟩
theorem gA {m:bf β} {k:β->bf α}:Wp (m.bind k) P↔Wp m λb=>Wp (k b) P:=by
 cases m with
 | none=>simp only[Option.bind_none,Qm]
 | some b=>simp only[ζb,bk]
theorem ck {t:Bool} {a b:bf α}:Wp (bt t a b) P↔(t=true->Wp a P)/\(t=false->Wp b P):=by
 cases t <;> simp[bt]
theorem Wp.mono {m:bf α} (h:Wp m P) (u:∀a,P a->Q a):Wp m Q:=let ⟨a,e,p⟩:=h;⟨a,e,u a p⟩
theorem Wp.and {m:bf α} (h:Wp m P) (u:Wp m Q):Wp m λa=>P a/\Q a:=by
 obtain⟨a,e,p⟩:=h;obtain⟨b,e2,q⟩:=u;rw[e]at e2;cases e2;exact⟨a,e,p,q⟩
theorem Wp.eq {m:bf α} {a:α} (h:Wp m λx=>x=a):m=some a:=by obtain⟨b,e,rfl⟩:=h;exact e
end
section
variable {σ ε ρ:Type}
theorem gm (step:σ->bf (Fw σ ε ρ)) (s:σ):bM step s=(step s).bind λw=>match w with
 | .n u=>bM step u
 | .x e=>some (.x e)
 | .r b=>some (.r b):=by
 have h1:∀r,bM step s=some r->((step s).bind λw=>match w with
  | .n u=>bM step u
  | .x e=>some (.x e)
  | .r b=>some (.r b))=some r:=by
  intro r h;obtain⟨k,hk⟩:=oJ.1 h
  cases k with
  | zero=>simp[kn]at hk
  | succ k=>
   simp only[kn]at hk
   cases t:step s with
   | none=>rw[t]at hk;cases hk
   | some w=>
    rw[t]at hk
    cases w with
    | n u=>exact oJ.2 ⟨k,hk⟩
    | x e=>exact hk
    | r b=>exact hk
 cases z:bM step s with
 | some r=>exact(h1 r z).symm
 | none=>
  cases hr:((step s).bind λw=>match w with
  | .n u=>bM step u
  | .x e=>some (.x e)
  | .r b=>some (.r b))with
  | none=>rfl
  | some r=>
   exfalso
   cases t:step s with
   | none=>rw[t]at hr;cases hr
   | some w=>
    rw[t]at hr;simp only[ζb]at hr;have:bM step s=some r:=by
     cases w with
     | n u=>
      obtain⟨k,hk⟩:=oJ.1 hr;exact oJ.2 ⟨k+1,by simp only[kn,t];exact hk⟩
     | x e=>exact oJ.2 ⟨1,by simp only[kn,t];exact hr⟩
     | r b=>exact oJ.2 ⟨1,by simp only[kn,t];exact hr⟩
    rw[z]at this;cases this
def Pp (I:σ->Prop) (μ:σ->Nat) (B:ε->Prop) (D:ρ->Prop) (s:σ):Fw σ ε ρ->Prop
 | .n u=>I u/\μ u<μ s
 | .x e=>B e
 | .r b=>D b
def Uw (u:ε->Prop) (B:ρ->Prop):Fw Empty ε ρ->Prop
 | .x e=>u e
 | .r b=>B b
theorem MQ {step:σ->bf (Fw σ ε ρ)} (I:σ->Prop) (μ:σ->Nat) (u:ε->Prop) (B:ρ->Prop) (h:∀s,I s->Wp (step s) (Pp I μ u B s)) {s:σ} (D:I s):Wp (bM step s) (Uw u B):=by
 have key:∀n s,μ s<=n->I s->Wp (bM step s) (Uw u B):=by
  intro n
  induction n with
  | zero=>
   intro s G t;obtain⟨w,z,hr⟩:=h s t;rw[gm,z]
   cases w with
   | n C=>exact absurd hr.2 Za
   | x e=>exact⟨_,rfl,hr⟩
   | r b=>exact⟨_,rfl,hr⟩
  | succ n J=>
   intro s G t;obtain⟨w,z,hr⟩:=h s t;rw[gm,z]
   cases w with
   | n C=>exact J C (by have:=hr.2;omega) hr.1
   | x e=>exact⟨_,rfl,hr⟩
   | r b=>exact⟨_,rfl,hr⟩
 exact key (μ s) s (Nat.le_refl _) D
theorem d_ {γ:Type} {step:σ->bf (Fw σ ε ρ)} {u:ε->bf γ} {fr:ρ->bf γ} {P:γ->Prop} (I:σ->Prop) (μ:σ->Nat) {s:σ} (B:I s)
 (h:∀s,I s->Wp (step s) (Pp I μ (λe=>Wp (u e) P) (λb=>Wp (fr b) P) s)):Wp ((bM step s).bind (Fw.elim u fr)) P:=by
 rw[gA];refine(MQ I μ _ _ h B).mono ?_;intro w t
 cases w with
 | n a=>cases a
 | x e=>exact t
 | r b=>exact t
end
theorem Jd {β γ δ:Type} {e:γ->bf β} {m:bf δ} {f:δ->bf γ} {L:bf β} (h:∀x,m=some x->Le ((f x).bind e) L):Le ((m.bind f).bind e) L:=by
 cases m with
 | none=>exact Le.none _
 | some x=>exact h x rfl
section
variable {S:Sys} {c:bN} {β:Type} {Q:Out×St->bf β} {fo:Fo} {fs:a_ Fm} {st0:St} {l:a_ RO} {d:bf Nat} {now:Bool} {az:a_ Arg} {dd:a_ Nat}
theorem Le.get {β:Type} {r:β} {L:bf β} (h:Le (some r) L):L=some r:=h r rfl
theorem Kt {n:Nat} {fo fo':Fo} {fs fs':a_ Fm} {st:St} (A:Bool->St) {t:Bool} {m:bf β} (u:t=true) (h:fC S c n fo fs st=some (fo',fs',A t)) (B:Le m (rn S c Q fo' fs' (A true))):Le m (rn S c Q fo fs st):=by
 rw[nC h,u];exact B
theorem Kf {n:Nat} {fo fo':Fo} {fs fs':a_ Fm} {st:St} (A:Bool->St) {t:Bool} {m:bf β} (u:t=false) (h:fC S c n fo fs st=some (fo',fs',A t)) (B:Le m (rn S c Q fo' fs' (A false))):Le m (rn S c Q fo fs st):=by
 rw[nC h,u];exact B
theorem NZ {α:Type} [bz α] {s:Sl α} {i:Int} {x:α} {r:β} {L:bf β} (u:idx s i=some x) (h:Le (((idx s i).bind λ_=>some r).bind some) L):Le (some r) L:=by
 rw[u]at h;exact h
theorem UB {n:Nat} {q:a_ RO} {fs':a_ Fm} {st:St} {id:Nat} {vs:a_ SV} {xs:a_ V} {u:a_ (a_ V)} {m:bf β}
 (B:fC S c n fo fs st0=some (.ops false [] q,fs',st)) (D:q=⟨d,none,now,.c,az,dd,[]⟩::l) (G:bQ S.N st.g az=some (.yl id::vs)) (J:cT vs=some xs) (O:st.want=xs::u) (T:id=st.yid)
 (h:Le m (rn S c Q (.ops false [] l) fs' (nY dd (cU { st with want:=u } d (.v (.bool (st.more || !u.isEmpty))))))):Le m (rn S c Q fo fs st0):=by
 refine Pt B D rfl ?_ h;unfold eS;simp only[wanted,fA,G,J,O,T,if_true,and_self,Bool.false_eq_true,if_false]
theorem zz (a:RC) (fs:a_ Fm) (st:St):rn S c Q (.rc (.loop a)) fs st=(ny (cA S c a) st).bind (Dc (lK S c Q fs) (lJ S c Q fs) (λst=>Q (.ret,st))):=by
 show jE S c Q (.loop a) fs st=_;unfold jE;rw[Cl];rfl
theorem Qp {f:St->bf (Out×St)} {st st':St} (h:f st=some (.norm,st')):ny f st=ny f st':=by
 have key:∀r,ny f st=some r↔ny f st'=some r:=λr=>by
  constructor
  .intro hr;obtain⟨k,hk⟩:=lN.1 hr
   cases k with
   | zero=>simp[iF]at hk
   | succ k=>simp only[iF,h]at hk;exact lN.2 ⟨k,hk⟩
  intro hr;obtain⟨k,hk⟩:=lN.1 hr;exact lN.2 ⟨k+1,by simp only[iF,h];exact hk⟩
 cases t:ny f st with
 | none=>
  cases u:ny f st' with
  | none=>rfl
  | some r=>rw[(key r).2 u]at t;cases t
 | some r=>rw[(key r).1 t]
theorem IA {f:St->bf (Out×St)} {st st':St} {o:Out} (h:f st=some (o,st')) (u:o≠.norm):ny f st=some (o,st'):=by
 refine lN.2 ⟨1,?_⟩
 cases o with
 | norm=>exact absurd rfl u
 | exit k=>simp only[iF,h]
 | ret=>simp only[iF,h]
theorem Ee {a:RC} {fs:a_ Fm} {st st':St} (h:rn S c some (.rc a) [] st=some (.norm,st')):rn S c Q (.rc (.loop a)) fs st=rn S c Q (.rc (.loop a)) fs st':=by
 rw[zz,zz,Qp (by rw[zB];exact h)]
theorem DR {a:RC} {fs:a_ Fm} {st st':St} {k:Nat} (h:rn S c some (.rc a) [] st=some (.exit k,st')):rn S c Q (.rc (.loop a)) fs st=rn S c Q (.ex k) fs st':=by
 rw[zz,IA (by rw[zB];exact h) Zc];rfl
theorem DQ {a:RC} {fs:a_ Fm} {st st':St} (h:rn S c some (.rc a) [] st=some (.ret,st')):rn S c Q (.rc (.loop a)) fs st=Q (.ret,st'):=by
 rw[zz,IA (by rw[zB];exact h) Zc];rfl
end
def Qi:Out×St->bf Unit
 | (.exit _,_)=>none
 | (_,st)=>if st.want.isEmpty then some ()else none
def Sys.bare (S:Sys):Sys:=⟨S.E,S.N,λ_ _ _=>none,λ_ _=>none,λ_=>none⟩
def mg:bN:=λ_ _ _=>none
def Cb (u rest:a_ (a_ V)) (more:Bool):Prop:=more=true/\u=rest\/more=false/\u≠[]/\∃r,rest=u++r
theorem MG (S:Sys) {f:FuncId} {fi:FI} {nm:FuncId->bf Nat} {rf:RF} (D:S.E.ft f=some fi) (O:∀g s,nm g=some s->S.N s=g) (hr:xz S.E nm fi rf) {a b:a_ V} {xs:a_ (a_ V)} (B:a.length+1+b.length<=rf.na) (G:rf.rs=[])
 (h:∀u more,Cb u xs more->∀yid,rn S.bare mg Qi (.rc rf.body) [] ⟨vH 0 (a.map .v++.yl yid::b.map .v),[],[],u,more,yid⟩=some ()):iu S f a b xs:=by
 have k:iu S.bare f a b xs:=P5 (S:=S.bare) (c:=mg) (fi:=fi) (nm:=nm) (rf:=rf) (λ_ _ h=>by cases h) (λ_ _ _ _ _ h=>by simp[mg]at h) (λ_ _ _ _ h=>by simp[Sys.bare]at h) D O hr B G (λu more w yid=>by
  have h1:=h u more w yid;change jE S.bare mg Qi rf.body [] _=some ()at h1;rw[nL]at h1;obtain⟨⟨o,st'⟩,z,t⟩:=ζg.1 h1;refine⟨o,st',z,?_,?_,rfl⟩
  .rintro id rfl;simp[Qi]at t
  cases o <;> simp[Qi]at t <;> exact t)
 intro u more w yid J y Z C I H h1 z t L Q;exact k u more w yid J ⟨y.vM,y.yield⟩ Z C I H h1 z t L Q
open Classical in
def wC (P:FuncId->a_ V->a_ V->a_ (a_ V)->Prop) (f:FuncId) (a b:a_ V):bf (a_ (a_ V)):=if h:∃t,P f a b t then some (Classical.choose h)else none
theorem Jt {P:FuncId->a_ V->a_ V->a_ (a_ V)->Prop} {f:FuncId} {a b:a_ V} {xs:a_ (a_ V)} (h:P f a b xs) (hu:∀ys,P f a b ys->ys=xs):wC P f a b=some xs:=by
 have h1:∃xs,P f a b xs:=⟨xs,h⟩;unfold wC;rw[dif_pos h1,hu _ (Classical.choose_spec h1)]
theorem IS {P:FuncId->a_ V->a_ V->a_ (a_ V)->Prop} {f:FuncId} {a b:a_ V} {xs:a_ (a_ V)} (h:wC P f a b=some xs):P f a b xs:=by
 unfold wC at h;split at h
 next h1=>cases h;exact Classical.choose_spec h1
 cases h
theorem Sq {E:Env} {nm:FuncId->bf Nat} {f:FuncId} {rf:RF}
 (h:((E.ft f).bind λfi=>(bH ⟨E,nm,fi.ntmps⟩ false fi.body).bind λc=>(fi.results.mapM (zP E)).bind λrs=>some (c,rs,fi.ntmps))=some (erase rf.body,rf.rs,rf.na)):∃fi,E.ft f=some fi/\xz E nm fi rf:=by
 obtain⟨fi,h1,u⟩:=ζg.1 h;obtain⟨c,w,z⟩:=ζg.1 u;obtain⟨rs,B,t⟩:=ζg.1 z;simp only[ζa,ζc]at t;obtain⟨rfl,rfl,C⟩:=t;exact⟨fi,h1,w,B,C.symm⟩
theorem FR.nX {H:bp} {Z Z':Nat->Prop} {x y z:V} (h:FR H Z x z) (k:FR H Z' y z):x=y:=by
 obtain⟨n,t⟩:=yV x;obtain⟨m,u⟩:=yV y;have e1:=h.borrow (max n m) (yq (Nat.le_max_left _ _) t);have e2:=k.borrow (max n m) (yq (Nat.le_max_right _ _) u);rw[e1]at e2;exact Option.some.inj e2
open Classical in
def yX (E:Env) (f:FuncId) (az:a_ V):bf V:=if h:∃y,Dm E f az y then some (Classical.choose h)else none
theorem KX {E:Env} {f:FuncId} {az:a_ V} {y:V} (h:yX E f az=some y):Dm E f az y:=by
 unfold yX at h;split at h
 next h1=>cases h;exact Classical.choose_spec h1
 cases h
theorem KO {E:Env} {f:FuncId} {az:a_ V} {y:V} (h:Dm E f az y):yX E f az=some y:=by
 have h1:∃y,Dm E f az y:=⟨y,h⟩;unfold yX;rw[dif_pos h1];obtain⟨n,z,H,Z,k1,k2,_⟩:=h;obtain⟨t,u,H',Z',k3,k4,_⟩:=Classical.choose_spec h1;have e1:=(th E (Nat.le_max_left n t)).go _ _ _ _ k1;have e2:=(th E (Nat.le_max_right n t)).go _ _ _ _ k3;rw[e1]at e2;cases e2;rw[FR.nX k4 k2]
theorem HF {E:Env} {f:FuncId} {az:a_ V} {y:V} (u:V.scalar y=true) (h:∃n H',run E n (.fn f) az []=some (y,H')):Dm E f az y:=by
 obtain⟨n,H',h⟩:=h;exact⟨n,y,H',λ_=>False,h,.same _ (iZ u),λ_ h=>h.elim,⟨λ_ _ _ h=>h.elim⟩⟩
end Go.VE
