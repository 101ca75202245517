/-
 Plain values and the steps of a certificate.
-/
import Derived.KernelRfl
import Derived.Test.YtlmckmkfopljoaaGreatDoorN2
set_option linter.all false
namespace Go.VE
variable [bK]
inductive Sl (α:Type) where
 | nil
 | emp
 | row (l:List α)
 | part (l:List α)
 deriving Inhabited
def Sl.l {α:Type}:Sl α->List α
 | .nil|.emp=>[]
 | .row l|.part l=>l
def Sl.k {α:Type}:Sl α->Fl
 | .nil=>.nil
 | .emp=>.emp
 | .row _=>.row
 | .part _=>.part
class bt (α:Type) where
 cells:α->List V
 agg:Bool
 size:Nat
 len:∀a,(cells a).length=size
 good:∀a,V.cH (cells a)=true
 one:∀a,(cells a).all V.one=true
 plain:agg=false->size=1
def cells {α:Type} [bt α] (a:α):List V:=bt.cells a
def enc {α:Type} [bt α] (a:α):V:=if bt.agg α then .agg (cells a)else(cells a).headD .undef
def rows {α:Type} [bt α] (l:List α):List (List V):=l.map cells
def b_ {α:Type} [bt α] (s:Sl α):V:=mD s.k (bt.size α) (rows s.l)
instance:bt Int where
 cells n:=[.int .i64 n]
 agg:=false
 size:=1
 len _:=rfl
 good _:=rfl
 one _:=rfl
 plain _:=rfl
instance:bt Bool where
 cells b:=[.bool b]
 agg:=false
 size:=1
 len _:=rfl
 good _:=rfl
 one _:=rfl
 plain _:=rfl
instance:bt ByteArray where
 cells s:=[.str s]
 agg:=false
 size:=1
 len _:=rfl
 good _:=rfl
 one _:=rfl
 plain _:=rfl
structure aZ where
 proc:Int
 index:Int
 deriving DecidableEq,Inhabited
instance:bt aZ where
 cells x:=[.int .i64 x.proc,.int .i64 x.index]
 agg:=true
 size:=2
 len _:=rfl
 good _:=rfl
 one _:=rfl
 plain h:=by cases h
@[simp] theorem S8 (n:Int):enc n=.int .i64 n:=rfl
@[simp] theorem SS (n:Bool):enc n=.bool n:=rfl
@[simp] theorem Ta (n:ByteArray):enc n=.str n:=rfl
@[simp] theorem SB (n:Int):cells n=[.int .i64 n]:=rfl
@[simp] theorem RE (n:Bool):cells n=[.bool n]:=rfl
@[simp] theorem Sq (n:ByteArray):cells n=[.str n]:=rfl
@[simp] theorem SU (n:aZ):cells n=[.int .i64 n.proc,.int .i64 n.index]:=rfl
@[simp] theorem Ql (n:aZ):enc n=.agg [.int .i64 n.proc,.int .i64 n.index]:=rfl
section
variable {α:Type} [bt α]
theorem jA (l:List α):(rows l).length=l.length:=by simp[rows]
def idx (s:Sl α) (i:Int):Option α:=if 0<=i then s.l[i.toNat]? else none
theorem LJ {N:Nat->FuncId} (s:Sl α) (k:IntKind) (i:Int) {n:Nat} (u:n=bt.size α):bq N (.idxS n) [b_ s,.int k i]=(idx s i).map λx=>.fptr (cells x):=by
 subst u;unfold idx b_;simp only[bq,kK]
 by_cases h:i<0
 .rw[if_pos h,if_neg Za];rfl
 rw[if_neg h,if_pos Za]
 cases s <;> simp[Sl.k,Sl.l,mD,rows,Function.comp_def]
theorem JY {N:Nat->FuncId} (s:Sl α):bq N .lenSl [b_ s]=some (.int .i64 s.l.length):=by
 cases s <;> simp[bq,o4,b_,Sl.k,Sl.l,mD,jA]
end
section
variable {S:Sys} {c:bN}
end
end Go.VE
namespace Go.VE
variable [bK]
section
variable {S:Sys} {c:bN}
def isSlice:sZ->Bool
 | .slice ..=>true
 | _=>false
theorem NU (dr:Bool) (fr:List Nat) (dst:Option Nat) (now:Bool) (p:sZ) (az:List Arg) (st:St) (h:isSlice p=false) :
 eT S c dr fr ⟨dst,none,now,.p p,az,[],[]⟩ st=(bQ S.N st.g az).bind λsvs=>(jg S.N st.m p svs).bind λx=>some (cU st dst x):=by
 unfold eT kM;have u:e9 S.N st.g ⟨dst,none,now,.p p,az,[],[]⟩=none:=by unfold e9;grind
 simp[wanted,u]
 cases z:bQ S.N st.g az with
 | none=>rfl
 | some svs=>
  simp;cases p <;> first|(simp[isSlice]at h;done)|(cases w:jg S.N st.m _ svs <;> simp[w])
theorem Hv (N:Nat->FuncId) (m:Tb bB) (p:sZ) (svs:List SV) (xs:List V) (h:dn svs=some xs):jg N m p svs=(bq N p xs).bind λx=>some (.v x):=by
 unfold jg;rw[h];dsimp only;cases bq N p xs <;> rfl
theorem DY (dr:Bool) (fr:List Nat) (dst:Option Nat) (now:Bool) (q:G_) (az:List Arg) (st:St) :
 eT S c dr fr ⟨dst,none,now,.r q,az,[],[]⟩ st=(bQ S.N st.g az).bind λsvs=>if !dr||now||eD fr svs then(nu st.m q svs).bind λx=>some (cU st dst x)else none:=by
 unfold eT kM;have u:e9 S.N st.g ⟨dst,none,now,.r q,az,[],[]⟩=none:=rfl;simp[wanted,u]
 cases w:bQ S.N st.g az with
 | none=>rfl
 | some svs=>
  simp;split
  .cases z:nu st.m q svs <;> simp
  rfl
theorem DX (dr:Bool) (fr:List Nat) (d:Nat) (now:Bool) (q:Ks) (az:List Arg) (st:St) :
 eT S c dr fr ⟨some d,none,now,.a q,az,[],[]⟩ st=(bQ S.N st.g az).bind λsvs=>if st.new d then(qE st.m q svs d).bind λr=>some { st with g:=bH st.g d r.2,m:=bH st.m d r.1 } else none:=by
 unfold eT kM;have u:e9 S.N st.g ⟨some d,none,now,.a q,az,[],[]⟩=none:=rfl;simp[wanted,u]
 cases w:bQ S.N st.g az with
 | none=>rfl
 | some svs=>
  simp;split
  .cases z:qE st.m q svs d <;> simp[cU]
  rfl
theorem uP (dr:Bool) (fr:List Nat) (dst:Option Nat) (now:Bool) (q:G0) (az:List Arg) (st:St) :
 eT S c dr fr ⟨dst,none,now,.l q,az,[],[]⟩ st=(bQ S.N st.g az).bind λsvs=>if !dr||now then(k8 st dst q svs).bind λr=>some (cU r.2 dst r.1)else none:=by
 unfold eT kM;have u:e9 S.N st.g ⟨dst,none,now,.l q,az,[],[]⟩=none:=rfl;simp[wanted,u]
 cases w:bQ S.N st.g az with
 | none=>rfl
 | some svs=>
  simp;split
  .cases z:k8 st dst q svs <;> simp
  rfl
def ku:List SV->Option (FuncId×List SV)
 | .clo f a b::vs=>some (f,a++vs++b)
 | .v (.clo f a b)::vs=>some (f,a.map .v++vs++b.map .v)
 | _=>none
theorem zl (dr:Bool) (fr:List Nat) (dst:Option Nat) (now:Bool) (az:List Arg) (st:St) (svs:List SV) (f:FuncId) (args:List SV) (u:bQ S.N st.g az=some svs) (hc:ku svs=some (f,args)) :
 eT S c dr fr ⟨dst,none,now,.c,az,[],[]⟩ st=(fe S c dst dr (!dr||now) (fu st.m fr) f args st).bind λr=>some (cU r.2 dst r.1):=by
 unfold eT kM;unfold ku at hc;split at hc
 .obtain⟨rfl,rfl⟩:=hc;simp[wanted,e9,u];cases fe S c dst dr _ _ _ _ st <;> simp
 .obtain⟨rfl,rfl⟩:=hc;simp[wanted,e9,u];cases fe S c dst dr _ _ _ _ st <;> simp
 grind
noncomputable def M_ {β:Type} (S:Sys) (c:bN) (fr:List Nat) (l:List RO) (k:St->Option β):St->Option β:=λst=>(lP S c false fr l st).bind k
noncomputable def M0 {β:Type} (S:Sys) (c:bN) (fr:List Nat) (l:List RO) (k:St->Option β):St->Option β:=λst=>(lP S c true fr l st).bind k
noncomputable def Q_ {β:Type} (S:Sys) (c:bN) (fr dd:List Nat) (l:List RO) (k:St->Option β):St->Option β:=λst=>M_ S c fr l k (nD dd st)
noncomputable def Q1 {β:Type} (S:Sys) (c:bN) (fr dd:List Nat) (l:List RO) (k:St->Option β):St->Option β:=λst=>M0 S c fr l k (nD dd st)
@[congr] theorem Se {β:Type} {fr:List Nat} {l:List RO} {k:St->Option β} {st st':St} (h:st=st'):M_ S c fr l k st=M_ S c fr l k st':=by rw[h]
@[congr] theorem R4 {β:Type} {fr u:List Nat} {l:List RO} {k:St->Option β} {st st':St} (z:fr=u) (h:st=st'):M0 S c fr l k st=M0 S c u l k st':=by simp_all
@[congr] theorem Sf {β:Type} {fr dd:List Nat} {l:List RO} {k:St->Option β} {st st':St} (h:st=st'):Q_ S c fr dd l k st=Q_ S c fr dd l k st':=by rw[h]
@[congr] theorem RB {β:Type} {fr u dd:List Nat} {l:List RO} {k:St->Option β} {st st':St} (z:fr=u) (h:st=st'):Q1 S c fr dd l k st=Q1 S c u dd l k st':=by simp_all
@[congr] theorem SG {dr:Bool} {fr:List Nat} {o:RO} {st st':St} (h:st=st'):eT S c dr fr o st=eT S c dr fr o st':=by rw[h]
end
section
variable {S:Sys} {c:bN} (dr:Bool) (fr:List Nat) (dst:Option Nat) (now:Bool) (az:List Arg) (st:St)
end
inductive Fm where
 | seq (b:RC)
 | blk (id:Nat)
 | gst (x:Gh)
section
variable (S:Sys) (c:bN) {β:Type} (Q:Out×St->Option β)
noncomputable def runK:List Fm->Out×St->Option β
 | [],r=>Q r
 | .seq b::fs,(.norm,st)=>(cu S c b st).bind (runK fs)
 | .seq _::fs,r=>runK fs r
 | .blk id::fs,(.exit k,st)=>if k=id then runK fs (.norm,st)else runK fs (.exit k,st)
 | .blk _::fs,r=>runK fs r
 | .gst x::fs,(.norm,st)=>(ghost x st).bind λst=>runK fs (.norm,st)
 | .gst _::fs,r=>runK fs r
noncomputable def go (rc:RC) (fs:List Fm) (st:St):Option β:=(cu S c rc st).bind (runK S c Q fs)
noncomputable def NH (fs:List Fm):St->Option β:=λst=>runK S c Q fs (.norm,st)
def bn {α:Type} (t:Bool) (a b:α):α:=if t then a else b
end
@[congr] theorem Sg {α:Type} {t u:Bool} {a b a' z:α} (h:t=u) (B:u=true->a=a') (D:u=false->b=z):bn t a b=bn u a' z:=by
 subst h;cases t
 .exact D rfl
 exact B rfl
section
variable {S:Sys} {c:bN} {β:Type} {Q:Out×St->Option β}
@[congr] theorem go_congr {a:RC} {fs:List Fm} {st st':St} (h:st=st'):go S c Q a fs st=go S c Q a fs st':=by rw[h]
@[congr] theorem Rn {fs:List Fm} {st st':St} (h:st=st'):NH S c Q fs st=NH S c Q fs st':=by rw[h]
@[congr] theorem RR {fs:List Fm} {r u:Out×St} (h:r=u):runK S c Q fs r=runK S c Q fs u:=by rw[h]
theorem FN (rc:RC) (st:St):(cu S c rc st).bind Q=go S c Q rc [] st:=by
 simp only[go];cases cu S c rc st <;> rfl
inductive Fw (ν ε ρ:Type) where
 | n (a:ν)
 | x (e:ε)
 | r (b:ρ)
def jW {σ ε ρ:Type} (step:σ->Option (Fw σ ε ρ)):Nat->σ->Option (Fw Empty ε ρ)
 | 0,_=>none
 | k+1,s=>match step s with
  | some (.n u)=>jW step k u
  | some (.x e)=>some (.x e)
  | some (.r b)=>some (.r b)
  | none=>none
theorem vo {σ ε ρ:Type} {step:σ->Option (Fw σ ε ρ)}:∀{k u:Nat} {s:σ} {r:Fw Empty ε ρ},k<=u->jW step k s=some r->jW step u s=some r
 | 0,_,_,_,_,h=>by simp[jW]at h
 | k+1,0,_,_,hk,_=>by omega
 | k+1,u+1,s,r,hk,h=>by
  simp only[jW]at h ⊢;split at h
  .exact vo (Nat.le_of_succ_le_succ hk) h
  .exact h
  .exact h
  simp at h
open Classical in
noncomputable def c_ {σ ε ρ:Type} (step:σ->Option (Fw σ ε ρ)) (s:σ):Option (Fw Empty ε ρ):=
 if h:∃k r,jW step k s=some r then some (Classical.choose (Classical.choose_spec h))else none
theorem n_ {σ ε ρ:Type} {step:σ->Option (Fw σ ε ρ)} {s:σ} {r:Fw Empty ε ρ}:c_ step s=some r↔∃k,jW step k s=some r:=by
 unfold c_;constructor
 .intro h;split at h
  next u=>simp only[ζa]at h;exact⟨_,by rw[<-h];exact Classical.choose_spec (Classical.choose_spec u)⟩
  simp at h
 rintro⟨k,hk⟩;have u:∃k r,jW step k s=some r:=⟨k,r,hk⟩;rw[dif_pos u];have z:=Classical.choose_spec (Classical.choose_spec u);have B:=vo (Nat.le_max_left (Classical.choose u) k) z;have w:=vo (Nat.le_max_right (Classical.choose u) k) hk;rw[B]at w;exact w
def Fw.out {ν ε ρ:Type} (u:ν->St) (eε:ε->Nat×St) (eρ:ρ->St):Fw ν ε ρ->Out×St
 | .n a=>(.norm,u a)
 | .x e=>(.exit (eε e).1,(eε e).2)
 | .r b=>(.ret,eρ b)
def Fw.elim {ε ρ γ:Type} (u:ε->γ) (fr:ρ->γ):Fw Empty ε ρ->γ
 | .x e=>u e
 | .r b=>fr b
end
section
variable {α:Type} [bt α]
theorem Df (s:Sl α):V.one (b_ s)=true:=by cases s <;> rfl
theorem Jy (l:List α):V.k9 (rows l)=true:=by
 induction l with
 | nil=>rfl
 | cons a l u=>simp only[rows,List.map_cons,V.k9,ζh];exact⟨bt.good a,u⟩
theorem Jg (s:Sl α):V.good (b_ s)=true:=by
 cases s <;> simp only[b_,Sl.k,mD,V.good] <;> exact Jy _
instance:bt (Sl α) where
 cells s:=[b_ s]
 agg:=false
 size:=1
 len _:=rfl
 good s:=by simp only[V.cH,Jg,Bool.and_self]
 one s:=by simp[Df]
 plain _:=rfl
end
section
variable {S:Sys} {c:bN}
def Ld (x:Option SV) (b:Bool) (y z:Option St):Option St:=
 match x with
 | some (.v (.bool t))=>bn (t==b) y z
 | some (.v _)=>z
 | _=>none
@[congr] theorem Q3 {x u:Option SV} {b:Bool} {y z:Option St} (h:x=u):Ld x b y z=Ld u b y z:=by rw[h]
def NF {β:Type} (x:Option SV) (y z:Option β):Option β:=
 match x with
 | some (.v (.bool t))=>bn t y z
 | _=>none
@[congr] theorem Rm {β:Type} {x u:Option SV} {y z:Option β} (h:x=u):NF x y z=NF u y z:=by rw[h]
def iQ (c:bN) (f:FuncId) (az:List V):Option (List V):=(c f (az.map .v) []).bind λr=>cQ r.2 8 r.1
def Jz (now:Bool) (args:List SV) (ok:Bool) (st:St) (ys:List V):Option (SV×St):=
 if(result ys).scalar||ok then some (.v (result ys),st)else if now then(rowsOf args).map λds=>(.v (result ys),{ st with m:=nE ds st.m })else none
theorem OG (dst:Option Nat) (dr now:Bool) (old:List SV->Bool) (f:FuncId) (args:List SV) (st:St) (hk:S.E.keep f=false) :
 fe S c dst dr now old f args st=(cQ st.m 8 args).bind λaz=>if now||old args then(iQ c f az).bind (Jz now args (dn args).isSome st)else none:=by
 unfold fe iQ;simp only[hk,Bool.false_eq_true,if_false]
 cases cQ st.m 8 args with
 | none=>rfl
 | some az=>
  simp only[ζb];split
  .cases c f (az.map .v) []with
   | none=>rfl
   | some r=>
    obtain⟨rs,m'⟩:=r;simp only[ζb];cases cQ m' 8 rs <;> rfl
  rfl
end
section
variable {S:Sys} {T:oQ}
def El (rs:List RV):Out×St->Option (List V)
 | (.exit _,_)=>none
 | (_,st)=>(jf st rs).bind (cQ st.m 8)
theorem LG {f:FuncId} {rf:RF} (u:T f=some rf) (az:List V) (z:az.length<=rf.na):iQ (dI S T) f az=go S (dI S T) (El rf.rs) rf.body [] (start (az.map .v) []):=by
 unfold iQ;rw[qO u];unfold l9;rw[if_pos (by simpa using z),<-FN]
 cases h:cu S (dI S T) rf.body (start (az.map .v) [])with
 | none=>rfl
 | some r=>
  obtain⟨o,st⟩:=r;cases o <;> simp only[ζb,El] <;> (try rfl) <;> (cases jf st rf.rs <;> rfl)
end
end Go.VE
namespace Go.VE
variable [bK]
variable {N:Nat->FuncId}
def sX (k:IntKind) (a b:Int):Option Int:=if b=0 then none else some (k.wrap (a.tdiv b))
theorem Rb (e:Option KT) (q:Option Nat) (k:IntKind) (a b:Int):bq N (.bin e q .quo) [.int k a,.int k b]=(sX k a b).bind λx=>some (.int k x):=by
 simp only[bq,j8,sX,if_true];split <;> rfl
def TL (k:IntKind) (a b:Int):Option Int:=if b<0 then none else some (a.fdiv (2 ^ (min b.toNat k.bits)))
theorem FE (o:Nat) (cs:List V):bq N (.fieldAddr o) [.fptr cs]=if o<=cs.length then some (.fptr (cs.drop o))else none:=rfl
def mq (s:ByteArray) (n:Int):Option Int:=if 0<=n then(s[n.toNat]?).map λb=>(b.toNat:Int)else none
theorem JM (s:ByteArray) (k:IntKind) (n:Int):bq N .idxStr [.str s,.int k n]=(mq s n).bind λx=>some (.int .u8 x):=by
 simp only[bq,mq];split
 .cases s[n.toNat]? <;> rfl
 rfl
theorem LX (z:List V) (pl:List (Nat×Nat)) (vs:List V):bq N (.build z pl) vs=(jw z pl vs).bind λcs=>some (.agg cs):=by
 simp only[bq];cases jw z pl vs <;> rfl
section
variable {α:Type} [bt α]
theorem Hl (s:Sl α) (k:IntKind) (i:Int) (n:Nat) (u:n=bt.size α):bq N (.idxS n) [b_ s,.int k i]=(idx s i).bind λx=>some (.fptr (cells x)):=by
 rw[LJ s k i u];cases idx s i <;> rfl
theorem FL (s:Sl α):bq N .lenSl [b_ s]=some (.int .i64 s.l.length):=JY s
def Sl.isNil {α:Type} (s:Sl α):Option Bool:=
 match s with
 | .nil=>some true
 | .emp=>none
 | _=>some false
theorem Nd (q:Option Nat) (s:Sl α):bq N (.bin (some .slice) q .eql) [b_ s,.bM]=s.isNil.bind λt=>some (.bool t):=by
 cases s <;> rfl
def iI (s:Sl α) (lo hi:Option Int):Option (Sl α):=
 (dM s.l.length lo hi).map λ(l,h)=>match s with
  | .nil=>.nil
  | .emp=>.emp
  | .row x=>.part ((x.take h).drop l)
  | .part x=>.part ((x.take h).drop l)
theorem Ix (s:Sl α) (lo hi:Option Int) (n:Nat) (u:n=bt.size α):gL n (b_ s) lo hi=(iI s lo hi).bind λx=>some (b_ x):=by
 subst u
 cases s with
 | nil=>simp only[b_,Sl.k,mD,gL,iI,Sl.l,List.length_nil];cases dM 0 lo hi <;> rfl
 | emp=>simp only[b_,Sl.k,mD,gL,iI,Sl.l,List.length_nil];cases dM 0 lo hi <;> rfl
 | row l=>simp only[b_,Sl.k,mD,gL,iI,Sl.l,if_true,jA];cases dM l.length lo hi <;> simp[rows,List.map_take,List.map_drop]
 | part l=>simp only[b_,Sl.k,mD,gL,iI,Sl.l,if_true,jA];cases dM l.length lo hi <;> simp[rows,List.map_take,List.map_drop]
end
theorem KW (m:Tb bB) (n:Nat) (a:Bool) (cs:List V):nu m (.load n a) [.v (.fptr cs)]=(cut cs 0 n).bind λr=>(mk a r).bind λx=>some (.v x):=by
 simp only[nu,dY]
 cases cut cs 0 n with
 | none=>rfl
 | some r=>simp only[ζb];cases mk a r <;> rfl
end Go.VE
namespace Go.VE
variable [bK]
section
variable {α:Type} [bt α]
def c7 (s:Sl α):bB:=.sl s.k (bt.size α) (rows s.l)
def Sl.xh (s:Sl α) (i:Int):Option Nat:=if 0<=i/\i.toNat<s.l.length then some i.toNat else none
def Sl.get (s:Sl α) (i:Nat):Option α:=s.l[i]?
def Sl.put (s:Sl α) (i:Nat) (x:α):Option (Sl α):=
 if i<s.l.length then some (match s with|.row l=>.row (l.set i x)|.part l=>.part (l.set i x)|s=>s)else none
def je (s:Sl α) (x:α):Option (Sl α):=if s.l.length+1<=2147483648 then some (.row (s.l++[x]))else none
def TH (n:Int) (z:α):Option (Sl α):=if 0<=n/\n<=2147483648 then some (.row (List.replicate n.toNat z))else none
end
section
variable {α:Type} [bt α] {N:Nat->FuncId} {m:Tb bB}
def Jb (n d:Nat) (o:Option bB) (i:Int):Option SV:=
 match o with
 | some (.sl k es u)=>if cI k/\es=n/\0<=i/\i.toNat<u.length then some (.el d i.toNat 0)else none
 | _=>none
theorem Of (n d:Nat) (k:IntKind) (i:Int):jg N m (.idxS n) [.own d,.v (.int k i)]=Jb n d (a_ m d) i:=by
 simp[jg,dn,zg,Jb]
 grind
theorem PB (n d:Nat) (s:Sl α) (i:Int) (h:n=bt.size α):Jb n d (some (c7 s)) i=(s.xh i).bind λj=>some (.el d j 0):=by
 simp[Jb,c7,jA,Sl.xh]
 cases s with
 | nil=>simp[Sl.l,cI]
 | emp=>simp[Sl.l,cI]
 | row l=>simp[Sl.k,Sl.l,cI];grind
 | part l=>simp[Sl.k,Sl.l,cI];grind
def IV (o:Option bB):Option SV:=
 match o with
 | some (.sl _ _ u)=>some (.v (.int .i64 u.length))
 | _=>none
theorem LN (d:Nat):jg N m .lenSl [.own d]=IV (a_ m d):=by
 simp[jg,dn,zg,IV]
 grind
theorem PM (s:Sl α):IV (some (c7 s))=some (.v (.int .i64 s.l.length)):=by simp[IV,c7,jA]
def NS (n:Nat) (a:Bool) (o:Nat) (ob:Option bB):Option SV:=
 match ob with
 | some (.box cs)=>tE n a ((cs.drop o).take n)
 | _=>none
theorem S3 (n:Nat) (a:Bool) (d o:Nat):nu m (.load n a) [.ptr d o]=NS n a o (a_ m d):=by
 rfl
theorem Lf (n:Nat) (a:Bool) (o:Nat) (cs:List SV):NS n a o (some (.box cs))=tE n a ((cs.drop o).take n):=rfl
def D6 (n:Nat) (a:Bool) (i o:Nat) (ob:Option bB):Option SV:=
 match ob with
 | some (.sl _ _ u)=>match u[i]? with
  | some cs=>((cut cs o n).bind (mk a)).map .v
  | none=>none
 | _=>none
theorem Rz (n:Nat) (a:Bool) (d i o:Nat):nu m (.load n a) [.el d i o]=D6 n a i o (a_ m d):=by
 rfl
theorem Kp (n:Nat) (a:Bool) (i o:Nat) (s:Sl α):D6 n a i o (some (c7 s))=(s.get i).bind λx=>(cut (cells x) o n).bind λr=>(mk a r).bind λy=>some (.v y):=by
 simp only[D6,c7,Sl.get,rows,List.getElem?_map]
 cases s.l[i]? with
 | none=>rfl
 | some x=>
  simp only[Option.map_some,ζb]
  cases cut (cells x) o n with
  | none=>rfl
  | some r=>simp ;cases mk a r <;> rfl
def B2 (st:St) (d i o size:Nat) (x:V) (ob:Option bB):Option (SV×St):=
 match ob with
 | some (.sl k es u)=>match u[i]? with
  | some cs=>if x.cells.length=size/\o+size<=cs.length/\x.cells.all V.one=true then
   some (.v .undef,{ st with m:=bH st.m d (.sl k es (u.set i (cs.take o++x.cells++cs.drop (o+x.cells.length)))) })else none
  | none=>none
 | _=>none
theorem HP (st:St) (dst:Option Nat) (size d i o:Nat) (x:V):k8 st dst (.store size) [.el d i o,.v x]=B2 st d i o size x (a_ st.m d):=by
 rfl
theorem Ie (g:Tb SV) (p:List Nat) (w:List (List V)) (z:Bool) (y:Nat) (d i size:Nat) (x:V) (a:α) (B:x.cells=cells a) (D:size=bt.size α) (s:Sl α) :
 B2 ⟨g,m,p,w,z,y⟩ d i 0 size x (some (c7 s))=(s.put i a).bind λG=>some (.v .undef,⟨g,bH m d (c7 G),p,w,z,y⟩):=by
 have h1:(cells a).all V.one=true:=bt.one a;have u:∀b:α,(cells b).length=bt.size α:=bt.len;subst D;simp only[B2,c7,rows,List.getElem?_map,B,Sl.put]
 by_cases hi:i<s.l.length
 .have hg  := ζd hi;rw[if_pos hi,hg];simp[u,h1]
  cases s with
  | nil=>simp[Sl.l]at hi
  | emp=>simp[Sl.l]at hi
  | row l=>simp[Sl.k,Sl.l,List.drop_of_length_le,u]
  | part l=>simp[Sl.k,Sl.l,List.drop_of_length_le,u]
 grind
def wG (st:St) (t n:Nat) (s:SV) (xs ys:Option (List (List V))):Option (SV×St):=
 match xs,ys with
 | some _,some []=>match s with
  | .own d=>match a_ st.m d with
   | some ob=>if St.new { st with m:=dQ d st.m } t then some (.own t,{ st with m:=bH (dQ d st.m) t ob })else none
   | none=>none
  | .v .bM=>if st.new t then some (.own t,{ st with m:=bH st.m t (.sl .nil n []) })else none
  | .v .di=>if st.new t then some (.own t,{ st with m:=bH st.m t (.sl .emp n []) })else none
  | _=>none
 | some xs,some ys=>
  if xs.length+ys.length<=2147483648/\Eu s=true then
   if St.new { st with m:=giveUp st.m s } t then some (.own t,{ st with m:=bH (giveUp st.m s) t (.sl .row n (xs++ys)) })else none
  else none
 | _,_=>none
theorem yb (st:St) (t n:Nat) (s x:SV):k8 st (some t) (.append n) [s,x]=wG st t n s (jl st.m n s) (jl st.m n x):=by
 cases s <;> cases x <;> (rfl)
def Il (n:Nat) (o:Option bB):Option (List (List V)):=
 match o with
 | some (.sl k es u)=>if cI k then(if es=n then some u else none)else some []
 | _=>none
theorem BV (n d:Nat):jl m n (.own d)=Il n (a_ m d):=by
 simp[jl,Il]
 grind
theorem zc (n:Nat) (s:Sl α) (h:n=bt.size α):Il n (some (c7 s))=some (rows s.l):=by
 subst h;cases s <;> simp[Il,c7,Sl.k,Sl.l,cI,rows]
theorem Oc (n:Nat):jl m n (.v .bM)=some []:=rfl
theorem OC (n:Nat):jl m n (.v .di)=some []:=rfl
theorem K2 (g:Tb SV) (p:List Nat) (w:List (List V)) (u:Bool) (y:Nat) (t n d:Nat) (l:List α) (x:α) (h:n=bt.size α):wG ⟨g,m,p,w,u,y⟩ t n (.own d) (some (rows l)) (some (rows [x])) =
 (je (.row l) x).bind λs=>if St.new ⟨g,dQ d m,p,w,u,y⟩ t then some (.own t,⟨g,bH (dQ d m) t (c7 s),p,w,u,y⟩)else none:=by
 subst h;have e:(rows l).length+(rows [x]).length=l.length+1:=by simp[jA]
 by_cases h:l.length+1<=2147483648
 .have h1:je (.row l) x=some (.row (l++[x])):=if_pos h;have z:wG ⟨g,m,p,w,u,y⟩ t (bt.size α) (.own d) (some (rows l)) (some (rows [x]))=if St.new ⟨g,dQ d m,p,w,u,y⟩ t then some (.own t,⟨g,bH (dQ d m) t (.sl .row (bt.size α) (rows l++rows [x])),p,w,u,y⟩)else none:=if_pos ⟨by omega,rfl⟩
  rw[h1,z];simp[c7,Sl.k,Sl.l,rows]
 have h1:je (.row l) x=none:=if_neg h;have z:wG ⟨g,m,p,w,u,y⟩ t (bt.size α) (.own d) (some (rows l)) (some (rows [x]))=none:=if_neg (λq=>h Za)
 grind
theorem Ka (g:Tb SV) (p:List Nat) (w:List (List V)) (u:Bool) (y:Nat) (t n:Nat) (x:α) (h:n=bt.size α):wG ⟨g,m,p,w,u,y⟩ t n (.v .bM) (some []) (some (rows [x])) =
 if St.new ⟨g,m,p,w,u,y⟩ t then some (.own t,⟨g,bH m t (c7 (.row [x])),p,w,u,y⟩)else none:=by
 subst h;rfl
theorem KK (g:Tb SV) (p:List Nat) (w:List (List V)) (u:Bool) (y:Nat) (t n:Nat) (x:α) (h:n=bt.size α):wG ⟨g,m,p,w,u,y⟩ t n (.v .di) (some []) (some (rows [x])) =
 if St.new ⟨g,m,p,w,u,y⟩ t then some (.own t,⟨g,bH m t (c7 (.row [x])),p,w,u,y⟩)else none:=by
 subst h;rfl
end
theorem vE (g:Tb SV) (m:Tb bB) (p:List Nat) (w:List (List V)) (u:Bool) (y d:Nat):St.new ⟨g,m,p,w,u,y⟩ d=(!(p.contains d)&&(a_ m d).isNone && !(tu d g) && !(qw d m)):=rfl
theorem qb (d:Nat):tu d []=false:=rfl
theorem oy (d n:Nat) (x:SV) (r:Tb SV):tu d ((n,x)::r)=(SV.cG d x||tu d r):=rfl
theorem p_ (d:Nat):qw d []=false:=rfl
theorem oC (d n:Nat) (x:bB) (r:Tb bB):qw d ((n,x)::r)=(bB.cG d x||qw d r):=rfl
theorem vI (d:Nat) (x:V):SV.cG d (.v x)=false:=rfl
theorem rA (d e:Nat):SV.cG d (.own e)=(e==d):=rfl
theorem qQ (d e o:Nat):SV.cG d (.ptr e o)=(e==d):=rfl
theorem tP (d e i o:Nat):SV.cG d (.el e i o)=(e==d):=rfl
theorem tN (d e:Nat):SV.cG d (.mp e)=(e==d):=rfl
theorem qL (d:Nat) (f:FuncId) (a b:List SV):SV.cG d (.clo f a b)=(SV.dh d a||SV.dh d b):=rfl
theorem ri (d:Nat) (l:List SV):SV.cG d (.tup l)=SV.dh d l:=rfl
theorem qc (d:Nat):SV.dh d []=false:=rfl
theorem oe (d:Nat) (x:SV) (r:List SV):SV.dh d (x::r)=(SV.cG d x||SV.dh d r):=rfl
theorem pY (d:Nat) (cs:List SV):bB.cG d (.box cs)=SV.dh d cs:=rfl
theorem Dr (m:Tb bB) (n:Nat):cQ m n []=some []:=by cases n <;> simp[cQ]
theorem BB (m:Tb bB) (n:Nat) (x:SV) (r:List SV):cQ m n (x::r)=(shut m n x).bind λy=>(cQ m n r).bind λs=>some (y::s):=by
 cases n <;> (simp[cQ];cases shut m _ x <;> (try rfl) <;> (cases cQ m _ r <;> rfl))
theorem QX (m:Tb bB) (n:Nat) (x:V):shut m n (.v x)=some x:=by cases n <;> simp[shut]
theorem Lz (m:Tb bB) (n:Nat) (f:FuncId) (a b:List SV):shut m (n+1) (.clo f a b)=(cQ m n a).bind λx=>(cQ m n b).bind λy=>some (.clo f x y):=by
 simp[shut];cases cQ m n a <;> (try rfl) <;> (cases cQ m n b <;> rfl)
theorem MF (m:Tb bB) (n:Nat) (l:List SV):shut m (n+1) (.tup l)=(cQ m n l).bind λx=>some (.tup x):=by
 simp[shut];cases cQ m n l <;> rfl
theorem Ln (m:Tb bB) (n:Nat) (l:List SV):shut m (n+1) (.agg l)=(cQ m n l).bind λx=>some (.agg x):=by
 simp[shut];cases cQ m n l <;> rfl
theorem qU {α:Type} (n:Nat):dQ n ([]:Tb α)=[]:=rfl
theorem p9 {α:Type} (n k:Nat) (x:α) (r:Tb α):dQ n ((k,x)::r)=if k=n then dQ n r else(k,x)::dQ n r:=rfl
theorem mapM_nil (f:List SV->List SV):mapM f []=[]:=rfl
section
variable {N:Nat->FuncId} {m:Tb bB}
theorem OW:result []=.tup []:=rfl
theorem Oj (x:V):result [x]=x:=rfl
theorem On (x y:V) (l:List V):result (x::y::l)=.tup (x::y::l):=rfl
theorem D4 (p:sZ) (a:V):jg N m p [.v a]=(bq N p [a]).bind λx=>some (.v x):=Hv N m p _ [a] rfl
theorem tT (p:sZ) (a b:V):jg N m p [.v a,.v b]=(bq N p [a,b]).bind λx=>some (.v x):=Hv N m p _ [a,b] rfl
theorem jV (l:List V):dn (l.map .v)=some l:=by
 induction l with
 | nil=>rfl
 | cons a l u=>simp only[List.map_cons,dn,u];rfl
theorem yO (n:Nat) (l:List V):cQ m n (l.map .v)=some l:=by
 induction l with
 | nil=>exact Dr m n
 | cons a l u=>rw[List.map_cons,BB,QX,u];rfl
theorem Sl.Ny {α:Type} (l:List α):(Sl.row l).l=l:=rfl
theorem sE (cs:List V):jw cs [] []=some cs:=rfl
theorem qt (cs:List V) (off size:Nat) (pl:List (Nat×Nat)) (v:V) (vs:List V):jw cs ((off,size)::pl) (v::vs) =
 if v.cells.length=size/\off+v.cells.length<=cs.length then jw (cs.take off++v.cells++cs.drop (off+v.cells.length)) pl vs else none:=by
 simp only[jw]
 by_cases h:v.cells.length=size <;> by_cases u:off+v.cells.length<=cs.length
 .rw[if_neg (by simp[h];omega),if_pos ⟨h,u⟩]
 .rw[if_pos (by simp[h];omega),if_neg (λq=>u q.2)]
 .rw[if_pos (by simp[h]),if_neg (λq=>h q.1)]
 rw[if_pos (by simp[h]),if_neg (λq=>h q.1)]
theorem yD (k:IntKind) (n:Int):V.cells (.int k n)=[.int k n]:=rfl
theorem vu (n:Bool):V.cells (.bool n)=[.bool n]:=rfl
theorem xQ (n:ByteArray):V.cells (.str n)=[.str n]:=rfl
theorem yG:V.cells .bM=[.bM]:=rfl
theorem ou (k:IntKind) (n:Int):V.one (.int k n)=true:=rfl
theorem mI (n:Bool):V.one (.bool n)=true:=rfl
theorem ov (n:ByteArray):V.one (.str n)=true:=rfl
end
section
variable {S:Sys} {c:bN} {β γ δ:Type} {Q:Out×St->Option β} {L:Option β} {e:γ->Option β}
theorem Kc {dr:Bool} {fr:List Nat} {d:Option Nat} {gd:Option (Nat×Bool)} {now:Bool} {k:K} {az:List Arg} {st:St} (h:wanted st.g gd=some true) :
 eT S c dr fr ⟨d,gd,now,k,az,[],[]⟩ st=eT S c dr fr ⟨d,none,now,k,az,[],[]⟩ st:=by
 unfold eT;rw[h];rfl
theorem Ac (dr:Bool) (st:St):AK dr [] st=some st:=by cases dr <;> rfl
def mC (f:SV->Option V):List SV->Option (List V)
 | []=>some []
 | x::r=>(f x).bind λy=>(mC f r).bind λs=>some (y::s)
def gT (m:Tb bB):Nat->SV->Option V
 | 0,x=>match x with
  | .v y=>some y
  | .own d=>match a_ m d with
   | some (.sl k es xs)=>some (mD k es xs)
   | _=>none
  | .mp d=>match a_ m d with
   | some (.mp u)=>some (.fmap u)
   | _=>none
  | _=>none
 | n+1,x=>match x with
  | .v y=>some y
  | .own d=>match a_ m d with
   | some (.sl k es xs)=>some (mD k es xs)
   | _=>none
  | .ptr d o=>match a_ m d with
   | some (.box cs)=>match mC (gT m n) cs with
    | some xs=>if o<=xs.length then some (.fptr (xs.drop o))else none
    | none=>none
   | _=>none
  | .mp d=>match a_ m d with
   | some (.mp u)=>some (.fmap u)
   | _=>none
  | .clo f a b=>(mC (gT m n) a).bind λx=>(mC (gT m n) b).bind λy=>some (.clo f x y)
  | .tup l=>(mC (gT m n) l).bind λx=>some (.tup x)
  | .agg l=>(mC (gT m n) l).bind λx=>some (.agg x)
  | _=>none
theorem vN (m:Tb bB):∀(n:Nat),(∀x,shut m n x=gT m n x)/\∀l,cQ m n l=mC (gT m n) l:=by
 have w:∀n,(∀x,shut m n x=gT m n x)->∀l,cQ m n l=mC (gT m n) l:=by
  intro n h l
  induction l with
  | nil=>exact Dr m n
  | cons a l u=>rw[BB,h a,u];rfl
 intro n
 induction n with
 | zero=>
  have z:∀x,shut m 0 x=gT m 0 x:=by
   intro x;cases x <;> simp[shut,gT] <;> rfl
  grind
 | succ n u=>
  have h1:∀x,shut m (n+1) x=gT m (n+1) x:=by
   intro x
   cases x with
   | ptr d o=>simp[shut,gT,u.2];rfl
   | clo f a b=>rw[Lz,u.2,u.2];rfl
   | tup l=>rw[MF,u.2];rfl
   | agg l=>rw[Ln,u.2];rfl
   | _=>simp[shut,gT] <;> rfl
  grind
noncomputable def sO (S:Sys) (c:bN) (dr:Bool):List Nat->List RO->(St->Option β)->St->Option β
 | _,[],k,st=>k st
 | fr,o::r,k,st=>((AK dr o.pre st).bind (eT S c dr fr o.strip)).bind λst'=>sO S c dr (if dr then oP fr o.strip else fr) r k (nD o.dead st')
theorem Cn (dr:Bool):∀(l:List RO) (fr:List Nat) (k:St->Option β) (st:St),sO S c dr fr l k st=(lP S c dr fr l st).bind k
 | [],_,_,_=>rfl
 | o::r,fr,k,st=>by
  simp[sO,lP]
  cases (AK dr o.pre st).bind (eT S c dr fr o.strip)with
  | none=>rfl
  | some st'=>exact Cn dr r _ k _
noncomputable def ny (S:Sys) (c:bN):RC->(St->Option β)->(Nat->St->Option β)->(St->Option β)->St->Option β
 | .skip,n,_,_,st=>n st
 | .ops l,n,_,_,st=>sO S c false [] l n st
 | .qm l,n,_,_,st=>sO S c true [] l n st
 | .seq a b,n,x,r,st=>ny S c a (λst=>ny S c b n x r st) x r st
 | .cond y a b,n,x,r,st=>match oK S.N st.g y with
  | some (.v (.bool t))=>bn t (ny S c a n x r st) (ny S c b n x r st)
  | _=>none
 | .block id a,n,x,r,st=>ny S c a n (λk st=>if k=id then n st else x k st) r st
 | .loop a,n,x,r,st=>(mP (cu S c a) st).bind λq=>match q with|(.norm,st)=>n st|(.exit k,st)=>x k st|(.ret,st)=>r st
 | .each g ps a b,n,x,r,st=>(cu S c (.each g ps a b) st).bind λq=>match q with|(.norm,st)=>n st|(.exit k,st)=>x k st|(.ret,st)=>r st
 | .exit k,_,x,_,st=>x k st
 | .ret,_,_,r,st=>r st
 | .gh g a,n,x,r,st=>(ghost g st).bind λst=>ny S c a n x r st
 | .hg a g,n,x,r,st=>ny S c a (λst=>(ghost g st).bind n) x r st
def B3 (n:St->Option β) (x:Nat->St->Option β) (r:St->Option β):Out×St->Option β
 | (.norm,st)=>n st
 | (.exit k,st)=>x k st
 | (.ret,st)=>r st
theorem Bp:∀(rc:RC) (n:St->Option β) (x:Nat->St->Option β) (r:St->Option β) (st:St),ny S c rc n x r st=(cu S c rc st).bind (B3 n x r):=by
 intro rc
 induction rc with
 | skip=>intros;rfl
 | ops l=>intro n x r st;simp[ny,cu,Cn];cases lP S c false [] l st <;> rfl
 | qm l=>intro n x r st;simp[ny,cu,Cn];cases lP S c true [] l st <;> rfl
 | seq a b u w=>
  intro n x r st;simp[ny,cu,u,w]
  cases h:cu S c a st with
  | none=>rfl
  | some q=>obtain⟨o,st'⟩:=q;cases o <;> rfl
 | cond y a b u w=>
  intro n x r st;simp[ny,cu,u,w]
  cases oK S.N st.g y with
  | none=>rfl
  | some v=>cases v with
   | v z=>cases z with
    | bool t=>cases t <;> rfl
    | _=>rfl
   | _=>rfl
 | block id a B=>
  intro n x r st;simp[ny,cu,B]
  cases h:cu S c a st with
  | none=>rfl
  | some q=>
   obtain⟨o,st'⟩:=q
   cases o with
   | exit k=>simp[B3];split <;> rfl
   | _=>rfl
 | loop a B=>
  intro n x r st;rfl
 | each g C a b u w=>
  intro n x r st;rfl
 | exit k=>intros;rfl
 | ret=>intros;rfl
 | gh g a B=>
  simp[ny,cu,B]
  grind
 | hg a g B=>
  intro n x r st;simp[ny,cu,B]
  cases h:cu S c a st with
  | none=>rfl
  | some q=>
   obtain⟨o,st'⟩:=q
   cases o with
   | norm=>simp[B3];cases ghost g st' <;> rfl
   | _=>rfl
section
variable (S c Q)
mutual
noncomputable def k7:List Fm->St->Option β
 | []=>λst=>Q (.norm,st)
 | .seq b::fs=>λst=>ny S c b (k7 fs) (lB fs) (λst=>Q (.ret,st)) st
 | .blk _::fs=>k7 fs
 | .gst g::fs=>λst=>(ghost g st).bind (k7 fs)
noncomputable def lB:List Fm->Nat->St->Option β
 | []=>λk st=>Q (.exit k,st)
 | .seq _::fs=>lB fs
 | .blk id::fs=>λk st=>if k=id then k7 fs st else lB fs k st
 | .gst _::fs=>lB fs
end
noncomputable def jt (rc:RC) (fs:List Fm) (st:St):Option β:=ny S c rc (k7 S c Q fs) (lB S c Q fs) (λst=>Q (.ret,st)) st
end
section
variable {dr:Bool} {fr:List Nat} {d:Nat} {dst:Option Nat} {now:Bool} {az:List Arg} {st:St} {α:Type} [bt α]
theorem Kz {p:sZ} {svs:List SV} {m:Option δ} {v:δ->SV} (u:bQ S.N st.g az=some svs) (hi:isSlice p=false) (h:jg S.N st.m p svs=m.bind λx=>some (v x)) :
 eT S c dr fr ⟨dst,none,now,.p p,az,[],[]⟩ st=m.bind λx=>some (cU st dst (v x)):=by
 rw[NU _ _ _ _ _ _ _ hi,u]
 grind
theorem Cs {p:sZ} {svs:List SV} {v:SV} (u:bQ S.N st.g az=some svs) (hi:isSlice p=false) (h:jg S.N st.m p svs=some v) :
 eT S c dr fr ⟨dst,none,now,.p p,az,[],[]⟩ st=some (cU st dst v):=by
 rw[NU _ _ _ _ _ _ _ hi,u]
 grind
theorem Nk {n:Nat} {s:Sl α} {k:IntKind} {i:Int} (u:bQ S.N st.g az=some [.v (b_ s),.v (.int k i)]) (z:n=bt.size α) :
 eT S c dr fr ⟨dst,none,now,.p (.idxS n),az,[],[]⟩ st=(idx s i).bind λx=>some (cU st dst (.v (.fptr (cells x)))):=
 Kz u rfl (by rw[tT,Hl s k i n z];grind)
theorem RJ {n e:Nat} {s:Sl α} {k:IntKind} {i:Int} (u:bQ S.N st.g az=some [.own e,.v (.int k i)]) (z:a_ st.m e=some (c7 s)) (B:n=bt.size α) :
 eT S c dr fr ⟨dst,none,now,.p (.idxS n),az,[],[]⟩ st=(s.xh i).bind λj=>some (cU st dst (.el e j 0)):=
 Kz u rfl (by rw[Of,z,PB n e s i B])
theorem NP {s:Sl α} (u:bQ S.N st.g az=some [.v (b_ s)]):eT S c dr fr ⟨dst,none,now,.p .lenSl,az,[],[]⟩ st=some (cU st dst (.v (.int .i64 s.l.length))):=
 Cs u rfl (by rw[D4,FL];rfl)
theorem P8 {e:Nat} {s:Sl α} (u:bQ S.N st.g az=some [.own e]) (z:a_ st.m e=some (c7 s)):eT S c dr fr ⟨dst,none,now,.p .lenSl,az,[],[]⟩ st=some (cU st dst (.v (.int .i64 s.l.length))):=
 Cs u rfl (by rw[LN,z,PM])
theorem R9 {q:Option KT} {u:Option Nat} {k:IntKind} {a b:Int} (z:bQ S.N st.g az=some [.v (.int k a),.v (.int k b)]):eT S c dr fr ⟨dst,none,now,.p (.bin q u .quo),az,[],[]⟩ st=(sX k a b).bind λx=>some (cU st dst (.v (.int k x))):=
 Kz z rfl (by rw[tT,Rb];grind)
theorem OP {u:Option Nat} {s:Sl α} (z:bQ S.N st.g az=some [.v (b_ s),.v .bM]):eT S c dr fr ⟨dst,none,now,.p (.bin (some .slice) u .eql),az,[],[]⟩ st=s.isNil.bind λt=>some (cU st dst (.v (.bool t))):=
 Kz z rfl (by rw[tT,Nd];grind)
theorem Ng {s:ByteArray} {k:IntKind} {n:Int} (u:bQ S.N st.g az=some [.v (.str s),.v (.int k n)]):eT S c dr fr ⟨dst,none,now,.p .idxStr,az,[],[]⟩ st=(mq s n).bind λx=>some (cU st dst (.v (.int .u8 x))):=
 Kz u rfl (by rw[tT,JM];grind)
theorem Q8 {n e i o:Nat} {a:Bool} {s:Sl α} {v:α->V} (u:bQ S.N st.g az=some [.el e i o]) (hd:(!dr||now||eD fr [.el e i o])=true) (z:a_ st.m e=some (c7 s)) (hv:∀x:α,(cut (cells x) o n).bind (mk a)=some (v x)) :
 eT S c dr fr ⟨dst,none,now,.r (.load n a),az,[],[]⟩ st=(s.get i).bind λx=>some (cU st dst (.v (v x))):=by
 rw[DY,u];simp only[ζb,hd,Rz,z,Kp]
 cases s.get i with
 | none=>rfl
 | some x=>
  cases hc:cut (cells x) o n with
  | none=>grind
  | some r=>grind
theorem Pw {n e i:Nat} {s:Sl α} {x:V} {a:α} (u:bQ S.N st.g az=some [.el e i 0,.v x]) (hd:(!dr||now)=true) (z:a_ st.m e=some (c7 s)) (B:x.cells=cells a) (D:n=bt.size α) :
 eT S c dr fr ⟨dst,none,now,.l (.store n),az,[],[]⟩ st=(s.put i a).bind λG=>some (cU { st with m:=bH st.m e (c7 G) } dst (.v .undef)):=by
 rw[uP,u];simp[hd,HP,z];rw[Ie st.g st.pin st.want st.more st.yid e i n x a B D s]
 grind
theorem RH {n e u:Nat} {s:Sl α} {x:α} (D:bQ S.N st.g az=some [.own e,.own u]) (hd:(!dr||now)=true) (G:a_ st.m e=some (c7 s)) (hu:a_ st.m u=some (c7 (.row [x]))) (z:n=bt.size α) (J:St.new { st with m:=dQ e st.m } d=true) :
 eT S c dr fr ⟨some d,none,now,.l (.append n),az,[],[]⟩ st=(je s x).bind λB=>some { st with g:=bH st.g d (.own d),m:=bH (dQ e st.m) d (c7 B) }:=by
 rw[uP,D];simp[hd,yb,BV,G,hu];rw[zc n s z,zc n (.row [x]) z];have:=K2 (m:=st.m) st.g st.pin st.want st.more st.yid d n e s.l x z;simp[Sl.Ny];rw[this];have w:je (.row s.l) x=je s x:=by cases s <;> rfl
 rw[w]
 cases je s x with
 | none=>rfl
 | some B=>
  simp;rw[if_pos J];rfl
theorem P_ {n u:Nat} {x:α} {v:V} (hv:v=.bM\/v=.di) (D:bQ S.N st.g az=some [.v v,.own u]) (hd:(!dr||now)=true) (hu:a_ st.m u=some (c7 (.row [x]))) (z:n=bt.size α) (B:st.new d=true) :
 eT S c dr fr ⟨some d,none,now,.l (.append n),az,[],[]⟩ st=some { st with g:=bH st.g d (.own d),m:=bH st.m d (c7 (.row [x])) }:=by
 rw[uP,D];simp[hd,yb,BV,hu];rw[zc n (.row [x]) z];simp[Sl.Ny];rcases hv with rfl|rfl
 .rw[Oc,Ka (m:=st.m) st.g st.pin st.want st.more st.yid d n x z];rw[if_pos B];rfl
 rw[OC,KK (m:=st.m) st.g st.pin st.want st.more st.yid d n x z];rw[if_pos B];rfl
theorem P7 {f:FuncId} {svs args:List SV} {cs:List V} {m:Option δ} {E:δ->List V} (hc:iQ c f cs=m.bind λr=>some (E r)) (hk:S.E.keep f=false) (z:bQ S.N st.g az=some svs) (B:ku svs=some (f,args))
 (u:mC (gT st.m 8) args=some cs) (D:((!dr||now)||fu st.m fr args)=true) (hr:∀r,((result (E r)).scalar||(dn args).isSome)=true) :
 eT S c dr fr ⟨dst,none,now,.c,az,[],[]⟩ st=m.bind λr=>some (cU st dst (.v (result (E r)))):=by
 rw[zl dr fr dst now az st svs f args z B,OG _ _ _ _ _ _ _ hk,(vN st.m 8).2,u];simp[D,hc]
 cases m with
 | none=>rfl
 | some r=>
  simp[Jz]
  grind
end
end
section
variable {S:Sys} {c:bN} {β γ:Type} {Q:Out×St->Option β} {L:Option β} {e:γ->Option β}
theorem mY (rc:RC) (st:St):jt S c Q rc [] st=(cu S c rc st).bind Q:=by
 unfold jt;rw[Bp]
 congr 1
 funext q;obtain⟨o,st⟩:=q
 cases o <;> rfl
theorem zo (rc:RC) (st:St):cu S c rc st=jt S c some rc [] st:=by
 rw[mY];cases cu S c rc st <;> rfl
def nq (rs:List RV):Out×St->Option (List V)
 | (.exit _,_)=>none
 | (_,st)=>(jf st rs).bind (mC (gT st.m 8))
theorem Pn (rs:List RV):El rs=nq rs:=by
 funext q;obtain⟨o,st⟩:=q
 cases o
 .simp only[El,nq];congr 1;funext l;exact(vN st.m 8).2 l
 .rfl
 simp only[El,nq];congr 1;funext l;exact(vN st.m 8).2 l
theorem Oa {S:Sys} {T:oQ} {f:FuncId} {rf:RF} (u:T f=some rf) (az:List V) (z:az.length<=rf.na):iQ (dI S T) f az=jt S (dI S T) (nq rf.rs) rf.body [] (start (az.map .v) []):=by
 rw[LG u az z,<-FN,mY,Pn]
end
def jh {α σ ε ρ:Type} (step:α->σ->Option (Fw σ ε ρ)):List α->σ->Option (Fw σ ε ρ)
 | [],s=>some (.n s)
 | x::xs,s=>(step x s).bind λw=>match w with
  | .n u=>jh step xs u
  | .x e=>some (.x e)
  | .r b=>some (.r b)
def Fw.oB {ν ε ρ γ:Type} (fn:ν->γ) (u:ε->γ) (fr:ρ->γ):Fw ν ε ρ->γ
 | .n a=>fn a
 | .x e=>u e
 | .r b=>fr b
def Fw.uj {ν ε ρ:Type} (u:ν->Tb bB) (eε:ε->Nat×Tb bB) (eρ:ρ->Tb bB):Fw ν ε ρ->Out×Tb bB
 | .n a=>(.norm,u a)
 | .x e=>(.exit (eε e).1,(eε e).2)
 | .r b=>(.ret,eρ b)
def uj (q:Out×St):Option (Out×Tb bB):=some (q.1,q.2.m)
section
variable {S:Sys} {c:bN} {β γ:Type} {Q:Out×St->Option β} {L:Option β} {e:γ->Option β}
noncomputable def w9 (S:Sys) (c:bN) (b:RC):Out×St->Option (Out×Tb bB)
 | (.norm,st)=>jt S c uj b [] st
 | _=>none
theorem Jd (ps:List Nat) (a b:RC) (st:St) (x:List V) (m:Tb bB) (z:x.length=ps.length) :
 gP ps (cu S c a) (cu S c b) st x m=jt S c (w9 S c b) a [] ⟨uF st.g ps (x.map .v),m,st.pin++nJ st.g,[],true,0⟩:=by
 unfold gP;rw[if_pos z,mY]
 cases cu S c a ⟨uF st.g ps (x.map .v),m,st.pin++nJ st.g,[],true,0⟩with
 | none=>rfl
 | some q=>
  obtain⟨o,u⟩:=q
  cases o with
  | norm=>
   simp only[ζb,w9];rw[mY];cases cu S c b u <;> rfl
  | _=>rfl
end
def Le {α:Type} (a b:Option α):Prop:=∀r,a=some r->b=some r
section
variable {α:Type}
theorem Le.refl (a:Option α):Le a a:=λ_ h=>h
theorem Le.of_eq {a b:Option α} (h:b=a):Le a b:=λ_ u=>h.trans u
theorem Le.trans {a b d:Option α} (h1:Le a b) (u:Le b d):Le a d:=λr h=>u r (h1 r h)
theorem Le.none (b:Option α):Le (none:Option α) b:=λr h=>by cases h
theorem Le.bind {β:Type} {a b:Option α} {f g:α->Option β} (h:Le a b) (u:∀x,Le (f x) (g x)):Le (a.bind f) (b.bind g):=λr hr=>by
 obtain⟨x,h1,w⟩:=ζg.1 hr;rw[h x h1];exact u x r w
end
section
variable {S:Sys} {c:bN} {β γ δ:Type} {Q:Out×St->Option β} {L:Option β} {e:γ->Option β}
theorem Ef {dr:Bool} {fr:List Nat} {dst:Option Nat} {now:Bool} {az:List Arg} {st:St} {f:FuncId} {svs args:List SV} {cs:List V} {m:Option δ} {E:δ->List V} (hc:Le (m.bind λr=>some (E r)) (iQ c f cs)) (hk:S.E.keep f=false) (z:bQ S.N st.g az=some svs) (B:ku svs=some (f,args))
 (u:mC (gT st.m 8) args=some cs) (D:((!dr||now)||fu st.m fr args)=true) (hr:∀r,((result (E r)).scalar||(dn args).isSome)=true) :
 Le (m.bind λr=>some (cU st dst (.v (result (E r))))) (eT S c dr fr ⟨dst,none,now,.c,az,[],[]⟩ st):=by
 intro q C;obtain⟨r,h1,G⟩:=ζg.1 C;have w:iQ c f cs=(some r).bind λr=>some (E r):=hc _ (by rw[h1];rfl)
 rw[P7 (m:=some r) w hk z B u D hr];exact G
theorem Ma {σ ε ρ:Type} {f:St->Option (Out×St)} {step:σ->Option (Fw σ ε ρ)} {eσ:σ->St} {eε:ε->Nat×St} {eρ:ρ->St} (h:∀s,Le ((step s).bind λw=>some (Fw.out eσ eε eρ w)) (f (eσ s))) (s:σ) :
 Le ((c_ step s).bind λw=>some (Fw.out (λe=>Empty.elim e) eε eρ w)) (mP f (eσ s)):=by
 have key:∀k s r,jW step k s=some r->h_ f k (eσ s)=some (Fw.out (λe=>Empty.elim e) eε eρ r):=by
  intro k
  induction k with
  | zero=>intro s r h;simp[jW]at h
  | succ k C=>
   intro s r u;simp only[jW]at u
   cases z:step s with
   | none=>rw[z]at u;cases u
   | some w=>
    rw[z]at u;have B:=h s (Fw.out eσ eε eρ w) (by rw[z];rfl)
    simp only[h_,B]
    cases w with
    | n a=>exact C a r u
    | x e=>cases u;rfl
    | r b=>cases u;rfl
 intro r hr;obtain⟨w,h1,B⟩:=ζg.1 hr;obtain⟨k,hk⟩:=n_.1 h1;cases B;exact kX.2 ⟨k,key k s w hk⟩
theorem RN {σ ε ρ:Type} {a:RC} {fs:List Fm} {step:σ->Option (Fw σ ε ρ)} {eσ:σ->St} {eε:ε->Nat×St} {eρ:ρ->St} {s:σ} {u:ε->Option γ} {fr:ρ->Option γ}
 (z:L=jt S c Q (.loop a) fs (eσ s)) (h:∀s,Le ((step s).bind λw=>some (Fw.out eσ eε eρ w)) (jt S c some a [] (eσ s)))
 (B:∀x,Le ((u x).bind e) (lB S c Q fs (eε x).1 (eε x).2)) (hr:∀b,Le ((fr b).bind e) (Q (.ret,eρ b))):Le (((c_ step s).bind (Fw.elim u fr)).bind e) L:=by
 subst z;have h1:jt S c Q (.loop a) fs (eσ s)=(mP (cu S c a) (eσ s)).bind (B3 (k7 S c Q fs) (lB S c Q fs) (λst=>Q (.ret,st))):=by
  unfold jt;rw[Bp];rfl
 rw[h1];have C:=Ma (step:=step) (f:=cu S c a) (eσ:=eσ) (eε:=eε) (eρ:=eρ) (λs=>by rw[zo];exact h s) s
 cases D:c_ step s with
 | none=>exact Le.none _
 | some w=>
  have G:=C _ (by rw[D];rfl)
  rw[G]
  cases w with
  | n a=>cases a
  | x a=>exact B a
  | r a=>exact hr a
theorem Fh {α σ ε ρ:Type} {f:List V->Tb bB->Option (Out×Tb bB)} {step:α->σ->Option (Fw σ ε ρ)} {eI:α->List V} {eσ:σ->Tb bB} {eε:ε->Nat×Tb bB} {eρ:ρ->Tb bB}
 (h:∀x s,Le ((step x s).bind λw=>some (Fw.uj eσ eε eρ w)) (f (eI x) (eσ s))):∀(xs:List α) (s:σ),Le ((jh step xs s).bind λw=>some (Fw.uj eσ eε eρ w)) (oH f (xs.map eI) (eσ s))
 | [],s=>λr hr=>hr
 | x::xs,s=>by
  simp only[List.map_cons,oH,jh]
  cases u:step x s with
  | none=>exact Le.none _
  | some w=>
   have z:=h x s (Fw.uj eσ eε eρ w) (by rw[u];rfl)
   rw[z]
   cases w with
   | n B=>simp only[ζb,Fw.uj];exact Fh h xs B
   | x e=>exact Le.refl _
   | r b=>exact Le.refl _
theorem Sa {α σ ε ρ:Type} {g:Arg} {ps:List Nat} {a b:RC} {fs:List Fm} {f:FuncId} {x y:List V} {items:List α} {eI:α->List V} {step:α->σ->Option (Fw σ ε ρ)} {eσ:σ->Tb bB} {eε:ε->Nat×Tb bB} {eρ:ρ->Tb bB} {gt:Tb SV} {s:σ}
 {fn:σ->Option γ} {u:ε->Option γ} {fr:ρ->Option γ}
 (z:L=jt S c Q (.each g ps a b) fs ⟨gt,eσ s,[],[],true,0⟩) (hg:oK S.N gt g=some (.v (.clo f x y))) (hi:S.items f x y=some (items.map eI)) (B:∀x,(eI x).length=ps.length)
 (h:∀x s,Le ((step x s).bind λw=>some (Fw.uj eσ eε eρ w)) (jt S c (w9 S c b) a [] ⟨uF gt ps ((eI x).map .v),eσ s,nJ gt,[],true,0⟩))
 (D:∀s,Le ((fn s).bind e) (k7 S c Q fs ⟨gt,eσ s,[],[],true,0⟩))
 (G:∀x,Le ((u x).bind e) (lB S c Q fs (eε x).1 ⟨gt,(eε x).2,[],[],true,0⟩)) (hr:∀b,Le ((fr b).bind e) (Q (.ret,⟨gt,eρ b,[],[],true,0⟩))) :
 Le (((jh step items s).bind (Fw.oB fn u fr)).bind e) L:=by
 subst z;have h1:jt S c Q (.each g ps a b) fs ⟨gt,eσ s,[],[],true,0⟩=(cu S c (.each g ps a b) ⟨gt,eσ s,[],[],true,0⟩).bind (B3 (k7 S c Q fs) (lB S c Q fs) (λst=>Q (.ret,st))):=by
  unfold jt;rw[Bp]
 rw[h1];simp only[cu,hg,hi];have C:=Fh (step:=step) (f:=gP ps (cu S c a) (cu S c b) ⟨gt,eσ s,[],[],true,0⟩) (eI:=eI) (eσ:=eσ) (eε:=eε) (eρ:=eρ) (λx s=>by rw[Jd _ _ _ _ _ _ (B x)];exact h x s) items s
 cases I:jh step items s with
 | none=>exact Le.none _
 | some w=>
  have J:=C _ (by rw[I];rfl)
  rw[J]
  cases w with
  | n a=>exact D a
  | x a=>exact G a
  | r a=>exact hr a
end
inductive Fo where
 | rc (c:RC)
 | ops (dr:Bool) (fr:List Nat) (l:List RO)
 | nx
 | ex (k:Nat)
 | rt
abbrev dz (g:Tb SV) (m:Tb bB):St:=⟨g,m,[],[],true,0⟩
section
variable (S:Sys) (c:bN) {β:Type} (Q:Out×St->Option β)
noncomputable def rn:Fo->List Fm->St->Option β
 | .rc a,fs,st=>jt S c Q a fs st
 | .ops dr fr l,fs,st=>sO S c dr fr l (k7 S c Q fs) st
 | .nx,fs,st=>k7 S c Q fs st
 | .ex k,fs,st=>lB S c Q fs k st
 | .rt,_,st=>Q (.ret,st)
noncomputable def wN:Fo->List Fm->St->Option (Fo×List Fm×St)
 | .rc .skip,fs,st=>some (.nx,fs,st)
 | .rc (.ops l),fs,st=>some (.ops false [] l,fs,st)
 | .rc (.qm l),fs,st=>some (.ops true [] l,fs,st)
 | .rc (.seq a b),fs,st=>some (.rc a,.seq b::fs,st)
 | .rc (.cond y a b),fs,st=>match oK S.N st.g y with
  | some (.v (.bool true))=>some (.rc a,fs,st)
  | some (.v (.bool false))=>some (.rc b,fs,st)
  | _=>none
 | .rc (.block id a),fs,st=>some (.rc a,.blk id::fs,st)
 | .rc (.exit k),fs,st=>some (.ex k,fs,st)
 | .rc .ret,fs,st=>some (.rt,fs,st)
 | .rc (.gh g a),fs,st=>match ghost g st with
  | some st'=>some (.rc a,fs,st')
  | none=>none
 | .rc (.hg a g),fs,st=>some (.rc a,.gst g::fs,st)
 | .rc (.loop _),_,_=>none
 | .rc (.each ..),_,_=>none
 | .ops _ _ [],fs,st=>some (.nx,fs,st)
 | .ops dr fr (⟨d,gd,now,k,az,dd,[]⟩::r),fs,st=>match eT S c dr fr ⟨d,gd,now,k,az,[],[]⟩ st with
  | some st'=>some (.ops dr (if dr then oP fr ⟨d,gd,now,k,az,[],[]⟩else fr) r,fs,nD dd st')
  | none=>none
 | .ops dr fr (⟨d,gd,now,k,az,dd,x::xs⟩::r),fs,st=>if dr && !(yW x&&xs.all yW)then none else match ghost x st with
  | some st'=>some (.ops dr fr (⟨d,gd,now,k,az,dd,xs⟩::r),fs,st')
  | none=>none
 | .nx,.seq b::fs,st=>some (.rc b,fs,st)
 | .nx,.blk _::fs,st=>some (.nx,fs,st)
 | .nx,.gst g::fs,st=>match ghost g st with
  | some st'=>some (.nx,fs,st')
  | none=>none
 | .nx,[],_=>none
 | .ex k,.seq _::fs,st=>some (.ex k,fs,st)
 | .ex k,.blk id::fs,st=>some (if k=id then .nx else .ex k,fs,st)
 | .ex k,.gst _::fs,st=>some (.ex k,fs,st)
 | .ex _,[],_=>none
 | .rt,_,_=>none
noncomputable def gi:Nat->Fo->List Fm->St->Option (Fo×List Fm×St)
 | 0,fo,fs,st=>some (fo,fs,st)
 | n+1,fo,fs,st=>match wN S c fo fs st with
  | some (fo',fs',st')=>gi n fo' fs' st'
  | none=>none
end
section
variable {S:Sys} {c:bN} {β γ δ:Type} {Q:Out×St->Option β} {e:γ->Option β}
theorem Lv {fo fo':Fo} {fs fs':List Fm} {st st':St} (h:wN S c fo fs st=some (fo',fs',st')):rn S c Q fo fs st=rn S c Q fo' fs' st':=by
 cases fo with
 | rc a=>
  cases a with
  | cond y a b=>
   simp only[wN]at h;split at h
   next u=>cases h;simp only[rn,jt,ny,u,bn,if_true]
   next u=>cases h;simp only[rn,jt,ny,u,bn];rfl
   cases h
  | gh g a=>
   simp only[wN]at h;split at h
   next u=>cases h;simp only[rn,jt,ny,u,ζb]
   cases h
  | loop a=>cases h
  | each g w a b=>cases h
  | seq a b=>cases h;simp only[rn,jt,ny,k7,lB]
  | block id a=>cases h;simp only[rn,jt,ny,k7,lB]
  | hg a g=>cases h;simp only[rn,jt,ny,k7,lB]
  | _=>cases h;simp only[rn,jt,ny]
 | ops dr fr l=>
  cases l with
  | nil=>cases h;simp only[rn,sO]
  | cons o r=>
   obtain⟨d,gd,now,k,az,dd,pre⟩:=o
   cases pre with
   | nil=>
    simp only[wN]at h;split at h
    next u=>cases h;simp only[rn,sO,Ac,RO.strip,ζb,u]
    cases h
   | cons x z=>
    simp only[wN]at h;split at h
    .cases h
    rename_i hd;split at h
    .rename_i u;cases h
     cases dr with
     | true=>
      simp only[Bool.true_and,Bool.not_eq_true',Bool.not_eq_false,ζh]at hd;simp only[rn,sO,RO.strip,AK,mT,if_true,List.all_cons,hd.1,hd.2,Bool.and_self,u,ζb]
     | false=>simp only[rn,sO,RO.strip,AK,mT,Bool.false_eq_true,if_false,u,ζb]
    cases h
 | nx=>
  cases fs with
  | nil=>cases h
  | cons f fs=>
   cases f with
   | seq b=>cases h;simp only[rn,jt,k7]
   | blk id=>cases h;simp only[rn,k7]
   | gst g=>
    simp only[wN]at h;split at h
    next u=>cases h;simp only[rn,k7,u,ζb]
    cases h
 | ex k=>
  cases fs with
  | nil=>cases h
  | cons f fs=>
   cases f with
   | seq b=>cases h;simp only[rn,lB]
   | blk id=>
    cases h;simp only[rn,lB]
    by_cases hk:k=id
    .simp only[if_pos hk,rn]
    simp only[if_neg hk,rn]
   | gst g=>cases h;simp only[rn,lB]
 | rt=>cases h
theorem mU:∀{n:Nat} {fo fo':Fo} {fs fs':List Fm} {st st':St},gi S c n fo fs st=some (fo',fs',st')->rn S c Q fo fs st=rn S c Q fo' fs' st'
 | 0,fo,fo',fs,fs',st,st',h=>by cases h;rfl
 | n+1,fo,fo',fs,fs',st,st',h=>by
  simp only[gi]at h;split at h
  next a b d u=>rw[Lv u];exact mU h
  cases h
theorem yg {n:Nat} {fo fo':Fo} {fs fs':List Fm} {st st':St} {m:Option β} (h:gi S c n fo fs st=some (fo',fs',st')) (u:Le m (rn S c Q fo' fs' st')):Le m (rn S c Q fo fs st):=by
 rw[mU h];exact u
theorem SQ {n:Nat} {fo fo':Fo} {fs fs':List Fm} {st st':St} {r:γ} (h:gi S c n fo fs st=some (fo',fs',st')) (u:rn S c Q fo' fs' st'=e r):Le ((some r).bind e) (rn S c Q fo fs st):=by
 rw[mU h];exact Le.of_eq u
theorem NM {m:Option δ} {f:δ->Option γ} {L:Option β} (k:δ->Option β) (u:Le (m.bind k) L) (h1:∀r,Le ((f r).bind e) (k r)):Le ((m.bind f).bind e) L:=by
 intro r hr
 cases m with
 | none=>cases hr
 | some x=>exact u r (h1 x r hr)
theorem SN {n:Nat} {fo:Fo} {fs fs':List Fm} {st0:St} {dr:Bool} {q l:List RO} {fr:List Nat} {st:St} {d:Option Nat} {gd:Option (Nat×Bool)} {now:Bool} {k:K} {az:List Arg} {dd:List Nat} {m:Option δ} {g:δ->St} {f:δ->Option γ}
 (u:gi S c n fo fs st0=some (.ops dr fr q,fs',st)) (z:q=⟨d,gd,now,k,az,dd,[]⟩::l) (hg:wanted st.g gd=some true)
 (B:Le (m.bind λx=>some (g x)) (eT S c dr fr ⟨d,none,now,k,az,[],[]⟩ st))
 (h:∀x,m=some x->Le ((f x).bind e) (rn S c Q (.ops dr (if dr then oP fr ⟨d,gd,now,k,az,[],[]⟩else fr) l) fs' (nD dd (g x)))):Le ((m.bind f).bind e) (rn S c Q fo fs st0):=by
 rw[mU u];subst z;simp only[rn,sO,RO.strip,Ac,ζb];rw[Kc hg]
 cases m with
 | none=>exact Le.none _
 | some x=>rw[B (g x) rfl];exact h x rfl
theorem Np {n:Nat} {fo:Fo} {fs fs':List Fm} {st0:St} {dr:Bool} {q l:List RO} {fr:List Nat} {st st':St} {d:Option Nat} {gd:Option (Nat×Bool)} {now:Bool} {k:K} {az:List Arg} {dd:List Nat} {m:Option β}
 (u:gi S c n fo fs st0=some (.ops dr fr q,fs',st)) (z:q=⟨d,gd,now,k,az,dd,[]⟩::l) (hg:wanted st.g gd=some true)
 (B:eT S c dr fr ⟨d,none,now,k,az,[],[]⟩ st=some st')
 (h:Le m (rn S c Q (.ops dr (if dr then oP fr ⟨d,gd,now,k,az,[],[]⟩else fr) l) fs' (nD dd st'))):Le m (rn S c Q fo fs st0):=by
 rw[mU u];subst z;simp only[rn,sO,RO.strip,Ac,ζb];rw[Kc hg,B];exact h
theorem JA {n:Nat} {fo:Fo} {u:List Fm} {st:St} {σ ε ρ:Type} {a:RC} {fs:List Fm} {step:σ->Option (Fw σ ε ρ)} {eσ:σ->St} {eε:ε->Nat×St} {eρ:ρ->St} {s:σ} {z:ε->Option γ} {fr:ρ->Option γ}
 (B:gi S c n fo u st=some (.rc (.loop a),fs,eσ s)) (h:∀s,Le ((step s).bind λw=>some (Fw.out eσ eε eρ w)) (rn S c some (.rc a) [] (eσ s)))
 (D:∀x,Le ((z x).bind e) (rn S c Q (.ex (eε x).1) fs (eε x).2)) (hr:∀b,Le ((fr b).bind e) (Q (.ret,eρ b))):Le (((c_ step s).bind (Fw.elim z fr)).bind e) (rn S c Q fo u st):=by
 rw[mU B];exact RN (L:=rn S c Q (.rc (.loop a)) fs (eσ s)) rfl h D hr
theorem Rf {n:Nat} {fo:Fo} {u:List Fm} {st:St} {α σ ε ρ:Type} {g:Arg} {ps:List Nat} {a b:RC} {fs:List Fm} {f:FuncId} {x y:List V} {items:List α} {eI:α->List V} {step:α->σ->Option (Fw σ ε ρ)} {eσ:σ->Tb bB} {eε:ε->Nat×Tb bB} {eρ:ρ->Tb bB} {gt:Tb SV} {s:σ}
 {fn:σ->Option γ} {z:ε->Option γ} {fr:ρ->Option γ}
 (B:gi S c n fo u st=some (.rc (.each g ps a b),fs,dz gt (eσ s))) (hg:oK S.N gt g=some (.v (.clo f x y))) (hi:S.items f x y=some (items.map eI)) (D:∀x,(eI x).length=ps.length)
 (h:∀x s,Le ((step x s).bind λw=>some (Fw.uj eσ eε eρ w)) (rn S c (w9 S c b) (.rc a) [] ⟨uF gt ps ((eI x).map .v),eσ s,nJ gt,[],true,0⟩))
 (G:∀s,Le ((fn s).bind e) (rn S c Q .nx fs (dz gt (eσ s))))
 (J:∀x,Le ((z x).bind e) (rn S c Q (.ex (eε x).1) fs (dz gt (eε x).2))) (hr:∀b,Le ((fr b).bind e) (Q (.ret,dz gt (eρ b)))) :
 Le (((jh step items s).bind (Fw.oB fn z fr)).bind e) (rn S c Q fo u st):=by
 rw[mU B];exact Sa (L:=rn S c Q (.rc (.each g ps a b)) fs (dz gt (eσ s))) rfl hg hi D h G J hr
theorem P4 {b:RC} {st st':St} {m:Option (Out×Tb bB)} {fs:List Fm} {n:Nat} {fo:Fo} (h:gi S c n fo fs st=some (.nx,[],st')) (u:Le m (rn S c uj (.rc b) [] st')):Le m (rn S c (w9 S c b) fo fs st):=by
 rw[mU h];exact u
theorem RY {α:Type} {n:Nat} {fo fo':Fo} {fs fs':List Fm} {st:St} {A:Option α->St} {o:Option α} {f:α->Option γ} (h:gi S c n fo fs st=some (fo',fs',A o))
 (u:∀x,o=some x->Le ((f x).bind e) (rn S c Q fo' fs' (A (some x)))):Le ((o.bind f).bind e) (rn S c Q fo fs st):=by
 rw[mU h]
 cases o with
 | none=>exact Le.none _
 | some x=>exact u x rfl
theorem SR {T:oQ} {f:FuncId} {rf:RF} {az:List V} {m:Option (List V)} (u:T f=some rf) (z:az.length<=rf.na) (h:Le m (rn S (dI S T) (nq rf.rs) (.rc rf.body) [] (start (az.map .v) []))):Le m (iQ (dI S T) f az):=by
 rw[Oa u az z];exact h
end
section
variable {α:Type} [bt α]
abbrev cv (x:α):SV:=.v (enc x)
abbrev cp (x:α):SV:=.v (.fptr (cells x))
abbrev bx (x:α):bB:=.box ((cells x).map .v)
end
structure iC (S:Sys) (c:bN) {α δ:Type} (fn:FuncId) (A:α->List V) (E:δ->List V) (p:α->Option δ) (sc:Bool):Prop where
 k:S.E.keep fn=false
 h:∀z,Le ((p z).bind λr=>some (E r)) (iQ c fn (A z))
 s:sc=true->∀r,(result (E r)).scalar=true
section
variable {S:Sys} {c:bN} {β γ δ α:Type} {Q:Out×St->Option β} {e:γ->Option β} {fo:Fo} {fs:List Fm} {st0:St} {l:List RO} {d:Option Nat} {gd:Option (Nat×Bool)} {now:Bool} {az:List Arg} {dd:List Nat}
noncomputable abbrev qJ (S:Sys) (c:bN) (Q:Out×St->Option β) (dr:Bool) (fr:List Nat) (d:Option Nat) (k:K) (l:List RO) (fs:List Fm) (dd:List Nat) (st:St):Option β:=
 rn S c Q (.ops dr (if dr then(match k with|.p _|.r _=>fr|_=>match d with|some d=>d::fr|none=>fr)else fr) l) fs (nD dd st)
theorem CL (fr:List Nat) (k:K):oP fr ⟨d,gd,now,k,az,[],[]⟩=(match k with|.p _|.r _=>fr|_=>match d with|some d=>d::fr|none=>fr):=by
 cases k <;> cases d <;> rfl
theorem Cr {n:Nat} {dr:Bool} {fr:List Nat} {q:List RO} {fs':List Fm} {st:St} {k:K} {m:Option δ} {g:δ->St} {f:δ->Option γ}
 (u:gi S c n fo fs st0=some (.ops dr fr q,fs',st)) (z:q=⟨d,gd,now,k,az,dd,[]⟩::l) (hg:wanted st.g gd=some true)
 (B:Le (m.bind λx=>some (g x)) (eT S c dr fr ⟨d,none,now,k,az,[],[]⟩ st))
 (h:∀x,m=some x->Le ((f x).bind e) (qJ S c Q dr fr d k l fs' dd (g x))):Le ((m.bind f).bind e) (rn S c Q fo fs st0):=
 SN u z hg B (λx w=>by rw[CL];grind)
theorem pE {n:Nat} {dr:Bool} {fr:List Nat} {q:List RO} {fs':List Fm} {st st':St} {k:K} {m:Option β}
 (u:gi S c n fo fs st0=some (.ops dr fr q,fs',st)) (z:q=⟨d,gd,now,k,az,dd,[]⟩::l) (hg:wanted st.g gd=some true)
 (B:eT S c dr fr ⟨d,none,now,k,az,[],[]⟩ st=some st') (h:Le m (qJ S c Q dr fr d k l fs' dd st')):Le m (rn S c Q fo fs st0):=
 Np u z hg B (by rw[CL];omega)
section
variable [bt α]
theorem My (n:Nat) (dr:Bool) (fr:List Nat) (q:List RO) (fs':List Fm) (st:St) (k:IntKind) {sz:Nat} {s:Sl α} {i:Int} {f:α->Option γ} (z:q=⟨d,gd,now,.p (.idxS sz),az,dd,[]⟩::l)
 (u:(gi S c n fo fs st0,wanted st.g gd,bQ S.N st.g az,sz)=(some (.ops dr fr q,fs',st),some true,some [.v (b_ s),.v (.int k i)],bt.size α))
 (h:∀x,idx s i=some x->Le ((f x).bind e) (qJ S c Q dr fr d (.p (.idxS sz)) l fs' dd (cU st d (cp x)))):Le (((idx s i).bind f).bind e) (rn S c Q fo fs st0):=by
 simp  at u;exact Cr u.1 z u.2.1 (Le.of_eq (Nk u.2.2.1 u.2.2.2)) h
theorem P3 (n:Nat) (dr:Bool) (fr:List Nat) (q:List RO) (fs':List Fm) (st:St) (s:Sl α) {m:Option β} (z:q=⟨d,gd,now,.p .lenSl,az,dd,[]⟩::l)
 (u:(gi S c n fo fs st0,wanted st.g gd,bQ S.N st.g az)=(some (.ops dr fr q,fs',st),some true,some [.v (b_ s)]))
 (h:Le m (qJ S c Q dr fr d (.p .lenSl) l fs' dd (cU st d (.v (.int .i64 s.l.length))))):Le m (rn S c Q fo fs st0):=by
 simp  at u;exact pE u.1 z u.2.1 (NP u.2.2) h
end
section
variable {q:List RO} {fs':List Fm}
end
theorem Et (m:Tb bB) (n:Nat) (l:List V):mC (gT m n) (l.map .v)=some l:=by rw[<-(vN m n).2,yO]
variable {A:α->List V} {E:δ->List V} {p:α->Option δ} {fn:FuncId} {sc:Bool}
end
abbrev iv (n:Int):SV:=.v (.int .i64 n)
abbrev bv (b:Bool):SV:=.v (.bool b)
abbrev len {α:Type} (s:Sl α):Int:=((List.length (Sl.l s):Nat):Int)
abbrev o1 (d:Nat) (a:Arg) (dd:List Nat):RO:=⟨some d,none,false,.p .id,[a],dd,[]⟩
abbrev o2 (d:Nat) (k:K) (az:List Arg) (dd:List Nat):RO:=⟨some d,none,false,k,az,dd,[]⟩
abbrev o3 (d s:Nat) (b:Bool) (k:K) (az:List Arg) (dd:List Nat):RO:=⟨some d,some (s,b),false,k,az,dd,[]⟩
def Qf (a b:aZ):Bool:=[a.proc,a.index]==[b.proc,b.index]
section
variable {α:Type} [bt α]
theorem sI (h:bt.agg α=false) (a:α):cells a=[enc a]:=by
 have u:(cells a).length=1:=by rw[show (cells a).length=_ from bt.len a,bt.plain h]
 unfold enc;rw[if_neg (by simp[h])]
 match hc:cells a,u with
 | [x],_=>rfl
theorem zm (h:bt.agg α=true) (a:α):enc a=.agg (cells a):=by unfold enc;grind
theorem lK (a:α):V.good (enc a)=true:=by
 have h:V.cH (cells a)=true:=bt.good a
 cases u:bt.agg α with
 | true=>rw[zm u];exact h
 | false=>
  rw[sI u]at h;simp[V.cH]at h;omega
theorem nW (s:Sl α):V.one (enc s)=true:=Df s
theorem LK (s:α) (h:bt.agg α=false):V.one (enc s)=true:=by
 have:=bt.one s;rw[show bt.cells s=cells s from rfl,sI h]at this
 grind
end
instance {α:Type} [bt α]:bt (Option α) where
 cells o:=[match o with|none=>.gp|some x=>.fptr (cells x)]
 agg:=false
 size:=1
 len _:=rfl
 good o:=by
  cases o with
  | none=>rfl
  | some x=>simp only[V.cH,V.good,Bool.and_true];exact bt.good x
 one o:=by cases o <;> rfl
 plain _:=rfl
structure U8 where
 v:Int
 deriving Inhabited,DecidableEq
instance:bt U8 where
 cells n:=[.int .u8 n.v]
 agg:=false
 size:=1
 len _:=rfl
 good _:=rfl
 one _:=rfl
 plain _:=rfl
structure Tf where
 v:Int
 deriving Inhabited,DecidableEq
instance:bt Tf where
 cells n:=[.int .u64 n.v]
 agg:=false
 size:=1
 len _:=rfl
 good _:=rfl
 one _:=rfl
 plain _:=rfl
structure Tm where
 v:Int
 deriving Inhabited,DecidableEq
instance:bt Tm where
 cells n:=[.int .u32 n.v]
 agg:=false
 size:=1
 len _:=rfl
 good _:=rfl
 one _:=rfl
 plain _:=rfl
structure To where
 v:Int
 deriving Inhabited,DecidableEq
instance:bt To where
 cells n:=[.int .i32 n.v]
 agg:=false
 size:=1
 len _:=rfl
 good _:=rfl
 one _:=rfl
 plain _:=rfl
structure gI (S:Sys) (c:bN) {α δ:Type} (g:FuncId) (w e:List V) (A:α->List V) (R:δ->List V) (p:α->Option δ) (b:Bool):Prop where
 f:iC S c g (λz=>w++A z++e) R p b
section
variable {S:Sys} {c:bN} {β γ δ α:Type} {Q:Out×St->Option β} {e:γ->Option β} {fo:Fo} {fs:List Fm} {st0:St} {l:List RO} {d:Option Nat} {gd:Option (Nat×Bool)} {now:Bool} {az:List Arg} {dd:List Nat}
theorem jB {α:Type} [bt α] (a:α):V.cells (enc a)=cells a:=by
 cases u:bt.agg α with
 | true=>rw[zm u];rfl
 | false=>
  have h1  := LK a u;rw[sI u];cases h:enc a <;> first|rfl|(rw[h]at h1;cases h1)
theorem rE {α:Type} [bt α] (a:α):(cells a).all V.one=true:=bt.one a
theorem gA {α:Type} [bt α] (a:α):(cells a).length=bt.size α:=bt.len a
theorem Ast [bt α] (n:Nat) (dr:Bool) (fr:List Nat) (q:List RO) (fs':List Fm) (st:St) (u o:Nat) (x:α) (cs z:List SV) {sz:Nat} {m:Option β} (D:q=⟨d,gd,now,.l (.store sz),az,dd,[]⟩::l)
 (B:(gi S c n fo fs st0,wanted st.g gd,bQ S.N st.g az,a_ st.m u,(!dr||now),sz,Nat.ble (o+sz) cs.length,cs.take o++(cells x).map .v++cs.drop (o+sz))=(some (.ops dr fr q,fs',st),some true,some [.ptr u o,cv x],some (.box cs),true,bt.size α,true,z))
 (h:Le m (qJ S c Q dr fr d (.l (.store sz)) l fs' dd (cU { st with m:=bH st.m u (.box z) } d (.v .undef)))):Le m (rn S c Q fo fs st0):=by
 simp only[ζc]at B;obtain⟨h1,w,C,G,I,J,L,O⟩:=B;refine pE h1 D w ?_ h;rw[uP,C];subst J;have T:=Nat.le_of_ble_eq_true L;simp only[ζb,I,if_true,k8,G,putCells,jB,gA,rE,T,and_self,O,Option.map_some]
theorem x6 {α:Type} [bt α]:∀(xs:List α) (pre:List (List V)) (u:List (List V)),u.length=xs.length->gB (bt.size α) (pre++u) ((List.range' pre.length xs.length).zip (xs.map enc))=some (pre++rows xs)
 | [],pre,u,h=>by
  have  := List.eq_nil_of_length_eq_zero h;subst this;rfl
 | x::xs,pre,s::u,h=>by
  simp only[List.length_cons,List.range'_succ,List.map_cons,List.zip_cons_cons,gB,jB,gA,rE];have:=x6 xs (pre++[cells x]) u Zd
  simp only[ζi,List.length_cons,List.length_nil]at this;have e:(pre++s::u).set pre.length (cells x)=pre++[cells x]++u:=by simp
  rw[e,this];simp[rows]
theorem Te [bt α] (n:Nat) (dr:Bool) (fr:List Nat) (q:List RO) (fs':List Fm) (st:St) (xs:List α) {u sz ln:Nat} {zero:List V} {ix:List Nat} {m:Option β} (B:q=⟨some u,gd,now,.a (.buildSl sz ln zero ix),az,dd,[]⟩::l)
 (D:st.new u=true) (z:(gi S c n fo fs st0,wanted st.g gd,bQ S.N st.g az,sz,ln,ix)=(some (.ops dr fr q,fs',st),some true,some ((xs.map enc).map .v),bt.size α,xs.length,List.range' 0 xs.length))
 (h:Le m (qJ S c Q dr fr (some u) (.a (.buildSl sz ln zero ix)) l fs' dd { st with g:=bH st.g u (.own u),m:=bH st.m u (c7 (.row xs)) })):Le m (rn S c Q fo fs st0):=by
 simp only[ζc]at z;obtain⟨h1,w,C,G,I,J⟩:=z;subst G I J;refine pE h1 B w ?_ h;rw[DX,C];simp only[ζb,D,qE,jV,List.length_range',List.length_map];have:=x6 xs [] (List.replicate xs.length zero) Zc
 simp  at this;rw[this];rfl
theorem SX [bt α] (n:Nat) (dr:Bool) (fr:List Nat) (q:List RO) (fs':List Fm) (st:St) (x:α) (vs:List V) {z:List V} {pl:List (Nat×Nat)} {m:Option β} (B:q=⟨d,gd,now,.p (.build z pl),az,dd,[]⟩::l)
 (hp:jw z pl vs=some (cells x)) (D:bt.agg α=true)
 (u:(gi S c n fo fs st0,wanted st.g gd,bQ S.N st.g az)=(some (.ops dr fr q,fs',st),some true,some (vs.map .v)))
 (h:Le m (qJ S c Q dr fr d (.p (.build z pl)) l fs' dd (cU st d (cv x)))):Le m (rn S c Q fo fs st0):=by
 simp  at u;refine pE u.1 B u.2.1 (Cs u.2.2 rfl ?_) h;unfold jg;rw[jV];simp only[LX,hp,Option.map_some];show some (SV.v (.agg (cells x)))=some (.v (enc x));rw[zm D]
section
variable [bt α]
theorem S4 (n:Nat) (dr:Bool) (fr:List Nat) (q:List RO) (fs':List Fm) (st:St) (lo hi:Bool) (z:List V) {sz:Nat} {s:Sl α} {a b:Option Int} {f:Sl α->Option γ} (B:q=⟨d,gd,now,.p (.slice sz lo hi),az,dd,[]⟩::l)
 (u:(gi S c n fo fs st0,wanted st.g gd,bQ S.N st.g az,lI lo hi z,sz)=(some (.ops dr fr q,fs',st),some true,some (.v (b_ s)::z.map .v),some (a,b),bt.size α))
 (h:∀x,iI s a b=some x->Le ((f x).bind e) (qJ S c Q dr fr d (.p (.slice sz lo hi)) l fs' dd (cU st d (.v (b_ x))))):Le (((iI s a b).bind f).bind e) (rn S c Q fo fs st0):=by
 simp  at u;refine Cr u.1 B u.2.1 (Le.of_eq ?_) h;have C  := u.2.2.1;unfold eT kM;simp[wanted,e9,C];have w:jg S.N st.m (.slice sz lo hi) ((b_ s::z).map .v)=(iI s a b).bind λx=>some (.v (b_ x)):=by
  unfold jg;rw[jV];simp[bq,u.2.2.2.1,Ix s a b sz u.2.2.2.2];cases iI s a b <;> rfl
 simp  at w ⊢;rw[w];cases iI s a b <;> rfl
def mR (s:Sl α) (lo hi:Option Int):Option (Sl α):=
 match s with
 | .nil|.emp=>none
 | .row x|.part x=>(dM x.length lo hi).map λ(l,h)=>.part ((x.take h).drop l)
theorem RP (n:Nat) (fr:List Nat) (q:List RO) (fs':List Fm) (st:St) (lo hi:Bool) (u:Nat) (B:List V) {t sz:Nat} {s:Sl α} {a b:Option Int} {f:Sl α->Option γ} (G:q=⟨some t,gd,now,.p (.slice sz lo hi),az,dd,[]⟩::l)
 (D:St.new { st with m:=dQ u st.m } t=true) (z:(gi S c n fo fs st0,wanted st.g gd,bQ S.N st.g az,lI lo hi B,a_ st.m u,sz)=(some (.ops false fr q,fs',st),some true,some (.own u::B.map .v),some (a,b),some (c7 s),bt.size α))
 (h:∀x,mR s a b=some x->Le ((f x).bind e) (qJ S c Q false fr (some t) (.p (.slice sz lo hi)) l fs' dd { st with g:=bH st.g t (.own t),m:=bH (dQ u st.m) t (c7 x) })):Le (((mR s a b).bind f).bind e) (rn S c Q fo fs st0):=by
 simp  at z;refine Cr z.1 G z.2.1 (Le.of_eq ?_) h;obtain⟨_,_,C,w,I,J⟩:=z;subst J;unfold eT kM;simp[wanted,e9,C,xW,jV,I,w]
 cases s with
 | nil=>simp[mR,c7,Sl.k,cI]
 | emp=>simp[mR,c7,Sl.k,cI]
 | row x=>
  simp[c7,Sl.k,Sl.l,cI,mR,jA,w]
  cases dM x.length a b with
  | none=>rfl
  | some r=>simp[D,cU,rows,List.map_drop]
 | part x=>
  simp[c7,Sl.k,Sl.l,cI,mR,jA,w]
  cases dM x.length a b with
  | none=>rfl
  | some r=>simp[D,cU,rows,List.map_drop]
end
end
structure cw (n:Nat) (α:Type) where
 l:List α
 len:l.length=n
theorem Lr {α:Type} [bt α] (l:List α):(l.map (cells (α:=α))).flatten.length=l.length*bt.size α:=by
 induction l with
 | nil=>simp
 | cons a l u=>simp[u,gA,Nat.add_mul,Nat.add_comm]
theorem JB {α:Type} [bt α] (l:List α):V.cH (l.map (cells (α:=α))).flatten=true:=by
 induction l with
 | nil=>rfl
 | cons a l u=>
  have h:∀(x y:List V),V.cH x=true->V.cH y=true->V.cH (x++y)=true:=by
   intro x
   induction x with
   | nil=>grind
   | cons b x w=>intro y h1 z;simp[V.cH]at h1 ⊢;grind
  exact h _ _ (bt.good a) u
instance {n:Nat} {α:Type} [bt α]:bt (cw n α) where
 cells a:=(a.l.map cells).flatten
 agg:=true
 size:=n*bt.size α
 len a:=by rw[Lr,a.len]
 good a:=JB a.l
 one a:=by
  have:∀l:List α,(l.map (cells (α:=α))).flatten.all V.one=true:=by
   intro l
   induction l with
   | nil=>rfl
   | cons a l u=>simp only[List.map_cons,List.flatten_cons,List.all_append,u,rE,Bool.and_self]
  exact this a.l
 plain h:=by cases h
def cw.JG (n:Nat) {α:Type} (z:α):cw n α:=⟨List.replicate n z,by simp⟩
def cw.at {n:Nat} {α:Type} (a:cw n α) (i:Int):Option α:=if 0<=i then a.l[i.toNat]? else none
def cw.set {n:Nat} {α:Type} (a:cw n α) (i:Int) (x:α):cw n α:=⟨a.l.set i.toNat x,by simp[a.len]⟩
def pa {n:Nat} {α:Type} [bt α] (a:cw n α) (i:Int):List V:=(cells a).drop (i.toNat*bt.size α)
theorem cw.rM {n:Nat} {α:Type} {a:cw n α} {i:Int} {x:α} (h:a.at i=some x):0<=i/\i.toNat<n/\a.l[i.toNat]? = some x:=by
 unfold cw.at at h;split at h
 next hi=>refine⟨hi,?_,h⟩;have:=(ζe.1 h).1;rw[<-a.len];simp_all
 simp_all
theorem CT {α:Type} [bt α]:∀(l:List α) (k:Nat),((l.map (cells (α:=α))).flatten).drop (k*bt.size α)=((l.drop k).map (cells (α:=α))).flatten
 | [],k=>by simp
 | a::l,0=>by simp
 | a::l,k+1=>by
  have h  := gA a;rw[List.map_cons,List.flatten_cons,List.drop_succ_cons,<-CT l k,Nat.add_mul,Nat.one_mul,Nat.add_comm,<-h,List.drop_length_add_append]
theorem zy {n:Nat} {α:Type} [bt α] {a:cw n α} {i:Int} {x:α} (h:a.at i=some x):∃r,pa a i=cells x++r:=by
 obtain⟨h1,B,w⟩:=cw.rM h;obtain⟨u,z⟩:=ζe.1 w;refine⟨((a.l.drop (i.toNat+1)).map cells).flatten,?_⟩;show ((a.l.map (cells )).flatten).drop (i.toNat*bt.size α)=_;rw[CT,List.drop_eq_getElem_cons u,List.map_cons,List.flatten_cons,z]
section
variable {S:Sys} {c:bN} {β γ δ α:Type} {Q:Out×St->Option β} {e:γ->Option β} {fo:Fo} {fs:List Fm} {st0:St} {l:List RO} {d:Option Nat} {gd:Option (Nat×Bool)} {now:Bool} {az:List Arg} {dd:List Nat}
section
variable {N:Nat} [bt α]
theorem RG (n:Nat) (dr:Bool) (fr:List Nat) (q:List RO) (fs':List Fm) (st:St) (k:IntKind) {ln sz:Nat} {a:cw N α} {i:Int} {f:α->Option γ} (B:q=⟨d,gd,now,.p (.idxA ln sz),az,dd,[]⟩::l)
 (z:(gi S c n fo fs st0,wanted st.g gd,bQ S.N st.g az,sz,ln)=(some (.ops dr fr q,fs',st),some true,some [cp a,.v (.int k i)],bt.size α,N))
 (h:∀x,a.at i=some x->Le ((f x).bind e) (qJ S c Q dr fr d (.p (.idxA ln sz)) l fs' dd (cU st d (.v (.fptr (pa a i)))))):Le (((a.at i).bind f).bind e) (rn S c Q fo fs st0):=by
 simp  at z;obtain⟨h1,w,C,D,G⟩:=z;subst D G;refine Cr h1 B w ?_ h;intro r hr;obtain⟨x,I,hr⟩:=ζg.1 hr;obtain⟨g1,g2,_⟩:=cw.rM I;rw[Cs  C rfl ?_]
 .omega
 rw[tT];simp[bq,uZ];have u:i.toNat*bt.size α<=(cells a).length:=by
  rw[gA];exact Nat.mul_le_mul_right _ (Nat.le_of_lt g2)
 rw[if_pos ⟨g1,by omega⟩,if_pos u]
 rfl
theorem S0 (n:Nat) (dr:Bool) (fr:List Nat) (q:List RO) (fs':List Fm) (st:St) (a:cw N α) (i:Int) (o:Nat) (x:α) (z:a.at i=some x) {k:Nat} {m:Option β} (B:q=⟨d,gd,now,.p (.fieldAddr k),az,dd,[]⟩::l)
 (u:(gi S c n fo fs st0,wanted st.g gd,bQ S.N st.g az,Nat.ble (o+k) (bt.size α))=(some (.ops dr fr q,fs',st),some true,some [.v (.fptr ((pa a i).drop o))],true))
 (h:Le m (qJ S c Q dr fr d (.p (.fieldAddr k)) l fs' dd (cU st d (.v (.fptr ((pa a i).drop (o+k))))))):Le m (rn S c Q fo fs st0):=by
 simp only[ζc]at u;obtain⟨h1,w,C,D⟩:=u;refine pE h1 B w (Cs C rfl ?_) h;have G:=Nat.le_of_ble_eq_true D;obtain⟨r,hr⟩:=zy z;have I:(pa a i).length>=bt.size α:=by rw[hr,ζi,gA];omega
 rw[D4,FE,if_pos Zd,List.drop_drop]
 rfl
theorem RA (n:Nat) (dr:Bool) (fr:List Nat) (q:List RO) (fs':List Fm) (st:St) (a:cw N α) (i:Int) (o:Nat) (x:α) (D:a.at i=some x) {sz:Nat} {ag:Bool} {v:V} (hv:(cut (cells x) o sz).bind (mk ag)=some v) (z:V) {m:Option β} (G:q=⟨d,gd,now,.r (.load sz ag),az,dd,[]⟩::l)
 (B:(gi S c n fo fs st0,wanted st.g gd,bQ S.N st.g az,v)=(some (.ops dr fr q,fs',st),some true,some [.v (.fptr ((pa a i).drop o))],z))
 (h:Le m (qJ S c Q dr fr d (.r (.load sz ag)) l fs' dd (cU st d (.v z)))):Le m (rn S c Q fo fs st0):=by
 simp  at B;obtain⟨h1,C,I,rfl⟩:=B;refine pE h1 G C ?_ h;rw[DY,I];have hold:eD fr [SV.v (.fptr ((pa a i).drop o))]=true:=rfl;simp[hold,KW];obtain⟨r,hr⟩:=zy D;rw[hr];have hc:cut ((cells x++r).drop o) 0 sz=cut (cells x) o sz:=by
  cases u:cut (cells x) o sz with
  | none=>grind
  | some w=>
   unfold cut at u ⊢;dsimp only at u ⊢;split at u
   .have e1:(List.drop 0 (List.drop o (cells x++r))).take sz=((cells x).drop o).take sz:=by
     have J:sz=0\/o<=(cells x).length:=by
      grind
     grind
    grind
   grind
 cases u:cut (cells x) o sz with
 | none=>grind
 | some w=>grind
theorem Qc (n:Nat) (dr:Bool) (fr:List Nat) (q:List RO) (fs':List Fm) (st:St) (cs:List SV) {u sz:Nat} {zero:List V} {m:Option β} (B:q=⟨some u,gd,now,.a (.alloc sz zero),az,dd,[]⟩::l)
 (D:st.new u=true) (z:(gi S c n fo fs st0,wanted st.g gd,bQ S.N st.g az,zero.map SV.v)=(some (.ops dr fr q,fs',st),some true,some [],cs))
 (h:Le m (qJ S c Q dr fr (some u) (.a (.alloc sz zero)) l fs' dd { st with g:=bH st.g u (.ptr u 0),m:=bH st.m u (.box cs) })):Le m (rn S c Q fo fs st0):=by
 simp  at z;obtain⟨h1,w,C,G⟩:=z;subst G;refine pE h1 B w ?_ h;rw[DX,C];simp[D,qE]
theorem ru (d:Nat) (l:List V):SV.dh d (l.map .v)=false:=by
 induction l with
 | nil=>rfl
 | cons a l u=>simp[SV.dh,SV.cG,u]
theorem qZ {α:Type} [bt α] (d:Nat) (x:α):bB.cG d (bx x)=false:=ru d (cells x)
theorem Sc (n:Nat) (dr:Bool) (fr:List Nat) (q:List RO) (fs':List Fm) (st:St) (k:IntKind) (u:Nat) {ln sz:Nat} {a:cw N α} {i:Int} {f:α->Option γ} (B:q=⟨d,gd,now,.p (.idxA ln sz),az,dd,[]⟩::l)
 (z:(gi S c n fo fs st0,wanted st.g gd,bQ S.N st.g az,sz,ln,a_ st.m u)=(some (.ops dr fr q,fs',st),some true,some [.ptr u 0,.v (.int k i)],bt.size α,N,some (bx a)))
 (h:∀x,a.at i=some x->Le ((f x).bind e) (qJ S c Q dr fr d (.p (.idxA ln sz)) l fs' dd (cU st d (.ptr u (i.toNat*bt.size α+0))))):Le (((a.at i).bind f).bind e) (rn S c Q fo fs st0):=by
 simp  at z;obtain⟨h1,w,C,I,J,D⟩:=z;refine Cr h1 B w ?_ h;intro r hr;obtain⟨x,G,hr⟩:=ζg.1 hr;obtain⟨g1,g2,_⟩:=cw.rM G;rw[Cs  C rfl ?_]
 .omega
 simp[jg,dn,zg,D]
 grind
theorem LH {a:cw N α} {i:Int} {o:Nat} {x:α} (z:a.at i=some x) {sz:Nat} {ag:Bool} {v:V} (hv:(cut (cells x) o sz).bind (mk ag)=some v):tE sz ag ((((cells a).map SV.v).drop (i.toNat*bt.size α+o)).take sz)=some (.v v):=by
 obtain⟨r,hr⟩:=zy z;have e1:(((cells a).map SV.v).drop (i.toNat*bt.size α+o)).take sz=(((cells x).drop o).take sz).map SV.v:=by
  have u:((cells x).drop o).take sz=((cells x++r).drop o).take sz:=by
   cases hc:cut (cells x) o sz with
   | none=>grind
   | some w=>
    unfold cut at hc;dsimp only at hc;split at hc
    .have C:sz=0\/o<=(cells x).length:=by
      grind
     grind
    simp_all
  rw[u,<-hr,pa,List.drop_drop,List.map_take,List.map_drop]
 rw[e1];unfold tE
 cases hc:cut (cells x) o sz with
 | none=>grind
 | some w=>
  rw[hc]at hv;unfold cut at hc;dsimp only at hc;split at hc
  .rename_i B;cases hc;simp only[List.length_map,B];unfold mk at hv
   cases ag with
   | true=>
    simp only[if_true]at hv ⊢;cases hv;rw[jV]
   | false=>
    grind
  simp_all
theorem Ru (n:Nat) (dr:Bool) (fr:List Nat) (q:List RO) (fs':List Fm) (st:St) (u:Nat) (a:cw N α) (i:Int) (o:Nat) (x:α) (D:a.at i=some x) {sz:Nat} {ag:Bool} {v:V} (hv:(cut (cells x) o sz).bind (mk ag)=some v) (z:V) {m:Option β} (G:q=⟨d,gd,now,.r (.load sz ag),az,dd,[]⟩::l)
 (B:(gi S c n fo fs st0,wanted st.g gd,bQ S.N st.g az,v,a_ st.m u,(!dr||now||eD fr [.ptr u 0]))=(some (.ops dr fr q,fs',st),some true,some [.ptr u (i.toNat*bt.size α+o)],z,some (bx a),true))
 (h:Le m (qJ S c Q dr fr d (.r (.load sz ag)) l fs' dd (cU st d (.v z)))):Le m (rn S c Q fo fs st0):=by
 simp only[ζc]at B;obtain⟨h1,w,C,rfl,I,J⟩:=B;refine pE h1 G w ?_ h;rw[DY,C];have hold:(!dr||now||eD fr [SV.ptr u (i.toNat*bt.size α+o)])=true:=J;simp only[ζb,hold,S3,I,Lf];rw[LH D hv];rfl
theorem KL {N:Nat} (a:cw N α) (i:Int) (y:α) (h:i.toNat<N):cells (a.set i y)=(cells a).take (i.toNat*bt.size α)++cells y++(cells a).drop ((i.toNat+1)*bt.size α):=by
 have key:∀(l:List α) (k:Nat),k<l.length->((l.set k y).map (cells )).flatten=(l.map (cells )).flatten.take (k*bt.size α)++cells y++(l.map (cells )).flatten.drop ((k+1)*bt.size α):=by
  intro l
  induction l with
  | nil=>grind
  | cons b l u=>
   intro k h;have w  := gA b
   cases k with
   | zero=>
    grind
   | succ k=>
    simp only[List.map_cons,List.flatten_cons];have e1:(k+1)*bt.size α=(cells b).length+k*bt.size α:=by grind
    have e2:(k+1+1)*bt.size α=(cells b).length+(k+1)*bt.size α:=by grind
    rw[e2,List.drop_length_add_append]
    grind
 exact key a.l i.toNat (by rw[a.len];omega)
theorem RU (n:Nat) (dr:Bool) (fr:List Nat) (q:List RO) (fs':List Fm) (st:St) (u:Nat) (a:cw N α) (i:Int) (o:Nat) (x:α) (z:a.at i=some x) (y:α) (v:V) {sz:Nat} (D:cells y=(cells x).take o++v.cells++(cells x).drop (o+sz)) {m:Option β} (G:q=⟨d,gd,now,.l (.store sz),az,dd,[]⟩::l)
 (B:(gi S c n fo fs st0,wanted st.g gd,bQ S.N st.g az,a_ st.m u,(!dr||now),v.cells.length,v.cells.all V.one,Nat.ble (o+sz) (bt.size α))=(some (.ops dr fr q,fs',st),some true,some [.ptr u (i.toNat*bt.size α+o),.v v],some (bx a),true,sz,true,true))
 (h:Le m (qJ S c Q dr fr d (.l (.store sz)) l fs' dd (cU { st with m:=bH st.m u (bx (a.set i y)) } d (.v .undef)))):Le m (rn S c Q fo fs st0):=by
 simp only[ζc]at B;obtain⟨h1,C,I,J,L,O,T,U⟩:=B;refine pE h1 G C ?_ h;rw[uP,I];have X:=Nat.le_of_ble_eq_true U;obtain⟨g1,g2,g3⟩:=cw.rM z;have W:i.toNat*bt.size α+o+sz<=((cells a).map SV.v).length:=by
  rw[List.length_map,gA];have:(i.toNat+1)*bt.size α<=N*bt.size α:=Nat.mul_le_mul_right _ g2;rw[Nat.add_mul,Nat.one_mul]at this;show _<=N*bt.size α;omega
 simp only[ζb,L,if_true,k8,J,putCells,O,T,W,and_self,Option.map_some];obtain⟨r,hr⟩:=zy z;have e:((cells a).map SV.v).take (i.toNat*bt.size α+o)++v.cells.map .v++((cells a).map SV.v).drop (i.toNat*bt.size α+o+sz)=(cells (a.set i y)).map SV.v:=by
  rw[KL a i y g2,D];have hd:(cells a).drop (i.toNat*bt.size α)=cells x++r:=hr;have w  := gA x;have e1:(cells a).take (i.toNat*bt.size α+o)=(cells a).take (i.toNat*bt.size α)++(cells x).take o:=by
   rw[List.take_add,hd,List.take_append_of_le_length Za]
  have e2:(cells a).drop (i.toNat*bt.size α+o+sz)=(cells x).drop (o+sz)++(cells a).drop ((i.toNat+1)*bt.size α):=by
   have e3:(cells a).drop ((i.toNat+1)*bt.size α)=r:=by
    rw[Nat.add_mul,Nat.one_mul,<-List.drop_drop,hd,<-w,List.drop_left]
   rw[e3,Nat.add_assoc,<-List.drop_drop,hd,List.drop_append_of_le_length Za]
  rw[<-List.map_take,<-List.map_drop,e1,e2]
  grind
 rw[e]
end
theorem Oo {α:Type} [bt α] {m:Tb bB} {d:Nat} {x:α} {vs:List V} (h:a_ m d=some (bx x)):mC (gT m 8) (.ptr d 0::vs.map .v)=some (.fptr (cells x)::vs):=by
 have h1:gT m 8 (.ptr d 0)=some (.fptr (cells x)):=by
  show (match a_ m d with
   | some (.box cs)=>match mC (gT m 7) cs with
    | some u=>if 0<=u.length then some (V.fptr (u.drop 0))else none
    | none=>none
   | _=>none)=_
  rw[h];simp[Et]
 simp[mC,h1,Et]
theorem Rr (n:Nat) {fo:Fo} {fs fs':List Fm} {st0 st:St} {rs:List RV} {e:γ->Option (List V)} {r:γ} (svs:List SV) {ys:List V} (u:mC (gT st.m 8) svs=some ys) (h:(gi S c n fo fs st0,jf st rs)=(some (.rt,fs',st),some svs)) (z:e r=some ys) :
 Le ((some r).bind e) (rn S c (nq rs) fo fs st0):=by
 simp  at h;rw[mU h.1];refine Le.of_eq ?_;simp[rn,nq,h.2,u]
 grind
abbrev Mo (κ ν:Type):=List (κ×ν)
class Key (κ:Type) [bt κ] [DecidableEq κ] where
 kk:vc
 ok:∀a:κ,nL kk (enc a)=true
 eq:∀a b:κ,uS (enc a) (enc b)=some (decide (a=b))
instance:Key Int where
 kk:=.int .i64
 ok _:=rfl
 eq a b:=by
  show some (a==b)=some (decide (a=b));rw[show (a==b)=decide (a=b)from Bool.eq_iff_iff.2 Zc]
instance:Key aZ where
 kk:=.ints 2
 ok _:=rfl
 eq a b:=by
  obtain⟨p,i⟩:=a;obtain⟨q,j⟩:=b;simp only[uS,jE,gC,Ql,Option.map_some,List.length_cons,if_true,ζa];rw[Bool.eq_iff_iff];simp
section
variable {κ ν:Type} [bt κ] [DecidableEq κ] [Key κ] [bt ν]
def rJ (k:κ):Mo κ ν->Option ν
 | []=>none
 | (a,v)::r=>if k=a then some v else rJ k r
def Ct (m:Mo κ ν) (k:κ) (z:ν):ν:=(rJ k m).getD z
def pO (m:Mo κ ν) (k:κ) (v:ν):Mo κ ν:=
 match m with
 | []=>[(k,v)]
 | (a,w)::r=>if k=a then(k,v)::r else(a,w)::pO r k v
def mH (m:Mo κ ν):List (V×V):=m.map λx=>(enc x.1,enc x.2)
def ue (m:Mo κ ν):bB:=.mp (mH m)
theorem GY (k:κ):∀(m:Mo κ ν) (i:Nat),(gG (enc k) (mH m) i).map (Option.map (·.2))=some ((rJ k m).map enc)
 | [],i=>rfl
 | (a,v)::r,i=>by
  simp only[mH,List.map_cons,gG,Key.eq,rJ]
  by_cases h:k=a
  .grind
  simp only[h];exact GY k r (i+1)
theorem Mh (k:κ) (v:ν) (m:Mo κ ν):n9 (enc k) (enc v) (mH m)=some (mH (pO m k v)):=by
 unfold n9;have key:∀(m:Mo κ ν) (pre:List (V×V)) (i:Nat),pre.length=i->(match gG (enc k) (mH m) i with
  | some (some (j,_))=>some ((pre++mH m).set j (enc k,enc v))
  | some none=>some (pre++mH m++[(enc k,enc v)])
  | none=>none)=some (pre++mH (pO m k v)):=by
  intro m
  induction m with
  | nil=>simp[mH,gG,pO]
  | cons x r u=>
   obtain⟨a,w⟩:=x;intro pre i h;rw[show mH ((a,w)::r)=(enc a,enc w)::mH r from rfl];simp[gG,Key.eq,pO]
   by_cases hk:k=a
   .subst hk h;simp[mH]
   simp[hk];rw[show mH ((a,w)::pO r k v)=(enc a,enc w)::mH (pO r k v)from rfl];have:=u (pre++[(enc a,enc w)]) (i+1) (by simp[h])
   grind
 have:=key m [] 0 rfl
 grind
theorem Rt (n:Nat) (dr:Bool) (fr:List Nat) (q:List RO) (fs':List Fm) (st:St) (u:Nat) (mp:Mo κ ν) (k:κ) (z:ν) {kk:vc} {B:V} {m:Option β} (G:q=⟨d,gd,now,.r (.lookup kk B false),az,dd,[]⟩::l)
 (D:(gi S c n fo fs st0,wanted st.g gd,bQ S.N st.g az,a_ st.m u,(!dr||now||eD fr [.mp u,cv k]),B,kk)=(some (.ops dr fr q,fs',st),some true,some [.mp u,cv k],some (ue mp),true,enc z,Key.kk κ))
 (h:Le m (qJ S c Q dr fr d (.r (.lookup kk B false)) l fs' dd (cU st d (cv (Ct mp k z))))):Le m (rn S c Q fo fs st0):=by
 simp only[ζc]at D;obtain⟨h1,C,I,J,L,O,T⟩:=D;subst O T;refine pE h1 G C ?_ h;rw[DY,I];simp only[ζb,L,nu,J,ue,Key.ok];have:=GY k mp 0;simp[Ct]
 cases U:gG (enc k) (mH mp) 0 with
 | none=>grind
 | some r=>
  rw[U]at this
  cases r with
  | none=>
   cases W:rJ k mp with
   | none=>rfl
   | some w=>grind
  | some w=>
   cases W:rJ k mp with
   | none=>grind
   | some X=>
    grind
theorem S6 (n:Nat) (dr:Bool) (fr:List Nat) (q:List RO) (fs':List Fm) (st:St) (u:Nat) (mp:Mo κ ν) (k:κ) (v:ν) {kk:vc} {m:Option β} (B:q=⟨d,gd,now,.l (.mapUp kk),az,dd,[]⟩::l)
 (z:(gi S c n fo fs st0,wanted st.g gd,bQ S.N st.g az,a_ st.m u,(!dr||now),kk)=(some (.ops dr fr q,fs',st),some true,some [.mp u,cv k,cv v],some (ue mp),true,Key.kk κ))
 (h:Le m (qJ S c Q dr fr d (.l (.mapUp kk)) l fs' dd (cU { st with m:=bH st.m u (ue (pO mp k v)) } d (.v .undef)))):Le m (rn S c Q fo fs st0):=by
 simp only[ζc]at z;obtain⟨h1,w,C,D,G,I⟩:=z;subst I;refine pE h1 B w ?_ h;rw[uP,C];simp[G,k8,D,ue,Key.ok,Mh]
end
end
instance {n:Nat}:OfNat Arg n:=⟨.s n⟩
abbrev bI (o:BinOp):K:=.p (.bin (some .int) none o)
abbrev ix (n:Nat):K:=.p (.idxS n)
abbrev ld (n:Nat):K:=.r (.load n false)
abbrev lD (n:Nat):K:=.r (.load n true)
abbrev fa (n:Nat):K:=.p (.fieldAddr n)
abbrev ln:K:=.p .lenSl
abbrev Iv (n:Nat) (x:Int):Nat×SV:=(n,iv x)
abbrev Bv (n:Nat) (x:Bool):Nat×SV:=(n,bv x)
abbrev Cv {α:Type} [bt α] (n:Nat) (x:α):Nat×SV:=(n,cv x)
abbrev Kv {α:Type} [bt α] (n:Nat) (x:α):Nat×SV:=(n,cp x)
abbrev Pv (n:Nat):Nat×SV:=(n,.ptr n 0)
abbrev Ov (n:Nat):Nat×SV:=(n,.own (2000+n))
abbrev Xb {α:Type} [bt α] (n:Nat) (x:α):Nat×bB:=(n,bx x)
abbrev Lb {α:Type} [bt α] (n:Nat) (x:Sl α):Nat×bB:=(n,c7 x)
abbrev on (d:Nat) (k:K) (az:List Arg) (dd:List Nat):RO:=⟨some d,none,true,k,az,dd,[]⟩
abbrev oz (k:K) (az:List Arg) (dd:List Nat):RO:=⟨none,none,false,k,az,dd,[]⟩
attribute [simp] Oj On OW
theorem iC.xq {S:Sys} {T:oQ} {f:FuncId} {b:Bool} (u:T f=none) (hk:S.E.keep f=false) (z:S.xq f []=some (.bool b)) :
 iC S (dI S T) f (λ_:Unit=>[]) (λr:Bool=>[.bool r]) (λ_=>some b) true where
 k:=hk
 h _:=by
  have h:=JX (az:=[]) u hk z;intro r hr;cases hr;unfold iQ;rw[h];exact yO 8 [.bool b]
 s _ _:=rfl
def Wp {α:Type} (m:Option α) (P:α->Prop):Prop:=∃a,m=some a/\P a
section
variable {α β:Type} {P Q:α->Prop}
theorem bp (a:α):Wp (some a) P↔P a:=⟨λh=>by obtain⟨b,e,p⟩:=h;cases e;exact p,λp=>⟨a,rfl,p⟩⟩
theorem OT:Wp (none:Option α) P↔False:=⟨λh=>(by obtain⟨b,e,p⟩:=h;cases e),λh=>False.elim h⟩
theorem jK {m:Option β} {k:β->Option α}:Wp (m.bind k) P↔Wp m λb=>Wp (k b) P:=by
 cases m with
 | none=>simp only[Option.bind_none,OT]
 | some b=>simp only[ζb,bp]
theorem dN {t:Bool} {a b:Option α}:Wp (bn t a b) P↔(t=true->Wp a P)/\(t=false->Wp b P):=by
 cases t <;> simp[bn]
theorem Wp.mono {m:Option α} (h:Wp m P) (u:∀a,P a->Q a):Wp m Q:=let ⟨a,e,p⟩:=h;⟨a,e,u a p⟩
theorem Wp.and {m:Option α} (h:Wp m P) (u:Wp m Q):Wp m λa=>P a/\Q a:=by
 obtain⟨a,e,p⟩:=h;obtain⟨b,e2,q⟩:=u;rw[e]at e2;cases e2;exact⟨a,e,p,q⟩
theorem Wp.eq {m:Option α} {a:α} (h:Wp m λx=>x=a):m=some a:=by obtain⟨b,e,rfl⟩:=h;exact e
end
section
variable {σ ε ρ:Type}
theorem e_ (step:σ->Option (Fw σ ε ρ)) (s:σ):c_ step s=(step s).bind λw=>match w with
 | .n z=>c_ step z
 | .x e=>some (.x e)
 | .r b=>some (.r b):=by
 have h1:∀r,c_ step s=some r->((step s).bind λw=>match w with
  | .n z=>c_ step z
  | .x e=>some (.x e)
  | .r b=>some (.r b))=some r:=by
  intro r h;obtain⟨k,hk⟩:=n_.1 h
  cases k with
  | zero=>simp[jW]at hk
  | succ k=>
   simp only[jW]at hk
   cases u:step s with
   | none=>rw[u]at hk;cases hk
   | some w=>
    rw[u]at hk
    cases w with
    | n z=>exact n_.2 ⟨k,hk⟩
    | x e=>exact hk
    | r b=>exact hk
 cases B:c_ step s with
 | some r=>exact(h1 r B).symm
 | none=>
  cases hr:((step s).bind λw=>match w with
  | .n z=>c_ step z
  | .x e=>some (.x e)
  | .r b=>some (.r b))with
  | none=>rfl
  | some r=>
   exfalso
   cases u:step s with
   | none=>rw[u]at hr;cases hr
   | some w=>
    rw[u]at hr;simp only[ζb]at hr;have:c_ step s=some r:=by
     cases w with
     | n z=>
      obtain⟨k,hk⟩:=n_.1 hr;exact n_.2 ⟨k+1,by simp only[jW,u];exact hk⟩
     | x e=>exact n_.2 ⟨1,by simp only[jW,u];exact hr⟩
     | r b=>exact n_.2 ⟨1,by simp only[jW,u];exact hr⟩
    rw[B]at this;cases this
def SD (I:σ->Prop) (μ:σ->Nat) (z:ε->Prop) (B:ρ->Prop) (s:σ):Fw σ ε ρ->Prop
 | .n u=>I u/\μ u<μ s
 | .x e=>z e
 | .r b=>B b
def Sv (u:ε->Prop) (z:ρ->Prop):Fw Empty ε ρ->Prop
 | .x e=>u e
 | .r b=>z b
theorem M9 {step:σ->Option (Fw σ ε ρ)} (I:σ->Prop) (μ:σ->Nat) (u:ε->Prop) (z:ρ->Prop) (h:∀s,I s->Wp (step s) (SD I μ u z s)) {s:σ} (D:I s):Wp (c_ step s) (Sv u z):=by
 have key:∀n s,μ s<=n->I s->Wp (c_ step s) (Sv u z):=by
  intro n
  induction n with
  | zero=>
   intro s G hi;obtain⟨w,B,hr⟩:=h s hi;rw[e_,B]
   cases w with
   | n C=>exact absurd hr.2 Za
   | x e=>exact⟨_,rfl,hr⟩
   | r b=>exact⟨_,rfl,hr⟩
  | succ n J=>
   intro s G hi;obtain⟨w,B,hr⟩:=h s hi;rw[e_,B]
   cases w with
   | n C=>exact J C (by have:=hr.2;omega) hr.1
   | x e=>exact⟨_,rfl,hr⟩
   | r b=>exact⟨_,rfl,hr⟩
 exact key (μ s) s (Nat.le_refl _) D
theorem kP {γ:Type} {step:σ->Option (Fw σ ε ρ)} {u:ε->Option γ} {fr:ρ->Option γ} {P:γ->Prop} (I:σ->Prop) (μ:σ->Nat) {s:σ} (B:I s)
 (h:∀s,I s->Wp (step s) (SD I μ (λe=>Wp (u e) P) (λb=>Wp (fr b) P) s)):Wp ((c_ step s).bind (Fw.elim u fr)) P:=by
 rw[jK];refine(M9 I μ _ _ h B).mono ?_;intro w z
 cases w with
 | n a=>cases a
 | x e=>exact z
 | r b=>exact z
end
theorem BW {β γ δ:Type} {e:γ->Option β} {m:Option δ} {f:δ->Option γ} {L:Option β} (h:∀x,m=some x->Le ((f x).bind e) L):Le ((m.bind f).bind e) L:=by
 cases m with
 | none=>exact Le.none _
 | some x=>exact h x rfl
section
variable {S:Sys} {c:bN} {β:Type} {Q:Out×St->Option β} {fo:Fo} {fs:List Fm} {st0:St} {l:List RO} {d:Option Nat} {now:Bool} {az:List Arg} {dd:List Nat}
theorem Le.get {β:Type} {r:β} {L:Option β} (h:Le (some r) L):L=some r:=h r rfl
theorem Kt {n:Nat} {fo fo':Fo} {fs fs':List Fm} {st:St} (A:Bool->St) {t:Bool} {m:Option β} (u:t=true) (h:gi S c n fo fs st=some (fo',fs',A t)) (z:Le m (rn S c Q fo' fs' (A true))):Le m (rn S c Q fo fs st):=by
 rw[mU h,u];exact z
theorem Kf {n:Nat} {fo fo':Fo} {fs fs':List Fm} {st:St} (A:Bool->St) {t:Bool} {m:Option β} (u:t=false) (h:gi S c n fo fs st=some (fo',fs',A t)) (z:Le m (rn S c Q fo' fs' (A false))):Le m (rn S c Q fo fs st):=by
 rw[mU h,u];exact z
theorem Na {α:Type} [bt α] {s:Sl α} {i:Int} {x:α} {r:β} {L:Option β} (u:idx s i=some x) (h:Le (((idx s i).bind λ_=>some r).bind some) L):Le (some r) L:=by
 rw[u]at h;exact h
theorem SF {n:Nat} {q:List RO} {fs':List Fm} {st:St} {id:Nat} {vs:List SV} {xs:List V} {u:List (List V)} {m:Option β}
 (z:gi S c n fo fs st0=some (.ops false [] q,fs',st)) (B:q=⟨d,none,now,.c,az,dd,[]⟩::l) (D:bQ S.N st.g az=some (.yl id::vs)) (G:dn vs=some xs) (J:st.want=xs::u) (hi:id=st.yid)
 (h:Le m (rn S c Q (.ops false [] l) fs' (nD dd (cU { st with want:=u } d (.v (.bool (st.more || !u.isEmpty))))))):Le m (rn S c Q fo fs st0):=by
 refine Np z B rfl ?_ h;unfold eT;simp only[wanted,e9,D,G,J,hi,if_true,and_self,Bool.false_eq_true,if_false]
theorem y_ (a:RC) (fs:List Fm) (st:St):rn S c Q (.rc (.loop a)) fs st=(mP (cu S c a) st).bind (B3 (k7 S c Q fs) (lB S c Q fs) (λst=>Q (.ret,st))):=by
 show jt S c Q (.loop a) fs st=_;unfold jt;rw[Bp];rfl
theorem Pr {f:St->Option (Out×St)} {st st':St} (h:f st=some (.norm,st')):mP f st=mP f st':=by
 have key:∀r,mP f st=some r↔mP f st'=some r:=λr=>by
  constructor
  .intro hr;obtain⟨k,hk⟩:=kX.1 hr
   cases k with
   | zero=>simp[h_]at hk
   | succ k=>simp only[h_,h]at hk;exact kX.2 ⟨k,hk⟩
  intro hr;obtain⟨k,hk⟩:=kX.1 hr;exact kX.2 ⟨k+1,by simp only[h_,h];exact hk⟩
 cases u:mP f st with
 | none=>
  cases w:mP f st' with
  | none=>rfl
  | some r=>rw[(key r).2 w]at u;cases u
 | some r=>rw[(key r).1 u]
theorem HB {f:St->Option (Out×St)} {st st':St} {o:Out} (h:f st=some (o,st')) (u:o≠.norm):mP f st=some (o,st'):=by
 refine kX.2 ⟨1,?_⟩
 cases o with
 | norm=>exact absurd rfl u
 | exit k=>simp only[h_,h]
 | ret=>simp only[h_,h]
theorem CV {a:RC} {fs:List Fm} {st st':St} (h:rn S c some (.rc a) [] st=some (.norm,st')):rn S c Q (.rc (.loop a)) fs st=rn S c Q (.rc (.loop a)) fs st':=by
 rw[y_,y_,Pr (by rw[zo];exact h)]
theorem Dk {a:RC} {fs:List Fm} {st st':St} {k:Nat} (h:rn S c some (.rc a) [] st=some (.exit k,st')):rn S c Q (.rc (.loop a)) fs st=rn S c Q (.ex k) fs st':=by
 rw[y_,HB (by rw[zo];exact h) Zc];rfl
theorem CA {a:RC} {fs:List Fm} {st st':St} (h:rn S c some (.rc a) [] st=some (.ret,st')):rn S c Q (.rc (.loop a)) fs st=Q (.ret,st'):=by
 rw[y_,HB (by rw[zo];exact h) Zc];rfl
end
def Qi:Out×St->Option Unit
 | (.exit _,_)=>none
 | (_,st)=>if st.want.isEmpty then some ()else none
def Sys.bare (S:Sys):Sys:=⟨S.E,S.N,λ_ _ _=>none,λ_ _=>none,λ_=>none⟩
def lZ:bN:=λ_ _ _=>none
def sL (u rest:List (List V)) (more:Bool):Prop:=more=true/\u=rest\/more=false/\u≠[]/\∃r,rest=u++r
theorem MO (S:Sys) {f:FuncId} {fi:FI} {nm:FuncId->Option Nat} {rf:RF} (B:S.E.ft f=some fi) (T:∀g s,nm g=some s->S.N s=g) (hr:uW S.E nm fi rf) {a b:List V} {xs:List (List V)} (z:a.length+1+b.length<=rf.na) (D:rf.rs=[])
 (h:∀u more,sL u xs more->∀yid,rn S.bare lZ Qi (.rc rf.body) [] ⟨sS 0 (a.map .v++.yl yid::b.map .v),[],[],u,more,yid⟩=some ()):eR S f a b xs:=by
 have k:eR S.bare f a b xs:=Hq (S:=S.bare) (c:=lZ) (fi:=fi) (nm:=nm) (rf:=rf) (λ_ _ h=>by cases h) (λ_ _ _ _ _ h=>by simp[lZ]at h) (λ_ _ _ _ h=>by simp[Sys.bare]at h) B T hr z D (λu more C yid=>by
  have h1:=h u more C yid;change jt S.bare lZ Qi rf.body [] _=some ()at h1;rw[mY]at h1;obtain⟨⟨o,st'⟩,G,w⟩:=ζg.1 h1;refine⟨o,st',G,?_,?_,rfl⟩
  .rintro id rfl;simp[Qi]at w
  cases o <;> simp[Qi]at w <;> exact w)
 intro u more C yid J y Z I L H h1 G w O Q;exact k u more C yid J ⟨y.uz,y.yield⟩ Z I L H h1 G w O Q
open Classical in
noncomputable def vL (P:FuncId->List V->List V->List (List V)->Prop) (f:FuncId) (a b:List V):Option (List (List V)):=if h:∃u,P f a b u then some (Classical.choose h)else none
theorem BS {P:FuncId->List V->List V->List (List V)->Prop} {f:FuncId} {a b:List V} {xs:List (List V)} (h:P f a b xs) (hu:∀ys,P f a b ys->ys=xs):vL P f a b=some xs:=by
 have h1:∃xs,P f a b xs:=⟨xs,h⟩;unfold vL;rw[dif_pos h1,hu _ (Classical.choose_spec h1)]
theorem Iu {P:FuncId->List V->List V->List (List V)->Prop} {f:FuncId} {a b:List V} {xs:List (List V)} (h:vL P f a b=some xs):P f a b xs:=by
 unfold vL at h;split at h
 next h1=>cases h;exact Classical.choose_spec h1
 cases h
theorem P6 {E:Env} {nm:FuncId->Option Nat} {f:FuncId} {rf:RF}
 (h:((E.ft f).bind λfi=>(bF ⟨E,nm,fi.ntmps⟩ false fi.body).bind λc=>(fi.results.mapM (zw E)).bind λrs=>some (c,rs,fi.ntmps))=some (erase rf.body,rf.rs,rf.na)):∃fi,E.ft f=some fi/\uW E nm fi rf:=by
 obtain⟨fi,h1,w⟩:=ζg.1 h;obtain⟨c,z,B⟩:=ζg.1 w;obtain⟨rs,C,u⟩:=ζg.1 B;simp only[ζa,ζc]at u;obtain⟨rfl,rfl,D⟩:=u;exact⟨fi,h1,z,C,D.symm⟩
theorem FR.nG {H:bf} {Z Z':Nat->Prop} {x y z:V} (h:FR H Z x z) (k:FR H Z' y z):x=y:=by
 obtain⟨n,u⟩:=yd x;obtain⟨m,w⟩:=yd y;have e1:=h.borrow (max n m) (xC (Nat.le_max_left _ _) u);have e2:=k.borrow (max n m) (xC (Nat.le_max_right _ _) w);rw[e1]at e2;exact Option.some.inj e2
open Classical in
noncomputable def vJ (E:Env) (f:FuncId) (az:List V):Option V:=if h:∃y,Cx E f az y then some (Classical.choose h)else none
theorem C6 {E:Env} {f:FuncId} {az:List V} {y:V} (h:vJ E f az=some y):Cx E f az y:=by
 unfold vJ at h;split at h
 next h1=>cases h;exact Classical.choose_spec h1
 cases h
theorem JW {E:Env} {f:FuncId} {az:List V} {y:V} (h:Cx E f az y):vJ E f az=some y:=by
 have h1:∃y,Cx E f az y:=⟨y,h⟩;unfold vJ;rw[dif_pos h1];obtain⟨n,z,H,Z,k1,w,_⟩:=h;obtain⟨u,D,H',Z',B,C,_⟩:=Classical.choose_spec h1;have e1:=(uh E (Nat.le_max_left n u)).go _ _ _ _ k1;have e2:=(uh E (Nat.le_max_right n u)).go _ _ _ _ B;rw[e1]at e2;cases e2;rw[FR.nG C w]
theorem Gq {E:Env} {f:FuncId} {az:List V} {y:V} (u:V.scalar y=true) (h:∃n H',run E n (.fn f) az []=some (y,H')):Cx E f az y:=by
 obtain⟨n,H',h⟩:=h;exact⟨n,y,H',λ_=>False,h,.same _ (jv u),λ_ h=>h.elim,⟨λ_ _ _ h=>h.elim⟩⟩
end Go.VE
