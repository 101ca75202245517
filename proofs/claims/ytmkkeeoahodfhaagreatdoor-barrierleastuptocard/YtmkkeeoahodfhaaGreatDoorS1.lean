/-
 Plain values and the steps of a certificate.
-/
import Derived.KernelRfl
import Derived.Test.YtmkkeeoahodfhaaGreatDoorN2
set_option linter.all false
namespace Go.VE
variable [bN]
inductive Sl (α:Type) where
 | nil
 | emp
 | row (l:List α)
 | part (l:List α)
 deriving Inhabited
def Sl.l {α:Type}:Sl α->List α
 | .nil|.emp=>[]
 | .row l|.part l=>l
def Sl.k {α:Type}:Sl α->Fl
 | .nil=>.nil
 | .emp=>.emp
 | .row _=>.row
 | .part _=>.part
class bt (α:Type) where
 cells:α->List V
 agg:Bool
 size:Nat
 len:∀a,(cells a).length=size
 good:∀a,V.cq (cells a)=true
 one:∀a,(cells a).all V.one=true
 plain:agg=false->size=1
def cells {α:Type} [bt α] (a:α):List V:=bt.cells a
def enc {α:Type} [bt α] (a:α):V:=if bt.agg α then .agg (cells a)else(cells a).headD .undef
def rows {α:Type} [bt α] (l:List α):List (List V):=l.map cells
def bT {α:Type} [bt α] (s:Sl α):V:=nu s.k (bt.size α) (rows s.l)
instance:bt Int where
 cells n:=[.int .i64 n]
 agg:=false
 size:=1
 len _:=rfl
 good _:=rfl
 one _:=rfl
 plain _:=rfl
instance:bt Bool where
 cells b:=[.bool b]
 agg:=false
 size:=1
 len _:=rfl
 good _:=rfl
 one _:=rfl
 plain _:=rfl
instance:bt ByteArray where
 cells s:=[.str s]
 agg:=false
 size:=1
 len _:=rfl
 good _:=rfl
 one _:=rfl
 plain _:=rfl
structure aY where
 proc:Int
 index:Int
 deriving DecidableEq,Inhabited
instance:bt aY where
 cells x:=[.int .i64 x.proc,.int .i64 x.index]
 agg:=true
 size:=2
 len _:=rfl
 good _:=rfl
 one _:=rfl
 plain h:=by cases h
@[simp] theorem T5 (n:Int):enc n=.int .i64 n:=rfl
@[simp] theorem TO (n:Bool):enc n=.bool n:=rfl
@[simp] theorem TZ (n:ByteArray):enc n=.str n:=rfl
@[simp] theorem TB (n:Int):cells n=[.int .i64 n]:=rfl
@[simp] theorem S3 (n:Bool):cells n=[.bool n]:=rfl
@[simp] theorem Tm (n:ByteArray):cells n=[.str n]:=rfl
@[simp] theorem TY (n:aY):cells n=[.int .i64 n.proc,.int .i64 n.index]:=rfl
@[simp] theorem RX (n:aY):enc n=.agg [.int .i64 n.proc,.int .i64 n.index]:=rfl
section
variable {α:Type} [bt α]
theorem fG (l:List α):(rows l).length=l.length:=by simp[rows]
def idx (s:Sl α) (i:Int):Option α:=if 0<=i then s.l[i.toNat]? else none
theorem L0 {N:Nat->FuncId} (s:Sl α) (k:IntKind) (i:Int) {n:Nat} (B:n=bt.size α):bh N (.idxS n) [bT s,.int k i]=(idx s i).map λx=>.fptr (cells x):=by
 subst B;unfold idx bT;simp only[bh,kg]
 by_cases h:i<0
 .rw[if_pos h,if_neg (by omega)];rfl
 .rw[if_neg h,if_pos (by omega)]
  cases s <;> simp[Sl.k,Sl.l,nu,rows,Function.comp_def]
theorem Lg {N:Nat->FuncId} (s:Sl α):bh N .lenSl [bT s]=some (.int .i64 s.l.length):=by
 cases s <;> simp[bh,l_,bT,Sl.k,Sl.l,nu,fG]
end
section
variable {S:Sys} {c:cg}
end
end Go.VE
namespace Go.VE
variable [bN]
section
variable {S:Sys} {c:cg}
def isSlice:tf->Bool
 | .slice ..=>true
 | _=>false
theorem N2 (dr:Bool) (fr:List Nat) (dst:Option Nat) (now:Bool) (p:tf) (az:List Arg) (st:St) (h:isSlice p=false) :
 fe S c dr fr ⟨dst,none,now,.p p,az,[],[]⟩ st=(bV S.N st.g az).bind λsvs=>(je S.N st.m p svs).bind λx=>some (cZ st dst x):=by
 unfold fe kT;have t:fJ S.N st.g ⟨dst,none,now,.p p,az,[],[]⟩=none:=by unfold fJ;grind
 simp[wanted,t]
 cases w:bV S.N st.g az with
 | none=>rfl
 | some svs=>
  simp;cases p <;> first|(simp[isSlice]at h;done)|(cases u:je S.N st.m _ svs <;> simp[u])
theorem G1 (N:Nat->FuncId) (m:Tb bD) (p:tf) (svs:List SV) (xs:List V) (h:dn svs=some xs):je N m p svs=(bh N p xs).bind λx=>some (.v x):=by
 unfold je;rw[h];dsimp only;cases bh N p xs <;> rfl
theorem yV (dr:Bool) (fr:List Nat) (dst:Option Nat) (now:Bool) (q:GX) (az:List Arg) (st:St) :
 fe S c dr fr ⟨dst,none,now,.r q,az,[],[]⟩ st=(bV S.N st.g az).bind λsvs=>if !dr||now||ei fr svs then(lB st.m q svs).bind λx=>some (cZ st dst x)else none:=by
 unfold fe kT;have t:fJ S.N st.g ⟨dst,none,now,.r q,az,[],[]⟩=none:=rfl;simp[wanted,t]
 cases u:bV S.N st.g az with
 | none=>rfl
 | some svs=>
  simp;split
  .cases w:lB st.m q svs <;> simp
  .rfl
theorem w5 (dr:Bool) (fr:List Nat) (d:Nat) (now:Bool) (q:JA) (az:List Arg) (st:St) :
 fe S c dr fr ⟨some d,none,now,.a q,az,[],[]⟩ st=(bV S.N st.g az).bind λsvs=>if st.new d then(mg st.m q svs d).bind λr=>some { st with g:=bJ st.g d r.2,m:=bJ st.m d r.1 } else none:=by
 unfold fe kT;have t:fJ S.N st.g ⟨some d,none,now,.a q,az,[],[]⟩=none:=rfl;simp[wanted,t]
 cases u:bV S.N st.g az with
 | none=>rfl
 | some svs=>
  simp;split
  .cases w:mg st.m q svs d <;> simp[cZ]
  .rfl
theorem tv (dr:Bool) (fr:List Nat) (dst:Option Nat) (now:Bool) (q:Hg) (az:List Arg) (st:St) :
 fe S c dr fr ⟨dst,none,now,.l q,az,[],[]⟩ st=(bV S.N st.g az).bind λsvs=>if !dr||now then(kR st dst q svs).bind λr=>some (cZ r.2 dst r.1)else none:=by
 unfold fe kT;have t:fJ S.N st.g ⟨dst,none,now,.l q,az,[],[]⟩=none:=rfl;simp[wanted,t]
 cases u:bV S.N st.g az with
 | none=>rfl
 | some svs=>
  simp;split
  .cases w:kR st dst q svs <;> simp
  .rfl
def oO:List SV->Option (FuncId×List SV)
 | .clo f a b::vs=>some (f,a++vs++b)
 | .v (.clo f a b)::vs=>some (f,a.map .v++vs++b.map .v)
 | _=>none
theorem D2 (dr:Bool) (fr:List Nat) (dst:Option Nat) (now:Bool) (az:List Arg) (st:St) (svs:List SV) (f:FuncId) (args:List SV) (B:bV S.N st.g az=some svs) (hc:oO svs=some (f,args)) :
 fe S c dr fr ⟨dst,none,now,.c,az,[],[]⟩ st=(gz S c dst dr (!dr||now) (f_ st.m fr) f args st).bind λr=>some (cZ r.2 dst r.1):=by
 unfold fe kT;unfold oO at hc;split at hc
 .obtain⟨rfl,rfl⟩:=hc;simp[wanted,fJ,B];cases gz S c dst dr _ _ _ _ st <;> simp
 .obtain⟨rfl,rfl⟩:=hc;simp[wanted,fJ,B];cases gz S c dst dr _ _ _ _ st <;> simp
 grind
noncomputable def Nk {β:Type} (S:Sys) (c:cg) (fr:List Nat) (l:List RO) (k:St->Option β):St->Option β:=λst=>(lM S c false fr l st).bind k
noncomputable def Ma {β:Type} (S:Sys) (c:cg) (fr:List Nat) (l:List RO) (k:St->Option β):St->Option β:=λst=>(lM S c true fr l st).bind k
noncomputable def R4 {β:Type} (S:Sys) (c:cg) (fr dd:List Nat) (l:List RO) (k:St->Option β):St->Option β:=λst=>Nk S c fr l k (n9 dd st)
noncomputable def Rl {β:Type} (S:Sys) (c:cg) (fr dd:List Nat) (l:List RO) (k:St->Option β):St->Option β:=λst=>Ma S c fr l k (n9 dd st)
@[congr] theorem SM {β:Type} {fr:List Nat} {l:List RO} {k:St->Option β} {st st':St} (h:st=st'):Nk S c fr l k st=Nk S c fr l k st':=by rw[h]
@[congr] theorem SH {β:Type} {fr B:List Nat} {l:List RO} {k:St->Option β} {st st':St} (D:fr=B) (h:st=st'):Ma S c fr l k st=Ma S c B l k st':=by simp_all
@[congr] theorem Ss {β:Type} {fr dd:List Nat} {l:List RO} {k:St->Option β} {st st':St} (h:st=st'):R4 S c fr dd l k st=R4 S c fr dd l k st':=by rw[h]
@[congr] theorem SO {β:Type} {fr B dd:List Nat} {l:List RO} {k:St->Option β} {st st':St} (D:fr=B) (h:st=st'):Rl S c fr dd l k st=Rl S c B dd l k st':=by simp_all
@[congr] theorem TC {dr:Bool} {fr:List Nat} {o:RO} {st st':St} (h:st=st'):fe S c dr fr o st=fe S c dr fr o st':=by rw[h]
end
section
variable {S:Sys} {c:cg} (dr:Bool) (fr:List Nat) (dst:Option Nat) (now:Bool) (az:List Arg) (st:St)
end
end Go.VE
namespace Go.VE
variable [bN]
inductive Fm where
 | seq (b:RC)
 | blk (id:Nat)
 | gst (x:Gh)
section
variable (S:Sys) (c:cg) {β:Type} (Q:Out×St->Option β)
noncomputable def runK:List Fm->Out×St->Option β
 | [],r=>Q r
 | .seq b::fs,(.norm,st)=>(cu S c b st).bind (runK fs)
 | .seq _::fs,r=>runK fs r
 | .blk id::fs,(.exit k,st)=>if k=id then runK fs (.norm,st)else runK fs (.exit k,st)
 | .blk _::fs,r=>runK fs r
 | .gst x::fs,(.norm,st)=>(ghost x st).bind λst=>runK fs (.norm,st)
 | .gst _::fs,r=>runK fs r
noncomputable def go (rc:RC) (fs:List Fm) (st:St):Option β:=(cu S c rc st).bind (runK S c Q fs)
noncomputable def OF (fs:List Fm):St->Option β:=λst=>runK S c Q fs (.norm,st)
def bq {α:Type} (t:Bool) (a b:α):α:=if t then a else b
end
@[congr] theorem Ts {α:Type} {t B:Bool} {a b a' D:α} (h:t=B) (G:B=true->a=a') (J:B=false->b=D):bq t a b=bq B a' D:=by
 subst h;cases t
 .exact J rfl
 .exact G rfl
section
variable {S:Sys} {c:cg} {β:Type} {Q:Out×St->Option β}
@[congr] theorem go_congr {a:RC} {fs:List Fm} {st st':St} (h:st=st'):go S c Q a fs st=go S c Q a fs st':=by rw[h]
@[congr] theorem Sb {fs:List Fm} {st st':St} (h:st=st'):OF S c Q fs st=OF S c Q fs st':=by rw[h]
@[congr] theorem SG {fs:List Fm} {r B:Out×St} (h:r=B):runK S c Q fs r=runK S c Q fs B:=by rw[h]
theorem EE (rc:RC) (st:St):(cu S c rc st).bind Q=go S c Q rc [] st:=by
 simp only[go];cases cu S c rc st <;> rfl
inductive Fw (ν ε ρ:Type) where
 | n (a:ν)
 | x (e:ε)
 | r (b:ρ)
def iM {σ ε ρ:Type} (step:σ->Option (Fw σ ε ρ)):Nat->σ->Option (Fw Empty ε ρ)
 | 0,_=>none
 | k+1,s=>match step s with
  | some (.n B)=>iM step k B
  | some (.x e)=>some (.x e)
  | some (.r b)=>some (.r b)
  | none=>none
theorem vh {σ ε ρ:Type} {step:σ->Option (Fw σ ε ρ)}:∀{k B:Nat} {s:σ} {r:Fw Empty ε ρ},k<=B->iM step k s=some r->iM step B s=some r
 | 0,_,_,_,_,h=>by simp[iM]at h
 | k+1,0,_,_,hk,_=>by omega
 | k+1,B+1,s,r,hk,h=>by
  simp only[iM]at h ⊢;split at h
  .exact vh (Nat.le_of_succ_le_succ hk) h
  .exact h
  .exact h
  .simp at h
open Classical in
noncomputable def bO {σ ε ρ:Type} (step:σ->Option (Fw σ ε ρ)) (s:σ):Option (Fw Empty ε ρ):=
 if h:∃k r,iM step k s=some r then some (Classical.choose (Classical.choose_spec h))else none
theorem mL {σ ε ρ:Type} {step:σ->Option (Fw σ ε ρ)} {s:σ} {r:Fw Empty ε ρ}:bO step s=some r↔∃k,iM step k s=some r:=by
 unfold bO;constructor
 .intro h;split at h
  .rename_i t;simp only[ζa]at h;exact⟨_,by rw[<-h];exact Classical.choose_spec (Classical.choose_spec t)⟩
  .simp at h
 .rintro⟨k,hk⟩;have t:∃k r,iM step k s=some r:=⟨k,r,hk⟩;rw[dif_pos t];have w:=Classical.choose_spec (Classical.choose_spec t);have z:=vh (Nat.le_max_left (Classical.choose t) k) w;have u:=vh (Nat.le_max_right (Classical.choose t) k) hk;rw[z]at u;exact u
def Fw.out {ν ε ρ:Type} (D:ν->St) (B:ε->Nat×St) (G:ρ->St):Fw ν ε ρ->Out×St
 | .n a=>(.norm,D a)
 | .x e=>(.exit (B e).1,(B e).2)
 | .r b=>(.ret,G b)
def Fw.elim {ε ρ γ:Type} (B:ε->γ) (fr:ρ->γ):Fw Empty ε ρ->γ
 | .x e=>B e
 | .r b=>fr b
end
end Go.VE
namespace Go.VE
variable [bN]
section
variable {α:Type} [bt α]
theorem Dr (s:Sl α):V.one (bT s)=true:=by cases s <;> rfl
theorem JE (l:List α):V.ny (rows l)=true:=by
 induction l with
 | nil=>rfl
 | cons a l t=>simp only[rows,List.map_cons,V.ny,ζh];exact⟨bt.good a,t⟩
theorem I6 (s:Sl α):V.good (bT s)=true:=by
 cases s <;> simp only[bT,Sl.k,nu,V.good] <;> exact JE _
instance:bt (Sl α) where
 cells s:=[bT s]
 agg:=false
 size:=1
 len _:=rfl
 good s:=by simp only[V.cq,I6,Bool.and_self]
 one s:=by simp[Dr]
 plain _:=rfl
end
section
variable {S:Sys} {c:cg}
def K5 (x:Option SV) (b:Bool) (y z:Option St):Option St:=
 match x with
 | some (.v (.bool t))=>bq (t==b) y z
 | some (.v _)=>z
 | _=>none
@[congr] theorem R3 {x B:Option SV} {b:Bool} {y z:Option St} (h:x=B):K5 x b y z=K5 B b y z:=by rw[h]
def Ot {β:Type} (x:Option SV) (y z:Option β):Option β:=
 match x with
 | some (.v (.bool t))=>bq t y z
 | _=>none
@[congr] theorem Sc {β:Type} {x B:Option SV} {y z:Option β} (h:x=B):Ot x y z=Ot B y z:=by rw[h]
def lW (c:cg) (f:FuncId) (az:List V):Option (List V):=(c f (az.map .v) []).bind λr=>cS r.2 8 r.1
def Ke (now:Bool) (args:List SV) (ok:Bool) (st:St) (ys:List V):Option (SV×St):=
 if(result ys).scalar||ok then some (.v (result ys),st)else if now then(rowsOf args).map λds=>(.v (result ys),{ st with m:=nW ds st.m })else none
theorem Pb (dst:Option Nat) (dr now:Bool) (old:List SV->Bool) (f:FuncId) (args:List SV) (st:St) (hk:S.E.keep f=false) :
 gz S c dst dr now old f args st=(cS st.m 8 args).bind λaz=>if now||old args then(lW c f az).bind (Ke now args (dn args).isSome st)else none:=by
 unfold gz lW;simp only[hk,Bool.false_eq_true,if_false]
 cases cS st.m 8 args with
 | none=>rfl
 | some az=>
  simp only[ζb];split
  .cases c f (az.map .v) []with
   | none=>rfl
   | some r=>
    obtain⟨rs,m'⟩:=r;simp only[ζb];cases cS m' 8 rs <;> rfl
  .rfl
end
section
variable {S:Sys} {T:pF}
def FA (rs:List RV):Out×St->Option (List V)
 | (.exit _,_)=>none
 | (_,st)=>(kV st rs).bind (cS st.m 8)
theorem LB {f:FuncId} {rf:RF} (B:T f=some rf) (az:List V) (D:az.length<=rf.na):lW (c8 S T) f az=go S (c8 S T) (FA rf.rs) rf.body [] (start (az.map .v) []):=by
 unfold lW;rw[ue B];unfold mY;rw[if_pos (by simpa using D),<-EE]
 cases h:cu S (c8 S T) rf.body (start (az.map .v) [])with
 | none=>rfl
 | some r=>
  obtain⟨o,st⟩:=r;cases o <;> simp only[ζb,FA] <;> (try rfl) <;> (cases kV st rf.rs <;> rfl)
end
end Go.VE
namespace Go.VE
variable [bN]
variable {N:Nat->FuncId}
theorem FB (o:Nat) (cs:List V):bh N (.fieldAddr o) [.fptr cs]=if o<=cs.length then some (.fptr (cs.drop o))else none:=rfl
def jF (s:ByteArray) (n:Int):Option Int:=if 0<=n then(s[n.toNat]?).map λb=>(b.toNat:Int)else none
theorem Ka (s:ByteArray) (k:IntKind) (n:Int):bh N .idxStr [.str s,.int k n]=(jF s n).bind λx=>some (.int .u8 x):=by
 simp only[bh,jF];split
 .cases s[n.toNat]? <;> rfl
 .rfl
section
variable {α:Type} [bt α]
theorem BU (s:Sl α) (k:IntKind) (i:Int) (n:Nat) (B:n=bt.size α):bh N (.idxS n) [bT s,.int k i]=(idx s i).bind λx=>some (.fptr (cells x)):=by
 rw[L0 s k i B];cases idx s i <;> rfl
theorem wT (s:Sl α):bh N .lenSl [bT s]=some (.int .i64 s.l.length):=Lg s
def Sl.isNil {α:Type} (s:Sl α):Option Bool:=
 match s with
 | .nil=>some true
 | .emp=>none
 | _=>some false
theorem MQ (q:Option Nat) (s:Sl α):bh N (.bin (some .slice) q .eql) [bT s,.bB]=s.isNil.bind λt=>some (.bool t):=by
 cases s <;> rfl
def fR (s:Sl α) (B D:Option Int):Option (Sl α):=
 (dD s.l.length B D).map λ(l,h)=>match s with
  | .nil=>.nil
  | .emp=>.emp
  | .row x=>.part ((x.take h).drop l)
  | .part x=>.part ((x.take h).drop l)
theorem HN (s:Sl α) (B D:Option Int) (n:Nat) (G:n=bt.size α):gp n (bT s) B D=(fR s B D).bind λx=>some (bT x):=by
 subst G
 cases s with
 | nil=>simp only[bT,Sl.k,nu,gp,fR,Sl.l,List.length_nil];cases dD 0 B D <;> rfl
 | emp=>simp only[bT,Sl.k,nu,gp,fR,Sl.l,List.length_nil];cases dD 0 B D <;> rfl
 | row l=>simp only[bT,Sl.k,nu,gp,fR,Sl.l,if_true,fG];cases dD l.length B D <;> simp[rows,List.map_take,List.map_drop]
 | part l=>simp only[bT,Sl.k,nu,gp,fR,Sl.l,if_true,fG];cases dD l.length B D <;> simp[rows,List.map_take,List.map_drop]
end
theorem KS (m:Tb bD) (n:Nat) (a:Bool) (cs:List V):lB m (.load n a) [.v (.fptr cs)]=(cut cs 0 n).bind λr=>(mk a r).bind λx=>some (.v x):=by
 simp only[lB,dL]
 cases cut cs 0 n with
 | none=>rfl
 | some r=>simp only[ζb];cases mk a r <;> rfl
end Go.VE
namespace Go.VE
variable [bN]
section
variable {α:Type} [bt α]
def cQ (s:Sl α):bD:=.sl s.k (bt.size α) (rows s.l)
def Sl.jf (s:Sl α) (i:Int):Option Nat:=if 0<=i/\i.toNat<s.l.length then some i.toNat else none
def Sl.get (s:Sl α) (i:Nat):Option α:=s.l[i]?
def Sl.put (s:Sl α) (i:Nat) (x:α):Option (Sl α):=
 if i<s.l.length then some (match s with|.row l=>.row (l.set i x)|.part l=>.part (l.set i x)|s=>s)else none
def fT (s:Sl α) (x:α):Option (Sl α):=if s.l.length+1<=2147483648 then some (.row (s.l++[x]))else none
def ov (n:Int) (z:α):Option (Sl α):=if 0<=n/\n<=2147483648 then some (.row (List.replicate n.toNat z))else none
end
section
variable {α:Type} [bt α] {N:Nat->FuncId} {m:Tb bD}
def Ia (n d:Nat) (o:Option bD) (i:Int):Option SV:=
 match o with
 | some (.sl k es t)=>if cw k/\es=n/\0<=i/\i.toNat<t.length then some (.el d i.toNat 0)else none
 | _=>none
theorem O4 (n d:Nat) (k:IntKind) (i:Int):je N m (.idxS n) [.own d,.v (.int k i)]=Ia n d (bg m d) i:=by
 simp[je,dn,u5,Ia]
 grind
theorem Qm (n d:Nat) (s:Sl α) (i:Int) (h:n=bt.size α):Ia n d (some (cQ s)) i=(s.jf i).bind λj=>some (.el d j 0):=by
 simp[Ia,cQ,fG,Sl.jf]
 cases s with
 | nil=>simp[Sl.l,cw]
 | emp=>simp[Sl.l,cw]
 | row l=>simp[Sl.k,Sl.l,cw];grind
 | part l=>simp[Sl.k,Sl.l,cw];grind
def H6 (o:Option bD):Option SV:=
 match o with
 | some (.sl _ _ t)=>some (.v (.int .i64 t.length))
 | _=>none
theorem Nv (d:Nat):je N m .lenSl [.own d]=H6 (bg m d):=by
 simp[je,dn,u5,H6]
 grind
theorem PK (s:Sl α):H6 (some (cQ s))=some (.v (.int .i64 s.l.length)):=by simp[H6,cQ,fG]
def N6 (n:Nat) (a:Bool) (o:Nat) (ob:Option bD):Option SV:=
 match ob with
 | some (.box t)=>sj n a ((t.drop o).take n)
 | _=>none
theorem TL (n:Nat) (a:Bool) (d o:Nat):lB m (.load n a) [.ptr d o]=N6 n a o (bg m d):=by
 rfl
theorem JO (n:Nat) (a:Bool) (o:Nat) (cs:List SV):N6 n a o (some (.box cs))=sj n a ((cs.drop o).take n):=rfl
def Fv (n:Nat) (a:Bool) (i o:Nat) (ob:Option bD):Option SV:=
 match ob with
 | some (.sl _ _ t)=>match t[i]? with
  | some u=>((cut u o n).bind (mk a)).map .v
  | none=>none
 | _=>none
theorem SU (n:Nat) (a:Bool) (d i o:Nat):lB m (.load n a) [.el d i o]=Fv n a i o (bg m d):=by
 rfl
theorem Lo (n:Nat) (a:Bool) (i o:Nat) (s:Sl α):Fv n a i o (some (cQ s))=(s.get i).bind λx=>(cut (cells x) o n).bind λr=>(mk a r).bind λy=>some (.v y):=by
 simp only[Fv,cQ,Sl.get,rows,List.getElem?_map]
 cases s.l[i]? with
 | none=>rfl
 | some x=>
  simp only[Option.map_some,ζb]
  cases cut (cells x) o n with
  | none=>rfl
  | some r=>simp ;cases mk a r <;> rfl
theorem Ta (z:α) (n:Int) (d:Nat) (size:Nat) (zero:List V) (h:zero=cells z) (B:size=bt.size α) :
 mg m (.makeSl size zero) [.v (.int .i64 n),.v (.int .i64 n)] d=(ov n z).bind λs=>some (cQ s,.own d):=by
 subst h B;simp[mg,ov];split
 .simp[cQ,Sl.k,Sl.l,rows]
 .rfl
def Cr (st:St) (d i o size:Nat) (x:V) (ob:Option bD):Option (SV×St):=
 match ob with
 | some (.sl k es u)=>match u[i]? with
  | some t=>if x.cells.length=size/\o+size<=t.length/\x.cells.all V.one=true then
   some (.v .undef,{ st with m:=bJ st.m d (.sl k es (u.set i (t.take o++x.cells++t.drop (o+x.cells.length)))) })else none
  | none=>none
 | _=>none
theorem HG (st:St) (dst:Option Nat) (size d i o:Nat) (x:V):kR st dst (.store size) [.el d i o,.v x]=Cr st d i o size x (bg st.m d):=by
 rfl
theorem IK (g:Tb SV) (p:List Nat) (w:List (List V)) (B:Bool) (y:Nat) (d i size:Nat) (x:V) (a:α) (D:x.cells=cells a) (G:size=bt.size α) (s:Sl α) :
 Cr ⟨g,m,p,w,B,y⟩ d i 0 size x (some (cQ s))=(s.put i a).bind λJ=>some (.v .undef,⟨g,bJ m d (cQ J),p,w,B,y⟩):=by
 have h1:(cells a).all V.one=true:=bt.one a;have u:∀b:α,(cells b).length=bt.size α:=bt.len;subst G;simp only[Cr,cQ,rows,List.getElem?_map,D,Sl.put]
 by_cases t:i<s.l.length
 .have hg  := ζd t;rw[if_pos t,hg];simp[u,h1]
  cases s with
  | nil=>simp[Sl.l]at t
  | emp=>simp[Sl.l]at t
  | row l=>simp[Sl.k,Sl.l,List.drop_of_length_le,u]
  | part l=>simp[Sl.k,Sl.l,List.drop_of_length_le,u]
 grind
def wW (st:St) (t n:Nat) (s:SV) (xs ys:Option (List (List V))):Option (SV×St):=
 match xs,ys with
 | some _,some []=>match s with
  | .own d=>match bg st.m d with
   | some ob=>if St.new { st with m:=dH d st.m } t then some (.own t,{ st with m:=bJ (dH d st.m) t ob })else none
   | none=>none
  | .v .bB=>if st.new t then some (.own t,{ st with m:=bJ st.m t (.sl .nil n []) })else none
  | .v .dg=>if st.new t then some (.own t,{ st with m:=bJ st.m t (.sl .emp n []) })else none
  | _=>none
 | some xs,some ys=>
  if xs.length+ys.length<=2147483648/\ES s=true then
   if St.new { st with m:=giveUp st.m s } t then some (.own t,{ st with m:=bJ (giveUp st.m s) t (.sl .row n (xs++ys)) })else none
  else none
 | _,_=>none
theorem yC (st:St) (t n:Nat) (s x:SV):kR st (some t) (.append n) [s,x]=wW st t n s (jq st.m n s) (jq st.m n x):=by
 cases s <;> cases x <;> (rfl)
def IW (n:Nat) (o:Option bD):Option (List (List V)):=
 match o with
 | some (.sl k es t)=>if cw k then(if es=n then some t else none)else some []
 | _=>none
theorem B2 (n d:Nat):jq m n (.own d)=IW n (bg m d):=by
 simp[jq,IW]
 grind
theorem yU (n:Nat) (s:Sl α) (h:n=bt.size α):IW n (some (cQ s))=some (rows s.l):=by
 subst h;cases s <;> simp[IW,cQ,Sl.k,Sl.l,cw,rows]
theorem PB (n:Nat):jq m n (.v .bB)=some []:=rfl
theorem Pc (n:Nat):jq m n (.v .dg)=some []:=rfl
theorem JV (g:Tb SV) (p:List Nat) (w:List (List V)) (B:Bool) (y:Nat) (t n d:Nat) (l:List α) (x:α) (h:n=bt.size α):wW ⟨g,m,p,w,B,y⟩ t n (.own d) (some (rows l)) (some (rows [x])) =
 (fT (.row l) x).bind λs=>if St.new ⟨g,dH d m,p,w,B,y⟩ t then some (.own t,⟨g,bJ (dH d m) t (cQ s),p,w,B,y⟩)else none:=by
 subst h;have e:(rows l).length+(rows [x]).length=l.length+1:=by simp[fG]
 by_cases h:l.length+1<=2147483648
 .have h1:fT (.row l) x=some (.row (l++[x])):=if_pos h;have u:wW ⟨g,m,p,w,B,y⟩ t (bt.size α) (.own d) (some (rows l)) (some (rows [x]))=if St.new ⟨g,dH d m,p,w,B,y⟩ t then some (.own t,⟨g,bJ (dH d m) t (.sl .row (bt.size α) (rows l++rows [x])),p,w,B,y⟩)else none:=if_pos ⟨by omega,rfl⟩
  rw[h1,u];simp[cQ,Sl.k,Sl.l,rows]
 .have h1:fT (.row l) x=none:=if_neg h;have u:wW ⟨g,m,p,w,B,y⟩ t (bt.size α) (.own d) (some (rows l)) (some (rows [x]))=none:=if_neg (λq=>h (by omega))
  grind
theorem Kw (g:Tb SV) (p:List Nat) (w:List (List V)) (B:Bool) (y:Nat) (t n:Nat) (x:α) (h:n=bt.size α):wW ⟨g,m,p,w,B,y⟩ t n (.v .bB) (some []) (some (rows [x])) =
 if St.new ⟨g,m,p,w,B,y⟩ t then some (.own t,⟨g,bJ m t (cQ (.row [x])),p,w,B,y⟩)else none:=by
 subst h;rfl
theorem Kz (g:Tb SV) (p:List Nat) (w:List (List V)) (B:Bool) (y:Nat) (t n:Nat) (x:α) (h:n=bt.size α):wW ⟨g,m,p,w,B,y⟩ t n (.v .dg) (some []) (some (rows [x])) =
 if St.new ⟨g,m,p,w,B,y⟩ t then some (.own t,⟨g,bJ m t (cQ (.row [x])),p,w,B,y⟩)else none:=by
 subst h;rfl
end
theorem vD (g:Tb SV) (m:Tb bD) (p:List Nat) (w:List (List V)) (B:Bool) (y d:Nat):St.new ⟨g,m,p,w,B,y⟩ d=(!(p.contains d)&&(bg m d).isNone && !(tw d g) && !(qL d m)):=rfl
theorem qy (d:Nat):tw d []=false:=rfl
theorem oZ (d n:Nat) (x:SV) (r:Tb SV):tw d ((n,x)::r)=(SV.cU d x||tw d r):=rfl
theorem qz (d:Nat):qL d []=false:=rfl
theorem oS (d n:Nat) (x:bD) (r:Tb bD):qL d ((n,x)::r)=(bD.cU d x||qL d r):=rfl
theorem vU (d:Nat) (x:V):SV.cU d (.v x)=false:=rfl
theorem rP (d e:Nat):SV.cU d (.own e)=(e==d):=rfl
theorem rS (d e o:Nat):SV.cU d (.ptr e o)=(e==d):=rfl
theorem tP (d e i o:Nat):SV.cU d (.el e i o)=(e==d):=rfl
theorem tL (d e:Nat):SV.cU d (.mp e)=(e==d):=rfl
theorem rN (d:Nat) (f:FuncId) (a b:List SV):SV.cU d (.clo f a b)=(SV.dy d a||SV.dy d b):=rfl
theorem rR (d:Nat) (l:List SV):SV.cU d (.tup l)=SV.dy d l:=rfl
theorem qo (d:Nat):SV.dy d []=false:=rfl
theorem o5 (d:Nat) (x:SV) (r:List SV):SV.dy d (x::r)=(SV.cU d x||SV.dy d r):=rfl
theorem qw (d:Nat) (cs:List SV):bD.cU d (.box cs)=SV.dy d cs:=rfl
theorem DB (m:Tb bD) (n:Nat):cS m n []=some []:=by cases n <;> simp[cS]
theorem BP (m:Tb bD) (n:Nat) (x:SV) (r:List SV):cS m n (x::r)=(shut m n x).bind λy=>(cS m n r).bind λs=>some (y::s):=by
 cases n <;> (simp[cS];cases shut m _ x <;> (try rfl) <;> (cases cS m _ r <;> rfl))
theorem R5 (m:Tb bD) (n:Nat) (x:V):shut m n (.v x)=some x:=by cases n <;> simp[shut]
theorem Nb (m:Tb bD) (n:Nat) (f:FuncId) (a b:List SV):shut m (n+1) (.clo f a b)=(cS m n a).bind λx=>(cS m n b).bind λy=>some (.clo f x y):=by
 simp[shut];cases cS m n a <;> (try rfl) <;> (cases cS m n b <;> rfl)
theorem LZ (m:Tb bD) (n:Nat) (l:List SV):shut m (n+1) (.tup l)=(cS m n l).bind λx=>some (.tup x):=by
 simp[shut];cases cS m n l <;> rfl
theorem MG (m:Tb bD) (n:Nat) (l:List SV):shut m (n+1) (.agg l)=(cS m n l).bind λx=>some (.agg x):=by
 simp[shut];cases cS m n l <;> rfl
theorem rH {α:Type} (n:Nat):dH n ([]:Tb α)=[]:=rfl
theorem qt {α:Type} (n k:Nat) (x:α) (r:Tb α):dH n ((k,x)::r)=if k=n then dH n r else(k,x)::dH n r:=rfl
theorem mapM_nil (f:List SV->List SV):mapM f []=[]:=rfl
end Go.VE
namespace Go.VE
variable [bN]
section
variable {N:Nat->FuncId} {m:Tb bD}
theorem PL:result []=.tup []:=rfl
theorem Pq (x:V):result [x]=x:=rfl
theorem Py (x y:V) (l:List V):result (x::y::l)=.tup (x::y::l):=rfl
theorem FX (p:tf) (a:V):je N m p [.v a]=(bh N p [a]).bind λx=>some (.v x):=G1 N m p _ [a] rfl
theorem wY (p:tf) (a b:V):je N m p [.v a,.v b]=(bh N p [a,b]).bind λx=>some (.v x):=G1 N m p _ [a,b] rfl
theorem rQ (l:List V):dn (l.map .v)=some l:=by
 induction l with
 | nil=>rfl
 | cons a l t=>simp only[List.map_cons,dn,t];rfl
theorem uL (n:Nat) (l:List V):cS m n (l.map .v)=some l:=by
 induction l with
 | nil=>exact DB m n
 | cons a l t=>rw[List.map_cons,BP,R5,t];rfl
theorem Sl.NN {α:Type} (l:List α):(Sl.row l).l=l:=rfl
theorem Rj (k:IntKind) (n:Int):V.cells (.int k n)=[.int k n]:=rfl
theorem O9 (n:Bool):V.cells (.bool n)=[.bool n]:=rfl
theorem Rz (n:ByteArray):V.cells (.str n)=[.str n]:=rfl
theorem QS:V.cells .bB=[.bB]:=rfl
theorem mF (k:IntKind) (n:Int):V.one (.int k n)=true:=rfl
theorem kH (n:Bool):V.one (.bool n)=true:=rfl
theorem mD (n:ByteArray):V.one (.str n)=true:=rfl
end
end Go.VE
namespace Go.VE
variable [bN]
section
variable {S:Sys} {c:cg} {β γ δ:Type} {Q:Out×St->Option β} {L:Option β} {e:γ->Option β}
theorem KY {dr:Bool} {fr:List Nat} {d:Option Nat} {gd:Option (Nat×Bool)} {now:Bool} {k:K} {az:List Arg} {st:St} (h:wanted st.g gd=some true) :
 fe S c dr fr ⟨d,gd,now,k,az,[],[]⟩ st=fe S c dr fr ⟨d,none,now,k,az,[],[]⟩ st:=by
 unfold fe;rw[h];rfl
theorem AH (dr:Bool) (st:St):Ay dr [] st=some st:=by cases dr <;> rfl
def mS (f:SV->Option V):List SV->Option (List V)
 | []=>some []
 | x::r=>(f x).bind λy=>(mS f r).bind λs=>some (y::s)
def iC (m:Tb bD):Nat->SV->Option V
 | 0,x=>match x with
  | .v y=>some y
  | .own d=>match bg m d with
   | some (.sl k es xs)=>some (nu k es xs)
   | _=>none
  | .mp d=>match bg m d with
   | some (.mp B)=>some (.fmap B)
   | _=>none
  | _=>none
 | n+1,x=>match x with
  | .v y=>some y
  | .own d=>match bg m d with
   | some (.sl k es xs)=>some (nu k es xs)
   | _=>none
  | .ptr d o=>match bg m d with
   | some (.box cs)=>match mS (iC m n) cs with
    | some xs=>if o<=xs.length then some (.fptr (xs.drop o))else none
    | none=>none
   | _=>none
  | .mp d=>match bg m d with
   | some (.mp B)=>some (.fmap B)
   | _=>none
  | .clo f a b=>(mS (iC m n) a).bind λx=>(mS (iC m n) b).bind λy=>some (.clo f x y)
  | .tup l=>(mS (iC m n) l).bind λx=>some (.tup x)
  | .agg l=>(mS (iC m n) l).bind λx=>some (.agg x)
  | _=>none
theorem yO (m:Tb bD):∀(n:Nat),(∀x,shut m n x=iC m n x)/\∀l,cS m n l=mS (iC m n) l:=by
 have u:∀n,(∀x,shut m n x=iC m n x)->∀l,cS m n l=mS (iC m n) l:=by
  intro n h l
  induction l with
  | nil=>exact DB m n
  | cons a l t=>rw[BP,h a,t];rfl
 intro n
 induction n with
 | zero=>
  have h0:∀x,shut m 0 x=iC m 0 x:=by
   intro x;cases x <;> simp[shut,iC] <;> rfl
  grind
 | succ n t=>
  have h1:∀x,shut m (n+1) x=iC m (n+1) x:=by
   intro x
   cases x with
   | ptr d o=>simp[shut,iC,t.2];rfl
   | clo f a b=>rw[Nb,t.2,t.2];rfl
   | tup l=>rw[LZ,t.2];rfl
   | agg l=>rw[MG,t.2];rfl
   | _=>simp[shut,iC] <;> rfl
  grind
noncomputable def sZ (S:Sys) (c:cg) (dr:Bool):List Nat->List RO->(St->Option β)->St->Option β
 | _,[],k,st=>k st
 | fr,o::r,k,st=>((Ay dr o.pre st).bind (fe S c dr fr o.strip)).bind λst'=>sZ S c dr (if dr then pK fr o.strip else fr) r k (n9 o.dead st')
theorem B0 (dr:Bool):∀(l:List RO) (fr:List Nat) (k:St->Option β) (st:St),sZ S c dr fr l k st=(lM S c dr fr l st).bind k
 | [],_,_,_=>rfl
 | o::r,fr,k,st=>by
  simp[sZ,lM]
  cases (Ay dr o.pre st).bind (fe S c dr fr o.strip)with
  | none=>rfl
  | some st'=>exact B0 dr r _ k _
noncomputable def nT (S:Sys) (c:cg):RC->(St->Option β)->(Nat->St->Option β)->(St->Option β)->St->Option β
 | .skip,n,_,_,st=>n st
 | .ops l,n,_,_,st=>sZ S c false [] l n st
 | .nR l,n,_,_,st=>sZ S c true [] l n st
 | .seq a b,n,x,r,st=>nT S c a (λst=>nT S c b n x r st) x r st
 | .cond y a b,n,x,r,st=>match pe S.N st.g y with
  | some (.v (.bool t))=>bq t (nT S c a n x r st) (nT S c b n x r st)
  | _=>none
 | .block id a,n,x,r,st=>nT S c a n (λk st=>if k=id then n st else x k st) r st
 | .loop a,n,x,r,st=>(mP (cu S c a) st).bind λq=>match q with|(.norm,st)=>n st|(.exit k,st)=>x k st|(.ret,st)=>r st
 | .each g ps a b,n,x,r,st=>(cu S c (.each g ps a b) st).bind λq=>match q with|(.norm,st)=>n st|(.exit k,st)=>x k st|(.ret,st)=>r st
 | .exit k,_,x,_,st=>x k st
 | .ret,_,_,r,st=>r st
 | .gh g a,n,x,r,st=>(ghost g st).bind λst=>nT S c a n x r st
 | .hg a g,n,x,r,st=>nT S c a (λst=>(ghost g st).bind n) x r st
def Ci (n:St->Option β) (x:Nat->St->Option β) (r:St->Option β):Out×St->Option β
 | (.norm,st)=>n st
 | (.exit k,st)=>x k st
 | (.ret,st)=>r st
theorem AO:∀(rc:RC) (n:St->Option β) (x:Nat->St->Option β) (r:St->Option β) (st:St),nT S c rc n x r st=(cu S c rc st).bind (Ci n x r):=by
 intro rc
 induction rc with
 | skip=>intros;rfl
 | ops l=>intro n x r st;simp[nT,cu,B0];cases lM S c false [] l st <;> rfl
 | nR l=>intro n x r st;simp[nT,cu,B0];cases lM S c true [] l st <;> rfl
 | seq a b u w=>
  intro n x r st;simp[nT,cu,u,w]
  cases h:cu S c a st with
  | none=>rfl
  | some q=>obtain⟨o,st'⟩:=q;cases o <;> rfl
 | cond y a b u w=>
  intro n x r st;simp[nT,cu,u,w]
  cases pe S.N st.g y with
  | none=>rfl
  | some v=>cases v with
   | v z=>cases z with
    | bool t=>cases t <;> rfl
    | _=>rfl
   | _=>rfl
 | block id a A=>
  intro n x r st;simp[nT,cu,A]
  cases h:cu S c a st with
  | none=>rfl
  | some q=>
   obtain⟨o,st'⟩:=q
   cases o with
   | exit k=>simp[Ci];split <;> rfl
   | _=>rfl
 | loop a A=>
  intro n x r st;rfl
 | each g ps a b u w=>
  intro n x r st;rfl
 | exit k=>intros;rfl
 | ret=>intros;rfl
 | gh g a A=>
  simp[nT,cu,A]
  grind
 | hg a g A=>
  intro n x r st;simp[nT,cu,A]
  cases h:cu S c a st with
  | none=>rfl
  | some q=>
   obtain⟨o,st'⟩:=q
   cases o with
   | norm=>simp[Ci];cases ghost g st' <;> rfl
   | _=>rfl
section
variable (S c Q)
mutual
noncomputable def lp:List Fm->St->Option β
 | []=>λst=>Q (.norm,st)
 | .seq b::fs=>λst=>nT S c b (lp fs) (lC fs) (λst=>Q (.ret,st)) st
 | .blk _::fs=>lp fs
 | .gst g::fs=>λst=>(ghost g st).bind (lp fs)
noncomputable def lC:List Fm->Nat->St->Option β
 | []=>λk st=>Q (.exit k,st)
 | .seq _::fs=>lC fs
 | .blk id::fs=>λk st=>if k=id then lp fs st else lC fs k st
 | .gst _::fs=>lC fs
end
noncomputable def jZ (rc:RC) (fs:List Fm) (st:St):Option β:=nT S c rc (lp S c Q fs) (lC S c Q fs) (λst=>Q (.ret,st)) st
end
section
variable {dr:Bool} {fr:List Nat} {d:Nat} {dst:Option Nat} {now:Bool} {az:List Arg} {st:St} {α:Type} [bt α]
theorem Oc {p:tf} {svs:List SV} {m:Option δ} {v:δ->SV} (B:bV S.N st.g az=some svs) (D:isSlice p=false) (h:je S.N st.m p svs=m.bind λx=>some (v x)) :
 fe S c dr fr ⟨dst,none,now,.p p,az,[],[]⟩ st=m.bind λx=>some (cZ st dst (v x)):=by
 rw[N2 _ _ _ _ _ _ _ D,B]
 grind
theorem B3 {p:tf} {svs:List SV} {v:SV} (B:bV S.N st.g az=some svs) (D:isSlice p=false) (h:je S.N st.m p svs=some v) :
 fe S c dr fr ⟨dst,none,now,.p p,az,[],[]⟩ st=some (cZ st dst v):=by
 rw[N2 _ _ _ _ _ _ _ D,B]
 grind
theorem NX {n:Nat} {s:Sl α} {k:IntKind} {i:Int} (B:bV S.N st.g az=some [.v (bT s),.v (.int k i)]) (D:n=bt.size α) :
 fe S c dr fr ⟨dst,none,now,.p (.idxS n),az,[],[]⟩ st=(idx s i).bind λx=>some (cZ st dst (.v (.fptr (cells x)))):=
 Oc B rfl (by rw[wY,BU s k i n D];grind)
theorem SX {n e:Nat} {s:Sl α} {k:IntKind} {i:Int} (B:bV S.N st.g az=some [.own e,.v (.int k i)]) (D:bg st.m e=some (cQ s)) (G:n=bt.size α) :
 fe S c dr fr ⟨dst,none,now,.p (.idxS n),az,[],[]⟩ st=(s.jf i).bind λj=>some (cZ st dst (.el e j 0)):=
 Oc B rfl (by rw[O4,D,Qm n e s i G])
theorem Oa {s:Sl α} (B:bV S.N st.g az=some [.v (bT s)]):fe S c dr fr ⟨dst,none,now,.p .lenSl,az,[],[]⟩ st=some (cZ st dst (.v (.int .i64 s.l.length))):=
 B3 B rfl (by rw[FX,wT];rfl)
theorem RI {e:Nat} {s:Sl α} (B:bV S.N st.g az=some [.own e]) (D:bg st.m e=some (cQ s)):fe S c dr fr ⟨dst,none,now,.p .lenSl,az,[],[]⟩ st=some (cZ st dst (.v (.int .i64 s.l.length))):=
 B3 B rfl (by rw[Nv,D,PK])
theorem Po {u:Option Nat} {s:Sl α} (B:bV S.N st.g az=some [.v (bT s),.v .bB]):fe S c dr fr ⟨dst,none,now,.p (.bin (some .slice) u .eql),az,[],[]⟩ st=s.isNil.bind λt=>some (cZ st dst (.v (.bool t))):=
 Oc B rfl (by rw[wY,MQ];grind)
theorem LG {s:ByteArray} {k:IntKind} {n:Int} (B:bV S.N st.g az=some [.v (.str s),.v (.int k n)]):fe S c dr fr ⟨dst,none,now,.p .idxStr,az,[],[]⟩ st=(jF s n).bind λx=>some (cZ st dst (.v (.int .u8 x))):=
 Oc B rfl (by rw[wY,Ka];grind)
theorem Q0 {n e i o:Nat} {a:Bool} {s:Sl α} {v:α->V} (B:bV S.N st.g az=some [.el e i o]) (D:(!dr||now||ei fr [.el e i o])=true) (G:bg st.m e=some (cQ s)) (hv:∀x:α,(cut (cells x) o n).bind (mk a)=some (v x)) :
 fe S c dr fr ⟨dst,none,now,.r (.load n a),az,[],[]⟩ st=(s.get i).bind λx=>some (cZ st dst (.v (v x))):=by
 rw[yV,B];simp only[ζb,D,SU,G,Lo]
 cases s.get i with
 | none=>rfl
 | some x=>
  cases hc:cut (cells x) o n with
  | none=>grind
  | some r=>grind
theorem Qg {n e i:Nat} {s:Sl α} {x:V} {a:α} (B:bV S.N st.g az=some [.el e i 0,.v x]) (D:(!dr||now)=true) (G:bg st.m e=some (cQ s)) (J:x.cells=cells a) (O:n=bt.size α) :
 fe S c dr fr ⟨dst,none,now,.l (.store n),az,[],[]⟩ st=(s.put i a).bind λU=>some (cZ { st with m:=bJ st.m e (cQ U) } dst (.v .undef)):=by
 rw[tv,B];simp[D,HG,G];rw[IK st.g st.pin st.want st.more st.yid e i n x a J O s]
 grind
theorem RD {n:Nat} {z:α} {zero:List V} {i:Int} (B:bV S.N st.g az=some [.v (.int .i64 i),.v (.int .i64 i)]) (D:zero=cells z) (G:n=bt.size α) (J:st.new d=true) :
 fe S c dr fr ⟨some d,none,now,.a (.makeSl n zero),az,[],[]⟩ st=(ov i z).bind λs=>some { st with g:=bJ st.g d (.own d),m:=bJ st.m d (cQ s) }:=by
 rw[w5,B];simp[J];rw[Ta z i d n zero D G]
 grind
theorem Te {n e u:Nat} {s:Sl α} {x:α} (G:bV S.N st.g az=some [.own e,.own u]) (J:(!dr||now)=true) (O:bg st.m e=some (cQ s)) (hu:bg st.m u=some (cQ (.row [x]))) (B:n=bt.size α) (U:St.new { st with m:=dH e st.m } d=true) :
 fe S c dr fr ⟨some d,none,now,.l (.append n),az,[],[]⟩ st=(fT s x).bind λD=>some { st with g:=bJ st.g d (.own d),m:=bJ (dH e st.m) d (cQ D) }:=by
 rw[tv,G];simp[J,yC,B2,O,hu];rw[yU n s B,yU n (.row [x]) B];have:=JV (m:=st.m) st.g st.pin st.want st.more st.yid d n e s.l x B;simp[Sl.NN];rw[this];have t:fT (.row s.l) x=fT s x:=by cases s <;> rfl
 rw[t]
 cases fT s x with
 | none=>rfl
 | some D=>
  simp;rw[if_pos U];rfl
theorem Q7 {n u:Nat} {x:α} {v:V} (hv:v=.bB\/v=.dg) (G:bV S.N st.g az=some [.v v,.own u]) (J:(!dr||now)=true) (hu:bg st.m u=some (cQ (.row [x]))) (B:n=bt.size α) (D:st.new d=true) :
 fe S c dr fr ⟨some d,none,now,.l (.append n),az,[],[]⟩ st=some { st with g:=bJ st.g d (.own d),m:=bJ st.m d (cQ (.row [x])) }:=by
 rw[tv,G];simp[J,yC,B2,hu];rw[yU n (.row [x]) B];simp[Sl.NN];rcases hv with rfl|rfl
 .rw[PB,Kw (m:=st.m) st.g st.pin st.want st.more st.yid d n x B];rw[if_pos D];rfl
 .rw[Pc,Kz (m:=st.m) st.g st.pin st.want st.more st.yid d n x B];rw[if_pos D];rfl
theorem QY {f:FuncId} {svs args:List SV} {cs:List V} {m:Option δ} {E:δ->List V} (hc:lW c f cs=m.bind λr=>some (E r)) (hk:S.E.keep f=false) (D:bV S.N st.g az=some svs) (G:oO svs=some (f,args))
 (B:mS (iC st.m 8) args=some cs) (J:((!dr||now)||f_ st.m fr args)=true) (hr:∀r,((result (E r)).scalar||(dn args).isSome)=true) :
 fe S c dr fr ⟨dst,none,now,.c,az,[],[]⟩ st=m.bind λr=>some (cZ st dst (.v (result (E r)))):=by
 rw[D2 dr fr dst now az st svs f args D G,Pb _ _ _ _ _ _ _ hk,(yO st.m 8).2,B];simp[J,hc]
 cases m with
 | none=>rfl
 | some r=>
  simp[Ke]
  grind
end
end
end Go.VE
namespace Go.VE
variable [bN]
section
variable {S:Sys} {c:cg} {β γ:Type} {Q:Out×St->Option β} {L:Option β} {e:γ->Option β}
theorem qn (rc:RC) (st:St):jZ S c Q rc [] st=(cu S c rc st).bind Q:=by
 unfold jZ;rw[AO]
 congr 1
 funext q;obtain⟨o,st⟩:=q
 cases o <;> rfl
theorem zd (rc:RC) (st:St):cu S c rc st=jZ S c some rc [] st:=by
 rw[qn];cases cu S c rc st <;> rfl
def pg (rs:List RV):Out×St->Option (List V)
 | (.exit _,_)=>none
 | (_,st)=>(kV st rs).bind (mS (iC st.m 8))
theorem P8 (rs:List RV):FA rs=pg rs:=by
 funext q;obtain⟨o,st⟩:=q
 cases o
 .simp only[FA,pg];congr 1;funext l;exact(yO st.m 8).2 l
 .rfl
 .simp only[FA,pg];congr 1;funext l;exact(yO st.m 8).2 l
theorem OY {S:Sys} {T:pF} {f:FuncId} {rf:RF} (B:T f=some rf) (az:List V) (D:az.length<=rf.na):lW (c8 S T) f az=jZ S (c8 S T) (pg rf.rs) rf.body [] (start (az.map .v) []):=by
 rw[LB B az D,<-EE,qn,P8]
end
end Go.VE
namespace Go.VE
variable [bN]
def m_ {α σ ε ρ:Type} (step:α->σ->Option (Fw σ ε ρ)):List α->σ->Option (Fw σ ε ρ)
 | [],s=>some (.n s)
 | x::xs,s=>(step x s).bind λw=>match w with
  | .n B=>m_ step xs B
  | .x e=>some (.x e)
  | .r b=>some (.r b)
def Fw.uW {ν ε ρ γ:Type} (fn:ν->γ) (B:ε->γ) (fr:ρ->γ):Fw ν ε ρ->γ
 | .n a=>fn a
 | .x e=>B e
 | .r b=>fr b
def Fw.tV {ν ε ρ:Type} (D:ν->Tb bD) (B:ε->Nat×Tb bD) (G:ρ->Tb bD):Fw ν ε ρ->Out×Tb bD
 | .n a=>(.norm,D a)
 | .x e=>(.exit (B e).1,(B e).2)
 | .r b=>(.ret,G b)
def tV (q:Out×St):Option (Out×Tb bD):=some (q.1,q.2.m)
section
variable {S:Sys} {c:cg} {β γ:Type} {Q:Out×St->Option β} {L:Option β} {e:γ->Option β}
noncomputable def w6 (S:Sys) (c:cg) (b:RC):Out×St->Option (Out×Tb bD)
 | (.norm,st)=>jZ S c tV b [] st
 | _=>none
theorem Io (ps:List Nat) (a b:RC) (st:St) (x:List V) (m:Tb bD) (B:x.length=ps.length) :
 hG ps (cu S c a) (cu S c b) st x m=jZ S c (w6 S c b) a [] ⟨uT st.g ps (x.map .v),m,st.pin++oA st.g,[],true,0⟩:=by
 unfold hG;rw[if_pos B,qn]
 cases cu S c a ⟨uT st.g ps (x.map .v),m,st.pin++oA st.g,[],true,0⟩with
 | none=>rfl
 | some q=>
  obtain⟨o,t⟩:=q
  cases o with
  | norm=>
   simp only[ζb,w6];rw[qn];cases cu S c b t <;> rfl
  | _=>rfl
end
end Go.VE
namespace Go.VE
variable [bN]
def Le {α:Type} (a b:Option α):Prop:=∀r,a=some r->b=some r
section
variable {α:Type}
theorem Le.refl (a:Option α):Le a a:=λ_ h=>h
theorem Le.of_eq {a b:Option α} (h:b=a):Le a b:=λ_ t=>h.trans t
theorem Le.trans {a b d:Option α} (h1:Le a b) (B:Le b d):Le a d:=λr h=>B r (h1 r h)
theorem Le.none (b:Option α):Le (none:Option α) b:=λr h=>by cases h
theorem Le.bind {β:Type} {a b:Option α} {f g:α->Option β} (h:Le a b) (B:∀x,Le (f x) (g x)):Le (a.bind f) (b.bind g):=λr hr=>by
 obtain⟨x,h1,t⟩:=ζg.1 hr;rw[h x h1];exact B x r t
end
section
variable {S:Sys} {c:cg} {β γ δ:Type} {Q:Out×St->Option β} {L:Option β} {e:γ->Option β}
theorem Fq {dr:Bool} {fr:List Nat} {dst:Option Nat} {now:Bool} {az:List Arg} {st:St} {f:FuncId} {svs args:List SV} {cs:List V} {m:Option δ} {E:δ->List V} (hc:Le (m.bind λr=>some (E r)) (lW c f cs)) (hk:S.E.keep f=false) (D:bV S.N st.g az=some svs) (G:oO svs=some (f,args))
 (B:mS (iC st.m 8) args=some cs) (J:((!dr||now)||f_ st.m fr args)=true) (hr:∀r,((result (E r)).scalar||(dn args).isSome)=true) :
 Le (m.bind λr=>some (cZ st dst (.v (result (E r))))) (fe S c dr fr ⟨dst,none,now,.c,az,[],[]⟩ st):=by
 intro q u;obtain⟨r,h1,w⟩:=ζg.1 u;have t:lW c f cs=(some r).bind λr=>some (E r):=hc _ (by rw[h1];rfl)
 rw[QY (m:=some r) t hk D G B J hr];exact w
theorem Na {σ ε ρ:Type} {f:St->Option (Out×St)} {step:σ->Option (Fw σ ε ρ)} {B:σ->St} {D:ε->Nat×St} {G:ρ->St} (h:∀s,Le ((step s).bind λw=>some (Fw.out B D G w)) (f (B s))) (s:σ) :
 Le ((bO step s).bind λw=>some (Fw.out (λe=>Empty.elim e) D G w)) (mP f (B s)):=by
 have key:∀k s r,iM step k s=some r->iB f k (B s)=some (Fw.out (λe=>Empty.elim e) D G r):=by
  intro k
  induction k with
  | zero=>intro s r h;simp[iM]at h
  | succ k A=>
   intro s r t;simp only[iM]at t
   cases u:step s with
   | none=>rw[u]at t;cases t
   | some w=>
    rw[u]at t;have z:=h s (Fw.out B D G w) (by rw[u];rfl)
    simp only[iB,z]
    cases w with
    | n a=>exact A a r t
    | x e=>cases t;rfl
    | r b=>cases t;rfl
 intro r hr;obtain⟨w,h1,z⟩:=ζg.1 hr;obtain⟨k,hk⟩:=mL.1 h1;cases z;exact kZ.2 ⟨k,key k s w hk⟩
theorem SD {σ ε ρ:Type} {a:RC} {fs:List Fm} {step:σ->Option (Fw σ ε ρ)} {B:σ->St} {D:ε->Nat×St} {G:ρ->St} {s:σ} {J:ε->Option γ} {fr:ρ->Option γ}
 (O:L=jZ S c Q (.loop a) fs (B s)) (h:∀s,Le ((step s).bind λw=>some (Fw.out B D G w)) (jZ S c some a [] (B s)))
 (U:∀x,Le ((J x).bind e) (lC S c Q fs (D x).1 (D x).2)) (hr:∀b,Le ((fr b).bind e) (Q (.ret,G b))):Le (((bO step s).bind (Fw.elim J fr)).bind e) L:=by
 subst O;have h1:jZ S c Q (.loop a) fs (B s)=(mP (cu S c a) (B s)).bind (Ci (lp S c Q fs) (lC S c Q fs) (λst=>Q (.ret,st))):=by
  unfold jZ;rw[AO];rfl
 rw[h1];have t:=Na (step:=step) (f:=cu S c a) (B:=B) (D:=D) (G:=G) (λs=>by rw[zd];exact h s) s
 cases u:bO step s with
 | none=>exact Le.none _
 | some w=>
  have z:=t _ (by rw[u];rfl)
  rw[z]
  cases w with
  | n a=>cases a
  | x a=>exact U a
  | r a=>exact hr a
theorem D8 {α σ ε ρ:Type} {f:List V->Tb bD->Option (Out×Tb bD)} {step:α->σ->Option (Fw σ ε ρ)} {eI:α->List V} {B:σ->Tb bD} {D:ε->Nat×Tb bD} {G:ρ->Tb bD}
 (h:∀x s,Le ((step x s).bind λw=>some (Fw.tV B D G w)) (f (eI x) (B s))):∀(xs:List α) (s:σ),Le ((m_ step xs s).bind λw=>some (Fw.tV B D G w)) (oT f (xs.map eI) (B s))
 | [],s=>λr hr=>hr
 | x::xs,s=>by
  simp only[List.map_cons,oT,m_]
  cases J:step x s with
  | none=>exact Le.none _
  | some w=>
   have O:=h x s (Fw.tV B D G w) (by rw[J];rfl)
   rw[O]
   cases w with
   | n t=>simp only[ζb,Fw.tV];exact D8 h xs t
   | x e=>exact Le.refl _
   | r b=>exact Le.refl _
theorem Tk {α σ ε ρ:Type} {g:Arg} {ps:List Nat} {a b:RC} {fs:List Fm} {f:FuncId} {x y:List V} {items:List α} {eI:α->List V} {step:α->σ->Option (Fw σ ε ρ)} {B:σ->Tb bD} {D:ε->Nat×Tb bD} {G:ρ->Tb bD} {gt:Tb SV} {s:σ}
 {fn:σ->Option γ} {J:ε->Option γ} {fr:ρ->Option γ}
 (O:L=jZ S c Q (.each g ps a b) fs ⟨gt,B s,[],[],true,0⟩) (hg:pe S.N gt g=some (.v (.clo f x y))) (U:S.items f x y=some (items.map eI)) (W:∀x,(eI x).length=ps.length)
 (h:∀x s,Le ((step x s).bind λw=>some (Fw.tV B D G w)) (jZ S c (w6 S c b) a [] ⟨uT gt ps ((eI x).map .v),B s,oA gt,[],true,0⟩))
 (Y:∀s,Le ((fn s).bind e) (lp S c Q fs ⟨gt,B s,[],[],true,0⟩))
 (hx:∀x,Le ((J x).bind e) (lC S c Q fs (D x).1 ⟨gt,(D x).2,[],[],true,0⟩)) (hr:∀b,Le ((fr b).bind e) (Q (.ret,⟨gt,G b,[],[],true,0⟩))) :
 Le (((m_ step items s).bind (Fw.uW fn J fr)).bind e) L:=by
 subst O;have h1:jZ S c Q (.each g ps a b) fs ⟨gt,B s,[],[],true,0⟩=(cu S c (.each g ps a b) ⟨gt,B s,[],[],true,0⟩).bind (Ci (lp S c Q fs) (lC S c Q fs) (λst=>Q (.ret,st))):=by
  unfold jZ;rw[AO]
 rw[h1];simp only[cu,hg,U];have t:=D8 (step:=step) (f:=hG ps (cu S c a) (cu S c b) ⟨gt,B s,[],[],true,0⟩) (eI:=eI) (B:=B) (D:=D) (G:=G) (λx s=>by rw[Io _ _ _ _ _ _ (W x)];exact h x s) items s
 cases u:m_ step items s with
 | none=>exact Le.none _
 | some w=>
  have z:=t _ (by rw[u];rfl)
  rw[z]
  cases w with
  | n a=>exact Y a
  | x a=>exact hx a
  | r a=>exact hr a
end
end Go.VE
namespace Go.VE
variable [bN]
inductive Fo where
 | rc (c:RC)
 | ops (dr:Bool) (fr:List Nat) (l:List RO)
 | nx
 | ex (k:Nat)
 | rt
abbrev bF (g:Tb SV) (m:Tb bD):St:=⟨g,m,[],[],true,0⟩
section
variable (S:Sys) (c:cg) {β:Type} (Q:Out×St->Option β)
noncomputable def rn:Fo->List Fm->St->Option β
 | .rc a,fs,st=>jZ S c Q a fs st
 | .ops dr fr l,fs,st=>sZ S c dr fr l (lp S c Q fs) st
 | .nx,fs,st=>lp S c Q fs st
 | .ex k,fs,st=>lC S c Q fs k st
 | .rt,_,st=>Q (.ret,st)
noncomputable def wu:Fo->List Fm->St->Option (Fo×List Fm×St)
 | .rc .skip,fs,st=>some (.nx,fs,st)
 | .rc (.ops l),fs,st=>some (.ops false [] l,fs,st)
 | .rc (.nR l),fs,st=>some (.ops true [] l,fs,st)
 | .rc (.seq a b),fs,st=>some (.rc a,.seq b::fs,st)
 | .rc (.cond y a b),fs,st=>match pe S.N st.g y with
  | some (.v (.bool true))=>some (.rc a,fs,st)
  | some (.v (.bool false))=>some (.rc b,fs,st)
  | _=>none
 | .rc (.block id a),fs,st=>some (.rc a,.blk id::fs,st)
 | .rc (.exit k),fs,st=>some (.ex k,fs,st)
 | .rc .ret,fs,st=>some (.rt,fs,st)
 | .rc (.gh g a),fs,st=>match ghost g st with
  | some st'=>some (.rc a,fs,st')
  | none=>none
 | .rc (.hg a g),fs,st=>some (.rc a,.gst g::fs,st)
 | .rc (.loop _),_,_=>none
 | .rc (.each ..),_,_=>none
 | .ops _ _ [],fs,st=>some (.nx,fs,st)
 | .ops dr fr (⟨d,gd,now,k,az,dd,[]⟩::r),fs,st=>match fe S c dr fr ⟨d,gd,now,k,az,[],[]⟩ st with
  | some st'=>some (.ops dr (if dr then pK fr ⟨d,gd,now,k,az,[],[]⟩else fr) r,fs,n9 dd st')
  | none=>none
 | .ops dr fr (⟨d,gd,now,k,az,dd,x::xs⟩::r),fs,st=>if dr && !(xy x&&xs.all xy)then none else match ghost x st with
  | some st'=>some (.ops dr fr (⟨d,gd,now,k,az,dd,xs⟩::r),fs,st')
  | none=>none
 | .nx,.seq b::fs,st=>some (.rc b,fs,st)
 | .nx,.blk _::fs,st=>some (.nx,fs,st)
 | .nx,.gst g::fs,st=>match ghost g st with
  | some st'=>some (.nx,fs,st')
  | none=>none
 | .nx,[],_=>none
 | .ex k,.seq _::fs,st=>some (.ex k,fs,st)
 | .ex k,.blk id::fs,st=>some (if k=id then .nx else .ex k,fs,st)
 | .ex k,.gst _::fs,st=>some (.ex k,fs,st)
 | .ex _,[],_=>none
 | .rt,_,_=>none
noncomputable def gD:Nat->Fo->List Fm->St->Option (Fo×List Fm×St)
 | 0,fo,fs,st=>some (fo,fs,st)
 | n+1,fo,fs,st=>match wu S c fo fs st with
  | some (fo',fs',st')=>gD n fo' fs' st'
  | none=>none
end
section
variable {S:Sys} {c:cg} {β γ δ:Type} {Q:Out×St->Option β} {e:γ->Option β}
theorem Lw {fo fo':Fo} {fs fs':List Fm} {st st':St} (h:wu S c fo fs st=some (fo',fs',st')):rn S c Q fo fs st=rn S c Q fo' fs' st':=by
 cases fo with
 | rc a=>
  cases a with
  | cond y a b=>
   simp only[wu]at h;split at h
   .rename_i t;cases h;simp only[rn,jZ,nT,t,bq,if_true]
   .rename_i t;cases h;simp only[rn,jZ,nT,t,bq];rfl
   .cases h
  | gh g a=>
   simp only[wu]at h;split at h
   .rename_i t;cases h;simp only[rn,jZ,nT,t,ζb]
   .cases h
  | loop a=>cases h
  | each g ps a b=>cases h
  | seq a b=>cases h;simp only[rn,jZ,nT,lp,lC]
  | block id a=>cases h;simp only[rn,jZ,nT,lp,lC]
  | hg a g=>cases h;simp only[rn,jZ,nT,lp,lC]
  | _=>cases h;simp only[rn,jZ,nT]
 | ops dr fr l=>
  cases l with
  | nil=>cases h;simp only[rn,sZ]
  | cons o r=>
   obtain⟨d,gd,now,k,az,dd,pre⟩:=o
   cases pre with
   | nil=>
    simp only[wu]at h;split at h
    .rename_i t;cases h;simp only[rn,sZ,AH,RO.strip,ζb,t]
    .cases h
   | cons x w=>
    simp only[wu]at h;split at h
    .cases h
    rename_i u;split at h
    .rename_i t;cases h
     cases dr with
     | true=>
      simp only[Bool.true_and,Bool.not_eq_true',Bool.not_eq_false,ζh]at u;simp only[rn,sZ,RO.strip,Ay,ng,if_true,List.all_cons,u.1,u.2,Bool.and_self,t,ζb]
     | false=>simp only[rn,sZ,RO.strip,Ay,ng,Bool.false_eq_true,if_false,t,ζb]
    .cases h
 | nx=>
  cases fs with
  | nil=>cases h
  | cons f fs=>
   cases f with
   | seq b=>cases h;simp only[rn,jZ,lp]
   | blk id=>cases h;simp only[rn,lp]
   | gst g=>
    simp only[wu]at h;split at h
    .rename_i t;cases h;simp only[rn,lp,t,ζb]
    .cases h
 | ex k=>
  cases fs with
  | nil=>cases h
  | cons f fs=>
   cases f with
   | seq b=>cases h;simp only[rn,lC]
   | blk id=>
    cases h;simp only[rn,lC]
    by_cases hk:k=id
    .simp only[if_pos hk,rn]
    .simp only[if_neg hk,rn]
   | gst g=>cases h;simp only[rn,lC]
 | rt=>cases h
theorem nh:∀{n:Nat} {fo fo':Fo} {fs fs':List Fm} {st st':St},gD S c n fo fs st=some (fo',fs',st')->rn S c Q fo fs st=rn S c Q fo' fs' st'
 | 0,fo,fo',fs,fs',st,st',h=>by cases h;rfl
 | n+1,fo,fo',fs,fs',st,st',h=>by
  simp only[gD]at h;split at h
  .rename_i a b d B;rw[Lw B];exact nh h
  .cases h
theorem B_ {n:Nat} {fo fo':Fo} {fs fs':List Fm} {st st':St} {m:Option β} (h:gD S c n fo fs st=some (fo',fs',st')) (B:Le m (rn S c Q fo' fs' st')):Le m (rn S c Q fo fs st):=by
 rw[nh h];exact B
theorem TX {n:Nat} {fo fo':Fo} {fs fs':List Fm} {st st':St} {r:γ} (h:gD S c n fo fs st=some (fo',fs',st')) (B:rn S c Q fo' fs' st'=e r):Le ((some r).bind e) (rn S c Q fo fs st):=by
 rw[nh h];exact Le.of_eq B
theorem Oh {m:Option δ} {f:δ->Option γ} {L:Option β} (k:δ->Option β) (B:Le (m.bind k) L) (h1:∀r,Le ((f r).bind e) (k r)):Le ((m.bind f).bind e) L:=by
 intro r hr
 cases m with
 | none=>cases hr
 | some x=>exact B r (h1 x r hr)
theorem TQ {n:Nat} {fo:Fo} {fs fs':List Fm} {st0:St} {dr:Bool} {q l:List RO} {fr:List Nat} {st:St} {d:Option Nat} {gd:Option (Nat×Bool)} {now:Bool} {k:K} {az:List Arg} {dd:List Nat} {m:Option δ} {g:δ->St} {f:δ->Option γ}
 (B:gD S c n fo fs st0=some (.ops dr fr q,fs',st)) (D:q=⟨d,gd,now,k,az,dd,[]⟩::l) (hg:wanted st.g gd=some true)
 (G:Le (m.bind λx=>some (g x)) (fe S c dr fr ⟨d,none,now,k,az,[],[]⟩ st))
 (h:∀x,m=some x->Le ((f x).bind e) (rn S c Q (.ops dr (if dr then pK fr ⟨d,gd,now,k,az,[],[]⟩else fr) l) fs' (n9 dd (g x)))):Le ((m.bind f).bind e) (rn S c Q fo fs st0):=by
 rw[nh B];subst D;simp only[rn,sZ,RO.strip,AH,ζb];rw[KY hg]
 cases m with
 | none=>exact Le.none _
 | some x=>rw[G (g x) rfl];exact h x rfl
theorem N1 {n:Nat} {fo:Fo} {fs fs':List Fm} {st0:St} {dr:Bool} {q l:List RO} {fr:List Nat} {st st':St} {d:Option Nat} {gd:Option (Nat×Bool)} {now:Bool} {k:K} {az:List Arg} {dd:List Nat} {m:Option β}
 (B:gD S c n fo fs st0=some (.ops dr fr q,fs',st)) (D:q=⟨d,gd,now,k,az,dd,[]⟩::l) (hg:wanted st.g gd=some true)
 (G:fe S c dr fr ⟨d,none,now,k,az,[],[]⟩ st=some st')
 (h:Le m (rn S c Q (.ops dr (if dr then pK fr ⟨d,gd,now,k,az,[],[]⟩else fr) l) fs' (n9 dd st'))):Le m (rn S c Q fo fs st0):=by
 rw[nh B];subst D;simp only[rn,sZ,RO.strip,AH,ζb];rw[KY hg,G];exact h
theorem EK {n:Nat} {fo:Fo} {B:List Fm} {st:St} {σ ε ρ:Type} {a:RC} {fs:List Fm} {step:σ->Option (Fw σ ε ρ)} {D:σ->St} {G:ε->Nat×St} {J:ρ->St} {s:σ} {O:ε->Option γ} {fr:ρ->Option γ}
 (U:gD S c n fo B st=some (.rc (.loop a),fs,D s)) (h:∀s,Le ((step s).bind λw=>some (Fw.out D G J w)) (rn S c some (.rc a) [] (D s)))
 (W:∀x,Le ((O x).bind e) (rn S c Q (.ex (G x).1) fs (G x).2)) (hr:∀b,Le ((fr b).bind e) (Q (.ret,J b))):Le (((bO step s).bind (Fw.elim O fr)).bind e) (rn S c Q fo B st):=by
 rw[nh U];exact SD (L:=rn S c Q (.rc (.loop a)) fs (D s)) rfl h W hr
theorem R9 {n:Nat} {fo:Fo} {B:List Fm} {st:St} {α σ ε ρ:Type} {g:Arg} {ps:List Nat} {a b:RC} {fs:List Fm} {f:FuncId} {x y:List V} {items:List α} {eI:α->List V} {step:α->σ->Option (Fw σ ε ρ)} {D:σ->Tb bD} {G:ε->Nat×Tb bD} {J:ρ->Tb bD} {gt:Tb SV} {s:σ}
 {fn:σ->Option γ} {O:ε->Option γ} {fr:ρ->Option γ}
 (U:gD S c n fo B st=some (.rc (.each g ps a b),fs,bF gt (D s))) (hg:pe S.N gt g=some (.v (.clo f x y))) (W:S.items f x y=some (items.map eI)) (Y:∀x,(eI x).length=ps.length)
 (h:∀x s,Le ((step x s).bind λw=>some (Fw.tV D G J w)) (rn S c (w6 S c b) (.rc a) [] ⟨uT gt ps ((eI x).map .v),D s,oA gt,[],true,0⟩))
 (hn:∀s,Le ((fn s).bind e) (rn S c Q .nx fs (bF gt (D s))))
 (hx:∀x,Le ((O x).bind e) (rn S c Q (.ex (G x).1) fs (bF gt (G x).2))) (hr:∀b,Le ((fr b).bind e) (Q (.ret,bF gt (J b)))) :
 Le (((m_ step items s).bind (Fw.uW fn O fr)).bind e) (rn S c Q fo B st):=by
 rw[nh U];exact Tk (L:=rn S c Q (.rc (.each g ps a b)) fs (bF gt (D s))) rfl hg W Y h hn hx hr
theorem Rt {b:RC} {st st':St} {m:Option (Out×Tb bD)} {fs:List Fm} {n:Nat} {fo:Fo} (h:gD S c n fo fs st=some (.nx,[],st')) (B:Le m (rn S c tV (.rc b) [] st')):Le m (rn S c (w6 S c b) fo fs st):=by
 rw[nh h];exact B
theorem Sv {α:Type} {n:Nat} {fo fo':Fo} {fs fs':List Fm} {st:St} {A:Option α->St} {o:Option α} {f:α->Option γ} (h:gD S c n fo fs st=some (fo',fs',A o))
 (B:∀x,o=some x->Le ((f x).bind e) (rn S c Q fo' fs' (A (some x)))):Le ((o.bind f).bind e) (rn S c Q fo fs st):=by
 rw[nh h]
 cases o with
 | none=>exact Le.none _
 | some x=>exact B x rfl
theorem TT {T:pF} {f:FuncId} {rf:RF} {az:List V} {m:Option (List V)} (B:T f=some rf) (D:az.length<=rf.na) (h:Le m (rn S (c8 S T) (pg rf.rs) (.rc rf.body) [] (start (az.map .v) []))):Le m (lW (c8 S T) f az):=by
 rw[OY B az D];exact h
end
section
variable {α:Type} [bt α]
abbrev cv (x:α):SV:=.v (enc x)
abbrev cp (x:α):SV:=.v (.fptr (cells x))
abbrev bx (x:α):bD:=.box ((cells x).map .v)
end
end Go.VE
namespace Go.VE
variable [bN]
structure jL (S:Sys) (c:cg) {α δ:Type} (fn:FuncId) (A:α->List V) (E:δ->List V) (p:α->Option δ) (sc:Bool):Prop where
 k:S.E.keep fn=false
 h:∀z,Le ((p z).bind λr=>some (E r)) (lW c fn (A z))
 s:sc=true->∀r,(result (E r)).scalar=true
section
variable {S:Sys} {c:cg} {β γ δ α:Type} {Q:Out×St->Option β} {e:γ->Option β} {fo:Fo} {fs:List Fm} {st0:St} {l:List RO} {d:Option Nat} {gd:Option (Nat×Bool)} {now:Bool} {az:List Arg} {dd:List Nat}
noncomputable abbrev rz (S:Sys) (c:cg) (Q:Out×St->Option β) (dr:Bool) (fr:List Nat) (d:Option Nat) (k:K) (l:List RO) (fs:List Fm) (dd:List Nat) (st:St):Option β:=
 rn S c Q (.ops dr (if dr then(match k with|.p _|.r _=>fr|_=>match d with|some d=>d::fr|none=>fr)else fr) l) fs (n9 dd st)
theorem Dm (fr:List Nat) (k:K):pK fr ⟨d,gd,now,k,az,[],[]⟩=(match k with|.p _|.r _=>fr|_=>match d with|some d=>d::fr|none=>fr):=by
 cases k <;> cases d <;> rfl
theorem Cw {n:Nat} {dr:Bool} {fr:List Nat} {q:List RO} {fs':List Fm} {st:St} {k:K} {m:Option δ} {g:δ->St} {f:δ->Option γ}
 (B:gD S c n fo fs st0=some (.ops dr fr q,fs',st)) (D:q=⟨d,gd,now,k,az,dd,[]⟩::l) (hg:wanted st.g gd=some true)
 (G:Le (m.bind λx=>some (g x)) (fe S c dr fr ⟨d,none,now,k,az,[],[]⟩ st))
 (h:∀x,m=some x->Le ((f x).bind e) (rz S c Q dr fr d k l fs' dd (g x))):Le ((m.bind f).bind e) (rn S c Q fo fs st0):=
 TQ B D hg G (λx t=>by rw[Dm];grind)
theorem p9 {n:Nat} {dr:Bool} {fr:List Nat} {q:List RO} {fs':List Fm} {st st':St} {k:K} {m:Option β}
 (B:gD S c n fo fs st0=some (.ops dr fr q,fs',st)) (D:q=⟨d,gd,now,k,az,dd,[]⟩::l) (hg:wanted st.g gd=some true)
 (G:fe S c dr fr ⟨d,none,now,k,az,[],[]⟩ st=some st') (h:Le m (rz S c Q dr fr d k l fs' dd st')):Le m (rn S c Q fo fs st0):=
 N1 B D hg G (by rw[Dm];omega)
section
variable [bt α]
theorem Ng (n:Nat) (dr:Bool) (fr:List Nat) (q:List RO) (fs':List Fm) (st:St) (k:IntKind) {sz:Nat} {s:Sl α} {i:Int} {f:α->Option γ} (D:q=⟨d,gd,now,.p (.idxS sz),az,dd,[]⟩::l)
 (B:(gD S c n fo fs st0,wanted st.g gd,bV S.N st.g az,sz)=(some (.ops dr fr q,fs',st),some true,some [.v (bT s),.v (.int k i)],bt.size α))
 (h:∀x,idx s i=some x->Le ((f x).bind e) (rz S c Q dr fr d (.p (.idxS sz)) l fs' dd (cZ st d (cp x)))):Le (((idx s i).bind f).bind e) (rn S c Q fo fs st0):=by
 simp  at B;exact Cw B.1 D B.2.1 (Le.of_eq (NX B.2.2.1 B.2.2.2)) h
theorem Q8 (n:Nat) (dr:Bool) (fr:List Nat) (q:List RO) (fs':List Fm) (st:St) (s:Sl α) {m:Option β} (D:q=⟨d,gd,now,.p .lenSl,az,dd,[]⟩::l)
 (B:(gD S c n fo fs st0,wanted st.g gd,bV S.N st.g az)=(some (.ops dr fr q,fs',st),some true,some [.v (bT s)]))
 (h:Le m (rz S c Q dr fr d (.p .lenSl) l fs' dd (cZ st d (.v (.int .i64 s.l.length))))):Le m (rn S c Q fo fs st0):=by
 simp  at B;exact p9 B.1 D B.2.1 (Oa B.2.2) h
end
section
variable {q:List RO} {fs':List Fm}
end
theorem Ec (m:Tb bD) (n:Nat) (l:List V):mS (iC m n) (l.map .v)=some l:=by rw[<-(yO m n).2,uL]
variable {A:α->List V} {E:δ->List V} {p:α->Option δ} {fn:FuncId} {sc:Bool}
end
end Go.VE
namespace Go.VE
variable [bN]
abbrev iv (n:Int):SV:=.v (.int .i64 n)
abbrev bv (b:Bool):SV:=.v (.bool b)
abbrev len {α:Type} (s:Sl α):Int:=((List.length (Sl.l s):Nat):Int)
abbrev o1 (d:Nat) (a:Arg) (dd:List Nat):RO:=⟨some d,none,false,.p .id,[a],dd,[]⟩
abbrev o2 (d:Nat) (k:K) (az:List Arg) (dd:List Nat):RO:=⟨some d,none,false,k,az,dd,[]⟩
abbrev o3 (d s:Nat) (b:Bool) (k:K) (az:List Arg) (dd:List Nat):RO:=⟨some d,some (s,b),false,k,az,dd,[]⟩
def G9 (a b:aY):Bool:=[a.proc,a.index]==[b.proc,b.index]
section
variable {α:Type} [bt α]
theorem vc (h:bt.agg α=false) (a:α):cells a=[enc a]:=by
 have t:(cells a).length=1:=by rw[show (cells a).length=_ from bt.len a,bt.plain h]
 unfold enc;rw[if_neg (by simp[h])]
 match hc:cells a,t with
 | [x],_=>rfl
theorem yQ (h:bt.agg α=true) (a:α):enc a=.agg (cells a):=by unfold enc;grind
theorem gY (a:α):V.good (enc a)=true:=by
 have h:V.cq (cells a)=true:=bt.good a
 cases t:bt.agg α with
 | true=>rw[yQ t];exact h
 | false=>
  rw[vc t]at h;simp[V.cq]at h;omega
theorem kL (s:Sl α):V.one (enc s)=true:=Dr s
theorem MK (s:α) (h:bt.agg α=false):V.one (enc s)=true:=by
 have:=bt.one s;rw[show bt.cells s=cells s from rfl,vc h]at this
 grind
end
instance {α:Type} [bt α]:bt (Option α) where
 cells o:=[match o with|none=>.gx|some x=>.fptr (cells x)]
 agg:=false
 size:=1
 len _:=rfl
 good o:=by
  cases o with
  | none=>rfl
  | some x=>simp only[V.cq,V.good,Bool.and_true];exact bt.good x
 one o:=by cases o <;> rfl
 plain _:=rfl
structure U8 where
 v:Int
 deriving Inhabited,DecidableEq
instance:bt U8 where
 cells n:=[.int .u8 n.v]
 agg:=false
 size:=1
 len _:=rfl
 good _:=rfl
 one _:=rfl
 plain _:=rfl
structure Uc where
 v:Int
 deriving Inhabited,DecidableEq
instance:bt Uc where
 cells n:=[.int .u64 n.v]
 agg:=false
 size:=1
 len _:=rfl
 good _:=rfl
 one _:=rfl
 plain _:=rfl
structure Uk where
 v:Int
 deriving Inhabited,DecidableEq
instance:bt Uk where
 cells n:=[.int .u32 n.v]
 agg:=false
 size:=1
 len _:=rfl
 good _:=rfl
 one _:=rfl
 plain _:=rfl
structure T_ where
 v:Int
 deriving Inhabited,DecidableEq
instance:bt T_ where
 cells n:=[.int .i32 n.v]
 agg:=false
 size:=1
 len _:=rfl
 good _:=rfl
 one _:=rfl
 plain _:=rfl
structure tg (S:Sys) (c:cg) {α δ:Type} (g:FuncId) (w e:List V) (A:α->List V) (R:δ->List V) (p:α->Option δ) (b:Bool):Prop where
 f:jL S c g (λz=>w++A z++e) R p b
section
variable {S:Sys} {c:cg} {β γ δ α:Type} {Q:Out×St->Option β} {e:γ->Option β} {fo:Fo} {fs:List Fm} {st0:St} {l:List RO} {d:Option Nat} {gd:Option (Nat×Bool)} {now:Bool} {az:List Arg} {dd:List Nat}
theorem ko {α:Type} [bt α] (a:α):V.cells (enc a)=cells a:=by
 cases t:bt.agg α with
 | true=>rw[yQ t];rfl
 | false=>
  have h1  := MK a t;rw[vc t];cases h:enc a <;> first|rfl|(rw[h]at h1;cases h1)
theorem nL {α:Type} [bt α] (a:α):(cells a).all V.one=true:=bt.one a
theorem ez {α:Type} [bt α] (a:α):(cells a).length=bt.size α:=bt.len a
theorem Ast [bt α] (n:Nat) (dr:Bool) (fr:List Nat) (q:List RO) (fs':List Fm) (st:St) (u o:Nat) (x:α) (cs B:List SV) {sz:Nat} {m:Option β} (G:q=⟨d,gd,now,.l (.store sz),az,dd,[]⟩::l)
 (D:(gD S c n fo fs st0,wanted st.g gd,bV S.N st.g az,bg st.m u,(!dr||now),sz,Nat.ble (o+sz) cs.length,cs.take o++(cells x).map .v++cs.drop (o+sz))=(some (.ops dr fr q,fs',st),some true,some [.ptr u o,cv x],some (.box cs),true,bt.size α,true,B))
 (h:Le m (rz S c Q dr fr d (.l (.store sz)) l fs' dd (cZ { st with m:=bJ st.m u (.box B) } d (.v .undef)))):Le m (rn S c Q fo fs st0):=by
 simp only[ζc]at D;obtain⟨h1,t,w,z,A,C,I,J⟩:=D;refine p9 h1 G t ?_ h;rw[tv,w];subst C;have L:=Nat.le_of_ble_eq_true I;simp only[ζb,A,if_true,kR,z,putCells,ko,ez,nL,L,and_self,J,Option.map_some]
theorem yH {α:Type} [bt α]:∀(xs:List α) (pre:List (List V)) (B:List (List V)),B.length=xs.length->fQ (bt.size α) (pre++B) ((List.range' pre.length xs.length).zip (xs.map enc))=some (pre++rows xs)
 | [],pre,B,h=>by
  have  := List.eq_nil_of_length_eq_zero h;subst this;rfl
 | x::xs,pre,s::B,h=>by
  simp only[List.length_cons,List.range'_succ,List.map_cons,List.zip_cons_cons,fQ,ko,ez,nL];have:=yH xs (pre++[cells x]) B (by grind)
  simp only[ζi,List.length_cons,List.length_nil]at this;have e:(pre++s::B).set pre.length (cells x)=pre++[cells x]++B:=by simp
  rw[e,this];simp[rows]
theorem T7 [bt α] (n:Nat) (dr:Bool) (fr:List Nat) (q:List RO) (fs':List Fm) (st:St) (xs:List α) {u sz ln:Nat} {zero:List V} {ix:List Nat} {m:Option β} (D:q=⟨some u,gd,now,.a (.buildSl sz ln zero ix),az,dd,[]⟩::l)
 (G:st.new u=true) (B:(gD S c n fo fs st0,wanted st.g gd,bV S.N st.g az,sz,ln,ix)=(some (.ops dr fr q,fs',st),some true,some ((xs.map enc).map .v),bt.size α,xs.length,List.range' 0 xs.length))
 (h:Le m (rz S c Q dr fr (some u) (.a (.buildSl sz ln zero ix)) l fs' dd { st with g:=bJ st.g u (.own u),m:=bJ st.m u (cQ (.row xs)) })):Le m (rn S c Q fo fs st0):=by
 simp only[ζc]at B;obtain⟨h1,t,w,z,A,C⟩:=B;subst z A C;refine p9 h1 D t ?_ h;rw[w5,w];simp only[ζb,G,mg,rQ,List.length_range',List.length_map];have:=yH xs [] (List.replicate xs.length zero) (by simp)
 simp  at this;rw[this];rfl
section
variable [bt α]
theorem TN (n:Nat) (dr:Bool) (fr:List Nat) (q:List RO) (fs':List Fm) (st:St) (D G:Bool) (J:List V) {sz:Nat} {s:Sl α} {a b:Option Int} {f:Sl α->Option γ} (O:q=⟨d,gd,now,.p (.slice sz D G),az,dd,[]⟩::l)
 (B:(gD S c n fo fs st0,wanted st.g gd,bV S.N st.g az,j9 D G J,sz)=(some (.ops dr fr q,fs',st),some true,some (.v (bT s)::J.map .v),some (a,b),bt.size α))
 (h:∀x,fR s a b=some x->Le ((f x).bind e) (rz S c Q dr fr d (.p (.slice sz D G)) l fs' dd (cZ st d (.v (bT x))))):Le (((fR s a b).bind f).bind e) (rn S c Q fo fs st0):=by
 simp  at B;refine Cw B.1 O B.2.1 (Le.of_eq ?_) h;have u  := B.2.2.1;unfold fe kT;simp[wanted,fJ,u];have t:je S.N st.m (.slice sz D G) ((bT s::J).map .v)=(fR s a b).bind λx=>some (.v (bT x)):=by
  unfold je;rw[rQ];simp[bh,B.2.2.2.1,HN s a b sz B.2.2.2.2];cases fR s a b <;> rfl
 simp  at t ⊢;rw[t];cases fR s a b <;> rfl
def nk (s:Sl α) (B D:Option Int):Option (Sl α):=
 match s with
 | .nil|.emp=>none
 | .row x|.part x=>(dD x.length B D).map λ(l,h)=>.part ((x.take h).drop l)
theorem SN (n:Nat) (fr:List Nat) (q:List RO) (fs':List Fm) (st:St) (D G:Bool) (u:Nat) (J:List V) {t sz:Nat} {s:Sl α} {a b:Option Int} {f:Sl α->Option γ} (U:q=⟨some t,gd,now,.p (.slice sz D G),az,dd,[]⟩::l)
 (O:St.new { st with m:=dH u st.m } t=true) (B:(gD S c n fo fs st0,wanted st.g gd,bV S.N st.g az,j9 D G J,bg st.m u,sz)=(some (.ops false fr q,fs',st),some true,some (.own u::J.map .v),some (a,b),some (cQ s),bt.size α))
 (h:∀x,nk s a b=some x->Le ((f x).bind e) (rz S c Q false fr (some t) (.p (.slice sz D G)) l fs' dd { st with g:=bJ st.g t (.own t),m:=bJ (dH u st.m) t (cQ x) })):Le (((nk s a b).bind f).bind e) (rn S c Q fo fs st0):=by
 simp  at B;refine Cw B.1 U B.2.1 (Le.of_eq ?_) h;obtain⟨_,_,z,w,A,C⟩:=B;subst C;unfold fe kT;simp[wanted,fJ,z,xX,rQ,A,w]
 cases s with
 | nil=>simp[nk,cQ,Sl.k,cw]
 | emp=>simp[nk,cQ,Sl.k,cw]
 | row x=>
  simp[cQ,Sl.k,Sl.l,cw,nk,fG,w]
  cases dD x.length a b with
  | none=>rfl
  | some r=>simp[O,cZ,rows,List.map_drop]
 | part x=>
  simp[cQ,Sl.k,Sl.l,cw,nk,fG,w]
  cases dD x.length a b with
  | none=>rfl
  | some r=>simp[O,cZ,rows,List.map_drop]
end
end
end Go.VE
namespace Go.VE
variable [bN]
structure bP (n:Nat) (α:Type) where
 l:List α
 len:l.length=n
theorem NL {α:Type} [bt α] (l:List α):(l.map (cells (α:=α))).flatten.length=l.length*bt.size α:=by
 induction l with
 | nil=>simp
 | cons a l t=>simp[t,ez,Nat.add_mul,Nat.add_comm]
theorem JX {α:Type} [bt α] (l:List α):V.cq (l.map (cells (α:=α))).flatten=true:=by
 induction l with
 | nil=>rfl
 | cons a l t=>
  have h:∀(x y:List V),V.cq x=true->V.cq y=true->V.cq (x++y)=true:=by
   intro x
   induction x with
   | nil=>grind
   | cons b x u=>intro y h1 w;simp[V.cq]at h1 ⊢;grind
  exact h _ _ (bt.good a) t
instance {n:Nat} {α:Type} [bt α]:bt (bP n α) where
 cells a:=(a.l.map cells).flatten
 agg:=true
 size:=n*bt.size α
 len a:=by rw[NL,a.len]
 good a:=JX a.l
 one a:=by
  have:∀l:List α,(l.map (cells (α:=α))).flatten.all V.one=true:=by
   intro l
   induction l with
   | nil=>rfl
   | cons a l t=>simp only[List.map_cons,List.flatten_cons,List.all_append,t,nL,Bool.and_self]
  exact this a.l
 plain h:=by cases h
def bP.Dv (n:Nat) {α:Type} (z:α):bP n α:=⟨List.replicate n z,by simp⟩
def bP.at {n:Nat} {α:Type} (a:bP n α) (i:Int):Option α:=if 0<=i then a.l[i.toNat]? else none
def bP.set {n:Nat} {α:Type} (a:bP n α) (i:Int) (x:α):bP n α:=⟨a.l.set i.toNat x,by simp[a.len]⟩
def pa {n:Nat} {α:Type} [bt α] (a:bP n α) (i:Int):List V:=(cells a).drop (i.toNat*bt.size α)
theorem bP.sx {n:Nat} {α:Type} {a:bP n α} {i:Int} {x:α} (h:a.at i=some x):0<=i/\i.toNat<n/\a.l[i.toNat]? = some x:=by
 unfold bP.at at h;split at h
 .rename_i t;refine⟨t,?_,h⟩;have:=(ζe.1 h).1;rw[<-a.len];simp_all
 simp_all
theorem Da {α:Type} [bt α]:∀(l:List α) (k:Nat),((l.map (cells (α:=α))).flatten).drop (k*bt.size α)=((l.drop k).map (cells (α:=α))).flatten
 | [],k=>by simp
 | a::l,0=>by simp
 | a::l,k+1=>by
  have h  := ez a;rw[List.map_cons,List.flatten_cons,List.drop_succ_cons,<-Da l k,Nat.add_mul,Nat.one_mul,Nat.add_comm,<-h,List.drop_length_add_append]
theorem zn {n:Nat} {α:Type} [bt α] {a:bP n α} {i:Int} {x:α} (h:a.at i=some x):∃r,pa a i=cells x++r:=by
 obtain⟨h1,z,u⟩:=bP.sx h;obtain⟨t,w⟩:=ζe.1 u;refine⟨((a.l.drop (i.toNat+1)).map cells).flatten,?_⟩;show ((a.l.map (cells )).flatten).drop (i.toNat*bt.size α)=_;rw[Da,List.drop_eq_getElem_cons t,List.map_cons,List.flatten_cons,w]
section
variable {S:Sys} {c:cg} {β γ δ α:Type} {Q:Out×St->Option β} {e:γ->Option β} {fo:Fo} {fs:List Fm} {st0:St} {l:List RO} {d:Option Nat} {gd:Option (Nat×Bool)} {now:Bool} {az:List Arg} {dd:List Nat}
section
variable {N:Nat} [bt α]
theorem SY (n:Nat) (dr:Bool) (fr:List Nat) (q:List RO) (fs':List Fm) (st:St) (k:IntKind) {ln sz:Nat} {a:bP N α} {i:Int} {f:α->Option γ} (D:q=⟨d,gd,now,.p (.idxA ln sz),az,dd,[]⟩::l)
 (B:(gD S c n fo fs st0,wanted st.g gd,bV S.N st.g az,sz,ln)=(some (.ops dr fr q,fs',st),some true,some [cp a,.v (.int k i)],bt.size α,N))
 (h:∀x,a.at i=some x->Le ((f x).bind e) (rz S c Q dr fr d (.p (.idxA ln sz)) l fs' dd (cZ st d (.v (.fptr (pa a i)))))):Le (((a.at i).bind f).bind e) (rn S c Q fo fs st0):=by
 simp  at B;obtain⟨h1,u,w,z,A⟩:=B;subst z A;refine Cw h1 D u ?_ h;intro r hr;obtain⟨x,C,hr⟩:=ζg.1 hr;obtain⟨g1,g2,_⟩:=bP.sx C;rw[B3  w rfl ?_]
 .omega
 rw[wY];simp[bh,uN];have t:i.toNat*bt.size α<=(cells a).length:=by
  rw[ez];exact Nat.mul_le_mul_right _ (Nat.le_of_lt g2)
 rw[if_pos ⟨g1,by omega⟩,if_pos t]
 rfl
theorem TH (n:Nat) (dr:Bool) (fr:List Nat) (q:List RO) (fs':List Fm) (st:St) (a:bP N α) (i:Int) (o:Nat) (x:α) (D:a.at i=some x) {k:Nat} {m:Option β} (G:q=⟨d,gd,now,.p (.fieldAddr k),az,dd,[]⟩::l)
 (B:(gD S c n fo fs st0,wanted st.g gd,bV S.N st.g az,Nat.ble (o+k) (bt.size α))=(some (.ops dr fr q,fs',st),some true,some [.v (.fptr ((pa a i).drop o))],true))
 (h:Le m (rz S c Q dr fr d (.p (.fieldAddr k)) l fs' dd (cZ st d (.v (.fptr ((pa a i).drop (o+k))))))):Le m (rn S c Q fo fs st0):=by
 simp only[ζc]at B;obtain⟨h1,t,u,w⟩:=B;refine p9 h1 G t (B3 u rfl ?_) h;have z:=Nat.le_of_ble_eq_true w;obtain⟨r,hr⟩:=zn D;have A:(pa a i).length>=bt.size α:=by rw[hr,ζi,ez];omega
 rw[FX,FB,if_pos (by grind),List.drop_drop]
 rfl
theorem SK (n:Nat) (dr:Bool) (fr:List Nat) (q:List RO) (fs':List Fm) (st:St) (a:bP N α) (i:Int) (o:Nat) (x:α) (G:a.at i=some x) {sz:Nat} {ag:Bool} {v:V} (hv:(cut (cells x) o sz).bind (mk ag)=some v) (B:V) {m:Option β} (J:q=⟨d,gd,now,.r (.load sz ag),az,dd,[]⟩::l)
 (D:(gD S c n fo fs st0,wanted st.g gd,bV S.N st.g az,v)=(some (.ops dr fr q,fs',st),some true,some [.v (.fptr ((pa a i).drop o))],B))
 (h:Le m (rz S c Q dr fr d (.r (.load sz ag)) l fs' dd (cZ st d (.v B)))):Le m (rn S c Q fo fs st0):=by
 simp  at D;obtain⟨h1,u,z,rfl⟩:=D;refine p9 h1 J u ?_ h;rw[yV,z];have hold:ei fr [SV.v (.fptr ((pa a i).drop o))]=true:=rfl;simp[hold,KS];obtain⟨r,hr⟩:=zn G;rw[hr];have hc:cut ((cells x++r).drop o) 0 sz=cut (cells x) o sz:=by
  cases t:cut (cells x) o sz with
  | none=>grind
  | some w=>
   unfold cut at t ⊢;dsimp only at t ⊢;split at t
   .have e1:(List.drop 0 (List.drop o (cells x++r))).take sz=((cells x).drop o).take sz:=by
     have A:sz=0\/o<=(cells x).length:=by
      grind
     grind
    grind
   grind
 cases t:cut (cells x) o sz with
 | none=>grind
 | some w=>grind
theorem Rg (n:Nat) (dr:Bool) (fr:List Nat) (q:List RO) (fs':List Fm) (st:St) (cs:List SV) {u sz:Nat} {zero:List V} {m:Option β} (D:q=⟨some u,gd,now,.a (.alloc sz zero),az,dd,[]⟩::l)
 (G:st.new u=true) (B:(gD S c n fo fs st0,wanted st.g gd,bV S.N st.g az,zero.map SV.v)=(some (.ops dr fr q,fs',st),some true,some [],cs))
 (h:Le m (rz S c Q dr fr (some u) (.a (.alloc sz zero)) l fs' dd { st with g:=bJ st.g u (.ptr u 0),m:=bJ st.m u (.box cs) })):Le m (rn S c Q fo fs st0):=by
 simp  at B;obtain⟨h1,t,w,z⟩:=B;subst z;refine p9 h1 D t ?_ h;rw[w5,w];simp[G,mg]
theorem rG (d:Nat) (l:List V):SV.dy d (l.map .v)=false:=by
 induction l with
 | nil=>rfl
 | cons a l t=>simp[SV.dy,SV.cU,t]
theorem rU {α:Type} [bt α] (d:Nat) (x:α):bD.cU d (bx x)=false:=rG d (cells x)
theorem S0 (n:Nat) (dr:Bool) (fr:List Nat) (q:List RO) (fs':List Fm) (st:St) (k:IntKind) (u:Nat) {ln sz:Nat} {a:bP N α} {i:Int} {f:α->Option γ} (D:q=⟨d,gd,now,.p (.idxA ln sz),az,dd,[]⟩::l)
 (B:(gD S c n fo fs st0,wanted st.g gd,bV S.N st.g az,sz,ln,bg st.m u)=(some (.ops dr fr q,fs',st),some true,some [.ptr u 0,.v (.int k i)],bt.size α,N,some (bx a)))
 (h:∀x,a.at i=some x->Le ((f x).bind e) (rz S c Q dr fr d (.p (.idxA ln sz)) l fs' dd (cZ st d (.ptr u (i.toNat*bt.size α+0))))):Le (((a.at i).bind f).bind e) (rn S c Q fo fs st0):=by
 simp  at B;obtain⟨h1,t,w,C,G,z⟩:=B;refine Cw h1 D t ?_ h;intro r hr;obtain⟨x,A,hr⟩:=ζg.1 hr;obtain⟨g1,g2,_⟩:=bP.sx A;rw[B3  w rfl ?_]
 .omega
 simp[je,dn,u5,z]
 grind
theorem Lv {a:bP N α} {i:Int} {o:Nat} {x:α} (B:a.at i=some x) {sz:Nat} {ag:Bool} {v:V} (hv:(cut (cells x) o sz).bind (mk ag)=some v):sj sz ag ((((cells a).map SV.v).drop (i.toNat*bt.size α+o)).take sz)=some (.v v):=by
 obtain⟨r,hr⟩:=zn B;have e1:(((cells a).map SV.v).drop (i.toNat*bt.size α+o)).take sz=(((cells x).drop o).take sz).map SV.v:=by
  have t:((cells x).drop o).take sz=((cells x++r).drop o).take sz:=by
   cases hc:cut (cells x) o sz with
   | none=>grind
   | some w=>
    unfold cut at hc;dsimp only at hc;split at hc
    .have z:sz=0\/o<=(cells x).length:=by
      grind
     grind
    simp_all
  rw[t,<-hr,pa,List.drop_drop,List.map_take,List.map_drop]
 rw[e1];unfold sj
 cases hc:cut (cells x) o sz with
 | none=>grind
 | some w=>
  rw[hc]at hv;unfold cut at hc;dsimp only at hc;split at hc
  .rename_i u;cases hc;simp only[List.length_map,u];unfold mk at hv
   cases ag with
   | true=>
    simp only[if_true]at hv ⊢;cases hv;rw[rQ]
   | false=>
    grind
  simp_all
theorem SQ (n:Nat) (dr:Bool) (fr:List Nat) (q:List RO) (fs':List Fm) (st:St) (u:Nat) (a:bP N α) (i:Int) (o:Nat) (x:α) (G:a.at i=some x) {sz:Nat} {ag:Bool} {v:V} (hv:(cut (cells x) o sz).bind (mk ag)=some v) (B:V) {m:Option β} (J:q=⟨d,gd,now,.r (.load sz ag),az,dd,[]⟩::l)
 (D:(gD S c n fo fs st0,wanted st.g gd,bV S.N st.g az,v,bg st.m u,(!dr||now||ei fr [.ptr u 0]))=(some (.ops dr fr q,fs',st),some true,some [.ptr u (i.toNat*bt.size α+o)],B,some (bx a),true))
 (h:Le m (rz S c Q dr fr d (.r (.load sz ag)) l fs' dd (cZ st d (.v B)))):Le m (rn S c Q fo fs st0):=by
 simp only[ζc]at D;obtain⟨h1,t,w,rfl,z,A⟩:=D;refine p9 h1 J t ?_ h;rw[yV,w];have hold:(!dr||now||ei fr [SV.ptr u (i.toNat*bt.size α+o)])=true:=A;simp only[ζb,hold,TL,z,JO];rw[Lv G hv];rfl
theorem K3 {N:Nat} (a:bP N α) (i:Int) (y:α) (h:i.toNat<N):cells (a.set i y)=(cells a).take (i.toNat*bt.size α)++cells y++(cells a).drop ((i.toNat+1)*bt.size α):=by
 have key:∀(l:List α) (k:Nat),k<l.length->((l.set k y).map (cells )).flatten=(l.map (cells )).flatten.take (k*bt.size α)++cells y++(l.map (cells )).flatten.drop ((k+1)*bt.size α):=by
  intro l
  induction l with
  | nil=>grind
  | cons b l t=>
   intro k h;have u  := ez b
   cases k with
   | zero=>
    grind
   | succ k=>
    simp only[List.map_cons,List.flatten_cons];have e1:(k+1)*bt.size α=(cells b).length+k*bt.size α:=by grind
    have e2:(k+1+1)*bt.size α=(cells b).length+(k+1)*bt.size α:=by grind
    rw[e2,List.drop_length_add_append]
    grind
 exact key a.l i.toNat (by rw[a.len];omega)
theorem N9 (n:Nat) (dr:Bool) (fr:List Nat) (q:List RO) (fs':List Fm) (st:St) (u:Nat) (a:bP N α) (i:Int) (o:Nat) (x:α) (B:a.at i=some x) (y:α) (v:V) {sz:Nat} (G:cells y=(cells x).take o++v.cells++(cells x).drop (o+sz)) {m:Option β} (J:q=⟨d,gd,now,.l (.store sz),az,dd,[]⟩::l)
 (D:(gD S c n fo fs st0,wanted st.g gd,bV S.N st.g az,bg st.m u,(!dr||now),v.cells.length,v.cells.all V.one,Nat.ble (o+sz) (bt.size α))=(some (.ops dr fr q,fs',st),some true,some [.ptr u (i.toNat*bt.size α+o),.v v],some (bx a),true,sz,true,true))
 (h:Le m (rz S c Q dr fr d (.l (.store sz)) l fs' dd (cZ { st with m:=bJ st.m u (bx (a.set i y)) } d (.v .undef)))):Le m (rn S c Q fo fs st0):=by
 simp only[ζc]at D;obtain⟨h1,z,A,C,I,L,O,T⟩:=D;refine p9 h1 J z ?_ h;rw[tv,A];have W:=Nat.le_of_ble_eq_true T;obtain⟨g1,g2,g3⟩:=bP.sx B;have U:i.toNat*bt.size α+o+sz<=((cells a).map SV.v).length:=by
  rw[List.length_map,ez];have:(i.toNat+1)*bt.size α<=N*bt.size α:=Nat.mul_le_mul_right _ g2;rw[Nat.add_mul,Nat.one_mul]at this;show _<=N*bt.size α;omega
 simp only[ζb,I,if_true,kR,C,putCells,L,O,U,and_self,Option.map_some];obtain⟨r,hr⟩:=zn B;have e:((cells a).map SV.v).take (i.toNat*bt.size α+o)++v.cells.map .v++((cells a).map SV.v).drop (i.toNat*bt.size α+o+sz)=(cells (a.set i y)).map SV.v:=by
  rw[K3 a i y g2,G];have t:(cells a).drop (i.toNat*bt.size α)=cells x++r:=hr;have w  := ez x;have e1:(cells a).take (i.toNat*bt.size α+o)=(cells a).take (i.toNat*bt.size α)++(cells x).take o:=by
   rw[List.take_add,t,List.take_append_of_le_length (by omega)]
  have e2:(cells a).drop (i.toNat*bt.size α+o+sz)=(cells x).drop (o+sz)++(cells a).drop ((i.toNat+1)*bt.size α):=by
   have e3:(cells a).drop ((i.toNat+1)*bt.size α)=r:=by
    rw[Nat.add_mul,Nat.one_mul,<-List.drop_drop,t,<-w,List.drop_left]
   rw[e3,Nat.add_assoc,<-List.drop_drop,t,List.drop_append_of_le_length (by omega)]
  rw[<-List.map_take,<-List.map_drop,e1,e2]
  grind
 rw[e]
end
theorem OJ {α:Type} [bt α] {m:Tb bD} {d:Nat} {x:α} {vs:List V} (h:bg m d=some (bx x)):mS (iC m 8) (.ptr d 0::vs.map .v)=some (.fptr (cells x)::vs):=by
 have h1:iC m 8 (.ptr d 0)=some (.fptr (cells x)):=by
  show (match bg m d with
   | some (.box u)=>match mS (iC m 7) u with
    | some t=>if 0<=t.length then some (V.fptr (t.drop 0))else none
    | none=>none
   | _=>none)=_
  rw[h];simp[Ec]
 simp[mS,h1,Ec]
theorem Sk (n:Nat) {fo:Fo} {fs fs':List Fm} {st0 st:St} {rs:List RV} {e:γ->Option (List V)} {r:γ} (svs:List SV) {ys:List V} (B:mS (iC st.m 8) svs=some ys) (h:(gD S c n fo fs st0,kV st rs)=(some (.rt,fs',st),some svs)) (D:e r=some ys) :
 Le ((some r).bind e) (rn S c (pg rs) fo fs st0):=by
 simp  at h;rw[nh h.1];refine Le.of_eq ?_;simp[rn,pg,h.2,B]
 grind
abbrev Mo (κ ν:Type):=List (κ×ν)
class Key (κ:Type) [bt κ] [DecidableEq κ] where
 kk:tT
 ok:∀a:κ,oq kk (enc a)=true
 eq:∀a b:κ,uI (enc a) (enc b)=some (decide (a=b))
instance:Key Int where
 kk:=.int .i64
 ok _:=rfl
 eq a b:=by
  show some (a==b)=some (decide (a=b));rw[show (a==b)=decide (a=b)from Bool.eq_iff_iff.2 (by simp)]
instance:Key aY where
 kk:=.ints 2
 ok _:=rfl
 eq a b:=by
  obtain⟨p,i⟩:=a;obtain⟨q,j⟩:=b;simp only[uI,jH,gE,RX,Option.map_some,List.length_cons,if_true,ζa];rw[Bool.eq_iff_iff];simp
section
variable {κ ν:Type} [bt κ] [DecidableEq κ] [Key κ] [bt ν]
def nQ (k:κ):Mo κ ν->Option ν
 | []=>none
 | (a,v)::r=>if k=a then some v else nQ k r
def sY (m:Mo κ ν) (k:κ) (z:ν):ν:=(nQ k m).getD z
def xB (m:Mo κ ν) (k:κ):Bool:=(nQ k m).isSome
def nP (m:Mo κ ν) (k:κ) (v:ν):Mo κ ν:=
 match m with
 | []=>[(k,v)]
 | (a,w)::r=>if k=a then(k,v)::r else(a,w)::nP r k v
def mC (m:Mo κ ν):List (V×V):=m.map λx=>(enc x.1,enc x.2)
def lI (m:Mo κ ν):bD:=.mp (mC m)
theorem B8 (k:κ):∀(m:Mo κ ν) (i:Nat),(gA (enc k) (mC m) i).map (Option.map (·.2))=some ((nQ k m).map enc)
 | [],i=>rfl
 | (a,v)::r,i=>by
  simp only[mC,List.map_cons,gA,Key.eq,nQ]
  by_cases h:k=a
  .grind
  .simp only[h];exact B8 k r (i+1)
theorem LU (k:κ) (v:ν) (m:Mo κ ν):oI (enc k) (enc v) (mC m)=some (mC (nP m k v)):=by
 unfold oI;have key:∀(m:Mo κ ν) (pre:List (V×V)) (i:Nat),pre.length=i->(match gA (enc k) (mC m) i with
  | some (some (j,_))=>some ((pre++mC m).set j (enc k,enc v))
  | some none=>some (pre++mC m++[(enc k,enc v)])
  | none=>none)=some (pre++mC (nP m k v)):=by
  intro m
  induction m with
  | nil=>simp[mC,gA,nP]
  | cons x r t=>
   obtain⟨a,w⟩:=x;intro pre i h;rw[show mC ((a,w)::r)=(enc a,enc w)::mC r from rfl];simp[gA,Key.eq,nP]
   by_cases hk:k=a
   .subst hk h;simp[mC]
   .simp[hk];rw[show mC ((a,w)::nP r k v)=(enc a,enc w)::mC (nP r k v)from rfl];have:=t (pre++[(enc a,enc w)]) (i+1) (by simp[h])
    grind
 have:=key m [] 0 rfl
 grind
theorem Sr (n:Nat) (dr:Bool) (fr:List Nat) (q:List RO) (fs':List Fm) (st:St) (u:Nat) (mp:Mo κ ν) (k:κ) (z:ν) {kk:tT} {B:V} {m:Option β} (G:q=⟨d,gd,now,.r (.lookup kk B false),az,dd,[]⟩::l)
 (D:(gD S c n fo fs st0,wanted st.g gd,bV S.N st.g az,bg st.m u,(!dr||now||ei fr [.mp u,cv k]),B,kk)=(some (.ops dr fr q,fs',st),some true,some [.mp u,cv k],some (lI mp),true,enc z,Key.kk κ))
 (h:Le m (rz S c Q dr fr d (.r (.lookup kk B false)) l fs' dd (cZ st d (cv (sY mp k z))))):Le m (rn S c Q fo fs st0):=by
 simp only[ζc]at D;obtain⟨h1,t,A,C,I,J,L⟩:=D;subst J L;refine p9 h1 G t ?_ h;rw[yV,A];simp only[ζb,I,lB,C,lI,Key.ok];have:=B8 k mp 0;simp[sY]
 cases O:gA (enc k) (mC mp) 0 with
 | none=>grind
 | some r=>
  rw[O]at this
  cases r with
  | none=>
   cases T:nQ k mp with
   | none=>rfl
   | some w=>grind
  | some w=>
   cases T:nQ k mp with
   | none=>grind
   | some U=>
    grind
theorem Ru (n:Nat) (dr:Bool) (fr:List Nat) (q:List RO) (fs':List Fm) (st:St) (u:Nat) (mp:Mo κ ν) (k:κ) (z:ν) {kk:tT} {B:V} {m:Option β} (G:q=⟨d,gd,now,.r (.lookup kk B true),az,dd,[]⟩::l)
 (D:(gD S c n fo fs st0,wanted st.g gd,bV S.N st.g az,bg st.m u,(!dr||now||ei fr [.mp u,cv k]),B,kk)=(some (.ops dr fr q,fs',st),some true,some [.mp u,cv k],some (lI mp),true,enc z,Key.kk κ))
 (h:Le m (rz S c Q dr fr d (.r (.lookup kk B true)) l fs' dd (cZ st d (.v (.tup [enc (sY mp k z),.bool (xB mp k)]))))):Le m (rn S c Q fo fs st0):=by
 simp only[ζc]at D;obtain⟨h1,t,A,C,I,J,L⟩:=D;subst J L;refine p9 h1 G t ?_ h;rw[yV,A];simp only[ζb,I,lB,C,lI,Key.ok];have:=B8 k mp 0;simp[sY,xB]
 cases O:gA (enc k) (mC mp) 0 with
 | none=>grind
 | some r=>
  rw[O]at this
  cases r with
  | none=>
   cases T:nQ k mp with
   | none=>rfl
   | some w=>grind
  | some w=>
   cases T:nQ k mp with
   | none=>grind
   | some U=>
    grind
theorem TS (n:Nat) (dr:Bool) (fr:List Nat) (q:List RO) (fs':List Fm) (st:St) (u:Nat) (mp:Mo κ ν) (k:κ) (v:ν) {kk:tT} {m:Option β} (D:q=⟨d,gd,now,.l (.mapUp kk),az,dd,[]⟩::l)
 (B:(gD S c n fo fs st0,wanted st.g gd,bV S.N st.g az,bg st.m u,(!dr||now),kk)=(some (.ops dr fr q,fs',st),some true,some [.mp u,cv k,cv v],some (lI mp),true,Key.kk κ))
 (h:Le m (rz S c Q dr fr d (.l (.mapUp kk)) l fs' dd (cZ { st with m:=bJ st.m u (lI (nP mp k v)) } d (.v .undef)))):Le m (rn S c Q fo fs st0):=by
 simp only[ζc]at B;obtain⟨h1,t,w,z,A,C⟩:=B;subst C;refine p9 h1 D t ?_ h;rw[tv,w];simp[A,kR,z,lI,Key.ok,LU]
end
end
end Go.VE
namespace Go.VE
variable [bN]
instance {n:Nat}:OfNat Arg n:=⟨.s n⟩
abbrev bI (o:BinOp):K:=.p (.bin (some .int) none o)
abbrev ix (n:Nat):K:=.p (.idxS n)
abbrev ld (n:Nat):K:=.r (.load n false)
abbrev lD (n:Nat):K:=.r (.load n true)
abbrev fa (n:Nat):K:=.p (.fieldAddr n)
abbrev ln:K:=.p .lenSl
abbrev su (n:Nat):K:=.l (.store n)
abbrev Iv (n:Nat) (x:Int):Nat×SV:=(n,iv x)
abbrev Bv (n:Nat) (x:Bool):Nat×SV:=(n,bv x)
abbrev Cv {α:Type} [bt α] (n:Nat) (x:α):Nat×SV:=(n,cv x)
abbrev Kv {α:Type} [bt α] (n:Nat) (x:α):Nat×SV:=(n,cp x)
abbrev Pv (n:Nat):Nat×SV:=(n,.ptr n 0)
abbrev Ov (n:Nat):Nat×SV:=(n,.own (2000+n))
abbrev Xb {α:Type} [bt α] (n:Nat) (x:α):Nat×bD:=(n,bx x)
abbrev Lb {α:Type} [bt α] (n:Nat) (x:Sl α):Nat×bD:=(n,cQ x)
abbrev on (d:Nat) (k:K) (az:List Arg) (dd:List Nat):RO:=⟨some d,none,true,k,az,dd,[]⟩
abbrev oz (k:K) (az:List Arg) (dd:List Nat):RO:=⟨none,none,false,k,az,dd,[]⟩
abbrev oy (k:K) (az:List Arg) (dd:List Nat):RO:=⟨none,none,true,k,az,dd,[]⟩
attribute [simp] Pq Py PL
theorem jL.xq {S:Sys} {T:pF} {f:FuncId} {b:Bool} (B:T f=none) (hk:S.E.keep f=false) (D:S.xq f []=some (.bool b)) :
 jL S (c8 S T) f (λ_:Unit=>[]) (λr:Bool=>[.bool r]) (λ_=>some b) true where
 k:=hk
 h _:=by
  have h:=CK (az:=[]) B hk D;intro r hr;cases hr;unfold lW;rw[h];exact uL 8 [.bool b]
 s _ _:=rfl
end Go.VE
namespace Go.VE
variable [bN]
def Wp {α:Type} (m:Option α) (P:α->Prop):Prop:=∃a,m=some a/\P a
section
variable {α β:Type} {P Q:α->Prop}
theorem aZ (a:α):Wp (some a) P↔P a:=⟨λh=>by obtain⟨b,e,p⟩:=h;cases e;exact p,λp=>⟨a,rfl,p⟩⟩
theorem P5:Wp (none:Option α) P↔False:=⟨λh=>(by obtain⟨b,e,p⟩:=h;cases e),λh=>False.elim h⟩
theorem eD {m:Option β} {k:β->Option α}:Wp (m.bind k) P↔Wp m λb=>Wp (k b) P:=by
 cases m with
 | none=>simp only[Option.bind_none,P5]
 | some b=>simp only[ζb,aZ]
theorem bZ {t:Bool} {a b:Option α}:Wp (bq t a b) P↔(t=true->Wp a P)/\(t=false->Wp b P):=by
 cases t <;> simp[bq]
theorem Wp.mono {m:Option α} (h:Wp m P) (B:∀a,P a->Q a):Wp m Q:=let ⟨a,e,p⟩:=h;⟨a,e,B a p⟩
theorem Wp.and {m:Option α} (h:Wp m P) (B:Wp m Q):Wp m λa=>P a/\Q a:=by
 obtain⟨a,e,p⟩:=h;obtain⟨b,e2,q⟩:=B;rw[e]at e2;cases e2;exact⟨a,e,p,q⟩
theorem Wp.eq {m:Option α} {a:α} (h:Wp m λx=>x=a):m=some a:=by obtain⟨b,e,rfl⟩:=h;exact e
end
section
variable {σ ε ρ:Type}
theorem iA (step:σ->Option (Fw σ ε ρ)) (s:σ):bO step s=(step s).bind λw=>match w with
 | .n B=>bO step B
 | .x e=>some (.x e)
 | .r b=>some (.r b):=by
 have h1:∀r,bO step s=some r->((step s).bind λw=>match w with
  | .n B=>bO step B
  | .x e=>some (.x e)
  | .r b=>some (.r b))=some r:=by
  intro r h;obtain⟨k,hk⟩:=mL.1 h
  cases k with
  | zero=>simp[iM]at hk
  | succ k=>
   simp only[iM]at hk
   cases t:step s with
   | none=>rw[t]at hk;cases hk
   | some w=>
    rw[t]at hk
    cases w with
    | n B=>exact mL.2 ⟨k,hk⟩
    | x e=>exact hk
    | r b=>exact hk
 cases u:bO step s with
 | some r=>exact(h1 r u).symm
 | none=>
  cases hr:((step s).bind λw=>match w with
  | .n B=>bO step B
  | .x e=>some (.x e)
  | .r b=>some (.r b))with
  | none=>rfl
  | some r=>
   exfalso
   cases t:step s with
   | none=>rw[t]at hr;cases hr
   | some w=>
    rw[t]at hr;simp only[ζb]at hr;have:bO step s=some r:=by
     cases w with
     | n B=>
      obtain⟨k,hk⟩:=mL.1 hr;exact mL.2 ⟨k+1,by simp only[iM,t];exact hk⟩
     | x e=>exact mL.2 ⟨1,by simp only[iM,t];exact hr⟩
     | r b=>exact mL.2 ⟨1,by simp only[iM,t];exact hr⟩
    rw[u]at this;cases this
def On (I:σ->Prop) (μ:σ->Nat) (D:ε->Prop) (G:ρ->Prop) (s:σ):Fw σ ε ρ->Prop
 | .n B=>I B/\μ B<μ s
 | .x e=>D e
 | .r b=>G b
def Tw (B:ε->Prop) (D:ρ->Prop):Fw Empty ε ρ->Prop
 | .x e=>B e
 | .r b=>D b
theorem Ny {step:σ->Option (Fw σ ε ρ)} (I:σ->Prop) (μ:σ->Nat) (B:ε->Prop) (D:ρ->Prop) (h:∀s,I s->Wp (step s) (On I μ B D s)) {s:σ} (G:I s):Wp (bO step s) (Tw B D):=by
 have key:∀n s,μ s<=n->I s->Wp (bO step s) (Tw B D):=by
  intro n
  induction n with
  | zero=>
   intro s A t;obtain⟨w,u,hr⟩:=h s t;rw[iA,u]
   cases w with
   | n z=>exact absurd hr.2 (by omega)
   | x e=>exact⟨_,rfl,hr⟩
   | r b=>exact⟨_,rfl,hr⟩
  | succ n C=>
   intro s A t;obtain⟨w,u,hr⟩:=h s t;rw[iA,u]
   cases w with
   | n z=>exact C z (by have:=hr.2;omega) hr.1
   | x e=>exact⟨_,rfl,hr⟩
   | r b=>exact⟨_,rfl,hr⟩
 exact key (μ s) s (Nat.le_refl _) G
theorem gU {γ:Type} {step:σ->Option (Fw σ ε ρ)} {B:ε->Option γ} {fr:ρ->Option γ} {P:γ->Prop} (I:σ->Prop) (μ:σ->Nat) {s:σ} (D:I s)
 (h:∀s,I s->Wp (step s) (On I μ (λe=>Wp (B e) P) (λb=>Wp (fr b) P) s)):Wp ((bO step s).bind (Fw.elim B fr)) P:=by
 rw[eD];refine(Ny I μ _ _ h D).mono ?_;intro w t
 cases w with
 | n a=>cases a
 | x e=>exact t
 | r b=>exact t
end
end Go.VE
namespace Go.VE
variable [bN]
theorem IY {β γ δ:Type} {e:γ->Option β} {m:Option δ} {f:δ->Option γ} {L:Option β} (h:∀x,m=some x->Le ((f x).bind e) L):Le ((m.bind f).bind e) L:=by
 cases m with
 | none=>exact Le.none _
 | some x=>exact h x rfl
section
variable {S:Sys} {c:cg} {β:Type} {Q:Out×St->Option β} {fo:Fo} {fs:List Fm} {st0:St} {l:List RO} {d:Option Nat} {now:Bool} {az:List Arg} {dd:List Nat}
theorem Le.get {β:Type} {r:β} {L:Option β} (h:Le (some r) L):L=some r:=h r rfl
theorem Kt {n:Nat} {fo fo':Fo} {fs fs':List Fm} {st:St} (A:Bool->St) {t:Bool} {m:Option β} (B:t=true) (h:gD S c n fo fs st=some (fo',fs',A t)) (D:Le m (rn S c Q fo' fs' (A true))):Le m (rn S c Q fo fs st):=by
 rw[nh h,B];exact D
theorem Kf {n:Nat} {fo fo':Fo} {fs fs':List Fm} {st:St} (A:Bool->St) {t:Bool} {m:Option β} (B:t=false) (h:gD S c n fo fs st=some (fo',fs',A t)) (D:Le m (rn S c Q fo' fs' (A false))):Le m (rn S c Q fo fs st):=by
 rw[nh h,B];exact D
theorem Nc {α:Type} [bt α] {s:Sl α} {i:Int} {x:α} {r:β} {L:Option β} (B:idx s i=some x) (h:Le (((idx s i).bind λ_=>some r).bind some) L):Le (some r) L:=by
 rw[B]at h;exact h
theorem Tu {n:Nat} {q:List RO} {fs':List Fm} {st:St} {id:Nat} {vs:List SV} {xs:List V} {B:List (List V)} {m:Option β}
 (D:gD S c n fo fs st0=some (.ops false [] q,fs',st)) (G:q=⟨d,none,now,.c,az,dd,[]⟩::l) (J:bV S.N st.g az=some (.yl id::vs)) (O:dn vs=some xs) (U:st.want=xs::B) (W:id=st.yid)
 (h:Le m (rn S c Q (.ops false [] l) fs' (n9 dd (cZ { st with want:=B } d (.v (.bool (st.more || !B.isEmpty))))))):Le m (rn S c Q fo fs st0):=by
 refine N1 D G rfl ?_ h;unfold fe;simp only[wanted,fJ,J,O,U,W,if_true,and_self,Bool.false_eq_true,if_false]
theorem zf (a:RC) (fs:List Fm) (st:St):rn S c Q (.rc (.loop a)) fs st=(mP (cu S c a) st).bind (Ci (lp S c Q fs) (lC S c Q fs) (λst=>Q (.ret,st))):=by
 show jZ S c Q (.loop a) fs st=_;unfold jZ;rw[AO];rfl
theorem OL {f:St->Option (Out×St)} {st st':St} (h:f st=some (.norm,st')):mP f st=mP f st':=by
 have key:∀r,mP f st=some r↔mP f st'=some r:=λr=>by
  constructor
  .intro hr;obtain⟨k,hk⟩:=kZ.1 hr
   cases k with
   | zero=>simp[iB]at hk
   | succ k=>simp only[iB,h]at hk;exact kZ.2 ⟨k,hk⟩
  .intro hr;obtain⟨k,hk⟩:=kZ.1 hr;exact kZ.2 ⟨k+1,by simp only[iB,h];exact hk⟩
 cases t:mP f st with
 | none=>
  cases u:mP f st' with
  | none=>rfl
  | some r=>rw[(key r).2 u]at t;cases t
 | some r=>rw[(key r).1 t]
theorem G7 {f:St->Option (Out×St)} {st st':St} {o:Out} (h:f st=some (o,st')) (B:o≠.norm):mP f st=some (o,st'):=by
 refine kZ.2 ⟨1,?_⟩
 cases o with
 | norm=>exact absurd rfl B
 | exit k=>simp only[iB,h]
 | ret=>simp only[iB,h]
theorem Dx {a:RC} {fs:List Fm} {st st':St} (h:rn S c some (.rc a) [] st=some (.norm,st')):rn S c Q (.rc (.loop a)) fs st=rn S c Q (.rc (.loop a)) fs st':=by
 rw[zf,zf,OL (by rw[zd];exact h)]
theorem CI {a:RC} {fs:List Fm} {st st':St} {k:Nat} (h:rn S c some (.rc a) [] st=some (.exit k,st')):rn S c Q (.rc (.loop a)) fs st=rn S c Q (.ex k) fs st':=by
 rw[zf,G7 (by rw[zd];exact h) (by simp)];rfl
theorem CT {a:RC} {fs:List Fm} {st st':St} (h:rn S c some (.rc a) [] st=some (.ret,st')):rn S c Q (.rc (.loop a)) fs st=Q (.ret,st'):=by
 rw[zf,G7 (by rw[zd];exact h) (by simp)];rfl
end
def Qi:Out×St->Option Unit
 | (.exit _,_)=>none
 | (_,st)=>if st.want.isEmpty then some ()else none
def Sys.bare (S:Sys):Sys:=⟨S.E,S.N,λ_ _ _=>none,λ_ _=>none,λ_=>none⟩
def lX:cg:=λ_ _ _=>none
def A2 (B rest:List (List V)) (more:Bool):Prop:=more=true/\B=rest\/more=false/\B≠[]/\∃r,rest=B++r
theorem Mm (S:Sys) {f:FuncId} {fi:FI} {nm:FuncId->Option Nat} {rf:RF} (G:S.E.ft f=some fi) (U:∀g s,nm g=some s->S.N s=g) (hr:wz S.E nm fi rf) {a b:List V} {xs:List (List V)} (D:a.length+1+b.length<=rf.na) (O:rf.rs=[])
 (h:∀B more,A2 B xs more->∀yid,rn S.bare lX Qi (.rc rf.body) [] ⟨vw 0 (a.map .v++.yl yid::b.map .v),[],[],B,more,yid⟩=some ()):eU S f a b xs:=by
 have k:eU S.bare f a b xs:=Qe (S:=S.bare) (c:=lX) (fi:=fi) (nm:=nm) (rf:=rf) (λ_ _ h=>by cases h) (λ_ _ _ _ _ h=>by simp[lX]at h) (λ_ _ _ _ h=>by simp[Sys.bare]at h) G U hr D O (λB more u yid=>by
  have h1:=h B more u yid;change jZ S.bare lX Qi rf.body [] _=some ()at h1;rw[qn]at h1;obtain⟨⟨o,st'⟩,w,t⟩:=ζg.1 h1;refine⟨o,st',w,?_,?_,rfl⟩
  .rintro id rfl;simp[Qi]at t
  .cases o <;> simp[Qi]at t <;> exact t)
 intro B more u yid J y Z z A H h1 w t C I;exact k B more u yid J ⟨y.vl,y.yield⟩ Z z A H h1 w t C I
open Classical in
noncomputable def vG (P:FuncId->List V->List V->List (List V)->Prop) (f:FuncId) (a b:List V):Option (List (List V)):=if h:∃t,P f a b t then some (Classical.choose h)else none
theorem Jh {P:FuncId->List V->List V->List (List V)->Prop} {f:FuncId} {a b:List V} {xs:List (List V)} (h:P f a b xs) (hu:∀ys,P f a b ys->ys=xs):vG P f a b=some xs:=by
 have h1:∃xs,P f a b xs:=⟨xs,h⟩;unfold vG;rw[dif_pos h1,hu _ (Classical.choose_spec h1)]
theorem HH {P:FuncId->List V->List V->List (List V)->Prop} {f:FuncId} {a b:List V} {xs:List (List V)} (h:vG P f a b=some xs):P f a b xs:=by
 unfold vG at h;split at h
 .rename_i h1;cases h;exact Classical.choose_spec h1
 .cases h
theorem Rh {E:Env} {nm:FuncId->Option Nat} {f:FuncId} {rf:RF}
 (h:((E.ft f).bind λfi=>(bH ⟨E,nm,fi.ntmps⟩ false fi.body).bind λc=>(fi.results.mapM (zk E)).bind λrs=>some (c,rs,fi.ntmps))=some (erase rf.body,rf.rs,rf.na)):∃fi,E.ft f=some fi/\wz E nm fi rf:=by
 obtain⟨fi,h1,u⟩:=ζg.1 h;obtain⟨c,w,z⟩:=ζg.1 u;obtain⟨rs,A,t⟩:=ζg.1 z;simp only[ζa,ζc]at t;obtain⟨rfl,rfl,B⟩:=t;exact⟨fi,h1,w,A,B.symm⟩
theorem FR.nX {H:bf} {Z Z':Nat->Prop} {x y z:V} (h:FR H Z x z) (k:FR H Z' y z):x=y:=by
 obtain⟨n,t⟩:=yM x;obtain⟨m,u⟩:=yM y;have e1:=h.borrow (max n m) (vO (Nat.le_max_left _ _) t);have e2:=k.borrow (max n m) (vO (Nat.le_max_right _ _) u);rw[e1]at e2;exact Option.some.inj e2
open Classical in
noncomputable def xU (E:Env) (f:FuncId) (az:List V):Option V:=if h:∃y,vz E f az y then some (Classical.choose h)else none
theorem JS {E:Env} {f:FuncId} {az:List V} {y:V} (h:xU E f az=some y):vz E f az y:=by
 unfold xU at h;split at h
 .rename_i h1;cases h;exact Classical.choose_spec h1
 .cases h
theorem uV {E:Env} {f:FuncId} {az:List V} {y:V} (h:vz E f az y):xU E f az=some y:=by
 have h1:∃y,vz E f az y:=⟨y,h⟩;unfold xU;rw[dif_pos h1];obtain⟨n,z,H,Z,k1,k2,_⟩:=h;obtain⟨t,u,H',Z',k3,k4,_⟩:=Classical.choose_spec h1;have e1:=(mb E (Nat.le_max_left n t)).go _ _ _ _ k1;have e2:=(mb E (Nat.le_max_right n t)).go _ _ _ _ k3;rw[e1]at e2;cases e2;rw[FR.nX k4 k2]
theorem GA {E:Env} {f:FuncId} {az:List V} {y:V} (B:V.scalar y=true) (h:∃n H',run E n (.fn f) az []=some (y,H')):vz E f az y:=by
 obtain⟨n,H',h⟩:=h;exact⟨n,y,H',λ_=>False,h,.same _ (lR B),λ_ h=>h.elim,⟨λ_ _ _ h=>h.elim⟩⟩
end Go.VE
