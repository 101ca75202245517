/-
 Plain values and the steps of a certificate.
-/
import Derived.KernelRfl
import Derived.Test.YtnfakljmdnbipaaN2
set_option linter.all false
namespace Go.VE
inductive Sl (α:Type) where
 | nil
 | emp
 | row (l:List α)
 | part (l:List α)
 deriving Inhabited
def Sl.l {α:Type}:Sl α→List α
 | .nil|.emp=>[]
 | .row l|.part l=>l
def Sl.k {α:Type}:Sl α→Fl
 | .nil=>.nil
 | .emp=>.emp
 | .row _=>.row
 | .part _=>.part
class aE (α:Type) where
 cells:α→List V
 agg:Bool
 size:Nat
 len:∀a,(cells a).length=size
 bg:∀a,V.bR (cells a)=true
 one:∀a,(cells a).all V.one=true
 plain:agg=false→size=1
def cells {α:Type} [aE α] (a:α):List V:=aE.cells a
def enc {α:Type} [aE α] (a:α):V:=if aE.agg α then .agg (cells a)else(cells a).headD .undef
def rows {α:Type} [aE α] (l:List α):List (List V):=l.map cells
def cU {α:Type} [aE α] (s:Sl α):V:=kM s.k (aE.size α) (rows s.l)
instance:aE Int where
 cells n:=[.int .i64 n]
 agg:=false
 size:=1
 len _:=rfl
 bg _:=rfl
 one _:=rfl
 plain _:=rfl
instance:aE Bool where
 cells b:=[.bool b]
 agg:=false
 size:=1
 len _:=rfl
 bg _:=rfl
 one _:=rfl
 plain _:=rfl
instance:aE ByteArray where
 cells s:=[.str s]
 agg:=false
 size:=1
 len _:=rfl
 bg _:=rfl
 one _:=rfl
 plain _:=rfl
structure aa where
 proc:Int
 index:Int
 deriving DecidableEq,Inhabited
instance:aE aa where
 cells x:=[.int .i64 x.proc,.int .i64 x.index]
 agg:=true
 size:=2
 len _:=rfl
 bg _:=rfl
 one _:=rfl
 plain h:=by cases h
@[simp] theorem VY (n:Int):enc n=.int .i64 n:=rfl
@[simp] theorem UE (n:Bool):enc n=.bool n:=rfl
@[simp] theorem VZ (n:ByteArray):enc n=.str n:=rfl
@[simp] theorem Sr (n:Int):cells n=[.int .i64 n]:=rfl
@[simp] theorem PY (n:Bool):cells n=[.bool n]:=rfl
@[simp] theorem Sp (n:ByteArray):cells n=[.str n]:=rfl
@[simp] theorem S4 (n:aa):cells n=[.int .i64 n.proc,.int .i64 n.index]:=rfl
@[simp] theorem L6 (n:aa):enc n=.agg [.int .i64 n.proc,.int .i64 n.index]:=rfl
section
variable {α:Type} [aE α]
theorem hO (l:List α):(rows l).length=l.length:=by simp[rows]
def idx (s:Sl α) (i:Int):Option α:=if 0≤i then s.l[i.toNat]? else none
theorem Hy {N:Nat→FuncId} (s:Sl α) (k:IntKind) (i:Int) {n:Nat} (hn:n=aE.size α):aI N (.idxS n) [cU s,.int k i]=(idx s i).map fun x=>.fptr (cells x):=by
 subst hn;unfold idx cU;simp only[aI,kO]
 by_cases h:i<0
 ·rw[if_pos h,if_neg (by omega)];rfl
 ·rw[if_neg h,if_pos (by omega)]
  cases s <;> simp[Sl.k,Sl.l,kM,rows,Function.comp_def]
theorem GK {N:Nat→FuncId} (s:Sl α):aI N .lenSl [cU s]=some (.int .i64 s.l.length):=by
 cases s <;> simp[aI,uG,cU,Sl.k,Sl.l,kM,hO]
end
section
variable {S:Sys} {c:ck}
end
end Go.VE
namespace Go.VE
section
variable {S:Sys} {c:ck}
def isSlice:qH→Bool
 | .slice ..=>true
 | _=>false
theorem Jl (dr:Bool) (fr:List Nat) (dst:Option Nat) (now:Bool) (p:qH) (as:List Arg) (st:St) (h:isSlice p=false) :
 eR S c dr fr ⟨dst,none,now,.p p,as,[],[]⟩ st=(bu S.N st.g as).bind fun svs=>(hY S.N st.m p svs).bind fun x=>some (cO st dst x):=by
 unfold eR kJ;have hy:eY S.N st.g ⟨dst,none,now,.p p,as,[],[]⟩=none:=by unfold eY;cases p <;> rfl
 simp only[wanted,hy]
 cases hs:bu S.N st.g as with
 | none=>rfl
 | some svs=>
  simp only[Zc];cases p <;> first|(simp[isSlice]at h;done)|(cases hp:hY S.N st.m _ svs <;> simp[hp])
theorem Dj (N:Nat→FuncId) (m:Tb aL) (p:qH) (svs:List SV) (xs:List V) (h:d_ svs=some xs):hY N m p svs=(aI N p xs).bind fun x=>some (.v x):=by
 unfold hY;rw[h];dsimp only;cases aI N p xs <;> rfl
theorem A1 (dr:Bool) (fr:List Nat) (dst:Option Nat) (now:Bool) (q:FF) (as:List Arg) (st:St) :
 eR S c dr fr ⟨dst,none,now,.r q,as,[],[]⟩ st=(bu S.N st.g as).bind fun svs=>if !dr||now||eO fr svs then(lQ st.m q svs).bind fun x=>some (cO st dst x)else none:=by
 unfold eR kJ;have hy:eY S.N st.g ⟨dst,none,now,.r q,as,[],[]⟩=none:=rfl;simp only[wanted,hy]
 cases hs:bu S.N st.g as with
 | none=>rfl
 | some svs=>
  simp only[Zc];split
  ·cases hp:lQ st.m q svs <;> simp
  ·rfl
theorem yG (dr:Bool) (fr:List Nat) (d:Nat) (now:Bool) (q:GP) (as:List Arg) (st:St) :
 eR S c dr fr ⟨some d,none,now,.a q,as,[],[]⟩ st=(bu S.N st.g as).bind fun svs=>if st.new d then(kT st.m q svs d).bind fun r=>some { st with g:=bl st.g d r.2,m:=bl st.m d r.1 } else none:=by
 unfold eR kJ;have hy:eY S.N st.g ⟨some d,none,now,.a q,as,[],[]⟩=none:=rfl;simp only[wanted,hy]
 cases hs:bu S.N st.g as with
 | none=>rfl
 | some svs=>
  simp only[Zc];split
  ·cases hp:kT st.m q svs d <;> simp[cO]
  ·rfl
theorem s9 (dr:Bool) (fr:List Nat) (dst:Option Nat) (now:Bool) (q:Du) (as:List Arg) (st:St) :
 eR S c dr fr ⟨dst,none,now,.l q,as,[],[]⟩ st=(bu S.N st.g as).bind fun svs=>if !dr||now then(kI st dst q svs).bind fun r=>some (cO r.2 dst r.1)else none:=by
 unfold eR kJ;have hy:eY S.N st.g ⟨dst,none,now,.l q,as,[],[]⟩=none:=rfl;simp only[wanted,hy]
 cases hs:bu S.N st.g as with
 | none=>rfl
 | some svs=>
  simp only[Zc];split
  ·cases hp:kI st dst q svs <;> simp
  ·rfl
def qf:List SV→Option (FuncId×List SV)
 | .clo f a b::vs=>some (f,a++vs++b)
 | .v (.clo f a b)::vs=>some (f,a.map .v++vs++b.map .v)
 | _=>none
theorem Oi (dr:Bool) (fr:List Nat) (dst:Option Nat) (now:Bool) (as:List Arg) (st:St) (svs:List SV) (f:FuncId) (args:List SV) (hs:bu S.N st.g as=some svs) (hc:qf svs=some (f,args)) :
 eR S c dr fr ⟨dst,none,now,.c,as,[],[]⟩ st=(iq S c dst dr (!dr||now) (gY st.m fr) f args st).bind fun r=>some (cO r.2 dst r.1):=by
 unfold eR kJ;unfold qf at hc;split at hc
 ·simp only[Za,Zd]at hc;obtain⟨rfl,rfl⟩:=hc;simp only[wanted,eY,hs];cases iq S c dst dr _ _ _ _ st <;> simp
 ·simp only[Za,Zd]at hc;obtain⟨rfl,rfl⟩:=hc;simp only[wanted,eY,hs];cases iq S c dst dr _ _ _ _ st <;> simp
 ·simp at hc
noncomputable def GY {β:Type} (S:Sys) (c:ck) (fr:List Nat) (l:List RO) (k:St→Option β):St→Option β:=fun st=>(jH S c false fr l st).bind k
noncomputable def Iz {β:Type} (S:Sys) (c:ck) (fr:List Nat) (l:List RO) (k:St→Option β):St→Option β:=fun st=>(jH S c true fr l st).bind k
noncomputable def LR {β:Type} (S:Sys) (c:ck) (fr dd:List Nat) (l:List RO) (k:St→Option β):St→Option β:=fun st=>GY S c fr l k (kL dd st)
noncomputable def Lg {β:Type} (S:Sys) (c:ck) (fr dd:List Nat) (l:List RO) (k:St→Option β):St→Option β:=fun st=>Iz S c fr l k (kL dd st)
@[congr] theorem Ol {β:Type} {fr:List Nat} {l:List RO} {k:St→Option β} {st st':St} (h:st=st'):GY S c fr l k st=GY S c fr l k st':=by rw[h]
@[congr] theorem OS {β:Type} {fr fr':List Nat} {l:List RO} {k:St→Option β} {st st':St} (hf:fr=fr') (h:st=st'):Iz S c fr l k st=Iz S c fr' l k st':=by rw[h,hf]
@[congr] theorem NJ {β:Type} {fr dd:List Nat} {l:List RO} {k:St→Option β} {st st':St} (h:st=st'):LR S c fr dd l k st=LR S c fr dd l k st':=by rw[h]
@[congr] theorem Qm {β:Type} {fr fr' dd:List Nat} {l:List RO} {k:St→Option β} {st st':St} (hf:fr=fr') (h:st=st'):Lg S c fr dd l k st=Lg S c fr' dd l k st':=by rw[h,hf]
@[congr] theorem Sg {dr:Bool} {fr:List Nat} {o:RO} {st st':St} (h:st=st'):eR S c dr fr o st=eR S c dr fr o st':=by rw[h]
end
section
variable {S:Sys} {c:ck} (dr:Bool) (fr:List Nat) (dst:Option Nat) (now:Bool) (as:List Arg) (st:St)
end
end Go.VE
namespace Go.VE
inductive Fm where
 | seq (b:RC)
 | blk (id:Nat)
 | gst (x:Gh)
section
variable (S:Sys) (c:ck) {β:Type} (Q:Out×St→Option β)
noncomputable def runK:List Fm→Out×St→Option β
 | [],r=>Q r
 | .seq b::fs,(.norm,st)=>(bG S c b st).bind (runK fs)
 | .seq _::fs,r=>runK fs r
 | .blk id::fs,(.exit k,st)=>if k=id then runK fs (.norm,st)else runK fs (.exit k,st)
 | .blk _::fs,r=>runK fs r
 | .gst x::fs,(.norm,st)=>(ghost x st).bind fun st=>runK fs (.norm,st)
 | .gst _::fs,r=>runK fs r
noncomputable def go (rc:RC) (fs:List Fm) (st:St):Option β:=(bG S c rc st).bind (runK S c Q fs)
noncomputable def IJ (fs:List Fm):St→Option β:=fun st=>runK S c Q fs (.norm,st)
def ao {α:Type} (t:Bool) (a b:α):α:=if t then a else b
end
@[congr] theorem Sa {α:Type} {t t':Bool} {a b a' b':α} (h:t=t') (ha:t'=true→a=a') (hb:t'=false→b=b'):ao t a b=ao t' a' b':=by
 subst h;cases t
 ·exact hb rfl
 ·exact ha rfl
section
variable {S:Sys} {c:ck} {β:Type} {Q:Out×St→Option β}
@[congr] theorem go_congr {a:RC} {fs:List Fm} {st st':St} (h:st=st'):go S c Q a fs st=go S c Q a fs st':=by rw[h]
@[congr] theorem Nc {fs:List Fm} {st st':St} (h:st=st'):IJ S c Q fs st=IJ S c Q fs st':=by rw[h]
@[congr] theorem PZ {fs:List Fm} {r r':Out×St} (h:r=r'):runK S c Q fs r=runK S c Q fs r':=by rw[h]
theorem CB (rc:RC) (st:St):(bG S c rc st).bind Q=go S c Q rc [] st:=by
 simp only[go];cases bG S c rc st <;> rfl
inductive Fw (ν ε ρ:Type) where
 | n (a:ν)
 | x (e:ε)
 | r (b:ρ)
def gF {σ ε ρ:Type} (step:σ→Option (Fw σ ε ρ)):Nat→σ→Option (Fw Empty ε ρ)
 | 0,_=>none
 | k+1,s=>match step s with
  | some (.n s')=>gF step k s'
  | some (.x e)=>some (.x e)
  | some (.r b)=>some (.r b)
  | none=>none
theorem rF {σ ε ρ:Type} {step:σ→Option (Fw σ ε ρ)}:∀{k k':Nat} {s:σ} {r:Fw Empty ε ρ},k≤k'→gF step k s=some r→gF step k' s=some r
 | 0,_,_,_,_,h=>by simp[gF]at h
 | k+1,0,_,_,hk,_=>by omega
 | k+1,k'+1,s,r,hk,h=>by
  simp only[gF]at h ⊢;split at h
  ·exact rF (Nat.le_of_succ_le_succ hk) h
  ·exact h
  ·exact h
  ·simp at h
open Classical in
noncomputable def bh {σ ε ρ:Type} (step:σ→Option (Fw σ ε ρ)) (s:σ):Option (Fw Empty ε ρ):=
 if h:∃k r,gF step k s=some r then some (Classical.choose (Classical.choose_spec h))else none
theorem jX {σ ε ρ:Type} {step:σ→Option (Fw σ ε ρ)} {s:σ} {r:Fw Empty ε ρ}:bh step s=some r↔∃k,gF step k s=some r:=by
 unfold bh;constructor
 ·intro h;split at h
  ·rename_i hx;simp only[Za]at h;exact⟨_,by rw[←h];exact Classical.choose_spec (Classical.choose_spec hx)⟩
  ·simp at h
 ·rintro⟨k,hk⟩;have hx:∃k r,gF step k s=some r:=⟨k,r,hk⟩;rw[dif_pos hx];have h2:=Classical.choose_spec (Classical.choose_spec hx);have h3:=rF (Nat.le_max_left (Classical.choose hx) k) h2;have h4:=rF (Nat.le_max_right (Classical.choose hx) k) hk;rw[h3]at h4;exact h4
def Fw.out {ν ε ρ:Type} (eν:ν→St) (eε:ε→Nat×St) (eρ:ρ→St):Fw ν ε ρ→Out×St
 | .n a=>(.norm,eν a)
 | .x e=>(.exit (eε e).1,(eε e).2)
 | .r b=>(.ret,eρ b)
def Fw.elim {ε ρ γ:Type} (fx:ε→γ) (fr:ρ→γ):Fw Empty ε ρ→γ
 | .x e=>fx e
 | .r b=>fr b
end
end Go.VE
namespace Go.VE
class Lv (n:Nat) (α:Type) [aE α]:Prop where
 lv:∀a:α,V.dc n (cells a)=true
instance {n:Nat}:Lv n Int:=⟨fun _=>by cases n <;> rfl⟩
instance {n:Nat}:Lv n Bool:=⟨fun _=>by cases n <;> rfl⟩
instance {n:Nat}:Lv n ByteArray:=⟨fun _=>by cases n <;> rfl⟩
instance {n:Nat}:Lv n aa:=⟨fun _=>by cases n <;> rfl⟩
section
variable {α:Type} [aE α]
theorem AB (s:Sl α):V.one (cU s)=true:=by cases s <;> rfl
theorem Fj (l:List α):V.kr (rows l)=true:=by
 induction l with
 | nil=>rfl
 | cons a l ih=>simp only[rows,List.map_cons,V.kr,Zj];exact⟨aE.bg a,ih⟩
theorem ET (s:Sl α):V.bg (cU s)=true:=by
 cases s <;> simp only[cU,Sl.k,kM,V.bg] <;> exact Fj _
theorem Il {n:Nat} [Lv n α] (l:List α):V.jP n (rows l)=true:=by
 induction l with
 | nil=>cases n <;> rfl
 | cons a l ih=>simp only[rows,List.map_cons,V.jP,Zj];exact⟨Lv.lv a,ih⟩
theorem Ao {n:Nat} [Lv n α] (s:Sl α):V.lvl (n+1) (cU s)=true:=by
 cases s <;> simp only[cU,Sl.k,kM,V.lvl] <;> exact Il _
instance:aE (Sl α) where
 cells s:=[cU s]
 agg:=false
 size:=1
 len _:=rfl
 bg s:=by simp only[V.bR,ET,Bool.and_self]
 one s:=by simp[AB]
 plain _:=rfl
instance {n:Nat} [Lv n α]:Lv (n+1) (Sl α):=⟨fun s=>by
 show V.dc (n+1) [cU s]=true;simp only[V.dc,Ao,Bool.and_self]⟩
end
theorem Js (n:Nat) (cs:List V):V.lvl (n+1) (.agg cs)=V.dc n cs:=rfl
theorem Jy (n:Nat) (cs:List V):V.lvl (n+1) (.tup cs)=V.dc n cs:=rfl
theorem HC (n:Nat) (cs:List V):V.lvl (n+1) (.fptr cs)=V.dc n cs:=rfl
theorem J_ (n:Nat) (f:FuncId) (a b:List V):V.lvl (n+1) (.clo f a b)=(V.dc n a&&V.dc n b):=rfl
theorem lS (n:Nat) (k:IntKind) (x:Int):V.lvl n (.int k x)=true:=by cases n <;> rfl
theorem j_ (n:Nat) (x:Bool):V.lvl n (.bool x)=true:=by cases n <;> rfl
theorem lE (n:Nat) (x:ByteArray):V.lvl n (.str x)=true:=by cases n <;> rfl
theorem Kn (n:Nat):V.lvl n .ay=true:=by cases n <;> rfl
theorem Ko (n:Nat):V.lvl n .dY=true:=by cases n <;> rfl
theorem HI (n:Nat):V.lvl n .cq=true:=by cases n <;> rfl
theorem iF (n:Nat):V.dc n []=true:=by cases n <;> rfl
theorem gH (n:Nat) (x:V) (r:List V):V.dc n (x::r)=(V.lvl n x&&V.dc n r):=by cases n <;> rfl
section
variable {S:Sys} {c:ck}
def Gr (x:Option SV) (b:Bool) (y z:Option St):Option St:=
 match x with
 | some (.v (.bool t))=>ao (t==b) y z
 | some (.v _)=>z
 | _=>none
@[congr] theorem MY {x x':Option SV} {b:Bool} {y z:Option St} (h:x=x'):Gr x b y z=Gr x' b y z:=by rw[h]
def I_ {β:Type} (x:Option SV) (y z:Option β):Option β:=
 match x with
 | some (.v (.bool t))=>ao t y z
 | _=>none
@[congr] theorem Nd {β:Type} {x x':Option SV} {y z:Option β} (h:x=x'):I_ x y z=I_ x' y z:=by rw[h]
def jQ (c:ck) (f:FuncId) (as:List V):Option (List V):=(c f (as.map .v) []).bind fun r=>cj r.2 8 r.1
def EY (dr:Bool) (ok:Bool) (st:St) (ys:List V):Option (SV×St):=
 if V.lvl 8 (result ys)&&((result ys).scalar||ok)then some (.v (result ys),st)else none
theorem Kk (dst:Option Nat) (dr now:Bool) (old:List SV→Bool) (f:FuncId) (args:List SV) (st:St) (hk:S.E.keep f=false) :
 iq S c dst dr now old f args st=(cj st.m 8 args).bind fun as=>if V.dc 8 as&&(now||old args)then(jQ c f as).bind (EY dr (d_ args).isSome st)else none:=by
 unfold iq jQ;simp only[hk,Bool.false_eq_true,if_false]
 cases cj st.m 8 args with
 | none=>rfl
 | some as=>
  simp only[Zc];split
  ·cases c f (as.map .v) []with
   | none=>rfl
   | some r=>
    obtain⟨rs,m'⟩:=r;simp only[Zc];cases cj m' 8 rs <;> rfl
  ·rfl
end
section
variable {S:Sys} {T:ql}
def BZ (rs:List RV):Out×St→Option (List V)
 | (.exit _,_)=>none
 | (_,st)=>(lX st rs).bind (cj st.m 8)
theorem Ib {f:FuncId} {rf:RF} (hT:T f=some rf) (as:List V) (hn:as.length≤rf.na):jQ (fJ S T) f as=go S (fJ S T) (BZ rf.rs) rf.body [] (start (as.map .v) []):=by
 unfold jQ;rw[Bq hT];unfold mB;rw[if_pos (by simpa using hn),←CB]
 cases h:bG S (fJ S T) rf.body (start (as.map .v) [])with
 | none=>rfl
 | some r=>
  obtain⟨o,st⟩:=r;cases o <;> simp only[Zc,BZ] <;> (try rfl) <;> (cases lX st rf.rs <;> rfl)
end
end Go.VE
namespace Go.VE
variable {N:Nat→FuncId}
def tj (k:IntKind) (a b:Int):Option Int:=if b<0 then none else some (a.fdiv (2 ^ (min b.toNat k.bits)))
theorem KG (e:Option KT) (q:Option Nat) (k k':IntKind) (a b:Int):aI N (.bin e q .shr) [.int k a,.int k' b]=(tj k a b).bind fun x=>some (.int k x):=by
 simp only[aI,jK,tj];split <;> rfl
theorem B0 (o:Nat) (cs:List V):aI N (.fieldAddr o) [.fptr cs]=if o≤cs.length then some (.fptr (cs.drop o))else none:=rfl
def gP (s:ByteArray) (n:Int):Option Int:=if 0≤n then(s[n.toNat]?).map fun b=>(b.toNat:Int)else none
theorem FB (s:ByteArray) (k:IntKind) (n:Int):aI N .idxStr [.str s,.int k n]=(gP s n).bind fun x=>some (.int .u8 x):=by
 simp only[aI,gP];split
 ·cases s[n.toNat]? <;> rfl
 ·rfl
theorem Ih (z:List V) (pl:List (Nat×Nat)) (vs:List V):aI N (.build z pl) vs=(iO z pl vs).bind fun cs=>some (.agg cs):=by
 simp only[aI];cases iO z pl vs <;> rfl
section
variable {α:Type} [aE α]
theorem De (s:Sl α) (k:IntKind) (i:Int) (n:Nat) (hn:n=aE.size α):aI N (.idxS n) [cU s,.int k i]=(idx s i).bind fun x=>some (.fptr (cells x)):=by
 rw[Hy s k i hn];cases idx s i <;> rfl
theorem wm (s:Sl α):aI N .lenSl [cU s]=some (.int .i64 s.l.length):=GK s
def g_ (s:Sl α) (lo hi:Option Int):Option (Sl α):=
 (dR s.l.length lo hi).map fun (l,h)=>match s with
  | .nil=>.nil
  | .emp=>.emp
  | .row x=>.part ((x.take h).drop l)
  | .part x=>.part ((x.take h).drop l)
theorem DF (s:Sl α) (lo hi:Option Int) (n:Nat) (hn:n=aE.size α):iI n (cU s) lo hi=(g_ s lo hi).bind fun x=>some (cU x):=by
 subst hn
 cases s with
 | nil=>simp only[cU,Sl.k,kM,iI,g_,Sl.l,List.length_nil];cases dR 0 lo hi <;> rfl
 | emp=>simp only[cU,Sl.k,kM,iI,g_,Sl.l,List.length_nil];cases dR 0 lo hi <;> rfl
 | row l=>simp only[cU,Sl.k,kM,iI,g_,Sl.l,if_true,hO];cases dR l.length lo hi <;> simp[rows,List.map_take,List.map_drop]
 | part l=>simp only[cU,Sl.k,kM,iI,g_,Sl.l,if_true,hO];cases dR l.length lo hi <;> simp[rows,List.map_take,List.map_drop]
end
theorem FW (m:Tb aL) (n:Nat) (a:Bool) (cs:List V):lQ m (.load n a) [.v (.fptr cs)]=(cut cs 0 n).bind fun r=>(mk a r).bind fun x=>some (.v x):=by
 simp only[lQ,dX]
 cases cut cs 0 n with
 | none=>rfl
 | some r=>simp only[Zc];cases mk a r <;> rfl
end Go.VE
namespace Go.VE
section
variable {α:Type} [aE α]
def dF (s:Sl α):aL:=.sl s.k (aE.size α) (rows s.l)
def Sl.lW (s:Sl α) (i:Int):Option Nat:=if 0≤i∧i.toNat<s.l.length then some i.toNat else none
def Sl.get (s:Sl α) (i:Nat):Option α:=s.l[i]?
def Sl.put (s:Sl α) (i:Nat) (x:α):Option (Sl α):=
 if i<s.l.length then some (match s with|.row l=>.row (l.set i x)|.part l=>.part (l.set i x)|s=>s)else none
def gI (s:Sl α) (x:α):Option (Sl α):=if s.l.length+1≤2147483648 then some (.row (s.l++[x]))else none
def pz (n:Int) (z:α):Option (Sl α):=if 0≤n∧n≤2147483648 then some (.row (List.replicate n.toNat z))else none
end
section
variable {α:Type} [aE α] {N:Nat→FuncId} {m:Tb aL}
def EH (n d:Nat) (o:Option aL) (i:Int):Option SV:=
 match o with
 | some (.sl k es xs)=>if b_ k∧es=n∧0≤i∧i.toNat<xs.length then some (.el d i.toNat 0)else none
 | _=>none
theorem Kc (n d:Nat) (k:IntKind) (i:Int):hY N m (.idxS n) [.own d,.v (.int k i)]=EH n d (ak m d) i:=by
 simp only[hY,d_,vn,EH]
 cases ak m d with
 | none=>rfl
 | some o=>cases o <;> rfl
theorem JZ (n d:Nat) (s:Sl α) (i:Int) (h:n=aE.size α):EH n d (some (dF s)) i=(s.lW i).bind fun j=>some (.el d j 0):=by
 subst h;simp only[EH,dF,hO,true_and,Sl.lW]
 cases s with
 | nil=>simp[Sl.l,Sl.k,b_]
 | emp=>simp[Sl.l,Sl.k,b_]
 | row l=>simp only[Sl.k,Sl.l,b_,true_and];by_cases h:0≤i∧i.toNat<l.length <;> simp[h]
 | part l=>simp only[Sl.k,Sl.l,b_,true_and];by_cases h:0≤i∧i.toNat<l.length <;> simp[h]
def Ep (o:Option aL):Option SV:=
 match o with
 | some (.sl _ _ xs)=>some (.v (.int .i64 xs.length))
 | _=>none
theorem Hg (d:Nat):hY N m .lenSl [.own d]=Ep (ak m d):=by
 simp only[hY,d_,vn,Ep]
 cases ak m d with
 | none=>rfl
 | some o=>cases o <;> rfl
theorem JX (s:Sl α):Ep (some (dF s))=some (.v (.int .i64 s.l.length)):=by simp[Ep,dF,hO]
def DI (n:Nat) (a:Bool) (o:Nat) (ob:Option aL):Option SV:=
 match ob with
 | some (.box cs)=>uR n a ((cs.drop o).take n)
 | _=>none
theorem SI (n:Nat) (a:Bool) (d o:Nat):lQ m (.load n a) [.ptr d o]=DI n a o (ak m d):=by
 simp only[lQ,DI];rfl
theorem Fg (n:Nat) (a:Bool) (o:Nat) (cs:List SV):DI n a o (some (.box cs))=uR n a ((cs.drop o).take n):=rfl
def y7 (n:Nat) (a:Bool) (i o:Nat) (ob:Option aL):Option SV:=
 match ob with
 | some (.sl _ _ xs)=>match xs[i]? with
  | some cs=>((cut cs o n).bind (mk a)).map .v
  | none=>none
 | _=>none
theorem Qf (n:Nat) (a:Bool) (d i o:Nat):lQ m (.load n a) [.el d i o]=y7 n a i o (ak m d):=by
 simp only[lQ,y7];rfl
theorem Gk (n:Nat) (a:Bool) (i o:Nat) (s:Sl α):y7 n a i o (some (dF s))=(s.get i).bind fun x=>(cut (cells x) o n).bind fun r=>(mk a r).bind fun y=>some (.v y):=by
 simp only[y7,dF,Sl.get,rows,List.getElem?_map]
 cases s.l[i]? with
 | none=>rfl
 | some x=>
  simp only[Option.map_some,Zc]
  cases cut (cells x) o n with
  | none=>rfl
  | some r=>simp only[Zc];cases mk a r <;> rfl
theorem Oy (z:α) (n:Int) (d:Nat) (size:Nat) (zero:List V) (h:zero=cells z) (h2:size=aE.size α) :
 kT m (.makeSl size zero) [.v (.int .i64 n),.v (.int .i64 n)] d=(pz n z).bind fun s=>some (dF s,.own d):=by
 subst h h2;simp only[kT,pz,true_and,Int.le_refl];split
 ·simp[dF,Sl.k,Sl.l,rows,List.map_replicate]
 ·rfl
def uU (st:St) (d i o size:Nat) (x:V) (ob:Option aL):Option (SV×St):=
 match ob with
 | some (.sl k es xs)=>match xs[i]? with
  | some cs=>if x.cells.length=size∧o+size≤cs.length∧x.cells.all V.one=true then
   some (.v .undef,{ st with m:=bl st.m d (.sl k es (xs.set i (cs.take o++x.cells++cs.drop (o+x.cells.length)))) })else none
  | none=>none
 | _=>none
theorem Es (st:St) (dst:Option Nat) (size d i o:Nat) (x:V):kI st dst (.store size) [.el d i o,.v x]=uU st d i o size x (ak st.m d):=by
 simp only[kI,uU];rfl
theorem DS (g:Tb SV) (p:List Nat) (w:List (List V)) (mo:Bool) (y:Nat) (d i size:Nat) (x:V) (a:α) (hx:x.cells=cells a) (hs:size=aE.size α) (s:Sl α) :
 uU ⟨g,m,p,w,mo,y⟩ d i 0 size x (some (dF s))=(s.put i a).bind fun s'=>some (.v .undef,⟨g,bl m d (dF s'),p,w,mo,y⟩):=by
 have h1:(cells a).all V.one=true:=aE.one a;have hl:∀b:α,(cells b).length=aE.size α:=aE.len;subst hs;simp only[uU,dF,rows,List.getElem?_map,hx,Sl.put]
 by_cases hi:i<s.l.length
 ·have hg:s.l[i]? = some s.l[i]:=Ze hi;rw[if_pos hi,hg];simp only[Option.map_some,hl,h1,Zc];rw[if_pos ⟨trivial,by omega,trivial⟩]
  cases s with
  | nil=>simp[Sl.l]at hi
  | emp=>simp[Sl.l]at hi
  | row l=>simp[Sl.k,Sl.l,rows,List.drop_of_length_le,hl,List.map_set]
  | part l=>simp[Sl.k,Sl.l,rows,List.drop_of_length_le,hl,List.map_set]
 ·rw[if_neg hi,List.getElem?_eq_none (by omega)];rfl
def pq (st:St) (t n:Nat) (s:SV) (xs ys:Option (List (List V))):Option (SV×St):=
 match xs,ys with
 | some _,some []=>some (s,st)
 | some xs,some ys=>
  if xs.length+ys.length≤2147483648∧zk s=true then
   if St.new { st with m:=giveUp st.m s } t then some (.own t,{ st with m:=bl (giveUp st.m s) t (.sl .row n (xs++ys)) })else none
  else none
 | _,_=>none
theorem Ag (st:St) (t n:Nat) (s x:SV):kI st (some t) (.append n) [s,x]=pq st t n s (lp st.m n s) (lp st.m n x):=by
 cases s <;> cases x <;> (simp only[kI,pq];rfl)
def EC (n:Nat) (o:Option aL):Option (List (List V)):=
 match o with
 | some (.sl k es xs)=>if b_ k then(if es=n then some xs else none)else some []
 | _=>none
theorem Dp (n d:Nat):lp m n (.own d)=EC n (ak m d):=by
 simp only[lp,EC]
 cases ak m d with
 | none=>rfl
 | some ob=>cases ob <;> rfl
theorem zz (n:Nat) (s:Sl α) (h:n=aE.size α):EC n (some (dF s))=some (rows s.l):=by
 subst h;cases s <;> simp[EC,dF,Sl.k,Sl.l,b_,rows]
theorem JC (n:Nat):lp m n (.v .ay)=some []:=rfl
theorem J3 (n:Nat):lp m n (.v .dY)=some []:=rfl
theorem Gg (g:Tb SV) (p:List Nat) (w:List (List V)) (mo:Bool) (y:Nat) (t n d:Nat) (l:List α) (x:α) (h:n=aE.size α):pq ⟨g,m,p,w,mo,y⟩ t n (.own d) (some (rows l)) (some (rows [x])) =
 (gI (.row l) x).bind fun s=>if St.new ⟨g,fN d m,p,w,mo,y⟩ t then some (.own t,⟨g,bl (fN d m) t (dF s),p,w,mo,y⟩)else none:=by
 subst h;have e:(rows l).length+(rows [x]).length=l.length+1:=by simp[hO]
 by_cases h:l.length+1≤2147483648
 ·have h1:gI (.row l) x=some (.row (l++[x])):=if_pos h;have h2:pq ⟨g,m,p,w,mo,y⟩ t (aE.size α) (.own d) (some (rows l)) (some (rows [x]))=if St.new ⟨g,fN d m,p,w,mo,y⟩ t then some (.own t,⟨g,bl (fN d m) t (.sl .row (aE.size α) (rows l++rows [x])),p,w,mo,y⟩)else none:=if_pos ⟨by omega,rfl⟩
  rw[h1,h2];simp only[Zc,dF,Sl.k,Sl.l,rows,List.map_append,List.map_cons,List.map_nil]
 ·have h1:gI (.row l) x=none:=if_neg h;have h2:pq ⟨g,m,p,w,mo,y⟩ t (aE.size α) (.own d) (some (rows l)) (some (rows [x]))=none:=if_neg (fun q=>h (by omega))
  rw[h1,h2];rfl
theorem E0 (g:Tb SV) (p:List Nat) (w:List (List V)) (mo:Bool) (y:Nat) (t n:Nat) (x:α) (h:n=aE.size α):pq ⟨g,m,p,w,mo,y⟩ t n (.v .ay) (some []) (some (rows [x])) =
 if St.new ⟨g,m,p,w,mo,y⟩ t then some (.own t,⟨g,bl m t (dF (.row [x])),p,w,mo,y⟩)else none:=by
 subst h;simp[pq,rows,zk,giveUp,dF,Sl.k,Sl.l];rfl
theorem GI (g:Tb SV) (p:List Nat) (w:List (List V)) (mo:Bool) (y:Nat) (t n:Nat) (x:α) (h:n=aE.size α):pq ⟨g,m,p,w,mo,y⟩ t n (.v .dY) (some []) (some (rows [x])) =
 if St.new ⟨g,m,p,w,mo,y⟩ t then some (.own t,⟨g,bl m t (dF (.row [x])),p,w,mo,y⟩)else none:=by
 subst h;simp[pq,rows,zk,giveUp,dF,Sl.k,Sl.l];rfl
end
theorem rX (g:Tb SV) (m:Tb aL) (p:List Nat) (w:List (List V)) (mo:Bool) (y d:Nat):St.new ⟨g,m,p,w,mo,y⟩ d=(!(p.contains d)&&(ak m d).isNone && !(pP d g) && !(nj d m)):=rfl
theorem mV (d:Nat):pP d []=false:=rfl
theorem lK (d n:Nat) (x:SV) (r:Tb SV):pP d ((n,x)::r)=(SV.cz d x||pP d r):=rfl
theorem mY (d:Nat):nj d []=false:=rfl
theorem lI (d n:Nat) (x:aL) (r:Tb aL):nj d ((n,x)::r)=(aL.cz d x||nj d r):=rfl
theorem sq (d:Nat) (x:V):SV.cz d (.v x)=false:=rfl
theorem n9 (d e:Nat):SV.cz d (.own e)=(e==d):=rfl
theorem om (d e o:Nat):SV.cz d (.ptr e o)=(e==d):=rfl
theorem qc (d e i o:Nat):SV.cz d (.el e i o)=(e==d):=rfl
theorem pX (d e:Nat):SV.cz d (.mp e)=(e==d):=rfl
theorem n7 (d:Nat) (f:FuncId) (a b:List SV):SV.cz d (.clo f a b)=(SV.c_ d a||SV.c_ d b):=rfl
theorem ot (d:Nat) (l:List SV):SV.cz d (.tup l)=SV.c_ d l:=rfl
theorem mT (d:Nat):SV.c_ d []=false:=rfl
theorem lU (d:Nat) (x:SV) (r:List SV):SV.c_ d (x::r)=(SV.cz d x||SV.c_ d r):=rfl
theorem mZ (d:Nat) (cs:List SV):aL.cz d (.box cs)=SV.c_ d cs:=rfl
theorem AE (m:Tb aL) (n:Nat):cj m n []=some []:=by cases n <;> simp only[cj]
theorem yf (m:Tb aL) (n:Nat) (x:SV) (r:List SV):cj m n (x::r)=(dI m n x).bind fun y=>(cj m n r).bind fun s=>some (y::s):=by
 cases n <;> (simp only[cj];cases dI m _ x <;> (try rfl) <;> (cases cj m _ r <;> rfl))
theorem Lk (m:Tb aL) (n:Nat) (x:V):dI m n (.v x)=some x:=by cases n <;> simp only[dI]
theorem Ig (m:Tb aL) (n:Nat) (f:FuncId) (a b:List SV):dI m (n+1) (.clo f a b)=(cj m n a).bind fun x=>(cj m n b).bind fun y=>some (.clo f x y):=by
 simp only[dI];cases cj m n a <;> (try rfl) <;> (cases cj m n b <;> rfl)
theorem HA (m:Tb aL) (n:Nat) (l:List SV):dI m (n+1) (.tup l)=(cj m n l).bind fun x=>some (.tup x):=by
 simp only[dI];cases cj m n l <;> rfl
theorem nR {α:Type} (n:Nat):fN n ([]:Tb α)=[]:=rfl
theorem m6 {α:Type} (n k:Nat) (x:α) (r:Tb α):fN n ((k,x)::r)=if k=n then fN n r else(k,x)::fN n r:=rfl
theorem mapM_nil (f:List SV→List SV):mapM f []=[]:=rfl
end Go.VE
namespace Go.VE
section
variable {N:Nat→FuncId} {m:Tb aL}
theorem Kr:result []=.tup []:=rfl
theorem Km (x:V):result [x]=x:=rfl
theorem JN (x y:V) (l:List V):result (x::y::l)=.tup (x::y::l):=rfl
theorem Ce (p:qH) (a:V):hY N m p [.v a]=(aI N p [a]).bind fun x=>some (.v x):=Dj N m p _ [a] rfl
theorem th (p:qH) (a b:V):hY N m p [.v a,.v b]=(aI N p [a,b]).bind fun x=>some (.v x):=Dj N m p _ [a,b] rfl
theorem nT (l:List V):d_ (l.map .v)=some l:=by
 induction l with
 | nil=>rfl
 | cons a l ih=>simp only[List.map_cons,d_,ih];rfl
theorem uD (n:Nat) (l:List V):cj m n (l.map .v)=some l:=by
 induction l with
 | nil=>exact AE m n
 | cons a l ih=>rw[List.map_cons,yf,Lk,ih];rfl
theorem Sl.Jh {α:Type} (l:List α):(Sl.row l).l=l:=rfl
theorem FQ (cs:List V):iO cs [] []=some cs:=rfl
theorem Dx (cs:List V) (off size:Nat) (pl:List (Nat×Nat)) (v:V) (vs:List V):iO cs ((off,size)::pl) (v::vs) =
 if v.cells.length=size∧off+v.cells.length≤cs.length then iO (cs.take off++v.cells++cs.drop (off+v.cells.length)) pl vs else none:=by
 simp only[iO]
 by_cases h:v.cells.length=size <;> by_cases h2:off+v.cells.length≤cs.length
 ·rw[if_neg (by simp[h];omega),if_pos ⟨h,h2⟩]
 ·rw[if_pos (by simp[h];omega),if_neg (fun q=>h2 q.2)]
 ·rw[if_pos (by simp[h]),if_neg (fun q=>h q.1)]
 ·rw[if_pos (by simp[h]),if_neg (fun q=>h q.1)]
theorem L_ (k:IntKind) (n:Int):V.cells (.int k n)=[.int k n]:=rfl
theorem JQ (n:Bool):V.cells (.bool n)=[.bool n]:=rfl
theorem LI (n:ByteArray):V.cells (.str n)=[.str n]:=rfl
theorem L7:V.cells .ay=[.ay]:=rfl
theorem mS (k:IntKind) (n:Int):V.one (.int k n)=true:=rfl
theorem kQ (n:Bool):V.one (.bool n)=true:=rfl
theorem mQ (n:ByteArray):V.one (.str n)=true:=rfl
end
end Go.VE
namespace Go.VE
section
variable {S:Sys} {c:ck} {β γ δ:Type} {Q:Out×St→Option β} {L:Option β} {e:γ→Option β}
theorem Ga {dr:Bool} {fr:List Nat} {d:Option Nat} {gd:Option (Nat×Bool)} {now:Bool} {k:K} {as:List Arg} {st:St} (h:wanted st.g gd=some true) :
 eR S c dr fr ⟨d,gd,now,k,as,[],[]⟩ st=eR S c dr fr ⟨d,none,now,k,as,[],[]⟩ st:=by
 unfold eR;rw[h];rfl
theorem wv (dr:Bool) (st:St):xd dr [] st=some st:=by cases dr <;> rfl
def kW (f:SV→Option V):List SV→Option (List V)
 | []=>some []
 | x::r=>(f x).bind fun y=>(kW f r).bind fun s=>some (y::s)
def gT (m:Tb aL):Nat→SV→Option V
 | 0,x=>match x with
  | .v y=>some y
  | .own d=>match ak m d with
   | some (.sl k es xs)=>some (kM k es xs)
   | _=>none
  | .mp d=>match ak m d with
   | some (.mp kvs)=>some (.fmap kvs)
   | _=>none
  | _=>none
 | n+1,x=>match x with
  | .v y=>some y
  | .own d=>match ak m d with
   | some (.sl k es xs)=>some (kM k es xs)
   | _=>none
  | .ptr d o=>match ak m d with
   | some (.box cs)=>match kW (gT m n) cs with
    | some xs=>if o≤xs.length then some (.fptr (xs.drop o))else none
    | none=>none
   | _=>none
  | .mp d=>match ak m d with
   | some (.mp kvs)=>some (.fmap kvs)
   | _=>none
  | .clo f a b=>(kW (gT m n) a).bind fun x=>(kW (gT m n) b).bind fun y=>some (.clo f x y)
  | .tup l=>(kW (gT m n) l).bind fun x=>some (.tup x)
  | _=>none
theorem vl (m:Tb aL):∀(n:Nat),(∀x,dI m n x=gT m n x)∧∀l,cj m n l=kW (gT m n) l:=by
 have hl:∀n,(∀x,dI m n x=gT m n x)→∀l,cj m n l=kW (gT m n) l:=by
  intro n h l
  induction l with
  | nil=>exact AE m n
  | cons a l ih=>rw[yf,h a,ih];rfl
 intro n
 induction n with
 | zero=>
  have h0:∀x,dI m 0 x=gT m 0 x:=by
   intro x;cases x <;> simp only[dI,gT] <;> rfl
  exact⟨h0,hl 0 h0⟩
 | succ n ih=>
  have h1:∀x,dI m (n+1) x=gT m (n+1) x:=by
   intro x
   cases x with
   | ptr d o=>simp only[dI,gT,ih.2];rfl
   | clo f a b=>rw[Ig,ih.2,ih.2];rfl
   | tup l=>rw[HA,ih.2];rfl
   | _=>simp only[dI,gT] <;> rfl
  exact⟨h1,hl _ h1⟩
noncomputable def qn (S:Sys) (c:ck) (dr:Bool):List Nat→List RO→(St→Option β)→St→Option β
 | _,[],k,st=>k st
 | fr,o::r,k,st=>((xd dr o.pre st).bind (eR S c dr fr o.strip)).bind fun st'=>qn S c dr (if dr then mq fr o.strip else fr) r k (kL o.dead st')
theorem zN (dr:Bool):∀(l:List RO) (fr:List Nat) (k:St→Option β) (st:St),qn S c dr fr l k st=(jH S c dr fr l st).bind k
 | [],_,_,_=>rfl
 | o::r,fr,k,st=>by
  simp only[qn,jH]
  cases (xd dr o.pre st).bind (eR S c dr fr o.strip)with
  | none=>rfl
  | some st'=>exact zN dr r _ k _
noncomputable def jW (S:Sys) (c:ck):RC→(St→Option β)→(Nat→St→Option β)→(St→Option β)→St→Option β
 | .skip,n,_,_,st=>n st
 | .ops l,n,_,_,st=>qn S c false [] l n st
 | .gb l,n,_,_,st=>qn S c true [] l n st
 | .seq a b,n,x,r,st=>jW S c a (fun st=>jW S c b n x r st) x r st
 | .cond y a b,n,x,r,st=>match mD S.N st.g y with
  | some (.v (.bool t))=>ao t (jW S c a n x r st) (jW S c b n x r st)
  | _=>none
 | .block id a,n,x,r,st=>jW S c a n (fun k st=>if k=id then n st else x k st) r st
 | .loop a,n,x,r,st=>(kf (bG S c a) st).bind fun q=>match q with|(.norm,st)=>n st|(.exit k,st)=>x k st|(.ret,st)=>r st
 | .each g ps a b,n,x,r,st=>(bG S c (.each g ps a b) st).bind fun q=>match q with|(.norm,st)=>n st|(.exit k,st)=>x k st|(.ret,st)=>r st
 | .exit k,_,x,_,st=>x k st
 | .ret,_,_,r,st=>r st
 | .gh g a,n,x,r,st=>(ghost g st).bind fun st=>jW S c a n x r st
 | .hg a g,n,x,r,st=>jW S c a (fun st=>(ghost g st).bind n) x r st
def zF (n:St→Option β) (x:Nat→St→Option β) (r:St→Option β):Out×St→Option β
 | (.norm,st)=>n st
 | (.exit k,st)=>x k st
 | (.ret,st)=>r st
theorem xY:∀(rc:RC) (n:St→Option β) (x:Nat→St→Option β) (r:St→Option β) (st:St),jW S c rc n x r st=(bG S c rc st).bind (zF n x r):=by
 intro rc
 induction rc with
 | skip=>intros;rfl
 | ops l=>intro n x r st;simp only[jW,bG,zN];cases jH S c false [] l st <;> rfl
 | gb l=>intro n x r st;simp only[jW,bG,zN];cases jH S c true [] l st <;> rfl
 | seq a b iha ihb=>
  intro n x r st;simp only[jW,bG,iha,ihb]
  cases h:bG S c a st with
  | none=>rfl
  | some q=>obtain⟨o,st'⟩:=q;cases o <;> rfl
 | cond y a b iha ihb=>
  intro n x r st;simp only[jW,bG,iha,ihb]
  cases mD S.N st.g y with
  | none=>rfl
  | some v=>cases v with
   | v z=>cases z with
    | bool t=>cases t <;> rfl
    | _=>rfl
   | _=>rfl
 | block id a ih=>
  intro n x r st;simp only[jW,bG,ih]
  cases h:bG S c a st with
  | none=>rfl
  | some q=>
   obtain⟨o,st'⟩:=q
   cases o with
   | exit k=>simp only[Zc,zF];split <;> rfl
   | _=>rfl
 | loop a ih=>
  intro n x r st;simp only[jW,bG];rfl
 | each g ps a b iha ihb=>
  intro n x r st;simp only[jW];rfl
 | exit k=>intros;rfl
 | ret=>intros;rfl
 | gh g a ih=>
  intro n x r st;simp only[jW,bG,ih];cases ghost g st <;> rfl
 | hg a g ih=>
  intro n x r st;simp only[jW,bG,ih]
  cases h:bG S c a st with
  | none=>rfl
  | some q=>
   obtain⟨o,st'⟩:=q
   cases o with
   | norm=>simp only[Zc,zF];cases ghost g st' <;> rfl
   | _=>rfl
section
variable (S c Q)
mutual
noncomputable def jv:List Fm→St→Option β
 | []=>fun st=>Q (.norm,st)
 | .seq b::fs=>fun st=>jW S c b (jv fs) (jF fs) (fun st=>Q (.ret,st)) st
 | .blk _::fs=>jv fs
 | .gst g::fs=>fun st=>(ghost g st).bind (jv fs)
noncomputable def jF:List Fm→Nat→St→Option β
 | []=>fun k st=>Q (.exit k,st)
 | .seq _::fs=>jF fs
 | .blk id::fs=>fun k st=>if k=id then jv fs st else jF fs k st
 | .gst _::fs=>jF fs
end
noncomputable def jL (rc:RC) (fs:List Fm) (st:St):Option β:=jW S c rc (jv S c Q fs) (jF S c Q fs) (fun st=>Q (.ret,st)) st
end
section
variable {dr:Bool} {fr:List Nat} {d:Nat} {dst:Option Nat} {now:Bool} {as:List Arg} {st:St} {α:Type} [aE α]
theorem IP {p:qH} {svs:List SV} {m:Option δ} {v:δ→SV} (hs:bu S.N st.g as=some svs) (hi:isSlice p=false) (h:hY S.N st.m p svs=m.bind fun x=>some (v x)) :
 eR S c dr fr ⟨dst,none,now,.p p,as,[],[]⟩ st=m.bind fun x=>some (cO st dst (v x)):=by
 rw[Jl _ _ _ _ _ _ _ hi,hs];simp only[Zc,h];cases m <;> rfl
theorem zL {p:qH} {svs:List SV} {v:SV} (hs:bu S.N st.g as=some svs) (hi:isSlice p=false) (h:hY S.N st.m p svs=some v) :
 eR S c dr fr ⟨dst,none,now,.p p,as,[],[]⟩ st=some (cO st dst v):=by
 rw[Jl _ _ _ _ _ _ _ hi,hs];simp only[Zc,h]
theorem IK {n:Nat} {s:Sl α} {k:IntKind} {i:Int} (hs:bu S.N st.g as=some [.v (cU s),.v (.int k i)]) (hn:n=aE.size α) :
 eR S c dr fr ⟨dst,none,now,.p (.idxS n),as,[],[]⟩ st=(idx s i).bind fun x=>some (cO st dst (.v (.fptr (cells x)))):=
 IP hs rfl (by rw[th,De s k i n hn];cases idx s i <;> rfl)
theorem Qe {n e:Nat} {s:Sl α} {k:IntKind} {i:Int} (hs:bu S.N st.g as=some [.own e,.v (.int k i)]) (ho:ak st.m e=some (dF s)) (hn:n=aE.size α) :
 eR S c dr fr ⟨dst,none,now,.p (.idxS n),as,[],[]⟩ st=(s.lW i).bind fun j=>some (cO st dst (.el e j 0)):=
 IP hs rfl (by rw[Kc,ho,JZ n e s i hn])
theorem I5 {s:Sl α} (hs:bu S.N st.g as=some [.v (cU s)]):eR S c dr fr ⟨dst,none,now,.p .lenSl,as,[],[]⟩ st=some (cO st dst (.v (.int .i64 s.l.length))):=
 zL hs rfl (by rw[Ce,wm];rfl)
theorem KC {e:Nat} {s:Sl α} (hs:bu S.N st.g as=some [.own e]) (ho:ak st.m e=some (dF s)):eR S c dr fr ⟨dst,none,now,.p .lenSl,as,[],[]⟩ st=some (cO st dst (.v (.int .i64 s.l.length))):=
 zL hs rfl (by rw[Hg,ho,JX])
theorem QW {q:Option KT} {u:Option Nat} {k k':IntKind} {a b:Int} (hs:bu S.N st.g as=some [.v (.int k a),.v (.int k' b)]):eR S c dr fr ⟨dst,none,now,.p (.bin q u .shr),as,[],[]⟩ st=(tj k a b).bind fun x=>some (cO st dst (.v (.int k x))):=
 IP hs rfl (by rw[th,KG];cases tj k a b <;> rfl)
theorem HK {s:ByteArray} {k:IntKind} {n:Int} (hs:bu S.N st.g as=some [.v (.str s),.v (.int k n)]):eR S c dr fr ⟨dst,none,now,.p .idxStr,as,[],[]⟩ st=(gP s n).bind fun x=>some (cO st dst (.v (.int .u8 x))):=
 IP hs rfl (by rw[th,FB];cases gP s n <;> rfl)
theorem MR {n e i o:Nat} {a:Bool} {s:Sl α} {v:α→V} (hs:bu S.N st.g as=some [.el e i o]) (hd:(!dr||now||eO fr [.el e i o])=true) (ho:ak st.m e=some (dF s)) (hv:∀x:α,(cut (cells x) o n).bind (mk a)=some (v x)) :
 eR S c dr fr ⟨dst,none,now,.r (.load n a),as,[],[]⟩ st=(s.get i).bind fun x=>some (cO st dst (.v (v x))):=by
 rw[A1,hs];simp only[Zc,hd,if_true,Qf,ho,Gk]
 cases s.get i with
 | none=>rfl
 | some x=>
  simp only[Zc];have:=hv x
  cases hc:cut (cells x) o n with
  | none=>rw[hc]at this;cases this
  | some r=>rw[hc]at this;simp only[Zc]at this ⊢;rw[this];rfl
theorem JP {n e i:Nat} {s:Sl α} {x:V} {a:α} (hs:bu S.N st.g as=some [.el e i 0,.v x]) (hd:(!dr||now)=true) (ho:ak st.m e=some (dF s)) (hx:x.cells=cells a) (hn:n=aE.size α) :
 eR S c dr fr ⟨dst,none,now,.l (.store n),as,[],[]⟩ st=(s.put i a).bind fun s'=>some (cO { st with m:=bl st.m e (dF s') } dst (.v .undef)):=by
 rw[s9,hs];simp only[Zc,hd,if_true,Es,ho];rw[DS st.g st.pin st.want st.more st.yid e i n x a hx hn s];cases s.put i a <;> rfl
theorem M4 {n:Nat} {z:α} {zero:List V} {i:Int} (hs:bu S.N st.g as=some [.v (.int .i64 i),.v (.int .i64 i)]) (hz:zero=cells z) (hn:n=aE.size α) (hw:st.new d=true) :
 eR S c dr fr ⟨some d,none,now,.a (.makeSl n zero),as,[],[]⟩ st=(pz i z).bind fun s=>some { st with g:=bl st.g d (.own d),m:=bl st.m d (dF s) }:=by
 rw[yG,hs];simp only[Zc,hw,if_true];rw[Oy z i d n zero hz hn];cases pz i z <;> rfl
theorem QX {n e u:Nat} {s:Sl α} {x:α} (hs:bu S.N st.g as=some [.own e,.own u]) (hd:(!dr||now)=true) (ho:ak st.m e=some (dF s)) (hu:ak st.m u=some (dF (.row [x]))) (hn:n=aE.size α) (hw:St.new { st with m:=fN e st.m } d=true) :
 eR S c dr fr ⟨some d,none,now,.l (.append n),as,[],[]⟩ st=(gI s x).bind fun s'=>some { st with g:=bl st.g d (.own d),m:=bl (fN e st.m) d (dF s') }:=by
 rw[s9,hs];simp only[Zc,hd,if_true,Ag,Dp,ho,hu];rw[zz n s hn,zz n (.row [x]) hn];have:=Gg (m:=st.m) st.g st.pin st.want st.more st.yid d n e s.l x hn;simp only[Sl.Jh];rw[show pq st d n (.own e) (some (rows s.l)) (some (rows [x]))=_ from this];have ha:gI (.row s.l) x=gI s x:=by cases s <;> rfl
 rw[ha]
 cases gI s x with
 | none=>rfl
 | some s'=>
  simp only[Zc];rw[if_pos hw];rfl
theorem KI {n u:Nat} {x:α} {v:V} (hv:v=.ay∨v=.dY) (hs:bu S.N st.g as=some [.v v,.own u]) (hd:(!dr||now)=true) (hu:ak st.m u=some (dF (.row [x]))) (hn:n=aE.size α) (hw:st.new d=true) :
 eR S c dr fr ⟨some d,none,now,.l (.append n),as,[],[]⟩ st=some { st with g:=bl st.g d (.own d),m:=bl st.m d (dF (.row [x])) }:=by
 rw[s9,hs];simp only[Zc,hd,if_true,Ag,Dp,hu];rw[zz n (.row [x]) hn];simp only[Sl.Jh];rcases hv with rfl|rfl
 ·rw[JC,show pq st d n (.v .ay) (some []) (some (rows [x]))=_ from E0 (m:=st.m) st.g st.pin st.want st.more st.yid d n x hn];rw[if_pos hw];rfl
 ·rw[J3,show pq st d n (.v .dY) (some []) (some (rows [x]))=_ from GI (m:=st.m) st.g st.pin st.want st.more st.yid d n x hn];rw[if_pos hw];rfl
theorem Me {f:FuncId} {svs args:List SV} {cs:List V} {m:Option δ} {E:δ→List V} (hc:jQ c f cs=m.bind fun r=>some (E r)) (hk:S.E.keep f=false) (hs:bu S.N st.g as=some svs) (hf:qf svs=some (f,args))
 (hsh:kW (gT st.m 8) args=some cs) (hl:V.dc 8 cs=true) (ho:((!dr||now)||gY st.m fr args)=true) (hr:∀r,(V.lvl 8 (result (E r))&&((result (E r)).scalar||(d_ args).isSome))=true) :
 eR S c dr fr ⟨dst,none,now,.c,as,[],[]⟩ st=m.bind fun r=>some (cO st dst (.v (result (E r)))):=by
 rw[Oi dr fr dst now as st svs f args hs hf,Kk _ _ _ _ _ _ _ hk,(vl st.m 8).2,hsh];simp only[Zc,hl,ho,Bool.and_self,if_true,hc]
 cases m with
 | none=>rfl
 | some r=>
  simp only[Zc,EY];rw[if_pos (hr r)];rfl
end
end
end Go.VE
namespace Go.VE
section
variable {S:Sys} {c:ck} {β γ:Type} {Q:Out×St→Option β} {L:Option β} {e:γ→Option β}
theorem qd (rc:RC) (st:St):jL S c Q rc [] st=(bG S c rc st).bind Q:=by
 unfold jL;rw[xY]
 congr 1
 funext q;obtain⟨o,st⟩:=q
 cases o <;> rfl
theorem uT (rc:RC) (st:St):bG S c rc st=jL S c some rc [] st:=by
 rw[qd];cases bG S c rc st <;> rfl
def c6 (rs:List RV):Out×St→Option (List V)
 | (.exit _,_)=>none
 | (_,st)=>(lX st rs).bind (kW (gT st.m 8))
theorem JY (rs:List RV):BZ rs=c6 rs:=by
 funext q;obtain⟨o,st⟩:=q
 cases o
 ·simp only[BZ,c6];congr 1;funext l;exact(vl st.m 8).2 l
 ·rfl
 ·simp only[BZ,c6];congr 1;funext l;exact(vl st.m 8).2 l
theorem Jq {S:Sys} {T:ql} {f:FuncId} {rf:RF} (hT:T f=some rf) (as:List V) (hn:as.length≤rf.na):jQ (fJ S T) f as=jL S (fJ S T) (c6 rf.rs) rf.body [] (start (as.map .v) []):=by
 rw[Ib hT as hn,←CB,qd,JY]
end
end Go.VE
namespace Go.VE
def jZ {α σ ε ρ:Type} (step:α→σ→Option (Fw σ ε ρ)):List α→σ→Option (Fw σ ε ρ)
 | [],s=>some (.n s)
 | x::xs,s=>(step x s).bind fun w=>match w with
  | .n s'=>jZ step xs s'
  | .x e=>some (.x e)
  | .r b=>some (.r b)
def Fw.qV {ν ε ρ γ:Type} (fn:ν→γ) (fx:ε→γ) (fr:ρ→γ):Fw ν ε ρ→γ
 | .n a=>fn a
 | .x e=>fx e
 | .r b=>fr b
def Fw.lx {ν ε ρ:Type} (eν:ν→Tb aL) (eε:ε→Nat×Tb aL) (eρ:ρ→Tb aL):Fw ν ε ρ→Out×Tb aL
 | .n a=>(.norm,eν a)
 | .x e=>(.exit (eε e).1,(eε e).2)
 | .r b=>(.ret,eρ b)
def lx (q:Out×St):Option (Out×Tb aL):=some (q.1,q.2.m)
section
variable {S:Sys} {c:ck} {β γ:Type} {Q:Out×St→Option β} {L:Option β} {e:γ→Option β}
noncomputable def nN (S:Sys) (c:ck) (b:RC):Out×St→Option (Out×Tb aL)
 | (.norm,st)=>jL S c lx b [] st
 | _=>none
theorem Dy (ps:List Nat) (a b:RC) (st:St) (x:List V) (m:Tb aL) (hx:x.length=ps.length) :
 gi ps (bG S c a) (bG S c b) st x m=jL S c (nN S c b) a [] ⟨ri st.g ps (x.map .v),m,st.pin++kU st.g,[],true,0⟩:=by
 unfold gi;rw[if_pos hx,qd]
 cases bG S c a ⟨ri st.g ps (x.map .v),m,st.pin++kU st.g,[],true,0⟩with
 | none=>rfl
 | some q=>
  obtain⟨o,st1⟩:=q
  cases o with
  | norm=>
   simp only[Zc,nN];rw[qd];cases bG S c b st1 <;> rfl
  | _=>rfl
end
end Go.VE
namespace Go.VE
def Le {α:Type} (a b:Option α):Prop:=∀r,a=some r→b=some r
section
variable {α:Type}
theorem Le.refl (a:Option α):Le a a:=fun _ h=>h
theorem Le.of_eq {a b:Option α} (h:b=a):Le a b:=fun _ h2=>h.trans h2
theorem Le.trans {a b d:Option α} (h1:Le a b) (h2:Le b d):Le a d:=fun r h=>h2 r (h1 r h)
theorem Le.none (b:Option α):Le (none:Option α) b:=fun r h=>by cases h
theorem Le.bind {β:Type} {a b:Option α} {f g:α→Option β} (h:Le a b) (hf:∀x,Le (f x) (g x)):Le (a.bind f) (b.bind g):=fun r hr=>by
 obtain⟨x,h1,h2⟩:=Zi.1 hr;rw[h x h1];exact hf x r h2
end
section
variable {S:Sys} {c:ck} {β γ δ:Type} {Q:Out×St→Option β} {L:Option β} {e:γ→Option β}
theorem IF {L':Option β} {m:Option γ} (h:L=L') (h2:Le (m.bind e) L'):Le (m.bind e) L:=h▸h2
theorem BB {dr:Bool} {fr:List Nat} {dst:Option Nat} {now:Bool} {as:List Arg} {st:St} {f:FuncId} {svs args:List SV} {cs:List V} {m:Option δ} {E:δ→List V} (hc:Le (m.bind fun r=>some (E r)) (jQ c f cs)) (hk:S.E.keep f=false) (hs:bu S.N st.g as=some svs) (hf:qf svs=some (f,args))
 (hsh:kW (gT st.m 8) args=some cs) (hl:V.dc 8 cs=true) (ho:((!dr||now)||gY st.m fr args)=true) (hr:∀r,(V.lvl 8 (result (E r))&&((result (E r)).scalar||(d_ args).isSome))=true) :
 Le (m.bind fun r=>some (cO st dst (.v (result (E r))))) (eR S c dr fr ⟨dst,none,now,.c,as,[],[]⟩ st):=by
 intro q hq;obtain⟨r,h1,h2⟩:=Zi.1 hq;have hc':jQ c f cs=(some r).bind fun r=>some (E r):=hc _ (by rw[h1];rfl)
 rw[Me (m:=some r) hc' hk hs hf hsh hl ho hr];exact h2
theorem Ht {σ ε ρ:Type} {f:St→Option (Out×St)} {step:σ→Option (Fw σ ε ρ)} {eσ:σ→St} {eε:ε→Nat×St} {eρ:ρ→St} (h:∀s,Le ((step s).bind fun w=>some (Fw.out eσ eε eρ w)) (f (eσ s))) (s:σ) :
 Le ((bh step s).bind fun w=>some (Fw.out (fun e=>Empty.elim e) eε eρ w)) (kf f (eσ s)):=by
 have key:∀k s r,gF step k s=some r→gB f k (eσ s)=some (Fw.out (fun e=>Empty.elim e) eε eρ r):=by
  intro k
  induction k with
  | zero=>intro s r h;simp[gF]at h
  | succ k ih=>
   intro s r hw;simp only[gF]at hw
   cases hs:step s with
   | none=>rw[hs]at hw;cases hw
   | some w=>
    rw[hs]at hw;have h2:=h s (Fw.out eσ eε eρ w) (by rw[hs];rfl)
    simp only[gB,h2]
    cases w with
    | n a=>exact ih a r hw
    | x e=>cases hw;rfl
    | r b=>cases hw;rfl
 intro r hr;obtain⟨w,h1,h2⟩:=Zi.1 hr;obtain⟨k,hk⟩:=jX.1 h1;cases h2;exact jy.2 ⟨k,key k s w hk⟩
theorem Pu {σ ε ρ:Type} {a:RC} {fs:List Fm} {step:σ→Option (Fw σ ε ρ)} {eσ:σ→St} {eε:ε→Nat×St} {eρ:ρ→St} {s:σ} {fx:ε→Option γ} {fr:ρ→Option γ}
 (hL:L=jL S c Q (.loop a) fs (eσ s)) (h:∀s,Le ((step s).bind fun w=>some (Fw.out eσ eε eρ w)) (jL S c some a [] (eσ s)))
 (hx:∀x,Le ((fx x).bind e) (jF S c Q fs (eε x).1 (eε x).2)) (hr:∀b,Le ((fr b).bind e) (Q (.ret,eρ b))):Le (((bh step s).bind (Fw.elim fx fr)).bind e) L:=by
 subst hL;have h1:jL S c Q (.loop a) fs (eσ s)=(kf (bG S c a) (eσ s)).bind (zF (jv S c Q fs) (jF S c Q fs) (fun st=>Q (.ret,st))):=by
  unfold jL;rw[xY];rfl
 rw[h1];have h2:=Ht (step:=step) (f:=bG S c a) (eσ:=eσ) (eε:=eε) (eρ:=eρ) (fun s=>by rw[uT];exact h s) s
 cases hw:bh step s with
 | none=>exact Le.none _
 | some w=>
  have h3:=h2 _ (by rw[hw];rfl)
  rw[h3]
  cases w with
  | n a=>cases a
  | x a=>exact hx a
  | r a=>exact hr a
theorem Bw {α σ ε ρ:Type} {f:List V→Tb aL→Option (Out×Tb aL)} {step:α→σ→Option (Fw σ ε ρ)} {eI:α→List V} {eσ:σ→Tb aL} {eε:ε→Nat×Tb aL} {eρ:ρ→Tb aL}
 (h:∀x s,Le ((step x s).bind fun w=>some (Fw.lx eσ eε eρ w)) (f (eI x) (eσ s))):∀(xs:List α) (s:σ),Le ((jZ step xs s).bind fun w=>some (Fw.lx eσ eε eρ w)) (kK f (xs.map eI) (eσ s))
 | [],s=>fun r hr=>hr
 | x::xs,s=>by
  simp only[List.map_cons,kK,jZ]
  cases hs:step x s with
  | none=>exact Le.none _
  | some w=>
   have h2:=h x s (Fw.lx eσ eε eρ w) (by rw[hs];rfl)
   rw[h2]
   cases w with
   | n s'=>simp only[Zc,Fw.lx];exact Bw h xs s'
   | x e=>exact Le.refl _
   | r b=>exact Le.refl _
theorem Nl {α σ ε ρ:Type} {g:Arg} {ps:List Nat} {a b:RC} {fs:List Fm} {f:FuncId} {x y:List V} {items:List α} {eI:α→List V} {step:α→σ→Option (Fw σ ε ρ)} {eσ:σ→Tb aL} {eε:ε→Nat×Tb aL} {eρ:ρ→Tb aL} {gt:Tb SV} {s:σ}
 {fn:σ→Option γ} {fx:ε→Option γ} {fr:ρ→Option γ}
 (hL:L=jL S c Q (.each g ps a b) fs ⟨gt,eσ s,[],[],true,0⟩) (hg:mD S.N gt g=some (.v (.clo f x y))) (hi:S.items f x y=some (items.map eI)) (hl:∀x,(eI x).length=ps.length)
 (h:∀x s,Le ((step x s).bind fun w=>some (Fw.lx eσ eε eρ w)) (jL S c (nN S c b) a [] ⟨ri gt ps ((eI x).map .v),eσ s,kU gt,[],true,0⟩))
 (hn:∀s,Le ((fn s).bind e) (jv S c Q fs ⟨gt,eσ s,[],[],true,0⟩))
 (hx:∀x,Le ((fx x).bind e) (jF S c Q fs (eε x).1 ⟨gt,(eε x).2,[],[],true,0⟩)) (hr:∀b,Le ((fr b).bind e) (Q (.ret,⟨gt,eρ b,[],[],true,0⟩))) :
 Le (((jZ step items s).bind (Fw.qV fn fx fr)).bind e) L:=by
 subst hL;have h1:jL S c Q (.each g ps a b) fs ⟨gt,eσ s,[],[],true,0⟩=(bG S c (.each g ps a b) ⟨gt,eσ s,[],[],true,0⟩).bind (zF (jv S c Q fs) (jF S c Q fs) (fun st=>Q (.ret,st))):=by
  unfold jL;rw[xY]
 rw[h1];simp only[bG,hg,hi];have h2:=Bw (step:=step) (f:=gi ps (bG S c a) (bG S c b) ⟨gt,eσ s,[],[],true,0⟩) (eI:=eI) (eσ:=eσ) (eε:=eε) (eρ:=eρ) (fun x s=>by rw[Dy _ _ _ _ _ _ (hl x)];exact h x s) items s
 cases hw:jZ step items s with
 | none=>exact Le.none _
 | some w=>
  have h3:=h2 _ (by rw[hw];rfl)
  rw[h3]
  cases w with
  | n a=>exact hn a
  | x a=>exact hx a
  | r a=>exact hr a
end
end Go.VE
namespace Go.VE
inductive Fo where
 | rc (c:RC)
 | ops (dr:Bool) (fr:List Nat) (l:List RO)
 | nx
 | ex (k:Nat)
 | rt
abbrev ai (g:Tb SV) (m:Tb aL):St:=⟨g,m,[],[],true,0⟩
section
variable (S:Sys) (c:ck) {β:Type} (Q:Out×St→Option β)
noncomputable def rn:Fo→List Fm→St→Option β
 | .rc a,fs,st=>jL S c Q a fs st
 | .ops dr fr l,fs,st=>qn S c dr fr l (jv S c Q fs) st
 | .nx,fs,st=>jv S c Q fs st
 | .ex k,fs,st=>jF S c Q fs k st
 | .rt,_,st=>Q (.ret,st)
noncomputable def sU:Fo→List Fm→St→Option (Fo×List Fm×St)
 | .rc .skip,fs,st=>some (.nx,fs,st)
 | .rc (.ops l),fs,st=>some (.ops false [] l,fs,st)
 | .rc (.gb l),fs,st=>some (.ops true [] l,fs,st)
 | .rc (.seq a b),fs,st=>some (.rc a,.seq b::fs,st)
 | .rc (.cond y a b),fs,st=>match mD S.N st.g y with
  | some (.v (.bool true))=>some (.rc a,fs,st)
  | some (.v (.bool false))=>some (.rc b,fs,st)
  | _=>none
 | .rc (.block id a),fs,st=>some (.rc a,.blk id::fs,st)
 | .rc (.exit k),fs,st=>some (.ex k,fs,st)
 | .rc .ret,fs,st=>some (.rt,fs,st)
 | .rc (.gh g a),fs,st=>match ghost g st with
  | some st'=>some (.rc a,fs,st')
  | none=>none
 | .rc (.hg a g),fs,st=>some (.rc a,.gst g::fs,st)
 | .rc (.loop _),_,_=>none
 | .rc (.each ..),_,_=>none
 | .ops _ _ [],fs,st=>some (.nx,fs,st)
 | .ops dr fr (⟨d,gd,now,k,as,dd,[]⟩::r),fs,st=>match eR S c dr fr ⟨d,gd,now,k,as,[],[]⟩ st with
  | some st'=>some (.ops dr (if dr then mq fr ⟨d,gd,now,k,as,[],[]⟩else fr) r,fs,kL dd st')
  | none=>none
 | .ops false fr (⟨d,gd,now,k,as,dd,x::xs⟩::r),fs,st=>match ghost x st with
  | some st'=>some (.ops false fr (⟨d,gd,now,k,as,dd,xs⟩::r),fs,st')
  | none=>none
 | .ops true _ (⟨_,_,_,_,_,_,_::_⟩::_),_,_=>none
 | .nx,.seq b::fs,st=>some (.rc b,fs,st)
 | .nx,.blk _::fs,st=>some (.nx,fs,st)
 | .nx,.gst g::fs,st=>match ghost g st with
  | some st'=>some (.nx,fs,st')
  | none=>none
 | .nx,[],_=>none
 | .ex k,.seq _::fs,st=>some (.ex k,fs,st)
 | .ex k,.blk id::fs,st=>some (if k=id then .nx else .ex k,fs,st)
 | .ex k,.gst _::fs,st=>some (.ex k,fs,st)
 | .ex _,[],_=>none
 | .rt,_,_=>none
noncomputable def gx:Nat→Fo→List Fm→St→Option (Fo×List Fm×St)
 | 0,fo,fs,st=>some (fo,fs,st)
 | n+1,fo,fs,st=>match sU S c fo fs st with
  | some (fo',fs',st')=>gx n fo' fs' st'
  | none=>none
end
section
variable {S:Sys} {c:ck} {β γ δ:Type} {Q:Out×St→Option β} {e:γ→Option β}
theorem GU {fo fo':Fo} {fs fs':List Fm} {st st':St} (h:sU S c fo fs st=some (fo',fs',st')):rn S c Q fo fs st=rn S c Q fo' fs' st':=by
 cases fo with
 | rc a=>
  cases a with
  | cond y a b=>
   simp only[sU]at h;split at h
   ·rename_i hs;cases h;simp only[rn,jL,jW,hs,ao,if_true]
   ·rename_i hs;cases h;simp only[rn,jL,jW,hs,ao];rfl
   ·cases h
  | gh g a=>
   simp only[sU]at h;split at h
   ·rename_i hs;cases h;simp only[rn,jL,jW,hs,Zc]
   ·cases h
  | loop a=>cases h
  | each g ps a b=>cases h
  | seq a b=>cases h;simp only[rn,jL,jW,jv,jF]
  | block id a=>cases h;simp only[rn,jL,jW,jv,jF]
  | hg a g=>cases h;simp only[rn,jL,jW,jv,jF]
  | _=>cases h;simp only[rn,jL,jW]
 | ops dr fr l=>
  cases l with
  | nil=>cases h;simp only[rn,qn]
  | cons o r=>
   obtain⟨d,gd,now,k,as,dd,pre⟩:=o
   cases pre with
   | nil=>
    simp only[sU]at h;split at h
    ·rename_i hs;cases h;simp only[rn,qn,wv,RO.strip,Zc,hs]
    ·cases h
   | cons x xs=>
    cases dr with
    | true=>cases h
    | false=>
     simp only[sU]at h;split at h
     ·rename_i hs;cases h;simp only[rn,qn,RO.strip,xd,m_,Bool.false_eq_true,if_false,hs,Zc]
     ·cases h
 | nx=>
  cases fs with
  | nil=>cases h
  | cons f fs=>
   cases f with
   | seq b=>cases h;simp only[rn,jL,jv]
   | blk id=>cases h;simp only[rn,jv]
   | gst g=>
    simp only[sU]at h;split at h
    ·rename_i hs;cases h;simp only[rn,jv,hs,Zc]
    ·cases h
 | ex k=>
  cases fs with
  | nil=>cases h
  | cons f fs=>
   cases f with
   | seq b=>cases h;simp only[rn,jF]
   | blk id=>
    cases h;simp only[rn,jF]
    by_cases hk:k=id
    ·simp only[if_pos hk,rn]
    ·simp only[if_neg hk,rn]
   | gst g=>cases h;simp only[rn,jF]
 | rt=>cases h
theorem ko:∀{n:Nat} {fo fo':Fo} {fs fs':List Fm} {st st':St},gx S c n fo fs st=some (fo',fs',st')→rn S c Q fo fs st=rn S c Q fo' fs' st'
 | 0,fo,fo',fs,fs',st,st',h=>by cases h;rfl
 | n+1,fo,fo',fs,fs',st,st',h=>by
  simp only[gx]at h;split at h
  ·rename_i a b d hs;rw[GU hs];exact ko h
  ·cases h
theorem Cz {n:Nat} {fo fo':Fo} {fs fs':List Fm} {st st':St} {m:Option β} (h:gx S c n fo fs st=some (fo',fs',st')) (h2:Le m (rn S c Q fo' fs' st')):Le m (rn S c Q fo fs st):=by
 rw[ko h];exact h2
theorem Vw {n:Nat} {fo fo':Fo} {fs fs':List Fm} {st st':St} {r:γ} (h:gx S c n fo fs st=some (fo',fs',st')) (h2:rn S c Q fo' fs' st'=e r):Le ((some r).bind e) (rn S c Q fo fs st):=by
 rw[ko h];exact Le.of_eq h2
theorem P9 {m:Option δ} {f:δ→Option γ} {L:Option β} (k:δ→Option β) (h2:Le (m.bind k) L) (h1:∀r,Le ((f r).bind e) (k r)):Le ((m.bind f).bind e) L:=by
 intro r hr
 cases m with
 | none=>cases hr
 | some x=>exact h2 r (h1 x r hr)
theorem VV {n:Nat} {fo:Fo} {fs fs':List Fm} {st0:St} {dr:Bool} {q l:List RO} {fr:List Nat} {st:St} {d:Option Nat} {gd:Option (Nat×Bool)} {now:Bool} {k:K} {as:List Arg} {dd:List Nat} {m:Option δ} {g:δ→St} {f:δ→Option γ}
 (hL:gx S c n fo fs st0=some (.ops dr fr q,fs',st)) (hq:q=⟨d,gd,now,k,as,dd,[]⟩::l) (hg:wanted st.g gd=some true)
 (hs:Le (m.bind fun x=>some (g x)) (eR S c dr fr ⟨d,none,now,k,as,[],[]⟩ st))
 (h:∀x,m=some x→Le ((f x).bind e) (rn S c Q (.ops dr (if dr then mq fr ⟨d,gd,now,k,as,[],[]⟩else fr) l) fs' (kL dd (g x)))):Le ((m.bind f).bind e) (rn S c Q fo fs st0):=by
 rw[ko hL];subst hq;simp only[rn,qn,RO.strip,wv,Zc];rw[Ga hg]
 cases m with
 | none=>exact Le.none _
 | some x=>rw[hs (g x) rfl];exact h x rfl
theorem II {n:Nat} {fo:Fo} {fs fs':List Fm} {st0:St} {dr:Bool} {q l:List RO} {fr:List Nat} {st st':St} {d:Option Nat} {gd:Option (Nat×Bool)} {now:Bool} {k:K} {as:List Arg} {dd:List Nat} {m:Option β}
 (hL:gx S c n fo fs st0=some (.ops dr fr q,fs',st)) (hq:q=⟨d,gd,now,k,as,dd,[]⟩::l) (hg:wanted st.g gd=some true)
 (hs:eR S c dr fr ⟨d,none,now,k,as,[],[]⟩ st=some st')
 (h:Le m (rn S c Q (.ops dr (if dr then mq fr ⟨d,gd,now,k,as,[],[]⟩else fr) l) fs' (kL dd st'))):Le m (rn S c Q fo fs st0):=by
 rw[ko hL];subst hq;simp only[rn,qn,RO.strip,wv,Zc];rw[Ga hg,hs];exact h
theorem Mf {n:Nat} {fo:Fo} {fs0:List Fm} {st:St} {σ ε ρ:Type} {a:RC} {fs:List Fm} {step:σ→Option (Fw σ ε ρ)} {eσ:σ→St} {eε:ε→Nat×St} {eρ:ρ→St} {s:σ} {fx:ε→Option γ} {fr:ρ→Option γ}
 (hL:gx S c n fo fs0 st=some (.rc (.loop a),fs,eσ s)) (h:∀s,Le ((step s).bind fun w=>some (Fw.out eσ eε eρ w)) (rn S c some (.rc a) [] (eσ s)))
 (hx:∀x,Le ((fx x).bind e) (rn S c Q (.ex (eε x).1) fs (eε x).2)) (hr:∀b,Le ((fr b).bind e) (Q (.ret,eρ b))):Le (((bh step s).bind (Fw.elim fx fr)).bind e) (rn S c Q fo fs0 st):=by
 rw[ko hL];exact Pu (L:=rn S c Q (.rc (.loop a)) fs (eσ s)) rfl h hx hr
theorem Mj {n:Nat} {fo:Fo} {fs0:List Fm} {st:St} {α σ ε ρ:Type} {g:Arg} {ps:List Nat} {a b:RC} {fs:List Fm} {f:FuncId} {x y:List V} {items:List α} {eI:α→List V} {step:α→σ→Option (Fw σ ε ρ)} {eσ:σ→Tb aL} {eε:ε→Nat×Tb aL} {eρ:ρ→Tb aL} {gt:Tb SV} {s:σ}
 {fn:σ→Option γ} {fx:ε→Option γ} {fr:ρ→Option γ}
 (hL:gx S c n fo fs0 st=some (.rc (.each g ps a b),fs,ai gt (eσ s))) (hg:mD S.N gt g=some (.v (.clo f x y))) (hi:S.items f x y=some (items.map eI)) (hl:∀x,(eI x).length=ps.length)
 (h:∀x s,Le ((step x s).bind fun w=>some (Fw.lx eσ eε eρ w)) (rn S c (nN S c b) (.rc a) [] ⟨ri gt ps ((eI x).map .v),eσ s,kU gt,[],true,0⟩))
 (hn:∀s,Le ((fn s).bind e) (rn S c Q .nx fs (ai gt (eσ s))))
 (hx:∀x,Le ((fx x).bind e) (rn S c Q (.ex (eε x).1) fs (ai gt (eε x).2))) (hr:∀b,Le ((fr b).bind e) (Q (.ret,ai gt (eρ b)))) :
 Le (((jZ step items s).bind (Fw.qV fn fx fr)).bind e) (rn S c Q fo fs0 st):=by
 rw[ko hL];exact Nl (L:=rn S c Q (.rc (.each g ps a b)) fs (ai gt (eσ s))) rfl hg hi hl h hn hx hr
theorem LS {b:RC} {st st':St} {m:Option (Out×Tb aL)} {fs:List Fm} {n:Nat} {fo:Fo} (h:gx S c n fo fs st=some (.nx,[],st')) (h2:Le m (rn S c lx (.rc b) [] st')):Le m (rn S c (nN S c b) fo fs st):=by
 rw[ko h];exact h2
theorem PD {α:Type} {n:Nat} {fo fo':Fo} {fs fs':List Fm} {st:St} {A:Option α→St} {o:Option α} {f:α→Option γ} (h:gx S c n fo fs st=some (fo',fs',A o))
 (h2:∀x,o=some x→Le ((f x).bind e) (rn S c Q fo' fs' (A (some x)))):Le ((o.bind f).bind e) (rn S c Q fo fs st):=by
 rw[ko h]
 cases o with
 | none=>exact Le.none _
 | some x=>exact h2 x rfl
theorem KX {T:ql} {f:FuncId} {rf:RF} {as:List V} {m:Option (List V)} (hT:T f=some rf) (hn:as.length≤rf.na) (h:Le m (rn S (fJ S T) (c6 rf.rs) (.rc rf.body) [] (start (as.map .v) []))):Le m (jQ (fJ S T) f as):=by
 rw[Jq hT as hn];exact h
end
section
variable {α:Type} [aE α]
abbrev cv (x:α):SV:=.v (enc x)
abbrev cp (x:α):SV:=.v (.fptr (cells x))
abbrev bx (x:α):aL:=.box ((cells x).map .v)
end
end Go.VE
namespace Go.VE
structure aR (S:Sys) (c:ck) {α δ:Type} (fn:FuncId) (A:α→List V) (E:δ→List V) (p:α→Option δ) (sc:Bool):Prop where
 k:S.E.keep fn=false
 h:∀z,Le ((p z).bind fun r=>some (E r)) (jQ c fn (A z))
 l:∀z,V.dc 8 (A z)=true
 r:∀r,V.lvl 8 (result (E r))=true
 s:sc=true→∀r,(result (E r)).scalar=true
section
variable {S:Sys} {c:ck} {β γ δ α:Type} {Q:Out×St→Option β} {e:γ→Option β} {fo:Fo} {fs:List Fm} {st0:St} {l:List RO} {d:Option Nat} {gd:Option (Nat×Bool)} {now:Bool} {as:List Arg} {dd:List Nat}
noncomputable abbrev nP (S:Sys) (c:ck) (Q:Out×St→Option β) (dr:Bool) (fr:List Nat) (d:Option Nat) (k:K) (l:List RO) (fs:List Fm) (dd:List Nat) (st:St):Option β:=
 rn S c Q (.ops dr (if dr then(match k with|.p _|.r _=>fr|_=>match d with|some d=>d::fr|none=>fr)else fr) l) fs (kL dd st)
theorem Ae (fr:List Nat) (k:K):mq fr ⟨d,gd,now,k,as,[],[]⟩=(match k with|.p _|.r _=>fr|_=>match d with|some d=>d::fr|none=>fr):=by
 cases k <;> cases d <;> rfl
theorem zu {n:Nat} {dr:Bool} {fr:List Nat} {q:List RO} {fs':List Fm} {st:St} {k:K} {m:Option δ} {g:δ→St} {f:δ→Option γ}
 (hL:gx S c n fo fs st0=some (.ops dr fr q,fs',st)) (hq:q=⟨d,gd,now,k,as,dd,[]⟩::l) (hg:wanted st.g gd=some true)
 (hs:Le (m.bind fun x=>some (g x)) (eR S c dr fr ⟨d,none,now,k,as,[],[]⟩ st))
 (h:∀x,m=some x→Le ((f x).bind e) (nP S c Q dr fr d k l fs' dd (g x))):Le ((m.bind f).bind e) (rn S c Q fo fs st0):=
 VV hL hq hg hs (fun x hx=>by rw[Ae];exact h x hx)
theorem mA {n:Nat} {dr:Bool} {fr:List Nat} {q:List RO} {fs':List Fm} {st st':St} {k:K} {m:Option β}
 (hL:gx S c n fo fs st0=some (.ops dr fr q,fs',st)) (hq:q=⟨d,gd,now,k,as,dd,[]⟩::l) (hg:wanted st.g gd=some true)
 (hs:eR S c dr fr ⟨d,none,now,k,as,[],[]⟩ st=some st') (h:Le m (nP S c Q dr fr d k l fs' dd st')):Le m (rn S c Q fo fs st0):=
 II hL hq hg hs (by rw[Ae];exact h)
section
variable [aE α]
theorem HW (n:Nat) (dr:Bool) (fr:List Nat) (q:List RO) (fs':List Fm) (st:St) (k:IntKind) {sz:Nat} {s:Sl α} {i:Int} {f:α→Option γ} (hq:q=⟨d,gd,now,.p (.idxS sz),as,dd,[]⟩::l)
 (hL:(gx S c n fo fs st0,wanted st.g gd,bu S.N st.g as,sz)=(some (.ops dr fr q,fs',st),some true,some [.v (cU s),.v (.int k i)],aE.size α))
 (h:∀x,idx s i=some x→Le ((f x).bind e) (nP S c Q dr fr d (.p (.idxS sz)) l fs' dd (cO st d (cp x)))):Le (((idx s i).bind f).bind e) (rn S c Q fo fs st0):=by
 simp only[Zd]at hL;exact zu hL.1 hq hL.2.1 (Le.of_eq (IK hL.2.2.1 hL.2.2.2)) h
theorem M9 (n:Nat) (dr:Bool) (fr:List Nat) (q:List RO) (fs':List Fm) (st:St) (s:Sl α) {m:Option β} (hq:q=⟨d,gd,now,.p .lenSl,as,dd,[]⟩::l)
 (hL:(gx S c n fo fs st0,wanted st.g gd,bu S.N st.g as)=(some (.ops dr fr q,fs',st),some true,some [.v (cU s)]))
 (h:Le m (nP S c Q dr fr d (.p .lenSl) l fs' dd (cO st d (.v (.int .i64 s.l.length))))):Le m (rn S c Q fo fs st0):=by
 simp only[Zd]at hL;exact mA hL.1 hq hL.2.1 (I5 hL.2.2) h
end
section
variable {q:List RO} {fs':List Fm}
end
theorem BO (m:Tb aL) (n:Nat) (l:List V):kW (gT m n) (l.map .v)=some l:=by rw[←(vl m n).2,uD]
variable {A:α→List V} {E:δ→List V} {p:α→Option δ} {fn:FuncId} {sc:Bool}
end
end Go.VE
namespace Go.VE
abbrev iv (n:Int):SV:=.v (.int .i64 n)
abbrev bv (b:Bool):SV:=.v (.bool b)
abbrev len {α:Type} (s:Sl α):Int:=((List.length (Sl.l s):Nat):Int)
abbrev o1 (d:Nat) (a:Arg) (dd:List Nat):RO:=⟨some d,none,false,.p .id,[a],dd,[]⟩
abbrev o2 (d:Nat) (k:K) (as:List Arg) (dd:List Nat):RO:=⟨some d,none,false,k,as,dd,[]⟩
abbrev o3 (d s:Nat) (b:Bool) (k:K) (as:List Arg) (dd:List Nat):RO:=⟨some d,some (s,b),false,k,as,dd,[]⟩
def Dh (a b:aa):Bool:=[a.proc,a.index]==[b.proc,b.index]
mutual
theorem uz:∀{n:Nat} {x:V},V.lvl n x=true→V.lvl (n+1) x=true
 | 0,.fsl ..,h=>by simp[V.lvl]at h
 | 0,.fptr ..,h=>by simp[V.lvl]at h
 | 0,.fmap ..,h=>by simp[V.lvl]at h
 | 0,.agg ..,h=>by simp[V.lvl]at h
 | 0,.tup ..,h=>by simp[V.lvl]at h
 | 0,.clo ..,h=>by simp[V.lvl]at h
 | n+1,.fsl es xs,h=>by simp only[V.lvl]at h ⊢;exact wA h
 | n+1,.fptr cs,h=>by simp only[V.lvl]at h ⊢;exact mU h
 | n+1,.fmap kvs,h=>by simp only[V.lvl]at h ⊢;exact zH h
 | n+1,.agg cs,h=>by simp only[V.lvl]at h ⊢;exact mU h
 | n+1,.tup cs,h=>by simp only[V.lvl]at h ⊢;exact mU h
 | n+1,.clo f a b,h=>by simp only[V.lvl,Zj]at h ⊢;exact⟨mU h.1,mU h.2⟩
 | 0,.bool _,_|0,.int ..,_|0,.str _,_|0,.cq,_|0,.eT,_|0,.aO,_|0,.dY,_|0,.ay,_|0,.hsl ..,_|0,.hptr ..,_|0,.yld _,_|0,.hmap _,_=>rfl
 | _+1,.bool _,_|_+1,.int ..,_|_+1,.str _,_|_+1,.cq,_|_+1,.eT,_|_+1,.aO,_|_+1,.dY,_|_+1,.ay,_|_+1,.hsl ..,_|_+1,.hptr ..,_|_+1,.yld _,_|_+1,.hmap _,_=>rfl
theorem mU:∀{n:Nat} {x:List V},V.dc n x=true→V.dc (n+1) x=true
 | n,[],_=>iF _
 | n,a::l,h=>by rw[gH,Zj]at h ⊢;exact⟨uz h.1,mU h.2⟩
theorem wA:∀{n:Nat} {x:List (List V)},V.jP n x=true→V.jP (n+1) x=true
 | n,[],_=>by simp only[V.jP]
 | n,a::l,h=>by simp only[V.jP,Zj]at h ⊢;exact⟨mU h.1,wA h.2⟩
theorem zH:∀{n:Nat} {x:List (V×V)},V.nv n x=true→V.nv (n+1) x=true
 | n,[],_=>by simp only[V.nv]
 | n,(k,v)::l,h=>by simp only[V.nv,Zj]at h ⊢;exact⟨⟨uz h.1.1,uz h.1.2⟩,zH h.2⟩
end
section
variable {α:Type} [aE α]
theorem oY (h:aE.agg α=false) (a:α):cells a=[enc a]:=by
 have hl:(cells a).length=1:=by rw[show (cells a).length=_ from aE.len a,aE.plain h]
 unfold enc;rw[if_neg (by simp[h])]
 match hc:cells a,hl with
 | [x],_=>rfl
theorem rV (h:aE.agg α=true) (a:α):enc a=.agg (cells a):=by unfold enc;rw[if_pos h]
theorem Jo {n:Nat} [Lv n α] (a:α):V.lvl (n+1) (enc a)=true:=by
 have h:=Lv.lv (n:=n) a
 cases ha:aE.agg α with
 | true=>rw[rV ha];exact h
 | false=>
  rw[oY ha,gH,Zj]at h;exact uz h.1
theorem M5 {n:Nat} [Lv n α] (a:α):V.lvl (n+1) (.fptr (cells a))=true:=Lv.lv a
theorem jG (a:α):V.bg (enc a)=true:=by
 have h:V.bR (cells a)=true:=aE.bg a
 cases ha:aE.agg α with
 | true=>rw[rV ha];exact h
 | false=>
  rw[oY ha]at h;simp only[V.bR,Bool.and_true]at h;exact h
theorem lg (s:Sl α):V.one (enc s)=true:=AB s
theorem lB {n:Nat} [Lv n α] (s:Sl α):V.lvl (n+1) (enc s)=true:=Ao s
theorem ID (s:α) (h:aE.agg α=false):V.one (enc s)=true:=by
 have:=aE.one s;rw[show aE.cells s=cells s from rfl,oY h]at this;simpa using this
end
instance {α:Type} [aE α]:aE (Option α) where
 cells o:=[match o with|none=>.cq|some x=>.fptr (cells x)]
 agg:=false
 size:=1
 len _:=rfl
 bg o:=by
  cases o with
  | none=>rfl
  | some x=>simp only[V.bR,V.bg,Bool.and_true];exact aE.bg x
 one o:=by cases o <;> rfl
 plain _:=rfl
instance {n:Nat} {α:Type} [aE α] [Lv n α]:Lv (n+1) (Option α):=⟨fun o=>by
 cases o with
 | none=>rfl
 | some x=>
  show V.dc (n+1) [.fptr (cells x)]=true;rw[gH,iF,Bool.and_true];exact Lv.lv x⟩
structure U8 where
 v:Int
 deriving Inhabited,DecidableEq
instance:aE U8 where
 cells n:=[.int .u8 n.v]
 agg:=false
 size:=1
 len _:=rfl
 bg _:=rfl
 one _:=rfl
 plain _:=rfl
instance {n:Nat}:Lv n U8:=⟨fun _=>by cases n <;> rfl⟩
structure R8 where
 v:Int
 deriving Inhabited,DecidableEq
instance:aE R8 where
 cells n:=[.int .u64 n.v]
 agg:=false
 size:=1
 len _:=rfl
 bg _:=rfl
 one _:=rfl
 plain _:=rfl
instance {n:Nat}:Lv n R8:=⟨fun _=>by cases n <;> rfl⟩
structure RT where
 v:Int
 deriving Inhabited,DecidableEq
instance:aE RT where
 cells n:=[.int .u32 n.v]
 agg:=false
 size:=1
 len _:=rfl
 bg _:=rfl
 one _:=rfl
 plain _:=rfl
instance {n:Nat}:Lv n RT:=⟨fun _=>by cases n <;> rfl⟩
structure Sn where
 v:Int
 deriving Inhabited,DecidableEq
instance:aE Sn where
 cells n:=[.int .i32 n.v]
 agg:=false
 size:=1
 len _:=rfl
 bg _:=rfl
 one _:=rfl
 plain _:=rfl
instance {n:Nat}:Lv n Sn:=⟨fun _=>by cases n <;> rfl⟩
structure iy (S:Sys) (c:ck) {α δ:Type} (g:FuncId) (e:List V) (A:α→List V) (R:δ→List V) (p:α→Option δ):Prop where
 f:aR S c g (fun z=>A z++e) R p true
 d:V.dc 7 e=true
theorem iy.of {S:Sys} {c:ck} {α α' δ:Type} {fn:FuncId} {e:List V} {A:α→List V} {A':α'→List V} {E:δ→List V} {P:α→Option δ} {p:α'→Option δ} (F:aR S c fn A E P true) (ι:α'→α)
 (hA:∀z,A (ι z)=A' z++e) (hp:∀z,P (ι z)=p z) (hd:V.dc 7 e=true):iy S c fn e A' E p where
 f:={ k:=F.k,h:=fun z=>by rw[←hp,←hA];exact F.h (ι z),l:=fun z=>by rw[←hA];exact F.l (ι z),r:=F.r,s:=F.s }
 d:=hd
section
variable {S:Sys} {c:ck} {β γ δ α:Type} {Q:Out×St→Option β} {e:γ→Option β} {fo:Fo} {fs:List Fm} {st0:St} {l:List RO} {d:Option Nat} {gd:Option (Nat×Bool)} {now:Bool} {as:List Arg} {dd:List Nat}
theorem kR {α:Type} [aE α] (a:α):V.cells (enc a)=cells a:=by
 cases ha:aE.agg α with
 | true=>rw[rV ha];rfl
 | false=>
  have h1:V.one (enc a)=true:=ID a ha;rw[oY ha];cases h:enc a <;> first|rfl|(rw[h]at h1;cases h1)
theorem mR {α:Type} [aE α] (a:α):(cells a).all V.one=true:=aE.one a
theorem fE {α:Type} [aE α] (a:α):(cells a).length=aE.size α:=aE.len a
theorem Ast [aE α] (n:Nat) (dr:Bool) (fr:List Nat) (q:List RO) (fs':List Fm) (st:St) (u o:Nat) (x:α) (cs cs':List SV) {sz:Nat} {m:Option β} (hq:q=⟨d,gd,now,.l (.store sz),as,dd,[]⟩::l)
 (hL:(gx S c n fo fs st0,wanted st.g gd,bu S.N st.g as,ak st.m u,(!dr||now),sz,Nat.ble (o+sz) cs.length,cs.take o++(cells x).map .v++cs.drop (o+sz))=(some (.ops dr fr q,fs',st),some true,some [.ptr u o,cv x],some (.box cs),true,aE.size α,true,cs'))
 (h:Le m (nP S c Q dr fr d (.l (.store sz)) l fs' dd (cO { st with m:=bl st.m u (.box cs') } d (.v .undef)))):Le m (rn S c Q fo fs st0):=by
 simp only[Zd]at hL;obtain⟨h1,h2,h3,h4,h5,h6,h7,h8⟩:=hL;refine mA h1 hq h2 ?_ h;rw[s9,h3];subst h6;have h9:=Nat.le_of_ble_eq_true h7;simp only[Zc,h5,if_true,kI,h4,mH,kR,fE,mR,h9,and_self,h8,Option.map_some]
theorem tV {α:Type} [aE α]:∀(xs:List α) (pre:List (List V)) (suf:List (List V)),suf.length=xs.length→fH (aE.size α) (pre++suf) ((List.range' pre.length xs.length).zip (xs.map enc))=some (pre++rows xs)
 | [],pre,suf,h=>by
  have:suf=[]:=List.eq_nil_of_length_eq_zero h;subst this;rfl
 | x::xs,pre,s::suf,h=>by
  simp only[List.length_cons,List.range'_succ,List.map_cons,List.zip_cons_cons,fH,kR,fE,mR];rw[if_pos ⟨trivial,by simp,trivial⟩]
  have:=tV xs (pre++[cells x]) suf (by simpa using h)
  simp only[Zk,List.length_cons,List.length_nil,Nat.zero_add]at this;have e:(pre++s::suf).set pre.length (cells x)=pre++[cells x]++suf:=by simp
  rw[e,this];simp[rows]
theorem Wi [aE α] (n:Nat) (dr:Bool) (fr:List Nat) (q:List RO) (fs':List Fm) (st:St) (xs:List α) {u sz ln:Nat} {zero:List V} {ix:List Nat} {m:Option β} (hq:q=⟨some u,gd,now,.a (.buildSl sz ln zero ix),as,dd,[]⟩::l)
 (h4:st.new u=true) (hL:(gx S c n fo fs st0,wanted st.g gd,bu S.N st.g as,sz,ln,ix)=(some (.ops dr fr q,fs',st),some true,some ((xs.map enc).map .v),aE.size α,xs.length,List.range' 0 xs.length))
 (h:Le m (nP S c Q dr fr (some u) (.a (.buildSl sz ln zero ix)) l fs' dd { st with g:=bl st.g u (.own u),m:=bl st.m u (dF (.row xs)) })):Le m (rn S c Q fo fs st0):=by
 simp only[Zd]at hL;obtain⟨h1,h2,h3,h5,h6,h7⟩:=hL;subst h5 h6 h7;refine mA h1 hq h2 ?_ h;rw[yG,h3];simp only[Zc,h4,if_true,kT,nT,List.length_range',List.length_map,if_true];have:=tV xs [] (List.replicate xs.length zero) (by simp)
 simp only[List.nil_append,List.length_nil]at this;rw[this];rfl
theorem VP [aE α] (n:Nat) (dr:Bool) (fr:List Nat) (q:List RO) (fs':List Fm) (st:St) (x:α) (vs:List V) {z:List V} {pl:List (Nat×Nat)} {m:Option β} (hq:q=⟨d,gd,now,.p (.build z pl),as,dd,[]⟩::l)
 (hp:iO z pl vs=some (cells x)) (ha:aE.agg α=true)
 (hL:(gx S c n fo fs st0,wanted st.g gd,bu S.N st.g as)=(some (.ops dr fr q,fs',st),some true,some (vs.map .v)))
 (h:Le m (nP S c Q dr fr d (.p (.build z pl)) l fs' dd (cO st d (cv x)))):Le m (rn S c Q fo fs st0):=by
 simp only[Zd]at hL;refine mA hL.1 hq hL.2.1 (zL hL.2.2 rfl ?_) h;unfold hY;rw[nT];simp only[Ih,hp,Zc,Option.map_some];show some (SV.v (.agg (cells x)))=some (.v (enc x));rw[rV ha]
section
variable [aE α]
theorem Vx (n:Nat) (dr:Bool) (fr:List Nat) (q:List RO) (fs':List Fm) (st:St) (lo hi:Bool) (bs:List V) {sz:Nat} {s:Sl α} {a b:Option Int} {f:Sl α→Option γ} (hq:q=⟨d,gd,now,.p (.slice sz lo hi),as,dd,[]⟩::l)
 (hL:(gx S c n fo fs st0,wanted st.g gd,bu S.N st.g as,jS lo hi bs,sz)=(some (.ops dr fr q,fs',st),some true,some (.v (cU s)::bs.map .v),some (a,b),aE.size α))
 (h:∀x,g_ s a b=some x→Le ((f x).bind e) (nP S c Q dr fr d (.p (.slice sz lo hi)) l fs' dd (cO st d (.v (cU x))))):Le (((g_ s a b).bind f).bind e) (rn S c Q fo fs st0):=by
 simp only[Zd]at hL;refine zu hL.1 hq hL.2.1 (Le.of_eq ?_) h;have hy:bu S.N st.g as=some ((cU s::bs).map .v):=hL.2.2.1;unfold eR kJ;simp only[wanted,eY,hy];have hp:hY S.N st.m (.slice sz lo hi) ((cU s::bs).map .v)=(g_ s a b).bind fun x=>some (.v (cU x)):=by
  unfold hY;rw[nT];simp only[aI,hL.2.2.2.1,Zc,DF s a b sz hL.2.2.2.2];cases g_ s a b <;> rfl
 simp only[List.map_cons]at hp ⊢;rw[hp];cases g_ s a b <;> rfl
def kn (s:Sl α) (lo hi:Option Int):Option (Sl α):=
 match s with
 | .nil|.emp=>none
 | .row x|.part x=>(dR x.length lo hi).map fun (l,h)=>.part ((x.take h).drop l)
theorem Qb (n:Nat) (fr:List Nat) (q:List RO) (fs':List Fm) (st:St) (lo hi:Bool) (u:Nat) (bs:List V) {t sz:Nat} {s:Sl α} {a b:Option Int} {f:Sl α→Option γ} (hq:q=⟨some t,gd,now,.p (.slice sz lo hi),as,dd,[]⟩::l)
 (h7:St.new { st with m:=fN u st.m } t=true) (hL:(gx S c n fo fs st0,wanted st.g gd,bu S.N st.g as,jS lo hi bs,ak st.m u,sz)=(some (.ops false fr q,fs',st),some true,some (.own u::bs.map .v),some (a,b),some (dF s),aE.size α))
 (h:∀x,kn s a b=some x→Le ((f x).bind e) (nP S c Q false fr (some t) (.p (.slice sz lo hi)) l fs' dd { st with g:=bl st.g t (.own t),m:=bl (fN u st.m) t (dF x) })):Le (((kn s a b).bind f).bind e) (rn S c Q fo fs st0):=by
 simp only[Zd]at hL;refine zu hL.1 hq hL.2.1 (Le.of_eq ?_) h;obtain⟨_,_,h3,h4,h5,h6⟩:=hL;subst h6;unfold eR kJ;simp only[wanted,eY,h3,Bool.false_eq_true,if_false,uF,nT,h5,h4,Zc];have hn:(ak st.m u).isSome:=by rw[h5];rfl
 cases s with
 | nil=>simp[kn,dF,Sl.k,b_]
 | emp=>simp[kn,dF,Sl.k,b_]
 | row x=>
  simp only[dF,Sl.k,Sl.l,b_,kn,hO,and_self,if_true,h4,Zc]
  cases dR x.length a b with
  | none=>rfl
  | some r=>simp[h7,cO,rows,List.map_take,List.map_drop]
 | part x=>
  simp only[dF,Sl.k,Sl.l,b_,kn,hO,and_self,if_true,h4,Zc]
  cases dR x.length a b with
  | none=>rfl
  | some r=>simp[h7,cO,rows,List.map_take,List.map_drop]
end
end
end Go.VE
