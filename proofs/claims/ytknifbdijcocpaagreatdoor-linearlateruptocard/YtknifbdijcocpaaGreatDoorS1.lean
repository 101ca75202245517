/-
 Plain values and the steps of a certificate.
-/
import Derived.KernelRfl
import Derived.Test.YtknifbdijcocpaaGreatDoorN2
set_option linter.all false
open Classical(choose_spec)
open List(drop_drop flatten_cons length_cons length_map length_nil map_cons map_drop map_take range' replicate)
open Option(map_some)
open Nat(add_mul ble one_mul)
namespace Go.VE
variable[bY]
inductive Sl(α:Type)where
 |nil|emp|row(l:List α)|part(l:List α)
 deriving Inhabited
def Sl.l{α:Type}:Sl α->L' α
 |.nil|.emp=>[]|.row l|.part l=>l
def Sl.k{α:Type}:Sl α->Fl
 |.nil=>.nil|.emp=>.emp|.row _=>.row|.part _=>.part
class bB(α:Type)where
 cells:α->List V
 agg:Bool
 size:Nat
 len:∀a,(cells a).length=size
 good:∀a,V.cE (cells a)=true
 one:∀a,(cells a).all V.one=true
 plain:agg=false->size=1
def cells{α:Type}[bB α](a:α):L' V:=bB.cells a
def enc{α:Type}[bB α](a:α):V:=if bB.agg α then .agg (cells a)else(cells a).headD .undef
def rows{α:Type}[bB α](l:L' α):L' (L' V):=l.map cells
def bX{α:Type}[bB α](s:Sl α):V:=o6 s.k (bB.size α) (rows s.l)
instance:bB Int where
 cells n:=[.int .i64 n]
 agg:=false
 size:=1
 len _:=rfl
 good _:=rfl
 one _:=rfl
 plain _:=rfl
instance:bB Bool where
 cells b:=[.bool b]
 agg:=false
 size:=1
 len _:=rfl
 good _:=rfl
 one _:=rfl
 plain _:=rfl
instance:bB ByteArray where
 cells s:=[.str s]
 agg:=false
 size:=1
 len _:=rfl
 good _:=rfl
 one _:=rfl
 plain _:=rfl
structure aZ where
 proc:Int
 index:Int
 deriving DecidableEq,Inhabited
instance:bB aZ where
 cells x:=[.int .i64 x.proc,.int .i64 x.index]
 agg:=true
 size:=2
 len _:=rfl
 good _:=rfl
 one _:=rfl
 plain h:=by cases h
@[simp] theorem aaL(n:Int):enc n=.int .i64 n:=rfl
@[simp] theorem aaH(n:Bool):enc n=.bool n:=rfl
@[simp] theorem aaK(n:ByteArray):enc n=.str n:=rfl
@[simp] theorem aae(n:Int):cells n=[.int .i64 n]:=rfl
@[simp] theorem Zh(n:Bool):cells n=[.bool n]:=rfl
@[simp] theorem Z6(n:ByteArray):cells n=[.str n]:=rfl
@[simp] theorem aaE(n:aZ):cells n=[.int .i64 n.proc,.int .i64 n.index]:=rfl
@[simp] theorem XW(n:aZ):enc n=.agg [.int .i64 n.proc,.int .i64 n.index]:=rfl
section
variable{α:Type}[bB α]
theorem gP(l:L' α):(rows l).length=l.length:=by simp[rows]
def idx(s:Sl α)(i:Int):Lk α:=if 0<=i then s.l[i.toNat]?else none
theorem R2{N:Nat->FuncId}(s:Sl α)(k:IntKind)(i:Int){n:Nat}(B:n=bB.size α):bl N (.idxS n) [bX s,.int k i]=(idx s i).map λx=>.fptr (cells x):=by subst B;unfold idx bX;simp only[bl,mH];by_cases h:i<0;rw[if_pos h,if_neg Zaa];rfl;rw[if_neg h,if_pos Zaa];cases s<;>simp[Sl.k,Sl.l,o6,rows,Function.comp_def]
theorem O7{N:Nat->FuncId}(s:Sl α):bl N .lenSl [bX s]=some (.int .i64 s.l.length):=by cases s<;>simp[bl,o8,bX,Sl.k,Sl.l,o6,gP]
end
section
variable{S:Sys}{c:b9}
end
end Go.VE
namespace Go.VE
variable[bY]
section
variable{S:Sys}{c:b9}
def isSlice:vL->Bool
 |.slice ..=>true|_=>false
theorem Ur(dr:Bool)(fr:L' Nat)(dst:Lk Nat)(now:Bool)(p:vL)(az:L' Arg)(st:St)(h:isSlice p=false):
 fM S c dr fr ⟨dst,none,now,.p p,az,[],[]⟩ st=(bW S.N st.g az).bind λsvs=>(jJ S.N st.m p svs).bind λx=>some (cT st dst x):=by
 unfold fM mR;have u:gp S.N st.g ⟨dst,none,now,.p p,az,[],[]⟩=none:=by unfold gp;grind
 simp[wanted,u]
 cases z:bW S.N st.g az with
 |none=>rfl|some svs=>simp;cases p<;>first|(simp[isSlice]at h;done)|(cases w:jJ S.N st.m _ svs<;>simp[w])
theorem Mw(N:Nat->FuncId)(m:Tb bJ)(p:vL)(svs:L' SV)(xs:L' V)(h:dy svs=some xs):jJ N m p svs=(bl N p xs).bind λx=>some (.v x):=by unfold jJ;rw[h];dsimp only;cases bl N p xs<;>rfl
theorem B9(dr:Bool)(fr:L' Nat)(dst:Lk Nat)(now:Bool)(q:LC)(az:L' Arg)(st:St):
 fM S c dr fr ⟨dst,none,now,.r q,az,[],[]⟩ st=(bW S.N st.g az).bind λsvs=>if !dr||now||fm fr svs then(oF st.m q svs).bind λx=>some (cT st dst x)else none:=by
 unfold fM mR;have u:gp S.N st.g ⟨dst,none,now,.r q,az,[],[]⟩=none:=rfl;simp[wanted,u]
 cases w:bW S.N st.g az with
 |none=>rfl|some svs=>
  simp;split
  .cases z:oF st.m q svs<;>simp
  rfl
theorem Ah(dr:Bool)(fr:L' Nat)(d:Nat)(now:Bool)(q:Qk)(az:L' Arg)(st:St):
 fM S c dr fr ⟨some d,none,now,.a q,az,[],[]⟩ st=(bW S.N st.g az).bind λsvs=>if st.new d then(oP st.m q svs d).bind λr=>some {st with g:=bN st.g d r.2,m:=bN st.m d r.1}else none:=by
 unfold fM mR;have u:gp S.N st.g ⟨some d,none,now,.a q,az,[],[]⟩=none:=rfl;simp[wanted,u]
 cases w:bW S.N st.g az with
 |none=>rfl|some svs=>
  simp;split
  .cases z:oP st.m q svs d<;>simp[cT]
  rfl
theorem yp(dr:Bool)(fr:L' Nat)(dst:Lk Nat)(now:Bool)(q:LY)(az:L' Arg)(st:St):
 fM S c dr fr ⟨dst,none,now,.l q,az,[],[]⟩ st=(bW S.N st.g az).bind λsvs=>if !dr||now then(nY st dst q svs).bind λr=>some (cT r.2 dst r.1)else none:=by
 unfold fM mR;have u:gp S.N st.g ⟨dst,none,now,.l q,az,[],[]⟩=none:=rfl;simp[wanted,u]
 cases w:bW S.N st.g az with
 |none=>rfl|some svs=>
  simp;split
  .cases z:nY st dst q svs<;>simp
  rfl
def k_:L' SV->Lk (FuncId×L' SV)
 |.clo f a b::vs=>some (f,a++vs++b)|.v (.clo f a b)::vs=>some (f,a.map .v++vs++b.map .v)|_=>none
theorem wE(dr:Bool)(fr:L' Nat)(dst:Lk Nat)(now:Bool)(az:L' Arg)(st:St)(svs:L' SV)(f:FuncId)(args:L' SV)(B:bW S.N st.g az=some svs)(a:k_ svs=some (f,args)):
 fM S c dr fr ⟨dst,none,now,.c,az,[],[]⟩ st=(fu S c dst dr (!dr||now) (fZ st.m fr) f args st).bind λr=>some (cT r.2 dst r.1):=by
 unfold fM mR;unfold k_ at a;split at a
 .obtain⟨rfl,rfl⟩:=a;simp[wanted,gp,B];cases fu S c dst dr _ _ _ _ st<;>simp
 .obtain⟨rfl,rfl⟩:=a;simp[wanted,gp,B];cases fu S c dst dr _ _ _ _ st<;>simp
 grind
noncomputable def RT{β:Type}(S:Sys)(c:b9)(fr:L' Nat)(l:L' RO)(k:St->Lk β):St->Lk β:=λst=>(oh S c false fr l st).bind k
noncomputable def Sr{β:Type}(S:Sys)(c:b9)(fr:L' Nat)(l:L' RO)(k:St->Lk β):St->Lk β:=λst=>(oh S c true fr l st).bind k
noncomputable def YE{β:Type}(S:Sys)(c:b9)(fr dd:L' Nat)(l:L' RO)(k:St->Lk β):St->Lk β:=λst=>RT S c fr l k (qy dd st)
noncomputable def Xx{β:Type}(S:Sys)(c:b9)(fr dd:L' Nat)(l:L' RO)(k:St->Lk β):St->Lk β:=λst=>Sr S c fr l k (qy dd st)
@[congr] theorem YT{β:Type}{fr:L' Nat}{l:L' RO}{k:St->Lk β}{st st':St}(h:st=st'):RT S c fr l k st=RT S c fr l k st':=by rw[h]
@[congr] theorem Zc{β:Type}{fr B:L' Nat}{l:L' RO}{k:St->Lk β}{st st':St}(D:fr=B)(h:st=st'):Sr S c fr l k st=Sr S c B l k st':=by simp_all
@[congr] theorem Y8{β:Type}{fr dd:L' Nat}{l:L' RO}{k:St->Lk β}{st st':St}(h:st=st'):YE S c fr dd l k st=YE S c fr dd l k st':=by rw[h]
@[congr] theorem ZK{β:Type}{fr B dd:L' Nat}{l:L' RO}{k:St->Lk β}{st st':St}(D:fr=B)(h:st=st'):Xx S c fr dd l k st=Xx S c B dd l k st':=by simp_all
@[congr] theorem ZS{dr:Bool}{fr:L' Nat}{o:RO}{st st':St}(h:st=st'):fM S c dr fr o st=fM S c dr fr o st':=by rw[h]
end
section
variable{S:Sys}{c:b9}(dr:Bool)(fr:L' Nat)(dst:Lk Nat)(now:Bool)(az:L' Arg)(st:St)
end
inductive Fm where
 |seq(b:RC)|blk(id:Nat)|gst(x:Gh)
section
variable(S:Sys)(c:b9){β:Type}(Q:Out×St->Lk β)
noncomputable def runK:L' Fm->Out×St->Lk β
 |[],r=>Q r|.seq b::fs,(.norm,st)=>(cK S c b st).bind (runK fs)|.seq _::fs,r=>runK fs r|.blk id::fs,(.exit k,st)=>if k=id then runK fs (.norm,st)else runK fs (.exit k,st)|.blk _::fs,r=>runK fs r|.gst x::fs,(.norm,st)=>(ghost x st).bind λst=>runK fs (.norm,st)|.gst _::fs,r=>runK fs r
noncomputable def go(a:RC)(fs:L' Fm)(st:St):Lk β:=(cK S c a st).bind (runK S c Q fs)
noncomputable def Uf(fs:L' Fm):St->Lk β:=λst=>runK S c Q fs (.norm,st)
def bg{α:Type}(t:Bool)(a b:α):α:=if t then a else b
end
@[congr] theorem aam{α:Type}{t B:Bool}{a b a' D:α}(h:t=B)(G:B=true->a=a')(J:B=false->b=D):bg t a b=bg B a' D:=by subst h;cases t;exact J rfl;exact G rfl
section
variable{S:Sys}{c:b9}{β:Type}{Q:Out×St->Lk β}
@[congr] theorem go_congr{a:RC}{fs:L' Fm}{st st':St}(h:st=st'):go S c Q a fs st=go S c Q a fs st':=by rw[h]
@[congr] theorem YM{fs:L' Fm}{st st':St}(h:st=st'):Uf S c Q fs st=Uf S c Q fs st':=by rw[h]
@[congr] theorem ZB{fs:L' Fm}{r B:Out×St}(h:r=B):runK S c Q fs r=runK S c Q fs B:=by rw[h]
theorem I_(a:RC)(st:St):(cK S c a st).bind Q=go S c Q a [] st:=by simp only[go];cases cK S c a st<;>rfl
inductive Fw(ν ε ρ:Type)where
 |n(a:ν)|x(e:ε)|r(b:ρ)
def j8{σ ε ρ:Type}(step:σ->Lk (Fw σ ε ρ)):Nat->σ->Lk (Fw Empty ε ρ)
 |0,_=>none|k+1,s=>match step s with
  |some (.n B)=>j8 step k B|some (.x e)=>some (.x e)|some (.r b)=>some (.r b)|none=>none
theorem yL{σ ε ρ:Type}{step:σ->Lk (Fw σ ε ρ)}:∀{k B:Nat}{s:σ}{r:Fw Empty ε ρ},k<=B->j8 step k s=some r->j8 step B s=some r
 |0,_,_,_,_,h=>by simp[j8]at h|k+1,0,_,_,hk,_=>Zaa|k+1,B+1,s,r,hk,h=>by simp only[j8]at h⊢;split at h;exact yL (Nat.le_of_succ_le_succ hk) h;exact h;exact h;simp at h
open Classical in
noncomputable def bT{σ ε ρ:Type}(step:σ->Lk (Fw σ ε ρ))(s:σ):Lk (Fw Empty ε ρ):=if h:∃k r,j8 step k s=some r then some (Classical.choose (choose_spec h))else none
theorem pn{σ ε ρ:Type}{step:σ->Lk (Fw σ ε ρ)}{s:σ}{r:Fw Empty ε ρ}:bT step s=some r↔∃k,j8 step k s=some r:=by
 unfold bT;constructor;intro h;split at h;next u=>simp only[ζa]at h;exact⟨_,by rw[<-h];exact choose_spec (choose_spec u)⟩
 simp at h;rintro⟨k,a⟩;have u:∃k r,j8 step k s=some r:=⟨k,r,a⟩;rw[dif_pos u];have z:=choose_spec (choose_spec u);have B:=yL (Nat.le_max_left (Classical.choose u) k) z;have w:=yL (Nat.le_max_right (Classical.choose u) k) a;rw[B]at w;exact w
def Fw.out{ν ε ρ:Type}(B:ν->St)(eε:ε->Nat×St)(eρ:ρ->St):Fw ν ε ρ->Out×St
 |.n a=>(.norm,B a)|.x e=>(.exit (eε e).1,(eε e).2)|.r b=>(.ret,eρ b)
def Fw.elim{ε ρ γ:Type}(B:ε->γ)(fr:ρ->γ):Fw Empty ε ρ->γ
 |.x e=>B e|.r b=>fr b
end
section
variable{α:Type}[bB α]
theorem Hj(s:Sl α):V.one (bX s)=true:=by cases s<;>rfl
theorem Qm(l:L' α):V.nW (rows l)=true:=by induction l with|nil=>rfl|cons a l u=>simp only[rows,map_cons,V.nW,ζh];exact⟨bB.good a,u⟩
theorem MN(s:Sl α):V.good (bX s)=true:=by cases s<;>simp only[bX,Sl.k,o6,V.good]<;>exact Qm _
instance:bB (Sl α)where
 cells s:=[bX s]
 agg:=false
 size:=1
 len _:=rfl
 good s:=by simp only[V.cE,MN,Bool.and_self]
 one s:=by simp[Hj]
 plain _:=rfl
end
section
variable{S:Sys}{c:b9}
def QH(x:Lk SV)(b:Bool)(y z:Lk St):Lk St:=
 match x with
 |some (.v (.bool t))=>bg (t==b) y z|some (.v _)=>z|_=>none
@[congr] theorem XN{x B:Lk SV}{b:Bool}{y z:Lk St}(h:x=B):QH x b y z=QH B b y z:=by rw[h]
def Ue{β:Type}(x:Lk SV)(y z:Lk β):Lk β:=
 match x with
 |some (.v (.bool t))=>bg t y z|_=>none
@[congr] theorem YL{β:Type}{x B:Lk SV}{y z:Lk β}(h:x=B):Ue x y z=Ue B y z:=by rw[h]
def jK(c:b9)(f:FuncId)(az:L' V):Lk (L' V):=(c f (az.map .v) []).bind λr=>c8 r.2 8 r.1
def Jk(now:Bool)(args:L' SV)(ok:Bool)(st:St)(ys:L' V):Lk (SV×St):=if(result ys).scalar||ok then some (.v (result ys),st)else if now then(rowsOf args).map λds=>(.v (result ys),{st with m:=oH ds st.m})else none
theorem L_(dst:Lk Nat)(dr now:Bool)(old:L' SV->Bool)(f:FuncId)(args:L' SV)(st:St)(a:S.E.keep f=false):
 fu S c dst dr now old f args st=(c8 st.m 8 args).bind λaz=>if now||old args then(jK c f az).bind (Jk now args (dy args).isSome st)else none:=by
 unfold fu jK;simp only[a,Bool.false_eq_true,if_false]
 cases c8 st.m 8 args with
 |none=>rfl|some az=>
  simp only[ζb];split
  .cases c f (az.map .v) []with
   |none=>rfl|some r=>obtain⟨rs,m'⟩:=r;simp only[ζb];cases c8 m' 8 rs<;>rfl
  rfl
end
section
variable{S:Sys}{T:qO}
def Je(rs:L' RV):Out×St->Lk (L' V)
 |(.exit _,_)=>none|(_,st)=>(kU st rs).bind (c8 st.m 8)
theorem SN{f:FuncId}{rf:RF}(B:T f=some rf)(az:L' V)(D:az.length<=rf.na):jK (dc S T) f az=go S (dc S T) (Je rf.rs) rf.body [] (start (az.map .v) []):=by unfold jK;rw[s7 B];unfold nZ;rw[if_pos (by simpa using D),<-I_];cases h:cK S (dc S T) rf.body (start (az.map .v) [])with|none=>rfl|some r=>obtain⟨o,st⟩:=r;cases o<;>simp only[ζb,Je]<;>(try rfl)<;>(cases kU st rf.rs<;>rfl)
end
end Go.VE
namespace Go.VE
variable[bY]
variable{N:Nat->FuncId}
def Ag(k:IntKind)(a b:Int):Lk Int:=if b=0 then none else some (k.wrap (a.tdiv b))
theorem XG(e:Lk KT)(q:Lk Nat)(k:IntKind)(a b:Int):bl N (.bin e q .quo) [.int k a,.int k b]=(Ag k a b).bind λx=>some (.int k x):=by simp only[bl,h_,Ag,if_true];split<;>rfl
theorem IY(o:Nat)(cs:L' V):bl N (.fieldAddr o) [.fptr cs]=if o<=cs.length then some (.fptr (cs.drop o))else none:=rfl
def lR(s:ByteArray)(n:Int):Lk Int:=if 0<=n then(s[n.toNat]?).map λb=>(b.toNat:Int)else none
theorem Px(s:ByteArray)(k:IntKind)(n:Int):bl N .idxStr [.str s,.int k n]=(lR s n).bind λx=>some (.int .u8 x):=by simp only[bl,lR];split;cases s[n.toNat]?<;>rfl;rfl
theorem RH(z:L' V)(pl:L' (Nat×Nat))(vs:L' V):bl N (.build z pl) vs=(lC z pl vs).bind λcs=>some (.agg cs):=by simp only[bl];cases lC z pl vs<;>rfl
section
variable{α:Type}[bB α]
theorem Fz(s:Sl α)(k:IntKind)(i:Int)(n:Nat)(B:n=bB.size α):bl N (.idxS n) [bX s,.int k i]=(idx s i).bind λx=>some (.fptr (cells x)):=by rw[R2 s k i B];cases idx s i<;>rfl
theorem Ar(s:Sl α):bl N .lenSl [bX s]=some (.int .i64 s.l.length):=O7 s
def Sl.isNil{α:Type}(s:Sl α):Lk Bool:=
 match s with
 |.nil=>some true|.emp=>none|_=>some false
theorem SL(q:Lk Nat)(s:Sl α):bl N (.bin (some .slice) q .eql) [bX s,.bM]=s.isNil.bind λt=>some (.bool t):=by cases s<;>rfl
theorem PI(q:Lk Nat)(s:Sl α):bl N (.bin (some .slice) q .neq) [bX s,.bM]=s.isNil.bind λt=>some (.bool !t):=by cases s<;>rfl
def gj(s:Sl α)(lo hi:Lk Int):Lk (Sl α):=
 (dX s.l.length lo hi).map λ(l,h)=>match s with
  |.nil=>.nil|.emp=>.emp|.row x=>.part ((x.take h).drop l)|.part x=>.part ((x.take h).drop l)
theorem NL(s:Sl α)(lo hi:Lk Int)(n:Nat)(B:n=bB.size α):iG n (bX s) lo hi=(gj s lo hi).bind λx=>some (bX x):=by subst B;cases s with|nil=>simp only[bX,Sl.k,o6,iG,gj,Sl.l,length_nil];cases dX 0 lo hi<;>rfl|emp=>simp only[bX,Sl.k,o6,iG,gj,Sl.l,length_nil];cases dX 0 lo hi<;>rfl|row l=>simp only[bX,Sl.k,o6,iG,gj,Sl.l,if_true,gP];cases dX l.length lo hi<;>simp[rows,map_take,map_drop]|part l=>simp only[bX,Sl.k,o6,iG,gj,Sl.l,if_true,gP];cases dX l.length lo hi<;>simp[rows,map_take,map_drop]
end
theorem QZ(m:Tb bJ)(n:Nat)(a:Bool)(cs:L' V):oF m (.load n a) [.v (.fptr cs)]=(cut cs 0 n).bind λr=>(mk a r).bind λx=>some (.v x):=by simp only[oF,ey];cases cut cs 0 n with|none=>rfl|some r=>simp only[ζb];cases mk a r<;>rfl
end Go.VE
namespace Go.VE
variable[bY]
section
variable{α:Type}[bB α]
def cF(s:Sl α):bJ:=.sl s.k (bB.size α) (rows s.l)
def Sl.kS(s:Sl α)(i:Int):Lk Nat:=if 0<=i/\i.toNat<s.l.length then some i.toNat else none
def Sl.get(s:Sl α)(i:Nat):Lk α:=s.l[i]?
def Sl.put(s:Sl α)(i:Nat)(x:α):Lk (Sl α):=if i<s.l.length then some (match s with|.row l=>.row (l.set i x)|.part l=>.part (l.set i x)|s=>s)else none
def ga(s:Sl α)(x:α):Lk (Sl α):=if s.l.length+1<=2147483648 then some (.row (s.l++[x]))else none
def tV(n:Int)(z:α):Lk (Sl α):=if 0<=n/\n<=2147483648 then some (.row (replicate n.toNat z))else none
end
section
variable{α:Type}[bB α]{N:Nat->FuncId}{m:Tb bJ}
def NV(n d:Nat)(o:Lk bJ)(i:Int):Lk SV:=
 match o with
 |some (.sl k es u)=>if cO k/\es=n/\0<=i/\i.toNat<u.length then some (.el d i.toNat 0)else none|_=>none
theorem Vo(n d:Nat)(k:IntKind)(i:Int):jJ N m (.idxS n) [.own d,.v (.int k i)]=NV n d (bh m d) i:=by simp[jJ,dy,yx,NV];grind
theorem UW(n d:Nat)(s:Sl α)(i:Int)(h:n=bB.size α):NV n d (some (cF s)) i=(s.kS i).bind λj=>some (.el d j 0):=by simp[NV,cF,gP,Sl.kS];cases s with|nil=>simp[Sl.l,cO]|emp=>simp[Sl.l,cO]|row l=>simp[Sl.k,Sl.l,cO];grind|part l=>simp[Sl.k,Sl.l,cO];grind
def ML(o:Lk bJ):Lk SV:=
 match o with
 |some (.sl _ _ u)=>some (.v (.int .i64 u.length))|_=>none
theorem Rz(d:Nat):jJ N m .lenSl [.own d]=ML (bh m d):=by simp[jJ,dy,yx,ML];grind
theorem VG(s:Sl α):ML (some (cF s))=some (.v (.int .i64 s.l.length)):=by simp[ML,cF,gP]
def UG(n:Nat)(a:Bool)(o:Nat)(ob:Lk bJ):Lk SV:=
 match ob with
 |some (.box cs)=>wQ n a ((cs.drop o).take n)|_=>none
theorem aaG(n:Nat)(a:Bool)(d o:Nat):oF m (.load n a) [.ptr d o]=UG n a o (bh m d):=by rfl
theorem O6(n:Nat)(a:Bool)(o:Nat)(cs:L' SV):UG n a o (some (.box cs))=wQ n a ((cs.drop o).take n):=rfl
def Jj(n:Nat)(a:Bool)(i o:Nat)(ob:Lk bJ):Lk SV:=
 match ob with
 |some (.sl _ _ u)=>match u[i]?with
  |some cs=>((cut cs o n).bind (mk a)).map .v|none=>none
 |_=>none
theorem ZJ(n:Nat)(a:Bool)(d i o:Nat):oF m (.load n a) [.el d i o]=Jj n a i o (bh m d):=by rfl
theorem PK(n:Nat)(a:Bool)(i o:Nat)(s:Sl α):Jj n a i o (some (cF s))=(s.get i).bind λx=>(cut (cells x) o n).bind λr=>(mk a r).bind λy=>some (.v y):=by simp only[Jj,cF,Sl.get,rows,List.getElem?_map];cases s.l[i]?with|none=>rfl|some x=>simp only[map_some,ζb];cases cut (cells x) o n with|none=>rfl|some r=>simp;cases mk a r<;>rfl
theorem Zp(z:α)(n:Int)(d:Nat)(size:Nat)(zero:L' V)(h:zero=cells z)(B:size=bB.size α):
 oP m (.makeSl size zero) [.v (.int .i64 n),.v (.int .i64 n)] d=(tV n z).bind λs=>some (cF s,.own d):=by
 subst h B;simp[oP,tV];split
 .simp[cF,Sl.k,Sl.l,rows]
 rfl
def FF(st:St)(d i o size:Nat)(x:V)(ob:Lk bJ):Lk (SV×St):=
 match ob with
 |some (.sl k es u)=>match u[i]?with
  |some cs=>if x.cells.length=size/\o+size<=cs.length/\x.cells.all V.one=true then
   some (.v .undef,{st with m:=bN st.m d (.sl k es (u.set i (cs.take o++x.cells++cs.drop (o+x.cells.length))))})else none
  |none=>none
 |_=>none
theorem ND(st:St)(dst:Lk Nat)(size d i o:Nat)(x:V):nY st dst (.store size) [.el d i o,.v x]=FF st d i o size x (bh st.m d):=by rfl
theorem NR(g:Tb SV)(p:L' Nat)(w:L' (L' V))(B:Bool)(y:Nat)(d i size:Nat)(x:V)(a:α)(D:x.cells=cells a)(G:size=bB.size α)(s:Sl α):
 FF ⟨g,m,p,w,B,y⟩ d i 0 size x (some (cF s))=(s.put i a).bind λJ=>some (.v .undef,⟨g,bN m d (cF J),p,w,B,y⟩):=by
 have c:(cells a).all V.one=true:=bB.one a;have u:∀b:α,(cells b).length=bB.size α:=bB.len;subst G;simp only[FF,cF,rows,List.getElem?_map,D,Sl.put]
 by_cases hi:i<s.l.length
 .have hg:=ζd hi;rw[if_pos hi,hg];simp[u,c]
  cases s with
  |nil=>simp[Sl.l]at hi|emp=>simp[Sl.l]at hi|row l=>simp[Sl.k,Sl.l,List.drop_of_length_le,u]|part l=>simp[Sl.k,Sl.l,List.drop_of_length_le,u]
 grind
def Ax(st:St)(t n:Nat)(s:SV)(xs ys:Lk (L' (L' V))):Lk (SV×St):=
 match xs,ys with
 |some _,some []=>match s with
  |.own d=>match bh st.m d with
   |some ob=>if St.new {st with m:=eo d st.m} t then some (.own t,{st with m:=bN (eo d st.m) t ob})else none|none=>none
  |.v .bM=>if st.new t then some (.own t,{st with m:=bN st.m t (.sl .nil n [])})else none|.v .dL=>if st.new t then some (.own t,{st with m:=bN st.m t (.sl .emp n [])})else none|_=>none
 |some xs,some ys=>
  if xs.length+ys.length<=2147483648/\J7 s=true then
   if St.new {st with m:=giveUp st.m s} t then some (.own t,{st with m:=bN (giveUp st.m s) t (.sl .row n (xs++ys))})else none
  else none
 |_,_=>none
theorem AU(st:St)(t n:Nat)(s x:SV):nY st (some t) (.append n) [s,x]=Ax st t n s (jA st.m n s) (jA st.m n x):=by cases s<;>cases x<;>(rfl)
def M3(n:Nat)(o:Lk bJ):Lk (L' (L' V)):=
 match o with
 |some (.sl k es u)=>if cO k then(if es=n then some u else none)else some []|_=>none
theorem F9(n d:Nat):jA m n (.own d)=M3 n (bh m d):=by simp[jA,M3];grind
theorem Cl(n:Nat)(s:Sl α)(h:n=bB.size α):M3 n (some (cF s))=some (rows s.l):=by subst h;cases s<;>simp[M3,cF,Sl.k,Sl.l,cO,rows]
theorem Vc(n:Nat):jA m n (.v .bM)=some []:=rfl
theorem Wn(n:Nat):jA m n (.v .dL)=some []:=rfl
theorem Pd(g:Tb SV)(p:L' Nat)(w:L' (L' V))(B:Bool)(y:Nat)(t n d:Nat)(l:L' α)(x:α)(h:n=bB.size α):Ax ⟨g,m,p,w,B,y⟩ t n (.own d) (some (rows l)) (some (rows [x]))=
 (ga (.row l) x).bind λs=>if St.new ⟨g,eo d m,p,w,B,y⟩ t then some (.own t,⟨g,bN (eo d m) t (cF s),p,w,B,y⟩)else none:=by
 subst h;have e:(rows l).length+(rows [x]).length=l.length+1:=by simp[gP]
 by_cases h:l.length+1<=2147483648
 .have a:ga (.row l) x=some (.row (l++[x])):=if_pos h;have u:Ax ⟨g,m,p,w,B,y⟩ t (bB.size α) (.own d) (some (rows l)) (some (rows [x]))=if St.new ⟨g,eo d m,p,w,B,y⟩ t then some (.own t,⟨g,bN (eo d m) t (.sl .row (bB.size α) (rows l++rows [x])),p,w,B,y⟩)else none:=if_pos ⟨Zaa,rfl⟩
  rw[a,u];simp[cF,Sl.k,Sl.l,rows]
 have a:ga (.row l) x=none:=if_neg h;have u:Ax ⟨g,m,p,w,B,y⟩ t (bB.size α) (.own d) (some (rows l)) (some (rows [x]))=none:=if_neg (λq=>h Zaa)
 grind
theorem P5(g:Tb SV)(p:L' Nat)(w:L' (L' V))(B:Bool)(y:Nat)(t n:Nat)(x:α)(h:n=bB.size α):Ax ⟨g,m,p,w,B,y⟩ t n (.v .bM) (some []) (some (rows [x]))=
 if St.new ⟨g,m,p,w,B,y⟩ t then some (.own t,⟨g,bN m t (cF (.row [x])),p,w,B,y⟩)else none:=by
 subst h;rfl
theorem PF(g:Tb SV)(p:L' Nat)(w:L' (L' V))(B:Bool)(y:Nat)(t n:Nat)(x:α)(h:n=bB.size α):Ax ⟨g,m,p,w,B,y⟩ t n (.v .dL) (some []) (some (rows [x]))=
 if St.new ⟨g,m,p,w,B,y⟩ t then some (.own t,⟨g,bN m t (cF (.row [x])),p,w,B,y⟩)else none:=by
 subst h;rfl
end
theorem zc(g:Tb SV)(m:Tb bJ)(p:L' Nat)(w:L' (L' V))(B:Bool)(y d:Nat):St.new ⟨g,m,p,w,B,y⟩ d=(!(p.contains d)&&(bh m d).isNone&& !(wJ d g)&& !(tM d m)):=rfl
theorem tj(d:Nat):wJ d []=false:=rfl
theorem rN(d n:Nat)(x:SV)(r:Tb SV):wJ d ((n,x)::r)=(SV.c6 d x||wJ d r):=rfl
theorem tA(d:Nat):tM d []=false:=rfl
theorem rL(d n:Nat)(x:bJ)(r:Tb bJ):tM d ((n,x)::r)=(bJ.c6 d x||tM d r):=rfl
theorem zo(d:Nat)(x:V):SV.c6 d (.v x)=false:=rfl
theorem u5(d e:Nat):SV.c6 d (.own e)=(e==d):=rfl
theorem uP(d e o:Nat):SV.c6 d (.ptr e o)=(e==d):=rfl
theorem xd(d e i o:Nat):SV.c6 d (.el e i o)=(e==d):=rfl
theorem wV(d e:Nat):SV.c6 d (.mp e)=(e==d):=rfl
theorem uq(d:Nat)(f:FuncId)(a b:L' SV):SV.c6 d (.clo f a b)=(SV.dK d a||SV.dK d b):=rfl
theorem uG(d:Nat)(l:L' SV):SV.c6 d (.tup l)=SV.dK d l:=rfl
theorem tu(d:Nat):SV.dK d []=false:=rfl
theorem rC(d:Nat)(x:SV)(r:L' SV):SV.dK d (x::r)=(SV.c6 d x||SV.dK d r):=rfl
theorem s_(d:Nat)(cs:L' SV):bJ.c6 d (.box cs)=SV.dK d cs:=rfl
theorem HM(m:Tb bJ)(n:Nat):c8 m n []=some []:=by cases n<;>simp[c8]
theorem EU(m:Tb bJ)(n:Nat)(x:SV)(r:L' SV):c8 m n (x::r)=(shut m n x).bind λy=>(c8 m n r).bind λs=>some (y::s):=by cases n<;>(simp[c8];cases shut m _ x<;>(try rfl)<;>(cases c8 m _ r<;>rfl))
theorem Xq(m:Tb bJ)(n:Nat)(x:V):shut m n (.v x)=some x:=by cases n<;>simp[shut]
theorem Tv(m:Tb bJ)(n:Nat)(f:FuncId)(a b:L' SV):shut m (n+1) (.clo f a b)=(c8 m n a).bind λx=>(c8 m n b).bind λy=>some (.clo f x y):=by simp[shut];cases c8 m n a<;>(try rfl)<;>(cases c8 m n b<;>rfl)
theorem Rl(m:Tb bJ)(n:Nat)(l:L' SV):shut m (n+1) (.tup l)=(c8 m n l).bind λx=>some (.tup x):=by simp[shut];cases c8 m n l<;>rfl
theorem S7(m:Tb bJ)(n:Nat)(l:L' SV):shut m (n+1) (.agg l)=(c8 m n l).bind λx=>some (.agg x):=by simp[shut];cases c8 m n l<;>rfl
theorem uz{α:Type}(n:Nat):eo n ([]:Tb α)=[]:=rfl
theorem s9{α:Type}(n k:Nat)(x:α)(r:Tb α):eo n ((k,x)::r)=if k=n then eo n r else(k,x)::eo n r:=rfl
theorem mapM_nil(f:L' SV->L' SV):mapM f []=[]:=rfl
section
variable{N:Nat->FuncId}{m:Tb bJ}
theorem Wg:result []=.tup []:=rfl
theorem Wq(x:V):result [x]=x:=rfl
theorem U9(x y:V)(l:L' V):result (x::y::l)=.tup (x::y::l):=rfl
theorem I5(p:vL)(a:V):jJ N m p [.v a]=(bl N p [a]).bind λx=>some (.v x):=Mw N m p _ [a] rfl
theorem uQ(p:vL)(a b:V):jJ N m p [.v a,.v b]=(bl N p [a,b]).bind λx=>some (.v x):=Mw N m p _ [a,b] rfl
theorem nq(l:L' V):dy (l.map .v)=some l:=by induction l with|nil=>rfl|cons a l u=>simp only[map_cons,dy,u];rfl
theorem vA(n:Nat)(l:L' V):c8 m n (l.map .v)=some l:=by induction l with|nil=>exact HM m n|cons a l u=>rw[map_cons,EU,Xq,u];rfl
theorem Sl.TR{α:Type}(l:L' α):(Sl.row l).l=l:=rfl
theorem ON(cs:L' V):lC cs [] []=some cs:=rfl
theorem NI(cs:L' V)(off size:Nat)(pl:L' (Nat×Nat))(v:V)(vs:L' V):lC cs ((off,size)::pl) (v::vs)=
 if v.cells.length=size/\off+v.cells.length<=cs.length then lC (cs.take off++v.cells++cs.drop (off+v.cells.length)) pl vs else none:=by
 simp only[lC]
 by_cases h:v.cells.length=size<;>by_cases u:off+v.cells.length<=cs.length
 .rw[if_neg (by simp[h];omega),if_pos ⟨h,u⟩]
 .rw[if_pos (by simp[h];omega),if_neg (λq=>u q.2)]
 .rw[if_pos (by simp[h]),if_neg (λq=>h q.1)]
 rw[if_pos (by simp[h]),if_neg (λq=>h q.1)]
theorem QL(k:IntKind)(n:Int):V.cells (.int k n)=[.int k n]:=rfl
theorem L5(n:Bool):V.cells (.bool n)=[.bool n]:=rfl
theorem QV(n:ByteArray):V.cells (.str n)=[.str n]:=rfl
theorem Pj:V.cells .bM=[.bM]:=rfl
theorem nD(k:IntKind)(n:Int):V.one (.int k n)=true:=rfl
theorem l_(n:Bool):V.one (.bool n)=true:=rfl
theorem nF(n:ByteArray):V.one (.str n)=true:=rfl
end
section
variable{S:Sys}{c:b9}{β γ δ:Type}{Q:Out×St->Lk β}{L:Lk β}{e:γ->Lk β}
theorem Qf{dr:Bool}{fr:L' Nat}{d:Lk Nat}{gd:Lk (Nat×Bool)}{now:Bool}{k:K}{az:L' Arg}{st:St}(h:wanted st.g gd=some true):
 fM S c dr fr ⟨d,gd,now,k,az,[],[]⟩ st=fM S c dr fr ⟨d,none,now,k,az,[],[]⟩ st:=by
 unfold fM;rw[h];rfl
theorem Dl(dr:Bool)(st:St):Di dr [] st=some st:=by cases dr<;>rfl
def nC(f:SV->Lk V):L' SV->Lk (L' V)
 |[]=>some []|x::r=>(f x).bind λy=>(nC f r).bind λs=>some (y::s)
def iN(m:Tb bJ):Nat->SV->Lk V
 |0,x=>match x with
  |.v y=>some y|.own d=>match bh m d with
   |some (.sl k es xs)=>some (o6 k es xs)|_=>none
  |.mp d=>match bh m d with
   |some (.mp B)=>some (.fmap B)|_=>none
  |_=>none
 |n+1,x=>match x with
  |.v y=>some y|.own d=>match bh m d with
   |some (.sl k es xs)=>some (o6 k es xs)|_=>none
  |.ptr d o=>match bh m d with
   |some (.box cs)=>match nC (iN m n) cs with
    |some xs=>if o<=xs.length then some (.fptr (xs.drop o))else none|none=>none
   |_=>none
  |.mp d=>match bh m d with
   |some (.mp B)=>some (.fmap B)|_=>none
  |.clo f a b=>(nC (iN m n) a).bind λx=>(nC (iN m n) b).bind λy=>some (.clo f x y)|.tup l=>(nC (iN m n) l).bind λx=>some (.tup x)|.agg l=>(nC (iN m n) l).bind λx=>some (.agg x)|_=>none
theorem wW(m:Tb bJ):∀(n:Nat),(∀x,shut m n x=iN m n x)/\∀l,c8 m n l=nC (iN m n) l:=by
 have w:∀n,(∀x,shut m n x=iN m n x)->∀l,c8 m n l=nC (iN m n) l:=by intro n h l;induction l with|nil=>exact HM m n|cons a l u=>rw[EU,h a,u];rfl
 intro n
 induction n with
 |zero=>
  have c:∀x,shut m 0 x=iN m 0 x:=by intro x;cases x<;>simp[shut,iN]<;>rfl
  grind
 |succ n u=>
  have e:∀x,shut m (n+1) x=iN m (n+1) x:=by intro x;cases x with|ptr d o=>simp[shut,iN,u.2];rfl|clo f a b=>rw[Tv,u.2,u.2];rfl|tup l=>rw[Rl,u.2];rfl|agg l=>rw[S7,u.2];rfl|_=>simp[shut,iN]<;>rfl
  grind
noncomputable def wk(S:Sys)(c:b9)(dr:Bool):L' Nat->L' RO->(St->Lk β)->St->Lk β
 |_,[],k,st=>k st|fr,o::r,k,st=>((Di dr o.pre st).bind (fM S c dr fr o.strip)).bind λst'=>wk S c dr (if dr then sj fr o.strip else fr) r k (qy o.dead st')
theorem FB(dr:Bool):∀(l:L' RO)(fr:L' Nat)(k:St->Lk β)(st:St),wk S c dr fr l k st=(oh S c dr fr l st).bind k
 |[],_,_,_=>rfl|o::r,fr,k,st=>by simp[wk,oh];cases(Di dr o.pre st).bind (fM S c dr fr o.strip)with|none=>rfl|some st'=>exact FB dr r _ k _
noncomputable def qw(S:Sys)(c:b9):RC->(St->Lk β)->(Nat->St->Lk β)->(St->Lk β)->St->Lk β
 |.skip,n,_,_,st=>n st|.ops l,n,_,_,st=>wk S c false [] l n st|.qn l,n,_,_,st=>wk S c true [] l n st|.seq a b,n,x,r,st=>qw S c a (λst=>qw S c b n x r st) x r st|.cond y a b,n,x,r,st=>match rT S.N st.g y with
  |some (.v (.bool t))=>bg t (qw S c a n x r st) (qw S c b n x r st)|_=>none
 |.block id a,n,x,r,st=>qw S c a n (λk st=>if k=id then n st else x k st) r st|.loop a,n,x,r,st=>(pJ (cK S c a) st).bind λq=>match q with|(.norm,st)=>n st|(.exit k,st)=>x k st|(.ret,st)=>r st
 |.each g ps a b,n,x,r,st=>(cK S c (.each g ps a b) st).bind λq=>match q with|(.norm,st)=>n st|(.exit k,st)=>x k st|(.ret,st)=>r st
 |.exit k,_,x,_,st=>x k st|.ret,_,_,r,st=>r st|.gh g a,n,x,r,st=>(ghost g st).bind λst=>qw S c a n x r st|.hg a g,n,x,r,st=>qw S c a (λst=>(ghost g st).bind n) x r st
def Ge(n:St->Lk β)(x:Nat->St->Lk β)(r:St->Lk β):Out×St->Lk β
 |(.norm,st)=>n st|(.exit k,st)=>x k st|(.ret,st)=>r st
theorem D7:∀(d:RC)(n:St->Lk β)(x:Nat->St->Lk β)(r:St->Lk β)(st:St),qw S c d n x r st=(cK S c d st).bind (Ge n x r):=by
 intro d
 induction d with
 |skip=>intros;rfl|ops l=>intro n x r st;simp[qw,cK,FB];cases oh S c false [] l st<;>rfl|qn l=>intro n x r st;simp[qw,cK,FB];cases oh S c true [] l st<;>rfl|seq a b u w=>intro n x r st;simp[qw,cK,u,w];cases h:cK S c a st with|none=>rfl|some q=>obtain⟨o,st'⟩:=q;cases o<;>rfl
 |cond y a b u w=>
  intro n x r st;simp[qw,cK,u,w]
  cases rT S.N st.g y with
  |none=>rfl|some v=>cases v with
   |v z=>cases z with
    |bool t=>cases t<;>rfl|_=>rfl
   |_=>rfl
 |block id a B=>intro n x r st;simp[qw,cK,B];cases h:cK S c a st with|none=>rfl|some q=>obtain⟨o,st'⟩:=q;cases o with|exit k=>simp[Ge];split<;>rfl|_=>rfl
 |loop a B=>intro n x r st;rfl|each g ps a b u w=>intro n x r st;rfl|exit k=>intros;rfl|ret=>intros;rfl|gh g a B=>simp[qw,cK,B];grind|hg a g B=>intro n x r st;simp[qw,cK,B];cases h:cK S c a st with|none=>rfl|some q=>obtain⟨o,st'⟩:=q;cases o with|norm=>simp[Ge];cases ghost g st'<;>rfl|_=>rfl
section
variable(S c Q)
mutual
noncomputable def nQ:L' Fm->St->Lk β
 |[]=>λst=>Q (.norm,st)|.seq b::fs=>λst=>qw S c b (nQ fs) (nS fs) (λst=>Q (.ret,st)) st|.blk _::fs=>nQ fs|.gst g::fs=>λst=>(ghost g st).bind (nQ fs)
noncomputable def nS:L' Fm->Nat->St->Lk β
 |[]=>λk st=>Q (.exit k,st)|.seq _::fs=>nS fs|.blk id::fs=>λk st=>if k=id then nQ fs st else nS fs k st|.gst _::fs=>nS fs
end
noncomputable def kY(a:RC)(fs:L' Fm)(st:St):Lk β:=qw S c a (nQ S c Q fs) (nS S c Q fs) (λst=>Q (.ret,st)) st
end
section
variable{dr:Bool}{fr:L' Nat}{d:Nat}{dst:Lk Nat}{now:Bool}{az:L' Arg}{st:St}{α:Type}[bB α]
theorem LF{p:vL}{svs:L' SV}{m:Lk δ}{v:δ->SV}(B:bW S.N st.g az=some svs)(hi:isSlice p=false)(h:jJ S.N st.m p svs=m.bind λx=>some (v x)):
 fM S c dr fr ⟨dst,none,now,.p p,az,[],[]⟩ st=m.bind λx=>some (cT st dst (v x)):=by
 rw[Ur _ _ _ _ _ _ _ hi,B]
 grind
theorem BV{p:vL}{svs:L' SV}{v:SV}(B:bW S.N st.g az=some svs)(hi:isSlice p=false)(h:jJ S.N st.m p svs=some v):
 fM S c dr fr ⟨dst,none,now,.p p,az,[],[]⟩ st=some (cT st dst v):=by
 rw[Ur _ _ _ _ _ _ _ hi,B]
 grind
theorem TS{n:Nat}{s:Sl α}{k:IntKind}{i:Int}(B:bW S.N st.g az=some [.v (bX s),.v (.int k i)])(D:n=bB.size α):
 fM S c dr fr ⟨dst,none,now,.p (.idxS n),az,[],[]⟩ st=(idx s i).bind λx=>some (cT st dst (.v (.fptr (cells x)))):=
 LF B rfl (by rw[uQ,Fz s k i n D];grind)
theorem Y1{n e:Nat}{s:Sl α}{k:IntKind}{i:Int}(B:bW S.N st.g az=some [.own e,.v (.int k i)])(D:bh st.m e=some (cF s))(G:n=bB.size α):
 fM S c dr fr ⟨dst,none,now,.p (.idxS n),az,[],[]⟩ st=(s.kS i).bind λj=>some (cT st dst (.el e j 0)):=
 LF B rfl (by rw[Vo,D,UW n e s i G])
theorem UM{s:Sl α}(B:bW S.N st.g az=some [.v (bX s)]):fM S c dr fr ⟨dst,none,now,.p .lenSl,az,[],[]⟩ st=some (cT st dst (.v (.int .i64 s.l.length))):=BV B rfl (by rw[I5,Ar];rfl)
theorem XK{e:Nat}{s:Sl α}(B:bW S.N st.g az=some [.own e])(D:bh st.m e=some (cF s)):fM S c dr fr ⟨dst,none,now,.p .lenSl,az,[],[]⟩ st=some (cT st dst (.v (.int .i64 s.l.length))):=BV B rfl (by rw[Rz,D,VG])
theorem YY{q:Lk KT}{u:Lk Nat}{k:IntKind}{a b:Int}(B:bW S.N st.g az=some [.v (.int k a),.v (.int k b)]):fM S c dr fr ⟨dst,none,now,.p (.bin q u .quo),az,[],[]⟩ st=(Ag k a b).bind λx=>some (cT st dst (.v (.int k x))):=LF B rfl (by rw[uQ,XG];grind)
theorem Vq{u:Lk Nat}{s:Sl α}(B:bW S.N st.g az=some [.v (bX s),.v .bM]):fM S c dr fr ⟨dst,none,now,.p (.bin (some .slice) u .eql),az,[],[]⟩ st=s.isNil.bind λt=>some (cT st dst (.v (.bool t))):=LF B rfl (by rw[uQ,SL];grind)
theorem TE{u:Lk Nat}{s:Sl α}(B:bW S.N st.g az=some [.v (bX s),.v .bM]):fM S c dr fr ⟨dst,none,now,.p (.bin (some .slice) u .neq),az,[],[]⟩ st=s.isNil.bind λt=>some (cT st dst (.v (.bool !t))):=LF B rfl (by rw[uQ,PI];grind)
theorem Tf{s:ByteArray}{k:IntKind}{n:Int}(B:bW S.N st.g az=some [.v (.str s),.v (.int k n)]):fM S c dr fr ⟨dst,none,now,.p .idxStr,az,[],[]⟩ st=(lR s n).bind λx=>some (cT st dst (.v (.int .u8 x))):=LF B rfl (by rw[uQ,Px];grind)
theorem Xh{n e i o:Nat}{a:Bool}{s:Sl α}{v:α->V}(B:bW S.N st.g az=some [.el e i o])(hd:(!dr||now||fm fr [.el e i o])=true)(D:bh st.m e=some (cF s))(b:∀x:α,(cut (cells x) o n).bind (mk a)=some (v x)):
 fM S c dr fr ⟨dst,none,now,.r (.load n a),az,[],[]⟩ st=(s.get i).bind λx=>some (cT st dst (.v (v x))):=by
 rw[B9,B];simp only[ζb,hd,ZJ,D,PK]
 cases s.get i with
 |none=>rfl|some x=>
  cases d:cut (cells x) o n with
  |none=>grind|some r=>grind
theorem LR{n e i:Nat}{s:Sl α}{x:V}{a:α}(B:bW S.N st.g az=some [.el e i 0,.v x])(hd:(!dr||now)=true)(D:bh st.m e=some (cF s))(G:x.cells=cells a)(J:n=bB.size α):
 fM S c dr fr ⟨dst,none,now,.l (.store n),az,[],[]⟩ st=(s.put i a).bind λU=>some (cT {st with m:=bN st.m e (cF U)} dst (.v .undef)):=by
 rw[yp,B];simp[hd,ND,D];rw[NR st.g st.pin st.want st.more st.yid e i n x a G J s]
 grind
theorem Xe{n:Nat}{z:α}{zero:L' V}{i:Int}(B:bW S.N st.g az=some [.v (.int .i64 i),.v (.int .i64 i)])(D:zero=cells z)(G:n=bB.size α)(J:st.new d=true):
 fM S c dr fr ⟨some d,none,now,.a (.makeSl n zero),az,[],[]⟩ st=(tV i z).bind λs=>some {st with g:=bN st.g d (.own d),m:=bN st.m d (cF s)}:=by
 rw[Ah,B];simp[J];rw[Zp z i d n zero D G]
 grind
theorem Zr{n e u:Nat}{s:Sl α}{x:α}(G:bW S.N st.g az=some [.own e,.own u])(hd:(!dr||now)=true)(J:bh st.m e=some (cF s))(a:bh st.m u=some (cF (.row [x])))(B:n=bB.size α)(U:St.new {st with m:=eo e st.m} d=true):
 fM S c dr fr ⟨some d,none,now,.l (.append n),az,[],[]⟩ st=(ga s x).bind λD=>some {st with g:=bN st.g d (.own d),m:=bN (eo e st.m) d (cF D)}:=by
 rw[yp,G];simp[hd,AU,F9,J,a];rw[Cl n s B,Cl n (.row [x]) B];have:=Pd (m:=st.m) st.g st.pin st.want st.more st.yid d n e s.l x B;simp[Sl.TR];rw[this];have w:ga (.row s.l) x=ga s x:=by cases s<;>rfl
 rw[w]
 cases ga s x with
 |none=>rfl|some D=>simp;rw[if_pos U];rfl
theorem Yv{n u:Nat}{x:α}{v:V}(a:v=.bM\/v=.dL)(G:bW S.N st.g az=some [.v v,.own u])(hd:(!dr||now)=true)(b:bh st.m u=some (cF (.row [x])))(B:n=bB.size α)(D:st.new d=true):
 fM S c dr fr ⟨some d,none,now,.l (.append n),az,[],[]⟩ st=some {st with g:=bN st.g d (.own d),m:=bN st.m d (cF (.row [x]))}:=by
 rw[yp,G];simp[hd,AU,F9,b];rw[Cl n (.row [x]) B];simp[Sl.TR];rcases a with rfl|rfl
 .rw[Vc,P5 (m:=st.m) st.g st.pin st.want st.more st.yid d n x B];rw[if_pos D];rfl
 rw[Wn,PF (m:=st.m) st.g st.pin st.want st.more st.yid d n x B];rw[if_pos D];rfl
theorem Xi{f:FuncId}{svs args:L' SV}{cs:L' V}{m:Lk δ}{E:δ->L' V}(a:jK c f cs=m.bind λr=>some (E r))(b:S.E.keep f=false)(D:bW S.N st.g az=some svs)(G:k_ svs=some (f,args))
 (B:nC (iN st.m 8) args=some cs)(J:((!dr||now)||fZ st.m fr args)=true)(d:∀r,((result (E r)).scalar||(dy args).isSome)=true):
 fM S c dr fr ⟨dst,none,now,.c,az,[],[]⟩ st=m.bind λr=>some (cT st dst (.v (result (E r)))):=by
 rw[wE dr fr dst now az st svs f args D G,L_ _ _ _ _ _ _ _ b,(wW st.m 8).2,B];simp[J,a]
 cases m with
 |none=>rfl|some r=>
  simp[Jk]
  grind
end
end
section
variable{S:Sys}{c:b9}{β γ:Type}{Q:Out×St->Lk β}{L:Lk β}{e:γ->Lk β}
theorem p8(a:RC)(st:St):kY S c Q a [] st=(cK S c a st).bind Q:=by unfold kY;rw[D7];congr 1;funext q;obtain⟨o,st⟩:=q;cases o<;>rfl
theorem Cg(a:RC)(st:St):cK S c a st=kY S c some a [] st:=by rw[p8];cases cK S c a st<;>rfl
def qM(rs:L' RV):Out×St->Lk (L' V)
 |(.exit _,_)=>none|(_,st)=>(kU st rs).bind (nC (iN st.m 8))
theorem U3(rs:L' RV):Je rs=qM rs:=by funext q;obtain⟨o,st⟩:=q;cases o;simp only[Je,qM];congr 1;funext l;exact(wW st.m 8).2 l;rfl;simp only[Je,qM];congr 1;funext l;exact(wW st.m 8).2 l
theorem Vz{S:Sys}{T:qO}{f:FuncId}{rf:RF}(B:T f=some rf)(az:L' V)(D:az.length<=rf.na):jK (dc S T) f az=kY S (dc S T) (qM rf.rs) rf.body [] (start (az.map .v) []):=by rw[SN B az D,<-I_,p8,U3]
end
def kV{α σ ε ρ:Type}(step:α->σ->Lk (Fw σ ε ρ)):L' α->σ->Lk (Fw σ ε ρ)
 |[],s=>some (.n s)|x::xs,s=>(step x s).bind λw=>match w with
  |.n B=>kV step xs B|.x e=>some (.x e)|.r b=>some (.r b)
def Fw.qY{ν ε ρ γ:Type}(fn:ν->γ)(B:ε->γ)(fr:ρ->γ):Fw ν ε ρ->γ
 |.n a=>fn a|.x e=>B e|.r b=>fr b
def Fw.xx{ν ε ρ:Type}(B:ν->Tb bJ)(eε:ε->Nat×Tb bJ)(eρ:ρ->Tb bJ):Fw ν ε ρ->Out×Tb bJ
 |.n a=>(.norm,B a)|.x e=>(.exit (eε e).1,(eε e).2)|.r b=>(.ret,eρ b)
def xx(q:Out×St):Lk (Out×Tb bJ):=some (q.1,q.2.m)
section
variable{S:Sys}{c:b9}{β γ:Type}{Q:Out×St->Lk β}{L:Lk β}{e:γ->Lk β}
noncomputable def Aa(S:Sys)(c:b9)(b:RC):Out×St->Lk (Out×Tb bJ)
 |(.norm,st)=>kY S c xx b [] st|_=>none
theorem Oo(ps:L' Nat)(a b:RC)(st:St)(x:L' V)(m:Tb bJ)(B:x.length=ps.length):
 jk ps (cK S c a) (cK S c b) st x m=kY S c (Aa S c b) a [] ⟨yq st.g ps (x.map .v),m,st.pin++qJ st.g,[],true,0⟩:=by
 unfold jk;rw[if_pos B,p8]
 cases cK S c a ⟨yq st.g ps (x.map .v),m,st.pin++qJ st.g,[],true,0⟩with
 |none=>rfl|some q=>
  obtain⟨o,u⟩:=q
  cases o with
  |norm=>simp only[ζb,Aa];rw[p8];cases cK S c b u<;>rfl|_=>rfl
end
def Le{α:Type}(a b:Lk α):Prop:=∀r,a=some r->b=some r
section
variable{α:Type}
theorem Le.refl(a:Lk α):Le a a:=λ_ h=>h
theorem Le.of_eq{a b:Lk α}(h:b=a):Le a b:=λ_ u=>h.trans u
theorem Le.trans{a b d:Lk α}(c:Le a b)(B:Le b d):Le a d:=λr h=>B r (c r h)
theorem Le.none(b:Lk α):Le (none:Lk α) b:=λr h=>by cases h
theorem Le.bind{β:Type}{a b:Lk α}{f g:α->Lk β}(h:Le a b)(B:∀x,Le (f x) (g x)):Le (a.bind f) (b.bind g):=λr c=>by obtain⟨x,d,u⟩:=ζg.1 c;rw[h x d];exact B x r u
end
section
variable{S:Sys}{c:b9}{β γ δ:Type}{Q:Out×St->Lk β}{L:Lk β}{e:γ->Lk β}
theorem KO{dr:Bool}{fr:L' Nat}{dst:Lk Nat}{now:Bool}{az:L' Arg}{st:St}{f:FuncId}{svs args:L' SV}{cs:L' V}{m:Lk δ}{E:δ->L' V}(a:Le (m.bind λr=>some (E r)) (jK c f cs))(b:S.E.keep f=false)(D:bW S.N st.g az=some svs)(G:k_ svs=some (f,args))
 (B:nC (iN st.m 8) args=some cs)(J:((!dr||now)||fZ st.m fr args)=true)(d:∀r,((result (E r)).scalar||(dy args).isSome)=true):
 Le (m.bind λr=>some (cT st dst (.v (result (E r))))) (fM S c dr fr ⟨dst,none,now,.c,az,[],[]⟩ st):=by
 intro q w;obtain⟨r,e,z⟩:=ζg.1 w;have u:jK c f cs=(some r).bind λr=>some (E r):=a _ (by rw[e];rfl)
 rw[Xi (m:=some r) u b D G B J d];exact z
theorem Ru{σ ε ρ:Type}{f:St->Lk (Out×St)}{step:σ->Lk (Fw σ ε ρ)}{eσ:σ->St}{eε:ε->Nat×St}{eρ:ρ->St}(h:∀s,Le ((step s).bind λw=>some (Fw.out eσ eε eρ w)) (f (eσ s)))(s:σ):
 Le ((bT step s).bind λw=>some (Fw.out (λe=>Empty.elim e) eε eρ w)) (pJ f (eσ s)):=by
 have key:∀k s r,j8 step k s=some r->jL f k (eσ s)=some (Fw.out (λe=>Empty.elim e) eε eρ r):=by intro k;induction k with|zero=>intro s r h;simp[j8]at h|succ k C=>intro s r u;simp only[j8]at u;cases z:step s with|none=>rw[z]at u;cases u|some w=>rw[z]at u;have B:=h s (Fw.out eσ eε eρ w) (by rw[z];rfl);simp only[jL,B];cases w with|n a=>exact C a r u|x e=>cases u;rfl|r b=>cases u;rfl
 intro r c;obtain⟨w,d,B⟩:=ζg.1 c;obtain⟨k,g⟩:=pn.1 d;cases B;exact n9.2 ⟨k,key k s w g⟩
theorem Zl{σ ε ρ:Type}{a:RC}{fs:L' Fm}{step:σ->Lk (Fw σ ε ρ)}{eσ:σ->St}{eε:ε->Nat×St}{eρ:ρ->St}{s:σ}{B:ε->Lk γ}{fr:ρ->Lk γ}
 (D:L=kY S c Q (.loop a) fs (eσ s))(h:∀s,Le ((step s).bind λw=>some (Fw.out eσ eε eρ w)) (kY S c some a [] (eσ s)))
 (G:∀x,Le ((B x).bind e) (nS S c Q fs (eε x).1 (eε x).2))(d:∀b,Le ((fr b).bind e) (Q (.ret,eρ b))):Le (((bT step s).bind (Fw.elim B fr)).bind e) L:=by
 subst D;have g:kY S c Q (.loop a) fs (eσ s)=(pJ (cK S c a) (eσ s)).bind (Ge (nQ S c Q fs) (nS S c Q fs) (λst=>Q (.ret,st))):=by unfold kY;rw[D7];rfl
 rw[g];have u:=Ru (step:=step) (f:=cK S c a) (eσ:=eσ) (eε:=eε) (eρ:=eρ) (λs=>by rw[Cg];exact h s) s
 cases z:bT step s with
 |none=>exact Le.none _|some w=>
  have C:=u _ (by rw[z];rfl)
  rw[C]
  cases w with
  |n a=>cases a|x a=>exact G a|r a=>exact d a
theorem Ji{α σ ε ρ:Type}{f:L' V->Tb bJ->Lk (Out×Tb bJ)}{step:α->σ->Lk (Fw σ ε ρ)}{eI:α->L' V}{eσ:σ->Tb bJ}{eε:ε->Nat×Tb bJ}{eρ:ρ->Tb bJ}
 (h:∀x s,Le ((step x s).bind λw=>some (Fw.xx eσ eε eρ w)) (f (eI x) (eσ s))):∀(xs:L' α)(s:σ),Le ((kV step xs s).bind λw=>some (Fw.xx eσ eε eρ w)) (ri f (xs.map eI) (eσ s))
 |[],s=>λr a=>a|x::xs,s=>by simp only[map_cons,ri,kV];cases B:step x s with|none=>exact Le.none _|some w=>have D:=h x s (Fw.xx eσ eε eρ w) (by rw[B];rfl);rw[D];cases w with|n u=>simp only[ζb,Fw.xx];exact Ji h xs u|x e=>exact Le.refl _|r b=>exact Le.refl _
theorem ZM{α σ ε ρ:Type}{g:Arg}{ps:L' Nat}{a b:RC}{fs:L' Fm}{f:FuncId}{x y:L' V}{d:L' α}{eI:α->L' V}{step:α->σ->Lk (Fw σ ε ρ)}{eσ:σ->Tb bJ}{eε:ε->Nat×Tb bJ}{eρ:ρ->Tb bJ}{i:Tb SV}{s:σ}
 {fn:σ->Lk γ}{B:ε->Lk γ}{fr:ρ->Lk γ}
 (D:L=kY S c Q (.each g ps a b) fs ⟨i,eσ s,[],[],true,0⟩)(j:rT S.N i g=some (.v (.clo f x y)))(hi:S.items f x y=some (d.map eI))(G:∀x,(eI x).length=ps.length)
 (h:∀x s,Le ((step x s).bind λw=>some (Fw.xx eσ eε eρ w)) (kY S c (Aa S c b) a [] ⟨yq i ps ((eI x).map .v),eσ s,qJ i,[],true,0⟩))
 (J:∀s,Le ((fn s).bind e) (nQ S c Q fs ⟨i,eσ s,[],[],true,0⟩))
 (U:∀x,Le ((B x).bind e) (nS S c Q fs (eε x).1 ⟨i,(eε x).2,[],[],true,0⟩))(k:∀b,Le ((fr b).bind e) (Q (.ret,⟨i,eρ b,[],[],true,0⟩))):
 Le (((kV step d s).bind (Fw.qY fn B fr)).bind e) L:=by
 subst D;have l:kY S c Q (.each g ps a b) fs ⟨i,eσ s,[],[],true,0⟩=(cK S c (.each g ps a b) ⟨i,eσ s,[],[],true,0⟩).bind (Ge (nQ S c Q fs) (nS S c Q fs) (λst=>Q (.ret,st))):=by unfold kY;rw[D7]
 rw[l];simp only[cK,j,hi];have u:=Ji (step:=step) (f:=jk ps (cK S c a) (cK S c b) ⟨i,eσ s,[],[],true,0⟩) (eI:=eI) (eσ:=eσ) (eε:=eε) (eρ:=eρ) (λx s=>by rw[Oo _ _ _ _ _ _ (G x)];exact h x s) d s
 cases z:kV step d s with
 |none=>exact Le.none _|some w=>
  have C:=u _ (by rw[z];rfl)
  rw[C]
  cases w with
  |n a=>exact J a|x a=>exact U a|r a=>exact k a
end
inductive Fo where
 |rc(c:RC)|ops(dr:Bool)(fr:List Nat)(l:List RO)|nx|ex(k:Nat)|rt
abbrev bL(g:Tb SV)(m:Tb bJ):St:=⟨g,m,[],[],true,0⟩
section
variable(S:Sys)(c:b9){β:Type}(Q:Out×St->Lk β)
noncomputable def rn:Fo->L' Fm->St->Lk β
 |.rc a,fs,st=>kY S c Q a fs st|.ops dr fr l,fs,st=>wk S c dr fr l (nQ S c Q fs) st|.nx,fs,st=>nQ S c Q fs st|.ex k,fs,st=>nS S c Q fs k st|.rt,_,st=>Q (.ret,st)
noncomputable def z_:Fo->L' Fm->St->Lk (Fo×L' Fm×St)
 |.rc .skip,fs,st=>some (.nx,fs,st)|.rc (.ops l),fs,st=>some (.ops false [] l,fs,st)|.rc (.qn l),fs,st=>some (.ops true [] l,fs,st)|.rc (.seq a b),fs,st=>some (.rc a,.seq b::fs,st)|.rc (.cond y a b),fs,st=>match rT S.N st.g y with
  |some (.v (.bool true))=>some (.rc a,fs,st)|some (.v (.bool false))=>some (.rc b,fs,st)|_=>none
 |.rc (.block id a),fs,st=>some (.rc a,.blk id::fs,st)|.rc (.exit k),fs,st=>some (.ex k,fs,st)|.rc .ret,fs,st=>some (.rt,fs,st)|.rc (.gh g a),fs,st=>match ghost g st with
  |some st'=>some (.rc a,fs,st')|none=>none
 |.rc (.hg a g),fs,st=>some (.rc a,.gst g::fs,st)|.rc (.loop _),_,_=>none|.rc (.each ..),_,_=>none|.ops _ _ [],fs,st=>some (.nx,fs,st)|.ops dr fr (⟨d,gd,now,k,az,dd,[]⟩::r),fs,st=>match fM S c dr fr ⟨d,gd,now,k,az,[],[]⟩ st with
  |some st'=>some (.ops dr (if dr then sj fr ⟨d,gd,now,k,az,[],[]⟩else fr) r,fs,qy dd st')|none=>none
 |.ops dr fr (⟨d,gd,now,k,az,dd,x::xs⟩::r),fs,st=>if dr&& !(AN x&&xs.all AN)then none else match ghost x st with
  |some st'=>some (.ops dr fr (⟨d,gd,now,k,az,dd,xs⟩::r),fs,st')|none=>none
 |.nx,.seq b::fs,st=>some (.rc b,fs,st)|.nx,.blk _::fs,st=>some (.nx,fs,st)|.nx,.gst g::fs,st=>match ghost g st with
  |some st'=>some (.nx,fs,st')|none=>none
 |.nx,[],_=>none|.ex k,.seq _::fs,st=>some (.ex k,fs,st)|.ex k,.blk id::fs,st=>some (if k=id then .nx else .ex k,fs,st)|.ex k,.gst _::fs,st=>some (.ex k,fs,st)|.ex _,[],_=>none|.rt,_,_=>none
noncomputable def iA:Nat->Fo->L' Fm->St->Lk (Fo×L' Fm×St)
 |0,fo,fs,st=>some (fo,fs,st)|n+1,fo,fs,st=>match z_ S c fo fs st with
  |some (fo',fs',st')=>iA n fo' fs' st'|none=>none
end
section
variable{S:Sys}{c:b9}{β γ δ:Type}{Q:Out×St->Lk β}{e:γ->Lk β}
theorem Rq{fo fo':Fo}{fs fs':L' Fm}{st st':St}(h:z_ S c fo fs st=some (fo',fs',st')):rn S c Q fo fs st=rn S c Q fo' fs' st':=by
 cases fo with
 |rc a=>
  cases a with
  |cond y a b=>
   simp only[z_]at h;split at h;next u=>cases h;simp only[rn,kY,qw,u,bg,if_true]
   next u=>cases h;simp only[rn,kY,qw,u,bg];rfl
   cases h
  |gh g a=>
   simp only[z_]at h;split at h;next u=>cases h;simp only[rn,kY,qw,u,ζb]
   cases h
  |loop a=>cases h|each g ps a b=>cases h|seq a b=>cases h;simp only[rn,kY,qw,nQ,nS]|block id a=>cases h;simp only[rn,kY,qw,nQ,nS]|hg a g=>cases h;simp only[rn,kY,qw,nQ,nS]|_=>cases h;simp only[rn,kY,qw]
 |ops dr fr l=>
  cases l with
  |nil=>cases h;simp only[rn,wk]|cons o r=>
   obtain⟨d,gd,now,k,az,dd,pre⟩:=o
   cases pre with
   |nil=>
    simp only[z_]at h;split at h;next u=>cases h;simp only[rn,wk,Dl,RO.strip,ζb,u]
    cases h
   |cons x w=>
    simp only[z_]at h;split at h;cases h;rename_i hd;split at h;rename_i u;cases h;cases dr with|true=>simp only[Bool.true_and,Bool.not_eq_true',Bool.not_eq_false,ζh]at hd;simp only[rn,wk,RO.strip,Di,pR,if_true,List.all_cons,hd.1,hd.2,Bool.and_self,u,ζb]|false=>simp only[rn,wk,RO.strip,Di,pR,Bool.false_eq_true,if_false,u,ζb]
    cases h
 |nx=>
  cases fs with|nil=>cases h|cons f fs=>
   cases f with|seq b=>cases h;simp only[rn,kY,nQ]|blk id=>cases h;simp only[rn,nQ]|gst g=>
    simp only[z_]at h;split at h;next u=>cases h;simp only[rn,nQ,u,ζb]
    cases h
 |ex k=>cases fs with|nil=>cases h|cons f fs=>cases f with|seq b=>cases h;simp only[rn,nS]|blk id=>cases h;simp only[rn,nS];by_cases e:k=id;simp only[if_pos e,rn];simp only[if_neg e,rn]|gst g=>cases h;simp only[rn,nS]
 |rt=>cases h
theorem pU:∀{n:Nat}{fo fo':Fo}{fs fs':L' Fm}{st st':St},iA S c n fo fs st=some (fo',fs',st')->rn S c Q fo fs st=rn S c Q fo' fs' st'
 |0,fo,fo',fs,fs',st,st',h=>by cases h;rfl|n+1,fo,fo',fs,fs',st,st',h=>by
  simp only[iA]at h;split at h;next a b d B=>rw[Rq B];exact pU h
  cases h
theorem BU{n:Nat}{fo fo':Fo}{fs fs':L' Fm}{st st':St}{m:Lk β}(h:iA S c n fo fs st=some (fo',fs',st'))(B:Le m (rn S c Q fo' fs' st')):Le m (rn S c Q fo fs st):=by rw[pU h];exact B
theorem aaA{n:Nat}{fo fo':Fo}{fs fs':L' Fm}{st st':St}{r:γ}(h:iA S c n fo fs st=some (fo',fs',st'))(B:rn S c Q fo' fs' st'=e r):Le ((some r).bind e) (rn S c Q fo fs st):=by rw[pU h];exact Le.of_eq B
theorem UL{m:Lk δ}{f:δ->Lk γ}{L:Lk β}(k:δ->Lk β)(B:Le (m.bind k) L)(b:∀r,Le ((f r).bind e) (k r)):Le ((m.bind f).bind e) L:=by intro r a;cases m with|none=>cases a|some x=>exact B r (b x r a)
theorem aaD{n:Nat}{fo:Fo}{fs fs':L' Fm}{st0:St}{dr:Bool}{q l:L' RO}{fr:L' Nat}{st:St}{d:Lk Nat}{gd:Lk (Nat×Bool)}{now:Bool}{k:K}{az:L' Arg}{dd:L' Nat}{m:Lk δ}{g:δ->St}{f:δ->Lk γ}
 (B:iA S c n fo fs st0=some (.ops dr fr q,fs',st))(D:q=⟨d,gd,now,k,az,dd,[]⟩::l)(a:wanted st.g gd=some true)
 (G:Le (m.bind λx=>some (g x)) (fM S c dr fr ⟨d,none,now,k,az,[],[]⟩ st))
 (h:∀x,m=some x->Le ((f x).bind e) (rn S c Q (.ops dr (if dr then sj fr ⟨d,gd,now,k,az,[],[]⟩else fr) l) fs' (qy dd (g x)))):Le ((m.bind f).bind e) (rn S c Q fo fs st0):=by
 rw[pU B];subst D;simp only[rn,wk,RO.strip,Dl,ζb];rw[Qf a]
 cases m with
 |none=>exact Le.none _|some x=>rw[G (g x) rfl];exact h x rfl
theorem TY{n:Nat}{fo:Fo}{fs fs':L' Fm}{st0:St}{dr:Bool}{q l:L' RO}{fr:L' Nat}{st st':St}{d:Lk Nat}{gd:Lk (Nat×Bool)}{now:Bool}{k:K}{az:L' Arg}{dd:L' Nat}{m:Lk β}
 (B:iA S c n fo fs st0=some (.ops dr fr q,fs',st))(D:q=⟨d,gd,now,k,az,dd,[]⟩::l)(a:wanted st.g gd=some true)
 (G:fM S c dr fr ⟨d,none,now,k,az,[],[]⟩ st=some st')
 (h:Le m (rn S c Q (.ops dr (if dr then sj fr ⟨d,gd,now,k,az,[],[]⟩else fr) l) fs' (qy dd st'))):Le m (rn S c Q fo fs st0):=by
 rw[pU B];subst D;simp only[rn,wk,RO.strip,Dl,ζb];rw[Qf a,G];exact h
theorem O1{n:Nat}{fo:Fo}{B:L' Fm}{st:St}{σ ε ρ:Type}{a:RC}{fs:L' Fm}{step:σ->Lk (Fw σ ε ρ)}{eσ:σ->St}{eε:ε->Nat×St}{eρ:ρ->St}{s:σ}{D:ε->Lk γ}{fr:ρ->Lk γ}
 (G:iA S c n fo B st=some (.rc (.loop a),fs,eσ s))(h:∀s,Le ((step s).bind λw=>some (Fw.out eσ eε eρ w)) (rn S c some (.rc a) [] (eσ s)))
 (J:∀x,Le ((D x).bind e) (rn S c Q (.ex (eε x).1) fs (eε x).2))(d:∀b,Le ((fr b).bind e) (Q (.ret,eρ b))):Le (((bT step s).bind (Fw.elim D fr)).bind e) (rn S c Q fo B st):=by
 rw[pU G];exact Zl (L:=rn S c Q (.rc (.loop a)) fs (eσ s)) rfl h J d
theorem XH{n:Nat}{fo:Fo}{B:L' Fm}{st:St}{α σ ε ρ:Type}{g:Arg}{ps:L' Nat}{a b:RC}{fs:L' Fm}{f:FuncId}{x y:L' V}{d:L' α}{eI:α->L' V}{step:α->σ->Lk (Fw σ ε ρ)}{eσ:σ->Tb bJ}{eε:ε->Nat×Tb bJ}{eρ:ρ->Tb bJ}{i:Tb SV}{s:σ}
 {fn:σ->Lk γ}{D:ε->Lk γ}{fr:ρ->Lk γ}
 (G:iA S c n fo B st=some (.rc (.each g ps a b),fs,bL i (eσ s)))(j:rT S.N i g=some (.v (.clo f x y)))(hi:S.items f x y=some (d.map eI))(J:∀x,(eI x).length=ps.length)
 (h:∀x s,Le ((step x s).bind λw=>some (Fw.xx eσ eε eρ w)) (rn S c (Aa S c b) (.rc a) [] ⟨yq i ps ((eI x).map .v),eσ s,qJ i,[],true,0⟩))
 (U:∀s,Le ((fn s).bind e) (rn S c Q .nx fs (bL i (eσ s))))
 (W:∀x,Le ((D x).bind e) (rn S c Q (.ex (eε x).1) fs (bL i (eε x).2)))(k:∀b,Le ((fr b).bind e) (Q (.ret,bL i (eρ b)))):
 Le (((kV step d s).bind (Fw.qY fn D fr)).bind e) (rn S c Q fo B st):=by
 rw[pU G];exact ZM (L:=rn S c Q (.rc (.each g ps a b)) fs (bL i (eσ s))) rfl j hi J h U W k
theorem X5{b:RC}{st st':St}{m:Lk (Out×Tb bJ)}{fs:L' Fm}{n:Nat}{fo:Fo}(h:iA S c n fo fs st=some (.nx,[],st'))(B:Le m (rn S c xx (.rc b) [] st')):Le m (rn S c (Aa S c b) fo fs st):=by rw[pU h];exact B
theorem Zv{α:Type}{n:Nat}{fo fo':Fo}{fs fs':L' Fm}{st:St}{A:Lk α->St}{o:Lk α}{f:α->Lk γ}(h:iA S c n fo fs st=some (fo',fs',A o))
 (B:∀x,o=some x->Le ((f x).bind e) (rn S c Q fo' fs' (A (some x)))):Le ((o.bind f).bind e) (rn S c Q fo fs st):=by
 rw[pU h]
 cases o with
 |none=>exact Le.none _|some x=>exact B x rfl
theorem aaB{T:qO}{f:FuncId}{rf:RF}{az:L' V}{m:Lk (L' V)}(B:T f=some rf)(D:az.length<=rf.na)(h:Le m (rn S (dc S T) (qM rf.rs) (.rc rf.body) [] (start (az.map .v) []))):Le m (jK (dc S T) f az):=by rw[Vz B az D];exact h
end
section
variable{α:Type}[bB α]
abbrev cv(x:α):SV:=.v (enc x)
abbrev cp(x:α):SV:=.v (.fptr (cells x))
abbrev bx(x:α):bJ:=.box ((cells x).map .v)
end
structure gT(S:Sys)(c:b9){α δ:Type}(fn:FuncId)(A:α->List V)(E:δ->List V)(p:α->Option δ)(sc:Bool):Prop where
 k:S.E.keep fn=false
 h:∀z,Le ((p z).bind λr=>some (E r)) (jK c fn (A z))
 s:sc=true->∀r,(result (E r)).scalar=true
section
variable{S:Sys}{c:b9}{β γ δ α:Type}{Q:Out×St->Lk β}{e:γ->Lk β}{fo:Fo}{fs:L' Fm}{st0:St}{l:L' RO}{d:Lk Nat}{gd:Lk (Nat×Bool)}{now:Bool}{az:L' Arg}{dd:L' Nat}
noncomputable abbrev tT(S:Sys)(c:b9)(Q:Out×St->Lk β)(dr:Bool)(fr:L' Nat)(d:Lk Nat)(k:K)(l:L' RO)(fs:L' Fm)(dd:L' Nat)(st:St):Lk β:=rn S c Q (.ops dr (if dr then(match k with|.p _|.r _=>fr|_=>match d with|some d=>d::fr|none=>fr)else fr) l) fs (qy dd st)
theorem HH(fr:L' Nat)(k:K):sj fr ⟨d,gd,now,k,az,[],[]⟩=(match k with|.p _|.r _=>fr|_=>match d with|some d=>d::fr|none=>fr):=by cases k<;>cases d<;>rfl
theorem C6{n:Nat}{dr:Bool}{fr:L' Nat}{q:L' RO}{fs':L' Fm}{st:St}{k:K}{m:Lk δ}{g:δ->St}{f:δ->Lk γ}
 (B:iA S c n fo fs st0=some (.ops dr fr q,fs',st))(D:q=⟨d,gd,now,k,az,dd,[]⟩::l)(a:wanted st.g gd=some true)
 (G:Le (m.bind λx=>some (g x)) (fM S c dr fr ⟨d,none,now,k,az,[],[]⟩ st))
 (h:∀x,m=some x->Le ((f x).bind e) (tT S c Q dr fr d k l fs' dd (g x))):Le ((m.bind f).bind e) (rn S c Q fo fs st0):=
 aaD B D a G (λx u=>by rw[HH];grind)
theorem sM{n:Nat}{dr:Bool}{fr:L' Nat}{q:L' RO}{fs':L' Fm}{st st':St}{k:K}{m:Lk β}
 (B:iA S c n fo fs st0=some (.ops dr fr q,fs',st))(D:q=⟨d,gd,now,k,az,dd,[]⟩::l)(a:wanted st.g gd=some true)
 (G:fM S c dr fr ⟨d,none,now,k,az,[],[]⟩ st=some st')(h:Le m (tT S c Q dr fr d k l fs' dd st')):Le m (rn S c Q fo fs st0):=
 TY B D a G (by rw[HH];omega)
section
variable[bB α]
theorem Ss(n:Nat)(dr:Bool)(fr:L' Nat)(q:L' RO)(fs':L' Fm)(st:St)(k:IntKind){sz:Nat}{s:Sl α}{i:Int}{f:α->Lk γ}(D:q=⟨d,gd,now,.p (.idxS sz),az,dd,[]⟩::l)
 (B:(iA S c n fo fs st0,wanted st.g gd,bW S.N st.g az,sz)=(some (.ops dr fr q,fs',st),some true,some [.v (bX s),.v (.int k i)],bB.size α))
 (h:∀x,idx s i=some x->Le ((f x).bind e) (tT S c Q dr fr d (.p (.idxS sz)) l fs' dd (cT st d (cp x)))):Le (((idx s i).bind f).bind e) (rn S c Q fo fs st0):=by
 simp at B;exact C6 B.1 D B.2.1 (Le.of_eq (TS B.2.2.1 B.2.2.2)) h
theorem X1(n:Nat)(dr:Bool)(fr:L' Nat)(q:L' RO)(fs':L' Fm)(st:St)(s:Sl α){m:Lk β}(D:q=⟨d,gd,now,.p .lenSl,az,dd,[]⟩::l)
 (B:(iA S c n fo fs st0,wanted st.g gd,bW S.N st.g az)=(some (.ops dr fr q,fs',st),some true,some [.v (bX s)]))
 (h:Le m (tT S c Q dr fr d (.p .lenSl) l fs' dd (cT st d (.v (.int .i64 s.l.length))))):Le m (rn S c Q fo fs st0):=by
 simp at B;exact sM B.1 D B.2.1 (UM B.2.2) h
end
section
variable{q:L' RO}{fs':L' Fm}
end
theorem Kp(m:Tb bJ)(n:Nat)(l:L' V):nC (iN m n) (l.map .v)=some l:=by rw[<-(wW m n).2,vA]
variable{A:α->L' V}{E:δ->L' V}{p:α->Lk δ}{fn:FuncId}{sc:Bool}
end
abbrev iv(n:Int):SV:=.v (.int .i64 n)
abbrev bv(b:Bool):SV:=.v (.bool b)
abbrev len{α:Type}(s:Sl α):Int:=((List.length (Sl.l s):Nat):Int)
abbrev o1(d:Nat)(a:Arg)(dd:L' Nat):RO:=⟨some d,none,false,.p .id,[a],dd,[]⟩
abbrev o2(d:Nat)(k:K)(az:L' Arg)(dd:L' Nat):RO:=⟨some d,none,false,k,az,dd,[]⟩
abbrev o3(d s:Nat)(b:Bool)(k:K)(az:L' Arg)(dd:L' Nat):RO:=⟨some d,some (s,b),false,k,az,dd,[]⟩
def LG(a b:aZ):Bool:=[a.proc,a.index]==[b.proc,b.index]
section
variable{α:Type}[bB α]
theorem vS(h:bB.agg α=false)(a:α):cells a=[enc a]:=by
 have u:(cells a).length=1:=by rw[show(cells a).length=_ from bB.len a,bB.plain h]
 unfold enc;rw[if_neg (by simp[h])];match b:cells a,u with|[x],_=>rfl
theorem Cw(h:bB.agg α=true)(a:α):enc a=.agg (cells a):=by unfold enc;grind
theorem jU(a:α):V.good (enc a)=true:=by have h:V.cE (cells a)=true:=bB.good a;cases u:bB.agg α with|true=>rw[Cw u];exact h|false=>rw[vS u]at h;simp[V.cE]at h;omega
theorem mY(s:Sl α):V.one (enc s)=true:=Hj s
theorem Tk(s:α)(h:bB.agg α=false):V.one (enc s)=true:=by have:=bB.one s;rw[show bB.cells s=cells s from rfl,vS h]at this;grind
end
instance{α:Type}[bB α]:bB (Lk α)where
 cells o:=[match o with|none=>.iI|some x=>.fptr (cells x)]
 agg:=false
 size:=1
 len _:=rfl
 good o:=by cases o with|none=>rfl|some x=>simp only[V.cE,V.good,Bool.and_true];exact bB.good x
 one o:=by cases o<;>rfl
 plain _:=rfl
structure U8 where
 v:Int
 deriving Inhabited,DecidableEq
instance:bB U8 where
 cells n:=[.int .u8 n.v]
 agg:=false
 size:=1
 len _:=rfl
 good _:=rfl
 one _:=rfl
 plain _:=rfl
structure U64 where
 v:Int
 deriving Inhabited,DecidableEq
instance:bB U64 where
 cells n:=[.int .u64 n.v]
 agg:=false
 size:=1
 len _:=rfl
 good _:=rfl
 one _:=rfl
 plain _:=rfl
structure U32 where
 v:Int
 deriving Inhabited,DecidableEq
instance:bB U32 where
 cells n:=[.int .u32 n.v]
 agg:=false
 size:=1
 len _:=rfl
 good _:=rfl
 one _:=rfl
 plain _:=rfl
structure I32 where
 v:Int
 deriving Inhabited,DecidableEq
instance:bB I32 where
 cells n:=[.int .i32 n.v]
 agg:=false
 size:=1
 len _:=rfl
 good _:=rfl
 one _:=rfl
 plain _:=rfl
structure lS(S:Sys)(c:b9){α δ:Type}(g:FuncId)(w e:List V)(A:α->List V)(R:δ->List V)(p:α->Option δ)(b:Bool):Prop where
 f:gT S c g (λz=>w++A z++e) R p b
section
variable{S:Sys}{c:b9}{β γ δ α:Type}{Q:Out×St->Lk β}{e:γ->Lk β}{fo:Fo}{fs:L' Fm}{st0:St}{l:L' RO}{d:Lk Nat}{gd:Lk (Nat×Bool)}{now:Bool}{az:L' Arg}{dd:L' Nat}
theorem lQ{α:Type}[bB α](a:α):V.cells (enc a)=cells a:=by cases u:bB.agg α with|true=>rw[Cw u];rfl|false=>have b:=Tk a u;rw[vS u];cases h:enc a<;>first|rfl|(rw[h]at b;cases b)
theorem rj{α:Type}[bB α](a:α):(cells a).all V.one=true:=bB.one a
theorem gA{α:Type}[bB α](a:α):(cells a).length=bB.size α:=bB.len a
theorem Ast[bB α](n:Nat)(dr:Bool)(fr:L' Nat)(q:L' RO)(fs':L' Fm)(st:St)(u o:Nat)(x:α)(cs B:L' SV){sz:Nat}{m:Lk β}(G:q=⟨d,gd,now,.l (.store sz),az,dd,[]⟩::l)
 (D:(iA S c n fo fs st0,wanted st.g gd,bW S.N st.g az,bh st.m u,(!dr||now),sz,ble (o+sz) cs.length,cs.take o++(cells x).map .v++cs.drop (o+sz))=(some (.ops dr fr q,fs',st),some true,some [.ptr u o,cv x],some (.box cs),true,bB.size α,true,B))
 (h:Le m (tT S c Q dr fr d (.l (.store sz)) l fs' dd (cT {st with m:=bN st.m u (.box B)} d (.v .undef)))):Le m (rn S c Q fo fs st0):=by
 simp only[ζc]at D;obtain⟨a,w,z,C,I,J,L,O⟩:=D;refine sM a G w ?_ h;rw[yp,z];subst J;have T:=Nat.le_of_ble_eq_true L;simp only[ζb,I,if_true,nY,C,putCells,lQ,gA,rj,T,and_self,O,map_some]
theorem BH{α:Type}[bB α]:∀(xs:L' α)(pre:L' (L' V))(B:L' (L' V)),B.length=xs.length->fG (bB.size α) (pre++B) ((range' pre.length xs.length).zip (xs.map enc))=some (pre++rows xs)
 |[],pre,B,h=>by have:=List.eq_nil_of_length_eq_zero h;subst this;rfl|x::xs,pre,s::B,h=>by simp only[length_cons,List.range'_succ,map_cons,List.zip_cons_cons,fG,lQ,gA,rj];have:=BH xs (pre++[cells x]) B Zac;simp only[ζi,length_cons,length_nil]at this;have e:(pre++s::B).set pre.length (cells x)=pre++[cells x]++B:=Zab;rw[e,this];simp[rows]
theorem Abs[bB α](n:Nat)(dr:Bool)(fr:L' Nat)(q:L' RO)(fs':L' Fm)(st:St)(xs:L' α){u sz ln:Nat}{zero:L' V}{ix:L' Nat}{m:Lk β}(D:q=⟨some u,gd,now,.a (.buildSl sz ln zero ix),az,dd,[]⟩::l)
 (G:st.new u=true)(B:(iA S c n fo fs st0,wanted st.g gd,bW S.N st.g az,sz,ln,ix)=(some (.ops dr fr q,fs',st),some true,some ((xs.map enc).map .v),bB.size α,xs.length,range' 0 xs.length))
 (h:Le m (tT S c Q dr fr (some u) (.a (.buildSl sz ln zero ix)) l fs' dd {st with g:=bN st.g u (.own u),m:=bN st.m u (cF (.row xs))})):Le m (rn S c Q fo fs st0):=by
 simp only[ζc]at B;obtain⟨a,w,z,C,I,J⟩:=B;subst C I J;refine sM a D w ?_ h;rw[Ah,z];simp only[ζb,G,oP,nq,List.length_range',length_map];have:=BH xs [] (replicate xs.length zero) Zab
 simp at this;rw[this];rfl
theorem aas[bB α](n:Nat)(dr:Bool)(fr:L' Nat)(q:L' RO)(fs':L' Fm)(st:St)(x:α)(vs:L' V){z:L' V}{pl:L' (Nat×Nat)}{m:Lk β}(D:q=⟨d,gd,now,.p (.build z pl),az,dd,[]⟩::l)
 (hp:lC z pl vs=some (cells x))(G:bB.agg α=true)
 (B:(iA S c n fo fs st0,wanted st.g gd,bW S.N st.g az)=(some (.ops dr fr q,fs',st),some true,some (vs.map .v)))
 (h:Le m (tT S c Q dr fr d (.p (.build z pl)) l fs' dd (cT st d (cv x)))):Le m (rn S c Q fo fs st0):=by
 simp at B;refine sM B.1 D B.2.1 (BV B.2.2 rfl ?_) h;unfold jJ;rw[nq];simp only[RH,hp,map_some];show some (SV.v (.agg (cells x)))=some (.v (enc x));rw[Cw G]
section
variable[bB α]
theorem aay(n:Nat)(dr:Bool)(fr:L' Nat)(q:L' RO)(fs':L' Fm)(st:St)(lo hi:Bool)(D:L' V){sz:Nat}{s:Sl α}{a b:Lk Int}{f:Sl α->Lk γ}(G:q=⟨d,gd,now,.p (.slice sz lo hi),az,dd,[]⟩::l)
 (B:(iA S c n fo fs st0,wanted st.g gd,bW S.N st.g az,mz lo hi D,sz)=(some (.ops dr fr q,fs',st),some true,some (.v (bX s)::D.map .v),some (a,b),bB.size α))
 (h:∀x,gj s a b=some x->Le ((f x).bind e) (tT S c Q dr fr d (.p (.slice sz lo hi)) l fs' dd (cT st d (.v (bX x))))):Le (((gj s a b).bind f).bind e) (rn S c Q fo fs st0):=by
 simp at B;refine C6 B.1 G B.2.1 (Le.of_eq ?_) h;have w:=B.2.2.1;unfold fM mR;simp[wanted,gp,w];have u:jJ S.N st.m (.slice sz lo hi) ((bX s::D).map .v)=(gj s a b).bind λx=>some (.v (bX x)):=by unfold jJ;rw[nq];simp[bl,B.2.2.2.1,NL s a b sz B.2.2.2.2];cases gj s a b<;>rfl
 simp at u⊢;rw[u];cases gj s a b<;>rfl
def pO(s:Sl α)(lo hi:Lk Int):Lk (Sl α):=
 match s with
 |.nil|.emp=>none|.row x|.part x=>(dX x.length lo hi).map λ(l,h)=>.part ((x.take h).drop l)
theorem YS(n:Nat)(fr:L' Nat)(q:L' RO)(fs':L' Fm)(st:St)(lo hi:Bool)(u:Nat)(D:L' V){t sz:Nat}{s:Sl α}{a b:Lk Int}{f:Sl α->Lk γ}(J:q=⟨some t,gd,now,.p (.slice sz lo hi),az,dd,[]⟩::l)
 (G:St.new {st with m:=eo u st.m} t=true)(B:(iA S c n fo fs st0,wanted st.g gd,bW S.N st.g az,mz lo hi D,bh st.m u,sz)=(some (.ops false fr q,fs',st),some true,some (.own u::D.map .v),some (a,b),some (cF s),bB.size α))
 (h:∀x,pO s a b=some x->Le ((f x).bind e) (tT S c Q false fr (some t) (.p (.slice sz lo hi)) l fs' dd {st with g:=bN st.g t (.own t),m:=bN (eo u st.m) t (cF x)})):Le (((pO s a b).bind f).bind e) (rn S c Q fo fs st0):=by
 simp at B;refine C6 B.1 J B.2.1 (Le.of_eq ?_) h;obtain⟨_,_,z,w,C,I⟩:=B;subst I;unfold fM mR;simp[wanted,gp,z,AY,nq,C,w]
 cases s with
 |nil=>simp[pO,cF,Sl.k,cO]|emp=>simp[pO,cF,Sl.k,cO]|row x=>
  simp[cF,Sl.k,Sl.l,cO,pO,gP,w]
  cases dX x.length a b with
  |none=>rfl|some r=>simp[G,cT,rows,map_drop]
 |part x=>
  simp[cF,Sl.k,Sl.l,cO,pO,gP,w]
  cases dX x.length a b with
  |none=>rfl|some r=>simp[G,cT,rows,map_drop]
def vK(n:Int)(a:α):Lk (Sl α):=if 0<=n/\n<=2147483648 then some (if n=0 then .row []else .part [])else none
theorem aar(n:Nat)(dr:Bool)(fr:L' Nat)(q:L' RO)(fs':L' Fm)(st:St){u:Nat}{sz:Nat}{zero:L' V}{i:Int}{z:α}{f:Sl α->Lk γ}(G:q=⟨some u,gd,now,.a (.makeSl sz zero),az,dd,[]⟩::l)
 (J:st.new u=true)(D:(iA S c n fo fs st0,wanted st.g gd,bW S.N st.g az,sz)=(some (.ops dr fr q,fs',st),some true,some [.v (.int .i64 0),.v (.int .i64 i)],bB.size α))
 (h:∀B,vK i z=some B->Le ((f B).bind e) (tT S c Q dr fr (some u) (.a (.makeSl sz zero)) l fs' dd {st with g:=bN st.g u (.own u),m:=bN st.m u (cF B)})):Le (((vK i z).bind f).bind e) (rn S c Q fo fs st0):=by
 simp at D;obtain⟨b,w,C,I⟩:=D;subst I;refine C6 b G w (Le.of_eq ?_) h;rw[Ah,C];simp only[ζb,J,if_true,oP,true_and,vK]
 by_cases hi:0<=i/\i<=2147483648
 .rw[if_pos hi,if_pos ⟨Int.le_refl 0,hi⟩]
  by_cases a:i=0
  .subst a;rfl
  have:¬0=i:=λh=>a h.symm
  simp[if_neg a,if_neg this];rfl
 grind
end
end
structure cq(n:Nat)(α:Type)where
 l:List α
 len:l.length=n
theorem Rb{α:Type}[bB α](l:L' α):(l.map (cells (α:=α))).flatten.length=l.length*bB.size α:=by induction l with|nil=>simp|cons a l u=>simp[u,gA,add_mul,Nat.add_comm]
theorem Pk{α:Type}[bB α](l:L' α):V.cE (l.map (cells (α:=α))).flatten=true:=by
 induction l with|nil=>rfl|cons a l u=>
  have h:∀(x y:L' V),V.cE x=true->V.cE y=true->V.cE (x++y)=true:=by intro x;induction x with|nil=>grind|cons b x w=>intro y c z;simp[V.cE]at c⊢;grind
  exact h _ _ (bB.good a) u
instance{n:Nat}{α:Type}[bB α]:bB (cq n α)where
 cells a:=(a.l.map cells).flatten
 agg:=true
 size:=n*bB.size α
 len a:=by rw[Rb,a.len]
 good a:=Pk a.l
 one a:=by
  have:∀l:L' α,(l.map (cells (α:=α))).flatten.all V.one=true:=by intro l;induction l with|nil=>rfl|cons a l u=>simp only[map_cons,flatten_cons,List.all_append,u,rj,Bool.and_self]
  exact this a.l
 plain h:=by cases h
def cq.Qg(n:Nat){α:Type}(z:α):cq n α:=⟨replicate n z,Zab⟩
def cq.at{n:Nat}{α:Type}(a:cq n α)(i:Int):Lk α:=if 0<=i then a.l[i.toNat]?else none
def cq.set{n:Nat}{α:Type}(a:cq n α)(i:Int)(x:α):cq n α:=⟨a.l.set i.toNat x,by simp[a.len]⟩
def pa{n:Nat}{α:Type}[bB α](a:cq n α)(i:Int):L' V:=(cells a).drop (i.toNat*bB.size α)
theorem cq.vj{n:Nat}{α:Type}{a:cq n α}{i:Int}{x:α}(h:a.at i=some x):0<=i/\i.toNat<n/\a.l[i.toNat]?=some x:=by
 unfold cq.at at h;split at h;next hi=>refine⟨hi,?_,h⟩;have:=(ζe.1 h).1;rw[<-a.len];simp_all
 simp_all
theorem G8{α:Type}[bB α]:∀(l:L' α)(k:Nat),((l.map (cells (α:=α))).flatten).drop (k*bB.size α)=((l.drop k).map (cells (α:=α))).flatten
 |[],k=>Zab|a::l,0=>Zab|a::l,k+1=>by have h:=gA a;rw[map_cons,flatten_cons,List.drop_succ_cons,<-G8 l k,add_mul,one_mul,Nat.add_comm,<-h,List.drop_length_add_append]
theorem B_{n:Nat}{α:Type}[bB α]{a:cq n α}{i:Int}{x:α}(h:a.at i=some x):∃r,pa a i=cells x++r:=by obtain⟨b,B,w⟩:=cq.vj h;obtain⟨u,z⟩:=ζe.1 w;refine⟨((a.l.drop (i.toNat+1)).map cells).flatten,?_⟩;show((a.l.map (cells)).flatten).drop (i.toNat*bB.size α)=_;rw[G8,List.drop_eq_getElem_cons u,map_cons,flatten_cons,z]
section
variable{S:Sys}{c:b9}{β γ δ α:Type}{Q:Out×St->Lk β}{e:γ->Lk β}{fo:Fo}{fs:L' Fm}{st0:St}{l:L' RO}{d:Lk Nat}{gd:Lk (Nat×Bool)}{now:Bool}{az:L' Arg}{dd:L' Nat}
section
variable{N:Nat}[bB α]
theorem Y7(n:Nat)(dr:Bool)(fr:L' Nat)(q:L' RO)(fs':L' Fm)(st:St)(k:IntKind){ln sz:Nat}{a:cq N α}{i:Int}{f:α->Lk γ}(D:q=⟨d,gd,now,.p (.idxA ln sz),az,dd,[]⟩::l)
 (B:(iA S c n fo fs st0,wanted st.g gd,bW S.N st.g az,sz,ln)=(some (.ops dr fr q,fs',st),some true,some [cp a,.v (.int k i)],bB.size α,N))
 (h:∀x,a.at i=some x->Le ((f x).bind e) (tT S c Q dr fr d (.p (.idxA ln sz)) l fs' dd (cT st d (.v (.fptr (pa a i)))))):Le (((a.at i).bind f).bind e) (rn S c Q fo fs st0):=by
 simp at B;obtain⟨g,w,z,C,G⟩:=B;subst C G;refine C6 g D w ?_ h;intro r b;obtain⟨x,I,b⟩:=ζg.1 b;obtain⟨g1,g2,_⟩:=cq.vj I;rw[BV z rfl ?_]
 .omega
 rw[uQ];simp[bl,yh];have u:i.toNat*bB.size α<=(cells a).length:=by rw[gA];exact Nat.mul_le_mul_right _ (Nat.le_of_lt g2)
 rw[if_pos ⟨g1,Zaa⟩,if_pos u]
 rfl
theorem aap(n:Nat)(dr:Bool)(fr:L' Nat)(q:L' RO)(fs':L' Fm)(st:St)(a:cq N α)(i:Int)(o:Nat)(x:α)(D:a.at i=some x){k:Nat}{m:Lk β}(G:q=⟨d,gd,now,.p (.fieldAddr k),az,dd,[]⟩::l)
 (B:(iA S c n fo fs st0,wanted st.g gd,bW S.N st.g az,ble (o+k) (bB.size α))=(some (.ops dr fr q,fs',st),some true,some [.v (.fptr ((pa a i).drop o))],true))
 (h:Le m (tT S c Q dr fr d (.p (.fieldAddr k)) l fs' dd (cT st d (.v (.fptr ((pa a i).drop (o+k))))))):Le m (rn S c Q fo fs st0):=by
 simp only[ζc]at B;obtain⟨b,u,w,z⟩:=B;refine sM b G u (BV w rfl ?_) h;have C:=Nat.le_of_ble_eq_true z;obtain⟨r,e⟩:=B_ D;have I:(pa a i).length>=bB.size α:=by rw[e,ζi,gA];omega
 rw[I5,IY,if_pos Zac,drop_drop]
 rfl
theorem Zd(n:Nat)(dr:Bool)(fr:L' Nat)(q:L' RO)(fs':L' Fm)(st:St)(a:cq N α)(i:Int)(o:Nat)(x:α)(G:a.at i=some x){sz:Nat}{ag:Bool}{v:V}(g:(cut (cells x) o sz).bind (mk ag)=some v)(B:V){m:Lk β}(J:q=⟨d,gd,now,.r (.load sz ag),az,dd,[]⟩::l)
 (D:(iA S c n fo fs st0,wanted st.g gd,bW S.N st.g az,v)=(some (.ops dr fr q,fs',st),some true,some [.v (.fptr ((pa a i).drop o))],B))
 (h:Le m (tT S c Q dr fr d (.r (.load sz ag)) l fs' dd (cT st d (.v B)))):Le m (rn S c Q fo fs st0):=by
 simp at D;obtain⟨e,z,C,rfl⟩:=D;refine sM e J z ?_ h;rw[B9,C];have b:fm fr [SV.v (.fptr ((pa a i).drop o))]=true:=rfl;simp[b,QZ];obtain⟨r,f⟩:=B_ G;rw[f];have j:cut ((cells x++r).drop o) 0 sz=cut (cells x) o sz:=by
  cases u:cut (cells x) o sz with|none=>grind|some w=>
   unfold cut at u⊢;dsimp only at u⊢;split at u;have e1:(List.drop 0 (List.drop o (cells x++r))).take sz=((cells x).drop o).take sz:=by
    have I:sz=0\/o<=(cells x).length:=by grind
    grind
   grind;grind
 cases u:cut (cells x) o sz with
 |none=>grind|some w=>grind
theorem Ye(n:Nat)(dr:Bool)(fr:L' Nat)(q:L' RO)(fs':L' Fm)(st:St)(cs:L' SV){u sz:Nat}{zero:L' V}{m:Lk β}(D:q=⟨some u,gd,now,.a (.alloc sz zero),az,dd,[]⟩::l)
 (G:st.new u=true)(B:(iA S c n fo fs st0,wanted st.g gd,bW S.N st.g az,zero.map SV.v)=(some (.ops dr fr q,fs',st),some true,some [],cs))
 (h:Le m (tT S c Q dr fr (some u) (.a (.alloc sz zero)) l fs' dd {st with g:=bN st.g u (.ptr u 0),m:=bN st.m u (.box cs)})):Le m (rn S c Q fo fs st0):=by
 simp at B;obtain⟨a,w,z,C⟩:=B;subst C;refine sM a D w ?_ h;rw[Ah,z];simp[G,oP]
theorem uH(d:Nat)(l:L' V):SV.dK d (l.map .v)=false:=by induction l with|nil=>rfl|cons a l u=>simp[SV.dK,SV.c6,u]
theorem um{α:Type}[bB α](d:Nat)(x:α):bJ.c6 d (bx x)=false:=uH d (cells x)
theorem Zk(n:Nat)(dr:Bool)(fr:L' Nat)(q:L' RO)(fs':L' Fm)(st:St)(k:IntKind)(u:Nat){ln sz:Nat}{a:cq N α}{i:Int}{f:α->Lk γ}(D:q=⟨d,gd,now,.p (.idxA ln sz),az,dd,[]⟩::l)
 (B:(iA S c n fo fs st0,wanted st.g gd,bW S.N st.g az,sz,ln,bh st.m u)=(some (.ops dr fr q,fs',st),some true,some [.ptr u 0,.v (.int k i)],bB.size α,N,some (bx a)))
 (h:∀x,a.at i=some x->Le ((f x).bind e) (tT S c Q dr fr d (.p (.idxA ln sz)) l fs' dd (cT st d (.ptr u (i.toNat*bB.size α+0))))):Le (((a.at i).bind f).bind e) (rn S c Q fo fs st0):=by
 simp at B;obtain⟨g,w,z,I,J,C⟩:=B;refine C6 g D w ?_ h;intro r b;obtain⟨x,G,b⟩:=ζg.1 b;obtain⟨g1,g2,_⟩:=cq.vj G;rw[BV z rfl ?_]
 .omega
 simp[jJ,dy,yx,C]
 grind
theorem TL{a:cq N α}{i:Int}{o:Nat}{x:α}(B:a.at i=some x){sz:Nat}{ag:Bool}{v:V}(c:(cut (cells x) o sz).bind (mk ag)=some v):wQ sz ag ((((cells a).map SV.v).drop (i.toNat*bB.size α+o)).take sz)=some (.v v):=by
 obtain⟨r,d⟩:=B_ B;have e1:(((cells a).map SV.v).drop (i.toNat*bB.size α+o)).take sz=(((cells x).drop o).take sz).map SV.v:=by
  have u:((cells x).drop o).take sz=((cells x++r).drop o).take sz:=by
   cases b:cut (cells x) o sz with|none=>grind|some w=>
    unfold cut at b;dsimp only at b;split at b;have C:sz=0\/o<=(cells x).length:=by grind
    grind;simp_all
  rw[u,<-d,pa,drop_drop,map_take,map_drop]
 rw[e1];unfold wQ;cases b:cut (cells x) o sz with|none=>grind|some w=>
  rw[b]at c;unfold cut at b;dsimp only at b;split at b;rename_i z;cases b;simp only[length_map,z];unfold mk at c;cases ag with|true=>simp only[if_true]at c⊢;cases c;rw[nq]|false=>grind
  simp_all
theorem Zf(n:Nat)(dr:Bool)(fr:L' Nat)(q:L' RO)(fs':L' Fm)(st:St)(u:Nat)(a:cq N α)(i:Int)(o:Nat)(x:α)(G:a.at i=some x){sz:Nat}{ag:Bool}{v:V}(e:(cut (cells x) o sz).bind (mk ag)=some v)(B:V){m:Lk β}(J:q=⟨d,gd,now,.r (.load sz ag),az,dd,[]⟩::l)
 (D:(iA S c n fo fs st0,wanted st.g gd,bW S.N st.g az,v,bh st.m u,(!dr||now||fm fr [.ptr u 0]))=(some (.ops dr fr q,fs',st),some true,some [.ptr u (i.toNat*bB.size α+o)],B,some (bx a),true))
 (h:Le m (tT S c Q dr fr d (.r (.load sz ag)) l fs' dd (cT st d (.v B)))):Le m (rn S c Q fo fs st0):=by
 simp only[ζc]at D;obtain⟨f,w,z,rfl,C,I⟩:=D;refine sM f J w ?_ h;rw[B9,z];have b:(!dr||now||fm fr [SV.ptr u (i.toNat*bB.size α+o)])=true:=I;simp only[ζb,b,aaG,C,O6];rw[TL G e];rfl
theorem QN{N:Nat}(a:cq N α)(i:Int)(y:α)(h:i.toNat<N):cells (a.set i y)=(cells a).take (i.toNat*bB.size α)++cells y++(cells a).drop ((i.toNat+1)*bB.size α):=by
 have key:∀(l:L' α)(k:Nat),k<l.length->((l.set k y).map (cells)).flatten=(l.map (cells)).flatten.take (k*bB.size α)++cells y++(l.map (cells)).flatten.drop ((k+1)*bB.size α):=by intro l;induction l with|nil=>grind|cons b l u=>intro k h;have w:=gA b;cases k with|zero=>grind|succ k=>simp only[map_cons,flatten_cons];have e1:(k+1)*bB.size α=(cells b).length+k*bB.size α:=Zac;have e2:(k+1+1)*bB.size α=(cells b).length+(k+1)*bB.size α:=Zac;rw[e2,List.drop_length_add_append];grind
 exact key a.l i.toNat (by rw[a.len];omega)
theorem Y_(n:Nat)(dr:Bool)(fr:L' Nat)(q:L' RO)(fs':L' Fm)(st:St)(u:Nat)(a:cq N α)(i:Int)(o:Nat)(x:α)(B:a.at i=some x)(y:α)(v:V){sz:Nat}(G:cells y=(cells x).take o++v.cells++(cells x).drop (o+sz)){m:Lk β}(J:q=⟨d,gd,now,.l (.store sz),az,dd,[]⟩::l)
 (D:(iA S c n fo fs st0,wanted st.g gd,bW S.N st.g az,bh st.m u,(!dr||now),v.cells.length,v.cells.all V.one,ble (o+sz) (bB.size α))=(some (.ops dr fr q,fs',st),some true,some [.ptr u (i.toNat*bB.size α+o),.v v],some (bx a),true,sz,true,true))
 (h:Le m (tT S c Q dr fr d (.l (.store sz)) l fs' dd (cT {st with m:=bN st.m u (bx (a.set i y))} d (.v .undef)))):Le m (rn S c Q fo fs st0):=by
 simp only[ζc]at D;obtain⟨b,z,C,I,L,O,T,U⟩:=D;refine sM b J z ?_ h;rw[yp,C];have X:=Nat.le_of_ble_eq_true U;obtain⟨g1,g2,g3⟩:=cq.vj B;have W:i.toNat*bB.size α+o+sz<=((cells a).map SV.v).length:=by rw[length_map,gA];have:(i.toNat+1)*bB.size α<=N*bB.size α:=Nat.mul_le_mul_right _ g2;rw[add_mul,one_mul]at this;show _<=N*bB.size α;omega
 simp only[ζb,L,if_true,nY,I,putCells,O,T,W,and_self,map_some];obtain⟨r,f⟩:=B_ B;have e:((cells a).map SV.v).take (i.toNat*bB.size α+o)++v.cells.map .v++((cells a).map SV.v).drop (i.toNat*bB.size α+o+sz)=(cells (a.set i y)).map SV.v:=by
  rw[QN a i y g2,G];have hd:(cells a).drop (i.toNat*bB.size α)=cells x++r:=f;have w:=gA x;have e1:(cells a).take (i.toNat*bB.size α+o)=(cells a).take (i.toNat*bB.size α)++(cells x).take o:=by rw[List.take_add,hd,List.take_append_of_le_length Zaa]
  have e2:(cells a).drop (i.toNat*bB.size α+o+sz)=(cells x).drop (o+sz)++(cells a).drop ((i.toNat+1)*bB.size α):=by
   have e3:(cells a).drop ((i.toNat+1)*bB.size α)=r:=by rw[add_mul,one_mul,<-drop_drop,hd,<-w,List.drop_left]
   rw[e3,Nat.add_assoc,<-drop_drop,hd,List.drop_append_of_le_length Zaa]
  rw[<-map_take,<-map_drop,e1,e2];grind
 rw[e]
end
theorem Vj{α:Type}[bB α]{m:Tb bJ}{d:Nat}{x:α}{vs:L' V}(h:bh m d=some (bx x)):nC (iN m 8) (.ptr d 0::vs.map .v)=some (.fptr (cells x)::vs):=by
 have a:iN m 8 (.ptr d 0)=some (.fptr (cells x)):=by
  show(match bh m d with
   |some (.box cs)=>match nC (iN m 7) cs with
    |some u=>if 0<=u.length then some (V.fptr (u.drop 0))else none|none=>none
   |_=>none)=_
  rw[h];simp[Kp]
 simp[nC,a,Kp]
theorem Ze(n:Nat){fo:Fo}{fs fs':L' Fm}{st0 st:St}{rs:L' RV}{e:γ->Lk (L' V)}{r:γ}(svs:L' SV){ys:L' V}(B:nC (iN st.m 8) svs=some ys)(h:(iA S c n fo fs st0,kU st rs)=(some (.rt,fs',st),some svs))(D:e r=some ys):
 Le ((some r).bind e) (rn S c (qM rs) fo fs st0):=by
 simp at h;rw[pU h.1];refine Le.of_eq ?_;simp[rn,qM,h.2,B]
 grind
abbrev Mo(κ ν:Type):=L' (κ×ν)
class Key(κ:Type)[bB κ][DecidableEq κ]where
 kk:yW
 ok:∀a:κ,qD kk (enc a)=true
 eq:∀a b:κ,xZ (enc a) (enc b)=some (decide (a=b))
instance:Key Int where
 kk:=.int .i64
 ok _:=rfl
 eq a b:=by show some (a==b)=some (decide (a=b));rw[show(a==b)=decide (a=b)from Bool.eq_iff_iff.2 Zab]
instance:Key aZ where
 kk:=.ints 2
 ok _:=rfl
 eq a b:=by obtain⟨p,i⟩:=a;obtain⟨q,j⟩:=b;simp only[xZ,lM,iS,XW,map_some,length_cons,if_true,ζa];rw[Bool.eq_iff_iff];simp
section
variable{κ ν:Type}[bB κ][DecidableEq κ][Key κ][bB ν]
def jM(k:κ):Mo κ ν->Lk ν
 |[]=>none|(a,v)::r=>if k=a then some v else jM k r
def ow(m:Mo κ ν)(k:κ)(z:ν):ν:=(jM k m).getD z
def uv(m:Mo κ ν)(k:κ):Bool:=(jM k m).isSome
def mJ(m:Mo κ ν)(k:κ)(v:ν):Mo κ ν:=
 match m with
 |[]=>[(k,v)]|(a,w)::r=>if k=a then(k,v)::r else(a,w)::mJ r k v
def ox(m:Mo κ ν):L' (V×V):=m.map λx=>(enc x.1,enc x.2)
def uI(m:Mo κ ν):bJ:=.mp (ox m)
theorem FT(k:κ):∀(m:Mo κ ν)(i:Nat),(iK (enc k) (ox m) i).map (Option.map (·.2))=some ((jM k m).map enc)
 |[],i=>rfl|(a,v)::r,i=>by simp only[ox,map_cons,iK,Key.eq,jM];by_cases h:k=a;grind;simp only[h];exact FT k r (i+1)
theorem Rk(k:κ)(v:ν)(m:Mo κ ν):qU (enc k) (enc v) (ox m)=some (ox (mJ m k v)):=by
 unfold qU;have key:∀(m:Mo κ ν)(pre:L' (V×V))(i:Nat),pre.length=i->(match iK (enc k) (ox m) i with
  |some (some (j,_))=>some ((pre++ox m).set j (enc k,enc v))|some none=>some (pre++ox m++[(enc k,enc v)])|none=>none)=some (pre++ox (mJ m k v)):=by
  intro m
  induction m with
  |nil=>simp[ox,iK,mJ]|cons x r u=>
   obtain⟨a,w⟩:=x;intro pre i h;rw[show ox ((a,w)::r)=(enc a,enc w)::ox r from rfl];simp[iK,Key.eq,mJ]
   by_cases b:k=a
   .subst b h;simp[ox]
   simp[b];rw[show ox ((a,w)::mJ r k v)=(enc a,enc w)::ox (mJ r k v)from rfl];have:=u (pre++[(enc a,enc w)]) (i+1) (by simp[h])
   grind
 have:=key m [] 0 rfl;grind
theorem ZH(n:Nat)(dr:Bool)(fr:L' Nat)(q:L' RO)(fs':L' Fm)(st:St)(u:Nat)(mp:Mo κ ν)(k:κ)(z:ν){kk:yW}{B:V}{m:Lk β}(G:q=⟨d,gd,now,.r (.lookup kk B false),az,dd,[]⟩::l)
 (D:(iA S c n fo fs st0,wanted st.g gd,bW S.N st.g az,bh st.m u,(!dr||now||fm fr [.mp u,cv k]),B,kk)=(some (.ops dr fr q,fs',st),some true,some [.mp u,cv k],some (uI mp),true,enc z,Key.kk κ))
 (h:Le m (tT S c Q dr fr d (.r (.lookup kk B false)) l fs' dd (cT st d (cv (ow mp k z))))):Le m (rn S c Q fo fs st0):=by
 simp only[ζc]at D;obtain⟨a,C,I,J,L,O,T⟩:=D;subst O T;refine sM a G C ?_ h;rw[B9,I];simp only[ζb,L,oF,J,uI,Key.ok];have:=FT k mp 0;simp[ow]
 cases U:iK (enc k) (ox mp) 0 with
 |none=>grind|some r=>
  rw[U]at this
  cases r with
  |none=>
   cases W:jM k mp with
   |none=>rfl|some w=>grind
  |some w=>
   cases W:jM k mp with
   |none=>grind|some X=>grind
theorem aaw(n:Nat)(dr:Bool)(fr:L' Nat)(q:L' RO)(fs':L' Fm)(st:St)(u:Nat)(mp:Mo κ ν)(k:κ)(v:ν){kk:yW}{m:Lk β}(D:q=⟨d,gd,now,.l (.mapUp kk),az,dd,[]⟩::l)
 (B:(iA S c n fo fs st0,wanted st.g gd,bW S.N st.g az,bh st.m u,(!dr||now),kk)=(some (.ops dr fr q,fs',st),some true,some [.mp u,cv k,cv v],some (uI mp),true,Key.kk κ))
 (h:Le m (tT S c Q dr fr d (.l (.mapUp kk)) l fs' dd (cT {st with m:=bN st.m u (uI (mJ mp k v))} d (.v .undef)))):Le m (rn S c Q fo fs st0):=by
 simp only[ζc]at B;obtain⟨a,w,z,C,G,I⟩:=B;subst I;refine sM a D w ?_ h;rw[yp,z];simp[G,nY,C,uI,Key.ok,Rk]
end
end
instance{n:Nat}:OfNat Arg n:=⟨.s n⟩
abbrev bI(o:BinOp):K:=.p (.bin (some .int) none o)
abbrev ix(n:Nat):K:=.p (.idxS n)
abbrev ld(n:Nat):K:=.r (.load n false)
abbrev lD(n:Nat):K:=.r (.load n true)
abbrev fa(n:Nat):K:=.p (.fieldAddr n)
abbrev ln:K:=.p .lenSl
abbrev su(n:Nat):K:=.l (.store n)
abbrev Iv(n:Nat)(x:Int):Nat×SV:=(n,iv x)
abbrev Bv(n:Nat)(x:Bool):Nat×SV:=(n,bv x)
abbrev Cv{α:Type}[bB α](n:Nat)(x:α):Nat×SV:=(n,cv x)
abbrev Kv{α:Type}[bB α](n:Nat)(x:α):Nat×SV:=(n,cp x)
abbrev Pv(n:Nat):Nat×SV:=(n,.ptr n 0)
abbrev Ov(n:Nat):Nat×SV:=(n,.own (2000+n))
abbrev Xb{α:Type}[bB α](n:Nat)(x:α):Nat×bJ:=(n,bx x)
abbrev Lb{α:Type}[bB α](n:Nat)(x:Sl α):Nat×bJ:=(n,cF x)
abbrev on(d:Nat)(k:K)(az:L' Arg)(dd:L' Nat):RO:=⟨some d,none,true,k,az,dd,[]⟩
abbrev oz(k:K)(az:L' Arg)(dd:L' Nat):RO:=⟨none,none,false,k,az,dd,[]⟩
abbrev oy(k:K)(az:L' Arg)(dd:L' Nat):RO:=⟨none,none,true,k,az,dd,[]⟩
attribute [simp] Wq U9 Wg
theorem gT.yo{S:Sys}{T:qO}{f:FuncId}{b:Bool}(B:T f=none)(a:S.E.keep f=false)(D:S.yo f []=some (.bool b)):
 gT S (dc S T) f (λ_:Unit=>[]) (λr:Bool=>[.bool r]) (λ_=>some b) true where
 k:=a
 h _:=by have h:=Gj (az:=[]) B a D;intro r c;cases c;unfold jK;rw[h];exact vA 8 [.bool b]
 s _ _:=rfl
def Wp{α:Type}(m:Lk α)(P:α->Prop):Prop:=∃a,m=some a/\P a
section
variable{α β:Type}{P Q:α->Prop}
theorem bf(a:α):Wp (some a) P↔P a:=⟨λh=>by obtain⟨b,e,p⟩:=h;cases e;exact p,λp=>⟨a,rfl,p⟩⟩
theorem WH:Wp (none:Lk α) P↔False:=⟨λh=>(by obtain⟨b,e,p⟩:=h;cases e),λh=>False.elim h⟩
theorem ec{m:Lk β}{k:β->Lk α}:Wp (m.bind k) P↔Wp m λb=>Wp (k b) P:=by cases m with|none=>simp only[Option.bind_none,WH]|some b=>simp only[ζb,bf]
theorem b_{t:Bool}{a b:Lk α}:Wp (bg t a b) P↔(t=true->Wp a P)/\(t=false->Wp b P):=by cases t<;>simp[bg]
theorem Wp.mono{m:Lk α}(h:Wp m P)(B:∀a,P a->Q a):Wp m Q:=let⟨a,e,p⟩:=h;⟨a,e,B a p⟩
theorem Wp.and{m:Lk α}(h:Wp m P)(B:Wp m Q):Wp m λa=>P a/\Q a:=by obtain⟨a,e,p⟩:=h;obtain⟨b,e2,q⟩:=B;rw[e]at e2;cases e2;exact⟨a,e,p,q⟩
theorem Wp.eq{m:Lk α}{a:α}(h:Wp m λx=>x=a):m=some a:=by obtain⟨b,e,rfl⟩:=h;exact e
end
section
variable{σ ε ρ:Type}
theorem eB(step:σ->Lk (Fw σ ε ρ))(s:σ):bT step s=(step s).bind λw=>match w with
 |.n B=>bT step B|.x e=>some (.x e)|.r b=>some (.r b):=by
 have d:∀r,bT step s=some r->((step s).bind λw=>match w with
  |.n B=>bT step B|.x e=>some (.x e)|.r b=>some (.r b))=some r:=by
  intro r h;obtain⟨k,a⟩:=pn.1 h
  cases k with
  |zero=>simp[j8]at a|succ k=>
   simp only[j8]at a
   cases u:step s with
   |none=>rw[u]at a;cases a|some w=>
    rw[u]at a
    cases w with
    |n B=>exact pn.2 ⟨k,a⟩|x e=>exact a|r b=>exact a
 cases z:bT step s with
 |some r=>exact(d r z).symm|none=>
  cases c:((step s).bind λw=>match w with
  |.n B=>bT step B|.x e=>some (.x e)|.r b=>some (.r b))with
  |none=>rfl|some r=>
   exfalso
   cases u:step s with
   |none=>rw[u]at c;cases c|some w=>
    rw[u]at c;simp only[ζb]at c;have:bT step s=some r:=by cases w with|n B=>obtain⟨k,a⟩:=pn.1 c;exact pn.2 ⟨k+1,by simp only[j8,u];exact a⟩|x e=>exact pn.2 ⟨1,by simp only[j8,u];exact c⟩|r b=>exact pn.2 ⟨1,by simp only[j8,u];exact c⟩
    rw[z]at this;cases this
def Uj(I:σ->Prop)(μ:σ->Nat)(D:ε->Prop)(G:ρ->Prop)(s:σ):Fw σ ε ρ->Prop
 |.n B=>I B/\μ B<μ s|.x e=>D e|.r b=>G b
def ZT(B:ε->Prop)(D:ρ->Prop):Fw Empty ε ρ->Prop
 |.x e=>B e|.r b=>D b
theorem Rm{step:σ->Lk (Fw σ ε ρ)}(I:σ->Prop)(μ:σ->Nat)(B:ε->Prop)(D:ρ->Prop)(h:∀s,I s->Wp (step s) (Uj I μ B D s)){s:σ}(G:I s):Wp (bT step s) (ZT B D):=by
 have key:∀n s,μ s<=n->I s->Wp (bT step s) (ZT B D):=by
  intro n
  induction n with
  |zero=>intro s C hi;obtain⟨w,u,a⟩:=h s hi;rw[eB,u];cases w with|n z=>exact absurd a.2 Zaa|x e=>exact⟨_,rfl,a⟩|r b=>exact⟨_,rfl,a⟩
  |succ n J=>intro s C hi;obtain⟨w,u,a⟩:=h s hi;rw[eB,u];cases w with|n z=>exact J z (by have:=a.2;omega) a.1|x e=>exact⟨_,rfl,a⟩|r b=>exact⟨_,rfl,a⟩
 exact key (μ s) s (Nat.le_refl _) G
theorem fK{γ:Type}{step:σ->Lk (Fw σ ε ρ)}{B:ε->Lk γ}{fr:ρ->Lk γ}{P:γ->Prop}(I:σ->Prop)(μ:σ->Nat){s:σ}(D:I s)
 (h:∀s,I s->Wp (step s) (Uj I μ (λe=>Wp (B e) P) (λb=>Wp (fr b) P) s)):Wp ((bT step s).bind (Fw.elim B fr)) P:=by
 rw[ec];refine(Rm I μ _ _ h D).mono ?_;intro w u
 cases w with
 |n a=>cases a|x e=>exact u|r b=>exact u
end
theorem FY{β γ δ:Type}{e:γ->Lk β}{m:Lk δ}{f:δ->Lk γ}{L:Lk β}(h:∀x,m=some x->Le ((f x).bind e) L):Le ((m.bind f).bind e) L:=by cases m with|none=>exact Le.none _|some x=>exact h x rfl
section
variable{S:Sys}{c:b9}{β:Type}{Q:Out×St->Lk β}{fo:Fo}{fs:L' Fm}{st0:St}{l:L' RO}{d:Lk Nat}{now:Bool}{az:L' Arg}{dd:L' Nat}
theorem Le.get{β:Type}{r:β}{L:Lk β}(h:Le (some r) L):L=some r:=h r rfl
theorem Kt{n:Nat}{fo fo':Fo}{fs fs':L' Fm}{st:St}(A:Bool->St){t:Bool}{m:Lk β}(B:t=true)(h:iA S c n fo fs st=some (fo',fs',A t))(D:Le m (rn S c Q fo' fs' (A true))):Le m (rn S c Q fo fs st):=by rw[pU h,B];exact D
theorem Kf{n:Nat}{fo fo':Fo}{fs fs':L' Fm}{st:St}(A:Bool->St){t:Bool}{m:Lk β}(B:t=false)(h:iA S c n fo fs st=some (fo',fs',A t))(D:Le m (rn S c Q fo' fs' (A false))):Le m (rn S c Q fo fs st):=by rw[pU h,B];exact D
theorem Ty{α:Type}[bB α]{s:Sl α}{i:Int}{x:α}{r:β}{L:Lk β}(B:idx s i=some x)(h:Le (((idx s i).bind λ_=>some r).bind some) L):Le (some r) L:=by rw[B]at h;exact h
theorem Z5{n:Nat}{q:L' RO}{fs':L' Fm}{st:St}{id:Nat}{vs:L' SV}{xs:L' V}{B:L' (L' V)}{m:Lk β}
 (D:iA S c n fo fs st0=some (.ops false [] q,fs',st))(G:q=⟨d,none,now,.c,az,dd,[]⟩::l)(J:bW S.N st.g az=some (.yl id::vs))(U:dy vs=some xs)(W:st.want=xs::B)(hi:id=st.yid)
 (h:Le m (rn S c Q (.ops false [] l) fs' (qy dd (cT {st with want:=B} d (.v (.bool (st.more|| !B.isEmpty))))))):Le m (rn S c Q fo fs st0):=by
 refine TY D G rfl ?_ h;unfold fM;simp only[wanted,gp,J,U,W,hi,if_true,and_self,Bool.false_eq_true,if_false]
theorem Cm(a:RC)(fs:L' Fm)(st:St):rn S c Q (.rc (.loop a)) fs st=(pJ (cK S c a) st).bind (Ge (nQ S c Q fs) (nS S c Q fs) (λst=>Q (.ret,st))):=by show kY S c Q (.loop a) fs st=_;unfold kY;rw[D7];rfl
theorem VO{f:St->Lk (Out×St)}{st st':St}(h:f st=some (.norm,st')):pJ f st=pJ f st':=by
 have key:∀r,pJ f st=some r↔pJ f st'=some r:=λr=>by
  constructor;intro b;obtain⟨k,a⟩:=n9.1 b;cases k with|zero=>simp[jL]at a|succ k=>simp only[jL,h]at a;exact n9.2 ⟨k,a⟩
  intro b;obtain⟨k,a⟩:=n9.1 b;exact n9.2 ⟨k+1,by simp only[jL,h];exact a⟩
 cases u:pJ f st with
 |none=>cases w:pJ f st' with|none=>rfl|some r=>rw[(key r).2 w]at u;cases u
 |some r=>rw[(key r).1 u]
theorem Mi{f:St->Lk (Out×St)}{st st':St}{o:Out}(h:f st=some (o,st'))(B:o≠.norm):pJ f st=some (o,st'):=by refine n9.2 ⟨1,?_⟩;cases o with|norm=>exact absurd rfl B|exit k=>simp only[jL,h]|ret=>simp only[jL,h]
theorem GW{a:RC}{fs:L' Fm}{st st':St}(h:rn S c some (.rc a) [] st=some (.norm,st')):rn S c Q (.rc (.loop a)) fs st=rn S c Q (.rc (.loop a)) fs st':=by rw[Cm,Cm,VO (by rw[Cg];exact h)]
theorem G6{a:RC}{fs:L' Fm}{st st':St}{k:Nat}(h:rn S c some (.rc a) [] st=some (.exit k,st')):rn S c Q (.rc (.loop a)) fs st=rn S c Q (.ex k) fs st':=by rw[Cm,Mi (by rw[Cg];exact h) Zab];rfl
theorem HF{a:RC}{fs:L' Fm}{st st':St}(h:rn S c some (.rc a) [] st=some (.ret,st')):rn S c Q (.rc (.loop a)) fs st=Q (.ret,st'):=by rw[Cm,Mi (by rw[Cg];exact h) Zab];rfl
end
def Qi:Out×St->Lk Unit
 |(.exit _,_)=>none|(_,st)=>if st.want.isEmpty then some ()else none
def Sys.bare(S:Sys):Sys:=⟨S.E,S.N,λ_ _ _=>none,λ_ _=>none,λ_=>none⟩
def oA:b9:=λ_ _ _=>none
def vU(B rest:L' (L' V))(more:Bool):Prop:=more=true/\B=rest\/more=false/\B≠[]/\∃r,rest=B++r
theorem SB(S:Sys){f:FuncId}{fi:FI}{nm:FuncId->Lk Nat}{rf:RF}(G:S.E.ft f=some fi)(W:∀g s,nm g=some s->S.N s=g)(e:yd S.E nm fi rf){a b:L' V}{xs:L' (L' V)}(D:a.length+1+b.length<=rf.na)(U:rf.rs=[])
 (h:∀B more,vU B xs more->∀yid,rn S.bare oA Qi (.rc rf.body) [] ⟨vZ 0 (a.map .v++.yl yid::b.map .v),[],[],B,more,yid⟩=some ()):eD S f a b xs:=by
 have k:eD S.bare f a b xs:=LO (S:=S.bare) (c:=oA) (fi:=fi) (nm:=nm) (rf:=rf) (λ_ _ h=>by cases h) (λ_ _ _ _ _ h=>by simp[oA]at h) (λ_ _ _ _ h=>by simp[Sys.bare]at h) G W e D U (λB more w yid=>by
  have d:=h B more w yid;change kY S.bare oA Qi rf.body [] _=some ()at d;rw[p8]at d;obtain⟨⟨o,st'⟩,z,u⟩:=ζg.1 d;refine⟨o,st',z,?_,?_,rfl⟩
  .rintro id rfl;simp[Qi]at u
  cases o<;>simp[Qi]at u<;>exact u)
 intro B more w yid J y Z C I H d z u L O;exact k B more w yid J ⟨y.xu,y.yield⟩ Z C I H d z u L O
open Classical in
noncomputable def zk(P:FuncId->L' V->L' V->L' (L' V)->Prop)(f:FuncId)(a b:L' V):Lk (L' (L' V)):=if h:∃u,P f a b u then some (Classical.choose h)else none
theorem Fb{P:FuncId->L' V->L' V->L' (L' V)->Prop}{f:FuncId}{a b:L' V}{xs:L' (L' V)}(h:P f a b xs)(d:∀ys,P f a b ys->ys=xs):zk P f a b=some xs:=by have c:∃xs,P f a b xs:=⟨xs,h⟩;unfold zk;rw[dif_pos c,d _ (choose_spec c)]
theorem N7{P:FuncId->L' V->L' V->L' (L' V)->Prop}{f:FuncId}{a b:L' V}{xs:L' (L' V)}(h:zk P f a b=some xs):P f a b xs:=by
 unfold zk at h;split at h;next c=>cases h;exact choose_spec c
 cases h
theorem Yr{E:Env}{nm:FuncId->Lk Nat}{f:FuncId}{rf:RF}
 (h:((E.ft f).bind λfi=>(bS ⟨E,nm,fi.ntmps⟩ false fi.body).bind λc=>(fi.results.mapM (Cs E)).bind λrs=>some (c,rs,fi.ntmps))=some (erase rf.body,rf.rs,rf.na)):∃fi,E.ft f=some fi/\yd E nm fi rf:=by
 obtain⟨fi,a,w⟩:=ζg.1 h;obtain⟨c,z,B⟩:=ζg.1 w;obtain⟨rs,C,u⟩:=ζg.1 B;simp only[ζa,ζc]at u;obtain⟨rfl,rfl,D⟩:=u;exact⟨fi,a,z,C,D.symm⟩
theorem FR.qq{H:bn}{Z Z':Nat->Prop}{x y z:V}(h:FR H Z x z)(k:FR H Z' y z):x=y:=by obtain⟨n,u⟩:=Bd x;obtain⟨m,w⟩:=Bd y;have e1:=h.borrow (max n m) (ze (Nat.le_max_left _ _) u);have e2:=k.borrow (max n m) (ze (Nat.le_max_right _ _) w);rw[e1]at e2;exact Option.some.inj e2
open Classical in
noncomputable def zF(E:Env)(f:FuncId)(az:L' V):Lk V:=if h:∃y,Bo E f az y then some (Classical.choose h)else none
theorem Hl{E:Env}{f:FuncId}{az:L' V}{y:V}(h:zF E f az=some y):Bo E f az y:=by
 unfold zF at h;split at h;next a=>cases h;exact choose_spec a
 cases h
theorem AM{E:Env}{f:FuncId}{az:L' V}{y:V}(h:Bo E f az y):zF E f az=some y:=by have a:∃y,Bo E f az y:=⟨y,h⟩;unfold zF;rw[dif_pos a];obtain⟨n,z,H,Z,k1,k2,_⟩:=h;obtain⟨u,w,H',Z',k3,k4,_⟩:=choose_spec a;have e1:=(oN E (Nat.le_max_left n u)).go _ _ _ _ k1;have e2:=(oN E (Nat.le_max_right n u)).go _ _ _ _ k3;rw[e1]at e2;cases e2;rw[FR.qq k4 k2]
theorem Lj{E:Env}{f:FuncId}{az:L' V}{y:V}(B:V.scalar y=true)(h:∃n H',run E n (.fn f) az []=some (y,H')):Bo E f az y:=by obtain⟨n,H',h⟩:=h;exact⟨n,y,H',λ_=>False,h,.same _ (kj B),λ_ h=>h.elim,⟨λ_ _ _ h=>h.elim⟩⟩
end Go.VE
