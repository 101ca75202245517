/-
 Plain values and the steps of a certificate.
-/
import Derived.KernelRfl
import Derived.Test.YtfgojpmjdgnieaaGreatDoorN2
set_option linter.all false
noncomputable section
open Classical(choose_spec)
open List(drop_drop flatten_cons length_cons length_map length_nil map_cons map_drop map_take range' replicate)
open Option(map_some)
open Nat(add_mul ble one_mul)
namespace Go.VE
variable[bV]
inductive Sl(α:Type)where
 |nil|emp|row(l:List α)|part(l:List α)
 deriving Inhabited
abbrev Zg:=Sl Int
abbrev Zb:=Sl (Sl Int)
def Sl.l{α:Type}:Sl α->a_ α
 |.nil|.emp=>[]|.row l|.part l=>l
def Sl.k{α:Type}:Sl α->Fl
 |.nil=>.nil|.emp=>.emp|.row _=>.row|.part _=>.part
class bF(α:Type)where
 cells:α->List V
 agg:Bool
 size:Nat
 len:∀a,(cells a).length=size
 good:∀a,V.cG (cells a)=true
 one:∀a,(cells a).all V.one=true
 plain:agg=false->size=1
def cells{α:Type}[bF α](a:α):Zu:=bF.cells a
def enc{α:Type}[bF α](a:α):V:=if bF.agg α then .agg (cells a)else(cells a).headD .undef
def rows{α:Type}[bF α](l:a_ α):Zt:=l.map cells
def cr{α:Type}[bF α](s:Sl α):V:=nQ s.k (bF.size α) (rows s.l)
instance:bF Int where
 cells n:=[.int .i64 n]
 agg:=false
 size:=1
 len _:=rfl
 good _:=rfl
 one _:=rfl
 plain _:=rfl
instance:bF Zl where
 cells b:=[.bool b]
 agg:=false
 size:=1
 len _:=rfl
 good _:=rfl
 one _:=rfl
 plain _:=rfl
instance:bF Zq where
 cells s:=[.str s]
 agg:=false
 size:=1
 len _:=rfl
 good _:=rfl
 one _:=rfl
 plain _:=rfl
structure bu where
 proc:Int
 index:Int
 deriving DecidableEq,Inhabited
instance:bF bu where
 cells x:=[.int .i64 x.proc,.int .i64 x.index]
 agg:=true
 size:=2
 len _:=rfl
 good _:=rfl
 one _:=rfl
 plain h:=by cases h
@[simp] def Up(n:Int):enc n=.int .i64 n:=rfl
@[simp] def Uf(n:Zl):enc n=.bool n:=rfl
@[simp] def Us(n:Zq):enc n=.str n:=rfl
@[simp] def T6(n:Int):cells n=[.int .i64 n]:=rfl
@[simp] def Te(n:Zl):cells n=[.bool n]:=rfl
@[simp] def TI(n:Zq):cells n=[.str n]:=rfl
@[simp] def Ug(n:bu):cells n=[.int .i64 n.proc,.int .i64 n.index]:=rfl
@[simp] def R7(n:bu):enc n=.agg [.int .i64 n.proc,.int .i64 n.index]:=rfl
section
variable{α:Type}[bF α]
def gC(l:a_ α):(rows l).length=l.length:=by simp[rows]
def idx(s:Sl α)(i:Int):bt α:=if 0<=i then s.l[i.toNat]?else none
def MH{N:Nat->Zk}(s:Sl α)(k:Zs)(i:Int){n:Nat}(B:n=bF.size α):bO N (.idxS n) [cr s,.int k i]=(idx s i).map λx=>.fptr (cells x):=by subst B;unfold idx cr;simp only[bO,kE];by_cases h:i<0;rw[if_pos h,if_neg Za];rfl;rw[if_neg h,if_pos Za];cases s<;>simp[Sl.k,Sl.l,nQ,rows,Function.comp_def]
def Dr{N:Nat->Zk}(s:Sl α):bO N .lenSl [cr s]=some (.int .i64 s.l.length):=by cases s<;>simp[bO,lQ,cr,Sl.k,Sl.l,nQ,gC]
end
section
variable{S:Sys}{c:cg}
end
end Go.VE
namespace Go.VE
variable[bV]
section
variable{S:Sys}{c:cg}
def isSlice:tQ->Zl
 |.slice ..=>true|_=>false
def OK(dr:Zl)(fr:Zv)(dst:bt Nat)(now:Zl)(p:tQ)(az:Z4)(st:St)(h:isSlice p=false):
 fq S c dr fr ⟨dst,none,now,.p p,az,[],[]⟩ st=(cn S.N st.g az).bind λsvs=>(jJ S.N st.m p svs).bind λx=>some (dy st dst x):=by
 unfold fq kN;have u:fE S.N st.g ⟨dst,none,now,.p p,az,[],[]⟩=none:=by unfold fE;grind
 simp[wanted,u]
 cases z:cn S.N st.g az with
 |none=>rfl|some svs=>simp;cases p<;>first|(simp[isSlice]at h;done)|(cases w:jJ S.N st.m _ svs<;>simp[w])
def Ia(N:Nat->Zk)(m:Tb bN)(p:tQ)(svs:Zw)(xs:Zu)(h:dA svs=some xs):jJ N m p svs=(bO N p xs).bind λx=>some (.v x):=by unfold jJ;rw[h];dsimp only;cases bO N p xs<;>rfl
def Eg(dr:Zl)(fr:Zv)(dst:bt Nat)(now:Zl)(q:HP)(az:Z4)(st:St):
 fq S c dr fr ⟨dst,none,now,.r q,az,[],[]⟩ st=(cn S.N st.g az).bind λsvs=>if !dr||now||eW fr svs then(oJ st.m q svs).bind λx=>some (dy st dst x)else none:=by
 unfold fq kN;have u:fE S.N st.g ⟨dst,none,now,.r q,az,[],[]⟩=none:=rfl;simp[wanted,u]
 cases w:cn S.N st.g az with
 |none=>rfl|some svs=>
  simp;split
  .cases z:oJ st.m q svs<;>simp
  rfl
def B0(dr:Zl)(fr:Zv)(d:Nat)(now:Zl)(q:Ki)(az:Z4)(st:St):
 fq S c dr fr ⟨some d,none,now,.a q,az,[],[]⟩ st=(cn S.N st.g az).bind λsvs=>if st.new d then(o9 st.m q svs d).bind λr=>some {st with g:=bR st.g d r.2,m:=bR st.m d r.1}else none:=by
 unfold fq kN;have u:fE S.N st.g ⟨some d,none,now,.a q,az,[],[]⟩=none:=rfl;simp[wanted,u]
 cases w:cn S.N st.g az with
 |none=>rfl|some svs=>
  simp;split
  .cases z:o9 st.m q svs d<;>simp[dy]
  rfl
def vg(dr:Zl)(fr:Zv)(dst:bt Nat)(now:Zl)(q:HF)(az:Z4)(st:St):
 fq S c dr fr ⟨dst,none,now,.l q,az,[],[]⟩ st=(cn S.N st.g az).bind λsvs=>if !dr||now then(lX st dst q svs).bind λr=>some (dy r.2 dst r.1)else none:=by
 unfold fq kN;have u:fE S.N st.g ⟨dst,none,now,.l q,az,[],[]⟩=none:=rfl;simp[wanted,u]
 cases w:cn S.N st.g az with
 |none=>rfl|some svs=>
  simp;split
  .cases z:lX st dst q svs<;>simp
  rfl
def n_:Zw->bt (Zk×Zw)
 |.clo f a b::vs=>some (f,a++vs++b)|.v (.clo f a b)::vs=>some (f,a.map .v++vs++b.map .v)|_=>none
def Cj(dr:Zl)(fr:Zv)(dst:bt Nat)(now:Zl)(az:Z4)(st:St)(svs:Zw)(f:Zk)(args:Zw)(B:cn S.N st.g az=some svs)(a:n_ svs=some (f,args)):
 fq S c dr fr ⟨dst,none,now,.c,az,[],[]⟩ st=(fV S c dst dr (!dr||now) (gb st.m fr) f args st).bind λr=>some (dy r.2 dst r.1):=by
 unfold fq kN;unfold n_ at a;split at a
 .obtain⟨rfl,rfl⟩:=a;simp[wanted,fE,B];cases fV S c dst dr _ _ _ _ st<;>simp
 .obtain⟨rfl,rfl⟩:=a;simp[wanted,fE,B];cases fV S c dst dr _ _ _ _ st<;>simp
 grind
def NA{β:Type}(S:Sys)(c:cg)(fr:Zv)(l:Zx)(k:St->bt β):St->bt β:=λst=>(mg S c false fr l st).bind k
def N4{β:Type}(S:Sys)(c:cg)(fr:Zv)(l:Zx)(k:St->bt β):St->bt β:=λst=>(mg S c true fr l st).bind k
def RL{β:Type}(S:Sys)(c:cg)(fr dd:Zv)(l:Zx)(k:St->bt β):St->bt β:=λst=>NA S c fr l k (ou dd st)
def SB{β:Type}(S:Sys)(c:cg)(fr dd:Zv)(l:Zx)(k:St->bt β):St->bt β:=λst=>N4 S c fr l k (ou dd st)
@[congr] def SS{β:Type}{fr:Zv}{l:Zx}{k:St->bt β}{st st':St}(h:st=st'):NA S c fr l k st=NA S c fr l k st':=by rw[h]
@[congr] def SY{β:Type}{fr B:Zv}{l:Zx}{k:St->bt β}{st st':St}(D:fr=B)(h:st=st'):N4 S c fr l k st=N4 S c B l k st':=Ze
@[congr] def Tm{β:Type}{fr dd:Zv}{l:Zx}{k:St->bt β}{st st':St}(h:st=st'):RL S c fr dd l k st=RL S c fr dd l k st':=by rw[h]
@[congr] def Tq{β:Type}{fr B dd:Zv}{l:Zx}{k:St->bt β}{st st':St}(D:fr=B)(h:st=st'):SB S c fr dd l k st=SB S c B dd l k st':=Ze
@[congr] def TJ{dr:Zl}{fr:Zv}{o:RO}{st st':St}(h:st=st'):fq S c dr fr o st=fq S c dr fr o st':=by rw[h]
end
section
variable{S:Sys}{c:cg}(dr:Zl)(fr:Zv)(dst:bt Nat)(now:Zl)(az:Z4)(st:St)
end
inductive Fm where
 |seq(b:RC)|blk(id:Nat)|gst(x:Gh)
abbrev Z3:=a_ Fm
section
variable(S:Sys)(c:cg){β:Type}(Q:Out×St->bt β)
def runK:Z3->Out×St->bt β
 |[],r=>Q r|.seq b::fs,(.norm,st)=>(cM S c b st).bind (runK fs)|.seq _::fs,r=>runK fs r|.blk id::fs,(.exit k,st)=>if k=id then runK fs (.norm,st)else runK fs (.exit k,st)|.blk _::fs,r=>runK fs r|.gst x::fs,(.norm,st)=>(ghost x st).bind λst=>runK fs (.norm,st)|.gst _::fs,r=>runK fs r
def go(a:RC)(fs:Z3)(st:St):bt β:=(cM S c a st).bind (runK S c Q fs)
def OY(fs:Z3):St->bt β:=λst=>runK S c Q fs (.norm,st)
def bE{α:Type}(t:Zl)(a b:α):α:=if t then a else b
end
@[congr] def T3{α:Type}{t B:Zl}{a b a' D:α}(h:t=B)(G:B=true->a=a')(J:B=false->b=D):bE t a b=bE B a' D:=by subst h;cases t;exact J rfl;exact G rfl
section
variable{S:Sys}{c:cg}{β:Type}{Q:Out×St->bt β}
@[congr] def go_congr{a:RC}{fs:Z3}{st st':St}(h:st=st'):go S c Q a fs st=go S c Q a fs st':=by rw[h]
@[congr] def SI{fs:Z3}{st st':St}(h:st=st'):OY S c Q fs st=OY S c Q fs st':=by rw[h]
@[congr] def S_{fs:Z3}{r B:Out×St}(h:r=B):runK S c Q fs r=runK S c Q fs B:=by rw[h]
def Fi(a:RC)(st:St):(cM S c a st).bind Q=go S c Q a [] st:=by simp only[go];cases cM S c a st<;>rfl
inductive Fw(ν ε ρ:Type)where
 |n(a:ν)|x(e:ε)|r(b:ρ)
def i_{σ ε ρ:Type}(step:σ->bt (Fw σ ε ρ)):Nat->σ->bt (Fw Empty ε ρ)
 |0,_=>none|k+1,s=>match step s with
  |some (.n B)=>i_ step k B|some (.x e)=>some (.x e)|some (.r b)=>some (.r b)|none=>none
def vM{σ ε ρ:Type}{step:σ->bt (Fw σ ε ρ)}:∀{k B:Nat}{s:σ}{r:Fw Empty ε ρ},k<=B->i_ step k s=some r->i_ step B s=some r
 |0,_,_,_,_,h=>by simp[i_]at h|k+1,0,_,_,hk,_=>Za|k+1,B+1,s,r,hk,h=>by simp only[i_]at h⊢;split at h;exact vM (Nat.le_of_succ_le_succ hk) h;exact h;exact h;simp at h
open Classical in
def b8{σ ε ρ:Type}(step:σ->bt (Fw σ ε ρ))(s:σ):bt (Fw Empty ε ρ):=if h:∃k r,i_ step k s=some r then some (Classical.choose (choose_spec h))else none
def m_{σ ε ρ:Type}{step:σ->bt (Fw σ ε ρ)}{s:σ}{r:Fw Empty ε ρ}:b8 step s=some r↔∃k,i_ step k s=some r:=by
 unfold b8;constructor;intro h;split at h;next u=>simp only[ζa]at h;exact⟨_,by rw[<-h];exact choose_spec (choose_spec u)⟩
 simp at h;rintro⟨k,a⟩;have u:∃k r,i_ step k s=some r:=⟨k,r,a⟩;rw[dif_pos u];have z:=choose_spec (choose_spec u);have B:=vM (Nat.le_max_left (Classical.choose u) k) z;have w:=vM (Nat.le_max_right (Classical.choose u) k) a;rw[B]at w;exact w
def Fw.out{ν ε ρ:Type}(B:ν->St)(eε:ε->Nat×St)(eρ:ρ->St):Fw ν ε ρ->Out×St
 |.n a=>(.norm,B a)|.x e=>(.exit (eε e).1,(eε e).2)|.r b=>(.ret,eρ b)
def Fw.elim{ε ρ γ:Type}(B:ε->γ)(fr:ρ->γ):Fw Empty ε ρ->γ
 |.x e=>B e|.r b=>fr b
end
section
variable{α:Type}[bF α]
def DQ(s:Sl α):V.one (cr s)=true:=by cases s<;>rfl
def KI(l:a_ α):V.lT (rows l)=true:=by induction l with|nil=>rfl|cons a l u=>simp only[rows,map_cons,V.lT,ζh];exact⟨bF.good a,u⟩
def JK(s:Sl α):V.good (cr s)=true:=by cases s<;>simp only[cr,Sl.k,nQ,V.good]<;>exact KI _
instance:bF (Sl α)where
 cells s:=[cr s]
 agg:=false
 size:=1
 len _:=rfl
 good s:=by simp only[V.cG,JK,Bool.and_self]
 one s:=by simp[DQ]
 plain _:=rfl
end
section
variable{S:Sys}{c:cg}
def Kg(x:bt SV)(b:Zl)(y z:bt St):bt St:=
 match x with
 |some (.v (.bool t))=>bE (t==b) y z|some (.v _)=>z|_=>none
@[congr] def R2{x B:bt SV}{b:Zl}{y z:bt St}(h:x=B):Kg x b y z=Kg B b y z:=by rw[h]
def OF{β:Type}(x:bt SV)(y z:bt β):bt β:=
 match x with
 |some (.v (.bool t))=>bE t y z|_=>none
@[congr] def SD{β:Type}{x B:bt SV}{y z:bt β}(h:x=B):OF x y z=OF B y z:=by rw[h]
def mA(c:cg)(f:Zk)(az:Zu):bt Zu:=(c f (az.map .v) []).bind λr=>dh r.2 8 r.1
def Lw(now:Zl)(args:Zw)(ok:Zl)(st:St)(ys:Zu):bt (SV×St):=if(result ys).scalar||ok then some (.v (result ys),st)else if now then(rowsOf args).map λds=>(.v (result ys),{st with m:=oF ds st.m})else none
def PZ(dst:bt Nat)(dr now:Zl)(old:Zw->Zl)(f:Zk)(args:Zw)(st:St)(a:S.E.keep f=false):
 fV S c dst dr now old f args st=(dh st.m 8 args).bind λaz=>if now||old args then(mA c f az).bind (Lw now args (dA args).isSome st)else none:=by
 unfold fV mA;simp only[a,Bool.false_eq_true,if_false]
 cases dh st.m 8 args with
 |none=>rfl|some az=>
  simp only[ζb];split
  .cases c f (az.map .v) []with
   |none=>rfl|some r=>have⟨rs,m'⟩:=r;simp only[ζb];cases dh m' 8 rs<;>rfl
  rfl
end
section
variable{S:Sys}{T:oN}
def Gx(rs:a_ RV):Out×St->bt Zu
 |(.exit _,_)=>none|(_,st)=>(kj st rs).bind (dh st.m 8)
def NL{f:Zk}{rf:RF}(B:T f=some rf)(az:Zu)(D:az.length<=rf.na):mA (dg S T) f az=go S (dg S T) (Gx rf.rs) rf.body [] (start (az.map .v) []):=by unfold mA;rw[qA B];unfold l8;rw[if_pos (by simpa using D),<-Fi];cases h:cM S (dg S T) rf.body (start (az.map .v) [])with|none=>rfl|some r=>have⟨o,st⟩:=r;cases o<;>simp only[ζb,Gx]<;>(try rfl)<;>(cases kj st rf.rs<;>rfl)
end
end Go.VE
namespace Go.VE
variable[bV]
variable{N:Nat->Zk}
def Fk(o:Nat)(cs:Zu):bO N (.fieldAddr o) [.fptr cs]=if o<=cs.length then some (.fptr (cs.drop o))else none:=rfl
def kf(s:Zq)(n:Int):Z6:=if 0<=n then(s[n.toNat]?).map λb=>(b.toNat:Int)else none
def Kn(s:Zq)(k:Zs)(n:Int):bO N .idxStr [.str s,.int k n]=(kf s n).bind λx=>some (.int .u8 x):=by simp only[bO,kf];split;cases s[n.toNat]?<;>rfl;rfl
def NQ(z:Zu)(pl:a_ (Nat×Nat))(vs:Zu):bO N (.build z pl) vs=(jV z pl vs).bind λcs=>some (.agg cs):=by simp only[bO];cases jV z pl vs<;>rfl
section
variable{α:Type}[bF α]
def CS(s:Sl α)(k:Zs)(i:Int)(n:Nat)(B:n=bF.size α):bO N (.idxS n) [cr s,.int k i]=(idx s i).bind λx=>some (.fptr (cells x)):=by rw[MH s k i B];cases idx s i<;>rfl
def E5(s:Sl α):bO N .lenSl [cr s]=some (.int .i64 s.l.length):=Dr s
def Sl.isNil{α:Type}(s:Sl α):bt Zl:=
 match s with
 |.nil=>some true|.emp=>none|_=>some false
def Mc(q:bt Nat)(s:Sl α):bO N (.bin (some .slice) q .eql) [cr s,.bL]=s.isNil.bind λt=>some (.bool t):=by cases s<;>rfl
def jL(s:Sl α)(B D:Z6):bt (Sl α):=
 (dW s.l.length B D).map λ(l,h)=>match s with
  |.nil=>.nil|.emp=>.emp|.row x=>.part ((x.take h).drop l)|.part x=>.part ((x.take h).drop l)
def IW(s:Sl α)(B D:Z6)(n:Nat)(G:n=bF.size α):gX n (cr s) B D=(jL s B D).bind λx=>some (cr x):=by subst G;cases s with|nil=>simp only[cr,Sl.k,nQ,gX,jL,Sl.l,length_nil];cases dW 0 B D<;>rfl|emp=>simp only[cr,Sl.k,nQ,gX,jL,Sl.l,length_nil];cases dW 0 B D<;>rfl|row l=>simp only[cr,Sl.k,nQ,gX,jL,Sl.l,if_true,gC];cases dW l.length B D<;>simp[rows,map_take,map_drop]|part l=>simp only[cr,Sl.k,nQ,gX,jL,Sl.l,if_true,gC];cases dW l.length B D<;>simp[rows,map_take,map_drop]
end
def LY(m:Tb bN)(n:Nat)(a:Zl)(cs:Zu):oJ m (.load n a) [.v (.fptr cs)]=(cut cs 0 n).bind λr=>(mk a r).bind λx=>some (.v x):=by simp only[oJ,dX];cases cut cs 0 n with|none=>rfl|some r=>simp only[ζb];cases mk a r<;>rfl
end Go.VE
namespace Go.VE
variable[bV]
section
variable{α:Type}[bF α]
def cU(s:Sl α):bN:=.sl s.k (bF.size α) (rows s.l)
def Sl.l_(s:Sl α)(i:Int):bt Nat:=if 0<=i/\i.toNat<s.l.length then some i.toNat else none
def Sl.get(s:Sl α)(i:Nat):bt α:=s.l[i]?
def Sl.put(s:Sl α)(i:Nat)(x:α):bt (Sl α):=if i<s.l.length then some (match s with|.row l=>.row (l.set i x)|.part l=>.part (l.set i x)|s=>s)else none
def jt(s:Sl α)(x:α):bt (Sl α):=if s.l.length+1<=2147483648 then some (.row (s.l++[x]))else none
def qw(n:Int)(z:α):bt (Sl α):=if 0<=n/\n<=2147483648 then some (.row (replicate n.toNat z))else none
end
section
variable{α:Type}[bF α]{N:Nat->Zk}{m:Tb bN}
def JU(n d:Nat)(o:bt bN)(i:Int):bt SV:=
 match o with
 |some (.sl k es u)=>if cN k/\es=n/\0<=i/\i.toNat<u.length then some (.el d i.toNat 0)else none|_=>none
def Pj(n d:Nat)(k:Zs)(i:Int):jJ N m (.idxS n) [.own d,.v (.int k i)]=JU n d (bB m d) i:=by simp[jJ,dA,zu,JU];grind
def PA(n d:Nat)(s:Sl α)(i:Int)(h:n=bF.size α):JU n d (some (cU s)) i=(s.l_ i).bind λj=>some (.el d j 0):=by simp[JU,cU,gC,Sl.l_];cases s with|nil=>simp[Sl.l,cN]|emp=>simp[Sl.l,cN]|row l=>simp[Sl.k,Sl.l,cN];grind|part l=>simp[Sl.k,Sl.l,cN];grind
def Ix(o:bt bN):bt SV:=
 match o with
 |some (.sl _ _ u)=>some (.v (.int .i64 u.length))|_=>none
def MA(d:Nat):jJ N m .lenSl [.own d]=Ix (bB m d):=by simp[jJ,dA,zu,Ix];grind
def QE(s:Sl α):Ix (some (cU s))=some (.v (.int .i64 s.l.length)):=by simp[Ix,cU,gC]
def OR(n:Nat)(a:Zl)(o:Nat)(ob:bt bN):bt SV:=
 match ob with
 |some (.box u)=>uf n a ((u.drop o).take n)|_=>none
def Ue(n:Nat)(a:Zl)(d o:Nat):oJ m (.load n a) [.ptr d o]=OR n a o (bB m d):=by rfl
def Ky(n:Nat)(a:Zl)(o:Nat)(cs:Zw):OR n a o (some (.box cs))=uf n a ((cs.drop o).take n):=rfl
def Gb(n:Nat)(a:Zl)(i o:Nat)(ob:bt bN):bt SV:=
 match ob with
 |some (.sl _ _ u)=>match u[i]?with
  |some w=>((cut w o n).bind (mk a)).map .v|none=>none
 |_=>none
def S5(n:Nat)(a:Zl)(d i o:Nat):oJ m (.load n a) [.el d i o]=Gb n a i o (bB m d):=by rfl
def LK(n:Nat)(a:Zl)(i o:Nat)(s:Sl α):Gb n a i o (some (cU s))=(s.get i).bind λx=>(cut (cells x) o n).bind λr=>(mk a r).bind λy=>some (.v y):=by simp only[Gb,cU,Sl.get,rows,List.getElem?_map];cases s.l[i]?with|none=>rfl|some x=>simp only[map_some,ζb];cases cut (cells x) o n with|none=>rfl|some r=>simp;cases mk a r<;>rfl
def Ty(z:α)(n:Int)(d:Nat)(size:Nat)(zero:Zu)(h:zero=cells z)(B:size=bF.size α):
 o9 m (.makeSl size zero) [.v (.int .i64 n),.v (.int .i64 n)] d=(qw n z).bind λs=>some (cU s,.own d):=by
 subst h B;simp[o9,qw];split
 .simp[cU,Sl.k,Sl.l,rows]
 rfl
def CW(st:St)(d i o size:Nat)(x:V)(ob:bt bN):bt (SV×St):=
 match ob with
 |some (.sl k es w)=>match w[i]?with
  |some u=>if x.cells.length=size/\o+size<=u.length/\x.cells.all V.one=true then
   some (.v .undef,{st with m:=bR st.m d (.sl k es (w.set i (u.take o++x.cells++u.drop (o+x.cells.length))))})else none
  |none=>none
 |_=>none
def IM(st:St)(dst:bt Nat)(size d i o:Nat)(x:V):lX st dst (.store size) [.el d i o,.v x]=CW st d i o size x (bB st.m d):=by rfl
def IG(g:Tb SV)(p:Zv)(w:Zt)(B:Zl)(y:Nat)(d i size:Nat)(x:V)(a:α)(D:x.cells=cells a)(G:size=bF.size α)(s:Sl α):
 CW ⟨g,m,p,w,B,y⟩ d i 0 size x (some (cU s))=(s.put i a).bind λJ=>some (.v .undef,⟨g,bR m d (cU J),p,w,B,y⟩):=by
 have c:(cells a).all V.one=true:=bF.one a;have z:∀b:α,(cells b).length=bF.size α:=bF.len;subst G;simp only[CW,cU,rows,List.getElem?_map,D,Sl.put]
 by_cases u:i<s.l.length
 .have hg:=ζd u;rw[if_pos u,hg];simp[z,c]
  cases s with
  |nil=>simp[Sl.l]at u|emp=>simp[Sl.l]at u|row l=>simp[Sl.k,Sl.l,List.drop_of_length_le,z]|part l=>simp[Sl.k,Sl.l,List.drop_of_length_le,z]
 grind
def wY(st:St)(t n:Nat)(s:SV)(xs ys:bt Zt):bt (SV×St):=
 match xs,ys with
 |some _,some []=>match s with
  |.own d=>match bB st.m d with
   |some ob=>if St.new {st with m:=dY d st.m} t then some (.own t,{st with m:=bR (dY d st.m) t ob})else none|none=>none
  |.v .bL=>if st.new t then some (.own t,{st with m:=bR st.m t (.sl .nil n [])})else none|.v .dF=>if st.new t then some (.own t,{st with m:=bR st.m t (.sl .emp n [])})else none|_=>none
 |some xs,some ys=>
  if xs.length+ys.length<=2147483648/\ED s=true then
   if St.new {st with m:=giveUp st.m s} t then some (.own t,{st with m:=bR (giveUp st.m s) t (.sl .row n (xs++ys))})else none
  else none
 |_,_=>none
def ye(st:St)(t n:Nat)(s x:SV):lX st (some t) (.append n) [s,x]=wY st t n s (iM st.m n s) (iM st.m n x):=by cases s<;>cases x<;>(rfl)
def IK(n:Nat)(o:bt bN):bt Zt:=
 match o with
 |some (.sl k es u)=>if cN k then(if es=n then some u else none)else some []|_=>none
def CY(n d:Nat):iM m n (.own d)=IK n (bB m d):=by simp[iM,IK];grind
def zq(n:Nat)(s:Sl α)(h:n=bF.size α):IK n (some (cU s))=some (rows s.l):=by subst h;cases s<;>simp[IK,cU,Sl.k,Sl.l,cN,rows]
def PB(n:Nat):iM m n (.v .bL)=some []:=rfl
def Qn(n:Nat):iM m n (.v .dF)=some []:=rfl
def LA(g:Tb SV)(p:Zv)(w:Zt)(B:Zl)(y:Nat)(t n d:Nat)(l:a_ α)(x:α)(h:n=bF.size α):wY ⟨g,m,p,w,B,y⟩ t n (.own d) (some (rows l)) (some (rows [x]))=
 (jt (.row l) x).bind λs=>if St.new ⟨g,dY d m,p,w,B,y⟩ t then some (.own t,⟨g,bR (dY d m) t (cU s),p,w,B,y⟩)else none:=by
 subst h;have e:(rows l).length+(rows [x]).length=l.length+1:=by simp[gC]
 by_cases h:l.length+1<=2147483648
 .have a:jt (.row l) x=some (.row (l++[x])):=if_pos h;have u:wY ⟨g,m,p,w,B,y⟩ t (bF.size α) (.own d) (some (rows l)) (some (rows [x]))=if St.new ⟨g,dY d m,p,w,B,y⟩ t then some (.own t,⟨g,bR (dY d m) t (.sl .row (bF.size α) (rows l++rows [x])),p,w,B,y⟩)else none:=if_pos ⟨Za,rfl⟩
  rw[a,u];simp[cU,Sl.k,Sl.l,rows]
 have a:jt (.row l) x=none:=if_neg h;have u:wY ⟨g,m,p,w,B,y⟩ t (bF.size α) (.own d) (some (rows l)) (some (rows [x]))=none:=if_neg (λq=>h Za)
 grind
def KO(g:Tb SV)(p:Zv)(w:Zt)(B:Zl)(y:Nat)(t n:Nat)(x:α)(h:n=bF.size α):wY ⟨g,m,p,w,B,y⟩ t n (.v .bL) (some []) (some (rows [x]))=
 if St.new ⟨g,m,p,w,B,y⟩ t then some (.own t,⟨g,bR m t (cU (.row [x])),p,w,B,y⟩)else none:=by
 subst h;rfl
def LV(g:Tb SV)(p:Zv)(w:Zt)(B:Zl)(y:Nat)(t n:Nat)(x:α)(h:n=bF.size α):wY ⟨g,m,p,w,B,y⟩ t n (.v .dF) (some []) (some (rows [x]))=
 if St.new ⟨g,m,p,w,B,y⟩ t then some (.own t,⟨g,bR m t (cU (.row [x])),p,w,B,y⟩)else none:=by
 subst h;rfl
end
def v8(g:Tb SV)(m:Tb bN)(p:Zv)(w:Zt)(B:Zl)(y d:Nat):St.new ⟨g,m,p,w,B,y⟩ d=(!(p.contains d)&&(bB m d).isNone&& !(ua d g)&& !(rD d m)):=rfl
def qP(d:Nat):ua d []=false:=rfl
def pJ(d n:Nat)(x:SV)(r:Tb SV):ua d ((n,x)::r)=(SV.c6 d x||ua d r):=rfl
def qN(d:Nat):rD d []=false:=rfl
def pG(d n:Nat)(x:bN)(r:Tb bN):rD d ((n,x)::r)=(bN.c6 d x||rD d r):=rfl
def wj(d:Nat)(x:V):SV.c6 d (.v x)=false:=rfl
def r_(d e:Nat):SV.c6 d (.own e)=(e==d):=rfl
def sL(d e o:Nat):SV.c6 d (.ptr e o)=(e==d):=rfl
def uv(d e i o:Nat):SV.c6 d (.el e i o)=(e==d):=rfl
def uu(d e:Nat):SV.c6 d (.mp e)=(e==d):=rfl
def sM(d:Nat)(f:Zk)(a b:Zw):SV.c6 d (.clo f a b)=(SV.dD d a||SV.dD d b):=rfl
def sq(d:Nat)(l:Zw):SV.c6 d (.tup l)=SV.dD d l:=rfl
def qR(d:Nat):SV.dD d []=false:=rfl
def pQ(d:Nat)(x:SV)(r:Zw):SV.dD d (x::r)=(SV.c6 d x||SV.dD d r):=rfl
def qZ(d:Nat)(cs:Zw):bN.c6 d (.box cs)=SV.dD d cs:=rfl
def Dl(m:Tb bN)(n:Nat):dh m n []=some []:=by cases n<;>simp[dh]
def BZ(m:Tb bN)(n:Nat)(x:SV)(r:Zw):dh m n (x::r)=(shut m n x).bind λy=>(dh m n r).bind λs=>some (y::s):=by cases n<;>(simp[dh];cases shut m _ x<;>(try rfl)<;>(cases dh m _ r<;>rfl))
def Rh(m:Tb bN)(n:Nat)(x:V):shut m n (.v x)=some x:=by cases n<;>simp[shut]
def NG(m:Tb bN)(n:Nat)(f:Zk)(a b:Zw):shut m (n+1) (.clo f a b)=(dh m n a).bind λx=>(dh m n b).bind λy=>some (.clo f x y):=by simp[shut];cases dh m n a<;>(try rfl)<;>(cases dh m n b<;>rfl)
def M7(m:Tb bN)(n:Nat)(l:Zw):shut m (n+1) (.tup l)=(dh m n l).bind λx=>some (.tup x):=by simp[shut];cases dh m n l<;>rfl
def NU(m:Tb bN)(n:Nat)(l:Zw):shut m (n+1) (.agg l)=(dh m n l).bind λx=>some (.agg x):=by simp[shut];cases dh m n l<;>rfl
def rY{α:Type}(n:Nat):dY n ([]:Tb α)=[]:=rfl
def q9{α:Type}(n k:Nat)(x:α)(r:Tb α):dY n ((k,x)::r)=if k=n then dY n r else(k,x)::dY n r:=rfl
def mapM_nil(f:Zw->Zw):mapM f []=[]:=rfl
section
variable{N:Nat->Zk}{m:Tb bN}
def Qb:result []=.tup []:=rfl
def Qq(x:V):result [x]=x:=rfl
def Pa(x y:V)(l:Zu):result (x::y::l)=.tup (x::y::l):=rfl
def Gk(p:tQ)(a:V):jJ N m p [.v a]=(bO N p [a]).bind λx=>some (.v x):=Ia N m p _ [a] rfl
def wM(p:tQ)(a b:V):jJ N m p [.v a,.v b]=(bO N p [a,b]).bind λx=>some (.v x):=Ia N m p _ [a,b] rfl
def qC(l:Zu):dA (l.map .v)=some l:=by induction l with|nil=>rfl|cons a l u=>simp only[map_cons,dA,u];rfl
def vo(n:Nat)(l:Zu):dh m n (l.map .v)=some l:=by induction l with|nil=>exact Dl m n|cons a l u=>rw[map_cons,BZ,Rh,u];rfl
def Sl.OB{α:Type}(l:a_ α):(Sl.row l).l=l:=rfl
def Lg(cs:Zu):jV cs [] []=some cs:=rfl
def IJ(cs:Zu)(off size:Nat)(pl:a_ (Nat×Nat))(v:V)(vs:Zu):jV cs ((off,size)::pl) (v::vs)=
 if v.cells.length=size/\off+v.cells.length<=cs.length then jV (cs.take off++v.cells++cs.drop (off+v.cells.length)) pl vs else none:=by
 simp only[jV]
 by_cases h:v.cells.length=size<;>by_cases u:off+v.cells.length<=cs.length
 .rw[if_neg (by simp[h];omega),if_pos ⟨h,u⟩]
 .rw[if_pos (by simp[h];omega),if_neg (λq=>u q.2)]
 .rw[if_pos (by simp[h]),if_neg (λq=>h q.1)]
 rw[if_pos (by simp[h]),if_neg (λq=>h q.1)]
def Rl(k:Zs)(n:Int):V.cells (.int k n)=[.int k n]:=rfl
def Pd(n:Zl):V.cells (.bool n)=[.bool n]:=rfl
def RE(n:Zq):V.cells (.str n)=[.str n]:=rfl
def Rj:V.cells .bL=[.bL]:=rfl
def pF(k:Zs)(n:Int):V.one (.int k n)=true:=rfl
def nM(n:Zl):V.one (.bool n)=true:=rfl
def pe(n:Zq):V.one (.str n)=true:=rfl
end
section
variable{S:Sys}{c:cg}{β γ δ:Type}{Q:Out×St->bt β}{L:bt β}{e:γ->bt β}
def KK{dr:Zl}{fr:Zv}{d:bt Nat}{gd:bt (Nat×Zl)}{now:Zl}{k:K}{az:Z4}{st:St}(h:wanted st.g gd=some true):
 fq S c dr fr ⟨d,gd,now,k,az,[],[]⟩ st=fq S c dr fr ⟨d,none,now,k,az,[],[]⟩ st:=by
 unfold fq;rw[h];rfl
def A4(dr:Zl)(st:St):A1 dr [] st=some st:=by cases dr<;>rfl
def nG(f:SV->bt V):Zw->bt Zu
 |[]=>some []|x::r=>(f x).bind λy=>(nG f r).bind λs=>some (y::s)
def iQ(m:Tb bN):Nat->SV->bt V
 |0,x=>match x with
  |.v y=>some y|.own d=>match bB m d with
   |some (.sl k es xs)=>some (nQ k es xs)|_=>none
  |.mp d=>match bB m d with
   |some (.mp B)=>some (.fmap B)|_=>none
  |_=>none
 |n+1,x=>match x with
  |.v y=>some y|.own d=>match bB m d with
   |some (.sl k es xs)=>some (nQ k es xs)|_=>none
  |.ptr d o=>match bB m d with
   |some (.box cs)=>match nG (iQ m n) cs with
    |some xs=>if o<=xs.length then some (.fptr (xs.drop o))else none|none=>none
   |_=>none
  |.mp d=>match bB m d with
   |some (.mp B)=>some (.fmap B)|_=>none
  |.clo f a b=>(nG (iQ m n) a).bind λx=>(nG (iQ m n) b).bind λy=>some (.clo f x y)|.tup l=>(nG (iQ m n) l).bind λx=>some (.tup x)|.agg l=>(nG (iQ m n) l).bind λx=>some (.agg x)|_=>none
def zO(m:Tb bN):∀(n:Nat),(∀x,shut m n x=iQ m n x)/\∀l,dh m n l=nG (iQ m n) l:=by
 have w:∀n,(∀x,shut m n x=iQ m n x)->∀l,dh m n l=nG (iQ m n) l:=by intro n h l;induction l with|nil=>exact Dl m n|cons a l u=>rw[BZ,h a,u];rfl
 intro n;induction n with|zero=>have c:∀x,shut m 0 x=iQ m 0 x:=(by intro x;cases x<;>simp[shut,iQ]<;>rfl);grind|succ n u=>have e:∀x,shut m (n+1) x=iQ m (n+1) x:=(by intro x;cases x with|ptr d o=>simp[shut,iQ,u.2];rfl|clo f a b=>rw[NG,u.2,u.2];rfl|tup l=>rw[M7,u.2];rfl|agg l=>rw[NU,u.2];rfl|_=>simp[shut,iQ]<;>rfl);grind
def tF(S:Sys)(c:cg)(dr:Zl):Zv->Zx->(St->bt β)->St->bt β
 |_,[],k,st=>k st|fr,o::r,k,st=>((A1 dr o.pre st).bind (fq S c dr fr o.strip)).bind λst'=>tF S c dr (if dr then p_ fr o.strip else fr) r k (ou o.dead st')
def Cp(dr:Zl):∀(l:Zx)(fr:Zv)(k:St->bt β)(st:St),tF S c dr fr l k st=(mg S c dr fr l st).bind k
 |[],_,_,_=>rfl|o::r,fr,k,st=>by simp[tF,mg];cases(A1 dr o.pre st).bind (fq S c dr fr o.strip)with|none=>rfl|some st'=>exact Cp dr r _ k _
def oI(S:Sys)(c:cg):RC->(St->bt β)->(Nat->St->bt β)->(St->bt β)->St->bt β
 |.skip,n,_,_,st=>n st|.ops l,n,_,_,st=>tF S c false [] l n st|.oG l,n,_,_,st=>tF S c true [] l n st|.seq a b,n,x,r,st=>oI S c a (λst=>oI S c b n x r st) x r st|.cond y a b,n,x,r,st=>match pT S.N st.g y with
  |some (.v (.bool t))=>bE t (oI S c a n x r st) (oI S c b n x r st)|_=>none
 |.block id a,n,x,r,st=>oI S c a n (λk st=>if k=id then n st else x k st) r st|.loop a,n,x,r,st=>(nq (cM S c a) st).bind λq=>match q with|(.norm,st)=>n st|(.exit k,st)=>x k st|(.ret,st)=>r st
 |.each g ps a b,n,x,r,st=>(cM S c (.each g ps a b) st).bind λq=>match q with|(.norm,st)=>n st|(.exit k,st)=>x k st|(.ret,st)=>r st
 |.exit k,_,x,_,st=>x k st|.ret,_,_,r,st=>r st|.gh g a,n,x,r,st=>(ghost g st).bind λst=>oI S c a n x r st|.hg a g,n,x,r,st=>oI S c a (λst=>(ghost g st).bind n) x r st
def Cs(n:St->bt β)(x:Nat->St->bt β)(r:St->bt β):Out×St->bt β
 |(.norm,st)=>n st|(.exit k,st)=>x k st|(.ret,st)=>r st
def Cc:∀(d:RC)(n:St->bt β)(x:Nat->St->bt β)(r:St->bt β)(st:St),oI S c d n x r st=(cM S c d st).bind (Cs n x r):=by
 intro d
 induction d with
 |skip=>intros;rfl|ops l=>intro n x r st;simp[oI,cM,Cp];cases mg S c false [] l st<;>rfl|oG l=>intro n x r st;simp[oI,cM,Cp];cases mg S c true [] l st<;>rfl|seq a b u w=>intro n x r st;simp[oI,cM,u,w];cases h:cM S c a st with|none=>rfl|some q=>have⟨o,st'⟩:=q;cases o<;>rfl
 |cond y a b u w=>
  intro n x r st;simp[oI,cM,u,w]
  cases pT S.N st.g y with
  |none=>rfl|some v=>cases v with
   |v z=>cases z with
    |bool t=>cases t<;>rfl|_=>rfl
   |_=>rfl
 |block id a B=>intro n x r st;simp[oI,cM,B];cases h:cM S c a st with|none=>rfl|some q=>have⟨o,st'⟩:=q;cases o with|exit k=>simp[Cs];split<;>rfl|_=>rfl
 |loop a B=>intro n x r st;rfl|each g ps a b u w=>intro n x r st;rfl|exit k=>intros;rfl|ret=>intros;rfl|gh g a B=>simp[oI,cM,B];grind|hg a g B=>intro n x r st;simp[oI,cM,B];cases h:cM S c a st with|none=>rfl|some q=>have⟨o,st'⟩:=q;cases o with|norm=>simp[Cs];cases ghost g st'<;>rfl|_=>rfl
section
variable(S c Q)
mutual
def lZ:Z3->St->bt β
 |[]=>λst=>Q (.norm,st)|.seq b::fs=>λst=>oI S c b (lZ fs) (mb fs) (λst=>Q (.ret,st)) st|.blk _::fs=>lZ fs|.gst g::fs=>λst=>(ghost g st).bind (lZ fs)
def mb:Z3->Nat->St->bt β
 |[]=>λk st=>Q (.exit k,st)|.seq _::fs=>mb fs|.blk id::fs=>λk st=>if k=id then lZ fs st else mb fs k st|.gst _::fs=>mb fs
end
def jT(a:RC)(fs:Z3)(st:St):bt β:=oI S c a (lZ S c Q fs) (mb S c Q fs) (λst=>Q (.ret,st)) st
end
section
variable{dr:Zl}{fr:Zv}{d:Nat}{dst:bt Nat}{now:Zl}{az:Z4}{st:St}{α:Type}[bF α]
def Oi{p:tQ}{svs:Zw}{m:bt δ}{v:δ->SV}(B:cn S.N st.g az=some svs)(D:isSlice p=false)(h:jJ S.N st.m p svs=m.bind λx=>some (v x)):
 fq S c dr fr ⟨dst,none,now,.p p,az,[],[]⟩ st=m.bind λx=>some (dy st dst (v x)):=by
 rw[OK _ _ _ _ _ _ _ D,B]
 grind
def Cw{p:tQ}{svs:Zw}{v:SV}(B:cn S.N st.g az=some svs)(D:isSlice p=false)(h:jJ S.N st.m p svs=some v):
 fq S c dr fr ⟨dst,none,now,.p p,az,[],[]⟩ st=some (dy st dst v):=by
 rw[OK _ _ _ _ _ _ _ D,B]
 grind
def Oe{n:Nat}{s:Sl α}{k:Zs}{i:Int}(B:cn S.N st.g az=some [.v (cr s),.v (.int k i)])(D:n=bF.size α):
 fq S c dr fr ⟨dst,none,now,.p (.idxS n),az,[],[]⟩ st=(idx s i).bind λx=>some (dy st dst (.v (.fptr (cells x)))):=
 Oi B rfl (by rw[wM,CS s k i n D];grind)
def Tw{n e:Nat}{s:Sl α}{k:Zs}{i:Int}(B:cn S.N st.g az=some [.own e,.v (.int k i)])(D:bB st.m e=some (cU s))(G:n=bF.size α):
 fq S c dr fr ⟨dst,none,now,.p (.idxS n),az,[],[]⟩ st=(s.l_ i).bind λj=>some (dy st dst (.el e j 0)):=
 Oi B rfl (by rw[Pj,D,PA n e s i G])
def OL{s:Sl α}(B:cn S.N st.g az=some [.v (cr s)]):fq S c dr fr ⟨dst,none,now,.p .lenSl,az,[],[]⟩ st=some (dy st dst (.v (.int .i64 s.l.length))):=Cw B rfl (by rw[Gk,E5];rfl)
def Q5{e:Nat}{s:Sl α}(B:cn S.N st.g az=some [.own e])(D:bB st.m e=some (cU s)):fq S c dr fr ⟨dst,none,now,.p .lenSl,az,[],[]⟩ st=some (dy st dst (.v (.int .i64 s.l.length))):=Cw B rfl (by rw[MA,D,QE])
def PF{u:bt Nat}{s:Sl α}(B:cn S.N st.g az=some [.v (cr s),.v .bL]):fq S c dr fr ⟨dst,none,now,.p (.bin (some .slice) u .eql),az,[],[]⟩ st=s.isNil.bind λt=>some (dy st dst (.v (.bool t))):=Oi B rfl (by rw[wM,Mc];grind)
def N1{s:Zq}{k:Zs}{n:Int}(B:cn S.N st.g az=some [.v (.str s),.v (.int k n)]):fq S c dr fr ⟨dst,none,now,.p .idxStr,az,[],[]⟩ st=(kf s n).bind λx=>some (dy st dst (.v (.int .u8 x))):=Oi B rfl (by rw[wM,Kn];grind)
def Rz{n e i o:Nat}{a:Zl}{s:Sl α}{v:α->V}(B:cn S.N st.g az=some [.el e i o])(D:(!dr||now||eW fr [.el e i o])=true)(G:bB st.m e=some (cU s))(b:∀x:α,(cut (cells x) o n).bind (mk a)=some (v x)):
 fq S c dr fr ⟨dst,none,now,.r (.load n a),az,[],[]⟩ st=(s.get i).bind λx=>some (dy st dst (.v (v x))):=by
 rw[Eg,B];simp only[ζb,D,S5,G,LK]
 cases s.get i with
 |none=>rfl|some x=>
  cases d:cut (cells x) o n with
  |none=>grind|some r=>grind
def PV{n e i:Nat}{s:Sl α}{x:V}{a:α}(B:cn S.N st.g az=some [.el e i 0,.v x])(D:(!dr||now)=true)(G:bB st.m e=some (cU s))(J:x.cells=cells a)(O:n=bF.size α):
 fq S c dr fr ⟨dst,none,now,.l (.store n),az,[],[]⟩ st=(s.put i a).bind λU=>some (dy {st with m:=bR st.m e (cU U)} dst (.v .undef)):=by
 rw[vg,B];simp[D,IM,G];rw[IG st.g st.pin st.want st.more st.yid e i n x a J O s]
 grind
def RM{n:Nat}{z:α}{zero:Zu}{i:Int}(B:cn S.N st.g az=some [.v (.int .i64 i),.v (.int .i64 i)])(D:zero=cells z)(G:n=bF.size α)(J:st.new d=true):
 fq S c dr fr ⟨some d,none,now,.a (.makeSl n zero),az,[],[]⟩ st=(qw i z).bind λs=>some {st with g:=bR st.g d (.own d),m:=bR st.m d (cU s)}:=by
 rw[B0,B];simp[J];rw[Ty z i d n zero D G]
 grind
def Ti{n e u:Nat}{s:Sl α}{x:α}(G:cn S.N st.g az=some [.own e,.own u])(J:(!dr||now)=true)(O:bB st.m e=some (cU s))(a:bB st.m u=some (cU (.row [x])))(B:n=bF.size α)(U:St.new {st with m:=dY e st.m} d=true):
 fq S c dr fr ⟨some d,none,now,.l (.append n),az,[],[]⟩ st=(jt s x).bind λD=>some {st with g:=bR st.g d (.own d),m:=bR (dY e st.m) d (cU D)}:=by
 rw[vg,G];simp[J,ye,CY,O,a];rw[zq n s B,zq n (.row [x]) B];have:=LA (m:=st.m) st.g st.pin st.want st.more st.yid d n e s.l x B;simp[Sl.OB];rw[this];have w:jt (.row s.l) x=jt s x:=by cases s<;>rfl
 rw[w]
 cases jt s x with
 |none=>rfl|some D=>simp;rw[if_pos U];rfl
def Rp{n u:Nat}{x:α}{v:V}(a:v=.bL\/v=.dF)(G:cn S.N st.g az=some [.v v,.own u])(J:(!dr||now)=true)(b:bB st.m u=some (cU (.row [x])))(B:n=bF.size α)(D:st.new d=true):
 fq S c dr fr ⟨some d,none,now,.l (.append n),az,[],[]⟩ st=some {st with g:=bR st.g d (.own d),m:=bR st.m d (cU (.row [x]))}:=by
 rw[vg,G];simp[J,ye,CY,b];rw[zq n (.row [x]) B];simp[Sl.OB];rcases a with rfl|rfl
 .rw[PB,KO (m:=st.m) st.g st.pin st.want st.more st.yid d n x B];rw[if_pos D];rfl
 rw[Qn,LV (m:=st.m) st.g st.pin st.want st.more st.yid d n x B];rw[if_pos D];rfl
def Ry{f:Zk}{svs args:Zw}{cs:Zu}{m:bt δ}{E:δ->Zu}(a:mA c f cs=m.bind λr=>some (E r))(b:S.E.keep f=false)(D:cn S.N st.g az=some svs)(G:n_ svs=some (f,args))
 (B:nG (iQ st.m 8) args=some cs)(J:((!dr||now)||gb st.m fr args)=true)(d:∀r,((result (E r)).scalar||(dA args).isSome)=true):
 fq S c dr fr ⟨dst,none,now,.c,az,[],[]⟩ st=m.bind λr=>some (dy st dst (.v (result (E r)))):=by
 rw[Cj dr fr dst now az st svs f args D G,PZ _ _ _ _ _ _ _ b,(zO st.m 8).2,B];simp[J,a]
 cases m with
 |none=>rfl|some r=>
  simp[Lw]
  grind
end
end
section
variable{S:Sys}{c:cg}{β γ:Type}{Q:Out×St->bt β}{L:bt β}{e:γ->bt β}
def pI(a:RC)(st:St):jT S c Q a [] st=(cM S c a st).bind Q:=by unfold jT;rw[Cc];congr 1;funext q;have⟨o,st⟩:=q;cases o<;>rfl
def zC(a:RC)(st:St):cM S c a st=jT S c some a [] st:=by rw[pI];cases cM S c a st<;>rfl
def qB(rs:a_ RV):Out×St->bt Zu
 |(.exit _,_)=>none|(_,st)=>(kj st rs).bind (nG (iQ st.m 8))
def PL(rs:a_ RV):Gx rs=qB rs:=by funext q;have⟨o,st⟩:=q;cases o;simp only[Gx,qB];congr 1;funext l;exact(zO st.m 8).2 l;rfl;simp only[Gx,qB];congr 1;funext l;exact(zO st.m 8).2 l
def Pw{S:Sys}{T:oN}{f:Zk}{rf:RF}(B:T f=some rf)(az:Zu)(D:az.length<=rf.na):mA (dg S T) f az=jT S (dg S T) (qB rf.rs) rf.body [] (start (az.map .v) []):=by rw[NL B az D,<-Fi,pI,PL]
end
def nJ{α σ ε ρ:Type}(step:α->σ->bt (Fw σ ε ρ)):a_ α->σ->bt (Fw σ ε ρ)
 |[],s=>some (.n s)|x::xs,s=>(step x s).bind λw=>match w with
  |.n B=>nJ step xs B|.x e=>some (.x e)|.r b=>some (.r b)
def Fw.uY{ν ε ρ γ:Type}(fn:ν->γ)(B:ε->γ)(fr:ρ->γ):Fw ν ε ρ->γ
 |.n a=>fn a|.x e=>B e|.r b=>fr b
def Fw.uI{ν ε ρ:Type}(B:ν->Tb bN)(eε:ε->Nat×Tb bN)(eρ:ρ->Tb bN):Fw ν ε ρ->Out×Tb bN
 |.n a=>(.norm,B a)|.x e=>(.exit (eε e).1,(eε e).2)|.r b=>(.ret,eρ b)
def uI(q:Out×St):bt (Out×Tb bN):=some (q.1,q.2.m)
section
variable{S:Sys}{c:cg}{β γ:Type}{Q:Out×St->bt β}{L:bt β}{e:γ->bt β}
def wQ(S:Sys)(c:cg)(b:RC):Out×St->bt (Out×Tb bN)
 |(.norm,st)=>jT S c uI b [] st|_=>none
def JA(ps:Zv)(a b:RC)(st:St)(x:Zu)(m:Tb bN)(B:x.length=ps.length):
 iA ps (cM S c a) (cM S c b) st x m=jT S c (wQ S c b) a [] ⟨vl st.g ps (x.map .v),m,st.pin++oM st.g,[],true,0⟩:=by
 unfold iA;rw[if_pos B,pI]
 cases cM S c a ⟨vl st.g ps (x.map .v),m,st.pin++oM st.g,[],true,0⟩with
 |none=>rfl|some q=>
  have⟨o,u⟩:=q
  cases o with
  |norm=>simp only[ζb,wQ];rw[pI];cases cM S c b u<;>rfl|_=>rfl
end
def Le{α:Type}(a b:bt α):Prop:=∀r,a=some r->b=some r
section
variable{α:Type}
def Le.refl(a:bt α):Le a a:=λ_ h=>h
def Le.of_eq{a b:bt α}(h:b=a):Le a b:=λ_ u=>h.trans u
def Le.trans{a b d:bt α}(c:Le a b)(B:Le b d):Le a d:=λr h=>B r (c r h)
def Le.none(b:bt α):Le (none:bt α) b:=λr h=>by cases h
def Le.bind{β:Type}{a b:bt α}{f g:α->bt β}(h:Le a b)(B:∀x,Le (f x) (g x)):Le (a.bind f) (b.bind g):=λr c=>by have⟨x,d,u⟩:=ζg.1 c;rw[h x d];exact B x r u
end
section
variable{S:Sys}{c:cg}{β γ δ:Type}{Q:Out×St->bt β}{L:bt β}{e:γ->bt β}
def EP{dr:Zl}{fr:Zv}{dst:bt Nat}{now:Zl}{az:Z4}{st:St}{f:Zk}{svs args:Zw}{cs:Zu}{m:bt δ}{E:δ->Zu}(a:Le (m.bind λr=>some (E r)) (mA c f cs))(b:S.E.keep f=false)(D:cn S.N st.g az=some svs)(G:n_ svs=some (f,args))
 (B:nG (iQ st.m 8) args=some cs)(J:((!dr||now)||gb st.m fr args)=true)(d:∀r,((result (E r)).scalar||(dA args).isSome)=true):
 Le (m.bind λr=>some (dy st dst (.v (result (E r))))) (fq S c dr fr ⟨dst,none,now,.c,az,[],[]⟩ st):=by
 intro q w;have⟨r,e,z⟩:=ζg.1 w;have u:mA c f cs=(some r).bind λr=>some (E r):=a _ (by rw[e];rfl)
 rw[Ry (m:=some r) u b D G B J d];exact z
def Ng{σ ε ρ:Type}{f:St->bt (Out×St)}{step:σ->bt (Fw σ ε ρ)}{eσ:σ->St}{eε:ε->Nat×St}{eρ:ρ->St}(h:∀s,Le ((step s).bind λw=>some (Fw.out eσ eε eρ w)) (f (eσ s)))(s:σ):
 Le ((b8 step s).bind λw=>some (Fw.out (λe=>Empty.elim e) eε eρ w)) (nq f (eσ s)):=by
 have key:∀k s r,i_ step k s=some r->iT f k (eσ s)=some (Fw.out (λe=>Empty.elim e) eε eρ r):=by intro k;induction k with|zero=>intro s r h;simp[i_]at h|succ k C=>intro s r u;simp only[i_]at u;cases z:step s with|none=>rw[z]at u;cases u|some w=>rw[z]at u;have B:=h s (Fw.out eσ eε eρ w) (by rw[z];rfl);simp only[iT,B];cases w with|n a=>exact C a r u|x e=>cases u;rfl|r b=>cases u;rfl
 intro r c;have⟨w,d,B⟩:=ζg.1 c;have⟨k,g⟩:=m_.1 d;cases B;exact lR.2 ⟨k,key k s w g⟩
def S4{σ ε ρ:Type}{a:RC}{fs:Z3}{step:σ->bt (Fw σ ε ρ)}{eσ:σ->St}{eε:ε->Nat×St}{eρ:ρ->St}{s:σ}{B:ε->bt γ}{fr:ρ->bt γ}
 (D:L=jT S c Q (.loop a) fs (eσ s))(h:∀s,Le ((step s).bind λw=>some (Fw.out eσ eε eρ w)) (jT S c some a [] (eσ s)))
 (G:∀x,Le ((B x).bind e) (mb S c Q fs (eε x).1 (eε x).2))(d:∀b,Le ((fr b).bind e) (Q (.ret,eρ b))):Le (((b8 step s).bind (Fw.elim B fr)).bind e) L:=by
 subst D;have g:jT S c Q (.loop a) fs (eσ s)=(nq (cM S c a) (eσ s)).bind (Cs (lZ S c Q fs) (mb S c Q fs) (λst=>Q (.ret,st))):=by unfold jT;rw[Cc];rfl
 rw[g];have u:=Ng (step:=step) (f:=cM S c a) (eσ:=eσ) (eε:=eε) (eρ:=eρ) (λs=>by rw[zC];exact h s) s
 cases z:b8 step s with
 |none=>exact Le.none _|some w=>
  have C:=u _ (by rw[z];rfl)
  rw[C]
  cases w with
  |n a=>cases a|x a=>exact G a|r a=>exact d a
def Gt{α σ ε ρ:Type}{f:Zu->Tb bN->bt (Out×Tb bN)}{step:α->σ->bt (Fw σ ε ρ)}{eI:α->Zu}{eσ:σ->Tb bN}{eε:ε->Nat×Tb bN}{eρ:ρ->Tb bN}
 (h:∀x s,Le ((step x s).bind λw=>some (Fw.uI eσ eε eρ w)) (f (eI x) (eσ s))):∀(xs:a_ α)(s:σ),Le ((nJ step xs s).bind λw=>some (Fw.uI eσ eε eρ w)) (pE f (xs.map eI) (eσ s))
 |[],s=>λr a=>a|x::xs,s=>by simp only[map_cons,pE,nJ];cases B:step x s with|none=>exact Le.none _|some w=>have D:=h x s (Fw.uI eσ eε eρ w) (by rw[B];rfl);rw[D];cases w with|n u=>simp only[ζb,Fw.uI];exact Gt h xs u|x e=>exact Le.refl _|r b=>exact Le.refl _
def SO{α σ ε ρ:Type}{g:Arg}{ps:Zv}{a b:RC}{fs:Z3}{f:Zk}{x y:Zu}{d:a_ α}{eI:α->Zu}{step:α->σ->bt (Fw σ ε ρ)}{eσ:σ->Tb bN}{eε:ε->Nat×Tb bN}{eρ:ρ->Tb bN}{i:Tb SV}{s:σ}
 {fn:σ->bt γ}{B:ε->bt γ}{fr:ρ->bt γ}
 (D:L=jT S c Q (.each g ps a b) fs ⟨i,eσ s,[],[],true,0⟩)(j:pT S.N i g=some (.v (.clo f x y)))(G:S.items f x y=some (d.map eI))(J:∀x,(eI x).length=ps.length)
 (h:∀x s,Le ((step x s).bind λw=>some (Fw.uI eσ eε eρ w)) (jT S c (wQ S c b) a [] ⟨vl i ps ((eI x).map .v),eσ s,oM i,[],true,0⟩))
 (O:∀s,Le ((fn s).bind e) (lZ S c Q fs ⟨i,eσ s,[],[],true,0⟩))
 (U:∀x,Le ((B x).bind e) (mb S c Q fs (eε x).1 ⟨i,(eε x).2,[],[],true,0⟩))(k:∀b,Le ((fr b).bind e) (Q (.ret,⟨i,eρ b,[],[],true,0⟩))):
 Le (((nJ step d s).bind (Fw.uY fn B fr)).bind e) L:=by
 subst D;have l:jT S c Q (.each g ps a b) fs ⟨i,eσ s,[],[],true,0⟩=(cM S c (.each g ps a b) ⟨i,eσ s,[],[],true,0⟩).bind (Cs (lZ S c Q fs) (mb S c Q fs) (λst=>Q (.ret,st))):=by unfold jT;rw[Cc]
 rw[l];simp only[cM,j,G];have u:=Gt (step:=step) (f:=iA ps (cM S c a) (cM S c b) ⟨i,eσ s,[],[],true,0⟩) (eI:=eI) (eσ:=eσ) (eε:=eε) (eρ:=eρ) (λx s=>by rw[JA _ _ _ _ _ _ (J x)];exact h x s) d s
 cases z:nJ step d s with
 |none=>exact Le.none _|some w=>
  have C:=u _ (by rw[z];rfl)
  rw[C]
  cases w with
  |n a=>exact O a|x a=>exact U a|r a=>exact k a
end
inductive Fo where
 |rc(c:RC)|ops(dr:Bool)(fr:List Nat)(l:List RO)|nx|ex(k:Nat)|rt
abbrev bS(g:Tb SV)(m:Tb bN):St:=⟨g,m,[],[],true,0⟩
section
variable(S:Sys)(c:cg){β:Type}(Q:Out×St->bt β)
def rn:Fo->Z3->St->bt β
 |.rc a,fs,st=>jT S c Q a fs st|.ops dr fr l,fs,st=>tF S c dr fr l (lZ S c Q fs) st|.nx,fs,st=>lZ S c Q fs st|.ex k,fs,st=>mb S c Q fs k st|.rt,_,st=>Q (.ret,st)
def wG:Fo->Z3->St->bt (Fo×Z3×St)
 |.rc .skip,fs,st=>some (.nx,fs,st)|.rc (.ops l),fs,st=>some (.ops false [] l,fs,st)|.rc (.oG l),fs,st=>some (.ops true [] l,fs,st)|.rc (.seq a b),fs,st=>some (.rc a,.seq b::fs,st)|.rc (.cond y a b),fs,st=>match pT S.N st.g y with
  |some (.v (.bool true))=>some (.rc a,fs,st)|some (.v (.bool false))=>some (.rc b,fs,st)|_=>none
 |.rc (.block id a),fs,st=>some (.rc a,.blk id::fs,st)|.rc (.exit k),fs,st=>some (.ex k,fs,st)|.rc .ret,fs,st=>some (.rt,fs,st)|.rc (.gh g a),fs,st=>match ghost g st with
  |some st'=>some (.rc a,fs,st')|none=>none
 |.rc (.hg a g),fs,st=>some (.rc a,.gst g::fs,st)|.rc (.loop _),_,_=>none|.rc (.each ..),_,_=>none|.ops _ _ [],fs,st=>some (.nx,fs,st)|.ops dr fr (⟨d,gd,now,k,az,dd,[]⟩::r),fs,st=>match fq S c dr fr ⟨d,gd,now,k,az,[],[]⟩ st with
  |some st'=>some (.ops dr (if dr then p_ fr ⟨d,gd,now,k,az,[],[]⟩else fr) r,fs,ou dd st')|none=>none
 |.ops dr fr (⟨d,gd,now,k,az,dd,x::xs⟩::r),fs,st=>if dr&& !(zi x&&xs.all zi)then none else match ghost x st with
  |some st'=>some (.ops dr fr (⟨d,gd,now,k,az,dd,xs⟩::r),fs,st')|none=>none
 |.nx,.seq b::fs,st=>some (.rc b,fs,st)|.nx,.blk _::fs,st=>some (.nx,fs,st)|.nx,.gst g::fs,st=>match ghost g st with
  |some st'=>some (.nx,fs,st')|none=>none
 |.nx,[],_=>none|.ex k,.seq _::fs,st=>some (.ex k,fs,st)|.ex k,.blk id::fs,st=>some (if k=id then .nx else .ex k,fs,st)|.ex k,.gst _::fs,st=>some (.ex k,fs,st)|.ex _,[],_=>none|.rt,_,_=>none
def gR:Nat->Fo->Z3->St->bt (Fo×Z3×St)
 |0,fo,fs,st=>some (fo,fs,st)|n+1,fo,fs,st=>match wG S c fo fs st with
  |some (fo',fs',st')=>gR n fo' fs' st'|none=>none
end
section
variable{S:Sys}{c:cg}{β γ δ:Type}{Q:Out×St->bt β}{e:γ->bt β}
def M3{fo fo':Fo}{fs fs':Z3}{st st':St}(h:wG S c fo fs st=some (fo',fs',st')):rn S c Q fo fs st=rn S c Q fo' fs' st':=by
 cases fo with
 |rc a=>cases a with|cond y a b=>simp only[wG]at h;split at h;(next u=>cases h;simp only[rn,jT,oI,u,bE,if_true]);(next u=>cases h;simp only[rn,jT,oI,u,bE];rfl);cases h|gh g a=>simp only[wG]at h;split at h;(next u=>cases h;simp only[rn,jT,oI,u,ζb]);cases h|loop a=>cases h|each g ps a b=>cases h|seq a b=>cases h;simp only[rn,jT,oI,lZ,mb]|block id a=>cases h;simp only[rn,jT,oI,lZ,mb]|hg a g=>cases h;simp only[rn,jT,oI,lZ,mb]|_=>cases h;simp only[rn,jT,oI]
 |ops dr fr l=>cases l with|nil=>cases h;simp only[rn,tF]|cons o r=>have⟨d,gd,now,k,az,dd,pre⟩:=o;cases pre with|nil=>simp only[wG]at h;split at h;(next u=>cases h;simp only[rn,tF,A4,RO.strip,ζb,u]);cases h|cons x z=>simp only[wG]at h;split at h;cases h;rename_i w;split at h;rename_i u;cases h;(cases dr with|true=>simp only[Bool.true_and,Bool.not_eq_true',Bool.not_eq_false,ζh]at w;simp only[rn,tF,RO.strip,A1,nS,if_true,List.all_cons,w.1,w.2,Bool.and_self,u,ζb]|false=>simp only[rn,tF,RO.strip,A1,nS,Bool.false_eq_true,if_false,u,ζb]);cases h
 |nx=>cases fs with|nil=>cases h|cons f fs=>cases f with|seq b=>cases h;simp only[rn,jT,lZ]|blk id=>cases h;simp only[rn,lZ]|gst g=>simp only[wG]at h;split at h;(next u=>cases h;simp only[rn,lZ,u,ζb]);cases h
 |ex k=>cases fs with|nil=>cases h|cons f fs=>cases f with|seq b=>cases h;simp only[rn,mb]|blk id=>cases h;simp only[rn,mb];by_cases e:k=id;simp only[if_pos e,rn];simp only[if_neg e,rn]|gst g=>cases h;simp only[rn,mb]
 |rt=>cases h
def nP:∀{n:Nat}{fo fo':Fo}{fs fs':Z3}{st st':St},gR S c n fo fs st=some (fo',fs',st')->rn S c Q fo fs st=rn S c Q fo' fs' st'
 |0,fo,fo',fs,fs',st,st',h=>by cases h;rfl|n+1,fo,fo',fs,fs',st,st',h=>by simp only[gR]at h;split at h;(next a b d B=>rw[M3 B];exact nP h);cases h
def CL{n:Nat}{fo fo':Fo}{fs fs':Z3}{st st':St}{m:bt β}(h:gR S c n fo fs st=some (fo',fs',st'))(B:Le m (rn S c Q fo' fs' st')):Le m (rn S c Q fo fs st):=by rw[nP h];exact B
def Ui{n:Nat}{fo fo':Fo}{fs fs':Z3}{st st':St}{r:γ}(h:gR S c n fo fs st=some (fo',fs',st'))(B:rn S c Q fo' fs' st'=e r):Le ((some r).bind e) (rn S c Q fo fs st):=by rw[nP h];exact Le.of_eq B
def OX{m:bt δ}{f:δ->bt γ}{L:bt β}(k:δ->bt β)(B:Le (m.bind k) L)(b:∀r,Le ((f r).bind e) (k r)):Le ((m.bind f).bind e) L:=by intro r a;cases m with|none=>cases a|some x=>exact B r (b x r a)
def Uj{n:Nat}{fo:Fo}{fs fs':Z3}{st0:St}{dr:Zl}{q l:Zx}{fr:Zv}{st:St}{d:bt Nat}{gd:bt (Nat×Zl)}{now:Zl}{k:K}{az:Z4}{dd:Zv}{m:bt δ}{g:δ->St}{f:δ->bt γ}
 (B:gR S c n fo fs st0=some (.ops dr fr q,fs',st))(D:q=⟨d,gd,now,k,az,dd,[]⟩::l)(a:wanted st.g gd=some true)
 (G:Le (m.bind λx=>some (g x)) (fq S c dr fr ⟨d,none,now,k,az,[],[]⟩ st))
 (h:∀x,m=some x->Le ((f x).bind e) (rn S c Q (.ops dr (if dr then p_ fr ⟨d,gd,now,k,az,[],[]⟩else fr) l) fs' (ou dd (g x)))):Le ((m.bind f).bind e) (rn S c Q fo fs st0):=by
 rw[nP B];subst D;simp only[rn,tF,RO.strip,A4,ζb];rw[KK a]
 cases m with
 |none=>exact Le.none _|some x=>rw[G (g x) rfl];exact h x rfl
def OS{n:Nat}{fo:Fo}{fs fs':Z3}{st0:St}{dr:Zl}{q l:Zx}{fr:Zv}{st st':St}{d:bt Nat}{gd:bt (Nat×Zl)}{now:Zl}{k:K}{az:Z4}{dd:Zv}{m:bt β}
 (B:gR S c n fo fs st0=some (.ops dr fr q,fs',st))(D:q=⟨d,gd,now,k,az,dd,[]⟩::l)(a:wanted st.g gd=some true)
 (G:fq S c dr fr ⟨d,none,now,k,az,[],[]⟩ st=some st')
 (h:Le m (rn S c Q (.ops dr (if dr then p_ fr ⟨d,gd,now,k,az,[],[]⟩else fr) l) fs' (ou dd st'))):Le m (rn S c Q fo fs st0):=by
 rw[nP B];subst D;simp only[rn,tF,RO.strip,A4,ζb];rw[KK a,G];exact h
def LM{n:Nat}{fo:Fo}{B:Z3}{st:St}{σ ε ρ:Type}{a:RC}{fs:Z3}{step:σ->bt (Fw σ ε ρ)}{eσ:σ->St}{eε:ε->Nat×St}{eρ:ρ->St}{s:σ}{D:ε->bt γ}{fr:ρ->bt γ}
 (G:gR S c n fo B st=some (.rc (.loop a),fs,eσ s))(h:∀s,Le ((step s).bind λw=>some (Fw.out eσ eε eρ w)) (rn S c some (.rc a) [] (eσ s)))
 (J:∀x,Le ((D x).bind e) (rn S c Q (.ex (eε x).1) fs (eε x).2))(d:∀b,Le ((fr b).bind e) (Q (.ret,eρ b))):Le (((b8 step s).bind (Fw.elim D fr)).bind e) (rn S c Q fo B st):=by
 rw[nP G];exact S4 (L:=rn S c Q (.rc (.loop a)) fs (eσ s)) rfl h J d
def Sc{n:Nat}{fo:Fo}{B:Z3}{st:St}{α σ ε ρ:Type}{g:Arg}{ps:Zv}{a b:RC}{fs:Z3}{f:Zk}{x y:Zu}{d:a_ α}{eI:α->Zu}{step:α->σ->bt (Fw σ ε ρ)}{eσ:σ->Tb bN}{eε:ε->Nat×Tb bN}{eρ:ρ->Tb bN}{i:Tb SV}{s:σ}
 {fn:σ->bt γ}{D:ε->bt γ}{fr:ρ->bt γ}
 (G:gR S c n fo B st=some (.rc (.each g ps a b),fs,bS i (eσ s)))(j:pT S.N i g=some (.v (.clo f x y)))(J:S.items f x y=some (d.map eI))(O:∀x,(eI x).length=ps.length)
 (h:∀x s,Le ((step x s).bind λw=>some (Fw.uI eσ eε eρ w)) (rn S c (wQ S c b) (.rc a) [] ⟨vl i ps ((eI x).map .v),eσ s,oM i,[],true,0⟩))
 (U:∀s,Le ((fn s).bind e) (rn S c Q .nx fs (bS i (eσ s))))
 (W:∀x,Le ((D x).bind e) (rn S c Q (.ex (eε x).1) fs (bS i (eε x).2)))(k:∀b,Le ((fr b).bind e) (Q (.ret,bS i (eρ b)))):
 Le (((nJ step d s).bind (Fw.uY fn D fr)).bind e) (rn S c Q fo B st):=by
 rw[nP G];exact SO (L:=rn S c Q (.rc (.each g ps a b)) fs (bS i (eσ s))) rfl j J O h U W k
def RG{b:RC}{st st':St}{m:bt (Out×Tb bN)}{fs:Z3}{n:Nat}{fo:Fo}(h:gR S c n fo fs st=some (.nx,[],st'))(B:Le m (rn S c uI (.rc b) [] st')):Le m (rn S c (wQ S c b) fo fs st):=by rw[nP h];exact B
def TB{α:Type}{n:Nat}{fo fo':Fo}{fs fs':Z3}{st:St}{A:bt α->St}{o:bt α}{f:α->bt γ}(h:gR S c n fo fs st=some (fo',fs',A o))
 (B:∀x,o=some x->Le ((f x).bind e) (rn S c Q fo' fs' (A (some x)))):Le ((o.bind f).bind e) (rn S c Q fo fs st):=by
 rw[nP h]
 cases o with
 |none=>exact Le.none _|some x=>exact B x rfl
def T8{T:oN}{f:Zk}{rf:RF}{az:Zu}{m:bt Zu}(B:T f=some rf)(D:az.length<=rf.na)(h:Le m (rn S (dg S T) (qB rf.rs) (.rc rf.body) [] (start (az.map .v) []))):Le m (mA (dg S T) f az):=by rw[Pw B az D];exact h
end
section
variable{α:Type}[bF α]
abbrev cv(x:α):SV:=.v (enc x)
abbrev cp(x:α):SV:=.v (.fptr (cells x))
abbrev bx(x:α):bN:=.box ((cells x).map .v)
end
structure kz(S:Sys)(c:cg){α δ:Type}(fn:FuncId)(A:α->List V)(E:δ->List V)(p:α->Option δ)(sc:Bool):Prop where
 k:S.E.keep fn=false
 h:∀z,Le ((p z).bind λr=>some (E r)) (mA c fn (A z))
 s:sc=true->∀r,(result (E r)).scalar=true
section
variable{S:Sys}{c:cg}{β γ δ α:Type}{Q:Out×St->bt β}{e:γ->bt β}{fo:Fo}{fs:Z3}{st0:St}{l:Zx}{d:bt Nat}{gd:bt (Nat×Zl)}{now:Zl}{az:Z4}{dd:Zv}
abbrev rU(S:Sys)(c:cg)(Q:Out×St->bt β)(dr:Bool)(fr:a_ Nat)(d:bt Nat)(k:K)(l:a_ RO)(fs:a_ Fm)(dd:a_ Nat)(st:St):bt β:=rn S c Q (.ops dr (if dr then(match k with|.p _|.r _=>fr|_=>match d with|some d=>d::fr|none=>fr)else fr) l) fs (ou dd st)
def Dt(fr:Zv)(k:K):p_ fr ⟨d,gd,now,k,az,[],[]⟩=(match k with|.p _|.r _=>fr|_=>match d with|some d=>d::fr|none=>fr):=by cases k<;>cases d<;>rfl
def CG{n:Nat}{dr:Zl}{fr:Zv}{q:Zx}{fs':Z3}{st:St}{k:K}{m:bt δ}{g:δ->St}{f:δ->bt γ}
 (B:gR S c n fo fs st0=some (.ops dr fr q,fs',st))(D:q=⟨d,gd,now,k,az,dd,[]⟩::l)(a:wanted st.g gd=some true)
 (G:Le (m.bind λx=>some (g x)) (fq S c dr fr ⟨d,none,now,k,az,[],[]⟩ st))
 (h:∀x,m=some x->Le ((f x).bind e) (rU S c Q dr fr d k l fs' dd (g x))):Le ((m.bind f).bind e) (rn S c Q fo fs st0):=
 Uj B D a G (λx u=>by rw[Dt];grind)
def qh{n:Nat}{dr:Zl}{fr:Zv}{q:Zx}{fs':Z3}{st st':St}{k:K}{m:bt β}
 (B:gR S c n fo fs st0=some (.ops dr fr q,fs',st))(D:q=⟨d,gd,now,k,az,dd,[]⟩::l)(a:wanted st.g gd=some true)
 (G:fq S c dr fr ⟨d,none,now,k,az,[],[]⟩ st=some st')(h:Le m (rU S c Q dr fr d k l fs' dd st')):Le m (rn S c Q fo fs st0):=
 OS B D a G (by rw[Dt];omega)
section
variable[bF α]
def Nk(n:Nat)(dr:Zl)(fr:Zv)(q:Zx)(fs':Z3)(st:St)(k:Zs){a:Nat}{s:Sl α}{i:Int}{f:α->bt γ}(D:q=⟨d,gd,now,.p (.idxS a),az,dd,[]⟩::l)
 (B:(gR S c n fo fs st0,wanted st.g gd,cn S.N st.g az,a)=(some (.ops dr fr q,fs',st),some true,some [.v (cr s),.v (.int k i)],bF.size α))
 (h:∀x,idx s i=some x->Le ((f x).bind e) (rU S c Q dr fr d (.p (.idxS a)) l fs' dd (dy st d (cp x)))):Le (((idx s i).bind f).bind e) (rn S c Q fo fs st0):=by
 simp at B;exact CG B.1 D B.2.1 (Le.of_eq (Oe B.2.2.1 B.2.2.2)) h
def RH(n:Nat)(dr:Zl)(fr:Zv)(q:Zx)(fs':Z3)(st:St)(s:Sl α){m:bt β}(D:q=⟨d,gd,now,.p .lenSl,az,dd,[]⟩::l)
 (B:(gR S c n fo fs st0,wanted st.g gd,cn S.N st.g az)=(some (.ops dr fr q,fs',st),some true,some [.v (cr s)]))
 (h:Le m (rU S c Q dr fr d (.p .lenSl) l fs' dd (dy st d (.v (.int .i64 s.l.length))))):Le m (rn S c Q fo fs st0):=by
 simp at B;exact qh B.1 D B.2.1 (OL B.2.2) h
end
section
variable{q:Zx}{fs':Z3}
end
def Fx(m:Tb bN)(n:Nat)(l:Zu):nG (iQ m n) (l.map .v)=some l:=by rw[<-(zO m n).2,vo]
variable{A:α->Zu}{E:δ->Zu}{p:α->bt δ}{fn:Zk}{sc:Zl}
end
abbrev iv(n:Int):SV:=.v (.int .i64 n)
abbrev bv(b:Bool):SV:=.v (.bool b)
abbrev len{α:Type}(s:Sl α):Int:=((List.length (Sl.l s):Nat):Int)
abbrev o1(d:Nat)(a:Arg)(dd:a_ Nat):RO:=⟨some d,none,false,.p .id,[a],dd,[]⟩
abbrev o2(d:Nat)(k:K)(az:a_ Arg)(dd:a_ Nat):RO:=⟨some d,none,false,k,az,dd,[]⟩
abbrev o3(d s:Nat)(b:Bool)(k:K)(az:a_ Arg)(dd:a_ Nat):RO:=⟨some d,some (s,b),false,k,az,dd,[]⟩
def HE(a b:bu):Zl:=[a.proc,a.index]==[b.proc,b.index]
section
variable{α:Type}[bF α]
def vj(h:bF.agg α=false)(a:α):cells a=[enc a]:=by
 have u:(cells a).length=1:=by rw[show(cells a).length=_ from bF.len a,bF.plain h]
 unfold enc;rw[if_neg (by simp[h])];match b:cells a,u with|[x],_=>rfl
def zx(h:bF.agg α=true)(a:α):enc a=.agg (cells a):=by unfold enc;grind
def jP(a:α):V.good (enc a)=true:=by have h:V.cG (cells a)=true:=bF.good a;cases u:bF.agg α with|true=>rw[zx u];exact h|false=>rw[vj u]at h;simp[V.cG]at h;omega
def oL(s:Sl α):V.one (enc s)=true:=DQ s
def NI(s:α)(h:bF.agg α=false):V.one (enc s)=true:=by have:=bF.one s;rw[show bF.cells s=cells s from rfl,vj h]at this;grind
end
instance{α:Type}[bF α]:bF (bt α)where
 cells o:=[match o with|none=>.gN|some x=>.fptr (cells x)]
 agg:=false
 size:=1
 len _:=rfl
 good o:=by cases o with|none=>rfl|some x=>simp only[V.cG,V.good,Bool.and_true];exact bF.good x
 one o:=by cases o<;>rfl
 plain _:=rfl
structure U8 where
 v:Int
 deriving Inhabited,DecidableEq
instance:bF U8 where
 cells n:=[.int .u8 n.v]
 agg:=false
 size:=1
 len _:=rfl
 good _:=rfl
 one _:=rfl
 plain _:=rfl
structure UD where
 v:Int
 deriving Inhabited,DecidableEq
instance:bF UD where
 cells n:=[.int .u64 n.v]
 agg:=false
 size:=1
 len _:=rfl
 good _:=rfl
 one _:=rfl
 plain _:=rfl
structure Uv where
 v:Int
 deriving Inhabited,DecidableEq
instance:bF Uv where
 cells n:=[.int .u32 n.v]
 agg:=false
 size:=1
 len _:=rfl
 good _:=rfl
 one _:=rfl
 plain _:=rfl
structure UP where
 v:Int
 deriving Inhabited,DecidableEq
instance:bF UP where
 cells n:=[.int .i32 n.v]
 agg:=false
 size:=1
 len _:=rfl
 good _:=rfl
 one _:=rfl
 plain _:=rfl
structure nk(S:Sys)(c:cg){α δ:Type}(g:FuncId)(w e:List V)(A:α->List V)(R:δ->List V)(p:α->Option δ)(b:Bool):Prop where
 f:kz S c g (λz=>w++A z++e) R p b
section
variable{S:Sys}{c:cg}{β γ δ α:Type}{Q:Out×St->bt β}{e:γ->bt β}{fo:Fo}{fs:Z3}{st0:St}{l:Zx}{d:bt Nat}{gd:bt (Nat×Zl)}{now:Zl}{az:Z4}{dd:Zv}
def lS{α:Type}[bF α](a:α):V.cells (enc a)=cells a:=by cases u:bF.agg α with|true=>rw[zx u];rfl|false=>have b:=NI a u;rw[vj u];cases h:enc a<;>first|rfl|(rw[h]at b;cases b)
def pH{α:Type}[bF α](a:α):(cells a).all V.one=true:=bF.one a
def fF{α:Type}[bF α](a:α):(cells a).length=bF.size α:=bF.len a
def Ast[bF α](n:Nat)(dr:Zl)(fr:Zv)(q:Zx)(fs':Z3)(st:St)(u o:Nat)(x:α)(cs B:Zw){a:Nat}{m:bt β}(G:q=⟨d,gd,now,.l (.store a),az,dd,[]⟩::l)
 (D:(gR S c n fo fs st0,wanted st.g gd,cn S.N st.g az,bB st.m u,(!dr||now),a,ble (o+a) cs.length,cs.take o++(cells x).map .v++cs.drop (o+a))=(some (.ops dr fr q,fs',st),some true,some [.ptr u o,cv x],some (.box cs),true,bF.size α,true,B))
 (h:Le m (rU S c Q dr fr d (.l (.store a)) l fs' dd (dy {st with m:=bR st.m u (.box B)} d (.v .undef)))):Le m (rn S c Q fo fs st0):=by
 simp only[ζc]at D;have⟨b,w,z,C,I,J,L,O⟩:=D;refine qh b G w ?_ h;rw[vg,z];subst J;have T:=Nat.le_of_ble_eq_true L;simp only[ζb,I,if_true,lX,C,putCells,lS,fF,pH,T,and_self,O,map_some]
def zc{α:Type}[bF α]:∀(xs:a_ α)(pre:Zt)(B:Zt),B.length=xs.length->eR (bF.size α) (pre++B) ((range' pre.length xs.length).zip (xs.map enc))=some (pre++rows xs)
 |[],pre,B,h=>by have:=List.eq_nil_of_length_eq_zero h;subst this;rfl|x::xs,pre,s::B,h=>by simp only[length_cons,List.range'_succ,map_cons,List.zip_cons_cons,eR,lS,fF,pH];have:=zc xs (pre++[cells x]) B Zd;simp only[ζi,length_cons,length_nil]at this;have e:(pre++s::B).set pre.length (cells x)=pre++[cells x]++B:=Zc;rw[e,this];simp[rows]
def Uz[bF α](n:Nat)(dr:Zl)(fr:Zv)(q:Zx)(fs':Z3)(st:St)(xs:a_ α){u a ln:Nat}{zero:Zu}{ix:Zv}{m:bt β}(D:q=⟨some u,gd,now,.a (.buildSl a ln zero ix),az,dd,[]⟩::l)
 (G:st.new u=true)(B:(gR S c n fo fs st0,wanted st.g gd,cn S.N st.g az,a,ln,ix)=(some (.ops dr fr q,fs',st),some true,some ((xs.map enc).map .v),bF.size α,xs.length,range' 0 xs.length))
 (h:Le m (rU S c Q dr fr (some u) (.a (.buildSl a ln zero ix)) l fs' dd {st with g:=bR st.g u (.own u),m:=bR st.m u (cU (.row xs))})):Le m (rn S c Q fo fs st0):=by
 simp only[ζc]at B;have⟨b,w,z,C,I,J⟩:=B;subst C I J;refine qh b D w ?_ h;rw[B0,z];simp only[ζb,G,o9,qC,List.length_range',length_map];have:=zc xs [] (replicate xs.length zero) Zc
 simp at this;rw[this];rfl
def Um[bF α](n:Nat)(dr:Zl)(fr:Zv)(q:Zx)(fs':Z3)(st:St)(x:α)(vs:Zu){z:Zu}{pl:a_ (Nat×Nat)}{m:bt β}(D:q=⟨d,gd,now,.p (.build z pl),az,dd,[]⟩::l)
 (G:jV z pl vs=some (cells x))(J:bF.agg α=true)
 (B:(gR S c n fo fs st0,wanted st.g gd,cn S.N st.g az)=(some (.ops dr fr q,fs',st),some true,some (vs.map .v)))
 (h:Le m (rU S c Q dr fr d (.p (.build z pl)) l fs' dd (dy st d (cv x)))):Le m (rn S c Q fo fs st0):=by
 simp at B;refine qh B.1 D B.2.1 (Cw B.2.2 rfl ?_) h;unfold jJ;rw[qC];simp only[NQ,G,map_some];show some (SV.v (.agg (cells x)))=some (.v (enc x));rw[zx J]
section
variable[bF α]
def Uk(n:Nat)(dr:Zl)(fr:Zv)(q:Zx)(fs':Z3)(st:St)(D G:Zl)(J:Zu){g:Nat}{s:Sl α}{a b:Z6}{f:Sl α->bt γ}(O:q=⟨d,gd,now,.p (.slice g D G),az,dd,[]⟩::l)
 (B:(gR S c n fo fs st0,wanted st.g gd,cn S.N st.g az,lp D G J,g)=(some (.ops dr fr q,fs',st),some true,some (.v (cr s)::J.map .v),some (a,b),bF.size α))
 (h:∀x,jL s a b=some x->Le ((f x).bind e) (rU S c Q dr fr d (.p (.slice g D G)) l fs' dd (dy st d (.v (cr x))))):Le (((jL s a b).bind f).bind e) (rn S c Q fo fs st0):=by
 simp at B;refine CG B.1 O B.2.1 (Le.of_eq ?_) h;have w:=B.2.2.1;unfold fq kN;simp[wanted,fE,w];have u:jJ S.N st.m (.slice g D G) ((cr s::J).map .v)=(jL s a b).bind λx=>some (.v (cr x)):=by unfold jJ;rw[qC];simp[bO,B.2.2.2.1,IW s a b g B.2.2.2.2];cases jL s a b<;>rfl
 simp at u⊢;rw[u];cases jL s a b<;>rfl
def nR(s:Sl α)(B D:Z6):bt (Sl α):=
 match s with
 |.nil|.emp=>none|.row x|.part x=>(dW x.length B D).map λ(l,h)=>.part ((x.take h).drop l)
def S6(n:Nat)(fr:Zv)(q:Zx)(fs':Z3)(st:St)(D G:Zl)(u:Nat)(J:Zu){t d:Nat}{s:Sl α}{a b:Z6}{f:Sl α->bt γ}(U:q=⟨some t,gd,now,.p (.slice d D G),az,dd,[]⟩::l)
 (O:St.new {st with m:=dY u st.m} t=true)(B:(gR S c n fo fs st0,wanted st.g gd,cn S.N st.g az,lp D G J,bB st.m u,d)=(some (.ops false fr q,fs',st),some true,some (.own u::J.map .v),some (a,b),some (cU s),bF.size α))
 (h:∀x,nR s a b=some x->Le ((f x).bind e) (rU S c Q false fr (some t) (.p (.slice d D G)) l fs' dd {st with g:=bR st.g t (.own t),m:=bR (dY u st.m) t (cU x)})):Le (((nR s a b).bind f).bind e) (rn S c Q fo fs st0):=by
 simp at B;refine CG B.1 U B.2.1 (Le.of_eq ?_) h;have⟨_,_,z,w,C,I⟩:=B;subst I;unfold fq kN;simp[wanted,fE,z,yS,qC,C,w]
 cases s with
 |nil=>simp[nR,cU,Sl.k,cN]|emp=>simp[nR,cU,Sl.k,cN]|row x=>
  simp[cU,Sl.k,Sl.l,cN,nR,gC,w]
  cases dW x.length a b with
  |none=>rfl|some r=>simp[O,dy,rows,map_drop]
 |part x=>
  simp[cU,Sl.k,Sl.l,cN,nR,gC,w]
  cases dW x.length a b with
  |none=>rfl|some r=>simp[O,dy,rows,map_drop]
end
end
structure cB(n:Nat)(α:Type)where
 l:List α
 len:l.length=n
def M6{α:Type}[bF α](l:a_ α):(l.map (cells (α:=α))).flatten.length=l.length*bF.size α:=by induction l with|nil=>simp|cons a l u=>simp[u,fF,add_mul,Nat.add_comm]
def KX{α:Type}[bF α](l:a_ α):V.cG (l.map (cells (α:=α))).flatten=true:=by induction l with|nil=>rfl|cons a l u=>have h:∀(x y:Zu),V.cG x=true->V.cG y=true->V.cG (x++y)=true:=(by intro x;induction x with|nil=>grind|cons b x w=>intro y c z;simp[V.cG]at c⊢;grind);exact h _ _ (bF.good a) u
instance{n:Nat}{α:Type}[bF α]:bF (cB n α)where
 cells a:=(a.l.map cells).flatten
 agg:=true
 size:=n*bF.size α
 len a:=by rw[M6,a.len]
 good a:=KX a.l
 one a:=by have:∀l:a_ α,(l.map (cells (α:=α))).flatten.all V.one=true:=(by intro l;induction l with|nil=>rfl|cons a l u=>simp only[map_cons,flatten_cons,List.all_append,u,pH,Bool.and_self]);exact this a.l
 plain h:=by cases h
def cB.LR(n:Nat){α:Type}(z:α):cB n α:=⟨replicate n z,Zc⟩
def cB.at{n:Nat}{α:Type}(a:cB n α)(i:Int):bt α:=if 0<=i then a.l[i.toNat]?else none
def cB.set{n:Nat}{α:Type}(a:cB n α)(i:Int)(x:α):cB n α:=⟨a.l.set i.toNat x,by simp[a.len]⟩
def pa{n:Nat}{α:Type}[bF α](a:cB n α)(i:Int):Zu:=(cells a).drop (i.toNat*bF.size α)
def cB.uj{n:Nat}{α:Type}{a:cB n α}{i:Int}{x:α}(h:a.at i=some x):0<=i/\i.toNat<n/\a.l[i.toNat]?=some x:=by
 unfold cB.at at h;split at h;next u=>refine⟨u,?_,h⟩;have:=(ζe.1 h).1;rw[<-a.len];simp_all
 simp_all
def Dc{α:Type}[bF α]:∀(l:a_ α)(k:Nat),((l.map (cells (α:=α))).flatten).drop (k*bF.size α)=((l.drop k).map (cells (α:=α))).flatten
 |[],k=>Zc|a::l,0=>Zc|a::l,k+1=>by have h:=fF a;rw[map_cons,flatten_cons,List.drop_succ_cons,<-Dc l k,add_mul,one_mul,Nat.add_comm,<-h,List.drop_length_add_append]
def zJ{n:Nat}{α:Type}[bF α]{a:cB n α}{i:Int}{x:α}(h:a.at i=some x):∃r,pa a i=cells x++r:=by have⟨b,B,w⟩:=cB.uj h;have⟨u,z⟩:=ζe.1 w;refine⟨((a.l.drop (i.toNat+1)).map cells).flatten,?_⟩;show((a.l.map (cells)).flatten).drop (i.toNat*bF.size α)=_;rw[Dc,List.drop_eq_getElem_cons u,map_cons,flatten_cons,z]
section
variable{S:Sys}{c:cg}{β γ δ α:Type}{Q:Out×St->bt β}{e:γ->bt β}{fo:Fo}{fs:Z3}{st0:St}{l:Zx}{d:bt Nat}{gd:bt (Nat×Zl)}{now:Zl}{az:Z4}{dd:Zv}
section
variable{N:Nat}[bF α]
def SL(n:Nat)(dr:Zl)(fr:Zv)(q:Zx)(fs':Z3)(st:St)(k:Zs){ln b:Nat}{a:cB N α}{i:Int}{f:α->bt γ}(D:q=⟨d,gd,now,.p (.idxA ln b),az,dd,[]⟩::l)
 (B:(gR S c n fo fs st0,wanted st.g gd,cn S.N st.g az,b,ln)=(some (.ops dr fr q,fs',st),some true,some [cp a,.v (.int k i)],bF.size α,N))
 (h:∀x,a.at i=some x->Le ((f x).bind e) (rU S c Q dr fr d (.p (.idxA ln b)) l fs' dd (dy st d (.v (.fptr (pa a i)))))):Le (((a.at i).bind f).bind e) (rn S c Q fo fs st0):=by
 simp at B;have⟨j,w,z,C,G⟩:=B;subst C G;refine CG j D w ?_ h;intro r g;have⟨x,I,g⟩:=ζg.1 g;have⟨g1,g2,_⟩:=cB.uj I;rw[Cw z rfl ?_]
 .omega
 rw[wM];simp[bO,uX];have u:i.toNat*bF.size α<=(cells a).length:=by rw[fF];exact Nat.mul_le_mul_right _ (Nat.le_of_lt g2)
 rw[if_pos ⟨g1,Za⟩,if_pos u]
 rfl
def Ul(n:Nat)(dr:Zl)(fr:Zv)(q:Zx)(fs':Z3)(st:St)(a:cB N α)(i:Int)(o:Nat)(x:α)(D:a.at i=some x){k:Nat}{m:bt β}(G:q=⟨d,gd,now,.p (.fieldAddr k),az,dd,[]⟩::l)
 (B:(gR S c n fo fs st0,wanted st.g gd,cn S.N st.g az,ble (o+k) (bF.size α))=(some (.ops dr fr q,fs',st),some true,some [.v (.fptr ((pa a i).drop o))],true))
 (h:Le m (rU S c Q dr fr d (.p (.fieldAddr k)) l fs' dd (dy st d (.v (.fptr ((pa a i).drop (o+k))))))):Le m (rn S c Q fo fs st0):=by
 simp only[ζc]at B;have⟨b,u,w,z⟩:=B;refine qh b G u (Cw w rfl ?_) h;have C:=Nat.le_of_ble_eq_true z;have⟨r,e⟩:=zJ D;have I:(pa a i).length>=bF.size α:=by rw[e,ζi,fF];omega
 rw[Gk,Fk,if_pos Zd,drop_drop]
 rfl
def Tj(n:Nat)(dr:Zl)(fr:Zv)(q:Zx)(fs':Z3)(st:St)(a:cB N α)(i:Int)(o:Nat)(x:α)(G:a.at i=some x){b:Nat}{ag:Zl}{v:V}(j:(cut (cells x) o b).bind (mk ag)=some v)(B:V){m:bt β}(J:q=⟨d,gd,now,.r (.load b ag),az,dd,[]⟩::l)
 (D:(gR S c n fo fs st0,wanted st.g gd,cn S.N st.g az,v)=(some (.ops dr fr q,fs',st),some true,some [.v (.fptr ((pa a i).drop o))],B))
 (h:Le m (rU S c Q dr fr d (.r (.load b ag)) l fs' dd (dy st d (.v B)))):Le m (rn S c Q fo fs st0):=by
 simp at D;obtain⟨f,z,C,rfl⟩:=D;refine qh f J z ?_ h;rw[Eg,C];have e:eW fr [SV.v (.fptr ((pa a i).drop o))]=true:=rfl;simp[e,LY];have⟨r,g⟩:=zJ G;rw[g];have k:cut ((cells x++r).drop o) 0 b=cut (cells x) o b:=by cases u:cut (cells x) o b with|none=>grind|some w=>unfold cut at u⊢;dsimp only at u⊢;split at u;have e1:(List.drop 0 (List.drop o (cells x++r))).take b=((cells x).drop o).take b:=(by have I:b=0\/o<=(cells x).length:=(by grind);grind);grind;grind
 cases u:cut (cells x) o b with
 |none=>grind|some w=>grind
def R8(n:Nat)(dr:Zl)(fr:Zv)(q:Zx)(fs':Z3)(st:St)(cs:Zw){u a:Nat}{zero:Zu}{m:bt β}(D:q=⟨some u,gd,now,.a (.alloc a zero),az,dd,[]⟩::l)
 (G:st.new u=true)(B:(gR S c n fo fs st0,wanted st.g gd,cn S.N st.g az,zero.map SV.v)=(some (.ops dr fr q,fs',st),some true,some [],cs))
 (h:Le m (rU S c Q dr fr (some u) (.a (.alloc a zero)) l fs' dd {st with g:=bR st.g u (.ptr u 0),m:=bR st.m u (.box cs)})):Le m (rn S c Q fo fs st0):=by
 simp at B;have⟨b,w,z,C⟩:=B;subst C;refine qh b D w ?_ h;rw[B0,z];simp[G,o9]
def sG(d:Nat)(l:Zu):SV.dD d (l.map .v)=false:=by induction l with|nil=>rfl|cons a l u=>simp[SV.dD,SV.c6,u]
def sK{α:Type}[bF α](d:Nat)(x:α):bN.c6 d (bx x)=false:=sG d (cells x)
def S7(n:Nat)(dr:Zl)(fr:Zv)(q:Zx)(fs':Z3)(st:St)(k:Zs)(u:Nat){ln b:Nat}{a:cB N α}{i:Int}{f:α->bt γ}(D:q=⟨d,gd,now,.p (.idxA ln b),az,dd,[]⟩::l)
 (B:(gR S c n fo fs st0,wanted st.g gd,cn S.N st.g az,b,ln,bB st.m u)=(some (.ops dr fr q,fs',st),some true,some [.ptr u 0,.v (.int k i)],bF.size α,N,some (bx a)))
 (h:∀x,a.at i=some x->Le ((f x).bind e) (rU S c Q dr fr d (.p (.idxA ln b)) l fs' dd (dy st d (.ptr u (i.toNat*bF.size α+0))))):Le (((a.at i).bind f).bind e) (rn S c Q fo fs st0):=by
 simp at B;have⟨j,w,z,I,J,C⟩:=B;refine CG j D w ?_ h;intro r g;have⟨x,G,g⟩:=ζg.1 g;have⟨g1,g2,_⟩:=cB.uj G;rw[Cw z rfl ?_]
 .omega
 simp[jJ,dA,zu,C]
 grind
def ML{a:cB N α}{i:Int}{o:Nat}{x:α}(B:a.at i=some x){b:Nat}{ag:Zl}{v:V}(d:(cut (cells x) o b).bind (mk ag)=some v):uf b ag ((((cells a).map SV.v).drop (i.toNat*bF.size α+o)).take b)=some (.v v):=by
 have⟨r,e⟩:=zJ B;have e1:(((cells a).map SV.v).drop (i.toNat*bF.size α+o)).take b=(((cells x).drop o).take b).map SV.v:=by have u:((cells x).drop o).take b=((cells x++r).drop o).take b:=(by cases c:cut (cells x) o b with|none=>grind|some w=>unfold cut at c;dsimp only at c;split at c;have C:b=0\/o<=(cells x).length:=(by grind);grind;simp_all);rw[u,<-e,pa,drop_drop,map_take,map_drop]
 rw[e1];unfold uf;cases c:cut (cells x) o b with|none=>grind|some w=>rw[c]at d;unfold cut at c;dsimp only at c;split at c;rename_i z;cases c;simp only[length_map,z];unfold mk at d;(cases ag with|true=>simp only[if_true]at d⊢;cases d;rw[qC]|false=>grind);simp_all
def Tk(n:Nat)(dr:Zl)(fr:Zv)(q:Zx)(fs':Z3)(st:St)(u:Nat)(a:cB N α)(i:Int)(o:Nat)(x:α)(G:a.at i=some x){e:Nat}{ag:Zl}{v:V}(f:(cut (cells x) o e).bind (mk ag)=some v)(B:V){m:bt β}(J:q=⟨d,gd,now,.r (.load e ag),az,dd,[]⟩::l)
 (D:(gR S c n fo fs st0,wanted st.g gd,cn S.N st.g az,v,bB st.m u,(!dr||now||eW fr [.ptr u 0]))=(some (.ops dr fr q,fs',st),some true,some [.ptr u (i.toNat*bF.size α+o)],B,some (bx a),true))
 (h:Le m (rU S c Q dr fr d (.r (.load e ag)) l fs' dd (dy st d (.v B)))):Le m (rn S c Q fo fs st0):=by
 simp only[ζc]at D;obtain⟨g,w,z,rfl,C,I⟩:=D;refine qh g J w ?_ h;rw[Eg,z];have b:(!dr||now||eW fr [SV.ptr u (i.toNat*bF.size α+o)])=true:=I;simp only[ζb,b,Ue,C,Ky];rw[ML G f];rfl
def KG{N:Nat}(a:cB N α)(i:Int)(y:α)(h:i.toNat<N):cells (a.set i y)=(cells a).take (i.toNat*bF.size α)++cells y++(cells a).drop ((i.toNat+1)*bF.size α):=by
 have key:∀(l:a_ α)(k:Nat),k<l.length->((l.set k y).map (cells)).flatten=(l.map (cells)).flatten.take (k*bF.size α)++cells y++(l.map (cells)).flatten.drop ((k+1)*bF.size α):=by intro l;induction l with|nil=>grind|cons b l u=>intro k h;have w:=fF b;cases k with|zero=>grind|succ k=>simp only[map_cons,flatten_cons];have e1:(k+1)*bF.size α=(cells b).length+k*bF.size α:=Zd;have e2:(k+1+1)*bF.size α=(cells b).length+(k+1)*bF.size α:=Zd;rw[e2,List.drop_length_add_append];grind
 exact key a.l i.toNat (by rw[a.len];omega)
def Tu(n:Nat)(dr:Zl)(fr:Zv)(q:Zx)(fs':Z3)(st:St)(u:Nat)(a:cB N α)(i:Int)(o:Nat)(x:α)(B:a.at i=some x)(y:α)(v:V){b:Nat}(G:cells y=(cells x).take o++v.cells++(cells x).drop (o+b)){m:bt β}(J:q=⟨d,gd,now,.l (.store b),az,dd,[]⟩::l)
 (D:(gR S c n fo fs st0,wanted st.g gd,cn S.N st.g az,bB st.m u,(!dr||now),v.cells.length,v.cells.all V.one,ble (o+b) (bF.size α))=(some (.ops dr fr q,fs',st),some true,some [.ptr u (i.toNat*bF.size α+o),.v v],some (bx a),true,b,true,true))
 (h:Le m (rU S c Q dr fr d (.l (.store b)) l fs' dd (dy {st with m:=bR st.m u (bx (a.set i y))} d (.v .undef)))):Le m (rn S c Q fo fs st0):=by
 simp only[ζc]at D;have⟨f,C,I,L,O,T,U,W⟩:=D;refine qh f J C ?_ h;rw[vg,I];have Y:=Nat.le_of_ble_eq_true W;have⟨g1,g2,g3⟩:=cB.uj B;have X:i.toNat*bF.size α+o+b<=((cells a).map SV.v).length:=by rw[length_map,fF];have:(i.toNat+1)*bF.size α<=N*bF.size α:=Nat.mul_le_mul_right _ g2;rw[add_mul,one_mul]at this;show _<=N*bF.size α;omega
 simp only[ζb,O,if_true,lX,L,putCells,T,U,X,and_self,map_some];have⟨r,g⟩:=zJ B;have e:((cells a).map SV.v).take (i.toNat*bF.size α+o)++v.cells.map .v++((cells a).map SV.v).drop (i.toNat*bF.size α+o+b)=(cells (a.set i y)).map SV.v:=by rw[KG a i y g2,G];have w:(cells a).drop (i.toNat*bF.size α)=cells x++r:=g;have z:=fF x;have e1:(cells a).take (i.toNat*bF.size α+o)=(cells a).take (i.toNat*bF.size α)++(cells x).take o:=(by rw[List.take_add,w,List.take_append_of_le_length Za]);have e2:(cells a).drop (i.toNat*bF.size α+o+b)=(cells x).drop (o+b)++(cells a).drop ((i.toNat+1)*bF.size α):=(by have e3:(cells a).drop ((i.toNat+1)*bF.size α)=r:=(by rw[add_mul,one_mul,<-drop_drop,w,<-z,List.drop_left]);rw[e3,Nat.add_assoc,<-drop_drop,w,List.drop_append_of_le_length Za]);rw[<-map_take,<-map_drop,e1,e2];grind
 rw[e]
end
def Qm{α:Type}[bF α]{m:Tb bN}{d:Nat}{x:α}{vs:Zu}(h:bB m d=some (bx x)):nG (iQ m 8) (.ptr d 0::vs.map .v)=some (.fptr (cells x)::vs):=by
 have a:iQ m 8 (.ptr d 0)=some (.fptr (cells x)):=by
  show(match bB m d with
   |some (.box w)=>match nG (iQ m 7) w with
    |some u=>if 0<=u.length then some (V.fptr (u.drop 0))else none|none=>none
   |_=>none)=_
  rw[h];simp[Fx]
 simp[nG,a,Fx]
def S9(n:Nat){fo:Fo}{fs fs':Z3}{st0 st:St}{rs:a_ RV}{e:γ->bt Zu}{r:γ}(svs:Zw){ys:Zu}(B:nG (iQ st.m 8) svs=some ys)(h:(gR S c n fo fs st0,kj st rs)=(some (.rt,fs',st),some svs))(D:e r=some ys):
 Le ((some r).bind e) (rn S c (qB rs) fo fs st0):=by
 simp at h;rw[nP h.1];refine Le.of_eq ?_;simp[rn,qB,h.2,B]
 grind
abbrev Mo(κ ν:Type):=a_ (κ×ν)
class Key(κ:Type)[bF κ][DecidableEq κ]where
 kk:vN
 ok:∀a:κ,o4 kk (enc a)=true
 eq:∀a b:κ,uW (enc a) (enc b)=some (decide (a=b))
instance:Key Int where
 kk:=.int .i64
 ok _:=rfl
 eq a b:=by show some (a==b)=some (decide (a=b));rw[show(a==b)=decide (a=b)from Bool.eq_iff_iff.2 Zc]
instance:Key bu where
 kk:=.ints 2
 ok _:=rfl
 eq a b:=by have⟨p,i⟩:=a;have⟨q,j⟩:=b;simp only[uW,j8,gY,R7,map_some,length_cons,if_true,ζa];rw[Bool.eq_iff_iff];simp
section
variable{κ ν:Type}[bF κ][DecidableEq κ][Key κ][bF ν]
def mC(k:κ):Mo κ ν->bt ν
 |[]=>none|(a,v)::r=>if k=a then some v else mC k r
def rm(m:Mo κ ν)(k:κ)(z:ν):ν:=(mC k m).getD z
def mG(m:Mo κ ν)(k:κ)(v:ν):Mo κ ν:=
 match m with
 |[]=>[(k,v)]|(a,w)::r=>if k=a then(k,v)::r else(a,w)::mG r k v
def nE(m:Mo κ ν):a_ (V×V):=m.map λx=>(enc x.1,enc x.2)
def pW(m:Mo κ ν):bN:=.mp (nE m)
def HC(k:κ):∀(m:Mo κ ν)(i:Nat),(hG (enc k) (nE m) i).map (Option.map (·.2))=some ((mC k m).map enc)
 |[],i=>rfl|(a,v)::r,i=>by simp only[nE,map_cons,hG,Key.eq,mC];by_cases h:k=a;grind;simp only[h];exact HC k r (i+1)
def N0(k:κ)(v:ν)(m:Mo κ ν):oT (enc k) (enc v) (nE m)=some (nE (mG m k v)):=by
 unfold oT;have key:∀(m:Mo κ ν)(pre:a_ (V×V))(i:Nat),pre.length=i->(match hG (enc k) (nE m) i with
  |some (some (j,_))=>some ((pre++nE m).set j (enc k,enc v))|some none=>some (pre++nE m++[(enc k,enc v)])|none=>none)=some (pre++nE (mG m k v)):=by
  intro m
  induction m with
  |nil=>simp[nE,hG,mG]|cons x r u=>
   have⟨a,w⟩:=x;intro pre i h;rw[show nE ((a,w)::r)=(enc a,enc w)::nE r from rfl];simp[hG,Key.eq,mG]
   by_cases b:k=a
   .subst b h;simp[nE]
   simp[b];rw[show nE ((a,w)::mG r k v)=(enc a,enc w)::nE (mG r k v)from rfl];have:=u (pre++[(enc a,enc w)]) (i+1) (by simp[h])
   grind
 have:=key m [] 0 rfl;grind
def SM(n:Nat)(dr:Zl)(fr:Zv)(q:Zx)(fs':Z3)(st:St)(u:Nat)(mp:Mo κ ν)(k:κ)(z:ν){kk:vN}{B:V}{m:bt β}(G:q=⟨d,gd,now,.r (.lookup kk B false),az,dd,[]⟩::l)
 (D:(gR S c n fo fs st0,wanted st.g gd,cn S.N st.g az,bB st.m u,(!dr||now||eW fr [.mp u,cv k]),B,kk)=(some (.ops dr fr q,fs',st),some true,some [.mp u,cv k],some (pW mp),true,enc z,Key.kk κ))
 (h:Le m (rU S c Q dr fr d (.r (.lookup kk B false)) l fs' dd (dy st d (cv (rm mp k z))))):Le m (rn S c Q fo fs st0):=by
 simp only[ζc]at D;have⟨a,C,I,J,L,O,T⟩:=D;subst O T;refine qh a G C ?_ h;rw[Eg,I];simp only[ζb,L,oJ,J,pW,Key.ok];have:=HC k mp 0;simp[rm]
 cases U:hG (enc k) (nE mp) 0 with
 |none=>grind|some r=>
  rw[U]at this
  cases r with
  |none=>
   cases W:mC k mp with
   |none=>rfl|some w=>grind
  |some w=>
   cases W:mC k mp with
   |none=>grind|some X=>grind
def Ub(n:Nat)(dr:Zl)(fr:Zv)(q:Zx)(fs':Z3)(st:St)(u:Nat)(mp:Mo κ ν)(k:κ)(v:ν){kk:vN}{m:bt β}(D:q=⟨d,gd,now,.l (.mapUp kk),az,dd,[]⟩::l)
 (B:(gR S c n fo fs st0,wanted st.g gd,cn S.N st.g az,bB st.m u,(!dr||now),kk)=(some (.ops dr fr q,fs',st),some true,some [.mp u,cv k,cv v],some (pW mp),true,Key.kk κ))
 (h:Le m (rU S c Q dr fr d (.l (.mapUp kk)) l fs' dd (dy {st with m:=bR st.m u (pW (mG mp k v))} d (.v .undef)))):Le m (rn S c Q fo fs st0):=by
 simp only[ζc]at B;have⟨a,w,z,C,G,I⟩:=B;subst I;refine qh a D w ?_ h;rw[vg,z];simp[G,lX,C,pW,Key.ok,N0]
end
end
instance{n:Nat}:OfNat Arg n:=⟨.s n⟩
abbrev bI(o:BinOp):K:=.p (.bin (some .int) none o)
abbrev ix(n:Nat):K:=.p (.idxS n)
abbrev ld(n:Nat):K:=.r (.load n false)
abbrev lD(n:Nat):K:=.r (.load n true)
abbrev fa(n:Nat):K:=.p (.fieldAddr n)
abbrev ln:K:=.p .lenSl
abbrev su(n:Nat):K:=.l (.store n)
abbrev Iv(n:Nat)(x:Int):Nat×SV:=(n,iv x)
abbrev Bv(n:Nat)(x:Bool):Nat×SV:=(n,bv x)
abbrev Cv{α:Type}[bF α](n:Nat)(x:α):Nat×SV:=(n,cv x)
abbrev Kv{α:Type}[bF α](n:Nat)(x:α):Nat×SV:=(n,cp x)
abbrev Pv(n:Nat):Nat×SV:=(n,.ptr n 0)
abbrev Ov(n:Nat):Nat×SV:=(n,.own (2000+n))
abbrev Xb{α:Type}[bF α](n:Nat)(x:α):Nat×bN:=(n,bx x)
abbrev Lb{α:Type}[bF α](n:Nat)(x:Sl α):Nat×bN:=(n,cU x)
abbrev on(d:Nat)(k:K)(az:a_ Arg)(dd:a_ Nat):RO:=⟨some d,none,true,k,az,dd,[]⟩
abbrev oz(k:K)(az:a_ Arg)(dd:a_ Nat):RO:=⟨none,none,false,k,az,dd,[]⟩
abbrev oy(k:K)(az:a_ Arg)(dd:a_ Nat):RO:=⟨none,none,true,k,az,dd,[]⟩
attribute [simp] Qq Pa Qb
def kz.xC{S:Sys}{T:oN}{f:Zk}{b:Zl}(B:T f=none)(a:S.E.keep f=false)(D:S.xC f []=some (.bool b)):
 kz S (dg S T) f (λ_:Unit=>[]) (λr:Zl=>[.bool r]) (λ_=>some b) true where
 k:=a
 h _:=by have h:=Dd (az:=[]) B a D;intro r c;cases c;unfold mA;rw[h];exact vo 8 [.bool b]
 s _ _:=rfl
def Wp{α:Type}(m:bt α)(P:α->Prop):Prop:=∃a,m=some a/\P a
section
variable{α β:Type}{P Q:α->Prop}
def bz(a:α):Wp (some a) P↔P a:=⟨λh=>by have⟨b,e,p⟩:=h;cases e;exact p,λp=>⟨a,rfl,p⟩⟩
def Pf:Wp (none:bt α) P↔False:=⟨λh=>(by have⟨b,e,p⟩:=h;cases e),λh=>False.elim h⟩
def fC{m:bt β}{k:β->bt α}:Wp (m.bind k) P↔Wp m λb=>Wp (k b) P:=by cases m with|none=>simp only[Option.bind_none,Pf]|some b=>simp only[ζb,bz]
def cA{t:Zl}{a b:bt α}:Wp (bE t a b) P↔(t=true->Wp a P)/\(t=false->Wp b P):=by cases t<;>simp[bE]
def Wp.mono{m:bt α}(h:Wp m P)(B:∀a,P a->Q a):Wp m Q:=let⟨a,e,p⟩:=h;⟨a,e,B a p⟩
def Wp.and{m:bt α}(h:Wp m P)(B:Wp m Q):Wp m λa=>P a/\Q a:=by have⟨a,e,p⟩:=h;have⟨b,e2,q⟩:=B;rw[e]at e2;cases e2;exact⟨a,e,p,q⟩
def Wp.eq{m:bt α}{a:α}(h:Wp m λx=>x=a):m=some a:=by obtain⟨b,e,rfl⟩:=h;exact e
end
section
variable{σ ε ρ:Type}
def iU(step:σ->bt (Fw σ ε ρ))(s:σ):b8 step s=(step s).bind λw=>match w with
 |.n B=>b8 step B|.x e=>some (.x e)|.r b=>some (.r b):=by
 have d:∀r,b8 step s=some r->((step s).bind λw=>match w with
  |.n B=>b8 step B|.x e=>some (.x e)|.r b=>some (.r b))=some r:=by
  intro r h;have⟨k,a⟩:=m_.1 h
  cases k with
  |zero=>simp[i_]at a|succ k=>
   simp only[i_]at a
   cases u:step s with
   |none=>rw[u]at a;cases a|some w=>
    rw[u]at a
    cases w with
    |n B=>exact m_.2 ⟨k,a⟩|x e=>exact a|r b=>exact a
 cases z:b8 step s with
 |some r=>exact(d r z).symm|none=>
  cases c:((step s).bind λw=>match w with
  |.n B=>b8 step B|.x e=>some (.x e)|.r b=>some (.r b))with
  |none=>rfl|some r=>
   exfalso
   cases u:step s with
   |none=>rw[u]at c;cases c|some w=>
    rw[u]at c;simp only[ζb]at c;have:b8 step s=some r:=by cases w with|n B=>have⟨k,a⟩:=m_.1 c;exact m_.2 ⟨k+1,by simp only[i_,u];exact a⟩|x e=>exact m_.2 ⟨1,by simp only[i_,u];exact c⟩|r b=>exact m_.2 ⟨1,by simp only[i_,u];exact c⟩
    rw[z]at this;cases this
def Oq(I:σ->Prop)(μ:σ->Nat)(D:ε->Prop)(G:ρ->Prop)(s:σ):Fw σ ε ρ->Prop
 |.n B=>I B/\μ B<μ s|.x e=>D e|.r b=>G b
def TP(B:ε->Prop)(D:ρ->Prop):Fw Empty ε ρ->Prop
 |.x e=>B e|.r b=>D b
def MC{step:σ->bt (Fw σ ε ρ)}(I:σ->Prop)(μ:σ->Nat)(B:ε->Prop)(D:ρ->Prop)(h:∀s,I s->Wp (step s) (Oq I μ B D s)){s:σ}(G:I s):Wp (b8 step s) (TP B D):=by
 have key:∀n s,μ s<=n->I s->Wp (b8 step s) (TP B D):=by
  intro n
  induction n with
  |zero=>intro s J u;have⟨w,z,a⟩:=h s u;rw[iU,z];cases w with|n C=>exact absurd a.2 Za|x e=>exact⟨_,rfl,a⟩|r b=>exact⟨_,rfl,a⟩
  |succ n L=>intro s J u;have⟨w,z,a⟩:=h s u;rw[iU,z];cases w with|n C=>exact L C (by have:=a.2;omega) a.1|x e=>exact⟨_,rfl,a⟩|r b=>exact⟨_,rfl,a⟩
 exact key (μ s) s (Nat.le_refl _) G
def ga{γ:Type}{step:σ->bt (Fw σ ε ρ)}{B:ε->bt γ}{fr:ρ->bt γ}{P:γ->Prop}(I:σ->Prop)(μ:σ->Nat){s:σ}(D:I s)
 (h:∀s,I s->Wp (step s) (Oq I μ (λe=>Wp (B e) P) (λb=>Wp (fr b) P) s)):Wp ((b8 step s).bind (Fw.elim B fr)) P:=by
 rw[fC];refine(MC I μ _ _ h D).mono ?_;intro w u
 cases w with
 |n a=>cases a|x e=>exact u|r b=>exact u
end
def I4{β γ δ:Type}{e:γ->bt β}{m:bt δ}{f:δ->bt γ}{L:bt β}(h:∀x,m=some x->Le ((f x).bind e) L):Le ((m.bind f).bind e) L:=by cases m with|none=>exact Le.none _|some x=>exact h x rfl
section
variable{S:Sys}{c:cg}{β:Type}{Q:Out×St->bt β}{fo:Fo}{fs:Z3}{st0:St}{l:Zx}{d:bt Nat}{now:Zl}{az:Z4}{dd:Zv}
theorem Le.get{β:Type}{r:β}{L:bt β}(h:Le (some r) L):L=some r:=h r rfl
def Kt{n:Nat}{fo fo':Fo}{fs fs':Z3}{st:St}(A:Zl->St){t:Zl}{m:bt β}(B:t=true)(h:gR S c n fo fs st=some (fo',fs',A t))(D:Le m (rn S c Q fo' fs' (A true))):Le m (rn S c Q fo fs st):=by rw[nP h,B];exact D
def Kf{n:Nat}{fo fo':Fo}{fs fs':Z3}{st:St}(A:Zl->St){t:Zl}{m:bt β}(B:t=false)(h:gR S c n fo fs st=some (fo',fs',A t))(D:Le m (rn S c Q fo' fs' (A false))):Le m (rn S c Q fo fs st):=by rw[nP h,B];exact D
def MB{α:Type}[bF α]{s:Sl α}{i:Int}{x:α}{r:β}{L:bt β}(B:idx s i=some x)(h:Le (((idx s i).bind λ_=>some r).bind some) L):Le (some r) L:=by rw[B]at h;exact h
def TH{n:Nat}{q:Zx}{fs':Z3}{st:St}{id:Nat}{vs:Zw}{xs:Zu}{B:Zt}{m:bt β}
 (D:gR S c n fo fs st0=some (.ops false [] q,fs',st))(G:q=⟨d,none,now,.c,az,dd,[]⟩::l)(J:cn S.N st.g az=some (.yl id::vs))(O:dA vs=some xs)(U:st.want=xs::B)(W:id=st.yid)
 (h:Le m (rn S c Q (.ops false [] l) fs' (ou dd (dy {st with want:=B} d (.v (.bool (st.more|| !B.isEmpty))))))):Le m (rn S c Q fo fs st0):=by
 refine OS D G rfl ?_ h;unfold fq;simp only[wanted,fE,J,O,U,W,if_true,and_self,Bool.false_eq_true,if_false]
def zR(a:RC)(fs:Z3)(st:St):rn S c Q (.rc (.loop a)) fs st=(nq (cM S c a) st).bind (Cs (lZ S c Q fs) (mb S c Q fs) (λst=>Q (.ret,st))):=by show jT S c Q (.loop a) fs st=_;unfold jT;rw[Cc];rfl
def O3{f:St->bt (Out×St)}{st st':St}(h:f st=some (.norm,st')):nq f st=nq f st':=by
 have key:∀r,nq f st=some r↔nq f st'=some r:=λr=>by constructor;intro b;have⟨k,a⟩:=lR.1 b;(cases k with|zero=>simp[iT]at a|succ k=>simp only[iT,h]at a;exact lR.2 ⟨k,a⟩);intro b;have⟨k,a⟩:=lR.1 b;exact lR.2 ⟨k+1,by simp only[iT,h];exact a⟩
 cases u:nq f st with
 |none=>cases w:nq f st' with|none=>rfl|some r=>rw[(key r).2 w]at u;cases u
 |some r=>rw[(key r).1 u]
def Ht{f:St->bt (Out×St)}{st st':St}{o:Out}(h:f st=some (o,st'))(B:o≠.norm):nq f st=some (o,st'):=by refine lR.2 ⟨1,?_⟩;cases o with|norm=>exact absurd rfl B|exit k=>simp only[iT,h]|ret=>simp only[iT,h]
def Da{a:RC}{fs:Z3}{st st':St}(h:rn S c some (.rc a) [] st=some (.norm,st')):rn S c Q (.rc (.loop a)) fs st=rn S c Q (.rc (.loop a)) fs st':=by rw[zR,zR,O3 (by rw[zC];exact h)]
def DN{a:RC}{fs:Z3}{st st':St}{k:Nat}(h:rn S c some (.rc a) [] st=some (.exit k,st')):rn S c Q (.rc (.loop a)) fs st=rn S c Q (.ex k) fs st':=by rw[zR,Ht (by rw[zC];exact h) Zc];rfl
def Di{a:RC}{fs:Z3}{st st':St}(h:rn S c some (.rc a) [] st=some (.ret,st')):rn S c Q (.rc (.loop a)) fs st=Q (.ret,st'):=by rw[zR,Ht (by rw[zC];exact h) Zc];rfl
end
def Qi:Out×St->bt Unit
 |(.exit _,_)=>none|(_,st)=>if st.want.isEmpty then some ()else none
def Sys.bare(S:Sys):Sys:=⟨S.E,S.N,λ_ _ _=>none,λ_ _=>none,λ_=>none⟩
def mD:cg:=λ_ _ _=>none
def BJ(B rest:Zt)(more:Zl):Prop:=more=true/\B=rest\/more=false/\B≠[]/\∃r,rest=B++r
def NF(S:Sys){f:Zk}{fi:FI}{nm:Zk->bt Nat}{rf:RF}(G:S.E.ft f=some fi)(U:∀g s,nm g=some s->S.N s=g)(e:xx S.E nm fi rf){a b:Zu}{xs:Zt}(D:a.length+1+b.length<=rf.na)(O:rf.rs=[])
 (h:∀B more,BJ B xs more->∀yid,rn S.bare mD Qi (.rc rf.body) [] ⟨vC 0 (a.map .v++.yl yid::b.map .v),[],[],B,more,yid⟩=some ()):fm S f a b xs:=by
 have k:fm S.bare f a b xs:=Qy (S:=S.bare) (c:=mD) (fi:=fi) (nm:=nm) (rf:=rf) (λ_ _ h=>by cases h) (λ_ _ _ _ _ h=>by simp[mD]at h) (λ_ _ _ _ h=>by simp[Sys.bare]at h) G U e D O (λB more w yid=>by
  have d:=h B more w yid;change jT S.bare mD Qi rf.body [] _=some ()at d;rw[pI]at d;have⟨⟨o,st'⟩,z,u⟩:=ζg.1 d;refine⟨o,st',z,?_,?_,rfl⟩
  .rintro id rfl;simp[Qi]at u
  cases o<;>simp[Qi]at u<;>exact u)
 intro B more w yid J y Z C I H d z u L Q;exact k B more w yid J ⟨y.vO,y.yield⟩ Z C I H d z u L Q
open Classical in
def vR(P:Zk->Zu->Zu->Zt->Prop)(f:Zk)(a b:Zu):bt Zt:=if h:∃u,P f a b u then some (Classical.choose h)else none
def JD{P:Zk->Zu->Zu->Zt->Prop}{f:Zk}{a b:Zu}{xs:Zt}(h:P f a b xs)(d:∀ys,P f a b ys->ys=xs):vR P f a b=some xs:=by have c:∃xs,P f a b xs:=⟨xs,h⟩;unfold vR;rw[dif_pos c,d _ (choose_spec c)]
def IT{P:Zk->Zu->Zu->Zt->Prop}{f:Zk}{a b:Zu}{xs:Zt}(h:vR P f a b=some xs):P f a b xs:=by
 unfold vR at h;split at h;next c=>cases h;exact choose_spec c
 cases h
def Sh{E:Env}{nm:Zk->bt Nat}{f:Zk}{rf:RF}
 (h:((E.ft f).bind λfi=>(bQ ⟨E,nm,fi.ntmps⟩ false fi.body).bind λc=>(fi.results.mapM (zk E)).bind λrs=>some (c,rs,fi.ntmps))=some (erase rf.body,rf.rs,rf.na)):∃fi,E.ft f=some fi/\xx E nm fi rf:=by
 have⟨fi,a,w⟩:=ζg.1 h;have⟨c,z,B⟩:=ζg.1 w;have⟨rs,C,u⟩:=ζg.1 B;simp only[ζa,ζc]at u;obtain⟨rfl,rfl,D⟩:=u;exact⟨fi,a,z,C,D.symm⟩
def FR.oD{H:bC}{Z Z':Nat->Prop}{x y z:V}(h:FR H Z x z)(k:FR H Z' y z):x=y:=by have⟨n,u⟩:=yV x;have⟨m,w⟩:=yV y;have e1:=h.borrow (max n m) (vS (Nat.le_max_left _ _) u);have e2:=k.borrow (max n m) (vS (Nat.le_max_right _ _) w);rw[e1]at e2;exact Option.some.inj e2
open Classical in
def yw(E:Env)(f:Zk)(az:Zu):bt V:=if h:∃y,yh E f az y then some (Classical.choose h)else none
def K0{E:Env}{f:Zk}{az:Zu}{y:V}(h:yw E f az=some y):yh E f az y:=by
 unfold yw at h;split at h;next a=>cases h;exact choose_spec a
 cases h
def xL{E:Env}{f:Zk}{az:Zu}{y:V}(h:yh E f az y):yw E f az=some y:=by have a:∃y,yh E f az y:=⟨y,h⟩;unfold yw;rw[dif_pos a];have⟨n,z,H,Z,k1,k2,_⟩:=h;have⟨u,w,H',Z',k3,k4,_⟩:=choose_spec a;have e1:=(mN E (Nat.le_max_left n u)).go _ _ _ _ k1;have e2:=(mN E (Nat.le_max_right n u)).go _ _ _ _ k3;rw[e1]at e2;cases e2;rw[FR.oD k4 k2]
def GL{E:Env}{f:Zk}{az:Zu}{y:V}(B:V.scalar y=true)(h:∃n H',run E n (.fn f) az []=some (y,H')):yh E f az y:=by have⟨n,H',h⟩:=h;exact⟨n,y,H',λ_=>False,h,.same _ (jl B),λ_ h=>h.elim,⟨λ_ _ _ h=>h.elim⟩⟩
end Go.VE
