/-
 Plain values and the steps of a certificate.
-/
import Derived.KernelRfl
import Derived.Test.YtgnmmpchdcccbaaGreatDoorN2
set_option linter.all false
noncomputable section
open Classical(choose_spec)
open List(drop_drop flatten_cons length_cons length_map length_nil map_cons map_drop map_take range' replicate)
open Option(map_some)
open Nat(add_mul ble one_mul)
namespace Go.VE
variable[bX]
inductive Sl(α:Type)where
 |nil|emp|row(l:List α)|part(l:List α)
 deriving Inhabited
abbrev Zg:=Sl Int
abbrev Zb:=Sl (Sl Int)
def Sl.l{α:Type}:Sl α->aX α
 |.nil|.emp=>[]|.row l|.part l=>l
def Sl.k{α:Type}:Sl α->Fl
 |.nil=>.nil|.emp=>.emp|.row _=>.row|.part _=>.part
class bD(α:Type)where
 cells:α->List V
 agg:Bool
 size:Nat
 len:∀a,(cells a).length=size
 good:∀a,V.cH (cells a)=true
 one:∀a,(cells a).all V.one=true
 plain:agg=false->size=1
def cells{α:Type}[bD α](a:α):So:=bD.cells a
def enc{α:Type}[bD α](a:α):V:=if bD.agg α then .agg (cells a)else(cells a).headD .undef
def rows{α:Type}[bD α](l:aX α):S':=l.map cells
def cg{α:Type}[bD α](s:Sl α):V:=qw s.k (bD.size α) (rows s.l)
instance:bD Int where
 cells n:=[.int .i64 n]
 agg:=false
 size:=1
 len _:=rfl
 good _:=rfl
 one _:=rfl
 plain _:=rfl
instance:bD X' where
 cells b:=[.bool b]
 agg:=false
 size:=1
 len _:=rfl
 good _:=rfl
 one _:=rfl
 plain _:=rfl
instance:bD U' where
 cells s:=[.str s]
 agg:=false
 size:=1
 len _:=rfl
 good _:=rfl
 one _:=rfl
 plain _:=rfl
structure a_ where
 proc:Int
 index:Int
 deriving DecidableEq,Inhabited
instance:bD a_ where
 cells x:=[.int .i64 x.proc,.int .i64 x.index]
 agg:=true
 size:=2
 len _:=rfl
 good _:=rfl
 one _:=rfl
 plain h:=by cases h
@[simp] def adf(n:Int):enc n=.int .i64 n:=rfl
@[simp] def ac4(n:X'):enc n=.bool n:=rfl
@[simp] def adi(n:U'):enc n=.str n:=rfl
@[simp] def acr(n:Int):cells n=[.int .i64 n]:=rfl
@[simp] def abS(n:X'):cells n=[.bool n]:=rfl
@[simp] def acR(n:U'):cells n=[.str n]:=rfl
@[simp] def ac9(n:a_):cells n=[.int .i64 n.proc,.int .i64 n.index]:=rfl
@[simp] def aaD(n:a_):enc n=.agg [.int .i64 n.proc,.int .i64 n.index]:=rfl
section
variable{α:Type}[bD α]
def iZ(l:aX α):(rows l).length=l.length:=by simp[rows]
def idx(s:Sl α)(i:Int):aY α:=if 0<=i then s.l[i.toNat]?else none
def Tf{N:Nat->Y'}(s:Sl α)(k:T2)(i:Int){n:Nat}(B:n=bD.size α):bN N (.idxS n) [cg s,.int k i]=(idx s i).map λx=>.fptr (cells x):=by subst B;unfold idx cg;simp only[bN,nJ];by_cases h:i<0;rw[if_pos h,if_neg Zaa];rfl;rw[if_neg h,if_pos Zaa];cases s<;>simp[Sl.k,Sl.l,qw,rows,Function.comp_def]
def H9{N:Nat->Y'}(s:Sl α):bN N .lenSl [cg s]=some (.int .i64 s.l.length):=by cases s<;>simp[bN,oZ,cg,Sl.k,Sl.l,qw,iZ]
end
section
variable{S:Sys}{c:cm}
end
end Go.VE
namespace Go.VE
variable[bX]
section
variable{S:Sys}{c:cm}
def isSlice:xe->X'
 |.slice ..=>true|_=>false
def WB(dr:X')(fr:ST)(dst:aY Nat)(now:X')(p:xe)(az:QR)(st:St)(h:isSlice p=false):
 gp S c dr fr ⟨dst,none,now,.p p,az,[],[]⟩ st=(bW S.N st.g az).bind λsvs=>(kK S.N st.m p svs).bind λx=>some (cW st dst x):=by
 unfold gp nX;have u:gH S.N st.g ⟨dst,none,now,.p p,az,[],[]⟩=none:=by unfold gH;grind
 simp[wanted,u]
 cases z:bW S.N st.g az with
 |none=>rfl|some svs=>simp;cases p<;>first|(simp[isSlice]at h;done)|(cases w:kK S.N st.m _ svs<;>simp[w])
def No(N:Nat->Y')(m:Tb bJ)(p:xe)(svs:SW)(xs:So)(h:dz svs=some xs):kK N m p svs=(bN N p xs).bind λx=>some (.v x):=by unfold kK;rw[h];dsimp only;cases bN N p xs<;>rfl
def Dx(dr:X')(fr:ST)(dst:aY Nat)(now:X')(q:Nf)(az:QR)(st:St):
 gp S c dr fr ⟨dst,none,now,.r q,az,[],[]⟩ st=(bW S.N st.g az).bind λsvs=>if !dr||now||fM fr svs then(pX st.m q svs).bind λx=>some (cW st dst x)else none:=by
 unfold gp nX;have u:gH S.N st.g ⟨dst,none,now,.r q,az,[],[]⟩=none:=rfl;simp[wanted,u]
 cases w:bW S.N st.g az with
 |none=>rfl|some svs=>
  simp;split
  .cases z:pX st.m q svs<;>simp
  rfl
def AN(dr:X')(fr:ST)(d:Nat)(now:X')(q:QD)(az:QR)(st:St):
 gp S c dr fr ⟨some d,none,now,.a q,az,[],[]⟩ st=(bW S.N st.g az).bind λsvs=>if st.new d then(qv st.m q svs d).bind λr=>some {st with g:=bM st.g d r.2,m:=bM st.m d r.1}else none:=by
 unfold gp nX;have u:gH S.N st.g ⟨some d,none,now,.a q,az,[],[]⟩=none:=rfl;simp[wanted,u]
 cases w:bW S.N st.g az with
 |none=>rfl|some svs=>
  simp;split
  .cases z:qv st.m q svs d<;>simp[cW]
  rfl
def zp(dr:X')(fr:ST)(dst:aY Nat)(now:X')(q:Ng)(az:QR)(st:St):
 gp S c dr fr ⟨dst,none,now,.l q,az,[],[]⟩ st=(bW S.N st.g az).bind λsvs=>if !dr||now then(oT st dst q svs).bind λr=>some (cW r.2 dst r.1)else none:=by
 unfold gp nX;have u:gH S.N st.g ⟨dst,none,now,.l q,az,[],[]⟩=none:=rfl;simp[wanted,u]
 cases w:bW S.N st.g az with
 |none=>rfl|some svs=>
  simp;split
  .cases z:oT st dst q svs<;>simp
  rfl
def mz:SW->aY (Y'×SW)
 |.clo f a b::vs=>some (f,a++vs++b)|.v (.clo f a b)::vs=>some (f,a.map .v++vs++b.map .v)|_=>none
def xS(dr:X')(fr:ST)(dst:aY Nat)(now:X')(az:QR)(st:St)(svs:SW)(f:Y')(args:SW)(B:bW S.N st.g az=some svs)(a:mz svs=some (f,args)):
 gp S c dr fr ⟨dst,none,now,.c,az,[],[]⟩ st=(fN S c dst dr (!dr||now) (gB st.m fr) f args st).bind λr=>some (cW r.2 dst r.1):=by
 unfold gp nX;unfold mz at a;split at a
 .obtain⟨rfl,rfl⟩:=a;simp[wanted,gH,B];cases fN S c dst dr _ _ _ _ st<;>simp
 .obtain⟨rfl,rfl⟩:=a;simp[wanted,gH,B];cases fN S c dst dr _ _ _ _ st<;>simp
 grind
def Vy{β:Type}(S:Sys)(c:cm)(fr:ST)(l:R0)(k:St->aY β):St->aY β:=λst=>(pL S c false fr l st).bind k
def Uk{β:Type}(S:Sys)(c:cm)(fr:ST)(l:R0)(k:St->aY β):St->aY β:=λst=>(pL S c true fr l st).bind k
def ZY{β:Type}(S:Sys)(c:cm)(fr dd:ST)(l:R0)(k:St->aY β):St->aY β:=λst=>Vy S c fr l k (rG dd st)
def ZZ{β:Type}(S:Sys)(c:cm)(fr dd:ST)(l:R0)(k:St->aY β):St->aY β:=λst=>Uk S c fr l k (rG dd st)
@[congr] def abG{β:Type}{fr:ST}{l:R0}{k:St->aY β}{st st':St}(h:st=st'):Vy S c fr l k st=Vy S c fr l k st':=by rw[h]
@[congr] def ab9{β:Type}{fr B:ST}{l:R0}{k:St->aY β}{st st':St}(D:fr=B)(h:st=st'):Uk S c fr l k st=Uk S c B l k st':=Zad
@[congr] def ach{β:Type}{fr dd:ST}{l:R0}{k:St->aY β}{st st':St}(h:st=st'):ZY S c fr dd l k st=ZY S c fr dd l k st':=by rw[h]
@[congr] def ace{β:Type}{fr B dd:ST}{l:R0}{k:St->aY β}{st st':St}(D:fr=B)(h:st=st'):ZZ S c fr dd l k st=ZZ S c B dd l k st':=Zad
@[congr] def acE{dr:X'}{fr:ST}{o:RO}{st st':St}(h:st=st'):gp S c dr fr o st=gp S c dr fr o st':=by rw[h]
end
section
variable{S:Sys}{c:cm}(dr:X')(fr:ST)(dst:aY Nat)(now:X')(az:QR)(st:St)
end
inductive Fm where
 |seq(b:RC)|blk(id:Nat)|gst(x:Gh)
abbrev QQ:=aX Fm
section
variable(S:Sys)(c:cm){β:Type}(Q:Out×St->aY β)
def runK:QQ->Out×St->aY β
 |[],r=>Q r|.seq b::fs,(.norm,st)=>(cN S c b st).bind (runK fs)|.seq _::fs,r=>runK fs r|.blk id::fs,(.exit k,st)=>if k=id then runK fs (.norm,st)else runK fs (.exit k,st)|.blk _::fs,r=>runK fs r|.gst x::fs,(.norm,st)=>(ghost x st).bind λst=>runK fs (.norm,st)|.gst _::fs,r=>runK fs r
def go(a:RC)(fs:QQ)(st:St):aY β:=(cN S c a st).bind (runK S c Q fs)
def WL(fs:QQ):St->aY β:=λst=>runK S c Q fs (.norm,st)
def bg{α:Type}(t:X')(a b:α):α:=if t then a else b
end
@[congr] def acL{α:Type}{t B:X'}{a b a' D:α}(h:t=B)(G:B=true->a=a')(J:B=false->b=D):bg t a b=bg B a' D:=by subst h;cases t;exact J rfl;exact G rfl
section
variable{S:Sys}{c:cm}{β:Type}{Q:Out×St->aY β}
@[congr] def go_congr{a:RC}{fs:QQ}{st st':St}(h:st=st'):go S c Q a fs st=go S c Q a fs st':=by rw[h]
@[congr] def abd{fs:QQ}{st st':St}(h:st=st'):WL S c Q fs st=WL S c Q fs st':=by rw[h]
@[congr] def ab3{fs:QQ}{r B:Out×St}(h:r=B):runK S c Q fs r=runK S c Q fs B:=by rw[h]
def Lf(a:RC)(st:St):(cN S c a st).bind Q=go S c Q a [] st:=by simp only[go];cases cN S c a st<;>rfl
inductive Fw(ν ε ρ:Type)where
 |n(a:ν)|x(e:ε)|r(b:ρ)
def kU{σ ε ρ:Type}(step:σ->aY (Fw σ ε ρ)):Nat->σ->aY (Fw Empty ε ρ)
 |0,_=>none|k+1,s=>match step s with
  |some (.n B)=>kU step k B|some (.x e)=>some (.x e)|some (.r b)=>some (.r b)|none=>none
def Ad{σ ε ρ:Type}{step:σ->aY (Fw σ ε ρ)}:∀{k B:Nat}{s:σ}{r:Fw Empty ε ρ},k<=B->kU step k s=some r->kU step B s=some r
 |0,_,_,_,_,h=>by simp[kU]at h|k+1,0,_,_,hk,_=>Zaa|k+1,B+1,s,r,hk,h=>by simp only[kU]at h⊢;split at h;exact Ad (Nat.le_of_succ_le_succ hk) h;exact h;exact h;simp at h
open Classical in
def bF{σ ε ρ:Type}(step:σ->aY (Fw σ ε ρ))(s:σ):aY (Fw Empty ε ρ):=if h:∃k r,kU step k s=some r then some (Classical.choose (choose_spec h))else none
def qz{σ ε ρ:Type}{step:σ->aY (Fw σ ε ρ)}{s:σ}{r:Fw Empty ε ρ}:bF step s=some r↔∃k,kU step k s=some r:=by
 unfold bF;constructor;intro h;split at h;next u=>simp only[ζa]at h;exact⟨_,by rw[<-h];exact choose_spec (choose_spec u)⟩
 simp at h;rintro⟨k,a⟩;have u:∃k r,kU step k s=some r:=⟨k,r,a⟩;rw[dif_pos u];have z:=choose_spec (choose_spec u);have B:=Ad (Nat.le_max_left (Classical.choose u) k) z;have w:=Ad (Nat.le_max_right (Classical.choose u) k) a;rw[B]at w;exact w
def Fw.out{ν ε ρ:Type}(B:ν->St)(eε:ε->Nat×St)(eρ:ρ->St):Fw ν ε ρ->Out×St
 |.n a=>(.norm,B a)|.x e=>(.exit (eε e).1,(eε e).2)|.r b=>(.ret,eρ b)
def Fw.elim{ε ρ γ:Type}(B:ε->γ)(fr:ρ->γ):Fw Empty ε ρ->γ
 |.x e=>B e|.r b=>fr b
end
section
variable{α:Type}[bD α]
def Jj(s:Sl α):V.one (cg s)=true:=by cases s<;>rfl
def Sf(l:aX α):V.o5 (rows l)=true:=by induction l with|nil=>rfl|cons a l u=>simp only[rows,map_cons,V.o5,ζh];exact⟨bD.good a,u⟩
def OO(s:Sl α):V.good (cg s)=true:=by cases s<;>simp only[cg,Sl.k,qw,V.good]<;>exact Sf _
instance:bD (Sl α)where
 cells s:=[cg s]
 agg:=false
 size:=1
 len _:=rfl
 good s:=by simp only[V.cH,OO,Bool.and_self]
 one s:=by simp[Jj]
 plain _:=rfl
end
section
variable{S:Sys}{c:cm}
def RB(x:aY SV)(b:X')(y z:aY St):aY St:=
 match x with
 |some (.v (.bool t))=>bg (t==b) y z|some (.v _)=>z|_=>none
@[congr] def ZT{x B:aY SV}{b:X'}{y z:aY St}(h:x=B):RB x b y z=RB B b y z:=by rw[h]
def WC{β:Type}(x:aY SV)(y z:aY β):aY β:=
 match x with
 |some (.v (.bool t))=>bg t y z|_=>none
@[congr] def abe{β:Type}{x B:aY SV}{y z:aY β}(h:x=B):WC x y z=WC B y z:=by rw[h]
def gV(c:cm)(f:Y')(az:So):aY So:=(c f (az.map .v) []).bind λr=>dc r.2 8 r.1
def LX(now:X')(args:SW)(ok:X')(st:St)(ys:So):aY (SV×St):=if(result ys).scalar||ok then some (.v (result ys),st)else if now then(rowsOf args).map λds=>(.v (result ys),{st with m:=pW ds st.m})else none
def NF(dst:aY Nat)(dr now:X')(old:SW->X')(f:Y')(args:SW)(st:St)(a:S.E.keep f=false):
 fN S c dst dr now old f args st=(dc st.m 8 args).bind λaz=>if now||old args then(gV c f az).bind (LX now args (dz args).isSome st)else none:=by
 unfold fN gV;simp only[a,Bool.false_eq_true,if_false]
 cases dc st.m 8 args with
 |none=>rfl|some az=>
  simp only[ζb];split
  .cases c f (az.map .v) []with
   |none=>rfl|some r=>have⟨rs,m'⟩:=r;simp only[ζb];cases dc m' 8 rs<;>rfl
  rfl
end
section
variable{S:Sys}{T:sH}
def LM(rs:aX RV):Out×St->aY So
 |(.exit _,_)=>none|(_,st)=>(l8 st rs).bind (dc st.m 8)
def TC{f:Y'}{rf:RF}(B:T f=some rf)(az:So)(D:az.length<=rf.na):gV (di S T) f az=go S (di S T) (LM rf.rs) rf.body [] (start (az.map .v) []):=by unfold gV;rw[tY B];unfold oV;rw[if_pos (by simpa using D),<-Lf];cases h:cN S (di S T) rf.body (start (az.map .v) [])with|none=>rfl|some r=>have⟨o,st⟩:=r;cases o<;>simp only[ζb,LM]<;>(try rfl)<;>(cases l8 st rf.rs<;>rfl)
end
end Go.VE
namespace Go.VE
variable[bX]
variable{N:Nat->Y'}
def A9(k:T2)(a b:Int):Ps:=if b=0 then none else some (k.wrap (a.tdiv b))
def ZO(e:aY KT)(q:aY Nat)(k:T2)(a b:Int):bN N (.bin e q .quo) [.int k a,.int k b]=(A9 k a b).bind λx=>some (.int k x):=by simp only[bN,nj,A9,if_true];split<;>rfl
def Lx(o:Nat)(cs:So):bN N (.fieldAddr o) [.fptr cs]=if o<=cs.length then some (.fptr (cs.drop o))else none:=rfl
def mH(s:U')(n:Int):Ps:=if 0<=n then(s[n.toNat]?).map λb=>(b.toNat:Int)else none
def SP(s:U')(k:T2)(n:Int):bN N .idxStr [.str s,.int k n]=(mH s n).bind λx=>some (.int .u8 x):=by simp only[bN,mH];split;cases s[n.toNat]?<;>rfl;rfl
def Ut(z:So)(pl:aX (Nat×Nat))(vs:So):bN N (.build z pl) vs=(mA z pl vs).bind λcs=>some (.agg cs):=by simp only[bN];cases mA z pl vs<;>rfl
section
variable{α:Type}[bD α]
def G4(s:Sl α)(k:T2)(i:Int)(n:Nat)(B:n=bD.size α):bN N (.idxS n) [cg s,.int k i]=(idx s i).bind λx=>some (.fptr (cells x)):=by rw[Tf s k i B];cases idx s i<;>rfl
def KN(s:Sl α):bN N .lenSl [cg s]=some (.int .i64 s.l.length):=H9 s
def Sl.isNil{α:Type}(s:Sl α):aY X':=
 match s with
 |.nil=>some true|.emp=>none|_=>some false
def U3(q:aY Nat)(s:Sl α):bN N (.bin (some .slice) q .eql) [cg s,.bO]=s.isNil.bind λt=>some (.bool t):=by cases s<;>rfl
def Q8(q:aY Nat)(s:Sl α):bN N (.bin (some .slice) q .neq) [cg s,.bO]=s.isNil.bind λt=>some (.bool !t):=by cases s<;>rfl
def gN(s:Sl α)(a b:Ps):aY (Sl α):=
 (ez s.l.length a b).map λ(l,h)=>match s with
  |.nil=>.nil|.emp=>.emp|.row x=>.part ((x.take h).drop l)|.part x=>.part ((x.take h).drop l)
def Pj(s:Sl α)(a b:Ps)(n:Nat)(B:n=bD.size α):jA n (cg s) a b=(gN s a b).bind λx=>some (cg x):=by subst B;cases s with|nil=>simp only[cg,Sl.k,qw,jA,gN,Sl.l,length_nil];cases ez 0 a b<;>rfl|emp=>simp only[cg,Sl.k,qw,jA,gN,Sl.l,length_nil];cases ez 0 a b<;>rfl|row l=>simp only[cg,Sl.k,qw,jA,gN,Sl.l,if_true,iZ];cases ez l.length a b<;>simp[rows,map_take,map_drop]|part l=>simp only[cg,Sl.k,qw,jA,gN,Sl.l,if_true,iZ];cases ez l.length a b<;>simp[rows,map_take,map_drop]
end
def Sd(m:Tb bJ)(n:Nat)(a:X')(cs:So):pX m (.load n a) [.v (.fptr cs)]=(cut cs 0 n).bind λr=>(mk a r).bind λx=>some (.v x):=by simp only[pX,eE];cases cut cs 0 n with|none=>rfl|some r=>simp only[ζb];cases mk a r<;>rfl
end Go.VE
namespace Go.VE
variable[bX]
section
variable{α:Type}[bD α]
def cK(s:Sl α):bJ:=.sl s.k (bD.size α) (rows s.l)
def Sl.lW(s:Sl α)(i:Int):aY Nat:=if 0<=i/\i.toNat<s.l.length then some i.toNat else none
def Sl.get(s:Sl α)(i:Nat):aY α:=s.l[i]?
def Sl.put(s:Sl α)(i:Nat)(x:α):aY (Sl α):=if i<s.l.length then some (match s with|.row l=>.row (l.set i x)|.part l=>.part (l.set i x)|s=>s)else none
def fu(s:Sl α)(x:α):aY (Sl α):=if s.l.length+1<=2147483648 then some (.row (s.l++[x]))else none
def uT(n:Int)(z:α):aY (Sl α):=if 0<=n/\n<=2147483648 then some (.row (replicate n.toNat z))else none
end
section
variable{α:Type}[bD α]{N:Nat->Y'}{m:Tb bJ}
def OX(n d:Nat)(o:aY bJ)(i:Int):aY SV:=
 match o with
 |some (.sl k es u)=>if cR k/\es=n/\0<=i/\i.toNat<u.length then some (.el d i.toNat 0)else none|_=>none
def Xz(n d:Nat)(k:T2)(i:Int):kK N m (.idxS n) [.own d,.v (.int k i)]=OX n d (bl m d) i:=by simp[kK,dz,zm,OX];grind
def X1(n d:Nat)(s:Sl α)(i:Int)(h:n=bD.size α):OX n d (some (cK s)) i=(s.lW i).bind λj=>some (.el d j 0):=by simp[OX,cK,iZ,Sl.lW];cases s with|nil=>simp[Sl.l,cR]|emp=>simp[Sl.l,cR]|row l=>simp[Sl.k,Sl.l,cR];grind|part l=>simp[Sl.k,Sl.l,cR];grind
def PR(o:aY bJ):aY SV:=
 match o with
 |some (.sl _ _ u)=>some (.v (.int .i64 u.length))|_=>none
def UI(d:Nat):kK N m .lenSl [.own d]=PR (bl m d):=by simp[kK,dz,zm,PR];grind
def Xc(s:Sl α):PR (some (cK s))=some (.v (.int .i64 s.l.length)):=by simp[PR,cK,iZ]
def V2(n:Nat)(a:X')(o:Nat)(ob:aY bJ):aY SV:=
 match ob with
 |some (.box cs)=>xT n a ((cs.drop o).take n)|_=>none
def acY(n:Nat)(a:X')(d o:Nat):pX m (.load n a) [.ptr d o]=V2 n a o (bl m d):=by rfl
def R6(n:Nat)(a:X')(o:Nat)(cs:SW):V2 n a o (some (.box cs))=xT n a ((cs.drop o).take n):=rfl
def LC(n:Nat)(a:X')(i o:Nat)(ob:aY bJ):aY SV:=
 match ob with
 |some (.sl _ _ u)=>match u[i]?with
  |some cs=>((cut cs o n).bind (mk a)).map .v|none=>none
 |_=>none
def abp(n:Nat)(a:X')(d i o:Nat):pX m (.load n a) [.el d i o]=LC n a i o (bl m d):=by rfl
def RI(n:Nat)(a:X')(i o:Nat)(s:Sl α):LC n a i o (some (cK s))=(s.get i).bind λx=>(cut (cells x) o n).bind λr=>(mk a r).bind λy=>some (.v y):=by simp only[LC,cK,Sl.get,rows,List.getElem?_map];cases s.l[i]?with|none=>rfl|some x=>simp only[map_some,ζb];cases cut (cells x) o n with|none=>rfl|some r=>simp;cases mk a r<;>rfl
def abI(z:α)(n:Int)(d:Nat)(size:Nat)(zero:So)(h:zero=cells z)(B:size=bD.size α):
 qv m (.makeSl size zero) [.v (.int .i64 n),.v (.int .i64 n)] d=(uT n z).bind λs=>some (cK s,.own d):=by
 subst h B;simp[qv,uT];split
 .simp[cK,Sl.k,Sl.l,rows]
 rfl
def G0(st:St)(d i o size:Nat)(x:V)(ob:aY bJ):aY (SV×St):=
 match ob with
 |some (.sl k es u)=>match u[i]?with
  |some cs=>if x.cells.length=size/\o+size<=cs.length/\x.cells.all V.one=true then
   some (.v .undef,{st with m:=bM st.m d (.sl k es (u.set i (cs.take o++x.cells++cs.drop (o+x.cells.length))))})else none
  |none=>none
 |_=>none
def OK(st:St)(dst:aY Nat)(size d i o:Nat)(x:V):oT st dst (.store size) [.el d i o,.v x]=G0 st d i o size x (bl st.m d):=by rfl
def Ph(g:Tb SV)(p:ST)(w:S')(B:X')(y:Nat)(d i size:Nat)(x:V)(a:α)(D:x.cells=cells a)(G:size=bD.size α)(s:Sl α):
 G0 ⟨g,m,p,w,B,y⟩ d i 0 size x (some (cK s))=(s.put i a).bind λJ=>some (.v .undef,⟨g,bM m d (cK J),p,w,B,y⟩):=by
 have e:(cells a).all V.one=true:=bD.one a;have u:∀b:α,(cells b).length=bD.size α:=bD.len;subst G;simp only[G0,cK,rows,List.getElem?_map,D,Sl.put]
 by_cases c:i<s.l.length
 .have hg:=ζd c;rw[if_pos c,hg];simp[u,e]
  cases s with
  |nil=>simp[Sl.l]at c|emp=>simp[Sl.l]at c|row l=>simp[Sl.k,Sl.l,List.drop_of_length_le,u]|part l=>simp[Sl.k,Sl.l,List.drop_of_length_le,u]
 grind
def AO(st:St)(t n:Nat)(s:SV)(xs ys:aY S'):aY (SV×St):=
 match xs,ys with
 |some _,some []=>match s with
  |.own d=>match bl st.m d with
   |some ob=>if St.new {st with m:=eF d st.m} t then some (.own t,{st with m:=bM (eF d st.m) t ob})else none|none=>none
  |.v .bO=>if st.new t then some (.own t,{st with m:=bM st.m t (.sl .nil n [])})else none|.v .dQ=>if st.new t then some (.own t,{st with m:=bM st.m t (.sl .emp n [])})else none|_=>none
 |some xs,some ys=>
  if xs.length+ys.length<=2147483648/\Lr s=true then
   if St.new {st with m:=giveUp st.m s} t then some (.own t,{st with m:=bM (giveUp st.m s) t (.sl .row n (xs++ys))})else none
  else none
 |_,_=>none
def B5(st:St)(t n:Nat)(s x:SV):oT st (some t) (.append n) [s,x]=AO st t n s (kE st.m n s) (kE st.m n x):=by cases s<;>cases x<;>(rfl)
def PL(n:Nat)(o:aY bJ):aY S':=
 match o with
 |some (.sl k es u)=>if cR k then(if es=n then some u else none)else some []|_=>none
def GZ(n d:Nat):kE m n (.own d)=PL n (bl m d):=by simp[kE,PL];grind
def Ds(n:Nat)(s:Sl α)(h:n=bD.size α):PL n (some (cK s))=some (rows s.l):=by subst h;cases s<;>simp[PL,cK,Sl.k,Sl.l,cR,rows]
def W0(n:Nat):kE m n (.v .bO)=some []:=rfl
def X8(n:Nat):kE m n (.v .dQ)=some []:=rfl
def Sa(g:Tb SV)(p:ST)(w:S')(B:X')(y:Nat)(t n d:Nat)(l:aX α)(x:α)(h:n=bD.size α):AO ⟨g,m,p,w,B,y⟩ t n (.own d) (some (rows l)) (some (rows [x]))=
 (fu (.row l) x).bind λs=>if St.new ⟨g,eF d m,p,w,B,y⟩ t then some (.own t,⟨g,bM (eF d m) t (cK s),p,w,B,y⟩)else none:=by
 subst h;have e:(rows l).length+(rows [x]).length=l.length+1:=by simp[iZ]
 by_cases h:l.length+1<=2147483648
 .have a:fu (.row l) x=some (.row (l++[x])):=if_pos h;have u:AO ⟨g,m,p,w,B,y⟩ t (bD.size α) (.own d) (some (rows l)) (some (rows [x]))=if St.new ⟨g,eF d m,p,w,B,y⟩ t then some (.own t,⟨g,bM (eF d m) t (.sl .row (bD.size α) (rows l++rows [x])),p,w,B,y⟩)else none:=if_pos ⟨Zaa,rfl⟩
  rw[a,u];simp[cK,Sl.k,Sl.l,rows]
 have a:fu (.row l) x=none:=if_neg h;have u:AO ⟨g,m,p,w,B,y⟩ t (bD.size α) (.own d) (some (rows l)) (some (rows [x]))=none:=if_neg (λq=>h Zaa)
 grind
def QM(g:Tb SV)(p:ST)(w:S')(B:X')(y:Nat)(t n:Nat)(x:α)(h:n=bD.size α):AO ⟨g,m,p,w,B,y⟩ t n (.v .bO) (some []) (some (rows [x]))=
 if St.new ⟨g,m,p,w,B,y⟩ t then some (.own t,⟨g,bM m t (cK (.row [x])),p,w,B,y⟩)else none:=by
 subst h;rfl
def Sx(g:Tb SV)(p:ST)(w:S')(B:X')(y:Nat)(t n:Nat)(x:α)(h:n=bD.size α):AO ⟨g,m,p,w,B,y⟩ t n (.v .dQ) (some []) (some (rows [x]))=
 if St.new ⟨g,m,p,w,B,y⟩ t then some (.own t,⟨g,bM m t (cK (.row [x])),p,w,B,y⟩)else none:=by
 subst h;rfl
end
def As(g:Tb SV)(m:Tb bJ)(p:ST)(w:S')(B:X')(y d:Nat):St.new ⟨g,m,p,w,B,y⟩ d=(!(p.contains d)&&(bl m d).isNone&& !(xO d g)&& !(uV d m)):=rfl
def uK(d:Nat):xO d []=false:=rfl
def sS(d n:Nat)(x:SV)(r:Tb SV):xO d ((n,x)::r)=(SV.c8 d x||xO d r):=rfl
def uH(d:Nat):uV d []=false:=rfl
def tg(d n:Nat)(x:bJ)(r:Tb bJ):uV d ((n,x)::r)=(bJ.c8 d x||uV d r):=rfl
def Ak(d:Nat)(x:V):SV.c8 d (.v x)=false:=rfl
def vB(d e:Nat):SV.c8 d (.own e)=(e==d):=rfl
def wh(d e o:Nat):SV.c8 d (.ptr e o)=(e==d):=rfl
def yD(d e i o:Nat):SV.c8 d (.el e i o)=(e==d):=rfl
def yq(d e:Nat):SV.c8 d (.mp e)=(e==d):=rfl
def v7(d:Nat)(f:Y')(a b:SW):SV.c8 d (.clo f a b)=(SV.dN d a||SV.dN d b):=rfl
def vQ(d:Nat)(l:SW):SV.c8 d (.tup l)=SV.dN d l:=rfl
def uE(d:Nat):SV.dN d []=false:=rfl
def sV(d:Nat)(x:SV)(r:SW):SV.dN d (x::r)=(SV.c8 d x||SV.dN d r):=rfl
def uy(d:Nat)(cs:SW):bJ.c8 d (.box cs)=SV.dN d cs:=rfl
def IZ(m:Tb bJ)(n:Nat):dc m n []=some []:=by cases n<;>simp[dc]
def Ft(m:Tb bJ)(n:Nat)(x:SV)(r:SW):dc m n (x::r)=(shut m n x).bind λy=>(dc m n r).bind λs=>some (y::s):=by cases n<;>(simp[dc];cases shut m _ x<;>(try rfl)<;>(cases dc m _ r<;>rfl))
def aai(m:Tb bJ)(n:Nat)(x:V):shut m n (.v x)=some x:=by cases n<;>simp[shut]
def Up(m:Tb bJ)(n:Nat)(f:Y')(a b:SW):shut m (n+1) (.clo f a b)=(dc m n a).bind λx=>(dc m n b).bind λy=>some (.clo f x y):=by simp[shut];cases dc m n a<;>(try rfl)<;>(cases dc m n b<;>rfl)
def Ub(m:Tb bJ)(n:Nat)(l:SW):shut m (n+1) (.tup l)=(dc m n l).bind λx=>some (.tup x):=by simp[shut];cases dc m n l<;>rfl
def Vu(m:Tb bJ)(n:Nat)(l:SW):shut m (n+1) (.agg l)=(dc m n l).bind λx=>some (.agg x):=by simp[shut];cases dc m n l<;>rfl
def wm{α:Type}(n:Nat):eF n ([]:Tb α)=[]:=rfl
def uP{α:Type}(n k:Nat)(x:α)(r:Tb α):eF n ((k,x)::r)=if k=n then eF n r else(k,x)::eF n r:=rfl
def mapM_nil(f:SW->SW):mapM f []=[]:=rfl
section
variable{N:Nat->Y'}{m:Tb bJ}
def X6:result []=.tup []:=rfl
def Yd(x:V):result [x]=x:=rfl
def Xh(x y:V)(l:So):result (x::y::l)=.tup (x::y::l):=rfl
def K1(p:xe)(a:V):kK N m p [.v a]=(bN N p [a]).bind λx=>some (.v x):=No N m p _ [a] rfl
def vL(p:xe)(a b:V):kK N m p [.v a,.v b]=(bN N p [a,b]).bind λx=>some (.v x):=No N m p _ [a,b] rfl
def ou(l:So):dz (l.map .v)=some l:=by induction l with|nil=>rfl|cons a l u=>simp only[map_cons,dz,u];rfl
def w6(n:Nat)(l:So):dc m n (l.map .v)=some l:=by induction l with|nil=>exact IZ m n|cons a l u=>rw[map_cons,Ft,aai,u];rfl
def Sl.Wa{α:Type}(l:aX α):(Sl.row l).l=l:=rfl
def Rk(cs:So):mA cs [] []=some cs:=rfl
def PF(cs:So)(off size:Nat)(pl:aX (Nat×Nat))(v:V)(vs:So):mA cs ((off,size)::pl) (v::vs)=
 if v.cells.length=size/\off+v.cells.length<=cs.length then mA (cs.take off++v.cells++cs.drop (off+v.cells.length)) pl vs else none:=by
 simp only[mA]
 by_cases h:v.cells.length=size<;>by_cases u:off+v.cells.length<=cs.length
 .rw[if_neg (by simp[h];omega),if_pos ⟨h,u⟩]
 .rw[if_pos (by simp[h];omega),if_neg (λq=>u q.2)]
 .rw[if_pos (by simp[h]),if_neg (λq=>h q.1)]
 rw[if_pos (by simp[h]),if_neg (λq=>h q.1)]
def RM(k:T2)(n:Int):V.cells (.int k n)=[.int k n]:=rfl
def NK(n:X'):V.cells (.bool n)=[.bool n]:=rfl
def Rt(n:U'):V.cells (.str n)=[.str n]:=rfl
def SF:V.cells .bO=[.bO]:=rfl
def oQ(k:T2)(n:Int):V.one (.int k n)=true:=rfl
def nk(n:X'):V.one (.bool n)=true:=rfl
def oN(n:U'):V.one (.str n)=true:=rfl
end
section
variable{S:Sys}{c:cm}{β γ δ:Type}{Q:Out×St->aY β}{L:aY β}{e:γ->aY β}
def RH{dr:X'}{fr:ST}{d:aY Nat}{gd:aY (Nat×X')}{now:X'}{k:K}{az:QR}{st:St}(h:wanted st.g gd=some true):
 gp S c dr fr ⟨d,gd,now,k,az,[],[]⟩ st=gp S c dr fr ⟨d,none,now,k,az,[],[]⟩ st:=by
 unfold gp;rw[h];rfl
def Eb(dr:X')(st:St):Eu dr [] st=some st:=by cases dr<;>rfl
def oI(f:SV->aY V):SW->aY So
 |[]=>some []|x::r=>(f x).bind λy=>(oI f r).bind λs=>some (y::s)
def jt(m:Tb bJ):Nat->SV->aY V
 |0,x=>match x with
  |.v y=>some y|.own d=>match bl m d with
   |some (.sl k es xs)=>some (qw k es xs)|_=>none
  |.mp d=>match bl m d with
   |some (.mp B)=>some (.fmap B)|_=>none
  |_=>none
 |n+1,x=>match x with
  |.v y=>some y|.own d=>match bl m d with
   |some (.sl k es xs)=>some (qw k es xs)|_=>none
  |.ptr d o=>match bl m d with
   |some (.box cs)=>match oI (jt m n) cs with
    |some xs=>if o<=xs.length then some (.fptr (xs.drop o))else none|none=>none
   |_=>none
  |.mp d=>match bl m d with
   |some (.mp B)=>some (.fmap B)|_=>none
  |.clo f a b=>(oI (jt m n) a).bind λx=>(oI (jt m n) b).bind λy=>some (.clo f x y)|.tup l=>(oI (jt m n) l).bind λx=>some (.tup x)|.agg l=>(oI (jt m n) l).bind λx=>some (.agg x)|_=>none
def yu(m:Tb bJ):∀(n:Nat),(∀x,shut m n x=jt m n x)/\∀l,dc m n l=oI (jt m n) l:=by
 have w:∀n,(∀x,shut m n x=jt m n x)->∀l,dc m n l=oI (jt m n) l:=by intro n h l;induction l with|nil=>exact IZ m n|cons a l u=>rw[Ft,h a,u];rfl
 intro n;induction n with|zero=>have c:∀x,shut m 0 x=jt m 0 x:=(by intro x;cases x<;>simp[shut,jt]<;>rfl);grind|succ n u=>have e:∀x,shut m (n+1) x=jt m (n+1) x:=(by intro x;cases x with|ptr d o=>simp[shut,jt,u.2];rfl|clo f a b=>rw[Up,u.2,u.2];rfl|tup l=>rw[Ub,u.2];rfl|agg l=>rw[Vu,u.2];rfl|_=>simp[shut,jt]<;>rfl);grind
def xK(S:Sys)(c:cm)(dr:X'):ST->R0->(St->aY β)->St->aY β
 |_,[],k,st=>k st|fr,o::r,k,st=>((Eu dr o.pre st).bind (gp S c dr fr o.strip)).bind λst'=>xK S c dr (if dr then tB fr o.strip else fr) r k (rG o.dead st')
def Hu(dr:X'):∀(l:R0)(fr:ST)(k:St->aY β)(st:St),xK S c dr fr l k st=(pL S c dr fr l st).bind k
 |[],_,_,_=>rfl|o::r,fr,k,st=>by simp[xK,pL];cases(Eu dr o.pre st).bind (gp S c dr fr o.strip)with|none=>rfl|some st'=>exact Hu dr r _ k _
def rU(S:Sys)(c:cm):RC->(St->aY β)->(Nat->St->aY β)->(St->aY β)->St->aY β
 |.skip,n,_,_,st=>n st|.ops l,n,_,_,st=>xK S c false [] l n st|.rK l,n,_,_,st=>xK S c true [] l n st|.seq a b,n,x,r,st=>rU S c a (λst=>rU S c b n x r st) x r st|.cond y a b,n,x,r,st=>match tv S.N st.g y with
  |some (.v (.bool t))=>bg t (rU S c a n x r st) (rU S c b n x r st)|_=>none
 |.block id a,n,x,r,st=>rU S c a n (λk st=>if k=id then n st else x k st) r st|.loop a,n,x,r,st=>(qG (cN S c a) st).bind λq=>match q with|(.norm,st)=>n st|(.exit k,st)=>x k st|(.ret,st)=>r st
 |.each g ps a b,n,x,r,st=>(cN S c (.each g ps a b) st).bind λq=>match q with|(.norm,st)=>n st|(.exit k,st)=>x k st|(.ret,st)=>r st
 |.exit k,_,x,_,st=>x k st|.ret,_,_,r,st=>r st|.gh g a,n,x,r,st=>(ghost g st).bind λst=>rU S c a n x r st|.hg a g,n,x,r,st=>rU S c a (λst=>(ghost g st).bind n) x r st
def Hy(n:St->aY β)(x:Nat->St->aY β)(r:St->aY β):Out×St->aY β
 |(.norm,st)=>n st|(.exit k,st)=>x k st|(.ret,st)=>r st
def Gl:∀(d:RC)(n:St->aY β)(x:Nat->St->aY β)(r:St->aY β)(st:St),rU S c d n x r st=(cN S c d st).bind (Hy n x r):=by
 intro d
 induction d with
 |skip=>intros;rfl|ops l=>intro n x r st;simp[rU,cN,Hu];cases pL S c false [] l st<;>rfl|rK l=>intro n x r st;simp[rU,cN,Hu];cases pL S c true [] l st<;>rfl|seq a b u w=>intro n x r st;simp[rU,cN,u,w];cases h:cN S c a st with|none=>rfl|some q=>have⟨o,st'⟩:=q;cases o<;>rfl
 |cond y a b u w=>
  intro n x r st;simp[rU,cN,u,w]
  cases tv S.N st.g y with
  |none=>rfl|some v=>cases v with
   |v z=>cases z with
    |bool t=>cases t<;>rfl|_=>rfl
   |_=>rfl
 |block id a B=>intro n x r st;simp[rU,cN,B];cases h:cN S c a st with|none=>rfl|some q=>have⟨o,st'⟩:=q;cases o with|exit k=>simp[Hy];split<;>rfl|_=>rfl
 |loop a B=>intro n x r st;rfl|each g ps a b u w=>intro n x r st;rfl|exit k=>intros;rfl|ret=>intros;rfl|gh g a B=>simp[rU,cN,B];grind|hg a g B=>intro n x r st;simp[rU,cN,B];cases h:cN S c a st with|none=>rfl|some q=>have⟨o,st'⟩:=q;cases o with|norm=>simp[Hy];cases ghost g st'<;>rfl|_=>rfl
section
variable(S c Q)
mutual
def o8:QQ->St->aY β
 |[]=>λst=>Q (.norm,st)|.seq b::fs=>λst=>rU S c b (o8 fs) (oU fs) (λst=>Q (.ret,st)) st|.blk _::fs=>o8 fs|.gst g::fs=>λst=>(ghost g st).bind (o8 fs)
def oU:QQ->Nat->St->aY β
 |[]=>λk st=>Q (.exit k,st)|.seq _::fs=>oU fs|.blk id::fs=>λk st=>if k=id then o8 fs st else oU fs k st|.gst _::fs=>oU fs
end
def me(a:RC)(fs:QQ)(st:St):aY β:=rU S c a (o8 S c Q fs) (oU S c Q fs) (λst=>Q (.ret,st)) st
end
section
variable{dr:X'}{fr:ST}{d:Nat}{dst:aY Nat}{now:X'}{az:QR}{st:St}{α:Type}[bD α]
def Nk{p:xe}{svs:SW}{m:aY δ}{v:δ->SV}(B:bW S.N st.g az=some svs)(a:isSlice p=false)(h:kK S.N st.m p svs=m.bind λx=>some (v x)):
 gp S c dr fr ⟨dst,none,now,.p p,az,[],[]⟩ st=m.bind λx=>some (cW st dst (v x)):=by
 rw[WB _ _ _ _ _ _ _ a,B]
 grind
def CZ{p:xe}{svs:SW}{v:SV}(B:bW S.N st.g az=some svs)(a:isSlice p=false)(h:kK S.N st.m p svs=some v):
 gp S c dr fr ⟨dst,none,now,.p p,az,[],[]⟩ st=some (cW st dst v):=by
 rw[WB _ _ _ _ _ _ _ a,B]
 grind
def WN{n:Nat}{s:Sl α}{k:T2}{i:Int}(B:bW S.N st.g az=some [.v (cg s),.v (.int k i)])(D:n=bD.size α):
 gp S c dr fr ⟨dst,none,now,.p (.idxS n),az,[],[]⟩ st=(idx s i).bind λx=>some (cW st dst (.v (.fptr (cells x)))):=
 Nk B rfl (by rw[vL,G4 s k i n D];grind)
def abL{n e:Nat}{s:Sl α}{k:T2}{i:Int}(B:bW S.N st.g az=some [.own e,.v (.int k i)])(D:bl st.m e=some (cK s))(G:n=bD.size α):
 gp S c dr fr ⟨dst,none,now,.p (.idxS n),az,[],[]⟩ st=(s.lW i).bind λj=>some (cW st dst (.el e j 0)):=
 Nk B rfl (by rw[Xz,D,X1 n e s i G])
def Wy{s:Sl α}(B:bW S.N st.g az=some [.v (cg s)]):gp S c dr fr ⟨dst,none,now,.p .lenSl,az,[],[]⟩ st=some (cW st dst (.v (.int .i64 s.l.length))):=CZ B rfl (by rw[K1,KN];rfl)
def aaU{e:Nat}{s:Sl α}(B:bW S.N st.g az=some [.own e])(D:bl st.m e=some (cK s)):gp S c dr fr ⟨dst,none,now,.p .lenSl,az,[],[]⟩ st=some (cW st dst (.v (.int .i64 s.l.length))):=CZ B rfl (by rw[UI,D,Xc])
def abE{q:aY KT}{u:aY Nat}{k:T2}{a b:Int}(B:bW S.N st.g az=some [.v (.int k a),.v (.int k b)]):gp S c dr fr ⟨dst,none,now,.p (.bin q u .quo),az,[],[]⟩ st=(A9 k a b).bind λx=>some (cW st dst (.v (.int k x))):=Nk B rfl (by rw[vL,ZO];grind)
def WX{u:aY Nat}{s:Sl α}(B:bW S.N st.g az=some [.v (cg s),.v .bO]):gp S c dr fr ⟨dst,none,now,.p (.bin (some .slice) u .eql),az,[],[]⟩ st=s.isNil.bind λt=>some (cW st dst (.v (.bool t))):=Nk B rfl (by rw[vL,U3];grind)
def Tu{u:aY Nat}{s:Sl α}(B:bW S.N st.g az=some [.v (cg s),.v .bO]):gp S c dr fr ⟨dst,none,now,.p (.bin (some .slice) u .neq),az,[],[]⟩ st=s.isNil.bind λt=>some (cW st dst (.v (.bool !t))):=Nk B rfl (by rw[vL,Q8];grind)
def Ui{s:U'}{k:T2}{n:Int}(B:bW S.N st.g az=some [.v (.str s),.v (.int k n)]):gp S c dr fr ⟨dst,none,now,.p .idxStr,az,[],[]⟩ st=(mH s n).bind λx=>some (cW st dst (.v (.int .u8 x))):=Nk B rfl (by rw[vL,SP];grind)
def aa5{n e i o:Nat}{a:X'}{s:Sl α}{v:α->V}(B:bW S.N st.g az=some [.el e i o])(hd:(!dr||now||fM fr [.el e i o])=true)(D:bl st.m e=some (cK s))(b:∀x:α,(cut (cells x) o n).bind (mk a)=some (v x)):
 gp S c dr fr ⟨dst,none,now,.r (.load n a),az,[],[]⟩ st=(s.get i).bind λx=>some (cW st dst (.v (v x))):=by
 rw[Dx,B];simp only[ζb,hd,abp,D,RI]
 cases s.get i with
 |none=>rfl|some x=>
  cases d:cut (cells x) o n with
  |none=>grind|some r=>grind
def Ns{n e i:Nat}{s:Sl α}{x:V}{a:α}(B:bW S.N st.g az=some [.el e i 0,.v x])(hd:(!dr||now)=true)(D:bl st.m e=some (cK s))(G:x.cells=cells a)(J:n=bD.size α):
 gp S c dr fr ⟨dst,none,now,.l (.store n),az,[],[]⟩ st=(s.put i a).bind λU=>some (cW {st with m:=bM st.m e (cK U)} dst (.v .undef)):=by
 rw[zp,B];simp[hd,OK,D];rw[Ph st.g st.pin st.want st.more st.yid e i n x a G J s]
 grind
def ZP{n:Nat}{z:α}{zero:So}{i:Int}(B:bW S.N st.g az=some [.v (.int .i64 i),.v (.int .i64 i)])(D:zero=cells z)(G:n=bD.size α)(J:st.new d=true):
 gp S c dr fr ⟨some d,none,now,.a (.makeSl n zero),az,[],[]⟩ st=(uT i z).bind λs=>some {st with g:=bM st.g d (.own d),m:=bM st.m d (cK s)}:=by
 rw[AN,B];simp[J];rw[abI z i d n zero D G]
 grind
def abx{n e u:Nat}{s:Sl α}{x:α}(G:bW S.N st.g az=some [.own e,.own u])(hd:(!dr||now)=true)(J:bl st.m e=some (cK s))(a:bl st.m u=some (cK (.row [x])))(B:n=bD.size α)(U:St.new {st with m:=eF e st.m} d=true):
 gp S c dr fr ⟨some d,none,now,.l (.append n),az,[],[]⟩ st=(fu s x).bind λD=>some {st with g:=bM st.g d (.own d),m:=bM (eF e st.m) d (cK D)}:=by
 rw[zp,G];simp[hd,B5,GZ,J,a];rw[Ds n s B,Ds n (.row [x]) B];have:=Sa (m:=st.m) st.g st.pin st.want st.more st.yid d n e s.l x B;simp[Sl.Wa];rw[this];have w:fu (.row s.l) x=fu s x:=by cases s<;>rfl
 rw[w]
 cases fu s x with
 |none=>rfl|some D=>simp;rw[if_pos U];rfl
def aas{n u:Nat}{x:α}{v:V}(a:v=.bO\/v=.dQ)(G:bW S.N st.g az=some [.v v,.own u])(hd:(!dr||now)=true)(b:bl st.m u=some (cK (.row [x])))(B:n=bD.size α)(D:st.new d=true):
 gp S c dr fr ⟨some d,none,now,.l (.append n),az,[],[]⟩ st=some {st with g:=bM st.g d (.own d),m:=bM st.m d (cK (.row [x]))}:=by
 rw[zp,G];simp[hd,B5,GZ,b];rw[Ds n (.row [x]) B];simp[Sl.Wa];rcases a with rfl|rfl
 .rw[W0,QM (m:=st.m) st.g st.pin st.want st.more st.yid d n x B];rw[if_pos D];rfl
 rw[X8,Sx (m:=st.m) st.g st.pin st.want st.more st.yid d n x B];rw[if_pos D];rfl
def aao{f:Y'}{svs args:SW}{cs:So}{m:aY δ}{E:δ->So}(a:gV c f cs=m.bind λr=>some (E r))(b:S.E.keep f=false)(D:bW S.N st.g az=some svs)(G:mz svs=some (f,args))
 (B:oI (jt st.m 8) args=some cs)(J:((!dr||now)||gB st.m fr args)=true)(d:∀r,((result (E r)).scalar||(dz args).isSome)=true):
 gp S c dr fr ⟨dst,none,now,.c,az,[],[]⟩ st=m.bind λr=>some (cW st dst (.v (result (E r)))):=by
 rw[xS dr fr dst now az st svs f args D G,NF _ _ _ _ _ _ _ b,(yu st.m 8).2,B];simp[J,a]
 cases m with
 |none=>rfl|some r=>
  simp[LX]
  grind
end
end
section
variable{S:Sys}{c:cm}{β γ:Type}{Q:Out×St->aY β}{L:aY β}{e:γ->aY β}
def rq(a:RC)(st:St):me S c Q a [] st=(cN S c a st).bind Q:=by unfold me;rw[Gl];congr 1;funext q;have⟨o,st⟩:=q;cases o<;>rfl
def DC(a:RC)(st:St):cN S c a st=me S c some a [] st:=by rw[rq];cases cN S c a st<;>rfl
def pI(rs:aX RV):Out×St->aY So
 |(.exit _,_)=>none|(_,st)=>(l8 st rs).bind (oI (jt st.m 8))
def XF(rs:aX RV):LM rs=pI rs:=by funext q;have⟨o,st⟩:=q;cases o;simp only[LM,pI];congr 1;funext l;exact(yu st.m 8).2 l;rfl;simp only[LM,pI];congr 1;funext l;exact(yu st.m 8).2 l
def Xo{S:Sys}{T:sH}{f:Y'}{rf:RF}(B:T f=some rf)(az:So)(D:az.length<=rf.na):gV (di S T) f az=me S (di S T) (pI rf.rs) rf.body [] (start (az.map .v) []):=by rw[TC B az D,<-Lf,rq,XF]
end
def mb{α σ ε ρ:Type}(step:α->σ->aY (Fw σ ε ρ)):aX α->σ->aY (Fw σ ε ρ)
 |[],s=>some (.n s)|x::xs,s=>(step x s).bind λw=>match w with
  |.n B=>mb step xs B|.x e=>some (.x e)|.r b=>some (.r b)
def Fw.sZ{ν ε ρ γ:Type}(fn:ν->γ)(B:ε->γ)(fr:ρ->γ):Fw ν ε ρ->γ
 |.n a=>fn a|.x e=>B e|.r b=>fr b
def Fw.yM{ν ε ρ:Type}(B:ν->Tb bJ)(eε:ε->Nat×Tb bJ)(eρ:ρ->Tb bJ):Fw ν ε ρ->Out×Tb bJ
 |.n a=>(.norm,B a)|.x e=>(.exit (eε e).1,(eε e).2)|.r b=>(.ret,eρ b)
def yM(q:Out×St):aY (Out×Tb bJ):=some (q.1,q.2.m)
section
variable{S:Sys}{c:cm}{β γ:Type}{Q:Out×St->aY β}{L:aY β}{e:γ->aY β}
def A2(S:Sys)(c:cm)(b:RC):Out×St->aY (Out×Tb bJ)
 |(.norm,st)=>me S c yM b [] st|_=>none
def PG(ps:ST)(a b:RC)(st:St)(x:So)(m:Tb bJ)(B:x.length=ps.length):
 jT ps (cN S c a) (cN S c b) st x m=me S c (A2 S c b) a [] ⟨zy st.g ps (x.map .v),m,st.pin++sE st.g,[],true,0⟩:=by
 unfold jT;rw[if_pos B,rq]
 cases cN S c a ⟨zy st.g ps (x.map .v),m,st.pin++sE st.g,[],true,0⟩with
 |none=>rfl|some q=>
  have⟨o,u⟩:=q
  cases o with
  |norm=>simp only[ζb,A2];rw[rq];cases cN S c b u<;>rfl|_=>rfl
end
def Le{α:Type}(a b:aY α):Prop:=∀r,a=some r->b=some r
section
variable{α:Type}
def Le.refl(a:aY α):Le a a:=λ_ h=>h
def Le.of_eq{a b:aY α}(h:b=a):Le a b:=λ_ u=>h.trans u
def Le.trans{a b d:aY α}(c:Le a b)(B:Le b d):Le a d:=λr h=>B r (c r h)
def Le.none(b:aY α):Le (none:aY α) b:=λr h=>by cases h
def Le.bind{β:Type}{a b:aY α}{f g:α->aY β}(h:Le a b)(B:∀x,Le (f x) (g x)):Le (a.bind f) (b.bind g):=λr c=>by have⟨x,d,u⟩:=ζg.1 c;rw[h x d];exact B x r u
end
section
variable{S:Sys}{c:cm}{β γ δ:Type}{Q:Out×St->aY β}{L:aY β}{e:γ->aY β}
def Ks{dr:X'}{fr:ST}{dst:aY Nat}{now:X'}{az:QR}{st:St}{f:Y'}{svs args:SW}{cs:So}{m:aY δ}{E:δ->So}(a:Le (m.bind λr=>some (E r)) (gV c f cs))(b:S.E.keep f=false)(D:bW S.N st.g az=some svs)(G:mz svs=some (f,args))
 (B:oI (jt st.m 8) args=some cs)(J:((!dr||now)||gB st.m fr args)=true)(d:∀r,((result (E r)).scalar||(dz args).isSome)=true):
 Le (m.bind λr=>some (cW st dst (.v (result (E r))))) (gp S c dr fr ⟨dst,none,now,.c,az,[],[]⟩ st):=by
 intro q w;have⟨r,e,z⟩:=ζg.1 w;have u:gV c f cs=(some r).bind λr=>some (E r):=a _ (by rw[e];rfl)
 rw[aao (m:=some r) u b D G B J d];exact z
def Tz{σ ε ρ:Type}{f:St->aY (Out×St)}{step:σ->aY (Fw σ ε ρ)}{eσ:σ->St}{eε:ε->Nat×St}{eρ:ρ->St}(h:∀s,Le ((step s).bind λw=>some (Fw.out eσ eε eρ w)) (f (eσ s)))(s:σ):
 Le ((bF step s).bind λw=>some (Fw.out (λe=>Empty.elim e) eε eρ w)) (qG f (eσ s)):=by
 have key:∀k s r,kU step k s=some r->kH f k (eσ s)=some (Fw.out (λe=>Empty.elim e) eε eρ r):=by intro k;induction k with|zero=>intro s r h;simp[kU]at h|succ k C=>intro s r u;simp only[kU]at u;cases z:step s with|none=>rw[z]at u;cases u|some w=>rw[z]at u;have B:=h s (Fw.out eσ eε eρ w) (by rw[z];rfl);simp only[kH,B];cases w with|n a=>exact C a r u|x e=>cases u;rfl|r b=>cases u;rfl
 intro r c;have⟨w,d,B⟩:=ζg.1 c;have⟨k,g⟩:=qz.1 d;cases B;exact oW.2 ⟨k,key k s w g⟩
def abn{σ ε ρ:Type}{a:RC}{fs:QQ}{step:σ->aY (Fw σ ε ρ)}{eσ:σ->St}{eε:ε->Nat×St}{eρ:ρ->St}{s:σ}{B:ε->aY γ}{fr:ρ->aY γ}
 (D:L=me S c Q (.loop a) fs (eσ s))(h:∀s,Le ((step s).bind λw=>some (Fw.out eσ eε eρ w)) (me S c some a [] (eσ s)))
 (G:∀x,Le ((B x).bind e) (oU S c Q fs (eε x).1 (eε x).2))(d:∀b,Le ((fr b).bind e) (Q (.ret,eρ b))):Le (((bF step s).bind (Fw.elim B fr)).bind e) L:=by
 subst D;have g:me S c Q (.loop a) fs (eσ s)=(qG (cN S c a) (eσ s)).bind (Hy (o8 S c Q fs) (oU S c Q fs) (λst=>Q (.ret,st))):=by unfold me;rw[Gl];rfl
 rw[g];have u:=Tz (step:=step) (f:=cN S c a) (eσ:=eσ) (eε:=eε) (eρ:=eρ) (λs=>by rw[DC];exact h s) s
 cases z:bF step s with
 |none=>exact Le.none _|some w=>
  have C:=u _ (by rw[z];rfl)
  rw[C]
  cases w with
  |n a=>cases a|x a=>exact G a|r a=>exact d a
def L4{α σ ε ρ:Type}{f:So->Tb bJ->aY (Out×Tb bJ)}{step:α->σ->aY (Fw σ ε ρ)}{eI:α->So}{eσ:σ->Tb bJ}{eε:ε->Nat×Tb bJ}{eρ:ρ->Tb bJ}
 (h:∀x s,Le ((step x s).bind λw=>some (Fw.yM eσ eε eρ w)) (f (eI x) (eσ s))):∀(xs:aX α)(s:σ),Le ((mb step xs s).bind λw=>some (Fw.yM eσ eε eρ w)) (s8 f (xs.map eI) (eσ s))
 |[],s=>λr a=>a|x::xs,s=>by simp only[map_cons,s8,mb];cases B:step x s with|none=>exact Le.none _|some w=>have D:=h x s (Fw.yM eσ eε eρ w) (by rw[B];rfl);rw[D];cases w with|n u=>simp only[ζb,Fw.yM];exact L4 h xs u|x e=>exact Le.refl _|r b=>exact Le.refl _
def abo{α σ ε ρ:Type}{g:Arg}{ps:ST}{a b:RC}{fs:QQ}{f:Y'}{x y:So}{d:aX α}{eI:α->So}{step:α->σ->aY (Fw σ ε ρ)}{eσ:σ->Tb bJ}{eε:ε->Nat×Tb bJ}{eρ:ρ->Tb bJ}{i:Tb SV}{s:σ}
 {fn:σ->aY γ}{B:ε->aY γ}{fr:ρ->aY γ}
 (D:L=me S c Q (.each g ps a b) fs ⟨i,eσ s,[],[],true,0⟩)(j:tv S.N i g=some (.v (.clo f x y)))(k:S.items f x y=some (d.map eI))(G:∀x,(eI x).length=ps.length)
 (h:∀x s,Le ((step x s).bind λw=>some (Fw.yM eσ eε eρ w)) (me S c (A2 S c b) a [] ⟨zy i ps ((eI x).map .v),eσ s,sE i,[],true,0⟩))
 (J:∀s,Le ((fn s).bind e) (o8 S c Q fs ⟨i,eσ s,[],[],true,0⟩))
 (U:∀x,Le ((B x).bind e) (oU S c Q fs (eε x).1 ⟨i,(eε x).2,[],[],true,0⟩))(l:∀b,Le ((fr b).bind e) (Q (.ret,⟨i,eρ b,[],[],true,0⟩))):
 Le (((mb step d s).bind (Fw.sZ fn B fr)).bind e) L:=by
 subst D;have m:me S c Q (.each g ps a b) fs ⟨i,eσ s,[],[],true,0⟩=(cN S c (.each g ps a b) ⟨i,eσ s,[],[],true,0⟩).bind (Hy (o8 S c Q fs) (oU S c Q fs) (λst=>Q (.ret,st))):=by unfold me;rw[Gl]
 rw[m];simp only[cN,j,k];have u:=L4 (step:=step) (f:=jT ps (cN S c a) (cN S c b) ⟨i,eσ s,[],[],true,0⟩) (eI:=eI) (eσ:=eσ) (eε:=eε) (eρ:=eρ) (λx s=>by rw[PG _ _ _ _ _ _ (G x)];exact h x s) d s
 cases z:mb step d s with
 |none=>exact Le.none _|some w=>
  have C:=u _ (by rw[z];rfl)
  rw[C]
  cases w with
  |n a=>exact J a|x a=>exact U a|r a=>exact l a
end
inductive Fo where
 |rc(c:RC)|ops(dr:Bool)(fr:List Nat)(l:List RO)|nx|ex(k:Nat)|rt
abbrev bE(g:Tb SV)(m:Tb bJ):St:=⟨g,m,[],[],true,0⟩
section
variable(S:Sys)(c:cm){β:Type}(Q:Out×St->aY β)
def rn:Fo->QQ->St->aY β
 |.rc a,fs,st=>me S c Q a fs st|.ops dr fr l,fs,st=>xK S c dr fr l (o8 S c Q fs) st|.nx,fs,st=>o8 S c Q fs st|.ex k,fs,st=>oU S c Q fs k st|.rt,_,st=>Q (.ret,st)
def Bt:Fo->QQ->St->aY (Fo×QQ×St)
 |.rc .skip,fs,st=>some (.nx,fs,st)|.rc (.ops l),fs,st=>some (.ops false [] l,fs,st)|.rc (.rK l),fs,st=>some (.ops true [] l,fs,st)|.rc (.seq a b),fs,st=>some (.rc a,.seq b::fs,st)|.rc (.cond y a b),fs,st=>match tv S.N st.g y with
  |some (.v (.bool true))=>some (.rc a,fs,st)|some (.v (.bool false))=>some (.rc b,fs,st)|_=>none
 |.rc (.block id a),fs,st=>some (.rc a,.blk id::fs,st)|.rc (.exit k),fs,st=>some (.ex k,fs,st)|.rc .ret,fs,st=>some (.rt,fs,st)|.rc (.gh g a),fs,st=>match ghost g st with
  |some st'=>some (.rc a,fs,st')|none=>none
 |.rc (.hg a g),fs,st=>some (.rc a,.gst g::fs,st)|.rc (.loop _),_,_=>none|.rc (.each ..),_,_=>none|.ops _ _ [],fs,st=>some (.nx,fs,st)|.ops dr fr (⟨d,gd,now,k,az,dd,[]⟩::r),fs,st=>match gp S c dr fr ⟨d,gd,now,k,az,[],[]⟩ st with
  |some st'=>some (.ops dr (if dr then tB fr ⟨d,gd,now,k,az,[],[]⟩else fr) r,fs,rG dd st')|none=>none
 |.ops dr fr (⟨d,gd,now,k,az,dd,x::xs⟩::r),fs,st=>if dr&& !(CL x&&xs.all CL)then none else match ghost x st with
  |some st'=>some (.ops dr fr (⟨d,gd,now,k,az,dd,xs⟩::r),fs,st')|none=>none
 |.nx,.seq b::fs,st=>some (.rc b,fs,st)|.nx,.blk _::fs,st=>some (.nx,fs,st)|.nx,.gst g::fs,st=>match ghost g st with
  |some st'=>some (.nx,fs,st')|none=>none
 |.nx,[],_=>none|.ex k,.seq _::fs,st=>some (.ex k,fs,st)|.ex k,.blk id::fs,st=>some (if k=id then .nx else .ex k,fs,st)|.ex k,.gst _::fs,st=>some (.ex k,fs,st)|.ex _,[],_=>none|.rt,_,_=>none
def jd:Nat->Fo->QQ->St->aY (Fo×QQ×St)
 |0,fo,fs,st=>some (fo,fs,st)|n+1,fo,fs,st=>match Bt S c fo fs st with
  |some (fo',fs',st')=>jd n fo' fs' st'|none=>none
end
section
variable{S:Sys}{c:cm}{β γ δ:Type}{Q:Out×St->aY β}{e:γ->aY β}
def UM{fo fo':Fo}{fs fs':QQ}{st st':St}(h:Bt S c fo fs st=some (fo',fs',st')):rn S c Q fo fs st=rn S c Q fo' fs' st':=by
 cases fo with
 |rc a=>cases a with|cond y a b=>simp only[Bt]at h;split at h;(next u=>cases h;simp only[rn,me,rU,u,bg,if_true]);(next u=>cases h;simp only[rn,me,rU,u,bg];rfl);cases h|gh g a=>simp only[Bt]at h;split at h;(next u=>cases h;simp only[rn,me,rU,u,ζb]);cases h|loop a=>cases h|each g ps a b=>cases h|seq a b=>cases h;simp only[rn,me,rU,o8,oU]|block id a=>cases h;simp only[rn,me,rU,o8,oU]|hg a g=>cases h;simp only[rn,me,rU,o8,oU]|_=>cases h;simp only[rn,me,rU]
 |ops dr fr l=>cases l with|nil=>cases h;simp only[rn,xK]|cons o r=>have⟨d,gd,now,k,az,dd,pre⟩:=o;cases pre with|nil=>simp only[Bt]at h;split at h;(next u=>cases h;simp only[rn,xK,Eb,RO.strip,ζb,u]);cases h|cons x w=>simp only[Bt]at h;split at h;cases h;rename_i hd;split at h;rename_i u;cases h;(cases dr with|true=>simp only[Bool.true_and,Bool.not_eq_true',Bool.not_eq_false,ζh]at hd;simp only[rn,xK,RO.strip,Eu,qV,if_true,List.all_cons,hd.1,hd.2,Bool.and_self,u,ζb]|false=>simp only[rn,xK,RO.strip,Eu,qV,Bool.false_eq_true,if_false,u,ζb]);cases h
 |nx=>cases fs with|nil=>cases h|cons f fs=>cases f with|seq b=>cases h;simp only[rn,me,o8]|blk id=>cases h;simp only[rn,o8]|gst g=>simp only[Bt]at h;split at h;(next u=>cases h;simp only[rn,o8,u,ζb]);cases h
 |ex k=>cases fs with|nil=>cases h|cons f fs=>cases f with|seq b=>cases h;simp only[rn,oU]|blk id=>cases h;simp only[rn,oU];by_cases e:k=id;simp only[if_pos e,rn];simp only[if_neg e,rn]|gst g=>cases h;simp only[rn,oU]
 |rt=>cases h
def qP:∀{n:Nat}{fo fo':Fo}{fs fs':QQ}{st st':St},jd S c n fo fs st=some (fo',fs',st')->rn S c Q fo fs st=rn S c Q fo' fs' st'
 |0,fo,fo',fs,fs',st,st',h=>by cases h;rfl|n+1,fo,fo',fs,fs',st,st',h=>by simp only[jd]at h;split at h;(next a b d B=>rw[UM B];exact qP h);cases h
def CA{n:Nat}{fo fo':Fo}{fs fs':QQ}{st st':St}{m:aY β}(h:jd S c n fo fs st=some (fo',fs',st'))(B:Le m (rn S c Q fo' fs' st')):Le m (rn S c Q fo fs st):=by rw[qP h];exact B
def ac3{n:Nat}{fo fo':Fo}{fs fs':QQ}{st st':St}{r:γ}(h:jd S c n fo fs st=some (fo',fs',st'))(B:rn S c Q fo' fs' st'=e r):Le ((some r).bind e) (rn S c Q fo fs st):=by rw[qP h];exact Le.of_eq B
def Wj{m:aY δ}{f:δ->aY γ}{L:aY β}(k:δ->aY β)(B:Le (m.bind k) L)(b:∀r,Le ((f r).bind e) (k r)):Le ((m.bind f).bind e) L:=by intro r a;cases m with|none=>cases a|some x=>exact B r (b x r a)
def ac8{n:Nat}{fo:Fo}{fs fs':QQ}{st0:St}{dr:X'}{q l:R0}{fr:ST}{st:St}{d:aY Nat}{gd:aY (Nat×X')}{now:X'}{k:K}{az:QR}{dd:ST}{m:aY δ}{g:δ->St}{f:δ->aY γ}
 (B:jd S c n fo fs st0=some (.ops dr fr q,fs',st))(D:q=⟨d,gd,now,k,az,dd,[]⟩::l)(a:wanted st.g gd=some true)
 (G:Le (m.bind λx=>some (g x)) (gp S c dr fr ⟨d,none,now,k,az,[],[]⟩ st))
 (h:∀x,m=some x->Le ((f x).bind e) (rn S c Q (.ops dr (if dr then tB fr ⟨d,gd,now,k,az,[],[]⟩else fr) l) fs' (rG dd (g x)))):Le ((m.bind f).bind e) (rn S c Q fo fs st0):=by
 rw[qP B];subst D;simp only[rn,xK,RO.strip,Eb,ζb];rw[RH a]
 cases m with
 |none=>exact Le.none _|some x=>rw[G (g x) rfl];exact h x rfl
def V5{n:Nat}{fo:Fo}{fs fs':QQ}{st0:St}{dr:X'}{q l:R0}{fr:ST}{st st':St}{d:aY Nat}{gd:aY (Nat×X')}{now:X'}{k:K}{az:QR}{dd:ST}{m:aY β}
 (B:jd S c n fo fs st0=some (.ops dr fr q,fs',st))(D:q=⟨d,gd,now,k,az,dd,[]⟩::l)(a:wanted st.g gd=some true)
 (G:gp S c dr fr ⟨d,none,now,k,az,[],[]⟩ st=some st')
 (h:Le m (rn S c Q (.ops dr (if dr then tB fr ⟨d,gd,now,k,az,[],[]⟩else fr) l) fs' (rG dd st'))):Le m (rn S c Q fo fs st0):=by
 rw[qP B];subst D;simp only[rn,xK,RO.strip,Eb,ζb];rw[RH a,G];exact h
def Rp{n:Nat}{fo:Fo}{B:QQ}{st:St}{σ ε ρ:Type}{a:RC}{fs:QQ}{step:σ->aY (Fw σ ε ρ)}{eσ:σ->St}{eε:ε->Nat×St}{eρ:ρ->St}{s:σ}{D:ε->aY γ}{fr:ρ->aY γ}
 (G:jd S c n fo B st=some (.rc (.loop a),fs,eσ s))(h:∀s,Le ((step s).bind λw=>some (Fw.out eσ eε eρ w)) (rn S c some (.rc a) [] (eσ s)))
 (J:∀x,Le ((D x).bind e) (rn S c Q (.ex (eε x).1) fs (eε x).2))(d:∀b,Le ((fr b).bind e) (Q (.ret,eρ b))):Le (((bF step s).bind (Fw.elim D fr)).bind e) (rn S c Q fo B st):=by
 rw[qP G];exact abn (L:=rn S c Q (.rc (.loop a)) fs (eσ s)) rfl h J d
def aar{n:Nat}{fo:Fo}{B:QQ}{st:St}{α σ ε ρ:Type}{g:Arg}{ps:ST}{a b:RC}{fs:QQ}{f:Y'}{x y:So}{d:aX α}{eI:α->So}{step:α->σ->aY (Fw σ ε ρ)}{eσ:σ->Tb bJ}{eε:ε->Nat×Tb bJ}{eρ:ρ->Tb bJ}{i:Tb SV}{s:σ}
 {fn:σ->aY γ}{D:ε->aY γ}{fr:ρ->aY γ}
 (G:jd S c n fo B st=some (.rc (.each g ps a b),fs,bE i (eσ s)))(j:tv S.N i g=some (.v (.clo f x y)))(k:S.items f x y=some (d.map eI))(J:∀x,(eI x).length=ps.length)
 (h:∀x s,Le ((step x s).bind λw=>some (Fw.yM eσ eε eρ w)) (rn S c (A2 S c b) (.rc a) [] ⟨zy i ps ((eI x).map .v),eσ s,sE i,[],true,0⟩))
 (U:∀s,Le ((fn s).bind e) (rn S c Q .nx fs (bE i (eσ s))))
 (W:∀x,Le ((D x).bind e) (rn S c Q (.ex (eε x).1) fs (bE i (eε x).2)))(l:∀b,Le ((fr b).bind e) (Q (.ret,bE i (eρ b)))):
 Le (((mb step d s).bind (Fw.sZ fn D fr)).bind e) (rn S c Q fo B st):=by
 rw[qP G];exact abo (L:=rn S c Q (.rc (.each g ps a b)) fs (bE i (eσ s))) rfl j k J h U W l
def aau{b:RC}{st st':St}{m:aY (Out×Tb bJ)}{fs:QQ}{n:Nat}{fo:Fo}(h:jd S c n fo fs st=some (.nx,[],st'))(B:Le m (rn S c yM (.rc b) [] st')):Le m (rn S c (A2 S c b) fo fs st):=by rw[qP h];exact B
def ab1{α:Type}{n:Nat}{fo fo':Fo}{fs fs':QQ}{st:St}{A:aY α->St}{o:aY α}{f:α->aY γ}(h:jd S c n fo fs st=some (fo',fs',A o))
 (B:∀x,o=some x->Le ((f x).bind e) (rn S c Q fo' fs' (A (some x)))):Le ((o.bind f).bind e) (rn S c Q fo fs st):=by
 rw[qP h]
 cases o with
 |none=>exact Le.none _|some x=>exact B x rfl
def ada{T:sH}{f:Y'}{rf:RF}{az:So}{m:aY So}(B:T f=some rf)(D:az.length<=rf.na)(h:Le m (rn S (di S T) (pI rf.rs) (.rc rf.body) [] (start (az.map .v) []))):Le m (gV (di S T) f az):=by rw[Xo B az D];exact h
end
section
variable{α:Type}[bD α]
abbrev cv(x:α):SV:=.v (enc x)
abbrev cp(x:α):SV:=.v (.fptr (cells x))
abbrev bx(x:α):bJ:=.box ((cells x).map .v)
end
structure eR(S:Sys)(c:cm){α δ:Type}(fn:FuncId)(A:α->List V)(E:δ->List V)(p:α->Option δ)(sc:Bool):Prop where
 k:S.E.keep fn=false
 h:∀z,Le ((p z).bind λr=>some (E r)) (gV c fn (A z))
 s:sc=true->∀r,(result (E r)).scalar=true
section
variable{S:Sys}{c:cm}{β γ δ α:Type}{Q:Out×St->aY β}{e:γ->aY β}{fo:Fo}{fs:QQ}{st0:St}{l:R0}{d:aY Nat}{gd:aY (Nat×X')}{now:X'}{az:QR}{dd:ST}
abbrev uY(S:Sys)(c:cm)(Q:Out×St->aY β)(dr:Bool)(fr:aX Nat)(d:aY Nat)(k:K)(l:aX RO)(fs:aX Fm)(dd:aX Nat)(st:St):aY β:=rn S c Q (.ops dr (if dr then(match k with|.p _|.r _=>fr|_=>match d with|some d=>d::fr|none=>fr)else fr) l) fs (rG dd st)
def HQ(fr:ST)(k:K):tB fr ⟨d,gd,now,k,az,[],[]⟩=(match k with|.p _|.r _=>fr|_=>match d with|some d=>d::fr|none=>fr):=by cases k<;>cases d<;>rfl
def Ea{n:Nat}{dr:X'}{fr:ST}{q:R0}{fs':QQ}{st:St}{k:K}{m:aY δ}{g:δ->St}{f:δ->aY γ}
 (B:jd S c n fo fs st0=some (.ops dr fr q,fs',st))(D:q=⟨d,gd,now,k,az,dd,[]⟩::l)(a:wanted st.g gd=some true)
 (G:Le (m.bind λx=>some (g x)) (gp S c dr fr ⟨d,none,now,k,az,[],[]⟩ st))
 (h:∀x,m=some x->Le ((f x).bind e) (uY S c Q dr fr d k l fs' dd (g x))):Le ((m.bind f).bind e) (rn S c Q fo fs st0):=
 ac8 B D a G (λx u=>by rw[HQ];grind)
def tN{n:Nat}{dr:X'}{fr:ST}{q:R0}{fs':QQ}{st st':St}{k:K}{m:aY β}
 (B:jd S c n fo fs st0=some (.ops dr fr q,fs',st))(D:q=⟨d,gd,now,k,az,dd,[]⟩::l)(a:wanted st.g gd=some true)
 (G:gp S c dr fr ⟨d,none,now,k,az,[],[]⟩ st=some st')(h:Le m (uY S c Q dr fr d k l fs' dd st')):Le m (rn S c Q fo fs st0):=
 V5 B D a G (by rw[HQ];omega)
section
variable[bD α]
def Tl(n:Nat)(dr:X')(fr:ST)(q:R0)(fs':QQ)(st:St)(k:T2){sz:Nat}{s:Sl α}{i:Int}{f:α->aY γ}(D:q=⟨d,gd,now,.p (.idxS sz),az,dd,[]⟩::l)
 (B:(jd S c n fo fs st0,wanted st.g gd,bW S.N st.g az,sz)=(some (.ops dr fr q,fs',st),some true,some [.v (cg s),.v (.int k i)],bD.size α))
 (h:∀x,idx s i=some x->Le ((f x).bind e) (uY S c Q dr fr d (.p (.idxS sz)) l fs' dd (cW st d (cp x)))):Le (((idx s i).bind f).bind e) (rn S c Q fo fs st0):=by
 simp at B;exact Ea B.1 D B.2.1 (Le.of_eq (WN B.2.2.1 B.2.2.2)) h
def aac(n:Nat)(dr:X')(fr:ST)(q:R0)(fs':QQ)(st:St)(s:Sl α){m:aY β}(D:q=⟨d,gd,now,.p .lenSl,az,dd,[]⟩::l)
 (B:(jd S c n fo fs st0,wanted st.g gd,bW S.N st.g az)=(some (.ops dr fr q,fs',st),some true,some [.v (cg s)]))
 (h:Le m (uY S c Q dr fr d (.p .lenSl) l fs' dd (cW st d (.v (.int .i64 s.l.length))))):Le m (rn S c Q fo fs st0):=by
 simp at B;exact tN B.1 D B.2.1 (Wy B.2.2) h
end
section
variable{q:R0}{fs':QQ}
end
def Km(m:Tb bJ)(n:Nat)(l:So):oI (jt m n) (l.map .v)=some l:=by rw[<-(yu m n).2,w6]
variable{A:α->So}{E:δ->So}{p:α->aY δ}{fn:Y'}{sc:X'}
end
abbrev iv(n:Int):SV:=.v (.int .i64 n)
abbrev bv(b:Bool):SV:=.v (.bool b)
abbrev len{α:Type}(s:Sl α):Int:=((List.length (Sl.l s):Nat):Int)
abbrev o1(d:Nat)(a:Arg)(dd:aX Nat):RO:=⟨some d,none,false,.p .id,[a],dd,[]⟩
abbrev o2(d:Nat)(k:K)(az:aX Arg)(dd:aX Nat):RO:=⟨some d,none,false,k,az,dd,[]⟩
abbrev o3(d s:Nat)(b:Bool)(k:K)(az:aX Arg)(dd:aX Nat):RO:=⟨some d,some (s,b),false,k,az,dd,[]⟩
def Oc(a b:a_):X':=[a.proc,a.index]==[b.proc,b.index]
section
variable{α:Type}[bD α]
def wV(h:bD.agg α=false)(a:α):cells a=[enc a]:=by
 have u:(cells a).length=1:=by rw[show(cells a).length=_ from bD.len a,bD.plain h]
 unfold enc;rw[if_neg (by simp[h])];match b:cells a,u with|[x],_=>rfl
def Dc(h:bD.agg α=true)(a:α):enc a=.agg (cells a):=by unfold enc;grind
def kP(a:α):V.good (enc a)=true:=by have h:V.cH (cells a)=true:=bD.good a;cases u:bD.agg α with|true=>rw[Dc u];exact h|false=>rw[wV u]at h;simp[V.cH]at h;omega
def oB(s:Sl α):V.one (enc s)=true:=Jj s
def TY(s:α)(h:bD.agg α=false):V.one (enc s)=true:=by have:=bD.one s;rw[show bD.cells s=cells s from rfl,wV h]at this;grind
end
instance{α:Type}[bD α]:bD (aY α)where
 cells o:=[match o with|none=>.jk|some x=>.fptr (cells x)]
 agg:=false
 size:=1
 len _:=rfl
 good o:=by cases o with|none=>rfl|some x=>simp only[V.cH,V.good,Bool.and_true];exact bD.good x
 one o:=by cases o<;>rfl
 plain _:=rfl
structure U8 where
 v:Int
 deriving Inhabited,DecidableEq
instance:bD U8 where
 cells n:=[.int .u8 n.v]
 agg:=false
 size:=1
 len _:=rfl
 good _:=rfl
 one _:=rfl
 plain _:=rfl
structure U64 where
 v:Int
 deriving Inhabited,DecidableEq
instance:bD U64 where
 cells n:=[.int .u64 n.v]
 agg:=false
 size:=1
 len _:=rfl
 good _:=rfl
 one _:=rfl
 plain _:=rfl
structure U32 where
 v:Int
 deriving Inhabited,DecidableEq
instance:bD U32 where
 cells n:=[.int .u32 n.v]
 agg:=false
 size:=1
 len _:=rfl
 good _:=rfl
 one _:=rfl
 plain _:=rfl
structure I32 where
 v:Int
 deriving Inhabited,DecidableEq
instance:bD I32 where
 cells n:=[.int .i32 n.v]
 agg:=false
 size:=1
 len _:=rfl
 good _:=rfl
 one _:=rfl
 plain _:=rfl
structure mS(S:Sys)(c:cm){α δ:Type}(g:FuncId)(w e:List V)(A:α->List V)(R:δ->List V)(p:α->Option δ)(b:Bool):Prop where
 f:eR S c g (λz=>w++A z++e) R p b
section
variable{S:Sys}{c:cm}{β γ δ α:Type}{Q:Out×St->aY β}{e:γ->aY β}{fo:Fo}{fs:QQ}{st0:St}{l:R0}{d:aY Nat}{gd:aY (Nat×X')}{now:X'}{az:QR}{dd:ST}
def mI{α:Type}[bD α](a:α):V.cells (enc a)=cells a:=by cases u:bD.agg α with|true=>rw[Dc u];rfl|false=>have b:=TY a u;rw[wV u];cases h:enc a<;>first|rfl|(rw[h]at b;cases b)
def s9{α:Type}[bD α](a:α):(cells a).all V.one=true:=bD.one a
def g_{α:Type}[bD α](a:α):(cells a).length=bD.size α:=bD.len a
def Ast[bD α](n:Nat)(dr:X')(fr:ST)(q:R0)(fs':QQ)(st:St)(u o:Nat)(x:α)(cs B:SW){sz:Nat}{m:aY β}(G:q=⟨d,gd,now,.l (.store sz),az,dd,[]⟩::l)
 (D:(jd S c n fo fs st0,wanted st.g gd,bW S.N st.g az,bl st.m u,(!dr||now),sz,ble (o+sz) cs.length,cs.take o++(cells x).map .v++cs.drop (o+sz))=(some (.ops dr fr q,fs',st),some true,some [.ptr u o,cv x],some (.box cs),true,bD.size α,true,B))
 (h:Le m (uY S c Q dr fr d (.l (.store sz)) l fs' dd (cW {st with m:=bM st.m u (.box B)} d (.v .undef)))):Le m (rn S c Q fo fs st0):=by
 simp only[ζc]at D;have⟨a,w,z,C,I,J,L,O⟩:=D;refine tN a G w ?_ h;rw[zp,z];subst J;have T:=Nat.le_of_ble_eq_true L;simp only[ζb,I,if_true,oT,C,putCells,mI,g_,s9,T,and_self,O,map_some]
def Cx{α:Type}[bD α]:∀(xs:aX α)(pre:S')(B:S'),B.length=xs.length->fP (bD.size α) (pre++B) ((range' pre.length xs.length).zip (xs.map enc))=some (pre++rows xs)
 |[],pre,B,h=>by have:=List.eq_nil_of_length_eq_zero h;subst this;rfl|x::xs,pre,s::B,h=>by simp only[length_cons,List.range'_succ,map_cons,List.zip_cons_cons,fP,mI,g_,s9];have:=Cx xs (pre++[cells x]) B Zac;simp only[ζi,length_cons,length_nil]at this;have e:(pre++s::B).set pre.length (cells x)=pre++[cells x]++B:=Zab;rw[e,this];simp[rows]
def Abs[bD α](n:Nat)(dr:X')(fr:ST)(q:R0)(fs':QQ)(st:St)(xs:aX α){u sz ln:Nat}{zero:So}{ix:ST}{m:aY β}(D:q=⟨some u,gd,now,.a (.buildSl sz ln zero ix),az,dd,[]⟩::l)
 (G:st.new u=true)(B:(jd S c n fo fs st0,wanted st.g gd,bW S.N st.g az,sz,ln,ix)=(some (.ops dr fr q,fs',st),some true,some ((xs.map enc).map .v),bD.size α,xs.length,range' 0 xs.length))
 (h:Le m (uY S c Q dr fr (some u) (.a (.buildSl sz ln zero ix)) l fs' dd {st with g:=bM st.g u (.own u),m:=bM st.m u (cK (.row xs))})):Le m (rn S c Q fo fs st0):=by
 simp only[ζc]at B;have⟨a,w,z,C,I,J⟩:=B;subst C I J;refine tN a D w ?_ h;rw[AN,z];simp only[ζb,G,qv,ou,List.length_range',length_map];have:=Cx xs [] (replicate xs.length zero) Zab
 simp at this;rw[this];rfl
def ac_[bD α](n:Nat)(dr:X')(fr:ST)(q:R0)(fs':QQ)(st:St)(x:α)(vs:So){z:So}{pl:aX (Nat×Nat)}{m:aY β}(D:q=⟨d,gd,now,.p (.build z pl),az,dd,[]⟩::l)
 (hp:mA z pl vs=some (cells x))(G:bD.agg α=true)
 (B:(jd S c n fo fs st0,wanted st.g gd,bW S.N st.g az)=(some (.ops dr fr q,fs',st),some true,some (vs.map .v)))
 (h:Le m (uY S c Q dr fr d (.p (.build z pl)) l fs' dd (cW st d (cv x)))):Le m (rn S c Q fo fs st0):=by
 simp at B;refine tN B.1 D B.2.1 (CZ B.2.2 rfl ?_) h;unfold kK;rw[ou];simp only[Ut,hp,map_some];show some (SV.v (.agg (cells x)))=some (.v (enc x));rw[Dc G]
section
variable[bD α]
def ac6(n:Nat)(dr:X')(fr:ST)(q:R0)(fs':QQ)(st:St)(g i:X')(D:So){sz:Nat}{s:Sl α}{a b:Ps}{f:Sl α->aY γ}(G:q=⟨d,gd,now,.p (.slice sz g i),az,dd,[]⟩::l)
 (B:(jd S c n fo fs st0,wanted st.g gd,bW S.N st.g az,ot g i D,sz)=(some (.ops dr fr q,fs',st),some true,some (.v (cg s)::D.map .v),some (a,b),bD.size α))
 (h:∀x,gN s a b=some x->Le ((f x).bind e) (uY S c Q dr fr d (.p (.slice sz g i)) l fs' dd (cW st d (.v (cg x))))):Le (((gN s a b).bind f).bind e) (rn S c Q fo fs st0):=by
 simp at B;refine Ea B.1 G B.2.1 (Le.of_eq ?_) h;have w:=B.2.2.1;unfold gp nX;simp[wanted,gH,w];have u:kK S.N st.m (.slice sz g i) ((cg s::D).map .v)=(gN s a b).bind λx=>some (.v (cg x)):=by unfold kK;rw[ou];simp[bN,B.2.2.2.1,Pj s a b sz B.2.2.2.2];cases gN s a b<;>rfl
 simp at u⊢;rw[u];cases gN s a b<;>rfl
def qQ(s:Sl α)(a b:Ps):aY (Sl α):=
 match s with
 |.nil|.emp=>none|.row x|.part x=>(ez x.length a b).map λ(l,h)=>.part ((x.take h).drop l)
def abK(n:Nat)(fr:ST)(q:R0)(fs':QQ)(st:St)(d i:X')(u:Nat)(D:So){t sz:Nat}{s:Sl α}{a b:Ps}{f:Sl α->aY γ}(J:q=⟨some t,gd,now,.p (.slice sz d i),az,dd,[]⟩::l)
 (G:St.new {st with m:=eF u st.m} t=true)(B:(jd S c n fo fs st0,wanted st.g gd,bW S.N st.g az,ot d i D,bl st.m u,sz)=(some (.ops false fr q,fs',st),some true,some (.own u::D.map .v),some (a,b),some (cK s),bD.size α))
 (h:∀x,qQ s a b=some x->Le ((f x).bind e) (uY S c Q false fr (some t) (.p (.slice sz d i)) l fs' dd {st with g:=bM st.g t (.own t),m:=bM (eF u st.m) t (cK x)})):Le (((qQ s a b).bind f).bind e) (rn S c Q fo fs st0):=by
 simp at B;refine Ea B.1 J B.2.1 (Le.of_eq ?_) h;have⟨_,_,z,w,C,I⟩:=B;subst I;unfold gp nX;simp[wanted,gH,z,Ch,ou,C,w]
 cases s with
 |nil=>simp[qQ,cK,Sl.k,cR]|emp=>simp[qQ,cK,Sl.k,cR]|row x=>
  simp[cK,Sl.k,Sl.l,cR,qQ,iZ,w]
  cases ez x.length a b with
  |none=>rfl|some r=>simp[G,cW,rows,map_drop]
 |part x=>
  simp[cK,Sl.k,Sl.l,cR,qQ,iZ,w]
  cases ez x.length a b with
  |none=>rfl|some r=>simp[G,cW,rows,map_drop]
def wY(n:Int)(a:α):aY (Sl α):=if 0<=n/\n<=2147483648 then some (if n=0 then .row []else .part [])else none
def ac7(n:Nat)(dr:X')(fr:ST)(q:R0)(fs':QQ)(st:St){u:Nat}{sz:Nat}{zero:So}{i:Int}{z:α}{f:Sl α->aY γ}(G:q=⟨some u,gd,now,.a (.makeSl sz zero),az,dd,[]⟩::l)
 (J:st.new u=true)(D:(jd S c n fo fs st0,wanted st.g gd,bW S.N st.g az,sz)=(some (.ops dr fr q,fs',st),some true,some [.v (.int .i64 0),.v (.int .i64 i)],bD.size α))
 (h:∀B,wY i z=some B->Le ((f B).bind e) (uY S c Q dr fr (some u) (.a (.makeSl sz zero)) l fs' dd {st with g:=bM st.g u (.own u),m:=bM st.m u (cK B)})):Le (((wY i z).bind f).bind e) (rn S c Q fo fs st0):=by
 simp at D;have⟨d,w,C,I⟩:=D;subst I;refine Ea d G w (Le.of_eq ?_) h;rw[AN,C];simp only[ζb,J,if_true,qv,true_and,wY]
 by_cases b:0<=i/\i<=2147483648
 .rw[if_pos b,if_pos ⟨Int.le_refl 0,b⟩]
  by_cases a:i=0
  .subst a;rfl
  have:¬0=i:=λh=>a h.symm
  simp[if_neg a,if_neg this];rfl
 grind
end
end
structure b9(n:Nat)(α:Type)where
 l:List α
 len:l.length=n
def U4{α:Type}[bD α](l:aX α):(l.map (cells (α:=α))).flatten.length=l.length*bD.size α:=by induction l with|nil=>simp|cons a l u=>simp[u,g_,add_mul,Nat.add_comm]
def Rr{α:Type}[bD α](l:aX α):V.cH (l.map (cells (α:=α))).flatten=true:=by induction l with|nil=>rfl|cons a l u=>have h:∀(x y:So),V.cH x=true->V.cH y=true->V.cH (x++y)=true:=(by intro x;induction x with|nil=>grind|cons b x w=>intro y c z;simp[V.cH]at c⊢;grind);exact h _ _ (bD.good a) u
instance{n:Nat}{α:Type}[bD α]:bD (b9 n α)where
 cells a:=(a.l.map cells).flatten
 agg:=true
 size:=n*bD.size α
 len a:=by rw[U4,a.len]
 good a:=Rr a.l
 one a:=by have:∀l:aX α,(l.map (cells (α:=α))).flatten.all V.one=true:=(by intro l;induction l with|nil=>rfl|cons a l u=>simp only[map_cons,flatten_cons,List.all_append,u,s9,Bool.and_self]);exact this a.l
 plain h:=by cases h
def b9.Q7(n:Nat){α:Type}(z:α):b9 n α:=⟨replicate n z,Zab⟩
def b9.at{n:Nat}{α:Type}(a:b9 n α)(i:Int):aY α:=if 0<=i then a.l[i.toNat]?else none
def b9.set{n:Nat}{α:Type}(a:b9 n α)(i:Int)(x:α):b9 n α:=⟨a.l.set i.toNat x,by simp[a.len]⟩
def pa{n:Nat}{α:Type}[bD α](a:b9 n α)(i:Int):So:=(cells a).drop (i.toNat*bD.size α)
def b9.xV{n:Nat}{α:Type}{a:b9 n α}{i:Int}{x:α}(h:a.at i=some x):0<=i/\i.toNat<n/\a.l[i.toNat]?=some x:=by
 unfold b9.at at h;split at h;next b=>refine⟨b,?_,h⟩;have:=(ζe.1 h).1;rw[<-a.len];simp_all
 simp_all
def HT{α:Type}[bD α]:∀(l:aX α)(k:Nat),((l.map (cells (α:=α))).flatten).drop (k*bD.size α)=((l.drop k).map (cells (α:=α))).flatten
 |[],k=>Zab|a::l,0=>Zab|a::l,k+1=>by have h:=g_ a;rw[map_cons,flatten_cons,List.drop_succ_cons,<-HT l k,add_mul,one_mul,Nat.add_comm,<-h,List.drop_length_add_append]
def Dh{n:Nat}{α:Type}[bD α]{a:b9 n α}{i:Int}{x:α}(h:a.at i=some x):∃r,pa a i=cells x++r:=by have⟨b,B,w⟩:=b9.xV h;have⟨u,z⟩:=ζe.1 w;refine⟨((a.l.drop (i.toNat+1)).map cells).flatten,?_⟩;show((a.l.map (cells)).flatten).drop (i.toNat*bD.size α)=_;rw[HT,List.drop_eq_getElem_cons u,map_cons,flatten_cons,z]
section
variable{S:Sys}{c:cm}{β γ δ α:Type}{Q:Out×St->aY β}{e:γ->aY β}{fo:Fo}{fs:QQ}{st0:St}{l:R0}{d:aY Nat}{gd:aY (Nat×X')}{now:X'}{az:QR}{dd:ST}
section
variable{N:Nat}[bD α]
def acj(n:Nat)(dr:X')(fr:ST)(q:R0)(fs':QQ)(st:St)(k:T2){ln sz:Nat}{a:b9 N α}{i:Int}{f:α->aY γ}(D:q=⟨d,gd,now,.p (.idxA ln sz),az,dd,[]⟩::l)
 (B:(jd S c n fo fs st0,wanted st.g gd,bW S.N st.g az,sz,ln)=(some (.ops dr fr q,fs',st),some true,some [cp a,.v (.int k i)],bD.size α,N))
 (h:∀x,a.at i=some x->Le ((f x).bind e) (uY S c Q dr fr d (.p (.idxA ln sz)) l fs' dd (cW st d (.v (.fptr (pa a i)))))):Le (((a.at i).bind f).bind e) (rn S c Q fo fs st0):=by
 simp at B;have⟨g,w,z,C,G⟩:=B;subst C G;refine Ea g D w ?_ h;intro r b;have⟨x,I,b⟩:=ζg.1 b;have⟨g1,g2,_⟩:=b9.xV I;rw[CZ z rfl ?_]
 .omega
 rw[vL];simp[bN,zI];have u:i.toNat*bD.size α<=(cells a).length:=by rw[g_];exact Nat.mul_le_mul_right _ (Nat.le_of_lt g2)
 rw[if_pos ⟨g1,Zaa⟩,if_pos u]
 rfl
def adb(n:Nat)(dr:X')(fr:ST)(q:R0)(fs':QQ)(st:St)(a:b9 N α)(i:Int)(o:Nat)(x:α)(D:a.at i=some x){k:Nat}{m:aY β}(G:q=⟨d,gd,now,.p (.fieldAddr k),az,dd,[]⟩::l)
 (B:(jd S c n fo fs st0,wanted st.g gd,bW S.N st.g az,ble (o+k) (bD.size α))=(some (.ops dr fr q,fs',st),some true,some [.v (.fptr ((pa a i).drop o))],true))
 (h:Le m (uY S c Q dr fr d (.p (.fieldAddr k)) l fs' dd (cW st d (.v (.fptr ((pa a i).drop (o+k))))))):Le m (rn S c Q fo fs st0):=by
 simp only[ζc]at B;have⟨b,u,w,z⟩:=B;refine tN b G u (CZ w rfl ?_) h;have C:=Nat.le_of_ble_eq_true z;have⟨r,e⟩:=Dh D;have I:(pa a i).length>=bD.size α:=by rw[e,ζi,g_];omega
 rw[K1,Lx,if_pos Zac,drop_drop]
 rfl
def abV(n:Nat)(dr:X')(fr:ST)(q:R0)(fs':QQ)(st:St)(a:b9 N α)(i:Int)(o:Nat)(x:α)(G:a.at i=some x){sz:Nat}{ag:X'}{v:V}(g:(cut (cells x) o sz).bind (mk ag)=some v)(B:V){m:aY β}(J:q=⟨d,gd,now,.r (.load sz ag),az,dd,[]⟩::l)
 (D:(jd S c n fo fs st0,wanted st.g gd,bW S.N st.g az,v)=(some (.ops dr fr q,fs',st),some true,some [.v (.fptr ((pa a i).drop o))],B))
 (h:Le m (uY S c Q dr fr d (.r (.load sz ag)) l fs' dd (cW st d (.v B)))):Le m (rn S c Q fo fs st0):=by
 simp at D;obtain⟨e,z,C,rfl⟩:=D;refine tN e J z ?_ h;rw[Dx,C];have b:fM fr [SV.v (.fptr ((pa a i).drop o))]=true:=rfl;simp[b,Sd];have⟨r,f⟩:=Dh G;rw[f];have j:cut ((cells x++r).drop o) 0 sz=cut (cells x) o sz:=by cases u:cut (cells x) o sz with|none=>grind|some w=>unfold cut at u⊢;dsimp only at u⊢;split at u;have e1:(List.drop 0 (List.drop o (cells x++r))).take sz=((cells x).drop o).take sz:=(by have I:sz=0\/o<=(cells x).length:=(by grind);grind);grind;grind
 cases u:cut (cells x) o sz with
 |none=>grind|some w=>grind
def ZL(n:Nat)(dr:X')(fr:ST)(q:R0)(fs':QQ)(st:St)(cs:SW){u sz:Nat}{zero:So}{m:aY β}(D:q=⟨some u,gd,now,.a (.alloc sz zero),az,dd,[]⟩::l)
 (G:st.new u=true)(B:(jd S c n fo fs st0,wanted st.g gd,bW S.N st.g az,zero.map SV.v)=(some (.ops dr fr q,fs',st),some true,some [],cs))
 (h:Le m (uY S c Q dr fr (some u) (.a (.alloc sz zero)) l fs' dd {st with g:=bM st.g u (.ptr u 0),m:=bM st.m u (.box cs)})):Le m (rn S c Q fo fs st0):=by
 simp at B;have⟨a,w,z,C⟩:=B;subst C;refine tN a D w ?_ h;rw[AN,z];simp[G,qv]
def vM(d:Nat)(l:So):SV.dN d (l.map .v)=false:=by induction l with|nil=>rfl|cons a l u=>simp[SV.dN,SV.c8,u]
def vZ{α:Type}[bD α](d:Nat)(x:α):bJ.c8 d (bx x)=false:=vM d (cells x)
def abO(n:Nat)(dr:X')(fr:ST)(q:R0)(fs':QQ)(st:St)(k:T2)(u:Nat){ln sz:Nat}{a:b9 N α}{i:Int}{f:α->aY γ}(D:q=⟨d,gd,now,.p (.idxA ln sz),az,dd,[]⟩::l)
 (B:(jd S c n fo fs st0,wanted st.g gd,bW S.N st.g az,sz,ln,bl st.m u)=(some (.ops dr fr q,fs',st),some true,some [.ptr u 0,.v (.int k i)],bD.size α,N,some (bx a)))
 (h:∀x,a.at i=some x->Le ((f x).bind e) (uY S c Q dr fr d (.p (.idxA ln sz)) l fs' dd (cW st d (.ptr u (i.toNat*bD.size α+0))))):Le (((a.at i).bind f).bind e) (rn S c Q fo fs st0):=by
 simp at B;have⟨g,w,z,I,J,C⟩:=B;refine Ea g D w ?_ h;intro r b;have⟨x,G,b⟩:=ζg.1 b;have⟨g1,g2,_⟩:=b9.xV G;rw[CZ z rfl ?_]
 .omega
 simp[kK,dz,zm,C]
 grind
def T6{a:b9 N α}{i:Int}{o:Nat}{x:α}(B:a.at i=some x){sz:Nat}{ag:X'}{v:V}(c:(cut (cells x) o sz).bind (mk ag)=some v):xT sz ag ((((cells a).map SV.v).drop (i.toNat*bD.size α+o)).take sz)=some (.v v):=by
 have⟨r,d⟩:=Dh B;have e1:(((cells a).map SV.v).drop (i.toNat*bD.size α+o)).take sz=(((cells x).drop o).take sz).map SV.v:=by have u:((cells x).drop o).take sz=((cells x++r).drop o).take sz:=(by cases b:cut (cells x) o sz with|none=>grind|some w=>unfold cut at b;dsimp only at b;split at b;have C:sz=0\/o<=(cells x).length:=(by grind);grind;simp_all);rw[u,<-d,pa,drop_drop,map_take,map_drop]
 rw[e1];unfold xT;cases b:cut (cells x) o sz with|none=>grind|some w=>rw[b]at c;unfold cut at b;dsimp only at b;split at b;rename_i z;cases b;simp only[length_map,z];unfold mk at c;(cases ag with|true=>simp only[if_true]at c⊢;cases c;rw[ou]|false=>grind);simp_all
def abD(n:Nat)(dr:X')(fr:ST)(q:R0)(fs':QQ)(st:St)(u:Nat)(a:b9 N α)(i:Int)(o:Nat)(x:α)(G:a.at i=some x){sz:Nat}{ag:X'}{v:V}(e:(cut (cells x) o sz).bind (mk ag)=some v)(B:V){m:aY β}(J:q=⟨d,gd,now,.r (.load sz ag),az,dd,[]⟩::l)
 (D:(jd S c n fo fs st0,wanted st.g gd,bW S.N st.g az,v,bl st.m u,(!dr||now||fM fr [.ptr u 0]))=(some (.ops dr fr q,fs',st),some true,some [.ptr u (i.toNat*bD.size α+o)],B,some (bx a),true))
 (h:Le m (uY S c Q dr fr d (.r (.load sz ag)) l fs' dd (cW st d (.v B)))):Le m (rn S c Q fo fs st0):=by
 simp only[ζc]at D;obtain⟨f,w,z,rfl,C,I⟩:=D;refine tN f J w ?_ h;rw[Dx,z];have b:(!dr||now||fM fr [SV.ptr u (i.toNat*bD.size α+o)])=true:=I;simp only[ζb,b,acY,C,R6];rw[T6 G e];rfl
def RK{N:Nat}(a:b9 N α)(i:Int)(y:α)(h:i.toNat<N):cells (a.set i y)=(cells a).take (i.toNat*bD.size α)++cells y++(cells a).drop ((i.toNat+1)*bD.size α):=by
 have key:∀(l:aX α)(k:Nat),k<l.length->((l.set k y).map (cells)).flatten=(l.map (cells)).flatten.take (k*bD.size α)++cells y++(l.map (cells)).flatten.drop ((k+1)*bD.size α):=by intro l;induction l with|nil=>grind|cons b l u=>intro k h;have w:=g_ b;cases k with|zero=>grind|succ k=>simp only[map_cons,flatten_cons];have e1:(k+1)*bD.size α=(cells b).length+k*bD.size α:=Zac;have e2:(k+1+1)*bD.size α=(cells b).length+(k+1)*bD.size α:=Zac;rw[e2,List.drop_length_add_append];grind
 exact key a.l i.toNat (by rw[a.len];omega)
def abz(n:Nat)(dr:X')(fr:ST)(q:R0)(fs':QQ)(st:St)(u:Nat)(a:b9 N α)(i:Int)(o:Nat)(x:α)(B:a.at i=some x)(y:α)(v:V){sz:Nat}(G:cells y=(cells x).take o++v.cells++(cells x).drop (o+sz)){m:aY β}(J:q=⟨d,gd,now,.l (.store sz),az,dd,[]⟩::l)
 (D:(jd S c n fo fs st0,wanted st.g gd,bW S.N st.g az,bl st.m u,(!dr||now),v.cells.length,v.cells.all V.one,ble (o+sz) (bD.size α))=(some (.ops dr fr q,fs',st),some true,some [.ptr u (i.toNat*bD.size α+o),.v v],some (bx a),true,sz,true,true))
 (h:Le m (uY S c Q dr fr d (.l (.store sz)) l fs' dd (cW {st with m:=bM st.m u (bx (a.set i y))} d (.v .undef)))):Le m (rn S c Q fo fs st0):=by
 simp only[ζc]at D;have⟨b,z,C,I,L,O,T,U⟩:=D;refine tN b J z ?_ h;rw[zp,C];have X:=Nat.le_of_ble_eq_true U;have⟨g1,g2,g3⟩:=b9.xV B;have W:i.toNat*bD.size α+o+sz<=((cells a).map SV.v).length:=by rw[length_map,g_];have:(i.toNat+1)*bD.size α<=N*bD.size α:=Nat.mul_le_mul_right _ g2;rw[add_mul,one_mul]at this;show _<=N*bD.size α;omega
 simp only[ζb,L,if_true,oT,I,putCells,O,T,W,and_self,map_some];have⟨r,f⟩:=Dh B;have e:((cells a).map SV.v).take (i.toNat*bD.size α+o)++v.cells.map .v++((cells a).map SV.v).drop (i.toNat*bD.size α+o+sz)=(cells (a.set i y)).map SV.v:=by rw[RK a i y g2,G];have hd:(cells a).drop (i.toNat*bD.size α)=cells x++r:=f;have w:=g_ x;have e1:(cells a).take (i.toNat*bD.size α+o)=(cells a).take (i.toNat*bD.size α)++(cells x).take o:=(by rw[List.take_add,hd,List.take_append_of_le_length Zaa]);have e2:(cells a).drop (i.toNat*bD.size α+o+sz)=(cells x).drop (o+sz)++(cells a).drop ((i.toNat+1)*bD.size α):=(by have e3:(cells a).drop ((i.toNat+1)*bD.size α)=r:=(by rw[add_mul,one_mul,<-drop_drop,hd,<-w,List.drop_left]);rw[e3,Nat.add_assoc,<-drop_drop,hd,List.drop_append_of_le_length Zaa]);rw[<-map_take,<-map_drop,e1,e2];grind
 rw[e]
end
def YO{α:Type}[bD α]{m:Tb bJ}{d:Nat}{x:α}{vs:So}(h:bl m d=some (bx x)):oI (jt m 8) (.ptr d 0::vs.map .v)=some (.fptr (cells x)::vs):=by
 have a:jt m 8 (.ptr d 0)=some (.fptr (cells x)):=by
  show(match bl m d with
   |some (.box cs)=>match oI (jt m 7) cs with
    |some u=>if 0<=u.length then some (V.fptr (u.drop 0))else none|none=>none
   |_=>none)=_
  rw[h];simp[Km]
 simp[oI,a,Km]
def abN(n:Nat){fo:Fo}{fs fs':QQ}{st0 st:St}{rs:aX RV}{e:γ->aY So}{r:γ}(svs:SW){ys:So}(B:oI (jt st.m 8) svs=some ys)(h:(jd S c n fo fs st0,l8 st rs)=(some (.rt,fs',st),some svs))(D:e r=some ys):
 Le ((some r).bind e) (rn S c (pI rs) fo fs st0):=by
 simp at h;rw[qP h.1];refine Le.of_eq ?_;simp[rn,pI,h.2,B]
 grind
abbrev Mo(κ ν:Type):=aX (κ×ν)
class Key(κ:Type)[bD κ][DecidableEq κ]where
 kk:z_
 ok:∀a:κ,sy kk (enc a)=true
 eq:∀a b:κ,zx (enc a) (enc b)=some (decide (a=b))
instance:Key Int where
 kk:=.int .i64
 ok _:=rfl
 eq a b:=by show some (a==b)=some (decide (a=b));rw[show(a==b)=decide (a=b)from Bool.eq_iff_iff.2 Zab]
instance:Key a_ where
 kk:=.ints 2
 ok _:=rfl
 eq a b:=by have⟨p,i⟩:=a;have⟨q,j⟩:=b;simp only[zx,mG,jB,aaD,map_some,length_cons,if_true,ζa];rw[Bool.eq_iff_iff];simp
section
variable{κ ν:Type}[bD κ][DecidableEq κ][Key κ][bD ν]
def l_(k:κ):Mo κ ν->aY ν
 |[]=>none|(a,v)::r=>if k=a then some v else l_ k r
def pE(m:Mo κ ν)(k:κ)(z:ν):ν:=(l_ k m).getD z
def vT(m:Mo κ ν)(k:κ):X':=(l_ k m).isSome
def nK(m:Mo κ ν)(k:κ)(v:ν):Mo κ ν:=
 match m with
 |[]=>[(k,v)]|(a,w)::r=>if k=a then(k,v)::r else(a,w)::nK r k v
def pS(m:Mo κ ν):aX (V×V):=m.map λx=>(enc x.1,enc x.2)
def vA(m:Mo κ ν):bJ:=.mp (pS m)
def G9(k:κ):∀(m:Mo κ ν)(i:Nat),(jr (enc k) (pS m) i).map (Option.map (·.2))=some ((l_ k m).map enc)
 |[],i=>rfl|(a,v)::r,i=>by simp only[pS,map_cons,jr,Key.eq,l_];by_cases h:k=a;grind;simp only[h];exact G9 k r (i+1)
def UD(k:κ)(v:ν)(m:Mo κ ν):sL (enc k) (enc v) (pS m)=some (pS (nK m k v)):=by
 unfold sL;have key:∀(m:Mo κ ν)(pre:aX (V×V))(i:Nat),pre.length=i->(match jr (enc k) (pS m) i with
  |some (some (j,_))=>some ((pre++pS m).set j (enc k,enc v))|some none=>some (pre++pS m++[(enc k,enc v)])|none=>none)=some (pre++pS (nK m k v)):=by
  intro m
  induction m with
  |nil=>simp[pS,jr,nK]|cons x r u=>
   have⟨a,w⟩:=x;intro pre i h;rw[show pS ((a,w)::r)=(enc a,enc w)::pS r from rfl];simp[jr,Key.eq,nK]
   by_cases b:k=a
   .subst b h;simp[pS]
   simp[b];rw[show pS ((a,w)::nK r k v)=(enc a,enc w)::pS (nK r k v)from rfl];have:=u (pre++[(enc a,enc w)]) (i+1) (by simp[h])
   grind
 have:=key m [] 0 rfl;grind
def abQ(n:Nat)(dr:X')(fr:ST)(q:R0)(fs':QQ)(st:St)(u:Nat)(mp:Mo κ ν)(k:κ)(z:ν){kk:z_}{B:V}{m:aY β}(G:q=⟨d,gd,now,.r (.lookup kk B false),az,dd,[]⟩::l)
 (D:(jd S c n fo fs st0,wanted st.g gd,bW S.N st.g az,bl st.m u,(!dr||now||fM fr [.mp u,cv k]),B,kk)=(some (.ops dr fr q,fs',st),some true,some [.mp u,cv k],some (vA mp),true,enc z,Key.kk κ))
 (h:Le m (uY S c Q dr fr d (.r (.lookup kk B false)) l fs' dd (cW st d (cv (pE mp k z))))):Le m (rn S c Q fo fs st0):=by
 simp only[ζc]at D;have⟨a,C,I,J,L,O,T⟩:=D;subst O T;refine tN a G C ?_ h;rw[Dx,I];simp only[ζb,L,pX,J,vA,Key.ok];have:=G9 k mp 0;simp[pE]
 cases U:jr (enc k) (pS mp) 0 with
 |none=>grind|some r=>
  rw[U]at this
  cases r with
  |none=>
   cases W:l_ k mp with
   |none=>rfl|some w=>grind
  |some w=>
   cases W:l_ k mp with
   |none=>grind|some X=>grind
def acZ(n:Nat)(dr:X')(fr:ST)(q:R0)(fs':QQ)(st:St)(u:Nat)(mp:Mo κ ν)(k:κ)(v:ν){kk:z_}{m:aY β}(D:q=⟨d,gd,now,.l (.mapUp kk),az,dd,[]⟩::l)
 (B:(jd S c n fo fs st0,wanted st.g gd,bW S.N st.g az,bl st.m u,(!dr||now),kk)=(some (.ops dr fr q,fs',st),some true,some [.mp u,cv k,cv v],some (vA mp),true,Key.kk κ))
 (h:Le m (uY S c Q dr fr d (.l (.mapUp kk)) l fs' dd (cW {st with m:=bM st.m u (vA (nK mp k v))} d (.v .undef)))):Le m (rn S c Q fo fs st0):=by
 simp only[ζc]at B;have⟨a,w,z,C,G,I⟩:=B;subst I;refine tN a D w ?_ h;rw[zp,z];simp[G,oT,C,vA,Key.ok,UD]
end
end
instance{n:Nat}:OfNat Arg n:=⟨.s n⟩
abbrev bI(o:BinOp):K:=.p (.bin (some .int) none o)
abbrev ix(n:Nat):K:=.p (.idxS n)
abbrev ld(n:Nat):K:=.r (.load n false)
abbrev lD(n:Nat):K:=.r (.load n true)
abbrev fa(n:Nat):K:=.p (.fieldAddr n)
abbrev ln:K:=.p .lenSl
abbrev su(n:Nat):K:=.l (.store n)
abbrev Iv(n:Nat)(x:Int):Nat×SV:=(n,iv x)
abbrev Bv(n:Nat)(x:Bool):Nat×SV:=(n,bv x)
abbrev Cv{α:Type}[bD α](n:Nat)(x:α):Nat×SV:=(n,cv x)
abbrev Kv{α:Type}[bD α](n:Nat)(x:α):Nat×SV:=(n,cp x)
abbrev Pv(n:Nat):Nat×SV:=(n,.ptr n 0)
abbrev Ov(n:Nat):Nat×SV:=(n,.own (2000+n))
abbrev Xb{α:Type}[bD α](n:Nat)(x:α):Nat×bJ:=(n,bx x)
abbrev Lb{α:Type}[bD α](n:Nat)(x:Sl α):Nat×bJ:=(n,cK x)
abbrev on(d:Nat)(k:K)(az:aX Arg)(dd:aX Nat):RO:=⟨some d,none,true,k,az,dd,[]⟩
abbrev oz(k:K)(az:aX Arg)(dd:aX Nat):RO:=⟨none,none,false,k,az,dd,[]⟩
abbrev oy(k:K)(az:aX Arg)(dd:aX Nat):RO:=⟨none,none,true,k,az,dd,[]⟩
attribute [simp] Yd Xh X6
def eR.zo{S:Sys}{T:sH}{f:Y'}{b:X'}(B:T f=none)(a:S.E.keep f=false)(D:S.zo f []=some (.bool b)):
 eR S (di S T) f (λ_:Unit=>[]) (λr:X'=>[.bool r]) (λ_=>some b) true where
 k:=a
 h _:=by have h:=IA (az:=[]) B a D;intro r c;cases c;unfold gV;rw[h];exact w6 8 [.bool b]
 s _ _:=rfl
def Wp{α:Type}(m:aY α)(P:α->Prop):Prop:=∃a,m=some a/\P a
section
variable{α β:Type}{P Q:α->Prop}
theorem bf(a:α):Wp (some a) P↔P a:=⟨λh=>by have⟨b,e,p⟩:=h;cases e;exact p,λp=>⟨a,rfl,p⟩⟩
def Xq:Wp (none:aY α) P↔False:=⟨λh=>(by have⟨b,e,p⟩:=h;cases e),λh=>False.elim h⟩
def eA{m:aY β}{k:β->aY α}:Wp (m.bind k) P↔Wp m λb=>Wp (k b) P:=by cases m with|none=>simp only[Option.bind_none,Xq]|some b=>simp only[ζb,bf]
theorem b7{t:X'}{a b:aY α}:Wp (bg t a b) P↔(t=true->Wp a P)/\(t=false->Wp b P):=by cases t<;>simp[bg]
def Wp.mono{m:aY α}(h:Wp m P)(B:∀a,P a->Q a):Wp m Q:=let⟨a,e,p⟩:=h;⟨a,e,B a p⟩
def Wp.and{m:aY α}(h:Wp m P)(B:Wp m Q):Wp m λa=>P a/\Q a:=by have⟨a,e,p⟩:=h;have⟨b,e2,q⟩:=B;rw[e]at e2;cases e2;exact⟨a,e,p,q⟩
def Wp.eq{m:aY α}{a:α}(h:Wp m λx=>x=a):m=some a:=by obtain⟨b,e,rfl⟩:=h;exact e
end
section
variable{σ ε ρ:Type}
def eP(step:σ->aY (Fw σ ε ρ))(s:σ):bF step s=(step s).bind λw=>match w with
 |.n B=>bF step B|.x e=>some (.x e)|.r b=>some (.r b):=by
 have d:∀r,bF step s=some r->((step s).bind λw=>match w with
  |.n B=>bF step B|.x e=>some (.x e)|.r b=>some (.r b))=some r:=by
  intro r h;have⟨k,a⟩:=qz.1 h
  cases k with
  |zero=>simp[kU]at a|succ k=>
   simp only[kU]at a
   cases u:step s with
   |none=>rw[u]at a;cases a|some w=>
    rw[u]at a
    cases w with
    |n B=>exact qz.2 ⟨k,a⟩|x e=>exact a|r b=>exact a
 cases z:bF step s with
 |some r=>exact(d r z).symm|none=>
  cases c:((step s).bind λw=>match w with
  |.n B=>bF step B|.x e=>some (.x e)|.r b=>some (.r b))with
  |none=>rfl|some r=>
   exfalso
   cases u:step s with
   |none=>rw[u]at c;cases c|some w=>
    rw[u]at c;simp only[ζb]at c;have:bF step s=some r:=by cases w with|n B=>have⟨k,a⟩:=qz.1 c;exact qz.2 ⟨k+1,by simp only[kU,u];exact a⟩|x e=>exact qz.2 ⟨1,by simp only[kU,u];exact c⟩|r b=>exact qz.2 ⟨1,by simp only[kU,u];exact c⟩
    rw[z]at this;cases this
def WK(I:σ->Prop)(μ:σ->Nat)(D:ε->Prop)(G:ρ->Prop)(s:σ):Fw σ ε ρ->Prop
 |.n B=>I B/\μ B<μ s|.x e=>D e|.r b=>G b
def Pfw(B:ε->Prop)(D:ρ->Prop):Fw Empty ε ρ->Prop
 |.x e=>B e|.r b=>D b
def Uf{step:σ->aY (Fw σ ε ρ)}(I:σ->Prop)(μ:σ->Nat)(B:ε->Prop)(D:ρ->Prop)(h:∀s,I s->Wp (step s) (WK I μ B D s)){s:σ}(G:I s):Wp (bF step s) (Pfw B D):=by
 have key:∀n s,μ s<=n->I s->Wp (bF step s) (Pfw B D):=by
  intro n
  induction n with
  |zero=>intro s C c;have⟨w,u,a⟩:=h s c;rw[eP,u];cases w with|n z=>exact absurd a.2 Zaa|x e=>exact⟨_,rfl,a⟩|r b=>exact⟨_,rfl,a⟩
  |succ n J=>intro s C c;have⟨w,u,a⟩:=h s c;rw[eP,u];cases w with|n z=>exact J z (by have:=a.2;omega) a.1|x e=>exact⟨_,rfl,a⟩|r b=>exact⟨_,rfl,a⟩
 exact key (μ s) s (Nat.le_refl _) G
def fE{γ:Type}{step:σ->aY (Fw σ ε ρ)}{B:ε->aY γ}{fr:ρ->aY γ}{P:γ->Prop}(I:σ->Prop)(μ:σ->Nat){s:σ}(D:I s)
 (h:∀s,I s->Wp (step s) (WK I μ (λe=>Wp (B e) P) (λb=>Wp (fr b) P) s)):Wp ((bF step s).bind (Fw.elim B fr)) P:=by
 rw[eA];refine(Uf I μ _ _ h D).mono ?_;intro w u
 cases w with
 |n a=>cases a|x e=>exact u|r b=>exact u
end
def GP{β γ δ:Type}{e:γ->aY β}{m:aY δ}{f:δ->aY γ}{L:aY β}(h:∀x,m=some x->Le ((f x).bind e) L):Le ((m.bind f).bind e) L:=by cases m with|none=>exact Le.none _|some x=>exact h x rfl
section
variable{S:Sys}{c:cm}{β:Type}{Q:Out×St->aY β}{fo:Fo}{fs:QQ}{st0:St}{l:R0}{d:aY Nat}{now:X'}{az:QR}{dd:ST}
theorem Le.get{β:Type}{r:β}{L:aY β}(h:Le (some r) L):L=some r:=h r rfl
def Kt{n:Nat}{fo fo':Fo}{fs fs':QQ}{st:St}(A:X'->St){t:X'}{m:aY β}(B:t=true)(h:jd S c n fo fs st=some (fo',fs',A t))(D:Le m (rn S c Q fo' fs' (A true))):Le m (rn S c Q fo fs st):=by rw[qP h,B];exact D
def Kf{n:Nat}{fo fo':Fo}{fs fs':QQ}{st:St}(A:X'->St){t:X'}{m:aY β}(B:t=false)(h:jd S c n fo fs st=some (fo',fs',A t))(D:Le m (rn S c Q fo' fs' (A false))):Le m (rn S c Q fo fs st):=by rw[qP h,B];exact D
def Vz{α:Type}[bD α]{s:Sl α}{i:Int}{x:α}{r:β}{L:aY β}(B:idx s i=some x)(h:Le (((idx s i).bind λ_=>some r).bind some) L):Le (some r) L:=by rw[B]at h;exact h
def Kyl{n:Nat}{q:R0}{fs':QQ}{st:St}{id:Nat}{vs:SW}{xs:So}{B:S'}{m:aY β}
 (D:jd S c n fo fs st0=some (.ops false [] q,fs',st))(G:q=⟨d,none,now,.c,az,dd,[]⟩::l)(J:bW S.N st.g az=some (.yl id::vs))(U:dz vs=some xs)(W:st.want=xs::B)(a:id=st.yid)
 (h:Le m (rn S c Q (.ops false [] l) fs' (rG dd (cW {st with want:=B} d (.v (.bool (st.more|| !B.isEmpty))))))):Le m (rn S c Q fo fs st0):=by
 refine V5 D G rfl ?_ h;unfold gp;simp only[wanted,gH,J,U,W,a,if_true,and_self,Bool.false_eq_true,if_false]
def C5(a:RC)(fs:QQ)(st:St):rn S c Q (.rc (.loop a)) fs st=(qG (cN S c a) st).bind (Hy (o8 S c Q fs) (oU S c Q fs) (λst=>Q (.ret,st))):=by show me S c Q (.loop a) fs st=_;unfold me;rw[Gl];rfl
def YQ{f:St->aY (Out×St)}{st st':St}(h:f st=some (.norm,st')):qG f st=qG f st':=by
 have key:∀r,qG f st=some r↔qG f st'=some r:=λr=>by constructor;intro b;have⟨k,a⟩:=oW.1 b;(cases k with|zero=>simp[kH]at a|succ k=>simp only[kH,h]at a;exact oW.2 ⟨k,a⟩);intro b;have⟨k,a⟩:=oW.1 b;exact oW.2 ⟨k+1,by simp only[kH,h];exact a⟩
 cases u:qG f st with
 |none=>cases w:qG f st' with|none=>rfl|some r=>rw[(key r).2 w]at u;cases u
 |some r=>rw[(key r).1 u]
def NT{f:St->aY (Out×St)}{st st':St}{o:Out}(h:f st=some (o,st'))(B:o≠.norm):qG f st=some (o,st'):=by refine oW.2 ⟨1,?_⟩;cases o with|norm=>exact absurd rfl B|exit k=>simp only[kH,h]|ret=>simp only[kH,h]
def IE{a:RC}{fs:QQ}{st st':St}(h:rn S c some (.rc a) [] st=some (.norm,st')):rn S c Q (.rc (.loop a)) fs st=rn S c Q (.rc (.loop a)) fs st':=by rw[C5,C5,YQ (by rw[DC];exact h)]
def HX{a:RC}{fs:QQ}{st st':St}{k:Nat}(h:rn S c some (.rc a) [] st=some (.exit k,st')):rn S c Q (.rc (.loop a)) fs st=rn S c Q (.ex k) fs st':=by rw[C5,NT (by rw[DC];exact h) Zab];rfl
def IM{a:RC}{fs:QQ}{st st':St}(h:rn S c some (.rc a) [] st=some (.ret,st')):rn S c Q (.rc (.loop a)) fs st=Q (.ret,st'):=by rw[C5,NT (by rw[DC];exact h) Zab];rfl
end
def Qi:Out×St->aY Unit
 |(.exit _,_)=>none|(_,st)=>if st.want.isEmpty then some ()else none
def Sys.bare(S:Sys):Sys:=⟨S.E,S.N,λ_ _ _=>none,λ_ _=>none,λ_=>none⟩
def pV:cm:=λ_ _ _=>none
def wQ(B rest:S')(more:X'):Prop:=more=true/\B=rest\/more=false/\B≠[]/\∃r,rest=B++r
def UL(S:Sys){f:Y'}{fi:FI}{nm:Y'->aY Nat}{rf:RF}(G:S.E.ft f=some fi)(W:∀g s,nm g=some s->S.N s=g)(e:zO S.E nm fi rf){a b:So}{xs:S'}(D:a.length+1+b.length<=rf.na)(U:rf.rs=[])
 (h:∀B more,wQ B xs more->∀yid,rn S.bare pV Qi (.rc rf.body) [] ⟨xD 0 (a.map .v++.yl yid::b.map .v),[],[],B,more,yid⟩=some ()):eU S f a b xs:=by
 have k:eU S.bare f a b xs:=NM (S:=S.bare) (c:=pV) (fi:=fi) (nm:=nm) (rf:=rf) (λ_ _ h=>by cases h) (λ_ _ _ _ _ h=>by simp[pV]at h) (λ_ _ _ _ h=>by simp[Sys.bare]at h) G W e D U (λB more w yid=>by
  have d:=h B more w yid;change me S.bare pV Qi rf.body [] _=some ()at d;rw[rq]at d;have⟨⟨o,st'⟩,z,u⟩:=ζg.1 d;refine⟨o,st',z,?_,?_,rfl⟩
  .rintro id rfl;simp[Qi]at u
  cases o<;>simp[Qi]at u<;>exact u)
 intro B more w yid J y Z C I H d z u L O;exact k B more w yid J ⟨y.yT,y.yield⟩ Z C I H d z u L O
open Classical in
def Af(P:Y'->So->So->S'->Prop)(f:Y')(a b:So):aY S':=if h:∃u,P f a b u then some (Classical.choose h)else none
def E7{P:Y'->So->So->S'->Prop}{f:Y'}{a b:So}{xs:S'}(h:P f a b xs)(d:∀ys,P f a b ys->ys=xs):Af P f a b=some xs:=by have c:∃xs,P f a b xs:=⟨xs,h⟩;unfold Af;rw[dif_pos c,d _ (choose_spec c)]
def Pk{P:Y'->So->So->S'->Prop}{f:Y'}{a b:So}{xs:S'}(h:Af P f a b=some xs):P f a b xs:=by
 unfold Af at h;split at h;next c=>cases h;exact choose_spec c
 cases h
def aaJ{E:Env}{nm:Y'->aY Nat}{f:Y'}{rf:RF}
 (h:((E.ft f).bind λfi=>(bS ⟨E,nm,fi.ntmps⟩ false fi.body).bind λc=>(fi.results.mapM (Dg E)).bind λrs=>some (c,rs,fi.ntmps))=some (erase rf.body,rf.rs,rf.na)):∃fi,E.ft f=some fi/\zO E nm fi rf:=by
 have⟨fi,a,w⟩:=ζg.1 h;have⟨c,z,B⟩:=ζg.1 w;have⟨rs,C,u⟩:=ζg.1 B;simp only[ζa,ζc]at u;obtain⟨rfl,rfl,D⟩:=u;exact⟨fi,a,z,C,D.symm⟩
def FR.rN{H:bn}{Z Z':Nat->Prop}{x y z:V}(h:FR H Z x z)(k:FR H Z' y z):x=y:=by have⟨n,u⟩:=CO x;have⟨m,w⟩:=CO y;have e1:=h.borrow (max n m) (Au (Nat.le_max_left _ _) u);have e2:=k.borrow (max n m) (Au (Nat.le_max_right _ _) w);rw[e1]at e2;exact Option.some.inj e2
open Classical in
def Ap(E:Env)(f:Y')(az:So):aY V:=if h:∃y,CI E f az y then some (Classical.choose h)else none
def IN{E:Env}{f:Y'}{az:So}{y:V}(h:Ap E f az=some y):CI E f az y:=by
 unfold Ap at h;split at h;next a=>cases h;exact choose_spec a
 cases h
def C2{E:Env}{f:Y'}{az:So}{y:V}(h:CI E f az y):Ap E f az=some y:=by have a:∃y,CI E f az y:=⟨y,h⟩;unfold Ap;rw[dif_pos a];have⟨n,z,H,Z,k1,k2,_⟩:=h;have⟨u,w,H',Z',k3,k4,_⟩:=choose_spec a;have e1:=(qh E (Nat.le_max_left n u)).go _ _ _ _ k1;have e2:=(qh E (Nat.le_max_right n u)).go _ _ _ _ k3;rw[e1]at e2;cases e2;rw[FR.rN k4 k2]
def MX{E:Env}{f:Y'}{az:So}{y:V}(B:V.scalar y=true)(h:∃n H',run E n (.fn f) az []=some (y,H')):CI E f az y:=by have⟨n,H',h⟩:=h;exact⟨n,y,H',λ_=>False,h,.same _ (lB B),λ_ h=>h.elim,⟨λ_ _ _ h=>h.elim⟩⟩
end Go.VE
