/- Certificates. -/
import Derived.KernelRfl
import Derived.Test.YtgaepcmcohmibaaGreatDoorN2
set_option linter.all false
noncomputable section
open Classical(choose_spec)
open List(drop_drop flatten_cons length_cons length_map length_nil map_cons map_drop map_take range' replicate)
open Option(map_some)
open Nat(add_mul ble one_mul)
namespace Go.VE
variable[bL]
inductive Sl(α:Type)where
 |nil|emp|row(l:List α)|part(l:List α)
 deriving Inhabited
abbrev Zg:=Sl Int
abbrev Zb:=Sl (Sl Int)
def Sl.l{α:Type}:Sl α->aX α
 |.nil|.emp=>[]|.row l|.part l=>l
def Sl.k{α:Type}:Sl α->Fl
 |.nil=>.nil|.emp=>.emp|.row _=>.row|.part _=>.part
class bp(α:Type)where
 cells:α->List V
 agg:Bool
 size:Nat
 len:∀a,(cells a).length=size
 good:∀a,V.cB (cells a)=true
 one:∀a,(cells a).all V.one=true
 plain:agg=false->size=1
def cells{α:Type}[bp α](a:α):Zu:=bp.cells a
def enc{α:Type}[bp α](a:α):V:=if bp.agg α then .agg (cells a)else(cells a).headD .undef
def rows{α:Type}[bp α](l:aX α):Zt:=l.map cells
def cg{α:Type}[bp α](s:Sl α):V:=jC s.k (bp.size α) (rows s.l)
instance:bp Int where
 cells n:=[.int .i64 n]
 agg:=false
 size:=1
 len _:=rfl
 good _:=rfl
 one _:=rfl
 plain _:=rfl
instance:bp Zl where
 cells b:=[.bool b]
 agg:=false
 size:=1
 len _:=rfl
 good _:=rfl
 one _:=rfl
 plain _:=rfl
instance:bp Zq where
 cells s:=[.str s]
 agg:=false
 size:=1
 len _:=rfl
 good _:=rfl
 one _:=rfl
 plain _:=rfl
structure aZ where
 proc:Int
 index:Int
 deriving DecidableEq,Inhabited
instance:bp aZ where
 cells x:=[.int .i64 x.proc,.int .i64 x.index]
 agg:=true
 size:=2
 len _:=rfl
 good _:=rfl
 one _:=rfl
 plain h:=by cases h
@[simp] def Vi(n:Int):enc n=.int .i64 n:=rfl
@[simp] def UO(n:Zl):enc n=.bool n:=rfl
@[simp] def Vk(n:Zq):enc n=.str n:=rfl
@[simp] def Uy(n:Int):cells n=[.int .i64 n]:=rfl
@[simp] def TY(n:Zl):cells n=[.bool n]:=rfl
@[simp] def Uv(n:Zq):cells n=[.str n]:=rfl
@[simp] def U3(n:aZ):cells n=[.int .i64 n.proc,.int .i64 n.index]:=rfl
@[simp] def Sz(n:aZ):enc n=.agg [.int .i64 n.proc,.int .i64 n.index]:=rfl
section
variable{α:Type}[bp α]
def fh(l:aX α):(rows l).length=l.length:=by simp[rows]
def idx(s:Sl α)(i:Int):aY α:=if 0<=i then s.l[i.toNat]?else none
def MX{N:Nat->Zk}(s:Sl α)(k:Zs)(i:Int){n:Nat}(B:n=bp.size α):bH N (.idxS n) [cg s,.int k i]=(idx s i).map λx=>.fptr (cells x):=by subst B;unfold idx cg;simp only[bH,kF];by_cases h:i<0;rw[if_pos h,if_neg Za];rfl;rw[if_neg h,if_pos Za];cases s<;>simp[Sl.k,Sl.l,jC,rows,Function.comp_def]
def LL{N:Nat->Zk}(s:Sl α):bH N .lenSl [cg s]=some (.int .i64 s.l.length):=by cases s<;>simp[bH,mK,cg,Sl.k,Sl.l,jC,fh]
end
section
variable{S:Sys}{c:bU}
end
end Go.VE
namespace Go.VE
variable[bL]
section
variable{S:Sys}{c:bU}
def isSlice:tV->Zl
 |.slice ..=>true|_=>false
def JE(dr:Zl)(fr:Zv)(dst:aY Nat)(now:Zl)(p:tV)(az:Z4)(st:St)(h:isSlice p=false):
 fc S c dr fr ⟨dst,none,now,.p p,az,[],[]⟩ st=(bV S.N st.g az).bind λsvs=>(jF S.N st.m p svs).bind λx=>some (cZ st dst x):=by
 unfold fc kS;have u:fE S.N st.g ⟨dst,none,now,.p p,az,[],[]⟩=none:=by unfold fE;grind
 simp[wanted,u]
 cases z:bV S.N st.g az with
 |none=>rfl|some svs=>simp;cases p<;>first|(simp[isSlice]at h;done)|(cases w:jF S.N st.m _ svs<;>simp[w])
def Ie(N:Nat->Zk)(m:Tb bq)(p:tV)(svs:Zw)(xs:Zu)(h:dh svs=some xs):jF N m p svs=(bH N p xs).bind λx=>some (.v x):=by unfold jF;rw[h];dsimp only;cases bH N p xs<;>rfl
def BN(dr:Zl)(fr:Zv)(dst:aY Nat)(now:Zl)(q:HV)(az:Z4)(st:St):
 fc S c dr fr ⟨dst,none,now,.r q,az,[],[]⟩ st=(bV S.N st.g az).bind λsvs=>if !dr||now||eD fr svs then(og st.m q svs).bind λx=>some (cZ st dst x)else none:=by
 unfold fc kS;have u:fE S.N st.g ⟨dst,none,now,.r q,az,[],[]⟩=none:=rfl;simp[wanted,u]
 cases w:bV S.N st.g az with
 |none=>rfl|some svs=>
  simp;split
  .cases z:og st.m q svs<;>simp
  rfl
def zf(dr:Zl)(fr:Zv)(d:Nat)(now:Zl)(q:L5)(az:Z4)(st:St):
 fc S c dr fr ⟨some d,none,now,.a q,az,[],[]⟩ st=(bV S.N st.g az).bind λsvs=>if st.new d then(mU st.m q svs d).bind λr=>some {st with g:=bu st.g d r.2,m:=bu st.m d r.1}else none:=by
 unfold fc kS;have u:fE S.N st.g ⟨some d,none,now,.a q,az,[],[]⟩=none:=rfl;simp[wanted,u]
 cases w:bV S.N st.g az with
 |none=>rfl|some svs=>
  simp;split
  .cases z:mU st.m q svs d<;>simp[cZ]
  rfl
def sP(dr:Zl)(fr:Zv)(dst:aY Nat)(now:Zl)(q:IA)(az:Z4)(st:St):
 fc S c dr fr ⟨dst,none,now,.l q,az,[],[]⟩ st=(bV S.N st.g az).bind λsvs=>if !dr||now then(jG st dst q svs).bind λr=>some (cZ r.2 dst r.1)else none:=by
 unfold fc kS;have u:fE S.N st.g ⟨dst,none,now,.l q,az,[],[]⟩=none:=rfl;simp[wanted,u]
 cases w:bV S.N st.g az with
 |none=>rfl|some svs=>
  simp;split
  .cases z:jG st dst q svs<;>simp
  rfl
def pn:Zw->aY (Zk×Zw)
 |.clo f a b::vs=>some (f,a++vs++b)|.v (.clo f a b)::vs=>some (f,a.map .v++vs++b.map .v)|_=>none
def Eo(dr:Zl)(fr:Zv)(dst:aY Nat)(now:Zl)(az:Z4)(st:St)(svs:Zw)(f:Zk)(args:Zw)(B:bV S.N st.g az=some svs)(a:pn svs=some (f,args)):
 fc S c dr fr ⟨dst,none,now,.c,az,[],[]⟩ st=(gy S c dst dr (!dr||now) (gA st.m fr) f args st).bind λr=>some (cZ r.2 dst r.1):=by
 unfold fc kS;unfold pn at a;split at a
 .obtain⟨rfl,rfl⟩:=a;simp[wanted,fE,B];cases gy S c dst dr _ _ _ _ st<;>simp
 .obtain⟨rfl,rfl⟩:=a;simp[wanted,fE,B];cases gy S c dst dr _ _ _ _ st<;>simp
 grind
def NU{β:Type}(S:Sys)(c:bU)(fr:Zv)(l:Zy)(k:St->aY β):St->aY β:=λst=>(mg S c false fr l st).bind k
def M3{β:Type}(S:Sys)(c:bU)(fr:Zv)(l:Zy)(k:St->aY β):St->aY β:=λst=>(mg S c true fr l st).bind k
def Sm{β:Type}(S:Sys)(c:bU)(fr dd:Zv)(l:Zy)(k:St->aY β):St->aY β:=λst=>NU S c fr l k (nZ dd st)
def SZ{β:Type}(S:Sys)(c:bU)(fr dd:Zv)(l:Zy)(k:St->aY β):St->aY β:=λst=>M3 S c fr l k (nZ dd st)
@[congr] def Uf{β:Type}{fr:Zv}{l:Zy}{k:St->aY β}{st st':St}(h:st=st'):NU S c fr l k st=NU S c fr l k st':=by rw[h]
@[congr] def T4{β:Type}{fr B:Zv}{l:Zy}{k:St->aY β}{st st':St}(D:fr=B)(h:st=st'):M3 S c fr l k st=M3 S c B l k st':=Ze
@[congr] def Ud{β:Type}{fr dd:Zv}{l:Zy}{k:St->aY β}{st st':St}(h:st=st'):Sm S c fr dd l k st=Sm S c fr dd l k st':=by rw[h]
@[congr] def TS{β:Type}{fr B dd:Zv}{l:Zy}{k:St->aY β}{st st':St}(D:fr=B)(h:st=st'):SZ S c fr dd l k st=SZ S c B dd l k st':=Ze
@[congr] def Uz{dr:Zl}{fr:Zv}{o:RO}{st st':St}(h:st=st'):fc S c dr fr o st=fc S c dr fr o st':=by rw[h]
end
section
variable{S:Sys}{c:bU}(dr:Zl)(fr:Zv)(dst:aY Nat)(now:Zl)(az:Z4)(st:St)
end
inductive Fm where
 |seq(b:RC)|blk(id:Nat)|gst(x:Gh)
abbrev Z3:=aX Fm
section
variable(S:Sys)(c:bU){β:Type}(Q:Out×St->aY β)
def runK:Z3->Out×St->aY β
 |[],r=>Q r|.seq b::fs,(.norm,st)=>(cw S c b st).bind (runK fs)|.seq _::fs,r=>runK fs r|.blk id::fs,(.exit k,st)=>if k=id then runK fs (.norm,st)else runK fs (.exit k,st)|.blk _::fs,r=>runK fs r|.gst x::fs,(.norm,st)=>(ghost x st).bind λst=>runK fs (.norm,st)|.gst _::fs,r=>runK fs r
def go(a:RC)(fs:Z3)(st:St):aY β:=(cw S c a st).bind (runK S c Q fs)
def PG(fs:Z3):St->aY β:=λst=>runK S c Q fs (.norm,st)
def bl{α:Type}(t:Zl)(a b:α):α:=if t then a else b
end
@[congr] def UE{α:Type}{t B:Zl}{a b a' D:α}(h:t=B)(G:B=true->a=a')(J:B=false->b=D):bl t a b=bl B a' D:=by subst h;cases t;exact J rfl;exact G rfl
section
variable{S:Sys}{c:bU}{β:Type}{Q:Out×St->aY β}
@[congr] def go_congr{a:RC}{fs:Z3}{st st':St}(h:st=st'):go S c Q a fs st=go S c Q a fs st':=by rw[h]
@[congr] def Ts{fs:Z3}{st st':St}(h:st=st'):PG S c Q fs st=PG S c Q fs st':=by rw[h]
@[congr] def T8{fs:Z3}{r B:Out×St}(h:r=B):runK S c Q fs r=runK S c Q fs B:=by rw[h]
def Gf(a:RC)(st:St):(cw S c a st).bind Q=go S c Q a [] st:=by simp only[go];cases cw S c a st<;>rfl
inductive Fw(ν ε ρ:Type)where
 |n(a:ν)|x(e:ε)|r(b:ρ)
def kC{σ ε ρ:Type}(step:σ->aY (Fw σ ε ρ)):Nat->σ->aY (Fw Empty ε ρ)
 |0,_=>none|k+1,s=>match step s with
  |some (.n B)=>kC step k B|some (.x e)=>some (.x e)|some (.r b)=>some (.r b)|none=>none
def vF{σ ε ρ:Type}{step:σ->aY (Fw σ ε ρ)}:∀{k B:Nat}{s:σ}{r:Fw Empty ε ρ},k<=B->kC step k s=some r->kC step B s=some r
 |0,_,_,_,_,h=>by simp[kC]at h|k+1,0,_,_,hk,_=>Za|k+1,B+1,s,r,hk,h=>by simp only[kC]at h⊢;split at h;exact vF (Nat.le_of_succ_le_succ hk) h;exact h;exact h;simp at h
open Classical in
def bM{σ ε ρ:Type}(step:σ->aY (Fw σ ε ρ))(s:σ):aY (Fw Empty ε ρ):=if h:∃k r,kC step k s=some r then some (Classical.choose (choose_spec h))else none
def oO{σ ε ρ:Type}{step:σ->aY (Fw σ ε ρ)}{s:σ}{r:Fw Empty ε ρ}:bM step s=some r↔∃k,kC step k s=some r:=by
 unfold bM;constructor;intro h;split at h;next u=>simp only[ζa]at h;exact⟨_,by rw[<-h];exact choose_spec (choose_spec u)⟩
 simp at h;rintro⟨k,a⟩;have u:∃k r,kC step k s=some r:=⟨k,r,a⟩;rw[dif_pos u];have z:=choose_spec (choose_spec u);have B:=vF (Nat.le_max_left (Classical.choose u) k) z;have w:=vF (Nat.le_max_right (Classical.choose u) k) a;rw[B]at w;exact w
def Fw.out{ν ε ρ:Type}(B:ν->St)(eε:ε->Nat×St)(eρ:ρ->St):Fw ν ε ρ->Out×St
 |.n a=>(.norm,B a)|.x e=>(.exit (eε e).1,(eε e).2)|.r b=>(.ret,eρ b)
def Fw.elim{ε ρ γ:Type}(B:ε->γ)(fr:ρ->γ):Fw Empty ε ρ->γ
 |.x e=>B e|.r b=>fr b
end
section
variable{α:Type}[bp α]
def DO(s:Sl α):V.one (cg s)=true:=by cases s<;>rfl
def LX(l:aX α):V.l9 (rows l)=true:=by induction l with|nil=>rfl|cons a l u=>simp only[rows,map_cons,V.l9,ζh];exact⟨bp.good a,u⟩
def Jb(s:Sl α):V.good (cg s)=true:=by cases s<;>simp only[cg,Sl.k,jC,V.good]<;>exact LX _
instance:bp (Sl α)where
 cells s:=[cg s]
 agg:=false
 size:=1
 len _:=rfl
 good s:=by simp only[V.cB,Jb,Bool.and_self]
 one s:=by simp[DO]
 plain _:=rfl
def NI(s:Sl α):cells s=[cg s]:=rfl
end
section
variable{S:Sys}{c:bU}
def KH(x:aY SV)(b:Zl)(y z:aY St):aY St:=
 match x with
 |some (.v (.bool t))=>bl (t==b) y z|some (.v _)=>z|_=>none
@[congr] def S3{x B:aY SV}{b:Zl}{y z:aY St}(h:x=B):KH x b y z=KH B b y z:=by rw[h]
def O_{β:Type}(x:aY SV)(y z:aY β):aY β:=
 match x with
 |some (.v (.bool t))=>bl t y z|_=>none
@[congr] def Tv{β:Type}{x B:aY SV}{y z:aY β}(h:x=B):O_ x y z=O_ B y z:=by rw[h]
def mA(c:bU)(f:Zk)(az:Zu):aY Zu:=(c f (az.map .v) []).bind λr=>cU r.2 8 r.1
def LV(now:Zl)(args:Zw)(ok:Zl)(st:St)(ys:Zu):aY (SV×St):=if(result ys).scalar||ok then some (.v (result ys),st)else if now then(rowsOf st.m args).map λds=>(.v (result ys),{st with m:=oc ds st.m})else none
def QY(dst:aY Nat)(dr now:Zl)(old:Zw->Zl)(f:Zk)(args:Zw)(st:St)(a:S.E.keep f=false):
 gy S c dst dr now old f args st=(cU st.m 8 args).bind λaz=>if now||old args then(mA c f az).bind (LV now args (dh args).isSome st)else none:=by
 unfold gy mA;simp only[a,Bool.false_eq_true,if_false]
 cases cU st.m 8 args with
 |none=>rfl|some az=>
  simp only[ζb];split
  .cases c f (az.map .v) []with
   |none=>rfl|some r=>have⟨rs,m'⟩:=r;simp only[ζb];cases cU m' 8 rs<;>rfl
  rfl
end
section
variable{S:Sys}{T:pI}
def F_(rs:aX RV):Out×St->aY Zu
 |(.exit _,_)=>none|(_,st)=>(ki st rs).bind (cU st.m 8)
def MY{f:Zk}{rf:RF}(B:T f=some rf)(az:Zu)(D:az.length<=rf.na):mA (cT S T) f az=go S (cT S T) (F_ rf.rs) rf.body [] (start (az.map .v) []):=by unfold mA;rw[sB B];unfold mB;rw[if_pos (by simpa using D),<-Gf];cases h:cw S (cT S T) rf.body (start (az.map .v) [])with|none=>rfl|some r=>have⟨o,st⟩:=r;cases o<;>simp only[ζb,F_]<;>(try rfl)<;>(cases ki st rf.rs<;>rfl)
end
end Go.VE
namespace Go.VE
variable[bL]
variable{N:Nat->Zk}
def E8(o:Nat)(cs:Zu):bH N (.fieldAddr o) [.fptr cs]=if o<=cs.length then some (.fptr (cs.drop o))else none:=rfl
def j8(s:Zq)(n:Int):Z6:=if 0<=n then(s[n.toNat]?).map λb=>(b.toNat:Int)else none
def Mj(s:Zq)(k:Zs)(n:Int):bH N .idxStr [.str s,.int k n]=(j8 s n).bind λx=>some (.int .u8 x):=by simp only[bH,j8];split;cases s[n.toNat]?<;>rfl;rfl
def Ng(z:Zu)(pl:aX (Nat×Nat))(vs:Zu):bH N (.build z pl) vs=(jO z pl vs).bind λcs=>some (.agg cs):=by simp only[bH];cases jO z pl vs<;>rfl
section
variable{α:Type}[bp α]
def IB(s:Sl α)(k:Zs)(i:Int)(n:Nat)(B:n=bp.size α):bH N (.idxS n) [cg s,.int k i]=(idx s i).bind λx=>some (.fptr (cells x)):=by rw[MX s k i B];cases idx s i<;>rfl
def FJ(s:Sl α):bH N .lenSl [cg s]=some (.int .i64 s.l.length):=LL s
def Sl.isNil{α:Type}(s:Sl α):aY Zl:=
 match s with
 |.nil=>some true|.emp=>none|_=>some false
def Oi(q:aY Nat)(s:Sl α):bH N (.bin (some .slice) q .eql) [cg s,.bD]=s.isNil.bind λt=>some (.bool t):=by cases s<;>rfl
def ga(s:Sl α)(B D:Z6):aY (Sl α):=
 (dx s.l.length B D).map λ(l,h)=>match s with
  |.nil=>.nil|.emp=>.emp|.row x=>.part ((x.take h).drop l)|.part x=>.part ((x.take h).drop l)
def IS(s:Sl α)(B D:Z6)(n:Nat)(G:n=bp.size α):gQ n (cg s) B D=(ga s B D).bind λx=>some (cg x):=by subst G;cases s with|nil=>simp only[cg,Sl.k,jC,gQ,ga,Sl.l,length_nil];cases dx 0 B D<;>rfl|emp=>simp only[cg,Sl.k,jC,gQ,ga,Sl.l,length_nil];cases dx 0 B D<;>rfl|row l=>simp only[cg,Sl.k,jC,gQ,ga,Sl.l,if_true,fh];cases dx l.length B D<;>simp[rows,map_take,map_drop]|part l=>simp only[cg,Sl.k,jC,gQ,ga,Sl.l,if_true,fh];cases dx l.length B D<;>simp[rows,map_take,map_drop]
end
def L6(m:Tb bq)(n:Nat)(a:Zl)(cs:Zu):og m (.load n a) [.v (.fptr cs)]=(cut cs 0 n).bind λr=>(mk a r).bind λx=>some (.v x):=by simp only[og,dZ];cases cut cs 0 n with|none=>rfl|some r=>simp only[ζb];cases mk a r<;>rfl
end Go.VE
namespace Go.VE
variable[bL]
section
variable{α:Type}[bp α]
def ct(s:Sl α):bq:=.sl s.k (bp.size α) (rows s.l)
def Sl.iB(s:Sl α)(i:Int):aY Nat:=if 0<=i/\i.toNat<s.l.length then some i.toNat else none
def Sl.get(s:Sl α)(i:Nat):aY α:=s.l[i]?
def Sl.put(s:Sl α)(i:Nat)(x:α):aY (Sl α):=if i<s.l.length then some (match s with|.row l=>.row (l.set i x)|.part l=>.part (l.set i x)|s=>s)else none
def eW(s:Sl α)(x:α):aY (Sl α):=if s.l.length+1<=2147483648 then some (.row (s.l++[x]))else none
def jT(n:Int)(z:α):aY (Sl α):=if 0<=n/\n<=2147483648 then some (.row (replicate n.toNat z))else none
end
section
variable{α:Type}[bp α]{N:Nat->Zk}{m:Tb bq}
def GU(n d:Nat)(o:aY bq)(i:Int):aY SV:=
 match o with
 |some (.sl k es u)=>if bN k/\es=n/\0<=i/\i.toNat<u.length then some (.el d i.toNat 0)else none|some (.dp k u _)=>if bN k/\1=n/\0<=i/\i.toNat<u.length then some (.el d i.toNat 0)else none|_=>none
def H_(n d:Nat)(k:Zs)(i:Int):jF N m (.idxS n) [.own d,.v (.int k i)]=GU n d (bg m d) i:=by simp[jF,dh,yX,GU];grind
def Q1(n d:Nat)(s:Sl α)(i:Int)(h:n=bp.size α):GU n d (some (ct s)) i=(s.iB i).bind λj=>some (.el d j 0):=by simp[GU,ct,fh,Sl.iB];cases s with|nil=>simp[Sl.l,bN]|emp=>simp[Sl.l,bN]|row l=>simp[Sl.k,Sl.l,bN];grind|part l=>simp[Sl.k,Sl.l,bN];grind
def I7(o:aY bq):aY SV:=
 match o with
 |some (.sl _ _ u)=>some (.v (.int .i64 u.length))|some (.dp _ u _)=>some (.v (.int .i64 u.length))|_=>none
def OK(d:Nat):jF N m .lenSl [.own d]=I7 (bg m d):=by simp[jF,dh,yX,I7];grind
def Qu(s:Sl α):I7 (some (ct s))=some (.v (.int .i64 s.l.length)):=by simp[I7,ct,fh]
def PA(n:Nat)(a:Zl)(o:Nat)(ob:aY bq):aY SV:=
 match ob with
 |some (.box u)=>tZ n a ((u.drop o).take n)|_=>none
def Va(n:Nat)(a:Zl)(d o:Nat):og m (.load n a) [.ptr d o]=PA n a o (bg m d):=by rfl
def Lv(n:Nat)(a:Zl)(o:Nat)(cs:Zw):PA n a o (some (.box cs))=tZ n a ((cs.drop o).take n):=rfl
def BM(n:Nat)(a:Zl)(i o:Nat)(ob:aY bq):aY SV:=
 match ob with
 |some (.sl _ _ u)=>match u[i]?with
  |some w=>((cut w o n).bind (mk a)).map .v|none=>none
 |some (.dp _ _ (some (j,t)))=>if j=i/\o=0/\n=1/\a=false then some (.own t)else none|_=>none
def OR(n:Nat)(a:Zl)(d i o:Nat):og m (.load n a) [.el d i o]=BM n a i o (bg m d):=by rfl
def Mb(n:Nat)(a:Zl)(i o:Nat)(s:Sl α):BM n a i o (some (ct s))=(s.get i).bind λx=>(cut (cells x) o n).bind λr=>(mk a r).bind λy=>some (.v y):=by simp only[BM,ct,Sl.get,rows,List.getElem?_map];cases s.l[i]?with|none=>rfl|some x=>simp only[map_some,ζb];cases cut (cells x) o n with|none=>rfl|some r=>simp;cases mk a r<;>rfl
def TF(z:α)(n:Int)(d:Nat)(size:Nat)(zero:Zu)(h:zero=cells z)(B:size=bp.size α):
 mU m (.makeSl size zero) [.v (.int .i64 n),.v (.int .i64 n)] d=(jT n z).bind λs=>some (ct s,.own d):=by
 subst h B;simp[mU,jT];split
 .simp[ct,Sl.k,Sl.l,rows]
 rfl
def Cn(st:St)(d i o size:Nat)(x:V)(ob:aY bq):aY (SV×St):=
 match ob with
 |some (.sl k es w)=>match w[i]?with
  |some u=>if x.cells.length=size/\o+size<=u.length/\x.cells.all V.one=true then
   some (.v .undef,{st with m:=bu st.m d (.sl k es (w.set i (u.take o++x.cells++u.drop (o+x.cells.length))))})else none
  |none=>none
 |_=>none
def Jv(st:St)(dst:aY Nat)(size d i o:Nat)(x:V):jG st dst (.store size) [.el d i o,.v x]=Cn st d i o size x (bg st.m d):=by rfl
def IZ(g:Tb SV)(p:Zv)(w:Zt)(B:Zl)(y:Nat)(d i size:Nat)(x:V)(a:α)(D:x.cells=cells a)(G:size=bp.size α)(s:Sl α):
 Cn ⟨g,m,p,w,B,y⟩ d i 0 size x (some (ct s))=(s.put i a).bind λJ=>some (.v .undef,⟨g,bu m d (ct J),p,w,B,y⟩):=by
 have c:(cells a).all V.one=true:=bp.one a;have z:∀b:α,(cells b).length=bp.size α:=bp.len;subst G;simp only[Cn,ct,rows,List.getElem?_map,D,Sl.put]
 by_cases u:i<s.l.length
 .have hg:=ζd u;rw[if_pos u,hg];simp[z,c]
  cases s with
  |nil=>simp[Sl.l]at u|emp=>simp[Sl.l]at u|row l=>simp[Sl.k,Sl.l,List.drop_of_length_le,z]|part l=>simp[Sl.k,Sl.l,List.drop_of_length_le,z]
 grind
def vD(st:St)(t n:Nat)(s:SV)(xs ys:aY Zt):aY (SV×St):=
 match xs,ys with
 |some _,some []=>match s with
  |.own d=>match bg st.m d with
   |some ob=>if St.new {st with m:=cR d st.m} t then some (.own t,{st with m:=bu (cR d st.m) t ob})else none|none=>none
  |.v .bD=>if st.new t then some (.own t,{st with m:=bu st.m t (.sl .nil n [])})else none|.v .c7=>if st.new t then some (.own t,{st with m:=bu st.m t (.sl .emp n [])})else none|_=>none
 |some xs,some ys=>
  if xs.length+ys.length<=2147483648/\FU s=true then
   if St.new {st with m:=giveUp st.m s} t then some (.own t,{st with m:=bu (giveUp st.m s) t (.sl .row n (xs++ys))})else none
  else none
 |_,_=>none
def u9{st:St}{t n:Nat}{s x:SV}{xs ys:Zt}(a:gV st.m n s=some xs)(B:gV st.m n x=some ys):jG st (some t) (.append n) [s,x]=vD st t n s (some xs) (some ys):=by cases ys<;>cases s<;>cases x<;>(unfold jG vD;simp only[a,B];try rfl)
def Kb(n:Nat)(o:aY bq):aY Zt:=
 match o with
 |some (.sl k es u)=>if bN k then(if es=n then some u else none)else some []|_=>none
def zd(n d:Nat):gV m n (.own d)=Kb n (bg m d):=by simp[gV,Kb];grind
def y8(n:Nat)(s:Sl α)(h:n=bp.size α):Kb n (some (ct s))=some (rows s.l):=by subst h;cases s<;>simp[Kb,ct,Sl.k,Sl.l,bN,rows]
def Q9(n:Nat):gV m n (.v .bD)=some []:=rfl
def P0(n:Nat):gV m n (.v .c7)=some []:=rfl
def KN(g:Tb SV)(p:Zv)(w:Zt)(B:Zl)(y:Nat)(t n d:Nat)(l:aX α)(x:α)(h:n=bp.size α):vD ⟨g,m,p,w,B,y⟩ t n (.own d) (some (rows l)) (some (rows [x]))=
 (eW (.row l) x).bind λs=>if St.new ⟨g,cR d m,p,w,B,y⟩ t then some (.own t,⟨g,bu (cR d m) t (ct s),p,w,B,y⟩)else none:=by
 subst h;have e:(rows l).length+(rows [x]).length=l.length+1:=by simp[fh]
 by_cases h:l.length+1<=2147483648
 .have a:eW (.row l) x=some (.row (l++[x])):=if_pos h;have u:vD ⟨g,m,p,w,B,y⟩ t (bp.size α) (.own d) (some (rows l)) (some (rows [x]))=if St.new ⟨g,cR d m,p,w,B,y⟩ t then some (.own t,⟨g,bu (cR d m) t (.sl .row (bp.size α) (rows l++rows [x])),p,w,B,y⟩)else none:=if_pos ⟨Za,rfl⟩
  rw[a,u];simp[ct,Sl.k,Sl.l,rows]
 have a:eW (.row l) x=none:=if_neg h;have u:vD ⟨g,m,p,w,B,y⟩ t (bp.size α) (.own d) (some (rows l)) (some (rows [x]))=none:=if_neg (λq=>h Za)
 grind
def Mh(g:Tb SV)(p:Zv)(w:Zt)(B:Zl)(y:Nat)(t n:Nat)(x:α)(h:n=bp.size α):vD ⟨g,m,p,w,B,y⟩ t n (.v .bD) (some []) (some (rows [x]))=
 if St.new ⟨g,m,p,w,B,y⟩ t then some (.own t,⟨g,bu m t (ct (.row [x])),p,w,B,y⟩)else none:=by
 subst h;rfl
def K4(g:Tb SV)(p:Zv)(w:Zt)(B:Zl)(y:Nat)(t n:Nat)(x:α)(h:n=bp.size α):vD ⟨g,m,p,w,B,y⟩ t n (.v .c7) (some []) (some (rows [x]))=
 if St.new ⟨g,m,p,w,B,y⟩ t then some (.own t,⟨g,bu m t (ct (.row [x])),p,w,B,y⟩)else none:=by
 subst h;rfl
end
def v8(g:Tb SV)(m:Tb bq)(p:Zv)(w:Zt)(B:Zl)(y d:Nat):St.new ⟨g,m,p,w,B,y⟩ d=(!(p.contains d)&&(bg m d).isNone&& !(sS d g)&& !(rG d m)):=rfl
def qM(d:Nat):sS d []=false:=rfl
def oW(d n:Nat)(x:SV)(r:Tb SV):sS d ((n,x)::r)=(SV.cu d x||sS d r):=rfl
def qC(d:Nat):rG d []=false:=rfl
def pg(d n:Nat)(x:bq)(r:Tb bq):rG d ((n,x)::r)=(bq.cu d x||rG d r):=rfl
def vN(d:Nat)(x:V):SV.cu d (.v x)=false:=rfl
def sJ(d e:Nat):SV.cu d (.own e)=(e==d):=rfl
def sq(d e o:Nat):SV.cu d (.ptr e o)=(e==d):=rfl
def uv(d e i o:Nat):SV.cu d (.el e i o)=(e==d):=rfl
def uq(d e:Nat):SV.cu d (.mp e)=(e==d):=rfl
def sn(d:Nat)(f:Zk)(a b:Zw):SV.cu d (.clo f a b)=(SV.c_ d a||SV.c_ d b):=rfl
def sj(d:Nat)(l:Zw):SV.cu d (.tup l)=SV.c_ d l:=rfl
def qT(d:Nat):SV.c_ d []=false:=rfl
def oQ(d:Nat)(x:SV)(r:Zw):SV.c_ d (x::r)=(SV.cu d x||SV.c_ d r):=rfl
def qN(d:Nat)(cs:Zw):bq.cu d (.box cs)=SV.c_ d cs:=rfl
def DJ(m:Tb bq)(n:Nat):cU m n []=some []:=by cases n<;>simp[cU]
def Bs(m:Tb bq)(n:Nat)(x:SV)(r:Zw):cU m n (x::r)=(shut m n x).bind λy=>(cU m n r).bind λs=>some (y::s):=by cases n<;>(simp[cU];cases shut m _ x<;>(try rfl)<;>(cases cU m _ r<;>rfl))
def SN(m:Tb bq)(n:Nat)(x:V):shut m n (.v x)=some x:=by cases n<;>simp[shut]
def Nb(m:Tb bq)(n:Nat)(f:Zk)(a b:Zw):shut m (n+1) (.clo f a b)=(cU m n a).bind λx=>(cU m n b).bind λy=>some (.clo f x y):=by simp[shut];cases cU m n a<;>(try rfl)<;>(cases cU m n b<;>rfl)
def MI(m:Tb bq)(n:Nat)(l:Zw):shut m (n+1) (.tup l)=(cU m n l).bind λx=>some (.tup x):=by simp[shut];cases cU m n l<;>rfl
def N8(m:Tb bq)(n:Nat)(l:Zw):shut m (n+1) (.agg l)=(cU m n l).bind λx=>some (.agg x):=by simp[shut];cases cU m n l<;>rfl
def sK{α:Type}(n:Nat):cR n ([]:Tb α)=[]:=rfl
def qF{α:Type}(n k:Nat)(x:α)(r:Tb α):cR n ((k,x)::r)=if k=n then cR n r else(k,x)::cR n r:=rfl
def mapM_nil(f:Zw->Zw):mapM f []=[]:=rfl
section
variable{N:Nat->Zk}{m:Tb bq}
def Q4:result []=.tup []:=rfl
def Q3(x:V):result [x]=x:=rfl
def QV(x y:V)(l:Zu):result (x::y::l)=.tup (x::y::l):=rfl
def FX(p:tV)(a:V):jF N m p [.v a]=(bH N p [a]).bind λx=>some (.v x):=Ie N m p _ [a] rfl
def wk(p:tV)(a b:V):jF N m p [.v a,.v b]=(bH N p [a,b]).bind λx=>some (.v x):=Ie N m p _ [a,b] rfl
def rU(l:Zu):dh (l.map .v)=some l:=by induction l with|nil=>rfl|cons a l u=>simp only[map_cons,dh,u];rfl
def uU(n:Nat)(l:Zu):cU m n (l.map .v)=some l:=by induction l with|nil=>exact DJ m n|cons a l u=>rw[map_cons,Bs,SN,u];rfl
def LO(cs:Zu):jO cs [] []=some cs:=rfl
def Jl(cs:Zu)(off size:Nat)(pl:aX (Nat×Nat))(v:V)(vs:Zu):jO cs ((off,size)::pl) (v::vs)=
 if v.cells.length=size/\off+v.cells.length<=cs.length then jO (cs.take off++v.cells++cs.drop (off+v.cells.length)) pl vs else none:=by
 simp only[jO]
 by_cases h:v.cells.length=size<;>by_cases u:off+v.cells.length<=cs.length
 .rw[if_neg (by simp[h];omega),if_pos ⟨h,u⟩]
 .rw[if_pos (by simp[h];omega),if_neg (λq=>u q.2)]
 .rw[if_pos (by simp[h]),if_neg (λq=>h q.1)]
 rw[if_pos (by simp[h]),if_neg (λq=>h q.1)]
def S9(k:Zs)(n:Int):V.cells (.int k n)=[.int k n]:=rfl
def Q6(n:Zl):V.cells (.bool n)=[.bool n]:=rfl
def S_(n:Zq):V.cells (.str n)=[.str n]:=rfl
def Tm:V.cells .bD=[.bD]:=rfl
def o9(k:Zs)(n:Int):V.one (.int k n)=true:=rfl
def ng(n:Zl):V.one (.bool n)=true:=rfl
def oR(n:Zq):V.one (.str n)=true:=rfl
end
section
variable{S:Sys}{c:bU}{β γ δ:Type}{Q:Out×St->aY β}{L:aY β}{e:γ->aY β}
def Mq{dr:Zl}{fr:Zv}{d:aY Nat}{gd:aY (Nat×Zl)}{now:Zl}{k:K}{az:Z4}{st:St}(h:wanted st.g gd=some true):
 fc S c dr fr ⟨d,gd,now,k,az,[],[]⟩ st=fc S c dr fr ⟨d,none,now,k,az,[],[]⟩ st:=by
 unfold fc;rw[h];rfl
def AN(dr:Zl)(st:St):AL dr [] st=some st:=by cases dr<;>rfl
def nu(f:SV->aY V):Zw->aY Zu
 |[]=>some []|x::r=>(f x).bind λy=>(nu f r).bind λs=>some (y::s)
def iK(m:Tb bq):Nat->SV->aY V
 |0,x=>match x with
  |.v y=>some y|.own d=>match bg m d with
   |some (.sl k es xs)=>some (jC k es xs)|some (.dp k xs none)=>some (jC k 1 xs)|_=>none
  |.mp d=>match bg m d with
   |some (.mp B)=>some (.fmap B)|_=>none
  |_=>none
 |n+1,x=>match x with
  |.v y=>some y|.own d=>match bg m d with
   |some (.sl k es xs)=>some (jC k es xs)|some (.dp k xs none)=>some (jC k 1 xs)|_=>none
  |.ptr d o=>match bg m d with
   |some (.box cs)=>match nu (iK m n) cs with
    |some xs=>if o<=xs.length then some (.fptr (xs.drop o))else none|none=>none
   |_=>none
  |.mp d=>match bg m d with
   |some (.mp B)=>some (.fmap B)|_=>none
  |.clo f a b=>(nu (iK m n) a).bind λx=>(nu (iK m n) b).bind λy=>some (.clo f x y)|.tup l=>(nu (iK m n) l).bind λx=>some (.tup x)|.agg l=>(nu (iK m n) l).bind λx=>some (.agg x)|_=>none
def zj(m:Tb bq):∀(n:Nat),(∀x,shut m n x=iK m n x)/\∀l,cU m n l=nu (iK m n) l:=by
 have w:∀n,(∀x,shut m n x=iK m n x)->∀l,cU m n l=nu (iK m n) l:=by intro n h l;induction l with|nil=>exact DJ m n|cons a l u=>rw[Bs,h a,u];rfl
 intro n;induction n with|zero=>have z:∀x,shut m 0 x=iK m 0 x:=(by intro x;cases x<;>simp[shut,iK]<;>rfl);grind|succ n u=>have c:∀x,shut m (n+1) x=iK m (n+1) x:=(by intro x;cases x with|ptr d o=>simp[shut,iK,u.2];rfl|clo f a b=>rw[Nb,u.2,u.2];rfl|tup l=>rw[MI,u.2];rfl|agg l=>rw[N8,u.2];rfl|_=>simp[shut,iK]<;>rfl);grind
def tL(S:Sys)(c:bU)(dr:Zl):Zv->Zy->(St->aY β)->St->aY β
 |_,[],k,st=>k st|fr,o::r,k,st=>((AL dr o.pre st).bind (fc S c dr fr o.strip)).bind λst'=>tL S c dr (if dr then pW fr o.strip else fr) r k (nZ o.dead st')
def Cy(dr:Zl):∀(l:Zy)(fr:Zv)(k:St->aY β)(st:St),tL S c dr fr l k st=(mg S c dr fr l st).bind k
 |[],_,_,_=>rfl|o::r,fr,k,st=>by simp[tL,mg];cases(AL dr o.pre st).bind (fc S c dr fr o.strip)with|none=>rfl|some st'=>exact Cy dr r _ k _
def n5(S:Sys)(c:bU):RC->(St->aY β)->(Nat->St->aY β)->(St->aY β)->St->aY β
 |.skip,n,_,_,st=>n st|.ops l,n,_,_,st=>tL S c false [] l n st|.rH l,n,_,_,st=>tL S c true [] l n st|.seq a b,n,x,r,st=>n5 S c a (λst=>n5 S c b n x r st) x r st|.cond y a b,n,x,r,st=>match pM S.N st.g y with
  |some (.v (.bool t))=>bl t (n5 S c a n x r st) (n5 S c b n x r st)|_=>none
 |.block id a,n,x,r,st=>n5 S c a n (λk st=>if k=id then n st else x k st) r st|.loop a,n,x,r,st=>(nh (cw S c a) st).bind λq=>match q with|(.norm,st)=>n st|(.exit k,st)=>x k st|(.ret,st)=>r st
 |.each g ps a b,n,x,r,st=>(cw S c (.each g ps a b) st).bind λq=>match q with|(.norm,st)=>n st|(.exit k,st)=>x k st|(.ret,st)=>r st
 |.exit k,_,x,_,st=>x k st|.ret,_,_,r,st=>r st|.gh g a,n,x,r,st=>(ghost g st).bind λst=>n5 S c a n x r st|.hg a g,n,x,r,st=>n5 S c a (λst=>(ghost g st).bind n) x r st
def CU(n:St->aY β)(x:Nat->St->aY β)(r:St->aY β):Out×St->aY β
 |(.norm,st)=>n st|(.exit k,st)=>x k st|(.ret,st)=>r st
def By:∀(d:RC)(n:St->aY β)(x:Nat->St->aY β)(r:St->aY β)(st:St),n5 S c d n x r st=(cw S c d st).bind (CU n x r):=by
 intro d
 induction d with
 |skip=>intros;rfl|ops l=>intro n x r st;simp[n5,cw,Cy];cases mg S c false [] l st<;>rfl|rH l=>intro n x r st;simp[n5,cw,Cy];cases mg S c true [] l st<;>rfl|seq a b u w=>intro n x r st;simp[n5,cw,u,w];cases h:cw S c a st with|none=>rfl|some q=>have⟨o,st'⟩:=q;cases o<;>rfl
 |cond y a b u w=>
  intro n x r st;simp[n5,cw,u,w]
  cases pM S.N st.g y with
  |none=>rfl|some v=>cases v with
   |v z=>cases z with
    |bool t=>cases t<;>rfl|_=>rfl
   |_=>rfl
 |block id a B=>intro n x r st;simp[n5,cw,B];cases h:cw S c a st with|none=>rfl|some q=>have⟨o,st'⟩:=q;cases o with|exit k=>simp[CU];split<;>rfl|_=>rfl
 |loop a B=>intro n x r st;rfl|each g ps a b u w=>intro n x r st;rfl|exit k=>intros;rfl|ret=>intros;rfl|gh g a B=>simp[n5,cw,B];grind|hg a g B=>intro n x r st;simp[n5,cw,B];cases h:cw S c a st with|none=>rfl|some q=>have⟨o,st'⟩:=q;cases o with|norm=>simp[CU];cases ghost g st'<;>rfl|_=>rfl
section
variable(S c Q)
mutual
def lT:Z3->St->aY β
 |[]=>λst=>Q (.norm,st)|.seq b::fs=>λst=>n5 S c b (lT fs) (lZ fs) (λst=>Q (.ret,st)) st|.blk _::fs=>lT fs|.gst g::fs=>λst=>(ghost g st).bind (lT fs)
def lZ:Z3->Nat->St->aY β
 |[]=>λk st=>Q (.exit k,st)|.seq _::fs=>lZ fs|.blk id::fs=>λk st=>if k=id then lT fs st else lZ fs k st|.gst _::fs=>lZ fs
end
def j7(a:RC)(fs:Z3)(st:St):aY β:=n5 S c a (lT S c Q fs) (lZ S c Q fs) (λst=>Q (.ret,st)) st
end
section
variable{dr:Zl}{fr:Zv}{d:Nat}{dst:aY Nat}{now:Zl}{az:Z4}{st:St}{α:Type}[bp α]
def PE{p:tV}{svs:Zw}{m:aY δ}{v:δ->SV}(B:bV S.N st.g az=some svs)(D:isSlice p=false)(h:jF S.N st.m p svs=m.bind λx=>some (v x)):
 fc S c dr fr ⟨dst,none,now,.p p,az,[],[]⟩ st=m.bind λx=>some (cZ st dst (v x)):=by
 rw[JE _ _ _ _ _ _ _ D,B]
 grind
def CK{p:tV}{svs:Zw}{v:SV}(B:bV S.N st.g az=some svs)(D:isSlice p=false)(h:jF S.N st.m p svs=some v):
 fc S c dr fr ⟨dst,none,now,.p p,az,[],[]⟩ st=some (cZ st dst v):=by
 rw[JE _ _ _ _ _ _ _ D,B]
 grind
def Pa{n:Nat}{s:Sl α}{k:Zs}{i:Int}(B:bV S.N st.g az=some [.v (cg s),.v (.int k i)])(D:n=bp.size α):
 fc S c dr fr ⟨dst,none,now,.p (.idxS n),az,[],[]⟩ st=(idx s i).bind λx=>some (cZ st dst (.v (.fptr (cells x)))):=
 PE B rfl (by rw[wk,IB s k i n D];grind)
def Ua{n e:Nat}{s:Sl α}{k:Zs}{i:Int}(B:bV S.N st.g az=some [.own e,.v (.int k i)])(D:bg st.m e=some (ct s))(G:n=bp.size α):
 fc S c dr fr ⟨dst,none,now,.p (.idxS n),az,[],[]⟩ st=(s.iB i).bind λj=>some (cZ st dst (.el e j 0)):=
 PE B rfl (by rw[H_,D,Q1 n e s i G])
def O3{s:Sl α}(B:bV S.N st.g az=some [.v (cg s)]):fc S c dr fr ⟨dst,none,now,.p .lenSl,az,[],[]⟩ st=some (cZ st dst (.v (.int .i64 s.l.length))):=CK B rfl (by rw[FX,FJ];rfl)
def Te{e:Nat}{s:Sl α}(B:bV S.N st.g az=some [.own e])(D:bg st.m e=some (ct s)):fc S c dr fr ⟨dst,none,now,.p .lenSl,az,[],[]⟩ st=some (cZ st dst (.v (.int .i64 s.l.length))):=CK B rfl (by rw[OK,D,Qu])
def Q2{u:aY Nat}{s:Sl α}(B:bV S.N st.g az=some [.v (cg s),.v .bD]):fc S c dr fr ⟨dst,none,now,.p (.bin (some .slice) u .eql),az,[],[]⟩ st=s.isNil.bind λt=>some (cZ st dst (.v (.bool t))):=PE B rfl (by rw[wk,Oi];grind)
def N7{s:Zq}{k:Zs}{n:Int}(B:bV S.N st.g az=some [.v (.str s),.v (.int k n)]):fc S c dr fr ⟨dst,none,now,.p .idxStr,az,[],[]⟩ st=(j8 s n).bind λx=>some (cZ st dst (.v (.int .u8 x))):=PE B rfl (by rw[wk,Mj];grind)
def SJ{n e i o:Nat}{a:Zl}{s:Sl α}{v:α->V}(B:bV S.N st.g az=some [.el e i o])(D:(!dr||now||eD fr [.el e i o])=true)(G:bg st.m e=some (ct s))(b:∀x:α,(cut (cells x) o n).bind (mk a)=some (v x)):
 fc S c dr fr ⟨dst,none,now,.r (.load n a),az,[],[]⟩ st=(s.get i).bind λx=>some (cZ st dst (.v (v x))):=by
 rw[BN,B];simp only[ζb,D,OR,G,Mb]
 cases s.get i with
 |none=>rfl|some x=>
  cases d:cut (cells x) o n with
  |none=>grind|some r=>grind
def Qn{n e i:Nat}{s:Sl α}{x:V}{a:α}(B:bV S.N st.g az=some [.el e i 0,.v x])(D:(!dr||now)=true)(G:bg st.m e=some (ct s))(J:x.cells=cells a)(O:n=bp.size α):
 fc S c dr fr ⟨dst,none,now,.l (.store n),az,[],[]⟩ st=(s.put i a).bind λT=>some (cZ {st with m:=bu st.m e (ct T)} dst (.v .undef)):=by
 rw[sP,B];simp[D,Jv,G];rw[IZ st.g st.pin st.want st.more st.yid e i n x a J O s]
 grind
def SQ{n:Nat}{z:α}{zero:Zu}{i:Int}(B:bV S.N st.g az=some [.v (.int .i64 i),.v (.int .i64 i)])(D:zero=cells z)(G:n=bp.size α)(J:st.new d=true):
 fc S c dr fr ⟨some d,none,now,.a (.makeSl n zero),az,[],[]⟩ st=(jT i z).bind λs=>some {st with g:=bu st.g d (.own d),m:=bu st.m d (ct s)}:=by
 rw[zf,B];simp[J];rw[TF z i d n zero D G]
 grind
def TP{n e u:Nat}{s:Sl α}{x:α}(G:bV S.N st.g az=some [.own e,.own u])(J:(!dr||now)=true)(O:bg st.m e=some (ct s))(a:bg st.m u=some (ct (.row [x])))(B:n=bp.size α)(T:St.new {st with m:=cR e st.m} d=true):
 fc S c dr fr ⟨some d,none,now,.l (.append n),az,[],[]⟩ st=(eW s x).bind λD=>some {st with g:=bu st.g d (.own d),m:=bu (cR e st.m) d (ct D)}:=by
 rw[sP,G];simp only[ζb,J,if_true];rw[u9 (xs:=rows s.l) (ys:=rows [x]) (by rw[zd,O,y8 n s B]) (by rw[zd,a,y8 n (.row [x]) B];rfl)]
 have:=KN (m:=st.m) st.g st.pin st.want st.more st.yid d n e s.l x B;rw[this];have w:eW (.row s.l) x=eW s x:=by cases s<;>rfl
 rw[w]
 cases eW s x with
 |none=>rfl|some D=>simp;rw[if_pos T];rfl
def Sv{n u:Nat}{x:α}{v:V}(a:v=.bD\/v=.c7)(G:bV S.N st.g az=some [.v v,.own u])(J:(!dr||now)=true)(b:bg st.m u=some (ct (.row [x])))(B:n=bp.size α)(D:st.new d=true):
 fc S c dr fr ⟨some d,none,now,.l (.append n),az,[],[]⟩ st=some {st with g:=bu st.g d (.own d),m:=bu st.m d (ct (.row [x]))}:=by
 rw[sP,G];simp only[ζb,J,if_true];have w:gV st.m n (.own u)=some (rows [x]):=by rw[zd,b,y8 n (.row [x]) B];rfl
 rcases a with rfl|rfl
 .rw[u9 (Q9 n) w,Mh (m:=st.m) st.g st.pin st.want st.more st.yid d n x B];rw[if_pos D];rfl
 rw[u9 (P0 n) w,K4 (m:=st.m) st.g st.pin st.want st.more st.yid d n x B];rw[if_pos D];rfl
def RT{f:Zk}{svs args:Zw}{cs:Zu}{m:aY δ}{E:δ->Zu}(a:mA c f cs=m.bind λr=>some (E r))(b:S.E.keep f=false)(D:bV S.N st.g az=some svs)(G:pn svs=some (f,args))
 (B:nu (iK st.m 8) args=some cs)(J:((!dr||now)||gA st.m fr args)=true)(d:∀r,((result (E r)).scalar||(dh args).isSome)=true):
 fc S c dr fr ⟨dst,none,now,.c,az,[],[]⟩ st=m.bind λr=>some (cZ st dst (.v (result (E r)))):=by
 rw[Eo dr fr dst now az st svs f args D G,QY _ _ _ _ _ _ _ b,(zj st.m 8).2,B];simp[J,a]
 cases m with
 |none=>rfl|some r=>
  simp[LV]
  grind
end
end
section
variable{S:Sys}{c:bU}{β γ:Type}{Q:Out×St->aY β}{L:aY β}{e:γ->aY β}
def pE(a:RC)(st:St):j7 S c Q a [] st=(cw S c a st).bind Q:=by unfold j7;rw[By];congr 1;funext q;have⟨o,st⟩:=q;cases o<;>rfl
def zq(a:RC)(st:St):cw S c a st=j7 S c some a [] st:=by rw[pE];cases cw S c a st<;>rfl
def ql(rs:aX RV):Out×St->aY Zu
 |(.exit _,_)=>none|(_,st)=>(ki st rs).bind (nu (iK st.m 8))
def Qc(rs:aX RV):F_ rs=ql rs:=by funext q;have⟨o,st⟩:=q;cases o;simp only[F_,ql];congr 1;funext l;exact(zj st.m 8).2 l;rfl;simp only[F_,ql];congr 1;funext l;exact(zj st.m 8).2 l
def Rm{S:Sys}{T:pI}{f:Zk}{rf:RF}(B:T f=some rf)(az:Zu)(D:az.length<=rf.na):mA (cT S T) f az=j7 S (cT S T) (ql rf.rs) rf.body [] (start (az.map .v) []):=by rw[MY B az D,<-Gf,pE,Qc]
end
def nF{α σ ε ρ:Type}(step:α->σ->aY (Fw σ ε ρ)):aX α->σ->aY (Fw σ ε ρ)
 |[],s=>some (.n s)|x::xs,s=>(step x s).bind λw=>match w with
  |.n B=>nF step xs B|.x e=>some (.x e)|.r b=>some (.r b)
def Fw.vf{ν ε ρ γ:Type}(fn:ν->γ)(B:ε->γ)(fr:ρ->γ):Fw ν ε ρ->γ
 |.n a=>fn a|.x e=>B e|.r b=>fr b
def Fw.uB{ν ε ρ:Type}(B:ν->Tb bq)(eε:ε->Nat×Tb bq)(eρ:ρ->Tb bq):Fw ν ε ρ->Out×Tb bq
 |.n a=>(.norm,B a)|.x e=>(.exit (eε e).1,(eε e).2)|.r b=>(.ret,eρ b)
def uB(q:Out×St):aY (Out×Tb bq):=some (q.1,q.2.m)
section
variable{S:Sys}{c:bU}{β γ:Type}{Q:Out×St->aY β}{L:aY β}{e:γ->aY β}
def wG(S:Sys)(c:bU)(b:RC):Out×St->aY (Out×Tb bq)
 |(.norm,st)=>j7 S c uB b [] st|_=>none
def I6(ps:Zv)(a b:RC)(st:St)(x:Zu)(m:Tb bq)(B:x.length=ps.length):
 iz ps (cw S c a) (cw S c b) st x m=j7 S c (wG S c b) a [] ⟨u7 st.g ps (x.map .v),m,st.pin++oD st.g,[],true,0⟩:=by
 unfold iz;rw[if_pos B,pE]
 cases cw S c a ⟨u7 st.g ps (x.map .v),m,st.pin++oD st.g,[],true,0⟩with
 |none=>rfl|some q=>
  have⟨o,u⟩:=q
  cases o with
  |norm=>simp only[ζb,wG];rw[pE];cases cw S c b u<;>rfl|_=>rfl
end
def Le{α:Type}(a b:aY α):Prop:=∀r,a=some r->b=some r
section
variable{α:Type}
def Le.refl(a:aY α):Le a a:=λ_ h=>h
def Le.of_eq{a b:aY α}(h:b=a):Le a b:=λ_ u=>h.trans u
def Le.trans{a b d:aY α}(c:Le a b)(B:Le b d):Le a d:=λr h=>B r (c r h)
def Le.none(b:aY α):Le (none:aY α) b:=λr h=>by cases h
def Le.bind{β:Type}{a b:aY α}{f g:α->aY β}(h:Le a b)(B:∀x,Le (f x) (g x)):Le (a.bind f) (b.bind g):=λr c=>by have⟨x,d,u⟩:=ζg.1 c;rw[h x d];exact B x r u
end
section
variable{S:Sys}{c:bU}{β γ δ:Type}{Q:Out×St->aY β}{L:aY β}{e:γ->aY β}
def GJ{dr:Zl}{fr:Zv}{dst:aY Nat}{now:Zl}{az:Z4}{st:St}{f:Zk}{svs args:Zw}{cs:Zu}{m:aY δ}{E:δ->Zu}(a:Le (m.bind λr=>some (E r)) (mA c f cs))(b:S.E.keep f=false)(D:bV S.N st.g az=some svs)(G:pn svs=some (f,args))
 (B:nu (iK st.m 8) args=some cs)(J:((!dr||now)||gA st.m fr args)=true)(d:∀r,((result (E r)).scalar||(dh args).isSome)=true):
 Le (m.bind λr=>some (cZ st dst (.v (result (E r))))) (fc S c dr fr ⟨dst,none,now,.c,az,[],[]⟩ st):=by
 intro q w;have⟨r,e,z⟩:=ζg.1 w;have u:mA c f cs=(some r).bind λr=>some (E r):=a _ (by rw[e];rfl)
 rw[RT (m:=some r) u b D G B J d];exact z
def Nv{σ ε ρ:Type}{f:St->aY (Out×St)}{step:σ->aY (Fw σ ε ρ)}{eσ:σ->St}{eε:ε->Nat×St}{eρ:ρ->St}(h:∀s,Le ((step s).bind λw=>some (Fw.out eσ eε eρ w)) (f (eσ s)))(s:σ):
 Le ((bM step s).bind λw=>some (Fw.out (λe=>Empty.elim e) eε eρ w)) (nh f (eσ s)):=by
 have key:∀k s r,kC step k s=some r->iN f k (eσ s)=some (Fw.out (λe=>Empty.elim e) eε eρ r):=by intro k;induction k with|zero=>intro s r h;simp[kC]at h|succ k C=>intro s r u;simp only[kC]at u;cases z:step s with|none=>rw[z]at u;cases u|some w=>rw[z]at u;have B:=h s (Fw.out eσ eε eρ w) (by rw[z];rfl);simp only[iN,B];cases w with|n a=>exact C a r u|x e=>cases u;rfl|r b=>cases u;rfl
 intro r c;have⟨w,d,B⟩:=ζg.1 c;have⟨k,g⟩:=oO.1 d;cases B;exact lR.2 ⟨k,key k s w g⟩
def T9{σ ε ρ:Type}{a:RC}{fs:Z3}{step:σ->aY (Fw σ ε ρ)}{eσ:σ->St}{eε:ε->Nat×St}{eρ:ρ->St}{s:σ}{B:ε->aY γ}{fr:ρ->aY γ}
 (D:L=j7 S c Q (.loop a) fs (eσ s))(h:∀s,Le ((step s).bind λw=>some (Fw.out eσ eε eρ w)) (j7 S c some a [] (eσ s)))
 (G:∀x,Le ((B x).bind e) (lZ S c Q fs (eε x).1 (eε x).2))(d:∀b,Le ((fr b).bind e) (Q (.ret,eρ b))):Le (((bM step s).bind (Fw.elim B fr)).bind e) L:=by
 subst D;have g:j7 S c Q (.loop a) fs (eσ s)=(nh (cw S c a) (eσ s)).bind (CU (lT S c Q fs) (lZ S c Q fs) (λst=>Q (.ret,st))):=by unfold j7;rw[By];rfl
 rw[g];have u:=Nv (step:=step) (f:=cw S c a) (eσ:=eσ) (eε:=eε) (eρ:=eρ) (λs=>by rw[zq];exact h s) s
 cases z:bM step s with
 |none=>exact Le.none _|some w=>
  have C:=u _ (by rw[z];rfl)
  rw[C]
  cases w with
  |n a=>cases a|x a=>exact G a|r a=>exact d a
def GH{α σ ε ρ:Type}{f:Zu->Tb bq->aY (Out×Tb bq)}{step:α->σ->aY (Fw σ ε ρ)}{eI:α->Zu}{eσ:σ->Tb bq}{eε:ε->Nat×Tb bq}{eρ:ρ->Tb bq}
 (h:∀x s,Le ((step x s).bind λw=>some (Fw.uB eσ eε eρ w)) (f (eI x) (eσ s))):∀(xs:aX α)(s:σ),Le ((nF step xs s).bind λw=>some (Fw.uB eσ eε eρ w)) (o_ f (xs.map eI) (eσ s))
 |[],s=>λr a=>a|x::xs,s=>by simp only[map_cons,o_,nF];cases B:step x s with|none=>exact Le.none _|some w=>have D:=h x s (Fw.uB eσ eε eρ w) (by rw[B];rfl);rw[D];cases w with|n u=>simp only[ζb,Fw.uB];exact GH h xs u|x e=>exact Le.refl _|r b=>exact Le.refl _
def TV{α σ ε ρ:Type}{g:Arg}{ps:Zv}{a b:RC}{fs:Z3}{f:Zk}{x y:Zu}{d:aX α}{eI:α->Zu}{step:α->σ->aY (Fw σ ε ρ)}{eσ:σ->Tb bq}{eε:ε->Nat×Tb bq}{eρ:ρ->Tb bq}{i:Tb SV}{s:σ}
 {fn:σ->aY γ}{B:ε->aY γ}{fr:ρ->aY γ}
 (D:L=j7 S c Q (.each g ps a b) fs ⟨i,eσ s,[],[],true,0⟩)(j:pM S.N i g=some (.v (.clo f x y)))(G:S.items f x y=some (d.map eI))(J:∀x,(eI x).length=ps.length)
 (h:∀x s,Le ((step x s).bind λw=>some (Fw.uB eσ eε eρ w)) (j7 S c (wG S c b) a [] ⟨u7 i ps ((eI x).map .v),eσ s,oD i,[],true,0⟩))
 (O:∀s,Le ((fn s).bind e) (lT S c Q fs ⟨i,eσ s,[],[],true,0⟩))
 (T:∀x,Le ((B x).bind e) (lZ S c Q fs (eε x).1 ⟨i,(eε x).2,[],[],true,0⟩))(k:∀b,Le ((fr b).bind e) (Q (.ret,⟨i,eρ b,[],[],true,0⟩))):
 Le (((nF step d s).bind (Fw.vf fn B fr)).bind e) L:=by
 subst D;have l:j7 S c Q (.each g ps a b) fs ⟨i,eσ s,[],[],true,0⟩=(cw S c (.each g ps a b) ⟨i,eσ s,[],[],true,0⟩).bind (CU (lT S c Q fs) (lZ S c Q fs) (λst=>Q (.ret,st))):=by unfold j7;rw[By]
 rw[l];simp only[cw,j,G];have u:=GH (step:=step) (f:=iz ps (cw S c a) (cw S c b) ⟨i,eσ s,[],[],true,0⟩) (eI:=eI) (eσ:=eσ) (eε:=eε) (eρ:=eρ) (λx s=>by rw[I6 _ _ _ _ _ _ (J x)];exact h x s) d s
 cases z:nF step d s with
 |none=>exact Le.none _|some w=>
  have C:=u _ (by rw[z];rfl)
  rw[C]
  cases w with
  |n a=>exact O a|x a=>exact T a|r a=>exact k a
end
inductive Fo where
 |rc(c:RC)|ops(dr:Bool)(fr:List Nat)(l:List RO)|nx|ex(k:Nat)|rt
abbrev bE(g:Tb SV)(m:Tb bq):St:=⟨g,m,[],[],true,0⟩
section
variable(S:Sys)(c:bU){β:Type}(Q:Out×St->aY β)
def rn:Fo->Z3->St->aY β
 |.rc a,fs,st=>j7 S c Q a fs st|.ops dr fr l,fs,st=>tL S c dr fr l (lT S c Q fs) st|.nx,fs,st=>lT S c Q fs st|.ex k,fs,st=>lZ S c Q fs k st|.rt,_,st=>Q (.ret,st)
def ud:Fo->Z3->St->aY (Fo×Z3×St)
 |.rc .skip,fs,st=>some (.nx,fs,st)|.rc (.ops l),fs,st=>some (.ops false [] l,fs,st)|.rc (.rH l),fs,st=>some (.ops true [] l,fs,st)|.rc (.seq a b),fs,st=>some (.rc a,.seq b::fs,st)|.rc (.cond y a b),fs,st=>match pM S.N st.g y with
  |some (.v (.bool true))=>some (.rc a,fs,st)|some (.v (.bool false))=>some (.rc b,fs,st)|_=>none
 |.rc (.block id a),fs,st=>some (.rc a,.blk id::fs,st)|.rc (.exit k),fs,st=>some (.ex k,fs,st)|.rc .ret,fs,st=>some (.rt,fs,st)|.rc (.gh g a),fs,st=>match ghost g st with
  |some st'=>some (.rc a,fs,st')|none=>none
 |.rc (.hg a g),fs,st=>some (.rc a,.gst g::fs,st)|.rc (.loop _),_,_=>none|.rc (.each ..),_,_=>none|.ops _ _ [],fs,st=>some (.nx,fs,st)|.ops dr fr (⟨d,gd,now,k,az,dd,[]⟩::r),fs,st=>match fc S c dr fr ⟨d,gd,now,k,az,[],[]⟩ st with
  |some st'=>some (.ops dr (if dr then pW fr ⟨d,gd,now,k,az,[],[]⟩else fr) r,fs,nZ dd st')|none=>none
 |.ops dr fr (⟨d,gd,now,k,az,dd,x::xs⟩::r),fs,st=>if dr&& !(xo x&&xs.all xo)then none else match ghost x st with
  |some st'=>some (.ops dr fr (⟨d,gd,now,k,az,dd,xs⟩::r),fs,st')|none=>none
 |.nx,.seq b::fs,st=>some (.rc b,fs,st)|.nx,.blk _::fs,st=>some (.nx,fs,st)|.nx,.gst g::fs,st=>match ghost g st with
  |some st'=>some (.nx,fs,st')|none=>none
 |.nx,[],_=>none|.ex k,.seq _::fs,st=>some (.ex k,fs,st)|.ex k,.blk id::fs,st=>some (if k=id then .nx else .ex k,fs,st)|.ex k,.gst _::fs,st=>some (.ex k,fs,st)|.ex _,[],_=>none|.rt,_,_=>none
def fV:Nat->Fo->Z3->St->aY (Fo×Z3×St)
 |0,fo,fs,st=>some (fo,fs,st)|n+1,fo,fs,st=>match ud S c fo fs st with
  |some (fo',fs',st')=>fV n fo' fs' st'|none=>none
end
section
variable{S:Sys}{c:bU}{β γ δ:Type}{Q:Out×St->aY β}{e:γ->aY β}
def Gu{fo fo':Fo}{fs fs':Z3}{st st':St}(h:ud S c fo fs st=some (fo',fs',st')):rn S c Q fo fs st=rn S c Q fo' fs' st':=by
 cases fo with
 |rc a=>cases a with|cond y a b=>simp only[ud]at h;split at h;(next u=>cases h;simp only[rn,j7,n5,u,bl,if_true]);(next u=>cases h;simp only[rn,j7,n5,u,bl];rfl);cases h|gh g a=>simp only[ud]at h;split at h;(next u=>cases h;simp only[rn,j7,n5,u,ζb]);cases h|loop a=>cases h|each g ps a b=>cases h|seq a b=>cases h;simp only[rn,j7,n5,lT,lZ]|block id a=>cases h;simp only[rn,j7,n5,lT,lZ]|hg a g=>cases h;simp only[rn,j7,n5,lT,lZ]|_=>cases h;simp only[rn,j7,n5]
 |ops dr fr l=>cases l with|nil=>cases h;simp only[rn,tL]|cons o r=>have⟨d,gd,now,k,az,dd,pre⟩:=o;cases pre with|nil=>simp only[ud]at h;split at h;(next u=>cases h;simp only[rn,tL,AN,RO.strip,ζb,u]);cases h|cons x z=>simp only[ud]at h;split at h;cases h;rename_i w;split at h;rename_i u;cases h;(cases dr with|true=>simp only[Bool.true_and,Bool.not_eq_true',Bool.not_eq_false,ζh]at w;simp only[rn,tL,RO.strip,AL,nH,if_true,List.all_cons,w.1,w.2,Bool.and_self,u,ζb]|false=>simp only[rn,tL,RO.strip,AL,nH,Bool.false_eq_true,if_false,u,ζb]);cases h
 |nx=>cases fs with|nil=>cases h|cons f fs=>cases f with|seq b=>cases h;simp only[rn,j7,lT]|blk id=>cases h;simp only[rn,lT]|gst g=>simp only[ud]at h;split at h;(next u=>cases h;simp only[rn,lT,u,ζb]);cases h
 |ex k=>cases fs with|nil=>cases h|cons f fs=>cases f with|seq b=>cases h;simp only[rn,lZ]|blk id=>cases h;simp only[rn,lZ];by_cases e:k=id;simp only[if_pos e,rn];simp only[if_neg e,rn]|gst g=>cases h;simp only[rn,lZ]
 |rt=>cases h
def nK:∀{n:Nat}{fo fo':Fo}{fs fs':Z3}{st st':St},fV S c n fo fs st=some (fo',fs',st')->rn S c Q fo fs st=rn S c Q fo' fs' st'
 |0,fo,fo',fs,fs',st,st',h=>by cases h;rfl|n+1,fo,fo',fs,fs',st,st',h=>by simp only[fV]at h;split at h;(next a b d B=>rw[Gu B];exact nK h);cases h
def Ae{n:Nat}{fo fo':Fo}{fs fs':Z3}{st st':St}{m:aY β}(h:fV S c n fo fs st=some (fo',fs',st'))(B:Le m (rn S c Q fo' fs' st')):Le m (rn S c Q fo fs st):=by rw[nK h];exact B
def Vb{n:Nat}{fo fo':Fo}{fs fs':Z3}{st st':St}{r:γ}(h:fV S c n fo fs st=some (fo',fs',st'))(B:rn S c Q fo' fs' st'=e r):Le ((some r).bind e) (rn S c Q fo fs st):=by rw[nK h];exact Le.of_eq B
def Pc{m:aY δ}{f:δ->aY γ}{L:aY β}(k:δ->aY β)(B:Le (m.bind k) L)(b:∀r,Le ((f r).bind e) (k r)):Le ((m.bind f).bind e) L:=by intro r a;cases m with|none=>cases a|some x=>exact B r (b x r a)
def UX{n:Nat}{fo:Fo}{fs fs':Z3}{st0:St}{dr:Zl}{q l:Zy}{fr:Zv}{st:St}{d:aY Nat}{gd:aY (Nat×Zl)}{now:Zl}{k:K}{az:Z4}{dd:Zv}{m:aY δ}{g:δ->St}{f:δ->aY γ}
 (B:fV S c n fo fs st0=some (.ops dr fr q,fs',st))(D:q=⟨d,gd,now,k,az,dd,[]⟩::l)(a:wanted st.g gd=some true)
 (G:Le (m.bind λx=>some (g x)) (fc S c dr fr ⟨d,none,now,k,az,[],[]⟩ st))
 (h:∀x,m=some x->Le ((f x).bind e) (rn S c Q (.ops dr (if dr then pW fr ⟨d,gd,now,k,az,[],[]⟩else fr) l) fs' (nZ dd (g x)))):Le ((m.bind f).bind e) (rn S c Q fo fs st0):=by
 rw[nK B];subst D;simp only[rn,tL,RO.strip,AN,ζb];rw[Mq a]
 cases m with
 |none=>exact Le.none _|some x=>rw[G (g x) rfl];exact h x rfl
def OP{n:Nat}{fo:Fo}{fs fs':Z3}{st0:St}{dr:Zl}{q l:Zy}{fr:Zv}{st st':St}{d:aY Nat}{gd:aY (Nat×Zl)}{now:Zl}{k:K}{az:Z4}{dd:Zv}{m:aY β}
 (B:fV S c n fo fs st0=some (.ops dr fr q,fs',st))(D:q=⟨d,gd,now,k,az,dd,[]⟩::l)(a:wanted st.g gd=some true)
 (G:fc S c dr fr ⟨d,none,now,k,az,[],[]⟩ st=some st')
 (h:Le m (rn S c Q (.ops dr (if dr then pW fr ⟨d,gd,now,k,az,[],[]⟩else fr) l) fs' (nZ dd st'))):Le m (rn S c Q fo fs st0):=by
 rw[nK B];subst D;simp only[rn,tL,RO.strip,AN,ζb];rw[Mq a,G];exact h
def Lc{n:Nat}{fo:Fo}{B:Z3}{st:St}{σ ε ρ:Type}{a:RC}{fs:Z3}{step:σ->aY (Fw σ ε ρ)}{eσ:σ->St}{eε:ε->Nat×St}{eρ:ρ->St}{s:σ}{D:ε->aY γ}{fr:ρ->aY γ}
 (G:fV S c n fo B st=some (.rc (.loop a),fs,eσ s))(h:∀s,Le ((step s).bind λw=>some (Fw.out eσ eε eρ w)) (rn S c some (.rc a) [] (eσ s)))
 (J:∀x,Le ((D x).bind e) (rn S c Q (.ex (eε x).1) fs (eε x).2))(d:∀b,Le ((fr b).bind e) (Q (.ret,eρ b))):Le (((bM step s).bind (Fw.elim D fr)).bind e) (rn S c Q fo B st):=by
 rw[nK G];exact T9 (L:=rn S c Q (.rc (.loop a)) fs (eσ s)) rfl h J d
def Se{n:Nat}{fo:Fo}{B:Z3}{st:St}{α σ ε ρ:Type}{g:Arg}{ps:Zv}{a b:RC}{fs:Z3}{f:Zk}{x y:Zu}{d:aX α}{eI:α->Zu}{step:α->σ->aY (Fw σ ε ρ)}{eσ:σ->Tb bq}{eε:ε->Nat×Tb bq}{eρ:ρ->Tb bq}{i:Tb SV}{s:σ}
 {fn:σ->aY γ}{D:ε->aY γ}{fr:ρ->aY γ}
 (G:fV S c n fo B st=some (.rc (.each g ps a b),fs,bE i (eσ s)))(j:pM S.N i g=some (.v (.clo f x y)))(J:S.items f x y=some (d.map eI))(O:∀x,(eI x).length=ps.length)
 (h:∀x s,Le ((step x s).bind λw=>some (Fw.uB eσ eε eρ w)) (rn S c (wG S c b) (.rc a) [] ⟨u7 i ps ((eI x).map .v),eσ s,oD i,[],true,0⟩))
 (T:∀s,Le ((fn s).bind e) (rn S c Q .nx fs (bE i (eσ s))))
 (U:∀x,Le ((D x).bind e) (rn S c Q (.ex (eε x).1) fs (bE i (eε x).2)))(k:∀b,Le ((fr b).bind e) (Q (.ret,bE i (eρ b)))):
 Le (((nF step d s).bind (Fw.vf fn D fr)).bind e) (rn S c Q fo B st):=by
 rw[nK G];exact TV (L:=rn S c Q (.rc (.each g ps a b)) fs (bE i (eσ s))) rfl j J O h T U k
def Ta{b:RC}{st st':St}{m:aY (Out×Tb bq)}{fs:Z3}{n:Nat}{fo:Fo}(h:fV S c n fo fs st=some (.nx,[],st'))(B:Le m (rn S c uB (.rc b) [] st')):Le m (rn S c (wG S c b) fo fs st):=by rw[nK h];exact B
def TM{α:Type}{n:Nat}{fo fo':Fo}{fs fs':Z3}{st:St}{A:aY α->St}{o:aY α}{f:α->aY γ}(h:fV S c n fo fs st=some (fo',fs',A o))
 (B:∀x,o=some x->Le ((f x).bind e) (rn S c Q fo' fs' (A (some x)))):Le ((o.bind f).bind e) (rn S c Q fo fs st):=by
 rw[nK h]
 cases o with
 |none=>exact Le.none _|some x=>exact B x rfl
def U4{T:pI}{f:Zk}{rf:RF}{az:Zu}{m:aY Zu}(B:T f=some rf)(D:az.length<=rf.na)(h:Le m (rn S (cT S T) (ql rf.rs) (.rc rf.body) [] (start (az.map .v) []))):Le m (mA (cT S T) f az):=by rw[Rm B az D];exact h
end
section
variable{α:Type}[bp α]
abbrev cv(x:α):SV:=.v (enc x)
abbrev cp(x:α):SV:=.v (.fptr (cells x))
abbrev bx(x:α):bq:=.box ((cells x).map .v)
end
structure kN(S:Sys)(c:bU){α δ:Type}(fn:FuncId)(A:α->List V)(E:δ->List V)(p:α->Option δ)(sc:Bool):Prop where
 k:S.E.keep fn=false
 h:∀z,Le ((p z).bind λr=>some (E r)) (mA c fn (A z))
 s:sc=true->∀r,(result (E r)).scalar=true
section
variable{S:Sys}{c:bU}{β γ δ α:Type}{Q:Out×St->aY β}{e:γ->aY β}{fo:Fo}{fs:Z3}{st0:St}{l:Zy}{d:aY Nat}{gd:aY (Nat×Zl)}{now:Zl}{az:Z4}{dd:Zv}
abbrev rP(S:Sys)(c:bU)(Q:Out×St->aY β)(dr:Bool)(fr:aX Nat)(d:aY Nat)(k:K)(l:aX RO)(fs:aX Fm)(dd:aX Nat)(st:St):aY β:=rn S c Q (.ops dr (if dr then(match k with|.p _|.r _=>fr|_=>match d with|some d=>d::fr|none=>fr)else fr) l) fs (nZ dd st)
def Dp(fr:Zv)(k:K):pW fr ⟨d,gd,now,k,az,[],[]⟩=(match k with|.p _|.r _=>fr|_=>match d with|some d=>d::fr|none=>fr):=by cases k<;>cases d<;>rfl
def CO{n:Nat}{dr:Zl}{fr:Zv}{q:Zy}{fs':Z3}{st:St}{k:K}{m:aY δ}{g:δ->St}{f:δ->aY γ}
 (B:fV S c n fo fs st0=some (.ops dr fr q,fs',st))(D:q=⟨d,gd,now,k,az,dd,[]⟩::l)(a:wanted st.g gd=some true)
 (G:Le (m.bind λx=>some (g x)) (fc S c dr fr ⟨d,none,now,k,az,[],[]⟩ st))
 (h:∀x,m=some x->Le ((f x).bind e) (rP S c Q dr fr d k l fs' dd (g x))):Le ((m.bind f).bind e) (rn S c Q fo fs st0):=
 UX B D a G (λx u=>by rw[Dp];grind)
def p9{n:Nat}{dr:Zl}{fr:Zv}{q:Zy}{fs':Z3}{st st':St}{k:K}{m:aY β}
 (B:fV S c n fo fs st0=some (.ops dr fr q,fs',st))(D:q=⟨d,gd,now,k,az,dd,[]⟩::l)(a:wanted st.g gd=some true)
 (G:fc S c dr fr ⟨d,none,now,k,az,[],[]⟩ st=some st')(h:Le m (rP S c Q dr fr d k l fs' dd st')):Le m (rn S c Q fo fs st0):=
 OP B D a G (by rw[Dp];omega)
section
variable[bp α]
def Nw(n:Nat)(dr:Zl)(fr:Zv)(q:Zy)(fs':Z3)(st:St)(k:Zs){a:Nat}{s:Sl α}{i:Int}{f:α->aY γ}(D:q=⟨d,gd,now,.p (.idxS a),az,dd,[]⟩::l)
 (B:(fV S c n fo fs st0,wanted st.g gd,bV S.N st.g az,a)=(some (.ops dr fr q,fs',st),some true,some [.v (cg s),.v (.int k i)],bp.size α))
 (h:∀x,idx s i=some x->Le ((f x).bind e) (rP S c Q dr fr d (.p (.idxS a)) l fs' dd (cZ st d (cp x)))):Le (((idx s i).bind f).bind e) (rn S c Q fo fs st0):=by
 simp at B;exact CO B.1 D B.2.1 (Le.of_eq (Pa B.2.2.1 B.2.2.2)) h
def R7(n:Nat)(dr:Zl)(fr:Zv)(q:Zy)(fs':Z3)(st:St)(s:Sl α){m:aY β}(D:q=⟨d,gd,now,.p .lenSl,az,dd,[]⟩::l)
 (B:(fV S c n fo fs st0,wanted st.g gd,bV S.N st.g az)=(some (.ops dr fr q,fs',st),some true,some [.v (cg s)]))
 (h:Le m (rP S c Q dr fr d (.p .lenSl) l fs' dd (cZ st d (.v (.int .i64 s.l.length))))):Le m (rn S c Q fo fs st0):=by
 simp at B;exact p9 B.1 D B.2.1 (O3 B.2.2) h
end
section
variable{q:Zy}{fs':Z3}
end
def E3(m:Tb bq)(n:Nat)(l:Zu):nu (iK m n) (l.map .v)=some l:=by rw[<-(zj m n).2,uU]
variable{A:α->Zu}{E:δ->Zu}{p:α->aY δ}{fn:Zk}{sc:Zl}
end
abbrev iv(n:Int):SV:=.v (.int .i64 n)
abbrev bv(b:Bool):SV:=.v (.bool b)
abbrev len{α:Type}(s:Sl α):Int:=((List.length (Sl.l s):Nat):Int)
abbrev o1(d:Nat)(a:Arg)(dd:aX Nat):RO:=⟨some d,none,false,.p .id,[a],dd,[]⟩
abbrev o2(d:Nat)(k:K)(az:aX Arg)(dd:aX Nat):RO:=⟨some d,none,false,k,az,dd,[]⟩
abbrev o3(d s:Nat)(b:Bool)(k:K)(az:aX Arg)(dd:aX Nat):RO:=⟨some d,some (s,b),false,k,az,dd,[]⟩
def HZ(a b:aZ):Zl:=[a.proc,a.index]==[b.proc,b.index]
section
variable{α:Type}[bp α]
def uX(h:bp.agg α=false)(a:α):cells a=[enc a]:=by
 have u:(cells a).length=1:=by rw[show(cells a).length=_ from bp.len a,bp.plain h]
 unfold enc;rw[if_neg (by simp[h])];match b:cells a,u with|[x],_=>rfl
def zm(h:bp.agg α=true)(a:α):enc a=.agg (cells a):=by unfold enc;grind
def kf(a:α):V.good (enc a)=true:=by have h:V.cB (cells a)=true:=bp.good a;cases u:bp.agg α with|true=>rw[zm u];exact h|false=>rw[uX u]at h;simp[V.cB]at h;omega
def ot(s:Sl α):V.one (enc s)=true:=DO s
def OL(s:α)(h:bp.agg α=false):V.one (enc s)=true:=by have:=bp.one s;rw[show bp.cells s=cells s from rfl,uX h]at this;grind
end
instance{α:Type}[bp α]:bp (aY α)where
 cells o:=[match o with|none=>.gL|some x=>.fptr (cells x)]
 agg:=false
 size:=1
 len _:=rfl
 good o:=by cases o with|none=>rfl|some x=>simp only[V.cB,V.good,Bool.and_true];exact bp.good x
 one o:=by cases o<;>rfl
 plain _:=rfl
structure U8 where
 v:Int
 deriving Inhabited,DecidableEq
instance:bp U8 where
 cells n:=[.int .u8 n.v]
 agg:=false
 size:=1
 len _:=rfl
 good _:=rfl
 one _:=rfl
 plain _:=rfl
structure Vn where
 v:Int
 deriving Inhabited,DecidableEq
instance:bp Vn where
 cells n:=[.int .u64 n.v]
 agg:=false
 size:=1
 len _:=rfl
 good _:=rfl
 one _:=rfl
 plain _:=rfl
structure VD where
 v:Int
 deriving Inhabited,DecidableEq
instance:bp VD where
 cells n:=[.int .u32 n.v]
 agg:=false
 size:=1
 len _:=rfl
 good _:=rfl
 one _:=rfl
 plain _:=rfl
structure Vw where
 v:Int
 deriving Inhabited,DecidableEq
instance:bp Vw where
 cells n:=[.int .i32 n.v]
 agg:=false
 size:=1
 len _:=rfl
 good _:=rfl
 one _:=rfl
 plain _:=rfl
structure pH(S:Sys)(c:bU){α δ:Type}(g:FuncId)(w e:List V)(A:α->List V)(R:δ->List V)(p:α->Option δ)(b:Bool):Prop where
 f:kN S c g (λz=>w++A z++e) R p b
section
variable{S:Sys}{c:bU}{β γ δ α:Type}{Q:Out×St->aY β}{e:γ->aY β}{fo:Fo}{fs:Z3}{st0:St}{l:Zy}{d:aY Nat}{gd:aY (Nat×Zl)}{now:Zl}{az:Z4}{dd:Zv}
def ow{α:Type}[bp α](a:α):V.cells (enc a)=cells a:=by cases u:bp.agg α with|true=>rw[zm u];rfl|false=>have b:=OL a u;rw[uX u];cases h:enc a<;>first|rfl|(rw[h]at b;cases b)
def sH{α:Type}[bp α](a:α):(cells a).all V.one=true:=bp.one a
def gG{α:Type}[bp α](a:α):(cells a).length=bp.size α:=bp.len a
def Ast[bp α](n:Nat)(dr:Zl)(fr:Zv)(q:Zy)(fs':Z3)(st:St)(u o:Nat)(x:α)(cs B:Zw){a:Nat}{m:aY β}(G:q=⟨d,gd,now,.l (.store a),az,dd,[]⟩::l)
 (D:(fV S c n fo fs st0,wanted st.g gd,bV S.N st.g az,bg st.m u,(!dr||now),a,ble (o+a) cs.length,cs.take o++(cells x).map .v++cs.drop (o+a))=(some (.ops dr fr q,fs',st),some true,some [.ptr u o,cv x],some (.box cs),true,bp.size α,true,B))
 (h:Le m (rP S c Q dr fr d (.l (.store a)) l fs' dd (cZ {st with m:=bu st.m u (.box B)} d (.v .undef)))):Le m (rn S c Q fo fs st0):=by
 simp only[ζc]at D;have⟨b,w,z,C,I,J,L,O⟩:=D;refine p9 b G w ?_ h;rw[sP,z];subst J;have T:=Nat.le_of_ble_eq_true L;simp only[ζb,I,if_true,jG,C,putCells,ow,gG,sH,T,and_self,O,map_some]
def xO{α:Type}[bp α]:∀(xs:aX α)(pre:Zt)(B:Zt),B.length=xs.length->eR (bp.size α) (pre++B) ((range' pre.length xs.length).zip (xs.map enc))=some (pre++rows xs)
 |[],pre,B,h=>by have:=List.eq_nil_of_length_eq_zero h;subst this;rfl|x::xs,pre,s::B,h=>by simp only[length_cons,List.range'_succ,map_cons,List.zip_cons_cons,eR,ow,gG,sH];have:=xO xs (pre++[cells x]) B Zd;simp only[ζi,length_cons,length_nil]at this;have e:(pre++s::B).set pre.length (cells x)=pre++[cells x]++B:=Zc;rw[e,this];simp[rows]
def Vo[bp α](n:Nat)(dr:Zl)(fr:Zv)(q:Zy)(fs':Z3)(st:St)(xs:aX α){u a ln:Nat}{zero:Zu}{ix:Zv}{m:aY β}(D:q=⟨some u,gd,now,.a (.buildSl a ln zero ix),az,dd,[]⟩::l)
 (G:st.new u=true)(B:(fV S c n fo fs st0,wanted st.g gd,bV S.N st.g az,a,ln,ix)=(some (.ops dr fr q,fs',st),some true,some ((xs.map enc).map .v),bp.size α,xs.length,range' 0 xs.length))
 (h:Le m (rP S c Q dr fr (some u) (.a (.buildSl a ln zero ix)) l fs' dd {st with g:=bu st.g u (.own u),m:=bu st.m u (ct (.row xs))})):Le m (rn S c Q fo fs st0):=by
 simp only[ζc]at B;have⟨b,w,z,C,I,J⟩:=B;subst C I J;refine p9 b D w ?_ h;rw[zf,z];simp only[ζb,G,mU,rU,List.length_range',length_map];have:=xO xs [] (replicate xs.length zero) Zc
 simp at this;rw[this];rfl
def UY[bp α](n:Nat)(dr:Zl)(fr:Zv)(q:Zy)(fs':Z3)(st:St)(x:α)(vs:Zu){z:Zu}{pl:aX (Nat×Nat)}{m:aY β}(D:q=⟨d,gd,now,.p (.build z pl),az,dd,[]⟩::l)
 (G:jO z pl vs=some (cells x))(J:bp.agg α=true)
 (B:(fV S c n fo fs st0,wanted st.g gd,bV S.N st.g az)=(some (.ops dr fr q,fs',st),some true,some (vs.map .v)))
 (h:Le m (rP S c Q dr fr d (.p (.build z pl)) l fs' dd (cZ st d (cv x)))):Le m (rn S c Q fo fs st0):=by
 simp at B;refine p9 B.1 D B.2.1 (CK B.2.2 rfl ?_) h;unfold jF;rw[rU];simp only[Ng,G,map_some];show some (SV.v (.agg (cells x)))=some (.v (enc x));rw[zm J]
section
variable[bp α]
def UT(n:Nat)(dr:Zl)(fr:Zv)(q:Zy)(fs':Z3)(st:St)(D G:Zl)(J:Zu){g:Nat}{s:Sl α}{a b:Z6}{f:Sl α->aY γ}(O:q=⟨d,gd,now,.p (.slice g D G),az,dd,[]⟩::l)
 (B:(fV S c n fo fs st0,wanted st.g gd,bV S.N st.g az,lH D G J,g)=(some (.ops dr fr q,fs',st),some true,some (.v (cg s)::J.map .v),some (a,b),bp.size α))
 (h:∀x,ga s a b=some x->Le ((f x).bind e) (rP S c Q dr fr d (.p (.slice g D G)) l fs' dd (cZ st d (.v (cg x))))):Le (((ga s a b).bind f).bind e) (rn S c Q fo fs st0):=by
 simp at B;refine CO B.1 O B.2.1 (Le.of_eq ?_) h;have w:=B.2.2.1;unfold fc kS;simp[wanted,fE,w];have u:jF S.N st.m (.slice g D G) ((cg s::J).map .v)=(ga s a b).bind λx=>some (.v (cg x)):=by unfold jF;rw[rU];simp[bH,B.2.2.2.1,IS s a b g B.2.2.2.2];cases ga s a b<;>rfl
 simp at u⊢;rw[u];cases ga s a b<;>rfl
def ku(s:Sl α)(B D:Z6):aY (Sl α):=
 match s with
 |.nil|.emp=>none|.row x|.part x=>(dx x.length B D).map λ(l,h)=>.part ((x.take h).drop l)
def Ub(n:Nat)(fr:Zv)(q:Zy)(fs':Z3)(st:St)(D G:Zl)(u:Nat)(J:Zu){t d:Nat}{s:Sl α}{a b:Z6}{f:Sl α->aY γ}(T:q=⟨some t,gd,now,.p (.slice d D G),az,dd,[]⟩::l)
 (O:St.new {st with m:=cR u st.m} t=true)(B:(fV S c n fo fs st0,wanted st.g gd,bV S.N st.g az,lH D G J,bg st.m u,d)=(some (.ops false fr q,fs',st),some true,some (.own u::J.map .v),some (a,b),some (ct s),bp.size α))
 (h:∀x,ku s a b=some x->Le ((f x).bind e) (rP S c Q false fr (some t) (.p (.slice d D G)) l fs' dd {st with g:=bu st.g t (.own t),m:=bu (cR u st.m) t (ct x)})):Le (((ku s a b).bind f).bind e) (rn S c Q fo fs st0):=by
 simp at B;refine CO B.1 T B.2.1 (Le.of_eq ?_) h;have⟨_,_,z,w,C,I⟩:=B;subst I;unfold fc kS;simp[wanted,fE,z,ye,rU,C,w]
 cases s with
 |nil=>simp[ku,ct,Sl.k,bN]|emp=>simp[ku,ct,Sl.k,bN]|row x=>
  simp[ct,Sl.k,Sl.l,bN,ku,fh,w]
  cases dx x.length a b with
  |none=>rfl|some r=>simp[O,cZ,rows,map_drop]
 |part x=>
  simp[ct,Sl.k,Sl.l,bN,ku,fh,w]
  cases dx x.length a b with
  |none=>rfl|some r=>simp[O,cZ,rows,map_drop]
end
end
structure cm(n:Nat)(α:Type)where
 l:List α
 len:l.length=n
def NF{α:Type}[bp α](l:aX α):(l.map (cells (α:=α))).flatten.length=l.length*bp.size α:=by induction l with|nil=>simp|cons a l u=>simp[u,gG,add_mul,Nat.add_comm]
def MA{α:Type}[bp α](l:aX α):V.cB (l.map (cells (α:=α))).flatten=true:=by induction l with|nil=>rfl|cons a l u=>have h:∀(x y:Zu),V.cB x=true->V.cB y=true->V.cB (x++y)=true:=(by intro x;induction x with|nil=>grind|cons b x w=>intro y c z;simp[V.cB]at c⊢;grind);exact h _ _ (bp.good a) u
instance{n:Nat}{α:Type}[bp α]:bp (cm n α)where
 cells a:=(a.l.map cells).flatten
 agg:=true
 size:=n*bp.size α
 len a:=by rw[NF,a.len]
 good a:=MA a.l
 one a:=by have:∀l:aX α,(l.map (cells (α:=α))).flatten.all V.one=true:=(by intro l;induction l with|nil=>rfl|cons a l u=>simp only[map_cons,flatten_cons,List.all_append,u,sH,Bool.and_self]);exact this a.l
 plain h:=by cases h
def cm.Ld(n:Nat){α:Type}(z:α):cm n α:=⟨replicate n z,Zc⟩
def cm.at{n:Nat}{α:Type}(a:cm n α)(i:Int):aY α:=if 0<=i then a.l[i.toNat]?else none
def cm.set{n:Nat}{α:Type}(a:cm n α)(i:Int)(x:α):cm n α:=⟨a.l.set i.toNat x,by simp[a.len]⟩
def pa{n:Nat}{α:Type}[bp α](a:cm n α)(i:Int):Zu:=(cells a).drop (i.toNat*bp.size α)
def cm.uc{n:Nat}{α:Type}{a:cm n α}{i:Int}{x:α}(h:a.at i=some x):0<=i/\i.toNat<n/\a.l[i.toNat]?=some x:=by
 unfold cm.at at h;split at h;next u=>refine⟨u,?_,h⟩;have:=(ζe.1 h).1;rw[<-a.len];simp_all
 simp_all
def C_{α:Type}[bp α]:∀(l:aX α)(k:Nat),((l.map (cells (α:=α))).flatten).drop (k*bp.size α)=((l.drop k).map (cells (α:=α))).flatten
 |[],k=>Zc|a::l,0=>Zc|a::l,k+1=>by have h:=gG a;rw[map_cons,flatten_cons,List.drop_succ_cons,<-C_ l k,add_mul,one_mul,Nat.add_comm,<-h,List.drop_length_add_append]
def zz{n:Nat}{α:Type}[bp α]{a:cm n α}{i:Int}{x:α}(h:a.at i=some x):∃r,pa a i=cells x++r:=by have⟨b,B,w⟩:=cm.uc h;have⟨u,z⟩:=ζe.1 w;refine⟨((a.l.drop (i.toNat+1)).map cells).flatten,?_⟩;show((a.l.map (cells)).flatten).drop (i.toNat*bp.size α)=_;rw[C_,List.drop_eq_getElem_cons u,map_cons,flatten_cons,z]
section
variable{S:Sys}{c:bU}{β γ δ α:Type}{Q:Out×St->aY β}{e:γ->aY β}{fo:Fo}{fs:Z3}{st0:St}{l:Zy}{d:aY Nat}{gd:aY (Nat×Zl)}{now:Zl}{az:Z4}{dd:Zv}
section
variable{N:Nat}[bp α]
def Ue(n:Nat)(dr:Zl)(fr:Zv)(q:Zy)(fs':Z3)(st:St)(k:Zs){ln b:Nat}{a:cm N α}{i:Int}{f:α->aY γ}(D:q=⟨d,gd,now,.p (.idxA ln b),az,dd,[]⟩::l)
 (B:(fV S c n fo fs st0,wanted st.g gd,bV S.N st.g az,b,ln)=(some (.ops dr fr q,fs',st),some true,some [cp a,.v (.int k i)],bp.size α,N))
 (h:∀x,a.at i=some x->Le ((f x).bind e) (rP S c Q dr fr d (.p (.idxA ln b)) l fs' dd (cZ st d (.v (.fptr (pa a i)))))):Le (((a.at i).bind f).bind e) (rn S c Q fo fs st0):=by
 simp at B;have⟨j,w,z,C,G⟩:=B;subst C G;refine CO j D w ?_ h;intro r g;have⟨x,I,g⟩:=ζg.1 g;have⟨g1,g2,_⟩:=cm.uc I;rw[CK z rfl ?_]
 .omega
 rw[wk];simp[bH,uS];have u:i.toNat*bp.size α<=(cells a).length:=by rw[gG];exact Nat.mul_le_mul_right _ (Nat.le_of_lt g2)
 rw[if_pos ⟨g1,Za⟩,if_pos u]
 rfl
def Ve(n:Nat)(dr:Zl)(fr:Zv)(q:Zy)(fs':Z3)(st:St)(a:cm N α)(i:Int)(o:Nat)(x:α)(D:a.at i=some x){k:Nat}{m:aY β}(G:q=⟨d,gd,now,.p (.fieldAddr k),az,dd,[]⟩::l)
 (B:(fV S c n fo fs st0,wanted st.g gd,bV S.N st.g az,ble (o+k) (bp.size α))=(some (.ops dr fr q,fs',st),some true,some [.v (.fptr ((pa a i).drop o))],true))
 (h:Le m (rP S c Q dr fr d (.p (.fieldAddr k)) l fs' dd (cZ st d (.v (.fptr ((pa a i).drop (o+k))))))):Le m (rn S c Q fo fs st0):=by
 simp only[ζc]at B;have⟨b,u,w,z⟩:=B;refine p9 b G u (CK w rfl ?_) h;have C:=Nat.le_of_ble_eq_true z;have⟨r,e⟩:=zz D;have I:(pa a i).length>=bp.size α:=by rw[e,ζi,gG];omega
 rw[FX,E8,if_pos Zd,drop_drop]
 rfl
def Up(n:Nat)(dr:Zl)(fr:Zv)(q:Zy)(fs':Z3)(st:St)(a:cm N α)(i:Int)(o:Nat)(x:α)(G:a.at i=some x){b:Nat}{ag:Zl}{v:V}(j:(cut (cells x) o b).bind (mk ag)=some v)(B:V){m:aY β}(J:q=⟨d,gd,now,.r (.load b ag),az,dd,[]⟩::l)
 (D:(fV S c n fo fs st0,wanted st.g gd,bV S.N st.g az,v)=(some (.ops dr fr q,fs',st),some true,some [.v (.fptr ((pa a i).drop o))],B))
 (h:Le m (rP S c Q dr fr d (.r (.load b ag)) l fs' dd (cZ st d (.v B)))):Le m (rn S c Q fo fs st0):=by
 simp at D;obtain⟨f,z,C,rfl⟩:=D;refine p9 f J z ?_ h;rw[BN,C];have e:eD fr [SV.v (.fptr ((pa a i).drop o))]=true:=rfl;simp[e,L6];have⟨r,g⟩:=zz G;rw[g];have k:cut ((cells x++r).drop o) 0 b=cut (cells x) o b:=by cases u:cut (cells x) o b with|none=>grind|some w=>unfold cut at u⊢;dsimp only at u⊢;split at u;have e1:(List.drop 0 (List.drop o (cells x++r))).take b=((cells x).drop o).take b:=(by have I:b=0\/o<=(cells x).length:=(by grind);grind);grind;grind
 cases u:cut (cells x) o b with
 |none=>grind|some w=>grind
def R3(n:Nat)(dr:Zl)(fr:Zv)(q:Zy)(fs':Z3)(st:St)(cs:Zw){u a:Nat}{zero:Zu}{m:aY β}(D:q=⟨some u,gd,now,.a (.alloc a zero),az,dd,[]⟩::l)
 (G:st.new u=true)(B:(fV S c n fo fs st0,wanted st.g gd,bV S.N st.g az,zero.map SV.v)=(some (.ops dr fr q,fs',st),some true,some [],cs))
 (h:Le m (rP S c Q dr fr (some u) (.a (.alloc a zero)) l fs' dd {st with g:=bu st.g u (.ptr u 0),m:=bu st.m u (.box cs)})):Le m (rn S c Q fo fs st0):=by
 simp at B;have⟨b,w,z,C⟩:=B;subst C;refine p9 b D w ?_ h;rw[zf,z];simp[G,mU]
def sy(d:Nat)(l:Zu):SV.c_ d (l.map .v)=false:=by induction l with|nil=>rfl|cons a l u=>simp[SV.c_,SV.cu,u]
def sG{α:Type}[bp α](d:Nat)(x:α):bq.cu d (bx x)=false:=sy d (cells x)
def T0(n:Nat)(dr:Zl)(fr:Zv)(q:Zy)(fs':Z3)(st:St)(k:Zs)(u:Nat){ln b:Nat}{a:cm N α}{i:Int}{f:α->aY γ}(D:q=⟨d,gd,now,.p (.idxA ln b),az,dd,[]⟩::l)
 (B:(fV S c n fo fs st0,wanted st.g gd,bV S.N st.g az,b,ln,bg st.m u)=(some (.ops dr fr q,fs',st),some true,some [.ptr u 0,.v (.int k i)],bp.size α,N,some (bx a)))
 (h:∀x,a.at i=some x->Le ((f x).bind e) (rP S c Q dr fr d (.p (.idxA ln b)) l fs' dd (cZ st d (.ptr u (i.toNat*bp.size α+0))))):Le (((a.at i).bind f).bind e) (rn S c Q fo fs st0):=by
 simp at B;have⟨j,w,z,I,J,C⟩:=B;refine CO j D w ?_ h;intro r g;have⟨x,G,g⟩:=ζg.1 g;have⟨g1,g2,_⟩:=cm.uc G;rw[CK z rfl ?_]
 .omega
 simp[jF,dh,yX,C]
 grind
def MJ{a:cm N α}{i:Int}{o:Nat}{x:α}(B:a.at i=some x){b:Nat}{ag:Zl}{v:V}(d:(cut (cells x) o b).bind (mk ag)=some v):tZ b ag ((((cells a).map SV.v).drop (i.toNat*bp.size α+o)).take b)=some (.v v):=by
 have⟨r,e⟩:=zz B;have e1:(((cells a).map SV.v).drop (i.toNat*bp.size α+o)).take b=(((cells x).drop o).take b).map SV.v:=by have u:((cells x).drop o).take b=((cells x++r).drop o).take b:=(by cases c:cut (cells x) o b with|none=>grind|some w=>unfold cut at c;dsimp only at c;split at c;have C:b=0\/o<=(cells x).length:=(by grind);grind;simp_all);rw[u,<-e,pa,drop_drop,map_take,map_drop]
 rw[e1];unfold tZ;cases c:cut (cells x) o b with|none=>grind|some w=>rw[c]at d;unfold cut at c;dsimp only at c;split at c;rename_i z;cases c;simp only[length_map,z];unfold mk at d;(cases ag with|true=>simp only[if_true]at d⊢;cases d;rw[rU]|false=>grind);simp_all
def T7(n:Nat)(dr:Zl)(fr:Zv)(q:Zy)(fs':Z3)(st:St)(u:Nat)(a:cm N α)(i:Int)(o:Nat)(x:α)(G:a.at i=some x){e:Nat}{ag:Zl}{v:V}(f:(cut (cells x) o e).bind (mk ag)=some v)(B:V){m:aY β}(J:q=⟨d,gd,now,.r (.load e ag),az,dd,[]⟩::l)
 (D:(fV S c n fo fs st0,wanted st.g gd,bV S.N st.g az,v,bg st.m u,(!dr||now||eD fr [.ptr u 0]))=(some (.ops dr fr q,fs',st),some true,some [.ptr u (i.toNat*bp.size α+o)],B,some (bx a),true))
 (h:Le m (rP S c Q dr fr d (.r (.load e ag)) l fs' dd (cZ st d (.v B)))):Le m (rn S c Q fo fs st0):=by
 simp only[ζc]at D;obtain⟨g,w,z,rfl,C,I⟩:=D;refine p9 g J w ?_ h;rw[BN,z];have b:(!dr||now||eD fr [SV.ptr u (i.toNat*bp.size α+o)])=true:=I;simp only[ζb,b,Va,C,Lv];rw[MJ G f];rfl
def K3{N:Nat}(a:cm N α)(i:Int)(y:α)(h:i.toNat<N):cells (a.set i y)=(cells a).take (i.toNat*bp.size α)++cells y++(cells a).drop ((i.toNat+1)*bp.size α):=by
 have key:∀(l:aX α)(k:Nat),k<l.length->((l.set k y).map (cells)).flatten=(l.map (cells)).flatten.take (k*bp.size α)++cells y++(l.map (cells)).flatten.drop ((k+1)*bp.size α):=by intro l;induction l with|nil=>grind|cons b l u=>intro k h;have w:=gG b;cases k with|zero=>grind|succ k=>simp only[map_cons,flatten_cons];have e1:(k+1)*bp.size α=(cells b).length+k*bp.size α:=Zd;have e2:(k+1+1)*bp.size α=(cells b).length+(k+1)*bp.size α:=Zd;rw[e2,List.drop_length_add_append];grind
 exact key a.l i.toNat (by rw[a.len];omega)
def TR(n:Nat)(dr:Zl)(fr:Zv)(q:Zy)(fs':Z3)(st:St)(u:Nat)(a:cm N α)(i:Int)(o:Nat)(x:α)(B:a.at i=some x)(y:α)(v:V){b:Nat}(G:cells y=(cells x).take o++v.cells++(cells x).drop (o+b)){m:aY β}(J:q=⟨d,gd,now,.l (.store b),az,dd,[]⟩::l)
 (D:(fV S c n fo fs st0,wanted st.g gd,bV S.N st.g az,bg st.m u,(!dr||now),v.cells.length,v.cells.all V.one,ble (o+b) (bp.size α))=(some (.ops dr fr q,fs',st),some true,some [.ptr u (i.toNat*bp.size α+o),.v v],some (bx a),true,b,true,true))
 (h:Le m (rP S c Q dr fr d (.l (.store b)) l fs' dd (cZ {st with m:=bu st.m u (bx (a.set i y))} d (.v .undef)))):Le m (rn S c Q fo fs st0):=by
 simp only[ζc]at D;have⟨f,C,I,L,O,T,U,W⟩:=D;refine p9 f J C ?_ h;rw[sP,I];have Y:=Nat.le_of_ble_eq_true W;have⟨g1,g2,g3⟩:=cm.uc B;have X:i.toNat*bp.size α+o+b<=((cells a).map SV.v).length:=by rw[length_map,gG];have:(i.toNat+1)*bp.size α<=N*bp.size α:=Nat.mul_le_mul_right _ g2;rw[add_mul,one_mul]at this;show _<=N*bp.size α;omega
 simp only[ζb,O,if_true,jG,L,putCells,T,U,X,and_self,map_some];have⟨r,g⟩:=zz B;have e:((cells a).map SV.v).take (i.toNat*bp.size α+o)++v.cells.map .v++((cells a).map SV.v).drop (i.toNat*bp.size α+o+b)=(cells (a.set i y)).map SV.v:=by rw[K3 a i y g2,G];have w:(cells a).drop (i.toNat*bp.size α)=cells x++r:=g;have z:=gG x;have e1:(cells a).take (i.toNat*bp.size α+o)=(cells a).take (i.toNat*bp.size α)++(cells x).take o:=(by rw[List.take_add,w,List.take_append_of_le_length Za]);have e2:(cells a).drop (i.toNat*bp.size α+o+b)=(cells x).drop (o+b)++(cells a).drop ((i.toNat+1)*bp.size α):=(by have e3:(cells a).drop ((i.toNat+1)*bp.size α)=r:=(by rw[add_mul,one_mul,<-drop_drop,w,<-z,List.drop_left]);rw[e3,Nat.add_assoc,<-drop_drop,w,List.drop_append_of_le_length Za]);rw[<-map_take,<-map_drop,e1,e2];grind
 rw[e]
end
def PX{α:Type}[bp α]{m:Tb bq}{d:Nat}{x:α}{vs:Zu}(h:bg m d=some (bx x)):nu (iK m 8) (.ptr d 0::vs.map .v)=some (.fptr (cells x)::vs):=by
 have a:iK m 8 (.ptr d 0)=some (.fptr (cells x)):=by
  show(match bg m d with
   |some (.box w)=>match nu (iK m 7) w with
    |some u=>if 0<=u.length then some (V.fptr (u.drop 0))else none|none=>none
   |_=>none)=_
  rw[h];simp[E3]
 simp[nu,a,E3]
def TG(n:Nat){fo:Fo}{fs fs':Z3}{st0 st:St}{rs:aX RV}{e:γ->aY Zu}{r:γ}(svs:Zw){ys:Zu}(B:nu (iK st.m 8) svs=some ys)(h:(fV S c n fo fs st0,ki st rs)=(some (.rt,fs',st),some svs))(D:e r=some ys):
 Le ((some r).bind e) (rn S c (ql rs) fo fs st0):=by
 simp at h;rw[nK h.1];refine Le.of_eq ?_;simp[rn,ql,h.2,B]
 grind
abbrev Mo(κ ν:Type):=aX (κ×ν)
class Key(κ:Type)[bp κ][DecidableEq κ]where
 kk:vl
 ok:∀a:κ,ou kk (enc a)=true
 eq:∀a b:κ,vi (enc a) (enc b)=some (decide (a=b))
instance:Key Int where
 kk:=.int .i64
 ok _:=rfl
 eq a b:=by show some (a==b)=some (decide (a=b));rw[show(a==b)=decide (a=b)from Bool.eq_iff_iff.2 Zc]
instance:Key aZ where
 kk:=.ints 2
 ok _:=rfl
 eq a b:=by have⟨p,i⟩:=a;have⟨q,j⟩:=b;simp only[vi,jR,gP,Sz,map_some,length_cons,if_true,ζa];rw[Bool.eq_iff_iff];simp
section
variable{κ ν:Type}[bp κ][DecidableEq κ][Key κ][bp ν]
def mz(k:κ):Mo κ ν->aY ν
 |[]=>none|(a,v)::r=>if k=a then some v else mz k r
def rL(m:Mo κ ν)(k:κ)(z:ν):ν:=(mz k m).getD z
def mP(m:Mo κ ν)(k:κ)(v:ν):Mo κ ν:=
 match m with
 |[]=>[(k,v)]|(a,w)::r=>if k=a then(k,v)::r else(a,w)::mP r k v
def nC(m:Mo κ ν):aX (V×V):=m.map λx=>(enc x.1,enc x.2)
def pO(m:Mo κ ν):bq:=.mp (nC m)
def HR(k:κ):∀(m:Mo κ ν)(i:Nat),(ig (enc k) (nC m) i).map (Option.map (·.2))=some ((mz k m).map enc)
 |[],i=>rfl|(a,v)::r,i=>by simp only[nC,map_cons,ig,Key.eq,mz];by_cases h:k=a;grind;simp only[h];exact HR k r (i+1)
def Nk(k:κ)(v:ν)(m:Mo κ ν):ox (enc k) (enc v) (nC m)=some (nC (mP m k v)):=by
 unfold ox;have key:∀(m:Mo κ ν)(pre:aX (V×V))(i:Nat),pre.length=i->(match ig (enc k) (nC m) i with
  |some (some (j,_))=>some ((pre++nC m).set j (enc k,enc v))|some none=>some (pre++nC m++[(enc k,enc v)])|none=>none)=some (pre++nC (mP m k v)):=by
  intro m
  induction m with
  |nil=>simp[nC,ig,mP]|cons x r u=>
   have⟨a,w⟩:=x;intro pre i h;rw[show nC ((a,w)::r)=(enc a,enc w)::nC r from rfl];simp[ig,Key.eq,mP]
   by_cases b:k=a
   .subst b h;simp[nC]
   simp[b];rw[show nC ((a,w)::mP r k v)=(enc a,enc w)::nC (mP r k v)from rfl];have:=u (pre++[(enc a,enc w)]) (i+1) (by simp[h])
   grind
 have:=key m [] 0 rfl;grind
def TT(n:Nat)(dr:Zl)(fr:Zv)(q:Zy)(fs':Z3)(st:St)(u:Nat)(mp:Mo κ ν)(k:κ)(z:ν){kk:vl}{B:V}{m:aY β}(G:q=⟨d,gd,now,.r (.lookup kk B false),az,dd,[]⟩::l)
 (D:(fV S c n fo fs st0,wanted st.g gd,bV S.N st.g az,bg st.m u,(!dr||now||eD fr [.mp u,cv k]),B,kk)=(some (.ops dr fr q,fs',st),some true,some [.mp u,cv k],some (pO mp),true,enc z,Key.kk κ))
 (h:Le m (rP S c Q dr fr d (.r (.lookup kk B false)) l fs' dd (cZ st d (cv (rL mp k z))))):Le m (rn S c Q fo fs st0):=by
 simp only[ζc]at D;have⟨a,C,I,J,L,O,T⟩:=D;subst O T;refine p9 a G C ?_ h;rw[BN,I];simp only[ζb,L,og,J,pO,Key.ok];have:=HR k mp 0;simp[rL]
 cases U:ig (enc k) (nC mp) 0 with
 |none=>grind|some r=>
  rw[U]at this
  cases r with
  |none=>
   cases W:mz k mp with
   |none=>rfl|some w=>grind
  |some w=>
   cases W:mz k mp with
   |none=>grind|some X=>grind
def U6(n:Nat)(dr:Zl)(fr:Zv)(q:Zy)(fs':Z3)(st:St)(u:Nat)(mp:Mo κ ν)(k:κ)(v:ν){kk:vl}{m:aY β}(D:q=⟨d,gd,now,.l (.mapUp kk),az,dd,[]⟩::l)
 (B:(fV S c n fo fs st0,wanted st.g gd,bV S.N st.g az,bg st.m u,(!dr||now),kk)=(some (.ops dr fr q,fs',st),some true,some [.mp u,cv k,cv v],some (pO mp),true,Key.kk κ))
 (h:Le m (rP S c Q dr fr d (.l (.mapUp kk)) l fs' dd (cZ {st with m:=bu st.m u (pO (mP mp k v))} d (.v .undef)))):Le m (rn S c Q fo fs st0):=by
 simp only[ζc]at B;have⟨a,w,z,C,G,I⟩:=B;subst I;refine p9 a D w ?_ h;rw[sP,z];simp[G,jG,C,pO,Key.ok,Nk]
end
end
instance{n:Nat}:OfNat Arg n:=⟨.s n⟩
abbrev bI(o:BinOp):K:=.p (.bin (some .int) none o)
abbrev ix(n:Nat):K:=.p (.idxS n)
abbrev ld(n:Nat):K:=.r (.load n false)
abbrev lD(n:Nat):K:=.r (.load n true)
abbrev fa(n:Nat):K:=.p (.fieldAddr n)
abbrev ln:K:=.p .lenSl
abbrev Iv(n:Nat)(x:Int):Nat×SV:=(n,iv x)
abbrev Bv(n:Nat)(x:Bool):Nat×SV:=(n,bv x)
abbrev Cv{α:Type}[bp α](n:Nat)(x:α):Nat×SV:=(n,cv x)
abbrev Kv{α:Type}[bp α](n:Nat)(x:α):Nat×SV:=(n,cp x)
abbrev Pv(n:Nat):Nat×SV:=(n,.ptr n 0)
abbrev Ov(n:Nat):Nat×SV:=(n,.own (2000+n))
abbrev Xb{α:Type}[bp α](n:Nat)(x:α):Nat×bq:=(n,bx x)
abbrev Lb{α:Type}[bp α](n:Nat)(x:Sl α):Nat×bq:=(n,ct x)
abbrev on(d:Nat)(k:K)(az:aX Arg)(dd:aX Nat):RO:=⟨some d,none,true,k,az,dd,[]⟩
abbrev oz(k:K)(az:aX Arg)(dd:aX Nat):RO:=⟨none,none,false,k,az,dd,[]⟩
attribute [simp] Q3 QV Q4
def kN.xE{S:Sys}{T:pI}{f:Zk}{b:Zl}(B:T f=none)(a:S.E.keep f=false)(D:S.xE f []=some (.bool b)):
 kN S (cT S T) f (λ_:Unit=>[]) (λr:Zl=>[.bool r]) (λ_=>some b) true where
 k:=a
 h _:=by have h:=D5 (az:=[]) B a D;intro r c;cases c;unfold mA;rw[h];exact uU 8 [.bool b]
 s _ _:=rfl
def Wp{α:Type}(m:aY α)(P:α->Prop):Prop:=∃a,m=some a/\P a
section
variable{α β:Type}{P Q:α->Prop}
theorem a_(a:α):Wp (some a) P↔P a:=⟨λh=>by have⟨b,e,p⟩:=h;cases e;exact p,λp=>⟨a,rfl,p⟩⟩
def Rg:Wp (none:aY α) P↔False:=⟨λh=>(by have⟨b,e,p⟩:=h;cases e),λh=>False.elim h⟩
def eH{m:aY β}{k:β->aY α}:Wp (m.bind k) P↔Wp m λb=>Wp (k b) P:=by cases m with|none=>simp only[Option.bind_none,Rg]|some b=>simp only[ζb,a_]
theorem b9{t:Zl}{a b:aY α}:Wp (bl t a b) P↔(t=true->Wp a P)/\(t=false->Wp b P):=by cases t<;>simp[bl]
def Wp.mono{m:aY α}(h:Wp m P)(B:∀a,P a->Q a):Wp m Q:=let⟨a,e,p⟩:=h;⟨a,e,B a p⟩
def Wp.and{m:aY α}(h:Wp m P)(B:Wp m Q):Wp m λa=>P a/\Q a:=by have⟨a,e,p⟩:=h;have⟨b,e2,q⟩:=B;rw[e]at e2;cases e2;exact⟨a,e,p,q⟩
def Wp.eq{m:aY α}{a:α}(h:Wp m λx=>x=a):m=some a:=by obtain⟨b,e,rfl⟩:=h;exact e
end
section
variable{σ ε ρ:Type}
def iJ(step:σ->aY (Fw σ ε ρ))(s:σ):bM step s=(step s).bind λw=>match w with
 |.n B=>bM step B|.x e=>some (.x e)|.r b=>some (.r b):=by
 have d:∀r,bM step s=some r->((step s).bind λw=>match w with
  |.n B=>bM step B|.x e=>some (.x e)|.r b=>some (.r b))=some r:=by
  intro r h;have⟨k,a⟩:=oO.1 h
  cases k with
  |zero=>simp[kC]at a|succ k=>
   simp only[kC]at a
   cases u:step s with
   |none=>rw[u]at a;cases a|some w=>
    rw[u]at a
    cases w with
    |n B=>exact oO.2 ⟨k,a⟩|x e=>exact a|r b=>exact a
 cases z:bM step s with
 |some r=>exact(d r z).symm|none=>
  cases c:((step s).bind λw=>match w with
  |.n B=>bM step B|.x e=>some (.x e)|.r b=>some (.r b))with
  |none=>rfl|some r=>
   exfalso
   cases u:step s with
   |none=>rw[u]at c;cases c|some w=>
    rw[u]at c;simp only[ζb]at c;have:bM step s=some r:=by cases w with|n B=>have⟨k,a⟩:=oO.1 c;exact oO.2 ⟨k+1,by simp only[kC,u];exact a⟩|x e=>exact oO.2 ⟨1,by simp only[kC,u];exact c⟩|r b=>exact oO.2 ⟨1,by simp only[kC,u];exact c⟩
    rw[z]at this;cases this
def Pk(I:σ->Prop)(μ:σ->Nat)(D:ε->Prop)(G:ρ->Prop)(s:σ):Fw σ ε ρ->Prop
 |.n B=>I B/\μ B<μ s|.x e=>D e|.r b=>G b
def UI(B:ε->Prop)(D:ρ->Prop):Fw Empty ε ρ->Prop
 |.x e=>B e|.r b=>D b
def Nh{step:σ->aY (Fw σ ε ρ)}(I:σ->Prop)(μ:σ->Nat)(B:ε->Prop)(D:ρ->Prop)(h:∀s,I s->Wp (step s) (Pk I μ B D s)){s:σ}(G:I s):Wp (bM step s) (UI B D):=by
 have key:∀n s,μ s<=n->I s->Wp (bM step s) (UI B D):=by
  intro n
  induction n with
  |zero=>intro s J u;have⟨w,z,a⟩:=h s u;rw[iJ,z];cases w with|n C=>exact absurd a.2 Za|x e=>exact⟨_,rfl,a⟩|r b=>exact⟨_,rfl,a⟩
  |succ n L=>intro s J u;have⟨w,z,a⟩:=h s u;rw[iJ,z];cases w with|n C=>exact L C (by have:=a.2;omega) a.1|x e=>exact⟨_,rfl,a⟩|r b=>exact⟨_,rfl,a⟩
 exact key (μ s) s (Nat.le_refl _) G
def eT{γ:Type}{step:σ->aY (Fw σ ε ρ)}{B:ε->aY γ}{fr:ρ->aY γ}{P:γ->Prop}(I:σ->Prop)(μ:σ->Nat){s:σ}(D:I s)
 (h:∀s,I s->Wp (step s) (Pk I μ (λe=>Wp (B e) P) (λb=>Wp (fr b) P) s)):Wp ((bM step s).bind (Fw.elim B fr)) P:=by
 rw[eH];refine(Nh I μ _ _ h D).mono ?_;intro w u
 cases w with
 |n a=>cases a|x e=>exact u|r b=>exact u
end
def IL{β γ δ:Type}{e:γ->aY β}{m:aY δ}{f:δ->aY γ}{L:aY β}(h:∀x,m=some x->Le ((f x).bind e) L):Le ((m.bind f).bind e) L:=by cases m with|none=>exact Le.none _|some x=>exact h x rfl
section
variable{S:Sys}{c:bU}{β:Type}{Q:Out×St->aY β}{fo:Fo}{fs:Z3}{st0:St}{l:Zy}{d:aY Nat}{now:Zl}{az:Z4}{dd:Zv}
theorem Le.get{β:Type}{r:β}{L:aY β}(h:Le (some r) L):L=some r:=h r rfl
def Kt{n:Nat}{fo fo':Fo}{fs fs':Z3}{st:St}(A:Zl->St){t:Zl}{m:aY β}(B:t=true)(h:fV S c n fo fs st=some (fo',fs',A t))(D:Le m (rn S c Q fo' fs' (A true))):Le m (rn S c Q fo fs st):=by rw[nK h,B];exact D
def Kf{n:Nat}{fo fo':Fo}{fs fs':Z3}{st:St}(A:Zl->St){t:Zl}{m:aY β}(B:t=false)(h:fV S c n fo fs st=some (fo',fs',A t))(D:Le m (rn S c Q fo' fs' (A false))):Le m (rn S c Q fo fs st):=by rw[nK h,B];exact D
def Nt{α:Type}[bp α]{s:Sl α}{i:Int}{x:α}{r:β}{L:aY β}(B:idx s i=some x)(h:Le (((idx s i).bind λ_=>some r).bind some) L):Le (some r) L:=by rw[B]at h;exact h
def UM{n:Nat}{q:Zy}{fs':Z3}{st:St}{id:Nat}{vs:Zw}{xs:Zu}{B:Zt}{m:aY β}
 (D:fV S c n fo fs st0=some (.ops false [] q,fs',st))(G:q=⟨d,none,now,.c,az,dd,[]⟩::l)(J:bV S.N st.g az=some (.yl id::vs))(O:dh vs=some xs)(T:st.want=xs::B)(U:id=st.yid)
 (h:Le m (rn S c Q (.ops false [] l) fs' (nZ dd (cZ {st with want:=B} d (.v (.bool (st.more|| !B.isEmpty))))))):Le m (rn S c Q fo fs st0):=by
 refine OP D G rfl ?_ h;unfold fc;simp only[wanted,fE,J,O,T,U,if_true,and_self,Bool.false_eq_true,if_false]
def zA(a:RC)(fs:Z3)(st:St):rn S c Q (.rc (.loop a)) fs st=(nh (cw S c a) st).bind (CU (lT S c Q fs) (lZ S c Q fs) (λst=>Q (.ret,st))):=by show j7 S c Q (.loop a) fs st=_;unfold j7;rw[By];rfl
def Q8{f:St->aY (Out×St)}{st st':St}(h:f st=some (.norm,st')):nh f st=nh f st':=by
 have key:∀r,nh f st=some r↔nh f st'=some r:=λr=>by constructor;intro b;have⟨k,a⟩:=lR.1 b;(cases k with|zero=>simp[iN]at a|succ k=>simp only[iN,h]at a;exact lR.2 ⟨k,a⟩);intro b;have⟨k,a⟩:=lR.1 b;exact lR.2 ⟨k+1,by simp only[iN,h];exact a⟩
 cases u:nh f st with
 |none=>cases w:nh f st' with|none=>rfl|some r=>rw[(key r).2 w]at u;cases u
 |some r=>rw[(key r).1 u]
def H9{f:St->aY (Out×St)}{st st':St}{o:Out}(h:f st=some (o,st'))(B:o≠.norm):nh f st=some (o,st'):=by refine lR.2 ⟨1,?_⟩;cases o with|norm=>exact absurd rfl B|exit k=>simp only[iN,h]|ret=>simp only[iN,h]
def Dl{a:RC}{fs:Z3}{st st':St}(h:rn S c some (.rc a) [] st=some (.norm,st')):rn S c Q (.rc (.loop a)) fs st=rn S c Q (.rc (.loop a)) fs st':=by rw[zA,zA,Q8 (by rw[zq];exact h)]
def DL{a:RC}{fs:Z3}{st st':St}{k:Nat}(h:rn S c some (.rc a) [] st=some (.exit k,st')):rn S c Q (.rc (.loop a)) fs st=rn S c Q (.ex k) fs st':=by rw[zA,H9 (by rw[zq];exact h) Zc];rfl
def DG{a:RC}{fs:Z3}{st st':St}(h:rn S c some (.rc a) [] st=some (.ret,st')):rn S c Q (.rc (.loop a)) fs st=Q (.ret,st'):=by rw[zA,H9 (by rw[zq];exact h) Zc];rfl
end
def Qi:Out×St->aY Unit
 |(.exit _,_)=>none|(_,st)=>if st.want.isEmpty then some ()else none
def Sys.bare(S:Sys):Sys:=⟨S.E,S.N,λ_ _ _=>none,λ_ _=>none,λ_=>none⟩
def mD:bU:=λ_ _ _=>none
def A2(B rest:Zt)(more:Zl):Prop:=more=true/\B=rest\/more=false/\B≠[]/\∃r,rest=B++r
def Na(S:Sys){f:Zk}{fi:FI}{nm:Zk->aY Nat}{rf:RF}(G:S.E.ft f=some fi)(T:∀g s,nm g=some s->S.N s=g)(e:wB S.E nm fi rf){a b:Zu}{xs:Zt}(D:a.length+1+b.length<=rf.na)(O:rf.rs=[])
 (h:∀B more,A2 B xs more->∀yid,rn S.bare mD Qi (.rc rf.body) [] ⟨vA 0 (a.map .v++.yl yid::b.map .v),[],[],B,more,yid⟩=some ()):fF S f a b xs:=by
 have k:fF S.bare f a b xs:=QB (S:=S.bare) (c:=mD) (fi:=fi) (nm:=nm) (rf:=rf) (λ_ _ h=>by cases h) (λ_ _ _ _ _ h=>by simp[mD]at h) (λ_ _ _ _ h=>by simp[Sys.bare]at h) G T e D O (λB more w yid=>by
  have d:=h B more w yid;change j7 S.bare mD Qi rf.body [] _=some ()at d;rw[pE]at d;have⟨⟨o,st'⟩,z,u⟩:=ζg.1 d;refine⟨o,st',z,?_,?_,rfl⟩
  .rintro id rfl;simp[Qi]at u
  cases o<;>simp[Qi]at u<;>exact u)
 intro B more w yid J y Z C I H d z u L Q;exact k B more w yid J ⟨y.vt,y.yield⟩ Z C I H d z u L Q
open Classical in
def vX(P:Zk->Zu->Zu->Zt->Prop)(f:Zk)(a b:Zu):aY Zt:=if h:∃u,P f a b u then some (Classical.choose h)else none
def J7{P:Zk->Zu->Zu->Zt->Prop}{f:Zk}{a b:Zu}{xs:Zt}(h:P f a b xs)(d:∀ys,P f a b ys->ys=xs):vX P f a b=some xs:=by have c:∃xs,P f a b xs:=⟨xs,h⟩;unfold vX;rw[dif_pos c,d _ (choose_spec c)]
def J6{P:Zk->Zu->Zu->Zt->Prop}{f:Zk}{a b:Zu}{xs:Zt}(h:vX P f a b=some xs):P f a b xs:=by
 unfold vX at h;split at h;next c=>cases h;exact choose_spec c
 cases h
def Tn{E:Env}{nm:Zk->aY Nat}{f:Zk}{rf:RF}
 (h:((E.ft f).bind λfi=>(bG ⟨E,nm,fi.ntmps⟩ false fi.body).bind λc=>(fi.results.mapM (yZ E)).bind λrs=>some (c,rs,fi.ntmps))=some (erase rf.body,rf.rs,rf.na)):∃fi,E.ft f=some fi/\wB E nm fi rf:=by
 have⟨fi,a,w⟩:=ζg.1 h;have⟨c,z,B⟩:=ζg.1 w;have⟨rs,C,u⟩:=ζg.1 B;simp only[ζa,ζc]at u;obtain⟨rfl,rfl,D⟩:=u;exact⟨fi,a,z,C,D.symm⟩
def FR.oa{H:bh}{Z Z':Nat->Prop}{x y z:V}(h:FR H Z x z)(k:FR H Z' y z):x=y:=by have⟨n,u⟩:=yB x;have⟨m,w⟩:=yB y;have e1:=h.borrow (max n m) (vP (Nat.le_max_left _ _) u);have e2:=k.borrow (max n m) (vP (Nat.le_max_right _ _) w);rw[e1]at e2;exact Option.some.inj e2
open Classical in
def yG(E:Env)(f:Zk)(az:Zu):aY V:=if h:∃y,Aq E f az y then some (Classical.choose h)else none
def KK{E:Env}{f:Zk}{az:Zu}{y:V}(h:yG E f az=some y):Aq E f az y:=by
 unfold yG at h;split at h;next a=>cases h;exact choose_spec a
 cases h
def Dq{E:Env}{f:Zk}{az:Zu}{y:V}(h:Aq E f az y):yG E f az=some y:=by have a:∃y,Aq E f az y:=⟨y,h⟩;unfold yG;rw[dif_pos a];have⟨n,z,H,Z,k1,k2,_⟩:=h;have⟨u,w,H',Z',k3,k4,_⟩:=choose_spec a;have e1:=(nL E (Nat.le_max_left n u)).go _ _ _ _ k1;have e2:=(nL E (Nat.le_max_right n u)).go _ _ _ _ k3;rw[e1]at e2;cases e2;rw[FR.oa k4 k2]
def G7{E:Env}{f:Zk}{az:Zu}{y:V}(B:V.scalar y=true)(h:∃n H',run E n (.fn f) az []=some (y,H')):Aq E f az y:=by have⟨n,H',h⟩:=h;exact⟨n,y,H',λ_=>False,h,.same _ (je B),λ_ h=>h.elim,⟨λ_ _ _ h=>h.elim⟩⟩
end Go.VE
