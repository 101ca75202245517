/-
 Plain values and the steps of a certificate.
-/
import Derived.KernelRfl
import Derived.Test.YtbhedaipfioknaaGreatN2
set_option linter.all false
noncomputable section
open Classical(choose_spec)
open List(drop_drop flatten_cons length_cons length_map length_nil map_cons map_drop map_take range' replicate)
open Option(map_some)
open Nat(add_mul ble one_mul)
namespace Go.VE
variable[bV]
inductive Sl(α:Type)where
 |nil|emp|row(l:List α)|part(l:List α)
 deriving Inhabited
abbrev Zg:=Sl Int
abbrev Zb:=Sl (Sl Int)
def Sl.l{α:Type}:Sl α->aZ α
 |.nil|.emp=>[]|.row l|.part l=>l
def Sl.k{α:Type}:Sl α->Fl
 |.nil=>.nil|.emp=>.emp|.row _=>.row|.part _=>.part
class bB(α:Type)where
 cells:α->List V
 agg:Bool
 size:Nat
 len:∀a,(cells a).length=size
 good:∀a,V.cE (cells a)=true
 one:∀a,(cells a).all V.one=true
 plain:agg=false->size=1
def cells{α:Type}[bB α](a:α):Zu:=bB.cells a
def enc{α:Type}[bB α](a:α):V:=if bB.agg α then .agg (cells a)else(cells a).headD .undef
def rows{α:Type}[bB α](l:aZ α):Zt:=l.map cells
def b7{α:Type}[bB α](s:Sl α):V:=nP s.k (bB.size α) (rows s.l)
instance:bB Int where
 cells n:=[.int .i64 n]
 agg:=false
 size:=1
 len _:=rfl
 good _:=rfl
 one _:=rfl
 plain _:=rfl
instance:bB Zl where
 cells b:=[.bool b]
 agg:=false
 size:=1
 len _:=rfl
 good _:=rfl
 one _:=rfl
 plain _:=rfl
instance:bB Zq where
 cells s:=[.str s]
 agg:=false
 size:=1
 len _:=rfl
 good _:=rfl
 one _:=rfl
 plain _:=rfl
structure bf where
 proc:Int
 index:Int
 deriving DecidableEq,Inhabited
instance:bB bf where
 cells x:=[.int .i64 x.proc,.int .i64 x.index]
 agg:=true
 size:=2
 len _:=rfl
 good _:=rfl
 one _:=rfl
 plain h:=by cases h
@[simp] def U6(n:Int):enc n=.int .i64 n:=rfl
@[simp] def UH(n:Zl):enc n=.bool n:=rfl
@[simp] def U9(n:Zq):enc n=.str n:=rfl
@[simp] def UA(n:Int):cells n=[.int .i64 n]:=rfl
@[simp] def TF(n:Zl):cells n=[.bool n]:=rfl
@[simp] def Uu(n:Zq):cells n=[.str n]:=rfl
@[simp] def UP(n:bf):cells n=[.int .i64 n.proc,.int .i64 n.index]:=rfl
@[simp] def SO(n:bf):enc n=.agg [.int .i64 n.proc,.int .i64 n.index]:=rfl
section
variable{α:Type}[bB α]
def ga(l:aZ α):(rows l).length=l.length:=by simp[rows]
def idx(s:Sl α)(i:Int):a_ α:=if 0<=i then s.l[i.toNat]?else none
def MV{N:Nat->Zk}(s:Sl α)(k:Zs)(i:Int){n:Nat}(B:n=bB.size α):bn N (.idxS n) [b7 s,.int k i]=(idx s i).map λx=>.fptr (cells x):=by subst B;unfold idx b7;simp only[bn,kU];by_cases h:i<0;rw[if_pos h,if_neg Za];rfl;rw[if_neg h,if_pos Za];cases s<;>simp[Sl.k,Sl.l,nP,rows,Function.comp_def]
def Mp{N:Nat->Zk}(s:Sl α):bn N .lenSl [b7 s]=some (.int .i64 s.l.length):=by cases s<;>simp[bn,mN,b7,Sl.k,Sl.l,nP,ga]
end
section
variable{S:Sys}{c:b9}
end
end Go.VE
namespace Go.VE
variable[bV]
section
variable{S:Sys}{c:b9}
def isSlice:ud->Zl
 |.slice ..=>true|_=>false
def Pu(dr:Zl)(fr:Zv)(dst:a_ Nat)(now:Zl)(p:ud)(az:Z4)(st:St)(h:isSlice p=false):
 fq S c dr fr ⟨dst,none,now,.p p,az,[],[]⟩ st=(bZ S.N st.g az).bind λsvs=>(jP S.N st.m p svs).bind λx=>some (dh st dst x):=by
 unfold fq lN;have t:gj S.N st.g ⟨dst,none,now,.p p,az,[],[]⟩=none:=by unfold gj;grind
 simp[wanted,t]
 cases u:bZ S.N st.g az with
 |none=>rfl|some svs=>simp;cases p<;>first|(simp[isSlice]at h;done)|(cases a:jP S.N st.m _ svs<;>simp[a])
def Iq(N:Nat->Zk)(m:Tb bK)(p:ud)(svs:Zw)(xs:Zu)(h:dy svs=some xs):jP N m p svs=(bn N p xs).bind λx=>some (.v x):=by unfold jP;rw[h];dsimp only;cases bn N p xs<;>rfl
def EV(dr:Zl)(fr:Zv)(dst:a_ Nat)(now:Zl)(q:Iz)(az:Z4)(st:St):
 fq S c dr fr ⟨dst,none,now,.r q,az,[],[]⟩ st=(bZ S.N st.g az).bind λsvs=>if !dr||now||eZ fr svs then(ow st.m q svs).bind λx=>some (dh st dst x)else none:=by
 unfold fq lN;have t:gj S.N st.g ⟨dst,none,now,.r q,az,[],[]⟩=none:=rfl;simp[wanted,t]
 cases u:bZ S.N st.g az with
 |none=>rfl|some svs=>
  simp;split
  .cases hp:ow st.m q svs<;>simp
  rfl
def BW(dr:Zl)(fr:Zv)(d:Nat)(now:Zl)(q:Mw)(az:Z4)(st:St):
 fq S c dr fr ⟨some d,none,now,.a q,az,[],[]⟩ st=(bZ S.N st.g az).bind λsvs=>if st.new d then(oW st.m q svs d).bind λr=>some {st with g:=bR st.g d r.2,m:=bR st.m d r.1}else none:=by
 unfold fq lN;have t:gj S.N st.g ⟨some d,none,now,.a q,az,[],[]⟩=none:=rfl;simp[wanted,t]
 cases u:bZ S.N st.g az with
 |none=>rfl|some svs=>
  simp;split
  .cases hp:oW st.m q svs d<;>simp[dh]
  rfl
def vH(dr:Zl)(fr:Zv)(dst:a_ Nat)(now:Zl)(q:IP)(az:Z4)(st:St):
 fq S c dr fr ⟨dst,none,now,.l q,az,[],[]⟩ st=(bZ S.N st.g az).bind λsvs=>if !dr||now then(mh st dst q svs).bind λr=>some (dh r.2 dst r.1)else none:=by
 unfold fq lN;have t:gj S.N st.g ⟨dst,none,now,.l q,az,[],[]⟩=none:=rfl;simp[wanted,t]
 cases u:bZ S.N st.g az with
 |none=>rfl|some svs=>
  simp;split
  .cases hp:mh st dst q svs<;>simp
  rfl
def nV:Zw->a_ (Zk×Zw)
 |.clo f a b::vs=>some (f,a++vs++b)|.v (.clo f a b)::vs=>some (f,a.map .v++vs++b.map .v)|_=>none
def zW(dr:Zl)(fr:Zv)(dst:a_ Nat)(now:Zl)(az:Z4)(st:St)(svs:Zw)(f:Zk)(args:Zw)(B:bZ S.N st.g az=some svs)(a:nV svs=some (f,args)):
 fq S c dr fr ⟨dst,none,now,.c,az,[],[]⟩ st=(fF S c dst dr (!dr||now) (fS st.m fr) f args st).bind λr=>some (dh r.2 dst r.1):=by
 unfold fq lN;unfold nV at a;split at a
 .obtain⟨rfl,rfl⟩:=a;simp[wanted,gj,B];cases fF S c dst dr _ _ _ _ st<;>simp
 .obtain⟨rfl,rfl⟩:=a;simp[wanted,gj,B];cases fF S c dst dr _ _ _ _ st<;>simp
 grind
def N7{β:Type}(S:Sys)(c:b9)(fr:Zv)(l:Zx)(k:St->a_ β):St->a_ β:=λst=>(mA S c false fr l st).bind k
def MM{β:Type}(S:Sys)(c:b9)(fr:Zv)(l:Zx)(k:St->a_ β):St->a_ β:=λst=>(mA S c true fr l st).bind k
def RX{β:Type}(S:Sys)(c:b9)(fr dd:Zv)(l:Zx)(k:St->a_ β):St->a_ β:=λst=>N7 S c fr l k (oE dd st)
def RU{β:Type}(S:Sys)(c:b9)(fr dd:Zv)(l:Zx)(k:St->a_ β):St->a_ β:=λst=>MM S c fr l k (oE dd st)
@[congr] def T9{β:Type}{fr:Zv}{l:Zx}{k:St->a_ β}{st st':St}(h:st=st'):N7 S c fr l k st=N7 S c fr l k st':=by rw[h]
@[congr] def TJ{β:Type}{fr B:Zv}{l:Zx}{k:St->a_ β}{st st':St}(D:fr=B)(h:st=st'):MM S c fr l k st=MM S c B l k st':=Ze
@[congr] def TE{β:Type}{fr dd:Zv}{l:Zx}{k:St->a_ β}{st st':St}(h:st=st'):RX S c fr dd l k st=RX S c fr dd l k st':=by rw[h]
@[congr] def TC{β:Type}{fr B dd:Zv}{l:Zx}{k:St->a_ β}{st st':St}(D:fr=B)(h:st=st'):RU S c fr dd l k st=RU S c B dd l k st':=Ze
@[congr] def Uv{dr:Zl}{fr:Zv}{o:RO}{st st':St}(h:st=st'):fq S c dr fr o st=fq S c dr fr o st':=by rw[h]
end
section
variable{S:Sys}{c:b9}(dr:Zl)(fr:Zv)(dst:a_ Nat)(now:Zl)(az:Z4)(st:St)
end
inductive Fm where
 |seq(b:RC)|blk(id:Nat)|gst(x:Gh)
abbrev Z3:=aZ Fm
section
variable(S:Sys)(c:b9){β:Type}(Q:Out×St->a_ β)
def runK:Z3->Out×St->a_ β
 |[],r=>Q r|.seq b::fs,(.norm,st)=>(cI S c b st).bind (runK fs)|.seq _::fs,r=>runK fs r|.blk id::fs,(.exit k,st)=>if k=id then runK fs (.norm,st)else runK fs (.exit k,st)|.blk _::fs,r=>runK fs r|.gst x::fs,(.norm,st)=>(ghost x st).bind λst=>runK fs (.norm,st)|.gst _::fs,r=>runK fs r
def go(a:RC)(fs:Z3)(st:St):a_ β:=(cI S c a st).bind (runK S c Q fs)
def OY(fs:Z3):St->a_ β:=λst=>runK S c Q fs (.norm,st)
def bq{α:Type}(t:Zl)(a b:α):α:=if t then a else b
end
@[congr] def UE{α:Type}{t B:Zl}{a b a' D:α}(h:t=B)(G:B=true->a=a')(J:B=false->b=D):bq t a b=bq B a' D:=by subst h;cases t;exact J rfl;exact G rfl
section
variable{S:Sys}{c:b9}{β:Type}{Q:Out×St->a_ β}
@[congr] def go_congr{a:RC}{fs:Z3}{st st':St}(h:st=st'):go S c Q a fs st=go S c Q a fs st':=by rw[h]
@[congr] def Tf{fs:Z3}{st st':St}(h:st=st'):OY S c Q fs st=OY S c Q fs st':=by rw[h]
@[congr] def T7{fs:Z3}{r B:Out×St}(h:r=B):runK S c Q fs r=runK S c Q fs B:=by rw[h]
def FQ(a:RC)(st:St):(cI S c a st).bind Q=go S c Q a [] st:=by simp only[go];cases cI S c a st<;>rfl
inductive Fw(ν ε ρ:Type)where
 |n(a:ν)|x(e:ε)|r(b:ρ)
def jd{σ ε ρ:Type}(step:σ->a_ (Fw σ ε ρ)):Nat->σ->a_ (Fw Empty ε ρ)
 |0,_=>none|k+1,s=>match step s with
  |some (.n B)=>jd step k B|some (.x e)=>some (.x e)|some (.r b)=>some (.r b)|none=>none
def wm{σ ε ρ:Type}{step:σ->a_ (Fw σ ε ρ)}:∀{k B:Nat}{s:σ}{r:Fw Empty ε ρ},k<=B->jd step k s=some r->jd step B s=some r
 |0,_,_,_,_,h=>by simp[jd]at h|k+1,0,_,_,hk,_=>Za|k+1,B+1,s,r,hk,h=>by simp only[jd]at h⊢;split at h;exact wm (Nat.le_of_succ_le_succ hk) h;exact h;exact h;simp at h
open Classical in
def bT{σ ε ρ:Type}(step:σ->a_ (Fw σ ε ρ))(s:σ):a_ (Fw Empty ε ρ):=if h:∃k r,jd step k s=some r then some (Classical.choose (choose_spec h))else none
def nh{σ ε ρ:Type}{step:σ->a_ (Fw σ ε ρ)}{s:σ}{r:Fw Empty ε ρ}:bT step s=some r↔∃k,jd step k s=some r:=by
 unfold bT;constructor;intro h;split at h;next t=>simp only[ζa]at h;exact⟨_,by rw[<-h];exact choose_spec (choose_spec t)⟩
 simp at h;rintro⟨k,a⟩;have t:∃k r,jd step k s=some r:=⟨k,r,a⟩;rw[dif_pos t];have w:=choose_spec (choose_spec t);have z:=wm (Nat.le_max_left (Classical.choose t) k) w;have u:=wm (Nat.le_max_right (Classical.choose t) k) a;rw[z]at u;exact u
def Fw.out{ν ε ρ:Type}(B:ν->St)(eε:ε->Nat×St)(eρ:ρ->St):Fw ν ε ρ->Out×St
 |.n a=>(.norm,B a)|.x e=>(.exit (eε e).1,(eε e).2)|.r b=>(.ret,eρ b)
def Fw.elim{ε ρ γ:Type}(B:ε->γ)(fr:ρ->γ):Fw Empty ε ρ->γ
 |.x e=>B e|.r b=>fr b
end
section
variable{α:Type}[bB α]
def Ez(s:Sl α):V.one (b7 s)=true:=by cases s<;>rfl
def KW(l:aZ α):V.nM (rows l)=true:=by induction l with|nil=>rfl|cons a l t=>simp only[rows,map_cons,V.nM,ζh];exact⟨bB.good a,t⟩
def Jn(s:Sl α):V.good (b7 s)=true:=by cases s<;>simp only[b7,Sl.k,nP,V.good]<;>exact KW _
instance:bB (Sl α)where
 cells s:=[b7 s]
 agg:=false
 size:=1
 len _:=rfl
 good s:=by simp only[V.cE,Jn,Bool.and_self]
 one s:=by simp[Ez]
 plain _:=rfl
end
section
variable{S:Sys}{c:b9}
def KZ(x:a_ SV)(b:Zl)(y z:a_ St):a_ St:=
 match x with
 |some (.v (.bool t))=>bq (t==b) y z|some (.v _)=>z|_=>none
@[congr] def Sq{x B:a_ SV}{b:Zl}{y z:a_ St}(h:x=B):KZ x b y z=KZ B b y z:=by rw[h]
def Pj{β:Type}(x:a_ SV)(y z:a_ β):a_ β:=
 match x with
 |some (.v (.bool t))=>bq t y z|_=>none
@[congr] def Tp{β:Type}{x B:a_ SV}{y z:a_ β}(h:x=B):Pj x y z=Pj B y z:=by rw[h]
def mE(c:b9)(f:Zk)(az:Zu):a_ Zu:=(c f (az.map .v) []).bind λr=>c6 r.2 8 r.1
def LB(now:Zl)(args:Zw)(ok:Zl)(st:St)(ys:Zu):a_ (SV×St):=if(result ys).scalar||ok then some (.v (result ys),st)else if now then(rowsOf args).map λds=>(.v (result ys),{st with m:=ov ds st.m})else none
def PT(dst:a_ Nat)(dr now:Zl)(old:Zw->Zl)(f:Zk)(args:Zw)(st:St)(a:S.E.keep f=false):
 fF S c dst dr now old f args st=(c6 st.m 8 args).bind λaz=>if now||old args then(mE c f az).bind (LB now args (dy args).isSome st)else none:=by
 unfold fF mE;simp only[a,Bool.false_eq_true,if_false]
 cases c6 st.m 8 args with
 |none=>rfl|some az=>
  simp only[ζb];split
  .cases c f (az.map .v) []with
   |none=>rfl|some r=>have⟨rs,m'⟩:=r;simp only[ζb];cases c6 m' 8 rs<;>rfl
  rfl
end
section
variable{S:Sys}{T:oR}
def FT(rs:aZ RV):Out×St->a_ Zu
 |(.exit _,_)=>none|(_,st)=>(kD st rs).bind (c6 st.m 8)
def NI{f:Zk}{rf:RF}(B:T f=some rf)(az:Zu)(D:az.length<=rf.na):mE (c7 S T) f az=go S (c7 S T) (FT rf.rs) rf.body [] (start (az.map .v) []):=by unfold mE;rw[qD B];unfold lU;rw[if_pos (by simpa using D),<-FQ];cases h:cI S (c7 S T) rf.body (start (az.map .v) [])with|none=>rfl|some r=>have⟨o,st⟩:=r;cases o<;>simp only[ζb,FT]<;>(try rfl)<;>(cases kD st rf.rs<;>rfl)
end
end Go.VE
namespace Go.VE
variable[bV]
variable{N:Nat->Zk}
def tX(a b:Int):Z6:=if b=0 then none else some (a.tmod b)
def SS(e:a_ KT)(q:a_ Nat)(k:Zs)(a b:Int):bn N (.bin e q .rem) [.int k a,.int k b]=(tX a b).bind λx=>some (.int k x):=by simp only[bn,gq,tX,if_true];split<;>rfl
def zu(k:Zs)(a b:Int):Z6:=if b<0 then none else some (a.fdiv (2 ^ (min b.toNat k.bits)))
def S0(e:a_ KT)(q:a_ Nat)(k B:Zs)(a b:Int):bn N (.bin e q .shr) [.int k a,.int B b]=(zu k a b).bind λx=>some (.int k x):=by simp only[bn,gq,zu];split<;>rfl
def Ff(o:Nat)(cs:Zu):bn N (.fieldAddr o) [.fptr cs]=if o<=cs.length then some (.fptr (cs.drop o))else none:=rfl
def j_(s:Zq)(n:Int):Z6:=if 0<=n then(s[n.toNat]?).map λb=>(b.toNat:Int)else none
def Lh(s:Zq)(k:Zs)(n:Int):bn N .idxStr [.str s,.int k n]=(j_ s n).bind λx=>some (.int .u8 x):=by simp only[bn,j_];split;cases s[n.toNat]?<;>rfl;rfl
def M_(z:Zu)(pl:aZ (Nat×Nat))(vs:Zu):bn N (.build z pl) vs=(jZ z pl vs).bind λcs=>some (.agg cs):=by simp only[bn];cases jZ z pl vs<;>rfl
section
variable{α:Type}[bB α]
def Dd(s:Sl α)(k:Zs)(i:Int)(n:Nat)(B:n=bB.size α):bn N (.idxS n) [b7 s,.int k i]=(idx s i).bind λx=>some (.fptr (cells x)):=by rw[MV s k i B];cases idx s i<;>rfl
def xz(s:Sl α):bn N .lenSl [b7 s]=some (.int .i64 s.l.length):=Mp s
def Sl.isNil{α:Type}(s:Sl α):a_ Zl:=
 match s with
 |.nil=>some true|.emp=>none|_=>some false
def N5(q:a_ Nat)(s:Sl α):bn N (.bin (some .slice) q .eql) [b7 s,.bJ]=s.isNil.bind λt=>some (.bool t):=by cases s<;>rfl
def fQ(s:Sl α)(B D:Z6):a_ (Sl α):=
 (dO s.l.length B D).map λ(l,h)=>match s with
  |.nil=>.nil|.emp=>.emp|.row x=>.part ((x.take h).drop l)|.part x=>.part ((x.take h).drop l)
def Jh(s:Sl α)(B D:Z6)(n:Nat)(G:n=bB.size α):gM n (b7 s) B D=(fQ s B D).bind λx=>some (b7 x):=by subst G;cases s with|nil=>simp only[b7,Sl.k,nP,gM,fQ,Sl.l,length_nil];cases dO 0 B D<;>rfl|emp=>simp only[b7,Sl.k,nP,gM,fQ,Sl.l,length_nil];cases dO 0 B D<;>rfl|row l=>simp only[b7,Sl.k,nP,gM,fQ,Sl.l,if_true,ga];cases dO l.length B D<;>simp[rows,map_take,map_drop]|part l=>simp only[b7,Sl.k,nP,gM,fQ,Sl.l,if_true,ga];cases dO l.length B D<;>simp[rows,map_take,map_drop]
end
def Lf(m:Tb bK)(n:Nat)(a:Zl)(cs:Zu):ow m (.load n a) [.v (.fptr cs)]=(cut cs 0 n).bind λr=>(mk a r).bind λx=>some (.v x):=by simp only[ow,eo];cases cut cs 0 n with|none=>rfl|some r=>simp only[ζb];cases mk a r<;>rfl
end Go.VE
namespace Go.VE
variable[bV]
section
variable{α:Type}[bB α]
def cB(s:Sl α):bK:=.sl s.k (bB.size α) (rows s.l)
def Sl.lY(s:Sl α)(i:Int):a_ Nat:=if 0<=i/\i.toNat<s.l.length then some i.toNat else none
def Sl.get(s:Sl α)(i:Nat):a_ α:=s.l[i]?
def Sl.put(s:Sl α)(i:Nat)(x:α):a_ (Sl α):=if i<s.l.length then some (match s with|.row l=>.row (l.set i x)|.part l=>.part (l.set i x)|s=>s)else none
def gZ(s:Sl α)(x:α):a_ (Sl α):=if s.l.length+1<=2147483648 then some (.row (s.l++[x]))else none
def nG(n:Int)(z:α):a_ (Sl α):=if 0<=n/\n<=2147483648 then some (.row (replicate n.toNat z))else none
end
section
variable{α:Type}[bB α]{N:Nat->Zk}{m:Tb bK}
def Ke(n d:Nat)(o:a_ bK)(i:Int):a_ SV:=
 match o with
 |some (.sl k es t)=>if cG k/\es=n/\0<=i/\i.toNat<t.length then some (.el d i.toNat 0)else none|_=>none
def PB(n d:Nat)(k:Zs)(i:Int):jP N m (.idxS n) [.own d,.v (.int k i)]=Ke n d (bl m d) i:=by simp[jP,dy,Ao,Ke];grind
def PX(n d:Nat)(s:Sl α)(i:Int)(h:n=bB.size α):Ke n d (some (cB s)) i=(s.lY i).bind λj=>some (.el d j 0):=by simp[Ke,cB,ga,Sl.lY];cases s with|nil=>simp[Sl.l,cG]|emp=>simp[Sl.l,cG]|row l=>simp[Sl.k,Sl.l,cG];grind|part l=>simp[Sl.k,Sl.l,cG];grind
def Kr(o:a_ bK):a_ SV:=
 match o with
 |some (.sl _ _ t)=>some (.v (.int .i64 t.length))|_=>none
def MT(d:Nat):jP N m .lenSl [.own d]=Kr (bl m d):=by simp[jP,dy,Ao,Kr];grind
def Qg(s:Sl α):Kr (some (cB s))=some (.v (.int .i64 s.l.length)):=by simp[Kr,cB,ga]
def ON(n:Nat)(a:Zl)(o:Nat)(ob:a_ bK):a_ SV:=
 match ob with
 |some (.box t)=>ue n a ((t.drop o).take n)|_=>none
def UY(n:Nat)(a:Zl)(d o:Nat):ow m (.load n a) [.ptr d o]=ON n a o (bl m d):=by rfl
def Lk(n:Nat)(a:Zl)(o:Nat)(cs:Zw):ON n a o (some (.box cs))=ue n a ((cs.drop o).take n):=rfl
def GS(n:Nat)(a:Zl)(i o:Nat)(ob:a_ bK):a_ SV:=
 match ob with
 |some (.sl _ _ t)=>match t[i]?with
  |some u=>((cut u o n).bind (mk a)).map .v|none=>none
 |_=>none
def Ub(n:Nat)(a:Zl)(d i o:Nat):ow m (.load n a) [.el d i o]=GS n a i o (bl m d):=by rfl
def LR(n:Nat)(a:Zl)(i o:Nat)(s:Sl α):GS n a i o (some (cB s))=(s.get i).bind λx=>(cut (cells x) o n).bind λr=>(mk a r).bind λy=>some (.v y):=by simp only[GS,cB,Sl.get,rows,List.getElem?_map];cases s.l[i]?with|none=>rfl|some x=>simp only[map_some,ζb];cases cut (cells x) o n with|none=>rfl|some r=>simp;cases mk a r<;>rfl
def Uf(z:α)(n:Int)(d:Nat)(size:Nat)(zero:Zu)(h:zero=cells z)(B:size=bB.size α):
 oW m (.makeSl size zero) [.v (.int .i64 n),.v (.int .i64 n)] d=(nG n z).bind λs=>some (cB s,.own d):=by
 subst h B;simp[oW,nG];split
 .simp[cB,Sl.k,Sl.l,rows]
 rfl
def Dr(st:St)(d i o size:Nat)(x:V)(ob:a_ bK):a_ (SV×St):=
 match ob with
 |some (.sl k es u)=>match u[i]?with
  |some t=>if x.cells.length=size/\o+size<=t.length/\x.cells.all V.one=true then
   some (.v .undef,{st with m:=bR st.m d (.sl k es (u.set i (t.take o++x.cells++t.drop (o+x.cells.length))))})else none
  |none=>none
 |_=>none
def KB(st:St)(dst:a_ Nat)(size d i o:Nat)(x:V):mh st dst (.store size) [.el d i o,.v x]=Dr st d i o size x (bl st.m d):=by rfl
def KJ(g:Tb SV)(p:Zv)(w:Zt)(B:Zl)(y:Nat)(d i size:Nat)(x:V)(a:α)(D:x.cells=cells a)(G:size=bB.size α)(s:Sl α):
 Dr ⟨g,m,p,w,B,y⟩ d i 0 size x (some (cB s))=(s.put i a).bind λJ=>some (.v .undef,⟨g,bR m d (cB J),p,w,B,y⟩):=by
 have c:(cells a).all V.one=true:=bB.one a;have u:∀b:α,(cells b).length=bB.size α:=bB.len;subst G;simp only[Dr,cB,rows,List.getElem?_map,D,Sl.put]
 by_cases t:i<s.l.length
 .have hg:=ζd t;rw[if_pos t,hg];simp[u,c]
  cases s with
  |nil=>simp[Sl.l]at t|emp=>simp[Sl.l]at t|row l=>simp[Sl.k,Sl.l,List.drop_of_length_le,u]|part l=>simp[Sl.k,Sl.l,List.drop_of_length_le,u]
 grind
def xW(st:St)(t n:Nat)(s:SV)(xs ys:a_ Zt):a_ (SV×St):=
 match xs,ys with
 |some _,some []=>match s with
  |.own d=>match bl st.m d with
   |some ob=>if St.new {st with m:=dZ d st.m} t then some (.own t,{st with m:=bR (dZ d st.m) t ob})else none|none=>none
  |.v .bJ=>if st.new t then some (.own t,{st with m:=bR st.m t (.sl .nil n [])})else none|.v .dG=>if st.new t then some (.own t,{st with m:=bR st.m t (.sl .emp n [])})else none|_=>none
 |some xs,some ys=>
  if xs.length+ys.length<=2147483648/\Hg s=true then
   if St.new {st with m:=giveUp st.m s} t then some (.own t,{st with m:=bR (giveUp st.m s) t (.sl .row n (xs++ys))})else none
  else none
 |_,_=>none
def zc(st:St)(t n:Nat)(s x:SV):mh st (some t) (.append n) [s,x]=xW st t n s (jQ st.m n s) (jQ st.m n x):=by cases s<;>cases x<;>(rfl)
def KK(n:Nat)(o:a_ bK):a_ Zt:=
 match o with
 |some (.sl k es t)=>if cG k then(if es=n then some t else none)else some []|_=>none
def C2(n d:Nat):jQ m n (.own d)=KK n (bl m d):=by simp[jQ,KK];grind
def Ak(n:Nat)(s:Sl α)(h:n=bB.size α):KK n (some (cB s))=some (rows s.l):=by subst h;cases s<;>simp[KK,cB,Sl.k,Sl.l,cG,rows]
def Q4(n:Nat):jQ m n (.v .bJ)=some []:=rfl
def Qy(n:Nat):jQ m n (.v .dG)=some []:=rfl
def LY(g:Tb SV)(p:Zv)(w:Zt)(B:Zl)(y:Nat)(t n d:Nat)(l:aZ α)(x:α)(h:n=bB.size α):xW ⟨g,m,p,w,B,y⟩ t n (.own d) (some (rows l)) (some (rows [x]))=
 (gZ (.row l) x).bind λs=>if St.new ⟨g,dZ d m,p,w,B,y⟩ t then some (.own t,⟨g,bR (dZ d m) t (cB s),p,w,B,y⟩)else none:=by
 subst h;have e:(rows l).length+(rows [x]).length=l.length+1:=by simp[ga]
 by_cases h:l.length+1<=2147483648
 .have a:gZ (.row l) x=some (.row (l++[x])):=if_pos h;have u:xW ⟨g,m,p,w,B,y⟩ t (bB.size α) (.own d) (some (rows l)) (some (rows [x]))=if St.new ⟨g,dZ d m,p,w,B,y⟩ t then some (.own t,⟨g,bR (dZ d m) t (.sl .row (bB.size α) (rows l++rows [x])),p,w,B,y⟩)else none:=if_pos ⟨Za,rfl⟩
  rw[a,u];simp[cB,Sl.k,Sl.l,rows]
 have a:gZ (.row l) x=none:=if_neg h;have u:xW ⟨g,m,p,w,B,y⟩ t (bB.size α) (.own d) (some (rows l)) (some (rows [x]))=none:=if_neg (λq=>h Za)
 grind
def Lz(g:Tb SV)(p:Zv)(w:Zt)(B:Zl)(y:Nat)(t n:Nat)(x:α)(h:n=bB.size α):xW ⟨g,m,p,w,B,y⟩ t n (.v .bJ) (some []) (some (rows [x]))=
 if St.new ⟨g,m,p,w,B,y⟩ t then some (.own t,⟨g,bR m t (cB (.row [x])),p,w,B,y⟩)else none:=by
 subst h;rfl
def Ld(g:Tb SV)(p:Zv)(w:Zt)(B:Zl)(y:Nat)(t n:Nat)(x:α)(h:n=bB.size α):xW ⟨g,m,p,w,B,y⟩ t n (.v .dG) (some []) (some (rows [x]))=
 if St.new ⟨g,m,p,w,B,y⟩ t then some (.own t,⟨g,bR m t (cB (.row [x])),p,w,B,y⟩)else none:=by
 subst h;rfl
end
def wD(g:Tb SV)(m:Tb bK)(p:Zv)(w:Zt)(B:Zl)(y d:Nat):St.new ⟨g,m,p,w,B,y⟩ d=(!(p.contains d)&&(bl m d).isNone&& !(uD d g)&& !(rR d m)):=rfl
def rm(d:Nat):uD d []=false:=rfl
def pP(d n:Nat)(x:SV)(r:Tb SV):uD d ((n,x)::r)=(SV.cQ d x||uD d r):=rfl
def rj(d:Nat):rR d []=false:=rfl
def pS(d n:Nat)(x:bK)(r:Tb bK):rR d ((n,x)::r)=(bK.cQ d x||rR d r):=rfl
def w6(d:Nat)(x:V):SV.cQ d (.v x)=false:=rfl
def sF(d e:Nat):SV.cQ d (.own e)=(e==d):=rfl
def sJ(d e o:Nat):SV.cQ d (.ptr e o)=(e==d):=rfl
def uF(d e i o:Nat):SV.cQ d (.el e i o)=(e==d):=rfl
def uL(d e:Nat):SV.cQ d (.mp e)=(e==d):=rfl
def sN(d:Nat)(f:Zk)(a b:Zw):SV.cQ d (.clo f a b)=(SV.dB d a||SV.dB d b):=rfl
def sM(d:Nat)(l:Zw):SV.cQ d (.tup l)=SV.dB d l:=rfl
def qR(d:Nat):SV.dB d []=false:=rfl
def pT(d:Nat)(x:SV)(r:Zw):SV.dB d (x::r)=(SV.cQ d x||SV.dB d r):=rfl
def qL(d:Nat)(cs:Zw):bK.cQ d (.box cs)=SV.dB d cs:=rfl
def DX(m:Tb bK)(n:Nat):c6 m n []=some []:=by cases n<;>simp[c6]
def BJ(m:Tb bK)(n:Nat)(x:SV)(r:Zw):c6 m n (x::r)=(shut m n x).bind λy=>(c6 m n r).bind λs=>some (y::s):=by cases n<;>(simp[c6];cases shut m _ x<;>(try rfl)<;>(cases c6 m _ r<;>rfl))
def Si(m:Tb bK)(n:Nat)(x:V):shut m n (.v x)=some x:=by cases n<;>simp[shut]
def NM(m:Tb bK)(n:Nat)(f:Zk)(a b:Zw):shut m (n+1) (.clo f a b)=(c6 m n a).bind λx=>(c6 m n b).bind λy=>some (.clo f x y):=by simp[shut];cases c6 m n a<;>(try rfl)<;>(cases c6 m n b<;>rfl)
def N0(m:Tb bK)(n:Nat)(l:Zw):shut m (n+1) (.tup l)=(c6 m n l).bind λx=>some (.tup x):=by simp[shut];cases c6 m n l<;>rfl
def Om(m:Tb bK)(n:Nat)(l:Zw):shut m (n+1) (.agg l)=(c6 m n l).bind λx=>some (.agg x):=by simp[shut];cases c6 m n l<;>rfl
def sw{α:Type}(n:Nat):dZ n ([]:Tb α)=[]:=rfl
def qX{α:Type}(n k:Nat)(x:α)(r:Tb α):dZ n ((k,x)::r)=if k=n then dZ n r else(k,x)::dZ n r:=rfl
def mapM_nil(f:Zw->Zw):mapM f []=[]:=rfl
section
variable{N:Nat->Zk}{m:Tb bK}
def Q5:result []=.tup []:=rfl
def PC(x:V):result [x]=x:=rfl
def Rf(x y:V)(l:Zu):result (x::y::l)=.tup (x::y::l):=rfl
def Gt(p:ud)(a:V):jP N m p [.v a]=(bn N p [a]).bind λx=>some (.v x):=Iq N m p _ [a] rfl
def sL(p:ud)(a b:V):jP N m p [.v a,.v b]=(bn N p [a,b]).bind λx=>some (.v x):=Iq N m p _ [a,b] rfl
def oM(l:Zu):dy (l.map .v)=some l:=by induction l with|nil=>rfl|cons a l t=>simp only[map_cons,dy,t];rfl
def tq(n:Nat)(l:Zu):c6 m n (l.map .v)=some l:=by induction l with|nil=>exact DX m n|cons a l t=>rw[map_cons,BJ,Si,t];rfl
def Sl.Pq{α:Type}(l:aZ α):(Sl.row l).l=l:=rfl
def vU(cs:Zu):jZ cs [] []=some cs:=rfl
def ug(cs:Zu)(off size:Nat)(pl:aZ (Nat×Nat))(v:V)(vs:Zu):jZ cs ((off,size)::pl) (v::vs)=
 if v.cells.length=size/\off+v.cells.length<=cs.length then jZ (cs.take off++v.cells++cs.drop (off+v.cells.length)) pl vs else none:=by
 simp only[jZ]
 by_cases h:v.cells.length=size<;>by_cases t:off+v.cells.length<=cs.length
 .rw[if_neg (by simp[h];omega),if_pos ⟨h,t⟩]
 .rw[if_pos (by simp[h];omega),if_neg (λq=>t q.2)]
 .rw[if_pos (by simp[h]),if_neg (λq=>h q.1)]
 rw[if_pos (by simp[h]),if_neg (λq=>h q.1)]
def B5(k:Zs)(n:Int):V.cells (.int k n)=[.int k n]:=rfl
def Ab(n:Zl):V.cells (.bool n)=[.bool n]:=rfl
def Ch(n:Zq):V.cells (.str n)=[.str n]:=rfl
def BG:V.cells .bJ=[.bJ]:=rfl
def pG(k:Zs)(n:Int):V.one (.int k n)=true:=rfl
def nJ(n:Zl):V.one (.bool n)=true:=rfl
def pz(n:Zq):V.one (.str n)=true:=rfl
end
section
variable{S:Sys}{c:b9}{β γ δ:Type}{Q:Out×St->a_ β}{L:a_ β}{e:γ->a_ β}
def Ms{dr:Zl}{fr:Zv}{d:a_ Nat}{gd:a_ (Nat×Zl)}{now:Zl}{k:K}{az:Z4}{st:St}(h:wanted st.g gd=some true):
 fq S c dr fr ⟨d,gd,now,k,az,[],[]⟩ st=fq S c dr fr ⟨d,none,now,k,az,[],[]⟩ st:=by
 unfold fq;rw[h];rfl
def A6(dr:Zl)(st:St):Bu dr [] st=some st:=by cases dr<;>rfl
def nL(f:SV->a_ V):Zw->a_ Zu
 |[]=>some []|x::r=>(f x).bind λy=>(nL f r).bind λs=>some (y::s)
def iX(m:Tb bK):Nat->SV->a_ V
 |0,x=>match x with
  |.v y=>some y|.own d=>match bl m d with
   |some (.sl k es xs)=>some (nP k es xs)|_=>none
  |.mp d=>match bl m d with
   |some (.mp B)=>some (.fmap B)|_=>none
  |_=>none
 |n+1,x=>match x with
  |.v y=>some y|.own d=>match bl m d with
   |some (.sl k es xs)=>some (nP k es xs)|_=>none
  |.ptr d o=>match bl m d with
   |some (.box cs)=>match nL (iX m n) cs with
    |some xs=>if o<=xs.length then some (.fptr (xs.drop o))else none|none=>none
   |_=>none
  |.mp d=>match bl m d with
   |some (.mp B)=>some (.fmap B)|_=>none
  |.clo f a b=>(nL (iX m n) a).bind λx=>(nL (iX m n) b).bind λy=>some (.clo f x y)|.tup l=>(nL (iX m n) l).bind λx=>some (.tup x)|.agg l=>(nL (iX m n) l).bind λx=>some (.agg x)|_=>none
def Ah(m:Tb bK):∀(n:Nat),(∀x,shut m n x=iX m n x)/\∀l,c6 m n l=nL (iX m n) l:=by
 have u:∀n,(∀x,shut m n x=iX m n x)->∀l,c6 m n l=nL (iX m n) l:=by intro n h l;induction l with|nil=>exact DX m n|cons a l t=>rw[BJ,h a,t];rfl
 intro n;induction n with|zero=>have c:∀x,shut m 0 x=iX m 0 x:=(by intro x;cases x<;>simp[shut,iX]<;>rfl);grind|succ n t=>have e:∀x,shut m (n+1) x=iX m (n+1) x:=(by intro x;cases x with|ptr d o=>simp[shut,iX,t.2];rfl|clo f a b=>rw[NM,t.2,t.2];rfl|tup l=>rw[N0,t.2];rfl|agg l=>rw[Om,t.2];rfl|_=>simp[shut,iX]<;>rfl);grind
def tZ(S:Sys)(c:b9)(dr:Zl):Zv->Zx->(St->a_ β)->St->a_ β
 |_,[],k,st=>k st|fr,o::r,k,st=>((Bu dr o.pre st).bind (fq S c dr fr o.strip)).bind λst'=>tZ S c dr (if dr then p_ fr o.strip else fr) r k (oE o.dead st')
def C0(dr:Zl):∀(l:Zx)(fr:Zv)(k:St->a_ β)(st:St),tZ S c dr fr l k st=(mA S c dr fr l st).bind k
 |[],_,_,_=>rfl|o::r,fr,k,st=>by simp[tZ,mA];cases(Bu dr o.pre st).bind (fq S c dr fr o.strip)with|none=>rfl|some st'=>exact C0 dr r _ k _
def og(S:Sys)(c:b9):RC->(St->a_ β)->(Nat->St->a_ β)->(St->a_ β)->St->a_ β
 |.skip,n,_,_,st=>n st|.ops l,n,_,_,st=>tZ S c false [] l n st|.ox l,n,_,_,st=>tZ S c true [] l n st|.seq a b,n,x,r,st=>og S c a (λst=>og S c b n x r st) x r st|.cond y a b,n,x,r,st=>match pW S.N st.g y with
  |some (.v (.bool t))=>bq t (og S c a n x r st) (og S c b n x r st)|_=>none
 |.block id a,n,x,r,st=>og S c a n (λk st=>if k=id then n st else x k st) r st|.loop a,n,x,r,st=>(nK (cI S c a) st).bind λq=>match q with|(.norm,st)=>n st|(.exit k,st)=>x k st|(.ret,st)=>r st
 |.each g ps a b,n,x,r,st=>(cI S c (.each g ps a b) st).bind λq=>match q with|(.norm,st)=>n st|(.exit k,st)=>x k st|(.ret,st)=>r st
 |.exit k,_,x,_,st=>x k st|.ret,_,_,r,st=>r st|.gh g a,n,x,r,st=>(ghost g st).bind λst=>og S c a n x r st|.hg a g,n,x,r,st=>og S c a (λst=>(ghost g st).bind n) x r st
def C9(n:St->a_ β)(x:Nat->St->a_ β)(r:St->a_ β):Out×St->a_ β
 |(.norm,st)=>n st|(.exit k,st)=>x k st|(.ret,st)=>r st
def BS:∀(d:RC)(n:St->a_ β)(x:Nat->St->a_ β)(r:St->a_ β)(st:St),og S c d n x r st=(cI S c d st).bind (C9 n x r):=by
 intro d
 induction d with
 |skip=>intros;rfl|ops l=>intro n x r st;simp[og,cI,C0];cases mA S c false [] l st<;>rfl|ox l=>intro n x r st;simp[og,cI,C0];cases mA S c true [] l st<;>rfl|seq a b u w=>intro n x r st;simp[og,cI,u,w];cases h:cI S c a st with|none=>rfl|some q=>have⟨o,st'⟩:=q;cases o<;>rfl
 |cond y a b u w=>
  intro n x r st;simp[og,cI,u,w]
  cases pW S.N st.g y with
  |none=>rfl|some v=>cases v with
   |v z=>cases z with
    |bool t=>cases t<;>rfl|_=>rfl
   |_=>rfl
 |block id a B=>intro n x r st;simp[og,cI,B];cases h:cI S c a st with|none=>rfl|some q=>have⟨o,st'⟩:=q;cases o with|exit k=>simp[C9];split<;>rfl|_=>rfl
 |loop a B=>intro n x r st;rfl|each g C a b u w=>intro n x r st;rfl|exit k=>intros;rfl|ret=>intros;rfl|gh g a B=>simp[og,cI,B];grind|hg a g B=>intro n x r st;simp[og,cI,B];cases h:cI S c a st with|none=>rfl|some q=>have⟨o,st'⟩:=q;cases o with|norm=>simp[C9];cases ghost g st'<;>rfl|_=>rfl
section
variable(S c Q)
mutual
def mg:Z3->St->a_ β
 |[]=>λst=>Q (.norm,st)|.seq b::fs=>λst=>og S c b (mg fs) (lX fs) (λst=>Q (.ret,st)) st|.blk _::fs=>mg fs|.gst g::fs=>λst=>(ghost g st).bind (mg fs)
def lX:Z3->Nat->St->a_ β
 |[]=>λk st=>Q (.exit k,st)|.seq _::fs=>lX fs|.blk id::fs=>λk st=>if k=id then mg fs st else lX fs k st|.gst _::fs=>lX fs
end
def jX(a:RC)(fs:Z3)(st:St):a_ β:=og S c a (mg S c Q fs) (lX S c Q fs) (λst=>Q (.ret,st)) st
end
section
variable{dr:Zl}{fr:Zv}{d:Nat}{dst:a_ Nat}{now:Zl}{az:Z4}{st:St}{α:Type}[bB α]
def IJ{p:ud}{svs:Zw}{m:a_ δ}{v:δ->SV}(B:bZ S.N st.g az=some svs)(D:isSlice p=false)(h:jP S.N st.m p svs=m.bind λx=>some (v x)):
 fq S c dr fr ⟨dst,none,now,.p p,az,[],[]⟩ st=m.bind λx=>some (dh st dst (v x)):=by
 rw[Pu _ _ _ _ _ _ _ D,B]
 grind
def Da{p:ud}{svs:Zw}{v:SV}(B:bZ S.N st.g az=some svs)(D:isSlice p=false)(h:jP S.N st.m p svs=some v):
 fq S c dr fr ⟨dst,none,now,.p p,az,[],[]⟩ st=some (dh st dst v):=by
 rw[Pu _ _ _ _ _ _ _ D,B]
 grind
def OW{n:Nat}{s:Sl α}{k:Zs}{i:Int}(B:bZ S.N st.g az=some [.v (b7 s),.v (.int k i)])(D:n=bB.size α):
 fq S c dr fr ⟨dst,none,now,.p (.idxS n),az,[],[]⟩ st=(idx s i).bind λx=>some (dh st dst (.v (.fptr (cells x)))):=
 IJ B rfl (by rw[sL,Dd s k i n D];grind)
def TS{n e:Nat}{s:Sl α}{k:Zs}{i:Int}(B:bZ S.N st.g az=some [.own e,.v (.int k i)])(D:bl st.m e=some (cB s))(G:n=bB.size α):
 fq S c dr fr ⟨dst,none,now,.p (.idxS n),az,[],[]⟩ st=(s.lY i).bind λj=>some (dh st dst (.el e j 0)):=
 IJ B rfl (by rw[PB,D,PX n e s i G])
def O3{s:Sl α}(B:bZ S.N st.g az=some [.v (b7 s)]):fq S c dr fr ⟨dst,none,now,.p .lenSl,az,[],[]⟩ st=some (dh st dst (.v (.int .i64 s.l.length))):=Da B rfl (by rw[Gt,xz];rfl)
def Sn{e:Nat}{s:Sl α}(B:bZ S.N st.g az=some [.own e])(D:bl st.m e=some (cB s)):fq S c dr fr ⟨dst,none,now,.p .lenSl,az,[],[]⟩ st=some (dh st dst (.v (.int .i64 s.l.length))):=Da B rfl (by rw[MT,D,Qg])
def TR{q:a_ KT}{u:a_ Nat}{k:Zs}{a b:Int}(B:bZ S.N st.g az=some [.v (.int k a),.v (.int k b)]):fq S c dr fr ⟨dst,none,now,.p (.bin q u .rem),az,[],[]⟩ st=(tX a b).bind λx=>some (dh st dst (.v (.int k x))):=IJ B rfl (by rw[sL,SS];grind)
def Ug{q:a_ KT}{u:a_ Nat}{k B:Zs}{a b:Int}(D:bZ S.N st.g az=some [.v (.int k a),.v (.int B b)]):fq S c dr fr ⟨dst,none,now,.p (.bin q u .shr),az,[],[]⟩ st=(zu k a b).bind λx=>some (dh st dst (.v (.int k x))):=IJ D rfl (by rw[sL,S0];grind)
def PM{u:a_ Nat}{s:Sl α}(B:bZ S.N st.g az=some [.v (b7 s),.v .bJ]):fq S c dr fr ⟨dst,none,now,.p (.bin (some .slice) u .eql),az,[],[]⟩ st=s.isNil.bind λt=>some (dh st dst (.v (.bool t))):=IJ B rfl (by rw[sL,N5];grind)
def NA{s:Zq}{k:Zs}{n:Int}(B:bZ S.N st.g az=some [.v (.str s),.v (.int k n)]):fq S c dr fr ⟨dst,none,now,.p .idxStr,az,[],[]⟩ st=(j_ s n).bind λx=>some (dh st dst (.v (.int .u8 x))):=IJ B rfl (by rw[sL,Lh];grind)
def Se{n e i o:Nat}{a:Zl}{s:Sl α}{v:α->V}(B:bZ S.N st.g az=some [.el e i o])(D:(!dr||now||eZ fr [.el e i o])=true)(G:bl st.m e=some (cB s))(b:∀x:α,(cut (cells x) o n).bind (mk a)=some (v x)):
 fq S c dr fr ⟨dst,none,now,.r (.load n a),az,[],[]⟩ st=(s.get i).bind λx=>some (dh st dst (.v (v x))):=by
 rw[EV,B];simp only[ζb,D,Ub,G,LR]
 cases s.get i with
 |none=>rfl|some x=>
  cases d:cut (cells x) o n with
  |none=>grind|some r=>grind
def Ik{n e i:Nat}{s:Sl α}{x:V}{a:α}(B:bZ S.N st.g az=some [.el e i 0,.v x])(D:(!dr||now)=true)(G:bl st.m e=some (cB s))(J:x.cells=cells a)(O:n=bB.size α):
 fq S c dr fr ⟨dst,none,now,.l (.store n),az,[],[]⟩ st=(s.put i a).bind λU=>some (dh {st with m:=bR st.m e (cB U)} dst (.v .undef)):=by
 rw[vH,B];simp[D,KB,G];rw[KJ st.g st.pin st.want st.more st.yid e i n x a J O s]
 grind
def Sr{n:Nat}{z:α}{zero:Zu}{i:Int}(B:bZ S.N st.g az=some [.v (.int .i64 i),.v (.int .i64 i)])(D:zero=cells z)(G:n=bB.size α)(J:st.new d=true):
 fq S c dr fr ⟨some d,none,now,.a (.makeSl n zero),az,[],[]⟩ st=(nG i z).bind λs=>some {st with g:=bR st.g d (.own d),m:=bR st.m d (cB s)}:=by
 rw[BW,B];simp[J];rw[Uf z i d n zero D G]
 grind
def T8{n e u:Nat}{s:Sl α}{x:α}(G:bZ S.N st.g az=some [.own e,.own u])(J:(!dr||now)=true)(O:bl st.m e=some (cB s))(a:bl st.m u=some (cB (.row [x])))(B:n=bB.size α)(U:St.new {st with m:=dZ e st.m} d=true):
 fq S c dr fr ⟨some d,none,now,.l (.append n),az,[],[]⟩ st=(gZ s x).bind λD=>some {st with g:=bR st.g d (.own d),m:=bR (dZ e st.m) d (cB D)}:=by
 rw[vH,G];simp[J,zc,C2,O,a];rw[Ak n s B,Ak n (.row [x]) B];have:=LY (m:=st.m) st.g st.pin st.want st.more st.yid d n e s.l x B;simp[Sl.Pq];rw[this];have t:gZ (.row s.l) x=gZ s x:=by cases s<;>rfl
 rw[t]
 cases gZ s x with
 |none=>rfl|some D=>simp;rw[if_pos U];rfl
def RT{n u:Nat}{x:α}{v:V}(a:v=.bJ\/v=.dG)(G:bZ S.N st.g az=some [.v v,.own u])(J:(!dr||now)=true)(b:bl st.m u=some (cB (.row [x])))(B:n=bB.size α)(D:st.new d=true):
 fq S c dr fr ⟨some d,none,now,.l (.append n),az,[],[]⟩ st=some {st with g:=bR st.g d (.own d),m:=bR st.m d (cB (.row [x]))}:=by
 rw[vH,G];simp[J,zc,C2,b];rw[Ak n (.row [x]) B];simp[Sl.Pq];rcases a with rfl|rfl
 .rw[Q4,Lz (m:=st.m) st.g st.pin st.want st.more st.yid d n x B];rw[if_pos D];rfl
 rw[Qy,Ld (m:=st.m) st.g st.pin st.want st.more st.yid d n x B];rw[if_pos D];rfl
def SG{f:Zk}{svs args:Zw}{cs:Zu}{m:a_ δ}{E:δ->Zu}(a:mE c f cs=m.bind λr=>some (E r))(b:S.E.keep f=false)(D:bZ S.N st.g az=some svs)(G:nV svs=some (f,args))
 (B:nL (iX st.m 8) args=some cs)(J:((!dr||now)||fS st.m fr args)=true)(d:∀r,((result (E r)).scalar||(dy args).isSome)=true):
 fq S c dr fr ⟨dst,none,now,.c,az,[],[]⟩ st=m.bind λr=>some (dh st dst (.v (result (E r)))):=by
 rw[zW dr fr dst now az st svs f args D G,PT _ _ _ _ _ _ _ b,(Ah st.m 8).2,B];simp[J,a]
 cases m with
 |none=>rfl|some r=>
  simp[LB]
  grind
end
end
section
variable{S:Sys}{c:b9}{β γ:Type}{Q:Out×St->a_ β}{L:a_ β}{e:γ->a_ β}
def pQ(a:RC)(st:St):jX S c Q a [] st=(cI S c a st).bind Q:=by unfold jX;rw[BS];congr 1;funext q;have⟨o,st⟩:=q;cases o<;>rfl
def Ai(a:RC)(st:St):cI S c a st=jX S c some a [] st:=by rw[pQ];cases cI S c a st<;>rfl
def qH(rs:aZ RV):Out×St->a_ Zu
 |(.exit _,_)=>none|(_,st)=>(kD st rs).bind (nL (iX st.m 8))
def Rg(rs:aZ RV):FT rs=qH rs:=by funext q;have⟨o,st⟩:=q;cases o;simp only[FT,qH];congr 1;funext l;exact(Ah st.m 8).2 l;rfl;simp only[FT,qH];congr 1;funext l;exact(Ah st.m 8).2 l
def PK{S:Sys}{T:oR}{f:Zk}{rf:RF}(B:T f=some rf)(az:Zu)(D:az.length<=rf.na):mE (c7 S T) f az=jX S (c7 S T) (qH rf.rs) rf.body [] (start (az.map .v) []):=by rw[NI B az D,<-FQ,pQ,Rg]
end
def nv{α σ ε ρ:Type}(step:α->σ->a_ (Fw σ ε ρ)):aZ α->σ->a_ (Fw σ ε ρ)
 |[],s=>some (.n s)|x::xs,s=>(step x s).bind λw=>match w with
  |.n B=>nv step xs B|.x e=>some (.x e)|.r b=>some (.r b)
def Fw.vI{ν ε ρ γ:Type}(fn:ν->γ)(B:ε->γ)(fr:ρ->γ):Fw ν ε ρ->γ
 |.n a=>fn a|.x e=>B e|.r b=>fr b
def Fw.uV{ν ε ρ:Type}(B:ν->Tb bK)(eε:ε->Nat×Tb bK)(eρ:ρ->Tb bK):Fw ν ε ρ->Out×Tb bK
 |.n a=>(.norm,B a)|.x e=>(.exit (eε e).1,(eε e).2)|.r b=>(.ret,eρ b)
def uV(q:Out×St):a_ (Out×Tb bK):=some (q.1,q.2.m)
section
variable{S:Sys}{c:b9}{β γ:Type}{Q:Out×St->a_ β}{L:a_ β}{e:γ->a_ β}
def xC(S:Sys)(c:b9)(b:RC):Out×St->a_ (Out×Tb bK)
 |(.norm,st)=>jX S c uV b [] st|_=>none
def Ka(ps:Zv)(a b:RC)(st:St)(x:Zu)(m:Tb bK)(B:x.length=ps.length):
 iJ ps (cI S c a) (cI S c b) st x m=jX S c (xC S c b) a [] ⟨vT st.g ps (x.map .v),m,st.pin++o4 st.g,[],true,0⟩:=by
 unfold iJ;rw[if_pos B,pQ]
 cases cI S c a ⟨vT st.g ps (x.map .v),m,st.pin++o4 st.g,[],true,0⟩with
 |none=>rfl|some q=>
  have⟨o,t⟩:=q
  cases o with
  |norm=>simp only[ζb,xC];rw[pQ];cases cI S c b t<;>rfl|_=>rfl
end
def Le{α:Type}(a b:a_ α):Prop:=∀r,a=some r->b=some r
section
variable{α:Type}
def Le.refl(a:a_ α):Le a a:=λ_ h=>h
def Le.of_eq{a b:a_ α}(h:b=a):Le a b:=λ_ t=>h.trans t
def Le.trans{a b d:a_ α}(c:Le a b)(B:Le b d):Le a d:=λr h=>B r (c r h)
def Le.none(b:a_ α):Le (none:a_ α) b:=λr h=>by cases h
def Le.bind{β:Type}{a b:a_ α}{f g:α->a_ β}(h:Le a b)(B:∀x,Le (f x) (g x)):Le (a.bind f) (b.bind g):=λr c=>by have⟨x,d,t⟩:=ζg.1 c;rw[h x d];exact B x r t
end
section
variable{S:Sys}{c:b9}{β γ δ:Type}{Q:Out×St->a_ β}{L:a_ β}{e:γ->a_ β}
def Hl{dr:Zl}{fr:Zv}{dst:a_ Nat}{now:Zl}{az:Z4}{st:St}{f:Zk}{svs args:Zw}{cs:Zu}{m:a_ δ}{E:δ->Zu}(a:Le (m.bind λr=>some (E r)) (mE c f cs))(b:S.E.keep f=false)(D:bZ S.N st.g az=some svs)(G:nV svs=some (f,args))
 (B:nL (iX st.m 8) args=some cs)(J:((!dr||now)||fS st.m fr args)=true)(d:∀r,((result (E r)).scalar||(dy args).isSome)=true):
 Le (m.bind λr=>some (dh st dst (.v (result (E r))))) (fq S c dr fr ⟨dst,none,now,.c,az,[],[]⟩ st):=by
 intro q e;have⟨r,g,u⟩:=ζg.1 e;have t:mE c f cs=(some r).bind λr=>some (E r):=a _ (by rw[g];rfl)
 rw[SG (m:=some r) t b D G B J d];exact u
def Oe{σ ε ρ:Type}{f:St->a_ (Out×St)}{step:σ->a_ (Fw σ ε ρ)}{eσ:σ->St}{eε:ε->Nat×St}{eρ:ρ->St}(h:∀s,Le ((step s).bind λw=>some (Fw.out eσ eε eρ w)) (f (eσ s)))(s:σ):
 Le ((bT step s).bind λw=>some (Fw.out (λe=>Empty.elim e) eε eρ w)) (nK f (eσ s)):=by
 have key:∀k s r,jd step k s=some r->iY f k (eσ s)=some (Fw.out (λe=>Empty.elim e) eε eρ r):=by intro k;induction k with|zero=>intro s r h;simp[jd]at h|succ k B=>intro s r t;simp only[jd]at t;cases u:step s with|none=>rw[u]at t;cases t|some w=>rw[u]at t;have z:=h s (Fw.out eσ eε eρ w) (by rw[u];rfl);simp only[iY,z];cases w with|n a=>exact B a r t|x e=>cases t;rfl|r b=>cases t;rfl
 intro r c;have⟨w,d,z⟩:=ζg.1 c;have⟨k,g⟩:=nh.1 d;cases z;exact lW.2 ⟨k,key k s w g⟩
def Ua{σ ε ρ:Type}{a:RC}{fs:Z3}{step:σ->a_ (Fw σ ε ρ)}{eσ:σ->St}{eε:ε->Nat×St}{eρ:ρ->St}{s:σ}{B:ε->a_ γ}{fr:ρ->a_ γ}
 (D:L=jX S c Q (.loop a) fs (eσ s))(h:∀s,Le ((step s).bind λw=>some (Fw.out eσ eε eρ w)) (jX S c some a [] (eσ s)))
 (G:∀x,Le ((B x).bind e) (lX S c Q fs (eε x).1 (eε x).2))(d:∀b,Le ((fr b).bind e) (Q (.ret,eρ b))):Le (((bT step s).bind (Fw.elim B fr)).bind e) L:=by
 subst D;have g:jX S c Q (.loop a) fs (eσ s)=(nK (cI S c a) (eσ s)).bind (C9 (mg S c Q fs) (lX S c Q fs) (λst=>Q (.ret,st))):=by unfold jX;rw[BS];rfl
 rw[g];have t:=Oe (step:=step) (f:=cI S c a) (eσ:=eσ) (eε:=eε) (eρ:=eρ) (λs=>by rw[Ai];exact h s) s
 cases u:bT step s with
 |none=>exact Le.none _|some w=>
  have z:=t _ (by rw[u];rfl)
  rw[z]
  cases w with
  |n a=>cases a|x a=>exact G a|r a=>exact d a
def G3{α σ ε ρ:Type}{f:Zu->Tb bK->a_ (Out×Tb bK)}{step:α->σ->a_ (Fw σ ε ρ)}{eI:α->Zu}{eσ:σ->Tb bK}{eε:ε->Nat×Tb bK}{eρ:ρ->Tb bK}
 (h:∀x s,Le ((step x s).bind λw=>some (Fw.uV eσ eε eρ w)) (f (eI x) (eσ s))):∀(xs:aZ α)(s:σ),Le ((nv step xs s).bind λw=>some (Fw.uV eσ eε eρ w)) (pJ f (xs.map eI) (eσ s))
 |[],s=>λr a=>a|x::xs,s=>by simp only[map_cons,pJ,nv];cases B:step x s with|none=>exact Le.none _|some w=>have D:=h x s (Fw.uV eσ eε eρ w) (by rw[B];rfl);rw[D];cases w with|n t=>simp only[ζb,Fw.uV];exact G3 h xs t|x e=>exact Le.refl _|r b=>exact Le.refl _
def Ts{α σ ε ρ:Type}{g:Arg}{ps:Zv}{a b:RC}{fs:Z3}{f:Zk}{x y:Zu}{d:aZ α}{eI:α->Zu}{step:α->σ->a_ (Fw σ ε ρ)}{eσ:σ->Tb bK}{eε:ε->Nat×Tb bK}{eρ:ρ->Tb bK}{i:Tb SV}{s:σ}
 {fn:σ->a_ γ}{B:ε->a_ γ}{fr:ρ->a_ γ}
 (D:L=jX S c Q (.each g ps a b) fs ⟨i,eσ s,[],[],true,0⟩)(j:pW S.N i g=some (.v (.clo f x y)))(G:S.items f x y=some (d.map eI))(J:∀x,(eI x).length=ps.length)
 (h:∀x s,Le ((step x s).bind λw=>some (Fw.uV eσ eε eρ w)) (jX S c (xC S c b) a [] ⟨vT i ps ((eI x).map .v),eσ s,o4 i,[],true,0⟩))
 (O:∀s,Le ((fn s).bind e) (mg S c Q fs ⟨i,eσ s,[],[],true,0⟩))
 (U:∀x,Le ((B x).bind e) (lX S c Q fs (eε x).1 ⟨i,(eε x).2,[],[],true,0⟩))(k:∀b,Le ((fr b).bind e) (Q (.ret,⟨i,eρ b,[],[],true,0⟩))):
 Le (((nv step d s).bind (Fw.vI fn B fr)).bind e) L:=by
 subst D;have l:jX S c Q (.each g ps a b) fs ⟨i,eσ s,[],[],true,0⟩=(cI S c (.each g ps a b) ⟨i,eσ s,[],[],true,0⟩).bind (C9 (mg S c Q fs) (lX S c Q fs) (λst=>Q (.ret,st))):=by unfold jX;rw[BS]
 rw[l];simp only[cI,j,G];have t:=G3 (step:=step) (f:=iJ ps (cI S c a) (cI S c b) ⟨i,eσ s,[],[],true,0⟩) (eI:=eI) (eσ:=eσ) (eε:=eε) (eρ:=eρ) (λx s=>by rw[Ka _ _ _ _ _ _ (J x)];exact h x s) d s
 cases u:nv step d s with
 |none=>exact Le.none _|some w=>
  have z:=t _ (by rw[u];rfl)
  rw[z]
  cases w with
  |n a=>exact O a|x a=>exact U a|r a=>exact k a
end
inductive Fo where
 |rc(c:RC)|ops(dr:Bool)(fr:List Nat)(l:List RO)|nx|ex(k:Nat)|rt
abbrev bN(g:Tb SV)(m:Tb bK):St:=⟨g,m,[],[],true,0⟩
section
variable(S:Sys)(c:b9){β:Type}(Q:Out×St->a_ β)
def rn:Fo->Z3->St->a_ β
 |.rc a,fs,st=>jX S c Q a fs st|.ops dr fr l,fs,st=>tZ S c dr fr l (mg S c Q fs) st|.nx,fs,st=>mg S c Q fs st|.ex k,fs,st=>lX S c Q fs k st|.rt,_,st=>Q (.ret,st)
def xB:Fo->Z3->St->a_ (Fo×Z3×St)
 |.rc .skip,fs,st=>some (.nx,fs,st)|.rc (.ops l),fs,st=>some (.ops false [] l,fs,st)|.rc (.ox l),fs,st=>some (.ops true [] l,fs,st)|.rc (.seq a b),fs,st=>some (.rc a,.seq b::fs,st)|.rc (.cond y a b),fs,st=>match pW S.N st.g y with
  |some (.v (.bool true))=>some (.rc a,fs,st)|some (.v (.bool false))=>some (.rc b,fs,st)|_=>none
 |.rc (.block id a),fs,st=>some (.rc a,.blk id::fs,st)|.rc (.exit k),fs,st=>some (.ex k,fs,st)|.rc .ret,fs,st=>some (.rt,fs,st)|.rc (.gh g a),fs,st=>match ghost g st with
  |some st'=>some (.rc a,fs,st')|none=>none
 |.rc (.hg a g),fs,st=>some (.rc a,.gst g::fs,st)|.rc (.loop _),_,_=>none|.rc (.each ..),_,_=>none|.ops _ _ [],fs,st=>some (.nx,fs,st)|.ops dr fr (⟨d,gd,now,k,az,dd,[]⟩::r),fs,st=>match fq S c dr fr ⟨d,gd,now,k,az,[],[]⟩ st with
  |some st'=>some (.ops dr (if dr then p_ fr ⟨d,gd,now,k,az,[],[]⟩else fr) r,fs,oE dd st')|none=>none
 |.ops dr fr (⟨d,gd,now,k,az,dd,x::xs⟩::r),fs,st=>if dr&& !(yp x&&xs.all yp)then none else match ghost x st with
  |some st'=>some (.ops dr fr (⟨d,gd,now,k,az,dd,xs⟩::r),fs,st')|none=>none
 |.nx,.seq b::fs,st=>some (.rc b,fs,st)|.nx,.blk _::fs,st=>some (.nx,fs,st)|.nx,.gst g::fs,st=>match ghost g st with
  |some st'=>some (.nx,fs,st')|none=>none
 |.nx,[],_=>none|.ex k,.seq _::fs,st=>some (.ex k,fs,st)|.ex k,.blk id::fs,st=>some (if k=id then .nx else .ex k,fs,st)|.ex k,.gst _::fs,st=>some (.ex k,fs,st)|.ex _,[],_=>none|.rt,_,_=>none
def gR:Nat->Fo->Z3->St->a_ (Fo×Z3×St)
 |0,fo,fs,st=>some (fo,fs,st)|n+1,fo,fs,st=>match xB S c fo fs st with
  |some (fo',fs',st')=>gR n fo' fs' st'|none=>none
end
section
variable{S:Sys}{c:b9}{β γ δ:Type}{Q:Out×St->a_ β}{e:γ->a_ β}
def M8{fo fo':Fo}{fs fs':Z3}{st st':St}(h:xB S c fo fs st=some (fo',fs',st')):rn S c Q fo fs st=rn S c Q fo' fs' st':=by
 cases fo with
 |rc a=>cases a with|cond y a b=>simp only[xB]at h;split at h;(next t=>cases h;simp only[rn,jX,og,t,bq,if_true]);(next t=>cases h;simp only[rn,jX,og,t,bq];rfl);cases h|gh g a=>simp only[xB]at h;split at h;(next t=>cases h;simp only[rn,jX,og,t,ζb]);cases h|loop a=>cases h|each g w a b=>cases h|seq a b=>cases h;simp only[rn,jX,og,mg,lX]|block id a=>cases h;simp only[rn,jX,og,mg,lX]|hg a g=>cases h;simp only[rn,jX,og,mg,lX]|_=>cases h;simp only[rn,jX,og]
 |ops dr fr l=>cases l with|nil=>cases h;simp only[rn,tZ]|cons o r=>have⟨d,gd,now,k,az,dd,pre⟩:=o;cases pre with|nil=>simp only[xB]at h;split at h;(next t=>cases h;simp only[rn,tZ,A6,RO.strip,ζb,t]);cases h|cons x z=>simp only[xB]at h;split at h;cases h;rename_i u;split at h;rename_i t;cases h;(cases dr with|true=>simp only[Bool.true_and,Bool.not_eq_true',Bool.not_eq_false,ζh]at u;simp only[rn,tZ,RO.strip,Bu,nQ,if_true,List.all_cons,u.1,u.2,Bool.and_self,t,ζb]|false=>simp only[rn,tZ,RO.strip,Bu,nQ,Bool.false_eq_true,if_false,t,ζb]);cases h
 |nx=>cases fs with|nil=>cases h|cons f fs=>cases f with|seq b=>cases h;simp only[rn,jX,mg]|blk id=>cases h;simp only[rn,mg]|gst g=>simp only[xB]at h;split at h;(next t=>cases h;simp only[rn,mg,t,ζb]);cases h
 |ex k=>cases fs with|nil=>cases h|cons f fs=>cases f with|seq b=>cases h;simp only[rn,lX]|blk id=>cases h;simp only[rn,lX];by_cases e:k=id;simp only[if_pos e,rn];simp only[if_neg e,rn]|gst g=>cases h;simp only[rn,lX]
 |rt=>cases h
def nR:∀{n:Nat}{fo fo':Fo}{fs fs':Z3}{st st':St},gR S c n fo fs st=some (fo',fs',st')->rn S c Q fo fs st=rn S c Q fo' fs' st'
 |0,fo,fo',fs,fs',st,st',h=>by cases h;rfl|n+1,fo,fo',fs,fs',st,st',h=>by simp only[gR]at h;split at h;(next a b d B=>rw[M8 B];exact nR h);cases h
def Dq{n:Nat}{fo fo':Fo}{fs fs':Z3}{st st':St}{m:a_ β}(h:gR S c n fo fs st=some (fo',fs',st'))(B:Le m (rn S c Q fo' fs' st')):Le m (rn S c Q fo fs st):=by rw[nR h];exact B
def UM{n:Nat}{fo fo':Fo}{fs fs':Z3}{st st':St}{r:γ}(h:gR S c n fo fs st=some (fo',fs',st'))(B:rn S c Q fo' fs' st'=e r):Le ((some r).bind e) (rn S c Q fo fs st):=by rw[nR h];exact Le.of_eq B
def OQ{m:a_ δ}{f:δ->a_ γ}{L:a_ β}(k:δ->a_ β)(B:Le (m.bind k) L)(b:∀r,Le ((f r).bind e) (k r)):Le ((m.bind f).bind e) L:=by intro r a;cases m with|none=>cases a|some x=>exact B r (b x r a)
def UL{n:Nat}{fo:Fo}{fs fs':Z3}{st0:St}{dr:Zl}{q l:Zx}{fr:Zv}{st:St}{d:a_ Nat}{gd:a_ (Nat×Zl)}{now:Zl}{k:K}{az:Z4}{dd:Zv}{m:a_ δ}{g:δ->St}{f:δ->a_ γ}
 (B:gR S c n fo fs st0=some (.ops dr fr q,fs',st))(a:q=⟨d,gd,now,k,az,dd,[]⟩::l)(b:wanted st.g gd=some true)
 (D:Le (m.bind λx=>some (g x)) (fq S c dr fr ⟨d,none,now,k,az,[],[]⟩ st))
 (h:∀x,m=some x->Le ((f x).bind e) (rn S c Q (.ops dr (if dr then p_ fr ⟨d,gd,now,k,az,[],[]⟩else fr) l) fs' (oE dd (g x)))):Le ((m.bind f).bind e) (rn S c Q fo fs st0):=by
 rw[nR B];subst a;simp only[rn,tZ,RO.strip,A6,ζb];rw[Ms b]
 cases m with
 |none=>exact Le.none _|some x=>rw[D (g x) rfl];exact h x rfl
def O2{n:Nat}{fo:Fo}{fs fs':Z3}{st0:St}{dr:Zl}{q l:Zx}{fr:Zv}{st st':St}{d:a_ Nat}{gd:a_ (Nat×Zl)}{now:Zl}{k:K}{az:Z4}{dd:Zv}{m:a_ β}
 (B:gR S c n fo fs st0=some (.ops dr fr q,fs',st))(a:q=⟨d,gd,now,k,az,dd,[]⟩::l)(b:wanted st.g gd=some true)
 (D:fq S c dr fr ⟨d,none,now,k,az,[],[]⟩ st=some st')
 (h:Le m (rn S c Q (.ops dr (if dr then p_ fr ⟨d,gd,now,k,az,[],[]⟩else fr) l) fs' (oE dd st'))):Le m (rn S c Q fo fs st0):=by
 rw[nR B];subst a;simp only[rn,tZ,RO.strip,A6,ζb];rw[Ms b,D];exact h
def Ge{n:Nat}{fo:Fo}{B:Z3}{st:St}{σ ε ρ:Type}{a:RC}{fs:Z3}{step:σ->a_ (Fw σ ε ρ)}{eσ:σ->St}{eε:ε->Nat×St}{eρ:ρ->St}{s:σ}{D:ε->a_ γ}{fr:ρ->a_ γ}
 (G:gR S c n fo B st=some (.rc (.loop a),fs,eσ s))(h:∀s,Le ((step s).bind λw=>some (Fw.out eσ eε eρ w)) (rn S c some (.rc a) [] (eσ s)))
 (J:∀x,Le ((D x).bind e) (rn S c Q (.ex (eε x).1) fs (eε x).2))(d:∀b,Le ((fr b).bind e) (Q (.ret,eρ b))):Le (((bT step s).bind (Fw.elim D fr)).bind e) (rn S c Q fo B st):=by
 rw[nR G];exact Ua (L:=rn S c Q (.rc (.loop a)) fs (eσ s)) rfl h J d
def Su{n:Nat}{fo:Fo}{B:Z3}{st:St}{α σ ε ρ:Type}{g:Arg}{ps:Zv}{a b:RC}{fs:Z3}{f:Zk}{x y:Zu}{d:aZ α}{eI:α->Zu}{step:α->σ->a_ (Fw σ ε ρ)}{eσ:σ->Tb bK}{eε:ε->Nat×Tb bK}{eρ:ρ->Tb bK}{i:Tb SV}{s:σ}
 {fn:σ->a_ γ}{D:ε->a_ γ}{fr:ρ->a_ γ}
 (G:gR S c n fo B st=some (.rc (.each g ps a b),fs,bN i (eσ s)))(j:pW S.N i g=some (.v (.clo f x y)))(J:S.items f x y=some (d.map eI))(O:∀x,(eI x).length=ps.length)
 (h:∀x s,Le ((step x s).bind λw=>some (Fw.uV eσ eε eρ w)) (rn S c (xC S c b) (.rc a) [] ⟨vT i ps ((eI x).map .v),eσ s,o4 i,[],true,0⟩))
 (U:∀s,Le ((fn s).bind e) (rn S c Q .nx fs (bN i (eσ s))))
 (W:∀x,Le ((D x).bind e) (rn S c Q (.ex (eε x).1) fs (bN i (eε x).2)))(k:∀b,Le ((fr b).bind e) (Q (.ret,bN i (eρ b)))):
 Le (((nv step d s).bind (Fw.vI fn D fr)).bind e) (rn S c Q fo B st):=by
 rw[nR G];exact Ts (L:=rn S c Q (.rc (.each g ps a b)) fs (bN i (eσ s))) rfl j J O h U W k
def Td{b:RC}{st st':St}{m:a_ (Out×Tb bK)}{fs:Z3}{n:Nat}{fo:Fo}(h:gR S c n fo fs st=some (.nx,[],st'))(B:Le m (rn S c uV (.rc b) [] st')):Le m (rn S c (xC S c b) fo fs st):=by rw[nR h];exact B
def TL{α:Type}{n:Nat}{fo fo':Fo}{fs fs':Z3}{st:St}{A:a_ α->St}{o:a_ α}{f:α->a_ γ}(h:gR S c n fo fs st=some (fo',fs',A o))
 (B:∀x,o=some x->Le ((f x).bind e) (rn S c Q fo' fs' (A (some x)))):Le ((o.bind f).bind e) (rn S c Q fo fs st):=by
 rw[nR h]
 cases o with
 |none=>exact Le.none _|some x=>exact B x rfl
def UW{T:oR}{f:Zk}{rf:RF}{az:Zu}{m:a_ Zu}(B:T f=some rf)(D:az.length<=rf.na)(h:Le m (rn S (c7 S T) (qH rf.rs) (.rc rf.body) [] (start (az.map .v) []))):Le m (mE (c7 S T) f az):=by rw[PK B az D];exact h
end
section
variable{α:Type}[bB α]
abbrev cv(x:α):SV:=.v (enc x)
abbrev cp(x:α):SV:=.v (.fptr (cells x))
abbrev bx(x:α):bK:=.box ((cells x).map .v)
end
structure kG(S:Sys)(c:b9){α δ:Type}(fn:FuncId)(A:α->List V)(E:δ->List V)(p:α->Option δ)(sc:Bool):Prop where
 k:S.E.keep fn=false
 h:∀z,Le ((p z).bind λr=>some (E r)) (mE c fn (A z))
 s:sc=true->∀r,(result (E r)).scalar=true
section
variable{S:Sys}{c:b9}{β γ δ α:Type}{Q:Out×St->a_ β}{e:γ->a_ β}{fo:Fo}{fs:Z3}{st0:St}{l:Zx}{d:a_ Nat}{gd:a_ (Nat×Zl)}{now:Zl}{az:Z4}{dd:Zv}
abbrev r_(S:Sys)(c:b9)(Q:Out×St->a_ β)(dr:Bool)(fr:aZ Nat)(d:a_ Nat)(k:K)(l:aZ RO)(fs:aZ Fm)(dd:aZ Nat)(st:St):a_ β:=rn S c Q (.ops dr (if dr then(match k with|.p _|.r _=>fr|_=>match d with|some d=>d::fr|none=>fr)else fr) l) fs (oE dd st)
def DZ(fr:Zv)(k:K):p_ fr ⟨d,gd,now,k,az,[],[]⟩=(match k with|.p _|.r _=>fr|_=>match d with|some d=>d::fr|none=>fr):=by cases k<;>cases d<;>rfl
def Dh{n:Nat}{dr:Zl}{fr:Zv}{q:Zx}{fs':Z3}{st:St}{k:K}{m:a_ δ}{g:δ->St}{f:δ->a_ γ}
 (B:gR S c n fo fs st0=some (.ops dr fr q,fs',st))(a:q=⟨d,gd,now,k,az,dd,[]⟩::l)(b:wanted st.g gd=some true)
 (D:Le (m.bind λx=>some (g x)) (fq S c dr fr ⟨d,none,now,k,az,[],[]⟩ st))
 (h:∀x,m=some x->Le ((f x).bind e) (r_ S c Q dr fr d k l fs' dd (g x))):Le ((m.bind f).bind e) (rn S c Q fo fs st0):=
 UL B a b D (λx t=>by rw[DZ];grind)
def qi{n:Nat}{dr:Zl}{fr:Zv}{q:Zx}{fs':Z3}{st st':St}{k:K}{m:a_ β}
 (B:gR S c n fo fs st0=some (.ops dr fr q,fs',st))(a:q=⟨d,gd,now,k,az,dd,[]⟩::l)(b:wanted st.g gd=some true)
 (D:fq S c dr fr ⟨d,none,now,k,az,[],[]⟩ st=some st')(h:Le m (r_ S c Q dr fr d k l fs' dd st')):Le m (rn S c Q fo fs st0):=
 O2 B a b D (by rw[DZ];omega)
section
variable[bB α]
def Nj(n:Nat)(dr:Zl)(fr:Zv)(q:Zx)(fs':Z3)(st:St)(k:Zs){a:Nat}{s:Sl α}{i:Int}{f:α->a_ γ}(b:q=⟨d,gd,now,.p (.idxS a),az,dd,[]⟩::l)
 (B:(gR S c n fo fs st0,wanted st.g gd,bZ S.N st.g az,a)=(some (.ops dr fr q,fs',st),some true,some [.v (b7 s),.v (.int k i)],bB.size α))
 (h:∀x,idx s i=some x->Le ((f x).bind e) (r_ S c Q dr fr d (.p (.idxS a)) l fs' dd (dh st d (cp x)))):Le (((idx s i).bind f).bind e) (rn S c Q fo fs st0):=by
 simp at B;exact Dh B.1 b B.2.1 (Le.of_eq (OW B.2.2.1 B.2.2.2)) h
def S4(n:Nat)(dr:Zl)(fr:Zv)(q:Zx)(fs':Z3)(st:St)(s:Sl α){m:a_ β}(a:q=⟨d,gd,now,.p .lenSl,az,dd,[]⟩::l)
 (B:(gR S c n fo fs st0,wanted st.g gd,bZ S.N st.g az)=(some (.ops dr fr q,fs',st),some true,some [.v (b7 s)]))
 (h:Le m (r_ S c Q dr fr d (.p .lenSl) l fs' dd (dh st d (.v (.int .i64 s.l.length))))):Le m (rn S c Q fo fs st0):=by
 simp at B;exact qi B.1 a B.2.1 (O3 B.2.2) h
end
section
variable{q:Zx}{fs':Z3}
end
def Gi(m:Tb bK)(n:Nat)(l:Zu):nL (iX m n) (l.map .v)=some l:=by rw[<-(Ah m n).2,tq]
variable{A:α->Zu}{E:δ->Zu}{p:α->a_ δ}{fn:Zk}{sc:Zl}
end
abbrev iv(n:Int):SV:=.v (.int .i64 n)
abbrev bv(b:Bool):SV:=.v (.bool b)
abbrev len{α:Type}(s:Sl α):Int:=((List.length (Sl.l s):Nat):Int)
abbrev o1(d:Nat)(a:Arg)(dd:aZ Nat):RO:=⟨some d,none,false,.p .id,[a],dd,[]⟩
abbrev o2(d:Nat)(k:K)(az:aZ Arg)(dd:aZ Nat):RO:=⟨some d,none,false,k,az,dd,[]⟩
abbrev o3(d s:Nat)(b:Bool)(k:K)(az:aZ Arg)(dd:aZ Nat):RO:=⟨some d,some (s,b),false,k,az,dd,[]⟩
def Ib(a b:bf):Zl:=[a.proc,a.index]==[b.proc,b.index]
section
variable{α:Type}[bB α]
def vz(h:bB.agg α=false)(a:α):cells a=[enc a]:=by
 have t:(cells a).length=1:=by rw[show(cells a).length=_ from bB.len a,bB.plain h]
 unfold enc;rw[if_neg (by simp[h])];match b:cells a,t with|[x],_=>rfl
def Ag(h:bB.agg α=true)(a:α):enc a=.agg (cells a):=by unfold enc;grind
def jw(a:α):V.good (enc a)=true:=by have h:V.cE (cells a)=true:=bB.good a;cases t:bB.agg α with|true=>rw[Ag t];exact h|false=>rw[vz t]at h;simp[V.cE]at h;omega
def nD(s:Sl α):V.one (enc s)=true:=Ez s
def Oo(s:α)(h:bB.agg α=false):V.one (enc s)=true:=by have:=bB.one s;rw[show bB.cells s=cells s from rfl,vz h]at this;grind
end
instance{α:Type}[bB α]:bB (a_ α)where
 cells o:=[match o with|none=>.gP|some x=>.fptr (cells x)]
 agg:=false
 size:=1
 len _:=rfl
 good o:=by cases o with|none=>rfl|some x=>simp only[V.cE,V.good,Bool.and_true];exact bB.good x
 one o:=by cases o<;>rfl
 plain _:=rfl
structure U8 where
 v:Int
 deriving Inhabited,DecidableEq
instance:bB U8 where
 cells n:=[.int .u8 n.v]
 agg:=false
 size:=1
 len _:=rfl
 good _:=rfl
 one _:=rfl
 plain _:=rfl
structure Vr where
 v:Int
 deriving Inhabited,DecidableEq
instance:bB Vr where
 cells n:=[.int .u64 n.v]
 agg:=false
 size:=1
 len _:=rfl
 good _:=rfl
 one _:=rfl
 plain _:=rfl
structure Vo where
 v:Int
 deriving Inhabited,DecidableEq
instance:bB Vo where
 cells n:=[.int .u32 n.v]
 agg:=false
 size:=1
 len _:=rfl
 good _:=rfl
 one _:=rfl
 plain _:=rfl
structure Vg where
 v:Int
 deriving Inhabited,DecidableEq
instance:bB Vg where
 cells n:=[.int .i32 n.v]
 agg:=false
 size:=1
 len _:=rfl
 good _:=rfl
 one _:=rfl
 plain _:=rfl
structure oq(S:Sys)(c:b9){α δ:Type}(g:FuncId)(w e:List V)(A:α->List V)(R:δ->List V)(p:α->Option δ)(b:Bool):Prop where
 f:kG S c g (λz=>w++A z++e) R p b
section
variable{S:Sys}{c:b9}{β γ δ α:Type}{Q:Out×St->a_ β}{e:γ->a_ β}{fo:Fo}{fs:Z3}{st0:St}{l:Zx}{d:a_ Nat}{gd:a_ (Nat×Zl)}{now:Zl}{az:Z4}{dd:Zv}
def jg{α:Type}[bB α](a:α):V.cells (enc a)=cells a:=by cases t:bB.agg α with|true=>rw[Ag t];rfl|false=>have b:=Oo a t;rw[vz t];cases h:enc a<;>first|rfl|(rw[h]at b;cases b)
def pN{α:Type}[bB α](a:α):(cells a).all V.one=true:=bB.one a
def fH{α:Type}[bB α](a:α):(cells a).length=bB.size α:=bB.len a
def Ast[bB α](n:Nat)(dr:Zl)(fr:Zv)(q:Zx)(fs':Z3)(st:St)(u o:Nat)(x:α)(cs B:Zw){a:Nat}{m:a_ β}(b:q=⟨d,gd,now,.l (.store a),az,dd,[]⟩::l)
 (D:(gR S c n fo fs st0,wanted st.g gd,bZ S.N st.g az,bl st.m u,(!dr||now),a,ble (o+a) cs.length,cs.take o++(cells x).map .v++cs.drop (o+a))=(some (.ops dr fr q,fs',st),some true,some [.ptr u o,cv x],some (.box cs),true,bB.size α,true,B))
 (h:Le m (r_ S c Q dr fr d (.l (.store a)) l fs' dd (dh {st with m:=bR st.m u (.box B)} d (.v .undef)))):Le m (rn S c Q fo fs st0):=by
 simp only[ζc]at D;have⟨e,t,w,z,C,G,I,J⟩:=D;refine qi e b t ?_ h;rw[vH,w];subst G;have L:=Nat.le_of_ble_eq_true I;simp only[ζb,C,if_true,mh,z,putCells,jg,fH,pN,L,and_self,J,map_some]
def zH{α:Type}[bB α]:∀(xs:aZ α)(pre:Zt)(B:Zt),B.length=xs.length->eY (bB.size α) (pre++B) ((range' pre.length xs.length).zip (xs.map enc))=some (pre++rows xs)
 |[],pre,B,h=>by have:=List.eq_nil_of_length_eq_zero h;subst this;rfl|x::xs,pre,s::B,h=>by simp only[length_cons,List.range'_succ,map_cons,List.zip_cons_cons,eY,jg,fH,pN];have:=zH xs (pre++[cells x]) B Zd;simp only[ζi,length_cons,length_nil]at this;have e:(pre++s::B).set pre.length (cells x)=pre++[cells x]++B:=Zc;rw[e,this];simp[rows]
def U_[bB α](n:Nat)(dr:Zl)(fr:Zv)(q:Zx)(fs':Z3)(st:St)(xs:aZ α){u a ln:Nat}{zero:Zu}{ix:Zv}{m:a_ β}(b:q=⟨some u,gd,now,.a (.buildSl a ln zero ix),az,dd,[]⟩::l)
 (D:st.new u=true)(B:(gR S c n fo fs st0,wanted st.g gd,bZ S.N st.g az,a,ln,ix)=(some (.ops dr fr q,fs',st),some true,some ((xs.map enc).map .v),bB.size α,xs.length,range' 0 xs.length))
 (h:Le m (r_ S c Q dr fr (some u) (.a (.buildSl a ln zero ix)) l fs' dd {st with g:=bR st.g u (.own u),m:=bR st.m u (cB (.row xs))})):Le m (rn S c Q fo fs st0):=by
 simp only[ζc]at B;have⟨d,t,w,z,C,G⟩:=B;subst z C G;refine qi d b t ?_ h;rw[BW,w];simp only[ζb,D,oW,oM,List.length_range',length_map];have:=zH xs [] (replicate xs.length zero) Zc
 simp at this;rw[this];rfl
def UR[bB α](n:Nat)(dr:Zl)(fr:Zv)(q:Zx)(fs':Z3)(st:St)(x:α)(vs:Zu){z:Zu}{pl:aZ (Nat×Nat)}{m:a_ β}(a:q=⟨d,gd,now,.p (.build z pl),az,dd,[]⟩::l)
 (b:jZ z pl vs=some (cells x))(D:bB.agg α=true)
 (B:(gR S c n fo fs st0,wanted st.g gd,bZ S.N st.g az)=(some (.ops dr fr q,fs',st),some true,some (vs.map .v)))
 (h:Le m (r_ S c Q dr fr d (.p (.build z pl)) l fs' dd (dh st d (cv x)))):Le m (rn S c Q fo fs st0):=by
 simp at B;refine qi B.1 a B.2.1 (Da B.2.2 rfl ?_) h;unfold jP;rw[oM];simp only[M_,b,map_some];show some (SV.v (.agg (cells x)))=some (.v (enc x));rw[Ag D]
section
variable[bB α]
def UO(n:Nat)(dr:Zl)(fr:Zv)(q:Zx)(fs':Z3)(st:St)(D G:Zl)(J:Zu){g:Nat}{s:Sl α}{a b:Z6}{f:Sl α->a_ γ}(j:q=⟨d,gd,now,.p (.slice g D G),az,dd,[]⟩::l)
 (B:(gR S c n fo fs st0,wanted st.g gd,bZ S.N st.g az,kV D G J,g)=(some (.ops dr fr q,fs',st),some true,some (.v (b7 s)::J.map .v),some (a,b),bB.size α))
 (h:∀x,fQ s a b=some x->Le ((f x).bind e) (r_ S c Q dr fr d (.p (.slice g D G)) l fs' dd (dh st d (.v (b7 x))))):Le (((fQ s a b).bind f).bind e) (rn S c Q fo fs st0):=by
 simp at B;refine Dh B.1 j B.2.1 (Le.of_eq ?_) h;have t:=B.2.2.1;unfold fq lN;simp[wanted,gj,t];have i:jP S.N st.m (.slice g D G) ((b7 s::J).map .v)=(fQ s a b).bind λx=>some (.v (b7 x)):=by unfold jP;rw[oM];simp[bn,B.2.2.2.1,Jh s a b g B.2.2.2.2];cases fQ s a b<;>rfl
 simp at i⊢;rw[i];cases fQ s a b<;>rfl
def nN(s:Sl α)(B D:Z6):a_ (Sl α):=
 match s with
 |.nil|.emp=>none|.row x|.part x=>(dO x.length B D).map λ(l,h)=>.part ((x.take h).drop l)
def TQ(n:Nat)(fr:Zv)(q:Zx)(fs':Z3)(st:St)(D G:Zl)(u:Nat)(J:Zu){t d:Nat}{s:Sl α}{a b:Z6}{f:Sl α->a_ γ}(i:q=⟨some t,gd,now,.p (.slice d D G),az,dd,[]⟩::l)
 (O:St.new {st with m:=dZ u st.m} t=true)(B:(gR S c n fo fs st0,wanted st.g gd,bZ S.N st.g az,kV D G J,bl st.m u,d)=(some (.ops false fr q,fs',st),some true,some (.own u::J.map .v),some (a,b),some (cB s),bB.size α))
 (h:∀x,nN s a b=some x->Le ((f x).bind e) (r_ S c Q false fr (some t) (.p (.slice d D G)) l fs' dd {st with g:=bR st.g t (.own t),m:=bR (dZ u st.m) t (cB x)})):Le (((nN s a b).bind f).bind e) (rn S c Q fo fs st0):=by
 simp at B;refine Dh B.1 i B.2.1 (Le.of_eq ?_) h;have⟨_,_,z,w,C,I⟩:=B;subst I;unfold fq lN;simp[wanted,gj,z,yq,oM,C,w]
 cases s with
 |nil=>simp[nN,cB,Sl.k,cG]|emp=>simp[nN,cB,Sl.k,cG]|row x=>
  simp[cB,Sl.k,Sl.l,cG,nN,ga,w]
  cases dO x.length a b with
  |none=>rfl|some r=>simp[O,dh,rows,map_drop]
 |part x=>
  simp[cB,Sl.k,Sl.l,cG,nN,ga,w]
  cases dO x.length a b with
  |none=>rfl|some r=>simp[O,dh,rows,map_drop]
end
end
structure cu(n:Nat)(α:Type)where
 l:List α
 len:l.length=n
def Ox{α:Type}[bB α](l:aZ α):(l.map (cells (α:=α))).flatten.length=l.length*bB.size α:=by induction l with|nil=>simp|cons a l t=>simp[t,fH,add_mul,Nat.add_comm]
def LM{α:Type}[bB α](l:aZ α):V.cE (l.map (cells (α:=α))).flatten=true:=by induction l with|nil=>rfl|cons a l t=>have h:∀(x y:Zu),V.cE x=true->V.cE y=true->V.cE (x++y)=true:=(by intro x;induction x with|nil=>grind|cons b x u=>intro y c w;simp[V.cE]at c⊢;grind);exact h _ _ (bB.good a) t
instance{n:Nat}{α:Type}[bB α]:bB (cu n α)where
 cells a:=(a.l.map cells).flatten
 agg:=true
 size:=n*bB.size α
 len a:=by rw[Ox,a.len]
 good a:=LM a.l
 one a:=by have:∀l:aZ α,(l.map (cells (α:=α))).flatten.all V.one=true:=(by intro l;induction l with|nil=>rfl|cons a l t=>simp only[map_cons,flatten_cons,List.all_append,t,pN,Bool.and_self]);exact this a.l
 plain h:=by cases h
def cu.KS(n:Nat){α:Type}(z:α):cu n α:=⟨replicate n z,Zc⟩
def cu.at{n:Nat}{α:Type}(a:cu n α)(i:Int):a_ α:=if 0<=i then a.l[i.toNat]?else none
def cu.set{n:Nat}{α:Type}(a:cu n α)(i:Int)(x:α):cu n α:=⟨a.l.set i.toNat x,by simp[a.len]⟩
def pa{n:Nat}{α:Type}[bB α](a:cu n α)(i:Int):Zu:=(cells a).drop (i.toNat*bB.size α)
def cu.s6{n:Nat}{α:Type}{a:cu n α}{i:Int}{x:α}(h:a.at i=some x):0<=i/\i.toNat<n/\a.l[i.toNat]?=some x:=by
 unfold cu.at at h;split at h;next t=>refine⟨t,?_,h⟩;have:=(ζe.1 h).1;rw[<-a.len];simp_all
 simp_all
def D6{α:Type}[bB α]:∀(l:aZ α)(k:Nat),((l.map (cells (α:=α))).flatten).drop (k*bB.size α)=((l.drop k).map (cells (α:=α))).flatten
 |[],k=>Zc|a::l,0=>Zc|a::l,k+1=>by have h:=fH a;rw[map_cons,flatten_cons,List.drop_succ_cons,<-D6 l k,add_mul,one_mul,Nat.add_comm,<-h,List.drop_length_add_append]
def Ad{n:Nat}{α:Type}[bB α]{a:cu n α}{i:Int}{x:α}(h:a.at i=some x):∃r,pa a i=cells x++r:=by have⟨b,z,u⟩:=cu.s6 h;have⟨t,w⟩:=ζe.1 u;refine⟨((a.l.drop (i.toNat+1)).map cells).flatten,?_⟩;show((a.l.map (cells)).flatten).drop (i.toNat*bB.size α)=_;rw[D6,List.drop_eq_getElem_cons t,map_cons,flatten_cons,w]
section
variable{S:Sys}{c:b9}{β γ δ α:Type}{Q:Out×St->a_ β}{e:γ->a_ β}{fo:Fo}{fs:Z3}{st0:St}{l:Zx}{d:a_ Nat}{gd:a_ (Nat×Zl)}{now:Zl}{az:Z4}{dd:Zv}
section
variable{N:Nat}[bB α]
def TP(n:Nat)(dr:Zl)(fr:Zv)(q:Zx)(fs':Z3)(st:St)(k:Zs){ln b:Nat}{a:cu N α}{i:Int}{f:α->a_ γ}(j:q=⟨d,gd,now,.p (.idxA ln b),az,dd,[]⟩::l)
 (B:(gR S c n fo fs st0,wanted st.g gd,bZ S.N st.g az,b,ln)=(some (.ops dr fr q,fs',st),some true,some [cp a,.v (.int k i)],bB.size α,N))
 (h:∀x,a.at i=some x->Le ((f x).bind e) (r_ S c Q dr fr d (.p (.idxA ln b)) l fs' dd (dh st d (.v (.fptr (pa a i)))))):Le (((a.at i).bind f).bind e) (rn S c Q fo fs st0):=by
 simp at B;have⟨m,u,w,z,C⟩:=B;subst z C;refine Dh m j u ?_ h;intro r g;have⟨x,D,g⟩:=ζg.1 g;have⟨g1,g2,_⟩:=cu.s6 D;rw[Da w rfl ?_]
 .omega
 rw[sL];simp[bn,vF];have t:i.toNat*bB.size α<=(cells a).length:=by rw[fH];exact Nat.mul_le_mul_right _ (Nat.le_of_lt g2)
 rw[if_pos ⟨g1,Za⟩,if_pos t]
 rfl
def UZ(n:Nat)(dr:Zl)(fr:Zv)(q:Zx)(fs':Z3)(st:St)(a:cu N α)(i:Int)(o:Nat)(x:α)(D:a.at i=some x){k:Nat}{m:a_ β}(b:q=⟨d,gd,now,.p (.fieldAddr k),az,dd,[]⟩::l)
 (B:(gR S c n fo fs st0,wanted st.g gd,bZ S.N st.g az,ble (o+k) (bB.size α))=(some (.ops dr fr q,fs',st),some true,some [.v (.fptr ((pa a i).drop o))],true))
 (h:Le m (r_ S c Q dr fr d (.p (.fieldAddr k)) l fs' dd (dh st d (.v (.fptr ((pa a i).drop (o+k))))))):Le m (rn S c Q fo fs st0):=by
 simp only[ζc]at B;have⟨e,t,u,w⟩:=B;refine qi e b t (Da u rfl ?_) h;have z:=Nat.le_of_ble_eq_true w;have⟨r,f⟩:=Ad D;have C:(pa a i).length>=bB.size α:=by rw[f,ζi,fH];omega
 rw[Gt,Ff,if_pos Zd,drop_drop]
 rfl
def Ue(n:Nat)(dr:Zl)(fr:Zv)(q:Zx)(fs':Z3)(st:St)(a:cu N α)(i:Int)(o:Nat)(x:α)(G:a.at i=some x){b:Nat}{ag:Zl}{v:V}(k:(cut (cells x) o b).bind (mk ag)=some v)(B:V){m:a_ β}(f:q=⟨d,gd,now,.r (.load b ag),az,dd,[]⟩::l)
 (D:(gR S c n fo fs st0,wanted st.g gd,bZ S.N st.g az,v)=(some (.ops dr fr q,fs',st),some true,some [.v (.fptr ((pa a i).drop o))],B))
 (h:Le m (r_ S c Q dr fr d (.r (.load b ag)) l fs' dd (dh st d (.v B)))):Le m (rn S c Q fo fs st0):=by
 simp at D;obtain⟨g,u,z,rfl⟩:=D;refine qi g f u ?_ h;rw[EV,z];have e:eZ fr [SV.v (.fptr ((pa a i).drop o))]=true:=rfl;simp[e,Lf];have⟨r,j⟩:=Ad G;rw[j];have p:cut ((cells x++r).drop o) 0 b=cut (cells x) o b:=by cases t:cut (cells x) o b with|none=>grind|some w=>unfold cut at t⊢;dsimp only at t⊢;split at t;have e1:(List.drop 0 (List.drop o (cells x++r))).take b=((cells x).drop o).take b:=(by have C:b=0\/o<=(cells x).length:=(by grind);grind);grind;grind
 cases t:cut (cells x) o b with
 |none=>grind|some w=>grind
def RY(n:Nat)(dr:Zl)(fr:Zv)(q:Zx)(fs':Z3)(st:St)(cs:Zw){u a:Nat}{zero:Zu}{m:a_ β}(b:q=⟨some u,gd,now,.a (.alloc a zero),az,dd,[]⟩::l)
 (D:st.new u=true)(B:(gR S c n fo fs st0,wanted st.g gd,bZ S.N st.g az,zero.map SV.v)=(some (.ops dr fr q,fs',st),some true,some [],cs))
 (h:Le m (r_ S c Q dr fr (some u) (.a (.alloc a zero)) l fs' dd {st with g:=bR st.g u (.ptr u 0),m:=bR st.m u (.box cs)})):Le m (rn S c Q fo fs st0):=by
 simp at B;have⟨d,t,w,z⟩:=B;subst z;refine qi d b t ?_ h;rw[BW,w];simp[D,oW]
def si(d:Nat)(l:Zu):SV.dB d (l.map .v)=false:=by induction l with|nil=>rfl|cons a l t=>simp[SV.dB,SV.cQ,t]
def sC{α:Type}[bB α](d:Nat)(x:α):bK.cQ d (bx x)=false:=si d (cells x)
def TN(n:Nat)(dr:Zl)(fr:Zv)(q:Zx)(fs':Z3)(st:St)(k:Zs)(u:Nat){ln b:Nat}{a:cu N α}{i:Int}{f:α->a_ γ}(j:q=⟨d,gd,now,.p (.idxA ln b),az,dd,[]⟩::l)
 (B:(gR S c n fo fs st0,wanted st.g gd,bZ S.N st.g az,b,ln,bl st.m u)=(some (.ops dr fr q,fs',st),some true,some [.ptr u 0,.v (.int k i)],bB.size α,N,some (bx a)))
 (h:∀x,a.at i=some x->Le ((f x).bind e) (r_ S c Q dr fr d (.p (.idxA ln b)) l fs' dd (dh st d (.ptr u (i.toNat*bB.size α+0))))):Le (((a.at i).bind f).bind e) (rn S c Q fo fs st0):=by
 simp at B;have⟨m,t,w,D,G,z⟩:=B;refine Dh m j t ?_ h;intro r g;have⟨x,C,g⟩:=ζg.1 g;have⟨g1,g2,_⟩:=cu.s6 C;rw[Da w rfl ?_]
 .omega
 simp[jP,dy,Ao,z]
 grind
def Oa{a:cu N α}{i:Int}{o:Nat}{x:α}(B:a.at i=some x){b:Nat}{ag:Zl}{v:V}(d:(cut (cells x) o b).bind (mk ag)=some v):ue b ag ((((cells a).map SV.v).drop (i.toNat*bB.size α+o)).take b)=some (.v v):=by
 have⟨r,e⟩:=Ad B;have e1:(((cells a).map SV.v).drop (i.toNat*bB.size α+o)).take b=(((cells x).drop o).take b).map SV.v:=by have t:((cells x).drop o).take b=((cells x++r).drop o).take b:=(by cases c:cut (cells x) o b with|none=>grind|some w=>unfold cut at c;dsimp only at c;split at c;have z:b=0\/o<=(cells x).length:=(by grind);grind;simp_all);rw[t,<-e,pa,drop_drop,map_take,map_drop]
 rw[e1];unfold ue;cases c:cut (cells x) o b with|none=>grind|some w=>rw[c]at d;unfold cut at c;dsimp only at c;split at c;rename_i u;cases c;simp only[length_map,u];unfold mk at d;(cases ag with|true=>simp only[if_true]at d⊢;cases d;rw[oM]|false=>grind);simp_all
def T5(n:Nat)(dr:Zl)(fr:Zv)(q:Zx)(fs':Z3)(st:St)(u:Nat)(a:cu N α)(i:Int)(o:Nat)(x:α)(G:a.at i=some x){e:Nat}{ag:Zl}{v:V}(f:(cut (cells x) o e).bind (mk ag)=some v)(B:V){m:a_ β}(g:q=⟨d,gd,now,.r (.load e ag),az,dd,[]⟩::l)
 (D:(gR S c n fo fs st0,wanted st.g gd,bZ S.N st.g az,v,bl st.m u,(!dr||now||eZ fr [.ptr u 0]))=(some (.ops dr fr q,fs',st),some true,some [.ptr u (i.toNat*bB.size α+o)],B,some (bx a),true))
 (h:Le m (r_ S c Q dr fr d (.r (.load e ag)) l fs' dd (dh st d (.v B)))):Le m (rn S c Q fo fs st0):=by
 simp only[ζc]at D;obtain⟨j,t,w,rfl,z,C⟩:=D;refine qi j g t ?_ h;rw[EV,w];have b:(!dr||now||eZ fr [SV.ptr u (i.toNat*bB.size α+o)])=true:=C;simp only[ζb,b,UY,z,Lk];rw[Oa G f];rfl
def K0{N:Nat}(a:cu N α)(i:Int)(y:α)(h:i.toNat<N):cells (a.set i y)=(cells a).take (i.toNat*bB.size α)++cells y++(cells a).drop ((i.toNat+1)*bB.size α):=by
 have key:∀(l:aZ α)(k:Nat),k<l.length->((l.set k y).map (cells)).flatten=(l.map (cells)).flatten.take (k*bB.size α)++cells y++(l.map (cells)).flatten.drop ((k+1)*bB.size α):=by intro l;induction l with|nil=>grind|cons b l t=>intro k h;have u:=fH b;cases k with|zero=>grind|succ k=>simp only[map_cons,flatten_cons];have e1:(k+1)*bB.size α=(cells b).length+k*bB.size α:=Zd;have e2:(k+1+1)*bB.size α=(cells b).length+(k+1)*bB.size α:=Zd;rw[e2,List.drop_length_add_append];grind
 exact key a.l i.toNat (by rw[a.len];omega)
def Tt(n:Nat)(dr:Zl)(fr:Zv)(q:Zx)(fs':Z3)(st:St)(u:Nat)(a:cu N α)(i:Int)(o:Nat)(x:α)(B:a.at i=some x)(y:α)(v:V){b:Nat}(G:cells y=(cells x).take o++v.cells++(cells x).drop (o+b)){m:a_ β}(f:q=⟨d,gd,now,.l (.store b),az,dd,[]⟩::l)
 (D:(gR S c n fo fs st0,wanted st.g gd,bZ S.N st.g az,bl st.m u,(!dr||now),v.cells.length,v.cells.all V.one,ble (o+b) (bB.size α))=(some (.ops dr fr q,fs',st),some true,some [.ptr u (i.toNat*bB.size α+o),.v v],some (bx a),true,b,true,true))
 (h:Le m (r_ S c Q dr fr d (.l (.store b)) l fs' dd (dh {st with m:=bR st.m u (bx (a.set i y))} d (.v .undef)))):Le m (rn S c Q fo fs st0):=by
 simp only[ζc]at D;have⟨g,z,C,I,J,L,O,T⟩:=D;refine qi g f z ?_ h;rw[vH,C];have W:=Nat.le_of_ble_eq_true T;have⟨g1,g2,g3⟩:=cu.s6 B;have U:i.toNat*bB.size α+o+b<=((cells a).map SV.v).length:=by rw[length_map,fH];have:(i.toNat+1)*bB.size α<=N*bB.size α:=Nat.mul_le_mul_right _ g2;rw[add_mul,one_mul]at this;show _<=N*bB.size α;omega
 simp only[ζb,J,if_true,mh,I,putCells,L,O,U,and_self,map_some];have⟨r,j⟩:=Ad B;have e:((cells a).map SV.v).take (i.toNat*bB.size α+o)++v.cells.map .v++((cells a).map SV.v).drop (i.toNat*bB.size α+o+b)=(cells (a.set i y)).map SV.v:=by rw[K0 a i y g2,G];have t:(cells a).drop (i.toNat*bB.size α)=cells x++r:=j;have w:=fH x;have e1:(cells a).take (i.toNat*bB.size α+o)=(cells a).take (i.toNat*bB.size α)++(cells x).take o:=(by rw[List.take_add,t,List.take_append_of_le_length Za]);have e2:(cells a).drop (i.toNat*bB.size α+o+b)=(cells x).drop (o+b)++(cells a).drop ((i.toNat+1)*bB.size α):=(by have e3:(cells a).drop ((i.toNat+1)*bB.size α)=r:=(by rw[add_mul,one_mul,<-drop_drop,t,<-w,List.drop_left]);rw[e3,Nat.add_assoc,<-drop_drop,t,List.drop_append_of_le_length Za]);rw[<-map_take,<-map_drop,e1,e2];grind
 rw[e]
end
def Rc{α:Type}[bB α]{m:Tb bK}{d:Nat}{x:α}{vs:Zu}(h:bl m d=some (bx x)):nL (iX m 8) (.ptr d 0::vs.map .v)=some (.fptr (cells x)::vs):=by
 have a:iX m 8 (.ptr d 0)=some (.fptr (cells x)):=by
  show(match bl m d with
   |some (.box u)=>match nL (iX m 7) u with
    |some t=>if 0<=t.length then some (V.fptr (t.drop 0))else none|none=>none
   |_=>none)=_
  rw[h];simp[Gi]
 simp[nL,a,Gi]
def Tw(n:Nat){fo:Fo}{fs fs':Z3}{st0 st:St}{rs:aZ RV}{e:γ->a_ Zu}{r:γ}(svs:Zw){ys:Zu}(B:nL (iX st.m 8) svs=some ys)(h:(gR S c n fo fs st0,kD st rs)=(some (.rt,fs',st),some svs))(D:e r=some ys):
 Le ((some r).bind e) (rn S c (qH rs) fo fs st0):=by
 simp at h;rw[nR h.1];refine Le.of_eq ?_;simp[rn,qH,h.2,B]
 grind
abbrev Mo(κ ν:Type):=aZ (κ×ν)
class Key(κ:Type)[bB κ][DecidableEq κ]where
 kk:wv
 ok:∀a:κ,oT kk (enc a)=true
 eq:∀a b:κ,vv (enc a) (enc b)=some (decide (a=b))
instance:Key Int where
 kk:=.int .i64
 ok _:=rfl
 eq a b:=by show some (a==b)=some (decide (a=b));rw[show(a==b)=decide (a=b)from Bool.eq_iff_iff.2 Zc]
instance:Key bf where
 kk:=.ints 2
 ok _:=rfl
 eq a b:=by have⟨p,i⟩:=a;have⟨q,j⟩:=b;simp only[vv,kf,g_,SO,map_some,length_cons,if_true,ζa];rw[Bool.eq_iff_iff];simp
section
variable{κ ν:Type}[bB κ][DecidableEq κ][Key κ][bB ν]
def sX(k:κ):Mo κ ν->a_ ν
 |[]=>none|(a,v)::r=>if k=a then some v else sX k r
def Ds(m:Mo κ ν)(k:κ)(z:ν):ν:=(sX k m).getD z
def qB(m:Mo κ ν)(k:κ)(v:ν):Mo κ ν:=
 match m with
 |[]=>[(k,v)]|(a,w)::r=>if k=a then(k,v)::r else(a,w)::qB r k v
def nq(m:Mo κ ν):aZ (V×V):=m.map λx=>(enc x.1,enc x.2)
def u6(m:Mo κ ν):bK:=.mp (nq m)
def It(k:κ):∀(m:Mo κ ν)(i:Nat),(iy (enc k) (nq m) i).map (Option.map (·.2))=some ((sX k m).map enc)
 |[],i=>rfl|(a,v)::r,i=>by simp only[nq,map_cons,iy,Key.eq,sX];by_cases h:k=a;grind;simp only[h];exact It k r (i+1)
def OL(k:κ)(v:ν)(m:Mo κ ν):oG (enc k) (enc v) (nq m)=some (nq (qB m k v)):=by
 unfold oG;have key:∀(m:Mo κ ν)(pre:aZ (V×V))(i:Nat),pre.length=i->(match iy (enc k) (nq m) i with
  |some (some (j,_))=>some ((pre++nq m).set j (enc k,enc v))|some none=>some (pre++nq m++[(enc k,enc v)])|none=>none)=some (pre++nq (qB m k v)):=by
  intro m
  induction m with
  |nil=>simp[nq,iy,qB]|cons x r t=>
   have⟨a,w⟩:=x;intro pre i h;rw[show nq ((a,w)::r)=(enc a,enc w)::nq r from rfl];simp[iy,Key.eq,qB]
   by_cases b:k=a
   .subst b h;simp[nq]
   simp[b];rw[show nq ((a,w)::qB r k v)=(enc a,enc w)::nq (qB r k v)from rfl];have:=t (pre++[(enc a,enc w)]) (i+1) (by simp[h])
   grind
 have:=key m [] 0 rfl;grind
def TV(n:Nat)(dr:Zl)(fr:Zv)(q:Zx)(fs':Z3)(st:St)(u:Nat)(mp:Mo κ ν)(k:κ)(z:ν){kk:wv}{B:V}{m:a_ β}(a:q=⟨d,gd,now,.r (.lookup kk B false),az,dd,[]⟩::l)
 (D:(gR S c n fo fs st0,wanted st.g gd,bZ S.N st.g az,bl st.m u,(!dr||now||eZ fr [.mp u,cv k]),B,kk)=(some (.ops dr fr q,fs',st),some true,some [.mp u,cv k],some (u6 mp),true,enc z,Key.kk κ))
 (h:Le m (r_ S c Q dr fr d (.r (.lookup kk B false)) l fs' dd (dh st d (cv (Ds mp k z))))):Le m (rn S c Q fo fs st0):=by
 simp only[ζc]at D;have⟨b,t,C,G,I,J,L⟩:=D;subst J L;refine qi b a t ?_ h;rw[EV,C];simp only[ζb,I,ow,G,u6,Key.ok];have:=It k mp 0;simp[Ds]
 cases O:iy (enc k) (nq mp) 0 with
 |none=>grind|some r=>
  rw[O]at this
  cases r with
  |none=>
   cases T:sX k mp with
   |none=>rfl|some w=>grind
  |some w=>
   cases T:sX k mp with
   |none=>grind|some U=>grind
def UK(n:Nat)(dr:Zl)(fr:Zv)(q:Zx)(fs':Z3)(st:St)(u:Nat)(mp:Mo κ ν)(k:κ)(v:ν){kk:wv}{m:a_ β}(a:q=⟨d,gd,now,.l (.mapUp kk),az,dd,[]⟩::l)
 (B:(gR S c n fo fs st0,wanted st.g gd,bZ S.N st.g az,bl st.m u,(!dr||now),kk)=(some (.ops dr fr q,fs',st),some true,some [.mp u,cv k,cv v],some (u6 mp),true,Key.kk κ))
 (h:Le m (r_ S c Q dr fr d (.l (.mapUp kk)) l fs' dd (dh {st with m:=bR st.m u (u6 (qB mp k v))} d (.v .undef)))):Le m (rn S c Q fo fs st0):=by
 simp only[ζc]at B;have⟨b,t,w,z,C,D⟩:=B;subst D;refine qi b a t ?_ h;rw[vH,w];simp[C,mh,z,u6,Key.ok,OL]
end
end
instance{n:Nat}:OfNat Arg n:=⟨.s n⟩
abbrev bI(o:BinOp):K:=.p (.bin (some .int) none o)
abbrev ix(n:Nat):K:=.p (.idxS n)
abbrev ld(n:Nat):K:=.r (.load n false)
abbrev lD(n:Nat):K:=.r (.load n true)
abbrev fa(n:Nat):K:=.p (.fieldAddr n)
abbrev ln:K:=.p .lenSl
abbrev su(n:Nat):K:=.l (.store n)
abbrev Iv(n:Nat)(x:Int):Nat×SV:=(n,iv x)
abbrev Bv(n:Nat)(x:Bool):Nat×SV:=(n,bv x)
abbrev Cv{α:Type}[bB α](n:Nat)(x:α):Nat×SV:=(n,cv x)
abbrev Kv{α:Type}[bB α](n:Nat)(x:α):Nat×SV:=(n,cp x)
abbrev Pv(n:Nat):Nat×SV:=(n,.ptr n 0)
abbrev Ov(n:Nat):Nat×SV:=(n,.own (2000+n))
abbrev Xb{α:Type}[bB α](n:Nat)(x:α):Nat×bK:=(n,bx x)
abbrev Lb{α:Type}[bB α](n:Nat)(x:Sl α):Nat×bK:=(n,cB x)
abbrev on(d:Nat)(k:K)(az:aZ Arg)(dd:aZ Nat):RO:=⟨some d,none,true,k,az,dd,[]⟩
abbrev oz(k:K)(az:aZ Arg)(dd:aZ Nat):RO:=⟨none,none,false,k,az,dd,[]⟩
abbrev oy(k:K)(az:aZ Arg)(dd:aZ Nat):RO:=⟨none,none,true,k,az,dd,[]⟩
attribute [simp] PC Rf Q5
def kG.yf{S:Sys}{T:oR}{f:Zk}{b:Zl}(B:T f=none)(a:S.E.keep f=false)(D:S.yf f []=some (.bool b)):
 kG S (c7 S T) f (λ_:Unit=>[]) (λr:Zl=>[.bool r]) (λ_=>some b) true where
 k:=a
 h _:=by have h:=DE (az:=[]) B a D;intro r c;cases c;unfold mE;rw[h];exact tq 8 [.bool b]
 s _ _:=rfl
def Wp{α:Type}(m:a_ α)(P:α->Prop):Prop:=∃a,m=some a/\P a
section
variable{α β:Type}{P Q:α->Prop}
def bg(a:α):Wp (some a) P↔P a:=⟨λh=>by have⟨b,e,p⟩:=h;cases e;exact p,λp=>⟨a,rfl,p⟩⟩
def QT:Wp (none:a_ α) P↔False:=⟨λh=>(by have⟨b,e,p⟩:=h;cases e),λh=>False.elim h⟩
def cR{m:a_ β}{k:β->a_ α}:Wp (m.bind k) P↔Wp m λb=>Wp (k b) P:=by cases m with|none=>simp only[Option.bind_none,QT]|some b=>simp only[ζb,bg]
def bU{t:Zl}{a b:a_ α}:Wp (bq t a b) P↔(t=true->Wp a P)/\(t=false->Wp b P):=by cases t<;>simp[bq]
def Wp.mono{m:a_ α}(h:Wp m P)(B:∀a,P a->Q a):Wp m Q:=let⟨a,e,p⟩:=h;⟨a,e,B a p⟩
def Wp.and{m:a_ α}(h:Wp m P)(B:Wp m Q):Wp m λa=>P a/\Q a:=by have⟨a,e,p⟩:=h;have⟨b,e2,q⟩:=B;rw[e]at e2;cases e2;exact⟨a,e,p,q⟩
def Wp.eq{m:a_ α}{a:α}(h:Wp m λx=>x=a):m=some a:=by obtain⟨b,e,rfl⟩:=h;exact e
end
section
variable{σ ε ρ:Type}
def gI(step:σ->a_ (Fw σ ε ρ))(s:σ):bT step s=(step s).bind λw=>match w with
 |.n B=>bT step B|.x e=>some (.x e)|.r b=>some (.r b):=by
 have d:∀r,bT step s=some r->((step s).bind λw=>match w with
  |.n B=>bT step B|.x e=>some (.x e)|.r b=>some (.r b))=some r:=by
  intro r h;have⟨k,a⟩:=nh.1 h
  cases k with
  |zero=>simp[jd]at a|succ k=>
   simp only[jd]at a
   cases t:step s with
   |none=>rw[t]at a;cases a|some w=>
    rw[t]at a
    cases w with
    |n B=>exact nh.2 ⟨k,a⟩|x e=>exact a|r b=>exact a
 cases u:bT step s with
 |some r=>exact(d r u).symm|none=>
  cases c:((step s).bind λw=>match w with
  |.n B=>bT step B|.x e=>some (.x e)|.r b=>some (.r b))with
  |none=>rfl|some r=>
   exfalso
   cases t:step s with
   |none=>rw[t]at c;cases c|some w=>
    rw[t]at c;simp only[ζb]at c;have:bT step s=some r:=by cases w with|n B=>have⟨k,a⟩:=nh.1 c;exact nh.2 ⟨k+1,by simp only[jd,t];exact a⟩|x e=>exact nh.2 ⟨1,by simp only[jd,t];exact c⟩|r b=>exact nh.2 ⟨1,by simp only[jd,t];exact c⟩
    rw[u]at this;cases this
def OS(I:σ->Prop)(μ:σ->Nat)(D:ε->Prop)(G:ρ->Prop)(s:σ):Fw σ ε ρ->Prop
 |.n B=>I B/\μ B<μ s|.x e=>D e|.r b=>G b
def Uo(B:ε->Prop)(D:ρ->Prop):Fw Empty ε ρ->Prop
 |.x e=>B e|.r b=>D b
def Nh{step:σ->a_ (Fw σ ε ρ)}(I:σ->Prop)(μ:σ->Nat)(B:ε->Prop)(D:ρ->Prop)(h:∀s,I s->Wp (step s) (OS I μ B D s)){s:σ}(G:I s):Wp (bT step s) (Uo B D):=by
 have key:∀n s,μ s<=n->I s->Wp (bT step s) (Uo B D):=by
  intro n
  induction n with
  |zero=>intro s C t;have⟨w,u,a⟩:=h s t;rw[gI,u];cases w with|n z=>exact absurd a.2 Za|x e=>exact⟨_,rfl,a⟩|r b=>exact⟨_,rfl,a⟩
  |succ n J=>intro s C t;have⟨w,u,a⟩:=h s t;rw[gI,u];cases w with|n z=>exact J z (by have:=a.2;omega) a.1|x e=>exact⟨_,rfl,a⟩|r b=>exact⟨_,rfl,a⟩
 exact key (μ s) s (Nat.le_refl _) G
def ei{γ:Type}{step:σ->a_ (Fw σ ε ρ)}{B:ε->a_ γ}{fr:ρ->a_ γ}{P:γ->Prop}(I:σ->Prop)(μ:σ->Nat){s:σ}(D:I s)
 (h:∀s,I s->Wp (step s) (OS I μ (λe=>Wp (B e) P) (λb=>Wp (fr b) P) s)):Wp ((bT step s).bind (Fw.elim B fr)) P:=by
 rw[cR];refine(Nh I μ _ _ h D).mono ?_;intro w t
 cases w with
 |n a=>cases a|x e=>exact t|r b=>exact t
end
def KM{β γ δ:Type}{e:γ->a_ β}{m:a_ δ}{f:δ->a_ γ}{L:a_ β}(h:∀x,m=some x->Le ((f x).bind e) L):Le ((m.bind f).bind e) L:=by cases m with|none=>exact Le.none _|some x=>exact h x rfl
section
variable{S:Sys}{c:b9}{β:Type}{Q:Out×St->a_ β}{fo:Fo}{fs:Z3}{st0:St}{l:Zx}{d:a_ Nat}{now:Zl}{az:Z4}{dd:Zv}
def Le.get{β:Type}{r:β}{L:a_ β}(h:Le (some r) L):L=some r:=h r rfl
def Kt{n:Nat}{fo fo':Fo}{fs fs':Z3}{st:St}(A:Zl->St){t:Zl}{m:a_ β}(B:t=true)(h:gR S c n fo fs st=some (fo',fs',A t))(D:Le m (rn S c Q fo' fs' (A true))):Le m (rn S c Q fo fs st):=by rw[nR h,B];exact D
def Kf{n:Nat}{fo fo':Fo}{fs fs':Z3}{st:St}(A:Zl->St){t:Zl}{m:a_ β}(B:t=false)(h:gR S c n fo fs st=some (fo',fs',A t))(D:Le m (rn S c Q fo' fs' (A false))):Le m (rn S c Q fo fs st):=by rw[nR h,B];exact D
def NH{α:Type}[bB α]{s:Sl α}{i:Int}{x:α}{r:β}{L:a_ β}(B:idx s i=some x)(h:Le (((idx s i).bind λ_=>some r).bind some) L):Le (some r) L:=by rw[B]at h;exact h
def UF{n:Nat}{q:Zx}{fs':Z3}{st:St}{id:Nat}{vs:Zw}{xs:Zu}{B:Zt}{m:a_ β}
 (D:gR S c n fo fs st0=some (.ops false [] q,fs',st))(a:q=⟨d,none,now,.c,az,dd,[]⟩::l)(G:bZ S.N st.g az=some (.yl id::vs))(J:dy vs=some xs)(O:st.want=xs::B)(U:id=st.yid)
 (h:Le m (rn S c Q (.ops false [] l) fs' (oE dd (dh {st with want:=B} d (.v (.bool (st.more|| !B.isEmpty))))))):Le m (rn S c Q fo fs st0):=by
 refine O2 D a rfl ?_ h;unfold fq;simp only[wanted,gj,G,J,O,U,if_true,and_self,Bool.false_eq_true,if_false]
def Aw(a:RC)(fs:Z3)(st:St):rn S c Q (.rc (.loop a)) fs st=(nK (cI S c a) st).bind (C9 (mg S c Q fs) (lX S c Q fs) (λst=>Q (.ret,st))):=by show jX S c Q (.loop a) fs st=_;unfold jX;rw[BS];rfl
def QM{f:St->a_ (Out×St)}{st st':St}(h:f st=some (.norm,st')):nK f st=nK f st':=by
 have key:∀r,nK f st=some r↔nK f st'=some r:=λr=>by constructor;intro b;have⟨k,a⟩:=lW.1 b;(cases k with|zero=>simp[iY]at a|succ k=>simp only[iY,h]at a;exact lW.2 ⟨k,a⟩);intro b;have⟨k,a⟩:=lW.1 b;exact lW.2 ⟨k+1,by simp only[iY,h];exact a⟩
 cases t:nK f st with
 |none=>cases u:nK f st' with|none=>rfl|some r=>rw[(key r).2 u]at t;cases t
 |some r=>rw[(key r).1 t]
def Ix{f:St->a_ (Out×St)}{st st':St}{o:Out}(h:f st=some (o,st'))(B:o≠.norm):nK f st=some (o,st'):=by refine lW.2 ⟨1,?_⟩;cases o with|norm=>exact absurd rfl B|exit k=>simp only[iY,h]|ret=>simp only[iY,h]
def Ee{a:RC}{fs:Z3}{st st':St}(h:rn S c some (.rc a) [] st=some (.norm,st')):rn S c Q (.rc (.loop a)) fs st=rn S c Q (.rc (.loop a)) fs st':=by rw[Aw,Aw,QM (by rw[Ai];exact h)]
def DV{a:RC}{fs:Z3}{st st':St}{k:Nat}(h:rn S c some (.rc a) [] st=some (.exit k,st')):rn S c Q (.rc (.loop a)) fs st=rn S c Q (.ex k) fs st':=by rw[Aw,Ix (by rw[Ai];exact h) Zc];rfl
def Eu{a:RC}{fs:Z3}{st st':St}(h:rn S c some (.rc a) [] st=some (.ret,st')):rn S c Q (.rc (.loop a)) fs st=Q (.ret,st'):=by rw[Aw,Ix (by rw[Ai];exact h) Zc];rfl
end
def Qi:Out×St->a_ Unit
 |(.exit _,_)=>none|(_,st)=>if st.want.isEmpty then some ()else none
def Sys.bare(S:Sys):Sys:=⟨S.E,S.N,λ_ _ _=>none,λ_ _=>none,λ_=>none⟩
def mF:b9:=λ_ _ _=>none
def Ci(B rest:Zt)(more:Zl):Prop:=more=true/\B=rest\/more=false/\B≠[]/\∃r,rest=B++r
def N6(S:Sys){f:Zk}{fi:FI}{nm:Zk->a_ Nat}{rf:RF}(G:S.E.ft f=some fi)(U:∀g s,nm g=some s->S.N s=g)(e:xh S.E nm fi rf){a b:Zu}{xs:Zt}(D:a.length+1+b.length<=rf.na)(O:rf.rs=[])
 (h:∀B more,Ci B xs more->∀yid,rn S.bare mF Qi (.rc rf.body) [] ⟨vW 0 (a.map .v++.yl yid::b.map .v),[],[],B,more,yid⟩=some ()):fu S f a b xs:=by
 have k:fu S.bare f a b xs:=QI (S:=S.bare) (c:=mF) (fi:=fi) (nm:=nm) (rf:=rf) (λ_ _ h=>by cases h) (λ_ _ _ _ _ h=>by simp[mF]at h) (λ_ _ _ _ h=>by simp[Sys.bare]at h) G U e D O (λB more u yid=>by
  have d:=h B more u yid;change jX S.bare mF Qi rf.body [] _=some ()at d;rw[pQ]at d;have⟨⟨o,st'⟩,w,t⟩:=ζg.1 d;refine⟨o,st',w,?_,?_,rfl⟩
  .rintro id rfl;simp[Qi]at t
  cases o<;>simp[Qi]at t<;>exact t)
 intro B more u yid J y Z z C H d w t I L;exact k B more u yid J ⟨y.wz,y.yield⟩ Z z C H d w t I L
open Classical in
def w8(P:Zk->Zu->Zu->Zt->Prop)(f:Zk)(a b:Zu):a_ Zt:=if h:∃t,P f a b t then some (Classical.choose h)else none
def Jw{P:Zk->Zu->Zu->Zt->Prop}{f:Zk}{a b:Zu}{xs:Zt}(h:P f a b xs)(d:∀ys,P f a b ys->ys=xs):w8 P f a b=some xs:=by have c:∃xs,P f a b xs:=⟨xs,h⟩;unfold w8;rw[dif_pos c,d _ (choose_spec c)]
def KI{P:Zk->Zu->Zu->Zt->Prop}{f:Zk}{a b:Zu}{xs:Zt}(h:w8 P f a b=some xs):P f a b xs:=by
 unfold w8 at h;split at h;next c=>cases h;exact choose_spec c
 cases h
def SX{E:Env}{nm:Zk->a_ Nat}{f:Zk}{rf:RF}
 (h:((E.ft f).bind λfi=>(bQ ⟨E,nm,fi.ntmps⟩ false fi.body).bind λc=>(fi.results.mapM (Aq E)).bind λrs=>some (c,rs,fi.ntmps))=some (erase rf.body,rf.rs,rf.na)):∃fi,E.ft f=some fi/\xh E nm fi rf:=by
 have⟨fi,a,u⟩:=ζg.1 h;have⟨c,w,z⟩:=ζg.1 u;have⟨rs,B,t⟩:=ζg.1 z;simp only[ζa,ζc]at t;obtain⟨rfl,rfl,C⟩:=t;exact⟨fi,a,w,B,C.symm⟩
def FR.oB{H:bp}{Z Z':Nat->Prop}{x y z:V}(h:FR H Z x z)(k:FR H Z' y z):x=y:=by have⟨n,t⟩:=zk x;have⟨m,u⟩:=zk y;have e1:=h.borrow (max n m) (wS (Nat.le_max_left _ _) t);have e2:=k.borrow (max n m) (wS (Nat.le_max_right _ _) u);rw[e1]at e2;exact Option.some.inj e2
open Classical in
def yK(E:Env)(f:Zk)(az:Zu):a_ V:=if h:∃y,zh E f az y then some (Classical.choose h)else none
def Lr{E:Env}{f:Zk}{az:Zu}{y:V}(h:yK E f az=some y):zh E f az y:=by
 unfold yK at h;split at h;next a=>cases h;exact choose_spec a
 cases h
def zg{E:Env}{f:Zk}{az:Zu}{y:V}(h:zh E f az y):yK E f az=some y:=by have a:∃y,zh E f az y:=⟨y,h⟩;unfold yK;rw[dif_pos a];have⟨n,z,H,Z,u,w,_⟩:=h;have⟨t,D,H',Z',B,C,_⟩:=choose_spec a;have e1:=(l8 E (Nat.le_max_left n t)).go _ _ _ _ u;have e2:=(l8 E (Nat.le_max_right n t)).go _ _ _ _ B;rw[e1]at e2;cases e2;rw[FR.oB C w]
def HT{E:Env}{f:Zk}{az:Zu}{y:V}(B:V.scalar y=true)(h:∃n H',run E n (.fn f) az []=some (y,H')):zh E f az y:=by have⟨n,H',h⟩:=h;exact⟨n,y,H',λ_=>False,h,.same _ (jq B),λ_ h=>h.elim,⟨λ_ _ _ h=>h.elim⟩⟩
end Go.VE
