/- Certificates. -/
import Derived.KernelRfl
import Derived.Test.YtjlclfccbcbibaaGreatDoorN2
set_option linter.all false
noncomputable section
open Classical(choose_spec)
open List(drop_drop flatten_cons length_cons length_map length_nil map_cons map_drop map_take range' replicate)
open Option(map_some)
open Nat(add_mul ble one_mul)
namespace Go.VE
variable[bT]
inductive Sl(α:Type)where
 |nil|emp|row(l:List α)|part(l:List α)
 deriving Inhabited
abbrev Zg:=Sl Int
abbrev Zb:=Sl (Sl Int)
def Sl.l{α:Type}:Sl α->aX α
 |.nil|.emp=>[]|.row l|.part l=>l
def Sl.k{α:Type}:Sl α->Fl
 |.nil=>.nil|.emp=>.emp|.row _=>.row|.part _=>.part
class bt(α:Type)where
 cells:α->List V
 agg:Bool
 size:Nat
 len:∀a,(cells a).length=size
 good:∀a,V.cQ (cells a)=true
 one:∀a,(cells a).all V.one=true
 plain:agg=false->size=1
def cells{α:Type}[bt α](a:α):S':=bt.cells a
def enc{α:Type}[bt α](a:α):V:=if bt.agg α then .agg (cells a)else(cells a).headD .undef
def rows{α:Type}[bt α](l:aX α):T2:=l.map cells
def cq{α:Type}[bt α](s:Sl α):V:=kg s.k (bt.size α) (rows s.l)
instance:bt Int where
 cells n:=[.int .i64 n]
 agg:=false
 size:=1
 len _:=rfl
 good _:=rfl
 one _:=rfl
 plain _:=rfl
instance:bt X' where
 cells b:=[.bool b]
 agg:=false
 size:=1
 len _:=rfl
 good _:=rfl
 one _:=rfl
 plain _:=rfl
instance:bt V' where
 cells s:=[.str s]
 agg:=false
 size:=1
 len _:=rfl
 good _:=rfl
 one _:=rfl
 plain _:=rfl
structure a_ where
 proc:Int
 index:Int
 deriving DecidableEq,Inhabited
instance:bt a_ where
 cells x:=[.int .i64 x.proc,.int .i64 x.index]
 agg:=true
 size:=2
 len _:=rfl
 good _:=rfl
 one _:=rfl
 plain h:=by cases h
@[simp] def aao(n:Int):enc n=.int .i64 n:=rfl
@[simp] def ZV(n:X'):enc n=.bool n:=rfl
@[simp] def aaj(n:V'):enc n=.str n:=rfl
@[simp] def ZF(n:Int):cells n=[.int .i64 n]:=rfl
@[simp] def Zh(n:X'):cells n=[.bool n]:=rfl
@[simp] def ZO(n:V'):cells n=[.str n]:=rfl
@[simp] def ZY(n:a_):cells n=[.int .i64 n.proc,.int .i64 n.index]:=rfl
@[simp] def XJ(n:a_):enc n=.agg [.int .i64 n.proc,.int .i64 n.index]:=rfl
section
variable{α:Type}[bt α]
def h_(l:aX α):(rows l).length=l.length:=by simp[rows]
def idx(s:Sl α)(i:Int):aY α:=if 0<=i then s.l[i.toNat]?else none
def R1{N:Nat->Y'}(s:Sl α)(k:T')(i:Int){n:Nat}(B:n=bt.size α):bN N (.idxS n) [cq s,.int k i]=(idx s i).map λx=>.fptr (cells x):=by subst B;unfold idx cq;simp only[bN,mE];by_cases h:i<0;rw[if_pos h,if_neg Zaa];rfl;rw[if_neg h,if_pos Zaa];cases s<;>simp[Sl.k,Sl.l,kg,rows,Function.comp_def]
def Pg{N:Nat->Y'}(s:Sl α):bN N .lenSl [cq s]=some (.int .i64 s.l.length):=by cases s<;>simp[bN,oP,cq,Sl.k,Sl.l,kg,h_]
end
section
variable{S:Sys}{c:bX}
end
end Go.VE
namespace Go.VE
variable[bT]
section
variable{S:Sys}{c:bX}
def isSlice:v7->X'
 |.slice ..=>true|_=>false
def T7(dr:X')(fr:So)(dst:aY Nat)(now:X')(p:v7)(az:QP)(st:St)(h:isSlice p=false):
 fH S c dr fr ⟨dst,none,now,.p p,az,[],[]⟩ st=(bW S.N st.g az).bind λsvs=>(kG S.N st.m p svs).bind λx=>some (dn st dst x):=by
 unfold fH mH;have u:fV S.N st.g ⟨dst,none,now,.p p,az,[],[]⟩=none:=by unfold fV;grind
 simp[wanted,u]
 cases z:bW S.N st.g az with
 |none=>rfl|some svs=>simp;cases p<;>first|(simp[isSlice]at h;done)|(cases w:kG S.N st.m _ svs<;>simp[w])
def L6(N:Nat->Y')(m:Tb bB)(p:v7)(svs:ST)(xs:S')(h:dy svs=some xs):kG N m p svs=(bN N p xs).bind λx=>some (.v x):=by unfold kG;rw[h];dsimp only;cases bN N p xs<;>rfl
def Ib(dr:X')(fr:So)(dst:aY Nat)(now:X')(q:Mj)(az:QP)(st:St):
 fH S c dr fr ⟨dst,none,now,.r q,az,[],[]⟩ st=(bW S.N st.g az).bind λsvs=>if !dr||now||fD fr svs then(qt st.m q svs).bind λx=>some (dn st dst x)else none:=by
 unfold fH mH;have u:fV S.N st.g ⟨dst,none,now,.r q,az,[],[]⟩=none:=rfl;simp[wanted,u]
 cases w:bW S.N st.g az with
 |none=>rfl|some svs=>
  simp;split
  .cases z:qt st.m q svs<;>simp
  rfl
def EV(dr:X')(fr:So)(d:Nat)(now:X')(q:Qo)(az:QP)(st:St):
 fH S c dr fr ⟨some d,none,now,.a q,az,[],[]⟩ st=(bW S.N st.g az).bind λsvs=>if st.new d then(qV st.m q svs d).bind λr=>some {st with g:=bF st.g d r.2,m:=bF st.m d r.1}else none:=by
 unfold fH mH;have u:fV S.N st.g ⟨some d,none,now,.a q,az,[],[]⟩=none:=rfl;simp[wanted,u]
 cases w:bW S.N st.g az with
 |none=>rfl|some svs=>
  simp;split
  .cases z:qV st.m q svs d<;>simp[dn]
  rfl
def yo(dr:X')(fr:So)(dst:aY Nat)(now:X')(q:L_)(az:QP)(st:St):
 fH S c dr fr ⟨dst,none,now,.l q,az,[],[]⟩ st=(bW S.N st.g az).bind λsvs=>if !dr||now then(nh st dst q svs).bind λr=>some (dn r.2 dst r.1)else none:=by
 unfold fH mH;have u:fV S.N st.g ⟨dst,none,now,.l q,az,[],[]⟩=none:=rfl;simp[wanted,u]
 cases w:bW S.N st.g az with
 |none=>rfl|some svs=>
  simp;split
  .cases z:nh st dst q svs<;>simp
  rfl
def j9:ST->aY (Y'×ST)
 |.clo f a b::vs=>some (f,a++vs++b)|.v (.clo f a b)::vs=>some (f,a.map .v++vs++b.map .v)|_=>none
def sG(dr:X')(fr:So)(dst:aY Nat)(now:X')(az:QP)(st:St)(svs:ST)(f:Y')(args:ST)(B:bW S.N st.g az=some svs)(a:j9 svs=some (f,args)):
 fH S c dr fr ⟨dst,none,now,.c,az,[],[]⟩ st=(eo S c dst dr (!dr||now) (ez st.m fr) f args st).bind λr=>some (dn r.2 dst r.1):=by
 unfold fH mH;unfold j9 at a;split at a
 .obtain⟨rfl,rfl⟩:=a;simp[wanted,fV,B];cases eo S c dst dr _ _ _ _ st<;>simp
 .obtain⟨rfl,rfl⟩:=a;simp[wanted,fV,B];cases eo S c dst dr _ _ _ _ st<;>simp
 grind
def RX{β:Type}(S:Sys)(c:bX)(fr:So)(l:R')(k:St->aY β):St->aY β:=λst=>(n5 S c false fr l st).bind k
def Tl{β:Type}(S:Sys)(c:bX)(fr:So)(l:R')(k:St->aY β):St->aY β:=λst=>(n5 S c true fr l st).bind k
def WO{β:Type}(S:Sys)(c:bX)(fr dd:So)(l:R')(k:St->aY β):St->aY β:=λst=>RX S c fr l k (ql dd st)
def XU{β:Type}(S:Sys)(c:bX)(fr dd:So)(l:R')(k:St->aY β):St->aY β:=λst=>Tl S c fr l k (ql dd st)
@[congr] def YL{β:Type}{fr:So}{l:R'}{k:St->aY β}{st st':St}(h:st=st'):RX S c fr l k st=RX S c fr l k st':=by rw[h]
@[congr] def Y5{β:Type}{fr B:So}{l:R'}{k:St->aY β}{st st':St}(D:fr=B)(h:st=st'):Tl S c fr l k st=Tl S c B l k st':=Zad
@[congr] def YQ{β:Type}{fr dd:So}{l:R'}{k:St->aY β}{st st':St}(h:st=st'):WO S c fr dd l k st=WO S c fr dd l k st':=by rw[h]
@[congr] def Y9{β:Type}{fr B dd:So}{l:R'}{k:St->aY β}{st st':St}(D:fr=B)(h:st=st'):XU S c fr dd l k st=XU S c B dd l k st':=Zad
@[congr] def Zs{dr:X'}{fr:So}{o:RO}{st st':St}(h:st=st'):fH S c dr fr o st=fH S c dr fr o st':=by rw[h]
end
section
variable{S:Sys}{c:bX}(dr:X')(fr:So)(dst:aY Nat)(now:X')(az:QP)(st:St)
end
inductive Fm where
 |seq(b:RC)|blk(id:Nat)|gst(x:Gh)
abbrev R0:=aX Fm
section
variable(S:Sys)(c:bX){β:Type}(Q:Out×St->aY β)
def runK:R0->Out×St->aY β
 |[],r=>Q r|.seq b::fs,(.norm,st)=>(cN S c b st).bind (runK fs)|.seq _::fs,r=>runK fs r|.blk id::fs,(.exit k,st)=>if k=id then runK fs (.norm,st)else runK fs (.exit k,st)|.blk _::fs,r=>runK fs r|.gst x::fs,(.norm,st)=>(ghost x st).bind λst=>runK fs (.norm,st)|.gst _::fs,r=>runK fs r
def go(a:RC)(fs:R0)(st:St):aY β:=(cN S c a st).bind (runK S c Q fs)
def T8(fs:R0):St->aY β:=λst=>runK S c Q fs (.norm,st)
def bl{α:Type}(t:X')(a b:α):α:=if t then a else b
end
@[congr] def Zz{α:Type}{t B:X'}{a b a' D:α}(h:t=B)(G:B=true->a=a')(J:B=false->b=D):bl t a b=bl B a' D:=by subst h;cases t;exact J rfl;exact G rfl
section
variable{S:Sys}{c:bX}{β:Type}{Q:Out×St->aY β}
@[congr] def go_congr{a:RC}{fs:R0}{st st':St}(h:st=st'):go S c Q a fs st=go S c Q a fs st':=by rw[h]
@[congr] def Yo{fs:R0}{st st':St}(h:st=st'):T8 S c Q fs st=T8 S c Q fs st':=by rw[h]
@[congr] def Yr{fs:R0}{r B:Out×St}(h:r=B):runK S c Q fs r=runK S c Q fs B:=by rw[h]
def Kk(a:RC)(st:St):(cN S c a st).bind Q=go S c Q a [] st:=by simp only[go];cases cN S c a st<;>rfl
inductive Fw(ν ε ρ:Type)where
 |n(a:ν)|x(e:ε)|r(b:ρ)
def mo{σ ε ρ:Type}(step:σ->aY (Fw σ ε ρ)):Nat->σ->aY (Fw Empty ε ρ)
 |0,_=>none|k+1,s=>match step s with
  |some (.n B)=>mo step k B|some (.x e)=>some (.x e)|some (.r b)=>some (.r b)|none=>none
def yI{σ ε ρ:Type}{step:σ->aY (Fw σ ε ρ)}:∀{k B:Nat}{s:σ}{r:Fw Empty ε ρ},k<=B->mo step k s=some r->mo step B s=some r
 |0,_,_,_,_,h=>by simp[mo]at h|k+1,0,_,_,hk,_=>Zaa|k+1,B+1,s,r,hk,h=>by simp only[mo]at h⊢;split at h;exact yI (Nat.le_of_succ_le_succ hk) h;exact h;exact h;simp at h
open Classical in
def cD{σ ε ρ:Type}(step:σ->aY (Fw σ ε ρ))(s:σ):aY (Fw Empty ε ρ):=if h:∃k r,mo step k s=some r then some (Classical.choose (choose_spec h))else none
def qy{σ ε ρ:Type}{step:σ->aY (Fw σ ε ρ)}{s:σ}{r:Fw Empty ε ρ}:cD step s=some r↔∃k,mo step k s=some r:=by
 unfold cD;constructor;intro h;split at h;next u=>simp only[ζa]at h;exact⟨_,by rw[<-h];exact choose_spec (choose_spec u)⟩
 simp at h;rintro⟨k,a⟩;have u:∃k r,mo step k s=some r:=⟨k,r,a⟩;rw[dif_pos u];have z:=choose_spec (choose_spec u);have B:=yI (Nat.le_max_left (Classical.choose u) k) z;have w:=yI (Nat.le_max_right (Classical.choose u) k) a;rw[B]at w;exact w
def Fw.out{ν ε ρ:Type}(B:ν->St)(eε:ε->Nat×St)(eρ:ρ->St):Fw ν ε ρ->Out×St
 |.n a=>(.norm,B a)|.x e=>(.exit (eε e).1,(eε e).2)|.r b=>(.ret,eρ b)
def Fw.elim{ε ρ γ:Type}(B:ε->γ)(fr:ρ->γ):Fw Empty ε ρ->γ
 |.x e=>B e|.r b=>fr b
end
section
variable{α:Type}[bt α]
def Hy(s:Sl α):V.one (cq s)=true:=by cases s<;>rfl
def Qx(l:aX α):V.nR (rows l)=true:=by induction l with|nil=>rfl|cons a l u=>simp only[rows,map_cons,V.nR,ζh];exact⟨bt.good a,u⟩
def NN(s:Sl α):V.good (cq s)=true:=by cases s<;>simp only[cq,Sl.k,kg,V.good]<;>exact Qx _
instance:bt (Sl α)where
 cells s:=[cq s]
 agg:=false
 size:=1
 len _:=rfl
 good s:=by simp only[V.cQ,NN,Bool.and_self]
 one s:=by simp[Hy]
 plain _:=rfl
end
section
variable{S:Sys}{c:bX}
def QJ(x:aY SV)(b:X')(y z:aY St):aY St:=
 match x with
 |some (.v (.bool t))=>bl (t==b) y z|some (.v _)=>z|_=>none
@[congr] def Yg{x B:aY SV}{b:X'}{y z:aY St}(h:x=B):QJ x b y z=QJ B b y z:=by rw[h]
def TZ{β:Type}(x:aY SV)(y z:aY β):aY β:=
 match x with
 |some (.v (.bool t))=>bl t y z|_=>none
@[congr] def Yk{β:Type}{x B:aY SV}{y z:aY β}(h:x=B):TZ x y z=TZ B y z:=by rw[h]
def kf(c:bX)(f:Y')(az:S'):aY S':=(c f (az.map .v) []).bind λr=>di r.2 8 r.1
def PM(now:X')(args:ST)(ok:X')(st:St)(ys:S'):aY (SV×St):=if(result ys).scalar||ok then some (.v (result ys),st)else if now then(rowsOf st.m args).map λds=>(.v (result ys),{st with m:=qp ds st.m})else none
def Wc(dst:aY Nat)(dr now:X')(old:ST->X')(f:Y')(args:ST)(st:St)(a:S.E.keep f=false):
 eo S c dst dr now old f args st=(di st.m 8 args).bind λaz=>if now||old args then(kf c f az).bind (PM now args (dy args).isSome st)else none:=by
 unfold eo kf;simp only[a,Bool.false_eq_true,if_false]
 cases di st.m 8 args with
 |none=>rfl|some az=>
  simp only[ζb];split
  .cases c f (az.map .v) []with
   |none=>rfl|some r=>have⟨rs,m'⟩:=r;simp only[ζb];cases di m' 8 rs<;>rfl
  rfl
end
section
variable{S:Sys}{T:qv}
def J8(rs:QR):Out×St->aY S'
 |(.exit _,_)=>none|(_,st)=>(jP st rs).bind (di st.m 8)
def RM{f:Y'}{rf:RF}(B:T f=some rf)(az:S')(D:az.length<=rf.na):kf (dm S T) f az=go S (dm S T) (J8 rf.rs) rf.body [] (start (az.map .v) []):=by unfold kf;rw[sX B];unfold nN;rw[if_pos (by simpa using D),<-Kk];cases h:cN S (dm S T) rf.body (start (az.map .v) [])with|none=>rfl|some r=>have⟨o,st⟩:=r;cases o<;>simp only[ζb,J8]<;>(try rfl)<;>(cases jP st rf.rs<;>rfl)
end
end Go.VE
namespace Go.VE
variable[bT]
variable{N:Nat->Y'}
def zW(k:T')(a b:Int):Pi:=if b=0 then none else some (k.wrap (a.tdiv b))
def yJ(a b:Int):Pi:=if b=0 then none else some (a.tmod b)
def XT(e:aY KT)(q:aY Nat)(k:T')(a b:Int):bN N (.bin e q .quo) [.int k a,.int k b]=(zW k a b).bind λx=>some (.int k x):=by simp only[bN,mT,zW,if_true];split<;>rfl
def WS(e:aY KT)(q:aY Nat)(k:T')(a b:Int):bN N (.bin e q .rem) [.int k a,.int k b]=(yJ a b).bind λx=>some (.int k x):=by simp only[bN,mT,yJ,if_true];split<;>rfl
def Io(o:Nat)(cs:S'):bN N (.fieldAddr o) [.fptr cs]=if o<=cs.length then some (.fptr (cs.drop o))else none:=rfl
def oU(s:V')(n:Int):Pi:=if 0<=n then(s[n.toNat]?).map λb=>(b.toNat:Int)else none
def O4(s:V')(k:T')(n:Int):bN N .idxStr [.str s,.int k n]=(oU s n).bind λx=>some (.int .u8 x):=by simp only[bN,oU];split;cases s[n.toNat]?<;>rfl;rfl
def RI(z:S')(pl:aX (Nat×Nat))(vs:S'):bN N (.build z pl) vs=(lH z pl vs).bind λcs=>some (.agg cs):=by simp only[bN];cases lH z pl vs<;>rfl
section
variable{α:Type}[bt α]
def Mw(s:Sl α)(k:T')(i:Int)(n:Nat)(B:n=bt.size α):bN N (.idxS n) [cq s,.int k i]=(idx s i).bind λx=>some (.fptr (cells x)):=by rw[R1 s k i B];cases idx s i<;>rfl
def Jp(s:Sl α):bN N .lenSl [cq s]=some (.int .i64 s.l.length):=Pg s
def Sl.isNil{α:Type}(s:Sl α):aY X':=
 match s with
 |.nil=>some true|.emp=>none|_=>some false
def S4(q:aY Nat)(s:Sl α):bN N (.bin (some .slice) q .eql) [cq s,.bG]=s.isNil.bind λt=>some (.bool t):=by cases s<;>rfl
def iP(s:Sl α)(lo hi:Pi):aY (Sl α):=
 (ec s.l.length lo hi).map λ(l,h)=>match s with
  |.nil=>.nil|.emp=>.emp|.row x=>.part ((x.take h).drop l)|.part x=>.part ((x.take h).drop l)
def Oz(s:Sl α)(lo hi:Pi)(n:Nat)(B:n=bt.size α):iX n (cq s) lo hi=(iP s lo hi).bind λx=>some (cq x):=by subst B;cases s with|nil=>simp only[cq,Sl.k,kg,iX,iP,Sl.l,length_nil];cases ec 0 lo hi<;>rfl|emp=>simp only[cq,Sl.k,kg,iX,iP,Sl.l,length_nil];cases ec 0 lo hi<;>rfl|row l=>simp only[cq,Sl.k,kg,iX,iP,Sl.l,if_true,h_];cases ec l.length lo hi<;>simp[rows,map_take,map_drop]|part l=>simp only[cq,Sl.k,kg,iX,iP,Sl.l,if_true,h_];cases ec l.length lo hi<;>simp[rows,map_take,map_drop]
end
def PW(m:Tb bB)(n:Nat)(a:X')(cs:S'):qt m (.load n a) [.v (.fptr cs)]=(cut cs 0 n).bind λr=>(mk a r).bind λx=>some (.v x):=by simp only[qt,eN];cases cut cs 0 n with|none=>rfl|some r=>simp only[ζb];cases mk a r<;>rfl
end Go.VE
namespace Go.VE
variable[bT]
section
variable{α:Type}[bt α]
def cF(s:Sl α):bB:=.sl s.k (bt.size α) (rows s.l)
def Sl.lS(s:Sl α)(i:Int):aY Nat:=if 0<=i/\i.toNat<s.l.length then some i.toNat else none
def Sl.get(s:Sl α)(i:Nat):aY α:=s.l[i]?
def Sl.put(s:Sl α)(i:Nat)(x:α):aY (Sl α):=if i<s.l.length then some (match s with|.row l=>.row (l.set i x)|.part l=>.part (l.set i x)|s=>s)else none
def fW(s:Sl α)(x:α):aY (Sl α):=if s.l.length+1<=2147483648 then some (.row (s.l++[x]))else none
def qD(n:Int)(z:α):aY (Sl α):=if 0<=n/\n<=2147483648 then some (.row (replicate n.toNat z))else none
end
section
variable{α:Type}[bt α]{N:Nat->Y'}{m:Tb bB}
def NX(n d:Nat)(o:aY bB)(i:Int):aY SV:=
 match o with
 |some (.sl k es u)=>if bY k/\es=n/\0<=i/\i.toNat<u.length then some (.el d i.toNat 0)else none|some (.dp k u _)=>if bY k/\1=n/\0<=i/\i.toNat<u.length then some (.el d i.toNat 0)else none|_=>none
def VA(n d:Nat)(k:T')(i:Int):kG N m (.idxS n) [.own d,.v (.int k i)]=NX n d (bh m d) i:=by simp[kG,dy,B2,NX];grind
def UQ(n d:Nat)(s:Sl α)(i:Int)(h:n=bt.size α):NX n d (some (cF s)) i=(s.lS i).bind λj=>some (.el d j 0):=by simp[NX,cF,h_,Sl.lS];cases s with|nil=>simp[Sl.l,bY]|emp=>simp[Sl.l,bY]|row l=>simp[Sl.k,Sl.l,bY];grind|part l=>simp[Sl.k,Sl.l,bY];grind
def NW(o:aY bB):aY SV:=
 match o with
 |some (.sl _ _ u)=>some (.v (.int .i64 u.length))|some (.dp _ u _)=>some (.v (.int .i64 u.length))|_=>none
def Sa(d:Nat):kG N m .lenSl [.own d]=NW (bh m d):=by simp[kG,dy,B2,NW];grind
def Wa(s:Sl α):NW (some (cF s))=some (.v (.int .i64 s.l.length)):=by simp[NW,cF,h_]
def TO(n:Nat)(a:X')(o:Nat)(ob:aY bB):aY SV:=
 match ob with
 |some (.box cs)=>wO n a ((cs.drop o).take n)|_=>none
def aac(n:Nat)(a:X')(d o:Nat):qt m (.load n a) [.ptr d o]=TO n a o (bh m d):=by rfl
def QT(n:Nat)(a:X')(o:Nat)(cs:ST):TO n a o (some (.box cs))=wO n a ((cs.drop o).take n):=rfl
def Ky(n:Nat)(a:X')(i o:Nat)(ob:aY bB):aY SV:=
 match ob with
 |some (.sl _ _ u)=>match u[i]?with
  |some cs=>((cut cs o n).bind (mk a)).map .v|none=>none
 |some (.dp _ _ (some (j,t)))=>if j=i/\o=0/\n=1/\a=false then some (.own t)else none|_=>none
def YC(n:Nat)(a:X')(d i o:Nat):qt m (.load n a) [.el d i o]=Ky n a i o (bh m d):=by rfl
def QI(n:Nat)(a:X')(i o:Nat)(s:Sl α):Ky n a i o (some (cF s))=(s.get i).bind λx=>(cut (cells x) o n).bind λr=>(mk a r).bind λy=>some (.v y):=by simp only[Ky,cF,Sl.get,rows,List.getElem?_map];cases s.l[i]?with|none=>rfl|some x=>simp only[map_some,ζb];cases cut (cells x) o n with|none=>rfl|some r=>simp;cases mk a r<;>rfl
def YM(z:α)(n:Int)(d:Nat)(size:Nat)(zero:S')(h:zero=cells z)(B:size=bt.size α):
 qV m (.makeSl size zero) [.v (.int .i64 n),.v (.int .i64 n)] d=(qD n z).bind λs=>some (cF s,.own d):=by
 subst h B;simp[qV,qD];split
 .simp[cF,Sl.k,Sl.l,rows]
 rfl
def F9(st:St)(d i o size:Nat)(x:V)(ob:aY bB):aY (SV×St):=
 match ob with
 |some (.sl k es u)=>match u[i]?with
  |some cs=>if x.cells.length=size/\o+size<=cs.length/\x.cells.all V.one=true then
   some (.v .undef,{st with m:=bF st.m d (.sl k es (u.set i (cs.take o++x.cells++cs.drop (o+x.cells.length))))})else none
  |none=>none
 |_=>none
def Np(st:St)(dst:aY Nat)(size d i o:Nat)(x:V):nh st dst (.store size) [.el d i o,.v x]=F9 st d i o size x (bh st.m d):=by rfl
def ND(g:Tb SV)(p:So)(w:T2)(B:X')(y:Nat)(d i size:Nat)(x:V)(a:α)(D:x.cells=cells a)(G:size=bt.size α)(s:Sl α):
 F9 ⟨g,m,p,w,B,y⟩ d i 0 size x (some (cF s))=(s.put i a).bind λJ=>some (.v .undef,⟨g,bF m d (cF J),p,w,B,y⟩):=by
 have c:(cells a).all V.one=true:=bt.one a;have u:∀b:α,(cells b).length=bt.size α:=bt.len;subst G;simp only[F9,cF,rows,List.getElem?_map,D,Sl.put]
 by_cases hi:i<s.l.length
 .have hg:=ζd hi;rw[if_pos hi,hg];simp[u,c]
  cases s with
  |nil=>simp[Sl.l]at hi|emp=>simp[Sl.l]at hi|row l=>simp[Sl.k,Sl.l,List.drop_of_length_le,u]|part l=>simp[Sl.k,Sl.l,List.drop_of_length_le,u]
 grind
def yV(st:St)(t n:Nat)(s:SV)(xs ys:aY T2):aY (SV×St):=
 match xs,ys with
 |some _,some []=>match s with
  |.own d=>match bh st.m d with
   |some ob=>if St.new {st with m:=dL d st.m} t then some (.own t,{st with m:=bF (dL d st.m) t ob})else none|none=>none
  |.v .bG=>if st.new t then some (.own t,{st with m:=bF st.m t (.sl .nil n [])})else none|.v .dH=>if st.new t then some (.own t,{st with m:=bF st.m t (.sl .emp n [])})else none|_=>none
 |some xs,some ys=>
  if xs.length+ys.length<=2147483648/\KO s=true then
   if St.new {st with m:=giveUp st.m s} t then some (.own t,{st with m:=bF (giveUp st.m s) t (.sl .row n (xs++ys))})else none
  else none
 |_,_=>none
def yD{st:St}{t n:Nat}{s x:SV}{xs ys:T2}(a:je st.m n s=some xs)(B:je st.m n x=some ys):nh st (some t) (.append n) [s,x]=yV st t n s (some xs) (some ys):=by cases ys<;>cases s<;>cases x<;>(unfold nh yV;simp only[a,B];try rfl)
def Oj(n:Nat)(o:aY bB):aY T2:=
 match o with
 |some (.sl k es u)=>if bY k then(if es=n then some u else none)else some []|_=>none
def Cx(n d:Nat):je m n (.own d)=Oj n (bh m d):=by simp[je,Oj];grind
def Cj(n:Nat)(s:Sl α)(h:n=bt.size α):Oj n (some (cF s))=some (rows s.l):=by subst h;cases s<;>simp[Oj,cF,Sl.k,Sl.l,bY,rows]
def UF(n:Nat):je m n (.v .bG)=some []:=rfl
def VB(n:Nat):je m n (.v .dH)=some []:=rfl
def P3(g:Tb SV)(p:So)(w:T2)(B:X')(y:Nat)(t n d:Nat)(l:aX α)(x:α)(h:n=bt.size α):yV ⟨g,m,p,w,B,y⟩ t n (.own d) (some (rows l)) (some (rows [x]))=
 (fW (.row l) x).bind λs=>if St.new ⟨g,dL d m,p,w,B,y⟩ t then some (.own t,⟨g,bF (dL d m) t (cF s),p,w,B,y⟩)else none:=by
 subst h;have e:(rows l).length+(rows [x]).length=l.length+1:=by simp[h_]
 by_cases h:l.length+1<=2147483648
 .have a:fW (.row l) x=some (.row (l++[x])):=if_pos h;have u:yV ⟨g,m,p,w,B,y⟩ t (bt.size α) (.own d) (some (rows l)) (some (rows [x]))=if St.new ⟨g,dL d m,p,w,B,y⟩ t then some (.own t,⟨g,bF (dL d m) t (.sl .row (bt.size α) (rows l++rows [x])),p,w,B,y⟩)else none:=if_pos ⟨Zaa,rfl⟩
  rw[a,u];simp[cF,Sl.k,Sl.l,rows]
 have a:fW (.row l) x=none:=if_neg h;have u:yV ⟨g,m,p,w,B,y⟩ t (bt.size α) (.own d) (some (rows l)) (some (rows [x]))=none:=if_neg (λq=>h Zaa)
 grind
def Pc(g:Tb SV)(p:So)(w:T2)(B:X')(y:Nat)(t n:Nat)(x:α)(h:n=bt.size α):yV ⟨g,m,p,w,B,y⟩ t n (.v .bG) (some []) (some (rows [x]))=
 if St.new ⟨g,m,p,w,B,y⟩ t then some (.own t,⟨g,bF m t (cF (.row [x])),p,w,B,y⟩)else none:=by
 subst h;rfl
def Pd(g:Tb SV)(p:So)(w:T2)(B:X')(y:Nat)(t n:Nat)(x:α)(h:n=bt.size α):yV ⟨g,m,p,w,B,y⟩ t n (.v .dH) (some []) (some (rows [x]))=
 if St.new ⟨g,m,p,w,B,y⟩ t then some (.own t,⟨g,bF m t (cF (.row [x])),p,w,B,y⟩)else none:=by
 subst h;rfl
end
def zN(g:Tb SV)(m:Tb bB)(p:So)(w:T2)(B:X')(y d:Nat):St.new ⟨g,m,p,w,B,y⟩ d=(!(p.contains d)&&(bh m d).isNone&& !(vA d g)&& !(uC d m)):=rfl
def tw(d:Nat):vA d []=false:=rfl
def qY(d n:Nat)(x:SV)(r:Tb SV):vA d ((n,x)::r)=(SV.cM d x||vA d r):=rfl
def tQ(d:Nat):uC d []=false:=rfl
def rJ(d n:Nat)(x:bB)(r:Tb bB):uC d ((n,x)::r)=(bB.cM d x||uC d r):=rfl
def zu(d:Nat)(x:V):SV.cM d (.v x)=false:=rfl
def uT(d e:Nat):SV.cM d (.own e)=(e==d):=rfl
def u7(d e o:Nat):SV.cM d (.ptr e o)=(e==d):=rfl
def xm(d e i o:Nat):SV.cM d (.el e i o)=(e==d):=rfl
def xk(d e:Nat):SV.cM d (.mp e)=(e==d):=rfl
def u6(d:Nat)(f:Y')(a b:ST):SV.cM d (.clo f a b)=(SV.dF d a||SV.dF d b):=rfl
def vg(d:Nat)(l:ST):SV.cM d (.tup l)=SV.dF d l:=rfl
def tv(d:Nat):SV.dF d []=false:=rfl
def rK(d:Nat)(x:SV)(r:ST):SV.dF d (x::r)=(SV.cM d x||SV.dF d r):=rfl
def tG(d:Nat)(cs:ST):bB.cM d (.box cs)=SV.dF d cs:=rfl
def Hl(m:Tb bB)(n:Nat):di m n []=some []:=by cases n<;>simp[di]
def E7(m:Tb bB)(n:Nat)(x:SV)(r:ST):di m n (x::r)=(shut m n x).bind λy=>(di m n r).bind λs=>some (y::s):=by cases n<;>(simp[di];cases shut m _ x<;>(try rfl)<;>(cases di m _ r<;>rfl))
def X0(m:Tb bB)(n:Nat)(x:V):shut m n (.v x)=some x:=by cases n<;>simp[shut]
def MG(o:aY bB):aY V:=
 match o with
 |some (.sl k es u)=>some (kg k es u)|some (.dp k u none)=>some (kg k 1 u)|_=>none
def Tt(m:Tb bB)(n d:Nat):shut m n (.own d)=MG (bh m d):=by cases n<;>(simp[shut,MG];rfl)
def Sh{α:Type}[bt α](s:Sl α):MG (some (cF s))=some (cq s):=rfl
def SG(m:Tb bB)(n:Nat)(f:Y')(a b:ST):shut m (n+1) (.clo f a b)=(di m n a).bind λx=>(di m n b).bind λy=>some (.clo f x y):=by simp[shut];cases di m n a<;>(try rfl)<;>(cases di m n b<;>rfl)
def Tq(m:Tb bB)(n:Nat)(l:ST):shut m (n+1) (.tup l)=(di m n l).bind λx=>some (.tup x):=by simp[shut];cases di m n l<;>rfl
def Su(m:Tb bB)(n:Nat)(l:ST):shut m (n+1) (.agg l)=(di m n l).bind λx=>some (.agg x):=by simp[shut];cases di m n l<;>rfl
def vj{α:Type}(n:Nat):dL n ([]:Tb α)=[]:=rfl
def tE{α:Type}(n k:Nat)(x:α)(r:Tb α):dL n ((k,x)::r)=if k=n then dL n r else(k,x)::dL n r:=rfl
def mapM_nil(f:ST->ST):mapM f []=[]:=rfl
section
variable{N:Nat->Y'}{m:Tb bB}
def VU:result []=.tup []:=rfl
def VR(x:V):result [x]=x:=rfl
def V_(x y:V)(l:S'):result (x::y::l)=.tup (x::y::l):=rfl
def JQ(p:v7)(a:V):kG N m p [.v a]=(bN N p [a]).bind λx=>some (.v x):=L6 N m p _ [a] rfl
def u9(p:v7)(a b:V):kG N m p [.v a,.v b]=(bN N p [a,b]).bind λx=>some (.v x):=L6 N m p _ [a,b] rfl
def jR(l:S'):dy (l.map .v)=some l:=by induction l with|nil=>rfl|cons a l u=>simp only[map_cons,dy,u];rfl
def qw(n:Nat)(l:S'):di m n (l.map .v)=some l:=by induction l with|nil=>exact Hl m n|cons a l u=>rw[map_cons,E7,X0,u];rfl
def o9(cs:S'):lH cs [] []=some cs:=rfl
def nJ(cs:S')(off size:Nat)(pl:aX (Nat×Nat))(v:V)(vs:S'):lH cs ((off,size)::pl) (v::vs)=
 if v.cells.length=size/\off+v.cells.length<=cs.length then lH (cs.take off++v.cells++cs.drop (off+v.cells.length)) pl vs else none:=by
 simp only[lH]
 by_cases h:v.cells.length=size<;>by_cases u:off+v.cells.length<=cs.length
 .rw[if_neg (by simp[h];omega),if_pos ⟨h,u⟩]
 .rw[if_pos (by simp[h];omega),if_neg (λq=>u q.2)]
 .rw[if_pos (by simp[h]),if_neg (λq=>h q.1)]
 rw[if_pos (by simp[h]),if_neg (λq=>h q.1)]
def we(k:T')(n:Int):V.cells (.int k n)=[.int k n]:=rfl
def tq(n:X'):V.cells (.bool n)=[.bool n]:=rfl
def wv(n:V'):V.cells (.str n)=[.str n]:=rfl
def v8:V.cells .bG=[.bG]:=rfl
def nr(k:T')(n:Int):V.one (.int k n)=true:=rfl
def mh(n:X'):V.one (.bool n)=true:=rfl
def nC(n:V'):V.one (.str n)=true:=rfl
end
section
variable{S:Sys}{c:bX}{β γ δ:Type}{Q:Out×St->aY β}{L:aY β}{e:γ->aY β}
def PX{dr:X'}{fr:So}{d:aY Nat}{gd:aY (Nat×X')}{now:X'}{k:K}{az:QP}{st:St}(h:wanted st.g gd=some true):
 fH S c dr fr ⟨d,gd,now,k,az,[],[]⟩ st=fH S c dr fr ⟨d,none,now,k,az,[],[]⟩ st:=by
 unfold fH;rw[h];rfl
def Dh(dr:X')(st:St):DC dr [] st=some st:=by cases dr<;>rfl
def oT(f:SV->aY V):ST->aY S'
 |[]=>some []|x::r=>(f x).bind λy=>(oT f r).bind λs=>some (y::s)
def js(m:Tb bB):Nat->SV->aY V
 |0,x=>match x with
  |.v y=>some y|.own d=>match bh m d with
   |some (.sl k es xs)=>some (kg k es xs)|some (.dp k xs none)=>some (kg k 1 xs)|_=>none
  |.mp d=>match bh m d with
   |some (.mp B)=>some (.fmap B)|_=>none
  |_=>none
 |n+1,x=>match x with
  |.v y=>some y|.own d=>match bh m d with
   |some (.sl k es xs)=>some (kg k es xs)|some (.dp k xs none)=>some (kg k 1 xs)|_=>none
  |.ptr d o=>match bh m d with
   |some (.box cs)=>match oT (js m n) cs with
    |some xs=>if o<=xs.length then some (.fptr (xs.drop o))else none|none=>none
   |_=>none
  |.mp d=>match bh m d with
   |some (.mp B)=>some (.fmap B)|_=>none
  |.clo f a b=>(oT (js m n) a).bind λx=>(oT (js m n) b).bind λy=>some (.clo f x y)|.tup l=>(oT (js m n) l).bind λx=>some (.tup x)|.agg l=>(oT (js m n) l).bind λx=>some (.agg x)|_=>none
def zJ(m:Tb bB):∀(n:Nat),(∀x,shut m n x=js m n x)/\∀l,di m n l=oT (js m n) l:=by
 have w:∀n,(∀x,shut m n x=js m n x)->∀l,di m n l=oT (js m n) l:=by intro n h l;induction l with|nil=>exact Hl m n|cons a l u=>rw[E7,h a,u];rfl
 intro n;induction n with|zero=>have z:∀x,shut m 0 x=js m 0 x:=(by intro x;cases x<;>simp[shut,js]<;>rfl);grind|succ n u=>have c:∀x,shut m (n+1) x=js m (n+1) x:=(by intro x;cases x with|ptr d o=>simp[shut,js,u.2];rfl|clo f a b=>rw[SG,u.2,u.2];rfl|tup l=>rw[Tq,u.2];rfl|agg l=>rw[Su,u.2];rfl|_=>simp[shut,js]<;>rfl);grind
def wK(S:Sys)(c:bX)(dr:X'):So->R'->(St->aY β)->St->aY β
 |_,[],k,st=>k st|fr,o::r,k,st=>((DC dr o.pre st).bind (fH S c dr fr o.strip)).bind λst'=>wK S c dr (if dr then sj fr o.strip else fr) r k (ql o.dead st')
def Gk(dr:X'):∀(l:R')(fr:So)(k:St->aY β)(st:St),wK S c dr fr l k st=(n5 S c dr fr l st).bind k
 |[],_,_,_=>rfl|o::r,fr,k,st=>by simp[wK,n5];cases(DC dr o.pre st).bind (fH S c dr fr o.strip)with|none=>rfl|some st'=>exact Gk dr r _ k _
def qi(S:Sys)(c:bX):RC->(St->aY β)->(Nat->St->aY β)->(St->aY β)->St->aY β
 |.skip,n,_,_,st=>n st|.ops l,n,_,_,st=>wK S c false [] l n st|.ua l,n,_,_,st=>wK S c true [] l n st|.seq a b,n,x,r,st=>qi S c a (λst=>qi S c b n x r st) x r st|.cond y a b,n,x,r,st=>match rU S.N st.g y with
  |some (.v (.bool t))=>bl t (qi S c a n x r st) (qi S c b n x r st)|_=>none
 |.block id a,n,x,r,st=>qi S c a n (λk st=>if k=id then n st else x k st) r st|.loop a,n,x,r,st=>(pH (cN S c a) st).bind λq=>match q with|(.norm,st)=>n st|(.exit k,st)=>x k st|(.ret,st)=>r st
 |.each g ps a b,n,x,r,st=>(cN S c (.each g ps a b) st).bind λq=>match q with|(.norm,st)=>n st|(.exit k,st)=>x k st|(.ret,st)=>r st
 |.exit k,_,x,_,st=>x k st|.ret,_,_,r,st=>r st|.gh g a,n,x,r,st=>(ghost g st).bind λst=>qi S c a n x r st|.hg a g,n,x,r,st=>qi S c a (λst=>(ghost g st).bind n) x r st
def FB(n:St->aY β)(x:Nat->St->aY β)(r:St->aY β):Out×St->aY β
 |(.norm,st)=>n st|(.exit k,st)=>x k st|(.ret,st)=>r st
def E4:∀(d:RC)(n:St->aY β)(x:Nat->St->aY β)(r:St->aY β)(st:St),qi S c d n x r st=(cN S c d st).bind (FB n x r):=by
 intro d
 induction d with
 |skip=>intros;rfl|ops l=>intro n x r st;simp[qi,cN,Gk];cases n5 S c false [] l st<;>rfl|ua l=>intro n x r st;simp[qi,cN,Gk];cases n5 S c true [] l st<;>rfl|seq a b u w=>intro n x r st;simp[qi,cN,u,w];cases h:cN S c a st with|none=>rfl|some q=>have⟨o,st'⟩:=q;cases o<;>rfl
 |cond y a b u w=>
  intro n x r st;simp[qi,cN,u,w]
  cases rU S.N st.g y with
  |none=>rfl|some v=>cases v with
   |v z=>cases z with
    |bool t=>cases t<;>rfl|_=>rfl
   |_=>rfl
 |block id a B=>intro n x r st;simp[qi,cN,B];cases h:cN S c a st with|none=>rfl|some q=>have⟨o,st'⟩:=q;cases o with|exit k=>simp[FB];split<;>rfl|_=>rfl
 |loop a B=>intro n x r st;rfl|each g ps a b u w=>intro n x r st;rfl|exit k=>intros;rfl|ret=>intros;rfl|gh g a B=>simp[qi,cN,B];grind|hg a g B=>intro n x r st;simp[qi,cN,B];cases h:cN S c a st with|none=>rfl|some q=>have⟨o,st'⟩:=q;cases o with|norm=>simp[FB];cases ghost g st'<;>rfl|_=>rfl
section
variable(S c Q)
mutual
def nM:R0->St->aY β
 |[]=>λst=>Q (.norm,st)|.seq b::fs=>λst=>qi S c b (nM fs) (nP fs) (λst=>Q (.ret,st)) st|.blk _::fs=>nM fs|.gst g::fs=>λst=>(ghost g st).bind (nM fs)
def nP:R0->Nat->St->aY β
 |[]=>λk st=>Q (.exit k,st)|.seq _::fs=>nP fs|.blk id::fs=>λk st=>if k=id then nM fs st else nP fs k st|.gst _::fs=>nP fs
end
def kW(a:RC)(fs:R0)(st:St):aY β:=qi S c a (nM S c Q fs) (nP S c Q fs) (λst=>Q (.ret,st)) st
end
section
variable{dr:X'}{fr:So}{d:Nat}{dst:aY Nat}{now:X'}{az:QP}{st:St}{α:Type}[bt α]
def Ms{p:v7}{svs:ST}{m:aY δ}{v:δ->SV}(B:bW S.N st.g az=some svs)(hi:isSlice p=false)(h:kG S.N st.m p svs=m.bind λx=>some (v x)):
 fH S c dr fr ⟨dst,none,now,.p p,az,[],[]⟩ st=m.bind λx=>some (dn st dst (v x)):=by
 rw[T7 _ _ _ _ _ _ _ hi,B]
 grind
def Dk{p:v7}{svs:ST}{v:SV}(B:bW S.N st.g az=some svs)(hi:isSlice p=false)(h:kG S.N st.m p svs=some v):
 fH S c dr fr ⟨dst,none,now,.p p,az,[],[]⟩ st=some (dn st dst v):=by
 rw[T7 _ _ _ _ _ _ _ hi,B]
 grind
def TV{n:Nat}{s:Sl α}{k:T'}{i:Int}(B:bW S.N st.g az=some [.v (cq s),.v (.int k i)])(D:n=bt.size α):
 fH S c dr fr ⟨dst,none,now,.p (.idxS n),az,[],[]⟩ st=(idx s i).bind λx=>some (dn st dst (.v (.fptr (cells x)))):=
 Ms B rfl (by rw[u9,Mw s k i n D];grind)
def YS{n e:Nat}{s:Sl α}{k:T'}{i:Int}(B:bW S.N st.g az=some [.own e,.v (.int k i)])(D:bh st.m e=some (cF s))(G:n=bt.size α):
 fH S c dr fr ⟨dst,none,now,.p (.idxS n),az,[],[]⟩ st=(s.lS i).bind λj=>some (dn st dst (.el e j 0)):=
 Ms B rfl (by rw[VA,D,UQ n e s i G])
def Uq{s:Sl α}(B:bW S.N st.g az=some [.v (cq s)]):fH S c dr fr ⟨dst,none,now,.p .lenSl,az,[],[]⟩ st=some (dn st dst (.v (.int .i64 s.l.length))):=Dk B rfl (by rw[JQ,Jp];rfl)
def W4{e:Nat}{s:Sl α}(B:bW S.N st.g az=some [.own e])(D:bh st.m e=some (cF s)):fH S c dr fr ⟨dst,none,now,.p .lenSl,az,[],[]⟩ st=some (dn st dst (.v (.int .i64 s.l.length))):=Dk B rfl (by rw[Sa,D,Wa])
def Yw{q:aY KT}{u:aY Nat}{k:T'}{a b:Int}(B:bW S.N st.g az=some [.v (.int k a),.v (.int k b)]):fH S c dr fr ⟨dst,none,now,.p (.bin q u .quo),az,[],[]⟩ st=(zW k a b).bind λx=>some (dn st dst (.v (.int k x))):=Ms B rfl (by rw[u9,XT];grind)
def YT{q:aY KT}{u:aY Nat}{k:T'}{a b:Int}(B:bW S.N st.g az=some [.v (.int k a),.v (.int k b)]):fH S c dr fr ⟨dst,none,now,.p (.bin q u .rem),az,[],[]⟩ st=(yJ a b).bind λx=>some (dn st dst (.v (.int k x))):=Ms B rfl (by rw[u9,WS];grind)
def Wl{u:aY Nat}{s:Sl α}(B:bW S.N st.g az=some [.v (cq s),.v .bG]):fH S c dr fr ⟨dst,none,now,.p (.bin (some .slice) u .eql),az,[],[]⟩ st=s.isNil.bind λt=>some (dn st dst (.v (.bool t))):=Ms B rfl (by rw[u9,S4];grind)
def Td{s:V'}{k:T'}{n:Int}(B:bW S.N st.g az=some [.v (.str s),.v (.int k n)]):fH S c dr fr ⟨dst,none,now,.p .idxStr,az,[],[]⟩ st=(oU s n).bind λx=>some (dn st dst (.v (.int .u8 x))):=Ms B rfl (by rw[u9,O4];grind)
def X7{n e i o:Nat}{a:X'}{s:Sl α}{v:α->V}(B:bW S.N st.g az=some [.el e i o])(hd:(!dr||now||fD fr [.el e i o])=true)(D:bh st.m e=some (cF s))(b:∀x:α,(cut (cells x) o n).bind (mk a)=some (v x)):
 fH S c dr fr ⟨dst,none,now,.r (.load n a),az,[],[]⟩ st=(s.get i).bind λx=>some (dn st dst (.v (v x))):=by
 rw[Ib,B];simp only[ζb,hd,YC,D,QI]
 cases s.get i with
 |none=>rfl|some x=>
  cases d:cut (cells x) o n with
  |none=>grind|some r=>grind
def UI{n e i:Nat}{s:Sl α}{x:V}{a:α}(B:bW S.N st.g az=some [.el e i 0,.v x])(hd:(!dr||now)=true)(D:bh st.m e=some (cF s))(G:x.cells=cells a)(J:n=bt.size α):
 fH S c dr fr ⟨dst,none,now,.l (.store n),az,[],[]⟩ st=(s.put i a).bind λT=>some (dn {st with m:=bF st.m e (cF T)} dst (.v .undef)):=by
 rw[yo,B];simp[hd,Np,D];rw[ND st.g st.pin st.want st.more st.yid e i n x a G J s]
 grind
def X6{n:Nat}{z:α}{zero:S'}{i:Int}(B:bW S.N st.g az=some [.v (.int .i64 i),.v (.int .i64 i)])(D:zero=cells z)(G:n=bt.size α)(J:st.new d=true):
 fH S c dr fr ⟨some d,none,now,.a (.makeSl n zero),az,[],[]⟩ st=(qD i z).bind λs=>some {st with g:=bF st.g d (.own d),m:=bF st.m d (cF s)}:=by
 rw[EV,B];simp[J];rw[YM z i d n zero D G]
 grind
def YY{n e u:Nat}{s:Sl α}{x:α}(G:bW S.N st.g az=some [.own e,.own u])(hd:(!dr||now)=true)(J:bh st.m e=some (cF s))(a:bh st.m u=some (cF (.row [x])))(B:n=bt.size α)(T:St.new {st with m:=dL e st.m} d=true):
 fH S c dr fr ⟨some d,none,now,.l (.append n),az,[],[]⟩ st=(fW s x).bind λD=>some {st with g:=bF st.g d (.own d),m:=bF (dL e st.m) d (cF D)}:=by
 rw[yo,G];simp only[ζb,hd,if_true];rw[yD (xs:=rows s.l) (ys:=rows [x]) (by rw[Cx,J,Cj n s B]) (by rw[Cx,a,Cj n (.row [x]) B];rfl)]
 have:=P3 (m:=st.m) st.g st.pin st.want st.more st.yid d n e s.l x B;rw[this];have w:fW (.row s.l) x=fW s x:=by cases s<;>rfl
 rw[w]
 cases fW s x with
 |none=>rfl|some D=>simp;rw[if_pos T];rfl
def W9{n u:Nat}{x:α}{v:V}(a:v=.bG\/v=.dH)(G:bW S.N st.g az=some [.v v,.own u])(hd:(!dr||now)=true)(b:bh st.m u=some (cF (.row [x])))(B:n=bt.size α)(D:st.new d=true):
 fH S c dr fr ⟨some d,none,now,.l (.append n),az,[],[]⟩ st=some {st with g:=bF st.g d (.own d),m:=bF st.m d (cF (.row [x]))}:=by
 rw[yo,G];simp only[ζb,hd,if_true];have w:je st.m n (.own u)=some (rows [x]):=by rw[Cx,b,Cj n (.row [x]) B];rfl
 rcases a with rfl|rfl
 .rw[yD (UF n) w,Pc (m:=st.m) st.g st.pin st.want st.more st.yid d n x B];rw[if_pos D];rfl
 rw[yD (VB n) w,Pd (m:=st.m) st.g st.pin st.want st.more st.yid d n x B];rw[if_pos D];rfl
def WL{f:Y'}{svs args:ST}{cs:S'}{m:aY δ}{E:δ->S'}(a:kf c f cs=m.bind λr=>some (E r))(b:S.E.keep f=false)(D:bW S.N st.g az=some svs)(G:j9 svs=some (f,args))
 (B:oT (js st.m 8) args=some cs)(J:((!dr||now)||ez st.m fr args)=true)(d:∀r,((result (E r)).scalar||(dy args).isSome)=true):
 fH S c dr fr ⟨dst,none,now,.c,az,[],[]⟩ st=m.bind λr=>some (dn st dst (.v (result (E r)))):=by
 rw[sG dr fr dst now az st svs f args D G,Wc _ _ _ _ _ _ _ b,(zJ st.m 8).2,B];simp[J,a]
 cases m with
 |none=>rfl|some r=>
  simp[PM]
  grind
end
end
section
variable{S:Sys}{c:bX}{β γ:Type}{Q:Out×St->aY β}{L:aY β}{e:γ->aY β}
def oB(a:RC)(st:St):kW S c Q a [] st=(cN S c a st).bind Q:=by unfold kW;rw[E4];congr 1;funext q;have⟨o,st⟩:=q;cases o<;>rfl
def Ch(a:RC)(st:St):cN S c a st=kW S c some a [] st:=by rw[oB];cases cN S c a st<;>rfl
def qc(rs:QR):Out×St->aY S'
 |(.exit _,_)=>none|(_,st)=>(jP st rs).bind (oT (js st.m 8))
def V8(rs:QR):J8 rs=qc rs:=by funext q;have⟨o,st⟩:=q;cases o;simp only[J8,qc];congr 1;funext l;exact(zJ st.m 8).2 l;rfl;simp only[J8,qc];congr 1;funext l;exact(zJ st.m 8).2 l
def V9{S:Sys}{T:qv}{f:Y'}{rf:RF}(B:T f=some rf)(az:S')(D:az.length<=rf.na):kf (dm S T) f az=kW S (dm S T) (qc rf.rs) rf.body [] (start (az.map .v) []):=by rw[RM B az D,<-Kk,oB,V8]
end
def kY{α σ ε ρ:Type}(step:α->σ->aY (Fw σ ε ρ)):aX α->σ->aY (Fw σ ε ρ)
 |[],s=>some (.n s)|x::xs,s=>(step x s).bind λw=>match w with
  |.n B=>kY step xs B|.x e=>some (.x e)|.r b=>some (.r b)
def Fw.rO{ν ε ρ γ:Type}(fn:ν->γ)(B:ε->γ)(fr:ρ->γ):Fw ν ε ρ->γ
 |.n a=>fn a|.x e=>B e|.r b=>fr b
def Fw.xY{ν ε ρ:Type}(B:ν->Tb bB)(eε:ε->Nat×Tb bB)(eρ:ρ->Tb bB):Fw ν ε ρ->Out×Tb bB
 |.n a=>(.norm,B a)|.x e=>(.exit (eε e).1,(eε e).2)|.r b=>(.ret,eρ b)
def xY(q:Out×St):aY (Out×Tb bB):=some (q.1,q.2.m)
section
variable{S:Sys}{c:bX}{β γ:Type}{Q:Out×St->aY β}{L:aY β}{e:γ->aY β}
def Ab(S:Sys)(c:bX)(b:RC):Out×St->aY (Out×Tb bB)
 |(.norm,st)=>kW S c xY b [] st|_=>none
def ML(ps:So)(a b:RC)(st:St)(x:S')(m:Tb bB)(B:x.length=ps.length):
 jh ps (cN S c a) (cN S c b) st x m=kW S c (Ab S c b) a [] ⟨ye st.g ps (x.map .v),m,st.pin++qE st.g,[],true,0⟩:=by
 unfold jh;rw[if_pos B,oB]
 cases cN S c a ⟨ye st.g ps (x.map .v),m,st.pin++qE st.g,[],true,0⟩with
 |none=>rfl|some q=>
  have⟨o,u⟩:=q
  cases o with
  |norm=>simp only[ζb,Ab];rw[oB];cases cN S c b u<;>rfl|_=>rfl
end
def Le{α:Type}(a b:aY α):Prop:=∀r,a=some r->b=some r
section
variable{α:Type}
def Le.refl(a:aY α):Le a a:=λ_ h=>h
def Le.of_eq{a b:aY α}(h:b=a):Le a b:=λ_ u=>h.trans u
def Le.trans{a b d:aY α}(c:Le a b)(B:Le b d):Le a d:=λr h=>B r (c r h)
def Le.none(b:aY α):Le (none:aY α) b:=λr h=>by cases h
def Le.bind{β:Type}{a b:aY α}{f g:α->aY β}(h:Le a b)(B:∀x,Le (f x) (g x)):Le (a.bind f) (b.bind g):=λr c=>by have⟨x,d,u⟩:=ζg.1 c;rw[h x d];exact B x r u
end
section
variable{S:Sys}{c:bX}{β γ δ:Type}{Q:Out×St->aY β}{L:aY β}{e:γ->aY β}
def Kj{dr:X'}{fr:So}{dst:aY Nat}{now:X'}{az:QP}{st:St}{f:Y'}{svs args:ST}{cs:S'}{m:aY δ}{E:δ->S'}(a:Le (m.bind λr=>some (E r)) (kf c f cs))(b:S.E.keep f=false)(D:bW S.N st.g az=some svs)(G:j9 svs=some (f,args))
 (B:oT (js st.m 8) args=some cs)(J:((!dr||now)||ez st.m fr args)=true)(d:∀r,((result (E r)).scalar||(dy args).isSome)=true):
 Le (m.bind λr=>some (dn st dst (.v (result (E r))))) (fH S c dr fr ⟨dst,none,now,.c,az,[],[]⟩ st):=by
 intro q w;have⟨r,e,z⟩:=ζg.1 w;have u:kf c f cs=(some r).bind λr=>some (E r):=a _ (by rw[e];rfl)
 rw[WL (m:=some r) u b D G B J d];exact z
def RU{σ ε ρ:Type}{f:St->aY (Out×St)}{step:σ->aY (Fw σ ε ρ)}{eσ:σ->St}{eε:ε->Nat×St}{eρ:ρ->St}(h:∀s,Le ((step s).bind λw=>some (Fw.out eσ eε eρ w)) (f (eσ s)))(s:σ):
 Le ((cD step s).bind λw=>some (Fw.out (λe=>Empty.elim e) eε eρ w)) (pH f (eσ s)):=by
 have key:∀k s r,mo step k s=some r->jL f k (eσ s)=some (Fw.out (λe=>Empty.elim e) eε eρ r):=by intro k;induction k with|zero=>intro s r h;simp[mo]at h|succ k C=>intro s r u;simp only[mo]at u;cases z:step s with|none=>rw[z]at u;cases u|some w=>rw[z]at u;have B:=h s (Fw.out eσ eε eρ w) (by rw[z];rfl);simp only[jL,B];cases w with|n a=>exact C a r u|x e=>cases u;rfl|r b=>cases u;rfl
 intro r c;have⟨w,d,B⟩:=ζg.1 c;have⟨k,g⟩:=qy.1 d;cases B;exact nW.2 ⟨k,key k s w g⟩
def Zj{σ ε ρ:Type}{a:RC}{fs:R0}{step:σ->aY (Fw σ ε ρ)}{eσ:σ->St}{eε:ε->Nat×St}{eρ:ρ->St}{s:σ}{B:ε->aY γ}{fr:ρ->aY γ}
 (D:L=kW S c Q (.loop a) fs (eσ s))(h:∀s,Le ((step s).bind λw=>some (Fw.out eσ eε eρ w)) (kW S c some a [] (eσ s)))
 (G:∀x,Le ((B x).bind e) (nP S c Q fs (eε x).1 (eε x).2))(d:∀b,Le ((fr b).bind e) (Q (.ret,eρ b))):Le (((cD step s).bind (Fw.elim B fr)).bind e) L:=by
 subst D;have g:kW S c Q (.loop a) fs (eσ s)=(pH (cN S c a) (eσ s)).bind (FB (nM S c Q fs) (nP S c Q fs) (λst=>Q (.ret,st))):=by unfold kW;rw[E4];rfl
 rw[g];have u:=RU (step:=step) (f:=cN S c a) (eσ:=eσ) (eε:=eε) (eρ:=eρ) (λs=>by rw[Ch];exact h s) s
 cases z:cD step s with
 |none=>exact Le.none _|some w=>
  have C:=u _ (by rw[z];rfl)
  rw[C]
  cases w with
  |n a=>cases a|x a=>exact G a|r a=>exact d a
def Jk{α σ ε ρ:Type}{f:S'->Tb bB->aY (Out×Tb bB)}{step:α->σ->aY (Fw σ ε ρ)}{eI:α->S'}{eσ:σ->Tb bB}{eε:ε->Nat×Tb bB}{eρ:ρ->Tb bB}
 (h:∀x s,Le ((step x s).bind λw=>some (Fw.xY eσ eε eρ w)) (f (eI x) (eσ s))):∀(xs:aX α)(s:σ),Le ((kY step xs s).bind λw=>some (Fw.xY eσ eε eρ w)) (ri f (xs.map eI) (eσ s))
 |[],s=>λr a=>a|x::xs,s=>by simp only[map_cons,ri,kY];cases B:step x s with|none=>exact Le.none _|some w=>have D:=h x s (Fw.xY eσ eε eρ w) (by rw[B];rfl);rw[D];cases w with|n u=>simp only[ζb,Fw.xY];exact Jk h xs u|x e=>exact Le.refl _|r b=>exact Le.refl _
def Yv{α σ ε ρ:Type}{g:Arg}{ps:So}{a b:RC}{fs:R0}{f:Y'}{x y:S'}{d:aX α}{eI:α->S'}{step:α->σ->aY (Fw σ ε ρ)}{eσ:σ->Tb bB}{eε:ε->Nat×Tb bB}{eρ:ρ->Tb bB}{i:Tb SV}{s:σ}
 {fn:σ->aY γ}{B:ε->aY γ}{fr:ρ->aY γ}
 (D:L=kW S c Q (.each g ps a b) fs ⟨i,eσ s,[],[],true,0⟩)(j:rU S.N i g=some (.v (.clo f x y)))(hi:S.items f x y=some (d.map eI))(G:∀x,(eI x).length=ps.length)
 (h:∀x s,Le ((step x s).bind λw=>some (Fw.xY eσ eε eρ w)) (kW S c (Ab S c b) a [] ⟨ye i ps ((eI x).map .v),eσ s,qE i,[],true,0⟩))
 (J:∀s,Le ((fn s).bind e) (nM S c Q fs ⟨i,eσ s,[],[],true,0⟩))
 (T:∀x,Le ((B x).bind e) (nP S c Q fs (eε x).1 ⟨i,(eε x).2,[],[],true,0⟩))(k:∀b,Le ((fr b).bind e) (Q (.ret,⟨i,eρ b,[],[],true,0⟩))):
 Le (((kY step d s).bind (Fw.rO fn B fr)).bind e) L:=by
 subst D;have l:kW S c Q (.each g ps a b) fs ⟨i,eσ s,[],[],true,0⟩=(cN S c (.each g ps a b) ⟨i,eσ s,[],[],true,0⟩).bind (FB (nM S c Q fs) (nP S c Q fs) (λst=>Q (.ret,st))):=by unfold kW;rw[E4]
 rw[l];simp only[cN,j,hi];have u:=Jk (step:=step) (f:=jh ps (cN S c a) (cN S c b) ⟨i,eσ s,[],[],true,0⟩) (eI:=eI) (eσ:=eσ) (eε:=eε) (eρ:=eρ) (λx s=>by rw[ML _ _ _ _ _ _ (G x)];exact h x s) d s
 cases z:kY step d s with
 |none=>exact Le.none _|some w=>
  have C:=u _ (by rw[z];rfl)
  rw[C]
  cases w with
  |n a=>exact J a|x a=>exact T a|r a=>exact k a
end
inductive Fo where
 |rc(c:RC)|ops(dr:Bool)(fr:List Nat)(l:List RO)|nx|ex(k:Nat)|rt
abbrev cr(g:Tb SV)(m:Tb bB):St:=⟨g,m,[],[],true,0⟩
section
variable(S:Sys)(c:bX){β:Type}(Q:Out×St->aY β)
def rn:Fo->R0->St->aY β
 |.rc a,fs,st=>kW S c Q a fs st|.ops dr fr l,fs,st=>wK S c dr fr l (nM S c Q fs) st|.nx,fs,st=>nM S c Q fs st|.ex k,fs,st=>nP S c Q fs k st|.rt,_,st=>Q (.ret,st)
def Ae:Fo->R0->St->aY (Fo×R0×St)
 |.rc .skip,fs,st=>some (.nx,fs,st)|.rc (.ops l),fs,st=>some (.ops false [] l,fs,st)|.rc (.ua l),fs,st=>some (.ops true [] l,fs,st)|.rc (.seq a b),fs,st=>some (.rc a,.seq b::fs,st)|.rc (.cond y a b),fs,st=>match rU S.N st.g y with
  |some (.v (.bool true))=>some (.rc a,fs,st)|some (.v (.bool false))=>some (.rc b,fs,st)|_=>none
 |.rc (.block id a),fs,st=>some (.rc a,.blk id::fs,st)|.rc (.exit k),fs,st=>some (.ex k,fs,st)|.rc .ret,fs,st=>some (.rt,fs,st)|.rc (.gh g a),fs,st=>match ghost g st with
  |some st'=>some (.rc a,fs,st')|none=>none
 |.rc (.hg a g),fs,st=>some (.rc a,.gst g::fs,st)|.rc (.loop _),_,_=>none|.rc (.each ..),_,_=>none|.ops _ _ [],fs,st=>some (.nx,fs,st)|.ops dr fr (⟨d,gd,now,k,az,dd,[]⟩::r),fs,st=>match fH S c dr fr ⟨d,gd,now,k,az,[],[]⟩ st with
  |some st'=>some (.ops dr (if dr then sj fr ⟨d,gd,now,k,az,[],[]⟩else fr) r,fs,ql dd st')|none=>none
 |.ops dr fr (⟨d,gd,now,k,az,dd,x::xs⟩::r),fs,st=>if dr&& !(BE x&&xs.all BE)then none else match ghost x st with
  |some st'=>some (.ops dr fr (⟨d,gd,now,k,az,dd,xs⟩::r),fs,st')|none=>none
 |.nx,.seq b::fs,st=>some (.rc b,fs,st)|.nx,.blk _::fs,st=>some (.nx,fs,st)|.nx,.gst g::fs,st=>match ghost g st with
  |some st'=>some (.nx,fs,st')|none=>none
 |.nx,[],_=>none|.ex k,.seq _::fs,st=>some (.ex k,fs,st)|.ex k,.blk id::fs,st=>some (if k=id then .nx else .ex k,fs,st)|.ex k,.gst _::fs,st=>some (.ex k,fs,st)|.ex _,[],_=>none|.rt,_,_=>none
def iC:Nat->Fo->R0->St->aY (Fo×R0×St)
 |0,fo,fs,st=>some (fo,fs,st)|n+1,fo,fs,st=>match Ae S c fo fs st with
  |some (fo',fs',st')=>iC n fo' fs' st'|none=>none
end
section
variable{S:Sys}{c:bX}{β γ δ:Type}{Q:Out×St->aY β}{e:γ->aY β}
def SC{fo fo':Fo}{fs fs':R0}{st st':St}(h:Ae S c fo fs st=some (fo',fs',st')):rn S c Q fo fs st=rn S c Q fo' fs' st':=by
 cases fo with
 |rc a=>cases a with|cond y a b=>simp only[Ae]at h;split at h;(next u=>cases h;simp only[rn,kW,qi,u,bl,if_true]);(next u=>cases h;simp only[rn,kW,qi,u,bl];rfl);cases h|gh g a=>simp only[Ae]at h;split at h;(next u=>cases h;simp only[rn,kW,qi,u,ζb]);cases h|loop a=>cases h|each g ps a b=>cases h|seq a b=>cases h;simp only[rn,kW,qi,nM,nP]|block id a=>cases h;simp only[rn,kW,qi,nM,nP]|hg a g=>cases h;simp only[rn,kW,qi,nM,nP]|_=>cases h;simp only[rn,kW,qi]
 |ops dr fr l=>cases l with|nil=>cases h;simp only[rn,wK]|cons o r=>have⟨d,gd,now,k,az,dd,pre⟩:=o;cases pre with|nil=>simp only[Ae]at h;split at h;(next u=>cases h;simp only[rn,wK,Dh,RO.strip,ζb,u]);cases h|cons x w=>simp only[Ae]at h;split at h;cases h;rename_i hd;split at h;rename_i u;cases h;(cases dr with|true=>simp only[Bool.true_and,Bool.not_eq_true',Bool.not_eq_false,ζh]at hd;simp only[rn,wK,RO.strip,DC,pJ,if_true,List.all_cons,hd.1,hd.2,Bool.and_self,u,ζb]|false=>simp only[rn,wK,RO.strip,DC,pJ,Bool.false_eq_true,if_false,u,ζb]);cases h
 |nx=>cases fs with|nil=>cases h|cons f fs=>cases f with|seq b=>cases h;simp only[rn,kW,nM]|blk id=>cases h;simp only[rn,nM]|gst g=>simp only[Ae]at h;split at h;(next u=>cases h;simp only[rn,nM,u,ζb]);cases h
 |ex k=>cases fs with|nil=>cases h|cons f fs=>cases f with|seq b=>cases h;simp only[rn,nP]|blk id=>cases h;simp only[rn,nP];by_cases e:k=id;simp only[if_pos e,rn];simp only[if_neg e,rn]|gst g=>cases h;simp only[rn,nP]
 |rt=>cases h
def pM:∀{n:Nat}{fo fo':Fo}{fs fs':R0}{st st':St},iC S c n fo fs st=some (fo',fs',st')->rn S c Q fo fs st=rn S c Q fo' fs' st'
 |0,fo,fo',fs,fs',st,st',h=>by cases h;rfl|n+1,fo,fo',fs,fs',st,st',h=>by simp only[iC]at h;split at h;(next a b d B=>rw[SC B];exact pM h);cases h
def BM{n:Nat}{fo fo':Fo}{fs fs':R0}{st st':St}{m:aY β}(h:iC S c n fo fs st=some (fo',fs',st'))(B:Le m (rn S c Q fo' fs' st')):Le m (rn S c Q fo fs st):=by rw[pM h];exact B
def ZZ{n:Nat}{fo fo':Fo}{fs fs':R0}{st st':St}{r:γ}(h:iC S c n fo fs st=some (fo',fs',st'))(B:rn S c Q fo' fs' st'=e r):Le ((some r).bind e) (rn S c Q fo fs st):=by rw[pM h];exact Le.of_eq B
def TH{m:aY δ}{f:δ->aY γ}{L:aY β}(k:δ->aY β)(B:Le (m.bind k) L)(b:∀r,Le ((f r).bind e) (k r)):Le ((m.bind f).bind e) L:=by intro r a;cases m with|none=>cases a|some x=>exact B r (b x r a)
def Z6{n:Nat}{fo:Fo}{fs fs':R0}{st0:St}{dr:X'}{q l:R'}{fr:So}{st:St}{d:aY Nat}{gd:aY (Nat×X')}{now:X'}{k:K}{az:QP}{dd:So}{m:aY δ}{g:δ->St}{f:δ->aY γ}
 (B:iC S c n fo fs st0=some (.ops dr fr q,fs',st))(D:q=⟨d,gd,now,k,az,dd,[]⟩::l)(a:wanted st.g gd=some true)
 (G:Le (m.bind λx=>some (g x)) (fH S c dr fr ⟨d,none,now,k,az,[],[]⟩ st))
 (h:∀x,m=some x->Le ((f x).bind e) (rn S c Q (.ops dr (if dr then sj fr ⟨d,gd,now,k,az,[],[]⟩else fr) l) fs' (ql dd (g x)))):Le ((m.bind f).bind e) (rn S c Q fo fs st0):=by
 rw[pM B];subst D;simp only[rn,wK,RO.strip,Dh,ζb];rw[PX a]
 cases m with
 |none=>exact Le.none _|some x=>rw[G (g x) rfl];exact h x rfl
def Ud{n:Nat}{fo:Fo}{fs fs':R0}{st0:St}{dr:X'}{q l:R'}{fr:So}{st st':St}{d:aY Nat}{gd:aY (Nat×X')}{now:X'}{k:K}{az:QP}{dd:So}{m:aY β}
 (B:iC S c n fo fs st0=some (.ops dr fr q,fs',st))(D:q=⟨d,gd,now,k,az,dd,[]⟩::l)(a:wanted st.g gd=some true)
 (G:fH S c dr fr ⟨d,none,now,k,az,[],[]⟩ st=some st')
 (h:Le m (rn S c Q (.ops dr (if dr then sj fr ⟨d,gd,now,k,az,[],[]⟩else fr) l) fs' (ql dd st'))):Le m (rn S c Q fo fs st0):=by
 rw[pM B];subst D;simp only[rn,wK,RO.strip,Dh,ζb];rw[PX a,G];exact h
def O7{n:Nat}{fo:Fo}{B:R0}{st:St}{σ ε ρ:Type}{a:RC}{fs:R0}{step:σ->aY (Fw σ ε ρ)}{eσ:σ->St}{eε:ε->Nat×St}{eρ:ρ->St}{s:σ}{D:ε->aY γ}{fr:ρ->aY γ}
 (G:iC S c n fo B st=some (.rc (.loop a),fs,eσ s))(h:∀s,Le ((step s).bind λw=>some (Fw.out eσ eε eρ w)) (rn S c some (.rc a) [] (eσ s)))
 (J:∀x,Le ((D x).bind e) (rn S c Q (.ex (eε x).1) fs (eε x).2))(d:∀b,Le ((fr b).bind e) (Q (.ret,eρ b))):Le (((cD step s).bind (Fw.elim D fr)).bind e) (rn S c Q fo B st):=by
 rw[pM G];exact Zj (L:=rn S c Q (.rc (.loop a)) fs (eσ s)) rfl h J d
def XP{n:Nat}{fo:Fo}{B:R0}{st:St}{α σ ε ρ:Type}{g:Arg}{ps:So}{a b:RC}{fs:R0}{f:Y'}{x y:S'}{d:aX α}{eI:α->S'}{step:α->σ->aY (Fw σ ε ρ)}{eσ:σ->Tb bB}{eε:ε->Nat×Tb bB}{eρ:ρ->Tb bB}{i:Tb SV}{s:σ}
 {fn:σ->aY γ}{D:ε->aY γ}{fr:ρ->aY γ}
 (G:iC S c n fo B st=some (.rc (.each g ps a b),fs,cr i (eσ s)))(j:rU S.N i g=some (.v (.clo f x y)))(hi:S.items f x y=some (d.map eI))(J:∀x,(eI x).length=ps.length)
 (h:∀x s,Le ((step x s).bind λw=>some (Fw.xY eσ eε eρ w)) (rn S c (Ab S c b) (.rc a) [] ⟨ye i ps ((eI x).map .v),eσ s,qE i,[],true,0⟩))
 (T:∀s,Le ((fn s).bind e) (rn S c Q .nx fs (cr i (eσ s))))
 (U:∀x,Le ((D x).bind e) (rn S c Q (.ex (eε x).1) fs (cr i (eε x).2)))(k:∀b,Le ((fr b).bind e) (Q (.ret,cr i (eρ b)))):
 Le (((kY step d s).bind (Fw.rO fn D fr)).bind e) (rn S c Q fo B st):=by
 rw[pM G];exact Yv (L:=rn S c Q (.rc (.each g ps a b)) fs (cr i (eσ s))) rfl j hi J h T U k
def Xs{b:RC}{st st':St}{m:aY (Out×Tb bB)}{fs:R0}{n:Nat}{fo:Fo}(h:iC S c n fo fs st=some (.nx,[],st'))(B:Le m (rn S c xY (.rc b) [] st')):Le m (rn S c (Ab S c b) fo fs st):=by rw[pM h];exact B
def Zi{α:Type}{n:Nat}{fo fo':Fo}{fs fs':R0}{st:St}{A:aY α->St}{o:aY α}{f:α->aY γ}(h:iC S c n fo fs st=some (fo',fs',A o))
 (B:∀x,o=some x->Le ((f x).bind e) (rn S c Q fo' fs' (A (some x)))):Le ((o.bind f).bind e) (rn S c Q fo fs st):=by
 rw[pM h]
 cases o with
 |none=>exact Le.none _|some x=>exact B x rfl
def aab{T:qv}{f:Y'}{rf:RF}{az:S'}{m:aY S'}(B:T f=some rf)(D:az.length<=rf.na)(h:Le m (rn S (dm S T) (qc rf.rs) (.rc rf.body) [] (start (az.map .v) []))):Le m (kf (dm S T) f az):=by rw[V9 B az D];exact h
end
section
variable{α:Type}[bt α]
abbrev cv(x:α):SV:=.v (enc x)
abbrev cp(x:α):SV:=.v (.fptr (cells x))
abbrev bx(x:α):bB:=.box ((cells x).map .v)
end
structure iu(S:Sys)(c:bX){α δ:Type}(fn:FuncId)(A:α->List V)(E:δ->List V)(p:α->Option δ)(sc:Bool):Prop where
 k:S.E.keep fn=false
 h:∀z,Le ((p z).bind λr=>some (E r)) (kf c fn (A z))
 s:sc=true->∀r,(result (E r)).scalar=true
section
variable{S:Sys}{c:bX}{β γ δ α:Type}{Q:Out×St->aY β}{e:γ->aY β}{fo:Fo}{fs:R0}{st0:St}{l:R'}{d:aY Nat}{gd:aY (Nat×X')}{now:X'}{az:QP}{dd:So}
abbrev uG(S:Sys)(c:bX)(Q:Out×St->aY β)(dr:Bool)(fr:aX Nat)(d:aY Nat)(k:K)(l:aX RO)(fs:aX Fm)(dd:aX Nat)(st:St):aY β:=rn S c Q (.ops dr (if dr then(match k with|.p _|.r _=>fr|_=>match d with|some d=>d::fr|none=>fr)else fr) l) fs (ql dd st)
def HI(fr:So)(k:K):sj fr ⟨d,gd,now,k,az,[],[]⟩=(match k with|.p _|.r _=>fr|_=>match d with|some d=>d::fr|none=>fr):=by cases k<;>cases d<;>rfl
def Gf{n:Nat}{dr:X'}{fr:So}{q:R'}{fs':R0}{st:St}{k:K}{m:aY δ}{g:δ->St}{f:δ->aY γ}
 (B:iC S c n fo fs st0=some (.ops dr fr q,fs',st))(D:q=⟨d,gd,now,k,az,dd,[]⟩::l)(a:wanted st.g gd=some true)
 (G:Le (m.bind λx=>some (g x)) (fH S c dr fr ⟨d,none,now,k,az,[],[]⟩ st))
 (h:∀x,m=some x->Le ((f x).bind e) (uG S c Q dr fr d k l fs' dd (g x))):Le ((m.bind f).bind e) (rn S c Q fo fs st0):=
 Z6 B D a G (λx u=>by rw[HI];grind)
def sO{n:Nat}{dr:X'}{fr:So}{q:R'}{fs':R0}{st st':St}{k:K}{m:aY β}
 (B:iC S c n fo fs st0=some (.ops dr fr q,fs',st))(D:q=⟨d,gd,now,k,az,dd,[]⟩::l)(a:wanted st.g gd=some true)
 (G:fH S c dr fr ⟨d,none,now,k,az,[],[]⟩ st=some st')(h:Le m (uG S c Q dr fr d k l fs' dd st')):Le m (rn S c Q fo fs st0):=
 Ud B D a G (by rw[HI];omega)
section
variable[bt α]
def S8(n:Nat)(dr:X')(fr:So)(q:R')(fs':R0)(st:St)(k:T'){sz:Nat}{s:Sl α}{i:Int}{f:α->aY γ}(D:q=⟨d,gd,now,.p (.idxS sz),az,dd,[]⟩::l)
 (B:(iC S c n fo fs st0,wanted st.g gd,bW S.N st.g az,sz)=(some (.ops dr fr q,fs',st),some true,some [.v (cq s),.v (.int k i)],bt.size α))
 (h:∀x,idx s i=some x->Le ((f x).bind e) (uG S c Q dr fr d (.p (.idxS sz)) l fs' dd (dn st d (cp x)))):Le (((idx s i).bind f).bind e) (rn S c Q fo fs st0):=by
 simp at B;exact Gf B.1 D B.2.1 (Le.of_eq (TV B.2.2.1 B.2.2.2)) h
def XM(n:Nat)(dr:X')(fr:So)(q:R')(fs':R0)(st:St)(s:Sl α){m:aY β}(D:q=⟨d,gd,now,.p .lenSl,az,dd,[]⟩::l)
 (B:(iC S c n fo fs st0,wanted st.g gd,bW S.N st.g az)=(some (.ops dr fr q,fs',st),some true,some [.v (cq s)]))
 (h:Le m (uG S c Q dr fr d (.p .lenSl) l fs' dd (dn st d (.v (.int .i64 s.l.length))))):Le m (rn S c Q fo fs st0):=by
 simp at B;exact sO B.1 D B.2.1 (Uq B.2.2) h
end
section
variable{q:R'}{fs':R0}
end
def Kz(m:Tb bB)(n:Nat)(l:S'):oT (js m n) (l.map .v)=some l:=by rw[<-(zJ m n).2,qw]
variable{A:α->S'}{E:δ->S'}{p:α->aY δ}{fn:Y'}{sc:X'}
end
abbrev iv(n:Int):SV:=.v (.int .i64 n)
abbrev bv(b:Bool):SV:=.v (.bool b)
abbrev len{α:Type}(s:Sl α):Int:=((List.length (Sl.l s):Nat):Int)
abbrev o1(d:Nat)(a:Arg)(dd:aX Nat):RO:=⟨some d,none,false,.p .id,[a],dd,[]⟩
abbrev o2(d:Nat)(k:K)(az:aX Arg)(dd:aX Nat):RO:=⟨some d,none,false,k,az,dd,[]⟩
abbrev o3(d s:Nat)(b:Bool)(k:K)(az:aX Arg)(dd:aX Nat):RO:=⟨some d,some (s,b),false,k,az,dd,[]⟩
def XA(a b:a_):X':=[a.proc,a.index]==[b.proc,b.index]
section
variable{α:Type}[bt α]
def wz(h:bt.agg α=false)(a:α):cells a=[enc a]:=by
 have u:(cells a).length=1:=by rw[show(cells a).length=_ from bt.len a,bt.plain h]
 unfold enc;rw[if_neg (by simp[h])];match b:cells a,u with|[x],_=>rfl
def B9(h:bt.agg α=true)(a:α):enc a=.agg (cells a):=by unfold enc;grind
def jM(a:α):V.good (enc a)=true:=by have h:V.cQ (cells a)=true:=bt.good a;cases u:bt.agg α with|true=>rw[B9 u];exact h|false=>rw[wz u]at h;simp[V.cQ]at h;omega
def mX(s:Sl α):V.one (enc s)=true:=Hy s
def SO(s:α)(h:bt.agg α=false):V.one (enc s)=true:=by have:=bt.one s;rw[show bt.cells s=cells s from rfl,wz h]at this;grind
end
instance{α:Type}[bt α]:bt (aY α)where
 cells o:=[match o with|none=>.iF|some x=>.fptr (cells x)]
 agg:=false
 size:=1
 len _:=rfl
 good o:=by cases o with|none=>rfl|some x=>simp only[V.cQ,V.good,Bool.and_true];exact bt.good x
 one o:=by cases o<;>rfl
 plain _:=rfl
structure U8 where
 v:Int
 deriving Inhabited,DecidableEq
instance:bt U8 where
 cells n:=[.int .u8 n.v]
 agg:=false
 size:=1
 len _:=rfl
 good _:=rfl
 one _:=rfl
 plain _:=rfl
structure U64 where
 v:Int
 deriving Inhabited,DecidableEq
instance:bt U64 where
 cells n:=[.int .u64 n.v]
 agg:=false
 size:=1
 len _:=rfl
 good _:=rfl
 one _:=rfl
 plain _:=rfl
structure U32 where
 v:Int
 deriving Inhabited,DecidableEq
instance:bt U32 where
 cells n:=[.int .u32 n.v]
 agg:=false
 size:=1
 len _:=rfl
 good _:=rfl
 one _:=rfl
 plain _:=rfl
structure I32 where
 v:Int
 deriving Inhabited,DecidableEq
instance:bt I32 where
 cells n:=[.int .i32 n.v]
 agg:=false
 size:=1
 len _:=rfl
 good _:=rfl
 one _:=rfl
 plain _:=rfl
structure ki(S:Sys)(c:bX){α δ:Type}(g:FuncId)(w e:List V)(A:α->List V)(R:δ->List V)(p:α->Option δ)(b:Bool):Prop where
 f:iu S c g (λz=>w++A z++e) R p b
section
variable{S:Sys}{c:bX}{β γ δ α:Type}{Q:Out×St->aY β}{e:γ->aY β}{fo:Fo}{fs:R0}{st0:St}{l:R'}{d:aY Nat}{gd:aY (Nat×X')}{now:X'}{az:QP}{dd:So}
def jq{α:Type}[bt α](a:α):V.cells (enc a)=cells a:=by cases u:bt.agg α with|true=>rw[B9 u];rfl|false=>have b:=SO a u;rw[wz u];cases h:enc a<;>first|rfl|(rw[h]at b;cases b)
def u_{α:Type}[bt α](a:α):(cells a).all V.one=true:=bt.one a
def iw{α:Type}[bt α](a:α):(cells a).length=bt.size α:=bt.len a
def Ast[bt α](n:Nat)(dr:X')(fr:So)(q:R')(fs':R0)(st:St)(u o:Nat)(x:α)(cs B:ST){sz:Nat}{m:aY β}(G:q=⟨d,gd,now,.l (.store sz),az,dd,[]⟩::l)
 (D:(iC S c n fo fs st0,wanted st.g gd,bW S.N st.g az,bh st.m u,(!dr||now),sz,ble (o+sz) cs.length,cs.take o++(cells x).map .v++cs.drop (o+sz))=(some (.ops dr fr q,fs',st),some true,some [.ptr u o,cv x],some (.box cs),true,bt.size α,true,B))
 (h:Le m (uG S c Q dr fr d (.l (.store sz)) l fs' dd (dn {st with m:=bF st.m u (.box B)} d (.v .undef)))):Le m (rn S c Q fo fs st0):=by
 simp only[ζc]at D;have⟨a,w,z,C,I,J,L,O⟩:=D;refine sO a G w ?_ h;rw[yo,z];subst J;have T:=Nat.le_of_ble_eq_true L;simp only[ζb,I,if_true,nh,C,putCells,jq,iw,u_,T,and_self,O,map_some]
def A2{α:Type}[bt α]:∀(xs:aX α)(pre:T2)(B:T2),B.length=xs.length->fK (bt.size α) (pre++B) ((range' pre.length xs.length).zip (xs.map enc))=some (pre++rows xs)
 |[],pre,B,h=>by have:=List.eq_nil_of_length_eq_zero h;subst this;rfl|x::xs,pre,s::B,h=>by simp only[length_cons,List.range'_succ,map_cons,List.zip_cons_cons,fK,jq,iw,u_];have:=A2 xs (pre++[cells x]) B Zac;simp only[ζi,length_cons,length_nil]at this;have e:(pre++s::B).set pre.length (cells x)=pre++[cells x]++B:=Zab;rw[e,this];simp[rows]
def Abs[bt α](n:Nat)(dr:X')(fr:So)(q:R')(fs':R0)(st:St)(xs:aX α){u sz ln:Nat}{zero:S'}{ix:So}{m:aY β}(D:q=⟨some u,gd,now,.a (.buildSl sz ln zero ix),az,dd,[]⟩::l)
 (G:st.new u=true)(B:(iC S c n fo fs st0,wanted st.g gd,bW S.N st.g az,sz,ln,ix)=(some (.ops dr fr q,fs',st),some true,some ((xs.map enc).map .v),bt.size α,xs.length,range' 0 xs.length))
 (h:Le m (uG S c Q dr fr (some u) (.a (.buildSl sz ln zero ix)) l fs' dd {st with g:=bF st.g u (.own u),m:=bF st.m u (cF (.row xs))})):Le m (rn S c Q fo fs st0):=by
 simp only[ζc]at B;have⟨a,w,z,C,I,J⟩:=B;subst C I J;refine sO a D w ?_ h;rw[EV,z];simp only[ζb,G,qV,jR,List.length_range',length_map];have:=A2 xs [] (replicate xs.length zero) Zab
 simp at this;rw[this];rfl
def Z8[bt α](n:Nat)(dr:X')(fr:So)(q:R')(fs':R0)(st:St)(x:α)(vs:S'){z:S'}{pl:aX (Nat×Nat)}{m:aY β}(D:q=⟨d,gd,now,.p (.build z pl),az,dd,[]⟩::l)
 (hp:lH z pl vs=some (cells x))(G:bt.agg α=true)
 (B:(iC S c n fo fs st0,wanted st.g gd,bW S.N st.g az)=(some (.ops dr fr q,fs',st),some true,some (vs.map .v)))
 (h:Le m (uG S c Q dr fr d (.p (.build z pl)) l fs' dd (dn st d (cv x)))):Le m (rn S c Q fo fs st0):=by
 simp at B;refine sO B.1 D B.2.1 (Dk B.2.2 rfl ?_) h;unfold kG;rw[jR];simp only[RI,hp,map_some];show some (SV.v (.agg (cells x)))=some (.v (enc x));rw[B9 G]
section
variable[bt α]
def ZW(n:Nat)(dr:X')(fr:So)(q:R')(fs':R0)(st:St)(lo hi:X')(D:S'){sz:Nat}{s:Sl α}{a b:Pi}{f:Sl α->aY γ}(G:q=⟨d,gd,now,.p (.slice sz lo hi),az,dd,[]⟩::l)
 (B:(iC S c n fo fs st0,wanted st.g gd,bW S.N st.g az,nq lo hi D,sz)=(some (.ops dr fr q,fs',st),some true,some (.v (cq s)::D.map .v),some (a,b),bt.size α))
 (h:∀x,iP s a b=some x->Le ((f x).bind e) (uG S c Q dr fr d (.p (.slice sz lo hi)) l fs' dd (dn st d (.v (cq x))))):Le (((iP s a b).bind f).bind e) (rn S c Q fo fs st0):=by
 simp at B;refine Gf B.1 G B.2.1 (Le.of_eq ?_) h;have w:=B.2.2.1;unfold fH mH;simp[wanted,fV,w];have u:kG S.N st.m (.slice sz lo hi) ((cq s::D).map .v)=(iP s a b).bind λx=>some (.v (cq x)):=by unfold kG;rw[jR];simp[bN,B.2.2.2.1,Oz s a b sz B.2.2.2.2];cases iP s a b<;>rfl
 simp at u⊢;rw[u];cases iP s a b<;>rfl
def pN(s:Sl α)(lo hi:Pi):aY (Sl α):=
 match s with
 |.nil|.emp=>none|.row x|.part x=>(ec x.length lo hi).map λ(l,h)=>.part ((x.take h).drop l)
def Zm(n:Nat)(fr:So)(q:R')(fs':R0)(st:St)(lo hi:X')(u:Nat)(D:S'){t sz:Nat}{s:Sl α}{a b:Pi}{f:Sl α->aY γ}(J:q=⟨some t,gd,now,.p (.slice sz lo hi),az,dd,[]⟩::l)
 (G:St.new {st with m:=dL u st.m} t=true)(B:(iC S c n fo fs st0,wanted st.g gd,bW S.N st.g az,nq lo hi D,bh st.m u,sz)=(some (.ops false fr q,fs',st),some true,some (.own u::D.map .v),some (a,b),some (cF s),bt.size α))
 (h:∀x,pN s a b=some x->Le ((f x).bind e) (uG S c Q false fr (some t) (.p (.slice sz lo hi)) l fs' dd {st with g:=bF st.g t (.own t),m:=bF (dL u st.m) t (cF x)})):Le (((pN s a b).bind f).bind e) (rn S c Q fo fs st0):=by
 simp at B;refine Gf B.1 J B.2.1 (Le.of_eq ?_) h;have⟨_,_,z,w,C,I⟩:=B;subst I;unfold fH mH;simp[wanted,fV,z,BO,jR,C,w]
 cases s with
 |nil=>simp[pN,cF,Sl.k,bY]|emp=>simp[pN,cF,Sl.k,bY]|row x=>
  simp[cF,Sl.k,Sl.l,bY,pN,h_,w]
  cases ec x.length a b with
  |none=>rfl|some r=>simp[G,dn,rows,map_drop]
 |part x=>
  simp[cF,Sl.k,Sl.l,bY,pN,h_,w]
  cases ec x.length a b with
  |none=>rfl|some r=>simp[G,dn,rows,map_drop]
end
end
structure bU(n:Nat)(α:Type)where
 l:List α
 len:l.length=n
def S9{α:Type}[bt α](l:aX α):(l.map (cells (α:=α))).flatten.length=l.length*bt.size α:=by induction l with|nil=>simp|cons a l u=>simp[u,iw,add_mul,Nat.add_comm]
def Ql{α:Type}[bt α](l:aX α):V.cQ (l.map (cells (α:=α))).flatten=true:=by induction l with|nil=>rfl|cons a l u=>have h:∀(x y:S'),V.cQ x=true->V.cQ y=true->V.cQ (x++y)=true:=(by intro x;induction x with|nil=>grind|cons b x w=>intro y c z;simp[V.cQ]at c⊢;grind);exact h _ _ (bt.good a) u
instance{n:Nat}{α:Type}[bt α]:bt (bU n α)where
 cells a:=(a.l.map cells).flatten
 agg:=true
 size:=n*bt.size α
 len a:=by rw[S9,a.len]
 good a:=Ql a.l
 one a:=by have:∀l:aX α,(l.map (cells (α:=α))).flatten.all V.one=true:=(by intro l;induction l with|nil=>rfl|cons a l u=>simp only[map_cons,flatten_cons,List.all_append,u,u_,Bool.and_self]);exact this a.l
 plain h:=by cases h
def bU.QG(n:Nat){α:Type}(z:α):bU n α:=⟨replicate n z,Zab⟩
def bU.at{n:Nat}{α:Type}(a:bU n α)(i:Int):aY α:=if 0<=i then a.l[i.toNat]?else none
def bU.set{n:Nat}{α:Type}(a:bU n α)(i:Int)(x:α):bU n α:=⟨a.l.set i.toNat x,by simp[a.len]⟩
def pa{n:Nat}{α:Type}[bt α](a:bU n α)(i:Int):S':=(cells a).drop (i.toNat*bt.size α)
def bU.wV{n:Nat}{α:Type}{a:bU n α}{i:Int}{x:α}(h:a.at i=some x):0<=i/\i.toNat<n/\a.l[i.toNat]?=some x:=by
 unfold bU.at at h;split at h;next hi=>refine⟨hi,?_,h⟩;have:=(ζe.1 h).1;rw[<-a.len];simp_all
 simp_all
def G0{α:Type}[bt α]:∀(l:aX α)(k:Nat),((l.map (cells (α:=α))).flatten).drop (k*bt.size α)=((l.drop k).map (cells (α:=α))).flatten
 |[],k=>Zab|a::l,0=>Zab|a::l,k+1=>by have h:=iw a;rw[map_cons,flatten_cons,List.drop_succ_cons,<-G0 l k,add_mul,one_mul,Nat.add_comm,<-h,List.drop_length_add_append]
def Ci{n:Nat}{α:Type}[bt α]{a:bU n α}{i:Int}{x:α}(h:a.at i=some x):∃r,pa a i=cells x++r:=by have⟨b,B,w⟩:=bU.wV h;have⟨u,z⟩:=ζe.1 w;refine⟨((a.l.drop (i.toNat+1)).map cells).flatten,?_⟩;show((a.l.map (cells)).flatten).drop (i.toNat*bt.size α)=_;rw[G0,List.drop_eq_getElem_cons u,map_cons,flatten_cons,z]
section
variable{S:Sys}{c:bX}{β γ δ α:Type}{Q:Out×St->aY β}{e:γ->aY β}{fo:Fo}{fs:R0}{st0:St}{l:R'}{d:aY Nat}{gd:aY (Nat×X')}{now:X'}{az:QP}{dd:So}
section
variable{N:Nat}[bt α]
def Y7(n:Nat)(dr:X')(fr:So)(q:R')(fs':R0)(st:St)(k:T'){ln sz:Nat}{a:bU N α}{i:Int}{f:α->aY γ}(D:q=⟨d,gd,now,.p (.idxA ln sz),az,dd,[]⟩::l)
 (B:(iC S c n fo fs st0,wanted st.g gd,bW S.N st.g az,sz,ln)=(some (.ops dr fr q,fs',st),some true,some [cp a,.v (.int k i)],bt.size α,N))
 (h:∀x,a.at i=some x->Le ((f x).bind e) (uG S c Q dr fr d (.p (.idxA ln sz)) l fs' dd (dn st d (.v (.fptr (pa a i)))))):Le (((a.at i).bind f).bind e) (rn S c Q fo fs st0):=by
 simp at B;have⟨g,w,z,C,G⟩:=B;subst C G;refine Gf g D w ?_ h;intro r b;have⟨x,I,b⟩:=ζg.1 b;have⟨g1,g2,_⟩:=bU.wV I;rw[Dk z rfl ?_]
 .omega
 rw[u9];simp[bN,yq];have u:i.toNat*bt.size α<=(cells a).length:=by rw[iw];exact Nat.mul_le_mul_right _ (Nat.le_of_lt g2)
 rw[if_pos ⟨g1,Zaa⟩,if_pos u]
 rfl
def aah(n:Nat)(dr:X')(fr:So)(q:R')(fs':R0)(st:St)(a:bU N α)(i:Int)(o:Nat)(x:α)(D:a.at i=some x){k:Nat}{m:aY β}(G:q=⟨d,gd,now,.p (.fieldAddr k),az,dd,[]⟩::l)
 (B:(iC S c n fo fs st0,wanted st.g gd,bW S.N st.g az,ble (o+k) (bt.size α))=(some (.ops dr fr q,fs',st),some true,some [.v (.fptr ((pa a i).drop o))],true))
 (h:Le m (uG S c Q dr fr d (.p (.fieldAddr k)) l fs' dd (dn st d (.v (.fptr ((pa a i).drop (o+k))))))):Le m (rn S c Q fo fs st0):=by
 simp only[ζc]at B;have⟨b,u,w,z⟩:=B;refine sO b G u (Dk w rfl ?_) h;have C:=Nat.le_of_ble_eq_true z;have⟨r,e⟩:=Ci D;have I:(pa a i).length>=bt.size α:=by rw[e,ζi,iw];omega
 rw[JQ,Io,if_pos Zac,drop_drop]
 rfl
def Zn(n:Nat)(dr:X')(fr:So)(q:R')(fs':R0)(st:St)(a:bU N α)(i:Int)(o:Nat)(x:α)(G:a.at i=some x){sz:Nat}{ag:X'}{v:V}(g:(cut (cells x) o sz).bind (mk ag)=some v)(B:V){m:aY β}(J:q=⟨d,gd,now,.r (.load sz ag),az,dd,[]⟩::l)
 (D:(iC S c n fo fs st0,wanted st.g gd,bW S.N st.g az,v)=(some (.ops dr fr q,fs',st),some true,some [.v (.fptr ((pa a i).drop o))],B))
 (h:Le m (uG S c Q dr fr d (.r (.load sz ag)) l fs' dd (dn st d (.v B)))):Le m (rn S c Q fo fs st0):=by
 simp at D;obtain⟨e,z,C,rfl⟩:=D;refine sO e J z ?_ h;rw[Ib,C];have b:fD fr [SV.v (.fptr ((pa a i).drop o))]=true:=rfl;simp[b,PW];have⟨r,f⟩:=Ci G;rw[f];have j:cut ((cells x++r).drop o) 0 sz=cut (cells x) o sz:=by cases u:cut (cells x) o sz with|none=>grind|some w=>unfold cut at u⊢;dsimp only at u⊢;split at u;have e1:(List.drop 0 (List.drop o (cells x++r))).take sz=((cells x).drop o).take sz:=(by have I:sz=0\/o<=(cells x).length:=(by grind);grind);grind;grind
 cases u:cut (cells x) o sz with
 |none=>grind|some w=>grind
def X1(n:Nat)(dr:X')(fr:So)(q:R')(fs':R0)(st:St)(cs:ST){u sz:Nat}{zero:S'}{m:aY β}(D:q=⟨some u,gd,now,.a (.alloc sz zero),az,dd,[]⟩::l)
 (G:st.new u=true)(B:(iC S c n fo fs st0,wanted st.g gd,bW S.N st.g az,zero.map SV.v)=(some (.ops dr fr q,fs',st),some true,some [],cs))
 (h:Le m (uG S c Q dr fr (some u) (.a (.alloc sz zero)) l fs' dd {st with g:=bF st.g u (.ptr u 0),m:=bF st.m u (.box cs)})):Le m (rn S c Q fo fs st0):=by
 simp at B;have⟨a,w,z,C⟩:=B;subst C;refine sO a D w ?_ h;rw[EV,z];simp[G,qV]
def vk(d:Nat)(l:S'):SV.dF d (l.map .v)=false:=by induction l with|nil=>rfl|cons a l u=>simp[SV.dF,SV.cM,u]
def uK{α:Type}[bt α](d:Nat)(x:α):bB.cM d (bx x)=false:=vk d (cells x)
def Zl(n:Nat)(dr:X')(fr:So)(q:R')(fs':R0)(st:St)(k:T')(u:Nat){ln sz:Nat}{a:bU N α}{i:Int}{f:α->aY γ}(D:q=⟨d,gd,now,.p (.idxA ln sz),az,dd,[]⟩::l)
 (B:(iC S c n fo fs st0,wanted st.g gd,bW S.N st.g az,sz,ln,bh st.m u)=(some (.ops dr fr q,fs',st),some true,some [.ptr u 0,.v (.int k i)],bt.size α,N,some (bx a)))
 (h:∀x,a.at i=some x->Le ((f x).bind e) (uG S c Q dr fr d (.p (.idxA ln sz)) l fs' dd (dn st d (.ptr u (i.toNat*bt.size α+0))))):Le (((a.at i).bind f).bind e) (rn S c Q fo fs st0):=by
 simp at B;have⟨g,w,z,I,J,C⟩:=B;refine Gf g D w ?_ h;intro r b;have⟨x,G,b⟩:=ζg.1 b;have⟨g1,g2,_⟩:=bU.wV G;rw[Dk z rfl ?_]
 .omega
 simp[kG,dy,B2,C]
 grind
def RD{a:bU N α}{i:Int}{o:Nat}{x:α}(B:a.at i=some x){sz:Nat}{ag:X'}{v:V}(c:(cut (cells x) o sz).bind (mk ag)=some v):wO sz ag ((((cells a).map SV.v).drop (i.toNat*bt.size α+o)).take sz)=some (.v v):=by
 have⟨r,d⟩:=Ci B;have e1:(((cells a).map SV.v).drop (i.toNat*bt.size α+o)).take sz=(((cells x).drop o).take sz).map SV.v:=by have u:((cells x).drop o).take sz=((cells x++r).drop o).take sz:=(by cases b:cut (cells x) o sz with|none=>grind|some w=>unfold cut at b;dsimp only at b;split at b;have C:sz=0\/o<=(cells x).length:=(by grind);grind;simp_all);rw[u,<-d,pa,drop_drop,map_take,map_drop]
 rw[e1];unfold wO;cases b:cut (cells x) o sz with|none=>grind|some w=>rw[b]at c;unfold cut at b;dsimp only at b;split at b;rename_i z;cases b;simp only[length_map,z];unfold mk at c;(cases ag with|true=>simp only[if_true]at c⊢;cases c;rw[jR]|false=>grind);simp_all
def YP(n:Nat)(dr:X')(fr:So)(q:R')(fs':R0)(st:St)(u:Nat)(a:bU N α)(i:Int)(o:Nat)(x:α)(G:a.at i=some x){sz:Nat}{ag:X'}{v:V}(e:(cut (cells x) o sz).bind (mk ag)=some v)(B:V){m:aY β}(J:q=⟨d,gd,now,.r (.load sz ag),az,dd,[]⟩::l)
 (D:(iC S c n fo fs st0,wanted st.g gd,bW S.N st.g az,v,bh st.m u,(!dr||now||fD fr [.ptr u 0]))=(some (.ops dr fr q,fs',st),some true,some [.ptr u (i.toNat*bt.size α+o)],B,some (bx a),true))
 (h:Le m (uG S c Q dr fr d (.r (.load sz ag)) l fs' dd (dn st d (.v B)))):Le m (rn S c Q fo fs st0):=by
 simp only[ζc]at D;obtain⟨f,w,z,rfl,C,I⟩:=D;refine sO f J w ?_ h;rw[Ib,z];have b:(!dr||now||fD fr [SV.ptr u (i.toNat*bt.size α+o)])=true:=I;simp only[ζb,b,aac,C,QT];rw[RD G e];rfl
def QE{N:Nat}(a:bU N α)(i:Int)(y:α)(h:i.toNat<N):cells (a.set i y)=(cells a).take (i.toNat*bt.size α)++cells y++(cells a).drop ((i.toNat+1)*bt.size α):=by
 have key:∀(l:aX α)(k:Nat),k<l.length->((l.set k y).map (cells)).flatten=(l.map (cells)).flatten.take (k*bt.size α)++cells y++(l.map (cells)).flatten.drop ((k+1)*bt.size α):=by intro l;induction l with|nil=>grind|cons b l u=>intro k h;have w:=iw b;cases k with|zero=>grind|succ k=>simp only[map_cons,flatten_cons];have e1:(k+1)*bt.size α=(cells b).length+k*bt.size α:=Zac;have e2:(k+1+1)*bt.size α=(cells b).length+(k+1)*bt.size α:=Zac;rw[e2,List.drop_length_add_append];grind
 exact key a.l i.toNat (by rw[a.len];omega)
def Yq(n:Nat)(dr:X')(fr:So)(q:R')(fs':R0)(st:St)(u:Nat)(a:bU N α)(i:Int)(o:Nat)(x:α)(B:a.at i=some x)(y:α)(v:V){sz:Nat}(G:cells y=(cells x).take o++v.cells++(cells x).drop (o+sz)){m:aY β}(J:q=⟨d,gd,now,.l (.store sz),az,dd,[]⟩::l)
 (D:(iC S c n fo fs st0,wanted st.g gd,bW S.N st.g az,bh st.m u,(!dr||now),v.cells.length,v.cells.all V.one,ble (o+sz) (bt.size α))=(some (.ops dr fr q,fs',st),some true,some [.ptr u (i.toNat*bt.size α+o),.v v],some (bx a),true,sz,true,true))
 (h:Le m (uG S c Q dr fr d (.l (.store sz)) l fs' dd (dn {st with m:=bF st.m u (bx (a.set i y))} d (.v .undef)))):Le m (rn S c Q fo fs st0):=by
 simp only[ζc]at D;have⟨b,z,C,I,L,O,T,U⟩:=D;refine sO b J z ?_ h;rw[yo,C];have X:=Nat.le_of_ble_eq_true U;have⟨g1,g2,g3⟩:=bU.wV B;have W:i.toNat*bt.size α+o+sz<=((cells a).map SV.v).length:=by rw[length_map,iw];have:(i.toNat+1)*bt.size α<=N*bt.size α:=Nat.mul_le_mul_right _ g2;rw[add_mul,one_mul]at this;show _<=N*bt.size α;omega
 simp only[ζb,L,if_true,nh,I,putCells,O,T,W,and_self,map_some];have⟨r,f⟩:=Ci B;have e:((cells a).map SV.v).take (i.toNat*bt.size α+o)++v.cells.map .v++((cells a).map SV.v).drop (i.toNat*bt.size α+o+sz)=(cells (a.set i y)).map SV.v:=by rw[QE a i y g2,G];have hd:(cells a).drop (i.toNat*bt.size α)=cells x++r:=f;have w:=iw x;have e1:(cells a).take (i.toNat*bt.size α+o)=(cells a).take (i.toNat*bt.size α)++(cells x).take o:=(by rw[List.take_add,hd,List.take_append_of_le_length Zaa]);have e2:(cells a).drop (i.toNat*bt.size α+o+sz)=(cells x).drop (o+sz)++(cells a).drop ((i.toNat+1)*bt.size α):=(by have e3:(cells a).drop ((i.toNat+1)*bt.size α)=r:=(by rw[add_mul,one_mul,<-drop_drop,hd,<-w,List.drop_left]);rw[e3,Nat.add_assoc,<-drop_drop,hd,List.drop_append_of_le_length Zaa]);rw[<-map_take,<-map_drop,e1,e2];grind
 rw[e]
end
def Uz{α:Type}[bt α]{m:Tb bB}{d:Nat}{x:α}{vs:S'}(h:bh m d=some (bx x)):oT (js m 8) (.ptr d 0::vs.map .v)=some (.fptr (cells x)::vs):=by
 have a:js m 8 (.ptr d 0)=some (.fptr (cells x)):=by
  show(match bh m d with
   |some (.box cs)=>match oT (js m 7) cs with
    |some u=>if 0<=u.length then some (V.fptr (u.drop 0))else none|none=>none
   |_=>none)=_
  rw[h];simp[Kz]
 simp[oT,a,Kz]
def Y1(n:Nat){fo:Fo}{fs fs':R0}{st0 st:St}{rs:QR}{e:γ->aY S'}{r:γ}(svs:ST){ys:S'}(B:oT (js st.m 8) svs=some ys)(h:(iC S c n fo fs st0,jP st rs)=(some (.rt,fs',st),some svs))(D:e r=some ys):
 Le ((some r).bind e) (rn S c (qc rs) fo fs st0):=by
 simp at h;rw[pM h.1];refine Le.of_eq ?_;simp[rn,qc,h.2,B]
 grind
abbrev Mo(κ ν:Type):=aX (κ×ν)
class Key(κ:Type)[bt κ][DecidableEq κ]where
 kk:yY
 ok:∀a:κ,qX kk (enc a)=true
 eq:∀a b:κ,yB (enc a) (enc b)=some (decide (a=b))
instance:Key Int where
 kk:=.int .i64
 ok _:=rfl
 eq a b:=by show some (a==b)=some (decide (a=b));rw[show(a==b)=decide (a=b)from Bool.eq_iff_iff.2 Zab]
instance:Key a_ where
 kk:=.ints 2
 ok _:=rfl
 eq a b:=by have⟨p,i⟩:=a;have⟨q,j⟩:=b;simp only[yB,lQ,iL,XJ,map_some,length_cons,if_true,ζa];rw[Bool.eq_iff_iff];simp
section
variable{κ ν:Type}[bt κ][DecidableEq κ][Key κ][bt ν]
def om(k:κ):Mo κ ν->aY ν
 |[]=>none|(a,v)::r=>if k=a then some v else om k r
def um(m:Mo κ ν)(k:κ)(z:ν):ν:=(om k m).getD z
def oK(m:Mo κ ν)(k:κ)(v:ν):Mo κ ν:=
 match m with
 |[]=>[(k,v)]|(a,w)::r=>if k=a then(k,v)::r else(a,w)::oK r k v
def pF(m:Mo κ ν):aX (V×V):=m.map λx=>(enc x.1,enc x.2)
def rS(m:Mo κ ν):bB:=.mp (pF m)
def L0(k:κ):∀(m:Mo κ ν)(i:Nat),(i_ (enc k) (pF m) i).map (Option.map (·.2))=some ((om k m).map enc)
 |[],i=>rfl|(a,v)::r,i=>by simp only[pF,map_cons,i_,Key.eq,om];by_cases h:k=a;grind;simp only[h];exact L0 k r (i+1)
def Ta(k:κ)(v:ν)(m:Mo κ ν):qJ (enc k) (enc v) (pF m)=some (pF (oK m k v)):=by
 unfold qJ;have key:∀(m:Mo κ ν)(pre:aX (V×V))(i:Nat),pre.length=i->(match i_ (enc k) (pF m) i with
  |some (some (j,_))=>some ((pre++pF m).set j (enc k,enc v))|some none=>some (pre++pF m++[(enc k,enc v)])|none=>none)=some (pre++pF (oK m k v)):=by
  intro m
  induction m with
  |nil=>simp[pF,i_,oK]|cons x r u=>
   have⟨a,w⟩:=x;intro pre i h;rw[show pF ((a,w)::r)=(enc a,enc w)::pF r from rfl];simp[i_,Key.eq,oK]
   by_cases b:k=a
   .subst b h;simp[pF]
   simp[b];rw[show pF ((a,w)::oK r k v)=(enc a,enc w)::pF (oK r k v)from rfl];have:=u (pre++[(enc a,enc w)]) (i+1) (by simp[h])
   grind
 have:=key m [] 0 rfl;grind
def YG(n:Nat)(dr:X')(fr:So)(q:R')(fs':R0)(st:St)(u:Nat)(mp:Mo κ ν)(k:κ)(z:ν){kk:yY}{B:V}{m:aY β}(G:q=⟨d,gd,now,.r (.lookup kk B false),az,dd,[]⟩::l)
 (D:(iC S c n fo fs st0,wanted st.g gd,bW S.N st.g az,bh st.m u,(!dr||now||fD fr [.mp u,cv k]),B,kk)=(some (.ops dr fr q,fs',st),some true,some [.mp u,cv k],some (rS mp),true,enc z,Key.kk κ))
 (h:Le m (uG S c Q dr fr d (.r (.lookup kk B false)) l fs' dd (dn st d (cv (um mp k z))))):Le m (rn S c Q fo fs st0):=by
 simp only[ζc]at D;have⟨a,C,I,J,L,O,T⟩:=D;subst O T;refine sO a G C ?_ h;rw[Ib,I];simp only[ζb,L,qt,J,rS,Key.ok];have:=L0 k mp 0;simp[um]
 cases U:i_ (enc k) (pF mp) 0 with
 |none=>grind|some r=>
  rw[U]at this
  cases r with
  |none=>
   cases W:om k mp with
   |none=>rfl|some w=>grind
  |some w=>
   cases W:om k mp with
   |none=>grind|some X=>grind
def aaa(n:Nat)(dr:X')(fr:So)(q:R')(fs':R0)(st:St)(u:Nat)(mp:Mo κ ν)(k:κ)(v:ν){kk:yY}{m:aY β}(D:q=⟨d,gd,now,.l (.mapUp kk),az,dd,[]⟩::l)
 (B:(iC S c n fo fs st0,wanted st.g gd,bW S.N st.g az,bh st.m u,(!dr||now),kk)=(some (.ops dr fr q,fs',st),some true,some [.mp u,cv k,cv v],some (rS mp),true,Key.kk κ))
 (h:Le m (uG S c Q dr fr d (.l (.mapUp kk)) l fs' dd (dn {st with m:=bF st.m u (rS (oK mp k v))} d (.v .undef)))):Le m (rn S c Q fo fs st0):=by
 simp only[ζc]at B;have⟨a,w,z,C,G,I⟩:=B;subst I;refine sO a D w ?_ h;rw[yo,z];simp[G,nh,C,rS,Key.ok,Ta]
end
end
instance{n:Nat}:OfNat Arg n:=⟨.s n⟩
abbrev bI(o:BinOp):K:=.p (.bin (some .int) none o)
abbrev ix(n:Nat):K:=.p (.idxS n)
abbrev ld(n:Nat):K:=.r (.load n false)
abbrev lD(n:Nat):K:=.r (.load n true)
abbrev fa(n:Nat):K:=.p (.fieldAddr n)
abbrev ln:K:=.p .lenSl
abbrev Iv(n:Nat)(x:Int):Nat×SV:=(n,iv x)
abbrev Bv(n:Nat)(x:Bool):Nat×SV:=(n,bv x)
abbrev Cv{α:Type}[bt α](n:Nat)(x:α):Nat×SV:=(n,cv x)
abbrev Kv{α:Type}[bt α](n:Nat)(x:α):Nat×SV:=(n,cp x)
abbrev Pv(n:Nat):Nat×SV:=(n,.ptr n 0)
abbrev Ov(n:Nat):Nat×SV:=(n,.own (2000+n))
abbrev Xb{α:Type}[bt α](n:Nat)(x:α):Nat×bB:=(n,bx x)
abbrev Lb{α:Type}[bt α](n:Nat)(x:Sl α):Nat×bB:=(n,cF x)
abbrev on(d:Nat)(k:K)(az:aX Arg)(dd:aX Nat):RO:=⟨some d,none,true,k,az,dd,[]⟩
abbrev oz(k:K)(az:aX Arg)(dd:aX Nat):RO:=⟨none,none,false,k,az,dd,[]⟩
attribute [simp] VR V_ VU
def iu.zC{S:Sys}{T:qv}{f:Y'}{b:X'}(B:T f=none)(a:S.E.keep f=false)(D:S.zC f []=some (.bool b)):
 iu S (dm S T) f (λ_:Unit=>[]) (λr:X'=>[.bool r]) (λ_=>some b) true where
 k:=a
 h _:=by have h:=GY (az:=[]) B a D;intro r c;cases c;unfold kf;rw[h];exact qw 8 [.bool b]
 s _ _:=rfl
def Wp{α:Type}(m:aY α)(P:α->Prop):Prop:=∃a,m=some a/\P a
section
variable{α β:Type}{P Q:α->Prop}
theorem bf(a:α):Wp (some a) P↔P a:=⟨λh=>by have⟨b,e,p⟩:=h;cases e;exact p,λp=>⟨a,rfl,p⟩⟩
def UR:Wp (none:aY α) P↔False:=⟨λh=>(by have⟨b,e,p⟩:=h;cases e),λh=>False.elim h⟩
def fA{m:aY β}{k:β->aY α}:Wp (m.bind k) P↔Wp m λb=>Wp (k b) P:=by cases m with|none=>simp only[Option.bind_none,UR]|some b=>simp only[ζb,bf]
def dO{t:X'}{a b:aY α}:Wp (bl t a b) P↔(t=true->Wp a P)/\(t=false->Wp b P):=by cases t<;>simp[bl]
def Wp.mono{m:aY α}(h:Wp m P)(B:∀a,P a->Q a):Wp m Q:=let⟨a,e,p⟩:=h;⟨a,e,B a p⟩
def Wp.and{m:aY α}(h:Wp m P)(B:Wp m Q):Wp m λa=>P a/\Q a:=by have⟨a,e,p⟩:=h;have⟨b,e2,q⟩:=B;rw[e]at e2;cases e2;exact⟨a,e,p,q⟩
def Wp.eq{m:aY α}{a:α}(h:Wp m λx=>x=a):m=some a:=by obtain⟨b,e,rfl⟩:=h;exact e
end
section
variable{σ ε ρ:Type}
def gu(step:σ->aY (Fw σ ε ρ))(s:σ):cD step s=(step s).bind λw=>match w with
 |.n B=>cD step B|.x e=>some (.x e)|.r b=>some (.r b):=by
 have d:∀r,cD step s=some r->((step s).bind λw=>match w with
  |.n B=>cD step B|.x e=>some (.x e)|.r b=>some (.r b))=some r:=by
  intro r h;have⟨k,a⟩:=qy.1 h
  cases k with
  |zero=>simp[mo]at a|succ k=>
   simp only[mo]at a
   cases u:step s with
   |none=>rw[u]at a;cases a|some w=>
    rw[u]at a
    cases w with
    |n B=>exact qy.2 ⟨k,a⟩|x e=>exact a|r b=>exact a
 cases z:cD step s with
 |some r=>exact(d r z).symm|none=>
  cases c:((step s).bind λw=>match w with
  |.n B=>cD step B|.x e=>some (.x e)|.r b=>some (.r b))with
  |none=>rfl|some r=>
   exfalso
   cases u:step s with
   |none=>rw[u]at c;cases c|some w=>
    rw[u]at c;simp only[ζb]at c;have:cD step s=some r:=by cases w with|n B=>have⟨k,a⟩:=qy.1 c;exact qy.2 ⟨k+1,by simp only[mo,u];exact a⟩|x e=>exact qy.2 ⟨1,by simp only[mo,u];exact c⟩|r b=>exact qy.2 ⟨1,by simp only[mo,u];exact c⟩
    rw[z]at this;cases this
def ZG(I:σ->Prop)(μ:σ->Nat)(D:ε->Prop)(G:ρ->Prop)(s:σ):Fw σ ε ρ->Prop
 |.n B=>I B/\μ B<μ s|.x e=>D e|.r b=>G b
def ZC(B:ε->Prop)(D:ρ->Prop):Fw Empty ε ρ->Prop
 |.x e=>B e|.r b=>D b
def SQ{step:σ->aY (Fw σ ε ρ)}(I:σ->Prop)(μ:σ->Nat)(B:ε->Prop)(D:ρ->Prop)(h:∀s,I s->Wp (step s) (ZG I μ B D s)){s:σ}(G:I s):Wp (cD step s) (ZC B D):=by
 have key:∀n s,μ s<=n->I s->Wp (cD step s) (ZC B D):=by
  intro n
  induction n with
  |zero=>intro s C hi;have⟨w,u,a⟩:=h s hi;rw[gu,u];cases w with|n z=>exact absurd a.2 Zaa|x e=>exact⟨_,rfl,a⟩|r b=>exact⟨_,rfl,a⟩
  |succ n J=>intro s C hi;have⟨w,u,a⟩:=h s hi;rw[gu,u];cases w with|n z=>exact J z (by have:=a.2;omega) a.1|x e=>exact⟨_,rfl,a⟩|r b=>exact⟨_,rfl,a⟩
 exact key (μ s) s (Nat.le_refl _) G
def lW{γ:Type}{step:σ->aY (Fw σ ε ρ)}{B:ε->aY γ}{fr:ρ->aY γ}{P:γ->Prop}(I:σ->Prop)(μ:σ->Nat){s:σ}(D:I s)
 (h:∀s,I s->Wp (step s) (ZG I μ (λe=>Wp (B e) P) (λb=>Wp (fr b) P) s)):Wp ((cD step s).bind (Fw.elim B fr)) P:=by
 rw[fA];refine(SQ I μ _ _ h D).mono ?_;intro w u
 cases w with
 |n a=>cases a|x e=>exact u|r b=>exact u
end
def FL{β γ δ:Type}{e:γ->aY β}{m:aY δ}{f:δ->aY γ}{L:aY β}(h:∀x,m=some x->Le ((f x).bind e) L):Le ((m.bind f).bind e) L:=by cases m with|none=>exact Le.none _|some x=>exact h x rfl
section
variable{S:Sys}{c:bX}{β:Type}{Q:Out×St->aY β}{fo:Fo}{fs:R0}{st0:St}{l:R'}{d:aY Nat}{now:X'}{az:QP}{dd:So}
theorem Le.get{β:Type}{r:β}{L:aY β}(h:Le (some r) L):L=some r:=h r rfl
def Kt{n:Nat}{fo fo':Fo}{fs fs':R0}{st:St}(A:X'->St){t:X'}{m:aY β}(B:t=true)(h:iC S c n fo fs st=some (fo',fs',A t))(D:Le m (rn S c Q fo' fs' (A true))):Le m (rn S c Q fo fs st):=by rw[pM h,B];exact D
def Kf{n:Nat}{fo fo':Fo}{fs fs':R0}{st:St}(A:X'->St){t:X'}{m:aY β}(B:t=false)(h:iC S c n fo fs st=some (fo',fs',A t))(D:Le m (rn S c Q fo' fs' (A false))):Le m (rn S c Q fo fs st):=by rw[pM h,B];exact D
def Te{α:Type}[bt α]{s:Sl α}{i:Int}{x:α}{r:β}{L:aY β}(B:idx s i=some x)(h:Le (((idx s i).bind λ_=>some r).bind some) L):Le (some r) L:=by rw[B]at h;exact h
def Zy{n:Nat}{q:R'}{fs':R0}{st:St}{id:Nat}{vs:ST}{xs:S'}{B:T2}{m:aY β}
 (D:iC S c n fo fs st0=some (.ops false [] q,fs',st))(G:q=⟨d,none,now,.c,az,dd,[]⟩::l)(J:bW S.N st.g az=some (.yl id::vs))(T:dy vs=some xs)(U:st.want=xs::B)(hi:id=st.yid)
 (h:Le m (rn S c Q (.ops false [] l) fs' (ql dd (dn {st with want:=B} d (.v (.bool (st.more|| !B.isEmpty))))))):Le m (rn S c Q fo fs st0):=by
 refine Ud D G rfl ?_ h;unfold fH;simp only[wanted,fV,J,T,U,hi,if_true,and_self,Bool.false_eq_true,if_false]
def Co(a:RC)(fs:R0)(st:St):rn S c Q (.rc (.loop a)) fs st=(pH (cN S c a) st).bind (FB (nM S c Q fs) (nP S c Q fs) (λst=>Q (.ret,st))):=by show kW S c Q (.loop a) fs st=_;unfold kW;rw[E4];rfl
def U5{f:St->aY (Out×St)}{st st':St}(h:f st=some (.norm,st')):pH f st=pH f st':=by
 have key:∀r,pH f st=some r↔pH f st'=some r:=λr=>by constructor;intro b;have⟨k,a⟩:=nW.1 b;(cases k with|zero=>simp[jL]at a|succ k=>simp only[jL,h]at a;exact nW.2 ⟨k,a⟩);intro b;have⟨k,a⟩:=nW.1 b;exact nW.2 ⟨k+1,by simp only[jL,h];exact a⟩
 cases u:pH f st with
 |none=>cases w:pH f st' with|none=>rfl|some r=>rw[(key r).2 w]at u;cases u
 |some r=>rw[(key r).1 u]
def LJ{f:St->aY (Out×St)}{st st':St}{o:Out}(h:f st=some (o,st'))(B:o≠.norm):pH f st=some (o,st'):=by refine nW.2 ⟨1,?_⟩;cases o with|norm=>exact absurd rfl B|exit k=>simp only[jL,h]|ret=>simp only[jL,h]
def HJ{a:RC}{fs:R0}{st st':St}(h:rn S c some (.rc a) [] st=some (.norm,st')):rn S c Q (.rc (.loop a)) fs st=rn S c Q (.rc (.loop a)) fs st':=by rw[Co,Co,U5 (by rw[Ch];exact h)]
def GN{a:RC}{fs:R0}{st st':St}{k:Nat}(h:rn S c some (.rc a) [] st=some (.exit k,st')):rn S c Q (.rc (.loop a)) fs st=rn S c Q (.ex k) fs st':=by rw[Co,LJ (by rw[Ch];exact h) Zab];rfl
def GG{a:RC}{fs:R0}{st st':St}(h:rn S c some (.rc a) [] st=some (.ret,st')):rn S c Q (.rc (.loop a)) fs st=Q (.ret,st'):=by rw[Co,LJ (by rw[Ch];exact h) Zab];rfl
end
def Qi:Out×St->aY Unit
 |(.exit _,_)=>none|(_,st)=>if st.want.isEmpty then some ()else none
def Sys.bare(S:Sys):Sys:=⟨S.E,S.N,λ_ _ _=>none,λ_ _=>none,λ_=>none⟩
def ox:bX:=λ_ _ _=>none
def vZ(B rest:T2)(more:X'):Prop:=more=true/\B=rest\/more=false/\B≠[]/\∃r,rest=B++r
def Tz(S:Sys){f:Y'}{fi:FI}{nm:Y'->aY Nat}{rf:RF}(G:S.E.ft f=some fi)(U:∀g s,nm g=some s->S.N s=g)(e:yC S.E nm fi rf){a b:S'}{xs:T2}(D:a.length+1+b.length<=rf.na)(T:rf.rs=[])
 (h:∀B more,vZ B xs more->∀yid,rn S.bare ox Qi (.rc rf.body) [] ⟨wL 0 (a.map .v++.yl yid::b.map .v),[],[],B,more,yid⟩=some ()):eP S f a b xs:=by
 have k:eP S.bare f a b xs:=LA (S:=S.bare) (c:=ox) (fi:=fi) (nm:=nm) (rf:=rf) (λ_ _ h=>by cases h) (λ_ _ _ _ _ h=>by simp[ox]at h) (λ_ _ _ _ h=>by simp[Sys.bare]at h) G U e D T (λB more w yid=>by
  have d:=h B more w yid;change kW S.bare ox Qi rf.body [] _=some ()at d;rw[oB]at d;have⟨⟨o,st'⟩,z,u⟩:=ζg.1 d;refine⟨o,st',z,?_,?_,rfl⟩
  .rintro id rfl;simp[Qi]at u
  cases o<;>simp[Qi]at u<;>exact u)
 intro B more w yid J y Z C I H d z u L O;exact k B more w yid J ⟨y.xR,y.yield⟩ Z C I H d z u L O
open Classical in
def zF(P:Y'->S'->S'->T2->Prop)(f:Y')(a b:S'):aY T2:=if h:∃u,P f a b u then some (Classical.choose h)else none
def Ed{P:Y'->S'->S'->T2->Prop}{f:Y'}{a b:S'}{xs:T2}(h:P f a b xs)(d:∀ys,P f a b ys->ys=xs):zF P f a b=some xs:=by have c:∃xs,P f a b xs:=⟨xs,h⟩;unfold zF;rw[dif_pos c,d _ (choose_spec c)]
def NQ{P:Y'->S'->S'->T2->Prop}{f:Y'}{a b:S'}{xs:T2}(h:zF P f a b=some xs):P f a b xs:=by
 unfold zF at h;split at h;next c=>cases h;exact choose_spec c
 cases h
def Xw{E:Env}{nm:Y'->aY Nat}{f:Y'}{rf:RF}
 (h:((E.ft f).bind λfi=>(bM ⟨E,nm,fi.ntmps⟩ false fi.body).bind λc=>(fi.results.mapM (Cr E)).bind λrs=>some (c,rs,fi.ntmps))=some (erase rf.body,rf.rs,rf.na)):∃fi,E.ft f=some fi/\yC E nm fi rf:=by
 have⟨fi,a,w⟩:=ζg.1 h;have⟨c,z,B⟩:=ζg.1 w;have⟨rs,C,u⟩:=ζg.1 B;simp only[ζa,ζc]at u;obtain⟨rfl,rfl,D⟩:=u;exact⟨fi,a,z,C,D.symm⟩
def FR.qq{H:bk}{Z Z':Nat->Prop}{x y z:V}(h:FR H Z x z)(k:FR H Z' y z):x=y:=by have⟨n,u⟩:=Bb x;have⟨m,w⟩:=Bb y;have e1:=h.borrow (max n m) (zw (Nat.le_max_left _ _) u);have e2:=k.borrow (max n m) (zw (Nat.le_max_right _ _) w);rw[e1]at e2;exact Option.some.inj e2
open Classical in
def zj(E:Env)(f:Y')(az:S'):aY V:=if h:∃y,C3 E f az y then some (Classical.choose h)else none
def G9{E:Env}{f:Y'}{az:S'}{y:V}(h:zj E f az=some y):C3 E f az y:=by
 unfold zj at h;split at h;next a=>cases h;exact choose_spec a
 cases h
def GM{E:Env}{f:Y'}{az:S'}{y:V}(h:C3 E f az y):zj E f az=some y:=by have a:∃y,C3 E f az y:=⟨y,h⟩;unfold zj;rw[dif_pos a];have⟨n,z,H,Z,k1,k2,_⟩:=h;have⟨u,w,H',Z',k3,k4,_⟩:=choose_spec a;have e1:=(pT E (Nat.le_max_left n u)).go _ _ _ _ k1;have e2:=(pT E (Nat.le_max_right n u)).go _ _ _ _ k3;rw[e1]at e2;cases e2;rw[FR.qq k4 k2]
def K6{E:Env}{f:Y'}{az:S'}{y:V}(B:V.scalar y=true)(h:∃n H',run E n (.fn f) az []=some (y,H')):C3 E f az y:=by have⟨n,H',h⟩:=h;exact⟨n,y,H',λ_=>False,h,.same _ (kj B),λ_ h=>h.elim,⟨λ_ _ _ h=>h.elim⟩⟩
end Go.VE
