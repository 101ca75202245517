/- Certificates. -/
import Derived.KernelRfl
import Derived.Test.YtbglidfgdmhlnaaGreatDoorN2
set_option linter.all false
noncomputable section
open Classical(choose_spec)
open List(drop_drop flatten_cons length_cons length_map length_nil map_cons map_drop map_take range' replicate)
open Option(map_some)
open Nat(add_mul ble one_mul)
namespace Go.VE
variable[bX]
inductive Sl(α:Type)where
 |nil|emp|row(l:List α)|part(l:List α)
 deriving Inhabited
abbrev Zg:=Sl Int
abbrev Zb:=Sl (Sl Int)
def Sl.l{α:Type}:Sl α->aX α
 |.nil|.emp=>[]|.row l|.part l=>l
def Sl.k{α:Type}:Sl α->Fl
 |.nil=>.nil|.emp=>.emp|.row _=>.row|.part _=>.part
class bD(α:Type)where
 cells:α->List V
 agg:Bool
 size:Nat
 len:∀a,(cells a).length=size
 good:∀a,V.cG (cells a)=true
 one:∀a,(cells a).all V.one=true
 plain:agg=false->size=1
def cells{α:Type}[bD α](a:α):So:=bD.cells a
def enc{α:Type}[bD α](a:α):V:=if bD.agg α then .agg (cells a)else(cells a).headD .undef
def rows{α:Type}[bD α](l:aX α):S':=l.map cells
def cm{α:Type}[bD α](s:Sl α):V:=qG s.k (bD.size α) (rows s.l)
instance:bD Int where
 cells n:=[.int .i64 n]
 agg:=false
 size:=1
 len _:=rfl
 good _:=rfl
 one _:=rfl
 plain _:=rfl
instance:bD X' where
 cells b:=[.bool b]
 agg:=false
 size:=1
 len _:=rfl
 good _:=rfl
 one _:=rfl
 plain _:=rfl
instance:bD U' where
 cells s:=[.str s]
 agg:=false
 size:=1
 len _:=rfl
 good _:=rfl
 one _:=rfl
 plain _:=rfl
structure bf where
 proc:Int
 index:Int
 deriving DecidableEq,Inhabited
instance:bD bf where
 cells x:=[.int .i64 x.proc,.int .i64 x.index]
 agg:=true
 size:=2
 len _:=rfl
 good _:=rfl
 one _:=rfl
 plain h:=by cases h
@[simp] def adx(n:Int):enc n=.int .i64 n:=rfl
@[simp] def adt(n:X'):enc n=.bool n:=rfl
@[simp] def adB(n:U'):enc n=.str n:=rfl
@[simp] def acG(n:Int):cells n=[.int .i64 n]:=rfl
@[simp] def abZ(n:X'):cells n=[.bool n]:=rfl
@[simp] def acL(n:U'):cells n=[.str n]:=rfl
@[simp] def adk(n:bf):cells n=[.int .i64 n.proc,.int .i64 n.index]:=rfl
@[simp] def ZQ(n:bf):enc n=.agg [.int .i64 n.proc,.int .i64 n.index]:=rfl
section
variable{α:Type}[bD α]
def iY(l:aX α):(rows l).length=l.length:=by simp[rows]
def idx(s:Sl α)(i:Int):aY α:=if 0<=i then s.l[i.toNat]?else none
def VA{N:Nat->Y'}(s:Sl α)(k:T2)(i:Int){n:Nat}(B:n=bD.size α):bM N (.idxS n) [cm s,.int k i]=(idx s i).map λx=>.fptr (cells x):=by subst B;unfold idx cm;simp only[bM,nQ];by_cases h:i<0;rw[if_pos h,if_neg Zaa];rfl;rw[if_neg h,if_pos Zaa];cases s<;>simp[Sl.k,Sl.l,qG,rows,Function.comp_def]
def IP{N:Nat->Y'}(s:Sl α):bM N .lenSl [cm s]=some (.int .i64 s.l.length):=by cases s<;>simp[bM,o5,cm,Sl.k,Sl.l,qG,iY]
end
section
variable{S:Sys}{c:cn}
end
end Go.VE
namespace Go.VE
variable[bX]
section
variable{S:Sys}{c:cn}
def isSlice:xF->X'
 |.slice ..=>true|_=>false
def We(dr:X')(fr:ST)(dst:aY Nat)(now:X')(p:xF)(az:QR)(st:St)(h:isSlice p=false):
 gz S c dr fr ⟨dst,none,now,.p p,az,[],[]⟩ st=(bW S.N st.g az).bind λsvs=>(ki S.N st.m p svs).bind λx=>some (cV st dst x):=by
 unfold gz og;have u:gM S.N st.g ⟨dst,none,now,.p p,az,[],[]⟩=none:=by unfold gM;grind
 simp[wanted,u]
 cases z:bW S.N st.g az with
 |none=>rfl|some svs=>simp;cases p<;>first|(simp[isSlice]at h;done)|(cases w:ki S.N st.m _ svs<;>simp[w])
def Oq(N:Nat->Y')(m:Tb bH)(p:xF)(svs:SW)(xs:So)(h:dA svs=some xs):ki N m p svs=(bM N p xs).bind λx=>some (.v x):=by unfold ki;rw[h];dsimp only;cases bM N p xs<;>rfl
def Dy(dr:X')(fr:ST)(dst:aY Nat)(now:X')(q:Ol)(az:QR)(st:St):
 gz S c dr fr ⟨dst,none,now,.r q,az,[],[]⟩ st=(bW S.N st.g az).bind λsvs=>if !dr||now||fS fr svs then(qe st.m q svs).bind λx=>some (cV st dst x)else none:=by
 unfold gz og;have u:gM S.N st.g ⟨dst,none,now,.r q,az,[],[]⟩=none:=rfl;simp[wanted,u]
 cases w:bW S.N st.g az with
 |none=>rfl|some svs=>
  simp;split
  .cases z:qe st.m q svs<;>simp
  rfl
def AY(dr:X')(fr:ST)(d:Nat)(now:X')(q:Re)(az:QR)(st:St):
 gz S c dr fr ⟨some d,none,now,.a q,az,[],[]⟩ st=(bW S.N st.g az).bind λsvs=>if st.new d then(qp st.m q svs d).bind λr=>some {st with g:=bN st.g d r.2,m:=bN st.m d r.1}else none:=by
 unfold gz og;have u:gM S.N st.g ⟨some d,none,now,.a q,az,[],[]⟩=none:=rfl;simp[wanted,u]
 cases w:bW S.N st.g az with
 |none=>rfl|some svs=>
  simp;split
  .cases z:qp st.m q svs d<;>simp[cV]
  rfl
def zC(dr:X')(fr:ST)(dst:aY Nat)(now:X')(q:N_)(az:QR)(st:St):
 gz S c dr fr ⟨dst,none,now,.l q,az,[],[]⟩ st=(bW S.N st.g az).bind λsvs=>if !dr||now then(pK st dst q svs).bind λr=>some (cV r.2 dst r.1)else none:=by
 unfold gz og;have u:gM S.N st.g ⟨dst,none,now,.l q,az,[],[]⟩=none:=rfl;simp[wanted,u]
 cases w:bW S.N st.g az with
 |none=>rfl|some svs=>
  simp;split
  .cases z:pK st dst q svs<;>simp
  rfl
def mE:SW->aY (Y'×SW)
 |.clo f a b::vs=>some (f,a++vs++b)|.v (.clo f a b)::vs=>some (f,a.map .v++vs++b.map .v)|_=>none
def yx(dr:X')(fr:ST)(dst:aY Nat)(now:X')(az:QR)(st:St)(svs:SW)(f:Y')(args:SW)(B:bW S.N st.g az=some svs)(a:mE svs=some (f,args)):
 gz S c dr fr ⟨dst,none,now,.c,az,[],[]⟩ st=(fT S c dst dr (!dr||now) (gJ st.m fr) f args st).bind λr=>some (cV r.2 dst r.1):=by
 unfold gz og;unfold mE at a;split at a
 .obtain⟨rfl,rfl⟩:=a;simp[wanted,gM,B];cases fT S c dst dr _ _ _ _ st<;>simp
 .obtain⟨rfl,rfl⟩:=a;simp[wanted,gM,B];cases fT S c dst dr _ _ _ _ st<;>simp
 grind
def VG{β:Type}(S:Sys)(c:cn)(fr:ST)(l:R0)(k:St->aY β):St->aY β:=λst=>(pN S c false fr l st).bind k
def UF{β:Type}(S:Sys)(c:cn)(fr:ST)(l:R0)(k:St->aY β):St->aY β:=λst=>(pN S c true fr l st).bind k
def aaK{β:Type}(S:Sys)(c:cn)(fr dd:ST)(l:R0)(k:St->aY β):St->aY β:=λst=>VG S c fr l k (rZ dd st)
def aaI{β:Type}(S:Sys)(c:cn)(fr dd:ST)(l:R0)(k:St->aY β):St->aY β:=λst=>UF S c fr l k (rZ dd st)
@[congr] def ack{β:Type}{fr:ST}{l:R0}{k:St->aY β}{st st':St}(h:st=st'):VG S c fr l k st=VG S c fr l k st':=by rw[h]
@[congr] def abK{β:Type}{fr B:ST}{l:R0}{k:St->aY β}{st st':St}(D:fr=B)(h:st=st'):UF S c fr l k st=UF S c B l k st':=Zad
@[congr] def acp{β:Type}{fr dd:ST}{l:R0}{k:St->aY β}{st st':St}(h:st=st'):aaK S c fr dd l k st=aaK S c fr dd l k st':=by rw[h]
@[congr] def abN{β:Type}{fr B dd:ST}{l:R0}{k:St->aY β}{st st':St}(D:fr=B)(h:st=st'):aaI S c fr dd l k st=aaI S c B dd l k st':=Zad
@[congr] def ac2{dr:X'}{fr:ST}{o:RO}{st st':St}(h:st=st'):gz S c dr fr o st=gz S c dr fr o st':=by rw[h]
end
section
variable{S:Sys}{c:cn}(dr:X')(fr:ST)(dst:aY Nat)(now:X')(az:QR)(st:St)
end
inductive Fm where
 |seq(b:RC)|blk(id:Nat)|gst(x:Gh)
abbrev QQ:=aX Fm
section
variable(S:Sys)(c:cn){β:Type}(Q:Out×St->aY β)
def runK:QQ->Out×St->aY β
 |[],r=>Q r|.seq b::fs,(.norm,st)=>(cN S c b st).bind (runK fs)|.seq _::fs,r=>runK fs r|.blk id::fs,(.exit k,st)=>if k=id then runK fs (.norm,st)else runK fs (.exit k,st)|.blk _::fs,r=>runK fs r|.gst x::fs,(.norm,st)=>(ghost x st).bind λst=>runK fs (.norm,st)|.gst _::fs,r=>runK fs r
def go(a:RC)(fs:QQ)(st:St):aY β:=(cN S c a st).bind (runK S c Q fs)
def Ws(fs:QQ):St->aY β:=λst=>runK S c Q fs (.norm,st)
def bg{α:Type}(t:X')(a b:α):α:=if t then a else b
end
@[congr] def acQ{α:Type}{t B:X'}{a b a' D:α}(h:t=B)(G:B=true->a=a')(J:B=false->b=D):bg t a b=bg B a' D:=by subst h;cases t;exact J rfl;exact G rfl
section
variable{S:Sys}{c:cn}{β:Type}{Q:Out×St->aY β}
@[congr] def go_congr{a:RC}{fs:QQ}{st st':St}(h:st=st'):go S c Q a fs st=go S c Q a fs st':=by rw[h]
@[congr] def abp{fs:QQ}{st st':St}(h:st=st'):Ws S c Q fs st=Ws S c Q fs st':=by rw[h]
@[congr] def acv{fs:QQ}{r B:Out×St}(h:r=B):runK S c Q fs r=runK S c Q fs B:=by rw[h]
def Kx(a:RC)(st:St):(cN S c a st).bind Q=go S c Q a [] st:=by simp only[go];cases cN S c a st<;>rfl
inductive Fw(ν ε ρ:Type)where
 |n(a:ν)|x(e:ε)|r(b:ρ)
def lz{σ ε ρ:Type}(step:σ->aY (Fw σ ε ρ)):Nat->σ->aY (Fw Empty ε ρ)
 |0,_=>none|k+1,s=>match step s with
  |some (.n B)=>lz step k B|some (.x e)=>some (.x e)|some (.r b)=>some (.r b)|none=>none
def z_{σ ε ρ:Type}{step:σ->aY (Fw σ ε ρ)}:∀{k B:Nat}{s:σ}{r:Fw Empty ε ρ},k<=B->lz step k s=some r->lz step B s=some r
 |0,_,_,_,_,h=>by simp[lz]at h|k+1,0,_,_,hk,_=>Zaa|k+1,B+1,s,r,hk,h=>by simp only[lz]at h⊢;split at h;exact z_ (Nat.le_of_succ_le_succ hk) h;exact h;exact h;simp at h
open Classical in
def bG{σ ε ρ:Type}(step:σ->aY (Fw σ ε ρ))(s:σ):aY (Fw Empty ε ρ):=if h:∃k r,lz step k s=some r then some (Classical.choose (choose_spec h))else none
def qK{σ ε ρ:Type}{step:σ->aY (Fw σ ε ρ)}{s:σ}{r:Fw Empty ε ρ}:bG step s=some r↔∃k,lz step k s=some r:=by
 unfold bG;constructor;intro h;split at h;next u=>simp only[ζa]at h;exact⟨_,by rw[<-h];exact choose_spec (choose_spec u)⟩
 simp at h;rintro⟨k,a⟩;have u:∃k r,lz step k s=some r:=⟨k,r,a⟩;rw[dif_pos u];have z:=choose_spec (choose_spec u);have B:=z_ (Nat.le_max_left (Classical.choose u) k) z;have w:=z_ (Nat.le_max_right (Classical.choose u) k) a;rw[B]at w;exact w
def Fw.out{ν ε ρ:Type}(B:ν->St)(eε:ε->Nat×St)(eρ:ρ->St):Fw ν ε ρ->Out×St
 |.n a=>(.norm,B a)|.x e=>(.exit (eε e).1,(eε e).2)|.r b=>(.ret,eρ b)
def Fw.elim{ε ρ γ:Type}(B:ε->γ)(fr:ρ->γ):Fw Empty ε ρ->γ
 |.x e=>B e|.r b=>fr b
end
section
variable{α:Type}[bD α]
def H9(s:Sl α):V.one (cm s)=true:=by cases s<;>rfl
def Rg(l:aX α):V.pE (rows l)=true:=by induction l with|nil=>rfl|cons a l u=>simp only[rows,map_cons,V.pE,ζh];exact⟨bD.good a,u⟩
def Qe(s:Sl α):V.good (cm s)=true:=by cases s<;>simp only[cm,Sl.k,qG,V.good]<;>exact Rg _
instance:bD (Sl α)where
 cells s:=[cm s]
 agg:=false
 size:=1
 len _:=rfl
 good s:=by simp only[V.cG,Qe,Bool.and_self]
 one s:=by simp[H9]
 plain _:=rfl
end
section
variable{S:Sys}{c:cn}
def Rk(x:aY SV)(b:X')(y z:aY St):aY St:=
 match x with
 |some (.v (.bool t))=>bg (t==b) y z|some (.v _)=>z|_=>none
@[congr] def aa0{x B:aY SV}{b:X'}{y z:aY St}(h:x=B):Rk x b y z=Rk B b y z:=by rw[h]
def Wh{β:Type}(x:aY SV)(y z:aY β):aY β:=
 match x with
 |some (.v (.bool t))=>bg t y z|_=>none
@[congr] def abt{β:Type}{x B:aY SV}{y z:aY β}(h:x=B):Wh x y z=Wh B y z:=by rw[h]
def gZ(c:cn)(f:Y')(az:So):aY So:=(c f (az.map .v) []).bind λr=>dg r.2 8 r.1
def Md(now:X')(args:SW)(ok:X')(st:St)(ys:So):aY (SV×St):=if(result ys).scalar||ok then some (.v (result ys),st)else if now then(rowsOf args).map λds=>(.v (result ys),{st with m:=qi ds st.m})else none
def NY(dst:aY Nat)(dr now:X')(old:SW->X')(f:Y')(args:SW)(st:St)(a:S.E.keep f=false):
 fT S c dst dr now old f args st=(dg st.m 8 args).bind λaz=>if now||old args then(gZ c f az).bind (Md now args (dA args).isSome st)else none:=by
 unfold fT gZ;simp only[a,Bool.false_eq_true,if_false]
 cases dg st.m 8 args with
 |none=>rfl|some az=>
  simp only[ζb];split
  .cases c f (az.map .v) []with
   |none=>rfl|some r=>have⟨rs,m'⟩:=r;simp only[ζb];cases dg m' 8 rs<;>rfl
  rfl
end
section
variable{S:Sys}{T:sQ}
def Lu(rs:aX RV):Out×St->aY So
 |(.exit _,_)=>none|(_,st)=>(mh st rs).bind (dg st.m 8)
def Vs{f:Y'}{rf:RF}(B:T f=some rf)(az:So)(D:az.length<=rf.na):gZ (dm S T) f az=go S (dm S T) (Lu rf.rs) rf.body [] (start (az.map .v) []):=by unfold gZ;rw[uA B];unfold o8;rw[if_pos (by simpa using D),<-Kx];cases h:cN S (dm S T) rf.body (start (az.map .v) [])with|none=>rfl|some r=>have⟨o,st⟩:=r;cases o<;>simp only[ζb,Lu]<;>(try rfl)<;>(cases mh st rf.rs<;>rfl)
end
end Go.VE
namespace Go.VE
variable[bX]
variable{N:Nat->Y'}
def BC(k:T2)(a b:Int):Ps:=if b=0 then none else some (k.wrap (a.tdiv b))
def aa9(e:aY KT)(q:aY Nat)(k:T2)(a b:Int):bM N (.bin e q .quo) [.int k a,.int k b]=(BC k a b).bind λx=>some (.int k x):=by simp only[bM,nq,BC,if_true];split<;>rfl
def Lm(o:Nat)(cs:So):bM N (.fieldAddr o) [.fptr cs]=if o<=cs.length then some (.fptr (cs.drop o))else none:=rfl
def mY(s:U')(n:Int):Ps:=if 0<=n then(s[n.toNat]?).map λb=>(b.toNat:Int)else none
def Q7(s:U')(k:T2)(n:Int):bM N .idxStr [.str s,.int k n]=(mY s n).bind λx=>some (.int .u8 x):=by simp only[bM,mY];split;cases s[n.toNat]?<;>rfl;rfl
def Vq(z:So)(pl:aX (Nat×Nat))(vs:So):bM N (.build z pl) vs=(mL z pl vs).bind λcs=>some (.agg cs):=by simp only[bM];cases mL z pl vs<;>rfl
section
variable{α:Type}[bD α]
def HF(s:Sl α)(k:T2)(i:Int)(n:Nat)(B:n=bD.size α):bM N (.idxS n) [cm s,.int k i]=(idx s i).bind λx=>some (.fptr (cells x)):=by rw[VA s k i B];cases idx s i<;>rfl
def Kw(s:Sl α):bM N .lenSl [cm s]=some (.int .i64 s.l.length):=IP s
def Sl.isNil{α:Type}(s:Sl α):aY X':=
 match s with
 |.nil=>some true|.emp=>none|_=>some false
def TN(q:aY Nat)(s:Sl α):bM N (.bin (some .slice) q .eql) [cm s,.bO]=s.isNil.bind λt=>some (.bool t):=by cases s<;>rfl
def Q_(q:aY Nat)(s:Sl α):bM N (.bin (some .slice) q .neq) [cm s,.bO]=s.isNil.bind λt=>some (.bool !t):=by cases s<;>rfl
def gB(s:Sl α)(a b:Ps):aY (Sl α):=
 (eD s.l.length a b).map λ(l,h)=>match s with
  |.nil=>.nil|.emp=>.emp|.row x=>.part ((x.take h).drop l)|.part x=>.part ((x.take h).drop l)
def O3(s:Sl α)(a b:Ps)(n:Nat)(B:n=bD.size α):jE n (cm s) a b=(gB s a b).bind λx=>some (cm x):=by subst B;cases s with|nil=>simp only[cm,Sl.k,qG,jE,gB,Sl.l,length_nil];cases eD 0 a b<;>rfl|emp=>simp only[cm,Sl.k,qG,jE,gB,Sl.l,length_nil];cases eD 0 a b<;>rfl|row l=>simp only[cm,Sl.k,qG,jE,gB,Sl.l,if_true,iY];cases eD l.length a b<;>simp[rows,map_take,map_drop]|part l=>simp only[cm,Sl.k,qG,jE,gB,Sl.l,if_true,iY];cases eD l.length a b<;>simp[rows,map_take,map_drop]
end
def SR(m:Tb bH)(n:Nat)(a:X')(cs:So):qe m (.load n a) [.v (.fptr cs)]=(cut cs 0 n).bind λr=>(mk a r).bind λx=>some (.v x):=by simp only[qe,eN];cases cut cs 0 n with|none=>rfl|some r=>simp only[ζb];cases mk a r<;>rfl
end Go.VE
namespace Go.VE
variable[bX]
section
variable{α:Type}[bD α]
def cI(s:Sl α):bH:=.sl s.k (bD.size α) (rows s.l)
def Sl.jP(s:Sl α)(i:Int):aY Nat:=if 0<=i/\i.toNat<s.l.length then some i.toNat else none
def Sl.get(s:Sl α)(i:Nat):aY α:=s.l[i]?
def Sl.put(s:Sl α)(i:Nat)(x:α):aY (Sl α):=if i<s.l.length then some (match s with|.row l=>.row (l.set i x)|.part l=>.part (l.set i x)|s=>s)else none
def fF(s:Sl α)(x:α):aY (Sl α):=if s.l.length+1<=2147483648 then some (.row (s.l++[x]))else none
def nR(n:Int)(z:α):aY (Sl α):=if 0<=n/\n<=2147483648 then some (.row (replicate n.toNat z))else none
end
section
variable{α:Type}[bD α]{N:Nat->Y'}{m:Tb bH}
def Pz(n d:Nat)(o:aY bH)(i:Int):aY SV:=
 match o with
 |some (.sl k es u)=>if cO k/\es=n/\0<=i/\i.toNat<u.length then some (.el d i.toNat 0)else none|_=>none
def XU(n d:Nat)(k:T2)(i:Int):ki N m (.idxS n) [.own d,.v (.int k i)]=Pz n d (bl m d) i:=by simp[ki,dA,zQ,Pz];grind
def XP(n d:Nat)(s:Sl α)(i:Int)(h:n=bD.size α):Pz n d (some (cI s)) i=(s.jP i).bind λj=>some (.el d j 0):=by simp[Pz,cI,iY,Sl.jP];cases s with|nil=>simp[Sl.l,cO]|emp=>simp[Sl.l,cO]|row l=>simp[Sl.k,Sl.l,cO];grind|part l=>simp[Sl.k,Sl.l,cO];grind
def O1(o:aY bH):aY SV:=
 match o with
 |some (.sl _ _ u)=>some (.v (.int .i64 u.length))|_=>none
def TR(d:Nat):ki N m .lenSl [.own d]=O1 (bl m d):=by simp[ki,dA,zQ,O1];grind
def YE(s:Sl α):O1 (some (cI s))=some (.v (.int .i64 s.l.length)):=by simp[O1,cI,iY]
def Wy(n:Nat)(a:X')(o:Nat)(ob:aY bH):aY SV:=
 match ob with
 |some (.box cs)=>yq n a ((cs.drop o).take n)|_=>none
def adu(n:Nat)(a:X')(d o:Nat):qe m (.load n a) [.ptr d o]=Wy n a o (bl m d):=by rfl
def SC(n:Nat)(a:X')(o:Nat)(cs:SW):Wy n a o (some (.box cs))=yq n a ((cs.drop o).take n):=rfl
def MJ(n:Nat)(a:X')(i o:Nat)(ob:aY bH):aY SV:=
 match ob with
 |some (.sl _ _ u)=>match u[i]?with
  |some cs=>((cut cs o n).bind (mk a)).map .v|none=>none
 |_=>none
def ab_(n:Nat)(a:X')(d i o:Nat):qe m (.load n a) [.el d i o]=MJ n a i o (bl m d):=by rfl
def S9(n:Nat)(a:X')(i o:Nat)(s:Sl α):MJ n a i o (some (cI s))=(s.get i).bind λx=>(cut (cells x) o n).bind λr=>(mk a r).bind λy=>some (.v y):=by simp only[MJ,cI,Sl.get,rows,List.getElem?_map];cases s.l[i]?with|none=>rfl|some x=>simp only[map_some,ζb];cases cut (cells x) o n with|none=>rfl|some r=>simp;cases mk a r<;>rfl
def abW(z:α)(n:Int)(d:Nat)(size:Nat)(zero:So)(h:zero=cells z)(B:size=bD.size α):
 qp m (.makeSl size zero) [.v (.int .i64 n),.v (.int .i64 n)] d=(nR n z).bind λs=>some (cI s,.own d):=by
 subst h B;simp[qp,nR];split
 .simp[cI,Sl.k,Sl.l,rows]
 rfl
def Hw(st:St)(d i o size:Nat)(x:V)(ob:aY bH):aY (SV×St):=
 match ob with
 |some (.sl k es u)=>match u[i]?with
  |some cs=>if x.cells.length=size/\o+size<=cs.length/\x.cells.all V.one=true then
   some (.v .undef,{st with m:=bN st.m d (.sl k es (u.set i (cs.take o++x.cells++cs.drop (o+x.cells.length))))})else none
  |none=>none
 |_=>none
def OX(st:St)(dst:aY Nat)(size d i o:Nat)(x:V):pK st dst (.store size) [.el d i o,.v x]=Hw st d i o size x (bl st.m d):=by rfl
def P8(g:Tb SV)(p:ST)(w:S')(B:X')(y:Nat)(d i size:Nat)(x:V)(a:α)(D:x.cells=cells a)(G:size=bD.size α)(s:Sl α):
 Hw ⟨g,m,p,w,B,y⟩ d i 0 size x (some (cI s))=(s.put i a).bind λJ=>some (.v .undef,⟨g,bN m d (cI J),p,w,B,y⟩):=by
 have e:(cells a).all V.one=true:=bD.one a;have u:∀b:α,(cells b).length=bD.size α:=bD.len;subst G;simp only[Hw,cI,rows,List.getElem?_map,D,Sl.put]
 by_cases c:i<s.l.length
 .have hg:=ζd c;rw[if_pos c,hg];simp[u,e]
  cases s with
  |nil=>simp[Sl.l]at c|emp=>simp[Sl.l]at c|row l=>simp[Sl.k,Sl.l,List.drop_of_length_le,u]|part l=>simp[Sl.k,Sl.l,List.drop_of_length_le,u]
 grind
def Bi(st:St)(t n:Nat)(s:SV)(xs ys:aY S'):aY (SV×St):=
 match xs,ys with
 |some _,some []=>match s with
  |.own d=>match bl st.m d with
   |some ob=>if St.new {st with m:=eO d st.m} t then some (.own t,{st with m:=bN (eO d st.m) t ob})else none|none=>none
  |.v .bO=>if st.new t then some (.own t,{st with m:=bN st.m t (.sl .nil n [])})else none|.v .dY=>if st.new t then some (.own t,{st with m:=bN st.m t (.sl .emp n [])})else none|_=>none
 |some xs,some ys=>
  if xs.length+ys.length<=2147483648/\LY s=true then
   if St.new {st with m:=giveUp st.m s} t then some (.own t,{st with m:=bN (giveUp st.m s) t (.sl .row n (xs++ys))})else none
  else none
 |_,_=>none
def Cx(st:St)(t n:Nat)(s x:SV):pK st (some t) (.append n) [s,x]=Bi st t n s (kD st.m n s) (kD st.m n x):=by cases s<;>cases x<;>(rfl)
def PI(n:Nat)(o:aY bH):aY S':=
 match o with
 |some (.sl k es u)=>if cO k then(if es=n then some u else none)else some []|_=>none
def Ht(n d:Nat):kD m n (.own d)=PI n (bl m d):=by simp[kD,PI];grind
def DD(n:Nat)(s:Sl α)(h:n=bD.size α):PI n (some (cI s))=some (rows s.l):=by subst h;cases s<;>simp[PI,cI,Sl.k,Sl.l,cO,rows]
def YD(n:Nat):kD m n (.v .bO)=some []:=rfl
def Yv(n:Nat):kD m n (.v .dY)=some []:=rfl
def Si(g:Tb SV)(p:ST)(w:S')(B:X')(y:Nat)(t n d:Nat)(l:aX α)(x:α)(h:n=bD.size α):Bi ⟨g,m,p,w,B,y⟩ t n (.own d) (some (rows l)) (some (rows [x]))=
 (fF (.row l) x).bind λs=>if St.new ⟨g,eO d m,p,w,B,y⟩ t then some (.own t,⟨g,bN (eO d m) t (cI s),p,w,B,y⟩)else none:=by
 subst h;have e:(rows l).length+(rows [x]).length=l.length+1:=by simp[iY]
 by_cases h:l.length+1<=2147483648
 .have a:fF (.row l) x=some (.row (l++[x])):=if_pos h;have u:Bi ⟨g,m,p,w,B,y⟩ t (bD.size α) (.own d) (some (rows l)) (some (rows [x]))=if St.new ⟨g,eO d m,p,w,B,y⟩ t then some (.own t,⟨g,bN (eO d m) t (.sl .row (bD.size α) (rows l++rows [x])),p,w,B,y⟩)else none:=if_pos ⟨Zaa,rfl⟩
  rw[a,u];simp[cI,Sl.k,Sl.l,rows]
 have a:fF (.row l) x=none:=if_neg h;have u:Bi ⟨g,m,p,w,B,y⟩ t (bD.size α) (.own d) (some (rows l)) (some (rows [x]))=none:=if_neg (λq=>h Zaa)
 grind
def Sc(g:Tb SV)(p:ST)(w:S')(B:X')(y:Nat)(t n:Nat)(x:α)(h:n=bD.size α):Bi ⟨g,m,p,w,B,y⟩ t n (.v .bO) (some []) (some (rows [x]))=
 if St.new ⟨g,m,p,w,B,y⟩ t then some (.own t,⟨g,bN m t (cI (.row [x])),p,w,B,y⟩)else none:=by
 subst h;rfl
def Su(g:Tb SV)(p:ST)(w:S')(B:X')(y:Nat)(t n:Nat)(x:α)(h:n=bD.size α):Bi ⟨g,m,p,w,B,y⟩ t n (.v .dY) (some []) (some (rows [x]))=
 if St.new ⟨g,m,p,w,B,y⟩ t then some (.own t,⟨g,bN m t (cI (.row [x])),p,w,B,y⟩)else none:=by
 subst h;rfl
end
def AF(g:Tb SV)(m:Tb bH)(p:ST)(w:S')(B:X')(y d:Nat):St.new ⟨g,m,p,w,B,y⟩ d=(!(p.contains d)&&(bl m d).isNone&& !(yz d g)&& !(vm d m)):=rfl
def u7(d:Nat):yz d []=false:=rfl
def tv(d n:Nat)(x:SV)(r:Tb SV):yz d ((n,x)::r)=(SV.c8 d x||yz d r):=rfl
def u6(d:Nat):vm d []=false:=rfl
def ta(d n:Nat)(x:bH)(r:Tb bH):vm d ((n,x)::r)=(bH.c8 d x||vm d r):=rfl
def AL(d:Nat)(x:V):SV.c8 d (.v x)=false:=rfl
def vL(d e:Nat):SV.c8 d (.own e)=(e==d):=rfl
def wj(d e o:Nat):SV.c8 d (.ptr e o)=(e==d):=rfl
def yG(d e i o:Nat):SV.c8 d (.el e i o)=(e==d):=rfl
def yJ(d e:Nat):SV.c8 d (.mp e)=(e==d):=rfl
def vQ(d:Nat)(f:Y')(a b:SW):SV.c8 d (.clo f a b)=(SV.dR d a||SV.dR d b):=rfl
def wD(d:Nat)(l:SW):SV.c8 d (.tup l)=SV.dR d l:=rfl
def uV(d:Nat):SV.dR d []=false:=rfl
def tu(d:Nat)(x:SV)(r:SW):SV.dR d (x::r)=(SV.c8 d x||SV.dR d r):=rfl
def uM(d:Nat)(cs:SW):bH.c8 d (.box cs)=SV.dR d cs:=rfl
def ID(m:Tb bH)(n:Nat):dg m n []=some []:=by cases n<;>simp[dg]
def FW(m:Tb bH)(n:Nat)(x:SV)(r:SW):dg m n (x::r)=(shut m n x).bind λy=>(dg m n r).bind λs=>some (y::s):=by cases n<;>(simp[dg];cases shut m _ x<;>(try rfl)<;>(cases dg m _ r<;>rfl))
def aaX(m:Tb bH)(n:Nat)(x:V):shut m n (.v x)=some x:=by cases n<;>simp[shut]
def T4(m:Tb bH)(n:Nat)(f:Y')(a b:SW):shut m (n+1) (.clo f a b)=(dg m n a).bind λx=>(dg m n b).bind λy=>some (.clo f x y):=by simp[shut];cases dg m n a<;>(try rfl)<;>(cases dg m n b<;>rfl)
def VU(m:Tb bH)(n:Nat)(l:SW):shut m (n+1) (.tup l)=(dg m n l).bind λx=>some (.tup x):=by simp[shut];cases dg m n l<;>rfl
def Uy(m:Tb bH)(n:Nat)(l:SW):shut m (n+1) (.agg l)=(dg m n l).bind λx=>some (.agg x):=by simp[shut];cases dg m n l<;>rfl
def vW{α:Type}(n:Nat):eO n ([]:Tb α)=[]:=rfl
def uY{α:Type}(n k:Nat)(x:α)(r:Tb α):eO n ((k,x)::r)=if k=n then eO n r else(k,x)::eO n r:=rfl
def mapM_nil(f:SW->SW):mapM f []=[]:=rfl
section
variable{N:Nat->Y'}{m:Tb bH}
def X5:result []=.tup []:=rfl
def YA(x:V):result [x]=x:=rfl
def Y9(x y:V)(l:So):result (x::y::l)=.tup (x::y::l):=rfl
def LK(p:xF)(a:V):ki N m p [.v a]=(bM N p [a]).bind λx=>some (.v x):=Oq N m p _ [a] rfl
def vS(p:xF)(a b:V):ki N m p [.v a,.v b]=(bM N p [a,b]).bind λx=>some (.v x):=Oq N m p _ [a,b] rfl
def oH(l:So):dA (l.map .v)=some l:=by induction l with|nil=>rfl|cons a l u=>simp only[map_cons,dA,u];rfl
def xG(n:Nat)(l:So):dg m n (l.map .v)=some l:=by induction l with|nil=>exact ID m n|cons a l u=>rw[map_cons,FW,aaX,u];rfl
def Sl.WO{α:Type}(l:aX α):(Sl.row l).l=l:=rfl
def Sd(cs:So):mL cs [] []=some cs:=rfl
def QD(cs:So)(off size:Nat)(pl:aX (Nat×Nat))(v:V)(vs:So):mL cs ((off,size)::pl) (v::vs)=
 if v.cells.length=size/\off+v.cells.length<=cs.length then mL (cs.take off++v.cells++cs.drop (off+v.cells.length)) pl vs else none:=by
 simp only[mL]
 by_cases h:v.cells.length=size<;>by_cases u:off+v.cells.length<=cs.length
 .rw[if_neg (by simp[h];omega),if_pos ⟨h,u⟩]
 .rw[if_pos (by simp[h];omega),if_neg (λq=>u q.2)]
 .rw[if_pos (by simp[h]),if_neg (λq=>h q.1)]
 rw[if_pos (by simp[h]),if_neg (λq=>h q.1)]
def Sk(k:T2)(n:Int):V.cells (.int k n)=[.int k n]:=rfl
def NG(n:X'):V.cells (.bool n)=[.bool n]:=rfl
def SM(n:U'):V.cells (.str n)=[.str n]:=rfl
def S7:V.cells .bO=[.bO]:=rfl
def oZ(k:T2)(n:Int):V.one (.int k n)=true:=rfl
def nC(n:X'):V.one (.bool n)=true:=rfl
def oU(n:U'):V.one (.str n)=true:=rfl
end
section
variable{S:Sys}{c:cn}{β γ δ:Type}{Q:Out×St->aY β}{L:aY β}{e:γ->aY β}
def Rr{dr:X'}{fr:ST}{d:aY Nat}{gd:aY (Nat×X')}{now:X'}{k:K}{az:QR}{st:St}(h:wanted st.g gd=some true):
 gz S c dr fr ⟨d,gd,now,k,az,[],[]⟩ st=gz S c dr fr ⟨d,none,now,k,az,[],[]⟩ st:=by
 unfold gz;rw[h];rfl
def EI(dr:X')(st:St):EO dr [] st=some st:=by cases dr<;>rfl
def oQ(f:SV->aY V):SW->aY So
 |[]=>some []|x::r=>(f x).bind λy=>(oQ f r).bind λs=>some (y::s)
def jx(m:Tb bH):Nat->SV->aY V
 |0,x=>match x with
  |.v y=>some y|.own d=>match bl m d with
   |some (.sl k es xs)=>some (qG k es xs)|_=>none
  |.mp d=>match bl m d with
   |some (.mp B)=>some (.fmap B)|_=>none
  |_=>none
 |n+1,x=>match x with
  |.v y=>some y|.own d=>match bl m d with
   |some (.sl k es xs)=>some (qG k es xs)|_=>none
  |.ptr d o=>match bl m d with
   |some (.box cs)=>match oQ (jx m n) cs with
    |some xs=>if o<=xs.length then some (.fptr (xs.drop o))else none|none=>none
   |_=>none
  |.mp d=>match bl m d with
   |some (.mp B)=>some (.fmap B)|_=>none
  |.clo f a b=>(oQ (jx m n) a).bind λx=>(oQ (jx m n) b).bind λy=>some (.clo f x y)|.tup l=>(oQ (jx m n) l).bind λx=>some (.tup x)|.agg l=>(oQ (jx m n) l).bind λx=>some (.agg x)|_=>none
def yF(m:Tb bH):∀(n:Nat),(∀x,shut m n x=jx m n x)/\∀l,dg m n l=oQ (jx m n) l:=by
 have w:∀n,(∀x,shut m n x=jx m n x)->∀l,dg m n l=oQ (jx m n) l:=by intro n h l;induction l with|nil=>exact ID m n|cons a l u=>rw[FW,h a,u];rfl
 intro n;induction n with|zero=>have c:∀x,shut m 0 x=jx m 0 x:=(by intro x;cases x<;>simp[shut,jx]<;>rfl);grind|succ n u=>have e:∀x,shut m (n+1) x=jx m (n+1) x:=(by intro x;cases x with|ptr d o=>simp[shut,jx,u.2];rfl|clo f a b=>rw[T4,u.2,u.2];rfl|tup l=>rw[VU,u.2];rfl|agg l=>rw[Uy,u.2];rfl|_=>simp[shut,jx]<;>rfl);grind
def xQ(S:Sys)(c:cn)(dr:X'):ST->R0->(St->aY β)->St->aY β
 |_,[],k,st=>k st|fr,o::r,k,st=>((EO dr o.pre st).bind (gz S c dr fr o.strip)).bind λst'=>xQ S c dr (if dr then tM fr o.strip else fr) r k (rZ o.dead st')
def H6(dr:X'):∀(l:R0)(fr:ST)(k:St->aY β)(st:St),xQ S c dr fr l k st=(pN S c dr fr l st).bind k
 |[],_,_,_=>rfl|o::r,fr,k,st=>by simp[xQ,pN];cases(EO dr o.pre st).bind (gz S c dr fr o.strip)with|none=>rfl|some st'=>exact H6 dr r _ k _
def rP(S:Sys)(c:cn):RC->(St->aY β)->(Nat->St->aY β)->(St->aY β)->St->aY β
 |.skip,n,_,_,st=>n st|.ops l,n,_,_,st=>xQ S c false [] l n st|.sq l,n,_,_,st=>xQ S c true [] l n st|.seq a b,n,x,r,st=>rP S c a (λst=>rP S c b n x r st) x r st|.cond y a b,n,x,r,st=>match tH S.N st.g y with
  |some (.v (.bool t))=>bg t (rP S c a n x r st) (rP S c b n x r st)|_=>none
 |.block id a,n,x,r,st=>rP S c a n (λk st=>if k=id then n st else x k st) r st|.loop a,n,x,r,st=>(qR (cN S c a) st).bind λq=>match q with|(.norm,st)=>n st|(.exit k,st)=>x k st|(.ret,st)=>r st
 |.each g ps a b,n,x,r,st=>(cN S c (.each g ps a b) st).bind λq=>match q with|(.norm,st)=>n st|(.exit k,st)=>x k st|(.ret,st)=>r st
 |.exit k,_,x,_,st=>x k st|.ret,_,_,r,st=>r st|.gh g a,n,x,r,st=>(ghost g st).bind λst=>rP S c a n x r st|.hg a g,n,x,r,st=>rP S c a (λst=>(ghost g st).bind n) x r st
def HM(n:St->aY β)(x:Nat->St->aY β)(r:St->aY β):Out×St->aY β
 |(.norm,st)=>n st|(.exit k,st)=>x k st|(.ret,st)=>r st
def Gf:∀(d:RC)(n:St->aY β)(x:Nat->St->aY β)(r:St->aY β)(st:St),rP S c d n x r st=(cN S c d st).bind (HM n x r):=by
 intro d
 induction d with
 |skip=>intros;rfl|ops l=>intro n x r st;simp[rP,cN,H6];cases pN S c false [] l st<;>rfl|sq l=>intro n x r st;simp[rP,cN,H6];cases pN S c true [] l st<;>rfl|seq a b u w=>intro n x r st;simp[rP,cN,u,w];cases h:cN S c a st with|none=>rfl|some q=>have⟨o,st'⟩:=q;cases o<;>rfl
 |cond y a b u w=>
  intro n x r st;simp[rP,cN,u,w]
  cases tH S.N st.g y with
  |none=>rfl|some v=>cases v with
   |v z=>cases z with
    |bool t=>cases t<;>rfl|_=>rfl
   |_=>rfl
 |block id a B=>intro n x r st;simp[rP,cN,B];cases h:cN S c a st with|none=>rfl|some q=>have⟨o,st'⟩:=q;cases o with|exit k=>simp[HM];split<;>rfl|_=>rfl
 |loop a B=>intro n x r st;rfl|each g ps a b u w=>intro n x r st;rfl|exit k=>intros;rfl|ret=>intros;rfl|gh g a B=>simp[rP,cN,B];grind|hg a g B=>intro n x r st;simp[rP,cN,B];cases h:cN S c a st with|none=>rfl|some q=>have⟨o,st'⟩:=q;cases o with|norm=>simp[HM];cases ghost g st'<;>rfl|_=>rfl
section
variable(S c Q)
mutual
def o9:QQ->St->aY β
 |[]=>λst=>Q (.norm,st)|.seq b::fs=>λst=>rP S c b (o9 fs) (pI fs) (λst=>Q (.ret,st)) st|.blk _::fs=>o9 fs|.gst g::fs=>λst=>(ghost g st).bind (o9 fs)
def pI:QQ->Nat->St->aY β
 |[]=>λk st=>Q (.exit k,st)|.seq _::fs=>pI fs|.blk id::fs=>λk st=>if k=id then o9 fs st else pI fs k st|.gst _::fs=>pI fs
end
def mz(a:RC)(fs:QQ)(st:St):aY β:=rP S c a (o9 S c Q fs) (pI S c Q fs) (λst=>Q (.ret,st)) st
end
section
variable{dr:X'}{fr:ST}{d:Nat}{dst:aY Nat}{now:X'}{az:QR}{st:St}{α:Type}[bD α]
def K9{p:xF}{svs:SW}{m:aY δ}{v:δ->SV}(B:bW S.N st.g az=some svs)(a:isSlice p=false)(h:ki S.N st.m p svs=m.bind λx=>some (v x)):
 gz S c dr fr ⟨dst,none,now,.p p,az,[],[]⟩ st=m.bind λx=>some (cV st dst (v x)):=by
 rw[We _ _ _ _ _ _ _ a,B]
 grind
def C8{p:xF}{svs:SW}{v:SV}(B:bW S.N st.g az=some svs)(a:isSlice p=false)(h:ki S.N st.m p svs=some v):
 gz S c dr fr ⟨dst,none,now,.p p,az,[],[]⟩ st=some (cV st dst v):=by
 rw[We _ _ _ _ _ _ _ a,B]
 grind
def Wx{n:Nat}{s:Sl α}{k:T2}{i:Int}(B:bW S.N st.g az=some [.v (cm s),.v (.int k i)])(D:n=bD.size α):
 gz S c dr fr ⟨dst,none,now,.p (.idxS n),az,[],[]⟩ st=(idx s i).bind λx=>some (cV st dst (.v (.fptr (cells x)))):=
 K9 B rfl (by rw[vS,HF s k i n D];grind)
def acd{n e:Nat}{s:Sl α}{k:T2}{i:Int}(B:bW S.N st.g az=some [.own e,.v (.int k i)])(D:bl st.m e=some (cI s))(G:n=bD.size α):
 gz S c dr fr ⟨dst,none,now,.p (.idxS n),az,[],[]⟩ st=(s.jP i).bind λj=>some (cV st dst (.el e j 0)):=
 K9 B rfl (by rw[XU,D,XP n e s i G])
def WC{s:Sl α}(B:bW S.N st.g az=some [.v (cm s)]):gz S c dr fr ⟨dst,none,now,.p .lenSl,az,[],[]⟩ st=some (cV st dst (.v (.int .i64 s.l.length))):=C8 B rfl (by rw[LK,Kw];rfl)
def abg{e:Nat}{s:Sl α}(B:bW S.N st.g az=some [.own e])(D:bl st.m e=some (cI s)):gz S c dr fr ⟨dst,none,now,.p .lenSl,az,[],[]⟩ st=some (cV st dst (.v (.int .i64 s.l.length))):=C8 B rfl (by rw[TR,D,YE])
def abO{q:aY KT}{u:aY Nat}{k:T2}{a b:Int}(B:bW S.N st.g az=some [.v (.int k a),.v (.int k b)]):gz S c dr fr ⟨dst,none,now,.p (.bin q u .quo),az,[],[]⟩ st=(BC k a b).bind λx=>some (cV st dst (.v (.int k x))):=K9 B rfl (by rw[vS,aa9];grind)
def Yp{u:aY Nat}{s:Sl α}(B:bW S.N st.g az=some [.v (cm s),.v .bO]):gz S c dr fr ⟨dst,none,now,.p (.bin (some .slice) u .eql),az,[],[]⟩ st=s.isNil.bind λt=>some (cV st dst (.v (.bool t))):=K9 B rfl (by rw[vS,TN];grind)
def Uc{u:aY Nat}{s:Sl α}(B:bW S.N st.g az=some [.v (cm s),.v .bO]):gz S c dr fr ⟨dst,none,now,.p (.bin (some .slice) u .neq),az,[],[]⟩ st=s.isNil.bind λt=>some (cV st dst (.v (.bool !t))):=K9 B rfl (by rw[vS,Q_];grind)
def Uf{s:U'}{k:T2}{n:Int}(B:bW S.N st.g az=some [.v (.str s),.v (.int k n)]):gz S c dr fr ⟨dst,none,now,.p .idxStr,az,[],[]⟩ st=(mY s n).bind λx=>some (cV st dst (.v (.int .u8 x))):=K9 B rfl (by rw[vS,Q7];grind)
def aar{n e i o:Nat}{a:X'}{s:Sl α}{v:α->V}(B:bW S.N st.g az=some [.el e i o])(hd:(!dr||now||fS fr [.el e i o])=true)(D:bl st.m e=some (cI s))(b:∀x:α,(cut (cells x) o n).bind (mk a)=some (v x)):
 gz S c dr fr ⟨dst,none,now,.r (.load n a),az,[],[]⟩ st=(s.get i).bind λx=>some (cV st dst (.v (v x))):=by
 rw[Dy,B];simp only[ζb,hd,ab_,D,S9]
 cases s.get i with
 |none=>rfl|some x=>
  cases d:cut (cells x) o n with
  |none=>grind|some r=>grind
def NP{n e i:Nat}{s:Sl α}{x:V}{a:α}(B:bW S.N st.g az=some [.el e i 0,.v x])(hd:(!dr||now)=true)(D:bl st.m e=some (cI s))(G:x.cells=cells a)(J:n=bD.size α):
 gz S c dr fr ⟨dst,none,now,.l (.store n),az,[],[]⟩ st=(s.put i a).bind λU=>some (cV {st with m:=bN st.m e (cI U)} dst (.v .undef)):=by
 rw[zC,B];simp[hd,OX,D];rw[P8 st.g st.pin st.want st.more st.yid e i n x a G J s]
 grind
def aad{n:Nat}{z:α}{zero:So}{i:Int}(B:bW S.N st.g az=some [.v (.int .i64 i),.v (.int .i64 i)])(D:zero=cells z)(G:n=bD.size α)(J:st.new d=true):
 gz S c dr fr ⟨some d,none,now,.a (.makeSl n zero),az,[],[]⟩ st=(nR i z).bind λs=>some {st with g:=bN st.g d (.own d),m:=bN st.m d (cI s)}:=by
 rw[AY,B];simp[J];rw[abW z i d n zero D G]
 grind
def acf{n e u:Nat}{s:Sl α}{x:α}(G:bW S.N st.g az=some [.own e,.own u])(hd:(!dr||now)=true)(J:bl st.m e=some (cI s))(a:bl st.m u=some (cI (.row [x])))(B:n=bD.size α)(U:St.new {st with m:=eO e st.m} d=true):
 gz S c dr fr ⟨some d,none,now,.l (.append n),az,[],[]⟩ st=(fF s x).bind λD=>some {st with g:=bN st.g d (.own d),m:=bN (eO e st.m) d (cI D)}:=by
 rw[zC,G];simp[hd,Cx,Ht,J,a];rw[DD n s B,DD n (.row [x]) B];have:=Si (m:=st.m) st.g st.pin st.want st.more st.yid d n e s.l x B;simp[Sl.WO];rw[this];have w:fF (.row s.l) x=fF s x:=by cases s<;>rfl
 rw[w]
 cases fF s x with
 |none=>rfl|some D=>simp;rw[if_pos U];rfl
def aaz{n u:Nat}{x:α}{v:V}(a:v=.bO\/v=.dY)(G:bW S.N st.g az=some [.v v,.own u])(hd:(!dr||now)=true)(b:bl st.m u=some (cI (.row [x])))(B:n=bD.size α)(D:st.new d=true):
 gz S c dr fr ⟨some d,none,now,.l (.append n),az,[],[]⟩ st=some {st with g:=bN st.g d (.own d),m:=bN st.m d (cI (.row [x]))}:=by
 rw[zC,G];simp[hd,Cx,Ht,b];rw[DD n (.row [x]) B];simp[Sl.WO];rcases a with rfl|rfl
 .rw[YD,Sc (m:=st.m) st.g st.pin st.want st.more st.yid d n x B];rw[if_pos D];rfl
 rw[Yv,Su (m:=st.m) st.g st.pin st.want st.more st.yid d n x B];rw[if_pos D];rfl
def aaq{f:Y'}{svs args:SW}{cs:So}{m:aY δ}{E:δ->So}(a:gZ c f cs=m.bind λr=>some (E r))(b:S.E.keep f=false)(D:bW S.N st.g az=some svs)(G:mE svs=some (f,args))
 (B:oQ (jx st.m 8) args=some cs)(J:((!dr||now)||gJ st.m fr args)=true)(d:∀r,((result (E r)).scalar||(dA args).isSome)=true):
 gz S c dr fr ⟨dst,none,now,.c,az,[],[]⟩ st=m.bind λr=>some (cV st dst (.v (result (E r)))):=by
 rw[yx dr fr dst now az st svs f args D G,NY _ _ _ _ _ _ _ b,(yF st.m 8).2,B];simp[J,a]
 cases m with
 |none=>rfl|some r=>
  simp[Md]
  grind
end
end
section
variable{S:Sys}{c:cn}{β γ:Type}{Q:Out×St->aY β}{L:aY β}{e:γ->aY β}
def rA(a:RC)(st:St):mz S c Q a [] st=(cN S c a st).bind Q:=by unfold mz;rw[Gf];congr 1;funext q;have⟨o,st⟩:=q;cases o<;>rfl
def DN(a:RC)(st:St):cN S c a st=mz S c some a [] st:=by rw[rA];cases cN S c a st<;>rfl
def p8(rs:aX RV):Out×St->aY So
 |(.exit _,_)=>none|(_,st)=>(mh st rs).bind (oQ (jx st.m 8))
def XL(rs:aX RV):Lu rs=p8 rs:=by funext q;have⟨o,st⟩:=q;cases o;simp only[Lu,p8];congr 1;funext l;exact(yF st.m 8).2 l;rfl;simp only[Lu,p8];congr 1;funext l;exact(yF st.m 8).2 l
def Xk{S:Sys}{T:sQ}{f:Y'}{rf:RF}(B:T f=some rf)(az:So)(D:az.length<=rf.na):gZ (dm S T) f az=mz S (dm S T) (p8 rf.rs) rf.body [] (start (az.map .v) []):=by rw[Vs B az D,<-Kx,rA,XL]
end
def mm{α σ ε ρ:Type}(step:α->σ->aY (Fw σ ε ρ)):aX α->σ->aY (Fw σ ε ρ)
 |[],s=>some (.n s)|x::xs,s=>(step x s).bind λw=>match w with
  |.n B=>mm step xs B|.x e=>some (.x e)|.r b=>some (.r b)
def Fw.tj{ν ε ρ γ:Type}(fn:ν->γ)(B:ε->γ)(fr:ρ->γ):Fw ν ε ρ->γ
 |.n a=>fn a|.x e=>B e|.r b=>fr b
def Fw.zm{ν ε ρ:Type}(B:ν->Tb bH)(eε:ε->Nat×Tb bH)(eρ:ρ->Tb bH):Fw ν ε ρ->Out×Tb bH
 |.n a=>(.norm,B a)|.x e=>(.exit (eε e).1,(eε e).2)|.r b=>(.ret,eρ b)
def zm(q:Out×St):aY (Out×Tb bH):=some (q.1,q.2.m)
section
variable{S:Sys}{c:cn}{β γ:Type}{Q:Out×St->aY β}{L:aY β}{e:γ->aY β}
def Bt(S:Sys)(c:cn)(b:RC):Out×St->aY (Out×Tb bH)
 |(.norm,st)=>mz S c zm b [] st|_=>none
def Qy(ps:ST)(a b:RC)(st:St)(x:So)(m:Tb bH)(B:x.length=ps.length):
 j7 ps (cN S c a) (cN S c b) st x m=mz S c (Bt S c b) a [] ⟨zS st.g ps (x.map .v),m,st.pin++sL st.g,[],true,0⟩:=by
 unfold j7;rw[if_pos B,rA]
 cases cN S c a ⟨zS st.g ps (x.map .v),m,st.pin++sL st.g,[],true,0⟩with
 |none=>rfl|some q=>
  have⟨o,u⟩:=q
  cases o with
  |norm=>simp only[ζb,Bt];rw[rA];cases cN S c b u<;>rfl|_=>rfl
end
def Le{α:Type}(a b:aY α):Prop:=∀r,a=some r->b=some r
section
variable{α:Type}
def Le.refl(a:aY α):Le a a:=λ_ h=>h
def Le.of_eq{a b:aY α}(h:b=a):Le a b:=λ_ u=>h.trans u
def Le.trans{a b d:aY α}(c:Le a b)(B:Le b d):Le a d:=λr h=>B r (c r h)
def Le.none(b:aY α):Le (none:aY α) b:=λr h=>by cases h
def Le.bind{β:Type}{a b:aY α}{f g:α->aY β}(h:Le a b)(B:∀x,Le (f x) (g x)):Le (a.bind f) (b.bind g):=λr c=>by have⟨x,d,u⟩:=ζg.1 c;rw[h x d];exact B x r u
end
section
variable{S:Sys}{c:cn}{β γ δ:Type}{Q:Out×St->aY β}{L:aY β}{e:γ->aY β}
def La{dr:X'}{fr:ST}{dst:aY Nat}{now:X'}{az:QR}{st:St}{f:Y'}{svs args:SW}{cs:So}{m:aY δ}{E:δ->So}(a:Le (m.bind λr=>some (E r)) (gZ c f cs))(b:S.E.keep f=false)(D:bW S.N st.g az=some svs)(G:mE svs=some (f,args))
 (B:oQ (jx st.m 8) args=some cs)(J:((!dr||now)||gJ st.m fr args)=true)(d:∀r,((result (E r)).scalar||(dA args).isSome)=true):
 Le (m.bind λr=>some (cV st dst (.v (result (E r))))) (gz S c dr fr ⟨dst,none,now,.c,az,[],[]⟩ st):=by
 intro q w;have⟨r,e,z⟩:=ζg.1 w;have u:gZ c f cs=(some r).bind λr=>some (E r):=a _ (by rw[e];rfl)
 rw[aaq (m:=some r) u b D G B J d];exact z
def UH{σ ε ρ:Type}{f:St->aY (Out×St)}{step:σ->aY (Fw σ ε ρ)}{eσ:σ->St}{eε:ε->Nat×St}{eρ:ρ->St}(h:∀s,Le ((step s).bind λw=>some (Fw.out eσ eε eρ w)) (f (eσ s)))(s:σ):
 Le ((bG step s).bind λw=>some (Fw.out (λe=>Empty.elim e) eε eρ w)) (qR f (eσ s)):=by
 have key:∀k s r,lz step k s=some r->kP f k (eσ s)=some (Fw.out (λe=>Empty.elim e) eε eρ r):=by intro k;induction k with|zero=>intro s r h;simp[lz]at h|succ k C=>intro s r u;simp only[lz]at u;cases z:step s with|none=>rw[z]at u;cases u|some w=>rw[z]at u;have B:=h s (Fw.out eσ eε eρ w) (by rw[z];rfl);simp only[kP,B];cases w with|n a=>exact C a r u|x e=>cases u;rfl|r b=>cases u;rfl
 intro r c;have⟨w,d,B⟩:=ζg.1 c;have⟨k,g⟩:=qK.1 d;cases B;exact pe.2 ⟨k,key k s w g⟩
def abJ{σ ε ρ:Type}{a:RC}{fs:QQ}{step:σ->aY (Fw σ ε ρ)}{eσ:σ->St}{eε:ε->Nat×St}{eρ:ρ->St}{s:σ}{B:ε->aY γ}{fr:ρ->aY γ}
 (D:L=mz S c Q (.loop a) fs (eσ s))(h:∀s,Le ((step s).bind λw=>some (Fw.out eσ eε eρ w)) (mz S c some a [] (eσ s)))
 (G:∀x,Le ((B x).bind e) (pI S c Q fs (eε x).1 (eε x).2))(d:∀b,Le ((fr b).bind e) (Q (.ret,eρ b))):Le (((bG step s).bind (Fw.elim B fr)).bind e) L:=by
 subst D;have g:mz S c Q (.loop a) fs (eσ s)=(qR (cN S c a) (eσ s)).bind (HM (o9 S c Q fs) (pI S c Q fs) (λst=>Q (.ret,st))):=by unfold mz;rw[Gf];rfl
 rw[g];have u:=UH (step:=step) (f:=cN S c a) (eσ:=eσ) (eε:=eε) (eρ:=eρ) (λs=>by rw[DN];exact h s) s
 cases z:bG step s with
 |none=>exact Le.none _|some w=>
  have C:=u _ (by rw[z];rfl)
  rw[C]
  cases w with
  |n a=>cases a|x a=>exact G a|r a=>exact d a
def Kr{α σ ε ρ:Type}{f:So->Tb bH->aY (Out×Tb bH)}{step:α->σ->aY (Fw σ ε ρ)}{eI:α->So}{eσ:σ->Tb bH}{eε:ε->Nat×Tb bH}{eρ:ρ->Tb bH}
 (h:∀x s,Le ((step x s).bind λw=>some (Fw.zm eσ eε eρ w)) (f (eI x) (eσ s))):∀(xs:aX α)(s:σ),Le ((mm step xs s).bind λw=>some (Fw.zm eσ eε eρ w)) (tD f (xs.map eI) (eσ s))
 |[],s=>λr a=>a|x::xs,s=>by simp only[map_cons,tD,mm];cases B:step x s with|none=>exact Le.none _|some w=>have D:=h x s (Fw.zm eσ eε eρ w) (by rw[B];rfl);rw[D];cases w with|n u=>simp only[ζb,Fw.zm];exact Kr h xs u|x e=>exact Le.refl _|r b=>exact Le.refl _
def acq{α σ ε ρ:Type}{g:Arg}{ps:ST}{a b:RC}{fs:QQ}{f:Y'}{x y:So}{d:aX α}{eI:α->So}{step:α->σ->aY (Fw σ ε ρ)}{eσ:σ->Tb bH}{eε:ε->Nat×Tb bH}{eρ:ρ->Tb bH}{i:Tb SV}{s:σ}
 {fn:σ->aY γ}{B:ε->aY γ}{fr:ρ->aY γ}
 (D:L=mz S c Q (.each g ps a b) fs ⟨i,eσ s,[],[],true,0⟩)(j:tH S.N i g=some (.v (.clo f x y)))(k:S.items f x y=some (d.map eI))(G:∀x,(eI x).length=ps.length)
 (h:∀x s,Le ((step x s).bind λw=>some (Fw.zm eσ eε eρ w)) (mz S c (Bt S c b) a [] ⟨zS i ps ((eI x).map .v),eσ s,sL i,[],true,0⟩))
 (J:∀s,Le ((fn s).bind e) (o9 S c Q fs ⟨i,eσ s,[],[],true,0⟩))
 (U:∀x,Le ((B x).bind e) (pI S c Q fs (eε x).1 ⟨i,(eε x).2,[],[],true,0⟩))(l:∀b,Le ((fr b).bind e) (Q (.ret,⟨i,eρ b,[],[],true,0⟩))):
 Le (((mm step d s).bind (Fw.tj fn B fr)).bind e) L:=by
 subst D;have m:mz S c Q (.each g ps a b) fs ⟨i,eσ s,[],[],true,0⟩=(cN S c (.each g ps a b) ⟨i,eσ s,[],[],true,0⟩).bind (HM (o9 S c Q fs) (pI S c Q fs) (λst=>Q (.ret,st))):=by unfold mz;rw[Gf]
 rw[m];simp only[cN,j,k];have u:=Kr (step:=step) (f:=j7 ps (cN S c a) (cN S c b) ⟨i,eσ s,[],[],true,0⟩) (eI:=eI) (eσ:=eσ) (eε:=eε) (eρ:=eρ) (λx s=>by rw[Qy _ _ _ _ _ _ (G x)];exact h x s) d s
 cases z:mm step d s with
 |none=>exact Le.none _|some w=>
  have C:=u _ (by rw[z];rfl)
  rw[C]
  cases w with
  |n a=>exact J a|x a=>exact U a|r a=>exact l a
end
inductive Fo where
 |rc(c:RC)|ops(dr:Bool)(fr:List Nat)(l:List RO)|nx|ex(k:Nat)|rt
abbrev bE(g:Tb SV)(m:Tb bH):St:=⟨g,m,[],[],true,0⟩
section
variable(S:Sys)(c:cn){β:Type}(Q:Out×St->aY β)
def rn:Fo->QQ->St->aY β
 |.rc a,fs,st=>mz S c Q a fs st|.ops dr fr l,fs,st=>xQ S c dr fr l (o9 S c Q fs) st|.nx,fs,st=>o9 S c Q fs st|.ex k,fs,st=>pI S c Q fs k st|.rt,_,st=>Q (.ret,st)
def Bs:Fo->QQ->St->aY (Fo×QQ×St)
 |.rc .skip,fs,st=>some (.nx,fs,st)|.rc (.ops l),fs,st=>some (.ops false [] l,fs,st)|.rc (.sq l),fs,st=>some (.ops true [] l,fs,st)|.rc (.seq a b),fs,st=>some (.rc a,.seq b::fs,st)|.rc (.cond y a b),fs,st=>match tH S.N st.g y with
  |some (.v (.bool true))=>some (.rc a,fs,st)|some (.v (.bool false))=>some (.rc b,fs,st)|_=>none
 |.rc (.block id a),fs,st=>some (.rc a,.blk id::fs,st)|.rc (.exit k),fs,st=>some (.ex k,fs,st)|.rc .ret,fs,st=>some (.rt,fs,st)|.rc (.gh g a),fs,st=>match ghost g st with
  |some st'=>some (.rc a,fs,st')|none=>none
 |.rc (.hg a g),fs,st=>some (.rc a,.gst g::fs,st)|.rc (.loop _),_,_=>none|.rc (.each ..),_,_=>none|.ops _ _ [],fs,st=>some (.nx,fs,st)|.ops dr fr (⟨d,gd,now,k,az,dd,[]⟩::r),fs,st=>match gz S c dr fr ⟨d,gd,now,k,az,[],[]⟩ st with
  |some st'=>some (.ops dr (if dr then tM fr ⟨d,gd,now,k,az,[],[]⟩else fr) r,fs,rZ dd st')|none=>none
 |.ops dr fr (⟨d,gd,now,k,az,dd,x::xs⟩::r),fs,st=>if dr&& !(CA x&&xs.all CA)then none else match ghost x st with
  |some st'=>some (.ops dr fr (⟨d,gd,now,k,az,dd,xs⟩::r),fs,st')|none=>none
 |.nx,.seq b::fs,st=>some (.rc b,fs,st)|.nx,.blk _::fs,st=>some (.nx,fs,st)|.nx,.gst g::fs,st=>match ghost g st with
  |some st'=>some (.nx,fs,st')|none=>none
 |.nx,[],_=>none|.ex k,.seq _::fs,st=>some (.ex k,fs,st)|.ex k,.blk id::fs,st=>some (if k=id then .nx else .ex k,fs,st)|.ex k,.gst _::fs,st=>some (.ex k,fs,st)|.ex _,[],_=>none|.rt,_,_=>none
def jg:Nat->Fo->QQ->St->aY (Fo×QQ×St)
 |0,fo,fs,st=>some (fo,fs,st)|n+1,fo,fs,st=>match Bs S c fo fs st with
  |some (fo',fs',st')=>jg n fo' fs' st'|none=>none
end
section
variable{S:Sys}{c:cn}{β γ δ:Type}{Q:Out×St->aY β}{e:γ->aY β}
def Ud{fo fo':Fo}{fs fs':QQ}{st st':St}(h:Bs S c fo fs st=some (fo',fs',st')):rn S c Q fo fs st=rn S c Q fo' fs' st':=by
 cases fo with
 |rc a=>cases a with|cond y a b=>simp only[Bs]at h;split at h;(next u=>cases h;simp only[rn,mz,rP,u,bg,if_true]);(next u=>cases h;simp only[rn,mz,rP,u,bg];rfl);cases h|gh g a=>simp only[Bs]at h;split at h;(next u=>cases h;simp only[rn,mz,rP,u,ζb]);cases h|loop a=>cases h|each g ps a b=>cases h|seq a b=>cases h;simp only[rn,mz,rP,o9,pI]|block id a=>cases h;simp only[rn,mz,rP,o9,pI]|hg a g=>cases h;simp only[rn,mz,rP,o9,pI]|_=>cases h;simp only[rn,mz,rP]
 |ops dr fr l=>cases l with|nil=>cases h;simp only[rn,xQ]|cons o r=>have⟨d,gd,now,k,az,dd,pre⟩:=o;cases pre with|nil=>simp only[Bs]at h;split at h;(next u=>cases h;simp only[rn,xQ,EI,RO.strip,ζb,u]);cases h|cons x w=>simp only[Bs]at h;split at h;cases h;rename_i hd;split at h;rename_i u;cases h;(cases dr with|true=>simp only[Bool.true_and,Bool.not_eq_true',Bool.not_eq_false,ζh]at hd;simp only[rn,xQ,RO.strip,EO,qZ,if_true,List.all_cons,hd.1,hd.2,Bool.and_self,u,ζb]|false=>simp only[rn,xQ,RO.strip,EO,qZ,Bool.false_eq_true,if_false,u,ζb]);cases h
 |nx=>cases fs with|nil=>cases h|cons f fs=>cases f with|seq b=>cases h;simp only[rn,mz,o9]|blk id=>cases h;simp only[rn,o9]|gst g=>simp only[Bs]at h;split at h;(next u=>cases h;simp only[rn,o9,u,ζb]);cases h
 |ex k=>cases fs with|nil=>cases h|cons f fs=>cases f with|seq b=>cases h;simp only[rn,pI]|blk id=>cases h;simp only[rn,pI];by_cases e:k=id;simp only[if_pos e,rn];simp only[if_neg e,rn]|gst g=>cases h;simp only[rn,pI]
 |rt=>cases h
def q_:∀{n:Nat}{fo fo':Fo}{fs fs':QQ}{st st':St},jg S c n fo fs st=some (fo',fs',st')->rn S c Q fo fs st=rn S c Q fo' fs' st'
 |0,fo,fo',fs,fs',st,st',h=>by cases h;rfl|n+1,fo,fo',fs,fs',st,st',h=>by simp only[jg]at h;split at h;(next a b d B=>rw[Ud B];exact q_ h);cases h
def CU{n:Nat}{fo fo':Fo}{fs fs':QQ}{st st':St}{m:aY β}(h:jg S c n fo fs st=some (fo',fs',st'))(B:Le m (rn S c Q fo' fs' st')):Le m (rn S c Q fo fs st):=by rw[q_ h];exact B
def adf{n:Nat}{fo fo':Fo}{fs fs':QQ}{st st':St}{r:γ}(h:jg S c n fo fs st=some (fo',fs',st'))(B:rn S c Q fo' fs' st'=e r):Le ((some r).bind e) (rn S c Q fo fs st):=by rw[q_ h];exact Le.of_eq B
def W8{m:aY δ}{f:δ->aY γ}{L:aY β}(k:δ->aY β)(B:Le (m.bind k) L)(b:∀r,Le ((f r).bind e) (k r)):Le ((m.bind f).bind e) L:=by intro r a;cases m with|none=>cases a|some x=>exact B r (b x r a)
def adw{n:Nat}{fo:Fo}{fs fs':QQ}{st0:St}{dr:X'}{q l:R0}{fr:ST}{st:St}{d:aY Nat}{gd:aY (Nat×X')}{now:X'}{k:K}{az:QR}{dd:ST}{m:aY δ}{g:δ->St}{f:δ->aY γ}
 (B:jg S c n fo fs st0=some (.ops dr fr q,fs',st))(D:q=⟨d,gd,now,k,az,dd,[]⟩::l)(a:wanted st.g gd=some true)
 (G:Le (m.bind λx=>some (g x)) (gz S c dr fr ⟨d,none,now,k,az,[],[]⟩ st))
 (h:∀x,m=some x->Le ((f x).bind e) (rn S c Q (.ops dr (if dr then tM fr ⟨d,gd,now,k,az,[],[]⟩else fr) l) fs' (rZ dd (g x)))):Le ((m.bind f).bind e) (rn S c Q fo fs st0):=by
 rw[q_ B];subst D;simp only[rn,xQ,RO.strip,EI,ζb];rw[Rr a]
 cases m with
 |none=>exact Le.none _|some x=>rw[G (g x) rfl];exact h x rfl
def V9{n:Nat}{fo:Fo}{fs fs':QQ}{st0:St}{dr:X'}{q l:R0}{fr:ST}{st st':St}{d:aY Nat}{gd:aY (Nat×X')}{now:X'}{k:K}{az:QR}{dd:ST}{m:aY β}
 (B:jg S c n fo fs st0=some (.ops dr fr q,fs',st))(D:q=⟨d,gd,now,k,az,dd,[]⟩::l)(a:wanted st.g gd=some true)
 (G:gz S c dr fr ⟨d,none,now,k,az,[],[]⟩ st=some st')
 (h:Le m (rn S c Q (.ops dr (if dr then tM fr ⟨d,gd,now,k,az,[],[]⟩else fr) l) fs' (rZ dd st'))):Le m (rn S c Q fo fs st0):=by
 rw[q_ B];subst D;simp only[rn,xQ,RO.strip,EI,ζb];rw[Rr a,G];exact h
def QY{n:Nat}{fo:Fo}{B:QQ}{st:St}{σ ε ρ:Type}{a:RC}{fs:QQ}{step:σ->aY (Fw σ ε ρ)}{eσ:σ->St}{eε:ε->Nat×St}{eρ:ρ->St}{s:σ}{D:ε->aY γ}{fr:ρ->aY γ}
 (G:jg S c n fo B st=some (.rc (.loop a),fs,eσ s))(h:∀s,Le ((step s).bind λw=>some (Fw.out eσ eε eρ w)) (rn S c some (.rc a) [] (eσ s)))
 (J:∀x,Le ((D x).bind e) (rn S c Q (.ex (eε x).1) fs (eε x).2))(d:∀b,Le ((fr b).bind e) (Q (.ret,eρ b))):Le (((bG step s).bind (Fw.elim D fr)).bind e) (rn S c Q fo B st):=by
 rw[q_ G];exact abJ (L:=rn S c Q (.rc (.loop a)) fs (eσ s)) rfl h J d
def ZU{n:Nat}{fo:Fo}{B:QQ}{st:St}{α σ ε ρ:Type}{g:Arg}{ps:ST}{a b:RC}{fs:QQ}{f:Y'}{x y:So}{d:aX α}{eI:α->So}{step:α->σ->aY (Fw σ ε ρ)}{eσ:σ->Tb bH}{eε:ε->Nat×Tb bH}{eρ:ρ->Tb bH}{i:Tb SV}{s:σ}
 {fn:σ->aY γ}{D:ε->aY γ}{fr:ρ->aY γ}
 (G:jg S c n fo B st=some (.rc (.each g ps a b),fs,bE i (eσ s)))(j:tH S.N i g=some (.v (.clo f x y)))(k:S.items f x y=some (d.map eI))(J:∀x,(eI x).length=ps.length)
 (h:∀x s,Le ((step x s).bind λw=>some (Fw.zm eσ eε eρ w)) (rn S c (Bt S c b) (.rc a) [] ⟨zS i ps ((eI x).map .v),eσ s,sL i,[],true,0⟩))
 (U:∀s,Le ((fn s).bind e) (rn S c Q .nx fs (bE i (eσ s))))
 (W:∀x,Le ((D x).bind e) (rn S c Q (.ex (eε x).1) fs (bE i (eε x).2)))(l:∀b,Le ((fr b).bind e) (Q (.ret,bE i (eρ b)))):
 Le (((mm step d s).bind (Fw.tj fn D fr)).bind e) (rn S c Q fo B st):=by
 rw[q_ G];exact acq (L:=rn S c Q (.rc (.each g ps a b)) fs (bE i (eσ s))) rfl j k J h U W l
def aaC{b:RC}{st st':St}{m:aY (Out×Tb bH)}{fs:QQ}{n:Nat}{fo:Fo}(h:jg S c n fo fs st=some (.nx,[],st'))(B:Le m (rn S c zm (.rc b) [] st')):Le m (rn S c (Bt S c b) fo fs st):=by rw[q_ h];exact B
def ab8{α:Type}{n:Nat}{fo fo':Fo}{fs fs':QQ}{st:St}{A:aY α->St}{o:aY α}{f:α->aY γ}(h:jg S c n fo fs st=some (fo',fs',A o))
 (B:∀x,o=some x->Le ((f x).bind e) (rn S c Q fo' fs' (A (some x)))):Le ((o.bind f).bind e) (rn S c Q fo fs st):=by
 rw[q_ h]
 cases o with
 |none=>exact Le.none _|some x=>exact B x rfl
def adq{T:sQ}{f:Y'}{rf:RF}{az:So}{m:aY So}(B:T f=some rf)(D:az.length<=rf.na)(h:Le m (rn S (dm S T) (p8 rf.rs) (.rc rf.body) [] (start (az.map .v) []))):Le m (gZ (dm S T) f az):=by rw[Xk B az D];exact h
end
section
variable{α:Type}[bD α]
abbrev cv(x:α):SV:=.v (enc x)
abbrev cp(x:α):SV:=.v (.fptr (cells x))
abbrev bx(x:α):bH:=.box ((cells x).map .v)
end
structure eV(S:Sys)(c:cn){α δ:Type}(fn:FuncId)(A:α->List V)(E:δ->List V)(p:α->Option δ)(sc:Bool):Prop where
 k:S.E.keep fn=false
 h:∀z,Le ((p z).bind λr=>some (E r)) (gZ c fn (A z))
 s:sc=true->∀r,(result (E r)).scalar=true
section
variable{S:Sys}{c:cn}{β γ δ α:Type}{Q:Out×St->aY β}{e:γ->aY β}{fo:Fo}{fs:QQ}{st0:St}{l:R0}{d:aY Nat}{gd:aY (Nat×X')}{now:X'}{az:QR}{dd:ST}
abbrev u_(S:Sys)(c:cn)(Q:Out×St->aY β)(dr:Bool)(fr:aX Nat)(d:aY Nat)(k:K)(l:aX RO)(fs:aX Fm)(dd:aX Nat)(st:St):aY β:=rn S c Q (.ops dr (if dr then(match k with|.p _|.r _=>fr|_=>match d with|some d=>d::fr|none=>fr)else fr) l) fs (rZ dd st)
def I4(fr:ST)(k:K):tM fr ⟨d,gd,now,k,az,[],[]⟩=(match k with|.p _|.r _=>fr|_=>match d with|some d=>d::fr|none=>fr):=by cases k<;>cases d<;>rfl
def E8{n:Nat}{dr:X'}{fr:ST}{q:R0}{fs':QQ}{st:St}{k:K}{m:aY δ}{g:δ->St}{f:δ->aY γ}
 (B:jg S c n fo fs st0=some (.ops dr fr q,fs',st))(D:q=⟨d,gd,now,k,az,dd,[]⟩::l)(a:wanted st.g gd=some true)
 (G:Le (m.bind λx=>some (g x)) (gz S c dr fr ⟨d,none,now,k,az,[],[]⟩ st))
 (h:∀x,m=some x->Le ((f x).bind e) (u_ S c Q dr fr d k l fs' dd (g x))):Le ((m.bind f).bind e) (rn S c Q fo fs st0):=
 adw B D a G (λx u=>by rw[I4];grind)
def uf{n:Nat}{dr:X'}{fr:ST}{q:R0}{fs':QQ}{st st':St}{k:K}{m:aY β}
 (B:jg S c n fo fs st0=some (.ops dr fr q,fs',st))(D:q=⟨d,gd,now,k,az,dd,[]⟩::l)(a:wanted st.g gd=some true)
 (G:gz S c dr fr ⟨d,none,now,k,az,[],[]⟩ st=some st')(h:Le m (u_ S c Q dr fr d k l fs' dd st')):Le m (rn S c Q fo fs st0):=
 V9 B D a G (by rw[I4];omega)
section
variable[bD α]
def U0(n:Nat)(dr:X')(fr:ST)(q:R0)(fs':QQ)(st:St)(k:T2){sz:Nat}{s:Sl α}{i:Int}{f:α->aY γ}(D:q=⟨d,gd,now,.p (.idxS sz),az,dd,[]⟩::l)
 (B:(jg S c n fo fs st0,wanted st.g gd,bW S.N st.g az,sz)=(some (.ops dr fr q,fs',st),some true,some [.v (cm s),.v (.int k i)],bD.size α))
 (h:∀x,idx s i=some x->Le ((f x).bind e) (u_ S c Q dr fr d (.p (.idxS sz)) l fs' dd (cV st d (cp x)))):Le (((idx s i).bind f).bind e) (rn S c Q fo fs st0):=by
 simp at B;exact E8 B.1 D B.2.1 (Le.of_eq (Wx B.2.2.1 B.2.2.2)) h
def aau(n:Nat)(dr:X')(fr:ST)(q:R0)(fs':QQ)(st:St)(s:Sl α){m:aY β}(D:q=⟨d,gd,now,.p .lenSl,az,dd,[]⟩::l)
 (B:(jg S c n fo fs st0,wanted st.g gd,bW S.N st.g az)=(some (.ops dr fr q,fs',st),some true,some [.v (cm s)]))
 (h:Le m (u_ S c Q dr fr d (.p .lenSl) l fs' dd (cV st d (.v (.int .i64 s.l.length))))):Le m (rn S c Q fo fs st0):=by
 simp at B;exact uf B.1 D B.2.1 (WC B.2.2) h
end
section
variable{q:R0}{fs':QQ}
end
def Lg(m:Tb bH)(n:Nat)(l:So):oQ (jx m n) (l.map .v)=some l:=by rw[<-(yF m n).2,xG]
variable{A:α->So}{E:δ->So}{p:α->aY δ}{fn:Y'}{sc:X'}
end
abbrev iv(n:Int):SV:=.v (.int .i64 n)
abbrev bv(b:Bool):SV:=.v (.bool b)
abbrev len{α:Type}(s:Sl α):Int:=((List.length (Sl.l s):Nat):Int)
abbrev o1(d:Nat)(a:Arg)(dd:aX Nat):RO:=⟨some d,none,false,.p .id,[a],dd,[]⟩
abbrev o2(d:Nat)(k:K)(az:aX Arg)(dd:aX Nat):RO:=⟨some d,none,false,k,az,dd,[]⟩
abbrev o3(d s:Nat)(b:Bool)(k:K)(az:aX Arg)(dd:aX Nat):RO:=⟨some d,some (s,b),false,k,az,dd,[]⟩
def Oc(a b:bf):X':=[a.proc,a.index]==[b.proc,b.index]
section
variable{α:Type}[bD α]
def w8(h:bD.agg α=false)(a:α):cells a=[enc a]:=by
 have u:(cells a).length=1:=by rw[show(cells a).length=_ from bD.len a,bD.plain h]
 unfold enc;rw[if_neg (by simp[h])];match b:cells a,u with|[x],_=>rfl
def Dv(h:bD.agg α=true)(a:α):enc a=.agg (cells a):=by unfold enc;grind
def k_(a:α):V.good (enc a)=true:=by have h:V.cG (cells a)=true:=bD.good a;cases u:bD.agg α with|true=>rw[Dv u];exact h|false=>rw[w8 u]at h;simp[V.cG]at h;omega
def oB(s:Sl α):V.one (enc s)=true:=H9 s
def TO(s:α)(h:bD.agg α=false):V.one (enc s)=true:=by have:=bD.one s;rw[show bD.cells s=cells s from rfl,w8 h]at this;grind
end
instance{α:Type}[bD α]:bD (aY α)where
 cells o:=[match o with|none=>.js|some x=>.fptr (cells x)]
 agg:=false
 size:=1
 len _:=rfl
 good o:=by cases o with|none=>rfl|some x=>simp only[V.cG,V.good,Bool.and_true];exact bD.good x
 one o:=by cases o<;>rfl
 plain _:=rfl
structure U8 where
 v:Int
 deriving Inhabited,DecidableEq
instance:bD U8 where
 cells n:=[.int .u8 n.v]
 agg:=false
 size:=1
 len _:=rfl
 good _:=rfl
 one _:=rfl
 plain _:=rfl
structure U64 where
 v:Int
 deriving Inhabited,DecidableEq
instance:bD U64 where
 cells n:=[.int .u64 n.v]
 agg:=false
 size:=1
 len _:=rfl
 good _:=rfl
 one _:=rfl
 plain _:=rfl
structure U32 where
 v:Int
 deriving Inhabited,DecidableEq
instance:bD U32 where
 cells n:=[.int .u32 n.v]
 agg:=false
 size:=1
 len _:=rfl
 good _:=rfl
 one _:=rfl
 plain _:=rfl
structure I32 where
 v:Int
 deriving Inhabited,DecidableEq
instance:bD I32 where
 cells n:=[.int .i32 n.v]
 agg:=false
 size:=1
 len _:=rfl
 good _:=rfl
 one _:=rfl
 plain _:=rfl
structure mI(S:Sys)(c:cn){α δ:Type}(g:FuncId)(w e:List V)(A:α->List V)(R:δ->List V)(p:α->Option δ)(b:Bool):Prop where
 f:eV S c g (λz=>w++A z++e) R p b
section
variable{S:Sys}{c:cn}{β γ δ α:Type}{Q:Out×St->aY β}{e:γ->aY β}{fo:Fo}{fs:QQ}{st0:St}{l:R0}{d:aY Nat}{gd:aY (Nat×X')}{now:X'}{az:QR}{dd:ST}
def mX{α:Type}[bD α](a:α):V.cells (enc a)=cells a:=by cases u:bD.agg α with|true=>rw[Dv u];rfl|false=>have b:=TO a u;rw[w8 u];cases h:enc a<;>first|rfl|(rw[h]at b;cases b)
def tC{α:Type}[bD α](a:α):(cells a).all V.one=true:=bD.one a
def h_{α:Type}[bD α](a:α):(cells a).length=bD.size α:=bD.len a
def Ast[bD α](n:Nat)(dr:X')(fr:ST)(q:R0)(fs':QQ)(st:St)(u o:Nat)(x:α)(cs B:SW){sz:Nat}{m:aY β}(G:q=⟨d,gd,now,.l (.store sz),az,dd,[]⟩::l)
 (D:(jg S c n fo fs st0,wanted st.g gd,bW S.N st.g az,bl st.m u,(!dr||now),sz,ble (o+sz) cs.length,cs.take o++(cells x).map .v++cs.drop (o+sz))=(some (.ops dr fr q,fs',st),some true,some [.ptr u o,cv x],some (.box cs),true,bD.size α,true,B))
 (h:Le m (u_ S c Q dr fr d (.l (.store sz)) l fs' dd (cV {st with m:=bN st.m u (.box B)} d (.v .undef)))):Le m (rn S c Q fo fs st0):=by
 simp only[ζc]at D;have⟨a,w,z,C,I,J,L,O⟩:=D;refine uf a G w ?_ h;rw[zC,z];subst J;have T:=Nat.le_of_ble_eq_true L;simp only[ζb,I,if_true,pK,C,putCells,mX,h_,tC,T,and_self,O,map_some]
def B2{α:Type}[bD α]:∀(xs:aX α)(pre:S')(B:S'),B.length=xs.length->fV (bD.size α) (pre++B) ((range' pre.length xs.length).zip (xs.map enc))=some (pre++rows xs)
 |[],pre,B,h=>by have:=List.eq_nil_of_length_eq_zero h;subst this;rfl|x::xs,pre,s::B,h=>by simp only[length_cons,List.range'_succ,map_cons,List.zip_cons_cons,fV,mX,h_,tC];have:=B2 xs (pre++[cells x]) B Zac;simp only[ζi,length_cons,length_nil]at this;have e:(pre++s::B).set pre.length (cells x)=pre++[cells x]++B:=Zab;rw[e,this];simp[rows]
def Abs[bD α](n:Nat)(dr:X')(fr:ST)(q:R0)(fs':QQ)(st:St)(xs:aX α){u sz ln:Nat}{zero:So}{ix:ST}{m:aY β}(D:q=⟨some u,gd,now,.a (.buildSl sz ln zero ix),az,dd,[]⟩::l)
 (G:st.new u=true)(B:(jg S c n fo fs st0,wanted st.g gd,bW S.N st.g az,sz,ln,ix)=(some (.ops dr fr q,fs',st),some true,some ((xs.map enc).map .v),bD.size α,xs.length,range' 0 xs.length))
 (h:Le m (u_ S c Q dr fr (some u) (.a (.buildSl sz ln zero ix)) l fs' dd {st with g:=bN st.g u (.own u),m:=bN st.m u (cI (.row xs))})):Le m (rn S c Q fo fs st0):=by
 simp only[ζc]at B;have⟨a,w,z,C,I,J⟩:=B;subst C I J;refine uf a D w ?_ h;rw[AY,z];simp only[ζb,G,qp,oH,List.length_range',length_map];have:=B2 xs [] (replicate xs.length zero) Zab
 simp at this;rw[this];rfl
def adg[bD α](n:Nat)(dr:X')(fr:ST)(q:R0)(fs':QQ)(st:St)(x:α)(vs:So){z:So}{pl:aX (Nat×Nat)}{m:aY β}(D:q=⟨d,gd,now,.p (.build z pl),az,dd,[]⟩::l)
 (hp:mL z pl vs=some (cells x))(G:bD.agg α=true)
 (B:(jg S c n fo fs st0,wanted st.g gd,bW S.N st.g az)=(some (.ops dr fr q,fs',st),some true,some (vs.map .v)))
 (h:Le m (u_ S c Q dr fr d (.p (.build z pl)) l fs' dd (cV st d (cv x)))):Le m (rn S c Q fo fs st0):=by
 simp at B;refine uf B.1 D B.2.1 (C8 B.2.2 rfl ?_) h;unfold ki;rw[oH];simp only[Vq,hp,map_some];show some (SV.v (.agg (cells x)))=some (.v (enc x));rw[Dv G]
section
variable[bD α]
def ade(n:Nat)(dr:X')(fr:ST)(q:R0)(fs':QQ)(st:St)(g i:X')(D:So){sz:Nat}{s:Sl α}{a b:Ps}{f:Sl α->aY γ}(G:q=⟨d,gd,now,.p (.slice sz g i),az,dd,[]⟩::l)
 (B:(jg S c n fo fs st0,wanted st.g gd,bW S.N st.g az,oC g i D,sz)=(some (.ops dr fr q,fs',st),some true,some (.v (cm s)::D.map .v),some (a,b),bD.size α))
 (h:∀x,gB s a b=some x->Le ((f x).bind e) (u_ S c Q dr fr d (.p (.slice sz g i)) l fs' dd (cV st d (.v (cm x))))):Le (((gB s a b).bind f).bind e) (rn S c Q fo fs st0):=by
 simp at B;refine E8 B.1 G B.2.1 (Le.of_eq ?_) h;have w:=B.2.2.1;unfold gz og;simp[wanted,gM,w];have u:ki S.N st.m (.slice sz g i) ((cm s::D).map .v)=(gB s a b).bind λx=>some (.v (cm x)):=by unfold ki;rw[oH];simp[bM,B.2.2.2.1,O3 s a b sz B.2.2.2.2];cases gB s a b<;>rfl
 simp at u⊢;rw[u];cases gB s a b<;>rfl
def ri(s:Sl α)(a b:Ps):aY (Sl α):=
 match s with
 |.nil|.emp=>none|.row x|.part x=>(eD x.length a b).map λ(l,h)=>.part ((x.take h).drop l)
def ab0(n:Nat)(fr:ST)(q:R0)(fs':QQ)(st:St)(d i:X')(u:Nat)(D:So){t sz:Nat}{s:Sl α}{a b:Ps}{f:Sl α->aY γ}(J:q=⟨some t,gd,now,.p (.slice sz d i),az,dd,[]⟩::l)
 (G:St.new {st with m:=eO u st.m} t=true)(B:(jg S c n fo fs st0,wanted st.g gd,bW S.N st.g az,oC d i D,bl st.m u,sz)=(some (.ops false fr q,fs',st),some true,some (.own u::D.map .v),some (a,b),some (cI s),bD.size α))
 (h:∀x,ri s a b=some x->Le ((f x).bind e) (u_ S c Q false fr (some t) (.p (.slice sz d i)) l fs' dd {st with g:=bN st.g t (.own t),m:=bN (eO u st.m) t (cI x)})):Le (((ri s a b).bind f).bind e) (rn S c Q fo fs st0):=by
 simp at B;refine E8 B.1 J B.2.1 (Le.of_eq ?_) h;have⟨_,_,z,w,C,I⟩:=B;subst I;unfold gz og;simp[wanted,gM,z,CN,oH,C,w]
 cases s with
 |nil=>simp[ri,cI,Sl.k,cO]|emp=>simp[ri,cI,Sl.k,cO]|row x=>
  simp[cI,Sl.k,Sl.l,cO,ri,iY,w]
  cases eD x.length a b with
  |none=>rfl|some r=>simp[G,cV,rows,map_drop]
 |part x=>
  simp[cI,Sl.k,Sl.l,cO,ri,iY,w]
  cases eD x.length a b with
  |none=>rfl|some r=>simp[G,cV,rows,map_drop]
def tJ(n:Int)(a:α):aY (Sl α):=if 0<=n/\n<=2147483648 then some (if n=0 then .row []else .part [])else none
def ado(n:Nat)(dr:X')(fr:ST)(q:R0)(fs':QQ)(st:St){u:Nat}{sz:Nat}{zero:So}{i:Int}{z:α}{f:Sl α->aY γ}(G:q=⟨some u,gd,now,.a (.makeSl sz zero),az,dd,[]⟩::l)
 (J:st.new u=true)(D:(jg S c n fo fs st0,wanted st.g gd,bW S.N st.g az,sz)=(some (.ops dr fr q,fs',st),some true,some [.v (.int .i64 0),.v (.int .i64 i)],bD.size α))
 (h:∀B,tJ i z=some B->Le ((f B).bind e) (u_ S c Q dr fr (some u) (.a (.makeSl sz zero)) l fs' dd {st with g:=bN st.g u (.own u),m:=bN st.m u (cI B)})):Le (((tJ i z).bind f).bind e) (rn S c Q fo fs st0):=by
 simp at D;have⟨d,w,C,I⟩:=D;subst I;refine E8 d G w (Le.of_eq ?_) h;rw[AY,C];simp only[ζb,J,if_true,qp,true_and,tJ]
 by_cases b:0<=i/\i<=2147483648
 .rw[if_pos b,if_pos ⟨Int.le_refl 0,b⟩]
  by_cases a:i=0
  .subst a;rfl
  have:¬0=i:=λh=>a h.symm
  simp[if_neg a,if_neg this];rfl
 grind
end
end
structure cg(n:Nat)(α:Type)where
 l:List α
 len:l.length=n
def Ul{α:Type}[bD α](l:aX α):(l.map (cells (α:=α))).flatten.length=l.length*bD.size α:=by induction l with|nil=>simp|cons a l u=>simp[u,h_,add_mul,Nat.add_comm]
def Q8{α:Type}[bD α](l:aX α):V.cG (l.map (cells (α:=α))).flatten=true:=by induction l with|nil=>rfl|cons a l u=>have h:∀(x y:So),V.cG x=true->V.cG y=true->V.cG (x++y)=true:=(by intro x;induction x with|nil=>grind|cons b x w=>intro y c z;simp[V.cG]at c⊢;grind);exact h _ _ (bD.good a) u
instance{n:Nat}{α:Type}[bD α]:bD (cg n α)where
 cells a:=(a.l.map cells).flatten
 agg:=true
 size:=n*bD.size α
 len a:=by rw[Ul,a.len]
 good a:=Q8 a.l
 one a:=by have:∀l:aX α,(l.map (cells (α:=α))).flatten.all V.one=true:=(by intro l;induction l with|nil=>rfl|cons a l u=>simp only[map_cons,flatten_cons,List.all_append,u,tC,Bool.and_self]);exact this a.l
 plain h:=by cases h
def cg.S0(n:Nat){α:Type}(z:α):cg n α:=⟨replicate n z,Zab⟩
def cg.at{n:Nat}{α:Type}(a:cg n α)(i:Int):aY α:=if 0<=i then a.l[i.toNat]?else none
def cg.set{n:Nat}{α:Type}(a:cg n α)(i:Int)(x:α):cg n α:=⟨a.l.set i.toNat x,by simp[a.len]⟩
def pa{n:Nat}{α:Type}[bD α](a:cg n α)(i:Int):So:=(cells a).drop (i.toNat*bD.size α)
def cg.x_{n:Nat}{α:Type}{a:cg n α}{i:Int}{x:α}(h:a.at i=some x):0<=i/\i.toNat<n/\a.l[i.toNat]?=some x:=by
 unfold cg.at at h;split at h;next b=>refine⟨b,?_,h⟩;have:=(ζe.1 h).1;rw[<-a.len];simp_all
 simp_all
def Io{α:Type}[bD α]:∀(l:aX α)(k:Nat),((l.map (cells (α:=α))).flatten).drop (k*bD.size α)=((l.drop k).map (cells (α:=α))).flatten
 |[],k=>Zab|a::l,0=>Zab|a::l,k+1=>by have h:=h_ a;rw[map_cons,flatten_cons,List.drop_succ_cons,<-Io l k,add_mul,one_mul,Nat.add_comm,<-h,List.drop_length_add_append]
def DQ{n:Nat}{α:Type}[bD α]{a:cg n α}{i:Int}{x:α}(h:a.at i=some x):∃r,pa a i=cells x++r:=by have⟨b,B,w⟩:=cg.x_ h;have⟨u,z⟩:=ζe.1 w;refine⟨((a.l.drop (i.toNat+1)).map cells).flatten,?_⟩;show((a.l.map (cells)).flatten).drop (i.toNat*bD.size α)=_;rw[Io,List.drop_eq_getElem_cons u,map_cons,flatten_cons,z]
section
variable{S:Sys}{c:cn}{β γ δ α:Type}{Q:Out×St->aY β}{e:γ->aY β}{fo:Fo}{fs:QQ}{st0:St}{l:R0}{d:aY Nat}{gd:aY (Nat×X')}{now:X'}{az:QR}{dd:ST}
section
variable{N:Nat}[bD α]
def acg(n:Nat)(dr:X')(fr:ST)(q:R0)(fs':QQ)(st:St)(k:T2){ln sz:Nat}{a:cg N α}{i:Int}{f:α->aY γ}(D:q=⟨d,gd,now,.p (.idxA ln sz),az,dd,[]⟩::l)
 (B:(jg S c n fo fs st0,wanted st.g gd,bW S.N st.g az,sz,ln)=(some (.ops dr fr q,fs',st),some true,some [cp a,.v (.int k i)],bD.size α,N))
 (h:∀x,a.at i=some x->Le ((f x).bind e) (u_ S c Q dr fr d (.p (.idxA ln sz)) l fs' dd (cV st d (.v (.fptr (pa a i)))))):Le (((a.at i).bind f).bind e) (rn S c Q fo fs st0):=by
 simp at B;have⟨g,w,z,C,G⟩:=B;subst C G;refine E8 g D w ?_ h;intro r b;have⟨x,I,b⟩:=ζg.1 b;have⟨g1,g2,_⟩:=cg.x_ I;rw[C8 z rfl ?_]
 .omega
 rw[vS];simp[bM,zP];have u:i.toNat*bD.size α<=(cells a).length:=by rw[h_];exact Nat.mul_le_mul_right _ (Nat.le_of_lt g2)
 rw[if_pos ⟨g1,Zaa⟩,if_pos u]
 rfl
def adp(n:Nat)(dr:X')(fr:ST)(q:R0)(fs':QQ)(st:St)(a:cg N α)(i:Int)(o:Nat)(x:α)(D:a.at i=some x){k:Nat}{m:aY β}(G:q=⟨d,gd,now,.p (.fieldAddr k),az,dd,[]⟩::l)
 (B:(jg S c n fo fs st0,wanted st.g gd,bW S.N st.g az,ble (o+k) (bD.size α))=(some (.ops dr fr q,fs',st),some true,some [.v (.fptr ((pa a i).drop o))],true))
 (h:Le m (u_ S c Q dr fr d (.p (.fieldAddr k)) l fs' dd (cV st d (.v (.fptr ((pa a i).drop (o+k))))))):Le m (rn S c Q fo fs st0):=by
 simp only[ζc]at B;have⟨b,u,w,z⟩:=B;refine uf b G u (C8 w rfl ?_) h;have C:=Nat.le_of_ble_eq_true z;have⟨r,e⟩:=DQ D;have I:(pa a i).length>=bD.size α:=by rw[e,ζi,h_];omega
 rw[LK,Lm,if_pos Zac,drop_drop]
 rfl
def ab1(n:Nat)(dr:X')(fr:ST)(q:R0)(fs':QQ)(st:St)(a:cg N α)(i:Int)(o:Nat)(x:α)(G:a.at i=some x){sz:Nat}{ag:X'}{v:V}(g:(cut (cells x) o sz).bind (mk ag)=some v)(B:V){m:aY β}(J:q=⟨d,gd,now,.r (.load sz ag),az,dd,[]⟩::l)
 (D:(jg S c n fo fs st0,wanted st.g gd,bW S.N st.g az,v)=(some (.ops dr fr q,fs',st),some true,some [.v (.fptr ((pa a i).drop o))],B))
 (h:Le m (u_ S c Q dr fr d (.r (.load sz ag)) l fs' dd (cV st d (.v B)))):Le m (rn S c Q fo fs st0):=by
 simp at D;obtain⟨e,z,C,rfl⟩:=D;refine uf e J z ?_ h;rw[Dy,C];have b:fS fr [SV.v (.fptr ((pa a i).drop o))]=true:=rfl;simp[b,SR];have⟨r,f⟩:=DQ G;rw[f];have j:cut ((cells x++r).drop o) 0 sz=cut (cells x) o sz:=by cases u:cut (cells x) o sz with|none=>grind|some w=>unfold cut at u⊢;dsimp only at u⊢;split at u;have e1:(List.drop 0 (List.drop o (cells x++r))).take sz=((cells x).drop o).take sz:=(by have I:sz=0\/o<=(cells x).length:=(by grind);grind);grind;grind
 cases u:cut (cells x) o sz with
 |none=>grind|some w=>grind
def Aal(n:Nat)(dr:X')(fr:ST)(q:R0)(fs':QQ)(st:St)(cs:SW){u sz:Nat}{zero:So}{m:aY β}(D:q=⟨some u,gd,now,.a (.alloc sz zero),az,dd,[]⟩::l)
 (G:st.new u=true)(B:(jg S c n fo fs st0,wanted st.g gd,bW S.N st.g az,zero.map SV.v)=(some (.ops dr fr q,fs',st),some true,some [],cs))
 (h:Le m (u_ S c Q dr fr (some u) (.a (.alloc sz zero)) l fs' dd {st with g:=bN st.g u (.ptr u 0),m:=bN st.m u (.box cs)})):Le m (rn S c Q fo fs st0):=by
 simp at B;have⟨a,w,z,C⟩:=B;subst C;refine uf a D w ?_ h;rw[AY,z];simp[G,qp]
def wA(d:Nat)(l:So):SV.dR d (l.map .v)=false:=by induction l with|nil=>rfl|cons a l u=>simp[SV.dR,SV.c8,u]
def vU{α:Type}[bD α](d:Nat)(x:α):bH.c8 d (bx x)=false:=wA d (cells x)
def abC(n:Nat)(dr:X')(fr:ST)(q:R0)(fs':QQ)(st:St)(k:T2)(u:Nat){ln sz:Nat}{a:cg N α}{i:Int}{f:α->aY γ}(D:q=⟨d,gd,now,.p (.idxA ln sz),az,dd,[]⟩::l)
 (B:(jg S c n fo fs st0,wanted st.g gd,bW S.N st.g az,sz,ln,bl st.m u)=(some (.ops dr fr q,fs',st),some true,some [.ptr u 0,.v (.int k i)],bD.size α,N,some (bx a)))
 (h:∀x,a.at i=some x->Le ((f x).bind e) (u_ S c Q dr fr d (.p (.idxA ln sz)) l fs' dd (cV st d (.ptr u (i.toNat*bD.size α+0))))):Le (((a.at i).bind f).bind e) (rn S c Q fo fs st0):=by
 simp at B;have⟨g,w,z,I,J,C⟩:=B;refine E8 g D w ?_ h;intro r b;have⟨x,G,b⟩:=ζg.1 b;have⟨g1,g2,_⟩:=cg.x_ G;rw[C8 z rfl ?_]
 .omega
 simp[ki,dA,zQ,C]
 grind
def Ux{a:cg N α}{i:Int}{o:Nat}{x:α}(B:a.at i=some x){sz:Nat}{ag:X'}{v:V}(c:(cut (cells x) o sz).bind (mk ag)=some v):yq sz ag ((((cells a).map SV.v).drop (i.toNat*bD.size α+o)).take sz)=some (.v v):=by
 have⟨r,d⟩:=DQ B;have e1:(((cells a).map SV.v).drop (i.toNat*bD.size α+o)).take sz=(((cells x).drop o).take sz).map SV.v:=by have u:((cells x).drop o).take sz=((cells x++r).drop o).take sz:=(by cases b:cut (cells x) o sz with|none=>grind|some w=>unfold cut at b;dsimp only at b;split at b;have C:sz=0\/o<=(cells x).length:=(by grind);grind;simp_all);rw[u,<-d,pa,drop_drop,map_take,map_drop]
 rw[e1];unfold yq;cases b:cut (cells x) o sz with|none=>grind|some w=>rw[b]at c;unfold cut at b;dsimp only at b;split at b;rename_i z;cases b;simp only[length_map,z];unfold mk at c;(cases ag with|true=>simp only[if_true]at c⊢;cases c;rw[oH]|false=>grind);simp_all
def acm(n:Nat)(dr:X')(fr:ST)(q:R0)(fs':QQ)(st:St)(u:Nat)(a:cg N α)(i:Int)(o:Nat)(x:α)(G:a.at i=some x){sz:Nat}{ag:X'}{v:V}(e:(cut (cells x) o sz).bind (mk ag)=some v)(B:V){m:aY β}(J:q=⟨d,gd,now,.r (.load sz ag),az,dd,[]⟩::l)
 (D:(jg S c n fo fs st0,wanted st.g gd,bW S.N st.g az,v,bl st.m u,(!dr||now||fS fr [.ptr u 0]))=(some (.ops dr fr q,fs',st),some true,some [.ptr u (i.toNat*bD.size α+o)],B,some (bx a),true))
 (h:Le m (u_ S c Q dr fr d (.r (.load sz ag)) l fs' dd (cV st d (.v B)))):Le m (rn S c Q fo fs st0):=by
 simp only[ζc]at D;obtain⟨f,w,z,rfl,C,I⟩:=D;refine uf f J w ?_ h;rw[Dy,z];have b:(!dr||now||fS fr [SV.ptr u (i.toNat*bD.size α+o)])=true:=I;simp only[ζb,b,adu,C,SC];rw[Ux G e];rfl
def SL{N:Nat}(a:cg N α)(i:Int)(y:α)(h:i.toNat<N):cells (a.set i y)=(cells a).take (i.toNat*bD.size α)++cells y++(cells a).drop ((i.toNat+1)*bD.size α):=by
 have key:∀(l:aX α)(k:Nat),k<l.length->((l.set k y).map (cells)).flatten=(l.map (cells)).flatten.take (k*bD.size α)++cells y++(l.map (cells)).flatten.drop ((k+1)*bD.size α):=by intro l;induction l with|nil=>grind|cons b l u=>intro k h;have w:=h_ b;cases k with|zero=>grind|succ k=>simp only[map_cons,flatten_cons];have e1:(k+1)*bD.size α=(cells b).length+k*bD.size α:=Zac;have e2:(k+1+1)*bD.size α=(cells b).length+(k+1)*bD.size α:=Zac;rw[e2,List.drop_length_add_append];grind
 exact key a.l i.toNat (by rw[a.len];omega)
def acB(n:Nat)(dr:X')(fr:ST)(q:R0)(fs':QQ)(st:St)(u:Nat)(a:cg N α)(i:Int)(o:Nat)(x:α)(B:a.at i=some x)(y:α)(v:V){sz:Nat}(G:cells y=(cells x).take o++v.cells++(cells x).drop (o+sz)){m:aY β}(J:q=⟨d,gd,now,.l (.store sz),az,dd,[]⟩::l)
 (D:(jg S c n fo fs st0,wanted st.g gd,bW S.N st.g az,bl st.m u,(!dr||now),v.cells.length,v.cells.all V.one,ble (o+sz) (bD.size α))=(some (.ops dr fr q,fs',st),some true,some [.ptr u (i.toNat*bD.size α+o),.v v],some (bx a),true,sz,true,true))
 (h:Le m (u_ S c Q dr fr d (.l (.store sz)) l fs' dd (cV {st with m:=bN st.m u (bx (a.set i y))} d (.v .undef)))):Le m (rn S c Q fo fs st0):=by
 simp only[ζc]at D;have⟨b,z,C,I,L,O,T,U⟩:=D;refine uf b J z ?_ h;rw[zC,C];have X:=Nat.le_of_ble_eq_true U;have⟨g1,g2,g3⟩:=cg.x_ B;have W:i.toNat*bD.size α+o+sz<=((cells a).map SV.v).length:=by rw[length_map,h_];have:(i.toNat+1)*bD.size α<=N*bD.size α:=Nat.mul_le_mul_right _ g2;rw[add_mul,one_mul]at this;show _<=N*bD.size α;omega
 simp only[ζb,L,if_true,pK,I,putCells,O,T,W,and_self,map_some];have⟨r,f⟩:=DQ B;have e:((cells a).map SV.v).take (i.toNat*bD.size α+o)++v.cells.map .v++((cells a).map SV.v).drop (i.toNat*bD.size α+o+sz)=(cells (a.set i y)).map SV.v:=by rw[SL a i y g2,G];have hd:(cells a).drop (i.toNat*bD.size α)=cells x++r:=f;have w:=h_ x;have e1:(cells a).take (i.toNat*bD.size α+o)=(cells a).take (i.toNat*bD.size α)++(cells x).take o:=(by rw[List.take_add,hd,List.take_append_of_le_length Zaa]);have e2:(cells a).drop (i.toNat*bD.size α+o+sz)=(cells x).drop (o+sz)++(cells a).drop ((i.toNat+1)*bD.size α):=(by have e3:(cells a).drop ((i.toNat+1)*bD.size α)=r:=(by rw[add_mul,one_mul,<-drop_drop,hd,<-w,List.drop_left]);rw[e3,Nat.add_assoc,<-drop_drop,hd,List.drop_append_of_le_length Zaa]);rw[<-map_take,<-map_drop,e1,e2];grind
 rw[e]
end
def Ye{α:Type}[bD α]{m:Tb bH}{d:Nat}{x:α}{vs:So}(h:bl m d=some (bx x)):oQ (jx m 8) (.ptr d 0::vs.map .v)=some (.fptr (cells x)::vs):=by
 have a:jx m 8 (.ptr d 0)=some (.fptr (cells x)):=by
  show(match bl m d with
   |some (.box cs)=>match oQ (jx m 7) cs with
    |some u=>if 0<=u.length then some (V.fptr (u.drop 0))else none|none=>none
   |_=>none)=_
  rw[h];simp[Lg]
 simp[oQ,a,Lg]
def acn(n:Nat){fo:Fo}{fs fs':QQ}{st0 st:St}{rs:aX RV}{e:γ->aY So}{r:γ}(svs:SW){ys:So}(B:oQ (jx st.m 8) svs=some ys)(h:(jg S c n fo fs st0,mh st rs)=(some (.rt,fs',st),some svs))(D:e r=some ys):
 Le ((some r).bind e) (rn S c (p8 rs) fo fs st0):=by
 simp at h;rw[q_ h.1];refine Le.of_eq ?_;simp[rn,p8,h.2,B]
 grind
abbrev Mo(κ ν:Type):=aX (κ×ν)
class Key(κ:Type)[bD κ][DecidableEq κ]where
 kk:Aj
 ok:∀a:κ,sC kk (enc a)=true
 eq:∀a b:κ,zV (enc a) (enc b)=some (decide (a=b))
instance:Key Int where
 kk:=.int .i64
 ok _:=rfl
 eq a b:=by show some (a==b)=some (decide (a=b));rw[show(a==b)=decide (a=b)from Bool.eq_iff_iff.2 Zab]
instance:Key bf where
 kk:=.ints 2
 ok _:=rfl
 eq a b:=by have⟨p,i⟩:=a;have⟨q,j⟩:=b;simp only[zV,mT,jC,ZQ,map_some,length_cons,if_true,ζa];rw[Bool.eq_iff_iff];simp
section
variable{κ ν:Type}[bD κ][DecidableEq κ][Key κ][bD ν]
def mo(k:κ):Mo κ ν->aY ν
 |[]=>none|(a,v)::r=>if k=a then some v else mo k r
def pM(m:Mo κ ν)(k:κ)(z:ν):ν:=(mo k m).getD z
def uF(m:Mo κ ν)(k:κ):X':=(mo k m).isSome
def nP(m:Mo κ ν)(k:κ)(v:ν):Mo κ ν:=
 match m with
 |[]=>[(k,v)]|(a,w)::r=>if k=a then(k,v)::r else(a,w)::nP r k v
def p9(m:Mo κ ν):aX (V×V):=m.map λx=>(enc x.1,enc x.2)
def vR(m:Mo κ ν):bH:=.mp (p9 m)
def HA(k:κ):∀(m:Mo κ ν)(i:Nat),(jy (enc k) (p9 m) i).map (Option.map (·.2))=some ((mo k m).map enc)
 |[],i=>rfl|(a,v)::r,i=>by simp only[p9,map_cons,jy,Key.eq,mo];by_cases h:k=a;grind;simp only[h];exact HA k r (i+1)
def TI(k:κ)(v:ν)(m:Mo κ ν):sG (enc k) (enc v) (p9 m)=some (p9 (nP m k v)):=by
 unfold sG;have key:∀(m:Mo κ ν)(pre:aX (V×V))(i:Nat),pre.length=i->(match jy (enc k) (p9 m) i with
  |some (some (j,_))=>some ((pre++p9 m).set j (enc k,enc v))|some none=>some (pre++p9 m++[(enc k,enc v)])|none=>none)=some (pre++p9 (nP m k v)):=by
  intro m
  induction m with
  |nil=>simp[p9,jy,nP]|cons x r u=>
   have⟨a,w⟩:=x;intro pre i h;rw[show p9 ((a,w)::r)=(enc a,enc w)::p9 r from rfl];simp[jy,Key.eq,nP]
   by_cases b:k=a
   .subst b h;simp[p9]
   simp[b];rw[show p9 ((a,w)::nP r k v)=(enc a,enc w)::p9 (nP r k v)from rfl];have:=u (pre++[(enc a,enc w)]) (i+1) (by simp[h])
   grind
 have:=key m [] 0 rfl;grind
def abB(n:Nat)(dr:X')(fr:ST)(q:R0)(fs':QQ)(st:St)(u:Nat)(mp:Mo κ ν)(k:κ)(z:ν){kk:Aj}{B:V}{m:aY β}(G:q=⟨d,gd,now,.r (.lookup kk B false),az,dd,[]⟩::l)
 (D:(jg S c n fo fs st0,wanted st.g gd,bW S.N st.g az,bl st.m u,(!dr||now||fS fr [.mp u,cv k]),B,kk)=(some (.ops dr fr q,fs',st),some true,some [.mp u,cv k],some (vR mp),true,enc z,Key.kk κ))
 (h:Le m (u_ S c Q dr fr d (.r (.lookup kk B false)) l fs' dd (cV st d (cv (pM mp k z))))):Le m (rn S c Q fo fs st0):=by
 simp only[ζc]at D;have⟨a,C,I,J,L,O,T⟩:=D;subst O T;refine uf a G C ?_ h;rw[Dy,I];simp only[ζb,L,qe,J,vR,Key.ok];have:=HA k mp 0;simp[pM]
 cases U:jy (enc k) (p9 mp) 0 with
 |none=>grind|some r=>
  rw[U]at this
  cases r with
  |none=>
   cases W:mo k mp with
   |none=>rfl|some w=>grind
  |some w=>
   cases W:mo k mp with
   |none=>grind|some X=>grind
def adl(n:Nat)(dr:X')(fr:ST)(q:R0)(fs':QQ)(st:St)(u:Nat)(mp:Mo κ ν)(k:κ)(v:ν){kk:Aj}{m:aY β}(D:q=⟨d,gd,now,.l (.mapUp kk),az,dd,[]⟩::l)
 (B:(jg S c n fo fs st0,wanted st.g gd,bW S.N st.g az,bl st.m u,(!dr||now),kk)=(some (.ops dr fr q,fs',st),some true,some [.mp u,cv k,cv v],some (vR mp),true,Key.kk κ))
 (h:Le m (u_ S c Q dr fr d (.l (.mapUp kk)) l fs' dd (cV {st with m:=bN st.m u (vR (nP mp k v))} d (.v .undef)))):Le m (rn S c Q fo fs st0):=by
 simp only[ζc]at B;have⟨a,w,z,C,G,I⟩:=B;subst I;refine uf a D w ?_ h;rw[zC,z];simp[G,pK,C,vR,Key.ok,TI]
end
end
instance{n:Nat}:OfNat Arg n:=⟨.s n⟩
abbrev bI(o:BinOp):K:=.p (.bin (some .int) none o)
abbrev ix(n:Nat):K:=.p (.idxS n)
abbrev ld(n:Nat):K:=.r (.load n false)
abbrev lD(n:Nat):K:=.r (.load n true)
abbrev fa(n:Nat):K:=.p (.fieldAddr n)
abbrev ln:K:=.p .lenSl
abbrev su(n:Nat):K:=.l (.store n)
abbrev Iv(n:Nat)(x:Int):Nat×SV:=(n,iv x)
abbrev Bv(n:Nat)(x:Bool):Nat×SV:=(n,bv x)
abbrev Cv{α:Type}[bD α](n:Nat)(x:α):Nat×SV:=(n,cv x)
abbrev Kv{α:Type}[bD α](n:Nat)(x:α):Nat×SV:=(n,cp x)
abbrev Pv(n:Nat):Nat×SV:=(n,.ptr n 0)
abbrev Ov(n:Nat):Nat×SV:=(n,.own (2000+n))
abbrev Xb{α:Type}[bD α](n:Nat)(x:α):Nat×bH:=(n,bx x)
abbrev Lb{α:Type}[bD α](n:Nat)(x:Sl α):Nat×bH:=(n,cI x)
abbrev on(d:Nat)(k:K)(az:aX Arg)(dd:aX Nat):RO:=⟨some d,none,true,k,az,dd,[]⟩
abbrev oz(k:K)(az:aX Arg)(dd:aX Nat):RO:=⟨none,none,false,k,az,dd,[]⟩
abbrev oy(k:K)(az:aX Arg)(dd:aX Nat):RO:=⟨none,none,true,k,az,dd,[]⟩
attribute [simp] YA Y9 X5
def eV.zu{S:Sys}{T:sQ}{f:Y'}{b:X'}(B:T f=none)(a:S.E.keep f=false)(D:S.zu f []=some (.bool b)):
 eV S (dm S T) f (λ_:Unit=>[]) (λr:X'=>[.bool r]) (λ_=>some b) true where
 k:=a
 h _:=by have h:=H7 (az:=[]) B a D;intro r c;cases c;unfold gZ;rw[h];exact xG 8 [.bool b]
 s _ _:=rfl
def Wp{α:Type}(m:aY α)(P:α->Prop):Prop:=∃a,m=some a/\P a
section
variable{α β:Type}{P Q:α->Prop}
theorem a_(a:α):Wp (some a) P↔P a:=⟨λh=>by have⟨b,e,p⟩:=h;cases e;exact p,λp=>⟨a,rfl,p⟩⟩
def YB:Wp (none:aY α) P↔False:=⟨λh=>(by have⟨b,e,p⟩:=h;cases e),λh=>False.elim h⟩
def en{m:aY β}{k:β->aY α}:Wp (m.bind k) P↔Wp m λb=>Wp (k b) P:=by cases m with|none=>simp only[Option.bind_none,YB]|some b=>simp only[ζb,a_]
theorem b_{t:X'}{a b:aY α}:Wp (bg t a b) P↔(t=true->Wp a P)/\(t=false->Wp b P):=by cases t<;>simp[bg]
def Wp.mono{m:aY α}(h:Wp m P)(B:∀a,P a->Q a):Wp m Q:=let⟨a,e,p⟩:=h;⟨a,e,B a p⟩
def Wp.and{m:aY α}(h:Wp m P)(B:Wp m Q):Wp m λa=>P a/\Q a:=by have⟨a,e,p⟩:=h;have⟨b,e2,q⟩:=B;rw[e]at e2;cases e2;exact⟨a,e,p,q⟩
def Wp.eq{m:aY α}{a:α}(h:Wp m λx=>x=a):m=some a:=by obtain⟨b,e,rfl⟩:=h;exact e
end
section
variable{σ ε ρ:Type}
def eU(step:σ->aY (Fw σ ε ρ))(s:σ):bG step s=(step s).bind λw=>match w with
 |.n B=>bG step B|.x e=>some (.x e)|.r b=>some (.r b):=by
 have d:∀r,bG step s=some r->((step s).bind λw=>match w with
  |.n B=>bG step B|.x e=>some (.x e)|.r b=>some (.r b))=some r:=by
  intro r h;have⟨k,a⟩:=qK.1 h
  cases k with
  |zero=>simp[lz]at a|succ k=>
   simp only[lz]at a
   cases u:step s with
   |none=>rw[u]at a;cases a|some w=>
    rw[u]at a
    cases w with
    |n B=>exact qK.2 ⟨k,a⟩|x e=>exact a|r b=>exact a
 cases z:bG step s with
 |some r=>exact(d r z).symm|none=>
  cases c:((step s).bind λw=>match w with
  |.n B=>bG step B|.x e=>some (.x e)|.r b=>some (.r b))with
  |none=>rfl|some r=>
   exfalso
   cases u:step s with
   |none=>rw[u]at c;cases c|some w=>
    rw[u]at c;simp only[ζb]at c;have:bG step s=some r:=by cases w with|n B=>have⟨k,a⟩:=qK.1 c;exact qK.2 ⟨k+1,by simp only[lz,u];exact a⟩|x e=>exact qK.2 ⟨1,by simp only[lz,u];exact c⟩|r b=>exact qK.2 ⟨1,by simp only[lz,u];exact c⟩
    rw[z]at this;cases this
def Wr(I:σ->Prop)(μ:σ->Nat)(D:ε->Prop)(G:ρ->Prop)(s:σ):Fw σ ε ρ->Prop
 |.n B=>I B/\μ B<μ s|.x e=>D e|.r b=>G b
def Pfw(B:ε->Prop)(D:ρ->Prop):Fw Empty ε ρ->Prop
 |.x e=>B e|.r b=>D b
def TC{step:σ->aY (Fw σ ε ρ)}(I:σ->Prop)(μ:σ->Nat)(B:ε->Prop)(D:ρ->Prop)(h:∀s,I s->Wp (step s) (Wr I μ B D s)){s:σ}(G:I s):Wp (bG step s) (Pfw B D):=by
 have key:∀n s,μ s<=n->I s->Wp (bG step s) (Pfw B D):=by
  intro n
  induction n with
  |zero=>intro s C c;have⟨w,u,a⟩:=h s c;rw[eU,u];cases w with|n z=>exact absurd a.2 Zaa|x e=>exact⟨_,rfl,a⟩|r b=>exact⟨_,rfl,a⟩
  |succ n J=>intro s C c;have⟨w,u,a⟩:=h s c;rw[eU,u];cases w with|n z=>exact J z (by have:=a.2;omega) a.1|x e=>exact⟨_,rfl,a⟩|r b=>exact⟨_,rfl,a⟩
 exact key (μ s) s (Nat.le_refl _) G
def fH{γ:Type}{step:σ->aY (Fw σ ε ρ)}{B:ε->aY γ}{fr:ρ->aY γ}{P:γ->Prop}(I:σ->Prop)(μ:σ->Nat){s:σ}(D:I s)
 (h:∀s,I s->Wp (step s) (Wr I μ (λe=>Wp (B e) P) (λb=>Wp (fr b) P) s)):Wp ((bG step s).bind (Fw.elim B fr)) P:=by
 rw[en];refine(TC I μ _ _ h D).mono ?_;intro w u
 cases w with
 |n a=>cases a|x e=>exact u|r b=>exact u
end
def HG{β γ δ:Type}{e:γ->aY β}{m:aY δ}{f:δ->aY γ}{L:aY β}(h:∀x,m=some x->Le ((f x).bind e) L):Le ((m.bind f).bind e) L:=by cases m with|none=>exact Le.none _|some x=>exact h x rfl
section
variable{S:Sys}{c:cn}{β:Type}{Q:Out×St->aY β}{fo:Fo}{fs:QQ}{st0:St}{l:R0}{d:aY Nat}{now:X'}{az:QR}{dd:ST}
theorem Le.get{β:Type}{r:β}{L:aY β}(h:Le (some r) L):L=some r:=h r rfl
def Kt{n:Nat}{fo fo':Fo}{fs fs':QQ}{st:St}(A:X'->St){t:X'}{m:aY β}(B:t=true)(h:jg S c n fo fs st=some (fo',fs',A t))(D:Le m (rn S c Q fo' fs' (A true))):Le m (rn S c Q fo fs st):=by rw[q_ h,B];exact D
def Kf{n:Nat}{fo fo':Fo}{fs fs':QQ}{st:St}(A:X'->St){t:X'}{m:aY β}(B:t=false)(h:jg S c n fo fs st=some (fo',fs',A t))(D:Le m (rn S c Q fo' fs' (A false))):Le m (rn S c Q fo fs st):=by rw[q_ h,B];exact D
def U3{α:Type}[bD α]{s:Sl α}{i:Int}{x:α}{r:β}{L:aY β}(B:idx s i=some x)(h:Le (((idx s i).bind λ_=>some r).bind some) L):Le (some r) L:=by rw[B]at h;exact h
def Kyl{n:Nat}{q:R0}{fs':QQ}{st:St}{id:Nat}{vs:SW}{xs:So}{B:S'}{m:aY β}
 (D:jg S c n fo fs st0=some (.ops false [] q,fs',st))(G:q=⟨d,none,now,.c,az,dd,[]⟩::l)(J:bW S.N st.g az=some (.yl id::vs))(U:dA vs=some xs)(W:st.want=xs::B)(a:id=st.yid)
 (h:Le m (rn S c Q (.ops false [] l) fs' (rZ dd (cV {st with want:=B} d (.v (.bool (st.more|| !B.isEmpty))))))):Le m (rn S c Q fo fs st0):=by
 refine V9 D G rfl ?_ h;unfold gz;simp only[wanted,gM,J,U,W,a,if_true,and_self,Bool.false_eq_true,if_false]
def Dr(a:RC)(fs:QQ)(st:St):rn S c Q (.rc (.loop a)) fs st=(qR (cN S c a) st).bind (HM (o9 S c Q fs) (pI S c Q fs) (λst=>Q (.ret,st))):=by show mz S c Q (.loop a) fs st=_;unfold mz;rw[Gf];rfl
def Ze{f:St->aY (Out×St)}{st st':St}(h:f st=some (.norm,st')):qR f st=qR f st':=by
 have key:∀r,qR f st=some r↔qR f st'=some r:=λr=>by constructor;intro b;have⟨k,a⟩:=pe.1 b;(cases k with|zero=>simp[kP]at a|succ k=>simp only[kP,h]at a;exact pe.2 ⟨k,a⟩);intro b;have⟨k,a⟩:=pe.1 b;exact pe.2 ⟨k+1,by simp only[kP,h];exact a⟩
 cases u:qR f st with
 |none=>cases w:qR f st' with|none=>rfl|some r=>rw[(key r).2 w]at u;cases u
 |some r=>rw[(key r).1 u]
def NX{f:St->aY (Out×St)}{st st':St}{o:Out}(h:f st=some (o,st'))(B:o≠.norm):qR f st=some (o,st'):=by refine pe.2 ⟨1,?_⟩;cases o with|norm=>exact absurd rfl B|exit k=>simp only[kP,h]|ret=>simp only[kP,h]
def Jg{a:RC}{fs:QQ}{st st':St}(h:rn S c some (.rc a) [] st=some (.norm,st')):rn S c Q (.rc (.loop a)) fs st=rn S c Q (.rc (.loop a)) fs st':=by rw[Dr,Dr,Ze (by rw[DN];exact h)]
def Ij{a:RC}{fs:QQ}{st st':St}{k:Nat}(h:rn S c some (.rc a) [] st=some (.exit k,st')):rn S c Q (.rc (.loop a)) fs st=rn S c Q (.ex k) fs st':=by rw[Dr,NX (by rw[DN];exact h) Zab];rfl
def IE{a:RC}{fs:QQ}{st st':St}(h:rn S c some (.rc a) [] st=some (.ret,st')):rn S c Q (.rc (.loop a)) fs st=Q (.ret,st'):=by rw[Dr,NX (by rw[DN];exact h) Zab];rfl
end
def Qi:Out×St->aY Unit
 |(.exit _,_)=>none|(_,st)=>if st.want.isEmpty then some ()else none
def Sys.bare(S:Sys):Sys:=⟨S.E,S.N,λ_ _ _=>none,λ_ _=>none,λ_=>none⟩
def qj:cn:=λ_ _ _=>none
def xA(B rest:S')(more:X'):Prop:=more=true/\B=rest\/more=false/\B≠[]/\∃r,rest=B++r
def Ub(S:Sys){f:Y'}{fi:FI}{nm:Y'->aY Nat}{rf:RF}(G:S.E.ft f=some fi)(W:∀g s,nm g=some s->S.N s=g)(e:zL S.E nm fi rf){a b:So}{xs:S'}(D:a.length+1+b.length<=rf.na)(U:rf.rs=[])
 (h:∀B more,xA B xs more->∀yid,rn S.bare qj Qi (.rc rf.body) [] ⟨xP 0 (a.map .v++.yl yid::b.map .v),[],[],B,more,yid⟩=some ()):eW S f a b xs:=by
 have k:eW S.bare f a b xs:=NV (S:=S.bare) (c:=qj) (fi:=fi) (nm:=nm) (rf:=rf) (λ_ _ h=>by cases h) (λ_ _ _ _ _ h=>by simp[qj]at h) (λ_ _ _ _ h=>by simp[Sys.bare]at h) G W e D U (λB more w yid=>by
  have d:=h B more w yid;change mz S.bare qj Qi rf.body [] _=some ()at d;rw[rA]at d;have⟨⟨o,st'⟩,z,u⟩:=ζg.1 d;refine⟨o,st',z,?_,?_,rfl⟩
  .rintro id rfl;simp[Qi]at u
  cases o<;>simp[Qi]at u<;>exact u)
 intro B more w yid J y Z C I H d z u L O;exact k B more w yid J ⟨y.zl,y.yield⟩ Z C I H d z u L O
open Classical in
def Av(P:Y'->So->So->S'->Prop)(f:Y')(a b:So):aY S':=if h:∃u,P f a b u then some (Classical.choose h)else none
def FF{P:Y'->So->So->S'->Prop}{f:Y'}{a b:So}{xs:S'}(h:P f a b xs)(d:∀ys,P f a b ys->ys=xs):Av P f a b=some xs:=by have c:∃xs,P f a b xs:=⟨xs,h⟩;unfold Av;rw[dif_pos c,d _ (choose_spec c)]
def QF{P:Y'->So->So->S'->Prop}{f:Y'}{a b:So}{xs:S'}(h:Av P f a b=some xs):P f a b xs:=by
 unfold Av at h;split at h;next c=>cases h;exact choose_spec c
 cases h
def aac{E:Env}{nm:Y'->aY Nat}{f:Y'}{rf:RF}
 (h:((E.ft f).bind λfi=>(bR ⟨E,nm,fi.ntmps⟩ false fi.body).bind λc=>(fi.results.mapM (DF E)).bind λrs=>some (c,rs,fi.ntmps))=some (erase rf.body,rf.rs,rf.na)):∃fi,E.ft f=some fi/\zL E nm fi rf:=by
 have⟨fi,a,w⟩:=ζg.1 h;have⟨c,z,B⟩:=ζg.1 w;have⟨rs,C,u⟩:=ζg.1 B;simp only[ζa,ζc]at u;obtain⟨rfl,rfl,D⟩:=u;exact⟨fi,a,z,C,D.symm⟩
def FR.sw{H:bn}{Z Z':Nat->Prop}{x y z:V}(h:FR H Z x z)(k:FR H Z' y z):x=y:=by have⟨n,u⟩:=Cu x;have⟨m,w⟩:=Cu y;have e1:=h.borrow (max n m) (AE (Nat.le_max_left _ _) u);have e2:=k.borrow (max n m) (AE (Nat.le_max_right _ _) w);rw[e1]at e2;exact Option.some.inj e2
open Classical in
def Ax(E:Env)(f:Y')(az:So):aY V:=if h:∃y,Cp E f az y then some (Classical.choose h)else none
def IA{E:Env}{f:Y'}{az:So}{y:V}(h:Ax E f az=some y):Cp E f az y:=by
 unfold Ax at h;split at h;next a=>cases h;exact choose_spec a
 cases h
def BW{E:Env}{f:Y'}{az:So}{y:V}(h:Cp E f az y):Ax E f az=some y:=by have a:∃y,Cp E f az y:=⟨y,h⟩;unfold Ax;rw[dif_pos a];have⟨n,z,H,Z,k1,k2,_⟩:=h;have⟨u,w,H',Z',k3,k4,_⟩:=choose_spec a;have e1:=(qF E (Nat.le_max_left n u)).go _ _ _ _ k1;have e2:=(qF E (Nat.le_max_right n u)).go _ _ _ _ k3;rw[e1]at e2;cases e2;rw[FR.sw k4 k2]
def Nn{E:Env}{f:Y'}{az:So}{y:V}(B:V.scalar y=true)(h:∃n H',run E n (.fn f) az []=some (y,H')):Cp E f az y:=by have⟨n,H',h⟩:=h;exact⟨n,y,H',λ_=>False,h,.same _ (lH B),λ_ h=>h.elim,⟨λ_ _ _ h=>h.elim⟩⟩
end Go.VE
