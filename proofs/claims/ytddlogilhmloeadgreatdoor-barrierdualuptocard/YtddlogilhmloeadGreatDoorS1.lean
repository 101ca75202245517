/- Certificates. -/
import Derived.KernelRfl
import Derived.Test.YtddlogilhmloeadGreatDoorN2
set_option linter.all false
open Option renaming some→M,some→_h,none→G,none→_n,bind→H,bind→_l
open Bool renaming true→O,true→_k,false→U,false→_m
open Decidable renaming decide→_p
open List renaming length→W,length→_j
open Go.IntKind renaming i64→Z,i64→_o
open Classical renaming choose_spec→W?
open List renaming drop_drop→D!,flatten_cons→d8,length_cons→Z?,length_map→I!,length_nil→w0,map_cons→P?,map_drop→g8,map_take→w7,range'→C',replicate→w?
open Option renaming map_some→B?
open Nat renaming add_mul→t!,one_mul→q0
noncomputable section
open Nat(le)
open Nat(le)
open Nat(le)
open Nat(ble)
namespace Go.VE
variable[b8]
inductive Sl(α:Type)where
 |nil|emp|row(l:List α)|part(l:List α)
 deriving Inhabited
abbrev Zg:=Sl Int
abbrev Zb:=Sl (Sl Int)
def Sl.l{α:Type}:Sl α->aX α
 |.nil|.emp=>[]|.row l|.part l=>l
def Sl.k{α:Type}:Sl α->Fl
 |.nil=>.nil|.emp=>.emp|.row _=>.row|.part _=>.part
class bB(α:Type)where
 cells:α->List V
 agg:Bool
 size:Nat
 len:∀a,(cells a).length=size
 good:∀a,V.cN (cells a)=true
 one:∀a,(cells a).all V.one=true
 plain:agg=false->size=1
def cells{α:Type}[bB α](a:α):So:=bB.cells a
def enc{α:Type}[bB α](a:α):V:=if bB.agg α then .agg (cells a)else(cells a).headD .undef
def rows{α:Type}[bB α](l:aX α):S':=l.map cells
def cz{α:Type}[bB α](s:Sl α):V:=kN s.k (bB.size α) (rows s.l)
instance:bB Int where
 cells n:=[.int Z n]
 agg:=U
 size:=1
 len _:=rfl
 good _:=rfl
 one _:=rfl
 plain _:=rfl
instance:bB X' where
 cells b:=[.bool b]
 agg:=U
 size:=1
 len _:=rfl
 good _:=rfl
 one _:=rfl
 plain _:=rfl
instance:bB U' where
 cells s:=[.str s]
 agg:=U
 size:=1
 len _:=rfl
 good _:=rfl
 one _:=rfl
 plain _:=rfl
structure aZ where
 proc:Int
 index:Int
 deriving DecidableEq,Inhabited
instance:bB aZ where
 cells x:=[.int Z x.proc,.int Z x.index]
 agg:=O
 size:=2
 len _:=rfl
 good _:=rfl
 one _:=rfl
 plain h:=by cases h
@[simp] def ad2(n:Int):enc n=.int Z n:=rfl
@[simp] def adB(n:X'):enc n=.bool n:=rfl
@[simp] def ad1(n:U'):enc n=.str n:=rfl
@[simp] def ady(n:Int):cells n=[.int Z n]:=rfl
@[simp] def ab_(n:X'):cells n=[.bool n]:=rfl
@[simp] def adp(n:U'):cells n=[.str n]:=rfl
@[simp] def adJ(n:aZ):cells n=[.int Z n.proc,.int Z n.index]:=rfl
@[simp] def aao(n:aZ):enc n=.agg [.int Z n.proc,.int Z n.index]:=rfl
section
variable{α:Type}[bB α]
def gR(l:aX α):W (rows l)=W l:=by simp[rows]
def idx(s:Sl α)(i:Int):aY α:=if 0<=i then s.l[i.toNat]?else G
def V9{N:Nat->Y'}(s:Sl α)(k:T2)(i:Int){n:Nat}(B:n=bB.size α):bV N (.idxS n) [cz s,.int k i]=(idx s i).map λx=>.fptr (cells x):=by subst B;unfold idx cz;simp only[bV,nU];by_cases h:i<0;rw[J0 h,K' c?];rfl;rw[K' h,J0 c?];cases s<;>simp[Sl.k,Sl.l,kN,rows,Function.comp_def]
def Sc{N:Nat->Y'}(s:Sl α):bV N .lenSl [cz s]=M (.int Z (W s.l)):=by cases s<;>simp[bV,qq,cz,Sl.k,Sl.l,kN,gR]
end
section
variable{S:Sys}{c:cg}
end
end Go.VE
namespace Go.VE
variable[b8]
section
variable{S:Sys}{c:cg}
def isSlice:xI->X'
 |.slice ..=>O|_=>U
def PI(dr:X')(fr:ST)(dst:aY Nat)(now:X')(p:xI)(az:QQ)(st:St)(h:isSlice p=U):
 gA S c dr fr ⟨dst,G,now,.p p,az,[],[]⟩ st=H (bW S.N st.g az) λm?=>H (kH S.N st.m p m?) λx=>M (c8 st dst x):=by
 unfold gA oa;have u:gL S.N st.g ⟨dst,G,now,.p p,az,[],[]⟩=G:=by unfold gL;grind
 simp[wanted,u]
 cases z:bW S.N st.g az with
 |none=>rfl|some m?=>simp;cases p<;>first|(simp[isSlice]at h;done)|(cases w:kH S.N st.m _ m?<;>simp[w])
def OV(N:Nat->Y')(m:Tb bD)(p:xI)(m?:R')(xs:So)(h:dw m?=M xs):kH N m p m?=H (bV N p xs) λx=>M (.v x):=by unfold kH;rw[h];dsimp only;cases bV N p xs<;>rfl
def zW(dr:X')(fr:ST)(dst:aY Nat)(now:X')(q:OU)(az:QQ)(st:St):
 gA S c dr fr ⟨dst,G,now,.r q,az,[],[]⟩ st=H (bW S.N st.g az) λm?=>if !dr||now||eY fr m? then(oG st.m q m?).bind λx=>M (c8 st dst x)else G:=by
 unfold gA oa;have u:gL S.N st.g ⟨dst,G,now,.r q,az,[],[]⟩=G:=rfl;simp[wanted,u]
 cases w:bW S.N st.g az with
 |none=>rfl|some m?=>
  simp;split
  .cases z:oG st.m q m?<;>simp
  rfl
def yO(dr:X')(fr:ST)(d:Nat)(now:X')(q:RP)(az:QQ)(st:St):
 gA S c dr fr ⟨M d,G,now,.a q,az,[],[]⟩ st=H (bW S.N st.g az) λm?=>if st.new d then(nG st.m q m? d).bind λr=>M {st with g:=bE st.g d r.2,m:=bE st.m d r.1}else G:=by
 unfold gA oa;have u:gL S.N st.g ⟨M d,G,now,.a q,az,[],[]⟩=G:=rfl;simp[wanted,u]
 cases w:bW S.N st.g az with
 |none=>rfl|some m?=>
  simp;split
  .cases z:nG st.m q m? d<;>simp[c8]
  rfl
def xm(dr:X')(fr:ST)(dst:aY Nat)(now:X')(q:Oj)(az:QQ)(st:St):
 gA S c dr fr ⟨dst,G,now,.l q,az,[],[]⟩ st=H (bW S.N st.g az) λm?=>if !dr||now then(mM st dst q m?).bind λr=>M (c8 r.2 dst r.1)else G:=by
 unfold gA oa;have u:gL S.N st.g ⟨dst,G,now,.l q,az,[],[]⟩=G:=rfl;simp[wanted,u]
 cases w:bW S.N st.g az with
 |none=>rfl|some m?=>
  simp;split
  .cases z:mM st dst q m?<;>simp
  rfl
def mc:R'->aY (Y'×R')
 |.clo f a b::vs=>M (f,a++vs++b)|.v (.clo f a b)::vs=>M (f,a.map .v++vs++b.map .v)|_=>G
def vM(dr:X')(fr:ST)(dst:aY Nat)(now:X')(az:QQ)(st:St)(m?:R')(f:Y')(args:R')(B:bW S.N st.g az=M m?)(a:mc m?=M (f,args)):
 gA S c dr fr ⟨dst,G,now,.c,az,[],[]⟩ st=H (eU S c dst dr (!dr||now) (e_ st.m fr) f args st) λr=>M (c8 r.2 dst r.1):=by
 unfold gA oa;unfold mc at a;split at a
 .obtain⟨rfl,rfl⟩:=a;simp[wanted,gL,B];cases eU S c dst dr _ _ _ _ st<;>simp
 .obtain⟨rfl,rfl⟩:=a;simp[wanted,gL,B];cases eU S c dst dr _ _ _ _ st<;>simp
 grind
def TY{β:Type}(S:Sys)(c:cg)(fr:ST)(l:Rd)(k:St->aY β):St->aY β:=λst=>H (pO S c U fr l st) k
def Wf{β:Type}(S:Sys)(c:cg)(fr:ST)(l:Rd)(k:St->aY β):St->aY β:=λst=>H (pO S c O fr l st) k
def aaC{β:Type}(S:Sys)(c:cg)(fr dd:ST)(l:Rd)(k:St->aY β):St->aY β:=λst=>TY S c fr l k (rJ dd st)
def aaD{β:Type}(S:Sys)(c:cg)(fr dd:ST)(l:Rd)(k:St->aY β):St->aY β:=λst=>Wf S c fr l k (rJ dd st)
@[congr] def ac5{β:Type}{fr:ST}{l:Rd}{k:St->aY β}{st e?:St}(h:st=e?):TY S c fr l k st=TY S c fr l k e?:=by rw[h]
@[congr] def acS{β:Type}{fr B:ST}{l:Rd}{k:St->aY β}{st e?:St}(D:fr=B)(h:st=e?):Wf S c fr l k st=Wf S c B l k e?:=o?
@[congr] def acQ{β:Type}{fr dd:ST}{l:Rd}{k:St->aY β}{st e?:St}(h:st=e?):aaC S c fr dd l k st=aaC S c fr dd l k e?:=by rw[h]
@[congr] def acZ{β:Type}{fr B dd:ST}{l:Rd}{k:St->aY β}{st e?:St}(D:fr=B)(h:st=e?):aaD S c fr dd l k st=aaD S c B dd l k e?:=o?
@[congr] def adn{dr:X'}{fr:ST}{o:RO}{st e?:St}(h:st=e?):gA S c dr fr o st=gA S c dr fr o e?:=by rw[h]
end
section
variable{S:Sys}{c:cg}(dr:X')(fr:ST)(dst:aY Nat)(now:X')(az:QQ)(st:St)
end
inductive Fm where
 |seq(b:RC)|blk(id:Nat)|gst(x:Gh)
abbrev QP:=aX Fm
section
variable(S:Sys)(c:cg){β:Type}(Q:Out×St->aY β)
def runK:QP->Out×St->aY β
 |[],r=>Q r|.seq b::fs,(.norm,st)=>H (cT S c b st) (runK fs)|.seq _::fs,r=>runK fs r|.blk id::fs,(.exit k,st)=>if k=id then runK fs (.norm,st)else runK fs (.exit k,st)|.blk _::fs,r=>runK fs r|.gst x::fs,(.norm,st)=>H (ghost x st) λst=>runK fs (.norm,st)|.gst _::fs,r=>runK fs r
def go(a:RC)(fs:QP)(st:St):aY β:=H (cT S c a st) (runK S c Q fs)
def WD(fs:QP):St->aY β:=λst=>runK S c Q fs (.norm,st)
def bg{α:Type}(t:X')(a b:α):α:=if t then a else b
end
@[congr] def adw{α:Type}{t B:X'}{a b a' D:α}(h:t=B)(J:B=O->a=a')(T:B=U->b=D):bg t a b=bg B a' D:=by subst h;cases t;exact T Y;exact J Y
section
variable{S:Sys}{c:cg}{β:Type}{Q:Out×St->aY β}
@[congr] def go_congr{a:RC}{fs:QP}{st e?:St}(h:st=e?):go S c Q a fs st=go S c Q a fs e?:=by rw[h]
@[congr] def ab0{fs:QP}{st e?:St}(h:st=e?):WD S c Q fs st=WD S c Q fs e?:=by rw[h]
@[congr] def aco{fs:QP}{r B:Out×St}(h:r=B):runK S c Q fs r=runK S c Q fs B:=by rw[h]
def LV(a:RC)(st:St):H (cT S c a st) Q=go S c Q a [] st:=by simp only[go];cases cT S c a st<;>rfl
inductive Fw(ν ε ρ:Type)where
 |n(a:ν)|x(e:ε)|r(b:ρ)
def nK{σ ε ρ:Type}(step:σ->aY (Fw σ ε ρ)):Nat->σ->aY (Fw Empty ε ρ)
 |0,_=>G|k+1,s=>match step s with
  |some (.n B)=>nK step k B|some (.x e)=>M (.x e)|some (.r b)=>M (.r b)|none=>G
def AD{σ ε ρ:Type}{step:σ->aY (Fw σ ε ρ)}:∀{k B:Nat}{s:σ}{r:Fw Empty ε ρ},k<=B->nK step k s=M r->nK step B s=M r
 |0,_,_,_,_,h=>by simp[nK]at h|k+1,0,_,_,hk,_=>c?|k+1,B+1,s,r,hk,h=>by simp only[nK]at h⊢;split at h;exact AD (Nat.le_of_succ_le_succ hk) h;exact h;exact h;simp at h
open Classical in
def bM{σ ε ρ:Type}(step:σ->aY (Fw σ ε ρ))(s:σ):aY (Fw Empty ε ρ):=if h:∃k r,nK step k s=M r then M (Classical.choose (W? h))else G
def sx{σ ε ρ:Type}{step:σ->aY (Fw σ ε ρ)}{s:σ}{r:Fw Empty ε ρ}:bM step s=M r↔∃k,nK step k s=M r:=by
 unfold bM;constructor;intro h;split at h;next u=>simp only[ζa]at h;exact⟨_,by rw[<-h];exact W? (W? u)⟩
 simp at h;rintro⟨k,a⟩;have u:∃k r,nK step k s=M r:=⟨k,r,a⟩;rw[dif_pos u];have z:=W? (W? u);have B:=AD (Nat.le_max_left (Classical.choose u) k) z;have w:=AD (Nat.le_max_right (Classical.choose u) k) a;rw[B]at w;exact w
def Fw.out{ν ε ρ:Type}(B:ν->St)(eε:ε->Nat×St)(eρ:ρ->St):Fw ν ε ρ->Out×St
 |.n a=>(.norm,B a)|.x e=>(.exit (eε e).1,(eε e).2)|.r b=>(.ret,eρ b)
def Fw.elim{ε ρ γ:Type}(B:ε->γ)(fr:ρ->γ):Fw Empty ε ρ->γ
 |.x e=>B e|.r b=>fr b
end
section
variable{α:Type}[bB α]
def Iq(s:Sl α):V.one (cz s)=O:=by cases s<;>rfl
def RS(l:aX α):V.pg (rows l)=O:=by induction l with|nil=>rfl|cons a l u=>simp only[rows,P?,V.pg,ζh];exact⟨bB.good a,u⟩
def PK(s:Sl α):V.good (cz s)=O:=by cases s<;>simp only[cz,Sl.k,kN,V.good]<;>exact RS _
instance:bB (Sl α)where
 cells s:=[cz s]
 agg:=U
 size:=1
 len _:=rfl
 good s:=by simp only[V.cN,PK,Bool.and_self]
 one s:=by simp[Iq]
 plain _:=rfl
def Uh(s:Sl α):cells s=[cz s]:=rfl
end
section
variable{S:Sys}{c:cg}
def R5(x:aY SV)(b:X')(y z:aY St):aY St:=
 match x with
 |some (.v (.bool t))=>bg (t==b) y z|some (.v _)=>z|_=>G
@[congr] def aaZ{x B:aY SV}{b:X'}{y z:aY St}(h:x=B):R5 x b y z=R5 B b y z:=by rw[h]
def Wz{β:Type}(x:aY SV)(y z:aY β):aY β:=
 match x with
 |some (.v (.bool t))=>bg t y z|_=>G
@[congr] def abX{β:Type}{x B:aY SV}{y z:aY β}(h:x=B):Wz x y z=Wz B y z:=by rw[h]
def kM(c:cg)(f:Y')(az:So):aY So:=H (c f (az.map .v) []) λr=>dz r.2 8 r.1
def Rf(now:X')(args:R')(ok:X')(st:St)(ys:So):aY (SV×St):=if(result ys).scalar||ok then M (.v (result ys),st)else if now then(rowsOf st.m args).map λds=>(.v (result ys),{st with m:=rB ds st.m})else G
def YN(dst:aY Nat)(dr now:X')(old:R'->X')(f:Y')(args:R')(st:St)(a:S.E.keep f=U):
 eU S c dst dr now old f args st=H (dz st.m 8 args) λaz=>if now||old args then(kM c f az).bind (Rf now args (dw args).isSome st)else G:=by
 unfold eU kM;simp only[a,Bool.false_eq_true,M']
 cases dz st.m 8 args with
 |none=>rfl|some az=>
  simp only[ζb];split
  .cases c f (az.map .v) []with
   |none=>rfl|some r=>have⟨rs,m'⟩:=r;simp only[ζb];cases dz m' 8 rs<;>rfl
  rfl
end
section
variable{S:Sys}{T:rW}
def MD(rs:Pi):Out×St->aY So
 |(.exit _,_)=>G|(_,st)=>H (kS st rs) (dz st.m 8)
def UZ{f:Y'}{rf:RF}(B:T f=M rf)(az:So)(D:W az<=rf.na):kM (dB S T) f az=go S (dB S T) (MD rf.rs) rf.body [] (start (az.map .v) []):=by unfold kM;rw[uP B];unfold o9;rw[J0 (by simpa using D),<-LV];cases h:cT S (dB S T) rf.body (start (az.map .v) [])with|none=>rfl|some r=>have⟨o,st⟩:=r;cases o<;>simp only[ζb,MD]<;>(try rfl)<;>(cases kS st rf.rs<;>rfl)
end
end Go.VE
namespace Go.VE
variable[b8]
variable{N:Nat->Y'}
def BE(k:T2)(a b:Int):Ps:=if b=0 then G else M (k.wrap (a.tdiv b))
def aan(e:aY KT)(q:aY Nat)(k:T2)(a b:Int):bV N (.bin e q .quo) [.int k a,.int k b]=H (BE k a b) λx=>M (.int k x):=by simp only[bV,oJ,BE,L'];split<;>rfl
def L3(o:Nat)(cs:So):bV N (.fieldAddr o) [.fptr cs]=if o<=W cs then M (.fptr (cs.drop o))else G:=rfl
def mP(s:U')(n:Int):Ps:=if 0<=n then(s[n.toNat]?).map λb=>(b.toNat:Int)else G
def Rq(s:U')(k:T2)(n:Int):bV N .idxStr [.str s,.int k n]=H (mP s n) λx=>M (.int .u8 x):=by simp only[bV,mP];split;cases s[n.toNat]?<;>rfl;rfl
def Vk(z:So)(pl:aX (Nat×Nat))(vs:So):bV N (.build z pl) vs=H (mK z pl vs) λcs=>M (.agg cs):=by simp only[bV];cases mK z pl vs<;>rfl
section
variable{α:Type}[bB α]
def Oo(s:Sl α)(k:T2)(i:Int)(n:Nat)(B:n=bB.size α):bV N (.idxS n) [cz s,.int k i]=H (idx s i) λx=>M (.fptr (cells x)):=by rw[V9 s k i B];cases idx s i<;>rfl
def Mw(s:Sl α):bV N .lenSl [cz s]=M (.int Z (W s.l)):=Sc s
def Sl.isNil{α:Type}(s:Sl α):aY X':=
 match s with
 |.nil=>M O|.emp=>G|_=>M U
def Va(q:aY Nat)(s:Sl α):bV N (.bin (M .slice) q .eql) [cz s,.bG]=s.isNil.bind λt=>M (.bool t):=by cases s<;>rfl
def iw(s:Sl α)(lo hi:Ps):aY (Sl α):=
 (eA (W s.l) lo hi).map λ(l,h)=>match s with
  |.nil=>.nil|.emp=>.emp|.row x=>.part ((x.take h).drop l)|.part x=>.part ((x.take h).drop l)
def PG(s:Sl α)(lo hi:Ps)(n:Nat)(B:n=bB.size α):jy n (cz s) lo hi=H (iw s lo hi) λx=>M (cz x):=by subst B;cases s with|nil=>simp only[cz,Sl.k,kN,jy,iw,Sl.l,w0];cases eA 0 lo hi<;>rfl|emp=>simp only[cz,Sl.k,kN,jy,iw,Sl.l,w0];cases eA 0 lo hi<;>rfl|row l=>simp only[cz,Sl.k,kN,jy,iw,Sl.l,L',gR];cases eA (W l) lo hi<;>simp[rows,w7,g8]|part l=>simp only[cz,Sl.k,kN,jy,iw,Sl.l,L',gR];cases eA (W l) lo hi<;>simp[rows,w7,g8]
end
def Tc(m:Tb bD)(n:Nat)(a:X')(cs:So):oG m (.load n a) [.v (.fptr cs)]=H (cut cs 0 n) λr=>H (mk a r) λx=>M (.v x):=by simp only[oG,fD];cases cut cs 0 n with|none=>rfl|some r=>simp only[ζb];cases mk a r<;>rfl
end Go.VE
namespace Go.VE
variable[b8]
section
variable{α:Type}[bB α]
def cG(s:Sl α):bD:=.sl s.k (bB.size α) (rows s.l)
def Sl.iF(s:Sl α)(i:Int):aY Nat:=if 0<=i/\i.toNat<W s.l then M i.toNat else G
def Sl.get(s:Sl α)(i:Nat):aY α:=s.l[i]?
def Sl.put(s:Sl α)(i:Nat)(x:α):aY (Sl α):=if i<W s.l then M (match s with|.row l=>.row (l.set i x)|.part l=>.part (l.set i x)|s=>s)else G
def ec(s:Sl α)(x:α):aY (Sl α):=if W s.l+1<=2147483648 then M (.row (s.l++[x]))else G
def nC(n:Int)(z:α):aY (Sl α):=if 0<=n/\n<=2147483648 then M (.row (w? n.toNat z))else G
end
section
variable{α:Type}[bB α]{N:Nat->Y'}{m:Tb bD}
def Lv(n d:Nat)(o:aY bD)(i:Int):aY SV:=
 match o with
 |some (.sl k es u)=>if b_ k/\es=n/\0<=i/\i.toNat<W u then M (.el d i.toNat 0)else G|some (.dp k u _)=>if b_ k/\1=n/\0<=i/\i.toNat<W u then M (.el d i.toNat 0)else G|_=>G
def OS(n d:Nat)(k:T2)(i:Int):kH N m (.idxS n) [.own d,.v (.int k i)]=Lv n d (bh m d) i:=by simp[kH,dw,Af,Lv];grind
def Yu(n d:Nat)(s:Sl α)(i:Int)(h:n=bB.size α):Lv n d (M (cG s)) i=H (s.iF i) λj=>M (.el d j 0):=by simp[Lv,cG,gR,Sl.iF];cases s with|nil=>simp[Sl.l,b_]|emp=>simp[Sl.l,b_]|row l=>simp[Sl.k,Sl.l,b_];grind|part l=>simp[Sl.k,Sl.l,b_];grind
def QX(o:aY bD):aY SV:=
 match o with
 |some (.sl _ _ u)=>M (.v (.int Z (W u)))|some (.dp _ u _)=>M (.v (.int Z (W u)))|_=>G
def VM(d:Nat):kH N m .lenSl [.own d]=QX (bh m d):=by simp[kH,dw,Af,QX];grind
def YY(s:Sl α):QX (M (cG s))=M (.v (.int Z (W s.l))):=by simp[QX,cG,gR]
def WY(n:Nat)(a:X')(o:Nat)(ob:aY bD):aY SV:=
 match ob with
 |some (.box cs)=>xk n a ((cs.drop o).take n)|_=>G
def adA(n:Nat)(a:X')(d o:Nat):oG m (.load n a) [.ptr d o]=WY n a o (bh m d):=by rfl
def Tv(n:Nat)(a:X')(o:Nat)(cs:R'):WY n a o (M (.box cs))=xk n a ((cs.drop o).take n):=rfl
def GS(n:Nat)(a:X')(i o:Nat)(ob:aY bD):aY SV:=
 match ob with
 |some (.sl _ _ u)=>match u[i]?with
  |some cs=>(H (cut cs o n) (mk a)).map .v|none=>G
 |some (.dp _ _ (M (j,t)))=>if j=i/\o=0/\n=1/\a=U then M (.own t)else G|_=>G
def WW(n:Nat)(a:X')(d i o:Nat):oG m (.load n a) [.el d i o]=GS n a i o (bh m d):=by rfl
def RM(n:Nat)(a:X')(i o:Nat)(s:Sl α):GS n a i o (M (cG s))=H (s.get i) λx=>H (cut (cells x) o n) λr=>H (mk a r) λy=>M (.v y):=by simp only[GS,cG,Sl.get,rows,List.getElem?_map];cases s.l[i]?with|none=>rfl|some x=>simp only[B?,ζb];cases cut (cells x) o n with|none=>rfl|some r=>simp;cases mk a r<;>rfl
def acB(z:α)(n:Int)(d:Nat)(size:Nat)(zero:So)(h:zero=cells z)(B:size=bB.size α):
 nG m (.makeSl size zero) [.v (.int Z n),.v (.int Z n)] d=H (nC n z) λs=>M (cG s,.own d):=by
 subst h B;simp[nG,nC];split
 .simp[cG,Sl.k,Sl.l,rows]
 rfl
def H7(st:St)(d i o size:Nat)(x:V)(ob:aY bD):aY (SV×St):=
 match ob with
 |some (.sl k es u)=>match u[i]?with
  |some cs=>if W x.cells=size/\o+size<=W cs/\x.cells.all V.one=O then
   M (.v .undef,{st with m:=bE st.m d (.sl k es (u.set i (cs.take o++x.cells++cs.drop (o+W x.cells))))})else G
  |none=>G
 |_=>G
def QO(st:St)(dst:aY Nat)(size d i o:Nat)(x:V):mM st dst (.store size) [.el d i o,.v x]=H7 st d i o size x (bh st.m d):=by rfl
def Q1(g:Tb SV)(p:ST)(w:S')(B:X')(y:Nat)(d i size:Nat)(x:V)(a:α)(D:x.cells=cells a)(J:size=bB.size α)(s:Sl α):
 H7 ⟨g,m,p,w,B,y⟩ d i 0 size x (M (cG s))=H (s.put i a) λT=>M (.v .undef,⟨g,bE m d (cG T),p,w,B,y⟩):=by
 have c:(cells a).all V.one=O:=bB.one a;have u:∀b:α,W (cells b)=bB.size α:=bB.len;subst J;simp only[H7,cG,rows,List.getElem?_map,D,Sl.put]
 by_cases hi:i<(W s.l)
 .have hg:=ζd hi;rw[J0 hi,hg];simp[u,c]
  cases s with
  |nil=>simp[Sl.l]at hi|emp=>simp[Sl.l]at hi|row l=>simp[Sl.k,Sl.l,List.drop_of_length_le,u]|part l=>simp[Sl.k,Sl.l,List.drop_of_length_le,u]
 grind
def Aq(st:St)(t n:Nat)(s:SV)(xs ys:aY S'):aY (SV×St):=
 match xs,ys with
 |some _,M []=>match s with
  |.own d=>match bh st.m d with
   |some ob=>if St.new {st with m:=dH d st.m} t then M (.own t,{st with m:=bE (dH d st.m) t ob})else G|none=>G
  |.v .bG=>if st.new t then M (.own t,{st with m:=bE st.m t (.sl .nil n [])})else G|.v .dN=>if st.new t then M (.own t,{st with m:=bE st.m t (.sl .emp n [])})else G|_=>G
 |some xs,M ys=>
  if W xs+W ys<=2147483648/\Mm s=O then
   if St.new {st with m:=giveUp st.m s} t then M (.own t,{st with m:=bE (giveUp st.m s) t (.sl .row n (xs++ys))})else G
  else G
 |_,_=>G
def Aj{st:St}{t n:Nat}{s x:SV}{xs ys:S'}(a:jB st.m n s=M xs)(B:jB st.m n x=M ys):mM st (M t) (.append n) [s,x]=Aq st t n s (M xs) (M ys):=by cases ys<;>cases s<;>cases x<;>(unfold mM Aq;simp only[a,B];try rfl)
def PB(n:Nat)(o:aY bD):aY S':=
 match o with
 |some (.sl k es u)=>if b_ k then(if es=n then M u else G)else M []|_=>G
def D5(n d:Nat):jB m n (.own d)=PB n (bh m d):=by simp[jB,PB];grind
def DJ(n:Nat)(s:Sl α)(h:n=bB.size α):PB n (M (cG s))=M (rows s.l):=by subst h;cases s<;>simp[PB,cG,Sl.k,Sl.l,b_,rows]
def XJ(n:Nat):jB m n (.v .bG)=M []:=rfl
def Za(n:Nat):jB m n (.v .dN)=M []:=rfl
def Ta(g:Tb SV)(p:ST)(w:S')(B:X')(y:Nat)(t n d:Nat)(l:aX α)(x:α)(h:n=bB.size α):Aq ⟨g,m,p,w,B,y⟩ t n (.own d) (M (rows l)) (M (rows [x]))=
 H (ec (.row l) x) λs=>if St.new ⟨g,dH d m,p,w,B,y⟩ t then M (.own t,⟨g,bE (dH d m) t (cG s),p,w,B,y⟩)else G:=by
 subst h;have e:W (rows l)+W (rows [x])=W l+1:=by simp[gR]
 by_cases h:W l+1<=2147483648
 .have a:ec (.row l) x=M (.row (l++[x])):=J0 h;have u:Aq ⟨g,m,p,w,B,y⟩ t (bB.size α) (.own d) (M (rows l)) (M (rows [x]))=if St.new ⟨g,dH d m,p,w,B,y⟩ t then M (.own t,⟨g,bE (dH d m) t (.sl .row (bB.size α) (rows l++rows [x])),p,w,B,y⟩)else G:=J0 ⟨c?,Y⟩
  rw[a,u];simp[cG,Sl.k,Sl.l,rows]
 have a:ec (.row l) x=G:=K' h;have u:Aq ⟨g,m,p,w,B,y⟩ t (bB.size α) (.own d) (M (rows l)) (M (rows [x]))=G:=K' (λq=>h c?)
 grind
def Tn(g:Tb SV)(p:ST)(w:S')(B:X')(y:Nat)(t n:Nat)(x:α)(h:n=bB.size α):Aq ⟨g,m,p,w,B,y⟩ t n (.v .bG) (M []) (M (rows [x]))=
 if St.new ⟨g,m,p,w,B,y⟩ t then M (.own t,⟨g,bE m t (cG (.row [x])),p,w,B,y⟩)else G:=by
 subst h;rfl
def SE(g:Tb SV)(p:ST)(w:S')(B:X')(y:Nat)(t n:Nat)(x:α)(h:n=bB.size α):Aq ⟨g,m,p,w,B,y⟩ t n (.v .dN) (M []) (M (rows [x]))=
 if St.new ⟨g,m,p,w,B,y⟩ t then M (.own t,⟨g,bE m t (cG (.row [x])),p,w,B,y⟩)else G:=by
 subst h;rfl
end
def Bd(g:Tb SV)(m:Tb bD)(p:ST)(w:S')(B:X')(y d:Nat):St.new ⟨g,m,p,w,B,y⟩ d=(!(p.contains d)&&(bh m d).isNone&& !(xh d g)&& !(vw d m)):=rfl
def ve(d:Nat):xh d []=U:=rfl
def s9(d n:Nat)(x:SV)(r:Tb SV):xh d ((n,x)::r)=(SV.cR d x||xh d r):=rfl
def uU(d:Nat):vw d []=U:=rfl
def s8(d n:Nat)(x:bD)(r:Tb bD):vw d ((n,x)::r)=(bD.cR d x||vw d r):=rfl
def A_(d:Nat)(x:V):SV.cR d (.v x)=U:=rfl
def wj(d e:Nat):SV.cR d (.own e)=(e==d):=rfl
def wv(d e o:Nat):SV.cR d (.ptr e o)=(e==d):=rfl
def zb(d e i o:Nat):SV.cR d (.el e i o)=(e==d):=rfl
def yY(d e:Nat):SV.cR d (.mp e)=(e==d):=rfl
def wR(d:Nat)(f:Y')(a b:R'):SV.cR d (.clo f a b)=(SV.dL d a||SV.dL d b):=rfl
def wh(d:Nat)(l:R'):SV.cR d (.tup l)=SV.dL d l:=rfl
def uZ(d:Nat):SV.dL d []=U:=rfl
def tB(d:Nat)(x:SV)(r:R'):SV.dL d (x::r)=(SV.cR d x||SV.dL d r):=rfl
def u7(d:Nat)(cs:R'):bD.cR d (.box cs)=SV.dL d cs:=rfl
def JH(m:Tb bD)(n:Nat):dz m n []=M []:=by cases n<;>simp[dz]
def GY(m:Tb bD)(n:Nat)(x:SV)(r:R'):dz m n (x::r)=H (shut m n x) λy=>H (dz m n r) λs=>M (y::s):=by cases n<;>(simp[dz];cases shut m _ x<;>(try rfl)<;>(cases dz m _ r<;>rfl))
def aal(m:Tb bD)(n:Nat)(x:V):shut m n (.v x)=M x:=by cases n<;>simp[shut]
def Qb(o:aY bD):aY V:=
 match o with
 |some (.sl k es u)=>M (kN k es u)|some (.dp k u G)=>M (kN k 1 u)|_=>G
def Vu(m:Tb bD)(n d:Nat):shut m n (.own d)=Qb (bh m d):=by cases n<;>(simp[shut,Qb];rfl)
def Wb{α:Type}[bB α](s:Sl α):Qb (M (cG s))=M (cz s):=rfl
def U4(m:Tb bD)(n:Nat)(f:Y')(a b:R'):shut m (n+1) (.clo f a b)=H (dz m n a) λx=>H (dz m n b) λy=>M (.clo f x y):=by simp[shut];cases dz m n a<;>(try rfl)<;>(cases dz m n b<;>rfl)
def Uv(m:Tb bD)(n:Nat)(l:R'):shut m (n+1) (.tup l)=H (dz m n l) λx=>M (.tup x):=by simp[shut];cases dz m n l<;>rfl
def VS(m:Tb bD)(n:Nat)(l:R'):shut m (n+1) (.agg l)=H (dz m n l) λx=>M (.agg x):=by simp[shut];cases dz m n l<;>rfl
def v8{α:Type}(n:Nat):dH n ([]:Tb α)=[]:=rfl
def vj{α:Type}(n k:Nat)(x:α)(r:Tb α):dH n ((k,x)::r)=if k=n then dH n r else(k,x)::dH n r:=rfl
def mapM_nil(f:R'->R'):mapM f []=[]:=rfl
section
variable{N:Nat->Y'}{m:Tb bD}
def Ye:result []=.tup []:=rfl
def X3(x:V):result [x]=x:=rfl
def XP(x y:V)(l:So):result (x::y::l)=.tup (x::y::l):=rfl
def K7(p:xI)(a:V):kH N m p [.v a]=H (bV N p [a]) λx=>M (.v x):=OV N m p _ [a] Y
def zn(p:xI)(a b:V):kH N m p [.v a,.v b]=H (bV N p [a,b]) λx=>M (.v x):=OV N m p _ [a,b] Y
def kP(l:So):dw (l.map .v)=M l:=by induction l with|nil=>rfl|cons a l u=>simp only[P?,dw,u];rfl
def rY(n:Nat)(l:So):dz m n (l.map .v)=M l:=by induction l with|nil=>exact JH m n|cons a l u=>rw[P?,GY,aal,u];rfl
def lq(cs:So):mK cs [] []=M cs:=rfl
def jQ(cs:So)(off size:Nat)(pl:aX (Nat×Nat))(v:V)(vs:So):mK cs ((off,size)::pl) (v::vs)=
 if W v.cells=size/\off+W v.cells<=W cs then mK (cs.take off++v.cells++cs.drop (off+W v.cells)) pl vs else G:=by
 simp only[mK]
 by_cases h:W v.cells=size<;>by_cases u:off+W v.cells<=(W cs)
 .rw[K' (by simp[h];omega),J0 ⟨h,u⟩]
 .rw[J0 (by simp[h];omega),K' (λq=>u q.2)]
 .rw[J0 (by simp[h]),K' (λq=>h q.1)]
 rw[J0 (by simp[h]),K' (λq=>h q.1)]
def oW(k:T2)(n:Int):V.cells (.int k n)=[.int k n]:=rfl
def nr(n:X'):V.cells (.bool n)=[.bool n]:=rfl
def pF(n:U'):V.cells (.str n)=[.str n]:=rfl
def oS:V.cells .bG=[.bG]:=rfl
def kU(k:T2)(n:Int):V.one (.int k n)=O:=rfl
def jD(n:X'):V.one (.bool n)=O:=rfl
def kT(n:U'):V.one (.str n)=O:=rfl
end
section
variable{S:Sys}{c:cg}{β γ δ:Type}{Q:Out×St->aY β}{L:aY β}{e:γ->aY β}
def RR{dr:X'}{fr:ST}{d:aY Nat}{gd:aY (Nat×X')}{now:X'}{k:K}{az:QQ}{st:St}(h:wanted st.g gd=M O):
 gA S c dr fr ⟨d,gd,now,k,az,[],[]⟩ st=gA S c dr fr ⟨d,G,now,k,az,[],[]⟩ st:=by
 unfold gA;rw[h];rfl
def Fq(dr:X')(st:St):Fe dr [] st=M st:=by cases dr<;>rfl
def qp(f:SV->aY V):R'->aY So
 |[]=>M []|x::r=>H (f x) λy=>H (qp f r) λs=>M (y::s)
def kg(m:Tb bD):Nat->SV->aY V
 |0,x=>match x with
  |.v y=>M y|.own d=>match bh m d with
   |some (.sl k es xs)=>M (kN k es xs)|some (.dp k xs G)=>M (kN k 1 xs)|_=>G
  |.mp d=>match bh m d with
   |some (.mp B)=>M (.fmap B)|_=>G
  |_=>G
 |n+1,x=>match x with
  |.v y=>M y|.own d=>match bh m d with
   |some (.sl k es xs)=>M (kN k es xs)|some (.dp k xs G)=>M (kN k 1 xs)|_=>G
  |.ptr d o=>match bh m d with
   |some (.box cs)=>match qp (kg m n) cs with
    |some xs=>if o<=W xs then M (.fptr (xs.drop o))else G|none=>G
   |_=>G
  |.mp d=>match bh m d with
   |some (.mp B)=>M (.fmap B)|_=>G
  |.clo f a b=>H (qp (kg m n) a) λx=>H (qp (kg m n) b) λy=>M (.clo f x y)|.tup l=>H (qp (kg m n) l) λx=>M (.tup x)|.agg l=>H (qp (kg m n) l) λx=>M (.agg x)|_=>G
def Bg(m:Tb bD):∀(n:Nat),(∀x,shut m n x=kg m n x)/\∀l,dz m n l=qp (kg m n) l:=by
 have w:∀n,(∀x,shut m n x=kg m n x)->∀l,dz m n l=qp (kg m n) l:=by intro n h l;induction l with|nil=>exact JH m n|cons a l u=>rw[GY,h a,u];rfl
 intro n;induction n with|zero=>have z:∀x,shut m 0 x=kg m 0 x:=(by intro x;cases x<;>simp[shut,kg]<;>rfl);grind|succ n u=>have c:∀x,shut m (n+1) x=kg m (n+1) x:=(by intro x;cases x with|ptr d o=>simp[shut,kg,u.2];rfl|clo f a b=>rw[U4,u.2,u.2];rfl|tup l=>rw[Uv,u.2];rfl|agg l=>rw[VS,u.2];rfl|_=>simp[shut,kg]<;>rfl);grind
def yu(S:Sys)(c:cg)(dr:X'):ST->Rd->(St->aY β)->St->aY β
 |_,[],k,st=>k st|fr,o::r,k,st=>(H (Fe dr o.pre st) (gA S c dr fr o.strip)).bind λe?=>yu S c dr (if dr then tW fr o.strip else fr) r k (rJ o.dead e?)
def Ht(dr:X'):∀(l:Rd)(fr:ST)(k:St->aY β)(st:St),yu S c dr fr l k st=H (pO S c dr fr l st) k
 |[],_,_,_=>rfl|o::r,fr,k,st=>by simp[yu,pO];cases(Fe dr o.pre st).bind (gA S c dr fr o.strip)with|none=>rfl|some e?=>exact Ht dr r _ k _
def rH(S:Sys)(c:cg):RC->(St->aY β)->(Nat->St->aY β)->(St->aY β)->St->aY β
 |.skip,n,_,_,st=>n st|.ops l,n,_,_,st=>yu S c U [] l n st|.vI l,n,_,_,st=>yu S c O [] l n st|.seq a b,n,x,r,st=>rH S c a (λst=>rH S c b n x r st) x r st|.cond y a b,n,x,r,st=>match tN S.N st.g y with
  |some (.v (.bool t))=>bg t (rH S c a n x r st) (rH S c b n x r st)|_=>G
 |.block id a,n,x,r,st=>rH S c a n (λk st=>if k=id then n st else x k st) r st|.loop a,n,x,r,st=>H (qC (cT S c a) st) λq=>match q with|(.norm,st)=>n st|(.exit k,st)=>x k st|(.ret,st)=>r st
 |.each g ps a b,n,x,r,st=>H (cT S c (.each g ps a b) st) λq=>match q with|(.norm,st)=>n st|(.exit k,st)=>x k st|(.ret,st)=>r st
 |.exit k,_,x,_,st=>x k st|.ret,_,_,r,st=>r st|.gh g a,n,x,r,st=>H (ghost g st) λst=>rH S c a n x r st|.hg a g,n,x,r,st=>rH S c a (λst=>H (ghost g st) n) x r st
def Ic(n:St->aY β)(x:Nat->St->aY β)(r:St->aY β):Out×St->aY β
 |(.norm,st)=>n st|(.exit k,st)=>x k st|(.ret,st)=>r st
def Gv:∀(d:RC)(n:St->aY β)(x:Nat->St->aY β)(r:St->aY β)(st:St),rH S c d n x r st=H (cT S c d st) (Ic n x r):=by
 intro d
 induction d with
 |skip=>intros;rfl|ops l=>intro n x r st;simp[rH,cT,Ht];cases pO S c U [] l st<;>rfl|vI l=>intro n x r st;simp[rH,cT,Ht];cases pO S c O [] l st<;>rfl|seq a b u w=>intro n x r st;simp[rH,cT,u,w];cases h:cT S c a st with|none=>rfl|some q=>have⟨o,e?⟩:=q;cases o<;>rfl
 |cond y a b u w=>
  intro n x r st;simp[rH,cT,u,w]
  cases tN S.N st.g y with
  |none=>rfl|some v=>cases v with
   |v z=>cases z with
    |bool t=>cases t<;>rfl|_=>rfl
   |_=>rfl
 |block id a B=>intro n x r st;simp[rH,cT,B];cases h:cT S c a st with|none=>rfl|some q=>have⟨o,e?⟩:=q;cases o with|exit k=>simp[Ic];split<;>rfl|_=>rfl
 |loop a B=>intro n x r st;rfl|each g ps a b u w=>intro n x r st;rfl|exit k=>intros;rfl|ret=>intros;rfl|gh g a B=>simp[rH,cT,B];grind|hg a g B=>intro n x r st;simp[rH,cT,B];cases h:cT S c a st with|none=>rfl|some q=>have⟨o,e?⟩:=q;cases o with|norm=>simp[Ic];cases ghost g e?<;>rfl|_=>rfl
section
variable(S c Q)
mutual
def pq:QP->St->aY β
 |[]=>λst=>Q (.norm,st)|.seq b::fs=>λst=>rH S c b (pq fs) (pG fs) (λst=>Q (.ret,st)) st|.blk _::fs=>pq fs|.gst g::fs=>λst=>H (ghost g st) (pq fs)
def pG:QP->Nat->St->aY β
 |[]=>λk st=>Q (.exit k,st)|.seq _::fs=>pG fs|.blk id::fs=>λk st=>if k=id then pq fs st else pG fs k st|.gst _::fs=>pG fs
end
def mj(a:RC)(fs:QP)(st:St):aY β:=rH S c a (pq S c Q fs) (pG S c Q fs) (λst=>Q (.ret,st)) st
end
section
variable{dr:X'}{fr:ST}{d:Nat}{dst:aY Nat}{now:X'}{az:QQ}{st:St}{α:Type}[bB α]
def Rr{p:xI}{m?:R'}{m:aY δ}{v:δ->SV}(B:bW S.N st.g az=M m?)(hi:isSlice p=U)(h:kH S.N st.m p m?=m.bind λx=>M (v x)):
 gA S c dr fr ⟨dst,G,now,.p p,az,[],[]⟩ st=m.bind λx=>M (c8 st dst (v x)):=by
 rw[PI _ _ _ _ _ _ _ hi,B]
 grind
def CE{p:xI}{m?:R'}{v:SV}(B:bW S.N st.g az=M m?)(hi:isSlice p=U)(h:kH S.N st.m p m?=M v):
 gA S c dr fr ⟨dst,G,now,.p p,az,[],[]⟩ st=M (c8 st dst v):=by
 rw[PI _ _ _ _ _ _ _ hi,B]
 grind
def Xd{n:Nat}{s:Sl α}{k:T2}{i:Int}(B:bW S.N st.g az=M [.v (cz s),.v (.int k i)])(D:n=bB.size α):
 gA S c dr fr ⟨dst,G,now,.p (.idxS n),az,[],[]⟩ st=H (idx s i) λx=>M (c8 st dst (.v (.fptr (cells x)))):=
 Rr B Y (by rw[zn,Oo s k i n D];grind)
def ab3{n e:Nat}{s:Sl α}{k:T2}{i:Int}(B:bW S.N st.g az=M [.own e,.v (.int k i)])(D:bh st.m e=M (cG s))(J:n=bB.size α):
 gA S c dr fr ⟨dst,G,now,.p (.idxS n),az,[],[]⟩ st=H (s.iF i) λj=>M (c8 st dst (.el e j 0)):=
 Rr B Y (by rw[OS,D,Yu n e s i J])
def Xz{s:Sl α}(B:bW S.N st.g az=M [.v (cz s)]):gA S c dr fr ⟨dst,G,now,.p .lenSl,az,[],[]⟩ st=M (c8 st dst (.v (.int Z (W s.l)))):=CE B Y (by rw[K7,Mw];rfl)
def abo{e:Nat}{s:Sl α}(B:bW S.N st.g az=M [.own e])(D:bh st.m e=M (cG s)):gA S c dr fr ⟨dst,G,now,.p .lenSl,az,[],[]⟩ st=M (c8 st dst (.v (.int Z (W s.l)))):=CE B Y (by rw[VM,D,YY])
def acA{q:aY KT}{u:aY Nat}{k:T2}{a b:Int}(B:bW S.N st.g az=M [.v (.int k a),.v (.int k b)]):gA S c dr fr ⟨dst,G,now,.p (.bin q u .quo),az,[],[]⟩ st=H (BE k a b) λx=>M (c8 st dst (.v (.int k x))):=Rr B Y (by rw[zn,aan];grind)
def ZF{u:aY Nat}{s:Sl α}(B:bW S.N st.g az=M [.v (cz s),.v .bG]):gA S c dr fr ⟨dst,G,now,.p (.bin (M .slice) u .eql),az,[],[]⟩ st=s.isNil.bind λt=>M (c8 st dst (.v (.bool t))):=Rr B Y (by rw[zn,Va];grind)
def UI{s:U'}{k:T2}{n:Int}(B:bW S.N st.g az=M [.v (.str s),.v (.int k n)]):gA S c dr fr ⟨dst,G,now,.p .idxStr,az,[],[]⟩ st=H (mP s n) λx=>M (c8 st dst (.v (.int .u8 x))):=Rr B Y (by rw[zn,Rq];grind)
def abm{n e i o:Nat}{a:X'}{s:Sl α}{v:α->V}(B:bW S.N st.g az=M [.el e i o])(hd:(!dr||now||eY fr [.el e i o])=O)(D:bh st.m e=M (cG s))(b:∀x:α,H (cut (cells x) o n) (mk a)=M (v x)):
 gA S c dr fr ⟨dst,G,now,.r (.load n a),az,[],[]⟩ st=H (s.get i) λx=>M (c8 st dst (.v (v x))):=by
 rw[zW,B];simp only[ζb,hd,WW,D,RM]
 cases s.get i with
 |none=>rfl|some x=>
  cases d:cut (cells x) o n with
  |none=>grind|some r=>grind
def XS{n e i:Nat}{s:Sl α}{x:V}{a:α}(B:bW S.N st.g az=M [.el e i 0,.v x])(hd:(!dr||now)=O)(D:bh st.m e=M (cG s))(J:x.cells=cells a)(T:n=bB.size α):
 gA S c dr fr ⟨dst,G,now,.l (.store n),az,[],[]⟩ st=H (s.put i a) λg=>M (c8 {st with m:=bE st.m e (cG g)} dst (.v .undef)):=by
 rw[xm,B];simp[hd,QO,D];rw[Q1 st.g st.pin st.want st.more st.yid e i n x a J T s]
 grind
def aah{n:Nat}{z:α}{zero:So}{i:Int}(B:bW S.N st.g az=M [.v (.int Z i),.v (.int Z i)])(D:zero=cells z)(J:n=bB.size α)(T:st.new d=O):
 gA S c dr fr ⟨M d,G,now,.a (.makeSl n zero),az,[],[]⟩ st=H (nC i z) λs=>M {st with g:=bE st.g d (.own d),m:=bE st.m d (cG s)}:=by
 rw[yO,B];simp[T];rw[acB z i d n zero D J]
 grind
def acF{n e u:Nat}{s:Sl α}{x:α}(J:bW S.N st.g az=M [.own e,.own u])(hd:(!dr||now)=O)(T:bh st.m e=M (cG s))(a:bh st.m u=M (cG (.row [x])))(B:n=bB.size α)(h:St.new {st with m:=dH e st.m} d=O):
 gA S c dr fr ⟨M d,G,now,.l (.append n),az,[],[]⟩ st=H (ec s x) λD=>M {st with g:=bE st.g d (.own d),m:=bE (dH e st.m) d (cG D)}:=by
 rw[xm,J];simp only[ζb,hd,L'];rw[Aj (xs:=rows s.l) (ys:=rows [x]) (by rw[D5,T,DJ n s B]) (by rw[D5,a,DJ n (.row [x]) B];rfl)]
 have:=Ta (m:=st.m) st.g st.pin st.want st.more st.yid d n e s.l x B;rw[this];have w:ec (.row s.l) x=ec s x:=by cases s<;>rfl
 rw[w]
 cases ec s x with
 |none=>rfl|some D=>simp;rw[J0 h];rfl
def abt{n u:Nat}{x:α}{v:V}(a:v=.bG\/v=.dN)(J:bW S.N st.g az=M [.v v,.own u])(hd:(!dr||now)=O)(b:bh st.m u=M (cG (.row [x])))(B:n=bB.size α)(D:st.new d=O):
 gA S c dr fr ⟨M d,G,now,.l (.append n),az,[],[]⟩ st=M {st with g:=bE st.g d (.own d),m:=bE st.m d (cG (.row [x]))}:=by
 rw[xm,J];simp only[ζb,hd,L'];have w:jB st.m n (.own u)=M (rows [x]):=by rw[D5,b,DJ n (.row [x]) B];rfl
 rcases a with rfl|rfl
 .rw[Aj (XJ n) w,Tn (m:=st.m) st.g st.pin st.want st.more st.yid d n x B];rw[J0 D];rfl
 rw[Aj (Za n) w,SE (m:=st.m) st.g st.pin st.want st.more st.yid d n x B];rw[J0 D];rfl
def abP{f:Y'}{m? args:R'}{cs:So}{m:aY δ}{E:δ->So}(a:kM c f cs=m.bind λr=>M (E r))(b:S.E.keep f=U)(D:bW S.N st.g az=M m?)(J:mc m?=M (f,args))
 (B:qp (kg st.m 8) args=M cs)(T:((!dr||now)||e_ st.m fr args)=O)(d:∀r,((result (E r)).scalar||(dw args).isSome)=O):
 gA S c dr fr ⟨dst,G,now,.c,az,[],[]⟩ st=m.bind λr=>M (c8 st dst (.v (result (E r)))):=by
 rw[vM dr fr dst now az st m? f args D J,YN _ _ _ _ _ _ _ b,(Bg st.m 8).2,B];simp[T,a]
 cases m with
 |none=>rfl|some r=>
  simp[Rf]
  grind
end
end
section
variable{S:Sys}{c:cg}{β γ:Type}{Q:Out×St->aY β}{L:aY β}{e:γ->aY β}
def qa(a:RC)(st:St):mj S c Q a [] st=H (cT S c a st) Q:=by unfold mj;rw[Gv];congr 1;funext q;have⟨o,st⟩:=q;cases o<;>rfl
def DW(a:RC)(st:St):cT S c a st=mj S c M a [] st:=by rw[qa];cases cT S c a st<;>rfl
def sC(rs:Pi):Out×St->aY So
 |(.exit _,_)=>G|(_,st)=>H (kS st rs) (qp (kg st.m 8))
def ZB(rs:Pi):MD rs=sC rs:=by funext q;have⟨o,st⟩:=q;cases o;simp only[MD,sC];congr 1;funext l;exact(Bg st.m 8).2 l;rfl;simp only[MD,sC];congr 1;funext l;exact(Bg st.m 8).2 l
def Yh{S:Sys}{T:rW}{f:Y'}{rf:RF}(B:T f=M rf)(az:So)(D:W az<=rf.na):kM (dB S T) f az=mj S (dB S T) (sC rf.rs) rf.body [] (start (az.map .v) []):=by rw[UZ B az D,<-LV,qa,ZB]
end
def mw{α σ ε ρ:Type}(step:α->σ->aY (Fw σ ε ρ)):aX α->σ->aY (Fw σ ε ρ)
 |[],s=>M (.n s)|x::xs,s=>H (step x s) λw=>match w with
  |.n B=>mw step xs B|.x e=>M (.x e)|.r b=>M (.r b)
def Fw.sN{ν ε ρ γ:Type}(fn:ν->γ)(B:ε->γ)(fr:ρ->γ):Fw ν ε ρ->γ
 |.n a=>fn a|.x e=>B e|.r b=>fr b
def Fw.zp{ν ε ρ:Type}(B:ν->Tb bD)(eε:ε->Nat×Tb bD)(eρ:ρ->Tb bD):Fw ν ε ρ->Out×Tb bD
 |.n a=>(.norm,B a)|.x e=>(.exit (eε e).1,(eε e).2)|.r b=>(.ret,eρ b)
def zp(q:Out×St):aY (Out×Tb bD):=M (q.1,q.2.m)
section
variable{S:Sys}{c:cg}{β γ:Type}{Q:Out×St->aY β}{L:aY β}{e:γ->aY β}
def BW(S:Sys)(c:cg)(b:RC):Out×St->aY (Out×Tb bD)
 |(.norm,st)=>mj S c zp b [] st|_=>G
def Qz(ps:ST)(a b:RC)(st:St)(x:So)(m:Tb bD)(B:W x=W ps):
 jV ps (cT S c a) (cT S c b) st x m=mj S c (BW S c b) a [] ⟨Al st.g ps (x.map .v),m,st.pin++sB st.g,[],O,0⟩:=by
 unfold jV;rw[J0 B,qa]
 cases cT S c a ⟨Al st.g ps (x.map .v),m,st.pin++sB st.g,[],O,0⟩with
 |none=>rfl|some q=>
  have⟨o,u⟩:=q
  cases o with
  |norm=>simp only[ζb,BW];rw[qa];cases cT S c b u<;>rfl|_=>rfl
end
def Le{α:Type}(a b:aY α):Prop:=∀r,a=M r->b=M r
section
variable{α:Type}
def Le.refl(a:aY α):Le a a:=λ_ h=>h
def Le.of_eq{a b:aY α}(h:b=a):Le a b:=λ_ u=>h.trans u
def Le.trans{a b d:aY α}(c:Le a b)(B:Le b d):Le a d:=λr h=>B r (c r h)
def Le.none(b:aY α):Le (G:aY α) b:=λr h=>by cases h
def Le.bind{β:Type}{a b:aY α}{f g:α->aY β}(h:Le a b)(B:∀x,Le (f x) (g x)):Le (a.bind f) (b.bind g):=λr c=>by have⟨x,d,u⟩:=ζg.1 c;rw[h x d];exact B x r u
end
section
variable{S:Sys}{c:cg}{β γ δ:Type}{Q:Out×St->aY β}{L:aY β}{e:γ->aY β}
def L5{dr:X'}{fr:ST}{dst:aY Nat}{now:X'}{az:QQ}{st:St}{f:Y'}{m? args:R'}{cs:So}{m:aY δ}{E:δ->So}(a:Le (m.bind λr=>M (E r)) (kM c f cs))(b:S.E.keep f=U)(D:bW S.N st.g az=M m?)(J:mc m?=M (f,args))
 (B:qp (kg st.m 8) args=M cs)(T:((!dr||now)||e_ st.m fr args)=O)(d:∀r,((result (E r)).scalar||(dw args).isSome)=O):
 Le (m.bind λr=>M (c8 st dst (.v (result (E r))))) (gA S c dr fr ⟨dst,G,now,.c,az,[],[]⟩ st):=by
 intro q w;have⟨r,e,z⟩:=ζg.1 w;have u:kM c f cs=H (M r) λr=>M (E r):=a _ (by rw[e];rfl)
 rw[abP (m:=M r) u b D J B T d];exact z
def U3{σ ε ρ:Type}{f:St->aY (Out×St)}{step:σ->aY (Fw σ ε ρ)}{eσ:σ->St}{eε:ε->Nat×St}{eρ:ρ->St}(h:∀s,Le (H (step s) λw=>M (Fw.out eσ eε eρ w)) (f (eσ s)))(s:σ):
 Le (H (bM step s) λw=>M (Fw.out (λe=>Empty.elim e) eε eρ w)) (qC f (eσ s)):=by
 have key:∀k s r,nK step k s=M r->kI f k (eσ s)=M (Fw.out (λe=>Empty.elim e) eε eρ r):=by intro k;induction k with|zero=>intro s r h;simp[nK]at h|succ k C=>intro s r u;simp only[nK]at u;cases z:step s with|none=>rw[z]at u;cases u|some w=>rw[z]at u;have B:=h s (Fw.out eσ eε eρ w) (by rw[z];rfl);simp only[kI,B];cases w with|n a=>exact C a r u|x e=>cases u;rfl|r b=>cases u;rfl
 intro r c;have⟨w,d,B⟩:=ζg.1 c;have⟨k,g⟩:=sx.1 d;cases B;exact oU.2 ⟨k,key k s w g⟩
def ab8{σ ε ρ:Type}{a:RC}{fs:QP}{step:σ->aY (Fw σ ε ρ)}{eσ:σ->St}{eε:ε->Nat×St}{eρ:ρ->St}{s:σ}{B:ε->aY γ}{fr:ρ->aY γ}
 (D:L=mj S c Q (.loop a) fs (eσ s))(h:∀s,Le ((step s).bind λw=>M (Fw.out eσ eε eρ w)) (mj S c M a [] (eσ s)))
 (J:∀x,Le ((B x).bind e) (pG S c Q fs (eε x).1 (eε x).2))(d:∀b,Le ((fr b).bind e) (Q (.ret,eρ b))):Le (((bM step s).bind (Fw.elim B fr)).bind e) L:=by
 subst D;have g:mj S c Q (.loop a) fs (eσ s)=(qC (cT S c a) (eσ s)).bind (Ic (pq S c Q fs) (pG S c Q fs) (λst=>Q (.ret,st))):=by unfold mj;rw[Gv];rfl
 rw[g];have u:=U3 (step:=step) (f:=cT S c a) (eσ:=eσ) (eε:=eε) (eρ:=eρ) (λs=>by rw[DW];exact h s) s
 cases z:bM step s with
 |none=>exact Le.none _|some w=>
  have C:=u _ (by rw[z];rfl)
  rw[C]
  cases w with
  |n a=>cases a|x a=>exact J a|r a=>exact d a
def Lf{α σ ε ρ:Type}{f:So->Tb bD->aY (Out×Tb bD)}{step:α->σ->aY (Fw σ ε ρ)}{eI:α->So}{eσ:σ->Tb bD}{eε:ε->Nat×Tb bD}{eρ:ρ->Tb bD}
 (h:∀x s,Le (H (step x s) λw=>M (Fw.zp eσ eε eρ w)) (f (eI x) (eσ s))):∀(xs:aX α)(s:σ),Le (H (mw step xs s) λw=>M (Fw.zp eσ eε eρ w)) (tg f (xs.map eI) (eσ s))
 |[],s=>λr a=>a|x::xs,s=>by simp only[P?,tg,mw];cases B:step x s with|none=>exact Le.none _|some w=>have D:=h x s (Fw.zp eσ eε eρ w) (by rw[B];rfl);rw[D];cases w with|n u=>simp only[ζb,Fw.zp];exact Lf h xs u|x e=>exact Le.refl _|r b=>exact Le.refl _
def acR{α σ ε ρ:Type}{g:Arg}{ps:ST}{a b:RC}{fs:QP}{f:Y'}{x y:So}{d:aX α}{eI:α->So}{step:α->σ->aY (Fw σ ε ρ)}{eσ:σ->Tb bD}{eε:ε->Nat×Tb bD}{eρ:ρ->Tb bD}{i:Tb SV}{s:σ}
 {fn:σ->aY γ}{B:ε->aY γ}{fr:ρ->aY γ}
 (D:L=mj S c Q (.each g ps a b) fs ⟨i,eσ s,[],[],O,0⟩)(j:tN S.N i g=M (.v (.clo f x y)))(hi:S.items f x y=M (d.map eI))(J:∀x,(eI x).length=ps.length)
 (h:∀x s,Le ((step x s).bind λw=>M (Fw.zp eσ eε eρ w)) (mj S c (BW S c b) a [] ⟨Al i ps ((eI x).map .v),eσ s,sB i,[],O,0⟩))
 (T:∀s,Le ((fn s).bind e) (pq S c Q fs ⟨i,eσ s,[],[],O,0⟩))
 (o:∀x,Le ((B x).bind e) (pG S c Q fs (eε x).1 ⟨i,(eε x).2,[],[],O,0⟩))(k:∀b,Le ((fr b).bind e) (Q (.ret,⟨i,eρ b,[],[],O,0⟩))):
 Le (((mw step d s).bind (Fw.sN fn B fr)).bind e) L:=by
 subst D;have l:mj S c Q (.each g ps a b) fs ⟨i,eσ s,[],[],O,0⟩=(cT S c (.each g ps a b) ⟨i,eσ s,[],[],O,0⟩).bind (Ic (pq S c Q fs) (pG S c Q fs) (λst=>Q (.ret,st))):=by unfold mj;rw[Gv]
 rw[l];simp only[cT,j,hi];have u:=Lf (step:=step) (f:=jV ps (cT S c a) (cT S c b) ⟨i,eσ s,[],[],O,0⟩) (eI:=eI) (eσ:=eσ) (eε:=eε) (eρ:=eρ) (λx s=>by rw[Qz _ _ _ _ _ _ (J x)];exact h x s) d s
 cases z:mw step d s with
 |none=>exact Le.none _|some w=>
  have C:=u _ (by rw[z];rfl)
  rw[C]
  cases w with
  |n a=>exact T a|x a=>exact o a|r a=>exact k a
end
inductive Fo where
 |rc(c:RC)|ops(dr:Bool)(fr:List Nat)(l:List RO)|nx|ex(k:Nat)|rt
abbrev bF(g:Tb SV)(m:Tb bD):St:=⟨g,m,[],[],O,0⟩
section
variable(S:Sys)(c:cg){β:Type}(Q:Out×St->aY β)
def rn:Fo->QP->St->aY β
 |.rc a,fs,st=>mj S c Q a fs st|.ops dr fr l,fs,st=>yu S c dr fr l (pq S c Q fs) st|.nx,fs,st=>pq S c Q fs st|.ex k,fs,st=>pG S c Q fs k st|.rt,_,st=>Q (.ret,st)
def yT:Fo->QP->St->aY (Fo×QP×St)
 |.rc .skip,fs,st=>M (.nx,fs,st)|.rc (.ops l),fs,st=>M (.ops U [] l,fs,st)|.rc (.vI l),fs,st=>M (.ops O [] l,fs,st)|.rc (.seq a b),fs,st=>M (.rc a,.seq b::fs,st)|.rc (.cond y a b),fs,st=>match tN S.N st.g y with
  |some (.v (.bool O))=>M (.rc a,fs,st)|some (.v (.bool U))=>M (.rc b,fs,st)|_=>G
 |.rc (.block id a),fs,st=>M (.rc a,.blk id::fs,st)|.rc (.exit k),fs,st=>M (.ex k,fs,st)|.rc .ret,fs,st=>M (.rt,fs,st)|.rc (.gh g a),fs,st=>match ghost g st with
  |some e?=>M (.rc a,fs,e?)|none=>G
 |.rc (.hg a g),fs,st=>M (.rc a,.gst g::fs,st)|.rc (.loop _),_,_=>G|.rc (.each ..),_,_=>G|.ops _ _ [],fs,st=>M (.nx,fs,st)|.ops dr fr (⟨d,gd,now,k,az,dd,[]⟩::r),fs,st=>match gA S c dr fr ⟨d,gd,now,k,az,[],[]⟩ st with
  |some e?=>M (.ops dr (if dr then tW fr ⟨d,gd,now,k,az,[],[]⟩else fr) r,fs,rJ dd e?)|none=>G
 |.ops dr fr (⟨d,gd,now,k,az,dd,x::xs⟩::r),fs,st=>if dr&& !(CK x&&xs.all CK)then G else match ghost x st with
  |some e?=>M (.ops dr fr (⟨d,gd,now,k,az,dd,xs⟩::r),fs,e?)|none=>G
 |.nx,.seq b::fs,st=>M (.rc b,fs,st)|.nx,.blk _::fs,st=>M (.nx,fs,st)|.nx,.gst g::fs,st=>match ghost g st with
  |some e?=>M (.nx,fs,e?)|none=>G
 |.nx,[],_=>G|.ex k,.seq _::fs,st=>M (.ex k,fs,st)|.ex k,.blk id::fs,st=>M (if k=id then .nx else .ex k,fs,st)|.ex k,.gst _::fs,st=>M (.ex k,fs,st)|.ex _,[],_=>G|.rt,_,_=>G
def gW:Nat->Fo->QP->St->aY (Fo×QP×St)
 |0,fo,fs,st=>M (fo,fs,st)|n+1,fo,fs,st=>match yT S c fo fs st with
  |some (fo',n?,e?)=>gW n fo' n? e?|none=>G
end
section
variable{S:Sys}{c:cg}{β γ δ:Type}{Q:Out×St->aY β}{e:γ->aY β}
def Kx{fo fo':Fo}{fs n?:QP}{st e?:St}(h:yT S c fo fs st=M (fo',n?,e?)):rn S c Q fo fs st=rn S c Q fo' n? e?:=by
 cases fo with
 |rc a=>cases a with|cond y a b=>simp only[yT]at h;split at h;(next u=>cases h;simp only[rn,mj,rH,u,bg,L']);(next u=>cases h;simp only[rn,mj,rH,u,bg];rfl);cases h|gh g a=>simp only[yT]at h;split at h;(next u=>cases h;simp only[rn,mj,rH,u,ζb]);cases h|loop a=>cases h|each g ps a b=>cases h|seq a b=>cases h;simp only[rn,mj,rH,pq,pG]|block id a=>cases h;simp only[rn,mj,rH,pq,pG]|hg a g=>cases h;simp only[rn,mj,rH,pq,pG]|_=>cases h;simp only[rn,mj,rH]
 |ops dr fr l=>cases l with|nil=>cases h;simp only[rn,yu]|cons o r=>have⟨d,gd,now,k,az,dd,pre⟩:=o;cases pre with|nil=>simp only[yT]at h;split at h;(next u=>cases h;simp only[rn,yu,Fq,RO.strip,ζb,u]);cases h|cons x w=>simp only[yT]at h;split at h;cases h;rename_i hd;split at h;rename_i u;cases h;(cases dr with|true=>simp only[Bool.true_and,Bool.not_eq_true',Bool.not_eq_false,ζh]at hd;simp only[rn,yu,RO.strip,Fe,qN,L',List.all_cons,hd.1,hd.2,Bool.and_self,u,ζb]|false=>simp only[rn,yu,RO.strip,Fe,qN,Bool.false_eq_true,M',u,ζb]);cases h
 |nx=>cases fs with|nil=>cases h|cons f fs=>cases f with|seq b=>cases h;simp only[rn,mj,pq]|blk id=>cases h;simp only[rn,pq]|gst g=>simp only[yT]at h;split at h;(next u=>cases h;simp only[rn,pq,u,ζb]);cases h
 |ex k=>cases fs with|nil=>cases h|cons f fs=>cases f with|seq b=>cases h;simp only[rn,pG]|blk id=>cases h;simp only[rn,pG];by_cases e:k=id;simp only[J0 e,rn];simp only[K' e,rn]|gst g=>cases h;simp only[rn,pG]
 |rt=>cases h
def qS:∀{n:Nat}{fo fo':Fo}{fs n?:QP}{st e?:St},gW S c n fo fs st=M (fo',n?,e?)->rn S c Q fo fs st=rn S c Q fo' n? e?
 |0,fo,fo',fs,n?,st,e?,h=>by cases h;rfl|n+1,fo,fo',fs,n?,st,e?,h=>by simp only[gW]at h;split at h;(next a b d B=>rw[Kx B];exact qS h);cases h
def Ca{n:Nat}{fo fo':Fo}{fs n?:QP}{st e?:St}{m:aY β}(h:gW S c n fo fs st=M (fo',n?,e?))(B:Le m (rn S c Q fo' n? e?)):Le m (rn S c Q fo fs st):=by rw[qS h];exact B
def adQ{n:Nat}{fo fo':Fo}{fs n?:QP}{st e?:St}{r:γ}(h:gW S c n fo fs st=M (fo',n?,e?))(B:rn S c Q fo' n? e?=e r):Le (H (M r) e) (rn S c Q fo fs st):=by rw[qS h];exact Le.of_eq B
def Xu{m:aY δ}{f:δ->aY γ}{L:aY β}(k:δ->aY β)(B:Le (m.bind k) L)(b:∀r,Le (H (f r) e) (k r)):Le (H (m.bind f) e) L:=by intro r a;cases m with|none=>cases a|some x=>exact B r (b x r a)
def adC{n:Nat}{fo:Fo}{fs n?:QP}{st0:St}{dr:X'}{q l:Rd}{fr:ST}{st:St}{d:aY Nat}{gd:aY (Nat×X')}{now:X'}{k:K}{az:QQ}{dd:ST}{m:aY δ}{g:δ->St}{f:δ->aY γ}
 (B:gW S c n fo fs st0=M (.ops dr fr q,n?,st))(D:q=⟨d,gd,now,k,az,dd,[]⟩::l)(a:wanted st.g gd=M O)
 (J:Le (m.bind λx=>M (g x)) (gA S c dr fr ⟨d,G,now,k,az,[],[]⟩ st))
 (h:∀x,m=M x->Le (H (f x) e) (rn S c Q (.ops dr (if dr then tW fr ⟨d,gd,now,k,az,[],[]⟩else fr) l) n? (rJ dd (g x)))):Le (H (m.bind f) e) (rn S c Q fo fs st0):=by
 rw[qS B];subst D;simp only[rn,yu,RO.strip,Fq,ζb];rw[RR a]
 cases m with
 |none=>exact Le.none _|some x=>rw[J (g x) Y];exact h x Y
def Wt{n:Nat}{fo:Fo}{fs n?:QP}{st0:St}{dr:X'}{q l:Rd}{fr:ST}{st e?:St}{d:aY Nat}{gd:aY (Nat×X')}{now:X'}{k:K}{az:QQ}{dd:ST}{m:aY β}
 (B:gW S c n fo fs st0=M (.ops dr fr q,n?,st))(D:q=⟨d,gd,now,k,az,dd,[]⟩::l)(a:wanted st.g gd=M O)
 (J:gA S c dr fr ⟨d,G,now,k,az,[],[]⟩ st=M e?)
 (h:Le m (rn S c Q (.ops dr (if dr then tW fr ⟨d,gd,now,k,az,[],[]⟩else fr) l) n? (rJ dd e?))):Le m (rn S c Q fo fs st0):=by
 rw[qS B];subst D;simp only[rn,yu,RO.strip,Fq,ζb];rw[RR a,J];exact h
def S_{n:Nat}{fo:Fo}{B:QP}{st:St}{σ ε ρ:Type}{a:RC}{fs:QP}{step:σ->aY (Fw σ ε ρ)}{eσ:σ->St}{eε:ε->Nat×St}{eρ:ρ->St}{s:σ}{D:ε->aY γ}{fr:ρ->aY γ}
 (J:gW S c n fo B st=M (.rc (.loop a),fs,eσ s))(h:∀s,Le ((step s).bind λw=>M (Fw.out eσ eε eρ w)) (rn S c M (.rc a) [] (eσ s)))
 (T:∀x,Le ((D x).bind e) (rn S c Q (.ex (eε x).1) fs (eε x).2))(d:∀b,Le ((fr b).bind e) (Q (.ret,eρ b))):Le (((bM step s).bind (Fw.elim D fr)).bind e) (rn S c Q fo B st):=by
 rw[qS J];exact ab8 (L:=rn S c Q (.rc (.loop a)) fs (eσ s)) rfl h T d
def aas{n:Nat}{fo:Fo}{B:QP}{st:St}{α σ ε ρ:Type}{g:Arg}{ps:ST}{a b:RC}{fs:QP}{f:Y'}{x y:So}{d:aX α}{eI:α->So}{step:α->σ->aY (Fw σ ε ρ)}{eσ:σ->Tb bD}{eε:ε->Nat×Tb bD}{eρ:ρ->Tb bD}{i:Tb SV}{s:σ}
 {fn:σ->aY γ}{D:ε->aY γ}{fr:ρ->aY γ}
 (J:gW S c n fo B st=M (.rc (.each g ps a b),fs,bF i (eσ s)))(j:tN S.N i g=M (.v (.clo f x y)))(hi:S.items f x y=M (d.map eI))(T:∀x,(eI x).length=ps.length)
 (h:∀x s,Le ((step x s).bind λw=>M (Fw.zp eσ eε eρ w)) (rn S c (BW S c b) (.rc a) [] ⟨Al i ps ((eI x).map .v),eσ s,sB i,[],O,0⟩))
 (o:∀s,Le ((fn s).bind e) (rn S c Q .nx fs (bF i (eσ s))))
 (W:∀x,Le ((D x).bind e) (rn S c Q (.ex (eε x).1) fs (bF i (eε x).2)))(k:∀b,Le ((fr b).bind e) (Q (.ret,bF i (eρ b)))):
 Le (((mw step d s).bind (Fw.sN fn D fr)).bind e) (rn S c Q fo B st):=by
 rw[qS J];exact acR (L:=rn S c Q (.rc (.each g ps a b)) fs (bF i (eσ s))) rfl j hi T h o W k
def aa5{b:RC}{st e?:St}{m:aY (Out×Tb bD)}{fs:QP}{n:Nat}{fo:Fo}(h:gW S c n fo fs st=M (.nx,[],e?))(B:Le m (rn S c zp (.rc b) [] e?)):Le m (rn S c (BW S c b) fo fs st):=by rw[qS h];exact B
def ab1{α:Type}{n:Nat}{fo fo':Fo}{fs n?:QP}{st:St}{A:aY α->St}{o:aY α}{f:α->aY γ}(h:gW S c n fo fs st=M (fo',n?,A o))
 (B:∀x,o=M x->Le (H (f x) e) (rn S c Q fo' n? (A (M x)))):Le (H (o.bind f) e) (rn S c Q fo fs st):=by
 rw[qS h]
 cases o with
 |none=>exact Le.none _|some x=>exact B x Y
def adD{T:rW}{f:Y'}{rf:RF}{az:So}{m:aY So}(B:T f=M rf)(D:W az<=rf.na)(h:Le m (rn S (dB S T) (sC rf.rs) (.rc rf.body) [] (start (az.map .v) []))):Le m (kM (dB S T) f az):=by rw[Yh B az D];exact h
end
section
variable{α:Type}[bB α]
abbrev cv(x:α):SV:=.v (enc x)
abbrev cp(x:α):SV:=.v (.fptr (cells x))
abbrev bx(x:α):bD:=.box ((cells x).map .v)
end
structure iG(S:Sys)(c:cg){α δ:Type}(fn:FuncId)(A:α->List V)(E:δ->List V)(p:α->Option δ)(sc:Bool):Prop where
 k:S.E.keep fn=false
 h:∀z,Le ((p z).bind λr=>some (E r)) (kM c fn (A z))
 s:sc=true->∀r,(result (E r)).scalar=true
section
variable{S:Sys}{c:cg}{β γ δ α:Type}{Q:Out×St->aY β}{e:γ->aY β}{fo:Fo}{fs:QP}{st0:St}{l:Rd}{d:aY Nat}{gd:aY (Nat×X')}{now:X'}{az:QQ}{dd:ST}
abbrev uT(S:Sys)(c:cg)(Q:Out×St->aY β)(dr:Bool)(fr:aX Nat)(d:aY Nat)(k:K)(l:aX RO)(fs:aX Fm)(dd:aX Nat)(st:St):aY β:=rn S c Q (.ops dr (if dr then(match k with|.p _|.r _=>fr|_=>match d with|some d=>d::fr|none=>fr)else fr) l) fs (rJ dd st)
def I7(fr:ST)(k:K):tW fr ⟨d,gd,now,k,az,[],[]⟩=(match k with|.p _|.r _=>fr|_=>match d with|some d=>d::fr|none=>fr):=by cases k<;>cases d<;>rfl
def EN{n:Nat}{dr:X'}{fr:ST}{q:Rd}{n?:QP}{st:St}{k:K}{m:aY δ}{g:δ->St}{f:δ->aY γ}
 (B:gW S c n fo fs st0=M (.ops dr fr q,n?,st))(D:q=⟨d,gd,now,k,az,dd,[]⟩::l)(a:wanted st.g gd=M O)
 (J:Le (m.bind λx=>M (g x)) (gA S c dr fr ⟨d,G,now,k,az,[],[]⟩ st))
 (h:∀x,m=M x->Le (H (f x) e) (uT S c Q dr fr d k l n? dd (g x))):Le (H (m.bind f) e) (rn S c Q fo fs st0):=
 adC B D a J (λx u=>by rw[I7];grind)
def sW{n:Nat}{dr:X'}{fr:ST}{q:Rd}{n?:QP}{st e?:St}{k:K}{m:aY β}
 (B:gW S c n fo fs st0=M (.ops dr fr q,n?,st))(D:q=⟨d,gd,now,k,az,dd,[]⟩::l)(a:wanted st.g gd=M O)
 (J:gA S c dr fr ⟨d,G,now,k,az,[],[]⟩ st=M e?)(h:Le m (uT S c Q dr fr d k l n? dd e?)):Le m (rn S c Q fo fs st0):=
 Wt B D a J (by rw[I7];omega)
section
variable[bB α]
def Vr(n:Nat)(dr:X')(fr:ST)(q:Rd)(n?:QP)(st:St)(k:T2){sz:Nat}{s:Sl α}{i:Int}{f:α->aY γ}(D:q=⟨d,gd,now,.p (.idxS sz),az,dd,[]⟩::l)
 (B:(gW S c n fo fs st0,wanted st.g gd,bW S.N st.g az,sz)=(M (.ops dr fr q,n?,st),M O,M [.v (cz s),.v (.int k i)],bB.size α))
 (h:∀x,idx s i=M x->Le ((f x).bind e) (uT S c Q dr fr d (.p (.idxS sz)) l n? dd (c8 st d (cp x)))):Le (((idx s i).bind f).bind e) (rn S c Q fo fs st0):=by
 simp at B;exact EN B.1 D B.2.1 (Le.of_eq (Xd B.2.2.1 B.2.2.2)) h
def abK(n:Nat)(dr:X')(fr:ST)(q:Rd)(n?:QP)(st:St)(s:Sl α){m:aY β}(D:q=⟨d,gd,now,.p .lenSl,az,dd,[]⟩::l)
 (B:(gW S c n fo fs st0,wanted st.g gd,bW S.N st.g az)=(M (.ops dr fr q,n?,st),M O,M [.v (cz s)]))
 (h:Le m (uT S c Q dr fr d (.p .lenSl) l n? dd (c8 st d (.v (.int Z (W s.l)))))):Le m (rn S c Q fo fs st0):=by
 simp at B;exact sW B.1 D B.2.1 (Xz B.2.2) h
end
section
variable{q:Rd}{n?:QP}
end
def LI(m:Tb bD)(n:Nat)(l:So):qp (kg m n) (l.map .v)=M l:=by rw[<-(Bg m n).2,rY]
variable{A:α->So}{E:δ->So}{p:α->aY δ}{fn:Y'}{sc:X'}
end
abbrev iv(n:Int):SV:=.v (.int Z n)
abbrev bv(b:Bool):SV:=.v (.bool b)
abbrev len{α:Type}(s:Sl α):Int:=((List.length (Sl.l s):Nat):Int)
abbrev o1(d:Nat)(a:Arg)(dd:aX Nat):RO:=⟨M d,G,U,.p .id,[a],dd,[]⟩
abbrev o2(d:Nat)(k:K)(az:aX Arg)(dd:aX Nat):RO:=⟨M d,G,U,k,az,dd,[]⟩
abbrev o3(d s:Nat)(b:Bool)(k:K)(az:aX Arg)(dd:aX Nat):RO:=⟨M d,M (s,b),U,k,az,dd,[]⟩
def N_(a b:aZ):X':=[a.proc,a.index]==[b.proc,b.index]
section
variable{α:Type}[bB α]
def x8(h:bB.agg α=U)(a:α):cells a=[enc a]:=by
 have u:W (cells a)=1:=by rw[show(cells a).length=_ from bB.len a,bB.plain h]
 unfold enc;rw[K' (by simp[h])];match b:cells a,u with|[x],_=>rfl
def AZ(h:bB.agg α=O)(a:α):enc a=.agg (cells a):=by unfold enc;grind
def iB(a:α):V.good (enc a)=O:=by have h:V.cN (cells a)=O:=bB.good a;cases u:bB.agg α with|true=>rw[AZ u];exact h|false=>rw[x8 u]at h;simp[V.cN]at h;omega
def jY(s:Sl α):V.one (enc s)=O:=Iq s
def VQ(s:α)(h:bB.agg α=U):V.one (enc s)=O:=by have:=bB.one s;rw[show bB.cells s=cells s from Y,x8 h]at this;grind
end
instance{α:Type}[bB α]:bB (aY α)where
 cells o:=[match o with|none=>.jg|some x=>.fptr (cells x)]
 agg:=U
 size:=1
 len _:=rfl
 good o:=by cases o with|none=>rfl|some x=>simp only[V.cN,V.good,Bool.and_true];exact bB.good x
 one o:=by cases o<;>rfl
 plain _:=rfl
structure U8 where
 v:Int
 deriving Inhabited,DecidableEq
instance:bB U8 where
 cells n:=[.int .u8 n.v]
 agg:=U
 size:=1
 len _:=rfl
 good _:=rfl
 one _:=rfl
 plain _:=rfl
structure U64 where
 v:Int
 deriving Inhabited,DecidableEq
instance:bB U64 where
 cells n:=[.int .u64 n.v]
 agg:=U
 size:=1
 len _:=rfl
 good _:=rfl
 one _:=rfl
 plain _:=rfl
structure U32 where
 v:Int
 deriving Inhabited,DecidableEq
instance:bB U32 where
 cells n:=[.int .u32 n.v]
 agg:=U
 size:=1
 len _:=rfl
 good _:=rfl
 one _:=rfl
 plain _:=rfl
structure I32 where
 v:Int
 deriving Inhabited,DecidableEq
instance:bB I32 where
 cells n:=[.int .i32 n.v]
 agg:=U
 size:=1
 len _:=rfl
 good _:=rfl
 one _:=rfl
 plain _:=rfl
structure me(S:Sys)(c:cg){α δ:Type}(g:FuncId)(w e:List V)(A:α->List V)(R:δ->List V)(p:α->Option δ)(b:Bool):Prop where
 f:iG S c g (λz=>w++A z++e) R p b
section
variable{S:Sys}{c:cg}{β γ δ α:Type}{Q:Out×St->aY β}{e:γ->aY β}{fo:Fo}{fs:QP}{st0:St}{l:Rd}{d:aY Nat}{gd:aY (Nat×X')}{now:X'}{az:QQ}{dd:ST}
def f_{α:Type}[bB α](a:α):V.cells (enc a)=cells a:=by cases u:bB.agg α with|true=>rw[AZ u];rfl|false=>have b:=VQ a u;rw[x8 u];cases h:enc a<;>first|rfl|(rw[h]at b;cases b)
def uY{α:Type}[bB α](a:α):(cells a).all V.one=O:=bB.one a
def gI{α:Type}[bB α](a:α):W (cells a)=bB.size α:=bB.len a
def Ast[bB α](n:Nat)(dr:X')(fr:ST)(q:Rd)(n?:QP)(st:St)(u o:Nat)(x:α)(cs B:R'){sz:Nat}{m:aY β}(J:q=⟨d,gd,now,.l (.store sz),az,dd,[]⟩::l)
 (D:(gW S c n fo fs st0,wanted st.g gd,bW S.N st.g az,bh st.m u,(!dr||now),sz,ble (o+sz) (W cs),cs.take o++(cells x).map .v++cs.drop (o+sz))=(M (.ops dr fr q,n?,st),M O,M [.ptr u o,cv x],M (.box cs),O,bB.size α,O,B))
 (h:Le m (uT S c Q dr fr d (.l (.store sz)) l n? dd (c8 {st with m:=bE st.m u (.box B)} d (.v .undef)))):Le m (rn S c Q fo fs st0):=by
 simp only[ζc]at D;have⟨a,w,z,C,g,I,L,i⟩:=D;refine sW a J w ?_ h;rw[xm,z];subst I;have T:=Nat.le_of_ble_eq_true L;simp only[ζb,g,L',mM,C,putCells,f_,gI,uY,T,and_self,i,B?]
def Dg{α:Type}[bB α]:∀(xs:aX α)(pre:S')(B:S'),B.length=xs.length->gz (bB.size α) (pre++B) ((C' pre.length xs.length).zip (xs.map enc))=M (pre++rows xs)
 |[],pre,B,h=>by have:=List.eq_nil_of_length_eq_zero h;subst this;rfl|x::xs,pre,s::B,h=>by simp only[Z?,List.range'_succ,P?,List.zip_cons_cons,gz,f_,gI,uY];have:=Dg xs (pre++[cells x]) B g?;simp only[ζi,Z?,w0]at this;have e:(pre++s::B).set pre.length (cells x)=pre++[cells x]++B:=f?;rw[e,this];simp[rows]
def Abs[bB α](n:Nat)(dr:X')(fr:ST)(q:Rd)(n?:QP)(st:St)(xs:aX α){u sz ln:Nat}{zero:So}{ix:ST}{m:aY β}(D:q=⟨M u,gd,now,.a (.buildSl sz ln zero ix),az,dd,[]⟩::l)
 (J:st.new u=O)(B:(gW S c n fo fs st0,wanted st.g gd,bW S.N st.g az,sz,ln,ix)=(M (.ops dr fr q,n?,st),M O,M ((xs.map enc).map .v),bB.size α,xs.length,C' 0 xs.length))
 (h:Le m (uT S c Q dr fr (M u) (.a (.buildSl sz ln zero ix)) l n? dd {st with g:=bE st.g u (.own u),m:=bE st.m u (cG (.row xs))})):Le m (rn S c Q fo fs st0):=by
 simp only[ζc]at B;have⟨a,w,z,C,i,I⟩:=B;subst C i I;refine sW a D w ?_ h;rw[yO,z];simp only[ζb,J,nG,kP,List.length_range',I!];have:=Dg xs [] (w? xs.length zero) f?
 simp at this;rw[this];rfl
def adT[bB α](n:Nat)(dr:X')(fr:ST)(q:Rd)(n?:QP)(st:St)(x:α)(vs:So){z:So}{pl:aX (Nat×Nat)}{m:aY β}(D:q=⟨d,gd,now,.p (.build z pl),az,dd,[]⟩::l)
 (hp:mK z pl vs=M (cells x))(J:bB.agg α=O)
 (B:(gW S c n fo fs st0,wanted st.g gd,bW S.N st.g az)=(M (.ops dr fr q,n?,st),M O,M (vs.map .v)))
 (h:Le m (uT S c Q dr fr d (.p (.build z pl)) l n? dd (c8 st d (cv x)))):Le m (rn S c Q fo fs st0):=by
 simp at B;refine sW B.1 D B.2.1 (CE B.2.2 rfl ?_) h;unfold kH;rw[kP];simp only[Vk,hp,B?];show M (SV.v (.agg (cells x)))=M (.v (enc x));rw[AZ J]
section
variable[bB α]
def adU(n:Nat)(dr:X')(fr:ST)(q:Rd)(n?:QP)(st:St)(lo hi:X')(D:So){sz:Nat}{s:Sl α}{a b:Ps}{f:Sl α->aY γ}(J:q=⟨d,gd,now,.p (.slice sz lo hi),az,dd,[]⟩::l)
 (B:(gW S c n fo fs st0,wanted st.g gd,bW S.N st.g az,oK lo hi D,sz)=(M (.ops dr fr q,n?,st),M O,M (.v (cz s)::D.map .v),M (a,b),bB.size α))
 (h:∀x,iw s a b=M x->Le ((f x).bind e) (uT S c Q dr fr d (.p (.slice sz lo hi)) l n? dd (c8 st d (.v (cz x))))):Le (((iw s a b).bind f).bind e) (rn S c Q fo fs st0):=by
 simp at B;refine EN B.1 J B.2.1 (Le.of_eq ?_) h;have w:=B.2.2.1;unfold gA oa;simp[wanted,gL,w];have u:kH S.N st.m (.slice sz lo hi) ((cz s::D).map .v)=(iw s a b).bind λx=>M (.v (cz x)):=by unfold kH;rw[kP];simp[bV,B.2.2.2.1,PG s a b sz B.2.2.2.2];cases iw s a b<;>rfl
 simp at u⊢;rw[u];cases iw s a b<;>rfl
def nJ(s:Sl α)(lo hi:Ps):aY (Sl α):=
 match s with
 |.nil|.emp=>G|.row x|.part x=>(eA (W x) lo hi).map λ(l,h)=>.part ((x.take h).drop l)
def acy(n:Nat)(fr:ST)(q:Rd)(n?:QP)(st:St)(lo hi:X')(u:Nat)(D:So){t sz:Nat}{s:Sl α}{a b:Ps}{f:Sl α->aY γ}(T:q=⟨M t,gd,now,.p (.slice sz lo hi),az,dd,[]⟩::l)
 (J:St.new {st with m:=dH u st.m} t=O)(B:(gW S c n fo fs st0,wanted st.g gd,bW S.N st.g az,oK lo hi D,bh st.m u,sz)=(M (.ops U fr q,n?,st),M O,M (.own u::D.map .v),M (a,b),M (cG s),bB.size α))
 (h:∀x,nJ s a b=M x->Le ((f x).bind e) (uT S c Q U fr (M t) (.p (.slice sz lo hi)) l n? dd {st with g:=bE st.g t (.own t),m:=bE (dH u st.m) t (cG x)})):Le (((nJ s a b).bind f).bind e) (rn S c Q fo fs st0):=by
 simp at B;refine EN B.1 T B.2.1 (Le.of_eq ?_) h;have⟨_,_,z,w,C,i⟩:=B;subst i;unfold gA oa;simp[wanted,gL,z,Du,kP,C,w]
 cases s with
 |nil=>simp[nJ,cG,Sl.k,b_]|emp=>simp[nJ,cG,Sl.k,b_]|row x=>
  simp[cG,Sl.k,Sl.l,b_,nJ,gR,w]
  cases eA x.length a b with
  |none=>rfl|some r=>simp[J,c8,rows,g8]
 |part x=>
  simp[cG,Sl.k,Sl.l,b_,nJ,gR,w]
  cases eA x.length a b with
  |none=>rfl|some r=>simp[J,c8,rows,g8]
def xE(n:Int)(a:α):aY (Sl α):=if 0<=n/\n<=2147483648 then M (if n=0 then .row []else .part [])else G
def adI(n:Nat)(dr:X')(fr:ST)(q:Rd)(n?:QP)(st:St){u:Nat}{sz:Nat}{zero:So}{i:Int}{z:α}{f:Sl α->aY γ}(J:q=⟨M u,gd,now,.a (.makeSl sz zero),az,dd,[]⟩::l)
 (T:st.new u=O)(D:(gW S c n fo fs st0,wanted st.g gd,bW S.N st.g az,sz)=(M (.ops dr fr q,n?,st),M O,M [.v (.int Z 0),.v (.int Z i)],bB.size α))
 (h:∀B,xE i z=M B->Le ((f B).bind e) (uT S c Q dr fr (M u) (.a (.makeSl sz zero)) l n? dd {st with g:=bE st.g u (.own u),m:=bE st.m u (cG B)})):Le (((xE i z).bind f).bind e) (rn S c Q fo fs st0):=by
 simp at D;have⟨a,C,j,I⟩:=D;subst I;refine EN a J C (Le.of_eq ?_) h;rw[yO,j];simp only[ζb,T,L',nG,true_and,xE]
 by_cases hi:0<=i/\i<=2147483648
 .rw[J0 hi,J0 ⟨Int.le_refl 0,hi⟩]
  by_cases w:i=0
  .subst w;rfl
  have:¬0=i:=λh=>w h.symm
  simp[K' w,K' this];rfl
 grind
end
end
structure bQ(n:Nat)(α:Type)where
 l:List α
 len:l.length=n
def VU{α:Type}[bB α](l:aX α):W (l.map (cells (α:=α))).flatten=W l*bB.size α:=by induction l with|nil=>simp|cons a l u=>simp[u,gI,t!,Nat.add_comm]
def To{α:Type}[bB α](l:aX α):V.cN (l.map (cells (α:=α))).flatten=O:=by induction l with|nil=>rfl|cons a l u=>have h:∀(x y:So),V.cN x=O->V.cN y=O->V.cN (x++y)=O:=(by intro x;induction x with|nil=>grind|cons b x w=>intro y c z;simp[V.cN]at c⊢;grind);exact h _ _ (bB.good a) u
instance{n:Nat}{α:Type}[bB α]:bB (bQ n α)where
 cells a:=(a.l.map cells).flatten
 agg:=O
 size:=n*bB.size α
 len a:=by rw[VU,a.len]
 good a:=To a.l
 one a:=by have:∀l:aX α,(l.map (cells (α:=α))).flatten.all V.one=O:=(by intro l;induction l with|nil=>rfl|cons a l u=>simp only[P?,d8,List.all_append,u,uY,Bool.and_self]);exact this a.l
 plain h:=by cases h
def bQ.Jd(n:Nat){α:Type}(z:α):bQ n α:=⟨w? n z,f?⟩
def bQ.at{n:Nat}{α:Type}(a:bQ n α)(i:Int):aY α:=if 0<=i then a.l[i.toNat]?else G
def bQ.set{n:Nat}{α:Type}(a:bQ n α)(i:Int)(x:α):bQ n α:=⟨a.l.set i.toNat x,by simp[a.len]⟩
def pa{n:Nat}{α:Type}[bB α](a:bQ n α)(i:Int):So:=(cells a).drop (i.toNat*bB.size α)
def bQ.yI{n:Nat}{α:Type}{a:bQ n α}{i:Int}{x:α}(h:a.at i=M x):0<=i/\i.toNat<n/\a.l[i.toNat]?=M x:=by
 unfold bQ.at at h;split at h;next hi=>refine⟨hi,?_,h⟩;have:=(ζe.1 h).1;rw[<-a.len];simp_all
 simp_all
def Ja{α:Type}[bB α]:∀(l:aX α)(k:Nat),((l.map (cells (α:=α))).flatten).drop (k*bB.size α)=((l.drop k).map (cells (α:=α))).flatten
 |[],k=>f?|a::l,0=>f?|a::l,k+1=>by have h:=gI a;rw[P?,d8,List.drop_succ_cons,<-Ja l k,t!,q0,Nat.add_comm,<-h,List.drop_length_add_append]
def D8{n:Nat}{α:Type}[bB α]{a:bQ n α}{i:Int}{x:α}(h:a.at i=M x):∃r,pa a i=cells x++r:=by have⟨b,B,w⟩:=bQ.yI h;have⟨u,z⟩:=ζe.1 w;refine⟨((a.l.drop (i.toNat+1)).map cells).flatten,?_⟩;show((a.l.map (cells)).flatten).drop (i.toNat*bB.size α)=_;rw[Ja,List.drop_eq_getElem_cons u,P?,d8,z]
section
variable{S:Sys}{c:cg}{β γ δ α:Type}{Q:Out×St->aY β}{e:γ->aY β}{fo:Fo}{fs:QP}{st0:St}{l:Rd}{d:aY Nat}{gd:aY (Nat×X')}{now:X'}{az:QQ}{dd:ST}
section
variable{N:Nat}[bB α]
def ab9(n:Nat)(dr:X')(fr:ST)(q:Rd)(n?:QP)(st:St)(k:T2){ln sz:Nat}{a:bQ N α}{i:Int}{f:α->aY γ}(D:q=⟨d,gd,now,.p (.idxA ln sz),az,dd,[]⟩::l)
 (B:(gW S c n fo fs st0,wanted st.g gd,bW S.N st.g az,sz,ln)=(M (.ops dr fr q,n?,st),M O,M [cp a,.v (.int k i)],bB.size α,N))
 (h:∀x,a.at i=M x->Le ((f x).bind e) (uT S c Q dr fr d (.p (.idxA ln sz)) l n? dd (c8 st d (.v (.fptr (pa a i)))))):Le (((a.at i).bind f).bind e) (rn S c Q fo fs st0):=by
 simp at B;have⟨g,w,z,C,j⟩:=B;subst C j;refine EN g D w ?_ h;intro r b;have⟨x,I,b⟩:=ζg.1 b;have⟨g1,g2,_⟩:=bQ.yI I;rw[CE z rfl ?_]
 .omega
 rw[zn];simp[bV,zS];have u:i.toNat*bB.size α<=(cells a).length:=by rw[gI];exact Nat.mul_le_mul_right _ (Nat.le_of_lt g2)
 rw[J0 ⟨g1,c?⟩,J0 u]
 rfl
def adV(n:Nat)(dr:X')(fr:ST)(q:Rd)(n?:QP)(st:St)(a:bQ N α)(i:Int)(o:Nat)(x:α)(D:a.at i=M x){k:Nat}{m:aY β}(J:q=⟨d,gd,now,.p (.fieldAddr k),az,dd,[]⟩::l)
 (B:(gW S c n fo fs st0,wanted st.g gd,bW S.N st.g az,ble (o+k) (bB.size α))=(M (.ops dr fr q,n?,st),M O,M [.v (.fptr ((pa a i).drop o))],O))
 (h:Le m (uT S c Q dr fr d (.p (.fieldAddr k)) l n? dd (c8 st d (.v (.fptr ((pa a i).drop (o+k))))))):Le m (rn S c Q fo fs st0):=by
 simp only[ζc]at B;have⟨b,u,w,z⟩:=B;refine sW b J u (CE w Y ?_) h;have C:=Nat.le_of_ble_eq_true z;have⟨r,e⟩:=D8 D;have g:W (pa a i)>=bB.size α:=by rw[e,ζi,gI];omega
 rw[K7,L3,J0 g?,D!]
 rfl
def acG(n:Nat)(dr:X')(fr:ST)(q:Rd)(n?:QP)(st:St)(a:bQ N α)(i:Int)(o:Nat)(x:α)(J:a.at i=M x){sz:Nat}{ag:X'}{v:V}(g:H (cut (cells x) o sz) (mk ag)=M v)(B:V){m:aY β}(T:q=⟨d,gd,now,.r (.load sz ag),az,dd,[]⟩::l)
 (D:(gW S c n fo fs st0,wanted st.g gd,bW S.N st.g az,v)=(M (.ops dr fr q,n?,st),M O,M [.v (.fptr ((pa a i).drop o))],B))
 (h:Le m (uT S c Q dr fr d (.r (.load sz ag)) l n? dd (c8 st d (.v B)))):Le m (rn S c Q fo fs st0):=by
 simp at D;obtain⟨e,z,C,rfl⟩:=D;refine sW e T z ?_ h;rw[zW,C];have b:eY fr [SV.v (.fptr ((pa a i).drop o))]=O:=rfl;simp[b,Tc];have⟨r,f⟩:=D8 J;rw[f];have j:cut ((cells x++r).drop o) 0 sz=cut (cells x) o sz:=by cases u:cut (cells x) o sz with|none=>grind|some w=>unfold cut at u⊢;dsimp only at u⊢;split at u;have e1:(List.drop 0 (List.drop o (cells x++r))).take sz=((cells x).drop o).take sz:=(by have t:sz=0\/o<=W (cells x):=(by grind);grind);grind;grind
 cases u:cut (cells x) o sz with
 |none=>grind|some w=>grind
def Aal(n:Nat)(dr:X')(fr:ST)(q:Rd)(n?:QP)(st:St)(cs:R'){u sz:Nat}{zero:So}{m:aY β}(D:q=⟨M u,gd,now,.a (.alloc sz zero),az,dd,[]⟩::l)
 (J:st.new u=O)(B:(gW S c n fo fs st0,wanted st.g gd,bW S.N st.g az,zero.map SV.v)=(M (.ops dr fr q,n?,st),M O,M [],cs))
 (h:Le m (uT S c Q dr fr (M u) (.a (.alloc sz zero)) l n? dd {st with g:=bE st.g u (.ptr u 0),m:=bE st.m u (.box cs)})):Le m (rn S c Q fo fs st0):=by
 simp at B;have⟨a,w,z,C⟩:=B;subst C;refine sW a D w ?_ h;rw[yO,z];simp[J,nG]
def we(d:Nat)(l:So):SV.dL d (l.map .v)=U:=by induction l with|nil=>rfl|cons a l u=>simp[SV.dL,SV.cR,u]
def v7{α:Type}[bB α](d:Nat)(x:α):bD.cR d (bx x)=U:=we d (cells x)
def acH(n:Nat)(dr:X')(fr:ST)(q:Rd)(n?:QP)(st:St)(k:T2)(u:Nat){ln sz:Nat}{a:bQ N α}{i:Int}{f:α->aY γ}(D:q=⟨d,gd,now,.p (.idxA ln sz),az,dd,[]⟩::l)
 (B:(gW S c n fo fs st0,wanted st.g gd,bW S.N st.g az,sz,ln,bh st.m u)=(M (.ops dr fr q,n?,st),M O,M [.ptr u 0,.v (.int k i)],bB.size α,N,M (bx a)))
 (h:∀x,a.at i=M x->Le ((f x).bind e) (uT S c Q dr fr d (.p (.idxA ln sz)) l n? dd (c8 st d (.ptr u (i.toNat*bB.size α+0))))):Le (((a.at i).bind f).bind e) (rn S c Q fo fs st0):=by
 simp at B;have⟨g,w,z,I,J,C⟩:=B;refine EN g D w ?_ h;intro r b;have⟨x,j,b⟩:=ζg.1 b;have⟨g1,g2,_⟩:=bQ.yI j;rw[CE z rfl ?_]
 .omega
 simp[kH,dw,Af,C]
 grind
def Vx{a:bQ N α}{i:Int}{o:Nat}{x:α}(B:a.at i=M x){sz:Nat}{ag:X'}{v:V}(c:H (cut (cells x) o sz) (mk ag)=M v):xk sz ag ((((cells a).map SV.v).drop (i.toNat*bB.size α+o)).take sz)=M (.v v):=by
 have⟨r,d⟩:=D8 B;have e1:(((cells a).map SV.v).drop (i.toNat*bB.size α+o)).take sz=(((cells x).drop o).take sz).map SV.v:=by have u:((cells x).drop o).take sz=((cells x++r).drop o).take sz:=(by cases b:cut (cells x) o sz with|none=>grind|some w=>unfold cut at b;dsimp only at b;split at b;have C:sz=0\/o<=W (cells x):=(by grind);grind;simp_all);rw[u,<-d,pa,D!,w7,g8]
 rw[e1];unfold xk;cases b:cut (cells x) o sz with|none=>grind|some w=>rw[b]at c;unfold cut at b;dsimp only at b;split at b;rename_i z;cases b;simp only[I!,z];unfold mk at c;(cases ag with|true=>simp only[L']at c⊢;cases c;rw[kP]|false=>grind);simp_all
def acz(n:Nat)(dr:X')(fr:ST)(q:Rd)(n?:QP)(st:St)(u:Nat)(a:bQ N α)(i:Int)(o:Nat)(x:α)(J:a.at i=M x){sz:Nat}{ag:X'}{v:V}(e:H (cut (cells x) o sz) (mk ag)=M v)(B:V){m:aY β}(T:q=⟨d,gd,now,.r (.load sz ag),az,dd,[]⟩::l)
 (D:(gW S c n fo fs st0,wanted st.g gd,bW S.N st.g az,v,bh st.m u,(!dr||now||eY fr [.ptr u 0]))=(M (.ops dr fr q,n?,st),M O,M [.ptr u (i.toNat*bB.size α+o)],B,M (bx a),O))
 (h:Le m (uT S c Q dr fr d (.r (.load sz ag)) l n? dd (c8 st d (.v B)))):Le m (rn S c Q fo fs st0):=by
 simp only[ζc]at D;obtain⟨f,w,z,rfl,C,g⟩:=D;refine sW f T w ?_ h;rw[zW,z];have b:(!dr||now||eY fr [SV.ptr u (i.toNat*bB.size α+o)])=O:=g;simp only[ζb,b,adA,C,Tv];rw[Vx J e];rfl
def Sk{N:Nat}(a:bQ N α)(i:Int)(y:α)(h:i.toNat<N):cells (a.set i y)=(cells a).take (i.toNat*bB.size α)++cells y++(cells a).drop ((i.toNat+1)*bB.size α):=by
 have key:∀(l:aX α)(k:Nat),k<W l->((l.set k y).map (cells)).flatten=(l.map (cells)).flatten.take (k*bB.size α)++cells y++(l.map (cells)).flatten.drop ((k+1)*bB.size α):=by intro l;induction l with|nil=>grind|cons b l u=>intro k h;have w:=gI b;cases k with|zero=>grind|succ k=>simp only[P?,d8];have e1:(k+1)*bB.size α=W (cells b)+k*bB.size α:=g?;have e2:(k+1+1)*bB.size α=W (cells b)+(k+1)*bB.size α:=g?;rw[e2,List.drop_length_add_append];grind
 exact key a.l i.toNat (by rw[a.len];omega)
def Xx(n:Nat)(dr:X')(fr:ST)(q:Rd)(n?:QP)(st:St)(u:Nat)(a:bQ N α)(i:Int)(o:Nat)(x:α)(B:a.at i=M x)(y:α)(v:V){sz:Nat}(J:cells y=(cells x).take o++v.cells++(cells x).drop (o+sz)){m:aY β}(T:q=⟨d,gd,now,.l (.store sz),az,dd,[]⟩::l)
 (D:(gW S c n fo fs st0,wanted st.g gd,bW S.N st.g az,bh st.m u,(!dr||now),W v.cells,v.cells.all V.one,ble (o+sz) (bB.size α))=(M (.ops dr fr q,n?,st),M O,M [.ptr u (i.toNat*bB.size α+o),.v v],M (bx a),O,sz,O,O))
 (h:Le m (uT S c Q dr fr d (.l (.store sz)) l n? dd (c8 {st with m:=bE st.m u (bx (a.set i y))} d (.v .undef)))):Le m (rn S c Q fo fs st0):=by
 simp only[ζc]at D;have⟨b,z,C,g,I,L,j,t⟩:=D;refine sW b T z ?_ h;rw[xm,C];have X:=Nat.le_of_ble_eq_true t;have⟨g1,g2,g3⟩:=bQ.yI B;have F:i.toNat*bB.size α+o+sz<=W ((cells a).map SV.v):=by rw[I!,gI];have:(i.toNat+1)*bB.size α<=N*bB.size α:=Nat.mul_le_mul_right _ g2;rw[t!,q0]at this;show _<=N*bB.size α;omega
 simp only[ζb,I,L',mM,g,putCells,L,j,F,and_self,B?];have⟨r,f⟩:=D8 B;have e:((cells a).map SV.v).take (i.toNat*bB.size α+o)++v.cells.map .v++((cells a).map SV.v).drop (i.toNat*bB.size α+o+sz)=(cells (a.set i y)).map SV.v:=by rw[Sk a i y g2,J];have hd:(cells a).drop (i.toNat*bB.size α)=cells x++r:=f;have w:=gI x;have e1:(cells a).take (i.toNat*bB.size α+o)=(cells a).take (i.toNat*bB.size α)++(cells x).take o:=(by rw[List.take_add,hd,List.take_append_of_le_length c?]);have e2:(cells a).drop (i.toNat*bB.size α+o+sz)=(cells x).drop (o+sz)++(cells a).drop ((i.toNat+1)*bB.size α):=(by have e3:(cells a).drop ((i.toNat+1)*bB.size α)=r:=(by rw[t!,q0,<-D!,hd,<-w,List.drop_left]);rw[e3,Nat.add_assoc,<-D!,hd,List.drop_append_of_le_length c?]);rw[<-w7,<-g8,e1,e2];grind
 rw[e]
end
def Zq{α:Type}[bB α]{m:Tb bD}{d:Nat}{x:α}{vs:So}(h:bh m d=M (bx x)):qp (kg m 8) (.ptr d 0::vs.map .v)=M (.fptr (cells x)::vs):=by
 have a:kg m 8 (.ptr d 0)=M (.fptr (cells x)):=by
  show(match bh m d with
   |some (.box cs)=>match qp (kg m 7) cs with
    |some u=>if 0<=W u then M (V.fptr (u.drop 0))else G|none=>G
   |_=>G)=_
  rw[h];simp[LI]
 simp[qp,a,LI]
def acN(n:Nat){fo:Fo}{fs n?:QP}{st0 st:St}{rs:Pi}{e:γ->aY So}{r:γ}(m?:R'){ys:So}(B:qp (kg st.m 8) m?=M ys)(h:(gW S c n fo fs st0,kS st rs)=(M (.rt,n?,st),M m?))(D:e r=M ys):
 Le (H (M r) e) (rn S c (sC rs) fo fs st0):=by
 simp at h;rw[qS h.1];refine Le.of_eq ?_;simp[rn,sC,h.2,B]
 grind
abbrev Mo(κ ν:Type):=aX (κ×ν)
class Key(κ:Type)[bB κ][DecidableEq κ]where
 kk:zm
 ok:∀a:κ,rZ kk (enc a)=true
 eq:∀a b:κ,Ah (enc a) (enc b)=some (decide (a=b))
instance:Key Int where
 kk:=.int Z
 ok _:=rfl
 eq a b:=by show M (a==b)=M (_p (a=b));rw[show(a==b)=_p (a=b)from Bool.eq_iff_iff.2 f?]
instance:Key aZ where
 kk:=.ints 2
 ok _:=rfl
 eq a b:=by have⟨p,i⟩:=a;have⟨q,j⟩:=b;simp only[Ah,mR,jE,aao,B?,Z?,L',ζa];rw[Bool.eq_iff_iff];simp
section
variable{κ ν:Type}[bB κ][DecidableEq κ][Key κ][bB ν]
def lW(k:κ):Mo κ ν->aY ν
 |[]=>G|(a,v)::r=>if k=a then M v else lW k r
def iM(m:Mo κ ν)(k:κ)(z:ν):ν:=(lW k m).getD z
def AF(m:Mo κ ν)(k:κ):X':=(lW k m).isSome
def mA(m:Mo κ ν)(k:κ)(v:ν):Mo κ ν:=
 match m with
 |[]=>[(k,v)]|(a,w)::r=>if k=a then(k,v)::r else(a,w)::mA r k v
def oL(m:Mo κ ν):aX (V×V):=m.map λx=>(enc x.1,enc x.2)
def iZ(m:Mo κ ν):bD:=.mp (oL m)
def D6(k:κ):∀(m:Mo κ ν)(i:Nat),(jd (enc k) (oL m) i).map (Option.map (·.2))=M ((lW k m).map enc)
 |[],i=>rfl|(a,v)::r,i=>by simp only[oL,P?,jd,Key.eq,lW];by_cases h:k=a;grind;simp only[h];exact D6 k r (i+1)
def Ud(k:κ)(v:ν)(m:Mo κ ν):sJ (enc k) (enc v) (oL m)=M (oL (mA m k v)):=by
 unfold sJ;have key:∀(m:Mo κ ν)(pre:aX (V×V))(i:Nat),W pre=i->(match jd (enc k) (oL m) i with
  |some (M (j,_))=>M ((pre++oL m).set j (enc k,enc v))|some G=>M (pre++oL m++[(enc k,enc v)])|none=>G)=M (pre++oL (mA m k v)):=by
  intro m
  induction m with
  |nil=>simp[oL,jd,mA]|cons x r u=>
   have⟨a,w⟩:=x;intro pre i h;rw[show oL ((a,w)::r)=(enc a,enc w)::oL r from Y];simp[jd,Key.eq,mA]
   by_cases b:k=a
   .subst b h;simp[oL]
   simp[b];rw[show oL ((a,w)::mA r k v)=(enc a,enc w)::oL (mA r k v)from Y];have:=u (pre++[(enc a,enc w)]) (i+1) (by simp[h])
   grind
 have:=key m [] 0 rfl;grind
def acw(n:Nat)(dr:X')(fr:ST)(q:Rd)(n?:QP)(st:St)(u:Nat)(mp:Mo κ ν)(k:κ)(z:ν){kk:zm}{B:V}{m:aY β}(J:q=⟨d,gd,now,.r (.lookup kk B U),az,dd,[]⟩::l)
 (D:(gW S c n fo fs st0,wanted st.g gd,bW S.N st.g az,bh st.m u,(!dr||now||eY fr [.mp u,cv k]),B,kk)=(M (.ops dr fr q,n?,st),M O,M [.mp u,cv k],M (iZ mp),O,enc z,Key.kk κ))
 (h:Le m (uT S c Q dr fr d (.r (.lookup kk B U)) l n? dd (c8 st d (cv (iM mp k z))))):Le m (rn S c Q fo fs st0):=by
 simp only[ζc]at D;have⟨a,C,g,I,L,i,T⟩:=D;subst i T;refine sW a J C ?_ h;rw[zW,g];simp only[ζb,L,oG,I,iZ,Key.ok];have:=D6 k mp 0;simp[iM]
 cases j:jd (enc k) (oL mp) 0 with
 |none=>grind|some r=>
  rw[j]at this
  cases r with
  |none=>
   cases o:lW k mp with
   |none=>rfl|some w=>grind
  |some w=>
   cases o:lW k mp with
   |none=>grind|some X=>grind
def abc(n:Nat)(dr:X')(fr:ST)(q:Rd)(n?:QP)(st:St)(u:Nat)(mp:Mo κ ν)(k:κ)(z:ν){kk:zm}{B:V}{m:aY β}(J:q=⟨d,gd,now,.r (.lookup kk B O),az,dd,[]⟩::l)
 (D:(gW S c n fo fs st0,wanted st.g gd,bW S.N st.g az,bh st.m u,(!dr||now||eY fr [.mp u,cv k]),B,kk)=(M (.ops dr fr q,n?,st),M O,M [.mp u,cv k],M (iZ mp),O,enc z,Key.kk κ))
 (h:Le m (uT S c Q dr fr d (.r (.lookup kk B O)) l n? dd (c8 st d (.v (.tup [enc (iM mp k z),.bool (AF mp k)]))))):Le m (rn S c Q fo fs st0):=by
 simp only[ζc]at D;have⟨a,C,g,I,L,i,T⟩:=D;subst i T;refine sW a J C ?_ h;rw[zW,g];simp only[ζb,L,oG,I,iZ,Key.ok];have:=D6 k mp 0;simp[iM,AF]
 cases j:jd (enc k) (oL mp) 0 with
 |none=>grind|some r=>
  rw[j]at this
  cases r with
  |none=>
   cases o:lW k mp with
   |none=>rfl|some w=>grind
  |some w=>
   cases o:lW k mp with
   |none=>grind|some X=>grind
def adX(n:Nat)(dr:X')(fr:ST)(q:Rd)(n?:QP)(st:St)(u:Nat)(mp:Mo κ ν)(k:κ)(v:ν){kk:zm}{m:aY β}(D:q=⟨d,gd,now,.l (.mapUp kk),az,dd,[]⟩::l)
 (B:(gW S c n fo fs st0,wanted st.g gd,bW S.N st.g az,bh st.m u,(!dr||now),kk)=(M (.ops dr fr q,n?,st),M O,M [.mp u,cv k,cv v],M (iZ mp),O,Key.kk κ))
 (h:Le m (uT S c Q dr fr d (.l (.mapUp kk)) l n? dd (c8 {st with m:=bE st.m u (iZ (mA mp k v))} d (.v .undef)))):Le m (rn S c Q fo fs st0):=by
 simp only[ζc]at B;have⟨a,w,z,C,g,I⟩:=B;subst I;refine sW a D w ?_ h;rw[xm,z];simp[g,mM,C,iZ,Key.ok,Ud]
end
end
instance{n:Nat}:OfNat Arg n:=⟨.s n⟩
abbrev bI(o:BinOp):K:=.p (.bin (M .int) G o)
abbrev ix(n:Nat):K:=.p (.idxS n)
abbrev ld(n:Nat):K:=.r (.load n U)
abbrev lD(n:Nat):K:=.r (.load n O)
abbrev fa(n:Nat):K:=.p (.fieldAddr n)
abbrev ln:K:=.p .lenSl
abbrev Iv(n:Nat)(x:Int):Nat×SV:=(n,iv x)
abbrev Bv(n:Nat)(x:Bool):Nat×SV:=(n,bv x)
abbrev Cv{α:Type}[bB α](n:Nat)(x:α):Nat×SV:=(n,cv x)
abbrev Kv{α:Type}[bB α](n:Nat)(x:α):Nat×SV:=(n,cp x)
abbrev Pv(n:Nat):Nat×SV:=(n,.ptr n 0)
abbrev Ov(n:Nat):Nat×SV:=(n,.own (2000+n))
abbrev Xb{α:Type}[bB α](n:Nat)(x:α):Nat×bD:=(n,bx x)
abbrev Lb{α:Type}[bB α](n:Nat)(x:Sl α):Nat×bD:=(n,cG x)
abbrev on(d:Nat)(k:K)(az:aX Arg)(dd:aX Nat):RO:=⟨M d,G,O,k,az,dd,[]⟩
abbrev oz(k:K)(az:aX Arg)(dd:aX Nat):RO:=⟨G,G,U,k,az,dd,[]⟩
attribute [simp] X3 XP Ye
def iG.A2{S:Sys}{T:rW}{f:Y'}{b:X'}(B:T f=G)(a:S.E.keep f=U)(D:S.A2 f []=M (.bool b)):
 iG S (dB S T) f (λ_:Unit=>[]) (λr:X'=>[.bool r]) (λ_=>M b) O where
 k:=a
 h _:=by have h:=Is (az:=[]) B a D;intro r c;cases c;unfold kM;rw[h];exact rY 8 [.bool b]
 s _ _:=rfl
def Wp{α:Type}(m:aY α)(P:α->Prop):Prop:=∃a,m=M a/\P a
section
variable{α β:Type}{P Q:α->Prop}
theorem bf(a:α):Wp (M a) P↔P a:=⟨λh=>by have⟨b,e,p⟩:=h;cases e;exact p,λp=>⟨a,Y,p⟩⟩
def XL:Wp (G:aY α) P↔False:=⟨λh=>(by have⟨b,e,p⟩:=h;cases e),λh=>False.elim h⟩
def ey{m:aY β}{k:β->aY α}:Wp (m.bind k) P↔Wp m λb=>Wp (k b) P:=by cases m with|none=>simp only[Option.bind_none,XL]|some b=>simp only[ζb,bf]
theorem cn{t:X'}{a b:aY α}:Wp (bg t a b) P↔(t=O->Wp a P)/\(t=U->Wp b P):=by cases t<;>simp[bg]
def Wp.mono{m:aY α}(h:Wp m P)(B:∀a,P a->Q a):Wp m Q:=let⟨a,e,p⟩:=h;⟨a,e,B a p⟩
def Wp.and{m:aY α}(h:Wp m P)(B:Wp m Q):Wp m λa=>P a/\Q a:=by have⟨a,e,p⟩:=h;have⟨b,e2,q⟩:=B;rw[e]at e2;cases e2;exact⟨a,e,p,q⟩
def Wp.eq{m:aY α}{a:α}(h:Wp m λx=>x=a):m=M a:=by obtain⟨b,e,rfl⟩:=h;exact e
end
section
variable{σ ε ρ:Type}
def fM(step:σ->aY (Fw σ ε ρ))(s:σ):bM step s=H (step s) λw=>match w with
 |.n B=>bM step B|.x e=>M (.x e)|.r b=>M (.r b):=by
 have d:∀r,bM step s=M r->(H (step s) λw=>match w with
  |.n B=>bM step B|.x e=>M (.x e)|.r b=>M (.r b))=M r:=by
  intro r h;have⟨k,a⟩:=sx.1 h
  cases k with
  |zero=>simp[nK]at a|succ k=>
   simp only[nK]at a
   cases u:step s with
   |none=>rw[u]at a;cases a|some w=>
    rw[u]at a
    cases w with
    |n B=>exact sx.2 ⟨k,a⟩|x e=>exact a|r b=>exact a
 cases z:bM step s with
 |some r=>exact(d r z).symm|none=>
  cases c:(H (step s) λw=>match w with
  |.n B=>bM step B|.x e=>M (.x e)|.r b=>M (.r b))with
  |none=>rfl|some r=>
   exfalso
   cases u:step s with
   |none=>rw[u]at c;cases c|some w=>
    rw[u]at c;simp only[ζb]at c;have:bM step s=M r:=by cases w with|n B=>have⟨k,a⟩:=sx.1 c;exact sx.2 ⟨k+1,by simp only[nK,u];exact a⟩|x e=>exact sx.2 ⟨1,by simp only[nK,u];exact c⟩|r b=>exact sx.2 ⟨1,by simp only[nK,u];exact c⟩
    rw[z]at this;cases this
def Ws(I:σ->Prop)(μ:σ->Nat)(D:ε->Prop)(J:ρ->Prop)(s:σ):Fw σ ε ρ->Prop
 |.n B=>I B/\μ B<μ s|.x e=>D e|.r b=>J b
def Pfw(B:ε->Prop)(D:ρ->Prop):Fw Empty ε ρ->Prop
 |.x e=>B e|.r b=>D b
def Ue{step:σ->aY (Fw σ ε ρ)}(I:σ->Prop)(μ:σ->Nat)(B:ε->Prop)(D:ρ->Prop)(h:∀s,I s->Wp (step s) (Ws I μ B D s)){s:σ}(J:I s):Wp (bM step s) (Pfw B D):=by
 have key:∀n s,μ s<=n->I s->Wp (bM step s) (Pfw B D):=by
  intro n
  induction n with
  |zero=>intro s C hi;have⟨w,u,a⟩:=h s hi;rw[fM,u];cases w with|n z=>exact _c a.2 c?|x e=>exact⟨_,rfl,a⟩|r b=>exact⟨_,rfl,a⟩
  |succ n g=>intro s C hi;have⟨w,u,a⟩:=h s hi;rw[fM,u];cases w with|n z=>exact g z (by have:=a.2;omega) a.1|x e=>exact⟨_,rfl,a⟩|r b=>exact⟨_,Y,a⟩
 exact key (μ s) s (Nat.le_refl _) J
def fI{γ:Type}{step:σ->aY (Fw σ ε ρ)}{B:ε->aY γ}{fr:ρ->aY γ}{P:γ->Prop}(I:σ->Prop)(μ:σ->Nat){s:σ}(D:I s)
 (h:∀s,I s->Wp (step s) (Ws I μ (λe=>Wp (B e) P) (λb=>Wp (fr b) P) s)):Wp (H (bM step s) (Fw.elim B fr)) P:=by
 rw[ey];refine(Ue I μ _ _ h D).mono ?_;intro w u
 cases w with
 |n a=>cases a|x e=>exact u|r b=>exact u
end
def HT{β γ δ:Type}{e:γ->aY β}{m:aY δ}{f:δ->aY γ}{L:aY β}(h:∀x,m=M x->Le (H (f x) e) L):Le (H (m.bind f) e) L:=by cases m with|none=>exact Le.none _|some x=>exact h x Y
section
variable{S:Sys}{c:cg}{β:Type}{Q:Out×St->aY β}{fo:Fo}{fs:QP}{st0:St}{l:Rd}{d:aY Nat}{now:X'}{az:QQ}{dd:ST}
theorem Le.get{β:Type}{r:β}{L:aY β}(h:Le (M r) L):L=M r:=h r Y
def Kt{n:Nat}{fo fo':Fo}{fs n?:QP}{st:St}(A:X'->St){t:X'}{m:aY β}(B:t=O)(h:gW S c n fo fs st=M (fo',n?,A t))(D:Le m (rn S c Q fo' n? (A O))):Le m (rn S c Q fo fs st):=by rw[qS h,B];exact D
def Kf{n:Nat}{fo fo':Fo}{fs n?:QP}{st:St}(A:X'->St){t:X'}{m:aY β}(B:t=U)(h:gW S c n fo fs st=M (fo',n?,A t))(D:Le m (rn S c Q fo' n? (A U))):Le m (rn S c Q fo fs st):=by rw[qS h,B];exact D
def VF{α:Type}[bB α]{s:Sl α}{i:Int}{x:α}{r:β}{L:aY β}(B:idx s i=M x)(h:Le (((idx s i).bind λ_=>M r).bind M) L):Le (M r) L:=by rw[B]at h;exact h
def Kyl{n:Nat}{q:Rd}{n?:QP}{st:St}{id:Nat}{vs:R'}{xs:So}{B:S'}{m:aY β}
 (D:gW S c n fo fs st0=M (.ops U [] q,n?,st))(J:q=⟨d,G,now,.c,az,dd,[]⟩::l)(T:bW S.N st.g az=M (.yl id::vs))(g:dw vs=M xs)(i:st.want=xs::B)(hi:id=st.yid)
 (h:Le m (rn S c Q (.ops U [] l) n? (rJ dd (c8 {st with want:=B} d (.v (.bool (st.more|| !B.isEmpty))))))):Le m (rn S c Q fo fs st0):=by
 refine Wt D J Y ?_ h;unfold gA;simp only[wanted,gL,T,g,i,hi,L',and_self,Bool.false_eq_true,M']
def DS(a:RC)(fs:QP)(st:St):rn S c Q (.rc (.loop a)) fs st=H (qC (cT S c a) st) (Ic (pq S c Q fs) (pG S c Q fs) (λst=>Q (.ret,st))):=by show mj S c Q (.loop a) fs st=_;unfold mj;rw[Gv];rfl
def X1{f:St->aY (Out×St)}{st e?:St}(h:f st=M (.norm,e?)):qC f st=qC f e?:=by
 have key:∀r,qC f st=M r↔qC f e?=M r:=λr=>by constructor;intro b;have⟨k,a⟩:=oU.1 b;(cases k with|zero=>simp[kI]at a|succ k=>simp only[kI,h]at a;exact oU.2 ⟨k,a⟩);intro b;have⟨k,a⟩:=oU.1 b;exact oU.2 ⟨k+1,by simp only[kI,h];exact a⟩
 cases u:qC f st with
 |none=>cases w:qC f e? with|none=>rfl|some r=>rw[(key r).2 w]at u;cases u
 |some r=>rw[(key r).1 u]
def NX{f:St->aY (Out×St)}{st e?:St}{o:Out}(h:f st=M (o,e?))(B:o≠.norm):qC f st=M (o,e?):=by refine oU.2 ⟨1,?_⟩;cases o with|norm=>exact _c Y B|exit k=>simp only[kI,h]|ret=>simp only[kI,h]
def Ji{a:RC}{fs:QP}{st e?:St}(h:rn S c M (.rc a) [] st=M (.norm,e?)):rn S c Q (.rc (.loop a)) fs st=rn S c Q (.rc (.loop a)) fs e?:=by rw[DS,DS,X1 (by rw[DW];exact h)]
def I9{a:RC}{fs:QP}{st e?:St}{k:Nat}(h:rn S c M (.rc a) [] st=M (.exit k,e?)):rn S c Q (.rc (.loop a)) fs st=rn S c Q (.ex k) fs e?:=by rw[DS,NX (by rw[DW];exact h) f?];rfl
def JK{a:RC}{fs:QP}{st e?:St}(h:rn S c M (.rc a) [] st=M (.ret,e?)):rn S c Q (.rc (.loop a)) fs st=Q (.ret,e?):=by rw[DS,NX (by rw[DW];exact h) f?];rfl
end
def Qi:Out×St->aY Unit
 |(.exit _,_)=>G|(_,st)=>if st.want.isEmpty then M ()else G
def Sys.bare(S:Sys):Sys:=⟨S.E,S.N,λ_ _ _=>G,λ_ _=>G,λ_=>G⟩
def pZ:cg:=λ_ _ _=>G
def xW(B h?:S')(more:X'):Prop:=more=O/\B=h?\/more=U/\B≠[]/\∃r,h?=B++r
def U7(S:Sys){f:Y'}{fi:FI}{nm:Y'->aY Nat}{rf:RF}(T:S.E.ft f=M fi)(F:∀g s,nm g=M s->S.N s=g)(e:zP S.E nm fi rf){a b:So}{xs:S'}(D:W a+1+W b<=rf.na)(j:rf.rs=[])
 (h:∀B more,xW B xs more->∀yid,rn S.bare pZ Qi (.rc rf.body) [] ⟨yz 0 (a.map .v++.yl yid::b.map .v),[],[],B,more,yid⟩=M ()):fF S f a b xs:=by
 have k:fF S.bare f a b xs:=Oa (S:=S.bare) (c:=pZ) (fi:=fi) (nm:=nm) (rf:=rf) (λ_ _ h=>by cases h) (λ_ _ _ _ _ h=>by simp[pZ]at h) (λ_ _ _ _ h=>by simp[Sys.bare]at h) T F e D j (λB more w yid=>by
  have d:=h B more w yid;change mj S.bare pZ Qi rf.body [] _=M ()at d;rw[qa]at d;have⟨⟨o,e?⟩,z,u⟩:=ζg.1 d;refine⟨o,e?,z,?_,?_,Y⟩
  .rintro id rfl;simp[Qi]at u
  cases o<;>simp[Qi]at u<;>exact u)
 intro B more w yid J y t C i X d z u I L;exact k B more w yid J ⟨y.ze,y.yield⟩ t C i X d z u I L
open Classical in
def Bh(P:Y'->So->So->S'->Prop)(f:Y')(a b:So):aY S':=if h:∃u,P f a b u then M (Classical.choose h)else G
def Hs{P:Y'->So->So->S'->Prop}{f:Y'}{a b:So}{xs:S'}(h:P f a b xs)(d:∀ys,P f a b ys->ys=xs):Bh P f a b=M xs:=by have c:∃xs,P f a b xs:=⟨xs,h⟩;unfold Bh;rw[dif_pos c,d _ (W? c)]
def QL{P:Y'->So->So->S'->Prop}{f:Y'}{a b:So}{xs:S'}(h:Bh P f a b=M xs):P f a b xs:=by
 unfold Bh at h;split at h;next c=>cases h;exact W? c
 cases h
def aaM{E:Env}{nm:Y'->aY Nat}{f:Y'}{rf:RF}
 (h:(H (E.ft f) λfi=>H (bT ⟨E,nm,fi.ntmps⟩ U fi.body) λc=>H (fi.results.mapM (D3 E)) λrs=>M (c,rs,fi.ntmps))=M (erase rf.body,rf.rs,rf.na)):∃fi,E.ft f=M fi/\zP E nm fi rf:=by
 have⟨fi,a,w⟩:=ζg.1 h;have⟨c,z,B⟩:=ζg.1 w;have⟨rs,C,u⟩:=ζg.1 B;simp only[ζa,ζc]at u;obtain⟨rfl,rfl,D⟩:=u;exact⟨fi,a,z,C,D.symm⟩
def FR.rI{H:bl}{Z Z':Nat->Prop}{x y z:V}(h:FR H Z x z)(k:FR H Z' y z):x=y:=by have⟨n,u⟩:=Cq x;have⟨m,w⟩:=Cq y;have e1:=h.borrow (max n m) (A7 (Nat.le_max_left _ _) u);have e2:=k.borrow (max n m) (A7 (Nat.le_max_right _ _) w);rw[e1]at e2;exact Option.some.inj e2
open Classical in
def Bi(E:Env)(f:Y')(az:So):aY V:=if h:∃y,Bx E f az y then M (Classical.choose h)else G
def Ir{E:Env}{f:Y'}{az:So}{y:V}(h:Bi E f az=M y):Bx E f az y:=by
 unfold Bi at h;split at h;next a=>cases h;exact W? a
 cases h
def C9{E:Env}{f:Y'}{az:So}{y:V}(h:Bx E f az y):Bi E f az=M y:=by have a:∃y,Bx E f az y:=⟨y,h⟩;unfold Bi;rw[dif_pos a];have⟨n,z,i,g,k1,k2,_⟩:=h;have⟨u,w,H',Z',k3,k4,_⟩:=W? a;have e1:=(qT E (Nat.le_max_left n u)).go _ _ _ _ k1;have e2:=(qT E (Nat.le_max_right n u)).go _ _ _ _ k3;rw[e1]at e2;cases e2;rw[FR.rI k4 k2]
def Nh{E:Env}{f:Y'}{az:So}{y:V}(B:V.scalar y=O)(h:∃n H',run E n (.fn f) az []=M (y,H')):Bx E f az y:=by have⟨n,H',h⟩:=h;exact⟨n,y,H',λ_=>False,h,.same _ (lI B),λ_ h=>h.elim,⟨λ_ _ _ h=>h.elim⟩⟩
end Go.VE
