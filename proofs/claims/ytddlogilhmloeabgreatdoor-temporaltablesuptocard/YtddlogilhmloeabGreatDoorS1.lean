/- Certificates. -/
import Derived.KernelRfl
import Derived.Test.YtddlogilhmloeabGreatDoorN2
set_option linter.all false
open Option renaming some→M,some→_k,none→J,none→_q,bind→H,bind→_o
open Bool renaming true→U,true→_n,false→O,false→_p
open Decidable renaming decide→_s
open List renaming length→W,length→_m
open Go.IntKind renaming i64→N,i64→_r
open Classical renaming choose_spec→S?
open List renaming drop_drop→A!,flatten_cons→d6,length_cons→W?,length_map→O!,length_nil→v6,map_cons→K?,map_drop→f8,map_take→w0,range'→D'
open Option renaming map_some→A?
open Nat renaming add_mul→o!,one_mul→o6
noncomputable section
open Nat(le)
open List(replicate)
open Nat(le)
open Nat(ble)
namespace Go.VE
variable[b7]
inductive Sl(α:Type)where
 |nil|emp|row(l:List α)|part(l:List α)
 deriving Inhabited
abbrev Zg:=Sl Int
abbrev Zb:=Sl (Sl Int)
def Sl.l{α:Type}:Sl α->aY α
 |.nil|.emp=>[]|.row l|.part l=>l
def Sl.k{α:Type}:Sl α->Fl
 |.nil=>.nil|.emp=>.emp|.row _=>.row|.part _=>.part
class bD(α:Type)where
 cells:α->List V
 agg:Bool
 size:Nat
 len:∀a,(cells a).length=size
 good:∀a,V.c_ (cells a)=true
 one:∀a,(cells a).all V.one=true
 plain:agg=false->size=1
def cells{α:Type}[bD α](a:α):So:=bD.cells a
def enc{α:Type}[bD α](a:α):V:=if bD.agg α then .agg (cells a)else(cells a).headD .undef
def rows{α:Type}[bD α](l:aY α):S':=l.map cells
def cE{α:Type}[bD α](s:Sl α):V:=lQ s.k (bD.size α) (rows s.l)
instance:bD Int where
 cells n:=[.int _r n]
 agg:=O
 size:=1
 len _:=rfl
 good _:=rfl
 one _:=rfl
 plain _:=rfl
instance:bD X' where
 cells b:=[.bool b]
 agg:=O
 size:=1
 len _:=rfl
 good _:=rfl
 one _:=rfl
 plain _:=rfl
instance:bD U' where
 cells s:=[.str s]
 agg:=O
 size:=1
 len _:=rfl
 good _:=rfl
 one _:=rfl
 plain _:=rfl
structure bf where
 proc:Int
 index:Int
 deriving DecidableEq,Inhabited
instance:bD bf where
 cells x:=[.int _r x.proc,.int _r x.index]
 agg:=U
 size:=2
 len _:=rfl
 good _:=rfl
 one _:=rfl
 plain h:=by cases h
@[simp] def ad4(n:Int):enc n=.int _r n:=rfl
@[simp] def ad2(n:X'):enc n=.bool n:=rfl
@[simp] def ad7(n:U'):enc n=.str n:=rfl
@[simp] def adq(n:Int):cells n=[.int _r n]:=rfl
@[simp] def acB(n:X'):cells n=[.bool n]:=rfl
@[simp] def ado(n:U'):cells n=[.str n]:=rfl
@[simp] def adI(n:bf):cells n=[.int _r n.proc,.int _r n.index]:=rfl
@[simp] def aa8(n:bf):enc n=.agg [.int _r n.proc,.int _r n.index]:=rfl
section
variable{α:Type}[bD α]
def iz(l:aY α):W (rows l)=W l:=by simp[rows]
def idx(s:Sl α)(i:Int):aX α:=if 0<=i then s.l[i.toNat]?else J
def Ui{N:Nat->Y'}(s:Sl α)(k:T2)(i:Int){n:Nat}(B:n=bD.size α):bW N (.idxS n) [cE s,.int k i]=(idx s i).map λx=>.fptr (cells x):=by subst B;unfold idx cE;simp only[bW,oh];by_cases h:i<0;rw[L' h,M' a?];rfl;rw[M' h,L' a?];cases s<;>simp[Sl.k,Sl.l,lQ,rows,Function.comp_def]
def Tg{N:Nat->Y'}(s:Sl α):bW N .lenSl [cE s]=M (.int _r (W s.l)):=by cases s<;>simp[bW,qP,cE,Sl.k,Sl.l,lQ,iz]
end
section
variable{S:Sys}{c:b_}
end
end Go.VE
namespace Go.VE
variable[b7]
section
variable{S:Sys}{c:b_}
def isSlice:xS->X'
 |.slice ..=>U|_=>O
def Rf(dr:X')(fr:ST)(dst:aX Nat)(now:X')(p:xS)(az:QR)(st:St)(h:isSlice p=O):
 gT S c dr fr ⟨dst,J,now,.p p,az,[],[]⟩ st=H (b9 S.N st.g az) λm?=>H (lP S.N st.m p m?) λx=>M (dA st dst x):=by
 unfold gT ox;have u:ij S.N st.g ⟨dst,J,now,.p p,az,[],[]⟩=J:=by unfold ij;grind
 simp[wanted,u]
 cases z:b9 S.N st.g az with
 |none=>rfl|some m?=>simp;cases p<;>first|(simp[isSlice]at h;done)|(cases w:lP S.N st.m _ m?<;>simp[w])
def Ou(N:Nat->Y')(m:Tb bG)(p:xS)(m?:SW)(xs:So)(h:dG m?=M xs):lP N m p m?=H (bW N p xs) λx=>M (.v x):=by unfold lP;rw[h];dsimp only;cases bW N p xs<;>rfl
def FO(dr:X')(fr:ST)(dst:aX Nat)(now:X')(q:Oq)(az:QR)(st:St):
 gT S c dr fr ⟨dst,J,now,.r q,az,[],[]⟩ st=H (b9 S.N st.g az) λm?=>if !dr||now||gw fr m? then(sn st.m q m?).bind λx=>M (dA st dst x)else J:=by
 unfold gT ox;have u:ij S.N st.g ⟨dst,J,now,.r q,az,[],[]⟩=J:=rfl;simp[wanted,u]
 cases w:b9 S.N st.g az with
 |none=>rfl|some m?=>
  simp;split
  .cases z:sn st.m q m?<;>simp
  rfl
def DZ(dr:X')(fr:ST)(d:Nat)(now:X')(q:Tt)(az:QR)(st:St):
 gT S c dr fr ⟨M d,J,now,.a q,az,[],[]⟩ st=H (b9 S.N st.g az) λm?=>if st.new d then(qI st.m q m? d).bind λr=>M {st with g:=bJ st.g d r.2,m:=bJ st.m d r.1}else J:=by
 unfold gT ox;have u:ij S.N st.g ⟨M d,J,now,.a q,az,[],[]⟩=J:=rfl;simp[wanted,u]
 cases w:b9 S.N st.g az with
 |none=>rfl|some m?=>
  simp;split
  .cases z:qI st.m q m? d<;>simp[dA]
  rfl
def wZ(dr:X')(fr:ST)(dst:aX Nat)(now:X')(q:On)(az:QR)(st:St):
 gT S c dr fr ⟨dst,J,now,.l q,az,[],[]⟩ st=H (b9 S.N st.g az) λm?=>if !dr||now then(mO st dst q m?).bind λr=>M (dA r.2 dst r.1)else J:=by
 unfold gT ox;have u:ij S.N st.g ⟨dst,J,now,.l q,az,[],[]⟩=J:=rfl;simp[wanted,u]
 cases w:b9 S.N st.g az with
 |none=>rfl|some m?=>
  simp;split
  .cases z:mO st dst q m?<;>simp
  rfl
def mz:SW->aX (Y'×SW)
 |.clo f a b::vs=>M (f,a++vs++b)|.v (.clo f a b)::vs=>M (f,a.map .v++vs++b.map .v)|_=>J
def vP(dr:X')(fr:ST)(dst:aX Nat)(now:X')(az:QR)(st:St)(m?:SW)(f:Y')(args:SW)(B:b9 S.N st.g az=M m?)(a:mz m?=M (f,args)):
 gT S c dr fr ⟨dst,J,now,.c,az,[],[]⟩ st=H (e_ S c dst dr (!dr||now) (gm st.m fr) f args st) λr=>M (dA r.2 dst r.1):=by
 unfold gT ox;unfold mz at a;split at a
 .obtain⟨rfl,rfl⟩:=a;simp[wanted,ij,B];cases e_ S c dst dr _ _ _ _ st<;>simp
 .obtain⟨rfl,rfl⟩:=a;simp[wanted,ij,B];cases e_ S c dst dr _ _ _ _ st<;>simp
 grind
def Uz{β:Type}(S:Sys)(c:b_)(fr:ST)(l:R0)(k:St->aX β):St->aX β:=λst=>H (qf S c O fr l st) k
def Wh{β:Type}(S:Sys)(c:b_)(fr:ST)(l:R0)(k:St->aX β):St->aX β:=λst=>H (qf S c U fr l st) k
def abN{β:Type}(S:Sys)(c:b_)(fr dd:ST)(l:R0)(k:St->aX β):St->aX β:=λst=>Uz S c fr l k (su dd st)
def aaF{β:Type}(S:Sys)(c:b_)(fr dd:ST)(l:R0)(k:St->aX β):St->aX β:=λst=>Wh S c fr l k (su dd st)
@[congr] def acg{β:Type}{fr:ST}{l:R0}{k:St->aX β}{st e?:St}(h:st=e?):Uz S c fr l k st=Uz S c fr l k e?:=by rw[h]
@[congr] def acR{β:Type}{fr B:ST}{l:R0}{k:St->aX β}{st e?:St}(D:fr=B)(h:st=e?):Wh S c fr l k st=Wh S c B l k e?:=o?
@[congr] def acF{β:Type}{fr dd:ST}{l:R0}{k:St->aX β}{st e?:St}(h:st=e?):abN S c fr dd l k st=abN S c fr dd l k e?:=by rw[h]
@[congr] def acG{β:Type}{fr B dd:ST}{l:R0}{k:St->aX β}{st e?:St}(D:fr=B)(h:st=e?):aaF S c fr dd l k st=aaF S c B dd l k e?:=o?
@[congr] def ads{dr:X'}{fr:ST}{o:RO}{st e?:St}(h:st=e?):gT S c dr fr o st=gT S c dr fr o e?:=by rw[h]
end
section
variable{S:Sys}{c:b_}(dr:X')(fr:ST)(dst:aX Nat)(now:X')(az:QR)(st:St)
end
inductive Fm where
 |seq(b:RC)|blk(id:Nat)|gst(x:Gh)
abbrev QQ:=aY Fm
section
variable(S:Sys)(c:b_){β:Type}(Q:Out×St->aX β)
def runK:QQ->Out×St->aX β
 |[],r=>Q r|.seq b::fs,(.norm,st)=>H (cV S c b st) (runK fs)|.seq _::fs,r=>runK fs r|.blk id::fs,(.exit k,st)=>if k=id then runK fs (.norm,st)else runK fs (.exit k,st)|.blk _::fs,r=>runK fs r|.gst x::fs,(.norm,st)=>H (ghost x st) λst=>runK fs (.norm,st)|.gst _::fs,r=>runK fs r
def go(a:RC)(fs:QQ)(st:St):aX β:=H (cV S c a st) (runK S c Q fs)
def W9(fs:QQ):St->aX β:=λst=>runK S c Q fs (.norm,st)
def bh{α:Type}(t:X')(a b:α):α:=if t then a else b
end
@[congr] def adC{α:Type}{t B:X'}{a b a' D:α}(h:t=B)(G:B=U->a=a')(g:B=O->b=D):bh t a b=bh B a' D:=by subst h;cases t;exact g Y;exact G Y
section
variable{S:Sys}{c:b_}{β:Type}{Q:Out×St->aX β}
@[congr] def go_congr{a:RC}{fs:QQ}{st e?:St}(h:st=e?):go S c Q a fs st=go S c Q a fs e?:=by rw[h]
@[congr] def ab5{fs:QQ}{st e?:St}(h:st=e?):W9 S c Q fs st=W9 S c Q fs e?:=by rw[h]
@[congr] def acy{fs:QQ}{r B:Out×St}(h:r=B):runK S c Q fs r=runK S c Q fs B:=by rw[h]
def L0(a:RC)(st:St):H (cV S c a st) Q=go S c Q a [] st:=by simp only[go];cases cV S c a st<;>rfl
inductive Fw(ν ε ρ:Type)where
 |n(a:ν)|x(e:ε)|r(b:ρ)
def nV{σ ε ρ:Type}(step:σ->aX (Fw σ ε ρ)):Nat->σ->aX (Fw Empty ε ρ)
 |0,_=>J|k+1,s=>match step s with
  |some (.n B)=>nV step k B|some (.x e)=>M (.x e)|some (.r b)=>M (.r b)|none=>J
def An{σ ε ρ:Type}{step:σ->aX (Fw σ ε ρ)}:∀{k B:Nat}{s:σ}{r:Fw Empty ε ρ},k<=B->nV step k s=M r->nV step B s=M r
 |0,_,_,_,_,h=>by simp[nV]at h|k+1,0,_,_,hk,_=>a?|k+1,B+1,s,r,hk,h=>by simp only[nV]at h⊢;split at h;exact An (Nat.le_of_succ_le_succ hk) h;exact h;exact h;simp at h
open Classical in
def bL{σ ε ρ:Type}(step:σ->aX (Fw σ ε ρ))(s:σ):aX (Fw Empty ε ρ):=if h:∃k r,nV step k s=M r then M (Classical.choose (S? h))else J
def sW{σ ε ρ:Type}{step:σ->aX (Fw σ ε ρ)}{s:σ}{r:Fw Empty ε ρ}:bL step s=M r↔∃k,nV step k s=M r:=by
 unfold bL;constructor;intro h;split at h;next u=>simp only[ζa]at h;exact⟨_,by rw[<-h];exact S? (S? u)⟩
 simp at h;rintro⟨k,a⟩;have u:∃k r,nV step k s=M r:=⟨k,r,a⟩;rw[dif_pos u];have z:=S? (S? u);have B:=An (Nat.le_max_left (Classical.choose u) k) z;have w:=An (Nat.le_max_right (Classical.choose u) k) a;rw[B]at w;exact w
def Fw.out{ν ε ρ:Type}(B:ν->St)(eε:ε->Nat×St)(eρ:ρ->St):Fw ν ε ρ->Out×St
 |.n a=>(.norm,B a)|.x e=>(.exit (eε e).1,(eε e).2)|.r b=>(.ret,eρ b)
def Fw.elim{ε ρ γ:Type}(B:ε->γ)(fr:ρ->γ):Fw Empty ε ρ->γ
 |.x e=>B e|.r b=>fr b
end
section
variable{α:Type}[bD α]
def IS(s:Sl α):V.one (cE s)=U:=by cases s<;>rfl
def Sj(l:aY α):V.pL (rows l)=U:=by induction l with|nil=>rfl|cons a l u=>simp only[rows,K?,V.pL,ζh];exact⟨bD.good a,u⟩
def Q2(s:Sl α):V.good (cE s)=U:=by cases s<;>simp only[cE,Sl.k,lQ,V.good]<;>exact Sj _
instance:bD (Sl α)where
 cells s:=[cE s]
 agg:=O
 size:=1
 len _:=rfl
 good s:=by simp only[V.c_,Q2,Bool.and_self]
 one s:=by simp[IS]
 plain _:=rfl
def U9(s:Sl α):cells s=[cE s]:=rfl
end
section
variable{S:Sys}{c:b_}
def R6(x:aX SV)(b:X')(y z:aX St):aX St:=
 match x with
 |some (.v (.bool t))=>bh (t==b) y z|some (.v _)=>z|_=>J
@[congr] def aa6{x B:aX SV}{b:X'}{y z:aX St}(h:x=B):R6 x b y z=R6 B b y z:=by rw[h]
def Xm{β:Type}(x:aX SV)(y z:aX β):aX β:=
 match x with
 |some (.v (.bool t))=>bh t y z|_=>J
@[congr] def ab7{β:Type}{x B:aX SV}{y z:aX β}(h:x=B):Xm x y z=Xm B y z:=by rw[h]
def iB(c:b_)(f:Y')(az:So):aX So:=H (c f (az.map .v) []) λr=>dH r.2 8 r.1
def TP(now:X')(args:SW)(ok:X')(st:St)(ys:So):aX (SV×St):=if(result ys).scalar||ok then M (.v (result ys),st)else if now then(rowsOf st.m args).map λds=>(.v (result ys),{st with m:=sj ds st.m})else J
def Zz(dst:aX Nat)(dr now:X')(old:SW->X')(f:Y')(args:SW)(st:St)(a:S.E.keep f=O):
 e_ S c dst dr now old f args st=H (dH st.m 8 args) λaz=>if now||old args then(iB c f az).bind (TP now args (dG args).isSome st)else J:=by
 unfold e_ iB;simp only[a,Bool.false_eq_true,_a]
 cases dH st.m 8 args with
 |none=>rfl|some az=>
  simp only[ζb];split
  .cases c f (az.map .v) []with
   |none=>rfl|some r=>have⟨rs,m'⟩:=r;simp only[ζb];cases dH m' 8 rs<;>rfl
  rfl
end
section
variable{S:Sys}{T:sY}
def Ll(rs:aY RV):Out×St->aX So
 |(.exit _,_)=>J|(_,st)=>H (lz st rs) (dH st.m 8)
def Wo{f:Y'}{rf:RF}(B:T f=M rf)(az:So)(D:W az<=rf.na):iB (dB S T) f az=go S (dB S T) (Ll rf.rs) rf.body [] (start (az.map .v) []):=by unfold iB;rw[uy B];unfold pM;rw[L' (by simpa using D),<-L0];cases h:cV S (dB S T) rf.body (start (az.map .v) [])with|none=>rfl|some r=>have⟨o,st⟩:=r;cases o<;>simp only[ζb,Ll]<;>(try rfl)<;>(cases lz st rf.rs<;>rfl)
end
end Go.VE
namespace Go.VE
variable[b7]
variable{N:Nat->Y'}
def x_(k:T2)(a b:Int):Ps:=if b=0 then J else M (k.wrap (a.tdiv b))
def abO(e:aX KT)(q:aX Nat)(k:T2)(a b:Int):bW N (.bin e q .quo) [.int k a,.int k b]=H (x_ k a b) λx=>M (.int k x):=by simp only[bW,pg,x_,N'];split<;>rfl
def Lj(o:Nat)(cs:So):bW N (.fieldAddr o) [.fptr cs]=if o<=W cs then M (.fptr (cs.drop o))else J:=rfl
def nF(s:U')(n:Int):Ps:=if 0<=n then(s[n.toNat]?).map λb=>(b.toNat:Int)else J
def RS(s:U')(k:T2)(n:Int):bW N .idxStr [.str s,.int k n]=H (nF s n) λx=>M (.int .u8 x):=by simp only[bW,nF];split;cases s[n.toNat]?<;>rfl;rfl
def Wc(z:So)(pl:aY (Nat×Nat))(vs:So):bW N (.build z pl) vs=H (mW z pl vs) λcs=>M (.agg cs):=by simp only[bW];cases mW z pl vs<;>rfl
section
variable{α:Type}[bD α]
def OH(s:Sl α)(k:T2)(i:Int)(n:Nat)(B:n=bD.size α):bW N (.idxS n) [cE s,.int k i]=H (idx s i) λx=>M (.fptr (cells x)):=by rw[Ui s k i B];cases idx s i<;>rfl
def L_(s:Sl α):bW N .lenSl [cE s]=M (.int _r (W s.l)):=Tg s
def Sl.isNil{α:Type}(s:Sl α):aX X':=
 match s with
 |.nil=>M U|.emp=>J|_=>M O
def Wx(q:aX Nat)(s:Sl α):bW N (.bin (M .slice) q .eql) [cE s,.bN]=s.isNil.bind λt=>M (.bool t):=by cases s<;>rfl
def iK(s:Sl α)(lo hi:Ps):aX (Sl α):=
 (eD (W s.l) lo hi).map λ(l,h)=>match s with
  |.nil=>.nil|.emp=>.emp|.row x=>.part ((x.take h).drop l)|.part x=>.part ((x.take h).drop l)
def P9(s:Sl α)(lo hi:Ps)(n:Nat)(B:n=bD.size α):jW n (cE s) lo hi=H (iK s lo hi) λx=>M (cE x):=by subst B;cases s with|nil=>simp only[cE,Sl.k,lQ,jW,iK,Sl.l,v6];cases eD 0 lo hi<;>rfl|emp=>simp only[cE,Sl.k,lQ,jW,iK,Sl.l,v6];cases eD 0 lo hi<;>rfl|row l=>simp only[cE,Sl.k,lQ,jW,iK,Sl.l,N',iz];cases eD (W l) lo hi<;>simp[rows,w0,f8]|part l=>simp only[cE,Sl.k,lQ,jW,iK,Sl.l,N',iz];cases eD (W l) lo hi<;>simp[rows,w0,f8]
end
def Sq(m:Tb bG)(n:Nat)(a:X')(cs:So):sn m (.load n a) [.v (.fptr cs)]=H (cut cs 0 n) λr=>H (mk a r) λx=>M (.v x):=by simp only[sn,fJ];cases cut cs 0 n with|none=>rfl|some r=>simp only[ζb];cases mk a r<;>rfl
end Go.VE
namespace Go.VE
variable[b7]
section
variable{α:Type}[bD α]
def cH(s:Sl α):bG:=.sl s.k (bD.size α) (rows s.l)
def Sl.iE(s:Sl α)(i:Int):aX Nat:=if 0<=i/\i.toNat<W s.l then M i.toNat else J
def Sl.get(s:Sl α)(i:Nat):aX α:=s.l[i]?
def Sl.put(s:Sl α)(i:Nat)(x:α):aX (Sl α):=if i<W s.l then M (match s with|.row l=>.row (l.set i x)|.part l=>.part (l.set i x)|s=>s)else J
def eH(s:Sl α)(x:α):aX (Sl α):=if W s.l+1<=2147483648 then M (.row (s.l++[x]))else J
def jQ(n:Int)(z:α):aX (Sl α):=if 0<=n/\n<=2147483648 then M (.row (replicate n.toNat z))else J
end
section
variable{α:Type}[bD α]{N:Nat->Y'}{m:Tb bG}
def Mh(n d:Nat)(o:aX bG)(i:Int):aX SV:=
 match o with
 |some (.sl k es u)=>if cg k/\es=n/\0<=i/\i.toNat<W u then M (.el d i.toNat 0)else J|some (.dp k u _)=>if cg k/\1=n/\0<=i/\i.toNat<W u then M (.el d i.toNat 0)else J|_=>J
def Oi(n d:Nat)(k:T2)(i:Int):lP N m (.idxS n) [.own d,.v (.int k i)]=Mh n d (bk m d) i:=by simp[lP,dG,D4,Mh];grind
def YC(n d:Nat)(s:Sl α)(i:Int)(h:n=bD.size α):Mh n d (M (cH s)) i=H (s.iE i) λj=>M (.el d j 0):=by simp[Mh,cH,iz,Sl.iE];cases s with|nil=>simp[Sl.l,cg]|emp=>simp[Sl.l,cg]|row l=>simp[Sl.k,Sl.l,cg];grind|part l=>simp[Sl.k,Sl.l,cg];grind
def O9(o:aX bG):aX SV:=
 match o with
 |some (.sl _ _ u)=>M (.v (.int _r (W u)))|some (.dp _ u _)=>M (.v (.int _r (W u)))|_=>J
def VZ(d:Nat):lP N m .lenSl [.own d]=O9 (bk m d):=by simp[lP,dG,D4,O9];grind
def Zn(s:Sl α):O9 (M (cH s))=M (.v (.int _r (W s.l))):=by simp[O9,cH,iz]
def WX(n:Nat)(a:X')(o:Nat)(ob:aX bG):aX SV:=
 match ob with
 |some (.box cs)=>yJ n a ((cs.drop o).take n)|_=>J
def adQ(n:Nat)(a:X')(d o:Nat):sn m (.load n a) [.ptr d o]=WX n a o (bk m d):=by rfl
def RL(n:Nat)(a:X')(o:Nat)(cs:SW):WX n a o (M (.box cs))=yJ n a ((cs.drop o).take n):=rfl
def Gn(n:Nat)(a:X')(i o:Nat)(ob:aX bG):aX SV:=
 match ob with
 |some (.sl _ _ u)=>match u[i]?with
  |some cs=>(H (cut cs o n) (mk a)).map .v|none=>J
 |some (.dp _ _ (M (j,t)))=>if j=i/\o=0/\n=1/\a=O then M (.own t)else J|_=>J
def Xs(n:Nat)(a:X')(d i o:Nat):sn m (.load n a) [.el d i o]=Gn n a i o (bk m d):=by rfl
def TC(n:Nat)(a:X')(i o:Nat)(s:Sl α):Gn n a i o (M (cH s))=H (s.get i) λx=>H (cut (cells x) o n) λr=>H (mk a r) λy=>M (.v y):=by simp only[Gn,cH,Sl.get,rows,List.getElem?_map];cases s.l[i]?with|none=>rfl|some x=>simp only[A?,ζb];cases cut (cells x) o n with|none=>rfl|some r=>simp;cases mk a r<;>rfl
def acH(z:α)(n:Int)(d:Nat)(size:Nat)(zero:So)(h:zero=cells z)(B:size=bD.size α):
 qI m (.makeSl size zero) [.v (.int _r n),.v (.int _r n)] d=H (jQ n z) λs=>M (cH s,.own d):=by
 subst h B;simp[qI,jQ];split
 .simp[cH,Sl.k,Sl.l,rows]
 rfl
def HR(st:St)(d i o size:Nat)(x:V)(ob:aX bG):aX (SV×St):=
 match ob with
 |some (.sl k es u)=>match u[i]?with
  |some cs=>if W x.cells=size/\o+size<=W cs/\x.cells.all V.one=U then
   M (.v .undef,{st with m:=bJ st.m d (.sl k es (u.set i (cs.take o++x.cells++cs.drop (o+W x.cells))))})else J
  |none=>J
 |_=>J
def QN(st:St)(dst:aX Nat)(size d i o:Nat)(x:V):mO st dst (.store size) [.el d i o,.v x]=HR st d i o size x (bk st.m d):=by rfl
def P_(g:Tb SV)(p:ST)(w:S')(B:X')(y:Nat)(d i size:Nat)(x:V)(a:α)(D:x.cells=cells a)(G:size=bD.size α)(s:Sl α):
 HR ⟨g,m,p,w,B,y⟩ d i 0 size x (M (cH s))=H (s.put i a) λh=>M (.v .undef,⟨g,bJ m d (cH h),p,w,B,y⟩):=by
 have c:(cells a).all V.one=U:=bD.one a;have u:∀b:α,W (cells b)=bD.size α:=bD.len;subst G;simp only[HR,cH,rows,List.getElem?_map,D,Sl.put]
 by_cases hi:i<(W s.l)
 .have hg:=ζd hi;rw[L' hi,hg];simp[u,c]
  cases s with
  |nil=>simp[Sl.l]at hi|emp=>simp[Sl.l]at hi|row l=>simp[Sl.k,Sl.l,List.drop_of_length_le,u]|part l=>simp[Sl.k,Sl.l,List.drop_of_length_le,u]
 grind
def As(st:St)(t n:Nat)(s:SV)(xs ys:aX S'):aX (SV×St):=
 match xs,ys with
 |some _,M []=>match s with
  |.own d=>match bk st.m d with
   |some ob=>if St.new {st with m:=dJ d st.m} t then M (.own t,{st with m:=bJ (dJ d st.m) t ob})else J|none=>J
  |.v .bN=>if st.new t then M (.own t,{st with m:=bJ st.m t (.sl .nil n [])})else J|.v .dS=>if st.new t then M (.own t,{st with m:=bJ st.m t (.sl .emp n [])})else J|_=>J
 |some xs,M ys=>
  if W xs+W ys<=2147483648/\K3 s=U then
   if St.new {st with m:=giveUp st.m s} t then M (.own t,{st with m:=bJ (giveUp st.m s) t (.sl .row n (xs++ys))})else J
  else J
 |_,_=>J
def Af{st:St}{t n:Nat}{s x:SV}{xs ys:S'}(a:jP st.m n s=M xs)(B:jP st.m n x=M ys):mO st (M t) (.append n) [s,x]=As st t n s (M xs) (M ys):=by cases ys<;>cases s<;>cases x<;>(unfold mO As;simp only[a,B];try rfl)
def P7(n:Nat)(o:aX bG):aX S':=
 match o with
 |some (.sl k es u)=>if cg k then(if es=n then M u else J)else M []|_=>J
def Dy(n d:Nat):jP m n (.own d)=P7 n (bk m d):=by simp[jP,P7];grind
def DE(n:Nat)(s:Sl α)(h:n=bD.size α):P7 n (M (cH s))=M (rows s.l):=by subst h;cases s<;>simp[P7,cH,Sl.k,Sl.l,cg,rows]
def YO(n:Nat):jP m n (.v .bN)=M []:=rfl
def Yo(n:Nat):jP m n (.v .dS)=M []:=rfl
def R4(g:Tb SV)(p:ST)(w:S')(B:X')(y:Nat)(t n d:Nat)(l:aY α)(x:α)(h:n=bD.size α):As ⟨g,m,p,w,B,y⟩ t n (.own d) (M (rows l)) (M (rows [x]))=
 H (eH (.row l) x) λs=>if St.new ⟨g,dJ d m,p,w,B,y⟩ t then M (.own t,⟨g,bJ (dJ d m) t (cH s),p,w,B,y⟩)else J:=by
 subst h;have e:W (rows l)+W (rows [x])=W l+1:=by simp[iz]
 by_cases h:W l+1<=2147483648
 .have a:eH (.row l) x=M (.row (l++[x])):=L' h;have u:As ⟨g,m,p,w,B,y⟩ t (bD.size α) (.own d) (M (rows l)) (M (rows [x]))=if St.new ⟨g,dJ d m,p,w,B,y⟩ t then M (.own t,⟨g,bJ (dJ d m) t (.sl .row (bD.size α) (rows l++rows [x])),p,w,B,y⟩)else J:=L' ⟨a?,Y⟩
  rw[a,u];simp[cH,Sl.k,Sl.l,rows]
 have a:eH (.row l) x=J:=M' h;have u:As ⟨g,m,p,w,B,y⟩ t (bD.size α) (.own d) (M (rows l)) (M (rows [x]))=J:=M' (λq=>h a?)
 grind
def RJ(g:Tb SV)(p:ST)(w:S')(B:X')(y:Nat)(t n:Nat)(x:α)(h:n=bD.size α):As ⟨g,m,p,w,B,y⟩ t n (.v .bN) (M []) (M (rows [x]))=
 if St.new ⟨g,m,p,w,B,y⟩ t then M (.own t,⟨g,bJ m t (cH (.row [x])),p,w,B,y⟩)else J:=by
 subst h;rfl
def Tk(g:Tb SV)(p:ST)(w:S')(B:X')(y:Nat)(t n:Nat)(x:α)(h:n=bD.size α):As ⟨g,m,p,w,B,y⟩ t n (.v .dS) (M []) (M (rows [x]))=
 if St.new ⟨g,m,p,w,B,y⟩ t then M (.own t,⟨g,bJ m t (cH (.row [x])),p,w,B,y⟩)else J:=by
 subst h;rfl
end
def AS(g:Tb SV)(m:Tb bG)(p:ST)(w:S')(B:X')(y d:Nat):St.new ⟨g,m,p,w,B,y⟩ d=(!(p.contains d)&&(bk m d).isNone&& !(wT d g)&& !(vN d m)):=rfl
def ve(d:Nat):wT d []=O:=rfl
def tD(d n:Nat)(x:SV)(r:Tb SV):wT d ((n,x)::r)=(SV.cZ d x||wT d r):=rfl
def vc(d:Nat):vN d []=O:=rfl
def tF(d n:Nat)(x:bG)(r:Tb bG):vN d ((n,x)::r)=(bG.cZ d x||vN d r):=rfl
def A6(d:Nat)(x:V):SV.cZ d (.v x)=O:=rfl
def wE(d e:Nat):SV.cZ d (.own e)=(e==d):=rfl
def wL(d e o:Nat):SV.cZ d (.ptr e o)=(e==d):=rfl
def yW(d e i o:Nat):SV.cZ d (.el e i o)=(e==d):=rfl
def yY(d e:Nat):SV.cZ d (.mp e)=(e==d):=rfl
def wu(d:Nat)(f:Y')(a b:SW):SV.cZ d (.clo f a b)=(SV.dX d a||SV.dX d b):=rfl
def wI(d:Nat)(l:SW):SV.cZ d (.tup l)=SV.dX d l:=rfl
def u_(d:Nat):SV.dX d []=O:=rfl
def tE(d:Nat)(x:SV)(r:SW):SV.dX d (x::r)=(SV.cZ d x||SV.dX d r):=rfl
def vf(d:Nat)(cs:SW):bG.cZ d (.box cs)=SV.dX d cs:=rfl
def IU(m:Tb bG)(n:Nat):dH m n []=M []:=by cases n<;>simp[dH]
def Gf(m:Tb bG)(n:Nat)(x:SV)(r:SW):dH m n (x::r)=H (shut m n x) λy=>H (dH m n r) λs=>M (y::s):=by cases n<;>(simp[dH];cases shut m _ x<;>(try rfl)<;>(cases dH m _ r<;>rfl))
def abl(m:Tb bG)(n:Nat)(x:V):shut m n (.v x)=M x:=by cases n<;>simp[shut]
def VM(m:Tb bG)(n:Nat)(f:Y')(a b:SW):shut m (n+1) (.clo f a b)=H (dH m n a) λx=>H (dH m n b) λy=>M (.clo f x y):=by simp[shut];cases dH m n a<;>(try rfl)<;>(cases dH m n b<;>rfl)
def U5(m:Tb bG)(n:Nat)(l:SW):shut m (n+1) (.tup l)=H (dH m n l) λx=>M (.tup x):=by simp[shut];cases dH m n l<;>rfl
def U_(m:Tb bG)(n:Nat)(l:SW):shut m (n+1) (.agg l)=H (dH m n l) λx=>M (.agg x):=by simp[shut];cases dH m n l<;>rfl
def wK{α:Type}(n:Nat):dJ n ([]:Tb α)=[]:=rfl
def vi{α:Type}(n k:Nat)(x:α)(r:Tb α):dJ n ((k,x)::r)=if k=n then dJ n r else(k,x)::dJ n r:=rfl
def mapM_nil(f:SW->SW):mapM f []=[]:=rfl
section
variable{N:Nat->Y'}{m:Tb bG}
def YU:result []=.tup []:=rfl
def ZB(x:V):result [x]=x:=rfl
def X2(x y:V)(l:So):result (x::y::l)=.tup (x::y::l):=rfl
def MW(p:xS)(a:V):lP N m p [.v a]=H (bW N p [a]) λx=>M (.v x):=Ou N m p _ [a] Y
def zk(p:xS)(a b:V):lP N m p [.v a,.v b]=H (bW N p [a,b]) λx=>M (.v x):=Ou N m p _ [a,b] Y
def l8(l:So):dG (l.map .v)=M l:=by induction l with|nil=>rfl|cons a l u=>simp only[K?,dG,u];rfl
def vl(n:Nat)(l:So):dH m n (l.map .v)=M l:=by induction l with|nil=>exact IU m n|cons a l u=>rw[K?,Gf,abl,u];rfl
def JD(cs:So):mW cs [] []=M cs:=rfl
def GA(cs:So)(off size:Nat)(pl:aY (Nat×Nat))(v:V)(vs:So):mW cs ((off,size)::pl) (v::vs)=
 if W v.cells=size/\off+W v.cells<=W cs then mW (cs.take off++v.cells++cs.drop (off+W v.cells)) pl vs else J:=by
 simp only[mW]
 by_cases h:W v.cells=size<;>by_cases u:off+W v.cells<=(W cs)
 .rw[M' (by simp[h];omega),L' ⟨h,u⟩]
 .rw[L' (by simp[h];omega),M' (λq=>u q.2)]
 .rw[L' (by simp[h]),M' (λq=>h q.1)]
 rw[L' (by simp[h]),M' (λq=>h q.1)]
def SL(k:T2)(n:Int):V.cells (.int k n)=[.int k n]:=rfl
def N6(n:X'):V.cells (.bool n)=[.bool n]:=rfl
def RE(n:U'):V.cells (.str n)=[.str n]:=rfl
def SQ:V.cells .bN=[.bN]:=rfl
def qw(k:T2)(n:Int):V.one (.int k n)=U:=rfl
def oL(n:X'):V.one (.bool n)=U:=rfl
def qC(n:U'):V.one (.str n)=U:=rfl
end
section
variable{S:Sys}{c:b_}{β γ δ:Type}{Q:Out×St->aX β}{L:aX β}{e:γ->aX β}
def SB{dr:X'}{fr:ST}{d:aX Nat}{gd:aX (Nat×X')}{now:X'}{k:K}{az:QR}{st:St}(h:wanted st.g gd=M U):
 gT S c dr fr ⟨d,gd,now,k,az,[],[]⟩ st=gT S c dr fr ⟨d,J,now,k,az,[],[]⟩ st:=by
 unfold gT;rw[h];rfl
def EI(dr:X')(st:St):Fh dr [] st=M st:=by cases dr<;>rfl
def qO(f:SV->aX V):SW->aX So
 |[]=>M []|x::r=>H (f x) λy=>H (qO f r) λs=>M (y::s)
def kH(m:Tb bG):Nat->SV->aX V
 |0,x=>match x with
  |.v y=>M y|.own d=>match bk m d with
   |some (.sl k es xs)=>M (lQ k es xs)|some (.dp k xs J)=>M (lQ k 1 xs)|_=>J
  |.mp d=>match bk m d with
   |some (.mp B)=>M (.fmap B)|_=>J
  |_=>J
 |n+1,x=>match x with
  |.v y=>M y|.own d=>match bk m d with
   |some (.sl k es xs)=>M (lQ k es xs)|some (.dp k xs J)=>M (lQ k 1 xs)|_=>J
  |.ptr d o=>match bk m d with
   |some (.box cs)=>match qO (kH m n) cs with
    |some xs=>if o<=W xs then M (.fptr (xs.drop o))else J|none=>J
   |_=>J
  |.mp d=>match bk m d with
   |some (.mp B)=>M (.fmap B)|_=>J
  |.clo f a b=>H (qO (kH m n) a) λx=>H (qO (kH m n) b) λy=>M (.clo f x y)|.tup l=>H (qO (kH m n) l) λx=>M (.tup x)|.agg l=>H (qO (kH m n) l) λx=>M (.agg x)|_=>J
def AW(m:Tb bG):∀(n:Nat),(∀x,shut m n x=kH m n x)/\∀l,dH m n l=qO (kH m n) l:=by
 have w:∀n,(∀x,shut m n x=kH m n x)->∀l,dH m n l=qO (kH m n) l:=by intro n h l;induction l with|nil=>exact IU m n|cons a l u=>rw[Gf,h a,u];rfl
 intro n;induction n with|zero=>have z:∀x,shut m 0 x=kH m 0 x:=(by intro x;cases x<;>simp[shut,kH]<;>rfl);grind|succ n u=>have c:∀x,shut m (n+1) x=kH m (n+1) x:=(by intro x;cases x with|ptr d o=>simp[shut,kH,u.2];rfl|clo f a b=>rw[VM,u.2,u.2];rfl|tup l=>rw[U5,u.2];rfl|agg l=>rw[U_,u.2];rfl|_=>simp[shut,kH]<;>rfl);grind
def yp(S:Sys)(c:b_)(dr:X'):ST->R0->(St->aX β)->St->aX β
 |_,[],k,st=>k st|fr,o::r,k,st=>(H (Fh dr o.pre st) (gT S c dr fr o.strip)).bind λe?=>yp S c dr (if dr then tX fr o.strip else fr) r k (su o.dead e?)
def HL(dr:X'):∀(l:R0)(fr:ST)(k:St->aX β)(st:St),yp S c dr fr l k st=H (qf S c dr fr l st) k
 |[],_,_,_=>rfl|o::r,fr,k,st=>by simp[yp,qf];cases(Fh dr o.pre st).bind (gT S c dr fr o.strip)with|none=>rfl|some e?=>exact HL dr r _ k _
def sw(S:Sys)(c:b_):RC->(St->aX β)->(Nat->St->aX β)->(St->aX β)->St->aX β
 |.skip,n,_,_,st=>n st|.ops l,n,_,_,st=>yp S c O [] l n st|.vJ l,n,_,_,st=>yp S c U [] l n st|.seq a b,n,x,r,st=>sw S c a (λst=>sw S c b n x r st) x r st|.cond y a b,n,x,r,st=>match tO S.N st.g y with
  |some (.v (.bool t))=>bh t (sw S c a n x r st) (sw S c b n x r st)|_=>J
 |.block id a,n,x,r,st=>sw S c a n (λk st=>if k=id then n st else x k st) r st|.loop a,n,x,r,st=>H (ri (cV S c a) st) λq=>match q with|(.norm,st)=>n st|(.exit k,st)=>x k st|(.ret,st)=>r st
 |.each g ps a b,n,x,r,st=>H (cV S c (.each g ps a b) st) λq=>match q with|(.norm,st)=>n st|(.exit k,st)=>x k st|(.ret,st)=>r st
 |.exit k,_,x,_,st=>x k st|.ret,_,_,r,st=>r st|.gh g a,n,x,r,st=>H (ghost g st) λst=>sw S c a n x r st|.hg a g,n,x,r,st=>sw S c a (λst=>H (ghost g st) n) x r st
def H7(n:St->aX β)(x:Nat->St->aX β)(r:St->aX β):Out×St->aX β
 |(.norm,st)=>n st|(.exit k,st)=>x k st|(.ret,st)=>r st
def FY:∀(d:RC)(n:St->aX β)(x:Nat->St->aX β)(r:St->aX β)(st:St),sw S c d n x r st=H (cV S c d st) (H7 n x r):=by
 intro d
 induction d with
 |skip=>intros;rfl|ops l=>intro n x r st;simp[sw,cV,HL];cases qf S c O [] l st<;>rfl|vJ l=>intro n x r st;simp[sw,cV,HL];cases qf S c U [] l st<;>rfl|seq a b u w=>intro n x r st;simp[sw,cV,u,w];cases h:cV S c a st with|none=>rfl|some q=>have⟨o,e?⟩:=q;cases o<;>rfl
 |cond y a b u w=>
  intro n x r st;simp[sw,cV,u,w]
  cases tO S.N st.g y with
  |none=>rfl|some v=>cases v with
   |v z=>cases z with
    |bool t=>cases t<;>rfl|_=>rfl
   |_=>rfl
 |block id a B=>intro n x r st;simp[sw,cV,B];cases h:cV S c a st with|none=>rfl|some q=>have⟨o,e?⟩:=q;cases o with|exit k=>simp[H7];split<;>rfl|_=>rfl
 |loop a B=>intro n x r st;rfl|each g ps a b u w=>intro n x r st;rfl|exit k=>intros;rfl|ret=>intros;rfl|gh g a B=>simp[sw,cV,B];grind|hg a g B=>intro n x r st;simp[sw,cV,B];cases h:cV S c a st with|none=>rfl|some q=>have⟨o,e?⟩:=q;cases o with|norm=>simp[H7];cases ghost g e?<;>rfl|_=>rfl
section
variable(S c Q)
mutual
def pV:QQ->St->aX β
 |[]=>λst=>Q (.norm,st)|.seq b::fs=>λst=>sw S c b (pV fs) (pU fs) (λst=>Q (.ret,st)) st|.blk _::fs=>pV fs|.gst g::fs=>λst=>H (ghost g st) (pV fs)
def pU:QQ->Nat->St->aX β
 |[]=>λk st=>Q (.exit k,st)|.seq _::fs=>pU fs|.blk id::fs=>λk st=>if k=id then pV fs st else pU fs k st|.gst _::fs=>pU fs
end
def mJ(a:RC)(fs:QQ)(st:St):aX β:=sw S c a (pV S c Q fs) (pU S c Q fs) (λst=>Q (.ret,st)) st
end
section
variable{dr:X'}{fr:ST}{d:Nat}{dst:aX Nat}{now:X'}{az:QR}{st:St}{α:Type}[bD α]
def OL{p:xS}{m?:SW}{m:aX δ}{v:δ->SV}(B:b9 S.N st.g az=M m?)(hi:isSlice p=O)(h:lP S.N st.m p m?=m.bind λx=>M (v x)):
 gT S c dr fr ⟨dst,J,now,.p p,az,[],[]⟩ st=m.bind λx=>M (dA st dst (v x)):=by
 rw[Rf _ _ _ _ _ _ _ hi,B]
 grind
def E9{p:xS}{m?:SW}{v:SV}(B:b9 S.N st.g az=M m?)(hi:isSlice p=O)(h:lP S.N st.m p m?=M v):
 gT S c dr fr ⟨dst,J,now,.p p,az,[],[]⟩ st=M (dA st dst v):=by
 rw[Rf _ _ _ _ _ _ _ hi,B]
 grind
def XE{n:Nat}{s:Sl α}{k:T2}{i:Int}(B:b9 S.N st.g az=M [.v (cE s),.v (.int k i)])(D:n=bD.size α):
 gT S c dr fr ⟨dst,J,now,.p (.idxS n),az,[],[]⟩ st=H (idx s i) λx=>M (dA st dst (.v (.fptr (cells x)))):=
 OL B Y (by rw[zk,OH s k i n D];grind)
def acI{n e:Nat}{s:Sl α}{k:T2}{i:Int}(B:b9 S.N st.g az=M [.own e,.v (.int k i)])(D:bk st.m e=M (cH s))(G:n=bD.size α):
 gT S c dr fr ⟨dst,J,now,.p (.idxS n),az,[],[]⟩ st=H (s.iE i) λj=>M (dA st dst (.el e j 0)):=
 OL B Y (by rw[Oi,D,YC n e s i G])
def WH{s:Sl α}(B:b9 S.N st.g az=M [.v (cE s)]):gT S c dr fr ⟨dst,J,now,.p .lenSl,az,[],[]⟩ st=M (dA st dst (.v (.int _r (W s.l)))):=E9 B Y (by rw[MW,L_];rfl)
def abT{e:Nat}{s:Sl α}(B:b9 S.N st.g az=M [.own e])(D:bk st.m e=M (cH s)):gT S c dr fr ⟨dst,J,now,.p .lenSl,az,[],[]⟩ st=M (dA st dst (.v (.int _r (W s.l)))):=E9 B Y (by rw[VZ,D,Zn])
def ac3{q:aX KT}{u:aX Nat}{k:T2}{a b:Int}(B:b9 S.N st.g az=M [.v (.int k a),.v (.int k b)]):gT S c dr fr ⟨dst,J,now,.p (.bin q u .quo),az,[],[]⟩ st=H (x_ k a b) λx=>M (dA st dst (.v (.int k x))):=OL B Y (by rw[zk,abO];grind)
def Zt{u:aX Nat}{s:Sl α}(B:b9 S.N st.g az=M [.v (cE s),.v .bN]):gT S c dr fr ⟨dst,J,now,.p (.bin (M .slice) u .eql),az,[],[]⟩ st=s.isNil.bind λt=>M (dA st dst (.v (.bool t))):=OL B Y (by rw[zk,Wx];grind)
def Vu{s:U'}{k:T2}{n:Int}(B:b9 S.N st.g az=M [.v (.str s),.v (.int k n)]):gT S c dr fr ⟨dst,J,now,.p .idxStr,az,[],[]⟩ st=H (nF s n) λx=>M (dA st dst (.v (.int .u8 x))):=OL B Y (by rw[zk,RS];grind)
def aby{n e i o:Nat}{a:X'}{s:Sl α}{v:α->V}(B:b9 S.N st.g az=M [.el e i o])(hd:(!dr||now||gw fr [.el e i o])=U)(D:bk st.m e=M (cH s))(b:∀x:α,H (cut (cells x) o n) (mk a)=M (v x)):
 gT S c dr fr ⟨dst,J,now,.r (.load n a),az,[],[]⟩ st=H (s.get i) λx=>M (dA st dst (.v (v x))):=by
 rw[FO,B];simp only[ζb,hd,Xs,D,TC]
 cases s.get i with
 |none=>rfl|some x=>
  cases d:cut (cells x) o n with
  |none=>grind|some r=>grind
def Yw{n e i:Nat}{s:Sl α}{x:V}{a:α}(B:b9 S.N st.g az=M [.el e i 0,.v x])(hd:(!dr||now)=U)(D:bk st.m e=M (cH s))(G:x.cells=cells a)(g:n=bD.size α):
 gT S c dr fr ⟨dst,J,now,.l (.store n),az,[],[]⟩ st=H (s.put i a) λT=>M (dA {st with m:=bJ st.m e (cH T)} dst (.v .undef)):=by
 rw[wZ,B];simp[hd,QN,D];rw[P_ st.g st.pin st.want st.more st.yid e i n x a G g s]
 grind
def abE{n:Nat}{z:α}{zero:So}{i:Int}(B:b9 S.N st.g az=M [.v (.int _r i),.v (.int _r i)])(D:zero=cells z)(G:n=bD.size α)(h:st.new d=U):
 gT S c dr fr ⟨M d,J,now,.a (.makeSl n zero),az,[],[]⟩ st=H (jQ i z) λs=>M {st with g:=bJ st.g d (.own d),m:=bJ st.m d (cH s)}:=by
 rw[DZ,B];simp[h];rw[acH z i d n zero D G]
 grind
def acw{n e u:Nat}{s:Sl α}{x:α}(G:b9 S.N st.g az=M [.own e,.own u])(hd:(!dr||now)=U)(h:bk st.m e=M (cH s))(a:bk st.m u=M (cH (.row [x])))(B:n=bD.size α)(T:St.new {st with m:=dJ e st.m} d=U):
 gT S c dr fr ⟨M d,J,now,.l (.append n),az,[],[]⟩ st=H (eH s x) λD=>M {st with g:=bJ st.g d (.own d),m:=bJ (dJ e st.m) d (cH D)}:=by
 rw[wZ,G];simp only[ζb,hd,N'];rw[Af (xs:=rows s.l) (ys:=rows [x]) (by rw[Dy,h,DE n s B]) (by rw[Dy,a,DE n (.row [x]) B];rfl)]
 have:=R4 (m:=st.m) st.g st.pin st.want st.more st.yid d n e s.l x B;rw[this];have w:eH (.row s.l) x=eH s x:=by cases s<;>rfl
 rw[w]
 cases eH s x with
 |none=>rfl|some D=>simp;rw[L' T];rfl
def aaU{n u:Nat}{x:α}{v:V}(a:v=.bN\/v=.dS)(G:b9 S.N st.g az=M [.v v,.own u])(hd:(!dr||now)=U)(b:bk st.m u=M (cH (.row [x])))(B:n=bD.size α)(D:st.new d=U):
 gT S c dr fr ⟨M d,J,now,.l (.append n),az,[],[]⟩ st=M {st with g:=bJ st.g d (.own d),m:=bJ st.m d (cH (.row [x]))}:=by
 rw[wZ,G];simp only[ζb,hd,N'];have w:jP st.m n (.own u)=M (rows [x]):=by rw[Dy,b,DE n (.row [x]) B];rfl
 rcases a with rfl|rfl
 .rw[Af (YO n) w,RJ (m:=st.m) st.g st.pin st.want st.more st.yid d n x B];rw[L' D];rfl
 rw[Af (Yo n) w,Tk (m:=st.m) st.g st.pin st.want st.more st.yid d n x B];rw[L' D];rfl
def aaC{f:Y'}{m? args:SW}{cs:So}{m:aX δ}{E:δ->So}(a:iB c f cs=m.bind λr=>M (E r))(b:S.E.keep f=O)(D:b9 S.N st.g az=M m?)(G:mz m?=M (f,args))
 (B:qO (kH st.m 8) args=M cs)(g:((!dr||now)||gm st.m fr args)=U)(d:∀r,((result (E r)).scalar||(dG args).isSome)=U):
 gT S c dr fr ⟨dst,J,now,.c,az,[],[]⟩ st=m.bind λr=>M (dA st dst (.v (result (E r)))):=by
 rw[vP dr fr dst now az st m? f args D G,Zz _ _ _ _ _ _ _ b,(AW st.m 8).2,B];simp[g,a]
 cases m with
 |none=>rfl|some r=>
  simp[TP]
  grind
end
end
section
variable{S:Sys}{c:b_}{β γ:Type}{Q:Out×St->aX β}{L:aX β}{e:γ->aX β}
def qR(a:RC)(st:St):mJ S c Q a [] st=H (cV S c a st) Q:=by unfold mJ;rw[FY];congr 1;funext q;have⟨o,st⟩:=q;cases o<;>rfl
def DB(a:RC)(st:St):cV S c a st=mJ S c M a [] st:=by rw[qR];cases cV S c a st<;>rfl
def oR(rs:aY RV):Out×St->aX So
 |(.exit _,_)=>J|(_,st)=>H (lz st rs) (qO (kH st.m 8))
def Zv(rs:aY RV):Ll rs=oR rs:=by funext q;have⟨o,st⟩:=q;cases o;simp only[Ll,oR];congr 1;funext l;exact(AW st.m 8).2 l;rfl;simp only[Ll,oR];congr 1;funext l;exact(AW st.m 8).2 l
def Y7{S:Sys}{T:sY}{f:Y'}{rf:RF}(B:T f=M rf)(az:So)(D:W az<=rf.na):iB (dB S T) f az=mJ S (dB S T) (oR rf.rs) rf.body [] (start (az.map .v) []):=by rw[Wo B az D,<-L0,qR,Zv]
end
def mN{α σ ε ρ:Type}(step:α->σ->aX (Fw σ ε ρ)):aY α->σ->aX (Fw σ ε ρ)
 |[],s=>M (.n s)|x::xs,s=>H (step x s) λw=>match w with
  |.n B=>mN step xs B|.x e=>M (.x e)|.r b=>M (.r b)
def Fw.tK{ν ε ρ γ:Type}(fn:ν->γ)(B:ε->γ)(fr:ρ->γ):Fw ν ε ρ->γ
 |.n a=>fn a|.x e=>B e|.r b=>fr b
def Fw.zw{ν ε ρ:Type}(B:ν->Tb bG)(eε:ε->Nat×Tb bG)(eρ:ρ->Tb bG):Fw ν ε ρ->Out×Tb bG
 |.n a=>(.norm,B a)|.x e=>(.exit (eε e).1,(eε e).2)|.r b=>(.ret,eρ b)
def zw(q:Out×St):aX (Out×Tb bG):=M (q.1,q.2.m)
section
variable{S:Sys}{c:b_}{β γ:Type}{Q:Out×St->aX β}{L:aX β}{e:γ->aX β}
def Bw(S:Sys)(c:b_)(b:RC):Out×St->aX (Out×Tb bG)
 |(.norm,st)=>mJ S c zw b [] st|_=>J
def Qu(ps:ST)(a b:RC)(st:St)(x:So)(m:Tb bG)(B:W x=W ps):
 kD ps (cV S c a) (cV S c b) st x m=mJ S c (Bw S c b) a [] ⟨zN st.g ps (x.map .v),m,st.pin++sN st.g,[],U,0⟩:=by
 unfold kD;rw[L' B,qR]
 cases cV S c a ⟨zN st.g ps (x.map .v),m,st.pin++sN st.g,[],U,0⟩with
 |none=>rfl|some q=>
  have⟨o,u⟩:=q
  cases o with
  |norm=>simp only[ζb,Bw];rw[qR];cases cV S c b u<;>rfl|_=>rfl
end
def Le{α:Type}(a b:aX α):Prop:=∀r,a=M r->b=M r
section
variable{α:Type}
def Le.refl(a:aX α):Le a a:=λ_ h=>h
def Le.of_eq{a b:aX α}(h:b=a):Le a b:=λ_ u=>h.trans u
def Le.trans{a b d:aX α}(c:Le a b)(B:Le b d):Le a d:=λr h=>B r (c r h)
def Le.none(b:aX α):Le (J:aX α) b:=λr h=>by cases h
def Le.bind{β:Type}{a b:aX α}{f g:α->aX β}(h:Le a b)(B:∀x,Le (f x) (g x)):Le (a.bind f) (b.bind g):=λr c=>by have⟨x,d,u⟩:=ζg.1 c;rw[h x d];exact B x r u
end
section
variable{S:Sys}{c:b_}{β γ δ:Type}{Q:Out×St->aX β}{L:aX β}{e:γ->aX β}
def Ln{dr:X'}{fr:ST}{dst:aX Nat}{now:X'}{az:QR}{st:St}{f:Y'}{m? args:SW}{cs:So}{m:aX δ}{E:δ->So}(a:Le (m.bind λr=>M (E r)) (iB c f cs))(b:S.E.keep f=O)(D:b9 S.N st.g az=M m?)(G:mz m?=M (f,args))
 (B:qO (kH st.m 8) args=M cs)(g:((!dr||now)||gm st.m fr args)=U)(d:∀r,((result (E r)).scalar||(dG args).isSome)=U):
 Le (m.bind λr=>M (dA st dst (.v (result (E r))))) (gT S c dr fr ⟨dst,J,now,.c,az,[],[]⟩ st):=by
 intro q w;have⟨r,e,z⟩:=ζg.1 w;have u:iB c f cs=H (M r) λr=>M (E r):=a _ (by rw[e];rfl)
 rw[aaC (m:=M r) u b D G B g d];exact z
def Uf{σ ε ρ:Type}{f:St->aX (Out×St)}{step:σ->aX (Fw σ ε ρ)}{eσ:σ->St}{eε:ε->Nat×St}{eρ:ρ->St}(h:∀s,Le (H (step s) λw=>M (Fw.out eσ eε eρ w)) (f (eσ s)))(s:σ):
 Le (H (bL step s) λw=>M (Fw.out (λe=>Empty.elim e) eε eρ w)) (ri f (eσ s)):=by
 have key:∀k s r,nV step k s=M r->k_ f k (eσ s)=M (Fw.out (λe=>Empty.elim e) eε eρ r):=by intro k;induction k with|zero=>intro s r h;simp[nV]at h|succ k C=>intro s r u;simp only[nV]at u;cases z:step s with|none=>rw[z]at u;cases u|some w=>rw[z]at u;have B:=h s (Fw.out eσ eε eρ w) (by rw[z];rfl);simp only[k_,B];cases w with|n a=>exact C a r u|x e=>cases u;rfl|r b=>cases u;rfl
 intro r c;have⟨w,d,B⟩:=ζg.1 c;have⟨k,g⟩:=sW.1 d;cases B;exact pX.2 ⟨k,key k s w g⟩
def acm{σ ε ρ:Type}{a:RC}{fs:QQ}{step:σ->aX (Fw σ ε ρ)}{eσ:σ->St}{eε:ε->Nat×St}{eρ:ρ->St}{s:σ}{B:ε->aX γ}{fr:ρ->aX γ}
 (D:L=mJ S c Q (.loop a) fs (eσ s))(h:∀s,Le ((step s).bind λw=>M (Fw.out eσ eε eρ w)) (mJ S c M a [] (eσ s)))
 (G:∀x,Le ((B x).bind e) (pU S c Q fs (eε x).1 (eε x).2))(d:∀b,Le ((fr b).bind e) (Q (.ret,eρ b))):Le (((bL step s).bind (Fw.elim B fr)).bind e) L:=by
 subst D;have g:mJ S c Q (.loop a) fs (eσ s)=(ri (cV S c a) (eσ s)).bind (H7 (pV S c Q fs) (pU S c Q fs) (λst=>Q (.ret,st))):=by unfold mJ;rw[FY];rfl
 rw[g];have u:=Uf (step:=step) (f:=cV S c a) (eσ:=eσ) (eε:=eε) (eρ:=eρ) (λs=>by rw[DB];exact h s) s
 cases z:bL step s with
 |none=>exact Le.none _|some w=>
  have C:=u _ (by rw[z];rfl)
  rw[C]
  cases w with
  |n a=>cases a|x a=>exact G a|r a=>exact d a
def KO{α σ ε ρ:Type}{f:So->Tb bG->aX (Out×Tb bG)}{step:α->σ->aX (Fw σ ε ρ)}{eI:α->So}{eσ:σ->Tb bG}{eε:ε->Nat×Tb bG}{eρ:ρ->Tb bG}
 (h:∀x s,Le (H (step x s) λw=>M (Fw.zw eσ eε eρ w)) (f (eI x) (eσ s))):∀(xs:aY α)(s:σ),Le (H (mN step xs s) λw=>M (Fw.zw eσ eε eρ w)) (tu f (xs.map eI) (eσ s))
 |[],s=>λr a=>a|x::xs,s=>by simp only[K?,tu,mN];cases B:step x s with|none=>exact Le.none _|some w=>have D:=h x s (Fw.zw eσ eε eρ w) (by rw[B];rfl);rw[D];cases w with|n u=>simp only[ζb,Fw.zw];exact KO h xs u|x e=>exact Le.refl _|r b=>exact Le.refl _
def ack{α σ ε ρ:Type}{g:Arg}{ps:ST}{a b:RC}{fs:QQ}{f:Y'}{x y:So}{d:aY α}{eI:α->So}{step:α->σ->aX (Fw σ ε ρ)}{eσ:σ->Tb bG}{eε:ε->Nat×Tb bG}{eρ:ρ->Tb bG}{i:Tb SV}{s:σ}
 {fn:σ->aX γ}{B:ε->aX γ}{fr:ρ->aX γ}
 (D:L=mJ S c Q (.each g ps a b) fs ⟨i,eσ s,[],[],U,0⟩)(j:tO S.N i g=M (.v (.clo f x y)))(hi:S.items f x y=M (d.map eI))(G:∀x,(eI x).length=ps.length)
 (h:∀x s,Le ((step x s).bind λw=>M (Fw.zw eσ eε eρ w)) (mJ S c (Bw S c b) a [] ⟨zN i ps ((eI x).map .v),eσ s,sN i,[],U,0⟩))
 (o:∀s,Le ((fn s).bind e) (pV S c Q fs ⟨i,eσ s,[],[],U,0⟩))
 (T:∀x,Le ((B x).bind e) (pU S c Q fs (eε x).1 ⟨i,(eε x).2,[],[],U,0⟩))(k:∀b,Le ((fr b).bind e) (Q (.ret,⟨i,eρ b,[],[],U,0⟩))):
 Le (((mN step d s).bind (Fw.tK fn B fr)).bind e) L:=by
 subst D;have l:mJ S c Q (.each g ps a b) fs ⟨i,eσ s,[],[],U,0⟩=(cV S c (.each g ps a b) ⟨i,eσ s,[],[],U,0⟩).bind (H7 (pV S c Q fs) (pU S c Q fs) (λst=>Q (.ret,st))):=by unfold mJ;rw[FY]
 rw[l];simp only[cV,j,hi];have u:=KO (step:=step) (f:=kD ps (cV S c a) (cV S c b) ⟨i,eσ s,[],[],U,0⟩) (eI:=eI) (eσ:=eσ) (eε:=eε) (eρ:=eρ) (λx s=>by rw[Qu _ _ _ _ _ _ (G x)];exact h x s) d s
 cases z:mN step d s with
 |none=>exact Le.none _|some w=>
  have C:=u _ (by rw[z];rfl)
  rw[C]
  cases w with
  |n a=>exact o a|x a=>exact T a|r a=>exact k a
end
inductive Fo where
 |rc(c:RC)|ops(dr:Bool)(fr:List Nat)(l:List RO)|nx|ex(k:Nat)|rt
abbrev bE(g:Tb SV)(m:Tb bG):St:=⟨g,m,[],[],U,0⟩
section
variable(S:Sys)(c:b_){β:Type}(Q:Out×St->aX β)
def rn:Fo->QQ->St->aX β
 |.rc a,fs,st=>mJ S c Q a fs st|.ops dr fr l,fs,st=>yp S c dr fr l (pV S c Q fs) st|.nx,fs,st=>pV S c Q fs st|.ex k,fs,st=>pU S c Q fs k st|.rt,_,st=>Q (.ret,st)
def yL:Fo->QQ->St->aX (Fo×QQ×St)
 |.rc .skip,fs,st=>M (.nx,fs,st)|.rc (.ops l),fs,st=>M (.ops O [] l,fs,st)|.rc (.vJ l),fs,st=>M (.ops U [] l,fs,st)|.rc (.seq a b),fs,st=>M (.rc a,.seq b::fs,st)|.rc (.cond y a b),fs,st=>match tO S.N st.g y with
  |some (.v (.bool U))=>M (.rc a,fs,st)|some (.v (.bool O))=>M (.rc b,fs,st)|_=>J
 |.rc (.block id a),fs,st=>M (.rc a,.blk id::fs,st)|.rc (.exit k),fs,st=>M (.ex k,fs,st)|.rc .ret,fs,st=>M (.rt,fs,st)|.rc (.gh g a),fs,st=>match ghost g st with
  |some e?=>M (.rc a,fs,e?)|none=>J
 |.rc (.hg a g),fs,st=>M (.rc a,.gst g::fs,st)|.rc (.loop _),_,_=>J|.rc (.each ..),_,_=>J|.ops _ _ [],fs,st=>M (.nx,fs,st)|.ops dr fr (⟨d,gd,now,k,az,dd,[]⟩::r),fs,st=>match gT S c dr fr ⟨d,gd,now,k,az,[],[]⟩ st with
  |some e?=>M (.ops dr (if dr then tX fr ⟨d,gd,now,k,az,[],[]⟩else fr) r,fs,su dd e?)|none=>J
 |.ops dr fr (⟨d,gd,now,k,az,dd,x::xs⟩::r),fs,st=>if dr&& !(Dw x&&xs.all Dw)then J else match ghost x st with
  |some e?=>M (.ops dr fr (⟨d,gd,now,k,az,dd,xs⟩::r),fs,e?)|none=>J
 |.nx,.seq b::fs,st=>M (.rc b,fs,st)|.nx,.blk _::fs,st=>M (.nx,fs,st)|.nx,.gst g::fs,st=>match ghost g st with
  |some e?=>M (.nx,fs,e?)|none=>J
 |.nx,[],_=>J|.ex k,.seq _::fs,st=>M (.ex k,fs,st)|.ex k,.blk id::fs,st=>M (if k=id then .nx else .ex k,fs,st)|.ex k,.gst _::fs,st=>M (.ex k,fs,st)|.ex _,[],_=>J|.rt,_,_=>J
def iF:Nat->Fo->QQ->St->aX (Fo×QQ×St)
 |0,fo,fs,st=>M (fo,fs,st)|n+1,fo,fs,st=>match yL S c fo fs st with
  |some (fo',n?,e?)=>iF n fo' n? e?|none=>J
end
section
variable{S:Sys}{c:b_}{β γ δ:Type}{Q:Out×St->aX β}{e:γ->aX β}
def KZ{fo fo':Fo}{fs n?:QQ}{st e?:St}(h:yL S c fo fs st=M (fo',n?,e?)):rn S c Q fo fs st=rn S c Q fo' n? e?:=by
 cases fo with
 |rc a=>cases a with|cond y a b=>simp only[yL]at h;split at h;(next u=>cases h;simp only[rn,mJ,sw,u,bh,N']);(next u=>cases h;simp only[rn,mJ,sw,u,bh];rfl);cases h|gh g a=>simp only[yL]at h;split at h;(next u=>cases h;simp only[rn,mJ,sw,u,ζb]);cases h|loop a=>cases h|each g ps a b=>cases h|seq a b=>cases h;simp only[rn,mJ,sw,pV,pU]|block id a=>cases h;simp only[rn,mJ,sw,pV,pU]|hg a g=>cases h;simp only[rn,mJ,sw,pV,pU]|_=>cases h;simp only[rn,mJ,sw]
 |ops dr fr l=>cases l with|nil=>cases h;simp only[rn,yp]|cons o r=>have⟨d,gd,now,k,az,dd,pre⟩:=o;cases pre with|nil=>simp only[yL]at h;split at h;(next u=>cases h;simp only[rn,yp,EI,RO.strip,ζb,u]);cases h|cons x w=>simp only[yL]at h;split at h;cases h;rename_i hd;split at h;rename_i u;cases h;(cases dr with|true=>simp only[Bool.true_and,Bool.not_eq_true',Bool.not_eq_false,ζh]at hd;simp only[rn,yp,RO.strip,Fh,rN,N',List.all_cons,hd.1,hd.2,Bool.and_self,u,ζb]|false=>simp only[rn,yp,RO.strip,Fh,rN,Bool.false_eq_true,_a,u,ζb]);cases h
 |nx=>cases fs with|nil=>cases h|cons f fs=>cases f with|seq b=>cases h;simp only[rn,mJ,pV]|blk id=>cases h;simp only[rn,pV]|gst g=>simp only[yL]at h;split at h;(next u=>cases h;simp only[rn,pV,u,ζb]);cases h
 |ex k=>cases fs with|nil=>cases h|cons f fs=>cases f with|seq b=>cases h;simp only[rn,pU]|blk id=>cases h;simp only[rn,pU];by_cases e:k=id;simp only[L' e,rn];simp only[M' e,rn]|gst g=>cases h;simp only[rn,pU]
 |rt=>cases h
def rE:∀{n:Nat}{fo fo':Fo}{fs n?:QQ}{st e?:St},iF S c n fo fs st=M (fo',n?,e?)->rn S c Q fo fs st=rn S c Q fo' n? e?
 |0,fo,fo',fs,n?,st,e?,h=>by cases h;rfl|n+1,fo,fo',fs,n?,st,e?,h=>by simp only[iF]at h;split at h;(next a b d B=>rw[KZ B];exact rE h);cases h
def Bj{n:Nat}{fo fo':Fo}{fs n?:QQ}{st e?:St}{m:aX β}(h:iF S c n fo fs st=M (fo',n?,e?))(B:Le m (rn S c Q fo' n? e?)):Le m (rn S c Q fo fs st):=by rw[rE h];exact B
def adU{n:Nat}{fo fo':Fo}{fs n?:QQ}{st e?:St}{r:γ}(h:iF S c n fo fs st=M (fo',n?,e?))(B:rn S c Q fo' n? e?=e r):Le (H (M r) e) (rn S c Q fo fs st):=by rw[rE h];exact Le.of_eq B
def Xn{m:aX δ}{f:δ->aX γ}{L:aX β}(k:δ->aX β)(B:Le (m.bind k) L)(b:∀r,Le (H (f r) e) (k r)):Le (H (m.bind f) e) L:=by intro r a;cases m with|none=>cases a|some x=>exact B r (b x r a)
def adY{n:Nat}{fo:Fo}{fs n?:QQ}{st0:St}{dr:X'}{q l:R0}{fr:ST}{st:St}{d:aX Nat}{gd:aX (Nat×X')}{now:X'}{k:K}{az:QR}{dd:ST}{m:aX δ}{g:δ->St}{f:δ->aX γ}
 (B:iF S c n fo fs st0=M (.ops dr fr q,n?,st))(D:q=⟨d,gd,now,k,az,dd,[]⟩::l)(a:wanted st.g gd=M U)
 (G:Le (m.bind λx=>M (g x)) (gT S c dr fr ⟨d,J,now,k,az,[],[]⟩ st))
 (h:∀x,m=M x->Le (H (f x) e) (rn S c Q (.ops dr (if dr then tX fr ⟨d,gd,now,k,az,[],[]⟩else fr) l) n? (su dd (g x)))):Le (H (m.bind f) e) (rn S c Q fo fs st0):=by
 rw[rE B];subst D;simp only[rn,yp,RO.strip,EI,ζb];rw[SB a]
 cases m with
 |none=>exact Le.none _|some x=>rw[G (g x) Y];exact h x Y
def XF{n:Nat}{fo:Fo}{fs n?:QQ}{st0:St}{dr:X'}{q l:R0}{fr:ST}{st e?:St}{d:aX Nat}{gd:aX (Nat×X')}{now:X'}{k:K}{az:QR}{dd:ST}{m:aX β}
 (B:iF S c n fo fs st0=M (.ops dr fr q,n?,st))(D:q=⟨d,gd,now,k,az,dd,[]⟩::l)(a:wanted st.g gd=M U)
 (G:gT S c dr fr ⟨d,J,now,k,az,[],[]⟩ st=M e?)
 (h:Le m (rn S c Q (.ops dr (if dr then tX fr ⟨d,gd,now,k,az,[],[]⟩else fr) l) n? (su dd e?))):Le m (rn S c Q fo fs st0):=by
 rw[rE B];subst D;simp only[rn,yp,RO.strip,EI,ζb];rw[SB a,G];exact h
def TS{n:Nat}{fo:Fo}{B:QQ}{st:St}{σ ε ρ:Type}{a:RC}{fs:QQ}{step:σ->aX (Fw σ ε ρ)}{eσ:σ->St}{eε:ε->Nat×St}{eρ:ρ->St}{s:σ}{D:ε->aX γ}{fr:ρ->aX γ}
 (G:iF S c n fo B st=M (.rc (.loop a),fs,eσ s))(h:∀s,Le ((step s).bind λw=>M (Fw.out eσ eε eρ w)) (rn S c M (.rc a) [] (eσ s)))
 (g:∀x,Le ((D x).bind e) (rn S c Q (.ex (eε x).1) fs (eε x).2))(d:∀b,Le ((fr b).bind e) (Q (.ret,eρ b))):Le (((bL step s).bind (Fw.elim D fr)).bind e) (rn S c Q fo B st):=by
 rw[rE G];exact acm (L:=rn S c Q (.rc (.loop a)) fs (eσ s)) rfl h g d
def aaH{n:Nat}{fo:Fo}{B:QQ}{st:St}{α σ ε ρ:Type}{g:Arg}{ps:ST}{a b:RC}{fs:QQ}{f:Y'}{x y:So}{d:aY α}{eI:α->So}{step:α->σ->aX (Fw σ ε ρ)}{eσ:σ->Tb bG}{eε:ε->Nat×Tb bG}{eρ:ρ->Tb bG}{i:Tb SV}{s:σ}
 {fn:σ->aX γ}{D:ε->aX γ}{fr:ρ->aX γ}
 (G:iF S c n fo B st=M (.rc (.each g ps a b),fs,bE i (eσ s)))(j:tO S.N i g=M (.v (.clo f x y)))(hi:S.items f x y=M (d.map eI))(o:∀x,(eI x).length=ps.length)
 (h:∀x s,Le ((step x s).bind λw=>M (Fw.zw eσ eε eρ w)) (rn S c (Bw S c b) (.rc a) [] ⟨zN i ps ((eI x).map .v),eσ s,sN i,[],U,0⟩))
 (T:∀s,Le ((fn s).bind e) (rn S c Q .nx fs (bE i (eσ s))))
 (t:∀x,Le ((D x).bind e) (rn S c Q (.ex (eε x).1) fs (bE i (eε x).2)))(k:∀b,Le ((fr b).bind e) (Q (.ret,bE i (eρ b)))):
 Le (((mN step d s).bind (Fw.tK fn D fr)).bind e) (rn S c Q fo B st):=by
 rw[rE G];exact ack (L:=rn S c Q (.rc (.each g ps a b)) fs (bE i (eσ s))) rfl j hi o h T t k
def abw{b:RC}{st e?:St}{m:aX (Out×Tb bG)}{fs:QQ}{n:Nat}{fo:Fo}(h:iF S c n fo fs st=M (.nx,[],e?))(B:Le m (rn S c zw (.rc b) [] e?)):Le m (rn S c (Bw S c b) fo fs st):=by rw[rE h];exact B
def acZ{α:Type}{n:Nat}{fo fo':Fo}{fs n?:QQ}{st:St}{A:aX α->St}{o:aX α}{f:α->aX γ}(h:iF S c n fo fs st=M (fo',n?,A o))
 (B:∀x,o=M x->Le (H (f x) e) (rn S c Q fo' n? (A (M x)))):Le (H (o.bind f) e) (rn S c Q fo fs st):=by
 rw[rE h]
 cases o with
 |none=>exact Le.none _|some x=>exact B x Y
def adW{T:sY}{f:Y'}{rf:RF}{az:So}{m:aX So}(B:T f=M rf)(D:W az<=rf.na)(h:Le m (rn S (dB S T) (oR rf.rs) (.rc rf.body) [] (start (az.map .v) []))):Le m (iB (dB S T) f az):=by rw[Y7 B az D];exact h
end
section
variable{α:Type}[bD α]
abbrev cv(x:α):SV:=.v (enc x)
abbrev cp(x:α):SV:=.v (.fptr (cells x))
abbrev bx(x:α):bG:=.box ((cells x).map .v)
end
structure eZ(S:Sys)(c:b_){α δ:Type}(fn:FuncId)(A:α->List V)(E:δ->List V)(p:α->Option δ)(sc:Bool):Prop where
 k:S.E.keep fn=false
 h:∀z,Le ((p z).bind λr=>some (E r)) (iB c fn (A z))
 s:sc=true->∀r,(result (E r)).scalar=true
section
variable{S:Sys}{c:b_}{β γ δ α:Type}{Q:Out×St->aX β}{e:γ->aX β}{fo:Fo}{fs:QQ}{st0:St}{l:R0}{d:aX Nat}{gd:aX (Nat×X')}{now:X'}{az:QR}{dd:ST}
abbrev vW(S:Sys)(c:b_)(Q:Out×St->aX β)(dr:Bool)(fr:aY Nat)(d:aX Nat)(k:K)(l:aY RO)(fs:aY Fm)(dd:aY Nat)(st:St):aX β:=rn S c Q (.ops dr (if dr then(match k with|.p _|.r _=>fr|_=>match d with|some d=>d::fr|none=>fr)else fr) l) fs (su dd st)
def J8(fr:ST)(k:K):tX fr ⟨d,gd,now,k,az,[],[]⟩=(match k with|.p _|.r _=>fr|_=>match d with|some d=>d::fr|none=>fr):=by cases k<;>cases d<;>rfl
def Ip{n:Nat}{dr:X'}{fr:ST}{q:R0}{n?:QQ}{st:St}{k:K}{m:aX δ}{g:δ->St}{f:δ->aX γ}
 (B:iF S c n fo fs st0=M (.ops dr fr q,n?,st))(D:q=⟨d,gd,now,k,az,dd,[]⟩::l)(a:wanted st.g gd=M U)
 (G:Le (m.bind λx=>M (g x)) (gT S c dr fr ⟨d,J,now,k,az,[],[]⟩ st))
 (h:∀x,m=M x->Le (H (f x) e) (vW S c Q dr fr d k l n? dd (g x))):Le (H (m.bind f) e) (rn S c Q fo fs st0):=
 adY B D a G (λx u=>by rw[J8];grind)
def ud{n:Nat}{dr:X'}{fr:ST}{q:R0}{n?:QQ}{st e?:St}{k:K}{m:aX β}
 (B:iF S c n fo fs st0=M (.ops dr fr q,n?,st))(D:q=⟨d,gd,now,k,az,dd,[]⟩::l)(a:wanted st.g gd=M U)
 (G:gT S c dr fr ⟨d,J,now,k,az,[],[]⟩ st=M e?)(h:Le m (vW S c Q dr fr d k l n? dd e?)):Le m (rn S c Q fo fs st0):=
 XF B D a G (by rw[J8];omega)
section
variable[bD α]
def Uj(n:Nat)(dr:X')(fr:ST)(q:R0)(n?:QQ)(st:St)(k:T2){sz:Nat}{s:Sl α}{i:Int}{f:α->aX γ}(D:q=⟨d,gd,now,.p (.idxS sz),az,dd,[]⟩::l)
 (B:(iF S c n fo fs st0,wanted st.g gd,b9 S.N st.g az,sz)=(M (.ops dr fr q,n?,st),M U,M [.v (cE s),.v (.int k i)],bD.size α))
 (h:∀x,idx s i=M x->Le ((f x).bind e) (vW S c Q dr fr d (.p (.idxS sz)) l n? dd (dA st d (cp x)))):Le (((idx s i).bind f).bind e) (rn S c Q fo fs st0):=by
 simp at B;exact Ip B.1 D B.2.1 (Le.of_eq (XE B.2.2.1 B.2.2.2)) h
def abc(n:Nat)(dr:X')(fr:ST)(q:R0)(n?:QQ)(st:St)(s:Sl α){m:aX β}(D:q=⟨d,gd,now,.p .lenSl,az,dd,[]⟩::l)
 (B:(iF S c n fo fs st0,wanted st.g gd,b9 S.N st.g az)=(M (.ops dr fr q,n?,st),M U,M [.v (cE s)]))
 (h:Le m (vW S c Q dr fr d (.p .lenSl) l n? dd (dA st d (.v (.int _r (W s.l)))))):Le m (rn S c Q fo fs st0):=by
 simp at B;exact ud B.1 D B.2.1 (WH B.2.2) h
end
section
variable{q:R0}{n?:QQ}
end
def MH(m:Tb bG)(n:Nat)(l:So):qO (kH m n) (l.map .v)=M l:=by rw[<-(AW m n).2,vl]
variable{A:α->So}{E:δ->So}{p:α->aX δ}{fn:Y'}{sc:X'}
end
abbrev iv(n:Int):SV:=.v (.int _r n)
abbrev bv(b:Bool):SV:=.v (.bool b)
abbrev len{α:Type}(s:Sl α):Int:=((List.length (Sl.l s):Nat):Int)
abbrev o1(d:Nat)(a:Arg)(dd:aY Nat):RO:=⟨M d,J,O,.p .id,[a],dd,[]⟩
abbrev o2(d:Nat)(k:K)(az:aY Arg)(dd:aY Nat):RO:=⟨M d,J,O,k,az,dd,[]⟩
abbrev o3(d s:Nat)(b:Bool)(k:K)(az:aY Arg)(dd:aY Nat):RO:=⟨M d,M (s,b),O,k,az,dd,[]⟩
def O2(a b:bf):X':=[a.proc,a.index]==[b.proc,b.index]
section
variable{α:Type}[bD α]
def xO(h:bD.agg α=O)(a:α):cells a=[enc a]:=by
 have u:W (cells a)=1:=by rw[show(cells a).length=_ from bD.len a,bD.plain h]
 unfold enc;rw[M' (by simp[h])];match b:cells a,u with|[x],_=>rfl
def DC(h:bD.agg α=U)(a:α):enc a=.agg (cells a):=by unfold enc;grind
def lZ(a:α):V.good (enc a)=U:=by have h:V.c_ (cells a)=U:=bD.good a;cases u:bD.agg α with|true=>rw[DC u];exact h|false=>rw[xO u]at h;simp[V.c_]at h;omega
def qb(s:Sl α):V.one (enc s)=U:=IS s
def VD(s:α)(h:bD.agg α=O):V.one (enc s)=U:=by have:=bD.one s;rw[show bD.cells s=cells s from Y,xO h]at this;grind
end
instance{α:Type}[bD α]:bD (aX α)where
 cells o:=[match o with|none=>.jF|some x=>.fptr (cells x)]
 agg:=O
 size:=1
 len _:=rfl
 good o:=by cases o with|none=>rfl|some x=>simp only[V.c_,V.good,Bool.and_true];exact bD.good x
 one o:=by cases o<;>rfl
 plain _:=rfl
structure U8 where
 v:Int
 deriving Inhabited,DecidableEq
instance:bD U8 where
 cells n:=[.int .u8 n.v]
 agg:=O
 size:=1
 len _:=rfl
 good _:=rfl
 one _:=rfl
 plain _:=rfl
structure U64 where
 v:Int
 deriving Inhabited,DecidableEq
instance:bD U64 where
 cells n:=[.int .u64 n.v]
 agg:=O
 size:=1
 len _:=rfl
 good _:=rfl
 one _:=rfl
 plain _:=rfl
structure U32 where
 v:Int
 deriving Inhabited,DecidableEq
instance:bD U32 where
 cells n:=[.int .u32 n.v]
 agg:=O
 size:=1
 len _:=rfl
 good _:=rfl
 one _:=rfl
 plain _:=rfl
structure I32 where
 v:Int
 deriving Inhabited,DecidableEq
instance:bD I32 where
 cells n:=[.int .i32 n.v]
 agg:=O
 size:=1
 len _:=rfl
 good _:=rfl
 one _:=rfl
 plain _:=rfl
structure mV(S:Sys)(c:b_){α δ:Type}(g:FuncId)(w e:List V)(A:α->List V)(R:δ->List V)(p:α->Option δ)(b:Bool):Prop where
 f:eZ S c g (λz=>w++A z++e) R p b
section
variable{S:Sys}{c:b_}{β γ δ α:Type}{Q:Out×St->aX β}{e:γ->aX β}{fo:Fo}{fs:QQ}{st0:St}{l:R0}{d:aX Nat}{gd:aX (Nat×X')}{now:X'}{az:QR}{dd:ST}
def qW{α:Type}[bD α](a:α):V.cells (enc a)=cells a:=by cases u:bD.agg α with|true=>rw[DC u];rfl|false=>have b:=VD a u;rw[xO u];cases h:enc a<;>first|rfl|(rw[h]at b;cases b)
def wP{α:Type}[bD α](a:α):(cells a).all V.one=U:=bD.one a
def jv{α:Type}[bD α](a:α):W (cells a)=bD.size α:=bD.len a
def Ast[bD α](n:Nat)(dr:X')(fr:ST)(q:R0)(n?:QQ)(st:St)(u o:Nat)(x:α)(cs B:SW){sz:Nat}{m:aX β}(G:q=⟨d,gd,now,.l (.store sz),az,dd,[]⟩::l)
 (D:(iF S c n fo fs st0,wanted st.g gd,b9 S.N st.g az,bk st.m u,(!dr||now),sz,ble (o+sz) (W cs),cs.take o++(cells x).map .v++cs.drop (o+sz))=(M (.ops dr fr q,n?,st),M U,M [.ptr u o,cv x],M (.box cs),U,bD.size α,U,B))
 (h:Le m (vW S c Q dr fr d (.l (.store sz)) l n? dd (dA {st with m:=bJ st.m u (.box B)} d (.v .undef)))):Le m (rn S c Q fo fs st0):=by
 simp only[ζc]at D;have⟨a,w,z,C,I,g,L,i⟩:=D;refine ud a G w ?_ h;rw[wZ,z];subst g;have T:=Nat.le_of_ble_eq_true L;simp only[ζb,I,N',mO,C,putCells,qW,jv,wP,T,and_self,i,A?]
def Cw{α:Type}[bD α]:∀(xs:aY α)(pre:S')(B:S'),B.length=xs.length->gP (bD.size α) (pre++B) ((D' pre.length xs.length).zip (xs.map enc))=M (pre++rows xs)
 |[],pre,B,h=>by have:=List.eq_nil_of_length_eq_zero h;subst this;rfl|x::xs,pre,s::B,h=>by simp only[W?,List.range'_succ,K?,List.zip_cons_cons,gP,qW,jv,wP];have:=Cw xs (pre++[cells x]) B g?;simp only[ζi,W?,v6]at this;have e:(pre++s::B).set pre.length (cells x)=pre++[cells x]++B:=f?;rw[e,this];simp[rows]
def Abs[bD α](n:Nat)(dr:X')(fr:ST)(q:R0)(n?:QQ)(st:St)(xs:aY α){u sz ln:Nat}{zero:So}{ix:ST}{m:aX β}(D:q=⟨M u,gd,now,.a (.buildSl sz ln zero ix),az,dd,[]⟩::l)
 (G:st.new u=U)(B:(iF S c n fo fs st0,wanted st.g gd,b9 S.N st.g az,sz,ln,ix)=(M (.ops dr fr q,n?,st),M U,M ((xs.map enc).map .v),bD.size α,xs.length,D' 0 xs.length))
 (h:Le m (vW S c Q dr fr (M u) (.a (.buildSl sz ln zero ix)) l n? dd {st with g:=bJ st.g u (.own u),m:=bJ st.m u (cH (.row xs))})):Le m (rn S c Q fo fs st0):=by
 simp only[ζc]at B;have⟨a,w,z,C,I,i⟩:=B;subst C I i;refine ud a D w ?_ h;rw[DZ,z];simp only[ζb,G,qI,l8,List.length_range',O!];have:=Cw xs [] (replicate xs.length zero) f?
 simp at this;rw[this];rfl
def adL[bD α](n:Nat)(dr:X')(fr:ST)(q:R0)(n?:QQ)(st:St)(x:α)(vs:So){z:So}{pl:aY (Nat×Nat)}{m:aX β}(D:q=⟨d,gd,now,.p (.build z pl),az,dd,[]⟩::l)
 (hp:mW z pl vs=M (cells x))(G:bD.agg α=U)
 (B:(iF S c n fo fs st0,wanted st.g gd,b9 S.N st.g az)=(M (.ops dr fr q,n?,st),M U,M (vs.map .v)))
 (h:Le m (vW S c Q dr fr d (.p (.build z pl)) l n? dd (dA st d (cv x)))):Le m (rn S c Q fo fs st0):=by
 simp at B;refine ud B.1 D B.2.1 (E9 B.2.2 rfl ?_) h;unfold lP;rw[l8];simp only[Wc,hp,A?];show M (SV.v (.agg (cells x)))=M (.v (enc x));rw[DC G]
section
variable[bD α]
def adM(n:Nat)(dr:X')(fr:ST)(q:R0)(n?:QQ)(st:St)(lo hi:X')(D:So){sz:Nat}{s:Sl α}{a b:Ps}{f:Sl α->aX γ}(G:q=⟨d,gd,now,.p (.slice sz lo hi),az,dd,[]⟩::l)
 (B:(iF S c n fo fs st0,wanted st.g gd,b9 S.N st.g az,pe lo hi D,sz)=(M (.ops dr fr q,n?,st),M U,M (.v (cE s)::D.map .v),M (a,b),bD.size α))
 (h:∀x,iK s a b=M x->Le ((f x).bind e) (vW S c Q dr fr d (.p (.slice sz lo hi)) l n? dd (dA st d (.v (cE x))))):Le (((iK s a b).bind f).bind e) (rn S c Q fo fs st0):=by
 simp at B;refine Ip B.1 G B.2.1 (Le.of_eq ?_) h;have w:=B.2.2.1;unfold gT ox;simp[wanted,ij,w];have u:lP S.N st.m (.slice sz lo hi) ((cE s::D).map .v)=(iK s a b).bind λx=>M (.v (cE x)):=by unfold lP;rw[l8];simp[bW,B.2.2.2.1,P9 s a b sz B.2.2.2.2];cases iK s a b<;>rfl
 simp at u⊢;rw[u];cases iK s a b<;>rfl
def nW(s:Sl α)(lo hi:Ps):aX (Sl α):=
 match s with
 |.nil|.emp=>J|.row x|.part x=>(eD (W x) lo hi).map λ(l,h)=>.part ((x.take h).drop l)
def ace(n:Nat)(fr:ST)(q:R0)(n?:QQ)(st:St)(lo hi:X')(u:Nat)(D:So){t sz:Nat}{s:Sl α}{a b:Ps}{f:Sl α->aX γ}(i:q=⟨M t,gd,now,.p (.slice sz lo hi),az,dd,[]⟩::l)
 (G:St.new {st with m:=dJ u st.m} t=U)(B:(iF S c n fo fs st0,wanted st.g gd,b9 S.N st.g az,pe lo hi D,bk st.m u,sz)=(M (.ops O fr q,n?,st),M U,M (.own u::D.map .v),M (a,b),M (cH s),bD.size α))
 (h:∀x,nW s a b=M x->Le ((f x).bind e) (vW S c Q O fr (M t) (.p (.slice sz lo hi)) l n? dd {st with g:=bJ st.g t (.own t),m:=bJ (dJ u st.m) t (cH x)})):Le (((nW s a b).bind f).bind e) (rn S c Q fo fs st0):=by
 simp at B;refine Ip B.1 i B.2.1 (Le.of_eq ?_) h;have⟨_,_,z,w,C,I⟩:=B;subst I;unfold gT ox;simp[wanted,ij,z,Di,l8,C,w]
 cases s with
 |nil=>simp[nW,cH,Sl.k,cg]|emp=>simp[nW,cH,Sl.k,cg]|row x=>
  simp[cH,Sl.k,Sl.l,cg,nW,iz,w]
  cases eD x.length a b with
  |none=>rfl|some r=>simp[G,dA,rows,f8]
 |part x=>
  simp[cH,Sl.k,Sl.l,cg,nW,iz,w]
  cases eD x.length a b with
  |none=>rfl|some r=>simp[G,dA,rows,f8]
end
end
structure cn(n:Nat)(α:Type)where
 l:List α
 len:l.length=n
def VV{α:Type}[bD α](l:aY α):W (l.map (cells (α:=α))).flatten=W l*bD.size α:=by induction l with|nil=>simp|cons a l u=>simp[u,jv,o!,Nat.add_comm]
def SS{α:Type}[bD α](l:aY α):V.c_ (l.map (cells (α:=α))).flatten=U:=by induction l with|nil=>rfl|cons a l u=>have h:∀(x y:So),V.c_ x=U->V.c_ y=U->V.c_ (x++y)=U:=(by intro x;induction x with|nil=>grind|cons b x w=>intro y c z;simp[V.c_]at c⊢;grind);exact h _ _ (bD.good a) u
instance{n:Nat}{α:Type}[bD α]:bD (cn n α)where
 cells a:=(a.l.map cells).flatten
 agg:=U
 size:=n*bD.size α
 len a:=by rw[VV,a.len]
 good a:=SS a.l
 one a:=by have:∀l:aY α,(l.map (cells (α:=α))).flatten.all V.one=U:=(by intro l;induction l with|nil=>rfl|cons a l u=>simp only[K?,d6,List.all_append,u,wP,Bool.and_self]);exact this a.l
 plain h:=by cases h
def cn.RZ(n:Nat){α:Type}(z:α):cn n α:=⟨replicate n z,f?⟩
def cn.at{n:Nat}{α:Type}(a:cn n α)(i:Int):aX α:=if 0<=i then a.l[i.toNat]?else J
def cn.set{n:Nat}{α:Type}(a:cn n α)(i:Int)(x:α):cn n α:=⟨a.l.set i.toNat x,by simp[a.len]⟩
def pa{n:Nat}{α:Type}[bD α](a:cn n α)(i:Int):So:=(cells a).drop (i.toNat*bD.size α)
def cn.yB{n:Nat}{α:Type}{a:cn n α}{i:Int}{x:α}(h:a.at i=M x):0<=i/\i.toNat<n/\a.l[i.toNat]?=M x:=by
 unfold cn.at at h;split at h;next hi=>refine⟨hi,?_,h⟩;have:=(ζe.1 h).1;rw[<-a.len];simp_all
 simp_all
def Iz{α:Type}[bD α]:∀(l:aY α)(k:Nat),((l.map (cells (α:=α))).flatten).drop (k*bD.size α)=((l.drop k).map (cells (α:=α))).flatten
 |[],k=>f?|a::l,0=>f?|a::l,k+1=>by have h:=jv a;rw[K?,d6,List.drop_succ_cons,<-Iz l k,o!,o6,Nat.add_comm,<-h,List.drop_length_add_append]
def DO{n:Nat}{α:Type}[bD α]{a:cn n α}{i:Int}{x:α}(h:a.at i=M x):∃r,pa a i=cells x++r:=by have⟨b,B,w⟩:=cn.yB h;have⟨u,z⟩:=ζe.1 w;refine⟨((a.l.drop (i.toNat+1)).map cells).flatten,?_⟩;show((a.l.map (cells)).flatten).drop (i.toNat*bD.size α)=_;rw[Iz,List.drop_eq_getElem_cons u,K?,d6,z]
section
variable{S:Sys}{c:b_}{β γ δ α:Type}{Q:Out×St->aX β}{e:γ->aX β}{fo:Fo}{fs:QQ}{st0:St}{l:R0}{d:aX Nat}{gd:aX (Nat×X')}{now:X'}{az:QR}{dd:ST}
section
variable{N:Nat}[bD α]
def acv(n:Nat)(dr:X')(fr:ST)(q:R0)(n?:QQ)(st:St)(k:T2){ln sz:Nat}{a:cn N α}{i:Int}{f:α->aX γ}(D:q=⟨d,gd,now,.p (.idxA ln sz),az,dd,[]⟩::l)
 (B:(iF S c n fo fs st0,wanted st.g gd,b9 S.N st.g az,sz,ln)=(M (.ops dr fr q,n?,st),M U,M [cp a,.v (.int k i)],bD.size α,N))
 (h:∀x,a.at i=M x->Le ((f x).bind e) (vW S c Q dr fr d (.p (.idxA ln sz)) l n? dd (dA st d (.v (.fptr (pa a i)))))):Le (((a.at i).bind f).bind e) (rn S c Q fo fs st0):=by
 simp at B;have⟨g,w,z,C,G⟩:=B;subst C G;refine Ip g D w ?_ h;intro r b;have⟨x,I,b⟩:=ζg.1 b;have⟨g1,g2,_⟩:=cn.yB I;rw[E9 z rfl ?_]
 .omega
 rw[zk];simp[bW,z8];have u:i.toNat*bD.size α<=(cells a).length:=by rw[jv];exact Nat.mul_le_mul_right _ (Nat.le_of_lt g2)
 rw[L' ⟨g1,a?⟩,L' u]
 rfl
def adS(n:Nat)(dr:X')(fr:ST)(q:R0)(n?:QQ)(st:St)(a:cn N α)(i:Int)(o:Nat)(x:α)(D:a.at i=M x){k:Nat}{m:aX β}(G:q=⟨d,gd,now,.p (.fieldAddr k),az,dd,[]⟩::l)
 (B:(iF S c n fo fs st0,wanted st.g gd,b9 S.N st.g az,ble (o+k) (bD.size α))=(M (.ops dr fr q,n?,st),M U,M [.v (.fptr ((pa a i).drop o))],U))
 (h:Le m (vW S c Q dr fr d (.p (.fieldAddr k)) l n? dd (dA st d (.v (.fptr ((pa a i).drop (o+k))))))):Le m (rn S c Q fo fs st0):=by
 simp only[ζc]at B;have⟨b,u,w,z⟩:=B;refine ud b G u (E9 w Y ?_) h;have C:=Nat.le_of_ble_eq_true z;have⟨r,e⟩:=DO D;have I:W (pa a i)>=bD.size α:=by rw[e,ζi,jv];omega
 rw[MW,Lj,L' g?,A!]
 rfl
def acA(n:Nat)(dr:X')(fr:ST)(q:R0)(n?:QQ)(st:St)(a:cn N α)(i:Int)(o:Nat)(x:α)(G:a.at i=M x){sz:Nat}{ag:X'}{v:V}(g:H (cut (cells x) o sz) (mk ag)=M v)(B:V){m:aX β}(t:q=⟨d,gd,now,.r (.load sz ag),az,dd,[]⟩::l)
 (D:(iF S c n fo fs st0,wanted st.g gd,b9 S.N st.g az,v)=(M (.ops dr fr q,n?,st),M U,M [.v (.fptr ((pa a i).drop o))],B))
 (h:Le m (vW S c Q dr fr d (.r (.load sz ag)) l n? dd (dA st d (.v B)))):Le m (rn S c Q fo fs st0):=by
 simp at D;obtain⟨e,z,C,rfl⟩:=D;refine ud e t z ?_ h;rw[FO,C];have b:gw fr [SV.v (.fptr ((pa a i).drop o))]=U:=rfl;simp[b,Sq];have⟨r,f⟩:=DO G;rw[f];have j:cut ((cells x++r).drop o) 0 sz=cut (cells x) o sz:=by cases u:cut (cells x) o sz with|none=>grind|some w=>unfold cut at u⊢;dsimp only at u⊢;split at u;have e1:(List.drop 0 (List.drop o (cells x++r))).take sz=((cells x).drop o).take sz:=(by have I:sz=0\/o<=W (cells x):=(by grind);grind);grind;grind
 cases u:cut (cells x) o sz with
 |none=>grind|some w=>grind
def Aal(n:Nat)(dr:X')(fr:ST)(q:R0)(n?:QQ)(st:St)(cs:SW){u sz:Nat}{zero:So}{m:aX β}(D:q=⟨M u,gd,now,.a (.alloc sz zero),az,dd,[]⟩::l)
 (G:st.new u=U)(B:(iF S c n fo fs st0,wanted st.g gd,b9 S.N st.g az,zero.map SV.v)=(M (.ops dr fr q,n?,st),M U,M [],cs))
 (h:Le m (vW S c Q dr fr (M u) (.a (.alloc sz zero)) l n? dd {st with g:=bJ st.g u (.ptr u 0),m:=bJ st.m u (.box cs)})):Le m (rn S c Q fo fs st0):=by
 simp at B;have⟨a,w,z,C⟩:=B;subst C;refine ud a D w ?_ h;rw[DZ,z];simp[G,qI]
def wh(d:Nat)(l:So):SV.dX d (l.map .v)=O:=by induction l with|nil=>rfl|cons a l u=>simp[SV.dX,SV.cZ,u]
def wN{α:Type}[bD α](d:Nat)(x:α):bG.cZ d (bx x)=O:=wh d (cells x)
def ac0(n:Nat)(dr:X')(fr:ST)(q:R0)(n?:QQ)(st:St)(k:T2)(u:Nat){ln sz:Nat}{a:cn N α}{i:Int}{f:α->aX γ}(D:q=⟨d,gd,now,.p (.idxA ln sz),az,dd,[]⟩::l)
 (B:(iF S c n fo fs st0,wanted st.g gd,b9 S.N st.g az,sz,ln,bk st.m u)=(M (.ops dr fr q,n?,st),M U,M [.ptr u 0,.v (.int k i)],bD.size α,N,M (bx a)))
 (h:∀x,a.at i=M x->Le ((f x).bind e) (vW S c Q dr fr d (.p (.idxA ln sz)) l n? dd (dA st d (.ptr u (i.toNat*bD.size α+0))))):Le (((a.at i).bind f).bind e) (rn S c Q fo fs st0):=by
 simp at B;have⟨g,w,z,I,j,C⟩:=B;refine Ip g D w ?_ h;intro r b;have⟨x,G,b⟩:=ζg.1 b;have⟨g1,g2,_⟩:=cn.yB G;rw[E9 z rfl ?_]
 .omega
 simp[lP,dG,D4,C]
 grind
def Up{a:cn N α}{i:Int}{o:Nat}{x:α}(B:a.at i=M x){sz:Nat}{ag:X'}{v:V}(c:H (cut (cells x) o sz) (mk ag)=M v):yJ sz ag ((((cells a).map SV.v).drop (i.toNat*bD.size α+o)).take sz)=M (.v v):=by
 have⟨r,d⟩:=DO B;have e1:(((cells a).map SV.v).drop (i.toNat*bD.size α+o)).take sz=(((cells x).drop o).take sz).map SV.v:=by have u:((cells x).drop o).take sz=((cells x++r).drop o).take sz:=(by cases b:cut (cells x) o sz with|none=>grind|some w=>unfold cut at b;dsimp only at b;split at b;have C:sz=0\/o<=W (cells x):=(by grind);grind;simp_all);rw[u,<-d,pa,A!,w0,f8]
 rw[e1];unfold yJ;cases b:cut (cells x) o sz with|none=>grind|some w=>rw[b]at c;unfold cut at b;dsimp only at b;split at b;rename_i z;cases b;simp only[O!,z];unfold mk at c;(cases ag with|true=>simp only[N']at c⊢;cases c;rw[l8]|false=>grind);simp_all
def acQ(n:Nat)(dr:X')(fr:ST)(q:R0)(n?:QQ)(st:St)(u:Nat)(a:cn N α)(i:Int)(o:Nat)(x:α)(G:a.at i=M x){sz:Nat}{ag:X'}{v:V}(e:H (cut (cells x) o sz) (mk ag)=M v)(B:V){m:aX β}(g:q=⟨d,gd,now,.r (.load sz ag),az,dd,[]⟩::l)
 (D:(iF S c n fo fs st0,wanted st.g gd,b9 S.N st.g az,v,bk st.m u,(!dr||now||gw fr [.ptr u 0]))=(M (.ops dr fr q,n?,st),M U,M [.ptr u (i.toNat*bD.size α+o)],B,M (bx a),U))
 (h:Le m (vW S c Q dr fr d (.r (.load sz ag)) l n? dd (dA st d (.v B)))):Le m (rn S c Q fo fs st0):=by
 simp only[ζc]at D;obtain⟨f,w,z,rfl,C,I⟩:=D;refine ud f g w ?_ h;rw[FO,z];have b:(!dr||now||gw fr [SV.ptr u (i.toNat*bD.size α+o)])=U:=I;simp only[ζb,b,adQ,C,RL];rw[Up G e];rfl
def Tn{N:Nat}(a:cn N α)(i:Int)(y:α)(h:i.toNat<N):cells (a.set i y)=(cells a).take (i.toNat*bD.size α)++cells y++(cells a).drop ((i.toNat+1)*bD.size α):=by
 have key:∀(l:aY α)(k:Nat),k<W l->((l.set k y).map (cells)).flatten=(l.map (cells)).flatten.take (k*bD.size α)++cells y++(l.map (cells)).flatten.drop ((k+1)*bD.size α):=by intro l;induction l with|nil=>grind|cons b l u=>intro k h;have w:=jv b;cases k with|zero=>grind|succ k=>simp only[K?,d6];have e1:(k+1)*bD.size α=W (cells b)+k*bD.size α:=g?;have e2:(k+1+1)*bD.size α=W (cells b)+(k+1)*bD.size α:=g?;rw[e2,List.drop_length_add_append];grind
 exact key a.l i.toNat (by rw[a.len];omega)
def acs(n:Nat)(dr:X')(fr:ST)(q:R0)(n?:QQ)(st:St)(u:Nat)(a:cn N α)(i:Int)(o:Nat)(x:α)(B:a.at i=M x)(y:α)(v:V){sz:Nat}(G:cells y=(cells x).take o++v.cells++(cells x).drop (o+sz)){m:aX β}(g:q=⟨d,gd,now,.l (.store sz),az,dd,[]⟩::l)
 (D:(iF S c n fo fs st0,wanted st.g gd,b9 S.N st.g az,bk st.m u,(!dr||now),W v.cells,v.cells.all V.one,ble (o+sz) (bD.size α))=(M (.ops dr fr q,n?,st),M U,M [.ptr u (i.toNat*bD.size α+o),.v v],M (bx a),U,sz,U,U))
 (h:Le m (vW S c Q dr fr d (.l (.store sz)) l n? dd (dA {st with m:=bJ st.m u (bx (a.set i y))} d (.v .undef)))):Le m (rn S c Q fo fs st0):=by
 simp only[ζc]at D;have⟨b,z,C,I,L,t,T,j⟩:=D;refine ud b g z ?_ h;rw[wZ,C];have X:=Nat.le_of_ble_eq_true j;have⟨g1,g2,g3⟩:=cn.yB B;have F:i.toNat*bD.size α+o+sz<=W ((cells a).map SV.v):=by rw[O!,jv];have:(i.toNat+1)*bD.size α<=N*bD.size α:=Nat.mul_le_mul_right _ g2;rw[o!,o6]at this;show _<=N*bD.size α;omega
 simp only[ζb,L,N',mO,I,putCells,t,T,F,and_self,A?];have⟨r,f⟩:=DO B;have e:((cells a).map SV.v).take (i.toNat*bD.size α+o)++v.cells.map .v++((cells a).map SV.v).drop (i.toNat*bD.size α+o+sz)=(cells (a.set i y)).map SV.v:=by rw[Tn a i y g2,G];have hd:(cells a).drop (i.toNat*bD.size α)=cells x++r:=f;have w:=jv x;have e1:(cells a).take (i.toNat*bD.size α+o)=(cells a).take (i.toNat*bD.size α)++(cells x).take o:=(by rw[List.take_add,hd,List.take_append_of_le_length a?]);have e2:(cells a).drop (i.toNat*bD.size α+o+sz)=(cells x).drop (o+sz)++(cells a).drop ((i.toNat+1)*bD.size α):=(by have e3:(cells a).drop ((i.toNat+1)*bD.size α)=r:=(by rw[o!,o6,<-A!,hd,<-w,List.drop_left]);rw[e3,Nat.add_assoc,<-A!,hd,List.drop_append_of_le_length a?]);rw[<-w0,<-f8,e1,e2];grind
 rw[e]
end
def X_{α:Type}[bD α]{m:Tb bG}{d:Nat}{x:α}{vs:So}(h:bk m d=M (bx x)):qO (kH m 8) (.ptr d 0::vs.map .v)=M (.fptr (cells x)::vs):=by
 have a:kH m 8 (.ptr d 0)=M (.fptr (cells x)):=by
  show(match bk m d with
   |some (.box cs)=>match qO (kH m 7) cs with
    |some u=>if 0<=W u then M (V.fptr (u.drop 0))else J|none=>J
   |_=>J)=_
  rw[h];simp[MH]
 simp[qO,a,MH]
def aci(n:Nat){fo:Fo}{fs n?:QQ}{st0 st:St}{rs:aY RV}{e:γ->aX So}{r:γ}(m?:SW){ys:So}(B:qO (kH st.m 8) m?=M ys)(h:(iF S c n fo fs st0,lz st rs)=(M (.rt,n?,st),M m?))(D:e r=M ys):
 Le (H (M r) e) (rn S c (oR rs) fo fs st0):=by
 simp at h;rw[rE h.1];refine Le.of_eq ?_;simp[rn,oR,h.2,B]
 grind
abbrev Mo(κ ν:Type):=aY (κ×ν)
class Key(κ:Type)[bD κ][DecidableEq κ]where
 kk:Al
 ok:∀a:κ,sV kk (enc a)=true
 eq:∀a b:κ,z_ (enc a) (enc b)=some (decide (a=b))
instance:Key Int where
 kk:=.int _r
 ok _:=rfl
 eq a b:=by show M (a==b)=M (_s (a=b));rw[show(a==b)=_s (a=b)from Bool.eq_iff_iff.2 f?]
instance:Key bf where
 kk:=.ints 2
 ok _:=rfl
 eq a b:=by have⟨p,i⟩:=a;have⟨q,j⟩:=b;simp only[z_,nE,jV,aa8,A?,W?,N',ζa];rw[Bool.eq_iff_iff];simp
section
variable{κ ν:Type}[bD κ][DecidableEq κ][Key κ][bD ν]
def qq(k:κ):Mo κ ν->aX ν
 |[]=>J|(a,v)::r=>if k=a then M v else qq k r
def vL(m:Mo κ ν)(k:κ)(z:ν):ν:=(qq k m).getD z
def qy(m:Mo κ ν)(k:κ)(v:ν):Mo κ ν:=
 match m with
 |[]=>[(k,v)]|(a,w)::r=>if k=a then(k,v)::r else(a,w)::qy r k v
def rC(m:Mo κ ν):aY (V×V):=m.map λx=>(enc x.1,enc x.2)
def tR(m:Mo κ ν):bG:=.mp (rC m)
def OY(k:κ):∀(m:Mo κ ν)(i:Nat),(kj (enc k) (rC m) i).map (Option.map (·.2))=M ((qq k m).map enc)
 |[],i=>rfl|(a,v)::r,i=>by simp only[rC,K?,kj,Key.eq,qq];by_cases h:k=a;grind;simp only[h];exact OY k r (i+1)
def Wu(k:κ)(v:ν)(m:Mo κ ν):sR (enc k) (enc v) (rC m)=M (rC (qy m k v)):=by
 unfold sR;have key:∀(m:Mo κ ν)(pre:aY (V×V))(i:Nat),W pre=i->(match kj (enc k) (rC m) i with
  |some (M (j,_))=>M ((pre++rC m).set j (enc k,enc v))|some J=>M (pre++rC m++[(enc k,enc v)])|none=>J)=M (pre++rC (qy m k v)):=by
  intro m
  induction m with
  |nil=>simp[rC,kj,qy]|cons x r u=>
   have⟨a,w⟩:=x;intro pre i h;rw[show rC ((a,w)::r)=(enc a,enc w)::rC r from Y];simp[kj,Key.eq,qy]
   by_cases b:k=a
   .subst b h;simp[rC]
   simp[b];rw[show rC ((a,w)::qy r k v)=(enc a,enc w)::rC (qy r k v)from Y];have:=u (pre++[(enc a,enc w)]) (i+1) (by simp[h])
   grind
 have:=key m [] 0 rfl;grind
def acT(n:Nat)(dr:X')(fr:ST)(q:R0)(n?:QQ)(st:St)(u:Nat)(mp:Mo κ ν)(k:κ)(z:ν){kk:Al}{B:V}{m:aX β}(G:q=⟨d,gd,now,.r (.lookup kk B O),az,dd,[]⟩::l)
 (D:(iF S c n fo fs st0,wanted st.g gd,b9 S.N st.g az,bk st.m u,(!dr||now||gw fr [.mp u,cv k]),B,kk)=(M (.ops dr fr q,n?,st),M U,M [.mp u,cv k],M (tR mp),U,enc z,Key.kk κ))
 (h:Le m (vW S c Q dr fr d (.r (.lookup kk B O)) l n? dd (dA st d (cv (vL mp k z))))):Le m (rn S c Q fo fs st0):=by
 simp only[ζc]at D;have⟨a,C,I,g,L,j,T⟩:=D;subst j T;refine ud a G C ?_ h;rw[FO,I];simp only[ζb,L,sn,g,tR,Key.ok];have:=OY k mp 0;simp[vL]
 cases i:kj (enc k) (rC mp) 0 with
 |none=>grind|some r=>
  rw[i]at this
  cases r with
  |none=>
   cases o:qq k mp with
   |none=>rfl|some w=>grind
  |some w=>
   cases o:qq k mp with
   |none=>grind|some X=>grind
def ad0(n:Nat)(dr:X')(fr:ST)(q:R0)(n?:QQ)(st:St)(u:Nat)(mp:Mo κ ν)(k:κ)(v:ν){kk:Al}{m:aX β}(D:q=⟨d,gd,now,.l (.mapUp kk),az,dd,[]⟩::l)
 (B:(iF S c n fo fs st0,wanted st.g gd,b9 S.N st.g az,bk st.m u,(!dr||now),kk)=(M (.ops dr fr q,n?,st),M U,M [.mp u,cv k,cv v],M (tR mp),U,Key.kk κ))
 (h:Le m (vW S c Q dr fr d (.l (.mapUp kk)) l n? dd (dA {st with m:=bJ st.m u (tR (qy mp k v))} d (.v .undef)))):Le m (rn S c Q fo fs st0):=by
 simp only[ζc]at B;have⟨a,w,z,C,G,I⟩:=B;subst I;refine ud a D w ?_ h;rw[wZ,z];simp[G,mO,C,tR,Key.ok,Wu]
end
end
instance{n:Nat}:OfNat Arg n:=⟨.s n⟩
abbrev bI(o:BinOp):K:=.p (.bin (M .int) J o)
abbrev ix(n:Nat):K:=.p (.idxS n)
abbrev ld(n:Nat):K:=.r (.load n O)
abbrev lD(n:Nat):K:=.r (.load n U)
abbrev fa(n:Nat):K:=.p (.fieldAddr n)
abbrev ln:K:=.p .lenSl
abbrev Iv(n:Nat)(x:Int):Nat×SV:=(n,iv x)
abbrev Bv(n:Nat)(x:Bool):Nat×SV:=(n,bv x)
abbrev Cv{α:Type}[bD α](n:Nat)(x:α):Nat×SV:=(n,cv x)
abbrev Kv{α:Type}[bD α](n:Nat)(x:α):Nat×SV:=(n,cp x)
abbrev Pv(n:Nat):Nat×SV:=(n,.ptr n 0)
abbrev Ov(n:Nat):Nat×SV:=(n,.own (2000+n))
abbrev Xb{α:Type}[bD α](n:Nat)(x:α):Nat×bG:=(n,bx x)
abbrev Lb{α:Type}[bD α](n:Nat)(x:Sl α):Nat×bG:=(n,cH x)
abbrev on(d:Nat)(k:K)(az:aY Arg)(dd:aY Nat):RO:=⟨M d,J,U,k,az,dd,[]⟩
abbrev oz(k:K)(az:aY Arg)(dd:aY Nat):RO:=⟨J,J,O,k,az,dd,[]⟩
attribute [simp] ZB X2 YU
def eZ.A8{S:Sys}{T:sY}{f:Y'}{b:X'}(B:T f=J)(a:S.E.keep f=O)(D:S.A8 f []=M (.bool b)):
 eZ S (dB S T) f (λ_:Unit=>[]) (λr:X'=>[.bool r]) (λ_=>M b) U where
 k:=a
 h _:=by have h:=Jf (az:=[]) B a D;intro r c;cases c;unfold iB;rw[h];exact vl 8 [.bool b]
 s _ _:=rfl
def Wp{α:Type}(m:aX α)(P:α->Prop):Prop:=∃a,m=M a/\P a
section
variable{α β:Type}{P Q:α->Prop}
theorem a_(a:α):Wp (M a) P↔P a:=⟨λh=>by have⟨b,e,p⟩:=h;cases e;exact p,λp=>⟨a,Y,p⟩⟩
def YK:Wp (J:aX α) P↔False:=⟨λh=>(by have⟨b,e,p⟩:=h;cases e),λh=>False.elim h⟩
def eS{m:aX β}{k:β->aX α}:Wp (m.bind k) P↔Wp m λb=>Wp (k b) P:=by cases m with|none=>simp only[Option.bind_none,YK]|some b=>simp only[ζb,a_]
theorem cm{t:X'}{a b:aX α}:Wp (bh t a b) P↔(t=U->Wp a P)/\(t=O->Wp b P):=by cases t<;>simp[bh]
def Wp.mono{m:aX α}(h:Wp m P)(B:∀a,P a->Q a):Wp m Q:=let⟨a,e,p⟩:=h;⟨a,e,B a p⟩
def Wp.and{m:aX α}(h:Wp m P)(B:Wp m Q):Wp m λa=>P a/\Q a:=by have⟨a,e,p⟩:=h;have⟨b,e2,q⟩:=B;rw[e]at e2;cases e2;exact⟨a,e,p,q⟩
def Wp.eq{m:aX α}{a:α}(h:Wp m λx=>x=a):m=M a:=by obtain⟨b,e,rfl⟩:=h;exact e
end
section
variable{σ ε ρ:Type}
def fP(step:σ->aX (Fw σ ε ρ))(s:σ):bL step s=H (step s) λw=>match w with
 |.n B=>bL step B|.x e=>M (.x e)|.r b=>M (.r b):=by
 have d:∀r,bL step s=M r->(H (step s) λw=>match w with
  |.n B=>bL step B|.x e=>M (.x e)|.r b=>M (.r b))=M r:=by
  intro r h;have⟨k,a⟩:=sW.1 h
  cases k with
  |zero=>simp[nV]at a|succ k=>
   simp only[nV]at a
   cases u:step s with
   |none=>rw[u]at a;cases a|some w=>
    rw[u]at a
    cases w with
    |n B=>exact sW.2 ⟨k,a⟩|x e=>exact a|r b=>exact a
 cases z:bL step s with
 |some r=>exact(d r z).symm|none=>
  cases c:(H (step s) λw=>match w with
  |.n B=>bL step B|.x e=>M (.x e)|.r b=>M (.r b))with
  |none=>rfl|some r=>
   exfalso
   cases u:step s with
   |none=>rw[u]at c;cases c|some w=>
    rw[u]at c;simp only[ζb]at c;have:bL step s=M r:=by cases w with|n B=>have⟨k,a⟩:=sW.1 c;exact sW.2 ⟨k+1,by simp only[nV,u];exact a⟩|x e=>exact sW.2 ⟨1,by simp only[nV,u];exact c⟩|r b=>exact sW.2 ⟨1,by simp only[nV,u];exact c⟩
    rw[z]at this;cases this
def Xd(I:σ->Prop)(μ:σ->Nat)(D:ε->Prop)(G:ρ->Prop)(s:σ):Fw σ ε ρ->Prop
 |.n B=>I B/\μ B<μ s|.x e=>D e|.r b=>G b
def Pfw(B:ε->Prop)(D:ρ->Prop):Fw Empty ε ρ->Prop
 |.x e=>B e|.r b=>D b
def We{step:σ->aX (Fw σ ε ρ)}(I:σ->Prop)(μ:σ->Nat)(B:ε->Prop)(D:ρ->Prop)(h:∀s,I s->Wp (step s) (Xd I μ B D s)){s:σ}(G:I s):Wp (bL step s) (Pfw B D):=by
 have key:∀n s,μ s<=n->I s->Wp (bL step s) (Pfw B D):=by
  intro n
  induction n with
  |zero=>intro s C hi;have⟨w,u,a⟩:=h s hi;rw[fP,u];cases w with|n z=>exact _e a.2 a?|x e=>exact⟨_,rfl,a⟩|r b=>exact⟨_,rfl,a⟩
  |succ n g=>intro s C hi;have⟨w,u,a⟩:=h s hi;rw[fP,u];cases w with|n z=>exact g z (by have:=a.2;omega) a.1|x e=>exact⟨_,rfl,a⟩|r b=>exact⟨_,Y,a⟩
 exact key (μ s) s (Nat.le_refl _) G
def eC{γ:Type}{step:σ->aX (Fw σ ε ρ)}{B:ε->aX γ}{fr:ρ->aX γ}{P:γ->Prop}(I:σ->Prop)(μ:σ->Nat){s:σ}(D:I s)
 (h:∀s,I s->Wp (step s) (Xd I μ (λe=>Wp (B e) P) (λb=>Wp (fr b) P) s)):Wp (H (bL step s) (Fw.elim B fr)) P:=by
 rw[eS];refine(We I μ _ _ h D).mono ?_;intro w u
 cases w with
 |n a=>cases a|x e=>exact u|r b=>exact u
end
def HG{β γ δ:Type}{e:γ->aX β}{m:aX δ}{f:δ->aX γ}{L:aX β}(h:∀x,m=M x->Le (H (f x) e) L):Le (H (m.bind f) e) L:=by cases m with|none=>exact Le.none _|some x=>exact h x Y
section
variable{S:Sys}{c:b_}{β:Type}{Q:Out×St->aX β}{fo:Fo}{fs:QQ}{st0:St}{l:R0}{d:aX Nat}{now:X'}{az:QR}{dd:ST}
theorem Le.get{β:Type}{r:β}{L:aX β}(h:Le (M r) L):L=M r:=h r Y
def Kt{n:Nat}{fo fo':Fo}{fs n?:QQ}{st:St}(A:X'->St){t:X'}{m:aX β}(B:t=U)(h:iF S c n fo fs st=M (fo',n?,A t))(D:Le m (rn S c Q fo' n? (A U))):Le m (rn S c Q fo fs st):=by rw[rE h,B];exact D
def Kf{n:Nat}{fo fo':Fo}{fs n?:QQ}{st:St}(A:X'->St){t:X'}{m:aX β}(B:t=O)(h:iF S c n fo fs st=M (fo',n?,A t))(D:Le m (rn S c Q fo' n? (A O))):Le m (rn S c Q fo fs st):=by rw[rE h,B];exact D
def VY{α:Type}[bD α]{s:Sl α}{i:Int}{x:α}{r:β}{L:aX β}(B:idx s i=M x)(h:Le (((idx s i).bind λ_=>M r).bind M) L):Le (M r) L:=by rw[B]at h;exact h
def Kyl{n:Nat}{q:R0}{n?:QQ}{st:St}{id:Nat}{vs:SW}{xs:So}{B:S'}{m:aX β}
 (D:iF S c n fo fs st0=M (.ops O [] q,n?,st))(G:q=⟨d,J,now,.c,az,dd,[]⟩::l)(g:b9 S.N st.g az=M (.yl id::vs))(T:dG vs=M xs)(i:st.want=xs::B)(hi:id=st.yid)
 (h:Le m (rn S c Q (.ops O [] l) n? (su dd (dA {st with want:=B} d (.v (.bool (st.more|| !B.isEmpty))))))):Le m (rn S c Q fo fs st0):=by
 refine XF D G Y ?_ h;unfold gT;simp only[wanted,ij,g,T,i,hi,N',and_self,Bool.false_eq_true,_a]
def DY(a:RC)(fs:QQ)(st:St):rn S c Q (.rc (.loop a)) fs st=H (ri (cV S c a) st) (H7 (pV S c Q fs) (pU S c Q fs) (λst=>Q (.ret,st))):=by show mJ S c Q (.loop a) fs st=_;unfold mJ;rw[FY];rfl
def Yp{f:St->aX (Out×St)}{st e?:St}(h:f st=M (.norm,e?)):ri f st=ri f e?:=by
 have key:∀r,ri f st=M r↔ri f e?=M r:=λr=>by constructor;intro b;have⟨k,a⟩:=pX.1 b;(cases k with|zero=>simp[k_]at a|succ k=>simp only[k_,h]at a;exact pX.2 ⟨k,a⟩);intro b;have⟨k,a⟩:=pX.1 b;exact pX.2 ⟨k+1,by simp only[k_,h];exact a⟩
 cases u:ri f st with
 |none=>cases w:ri f e? with|none=>rfl|some r=>rw[(key r).2 w]at u;cases u
 |some r=>rw[(key r).1 u]
def O5{f:St->aX (Out×St)}{st e?:St}{o:Out}(h:f st=M (o,e?))(B:o≠.norm):ri f st=M (o,e?):=by refine pX.2 ⟨1,?_⟩;cases o with|norm=>exact _e Y B|exit k=>simp only[k_,h]|ret=>simp only[k_,h]
def JV{a:RC}{fs:QQ}{st e?:St}(h:rn S c M (.rc a) [] st=M (.norm,e?)):rn S c Q (.rc (.loop a)) fs st=rn S c Q (.rc (.loop a)) fs e?:=by rw[DY,DY,Yp (by rw[DB];exact h)]
def I6{a:RC}{fs:QQ}{st e?:St}{k:Nat}(h:rn S c M (.rc a) [] st=M (.exit k,e?)):rn S c Q (.rc (.loop a)) fs st=rn S c Q (.ex k) fs e?:=by rw[DY,O5 (by rw[DB];exact h) f?];rfl
def IL{a:RC}{fs:QQ}{st e?:St}(h:rn S c M (.rc a) [] st=M (.ret,e?)):rn S c Q (.rc (.loop a)) fs st=Q (.ret,e?):=by rw[DY,O5 (by rw[DB];exact h) f?];rfl
end
def Qi:Out×St->aX Unit
 |(.exit _,_)=>J|(_,st)=>if st.want.isEmpty then M ()else J
def Sys.bare(S:Sys):Sys:=⟨S.E,S.N,λ_ _ _=>J,λ_ _=>J,λ_=>J⟩
def qo:b_:=λ_ _ _=>J
def xP(B i?:S')(more:X'):Prop:=more=U/\B=i?\/more=O/\B≠[]/\∃r,i?=B++r
def Uo(S:Sys){f:Y'}{fi:FI}{nm:Y'->aX Nat}{rf:RF}(G:S.E.ft f=M fi)(j:∀g s,nm g=M s->S.N s=g)(e:Aj S.E nm fi rf){a b:So}{xs:S'}(D:W a+1+W b<=rf.na)(T:rf.rs=[])
 (h:∀B more,xP B xs more->∀yid,rn S.bare qo Qi (.rc rf.body) [] ⟨ye 0 (a.map .v++.yl yid::b.map .v),[],[],B,more,yid⟩=M ()):fM S f a b xs:=by
 have k:fM S.bare f a b xs:=OD (S:=S.bare) (c:=qo) (fi:=fi) (nm:=nm) (rf:=rf) (λ_ _ h=>by cases h) (λ_ _ _ _ _ h=>by simp[qo]at h) (λ_ _ _ _ h=>by simp[Sys.bare]at h) G j e D T (λB more w yid=>by
  have d:=h B more w yid;change mJ S.bare qo Qi rf.body [] _=M ()at d;rw[qR]at d;have⟨⟨o,e?⟩,z,u⟩:=ζg.1 d;refine⟨o,e?,z,?_,?_,Y⟩
  .rintro id rfl;simp[Qi]at u
  cases o<;>simp[Qi]at u<;>exact u)
 intro B more w yid i y Z C I F d z u L t;exact k B more w yid i ⟨y.zG,y.yield⟩ Z C I F d z u L t
open Classical in
def AM(P:Y'->So->So->S'->Prop)(f:Y')(a b:So):aX S':=if h:∃u,P f a b u then M (Classical.choose h)else J
def F9{P:Y'->So->So->S'->Prop}{f:Y'}{a b:So}{xs:S'}(h:P f a b xs)(d:∀ys,P f a b ys->ys=xs):AM P f a b=M xs:=by have c:∃xs,P f a b xs:=⟨xs,h⟩;unfold AM;rw[dif_pos c,d _ (S? c)]
def Qq{P:Y'->So->So->S'->Prop}{f:Y'}{a b:So}{xs:S'}(h:AM P f a b=M xs):P f a b xs:=by
 unfold AM at h;split at h;next c=>cases h;exact S? c
 cases h
def aba{E:Env}{nm:Y'->aX Nat}{f:Y'}{rf:RF}
 (h:(H (E.ft f) λfi=>H (bV ⟨E,nm,fi.ntmps⟩ O fi.body) λc=>H (fi.results.mapM (DT E)) λrs=>M (c,rs,fi.ntmps))=M (erase rf.body,rf.rs,rf.na)):∃fi,E.ft f=M fi/\Aj E nm fi rf:=by
 have⟨fi,a,w⟩:=ζg.1 h;have⟨c,z,B⟩:=ζg.1 w;have⟨rs,C,u⟩:=ζg.1 B;simp only[ζa,ζc]at u;obtain⟨rfl,rfl,D⟩:=u;exact⟨fi,a,z,C,D.symm⟩
def FR.sq{H:bt}{Z Z':Nat->Prop}{x y z:V}(h:FR H Z x z)(k:FR H Z' y z):x=y:=by have⟨n,u⟩:=Dh x;have⟨m,w⟩:=Dh y;have e1:=h.borrow (max n m) (Bd (Nat.le_max_left _ _) u);have e2:=k.borrow (max n m) (Bd (Nat.le_max_right _ _) w);rw[e1]at e2;exact Option.some.inj e2
open Classical in
def AZ(E:Env)(f:Y')(az:So):aX V:=if h:∃y,Ft E f az y then M (Classical.choose h)else J
def Jt{E:Env}{f:Y'}{az:So}{y:V}(h:AZ E f az=M y):Ft E f az y:=by
 unfold AZ at h;split at h;next a=>cases h;exact S? a
 cases h
def IN{E:Env}{f:Y'}{az:So}{y:V}(h:Ft E f az y):AZ E f az=M y:=by have a:∃y,Ft E f az y:=⟨y,h⟩;unfold AZ;rw[dif_pos a];have⟨n,z,g,Z,k1,k2,_⟩:=h;have⟨u,w,H',Z',k3,k4,_⟩:=S? a;have e1:=(rL E (Nat.le_max_left n u)).go _ _ _ _ k1;have e2:=(rL E (Nat.le_max_right n u)).go _ _ _ _ k3;rw[e1]at e2;cases e2;rw[FR.sq k4 k2]
def NQ{E:Env}{f:Y'}{az:So}{y:V}(B:V.scalar y=U)(h:∃n H',run E n (.fn f) az []=M (y,H')):Ft E f az y:=by have⟨n,H',h⟩:=h;exact⟨n,y,H',λ_=>False,h,.same _ (lV B),λ_ h=>h.elim,⟨λ_ _ _ h=>h.elim⟩⟩
end Go.VE
