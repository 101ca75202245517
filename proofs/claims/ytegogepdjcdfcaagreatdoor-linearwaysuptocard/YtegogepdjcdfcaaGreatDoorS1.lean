/- Certificates. -/
import Derived.KernelRfl
import Derived.Test.YtegogepdjcdfcaaGreatDoorN2
set_option linter.all false
open Option renaming some→M,some→_j,none→J,none→_p,bind→H,bind→_n
open Bool renaming true→U,true→_m,false→O,false→_o
open Decidable renaming decide→_r
open List renaming length→W,length→_l
open Go.IntKind renaming i64→N,i64→_q
open Classical renaming choose_spec→S?
open List renaming drop_drop→D!,flatten_cons→d9,length_cons→U?,length_map→N!,length_nil→A',map_cons→J?,map_drop→g8,map_take→B',range'→G'
open Option renaming map_some→A?
open Nat renaming add_mul→p!,one_mul→u0
noncomputable section
open Nat(le)
open List(replicate)
open Nat(le)
open Nat(ble)
namespace Go.VE
variable[bZ]
inductive Sl(α:Type)where
 |nil|emp|row(l:List α)|part(l:List α)
 deriving Inhabited
abbrev Zg:=Sl Int
abbrev Zb:=Sl (Sl Int)
def Sl.l{α:Type}:Sl α->aX α
 |.nil|.emp=>[]|.row l|.part l=>l
def Sl.k{α:Type}:Sl α->Fl
 |.nil=>.nil|.emp=>.emp|.row _=>.row|.part _=>.part
class bC(α:Type)where
 cells:α->List V
 agg:Bool
 size:Nat
 len:∀a,(cells a).length=size
 good:∀a,V.cT (cells a)=true
 one:∀a,(cells a).all V.one=true
 plain:agg=false->size=1
def cells{α:Type}[bC α](a:α):So:=bC.cells a
def enc{α:Type}[bC α](a:α):V:=if bC.agg α then .agg (cells a)else(cells a).headD .undef
def rows{α:Type}[bC α](l:aX α):S':=l.map cells
def ct{α:Type}[bC α](s:Sl α):V:=lJ s.k (bC.size α) (rows s.l)
instance:bC Int where
 cells n:=[.int _q n]
 agg:=O
 size:=1
 len _:=rfl
 good _:=rfl
 one _:=rfl
 plain _:=rfl
instance:bC X' where
 cells b:=[.bool b]
 agg:=O
 size:=1
 len _:=rfl
 good _:=rfl
 one _:=rfl
 plain _:=rfl
instance:bC U' where
 cells s:=[.str s]
 agg:=O
 size:=1
 len _:=rfl
 good _:=rfl
 one _:=rfl
 plain _:=rfl
structure bf where
 proc:Int
 index:Int
 deriving DecidableEq,Inhabited
instance:bC bf where
 cells x:=[.int _q x.proc,.int _q x.index]
 agg:=U
 size:=2
 len _:=rfl
 good _:=rfl
 one _:=rfl
 plain h:=by cases h
@[simp] def aeM(n:Int):enc n=.int _q n:=rfl
@[simp] def aer(n:X'):enc n=.bool n:=rfl
@[simp] def aeK(n:U'):enc n=.str n:=rfl
@[simp] def adP(n:Int):cells n=[.int _q n]:=rfl
@[simp] def acT(n:X'):cells n=[.bool n]:=rfl
@[simp] def aed(n:U'):cells n=[.str n]:=rfl
@[simp] def aey(n:bf):cells n=[.int _q n.proc,.int _q n.index]:=rfl
@[simp] def abj(n:bf):enc n=.agg [.int _q n.proc,.int _q n.index]:=rfl
section
variable{α:Type}[bC α]
def gw(l:aX α):W (rows l)=W l:=by simp[rows]
def idx(s:Sl α)(i:Int):aY α:=if 0<=i then s.l[i.toNat]?else J
def Wo{N:Nat->Y'}(s:Sl α)(k:T2)(i:Int){n:Nat}(B:n=bC.size α):bT N (.idxS n) [ct s,.int k i]=(idx s i).map λx=>.fptr (cells x):=by subst B;unfold idx ct;simp only[bT,nL];by_cases h:i<0;rw[L' h,M' c?];rfl;rw[M' h,L' c?];cases s<;>simp[Sl.k,Sl.l,lJ,rows,Function.comp_def]
def RK{N:Nat->Y'}(s:Sl α):bT N .lenSl [ct s]=M (.int _q (W s.l)):=by cases s<;>simp[bT,qF,ct,Sl.k,Sl.l,lJ,gw]
end
section
variable{S:Sys}{c:cg}
end
end Go.VE
namespace Go.VE
variable[bZ]
section
variable{S:Sys}{c:cg}
def isSlice:xN->X'
 |.slice ..=>U|_=>O
def PX(dr:X')(fr:ST)(dst:aY Nat)(now:X')(p:xN)(az:QR)(st:St)(h:isSlice p=O):
 gz S c dr fr ⟨dst,J,now,.p p,az,[],[]⟩ st=H (bU S.N st.g az) λm?=>H (kj S.N st.m p m?) λx=>M (cQ st dst x):=by
 unfold gz oa;have u:gI S.N st.g ⟨dst,J,now,.p p,az,[],[]⟩=J:=by unfold gI;grind
 simp[wanted,u]
 cases z:bU S.N st.g az with
 |none=>rfl|some m?=>simp;cases p<;>first|(simp[isSlice]at h;done)|(cases w:kj S.N st.m _ m?<;>simp[w])
def Ot(N:Nat->Y')(m:Tb bE)(p:xN)(m?:Rd)(xs:So)(h:c6 m?=M xs):kj N m p m?=H (bT N p xs) λx=>M (.v x):=by unfold kj;rw[h];dsimp only;cases bT N p xs<;>rfl
def BN(dr:X')(fr:ST)(dst:aY Nat)(now:X')(q:OW)(az:QR)(st:St):
 gz S c dr fr ⟨dst,J,now,.r q,az,[],[]⟩ st=H (bU S.N st.g az) λm?=>if !dr||now||fA fr m? then(qe st.m q m?).bind λx=>M (cQ st dst x)else J:=by
 unfold gz oa;have u:gI S.N st.g ⟨dst,J,now,.r q,az,[],[]⟩=J:=rfl;simp[wanted,u]
 cases w:bU S.N st.g az with
 |none=>rfl|some m?=>
  simp;split
  .cases z:qe st.m q m?<;>simp
  rfl
def zX(dr:X')(fr:ST)(d:Nat)(now:X')(q:TY)(az:QR)(st:St):
 gz S c dr fr ⟨M d,J,now,.a q,az,[],[]⟩ st=H (bU S.N st.g az) λm?=>if st.new d then(oB st.m q m? d).bind λr=>M {st with g:=bH st.g d r.2,m:=bH st.m d r.1}else J:=by
 unfold gz oa;have u:gI S.N st.g ⟨M d,J,now,.a q,az,[],[]⟩=J:=rfl;simp[wanted,u]
 cases w:bU S.N st.g az with
 |none=>rfl|some m?=>
  simp;split
  .cases z:oB st.m q m? d<;>simp[cQ]
  rfl
def yR(dr:X')(fr:ST)(dst:aY Nat)(now:X')(q:OC)(az:QR)(st:St):
 gz S c dr fr ⟨dst,J,now,.l q,az,[],[]⟩ st=H (bU S.N st.g az) λm?=>if !dr||now then(mZ st dst q m?).bind λr=>M (cQ r.2 dst r.1)else J:=by
 unfold gz oa;have u:gI S.N st.g ⟨dst,J,now,.l q,az,[],[]⟩=J:=rfl;simp[wanted,u]
 cases w:bU S.N st.g az with
 |none=>rfl|some m?=>
  simp;split
  .cases z:mZ st dst q m?<;>simp
  rfl
def mA:Rd->aY (Y'×Rd)
 |.clo f a b::vs=>M (f,a++vs++b)|.v (.clo f a b)::vs=>M (f,a.map .v++vs++b.map .v)|_=>J
def w_(dr:X')(fr:ST)(dst:aY Nat)(now:X')(az:QR)(st:St)(m?:Rd)(f:Y')(args:Rd)(B:bU S.N st.g az=M m?)(a:mA m?=M (f,args)):
 gz S c dr fr ⟨dst,J,now,.c,az,[],[]⟩ st=H (fD S c dst dr (!dr||now) (gb st.m fr) f args st) λr=>M (cQ r.2 dst r.1):=by
 unfold gz oa;unfold mA at a;split at a
 .obtain⟨rfl,rfl⟩:=a;simp[wanted,gI,B];cases fD S c dst dr _ _ _ _ st<;>simp
 .obtain⟨rfl,rfl⟩:=a;simp[wanted,gI,B];cases fD S c dst dr _ _ _ _ st<;>simp
 grind
def UW{β:Type}(S:Sys)(c:cg)(fr:ST)(l:R0)(k:St->aY β):St->aY β:=λst=>H (pS S c O fr l st) k
def Ux{β:Type}(S:Sys)(c:cg)(fr:ST)(l:R0)(k:St->aY β):St->aY β:=λst=>H (pS S c U fr l st) k
def ab6{β:Type}(S:Sys)(c:cg)(fr dd:ST)(l:R0)(k:St->aY β):St->aY β:=λst=>UW S c fr l k (su dd st)
def abN{β:Type}(S:Sys)(c:cg)(fr dd:ST)(l:R0)(k:St->aY β):St->aY β:=λst=>Ux S c fr l k (su dd st)
@[congr] def adH{β:Type}{fr:ST}{l:R0}{k:St->aY β}{st e?:St}(h:st=e?):UW S c fr l k st=UW S c fr l k e?:=by rw[h]
@[congr] def adz{β:Type}{fr B:ST}{l:R0}{k:St->aY β}{st e?:St}(D:fr=B)(h:st=e?):Ux S c fr l k st=Ux S c B l k e?:=p?
@[congr] def adj{β:Type}{fr dd:ST}{l:R0}{k:St->aY β}{st e?:St}(h:st=e?):ab6 S c fr dd l k st=ab6 S c fr dd l k e?:=by rw[h]
@[congr] def ac7{β:Type}{fr B dd:ST}{l:R0}{k:St->aY β}{st e?:St}(D:fr=B)(h:st=e?):abN S c fr dd l k st=abN S c B dd l k e?:=p?
@[congr] def adQ{dr:X'}{fr:ST}{o:RO}{st e?:St}(h:st=e?):gz S c dr fr o st=gz S c dr fr o e?:=by rw[h]
end
section
variable{S:Sys}{c:cg}(dr:X')(fr:ST)(dst:aY Nat)(now:X')(az:QR)(st:St)
end
inductive Fm where
 |seq(b:RC)|blk(id:Nat)|gst(x:Gh)
abbrev QQ:=aX Fm
section
variable(S:Sys)(c:cg){β:Type}(Q:Out×St->aY β)
def runK:QQ->Out×St->aY β
 |[],r=>Q r|.seq b::fs,(.norm,st)=>H (cI S c b st) (runK fs)|.seq _::fs,r=>runK fs r|.blk id::fs,(.exit k,st)=>if k=id then runK fs (.norm,st)else runK fs (.exit k,st)|.blk _::fs,r=>runK fs r|.gst x::fs,(.norm,st)=>H (ghost x st) λst=>runK fs (.norm,st)|.gst _::fs,r=>runK fs r
def go(a:RC)(fs:QQ)(st:St):aY β:=H (cI S c a st) (runK S c Q fs)
def XM(fs:QQ):St->aY β:=λst=>runK S c Q fs (.norm,st)
def bg{α:Type}(t:X')(a b:α):α:=if t then a else b
end
@[congr] def adY{α:Type}{t B:X'}{a b a' D:α}(h:t=B)(G:B=U->a=a')(g:B=O->b=D):bg t a b=bg B a' D:=by subst h;cases t;exact g Y;exact G Y
section
variable{S:Sys}{c:cg}{β:Type}{Q:Out×St->aY β}
@[congr] def go_congr{a:RC}{fs:QQ}{st e?:St}(h:st=e?):go S c Q a fs st=go S c Q a fs e?:=by rw[h]
@[congr] def acE{fs:QQ}{st e?:St}(h:st=e?):XM S c Q fs st=XM S c Q fs e?:=by rw[h]
@[congr] def ac9{fs:QQ}{r B:Out×St}(h:r=B):runK S c Q fs r=runK S c Q fs B:=by rw[h]
def Lx(a:RC)(st:St):H (cI S c a st) Q=go S c Q a [] st:=by simp only[go];cases cI S c a st<;>rfl
inductive Fw(ν ε ρ:Type)where
 |n(a:ν)|x(e:ε)|r(b:ρ)
def nF{σ ε ρ:Type}(step:σ->aY (Fw σ ε ρ)):Nat->σ->aY (Fw Empty ε ρ)
 |0,_=>J|k+1,s=>match step s with
  |some (.n B)=>nF step k B|some (.x e)=>M (.x e)|some (.r b)=>M (.r b)|none=>J
def AF{σ ε ρ:Type}{step:σ->aY (Fw σ ε ρ)}:∀{k B:Nat}{s:σ}{r:Fw Empty ε ρ},k<=B->nF step k s=M r->nF step B s=M r
 |0,_,_,_,_,h=>by simp[nF]at h|k+1,0,_,_,hk,_=>c?|k+1,B+1,s,r,hk,h=>by simp only[nF]at h⊢;split at h;exact AF (Nat.le_of_succ_le_succ hk) h;exact h;exact h;simp at h
open Classical in
def bG{σ ε ρ:Type}(step:σ->aY (Fw σ ε ρ))(s:σ):aY (Fw Empty ε ρ):=if h:∃k r,nF step k s=M r then M (Classical.choose (S? h))else J
def sV{σ ε ρ:Type}{step:σ->aY (Fw σ ε ρ)}{s:σ}{r:Fw Empty ε ρ}:bG step s=M r↔∃k,nF step k s=M r:=by
 unfold bG;constructor;intro h;split at h;next u=>simp only[ζa]at h;exact⟨_,by rw[<-h];exact S? (S? u)⟩
 simp at h;rintro⟨k,a⟩;have u:∃k r,nF step k s=M r:=⟨k,r,a⟩;rw[dif_pos u];have z:=S? (S? u);have B:=AF (Nat.le_max_left (Classical.choose u) k) z;have w:=AF (Nat.le_max_right (Classical.choose u) k) a;rw[B]at w;exact w
def Fw.out{ν ε ρ:Type}(B:ν->St)(eε:ε->Nat×St)(eρ:ρ->St):Fw ν ε ρ->Out×St
 |.n a=>(.norm,B a)|.x e=>(.exit (eε e).1,(eε e).2)|.r b=>(.ret,eρ b)
def Fw.elim{ε ρ γ:Type}(fx:ε->γ)(fr:ρ->γ):Fw Empty ε ρ->γ
 |.x e=>fx e|.r b=>fr b
end
section
variable{α:Type}[bC α]
def Il(s:Sl α):V.one (ct s)=U:=by cases s<;>rfl
def SO(l:aX α):V.pI (rows l)=U:=by induction l with|nil=>rfl|cons a l u=>simp only[rows,J?,V.pI,ζh];exact⟨bC.good a,u⟩
def Pj(s:Sl α):V.good (ct s)=U:=by cases s<;>simp only[ct,Sl.k,lJ,V.good]<;>exact SO _
instance:bC (Sl α)where
 cells s:=[ct s]
 agg:=O
 size:=1
 len _:=rfl
 good s:=by simp only[V.cT,Pj,Bool.and_self]
 one s:=by simp[Il]
 plain _:=rfl
def WX(s:Sl α):cells s=[ct s]:=rfl
end
section
variable{S:Sys}{c:cg}
def T5(x:aY SV)(b:X')(y z:aY St):aY St:=
 match x with
 |some (.v (.bool t))=>bg (t==b) y z|some (.v _)=>z|_=>J
@[congr] def ab9{x B:aY SV}{b:X'}{y z:aY St}(h:x=B):T5 x b y z=T5 B b y z:=by rw[h]
def Xv{β:Type}(x:aY SV)(y z:aY β):aY β:=
 match x with
 |some (.v (.bool t))=>bg t y z|_=>J
@[congr] def acI{β:Type}{x B:aY SV}{y z:aY β}(h:x=B):Xv x y z=Xv B y z:=by rw[h]
def gO(c:cg)(f:Y')(az:So):aY So:=H (c f (az.map .v) []) λr=>dy r.2 8 r.1
def K0(now:X')(args:Rd)(ok:X')(st:St)(ys:So):aY (SV×St):=if(result ys).scalar||ok then M (.v (result ys),st)else if now then(rowsOf st.m args).map λds=>(.v (result ys),{st with m:=ql ds st.m})else J
def Pe(dst:aY Nat)(dr now:X')(old:Rd->X')(f:Y')(args:Rd)(st:St)(a:S.E.keep f=O):
 fD S c dst dr now old f args st=H (dy st.m 8 args) λaz=>if now||old args then(gO c f az).bind (K0 now args (c6 args).isSome st)else J:=by
 unfold fD gO;simp only[a,Bool.false_eq_true,_a]
 cases dy st.m 8 args with
 |none=>rfl|some az=>
  simp only[ζb];split
  .cases c f (az.map .v) []with
   |none=>rfl|some r=>have⟨rs,m'⟩:=r;simp only[ζb];cases dy m' 8 rs<;>rfl
  rfl
end
section
variable{S:Sys}{T:sP}
def Ll(rs:Ps):Out×St->aY So
 |(.exit _,_)=>J|(_,st)=>H (kY st rs) (dy st.m 8)
def V5{f:Y'}{rf:RF}(B:T f=M rf)(az:So)(D:W az<=rf.na):gO (dg S T) f az=go S (dg S T) (Ll rf.rs) rf.body [] (start (az.map .v) []):=by unfold gO;rw[uB B];unfold pP;rw[L' (by simpa using D),<-Lx];cases h:cI S (dg S T) rf.body (start (az.map .v) [])with|none=>rfl|some r=>have⟨o,st⟩:=r;cases o<;>simp only[ζb,Ll]<;>(try rfl)<;>(cases kY st rf.rs<;>rfl)
end
end Go.VE
namespace Go.VE
variable[bZ]
variable{N:Nat->Y'}
def BK(k:T2)(a b:Int):PH:=if b=0 then J else M (k.wrap (a.tdiv b))
def acr(e:aY KT)(q:aY Nat)(k:T2)(a b:Int):bT N (.bin e q .quo) [.int k a,.int k b]=H (BK k a b) λx=>M (.int k x):=by simp only[bT,oT,BK,N'];split<;>rfl
def MU(o:Nat)(cs:So):bT N (.fieldAddr o) [.fptr cs]=if o<=W cs then M (.fptr (cs.drop o))else J:=rfl
def mK(s:U')(n:Int):PH:=if 0<=n then(s[n.toNat]?).map λb=>(b.toNat:Int)else J
def TO(s:U')(k:T2)(n:Int):bT N .idxStr [.str s,.int k n]=H (mK s n) λx=>M (.int .u8 x):=by simp only[bT,mK];split;cases s[n.toNat]?<;>rfl;rfl
def WZ(z:So)(pl:aX (Nat×Nat))(vs:So):bT N (.build z pl) vs=H (mF z pl vs) λcs=>M (.agg cs):=by simp only[bT];cases mF z pl vs<;>rfl
section
variable{α:Type}[bC α]
def OG(s:Sl α)(k:T2)(i:Int)(n:Nat)(B:n=bC.size α):bT N (.idxS n) [ct s,.int k i]=H (idx s i) λx=>M (.fptr (cells x)):=by rw[Wo s k i B];cases idx s i<;>rfl
def KR(s:Sl α):bT N .lenSl [ct s]=M (.int _q (W s.l)):=RK s
def Sl.isNil{α:Type}(s:Sl α):aY X':=
 match s with
 |.nil=>M U|.emp=>J|_=>M O
def U6(q:aY Nat)(s:Sl α):bT N (.bin (M .slice) q .eql) [ct s,.bN]=s.isNil.bind λt=>M (.bool t):=by cases s<;>rfl
def SE(q:aY Nat)(s:Sl α):bT N (.bin (M .slice) q .neq) [ct s,.bN]=s.isNil.bind λt=>M (.bool !t):=by cases s<;>rfl
def gN(s:Sl α)(a b:PH):aY (Sl α):=
 (ec (W s.l) a b).map λ(l,h)=>match s with
  |.nil=>.nil|.emp=>.emp|.row x=>.part ((x.take h).drop l)|.part x=>.part ((x.take h).drop l)
def Qm(s:Sl α)(a b:PH)(n:Nat)(B:n=bC.size α):jF n (ct s) a b=H (gN s a b) λx=>M (ct x):=by subst B;cases s with|nil=>simp only[ct,Sl.k,lJ,jF,gN,Sl.l,A'];cases ec 0 a b<;>rfl|emp=>simp only[ct,Sl.k,lJ,jF,gN,Sl.l,A'];cases ec 0 a b<;>rfl|row l=>simp only[ct,Sl.k,lJ,jF,gN,Sl.l,N',gw];cases ec (W l) a b<;>simp[rows,B',g8]|part l=>simp only[ct,Sl.k,lJ,jF,gN,Sl.l,N',gw];cases ec (W l) a b<;>simp[rows,B',g8]
end
def RI(m:Tb bE)(n:Nat)(a:X')(cs:So):qe m (.load n a) [.v (.fptr cs)]=H (cut cs 0 n) λr=>H (mk a r) λx=>M (.v x):=by simp only[qe,fh];cases cut cs 0 n with|none=>rfl|some r=>simp only[ζb];cases mk a r<;>rfl
end Go.VE
namespace Go.VE
variable[bZ]
section
variable{α:Type}[bC α]
def cF(s:Sl α):bE:=.sl s.k (bC.size α) (rows s.l)
def Sl.iA(s:Sl α)(i:Int):aY Nat:=if 0<=i/\i.toNat<W s.l then M i.toNat else J
def Sl.get(s:Sl α)(i:Nat):aY α:=s.l[i]?
def Sl.put(s:Sl α)(i:Nat)(x:α):aY (Sl α):=if i<W s.l then M (match s with|.row l=>.row (l.set i x)|.part l=>.part (l.set i x)|s=>s)else J
def d_(s:Sl α)(x:α):aY (Sl α):=if W s.l+1<=2147483648 then M (.row (s.l++[x]))else J
def nv(n:Int)(z:α):aY (Sl α):=if 0<=n/\n<=2147483648 then M (.row (replicate n.toNat z))else J
end
section
variable{α:Type}[bC α]{N:Nat->Y'}{m:Tb bE}
def LQ(n d:Nat)(o:aY bE)(i:Int):aY SV:=
 match o with
 |some (.sl k es u)=>if b7 k/\es=n/\0<=i/\i.toNat<W u then M (.el d i.toNat 0)else J|some (.dp k u _)=>if b7 k/\1=n/\0<=i/\i.toNat<W u then M (.el d i.toNat 0)else J|_=>J
def OA(n d:Nat)(k:T2)(i:Int):kj N m (.idxS n) [.own d,.v (.int k i)]=LQ n d (bk m d) i:=by simp[kj,c6,zQ,LQ];grind
def X_(n d:Nat)(s:Sl α)(i:Int)(h:n=bC.size α):LQ n d (M (cF s)) i=H (s.iA i) λj=>M (.el d j 0):=by simp[LQ,cF,gw,Sl.iA];cases s with|nil=>simp[Sl.l,b7]|emp=>simp[Sl.l,b7]|row l=>simp[Sl.k,Sl.l,b7];grind|part l=>simp[Sl.k,Sl.l,b7];grind
def QN(o:aY bE):aY SV:=
 match o with
 |some (.sl _ _ u)=>M (.v (.int _q (W u)))|some (.dp _ u _)=>M (.v (.int _q (W u)))|_=>J
def VC(d:Nat):kj N m .lenSl [.own d]=QN (bk m d):=by simp[kj,c6,zQ,QN];grind
def Z8(s:Sl α):QN (M (cF s))=M (.v (.int _q (W s.l))):=by simp[QN,cF,gw]
def XK(n:Nat)(a:X')(o:Nat)(ob:aY bE):aY SV:=
 match ob with
 |some (.box cs)=>yF n a ((cs.drop o).take n)|_=>J
def aet(n:Nat)(a:X')(d o:Nat):qe m (.load n a) [.ptr d o]=XK n a o (bk m d):=by rfl
def RS(n:Nat)(a:X')(o:Nat)(cs:Rd):XK n a o (M (.box cs))=yF n a ((cs.drop o).take n):=rfl
def Gq(n:Nat)(a:X')(i o:Nat)(ob:aY bE):aY SV:=
 match ob with
 |some (.sl _ _ u)=>match u[i]?with
  |some cs=>(H (cut cs o n) (mk a)).map .v|none=>J
 |some (.dp _ _ (M (j,t)))=>if j=i/\o=0/\n=1/\a=O then M (.own t)else J|_=>J
def XA(n:Nat)(a:X')(d i o:Nat):qe m (.load n a) [.el d i o]=Gq n a i o (bk m d):=by rfl
def TM(n:Nat)(a:X')(i o:Nat)(s:Sl α):Gq n a i o (M (cF s))=H (s.get i) λx=>H (cut (cells x) o n) λr=>H (mk a r) λy=>M (.v y):=by simp only[Gq,cF,Sl.get,rows,List.getElem?_map];cases s.l[i]?with|none=>rfl|some x=>simp only[A?,ζb];cases cut (cells x) o n with|none=>rfl|some r=>simp;cases mk a r<;>rfl
def adC(z:α)(n:Int)(d:Nat)(size:Nat)(zero:So)(h:zero=cells z)(B:size=bC.size α):
 oB m (.makeSl size zero) [.v (.int _q n),.v (.int _q n)] d=H (nv n z) λs=>M (cF s,.own d):=by
 subst h B;simp[oB,nv];split
 .simp[cF,Sl.k,Sl.l,rows]
 rfl
def HE(st:St)(d i o size:Nat)(x:V)(ob:aY bE):aY (SV×St):=
 match ob with
 |some (.sl k es u)=>match u[i]?with
  |some cs=>if W x.cells=size/\o+size<=W cs/\x.cells.all V.one=U then
   M (.v .undef,{st with m:=bH st.m d (.sl k es (u.set i (cs.take o++x.cells++cs.drop (o+W x.cells))))})else J
  |none=>J
 |_=>J
def PT(st:St)(dst:aY Nat)(size d i o:Nat)(x:V):mZ st dst (.store size) [.el d i o,.v x]=HE st d i o size x (bk st.m d):=by rfl
def QX(g:Tb SV)(p:ST)(w:S')(B:X')(y:Nat)(d i size:Nat)(x:V)(a:α)(D:x.cells=cells a)(G:size=bC.size α)(s:Sl α):
 HE ⟨g,m,p,w,B,y⟩ d i 0 size x (M (cF s))=H (s.put i a) λh=>M (.v .undef,⟨g,bH m d (cF h),p,w,B,y⟩):=by
 have e:(cells a).all V.one=U:=bC.one a;have u:∀b:α,W (cells b)=bC.size α:=bC.len;subst G;simp only[HE,cF,rows,List.getElem?_map,D,Sl.put]
 by_cases c:i<(W s.l)
 .have hg:=ζd c;rw[L' c,hg];simp[u,e]
  cases s with
  |nil=>simp[Sl.l]at c|emp=>simp[Sl.l]at c|row l=>simp[Sl.k,Sl.l,List.drop_of_length_le,u]|part l=>simp[Sl.k,Sl.l,List.drop_of_length_le,u]
 grind
def AH(st:St)(t n:Nat)(s:SV)(xs ys:aY S'):aY (SV×St):=
 match xs,ys with
 |some _,M []=>match s with
  |.own d=>match bk st.m d with
   |some ob=>if St.new {st with m:=dz d st.m} t then M (.own t,{st with m:=bH (dz d st.m) t ob})else J|none=>J
  |.v .bN=>if st.new t then M (.own t,{st with m:=bH st.m t (.sl .nil n [])})else J|.v .dH=>if st.new t then M (.own t,{st with m:=bH st.m t (.sl .emp n [])})else J|_=>J
 |some xs,M ys=>
  if W xs+W ys<=2147483648/\MO s=U then
   if St.new {st with m:=giveUp st.m s} t then M (.own t,{st with m:=bH (giveUp st.m s) t (.sl .row n (xs++ys))})else J
  else J
 |_,_=>J
def Ah{st:St}{t n:Nat}{s x:SV}{xs ys:S'}(a:jC st.m n s=M xs)(B:jC st.m n x=M ys):mZ st (M t) (.append n) [s,x]=AH st t n s (M xs) (M ys):=by cases ys<;>cases s<;>cases x<;>(unfold mZ AH;simp only[a,B];try rfl)
def QI(n:Nat)(o:aY bE):aY S':=
 match o with
 |some (.sl k es u)=>if b7 k then(if es=n then M u else J)else M []|_=>J
def Dz(n d:Nat):jC m n (.own d)=QI n (bk m d):=by simp[jC,QI];grind
def DZ(n:Nat)(s:Sl α)(h:n=bC.size α):QI n (M (cF s))=M (rows s.l):=by subst h;cases s<;>simp[QI,cF,Sl.k,Sl.l,b7,rows]
def YS(n:Nat):jC m n (.v .bN)=M []:=rfl
def ZP(n:Nat):jC m n (.v .dH)=M []:=rfl
def RY(g:Tb SV)(p:ST)(w:S')(B:X')(y:Nat)(t n d:Nat)(l:aX α)(x:α)(h:n=bC.size α):AH ⟨g,m,p,w,B,y⟩ t n (.own d) (M (rows l)) (M (rows [x]))=
 H (d_ (.row l) x) λs=>if St.new ⟨g,dz d m,p,w,B,y⟩ t then M (.own t,⟨g,bH (dz d m) t (cF s),p,w,B,y⟩)else J:=by
 subst h;have e:W (rows l)+W (rows [x])=W l+1:=by simp[gw]
 by_cases h:W l+1<=2147483648
 .have a:d_ (.row l) x=M (.row (l++[x])):=L' h;have u:AH ⟨g,m,p,w,B,y⟩ t (bC.size α) (.own d) (M (rows l)) (M (rows [x]))=if St.new ⟨g,dz d m,p,w,B,y⟩ t then M (.own t,⟨g,bH (dz d m) t (.sl .row (bC.size α) (rows l++rows [x])),p,w,B,y⟩)else J:=L' ⟨c?,Y⟩
  rw[a,u];simp[cF,Sl.k,Sl.l,rows]
 have a:d_ (.row l) x=J:=M' h;have u:AH ⟨g,m,p,w,B,y⟩ t (bC.size α) (.own d) (M (rows l)) (M (rows [x]))=J:=M' (λq=>h c?)
 grind
def TP(g:Tb SV)(p:ST)(w:S')(B:X')(y:Nat)(t n:Nat)(x:α)(h:n=bC.size α):AH ⟨g,m,p,w,B,y⟩ t n (.v .bN) (M []) (M (rows [x]))=
 if St.new ⟨g,m,p,w,B,y⟩ t then M (.own t,⟨g,bH m t (cF (.row [x])),p,w,B,y⟩)else J:=by
 subst h;rfl
def SI(g:Tb SV)(p:ST)(w:S')(B:X')(y:Nat)(t n:Nat)(x:α)(h:n=bC.size α):AH ⟨g,m,p,w,B,y⟩ t n (.v .dH) (M []) (M (rows [x]))=
 if St.new ⟨g,m,p,w,B,y⟩ t then M (.own t,⟨g,bH m t (cF (.row [x])),p,w,B,y⟩)else J:=by
 subst h;rfl
end
def AO(g:Tb SV)(m:Tb bE)(p:ST)(w:S')(B:X')(y d:Nat):St.new ⟨g,m,p,w,B,y⟩ d=(!(p.contains d)&&(bk m d).isNone&& !(wX d g)&& !(vk d m)):=rfl
def vg(d:Nat):wX d []=O:=rfl
def tn(d n:Nat)(x:SV)(r:Tb SV):wX d ((n,x)::r)=(SV.cM d x||wX d r):=rfl
def u5(d:Nat):vk d []=O:=rfl
def tH(d n:Nat)(x:bE)(r:Tb bE):vk d ((n,x)::r)=(bE.cM d x||vk d r):=rfl
def Ba(d:Nat)(x:V):SV.cM d (.v x)=O:=rfl
def wk(d e:Nat):SV.cM d (.own e)=(e==d):=rfl
def v7(d e o:Nat):SV.cM d (.ptr e o)=(e==d):=rfl
def zh(d e i o:Nat):SV.cM d (.el e i o)=(e==d):=rfl
def zf(d e:Nat):SV.cM d (.mp e)=(e==d):=rfl
def wF(d:Nat)(f:Y')(a b:Rd):SV.cM d (.clo f a b)=(SV.dK d a||SV.dK d b):=rfl
def wM(d:Nat)(l:Rd):SV.cM d (.tup l)=SV.dK d l:=rfl
def uY(d:Nat):SV.dK d []=O:=rfl
def tc(d:Nat)(x:SV)(r:Rd):SV.dK d (x::r)=(SV.cM d x||SV.dK d r):=rfl
def uS(d:Nat)(cs:Rd):bE.cM d (.box cs)=SV.dK d cs:=rfl
def ID(m:Tb bE)(n:Nat):dy m n []=M []:=by cases n<;>simp[dy]
def Ge(m:Tb bE)(n:Nat)(x:SV)(r:Rd):dy m n (x::r)=H (shut m n x) λy=>H (dy m n r) λs=>M (y::s):=by cases n<;>(simp[dy];cases shut m _ x<;>(try rfl)<;>(cases dy m _ r<;>rfl))
def abY(m:Tb bE)(n:Nat)(x:V):shut m n (.v x)=M x:=by cases n<;>simp[shut]
def Vi(m:Tb bE)(n:Nat)(f:Y')(a b:Rd):shut m (n+1) (.clo f a b)=H (dy m n a) λx=>H (dy m n b) λy=>M (.clo f x y):=by simp[shut];cases dy m n a<;>(try rfl)<;>(cases dy m n b<;>rfl)
def Vu(m:Tb bE)(n:Nat)(l:Rd):shut m (n+1) (.tup l)=H (dy m n l) λx=>M (.tup x):=by simp[shut];cases dy m n l<;>rfl
def UF(m:Tb bE)(n:Nat)(l:Rd):shut m (n+1) (.agg l)=H (dy m n l) λx=>M (.agg x):=by simp[shut];cases dy m n l<;>rfl
def wI{α:Type}(n:Nat):dz n ([]:Tb α)=[]:=rfl
def uT{α:Type}(n k:Nat)(x:α)(r:Tb α):dz n ((k,x)::r)=if k=n then dz n r else(k,x)::dz n r:=rfl
def mapM_nil(f:Rd->Rd):mapM f []=[]:=rfl
section
variable{N:Nat->Y'}{m:Tb bE}
def ZV:result []=.tup []:=rfl
def Zd(x:V):result [x]=x:=rfl
def Y7(x y:V)(l:So):result (x::y::l)=.tup (x::y::l):=rfl
def ME(p:xN)(a:V):kj N m p [.v a]=H (bT N p [a]) λx=>M (.v x):=Ot N m p _ [a] Y
def wQ(p:xN)(a b:V):kj N m p [.v a,.v b]=H (bT N p [a,b]) λx=>M (.v x):=Ot N m p _ [a,b] Y
def nk(l:So):c6 (l.map .v)=M l:=by induction l with|nil=>rfl|cons a l u=>simp only[J?,c6,u];rfl
def x_(n:Nat)(l:So):dy m n (l.map .v)=M l:=by induction l with|nil=>exact ID m n|cons a l u=>rw[J?,Ge,abY,u];rfl
def Tm(cs:So):mF cs [] []=M cs:=rfl
def QS(cs:So)(off size:Nat)(pl:aX (Nat×Nat))(v:V)(vs:So):mF cs ((off,size)::pl) (v::vs)=
 if W v.cells=size/\off+W v.cells<=W cs then mF (cs.take off++v.cells++cs.drop (off+W v.cells)) pl vs else J:=by
 simp only[mF]
 by_cases h:W v.cells=size<;>by_cases u:off+W v.cells<=(W cs)
 .rw[M' (by simp[h];omega),L' ⟨h,u⟩]
 .rw[L' (by simp[h];omega),M' (λq=>u q.2)]
 .rw[L' (by simp[h]),M' (λq=>h q.1)]
 rw[L' (by simp[h]),M' (λq=>h q.1)]
def Sx(k:T2)(n:Int):V.cells (.int k n)=[.int k n]:=rfl
def Pb(n:X'):V.cells (.bool n)=[.bool n]:=rfl
def Sj(n:U'):V.cells (.str n)=[.str n]:=rfl
def T6:V.cells .bN=[.bN]:=rfl
def o7(k:T2)(n:Int):V.one (.int k n)=U:=rfl
def nE(n:X'):V.one (.bool n)=U:=rfl
def o9(n:U'):V.one (.str n)=U:=rfl
end
section
variable{S:Sys}{c:cg}{β γ δ:Type}{Q:Out×St->aY β}{L:aY β}{e:γ->aY β}
def TG{dr:X'}{fr:ST}{d:aY Nat}{gd:aY (Nat×X')}{now:X'}{k:K}{az:QR}{st:St}(h:wanted st.g gd=M U):
 gz S c dr fr ⟨d,gd,now,k,az,[],[]⟩ st=gz S c dr fr ⟨d,J,now,k,az,[],[]⟩ st:=by
 unfold gz;rw[h];rfl
def EI(dr:X')(st:St):Ff dr [] st=M st:=by cases dr<;>rfl
def oO(f:SV->aY V):Rd->aY So
 |[]=>M []|x::r=>H (f x) λy=>H (oO f r) λs=>M (y::s)
def jA(m:Tb bE):Nat->SV->aY V
 |0,x=>match x with
  |.v y=>M y|.own d=>match bk m d with
   |some (.sl k es xs)=>M (lJ k es xs)|some (.dp k xs J)=>M (lJ k 1 xs)|_=>J
  |.mp d=>match bk m d with
   |some (.mp B)=>M (.fmap B)|_=>J
  |_=>J
 |n+1,x=>match x with
  |.v y=>M y|.own d=>match bk m d with
   |some (.sl k es xs)=>M (lJ k es xs)|some (.dp k xs J)=>M (lJ k 1 xs)|_=>J
  |.ptr d o=>match bk m d with
   |some (.box cs)=>match oO (jA m n) cs with
    |some xs=>if o<=W xs then M (.fptr (xs.drop o))else J|none=>J
   |_=>J
  |.mp d=>match bk m d with
   |some (.mp B)=>M (.fmap B)|_=>J
  |.clo f a b=>H (oO (jA m n) a) λx=>H (oO (jA m n) b) λy=>M (.clo f x y)|.tup l=>H (oO (jA m n) l) λx=>M (.tup x)|.agg l=>H (oO (jA m n) l) λx=>M (.agg x)|_=>J
def zc(m:Tb bE):∀(n:Nat),(∀x,shut m n x=jA m n x)/\∀l,dy m n l=oO (jA m n) l:=by
 have w:∀n,(∀x,shut m n x=jA m n x)->∀l,dy m n l=oO (jA m n) l:=by intro n h l;induction l with|nil=>exact ID m n|cons a l u=>rw[Ge,h a,u];rfl
 intro n;induction n with|zero=>have z:∀x,shut m 0 x=jA m 0 x:=(by intro x;cases x<;>simp[shut,jA]<;>rfl);grind|succ n u=>have c:∀x,shut m (n+1) x=jA m (n+1) x:=(by intro x;cases x with|ptr d o=>simp[shut,jA,u.2];rfl|clo f a b=>rw[Vi,u.2,u.2];rfl|tup l=>rw[Vu,u.2];rfl|agg l=>rw[UF,u.2];rfl|_=>simp[shut,jA]<;>rfl);grind
def yh(S:Sys)(c:cg)(dr:X'):ST->R0->(St->aY β)->St->aY β
 |_,[],k,st=>k st|fr,o::r,k,st=>(H (Ff dr o.pre st) (gz S c dr fr o.strip)).bind λe?=>yh S c dr (if dr then tW fr o.strip else fr) r k (su o.dead e?)
def HK(dr:X'):∀(l:R0)(fr:ST)(k:St->aY β)(st:St),yh S c dr fr l k st=H (pS S c dr fr l st) k
 |[],_,_,_=>rfl|o::r,fr,k,st=>by simp[yh,pS];cases(Ff dr o.pre st).bind (gz S c dr fr o.strip)with|none=>rfl|some e?=>exact HK dr r _ k _
def sn(S:Sys)(c:cg):RC->(St->aY β)->(Nat->St->aY β)->(St->aY β)->St->aY β
 |.skip,n,_,_,st=>n st|.ops l,n,_,_,st=>yh S c O [] l n st|.vm l,n,_,_,st=>yh S c U [] l n st|.seq a b,n,x,r,st=>sn S c a (λst=>sn S c b n x r st) x r st|.cond y a b,n,x,r,st=>match tM S.N st.g y with
  |some (.v (.bool t))=>bg t (sn S c a n x r st) (sn S c b n x r st)|_=>J
 |.block id a,n,x,r,st=>sn S c a n (λk st=>if k=id then n st else x k st) r st|.loop a,n,x,r,st=>H (ri (cI S c a) st) λq=>match q with|(.norm,st)=>n st|(.exit k,st)=>x k st|(.ret,st)=>r st
 |.each g ps a b,n,x,r,st=>H (cI S c (.each g ps a b) st) λq=>match q with|(.norm,st)=>n st|(.exit k,st)=>x k st|(.ret,st)=>r st
 |.exit k,_,x,_,st=>x k st|.ret,_,_,r,st=>r st|.gh g a,n,x,r,st=>H (ghost g st) λst=>sn S c a n x r st|.hg a g,n,x,r,st=>sn S c a (λst=>H (ghost g st) n) x r st
def Ih(n:St->aY β)(x:Nat->St->aY β)(r:St->aY β):Out×St->aY β
 |(.norm,st)=>n st|(.exit k,st)=>x k st|(.ret,st)=>r st
def Gx:∀(d:RC)(n:St->aY β)(x:Nat->St->aY β)(r:St->aY β)(st:St),sn S c d n x r st=H (cI S c d st) (Ih n x r):=by
 intro d
 induction d with
 |skip=>intros;rfl|ops l=>intro n x r st;simp[sn,cI,HK];cases pS S c O [] l st<;>rfl|vm l=>intro n x r st;simp[sn,cI,HK];cases pS S c U [] l st<;>rfl|seq a b u w=>intro n x r st;simp[sn,cI,u,w];cases h:cI S c a st with|none=>rfl|some q=>have⟨o,e?⟩:=q;cases o<;>rfl
 |cond y a b u w=>
  intro n x r st;simp[sn,cI,u,w]
  cases tM S.N st.g y with
  |none=>rfl|some v=>cases v with
   |v z=>cases z with
    |bool t=>cases t<;>rfl|_=>rfl
   |_=>rfl
 |block id a B=>intro n x r st;simp[sn,cI,B];cases h:cI S c a st with|none=>rfl|some q=>have⟨o,e?⟩:=q;cases o with|exit k=>simp[Ih];split<;>rfl|_=>rfl
 |loop a B=>intro n x r st;rfl|each g ps a b u w=>intro n x r st;rfl|exit k=>intros;rfl|ret=>intros;rfl|gh g a B=>simp[sn,cI,B];grind|hg a g B=>intro n x r st;simp[sn,cI,B];cases h:cI S c a st with|none=>rfl|some q=>have⟨o,e?⟩:=q;cases o with|norm=>simp[Ih];cases ghost g e?<;>rfl|_=>rfl
section
variable(S c Q)
mutual
def pq:QQ->St->aY β
 |[]=>λst=>Q (.norm,st)|.seq b::fs=>λst=>sn S c b (pq fs) (pL fs) (λst=>Q (.ret,st)) st|.blk _::fs=>pq fs|.gst g::fs=>λst=>H (ghost g st) (pq fs)
def pL:QQ->Nat->St->aY β
 |[]=>λk st=>Q (.exit k,st)|.seq _::fs=>pL fs|.blk id::fs=>λk st=>if k=id then pq fs st else pL fs k st|.gst _::fs=>pL fs
end
def mh(a:RC)(fs:QQ)(st:St):aY β:=sn S c a (pq S c Q fs) (pL S c Q fs) (λst=>Q (.ret,st)) st
end
section
variable{dr:X'}{fr:ST}{d:Nat}{dst:aY Nat}{now:X'}{az:QR}{st:St}{α:Type}[bC α]
def Mq{p:xN}{m?:Rd}{m:aY δ}{v:δ->SV}(B:bU S.N st.g az=M m?)(a:isSlice p=O)(h:kj S.N st.m p m?=m.bind λx=>M (v x)):
 gz S c dr fr ⟨dst,J,now,.p p,az,[],[]⟩ st=m.bind λx=>M (cQ st dst (v x)):=by
 rw[PX _ _ _ _ _ _ _ a,B]
 grind
def Dg{p:xN}{m?:Rd}{v:SV}(B:bU S.N st.g az=M m?)(a:isSlice p=O)(h:kj S.N st.m p m?=M v):
 gz S c dr fr ⟨dst,J,now,.p p,az,[],[]⟩ st=M (cQ st dst v):=by
 rw[PX _ _ _ _ _ _ _ a,B]
 grind
def X2{n:Nat}{s:Sl α}{k:T2}{i:Int}(B:bU S.N st.g az=M [.v (ct s),.v (.int k i)])(D:n=bC.size α):
 gz S c dr fr ⟨dst,J,now,.p (.idxS n),az,[],[]⟩ st=H (idx s i) λx=>M (cQ st dst (.v (.fptr (cells x)))):=
 Mq B Y (by rw[wQ,OG s k i n D];grind)
def acV{n e:Nat}{s:Sl α}{k:T2}{i:Int}(B:bU S.N st.g az=M [.own e,.v (.int k i)])(D:bk st.m e=M (cF s))(G:n=bC.size α):
 gz S c dr fr ⟨dst,J,now,.p (.idxS n),az,[],[]⟩ st=H (s.iA i) λj=>M (cQ st dst (.el e j 0)):=
 Mq B Y (by rw[OA,D,X_ n e s i G])
def XD{s:Sl α}(B:bU S.N st.g az=M [.v (ct s)]):gz S c dr fr ⟨dst,J,now,.p .lenSl,az,[],[]⟩ st=M (cQ st dst (.v (.int _q (W s.l)))):=Dg B Y (by rw[ME,KR];rfl)
def aa5{e:Nat}{s:Sl α}(B:bU S.N st.g az=M [.own e])(D:bk st.m e=M (cF s)):gz S c dr fr ⟨dst,J,now,.p .lenSl,az,[],[]⟩ st=M (cQ st dst (.v (.int _q (W s.l)))):=Dg B Y (by rw[VC,D,Z8])
def acS{q:aY KT}{u:aY Nat}{k:T2}{a b:Int}(B:bU S.N st.g az=M [.v (.int k a),.v (.int k b)]):gz S c dr fr ⟨dst,J,now,.p (.bin q u .quo),az,[],[]⟩ st=H (BK k a b) λx=>M (cQ st dst (.v (.int k x))):=Mq B Y (by rw[wQ,acr];grind)
def Yj{u:aY Nat}{s:Sl α}(B:bU S.N st.g az=M [.v (ct s),.v .bN]):gz S c dr fr ⟨dst,J,now,.p (.bin (M .slice) u .eql),az,[],[]⟩ st=s.isNil.bind λt=>M (cQ st dst (.v (.bool t))):=Mq B Y (by rw[wQ,U6];grind)
def Vn{u:aY Nat}{s:Sl α}(B:bU S.N st.g az=M [.v (ct s),.v .bN]):gz S c dr fr ⟨dst,J,now,.p (.bin (M .slice) u .neq),az,[],[]⟩ st=s.isNil.bind λt=>M (cQ st dst (.v (.bool !t))):=Mq B Y (by rw[wQ,SE];grind)
def Vm{s:U'}{k:T2}{n:Int}(B:bU S.N st.g az=M [.v (.str s),.v (.int k n)]):gz S c dr fr ⟨dst,J,now,.p .idxStr,az,[],[]⟩ st=H (mK s n) λx=>M (cQ st dst (.v (.int .u8 x))):=Mq B Y (by rw[wQ,TO];grind)
def ab7{n e i o:Nat}{a:X'}{s:Sl α}{v:α->V}(B:bU S.N st.g az=M [.el e i o])(hd:(!dr||now||fA fr [.el e i o])=U)(D:bk st.m e=M (cF s))(b:∀x:α,H (cut (cells x) o n) (mk a)=M (v x)):
 gz S c dr fr ⟨dst,J,now,.r (.load n a),az,[],[]⟩ st=H (s.get i) λx=>M (cQ st dst (.v (v x))):=by
 rw[BN,B];simp only[ζb,hd,XA,D,TM]
 cases s.get i with
 |none=>rfl|some x=>
  cases d:cut (cells x) o n with
  |none=>grind|some r=>grind
def OY{n e i:Nat}{s:Sl α}{x:V}{a:α}(B:bU S.N st.g az=M [.el e i 0,.v x])(hd:(!dr||now)=U)(D:bk st.m e=M (cF s))(G:x.cells=cells a)(g:n=bC.size α):
 gz S c dr fr ⟨dst,J,now,.l (.store n),az,[],[]⟩ st=H (s.put i a) λT=>M (cQ {st with m:=bH st.m e (cF T)} dst (.v .undef)):=by
 rw[yR,B];simp[hd,PT,D];rw[QX st.g st.pin st.want st.more st.yid e i n x a G g s]
 grind
def ab1{n:Nat}{z:α}{zero:So}{i:Int}(B:bU S.N st.g az=M [.v (.int _q i),.v (.int _q i)])(D:zero=cells z)(G:n=bC.size α)(h:st.new d=U):
 gz S c dr fr ⟨M d,J,now,.a (.makeSl n zero),az,[],[]⟩ st=H (nv i z) λs=>M {st with g:=bH st.g d (.own d),m:=bH st.m d (cF s)}:=by
 rw[zX,B];simp[h];rw[adC z i d n zero D G]
 grind
def ady{n e u:Nat}{s:Sl α}{x:α}(G:bU S.N st.g az=M [.own e,.own u])(hd:(!dr||now)=U)(h:bk st.m e=M (cF s))(a:bk st.m u=M (cF (.row [x])))(B:n=bC.size α)(T:St.new {st with m:=dz e st.m} d=U):
 gz S c dr fr ⟨M d,J,now,.l (.append n),az,[],[]⟩ st=H (d_ s x) λD=>M {st with g:=bH st.g d (.own d),m:=bH (dz e st.m) d (cF D)}:=by
 rw[yR,G];simp only[ζb,hd,N'];rw[Ah (xs:=rows s.l) (ys:=rows [x]) (by rw[Dz,h,DZ n s B]) (by rw[Dz,a,DZ n (.row [x]) B];rfl)]
 have:=RY (m:=st.m) st.g st.pin st.want st.more st.yid d n e s.l x B;rw[this];have w:d_ (.row s.l) x=d_ s x:=by cases s<;>rfl
 rw[w]
 cases d_ s x with
 |none=>rfl|some D=>simp;rw[L' T];rfl
def abR{n u:Nat}{x:α}{v:V}(a:v=.bN\/v=.dH)(G:bU S.N st.g az=M [.v v,.own u])(hd:(!dr||now)=U)(b:bk st.m u=M (cF (.row [x])))(B:n=bC.size α)(D:st.new d=U):
 gz S c dr fr ⟨M d,J,now,.l (.append n),az,[],[]⟩ st=M {st with g:=bH st.g d (.own d),m:=bH st.m d (cF (.row [x]))}:=by
 rw[yR,G];simp only[ζb,hd,N'];have w:jC st.m n (.own u)=M (rows [x]):=by rw[Dz,b,DZ n (.row [x]) B];rfl
 rcases a with rfl|rfl
 .rw[Ah (YS n) w,TP (m:=st.m) st.g st.pin st.want st.more st.yid d n x B];rw[L' D];rfl
 rw[Ah (ZP n) w,SI (m:=st.m) st.g st.pin st.want st.more st.yid d n x B];rw[L' D];rfl
def abw{f:Y'}{m? args:Rd}{cs:So}{m:aY δ}{E:δ->So}(a:gO c f cs=m.bind λr=>M (E r))(b:S.E.keep f=O)(D:bU S.N st.g az=M m?)(G:mA m?=M (f,args))
 (B:oO (jA st.m 8) args=M cs)(g:((!dr||now)||gb st.m fr args)=U)(d:∀r,((result (E r)).scalar||(c6 args).isSome)=U):
 gz S c dr fr ⟨dst,J,now,.c,az,[],[]⟩ st=m.bind λr=>M (cQ st dst (.v (result (E r)))):=by
 rw[w_ dr fr dst now az st m? f args D G,Pe _ _ _ _ _ _ _ b,(zc st.m 8).2,B];simp[g,a]
 cases m with
 |none=>rfl|some r=>
  simp[K0]
  grind
end
end
section
variable{S:Sys}{c:cg}{β γ:Type}{Q:Out×St->aY β}{L:aY β}{e:γ->aY β}
def qE(a:RC)(st:St):mh S c Q a [] st=H (cI S c a st) Q:=by unfold mh;rw[Gx];congr 1;funext q;have⟨o,st⟩:=q;cases o<;>rfl
def DG(a:RC)(st:St):cI S c a st=mh S c M a [] st:=by rw[qE];cases cI S c a st<;>rfl
def pU(rs:Ps):Out×St->aY So
 |(.exit _,_)=>J|(_,st)=>H (kY st rs) (oO (jA st.m 8))
def X8(rs:Ps):Ll rs=pU rs:=by funext q;have⟨o,st⟩:=q;cases o;simp only[Ll,pU];congr 1;funext l;exact(zc st.m 8).2 l;rfl;simp only[Ll,pU];congr 1;funext l;exact(zc st.m 8).2 l
def Yq{S:Sys}{T:sP}{f:Y'}{rf:RF}(B:T f=M rf)(az:So)(D:W az<=rf.na):gO (dg S T) f az=mh S (dg S T) (pU rf.rs) rf.body [] (start (az.map .v) []):=by rw[V5 B az D,<-Lx,qE,X8]
end
def mm{α σ ε ρ:Type}(step:α->σ->aY (Fw σ ε ρ)):aX α->σ->aY (Fw σ ε ρ)
 |[],s=>M (.n s)|x::xs,s=>H (step x s) λw=>match w with
  |.n B=>mm step xs B|.x e=>M (.x e)|.r b=>M (.r b)
def Fw.tg{ν ε ρ γ:Type}(fn:ν->γ)(fx:ε->γ)(fr:ρ->γ):Fw ν ε ρ->γ
 |.n a=>fn a|.x e=>fx e|.r b=>fr b
def Fw.zl{ν ε ρ:Type}(B:ν->Tb bE)(eε:ε->Nat×Tb bE)(eρ:ρ->Tb bE):Fw ν ε ρ->Out×Tb bE
 |.n a=>(.norm,B a)|.x e=>(.exit (eε e).1,(eε e).2)|.r b=>(.ret,eρ b)
def zl(q:Out×St):aY (Out×Tb bE):=M (q.1,q.2.m)
section
variable{S:Sys}{c:cg}{β γ:Type}{Q:Out×St->aY β}{L:aY β}{e:γ->aY β}
def BP(S:Sys)(c:cg)(b:RC):Out×St->aY (Out×Tb bE)
 |(.norm,st)=>mh S c zl b [] st|_=>J
def Py(ps:ST)(a b:RC)(st:St)(x:So)(m:Tb bE)(B:W x=W ps):
 kf ps (cI S c a) (cI S c b) st x m=mh S c (BP S c b) a [] ⟨zT st.g ps (x.map .v),m,st.pin++sy st.g,[],U,0⟩:=by
 unfold kf;rw[L' B,qE]
 cases cI S c a ⟨zT st.g ps (x.map .v),m,st.pin++sy st.g,[],U,0⟩with
 |none=>rfl|some q=>
  have⟨o,u⟩:=q
  cases o with
  |norm=>simp only[ζb,BP];rw[qE];cases cI S c b u<;>rfl|_=>rfl
end
def Le{α:Type}(a b:aY α):Prop:=∀r,a=M r->b=M r
section
variable{α:Type}
def Le.refl(a:aY α):Le a a:=λ_ h=>h
def Le.of_eq{a b:aY α}(h:b=a):Le a b:=λ_ u=>h.trans u
def Le.trans{a b d:aY α}(c:Le a b)(B:Le b d):Le a d:=λr h=>B r (c r h)
def Le.none(b:aY α):Le (J:aY α) b:=λr h=>by cases h
def Le.bind{β:Type}{a b:aY α}{f g:α->aY β}(h:Le a b)(B:∀x,Le (f x) (g x)):Le (a.bind f) (b.bind g):=λr c=>by have⟨x,d,u⟩:=ζg.1 c;rw[h x d];exact B x r u
end
section
variable{S:Sys}{c:cg}{β γ δ:Type}{Q:Out×St->aY β}{L:aY β}{e:γ->aY β}
def K2{dr:X'}{fr:ST}{dst:aY Nat}{now:X'}{az:QR}{st:St}{f:Y'}{m? args:Rd}{cs:So}{m:aY δ}{E:δ->So}(a:Le (m.bind λr=>M (E r)) (gO c f cs))(b:S.E.keep f=O)(D:bU S.N st.g az=M m?)(G:mA m?=M (f,args))
 (B:oO (jA st.m 8) args=M cs)(g:((!dr||now)||gb st.m fr args)=U)(d:∀r,((result (E r)).scalar||(c6 args).isSome)=U):
 Le (m.bind λr=>M (cQ st dst (.v (result (E r))))) (gz S c dr fr ⟨dst,J,now,.c,az,[],[]⟩ st):=by
 intro q w;have⟨r,e,z⟩:=ζg.1 w;have u:gO c f cs=H (M r) λr=>M (E r):=a _ (by rw[e];rfl)
 rw[abw (m:=M r) u b D G B g d];exact z
def VB{σ ε ρ:Type}{f:St->aY (Out×St)}{step:σ->aY (Fw σ ε ρ)}{eσ:σ->St}{eε:ε->Nat×St}{eρ:ρ->St}(h:∀s,Le (H (step s) λw=>M (Fw.out eσ eε eρ w)) (f (eσ s)))(s:σ):
 Le (H (bG step s) λw=>M (Fw.out (λe=>Empty.elim e) eε eρ w)) (ri f (eσ s)):=by
 have key:∀k s r,nF step k s=M r->kR f k (eσ s)=M (Fw.out (λe=>Empty.elim e) eε eρ r):=by intro k;induction k with|zero=>intro s r h;simp[nF]at h|succ k C=>intro s r u;simp only[nF]at u;cases z:step s with|none=>rw[z]at u;cases u|some w=>rw[z]at u;have B:=h s (Fw.out eσ eε eρ w) (by rw[z];rfl);simp only[kR,B];cases w with|n a=>exact C a r u|x e=>cases u;rfl|r b=>cases u;rfl
 intro r c;have⟨w,d,B⟩:=ζg.1 c;have⟨k,g⟩:=sV.1 d;cases B;exact pn.2 ⟨k,key k s w g⟩
def acO{σ ε ρ:Type}{a:RC}{fs:QQ}{step:σ->aY (Fw σ ε ρ)}{eσ:σ->St}{eε:ε->Nat×St}{eρ:ρ->St}{s:σ}{fx:ε->aY γ}{fr:ρ->aY γ}
 (B:L=mh S c Q (.loop a) fs (eσ s))(h:∀s,Le ((step s).bind λw=>M (Fw.out eσ eε eρ w)) (mh S c M a [] (eσ s)))
 (D:∀x,Le ((fx x).bind e) (pL S c Q fs (eε x).1 (eε x).2))(d:∀b,Le ((fr b).bind e) (Q (.ret,eρ b))):Le (((bG step s).bind (Fw.elim fx fr)).bind e) L:=by
 subst B;have g:mh S c Q (.loop a) fs (eσ s)=(ri (cI S c a) (eσ s)).bind (Ih (pq S c Q fs) (pL S c Q fs) (λst=>Q (.ret,st))):=by unfold mh;rw[Gx];rfl
 rw[g];have u:=VB (step:=step) (f:=cI S c a) (eσ:=eσ) (eε:=eε) (eρ:=eρ) (λs=>by rw[DG];exact h s) s
 cases z:bG step s with
 |none=>exact Le.none _|some w=>
  have C:=u _ (by rw[z];rfl)
  rw[C]
  cases w with
  |n a=>cases a|x a=>exact D a|r a=>exact d a
def Nd{α σ ε ρ:Type}{f:So->Tb bE->aY (Out×Tb bE)}{step:α->σ->aY (Fw σ ε ρ)}{eI:α->So}{eσ:σ->Tb bE}{eε:ε->Nat×Tb bE}{eρ:ρ->Tb bE}
 (h:∀x s,Le (H (step x s) λw=>M (Fw.zl eσ eε eρ w)) (f (eI x) (eσ s))):∀(xs:aX α)(s:σ),Le (H (mm step xs s) λw=>M (Fw.zl eσ eε eρ w)) (tA f (xs.map eI) (eσ s))
 |[],s=>λr a=>a|x::xs,s=>by simp only[J?,tA,mm];cases B:step x s with|none=>exact Le.none _|some w=>have D:=h x s (Fw.zl eσ eε eρ w) (by rw[B];rfl);rw[D];cases w with|n u=>simp only[ζb,Fw.zl];exact Nd h xs u|x e=>exact Le.refl _|r b=>exact Le.refl _
def acW{α σ ε ρ:Type}{g:Arg}{ps:ST}{a b:RC}{fs:QQ}{f:Y'}{x y:So}{d:aX α}{eI:α->So}{step:α->σ->aY (Fw σ ε ρ)}{eσ:σ->Tb bE}{eε:ε->Nat×Tb bE}{eρ:ρ->Tb bE}{i:Tb SV}{s:σ}
 {fn:σ->aY γ}{fx:ε->aY γ}{fr:ρ->aY γ}
 (B:L=mh S c Q (.each g ps a b) fs ⟨i,eσ s,[],[],U,0⟩)(j:tM S.N i g=M (.v (.clo f x y)))(k:S.items f x y=M (d.map eI))(D:∀x,(eI x).length=ps.length)
 (h:∀x s,Le ((step x s).bind λw=>M (Fw.zl eσ eε eρ w)) (mh S c (BP S c b) a [] ⟨zT i ps ((eI x).map .v),eσ s,sy i,[],U,0⟩))
 (G:∀s,Le ((fn s).bind e) (pq S c Q fs ⟨i,eσ s,[],[],U,0⟩))
 (o:∀x,Le ((fx x).bind e) (pL S c Q fs (eε x).1 ⟨i,(eε x).2,[],[],U,0⟩))(l:∀b,Le ((fr b).bind e) (Q (.ret,⟨i,eρ b,[],[],U,0⟩))):
 Le (((mm step d s).bind (Fw.tg fn fx fr)).bind e) L:=by
 subst B;have m:mh S c Q (.each g ps a b) fs ⟨i,eσ s,[],[],U,0⟩=(cI S c (.each g ps a b) ⟨i,eσ s,[],[],U,0⟩).bind (Ih (pq S c Q fs) (pL S c Q fs) (λst=>Q (.ret,st))):=by unfold mh;rw[Gx]
 rw[m];simp only[cI,j,k];have u:=Nd (step:=step) (f:=kf ps (cI S c a) (cI S c b) ⟨i,eσ s,[],[],U,0⟩) (eI:=eI) (eσ:=eσ) (eε:=eε) (eρ:=eρ) (λx s=>by rw[Py _ _ _ _ _ _ (D x)];exact h x s) d s
 cases z:mm step d s with
 |none=>exact Le.none _|some w=>
  have C:=u _ (by rw[z];rfl)
  rw[C]
  cases w with
  |n a=>exact G a|x a=>exact o a|r a=>exact l a
end
inductive Fo where
 |rc(c:RC)|ops(dr:Bool)(fr:List Nat)(l:List RO)|nx|ex(k:Nat)|rt
abbrev bD(g:Tb SV)(m:Tb bE):St:=⟨g,m,[],[],U,0⟩
section
variable(S:Sys)(c:cg){β:Type}(Q:Out×St->aY β)
def rn:Fo->QQ->St->aY β
 |.rc a,fs,st=>mh S c Q a fs st|.ops dr fr l,fs,st=>yh S c dr fr l (pq S c Q fs) st|.nx,fs,st=>pq S c Q fs st|.ex k,fs,st=>pL S c Q fs k st|.rt,_,st=>Q (.ret,st)
def yP:Fo->QQ->St->aY (Fo×QQ×St)
 |.rc .skip,fs,st=>M (.nx,fs,st)|.rc (.ops l),fs,st=>M (.ops O [] l,fs,st)|.rc (.vm l),fs,st=>M (.ops U [] l,fs,st)|.rc (.seq a b),fs,st=>M (.rc a,.seq b::fs,st)|.rc (.cond y a b),fs,st=>match tM S.N st.g y with
  |some (.v (.bool U))=>M (.rc a,fs,st)|some (.v (.bool O))=>M (.rc b,fs,st)|_=>J
 |.rc (.block id a),fs,st=>M (.rc a,.blk id::fs,st)|.rc (.exit k),fs,st=>M (.ex k,fs,st)|.rc .ret,fs,st=>M (.rt,fs,st)|.rc (.gh g a),fs,st=>match ghost g st with
  |some e?=>M (.rc a,fs,e?)|none=>J
 |.rc (.hg a g),fs,st=>M (.rc a,.gst g::fs,st)|.rc (.loop _),_,_=>J|.rc (.each ..),_,_=>J|.ops _ _ [],fs,st=>M (.nx,fs,st)|.ops dr fr (⟨d,gd,now,k,az,dd,[]⟩::r),fs,st=>match gz S c dr fr ⟨d,gd,now,k,az,[],[]⟩ st with
  |some e?=>M (.ops dr (if dr then tW fr ⟨d,gd,now,k,az,[],[]⟩else fr) r,fs,su dd e?)|none=>J
 |.ops dr fr (⟨d,gd,now,k,az,dd,x::xs⟩::r),fs,st=>if dr&& !(Dl x&&xs.all Dl)then J else match ghost x st with
  |some e?=>M (.ops dr fr (⟨d,gd,now,k,az,dd,xs⟩::r),fs,e?)|none=>J
 |.nx,.seq b::fs,st=>M (.rc b,fs,st)|.nx,.blk _::fs,st=>M (.nx,fs,st)|.nx,.gst g::fs,st=>match ghost g st with
  |some e?=>M (.nx,fs,e?)|none=>J
 |.nx,[],_=>J|.ex k,.seq _::fs,st=>M (.ex k,fs,st)|.ex k,.blk id::fs,st=>M (if k=id then .nx else .ex k,fs,st)|.ex k,.gst _::fs,st=>M (.ex k,fs,st)|.ex _,[],_=>J|.rt,_,_=>J
def hU:Nat->Fo->QQ->St->aY (Fo×QQ×St)
 |0,fo,fs,st=>M (fo,fs,st)|n+1,fo,fs,st=>match yP S c fo fs st with
  |some (fo',n?,e?)=>hU n fo' n? e?|none=>J
end
section
variable{S:Sys}{c:cg}{β γ δ:Type}{Q:Out×St->aY β}{e:γ->aY β}
def KL{fo fo':Fo}{fs n?:QQ}{st e?:St}(h:yP S c fo fs st=M (fo',n?,e?)):rn S c Q fo fs st=rn S c Q fo' n? e?:=by
 cases fo with
 |rc a=>cases a with|cond y a b=>simp only[yP]at h;split at h;(next u=>cases h;simp only[rn,mh,sn,u,bg,N']);(next u=>cases h;simp only[rn,mh,sn,u,bg];rfl);cases h|gh g a=>simp only[yP]at h;split at h;(next u=>cases h;simp only[rn,mh,sn,u,ζb]);cases h|loop a=>cases h|each g ps a b=>cases h|seq a b=>cases h;simp only[rn,mh,sn,pq,pL]|block id a=>cases h;simp only[rn,mh,sn,pq,pL]|hg a g=>cases h;simp only[rn,mh,sn,pq,pL]|_=>cases h;simp only[rn,mh,sn]
 |ops dr fr l=>cases l with|nil=>cases h;simp only[rn,yh]|cons o r=>have⟨d,gd,now,k,az,dd,pre⟩:=o;cases pre with|nil=>simp only[yP]at h;split at h;(next u=>cases h;simp only[rn,yh,EI,RO.strip,ζb,u]);cases h|cons x w=>simp only[yP]at h;split at h;cases h;rename_i hd;split at h;rename_i u;cases h;(cases dr with|true=>simp only[Bool.true_and,Bool.not_eq_true',Bool.not_eq_false,ζh]at hd;simp only[rn,yh,RO.strip,Ff,rz,N',List.all_cons,hd.1,hd.2,Bool.and_self,u,ζb]|false=>simp only[rn,yh,RO.strip,Ff,rz,Bool.false_eq_true,_a,u,ζb]);cases h
 |nx=>cases fs with|nil=>cases h|cons f fs=>cases f with|seq b=>cases h;simp only[rn,mh,pq]|blk id=>cases h;simp only[rn,pq]|gst g=>simp only[yP]at h;split at h;(next u=>cases h;simp only[rn,pq,u,ζb]);cases h
 |ex k=>cases fs with|nil=>cases h|cons f fs=>cases f with|seq b=>cases h;simp only[rn,pL]|blk id=>cases h;simp only[rn,pL];by_cases e:k=id;simp only[L' e,rn];simp only[M' e,rn]|gst g=>cases h;simp only[rn,pL]
 |rt=>cases h
def rD:∀{n:Nat}{fo fo':Fo}{fs n?:QQ}{st e?:St},hU S c n fo fs st=M (fo',n?,e?)->rn S c Q fo fs st=rn S c Q fo' n? e?
 |0,fo,fo',fs,n?,st,e?,h=>by cases h;rfl|n+1,fo,fo',fs,n?,st,e?,h=>by simp only[hU]at h;split at h;(next a b d B=>rw[KL B];exact rD h);cases h
def Bo{n:Nat}{fo fo':Fo}{fs n?:QQ}{st e?:St}{m:aY β}(h:hU S c n fo fs st=M (fo',n?,e?))(B:Le m (rn S c Q fo' n? e?)):Le m (rn S c Q fo fs st):=by rw[rD h];exact B
def aeq{n:Nat}{fo fo':Fo}{fs n?:QQ}{st e?:St}{r:γ}(h:hU S c n fo fs st=M (fo',n?,e?))(B:rn S c Q fo' n? e?=e r):Le (H (M r) e) (rn S c Q fo fs st):=by rw[rD h];exact Le.of_eq B
def XR{m:aY δ}{f:δ->aY γ}{L:aY β}(k:δ->aY β)(B:Le (m.bind k) L)(b:∀r,Le (H (f r) e) (k r)):Le (H (m.bind f) e) L:=by intro r a;cases m with|none=>cases a|some x=>exact B r (b x r a)
def aeA{n:Nat}{fo:Fo}{fs n?:QQ}{st0:St}{dr:X'}{q l:R0}{fr:ST}{st:St}{d:aY Nat}{gd:aY (Nat×X')}{now:X'}{k:K}{az:QR}{dd:ST}{m:aY δ}{g:δ->St}{f:δ->aY γ}
 (B:hU S c n fo fs st0=M (.ops dr fr q,n?,st))(D:q=⟨d,gd,now,k,az,dd,[]⟩::l)(a:wanted st.g gd=M U)
 (G:Le (m.bind λx=>M (g x)) (gz S c dr fr ⟨d,J,now,k,az,[],[]⟩ st))
 (h:∀x,m=M x->Le (H (f x) e) (rn S c Q (.ops dr (if dr then tW fr ⟨d,gd,now,k,az,[],[]⟩else fr) l) n? (su dd (g x)))):Le (H (m.bind f) e) (rn S c Q fo fs st0):=by
 rw[rD B];subst D;simp only[rn,yh,RO.strip,EI,ζb];rw[TG a]
 cases m with
 |none=>exact Le.none _|some x=>rw[G (g x) Y];exact h x Y
def Xs{n:Nat}{fo:Fo}{fs n?:QQ}{st0:St}{dr:X'}{q l:R0}{fr:ST}{st e?:St}{d:aY Nat}{gd:aY (Nat×X')}{now:X'}{k:K}{az:QR}{dd:ST}{m:aY β}
 (B:hU S c n fo fs st0=M (.ops dr fr q,n?,st))(D:q=⟨d,gd,now,k,az,dd,[]⟩::l)(a:wanted st.g gd=M U)
 (G:gz S c dr fr ⟨d,J,now,k,az,[],[]⟩ st=M e?)
 (h:Le m (rn S c Q (.ops dr (if dr then tW fr ⟨d,gd,now,k,az,[],[]⟩else fr) l) n? (su dd e?))):Le m (rn S c Q fo fs st0):=by
 rw[rD B];subst D;simp only[rn,yh,RO.strip,EI,ζb];rw[TG a,G];exact h
def Lo{n:Nat}{fo:Fo}{B:QQ}{st:St}{σ ε ρ:Type}{a:RC}{fs:QQ}{step:σ->aY (Fw σ ε ρ)}{eσ:σ->St}{eε:ε->Nat×St}{eρ:ρ->St}{s:σ}{fx:ε->aY γ}{fr:ρ->aY γ}
 (D:hU S c n fo B st=M (.rc (.loop a),fs,eσ s))(h:∀s,Le ((step s).bind λw=>M (Fw.out eσ eε eρ w)) (rn S c M (.rc a) [] (eσ s)))
 (G:∀x,Le ((fx x).bind e) (rn S c Q (.ex (eε x).1) fs (eε x).2))(d:∀b,Le ((fr b).bind e) (Q (.ret,eρ b))):Le (((bG step s).bind (Fw.elim fx fr)).bind e) (rn S c Q fo B st):=by
 rw[rD D];exact acO (L:=rn S c Q (.rc (.loop a)) fs (eσ s)) rfl h G d
def ab_{n:Nat}{fo:Fo}{B:QQ}{st:St}{α σ ε ρ:Type}{g:Arg}{ps:ST}{a b:RC}{fs:QQ}{f:Y'}{x y:So}{d:aX α}{eI:α->So}{step:α->σ->aY (Fw σ ε ρ)}{eσ:σ->Tb bE}{eε:ε->Nat×Tb bE}{eρ:ρ->Tb bE}{i:Tb SV}{s:σ}
 {fn:σ->aY γ}{fx:ε->aY γ}{fr:ρ->aY γ}
 (D:hU S c n fo B st=M (.rc (.each g ps a b),fs,bD i (eσ s)))(j:tM S.N i g=M (.v (.clo f x y)))(k:S.items f x y=M (d.map eI))(G:∀x,(eI x).length=ps.length)
 (h:∀x s,Le ((step x s).bind λw=>M (Fw.zl eσ eε eρ w)) (rn S c (BP S c b) (.rc a) [] ⟨zT i ps ((eI x).map .v),eσ s,sy i,[],U,0⟩))
 (o:∀s,Le ((fn s).bind e) (rn S c Q .nx fs (bD i (eσ s))))
 (T:∀x,Le ((fx x).bind e) (rn S c Q (.ex (eε x).1) fs (bD i (eε x).2)))(l:∀b,Le ((fr b).bind e) (Q (.ret,bD i (eρ b)))):
 Le (((mm step d s).bind (Fw.tg fn fx fr)).bind e) (rn S c Q fo B st):=by
 rw[rD D];exact acW (L:=rn S c Q (.rc (.each g ps a b)) fs (bD i (eσ s))) rfl j k G h o T l
def acv{b:RC}{st e?:St}{m:aY (Out×Tb bE)}{fs:QQ}{n:Nat}{fo:Fo}(h:hU S c n fo fs st=M (.nx,[],e?))(B:Le m (rn S c zl (.rc b) [] e?)):Le m (rn S c (BP S c b) fo fs st):=by rw[rD h];exact B
def adr{α:Type}{n:Nat}{fo fo':Fo}{fs n?:QQ}{st:St}{A:aY α->St}{o:aY α}{f:α->aY γ}(h:hU S c n fo fs st=M (fo',n?,A o))
 (B:∀x,o=M x->Le (H (f x) e) (rn S c Q fo' n? (A (M x)))):Le (H (o.bind f) e) (rn S c Q fo fs st):=by
 rw[rD h]
 cases o with
 |none=>exact Le.none _|some x=>exact B x Y
def aes{T:sP}{f:Y'}{rf:RF}{az:So}{m:aY So}(B:T f=M rf)(D:W az<=rf.na)(h:Le m (rn S (dg S T) (pU rf.rs) (.rc rf.body) [] (start (az.map .v) []))):Le m (gO (dg S T) f az):=by rw[Yq B az D];exact h
end
section
variable{α:Type}[bC α]
abbrev cv(x:α):SV:=.v (enc x)
abbrev cp(x:α):SV:=.v (.fptr (cells x))
abbrev bx(x:α):bE:=.box ((cells x).map .v)
end
structure eP(S:Sys)(c:cg){α δ:Type}(fn:FuncId)(A:α->List V)(E:δ->List V)(p:α->Option δ)(sc:Bool):Prop where
 k:S.E.keep fn=false
 h:∀z,Le ((p z).bind λr=>some (E r)) (gO c fn (A z))
 s:sc=true->∀r,(result (E r)).scalar=true
section
variable{S:Sys}{c:cg}{β γ δ α:Type}{Q:Out×St->aY β}{e:γ->aY β}{fo:Fo}{fs:QQ}{st0:St}{l:R0}{d:aY Nat}{gd:aY (Nat×X')}{now:X'}{az:QR}{dd:ST}
abbrev vw(S:Sys)(c:cg)(Q:Out×St->aY β)(dr:Bool)(fr:aX Nat)(d:aY Nat)(k:K)(l:aX RO)(fs:aX Fm)(dd:aX Nat)(st:St):aY β:=rn S c Q (.ops dr (if dr then(match k with|.p _|.r _=>fr|_=>match d with|some d=>d::fr|none=>fr)else fr) l) fs (su dd st)
def JB(fr:ST)(k:K):tW fr ⟨d,gd,now,k,az,[],[]⟩=(match k with|.p _|.r _=>fr|_=>match d with|some d=>d::fr|none=>fr):=by cases k<;>cases d<;>rfl
def EJ{n:Nat}{dr:X'}{fr:ST}{q:R0}{n?:QQ}{st:St}{k:K}{m:aY δ}{g:δ->St}{f:δ->aY γ}
 (B:hU S c n fo fs st0=M (.ops dr fr q,n?,st))(D:q=⟨d,gd,now,k,az,dd,[]⟩::l)(a:wanted st.g gd=M U)
 (G:Le (m.bind λx=>M (g x)) (gz S c dr fr ⟨d,J,now,k,az,[],[]⟩ st))
 (h:∀x,m=M x->Le (H (f x) e) (vw S c Q dr fr d k l n? dd (g x))):Le (H (m.bind f) e) (rn S c Q fo fs st0):=
 aeA B D a G (λx u=>by rw[JB];grind)
def ue{n:Nat}{dr:X'}{fr:ST}{q:R0}{n?:QQ}{st e?:St}{k:K}{m:aY β}
 (B:hU S c n fo fs st0=M (.ops dr fr q,n?,st))(D:q=⟨d,gd,now,k,az,dd,[]⟩::l)(a:wanted st.g gd=M U)
 (G:gz S c dr fr ⟨d,J,now,k,az,[],[]⟩ st=M e?)(h:Le m (vw S c Q dr fr d k l n? dd e?)):Le m (rn S c Q fo fs st0):=
 Xs B D a G (by rw[JB];omega)
section
variable[bC α]
def VM(n:Nat)(dr:X')(fr:ST)(q:R0)(n?:QQ)(st:St)(k:T2){sz:Nat}{s:Sl α}{i:Int}{f:α->aY γ}(D:q=⟨d,gd,now,.p (.idxS sz),az,dd,[]⟩::l)
 (B:(hU S c n fo fs st0,wanted st.g gd,bU S.N st.g az,sz)=(M (.ops dr fr q,n?,st),M U,M [.v (ct s),.v (.int k i)],bC.size α))
 (h:∀x,idx s i=M x->Le ((f x).bind e) (vw S c Q dr fr d (.p (.idxS sz)) l n? dd (cQ st d (cp x)))):Le (((idx s i).bind f).bind e) (rn S c Q fo fs st0):=by
 simp at B;exact EJ B.1 D B.2.1 (Le.of_eq (X2 B.2.2.1 B.2.2.2)) h
def abz(n:Nat)(dr:X')(fr:ST)(q:R0)(n?:QQ)(st:St)(s:Sl α){m:aY β}(D:q=⟨d,gd,now,.p .lenSl,az,dd,[]⟩::l)
 (B:(hU S c n fo fs st0,wanted st.g gd,bU S.N st.g az)=(M (.ops dr fr q,n?,st),M U,M [.v (ct s)]))
 (h:Le m (vw S c Q dr fr d (.p .lenSl) l n? dd (cQ st d (.v (.int _q (W s.l)))))):Le m (rn S c Q fo fs st0):=by
 simp at B;exact ue B.1 D B.2.1 (XD B.2.2) h
end
section
variable{q:R0}{n?:QQ}
end
def MK(m:Tb bE)(n:Nat)(l:So):oO (jA m n) (l.map .v)=M l:=by rw[<-(zc m n).2,x_]
variable{A:α->So}{E:δ->So}{p:α->aY δ}{fn:Y'}{sc:X'}
end
abbrev iv(n:Int):SV:=.v (.int _q n)
abbrev bv(b:Bool):SV:=.v (.bool b)
abbrev len{α:Type}(s:Sl α):Int:=((List.length (Sl.l s):Nat):Int)
abbrev o1(d:Nat)(a:Arg)(dd:aX Nat):RO:=⟨M d,J,O,.p .id,[a],dd,[]⟩
abbrev o2(d:Nat)(k:K)(az:aX Arg)(dd:aX Nat):RO:=⟨M d,J,O,k,az,dd,[]⟩
abbrev o3(d s:Nat)(b:Bool)(k:K)(az:aX Arg)(dd:aX Nat):RO:=⟨M d,M (s,b),O,k,az,dd,[]⟩
def OD(a b:bf):X':=[a.proc,a.index]==[b.proc,b.index]
section
variable{α:Type}[bC α]
def xP(h:bC.agg α=O)(a:α):cells a=[enc a]:=by
 have u:W (cells a)=1:=by rw[show(cells a).length=_ from bC.len a,bC.plain h]
 unfold enc;rw[M' (by simp[h])];match b:cells a,u with|[x],_=>rfl
def Dx(h:bC.agg α=U)(a:α):enc a=.agg (cells a):=by unfold enc;grind
def lU(a:α):V.good (enc a)=U:=by have h:V.cT (cells a)=U:=bC.good a;cases u:bC.agg α with|true=>rw[Dx u];exact h|false=>rw[xP u]at h;simp[V.cT]at h;omega
def oF(s:Sl α):V.one (enc s)=U:=Il s
def W8(s:α)(h:bC.agg α=O):V.one (enc s)=U:=by have:=bC.one s;rw[show bC.cells s=cells s from Y,xP h]at this;grind
end
instance{α:Type}[bC α]:bC (aY α)where
 cells o:=[match o with|none=>.jt|some x=>.fptr (cells x)]
 agg:=O
 size:=1
 len _:=rfl
 good o:=by cases o with|none=>rfl|some x=>simp only[V.cT,V.good,Bool.and_true];exact bC.good x
 one o:=by cases o<;>rfl
 plain _:=rfl
structure U8 where
 v:Int
 deriving Inhabited,DecidableEq
instance:bC U8 where
 cells n:=[.int .u8 n.v]
 agg:=O
 size:=1
 len _:=rfl
 good _:=rfl
 one _:=rfl
 plain _:=rfl
structure U64 where
 v:Int
 deriving Inhabited,DecidableEq
instance:bC U64 where
 cells n:=[.int .u64 n.v]
 agg:=O
 size:=1
 len _:=rfl
 good _:=rfl
 one _:=rfl
 plain _:=rfl
structure U32 where
 v:Int
 deriving Inhabited,DecidableEq
instance:bC U32 where
 cells n:=[.int .u32 n.v]
 agg:=O
 size:=1
 len _:=rfl
 good _:=rfl
 one _:=rfl
 plain _:=rfl
structure I32 where
 v:Int
 deriving Inhabited,DecidableEq
instance:bC I32 where
 cells n:=[.int .i32 n.v]
 agg:=O
 size:=1
 len _:=rfl
 good _:=rfl
 one _:=rfl
 plain _:=rfl
structure mM(S:Sys)(c:cg){α δ:Type}(g:FuncId)(w e:List V)(A:α->List V)(R:δ->List V)(p:α->Option δ)(b:Bool):Prop where
 f:eP S c g (λz=>w++A z++e) R p b
section
variable{S:Sys}{c:cg}{β γ δ α:Type}{Q:Out×St->aY β}{e:γ->aY β}{fo:Fo}{fs:QQ}{st0:St}{l:R0}{d:aY Nat}{gd:aY (Nat×X')}{now:X'}{az:QR}{dd:ST}
def pF{α:Type}[bC α](a:α):V.cells (enc a)=cells a:=by cases u:bC.agg α with|true=>rw[Dx u];rfl|false=>have b:=W8 a u;rw[xP u];cases h:enc a<;>first|rfl|(rw[h]at b;cases b)
def wD{α:Type}[bC α](a:α):(cells a).all V.one=U:=bC.one a
def jg{α:Type}[bC α](a:α):W (cells a)=bC.size α:=bC.len a
def Ast[bC α](n:Nat)(dr:X')(fr:ST)(q:R0)(n?:QQ)(st:St)(u o:Nat)(x:α)(cs B:Rd){sz:Nat}{m:aY β}(G:q=⟨d,gd,now,.l (.store sz),az,dd,[]⟩::l)
 (D:(hU S c n fo fs st0,wanted st.g gd,bU S.N st.g az,bk st.m u,(!dr||now),sz,ble (o+sz) (W cs),cs.take o++(cells x).map .v++cs.drop (o+sz))=(M (.ops dr fr q,n?,st),M U,M [.ptr u o,cv x],M (.box cs),U,bC.size α,U,B))
 (h:Le m (vw S c Q dr fr d (.l (.store sz)) l n? dd (cQ {st with m:=bH st.m u (.box B)} d (.v .undef)))):Le m (rn S c Q fo fs st0):=by
 simp only[ζc]at D;have⟨a,w,z,C,I,g,L,i⟩:=D;refine ue a G w ?_ h;rw[yR,z];subst g;have T:=Nat.le_of_ble_eq_true L;simp only[ζb,I,N',mZ,C,putCells,pF,jg,wD,T,and_self,i,A?]
def Ck{α:Type}[bC α]:∀(xs:aX α)(pre:S')(B:S'),B.length=xs.length->gB (bC.size α) (pre++B) ((G' pre.length xs.length).zip (xs.map enc))=M (pre++rows xs)
 |[],pre,B,h=>by have:=List.eq_nil_of_length_eq_zero h;subst this;rfl|x::xs,pre,s::B,h=>by simp only[U?,List.range'_succ,J?,List.zip_cons_cons,gB,pF,jg,wD];have:=Ck xs (pre++[cells x]) B h?;simp only[ζi,U?,A']at this;have e:(pre++s::B).set pre.length (cells x)=pre++[cells x]++B:=f?;rw[e,this];simp[rows]
def Abs[bC α](n:Nat)(dr:X')(fr:ST)(q:R0)(n?:QQ)(st:St)(xs:aX α){u sz ln:Nat}{zero:So}{ix:ST}{m:aY β}(D:q=⟨M u,gd,now,.a (.buildSl sz ln zero ix),az,dd,[]⟩::l)
 (G:st.new u=U)(B:(hU S c n fo fs st0,wanted st.g gd,bU S.N st.g az,sz,ln,ix)=(M (.ops dr fr q,n?,st),M U,M ((xs.map enc).map .v),bC.size α,xs.length,G' 0 xs.length))
 (h:Le m (vw S c Q dr fr (M u) (.a (.buildSl sz ln zero ix)) l n? dd {st with g:=bH st.g u (.own u),m:=bH st.m u (cF (.row xs))})):Le m (rn S c Q fo fs st0):=by
 simp only[ζc]at B;have⟨a,w,z,C,I,i⟩:=B;subst C I i;refine ue a D w ?_ h;rw[zX,z];simp only[ζb,G,oB,nk,List.length_range',N!];have:=Ck xs [] (replicate xs.length zero) f?
 simp at this;rw[this];rfl
def aev[bC α](n:Nat)(dr:X')(fr:ST)(q:R0)(n?:QQ)(st:St)(x:α)(vs:So){z:So}{pl:aX (Nat×Nat)}{m:aY β}(D:q=⟨d,gd,now,.p (.build z pl),az,dd,[]⟩::l)
 (hp:mF z pl vs=M (cells x))(G:bC.agg α=U)
 (B:(hU S c n fo fs st0,wanted st.g gd,bU S.N st.g az)=(M (.ops dr fr q,n?,st),M U,M (vs.map .v)))
 (h:Le m (vw S c Q dr fr d (.p (.build z pl)) l n? dd (cQ st d (cv x)))):Le m (rn S c Q fo fs st0):=by
 simp at B;refine ue B.1 D B.2.1 (Dg B.2.2 rfl ?_) h;unfold kj;rw[nk];simp only[WZ,hp,A?];show M (SV.v (.agg (cells x)))=M (.v (enc x));rw[Dx G]
section
variable[bC α]
def aeu(n:Nat)(dr:X')(fr:ST)(q:R0)(n?:QQ)(st:St)(g i:X')(D:So){sz:Nat}{s:Sl α}{a b:PH}{f:Sl α->aY γ}(G:q=⟨d,gd,now,.p (.slice sz g i),az,dd,[]⟩::l)
 (B:(hU S c n fo fs st0,wanted st.g gd,bU S.N st.g az,oS g i D,sz)=(M (.ops dr fr q,n?,st),M U,M (.v (ct s)::D.map .v),M (a,b),bC.size α))
 (h:∀x,gN s a b=M x->Le ((f x).bind e) (vw S c Q dr fr d (.p (.slice sz g i)) l n? dd (cQ st d (.v (ct x))))):Le (((gN s a b).bind f).bind e) (rn S c Q fo fs st0):=by
 simp at B;refine EJ B.1 G B.2.1 (Le.of_eq ?_) h;have w:=B.2.2.1;unfold gz oa;simp[wanted,gI,w];have u:kj S.N st.m (.slice sz g i) ((ct s::D).map .v)=(gN s a b).bind λx=>M (.v (ct x)):=by unfold kj;rw[nk];simp[bT,B.2.2.2.1,Qm s a b sz B.2.2.2.2];cases gN s a b<;>rfl
 simp at u⊢;rw[u];cases gN s a b<;>rfl
def nH(s:Sl α)(a b:PH):aY (Sl α):=
 match s with
 |.nil|.emp=>J|.row x|.part x=>(ec (W x) a b).map λ(l,h)=>.part ((x.take h).drop l)
def ac6(n:Nat)(fr:ST)(q:R0)(n?:QQ)(st:St)(d i:X')(u:Nat)(D:So){t sz:Nat}{s:Sl α}{a b:PH}{f:Sl α->aY γ}(j:q=⟨M t,gd,now,.p (.slice sz d i),az,dd,[]⟩::l)
 (G:St.new {st with m:=dz u st.m} t=U)(B:(hU S c n fo fs st0,wanted st.g gd,bU S.N st.g az,oS d i D,bk st.m u,sz)=(M (.ops O fr q,n?,st),M U,M (.own u::D.map .v),M (a,b),M (cF s),bC.size α))
 (h:∀x,nH s a b=M x->Le ((f x).bind e) (vw S c Q O fr (M t) (.p (.slice sz d i)) l n? dd {st with g:=bH st.g t (.own t),m:=bH (dz u st.m) t (cF x)})):Le (((nH s a b).bind f).bind e) (rn S c Q fo fs st0):=by
 simp at B;refine EJ B.1 j B.2.1 (Le.of_eq ?_) h;have⟨_,_,z,w,C,I⟩:=B;subst I;unfold gz oa;simp[wanted,gI,z,Di,nk,C,w]
 cases s with
 |nil=>simp[nH,cF,Sl.k,b7]|emp=>simp[nH,cF,Sl.k,b7]|row x=>
  simp[cF,Sl.k,Sl.l,b7,nH,gw,w]
  cases ec x.length a b with
  |none=>rfl|some r=>simp[G,cQ,rows,g8]
 |part x=>
  simp[cF,Sl.k,Sl.l,b7,nH,gw,w]
  cases ec x.length a b with
  |none=>rfl|some r=>simp[G,cQ,rows,g8]
def xU(n:Int)(a:α):aY (Sl α):=if 0<=n/\n<=2147483648 then M (if n=0 then .row []else .part [])else J
def aeB(n:Nat)(dr:X')(fr:ST)(q:R0)(n?:QQ)(st:St){u:Nat}{sz:Nat}{zero:So}{i:Int}{z:α}{f:Sl α->aY γ}(G:q=⟨M u,gd,now,.a (.makeSl sz zero),az,dd,[]⟩::l)
 (j:st.new u=U)(D:(hU S c n fo fs st0,wanted st.g gd,bU S.N st.g az,sz)=(M (.ops dr fr q,n?,st),M U,M [.v (.int _q 0),.v (.int _q i)],bC.size α))
 (h:∀B,xU i z=M B->Le ((f B).bind e) (vw S c Q dr fr (M u) (.a (.makeSl sz zero)) l n? dd {st with g:=bH st.g u (.own u),m:=bH st.m u (cF B)})):Le (((xU i z).bind f).bind e) (rn S c Q fo fs st0):=by
 simp at D;have⟨b,C,I,L⟩:=D;subst L;refine EJ b G C (Le.of_eq ?_) h;rw[zX,I];simp only[ζb,j,N',oB,true_and,xU]
 by_cases a:0<=i/\i<=2147483648
 .rw[L' a,L' ⟨Int.le_refl 0,a⟩]
  by_cases w:i=0
  .subst w;rfl
  have:¬0=i:=λh=>w h.symm
  simp[M' w,M' this];rfl
 grind
end
end
structure b_(n:Nat)(α:Type)where
 l:List α
 len:l.length=n
def VW{α:Type}[bC α](l:aX α):W (l.map (cells (α:=α))).flatten=W l*bC.size α:=by induction l with|nil=>simp|cons a l u=>simp[u,jg,p!,Nat.add_comm]
def Sc{α:Type}[bC α](l:aX α):V.cT (l.map (cells (α:=α))).flatten=U:=by induction l with|nil=>rfl|cons a l u=>have h:∀(x y:So),V.cT x=U->V.cT y=U->V.cT (x++y)=U:=(by intro x;induction x with|nil=>grind|cons b x w=>intro y c z;simp[V.cT]at c⊢;grind);exact h _ _ (bC.good a) u
instance{n:Nat}{α:Type}[bC α]:bC (b_ n α)where
 cells a:=(a.l.map cells).flatten
 agg:=U
 size:=n*bC.size α
 len a:=by rw[VW,a.len]
 good a:=Sc a.l
 one a:=by have:∀l:aX α,(l.map (cells (α:=α))).flatten.all V.one=U:=(by intro l;induction l with|nil=>rfl|cons a l u=>simp only[J?,d9,List.all_append,u,wD,Bool.and_self]);exact this a.l
 plain h:=by cases h
def b_.R6(n:Nat){α:Type}(z:α):b_ n α:=⟨replicate n z,f?⟩
def b_.at{n:Nat}{α:Type}(a:b_ n α)(i:Int):aY α:=if 0<=i then a.l[i.toNat]?else J
def b_.set{n:Nat}{α:Type}(a:b_ n α)(i:Int)(x:α):b_ n α:=⟨a.l.set i.toNat x,by simp[a.len]⟩
def pa{n:Nat}{α:Type}[bC α](a:b_ n α)(i:Int):So:=(cells a).drop (i.toNat*bC.size α)
def b_.yW{n:Nat}{α:Type}{a:b_ n α}{i:Int}{x:α}(h:a.at i=M x):0<=i/\i.toNat<n/\a.l[i.toNat]?=M x:=by
 unfold b_.at at h;split at h;next b=>refine⟨b,?_,h⟩;have:=(ζe.1 h).1;rw[<-a.len];simp_all
 simp_all
def Jh{α:Type}[bC α]:∀(l:aX α)(k:Nat),((l.map (cells (α:=α))).flatten).drop (k*bC.size α)=((l.drop k).map (cells (α:=α))).flatten
 |[],k=>f?|a::l,0=>f?|a::l,k+1=>by have h:=jg a;rw[J?,d9,List.drop_succ_cons,<-Jh l k,p!,u0,Nat.add_comm,<-h,List.drop_length_add_append]
def DD{n:Nat}{α:Type}[bC α]{a:b_ n α}{i:Int}{x:α}(h:a.at i=M x):∃r,pa a i=cells x++r:=by have⟨b,B,w⟩:=b_.yW h;have⟨u,z⟩:=ζe.1 w;refine⟨((a.l.drop (i.toNat+1)).map cells).flatten,?_⟩;show((a.l.map (cells)).flatten).drop (i.toNat*bC.size α)=_;rw[Jh,List.drop_eq_getElem_cons u,J?,d9,z]
section
variable{S:Sys}{c:cg}{β γ δ α:Type}{Q:Out×St->aY β}{e:γ->aY β}{fo:Fo}{fs:QQ}{st0:St}{l:R0}{d:aY Nat}{gd:aY (Nat×X')}{now:X'}{az:QR}{dd:ST}
section
variable{N:Nat}[bC α]
def adu(n:Nat)(dr:X')(fr:ST)(q:R0)(n?:QQ)(st:St)(k:T2){ln sz:Nat}{a:b_ N α}{i:Int}{f:α->aY γ}(D:q=⟨d,gd,now,.p (.idxA ln sz),az,dd,[]⟩::l)
 (B:(hU S c n fo fs st0,wanted st.g gd,bU S.N st.g az,sz,ln)=(M (.ops dr fr q,n?,st),M U,M [cp a,.v (.int k i)],bC.size α,N))
 (h:∀x,a.at i=M x->Le ((f x).bind e) (vw S c Q dr fr d (.p (.idxA ln sz)) l n? dd (cQ st d (.v (.fptr (pa a i)))))):Le (((a.at i).bind f).bind e) (rn S c Q fo fs st0):=by
 simp at B;have⟨g,w,z,C,G⟩:=B;subst C G;refine EJ g D w ?_ h;intro r b;have⟨x,I,b⟩:=ζg.1 b;have⟨g1,g2,_⟩:=b_.yW I;rw[Dg z rfl ?_]
 .omega
 rw[wQ];simp[bT,Ad];have u:i.toNat*bC.size α<=(cells a).length:=by rw[jg];exact Nat.mul_le_mul_right _ (Nat.le_of_lt g2)
 rw[L' ⟨g1,c?⟩,L' u]
 rfl
def aeF(n:Nat)(dr:X')(fr:ST)(q:R0)(n?:QQ)(st:St)(a:b_ N α)(i:Int)(o:Nat)(x:α)(D:a.at i=M x){k:Nat}{m:aY β}(G:q=⟨d,gd,now,.p (.fieldAddr k),az,dd,[]⟩::l)
 (B:(hU S c n fo fs st0,wanted st.g gd,bU S.N st.g az,ble (o+k) (bC.size α))=(M (.ops dr fr q,n?,st),M U,M [.v (.fptr ((pa a i).drop o))],U))
 (h:Le m (vw S c Q dr fr d (.p (.fieldAddr k)) l n? dd (cQ st d (.v (.fptr ((pa a i).drop (o+k))))))):Le m (rn S c Q fo fs st0):=by
 simp only[ζc]at B;have⟨b,u,w,z⟩:=B;refine ue b G u (Dg w Y ?_) h;have C:=Nat.le_of_ble_eq_true z;have⟨r,e⟩:=DD D;have I:W (pa a i)>=bC.size α:=by rw[e,ζi,jg];omega
 rw[ME,MU,L' h?,D!]
 rfl
def ac0(n:Nat)(dr:X')(fr:ST)(q:R0)(n?:QQ)(st:St)(a:b_ N α)(i:Int)(o:Nat)(x:α)(G:a.at i=M x){sz:Nat}{ag:X'}{v:V}(g:H (cut (cells x) o sz) (mk ag)=M v)(B:V){m:aY β}(t:q=⟨d,gd,now,.r (.load sz ag),az,dd,[]⟩::l)
 (D:(hU S c n fo fs st0,wanted st.g gd,bU S.N st.g az,v)=(M (.ops dr fr q,n?,st),M U,M [.v (.fptr ((pa a i).drop o))],B))
 (h:Le m (vw S c Q dr fr d (.r (.load sz ag)) l n? dd (cQ st d (.v B)))):Le m (rn S c Q fo fs st0):=by
 simp at D;obtain⟨e,z,C,rfl⟩:=D;refine ue e t z ?_ h;rw[BN,C];have b:fA fr [SV.v (.fptr ((pa a i).drop o))]=U:=rfl;simp[b,RI];have⟨r,f⟩:=DD G;rw[f];have j:cut ((cells x++r).drop o) 0 sz=cut (cells x) o sz:=by cases u:cut (cells x) o sz with|none=>grind|some w=>unfold cut at u⊢;dsimp only at u⊢;split at u;have e1:(List.drop 0 (List.drop o (cells x++r))).take sz=((cells x).drop o).take sz:=(by have I:sz=0\/o<=W (cells x):=(by grind);grind);grind;grind
 cases u:cut (cells x) o sz with
 |none=>grind|some w=>grind
def Aal(n:Nat)(dr:X')(fr:ST)(q:R0)(n?:QQ)(st:St)(cs:Rd){u sz:Nat}{zero:So}{m:aY β}(D:q=⟨M u,gd,now,.a (.alloc sz zero),az,dd,[]⟩::l)
 (G:st.new u=U)(B:(hU S c n fo fs st0,wanted st.g gd,bU S.N st.g az,zero.map SV.v)=(M (.ops dr fr q,n?,st),M U,M [],cs))
 (h:Le m (vw S c Q dr fr (M u) (.a (.alloc sz zero)) l n? dd {st with g:=bH st.g u (.ptr u 0),m:=bH st.m u (.box cs)})):Le m (rn S c Q fo fs st0):=by
 simp at B;have⟨a,w,z,C⟩:=B;subst C;refine ue a D w ?_ h;rw[zX,z];simp[G,oB]
def wu(d:Nat)(l:So):SV.dK d (l.map .v)=O:=by induction l with|nil=>rfl|cons a l u=>simp[SV.dK,SV.cM,u]
def wJ{α:Type}[bC α](d:Nat)(x:α):bE.cM d (bx x)=O:=wu d (cells x)
def adb(n:Nat)(dr:X')(fr:ST)(q:R0)(n?:QQ)(st:St)(k:T2)(u:Nat){ln sz:Nat}{a:b_ N α}{i:Int}{f:α->aY γ}(D:q=⟨d,gd,now,.p (.idxA ln sz),az,dd,[]⟩::l)
 (B:(hU S c n fo fs st0,wanted st.g gd,bU S.N st.g az,sz,ln,bk st.m u)=(M (.ops dr fr q,n?,st),M U,M [.ptr u 0,.v (.int k i)],bC.size α,N,M (bx a)))
 (h:∀x,a.at i=M x->Le ((f x).bind e) (vw S c Q dr fr d (.p (.idxA ln sz)) l n? dd (cQ st d (.ptr u (i.toNat*bC.size α+0))))):Le (((a.at i).bind f).bind e) (rn S c Q fo fs st0):=by
 simp at B;have⟨g,w,z,I,j,C⟩:=B;refine EJ g D w ?_ h;intro r b;have⟨x,G,b⟩:=ζg.1 b;have⟨g1,g2,_⟩:=b_.yW G;rw[Dg z rfl ?_]
 .omega
 simp[kj,c6,zQ,C]
 grind
def VQ{a:b_ N α}{i:Int}{o:Nat}{x:α}(B:a.at i=M x){sz:Nat}{ag:X'}{v:V}(c:H (cut (cells x) o sz) (mk ag)=M v):yF sz ag ((((cells a).map SV.v).drop (i.toNat*bC.size α+o)).take sz)=M (.v v):=by
 have⟨r,d⟩:=DD B;have e1:(((cells a).map SV.v).drop (i.toNat*bC.size α+o)).take sz=(((cells x).drop o).take sz).map SV.v:=by have u:((cells x).drop o).take sz=((cells x++r).drop o).take sz:=(by cases b:cut (cells x) o sz with|none=>grind|some w=>unfold cut at b;dsimp only at b;split at b;have C:sz=0\/o<=W (cells x):=(by grind);grind;simp_all);rw[u,<-d,pa,D!,B',g8]
 rw[e1];unfold yF;cases b:cut (cells x) o sz with|none=>grind|some w=>rw[b]at c;unfold cut at b;dsimp only at b;split at b;rename_i z;cases b;simp only[N!,z];unfold mk at c;(cases ag with|true=>simp only[N']at c⊢;cases c;rw[nk]|false=>grind);simp_all
def acZ(n:Nat)(dr:X')(fr:ST)(q:R0)(n?:QQ)(st:St)(u:Nat)(a:b_ N α)(i:Int)(o:Nat)(x:α)(G:a.at i=M x){sz:Nat}{ag:X'}{v:V}(e:H (cut (cells x) o sz) (mk ag)=M v)(B:V){m:aY β}(g:q=⟨d,gd,now,.r (.load sz ag),az,dd,[]⟩::l)
 (D:(hU S c n fo fs st0,wanted st.g gd,bU S.N st.g az,v,bk st.m u,(!dr||now||fA fr [.ptr u 0]))=(M (.ops dr fr q,n?,st),M U,M [.ptr u (i.toNat*bC.size α+o)],B,M (bx a),U))
 (h:Le m (vw S c Q dr fr d (.r (.load sz ag)) l n? dd (cQ st d (.v B)))):Le m (rn S c Q fo fs st0):=by
 simp only[ζc]at D;obtain⟨f,w,z,rfl,C,I⟩:=D;refine ue f g w ?_ h;rw[BN,z];have b:(!dr||now||fA fr [SV.ptr u (i.toNat*bC.size α+o)])=U:=I;simp only[ζb,b,aet,C,RS];rw[VQ G e];rfl
def Sn{N:Nat}(a:b_ N α)(i:Int)(y:α)(h:i.toNat<N):cells (a.set i y)=(cells a).take (i.toNat*bC.size α)++cells y++(cells a).drop ((i.toNat+1)*bC.size α):=by
 have key:∀(l:aX α)(k:Nat),k<W l->((l.set k y).map (cells)).flatten=(l.map (cells)).flatten.take (k*bC.size α)++cells y++(l.map (cells)).flatten.drop ((k+1)*bC.size α):=by intro l;induction l with|nil=>grind|cons b l u=>intro k h;have w:=jg b;cases k with|zero=>grind|succ k=>simp only[J?,d9];have e1:(k+1)*bC.size α=W (cells b)+k*bC.size α:=h?;have e2:(k+1+1)*bC.size α=W (cells b)+(k+1)*bC.size α:=h?;rw[e2,List.drop_length_add_append];grind
 exact key a.l i.toNat (by rw[a.len];omega)
def acQ(n:Nat)(dr:X')(fr:ST)(q:R0)(n?:QQ)(st:St)(u:Nat)(a:b_ N α)(i:Int)(o:Nat)(x:α)(B:a.at i=M x)(y:α)(v:V){sz:Nat}(G:cells y=(cells x).take o++v.cells++(cells x).drop (o+sz)){m:aY β}(g:q=⟨d,gd,now,.l (.store sz),az,dd,[]⟩::l)
 (D:(hU S c n fo fs st0,wanted st.g gd,bU S.N st.g az,bk st.m u,(!dr||now),W v.cells,v.cells.all V.one,ble (o+sz) (bC.size α))=(M (.ops dr fr q,n?,st),M U,M [.ptr u (i.toNat*bC.size α+o),.v v],M (bx a),U,sz,U,U))
 (h:Le m (vw S c Q dr fr d (.l (.store sz)) l n? dd (cQ {st with m:=bH st.m u (bx (a.set i y))} d (.v .undef)))):Le m (rn S c Q fo fs st0):=by
 simp only[ζc]at D;have⟨b,z,C,I,L,t,T,j⟩:=D;refine ue b g z ?_ h;rw[yR,C];have X:=Nat.le_of_ble_eq_true j;have⟨g1,g2,g3⟩:=b_.yW B;have F:i.toNat*bC.size α+o+sz<=W ((cells a).map SV.v):=by rw[N!,jg];have:(i.toNat+1)*bC.size α<=N*bC.size α:=Nat.mul_le_mul_right _ g2;rw[p!,u0]at this;show _<=N*bC.size α;omega
 simp only[ζb,L,N',mZ,I,putCells,t,T,F,and_self,A?];have⟨r,f⟩:=DD B;have e:((cells a).map SV.v).take (i.toNat*bC.size α+o)++v.cells.map .v++((cells a).map SV.v).drop (i.toNat*bC.size α+o+sz)=(cells (a.set i y)).map SV.v:=by rw[Sn a i y g2,G];have hd:(cells a).drop (i.toNat*bC.size α)=cells x++r:=f;have w:=jg x;have e1:(cells a).take (i.toNat*bC.size α+o)=(cells a).take (i.toNat*bC.size α)++(cells x).take o:=(by rw[List.take_add,hd,List.take_append_of_le_length c?]);have e2:(cells a).drop (i.toNat*bC.size α+o+sz)=(cells x).drop (o+sz)++(cells a).drop ((i.toNat+1)*bC.size α):=(by have e3:(cells a).drop ((i.toNat+1)*bC.size α)=r:=(by rw[p!,u0,<-D!,hd,<-w,List.drop_left]);rw[e3,Nat.add_assoc,<-D!,hd,List.drop_append_of_le_length c?]);rw[<-B',<-g8,e1,e2];grind
 rw[e]
end
def Ym{α:Type}[bC α]{m:Tb bE}{d:Nat}{x:α}{vs:So}(h:bk m d=M (bx x)):oO (jA m 8) (.ptr d 0::vs.map .v)=M (.fptr (cells x)::vs):=by
 have a:jA m 8 (.ptr d 0)=M (.fptr (cells x)):=by
  show(match bk m d with
   |some (.box cs)=>match oO (jA m 7) cs with
    |some u=>if 0<=W u then M (V.fptr (u.drop 0))else J|none=>J
   |_=>J)=_
  rw[h];simp[MK]
 simp[oO,a,MK]
def ads(n:Nat){fo:Fo}{fs n?:QQ}{st0 st:St}{rs:Ps}{e:γ->aY So}{r:γ}(m?:Rd){ys:So}(B:oO (jA st.m 8) m?=M ys)(h:(hU S c n fo fs st0,kY st rs)=(M (.rt,n?,st),M m?))(D:e r=M ys):
 Le (H (M r) e) (rn S c (pU rs) fo fs st0):=by
 simp at h;rw[rD h.1];refine Le.of_eq ?_;simp[rn,pU,h.2,B]
 grind
abbrev Mo(κ ν:Type):=aX (κ×ν)
class Key(κ:Type)[bC κ][DecidableEq κ]where
 kk:Aw
 ok:∀a:κ,sC kk (enc a)=true
 eq:∀a b:κ,zU (enc a) (enc b)=some (decide (a=b))
instance:Key Int where
 kk:=.int _q
 ok _:=rfl
 eq a b:=by show M (a==b)=M (_r (a=b));rw[show(a==b)=_r (a=b)from Bool.eq_iff_iff.2 f?]
instance:Key bf where
 kk:=.ints 2
 ok _:=rfl
 eq a b:=by have⟨p,i⟩:=a;have⟨q,j⟩:=b;simp only[zU,mV,jH,abj,A?,U?,N',ζa];rw[Bool.eq_iff_iff];simp
section
variable{κ ν:Type}[bC κ][DecidableEq κ][Key κ][bC ν]
def mj(k:κ):Mo κ ν->aY ν
 |[]=>J|(a,v)::r=>if k=a then M v else mj k r
def pW(m:Mo κ ν)(k:κ)(z:ν):ν:=(mj k m).getD z
def wO(m:Mo κ ν)(k:κ):X':=(mj k m).isSome
def nO(m:Mo κ ν)(k:κ)(v:ν):Mo κ ν:=
 match m with
 |[]=>[(k,v)]|(a,w)::r=>if k=a then(k,v)::r else(a,w)::nO r k v
def pX(m:Mo κ ν):aX (V×V):=m.map λx=>(enc x.1,enc x.2)
def wC(m:Mo κ ν):bE:=.mp (pX m)
def H6(k:κ):∀(m:Mo κ ν)(i:Nat),(jB (enc k) (pX m) i).map (Option.map (·.2))=M ((mj k m).map enc)
 |[],i=>rfl|(a,v)::r,i=>by simp only[pX,J?,jB,Key.eq,mj];by_cases h:k=a;grind;simp only[h];exact H6 k r (i+1)
def WN(k:κ)(v:ν)(m:Mo κ ν):sZ (enc k) (enc v) (pX m)=M (pX (nO m k v)):=by
 unfold sZ;have key:∀(m:Mo κ ν)(pre:aX (V×V))(i:Nat),W pre=i->(match jB (enc k) (pX m) i with
  |some (M (j,_))=>M ((pre++pX m).set j (enc k,enc v))|some J=>M (pre++pX m++[(enc k,enc v)])|none=>J)=M (pre++pX (nO m k v)):=by
  intro m
  induction m with
  |nil=>simp[pX,jB,nO]|cons x r u=>
   have⟨a,w⟩:=x;intro pre i h;rw[show pX ((a,w)::r)=(enc a,enc w)::pX r from Y];simp[jB,Key.eq,nO]
   by_cases b:k=a
   .subst b h;simp[pX]
   simp[b];rw[show pX ((a,w)::nO r k v)=(enc a,enc w)::pX (nO r k v)from Y];have:=u (pre++[(enc a,enc w)]) (i+1) (by simp[h])
   grind
 have:=key m [] 0 rfl;grind
def adB(n:Nat)(dr:X')(fr:ST)(q:R0)(n?:QQ)(st:St)(u:Nat)(mp:Mo κ ν)(k:κ)(z:ν){kk:Aw}{B:V}{m:aY β}(G:q=⟨d,gd,now,.r (.lookup kk B O),az,dd,[]⟩::l)
 (D:(hU S c n fo fs st0,wanted st.g gd,bU S.N st.g az,bk st.m u,(!dr||now||fA fr [.mp u,cv k]),B,kk)=(M (.ops dr fr q,n?,st),M U,M [.mp u,cv k],M (wC mp),U,enc z,Key.kk κ))
 (h:Le m (vw S c Q dr fr d (.r (.lookup kk B O)) l n? dd (cQ st d (cv (pW mp k z))))):Le m (rn S c Q fo fs st0):=by
 simp only[ζc]at D;have⟨a,C,I,g,L,j,T⟩:=D;subst j T;refine ue a G C ?_ h;rw[BN,I];simp only[ζb,L,qe,g,wC,Key.ok];have:=H6 k mp 0;simp[pW]
 cases i:jB (enc k) (pX mp) 0 with
 |none=>grind|some r=>
  rw[i]at this
  cases r with
  |none=>
   cases o:mj k mp with
   |none=>rfl|some w=>grind
  |some w=>
   cases o:mj k mp with
   |none=>grind|some X=>grind
def aew(n:Nat)(dr:X')(fr:ST)(q:R0)(n?:QQ)(st:St)(u:Nat)(mp:Mo κ ν)(k:κ)(v:ν){kk:Aw}{m:aY β}(D:q=⟨d,gd,now,.l (.mapUp kk),az,dd,[]⟩::l)
 (B:(hU S c n fo fs st0,wanted st.g gd,bU S.N st.g az,bk st.m u,(!dr||now),kk)=(M (.ops dr fr q,n?,st),M U,M [.mp u,cv k,cv v],M (wC mp),U,Key.kk κ))
 (h:Le m (vw S c Q dr fr d (.l (.mapUp kk)) l n? dd (cQ {st with m:=bH st.m u (wC (nO mp k v))} d (.v .undef)))):Le m (rn S c Q fo fs st0):=by
 simp only[ζc]at B;have⟨a,w,z,C,G,I⟩:=B;subst I;refine ue a D w ?_ h;rw[yR,z];simp[G,mZ,C,wC,Key.ok,WN]
end
end
instance{n:Nat}:OfNat Arg n:=⟨.s n⟩
abbrev bI(o:BinOp):K:=.p (.bin (M .int) J o)
abbrev ix(n:Nat):K:=.p (.idxS n)
abbrev ld(n:Nat):K:=.r (.load n O)
abbrev lD(n:Nat):K:=.r (.load n U)
abbrev fa(n:Nat):K:=.p (.fieldAddr n)
abbrev ln:K:=.p .lenSl
abbrev Iv(n:Nat)(x:Int):Nat×SV:=(n,iv x)
abbrev Bv(n:Nat)(x:Bool):Nat×SV:=(n,bv x)
abbrev Cv{α:Type}[bC α](n:Nat)(x:α):Nat×SV:=(n,cv x)
abbrev Kv{α:Type}[bC α](n:Nat)(x:α):Nat×SV:=(n,cp x)
abbrev Pv(n:Nat):Nat×SV:=(n,.ptr n 0)
abbrev Ov(n:Nat):Nat×SV:=(n,.own (2000+n))
abbrev Xb{α:Type}[bC α](n:Nat)(x:α):Nat×bE:=(n,bx x)
abbrev Lb{α:Type}[bC α](n:Nat)(x:Sl α):Nat×bE:=(n,cF x)
abbrev on(d:Nat)(k:K)(az:aX Arg)(dd:aX Nat):RO:=⟨M d,J,U,k,az,dd,[]⟩
abbrev oz(k:K)(az:aX Arg)(dd:aX Nat):RO:=⟨J,J,O,k,az,dd,[]⟩
attribute [simp] Zd Y7 ZV
def eP.AQ{S:Sys}{T:sP}{f:Y'}{b:X'}(B:T f=J)(a:S.E.keep f=O)(D:S.AQ f []=M (.bool b)):
 eP S (dg S T) f (λ_:Unit=>[]) (λr:X'=>[.bool r]) (λ_=>M b) U where
 k:=a
 h _:=by have h:=Jc (az:=[]) B a D;intro r c;cases c;unfold gO;rw[h];exact x_ 8 [.bool b]
 s _ _:=rfl
def Wp{α:Type}(m:aY α)(P:α->Prop):Prop:=∃a,m=M a/\P a
section
variable{α β:Type}{P Q:α->Prop}
theorem a_(a:α):Wp (M a) P↔P a:=⟨λh=>by have⟨b,e,p⟩:=h;cases e;exact p,λp=>⟨a,Y,p⟩⟩
def ZF:Wp (J:aY α) P↔False:=⟨λh=>(by have⟨b,e,p⟩:=h;cases e),λh=>False.elim h⟩
def dZ{m:aY β}{k:β->aY α}:Wp (m.bind k) P↔Wp m λb=>Wp (k b) P:=by cases m with|none=>simp only[Option.bind_none,ZF]|some b=>simp only[ζb,a_]
theorem b9{t:X'}{a b:aY α}:Wp (bg t a b) P↔(t=U->Wp a P)/\(t=O->Wp b P):=by cases t<;>simp[bg]
def Wp.mono{m:aY α}(h:Wp m P)(B:∀a,P a->Q a):Wp m Q:=let⟨a,e,p⟩:=h;⟨a,e,B a p⟩
def Wp.and{m:aY α}(h:Wp m P)(B:Wp m Q):Wp m λa=>P a/\Q a:=by have⟨a,e,p⟩:=h;have⟨b,e2,q⟩:=B;rw[e]at e2;cases e2;exact⟨a,e,p,q⟩
def Wp.eq{m:aY α}{a:α}(h:Wp m λx=>x=a):m=M a:=by obtain⟨b,e,rfl⟩:=h;exact e
end
section
variable{σ ε ρ:Type}
def eF(step:σ->aY (Fw σ ε ρ))(s:σ):bG step s=H (step s) λw=>match w with
 |.n B=>bG step B|.x e=>M (.x e)|.r b=>M (.r b):=by
 have d:∀r,bG step s=M r->(H (step s) λw=>match w with
  |.n B=>bG step B|.x e=>M (.x e)|.r b=>M (.r b))=M r:=by
  intro r h;have⟨k,a⟩:=sV.1 h
  cases k with
  |zero=>simp[nF]at a|succ k=>
   simp only[nF]at a
   cases u:step s with
   |none=>rw[u]at a;cases a|some w=>
    rw[u]at a
    cases w with
    |n B=>exact sV.2 ⟨k,a⟩|x e=>exact a|r b=>exact a
 cases z:bG step s with
 |some r=>exact(d r z).symm|none=>
  cases c:(H (step s) λw=>match w with
  |.n B=>bG step B|.x e=>M (.x e)|.r b=>M (.r b))with
  |none=>rfl|some r=>
   exfalso
   cases u:step s with
   |none=>rw[u]at c;cases c|some w=>
    rw[u]at c;simp only[ζb]at c;have:bG step s=M r:=by cases w with|n B=>have⟨k,a⟩:=sV.1 c;exact sV.2 ⟨k+1,by simp only[nF,u];exact a⟩|x e=>exact sV.2 ⟨1,by simp only[nF,u];exact c⟩|r b=>exact sV.2 ⟨1,by simp only[nF,u];exact c⟩
    rw[z]at this;cases this
def Xa(I:σ->Prop)(μ:σ->Nat)(D:ε->Prop)(G:ρ->Prop)(s:σ):Fw σ ε ρ->Prop
 |.n B=>I B/\μ B<μ s|.x e=>D e|.r b=>G b
def Pfw(B:ε->Prop)(D:ρ->Prop):Fw Empty ε ρ->Prop
 |.x e=>B e|.r b=>D b
def VV{step:σ->aY (Fw σ ε ρ)}(I:σ->Prop)(μ:σ->Nat)(B:ε->Prop)(D:ρ->Prop)(h:∀s,I s->Wp (step s) (Xa I μ B D s)){s:σ}(G:I s):Wp (bG step s) (Pfw B D):=by
 have key:∀n s,μ s<=n->I s->Wp (bG step s) (Pfw B D):=by
  intro n
  induction n with
  |zero=>intro s C c;have⟨w,u,a⟩:=h s c;rw[eF,u];cases w with|n z=>exact _e a.2 c?|x e=>exact⟨_,rfl,a⟩|r b=>exact⟨_,rfl,a⟩
  |succ n g=>intro s C c;have⟨w,u,a⟩:=h s c;rw[eF,u];cases w with|n z=>exact g z (by have:=a.2;omega) a.1|x e=>exact⟨_,rfl,a⟩|r b=>exact⟨_,Y,a⟩
 exact key (μ s) s (Nat.le_refl _) G
def ey{γ:Type}{step:σ->aY (Fw σ ε ρ)}{fx:ε->aY γ}{fr:ρ->aY γ}{P:γ->Prop}(I:σ->Prop)(μ:σ->Nat){s:σ}(B:I s)
 (h:∀s,I s->Wp (step s) (Xa I μ (λe=>Wp (fx e) P) (λb=>Wp (fr b) P) s)):Wp (H (bG step s) (Fw.elim fx fr)) P:=by
 rw[dZ];refine(VV I μ _ _ h B).mono ?_;intro w u
 cases w with
 |n a=>cases a|x e=>exact u|r b=>exact u
end
def Ib{β γ δ:Type}{e:γ->aY β}{m:aY δ}{f:δ->aY γ}{L:aY β}(h:∀x,m=M x->Le (H (f x) e) L):Le (H (m.bind f) e) L:=by cases m with|none=>exact Le.none _|some x=>exact h x Y
section
variable{S:Sys}{c:cg}{β:Type}{Q:Out×St->aY β}{fo:Fo}{fs:QQ}{st0:St}{l:R0}{d:aY Nat}{now:X'}{az:QR}{dd:ST}
theorem Le.get{β:Type}{r:β}{L:aY β}(h:Le (M r) L):L=M r:=h r Y
def Kt{n:Nat}{fo fo':Fo}{fs n?:QQ}{st:St}(A:X'->St){t:X'}{m:aY β}(B:t=U)(h:hU S c n fo fs st=M (fo',n?,A t))(D:Le m (rn S c Q fo' n? (A U))):Le m (rn S c Q fo fs st):=by rw[rD h,B];exact D
def Kf{n:Nat}{fo fo':Fo}{fs n?:QQ}{st:St}(A:X'->St){t:X'}{m:aY β}(B:t=O)(h:hU S c n fo fs st=M (fo',n?,A t))(D:Le m (rn S c Q fo' n? (A O))):Le m (rn S c Q fo fs st):=by rw[rD h,B];exact D
def U0{α:Type}[bC α]{s:Sl α}{i:Int}{x:α}{r:β}{L:aY β}(B:idx s i=M x)(h:Le (((idx s i).bind λ_=>M r).bind M) L):Le (M r) L:=by rw[B]at h;exact h
def Kyl{n:Nat}{q:R0}{n?:QQ}{st:St}{id:Nat}{vs:Rd}{xs:So}{B:S'}{m:aY β}
 (D:hU S c n fo fs st0=M (.ops O [] q,n?,st))(G:q=⟨d,J,now,.c,az,dd,[]⟩::l)(g:bU S.N st.g az=M (.yl id::vs))(T:c6 vs=M xs)(i:st.want=xs::B)(a:id=st.yid)
 (h:Le m (rn S c Q (.ops O [] l) n? (su dd (cQ {st with want:=B} d (.v (.bool (st.more|| !B.isEmpty))))))):Le m (rn S c Q fo fs st0):=by
 refine Xs D G Y ?_ h;unfold gz;simp only[wanted,gI,g,T,i,a,N',and_self,Bool.false_eq_true,_a]
def D4(a:RC)(fs:QQ)(st:St):rn S c Q (.rc (.loop a)) fs st=H (ri (cI S c a) st) (Ih (pq S c Q fs) (pL S c Q fs) (λst=>Q (.ret,st))):=by show mh S c Q (.loop a) fs st=_;unfold mh;rw[Gx];rfl
def Yu{f:St->aY (Out×St)}{st e?:St}(h:f st=M (.norm,e?)):ri f st=ri f e?:=by
 have key:∀r,ri f st=M r↔ri f e?=M r:=λr=>by constructor;intro b;have⟨k,a⟩:=pn.1 b;(cases k with|zero=>simp[kR]at a|succ k=>simp only[kR,h]at a;exact pn.2 ⟨k,a⟩);intro b;have⟨k,a⟩:=pn.1 b;exact pn.2 ⟨k+1,by simp only[kR,h];exact a⟩
 cases u:ri f st with
 |none=>cases w:ri f e? with|none=>rfl|some r=>rw[(key r).2 w]at u;cases u
 |some r=>rw[(key r).1 u]
def OI{f:St->aY (Out×St)}{st e?:St}{o:Out}(h:f st=M (o,e?))(B:o≠.norm):ri f st=M (o,e?):=by refine pn.2 ⟨1,?_⟩;cases o with|norm=>exact _e Y B|exit k=>simp only[kR,h]|ret=>simp only[kR,h]
def JO{a:RC}{fs:QQ}{st e?:St}(h:rn S c M (.rc a) [] st=M (.norm,e?)):rn S c Q (.rc (.loop a)) fs st=rn S c Q (.rc (.loop a)) fs e?:=by rw[D4,D4,Yu (by rw[DG];exact h)]
def Jt{a:RC}{fs:QQ}{st e?:St}{k:Nat}(h:rn S c M (.rc a) [] st=M (.exit k,e?)):rn S c Q (.rc (.loop a)) fs st=rn S c Q (.ex k) fs e?:=by rw[D4,OI (by rw[DG];exact h) f?];rfl
def Jb{a:RC}{fs:QQ}{st e?:St}(h:rn S c M (.rc a) [] st=M (.ret,e?)):rn S c Q (.rc (.loop a)) fs st=Q (.ret,e?):=by rw[D4,OI (by rw[DG];exact h) f?];rfl
end
def Qi:Out×St->aY Unit
 |(.exit _,_)=>J|(_,st)=>if st.want.isEmpty then M ()else J
def Sys.bare(S:Sys):Sys:=⟨S.E,S.N,λ_ _ _=>J,λ_ _=>J,λ_=>J⟩
def qh:cg:=λ_ _ _=>J
def xX(B i?:S')(more:X'):Prop:=more=U/\B=i?\/more=O/\B≠[]/\∃r,i?=B++r
def VN(S:Sys){f:Y'}{fi:FI}{nm:Y'->aY Nat}{rf:RF}(G:S.E.ft f=M fi)(j:∀g s,nm g=M s->S.N s=g)(e:Ao S.E nm fi rf){a b:So}{xs:S'}(D:W a+1+W b<=rf.na)(T:rf.rs=[])
 (h:∀B more,xX B xs more->∀yid,rn S.bare qh Qi (.rc rf.body) [] ⟨yf 0 (a.map .v++.yl yid::b.map .v),[],[],B,more,yid⟩=M ()):fm S f a b xs:=by
 have k:fm S.bare f a b xs:=N8 (S:=S.bare) (c:=qh) (fi:=fi) (nm:=nm) (rf:=rf) (λ_ _ h=>by cases h) (λ_ _ _ _ _ h=>by simp[qh]at h) (λ_ _ _ _ h=>by simp[Sys.bare]at h) G j e D T (λB more w yid=>by
  have d:=h B more w yid;change mh S.bare qh Qi rf.body [] _=M ()at d;rw[qE]at d;have⟨⟨o,e?⟩,z,u⟩:=ζg.1 d;refine⟨o,e?,z,?_,?_,Y⟩
  .rintro id rfl;simp[Qi]at u
  cases o<;>simp[Qi]at u<;>exact u)
 intro B more w yid i y Z C I F d z u L t;exact k B more w yid i ⟨y.zK,y.yield⟩ Z C I F d z u L t
open Classical in
def AZ(P:Y'->So->So->S'->Prop)(f:Y')(a b:So):aY S':=if h:∃u,P f a b u then M (Classical.choose h)else J
def GJ{P:Y'->So->So->S'->Prop}{f:Y'}{a b:So}{xs:S'}(h:P f a b xs)(d:∀ys,P f a b ys->ys=xs):AZ P f a b=M xs:=by have c:∃xs,P f a b xs:=⟨xs,h⟩;unfold AZ;rw[dif_pos c,d _ (S? c)]
def P7{P:Y'->So->So->S'->Prop}{f:Y'}{a b:So}{xs:S'}(h:AZ P f a b=M xs):P f a b xs:=by
 unfold AZ at h;split at h;next c=>cases h;exact S? c
 cases h
def abG{E:Env}{nm:Y'->aY Nat}{f:Y'}{rf:RF}
 (h:(H (E.ft f) λfi=>H (bQ ⟨E,nm,fi.ntmps⟩ O fi.body) λc=>H (fi.results.mapM (DP E)) λrs=>M (c,rs,fi.ntmps))=M (erase rf.body,rf.rs,rf.na)):∃fi,E.ft f=M fi/\Ao E nm fi rf:=by
 have⟨fi,a,w⟩:=ζg.1 h;have⟨c,z,B⟩:=ζg.1 w;have⟨rs,C,u⟩:=ζg.1 B;simp only[ζa,ζc]at u;obtain⟨rfl,rfl,D⟩:=u;exact⟨fi,a,z,C,D.symm⟩
def FR.sq{H:bl}{Z Z':Nat->Prop}{x y z:V}(h:FR H Z x z)(k:FR H Z' y z):x=y:=by have⟨n,u⟩:=C9 x;have⟨m,w⟩:=C9 y;have e1:=h.borrow (max n m) (A2 (Nat.le_max_left _ _) u);have e2:=k.borrow (max n m) (A2 (Nat.le_max_right _ _) w);rw[e1]at e2;exact Option.some.inj e2
open Classical in
def AN(E:Env)(f:Y')(az:So):aY V:=if h:∃y,E3 E f az y then M (Classical.choose h)else J
def JS{E:Env}{f:Y'}{az:So}{y:V}(h:AN E f az=M y):E3 E f az y:=by
 unfold AN at h;split at h;next a=>cases h;exact S? a
 cases h
def IN{E:Env}{f:Y'}{az:So}{y:V}(h:E3 E f az y):AN E f az=M y:=by have a:∃y,E3 E f az y:=⟨y,h⟩;unfold AN;rw[dif_pos a];have⟨n,z,g,Z,k1,k2,_⟩:=h;have⟨u,w,H',Z',k3,k4,_⟩:=S? a;have e1:=(qy E (Nat.le_max_left n u)).go _ _ _ _ k1;have e2:=(qy E (Nat.le_max_right n u)).go _ _ _ _ k3;rw[e1]at e2;cases e2;rw[FR.sq k4 k2]
def NW{E:Env}{f:Y'}{az:So}{y:V}(B:V.scalar y=U)(h:∃n H',run E n (.fn f) az []=M (y,H')):E3 E f az y:=by have⟨n,H',h⟩:=h;exact⟨n,y,H',λ_=>False,h,.same _ (lM B),λ_ h=>h.elim,⟨λ_ _ _ h=>h.elim⟩⟩
end Go.VE
