/-
 Plain values and the steps of a certificate.
-/
import Derived.KernelRfl
import Derived.Test.YtlmckmkfopljoaaGreatDoorN2
set_option linter.all false
open Classical(choose_spec)
open List(drop_drop flatten_cons length_cons length_map length_nil map_cons map_drop map_take range' replicate)
open Option(map_some)
open Nat(add_mul ble one_mul)
namespace Go.VE
variable[b_]
inductive Sl(α:Type)where
 |nil|emp|row(l:List α)|part(l:List α)
 deriving Inhabited
abbrev Zg:=Sl Int
abbrev Zb:=Sl (Sl Int)
def Sl.l{α:Type}:Sl α->aZ α
 |.nil|.emp=>[]|.row l|.part l=>l
def Sl.k{α:Type}:Sl α->Fl
 |.nil=>.nil|.emp=>.emp|.row _=>.row|.part _=>.part
class bG(α:Type)where
 cells:α->List V
 agg:Bool
 size:Nat
 len:∀a,(cells a).length=size
 good:∀a,V.cK (cells a)=true
 one:∀a,(cells a).all V.one=true
 plain:agg=false->size=1
def cells{α:Type}[bG α](a:α):T2:=bG.cells a
def enc{α:Type}[bG α](a:α):V:=if bG.agg α then .agg (cells a)else(cells a).headD .undef
def rows{α:Type}[bG α](l:aZ α):T':=l.map cells
def cg{α:Type}[bG α](s:Sl α):V:=pK s.k (bG.size α) (rows s.l)
instance:bG Int where
 cells n:=[.int .i64 n]
 agg:=false
 size:=1
 len _:=rfl
 good _:=rfl
 one _:=rfl
 plain _:=rfl
instance:bG X' where
 cells b:=[.bool b]
 agg:=false
 size:=1
 len _:=rfl
 good _:=rfl
 one _:=rfl
 plain _:=rfl
instance:bG U' where
 cells s:=[.str s]
 agg:=false
 size:=1
 len _:=rfl
 good _:=rfl
 one _:=rfl
 plain _:=rfl
structure bf where
 proc:Int
 index:Int
 deriving DecidableEq,Inhabited
instance:bG bf where
 cells x:=[.int .i64 x.proc,.int .i64 x.index]
 agg:=true
 size:=2
 len _:=rfl
 good _:=rfl
 one _:=rfl
 plain h:=by cases h
@[simp] def ZX(n:Int):enc n=.int .i64 n:=rfl
@[simp] def ZC(n:X'):enc n=.bool n:=rfl
@[simp] def ZZ(n:U'):enc n=.str n:=rfl
@[simp] def Zy(n:Int):cells n=[.int .i64 n]:=rfl
@[simp] def YC(n:X'):cells n=[.bool n]:=rfl
@[simp] def Zw(n:U'):cells n=[.str n]:=rfl
@[simp] def ZH(n:bf):cells n=[.int .i64 n.proc,.int .i64 n.index]:=rfl
@[simp] def Xh(n:bf):enc n=.agg [.int .i64 n.proc,.int .i64 n.index]:=rfl
section
variable{α:Type}[bG α]
def iS(l:aZ α):(rows l).length=l.length:=by simp[rows]
def idx(s:Sl α)(i:Int):a_ α:=if 0<=i then s.l[i.toNat]?else none
def QK{N:Nat->Y'}(s:Sl α)(k:IntKind)(i:Int){n:Nat}(B:n=bG.size α):br N (.idxS n) [cg s,.int k i]=(idx s i).map λx=>.fptr (cells x):=by subst B;unfold idx cg;simp only[br,m_];by_cases h:i<0;rw[if_pos h,if_neg Zaa];rfl;rw[if_neg h,if_pos Zaa];cases s<;>simp[Sl.k,Sl.l,pK,rows,Function.comp_def]
def OQ{N:Nat->Y'}(s:Sl α):br N .lenSl [cg s]=some (.int .i64 s.l.length):=by cases s<;>simp[br,o8,cg,Sl.k,Sl.l,pK,iS]
end
section
variable{S:Sys}{c:cm}
end
end Go.VE
namespace Go.VE
variable[b_]
section
variable{S:Sys}{c:cm}
def isSlice:vN->X'
 |.slice ..=>true|_=>false
def Tn(dr:X')(fr:S')(dst:a_ Nat)(now:X')(p:vN)(az:QP)(st:St)(h:isSlice p=false):
 gA S c dr fr ⟨dst,none,now,.p p,az,[],[]⟩ st=(ck S.N st.g az).bind λsvs=>(k7 S.N st.m p svs).bind λx=>some (dy st dst x):=by
 unfold gA nN;have u:gQ S.N st.g ⟨dst,none,now,.p p,az,[],[]⟩=none:=by unfold gQ;grind
 simp[wanted,u]
 cases z:ck S.N st.g az with
 |none=>rfl|some svs=>simp;cases p<;>first|(simp[isSlice]at h;done)|(cases w:k7 S.N st.m _ svs<;>simp[w])
def LY(N:Nat->Y')(m:Tb bP)(p:vN)(svs:So)(xs:T2)(h:dI svs=some xs):k7 N m p svs=(br N p xs).bind λx=>some (.v x):=by unfold k7;rw[h];dsimp only;cases br N p xs<;>rfl
def Ic(dr:X')(fr:S')(dst:a_ Nat)(now:X')(q:LV)(az:QP)(st:St):
 gA S c dr fr ⟨dst,none,now,.r q,az,[],[]⟩ st=(ck S.N st.g az).bind λsvs=>if !dr||now||ga fr svs then(qD st.m q svs).bind λx=>some (dy st dst x)else none:=by
 unfold gA nN;have u:gQ S.N st.g ⟨dst,none,now,.r q,az,[],[]⟩=none:=rfl;simp[wanted,u]
 cases w:ck S.N st.g az with
 |none=>rfl|some svs=>
  simp;split
  .cases z:qD st.m q svs<;>simp
  rfl
def Ea(dr:X')(fr:S')(d:Nat)(now:X')(q:Qr)(az:QP)(st:St):
 gA S c dr fr ⟨some d,none,now,.a q,az,[],[]⟩ st=(ck S.N st.g az).bind λsvs=>if st.new d then(qT st.m q svs d).bind λr=>some {st with g:=bT st.g d r.2,m:=bT st.m d r.1}else none:=by
 unfold gA nN;have u:gQ S.N st.g ⟨some d,none,now,.a q,az,[],[]⟩=none:=rfl;simp[wanted,u]
 cases w:ck S.N st.g az with
 |none=>rfl|some svs=>
  simp;split
  .cases z:qT st.m q svs d<;>simp[dy]
  rfl
def yG(dr:X')(fr:S')(dst:a_ Nat)(now:X')(q:LC)(az:QP)(st:St):
 gA S c dr fr ⟨dst,none,now,.l q,az,[],[]⟩ st=(ck S.N st.g az).bind λsvs=>if !dr||now then(ow st dst q svs).bind λr=>some (dy r.2 dst r.1)else none:=by
 unfold gA nN;have u:gQ S.N st.g ⟨dst,none,now,.l q,az,[],[]⟩=none:=rfl;simp[wanted,u]
 cases w:ck S.N st.g az with
 |none=>rfl|some svs=>
  simp;split
  .cases z:ow st dst q svs<;>simp
  rfl
def mz:So->a_ (Y'×So)
 |.clo f a b::vs=>some (f,a++vs++b)|.v (.clo f a b)::vs=>some (f,a.map .v++vs++b.map .v)|_=>none
def wM(dr:X')(fr:S')(dst:a_ Nat)(now:X')(az:QP)(st:St)(svs:So)(f:Y')(args:So)(B:ck S.N st.g az=some svs)(a:mz svs=some (f,args)):
 gA S c dr fr ⟨dst,none,now,.c,az,[],[]⟩ st=(fc S c dst dr (!dr||now) (f_ st.m fr) f args st).bind λr=>some (dy r.2 dst r.1):=by
 unfold gA nN;unfold mz at a;split at a
 .obtain⟨rfl,rfl⟩:=a;simp[wanted,gQ,B];cases fc S c dst dr _ _ _ _ st<;>simp
 .obtain⟨rfl,rfl⟩:=a;simp[wanted,gQ,B];cases fc S c dst dr _ _ _ _ st<;>simp
 grind
noncomputable def Rr{β:Type}(S:Sys)(c:cm)(fr:S')(l:ST)(k:St->a_ β):St->a_ β:=λst=>(oB S c false fr l st).bind k
noncomputable def Rj{β:Type}(S:Sys)(c:cm)(fr:S')(l:ST)(k:St->a_ β):St->a_ β:=λst=>(oB S c true fr l st).bind k
noncomputable def XY{β:Type}(S:Sys)(c:cm)(fr dd:S')(l:ST)(k:St->a_ β):St->a_ β:=λst=>Rr S c fr l k (qG dd st)
noncomputable def XK{β:Type}(S:Sys)(c:cm)(fr dd:S')(l:ST)(k:St->a_ β):St->a_ β:=λst=>Rj S c fr l k (qG dd st)
@[congr] def YR{β:Type}{fr:S'}{l:ST}{k:St->a_ β}{st st':St}(h:st=st'):Rr S c fr l k st=Rr S c fr l k st':=by rw[h]
@[congr] def YE{β:Type}{fr B:S'}{l:ST}{k:St->a_ β}{st st':St}(D:fr=B)(h:st=st'):Rj S c fr l k st=Rj S c B l k st':=Zad
@[congr] def YM{β:Type}{fr dd:S'}{l:ST}{k:St->a_ β}{st st':St}(h:st=st'):XY S c fr dd l k st=XY S c fr dd l k st':=by rw[h]
@[congr] def Y1{β:Type}{fr B dd:S'}{l:ST}{k:St->a_ β}{st st':St}(D:fr=B)(h:st=st'):XK S c fr dd l k st=XK S c B dd l k st':=Zad
@[congr] def Zd{dr:X'}{fr:S'}{o:RO}{st st':St}(h:st=st'):gA S c dr fr o st=gA S c dr fr o st':=by rw[h]
end
section
variable{S:Sys}{c:cm}(dr:X')(fr:S')(dst:a_ Nat)(now:X')(az:QP)(st:St)
end
inductive Fm where
 |seq(b:RC)|blk(id:Nat)|gst(x:Gh)
abbrev R0:=aZ Fm
section
variable(S:Sys)(c:cm){β:Type}(Q:Out×St->a_ β)
noncomputable def runK:R0->Out×St->a_ β
 |[],r=>Q r|.seq b::fs,(.norm,st)=>(cR S c b st).bind (runK fs)|.seq _::fs,r=>runK fs r|.blk id::fs,(.exit k,st)=>if k=id then runK fs (.norm,st)else runK fs (.exit k,st)|.blk _::fs,r=>runK fs r|.gst x::fs,(.norm,st)=>(ghost x st).bind λst=>runK fs (.norm,st)|.gst _::fs,r=>runK fs r
noncomputable def go(a:RC)(fs:R0)(st:St):a_ β:=(cR S c a st).bind (runK S c Q fs)
noncomputable def T7(fs:R0):St->a_ β:=λst=>runK S c Q fs (.norm,st)
def bl{α:Type}(t:X')(a b:α):α:=if t then a else b
end
@[congr] def Zz{α:Type}{t B:X'}{a b a' D:α}(h:t=B)(G:B=true->a=a')(J:B=false->b=D):bl t a b=bl B a' D:=by subst h;cases t;exact J rfl;exact G rfl
section
variable{S:Sys}{c:cm}{β:Type}{Q:Out×St->a_ β}
@[congr] def go_congr{a:RC}{fs:R0}{st st':St}(h:st=st'):go S c Q a fs st=go S c Q a fs st':=by rw[h]
@[congr] def Yh{fs:R0}{st st':St}(h:st=st'):T7 S c Q fs st=T7 S c Q fs st':=by rw[h]
@[congr] def YH{fs:R0}{r B:Out×St}(h:r=B):runK S c Q fs r=runK S c Q fs B:=by rw[h]
def JN(a:RC)(st:St):(cR S c a st).bind Q=go S c Q a [] st:=by simp only[go];cases cR S c a st<;>rfl
inductive Fw(ν ε ρ:Type)where
 |n(a:ν)|x(e:ε)|r(b:ρ)
def kG{σ ε ρ:Type}(step:σ->a_ (Fw σ ε ρ)):Nat->σ->a_ (Fw Empty ε ρ)
 |0,_=>none|k+1,s=>match step s with
  |some (.n B)=>kG step k B|some (.x e)=>some (.x e)|some (.r b)=>some (.r b)|none=>none
def yM{σ ε ρ:Type}{step:σ->a_ (Fw σ ε ρ)}:∀{k B:Nat}{s:σ}{r:Fw Empty ε ρ},k<=B->kG step k s=some r->kG step B s=some r
 |0,_,_,_,_,h=>by simp[kG]at h|k+1,0,_,_,hk,_=>Zaa|k+1,B+1,s,r,hk,h=>by simp only[kG]at h⊢;split at h;exact yM (Nat.le_of_succ_le_succ hk) h;exact h;exact h;simp at h
open Classical in
noncomputable def bQ{σ ε ρ:Type}(step:σ->a_ (Fw σ ε ρ))(s:σ):a_ (Fw Empty ε ρ):=if h:∃k r,kG step k s=some r then some (Classical.choose (choose_spec h))else none
def pL{σ ε ρ:Type}{step:σ->a_ (Fw σ ε ρ)}{s:σ}{r:Fw Empty ε ρ}:bQ step s=some r↔∃k,kG step k s=some r:=by
 unfold bQ;constructor;intro h;split at h;next u=>simp only[ζa]at h;exact⟨_,by rw[<-h];exact choose_spec (choose_spec u)⟩
 simp at h;rintro⟨k,a⟩;have u:∃k r,kG step k s=some r:=⟨k,r,a⟩;rw[dif_pos u];have z:=choose_spec (choose_spec u);have B:=yM (Nat.le_max_left (Classical.choose u) k) z;have w:=yM (Nat.le_max_right (Classical.choose u) k) a;rw[B]at w;exact w
def Fw.out{ν ε ρ:Type}(B:ν->St)(eε:ε->Nat×St)(eρ:ρ->St):Fw ν ε ρ->Out×St
 |.n a=>(.norm,B a)|.x e=>(.exit (eε e).1,(eε e).2)|.r b=>(.ret,eρ b)
def Fw.elim{ε ρ γ:Type}(B:ε->γ)(fr:ρ->γ):Fw Empty ε ρ->γ
 |.x e=>B e|.r b=>fr b
end
section
variable{α:Type}[bG α]
def Gx(s:Sl α):V.one (cg s)=true:=by cases s<;>rfl
def Pm(l:aZ α):V.oc (rows l)=true:=by induction l with|nil=>rfl|cons a l u=>simp only[rows,map_cons,V.oc,ζh];exact⟨bG.good a,u⟩
def Nf(s:Sl α):V.good (cg s)=true:=by cases s<;>simp only[cg,Sl.k,pK,V.good]<;>exact Pm _
instance:bG (Sl α)where
 cells s:=[cg s]
 agg:=false
 size:=1
 len _:=rfl
 good s:=by simp only[V.cK,Nf,Bool.and_self]
 one s:=by simp[Gx]
 plain _:=rfl
end
section
variable{S:Sys}{c:cm}
def O4(x:a_ SV)(b:X')(y z:a_ St):a_ St:=
 match x with
 |some (.v (.bool t))=>bl (t==b) y z|some (.v _)=>z|_=>none
@[congr] def Xm{x B:a_ SV}{b:X'}{y z:a_ St}(h:x=B):O4 x b y z=O4 B b y z:=by rw[h]
def Tu{β:Type}(x:a_ SV)(y z:a_ β):a_ β:=
 match x with
 |some (.v (.bool t))=>bl t y z|_=>none
@[congr] def Yd{β:Type}{x B:a_ SV}{y z:a_ β}(h:x=B):Tu x y z=Tu B y z:=by rw[h]
def gN(c:cm)(f:Y')(az:T2):a_ T2:=(c f (az.map .v) []).bind λr=>c_ r.2 8 r.1
def Ph(now:X')(args:So)(ok:X')(st:St)(ys:T2):a_ (SV×St):=if(result ys).scalar||ok then some (.v (result ys),st)else if now then(rowsOf args).map λds=>(.v (result ys),{st with m:=qK ds st.m})else none
def Uf(dst:a_ Nat)(dr now:X')(old:So->X')(f:Y')(args:So)(st:St)(a:S.E.keep f=false):
 fc S c dst dr now old f args st=(c_ st.m 8 args).bind λaz=>if now||old args then(gN c f az).bind (Ph now args (dI args).isSome st)else none:=by
 unfold fc gN;simp only[a,Bool.false_eq_true,if_false]
 cases c_ st.m 8 args with
 |none=>rfl|some az=>
  simp only[ζb];split
  .cases c f (az.map .v) []with
   |none=>rfl|some r=>have⟨rs,m'⟩:=r;simp only[ζb];cases c_ m' 8 rs<;>rfl
  rfl
end
section
variable{S:Sys}{T:rD}
def Jz(rs:aZ RV):Out×St->a_ T2
 |(.exit _,_)=>none|(_,st)=>(lI st rs).bind (c_ st.m 8)
def SH{f:Y'}{rf:RF}(B:T f=some rf)(az:T2)(D:az.length<=rf.na):gN (dh S T) f az=go S (dh S T) (Jz rf.rs) rf.body [] (start (az.map .v) []):=by unfold gN;rw[ta B];unfold ot;rw[if_pos (by simpa using D),<-JN];cases h:cR S (dh S T) rf.body (start (az.map .v) [])with|none=>rfl|some r=>have⟨o,st⟩:=r;cases o<;>simp only[ζb,Jz]<;>(try rfl)<;>(cases lI st rf.rs<;>rfl)
end
end Go.VE
namespace Go.VE
variable[b_]
variable{N:Nat->Y'}
def zU(k:IntKind)(a b:Int):QR:=if b=0 then none else some (k.wrap (a.tdiv b))
def X3(e:a_ KT)(q:a_ Nat)(k:IntKind)(a b:Int):br N (.bin e q .quo) [.int k a,.int k b]=(zU k a b).bind λx=>some (.int k x):=by simp only[br,iH,zU,if_true];split<;>rfl
def Kx(o:Nat)(cs:T2):br N (.fieldAddr o) [.fptr cs]=if o<=cs.length then some (.fptr (cs.drop o))else none:=rfl
def lZ(s:U')(n:Int):QR:=if 0<=n then(s[n.toNat]?).map λb=>(b.toNat:Int)else none
def PR(s:U')(k:IntKind)(n:Int):br N .idxStr [.str s,.int k n]=(lZ s n).bind λx=>some (.int .u8 x):=by simp only[br,lZ];split;cases s[n.toNat]?<;>rfl;rfl
def Rb(z:T2)(pl:aZ (Nat×Nat))(vs:T2):br N (.build z pl) vs=(lX z pl vs).bind λcs=>some (.agg cs):=by simp only[br];cases lX z pl vs<;>rfl
section
variable{α:Type}[bG α]
def Fq(s:Sl α)(k:IntKind)(i:Int)(n:Nat)(B:n=bG.size α):br N (.idxS n) [cg s,.int k i]=(idx s i).bind λx=>some (.fptr (cells x)):=by rw[QK s k i B];cases idx s i<;>rfl
def Au(s:Sl α):br N .lenSl [cg s]=some (.int .i64 s.l.length):=OQ s
def Sl.isNil{α:Type}(s:Sl α):a_ X':=
 match s with
 |.nil=>some true|.emp=>none|_=>some false
def Rn(q:a_ Nat)(s:Sl α):br N (.bin (some .slice) q .eql) [cg s,.bR]=s.isNil.bind λt=>some (.bool t):=by cases s<;>rfl
def h_(s:Sl α)(a b:QR):a_ (Sl α):=
 (dZ s.l.length a b).map λ(l,h)=>match s with
  |.nil=>.nil|.emp=>.emp|.row x=>.part ((x.take h).drop l)|.part x=>.part ((x.take h).drop l)
def MD(s:Sl α)(a b:QR)(n:Nat)(B:n=bG.size α):iY n (cg s) a b=(h_ s a b).bind λx=>some (cg x):=by subst B;cases s with|nil=>simp only[cg,Sl.k,pK,iY,h_,Sl.l,length_nil];cases dZ 0 a b<;>rfl|emp=>simp only[cg,Sl.k,pK,iY,h_,Sl.l,length_nil];cases dZ 0 a b<;>rfl|row l=>simp only[cg,Sl.k,pK,iY,h_,Sl.l,if_true,iS];cases dZ l.length a b<;>simp[rows,map_take,map_drop]|part l=>simp only[cg,Sl.k,pK,iY,h_,Sl.l,if_true,iS];cases dZ l.length a b<;>simp[rows,map_take,map_drop]
end
def PB(m:Tb bP)(n:Nat)(a:X')(cs:T2):qD m (.load n a) [.v (.fptr cs)]=(cut cs 0 n).bind λr=>(mk a r).bind λx=>some (.v x):=by simp only[qD,ez];cases cut cs 0 n with|none=>rfl|some r=>simp only[ζb];cases mk a r<;>rfl
end Go.VE
namespace Go.VE
variable[b_]
section
variable{α:Type}[bG α]
def cV(s:Sl α):bP:=.sl s.k (bG.size α) (rows s.l)
def Sl.pP(s:Sl α)(i:Int):a_ Nat:=if 0<=i/\i.toNat<s.l.length then some i.toNat else none
def Sl.get(s:Sl α)(i:Nat):a_ α:=s.l[i]?
def Sl.put(s:Sl α)(i:Nat)(x:α):a_ (Sl α):=if i<s.l.length then some (match s with|.row l=>.row (l.set i x)|.part l=>.part (l.set i x)|s=>s)else none
def eU(s:Sl α)(x:α):a_ (Sl α):=if s.l.length+1<=2147483648 then some (.row (s.l++[x]))else none
def xU(n:Int)(z:α):a_ (Sl α):=if 0<=n/\n<=2147483648 then some (.row (replicate n.toNat z))else none
end
section
variable{α:Type}[bG α]{N:Nat->Y'}{m:Tb bP}
def MT(n d:Nat)(o:a_ bP)(i:Int):a_ SV:=
 match o with
 |some (.sl k es u)=>if cT k/\es=n/\0<=i/\i.toNat<u.length then some (.el d i.toNat 0)else none|_=>none
def UB(n d:Nat)(k:IntKind)(i:Int):k7 N m (.idxS n) [.own d,.v (.int k i)]=MT n d (bp m d) i:=by simp[k7,dI,Cw,MT];grind
def Wb(n d:Nat)(s:Sl α)(i:Int)(h:n=bG.size α):MT n d (some (cV s)) i=(s.pP i).bind λj=>some (.el d j 0):=by simp[MT,cV,iS,Sl.pP];cases s with|nil=>simp[Sl.l,cT]|emp=>simp[Sl.l,cT]|row l=>simp[Sl.k,Sl.l,cT];grind|part l=>simp[Sl.k,Sl.l,cT];grind
def Mj(o:a_ bP):a_ SV:=
 match o with
 |some (.sl _ _ u)=>some (.v (.int .i64 u.length))|_=>none
def Sz(d:Nat):k7 N m .lenSl [.own d]=Mj (bp m d):=by simp[k7,dI,Cw,Mj];grind
def UL(s:Sl α):Mj (some (cV s))=some (.v (.int .i64 s.l.length)):=by simp[Mj,cV,iS]
def T_(n:Nat)(a:X')(o:Nat)(ob:a_ bP):a_ SV:=
 match ob with
 |some (.box cs)=>wV n a ((cs.drop o).take n)|_=>none
def ZD(n:Nat)(a:X')(d o:Nat):qD m (.load n a) [.ptr d o]=T_ n a o (bp m d):=by rfl
def OE(n:Nat)(a:X')(o:Nat)(cs:So):T_ n a o (some (.box cs))=wV n a ((cs.drop o).take n):=rfl
def J9(n:Nat)(a:X')(i o:Nat)(ob:a_ bP):a_ SV:=
 match ob with
 |some (.sl _ _ u)=>match u[i]?with
  |some cs=>((cut cs o n).bind (mk a)).map .v|none=>none
 |_=>none
def Yu(n:Nat)(a:X')(d i o:Nat):qD m (.load n a) [.el d i o]=J9 n a i o (bp m d):=by rfl
def O3(n:Nat)(a:X')(i o:Nat)(s:Sl α):J9 n a i o (some (cV s))=(s.get i).bind λx=>(cut (cells x) o n).bind λr=>(mk a r).bind λy=>some (.v y):=by simp only[J9,cV,Sl.get,rows,List.getElem?_map];cases s.l[i]?with|none=>rfl|some x=>simp only[map_some,ζb];cases cut (cells x) o n with|none=>rfl|some r=>simp;cases mk a r<;>rfl
def Ys(z:α)(n:Int)(d:Nat)(size:Nat)(zero:T2)(h:zero=cells z)(B:size=bG.size α):
 qT m (.makeSl size zero) [.v (.int .i64 n),.v (.int .i64 n)] d=(xU n z).bind λs=>some (cV s,.own d):=by
 subst h B;simp[qT,xU];split
 .simp[cV,Sl.k,Sl.l,rows]
 rfl
def Fz(st:St)(d i o size:Nat)(x:V)(ob:a_ bP):a_ (SV×St):=
 match ob with
 |some (.sl k es u)=>match u[i]?with
  |some cs=>if x.cells.length=size/\o+size<=cs.length/\x.cells.all V.one=true then
   some (.v .undef,{st with m:=bT st.m d (.sl k es (u.set i (cs.take o++x.cells++cs.drop (o+x.cells.length))))})else none
  |none=>none
 |_=>none
def MN(st:St)(dst:a_ Nat)(size d i o:Nat)(x:V):ow st dst (.store size) [.el d i o,.v x]=Fz st d i o size x (bp st.m d):=by rfl
def NW(g:Tb SV)(p:S')(w:T')(B:X')(y:Nat)(d i size:Nat)(x:V)(a:α)(D:x.cells=cells a)(G:size=bG.size α)(s:Sl α):
 Fz ⟨g,m,p,w,B,y⟩ d i 0 size x (some (cV s))=(s.put i a).bind λJ=>some (.v .undef,⟨g,bT m d (cV J),p,w,B,y⟩):=by
 have e:(cells a).all V.one=true:=bG.one a;have u:∀b:α,(cells b).length=bG.size α:=bG.len;subst G;simp only[Fz,cV,rows,List.getElem?_map,D,Sl.put]
 by_cases c:i<s.l.length
 .have hg:=ζd c;rw[if_pos c,hg];simp[u,e]
  cases s with
  |nil=>simp[Sl.l]at c|emp=>simp[Sl.l]at c|row l=>simp[Sl.k,Sl.l,List.drop_of_length_le,u]|part l=>simp[Sl.k,Sl.l,List.drop_of_length_le,u]
 grind
def zL(st:St)(t n:Nat)(s:SV)(xs ys:a_ T'):a_ (SV×St):=
 match xs,ys with
 |some _,some []=>match s with
  |.own d=>match bp st.m d with
   |some ob=>if St.new {st with m:=ey d st.m} t then some (.own t,{st with m:=bT (ey d st.m) t ob})else none|none=>none
  |.v .bR=>if st.new t then some (.own t,{st with m:=bT st.m t (.sl .nil n [])})else none|.v .dP=>if st.new t then some (.own t,{st with m:=bT st.m t (.sl .emp n [])})else none|_=>none
 |some xs,some ys=>
  if xs.length+ys.length<=2147483648/\Kn s=true then
   if St.new {st with m:=giveUp st.m s} t then some (.own t,{st with m:=bT (giveUp st.m s) t (.sl .row n (xs++ys))})else none
  else none
 |_,_=>none
def Be(st:St)(t n:Nat)(s x:SV):ow st (some t) (.append n) [s,x]=zL st t n s (lM st.m n s) (lM st.m n x):=by cases s<;>cases x<;>(rfl)
def MZ(n:Nat)(o:a_ bP):a_ T':=
 match o with
 |some (.sl k es u)=>if cT k then(if es=n then some u else none)else some []|_=>none
def Gd(n d:Nat):lM m n (.own d)=MZ n (bp m d):=by simp[lM,MZ];grind
def Cp(n:Nat)(s:Sl α)(h:n=bG.size α):MZ n (some (cV s))=some (rows s.l):=by subst h;cases s<;>simp[MZ,cV,Sl.k,Sl.l,cT,rows]
def UP(n:Nat):lM m n (.v .bR)=some []:=rfl
def UH(n:Nat):lM m n (.v .dP)=some []:=rfl
def OJ(g:Tb SV)(p:S')(w:T')(B:X')(y:Nat)(t n d:Nat)(l:aZ α)(x:α)(h:n=bG.size α):zL ⟨g,m,p,w,B,y⟩ t n (.own d) (some (rows l)) (some (rows [x]))=
 (eU (.row l) x).bind λs=>if St.new ⟨g,ey d m,p,w,B,y⟩ t then some (.own t,⟨g,bT (ey d m) t (cV s),p,w,B,y⟩)else none:=by
 subst h;have e:(rows l).length+(rows [x]).length=l.length+1:=by simp[iS]
 by_cases h:l.length+1<=2147483648
 .have a:eU (.row l) x=some (.row (l++[x])):=if_pos h;have u:zL ⟨g,m,p,w,B,y⟩ t (bG.size α) (.own d) (some (rows l)) (some (rows [x]))=if St.new ⟨g,ey d m,p,w,B,y⟩ t then some (.own t,⟨g,bT (ey d m) t (.sl .row (bG.size α) (rows l++rows [x])),p,w,B,y⟩)else none:=if_pos ⟨Zaa,rfl⟩
  rw[a,u];simp[cV,Sl.k,Sl.l,rows]
 have a:eU (.row l) x=none:=if_neg h;have u:zL ⟨g,m,p,w,B,y⟩ t (bG.size α) (.own d) (some (rows l)) (some (rows [x]))=none:=if_neg (λq=>h Zaa)
 grind
def OB(g:Tb SV)(p:S')(w:T')(B:X')(y:Nat)(t n:Nat)(x:α)(h:n=bG.size α):zL ⟨g,m,p,w,B,y⟩ t n (.v .bR) (some []) (some (rows [x]))=
 if St.new ⟨g,m,p,w,B,y⟩ t then some (.own t,⟨g,bT m t (cV (.row [x])),p,w,B,y⟩)else none:=by
 subst h;rfl
def Pu(g:Tb SV)(p:S')(w:T')(B:X')(y:Nat)(t n:Nat)(x:α)(h:n=bG.size α):zL ⟨g,m,p,w,B,y⟩ t n (.v .dP) (some []) (some (rows [x]))=
 if St.new ⟨g,m,p,w,B,y⟩ t then some (.own t,⟨g,bT m t (cV (.row [x])),p,w,B,y⟩)else none:=by
 subst h;rfl
end
def zC(g:Tb SV)(m:Tb bP)(p:S')(w:T')(B:X')(y d:Nat):St.new ⟨g,m,p,w,B,y⟩ d=(!(p.contains d)&&(bp m d).isNone&& !(wE d g)&& !(uv d m)):=rfl
def tP(d:Nat):wE d []=false:=rfl
def rP(d n:Nat)(x:SV)(r:Tb SV):wE d ((n,x)::r)=(SV.c8 d x||wE d r):=rfl
def tE(d:Nat):uv d []=false:=rfl
def rO(d n:Nat)(x:bP)(r:Tb bP):uv d ((n,x)::r)=(bP.c8 d x||uv d r):=rfl
def zq(d:Nat)(x:V):SV.c8 d (.v x)=false:=rfl
def u_(d e:Nat):SV.c8 d (.own e)=(e==d):=rfl
def vf(d e o:Nat):SV.c8 d (.ptr e o)=(e==d):=rfl
def wZ(d e i o:Nat):SV.c8 d (.el e i o)=(e==d):=rfl
def w6(d e:Nat):SV.c8 d (.mp e)=(e==d):=rfl
def u9(d:Nat)(f:Y')(a b:So):SV.c8 d (.clo f a b)=(SV.dO d a||SV.dO d b):=rfl
def uG(d:Nat)(l:So):SV.c8 d (.tup l)=SV.dO d l:=rfl
def tM(d:Nat):SV.dO d []=false:=rfl
def rF(d:Nat)(x:SV)(r:So):SV.dO d (x::r)=(SV.c8 d x||SV.dO d r):=rfl
def tH(d:Nat)(cs:So):bP.c8 d (.box cs)=SV.dO d cs:=rfl
def G9(m:Tb bP)(n:Nat):c_ m n []=some []:=by cases n<;>simp[c_]
def Fi(m:Tb bP)(n:Nat)(x:SV)(r:So):c_ m n (x::r)=(shut m n x).bind λy=>(c_ m n r).bind λs=>some (y::s):=by cases n<;>(simp[c_];cases shut m _ x<;>(try rfl)<;>(cases c_ m _ r<;>rfl))
def WQ(m:Tb bP)(n:Nat)(x:V):shut m n (.v x)=some x:=by cases n<;>simp[shut]
def SS(m:Tb bP)(n:Nat)(f:Y')(a b:So):shut m (n+1) (.clo f a b)=(c_ m n a).bind λx=>(c_ m n b).bind λy=>some (.clo f x y):=by simp[shut];cases c_ m n a<;>(try rfl)<;>(cases c_ m n b<;>rfl)
def RU(m:Tb bP)(n:Nat)(l:So):shut m (n+1) (.tup l)=(c_ m n l).bind λx=>some (.tup x):=by simp[shut];cases c_ m n l<;>rfl
def RE(m:Tb bP)(n:Nat)(l:So):shut m (n+1) (.agg l)=(c_ m n l).bind λx=>some (.agg x):=by simp[shut];cases c_ m n l<;>rfl
def u6{α:Type}(n:Nat):ey n ([]:Tb α)=[]:=rfl
def tQ{α:Type}(n k:Nat)(x:α)(r:Tb α):ey n ((k,x)::r)=if k=n then ey n r else(k,x)::ey n r:=rfl
def mapM_nil(f:So->So):mapM f []=[]:=rfl
section
variable{N:Nat->Y'}{m:Tb bP}
def U4:result []=.tup []:=rfl
def Vh(x:V):result [x]=x:=rfl
def Vx(x y:V)(l:T2):result (x::y::l)=.tup (x::y::l):=rfl
def Kl(p:vN)(a:V):k7 N m p [.v a]=(br N p [a]).bind λx=>some (.v x):=LY N m p _ [a] rfl
def xN(p:vN)(a b:V):k7 N m p [.v a,.v b]=(br N p [a,b]).bind λx=>some (.v x):=LY N m p _ [a,b] rfl
def mF(l:T2):dI (l.map .v)=some l:=by induction l with|nil=>rfl|cons a l u=>simp only[map_cons,dI,u];rfl
def vK(n:Nat)(l:T2):c_ m n (l.map .v)=some l:=by induction l with|nil=>exact G9 m n|cons a l u=>rw[map_cons,Fi,WQ,u];rfl
def Sl.TL{α:Type}(l:aZ α):(Sl.row l).l=l:=rfl
def Pp(cs:T2):lX cs [] []=some cs:=rfl
def Mz(cs:T2)(off size:Nat)(pl:aZ (Nat×Nat))(v:V)(vs:T2):lX cs ((off,size)::pl) (v::vs)=
 if v.cells.length=size/\off+v.cells.length<=cs.length then lX (cs.take off++v.cells++cs.drop (off+v.cells.length)) pl vs else none:=by
 simp only[lX]
 by_cases h:v.cells.length=size<;>by_cases u:off+v.cells.length<=cs.length
 .rw[if_neg (by simp[h];omega),if_pos ⟨h,u⟩]
 .rw[if_pos (by simp[h];omega),if_neg (λq=>u q.2)]
 .rw[if_pos (by simp[h]),if_neg (λq=>h q.1)]
 rw[if_pos (by simp[h]),if_neg (λq=>h q.1)]
def Xo(k:IntKind)(n:Int):V.cells (.int k n)=[.int k n]:=rfl
def UR(n:X'):V.cells (.bool n)=[.bool n]:=rfl
def Xi(n:U'):V.cells (.str n)=[.str n]:=rfl
def XW:V.cells .bR=[.bR]:=rfl
def qq(k:IntKind)(n:Int):V.one (.int k n)=true:=rfl
def oK(n:X'):V.one (.bool n)=true:=rfl
def qv(n:U'):V.one (.str n)=true:=rfl
end
section
variable{S:Sys}{c:cm}{β γ δ:Type}{Q:Out×St->a_ β}{L:a_ β}{e:γ->a_ β}
def P9{dr:X'}{fr:S'}{d:a_ Nat}{gd:a_ (Nat×X')}{now:X'}{k:K}{az:QP}{st:St}(h:wanted st.g gd=some true):
 gA S c dr fr ⟨d,gd,now,k,az,[],[]⟩ st=gA S c dr fr ⟨d,none,now,k,az,[],[]⟩ st:=by
 unfold gA;rw[h];rfl
def DH(dr:X')(st:St):DO dr [] st=some st:=by cases dr<;>rfl
def pe(f:SV->a_ V):So->a_ T2
 |[]=>some []|x::r=>(f x).bind λy=>(pe f r).bind λs=>some (y::s)
def jQ(m:Tb bP):Nat->SV->a_ V
 |0,x=>match x with
  |.v y=>some y|.own d=>match bp m d with
   |some (.sl k es xs)=>some (pK k es xs)|_=>none
  |.mp d=>match bp m d with
   |some (.mp B)=>some (.fmap B)|_=>none
  |_=>none
 |n+1,x=>match x with
  |.v y=>some y|.own d=>match bp m d with
   |some (.sl k es xs)=>some (pK k es xs)|_=>none
  |.ptr d o=>match bp m d with
   |some (.box cs)=>match pe (jQ m n) cs with
    |some xs=>if o<=xs.length then some (.fptr (xs.drop o))else none|none=>none
   |_=>none
  |.mp d=>match bp m d with
   |some (.mp B)=>some (.fmap B)|_=>none
  |.clo f a b=>(pe (jQ m n) a).bind λx=>(pe (jQ m n) b).bind λy=>some (.clo f x y)|.tup l=>(pe (jQ m n) l).bind λx=>some (.tup x)|.agg l=>(pe (jQ m n) l).bind λx=>some (.agg x)|_=>none
def zp(m:Tb bP):∀(n:Nat),(∀x,shut m n x=jQ m n x)/\∀l,c_ m n l=pe (jQ m n) l:=by
 have w:∀n,(∀x,shut m n x=jQ m n x)->∀l,c_ m n l=pe (jQ m n) l:=by intro n h l;induction l with|nil=>exact G9 m n|cons a l u=>rw[Fi,h a,u];rfl
 intro n;induction n with|zero=>have c:∀x,shut m 0 x=jQ m 0 x:=(by intro x;cases x<;>simp[shut,jQ]<;>rfl);grind|succ n u=>have e:∀x,shut m (n+1) x=jQ m (n+1) x:=(by intro x;cases x with|ptr d o=>simp[shut,jQ,u.2];rfl|clo f a b=>rw[SS,u.2,u.2];rfl|tup l=>rw[RU,u.2];rfl|agg l=>rw[RE,u.2];rfl|_=>simp[shut,jQ]<;>rfl);grind
noncomputable def wo(S:Sys)(c:cm)(dr:X'):S'->ST->(St->a_ β)->St->a_ β
 |_,[],k,st=>k st|fr,o::r,k,st=>((DO dr o.pre st).bind (gA S c dr fr o.strip)).bind λst'=>wo S c dr (if dr then sC fr o.strip else fr) r k (qG o.dead st')
def Fs(dr:X'):∀(l:ST)(fr:S')(k:St->a_ β)(st:St),wo S c dr fr l k st=(oB S c dr fr l st).bind k
 |[],_,_,_=>rfl|o::r,fr,k,st=>by simp[wo,oB];cases(DO dr o.pre st).bind (gA S c dr fr o.strip)with|none=>rfl|some st'=>exact Fs dr r _ k _
noncomputable def qF(S:Sys)(c:cm):RC->(St->a_ β)->(Nat->St->a_ β)->(St->a_ β)->St->a_ β
 |.skip,n,_,_,st=>n st|.ops l,n,_,_,st=>wo S c false [] l n st|.qB l,n,_,_,st=>wo S c true [] l n st|.seq a b,n,x,r,st=>qF S c a (λst=>qF S c b n x r st) x r st|.cond y a b,n,x,r,st=>match si S.N st.g y with
  |some (.v (.bool t))=>bl t (qF S c a n x r st) (qF S c b n x r st)|_=>none
 |.block id a,n,x,r,st=>qF S c a n (λk st=>if k=id then n st else x k st) r st|.loop a,n,x,r,st=>(p8 (cR S c a) st).bind λq=>match q with|(.norm,st)=>n st|(.exit k,st)=>x k st|(.ret,st)=>r st
 |.each g ps a b,n,x,r,st=>(cR S c (.each g ps a b) st).bind λq=>match q with|(.norm,st)=>n st|(.exit k,st)=>x k st|(.ret,st)=>r st
 |.exit k,_,x,_,st=>x k st|.ret,_,_,r,st=>r st|.gh g a,n,x,r,st=>(ghost g st).bind λst=>qF S c a n x r st|.hg a g,n,x,r,st=>qF S c a (λst=>(ghost g st).bind n) x r st
def FC(n:St->a_ β)(x:Nat->St->a_ β)(r:St->a_ β):Out×St->a_ β
 |(.norm,st)=>n st|(.exit k,st)=>x k st|(.ret,st)=>r st
def EN:∀(d:RC)(n:St->a_ β)(x:Nat->St->a_ β)(r:St->a_ β)(st:St),qF S c d n x r st=(cR S c d st).bind (FC n x r):=by
 intro d
 induction d with
 |skip=>intros;rfl|ops l=>intro n x r st;simp[qF,cR,Fs];cases oB S c false [] l st<;>rfl|qB l=>intro n x r st;simp[qF,cR,Fs];cases oB S c true [] l st<;>rfl|seq a b u w=>intro n x r st;simp[qF,cR,u,w];cases h:cR S c a st with|none=>rfl|some q=>have⟨o,st'⟩:=q;cases o<;>rfl
 |cond y a b u w=>
  intro n x r st;simp[qF,cR,u,w]
  cases si S.N st.g y with
  |none=>rfl|some v=>cases v with
   |v z=>cases z with
    |bool t=>cases t<;>rfl|_=>rfl
   |_=>rfl
 |block id a B=>intro n x r st;simp[qF,cR,B];cases h:cR S c a st with|none=>rfl|some q=>have⟨o,st'⟩:=q;cases o with|exit k=>simp[FC];split<;>rfl|_=>rfl
 |loop a B=>intro n x r st;rfl|each g C a b u w=>intro n x r st;rfl|exit k=>intros;rfl|ret=>intros;rfl|gh g a B=>simp[qF,cR,B];grind|hg a g B=>intro n x r st;simp[qF,cR,B];cases h:cR S c a st with|none=>rfl|some q=>have⟨o,st'⟩:=q;cases o with|norm=>simp[FC];cases ghost g st'<;>rfl|_=>rfl
section
variable(S c Q)
mutual
noncomputable def n_:R0->St->a_ β
 |[]=>λst=>Q (.norm,st)|.seq b::fs=>λst=>qF S c b (n_ fs) (og fs) (λst=>Q (.ret,st)) st|.blk _::fs=>n_ fs|.gst g::fs=>λst=>(ghost g st).bind (n_ fs)
noncomputable def og:R0->Nat->St->a_ β
 |[]=>λk st=>Q (.exit k,st)|.seq _::fs=>og fs|.blk id::fs=>λk st=>if k=id then n_ fs st else og fs k st|.gst _::fs=>og fs
end
noncomputable def lK(a:RC)(fs:R0)(st:St):a_ β:=qF S c a (n_ S c Q fs) (og S c Q fs) (λst=>Q (.ret,st)) st
end
section
variable{dr:X'}{fr:S'}{d:Nat}{dst:a_ Nat}{now:X'}{az:QP}{st:St}{α:Type}[bG α]
def PT{p:vN}{svs:So}{m:a_ δ}{v:δ->SV}(B:ck S.N st.g az=some svs)(a:isSlice p=false)(h:k7 S.N st.m p svs=m.bind λx=>some (v x)):
 gA S c dr fr ⟨dst,none,now,.p p,az,[],[]⟩ st=m.bind λx=>some (dy st dst (v x)):=by
 rw[Tn _ _ _ _ _ _ _ a,B]
 grind
def DM{p:vN}{svs:So}{v:SV}(B:ck S.N st.g az=some svs)(a:isSlice p=false)(h:k7 S.N st.m p svs=some v):
 gA S c dr fr ⟨dst,none,now,.p p,az,[],[]⟩ st=some (dy st dst v):=by
 rw[Tn _ _ _ _ _ _ _ a,B]
 grind
def Tt{n:Nat}{s:Sl α}{k:IntKind}{i:Int}(B:ck S.N st.g az=some [.v (cg s),.v (.int k i)])(D:n=bG.size α):
 gA S c dr fr ⟨dst,none,now,.p (.idxS n),az,[],[]⟩ st=(idx s i).bind λx=>some (dy st dst (.v (.fptr (cells x)))):=
 PT B rfl (by rw[xN,Fq s k i n D];grind)
def Yn{n e:Nat}{s:Sl α}{k:IntKind}{i:Int}(B:ck S.N st.g az=some [.own e,.v (.int k i)])(D:bp st.m e=some (cV s))(G:n=bG.size α):
 gA S c dr fr ⟨dst,none,now,.p (.idxS n),az,[],[]⟩ st=(s.pP i).bind λj=>some (dy st dst (.el e j 0)):=
 PT B rfl (by rw[UB,D,Wb n e s i G])
def TJ{s:Sl α}(B:ck S.N st.g az=some [.v (cg s)]):gA S c dr fr ⟨dst,none,now,.p .lenSl,az,[],[]⟩ st=some (dy st dst (.v (.int .i64 s.l.length))):=DM B rfl (by rw[Kl,Au];rfl)
def WU{e:Nat}{s:Sl α}(B:ck S.N st.g az=some [.own e])(D:bp st.m e=some (cV s)):gA S c dr fr ⟨dst,none,now,.p .lenSl,az,[],[]⟩ st=some (dy st dst (.v (.int .i64 s.l.length))):=DM B rfl (by rw[Sz,D,UL])
def YZ{q:a_ KT}{u:a_ Nat}{k:IntKind}{a b:Int}(B:ck S.N st.g az=some [.v (.int k a),.v (.int k b)]):gA S c dr fr ⟨dst,none,now,.p (.bin q u .quo),az,[],[]⟩ st=(zU k a b).bind λx=>some (dy st dst (.v (.int k x))):=PT B rfl (by rw[xN,X3];grind)
def VA{u:a_ Nat}{s:Sl α}(B:ck S.N st.g az=some [.v (cg s),.v .bR]):gA S c dr fr ⟨dst,none,now,.p (.bin (some .slice) u .eql),az,[],[]⟩ st=s.isNil.bind λt=>some (dy st dst (.v (.bool t))):=PT B rfl (by rw[xN,Rn];grind)
def Q6{s:U'}{k:IntKind}{n:Int}(B:ck S.N st.g az=some [.v (.str s),.v (.int k n)]):gA S c dr fr ⟨dst,none,now,.p .idxStr,az,[],[]⟩ st=(lZ s n).bind λx=>some (dy st dst (.v (.int .u8 x))):=PT B rfl (by rw[xN,PR];grind)
def WW{n e i o:Nat}{a:X'}{s:Sl α}{v:α->V}(B:ck S.N st.g az=some [.el e i o])(hd:(!dr||now||ga fr [.el e i o])=true)(D:bp st.m e=some (cV s))(b:∀x:α,(cut (cells x) o n).bind (mk a)=some (v x)):
 gA S c dr fr ⟨dst,none,now,.r (.load n a),az,[],[]⟩ st=(s.get i).bind λx=>some (dy st dst (.v (v x))):=by
 rw[Ic,B];simp only[ζb,hd,Yu,D,O3]
 cases s.get i with
 |none=>rfl|some x=>
  cases d:cut (cells x) o n with
  |none=>grind|some r=>grind
def VX{n e i:Nat}{s:Sl α}{x:V}{a:α}(B:ck S.N st.g az=some [.el e i 0,.v x])(hd:(!dr||now)=true)(D:bp st.m e=some (cV s))(G:x.cells=cells a)(J:n=bG.size α):
 gA S c dr fr ⟨dst,none,now,.l (.store n),az,[],[]⟩ st=(s.put i a).bind λU=>some (dy {st with m:=bT st.m e (cV U)} dst (.v .undef)):=by
 rw[yG,B];simp[hd,MN,D];rw[NW st.g st.pin st.want st.more st.yid e i n x a G J s]
 grind
def W_{n:Nat}{z:α}{zero:T2}{i:Int}(B:ck S.N st.g az=some [.v (.int .i64 i),.v (.int .i64 i)])(D:zero=cells z)(G:n=bG.size α)(J:st.new d=true):
 gA S c dr fr ⟨some d,none,now,.a (.makeSl n zero),az,[],[]⟩ st=(xU i z).bind λs=>some {st with g:=bT st.g d (.own d),m:=bT st.m d (cV s)}:=by
 rw[Ea,B];simp[J];rw[Ys z i d n zero D G]
 grind
def Yz{n e u:Nat}{s:Sl α}{x:α}(G:ck S.N st.g az=some [.own e,.own u])(hd:(!dr||now)=true)(J:bp st.m e=some (cV s))(a:bp st.m u=some (cV (.row [x])))(B:n=bG.size α)(U:St.new {st with m:=ey e st.m} d=true):
 gA S c dr fr ⟨some d,none,now,.l (.append n),az,[],[]⟩ st=(eU s x).bind λD=>some {st with g:=bT st.g d (.own d),m:=bT (ey e st.m) d (cV D)}:=by
 rw[yG,G];simp[hd,Be,Gd,J,a];rw[Cp n s B,Cp n (.row [x]) B];have:=OJ (m:=st.m) st.g st.pin st.want st.more st.yid d n e s.l x B;simp[Sl.TL];rw[this];have w:eU (.row s.l) x=eU s x:=by cases s<;>rfl
 rw[w]
 cases eU s x with
 |none=>rfl|some D=>simp;rw[if_pos U];rfl
def Xy{n u:Nat}{x:α}{v:V}(a:v=.bR\/v=.dP)(G:ck S.N st.g az=some [.v v,.own u])(hd:(!dr||now)=true)(b:bp st.m u=some (cV (.row [x])))(B:n=bG.size α)(D:st.new d=true):
 gA S c dr fr ⟨some d,none,now,.l (.append n),az,[],[]⟩ st=some {st with g:=bT st.g d (.own d),m:=bT st.m d (cV (.row [x]))}:=by
 rw[yG,G];simp[hd,Be,Gd,b];rw[Cp n (.row [x]) B];simp[Sl.TL];rcases a with rfl|rfl
 .rw[UP,OB (m:=st.m) st.g st.pin st.want st.more st.yid d n x B];rw[if_pos D];rfl
 rw[UH,Pu (m:=st.m) st.g st.pin st.want st.more st.yid d n x B];rw[if_pos D];rfl
def X8{f:Y'}{svs args:So}{cs:T2}{m:a_ δ}{E:δ->T2}(a:gN c f cs=m.bind λr=>some (E r))(b:S.E.keep f=false)(D:ck S.N st.g az=some svs)(G:mz svs=some (f,args))
 (B:pe (jQ st.m 8) args=some cs)(J:((!dr||now)||f_ st.m fr args)=true)(d:∀r,((result (E r)).scalar||(dI args).isSome)=true):
 gA S c dr fr ⟨dst,none,now,.c,az,[],[]⟩ st=m.bind λr=>some (dy st dst (.v (result (E r)))):=by
 rw[wM dr fr dst now az st svs f args D G,Uf _ _ _ _ _ _ _ b,(zp st.m 8).2,B];simp[J,a]
 cases m with
 |none=>rfl|some r=>
  simp[Ph]
  grind
end
end
section
variable{S:Sys}{c:cm}{β γ:Type}{Q:Out×St->a_ β}{L:a_ β}{e:γ->a_ β}
def qw(a:RC)(st:St):lK S c Q a [] st=(cR S c a st).bind Q:=by unfold lK;rw[EN];congr 1;funext q;have⟨o,st⟩:=q;cases o<;>rfl
def Ce(a:RC)(st:St):cR S c a st=lK S c some a [] st:=by rw[qw];cases cR S c a st<;>rfl
def oJ(rs:aZ RV):Out×St->a_ T2
 |(.exit _,_)=>none|(_,st)=>(lI st rs).bind (pe (jQ st.m 8))
def Vt(rs:aZ RV):Jz rs=oJ rs:=by funext q;have⟨o,st⟩:=q;cases o;simp only[Jz,oJ];congr 1;funext l;exact(zp st.m 8).2 l;rfl;simp only[Jz,oJ];congr 1;funext l;exact(zp st.m 8).2 l
def UU{S:Sys}{T:rD}{f:Y'}{rf:RF}(B:T f=some rf)(az:T2)(D:az.length<=rf.na):gN (dh S T) f az=lK S (dh S T) (oJ rf.rs) rf.body [] (start (az.map .v) []):=by rw[SH B az D,<-JN,qw,Vt]
end
def lJ{α σ ε ρ:Type}(step:α->σ->a_ (Fw σ ε ρ)):aZ α->σ->a_ (Fw σ ε ρ)
 |[],s=>some (.n s)|x::xs,s=>(step x s).bind λw=>match w with
  |.n B=>lJ step xs B|.x e=>some (.x e)|.r b=>some (.r b)
def Fw.rQ{ν ε ρ γ:Type}(fn:ν->γ)(B:ε->γ)(fr:ρ->γ):Fw ν ε ρ->γ
 |.n a=>fn a|.x e=>B e|.r b=>fr b
def Fw.xu{ν ε ρ:Type}(B:ν->Tb bP)(eε:ε->Nat×Tb bP)(eρ:ρ->Tb bP):Fw ν ε ρ->Out×Tb bP
 |.n a=>(.norm,B a)|.x e=>(.exit (eε e).1,(eε e).2)|.r b=>(.ret,eρ b)
def xu(q:Out×St):a_ (Out×Tb bP):=some (q.1,q.2.m)
section
variable{S:Sys}{c:cm}{β γ:Type}{Q:Out×St->a_ β}{L:a_ β}{e:γ->a_ β}
noncomputable def Ax(S:Sys)(c:cm)(b:RC):Out×St->a_ (Out×Tb bP)
 |(.norm,st)=>lK S c xu b [] st|_=>none
def NG(ps:S')(a b:RC)(st:St)(x:T2)(m:Tb bP)(B:x.length=ps.length):
 jL ps (cR S c a) (cR S c b) st x m=lK S c (Ax S c b) a [] ⟨yH st.g ps (x.map .v),m,st.pin++qZ st.g,[],true,0⟩:=by
 unfold jL;rw[if_pos B,qw]
 cases cR S c a ⟨yH st.g ps (x.map .v),m,st.pin++qZ st.g,[],true,0⟩with
 |none=>rfl|some q=>
  have⟨o,u⟩:=q
  cases o with
  |norm=>simp only[ζb,Ax];rw[qw];cases cR S c b u<;>rfl|_=>rfl
end
def Le{α:Type}(a b:a_ α):Prop:=∀r,a=some r->b=some r
section
variable{α:Type}
def Le.refl(a:a_ α):Le a a:=λ_ h=>h
def Le.of_eq{a b:a_ α}(h:b=a):Le a b:=λ_ u=>h.trans u
def Le.trans{a b d:a_ α}(c:Le a b)(B:Le b d):Le a d:=λr h=>B r (c r h)
def Le.none(b:a_ α):Le (none:a_ α) b:=λr h=>by cases h
def Le.bind{β:Type}{a b:a_ α}{f g:α->a_ β}(h:Le a b)(B:∀x,Le (f x) (g x)):Le (a.bind f) (b.bind g):=λr c=>by have⟨x,d,u⟩:=ζg.1 c;rw[h x d];exact B x r u
end
section
variable{S:Sys}{c:cm}{β γ δ:Type}{Q:Out×St->a_ β}{L:a_ β}{e:γ->a_ β}
def IA{dr:X'}{fr:S'}{dst:a_ Nat}{now:X'}{az:QP}{st:St}{f:Y'}{svs args:So}{cs:T2}{m:a_ δ}{E:δ->T2}(a:Le (m.bind λr=>some (E r)) (gN c f cs))(b:S.E.keep f=false)(D:ck S.N st.g az=some svs)(G:mz svs=some (f,args))
 (B:pe (jQ st.m 8) args=some cs)(J:((!dr||now)||f_ st.m fr args)=true)(d:∀r,((result (E r)).scalar||(dI args).isSome)=true):
 Le (m.bind λr=>some (dy st dst (.v (result (E r))))) (gA S c dr fr ⟨dst,none,now,.c,az,[],[]⟩ st):=by
 intro q w;have⟨r,e,z⟩:=ζg.1 w;have u:gN c f cs=(some r).bind λr=>some (E r):=a _ (by rw[e];rfl)
 rw[X8 (m:=some r) u b D G B J d];exact z
def R2{σ ε ρ:Type}{f:St->a_ (Out×St)}{step:σ->a_ (Fw σ ε ρ)}{eσ:σ->St}{eε:ε->Nat×St}{eρ:ρ->St}(h:∀s,Le ((step s).bind λw=>some (Fw.out eσ eε eρ w)) (f (eσ s)))(s:σ):
 Le ((bQ step s).bind λw=>some (Fw.out (λe=>Empty.elim e) eε eρ w)) (p8 f (eσ s)):=by
 have key:∀k s r,kG step k s=some r->kn f k (eσ s)=some (Fw.out (λe=>Empty.elim e) eε eρ r):=by intro k;induction k with|zero=>intro s r h;simp[kG]at h|succ k C=>intro s r u;simp only[kG]at u;cases z:step s with|none=>rw[z]at u;cases u|some w=>rw[z]at u;have B:=h s (Fw.out eσ eε eρ w) (by rw[z];rfl);simp only[kn,B];cases w with|n a=>exact C a r u|x e=>cases u;rfl|r b=>cases u;rfl
 intro r c;have⟨w,d,B⟩:=ζg.1 c;have⟨k,g⟩:=pL.1 d;cases B;exact oa.2 ⟨k,key k s w g⟩
def YQ{σ ε ρ:Type}{a:RC}{fs:R0}{step:σ->a_ (Fw σ ε ρ)}{eσ:σ->St}{eε:ε->Nat×St}{eρ:ρ->St}{s:σ}{B:ε->a_ γ}{fr:ρ->a_ γ}
 (D:L=lK S c Q (.loop a) fs (eσ s))(h:∀s,Le ((step s).bind λw=>some (Fw.out eσ eε eρ w)) (lK S c some a [] (eσ s)))
 (G:∀x,Le ((B x).bind e) (og S c Q fs (eε x).1 (eε x).2))(d:∀b,Le ((fr b).bind e) (Q (.ret,eρ b))):Le (((bQ step s).bind (Fw.elim B fr)).bind e) L:=by
 subst D;have g:lK S c Q (.loop a) fs (eσ s)=(p8 (cR S c a) (eσ s)).bind (FC (n_ S c Q fs) (og S c Q fs) (λst=>Q (.ret,st))):=by unfold lK;rw[EN];rfl
 rw[g];have u:=R2 (step:=step) (f:=cR S c a) (eσ:=eσ) (eε:=eε) (eρ:=eρ) (λs=>by rw[Ce];exact h s) s
 cases z:bQ step s with
 |none=>exact Le.none _|some w=>
  have C:=u _ (by rw[z];rfl)
  rw[C]
  cases w with
  |n a=>cases a|x a=>exact G a|r a=>exact d a
def I_{α σ ε ρ:Type}{f:T2->Tb bP->a_ (Out×Tb bP)}{step:α->σ->a_ (Fw σ ε ρ)}{eI:α->T2}{eσ:σ->Tb bP}{eε:ε->Nat×Tb bP}{eρ:ρ->Tb bP}
 (h:∀x s,Le ((step x s).bind λw=>some (Fw.xu eσ eε eρ w)) (f (eI x) (eσ s))):∀(xs:aZ α)(s:σ),Le ((lJ step xs s).bind λw=>some (Fw.xu eσ eε eρ w)) (rR f (xs.map eI) (eσ s))
 |[],s=>λr a=>a|x::xs,s=>by simp only[map_cons,rR,lJ];cases B:step x s with|none=>exact Le.none _|some w=>have D:=h x s (Fw.xu eσ eε eρ w) (by rw[B];rfl);rw[D];cases w with|n u=>simp only[ζb,Fw.xu];exact I_ h xs u|x e=>exact Le.refl _|r b=>exact Le.refl _
def Y8{α σ ε ρ:Type}{g:Arg}{ps:S'}{a b:RC}{fs:R0}{f:Y'}{x y:T2}{d:aZ α}{eI:α->T2}{step:α->σ->a_ (Fw σ ε ρ)}{eσ:σ->Tb bP}{eε:ε->Nat×Tb bP}{eρ:ρ->Tb bP}{i:Tb SV}{s:σ}
 {fn:σ->a_ γ}{B:ε->a_ γ}{fr:ρ->a_ γ}
 (D:L=lK S c Q (.each g ps a b) fs ⟨i,eσ s,[],[],true,0⟩)(j:si S.N i g=some (.v (.clo f x y)))(k:S.items f x y=some (d.map eI))(G:∀x,(eI x).length=ps.length)
 (h:∀x s,Le ((step x s).bind λw=>some (Fw.xu eσ eε eρ w)) (lK S c (Ax S c b) a [] ⟨yH i ps ((eI x).map .v),eσ s,qZ i,[],true,0⟩))
 (J:∀s,Le ((fn s).bind e) (n_ S c Q fs ⟨i,eσ s,[],[],true,0⟩))
 (U:∀x,Le ((B x).bind e) (og S c Q fs (eε x).1 ⟨i,(eε x).2,[],[],true,0⟩))(l:∀b,Le ((fr b).bind e) (Q (.ret,⟨i,eρ b,[],[],true,0⟩))):
 Le (((lJ step d s).bind (Fw.rQ fn B fr)).bind e) L:=by
 subst D;have m:lK S c Q (.each g ps a b) fs ⟨i,eσ s,[],[],true,0⟩=(cR S c (.each g ps a b) ⟨i,eσ s,[],[],true,0⟩).bind (FC (n_ S c Q fs) (og S c Q fs) (λst=>Q (.ret,st))):=by unfold lK;rw[EN]
 rw[m];simp only[cR,j,k];have u:=I_ (step:=step) (f:=jL ps (cR S c a) (cR S c b) ⟨i,eσ s,[],[],true,0⟩) (eI:=eI) (eσ:=eσ) (eε:=eε) (eρ:=eρ) (λx s=>by rw[NG _ _ _ _ _ _ (G x)];exact h x s) d s
 cases z:lJ step d s with
 |none=>exact Le.none _|some w=>
  have C:=u _ (by rw[z];rfl)
  rw[C]
  cases w with
  |n a=>exact J a|x a=>exact U a|r a=>exact l a
end
inductive Fo where
 |rc(c:RC)|ops(dr:Bool)(fr:List Nat)(l:List RO)|nx|ex(k:Nat)|rt
abbrev bK(g:Tb SV)(m:Tb bP):St:=⟨g,m,[],[],true,0⟩
section
variable(S:Sys)(c:cm){β:Type}(Q:Out×St->a_ β)
noncomputable def rn:Fo->R0->St->a_ β
 |.rc a,fs,st=>lK S c Q a fs st|.ops dr fr l,fs,st=>wo S c dr fr l (n_ S c Q fs) st|.nx,fs,st=>n_ S c Q fs st|.ex k,fs,st=>og S c Q fs k st|.rt,_,st=>Q (.ret,st)
noncomputable def z6:Fo->R0->St->a_ (Fo×R0×St)
 |.rc .skip,fs,st=>some (.nx,fs,st)|.rc (.ops l),fs,st=>some (.ops false [] l,fs,st)|.rc (.qB l),fs,st=>some (.ops true [] l,fs,st)|.rc (.seq a b),fs,st=>some (.rc a,.seq b::fs,st)|.rc (.cond y a b),fs,st=>match si S.N st.g y with
  |some (.v (.bool true))=>some (.rc a,fs,st)|some (.v (.bool false))=>some (.rc b,fs,st)|_=>none
 |.rc (.block id a),fs,st=>some (.rc a,.blk id::fs,st)|.rc (.exit k),fs,st=>some (.ex k,fs,st)|.rc .ret,fs,st=>some (.rt,fs,st)|.rc (.gh g a),fs,st=>match ghost g st with
  |some st'=>some (.rc a,fs,st')|none=>none
 |.rc (.hg a g),fs,st=>some (.rc a,.gst g::fs,st)|.rc (.loop _),_,_=>none|.rc (.each ..),_,_=>none|.ops _ _ [],fs,st=>some (.nx,fs,st)|.ops dr fr (⟨d,gd,now,k,az,dd,[]⟩::r),fs,st=>match gA S c dr fr ⟨d,gd,now,k,az,[],[]⟩ st with
  |some st'=>some (.ops dr (if dr then sC fr ⟨d,gd,now,k,az,[],[]⟩else fr) r,fs,qG dd st')|none=>none
 |.ops dr fr (⟨d,gd,now,k,az,dd,x::xs⟩::r),fs,st=>if dr&& !(BG x&&xs.all BG)then none else match ghost x st with
  |some st'=>some (.ops dr fr (⟨d,gd,now,k,az,dd,xs⟩::r),fs,st')|none=>none
 |.nx,.seq b::fs,st=>some (.rc b,fs,st)|.nx,.blk _::fs,st=>some (.nx,fs,st)|.nx,.gst g::fs,st=>match ghost g st with
  |some st'=>some (.nx,fs,st')|none=>none
 |.nx,[],_=>none|.ex k,.seq _::fs,st=>some (.ex k,fs,st)|.ex k,.blk id::fs,st=>some (if k=id then .nx else .ex k,fs,st)|.ex k,.gst _::fs,st=>some (.ex k,fs,st)|.ex _,[],_=>none|.rt,_,_=>none
noncomputable def iZ:Nat->Fo->R0->St->a_ (Fo×R0×St)
 |0,fo,fs,st=>some (fo,fs,st)|n+1,fo,fs,st=>match z6 S c fo fs st with
  |some (fo',fs',st')=>iZ n fo' fs' st'|none=>none
end
section
variable{S:Sys}{c:cm}{β γ δ:Type}{Q:Out×St->a_ β}{e:γ->a_ β}
def Q2{fo fo':Fo}{fs fs':R0}{st st':St}(h:z6 S c fo fs st=some (fo',fs',st')):rn S c Q fo fs st=rn S c Q fo' fs' st':=by
 cases fo with
 |rc a=>cases a with|cond y a b=>simp only[z6]at h;split at h;(next u=>cases h;simp only[rn,lK,qF,u,bl,if_true]);(next u=>cases h;simp only[rn,lK,qF,u,bl];rfl);cases h|gh g a=>simp only[z6]at h;split at h;(next u=>cases h;simp only[rn,lK,qF,u,ζb]);cases h|loop a=>cases h|each g w a b=>cases h|seq a b=>cases h;simp only[rn,lK,qF,n_,og]|block id a=>cases h;simp only[rn,lK,qF,n_,og]|hg a g=>cases h;simp only[rn,lK,qF,n_,og]|_=>cases h;simp only[rn,lK,qF]
 |ops dr fr l=>cases l with|nil=>cases h;simp only[rn,wo]|cons o r=>have⟨d,gd,now,k,az,dd,pre⟩:=o;cases pre with|nil=>simp only[z6]at h;split at h;(next u=>cases h;simp only[rn,wo,DH,RO.strip,ζb,u]);cases h|cons x z=>simp only[z6]at h;split at h;cases h;rename_i hd;split at h;rename_i u;cases h;(cases dr with|true=>simp only[Bool.true_and,Bool.not_eq_true',Bool.not_eq_false,ζh]at hd;simp only[rn,wo,RO.strip,DO,qg,if_true,List.all_cons,hd.1,hd.2,Bool.and_self,u,ζb]|false=>simp only[rn,wo,RO.strip,DO,qg,Bool.false_eq_true,if_false,u,ζb]);cases h
 |nx=>cases fs with|nil=>cases h|cons f fs=>cases f with|seq b=>cases h;simp only[rn,lK,n_]|blk id=>cases h;simp only[rn,n_]|gst g=>simp only[z6]at h;split at h;(next u=>cases h;simp only[rn,n_,u,ζb]);cases h
 |ex k=>cases fs with|nil=>cases h|cons f fs=>cases f with|seq b=>cases h;simp only[rn,og]|blk id=>cases h;simp only[rn,og];by_cases e:k=id;simp only[if_pos e,rn];simp only[if_neg e,rn]|gst g=>cases h;simp only[rn,og]
 |rt=>cases h
def qc:∀{n:Nat}{fo fo':Fo}{fs fs':R0}{st st':St},iZ S c n fo fs st=some (fo',fs',st')->rn S c Q fo fs st=rn S c Q fo' fs' st'
 |0,fo,fo',fs,fs',st,st',h=>by cases h;rfl|n+1,fo,fo',fs,fs',st,st',h=>by simp only[iZ]at h;split at h;(next a b d B=>rw[Q2 B];exact qc h);cases h
def BL{n:Nat}{fo fo':Fo}{fs fs':R0}{st st':St}{m:a_ β}(h:iZ S c n fo fs st=some (fo',fs',st'))(B:Le m (rn S c Q fo' fs' st')):Le m (rn S c Q fo fs st):=by rw[qc h];exact B
def ZO{n:Nat}{fo fo':Fo}{fs fs':R0}{st st':St}{r:γ}(h:iZ S c n fo fs st=some (fo',fs',st'))(B:rn S c Q fo' fs' st'=e r):Le ((some r).bind e) (rn S c Q fo fs st):=by rw[qc h];exact Le.of_eq B
def Tp{m:a_ δ}{f:δ->a_ γ}{L:a_ β}(k:δ->a_ β)(B:Le (m.bind k) L)(b:∀r,Le ((f r).bind e) (k r)):Le ((m.bind f).bind e) L:=by intro r a;cases m with|none=>cases a|some x=>exact B r (b x r a)
def ZR{n:Nat}{fo:Fo}{fs fs':R0}{st0:St}{dr:X'}{q l:ST}{fr:S'}{st:St}{d:a_ Nat}{gd:a_ (Nat×X')}{now:X'}{k:K}{az:QP}{dd:S'}{m:a_ δ}{g:δ->St}{f:δ->a_ γ}
 (B:iZ S c n fo fs st0=some (.ops dr fr q,fs',st))(D:q=⟨d,gd,now,k,az,dd,[]⟩::l)(a:wanted st.g gd=some true)
 (G:Le (m.bind λx=>some (g x)) (gA S c dr fr ⟨d,none,now,k,az,[],[]⟩ st))
 (h:∀x,m=some x->Le ((f x).bind e) (rn S c Q (.ops dr (if dr then sC fr ⟨d,gd,now,k,az,[],[]⟩else fr) l) fs' (qG dd (g x)))):Le ((m.bind f).bind e) (rn S c Q fo fs st0):=by
 rw[qc B];subst D;simp only[rn,wo,RO.strip,DH,ζb];rw[P9 a]
 cases m with
 |none=>exact Le.none _|some x=>rw[G (g x) rfl];exact h x rfl
def Uc{n:Nat}{fo:Fo}{fs fs':R0}{st0:St}{dr:X'}{q l:ST}{fr:S'}{st st':St}{d:a_ Nat}{gd:a_ (Nat×X')}{now:X'}{k:K}{az:QP}{dd:S'}{m:a_ β}
 (B:iZ S c n fo fs st0=some (.ops dr fr q,fs',st))(D:q=⟨d,gd,now,k,az,dd,[]⟩::l)(a:wanted st.g gd=some true)
 (G:gA S c dr fr ⟨d,none,now,k,az,[],[]⟩ st=some st')
 (h:Le m (rn S c Q (.ops dr (if dr then sC fr ⟨d,gd,now,k,az,[],[]⟩else fr) l) fs' (qG dd st'))):Le m (rn S c Q fo fs st0):=by
 rw[qc B];subst D;simp only[rn,wo,RO.strip,DH,ζb];rw[P9 a,G];exact h
def PX{n:Nat}{fo:Fo}{B:R0}{st:St}{σ ε ρ:Type}{a:RC}{fs:R0}{step:σ->a_ (Fw σ ε ρ)}{eσ:σ->St}{eε:ε->Nat×St}{eρ:ρ->St}{s:σ}{D:ε->a_ γ}{fr:ρ->a_ γ}
 (G:iZ S c n fo B st=some (.rc (.loop a),fs,eσ s))(h:∀s,Le ((step s).bind λw=>some (Fw.out eσ eε eρ w)) (rn S c some (.rc a) [] (eσ s)))
 (J:∀x,Le ((D x).bind e) (rn S c Q (.ex (eε x).1) fs (eε x).2))(d:∀b,Le ((fr b).bind e) (Q (.ret,eρ b))):Le (((bQ step s).bind (Fw.elim D fr)).bind e) (rn S c Q fo B st):=by
 rw[qc G];exact YQ (L:=rn S c Q (.rc (.loop a)) fs (eσ s)) rfl h J d
def XD{n:Nat}{fo:Fo}{B:R0}{st:St}{α σ ε ρ:Type}{g:Arg}{ps:S'}{a b:RC}{fs:R0}{f:Y'}{x y:T2}{d:aZ α}{eI:α->T2}{step:α->σ->a_ (Fw σ ε ρ)}{eσ:σ->Tb bP}{eε:ε->Nat×Tb bP}{eρ:ρ->Tb bP}{i:Tb SV}{s:σ}
 {fn:σ->a_ γ}{D:ε->a_ γ}{fr:ρ->a_ γ}
 (G:iZ S c n fo B st=some (.rc (.each g ps a b),fs,bK i (eσ s)))(j:si S.N i g=some (.v (.clo f x y)))(k:S.items f x y=some (d.map eI))(J:∀x,(eI x).length=ps.length)
 (h:∀x s,Le ((step x s).bind λw=>some (Fw.xu eσ eε eρ w)) (rn S c (Ax S c b) (.rc a) [] ⟨yH i ps ((eI x).map .v),eσ s,qZ i,[],true,0⟩))
 (U:∀s,Le ((fn s).bind e) (rn S c Q .nx fs (bK i (eσ s))))
 (W:∀x,Le ((D x).bind e) (rn S c Q (.ex (eε x).1) fs (bK i (eε x).2)))(l:∀b,Le ((fr b).bind e) (Q (.ret,bK i (eρ b)))):
 Le (((lJ step d s).bind (Fw.rQ fn D fr)).bind e) (rn S c Q fo B st):=by
 rw[qc G];exact Y8 (L:=rn S c Q (.rc (.each g ps a b)) fs (bK i (eσ s))) rfl j k J h U W l
def XJ{b:RC}{st st':St}{m:a_ (Out×Tb bP)}{fs:R0}{n:Nat}{fo:Fo}(h:iZ S c n fo fs st=some (.nx,[],st'))(B:Le m (rn S c xu (.rc b) [] st')):Le m (rn S c (Ax S c b) fo fs st):=by rw[qc h];exact B
def YL{α:Type}{n:Nat}{fo fo':Fo}{fs fs':R0}{st:St}{A:a_ α->St}{o:a_ α}{f:α->a_ γ}(h:iZ S c n fo fs st=some (fo',fs',A o))
 (B:∀x,o=some x->Le ((f x).bind e) (rn S c Q fo' fs' (A (some x)))):Le ((o.bind f).bind e) (rn S c Q fo fs st):=by
 rw[qc h]
 cases o with
 |none=>exact Le.none _|some x=>exact B x rfl
def ZU{T:rD}{f:Y'}{rf:RF}{az:T2}{m:a_ T2}(B:T f=some rf)(D:az.length<=rf.na)(h:Le m (rn S (dh S T) (oJ rf.rs) (.rc rf.body) [] (start (az.map .v) []))):Le m (gN (dh S T) f az):=by rw[UU B az D];exact h
end
section
variable{α:Type}[bG α]
abbrev cv(x:α):SV:=.v (enc x)
abbrev cp(x:α):SV:=.v (.fptr (cells x))
abbrev bx(x:α):bP:=.box ((cells x).map .v)
end
structure eD(S:Sys)(c:cm){α δ:Type}(fn:FuncId)(A:α->List V)(E:δ->List V)(p:α->Option δ)(sc:Bool):Prop where
 k:S.E.keep fn=false
 h:∀z,Le ((p z).bind λr=>some (E r)) (gN c fn (A z))
 s:sc=true->∀r,(result (E r)).scalar=true
section
variable{S:Sys}{c:cm}{β γ δ α:Type}{Q:Out×St->a_ β}{e:γ->a_ β}{fo:Fo}{fs:R0}{st0:St}{l:ST}{d:a_ Nat}{gd:a_ (Nat×X')}{now:X'}{az:QP}{dd:S'}
noncomputable abbrev uC(S:Sys)(c:cm)(Q:Out×St->a_ β)(dr:X')(fr:S')(d:a_ Nat)(k:K)(l:ST)(fs:R0)(dd:S')(st:St):a_ β:=rn S c Q (.ops dr (if dr then(match k with|.p _|.r _=>fr|_=>match d with|some d=>d::fr|none=>fr)else fr) l) fs (qG dd st)
def GK(fr:S')(k:K):sC fr ⟨d,gd,now,k,az,[],[]⟩=(match k with|.p _|.r _=>fr|_=>match d with|some d=>d::fr|none=>fr):=by cases k<;>cases d<;>rfl
def FV{n:Nat}{dr:X'}{fr:S'}{q:ST}{fs':R0}{st:St}{k:K}{m:a_ δ}{g:δ->St}{f:δ->a_ γ}
 (B:iZ S c n fo fs st0=some (.ops dr fr q,fs',st))(D:q=⟨d,gd,now,k,az,dd,[]⟩::l)(a:wanted st.g gd=some true)
 (G:Le (m.bind λx=>some (g x)) (gA S c dr fr ⟨d,none,now,k,az,[],[]⟩ st))
 (h:∀x,m=some x->Le ((f x).bind e) (uC S c Q dr fr d k l fs' dd (g x))):Le ((m.bind f).bind e) (rn S c Q fo fs st0):=
 ZR B D a G (λx u=>by rw[GK];grind)
def sM{n:Nat}{dr:X'}{fr:S'}{q:ST}{fs':R0}{st st':St}{k:K}{m:a_ β}
 (B:iZ S c n fo fs st0=some (.ops dr fr q,fs',st))(D:q=⟨d,gd,now,k,az,dd,[]⟩::l)(a:wanted st.g gd=some true)
 (G:gA S c dr fr ⟨d,none,now,k,az,[],[]⟩ st=some st')(h:Le m (uC S c Q dr fr d k l fs' dd st')):Le m (rn S c Q fo fs st0):=
 Uc B D a G (by rw[GK];omega)
section
variable[bG α]
def RK(n:Nat)(dr:X')(fr:S')(q:ST)(fs':R0)(st:St)(k:IntKind){sz:Nat}{s:Sl α}{i:Int}{f:α->a_ γ}(D:q=⟨d,gd,now,.p (.idxS sz),az,dd,[]⟩::l)
 (B:(iZ S c n fo fs st0,wanted st.g gd,ck S.N st.g az,sz)=(some (.ops dr fr q,fs',st),some true,some [.v (cg s),.v (.int k i)],bG.size α))
 (h:∀x,idx s i=some x->Le ((f x).bind e) (uC S c Q dr fr d (.p (.idxS sz)) l fs' dd (dy st d (cp x)))):Le (((idx s i).bind f).bind e) (rn S c Q fo fs st0):=by
 simp at B;exact FV B.1 D B.2.1 (Le.of_eq (Tt B.2.2.1 B.2.2.2)) h
def WL(n:Nat)(dr:X')(fr:S')(q:ST)(fs':R0)(st:St)(s:Sl α){m:a_ β}(D:q=⟨d,gd,now,.p .lenSl,az,dd,[]⟩::l)
 (B:(iZ S c n fo fs st0,wanted st.g gd,ck S.N st.g az)=(some (.ops dr fr q,fs',st),some true,some [.v (cg s)]))
 (h:Le m (uC S c Q dr fr d (.p .lenSl) l fs' dd (dy st d (.v (.int .i64 s.l.length))))):Le m (rn S c Q fo fs st0):=by
 simp at B;exact sM B.1 D B.2.1 (TJ B.2.2) h
end
section
variable{q:ST}{fs':R0}
end
def IN(m:Tb bP)(n:Nat)(l:T2):pe (jQ m n) (l.map .v)=some l:=by rw[<-(zp m n).2,vK]
variable{A:α->T2}{E:δ->T2}{p:α->a_ δ}{fn:Y'}{sc:X'}
end
abbrev iv(n:Int):SV:=.v (.int .i64 n)
abbrev bv(b:Bool):SV:=.v (.bool b)
abbrev len{α:Type}(s:Sl α):Int:=((List.length (Sl.l s):Nat):Int)
abbrev o1(d:Nat)(a:Arg)(dd:aZ Nat):RO:=⟨some d,none,false,.p .id,[a],dd,[]⟩
abbrev o2(d:Nat)(k:K)(az:aZ Arg)(dd:aZ Nat):RO:=⟨some d,none,false,k,az,dd,[]⟩
abbrev o3(d s:Nat)(b:Bool)(k:K)(az:aZ Arg)(dd:aZ Nat):RO:=⟨some d,some (s,b),false,k,az,dd,[]⟩
def Mc(a b:bf):X':=[a.proc,a.index]==[b.proc,b.index]
section
variable{α:Type}[bG α]
def vO(h:bG.agg α=false)(a:α):cells a=[enc a]:=by
 have u:(cells a).length=1:=by rw[show(cells a).length=_ from bG.len a,bG.plain h]
 unfold enc;rw[if_neg (by simp[h])];match b:cells a,u with|[x],_=>rfl
def B7(h:bG.agg α=true)(a:α):enc a=.agg (cells a):=by unfold enc;grind
def kP(a:α):V.good (enc a)=true:=by have h:V.cK (cells a)=true:=bG.good a;cases u:bG.agg α with|true=>rw[B7 u];exact h|false=>rw[vO u]at h;simp[V.cK]at h;omega
def pQ(s:Sl α):V.one (enc s)=true:=Gx s
def QT(s:α)(h:bG.agg α=false):V.one (enc s)=true:=by have:=bG.one s;rw[show bG.cells s=cells s from rfl,vO h]at this;grind
end
instance{α:Type}[bG α]:bG (a_ α)where
 cells o:=[match o with|none=>.jc|some x=>.fptr (cells x)]
 agg:=false
 size:=1
 len _:=rfl
 good o:=by cases o with|none=>rfl|some x=>simp only[V.cK,V.good,Bool.and_true];exact bG.good x
 one o:=by cases o<;>rfl
 plain _:=rfl
structure U8 where
 v:Int
 deriving Inhabited,DecidableEq
instance:bG U8 where
 cells n:=[.int .u8 n.v]
 agg:=false
 size:=1
 len _:=rfl
 good _:=rfl
 one _:=rfl
 plain _:=rfl
structure U64 where
 v:Int
 deriving Inhabited,DecidableEq
instance:bG U64 where
 cells n:=[.int .u64 n.v]
 agg:=false
 size:=1
 len _:=rfl
 good _:=rfl
 one _:=rfl
 plain _:=rfl
structure U32 where
 v:Int
 deriving Inhabited,DecidableEq
instance:bG U32 where
 cells n:=[.int .u32 n.v]
 agg:=false
 size:=1
 len _:=rfl
 good _:=rfl
 one _:=rfl
 plain _:=rfl
structure I32 where
 v:Int
 deriving Inhabited,DecidableEq
instance:bG I32 where
 cells n:=[.int .i32 n.v]
 agg:=false
 size:=1
 len _:=rfl
 good _:=rfl
 one _:=rfl
 plain _:=rfl
structure nq(S:Sys)(c:cm){α δ:Type}(g:FuncId)(w e:List V)(A:α->List V)(R:δ->List V)(p:α->Option δ)(b:Bool):Prop where
 f:eD S c g (λz=>w++A z++e) R p b
section
variable{S:Sys}{c:cm}{β γ δ α:Type}{Q:Out×St->a_ β}{e:γ->a_ β}{fo:Fo}{fs:R0}{st0:St}{l:ST}{d:a_ Nat}{gd:a_ (Nat×X')}{now:X'}{az:QP}{dd:S'}
def oe{α:Type}[bG α](a:α):V.cells (enc a)=cells a:=by cases u:bG.agg α with|true=>rw[B7 u];rfl|false=>have b:=QT a u;rw[vO u];cases h:enc a<;>first|rfl|(rw[h]at b;cases b)
def rI{α:Type}[bG α](a:α):(cells a).all V.one=true:=bG.one a
def gR{α:Type}[bG α](a:α):(cells a).length=bG.size α:=bG.len a
def Ast[bG α](n:Nat)(dr:X')(fr:S')(q:ST)(fs':R0)(st:St)(u o:Nat)(x:α)(cs B:So){sz:Nat}{m:a_ β}(G:q=⟨d,gd,now,.l (.store sz),az,dd,[]⟩::l)
 (D:(iZ S c n fo fs st0,wanted st.g gd,ck S.N st.g az,bp st.m u,(!dr||now),sz,ble (o+sz) cs.length,cs.take o++(cells x).map .v++cs.drop (o+sz))=(some (.ops dr fr q,fs',st),some true,some [.ptr u o,cv x],some (.box cs),true,bG.size α,true,B))
 (h:Le m (uC S c Q dr fr d (.l (.store sz)) l fs' dd (dy {st with m:=bT st.m u (.box B)} d (.v .undef)))):Le m (rn S c Q fo fs st0):=by
 simp only[ζc]at D;have⟨a,w,z,C,I,J,L,O⟩:=D;refine sM a G w ?_ h;rw[yG,z];subst J;have T:=Nat.le_of_ble_eq_true L;simp only[ζb,I,if_true,ow,C,putCells,oe,gR,rI,T,and_self,O,map_some]
def BR{α:Type}[bG α]:∀(xs:aZ α)(pre:T')(B:T'),B.length=xs.length->fU (bG.size α) (pre++B) ((range' pre.length xs.length).zip (xs.map enc))=some (pre++rows xs)
 |[],pre,B,h=>by have:=List.eq_nil_of_length_eq_zero h;subst this;rfl|x::xs,pre,s::B,h=>by simp only[length_cons,List.range'_succ,map_cons,List.zip_cons_cons,fU,oe,gR,rI];have:=BR xs (pre++[cells x]) B Zac;simp only[ζi,length_cons,length_nil]at this;have e:(pre++s::B).set pre.length (cells x)=pre++[cells x]++B:=Zab;rw[e,this];simp[rows]
def Z8[bG α](n:Nat)(dr:X')(fr:S')(q:ST)(fs':R0)(st:St)(xs:aZ α){u sz ln:Nat}{zero:T2}{ix:S'}{m:a_ β}(D:q=⟨some u,gd,now,.a (.buildSl sz ln zero ix),az,dd,[]⟩::l)
 (G:st.new u=true)(B:(iZ S c n fo fs st0,wanted st.g gd,ck S.N st.g az,sz,ln,ix)=(some (.ops dr fr q,fs',st),some true,some ((xs.map enc).map .v),bG.size α,xs.length,range' 0 xs.length))
 (h:Le m (uC S c Q dr fr (some u) (.a (.buildSl sz ln zero ix)) l fs' dd {st with g:=bT st.g u (.own u),m:=bT st.m u (cV (.row xs))})):Le m (rn S c Q fo fs st0):=by
 simp only[ζc]at B;have⟨a,w,z,C,I,J⟩:=B;subst C I J;refine sM a D w ?_ h;rw[Ea,z];simp only[ζb,G,qT,mF,List.length_range',length_map];have:=BR xs [] (replicate xs.length zero) Zab
 simp at this;rw[this];rfl
def ZM[bG α](n:Nat)(dr:X')(fr:S')(q:ST)(fs':R0)(st:St)(x:α)(vs:T2){z:T2}{pl:aZ (Nat×Nat)}{m:a_ β}(D:q=⟨d,gd,now,.p (.build z pl),az,dd,[]⟩::l)
 (hp:lX z pl vs=some (cells x))(G:bG.agg α=true)
 (B:(iZ S c n fo fs st0,wanted st.g gd,ck S.N st.g az)=(some (.ops dr fr q,fs',st),some true,some (vs.map .v)))
 (h:Le m (uC S c Q dr fr d (.p (.build z pl)) l fs' dd (dy st d (cv x)))):Le m (rn S c Q fo fs st0):=by
 simp at B;refine sM B.1 D B.2.1 (DM B.2.2 rfl ?_) h;unfold k7;rw[mF];simp only[Rb,hp,map_some];show some (SV.v (.agg (cells x)))=some (.v (enc x));rw[B7 G]
section
variable[bG α]
def ZG(n:Nat)(dr:X')(fr:S')(q:ST)(fs':R0)(st:St)(g i:X')(bs:T2){sz:Nat}{s:Sl α}{a b:QR}{f:Sl α->a_ γ}(D:q=⟨d,gd,now,.p (.slice sz g i),az,dd,[]⟩::l)
 (B:(iZ S c n fo fs st0,wanted st.g gd,ck S.N st.g az,mU g i bs,sz)=(some (.ops dr fr q,fs',st),some true,some (.v (cg s)::bs.map .v),some (a,b),bG.size α))
 (h:∀x,h_ s a b=some x->Le ((f x).bind e) (uC S c Q dr fr d (.p (.slice sz g i)) l fs' dd (dy st d (.v (cg x))))):Le (((h_ s a b).bind f).bind e) (rn S c Q fo fs st0):=by
 simp at B;refine FV B.1 D B.2.1 (Le.of_eq ?_) h;have w:=B.2.2.1;unfold gA nN;simp[wanted,gQ,w];have u:k7 S.N st.m (.slice sz g i) ((cg s::bs).map .v)=(h_ s a b).bind λx=>some (.v (cg x)):=by unfold k7;rw[mF];simp[br,B.2.2.2.1,MD s a b sz B.2.2.2.2];cases h_ s a b<;>rfl
 simp at u⊢;rw[u];cases h_ s a b<;>rfl
def qd(s:Sl α)(a b:QR):a_ (Sl α):=
 match s with
 |.nil|.emp=>none|.row x|.part x=>(dZ x.length a b).map λ(l,h)=>.part ((x.take h).drop l)
def Yl(n:Nat)(fr:S')(q:ST)(fs':R0)(st:St)(d i:X')(u:Nat)(bs:T2){t sz:Nat}{s:Sl α}{a b:QR}{f:Sl α->a_ γ}(G:q=⟨some t,gd,now,.p (.slice sz d i),az,dd,[]⟩::l)
 (D:St.new {st with m:=ey u st.m} t=true)(B:(iZ S c n fo fs st0,wanted st.g gd,ck S.N st.g az,mU d i bs,bp st.m u,sz)=(some (.ops false fr q,fs',st),some true,some (.own u::bs.map .v),some (a,b),some (cV s),bG.size α))
 (h:∀x,qd s a b=some x->Le ((f x).bind e) (uC S c Q false fr (some t) (.p (.slice sz d i)) l fs' dd {st with g:=bT st.g t (.own t),m:=bT (ey u st.m) t (cV x)})):Le (((qd s a b).bind f).bind e) (rn S c Q fo fs st0):=by
 simp at B;refine FV B.1 G B.2.1 (Le.of_eq ?_) h;have⟨_,_,z,w,C,I⟩:=B;subst I;unfold gA nN;simp[wanted,gQ,z,A5,mF,C,w]
 cases s with
 |nil=>simp[qd,cV,Sl.k,cT]|emp=>simp[qd,cV,Sl.k,cT]|row x=>
  simp[cV,Sl.k,Sl.l,cT,qd,iS,w]
  cases dZ x.length a b with
  |none=>rfl|some r=>simp[D,dy,rows,map_drop]
 |part x=>
  simp[cV,Sl.k,Sl.l,cT,qd,iS,w]
  cases dZ x.length a b with
  |none=>rfl|some r=>simp[D,dy,rows,map_drop]
end
end
structure cH(n:Nat)(α:Type)where
 l:List α
 len:l.length=n
def SP{α:Type}[bG α](l:aZ α):(l.map (cells (α:=α))).flatten.length=l.length*bG.size α:=by induction l with|nil=>simp|cons a l u=>simp[u,gR,add_mul,Nat.add_comm]
def OO{α:Type}[bG α](l:aZ α):V.cK (l.map (cells (α:=α))).flatten=true:=by induction l with|nil=>rfl|cons a l u=>have h:∀(x y:T2),V.cK x=true->V.cK y=true->V.cK (x++y)=true:=(by intro x;induction x with|nil=>grind|cons b x w=>intro y c z;simp[V.cK]at c⊢;grind);exact h _ _ (bG.good a) u
instance{n:Nat}{α:Type}[bG α]:bG (cH n α)where
 cells a:=(a.l.map cells).flatten
 agg:=true
 size:=n*bG.size α
 len a:=by rw[SP,a.len]
 good a:=OO a.l
 one a:=by have:∀l:aZ α,(l.map (cells (α:=α))).flatten.all V.one=true:=(by intro l;induction l with|nil=>rfl|cons a l u=>simp only[map_cons,flatten_cons,List.all_append,u,rI,Bool.and_self]);exact this a.l
 plain h:=by cases h
def cH.PY(n:Nat){α:Type}(z:α):cH n α:=⟨replicate n z,Zab⟩
def cH.at{n:Nat}{α:Type}(a:cH n α)(i:Int):a_ α:=if 0<=i then a.l[i.toNat]?else none
def cH.set{n:Nat}{α:Type}(a:cH n α)(i:Int)(x:α):cH n α:=⟨a.l.set i.toNat x,by simp[a.len]⟩
def pa{n:Nat}{α:Type}[bG α](a:cH n α)(i:Int):T2:=(cells a).drop (i.toNat*bG.size α)
def cH.vA{n:Nat}{α:Type}{a:cH n α}{i:Int}{x:α}(h:a.at i=some x):0<=i/\i.toNat<n/\a.l[i.toNat]?=some x:=by
 unfold cH.at at h;split at h;next b=>refine⟨b,?_,h⟩;have:=(ζe.1 h).1;rw[<-a.len];simp_all
 simp_all
def HB{α:Type}[bG α]:∀(l:aZ α)(k:Nat),((l.map (cells (α:=α))).flatten).drop (k*bG.size α)=((l.drop k).map (cells (α:=α))).flatten
 |[],k=>Zab|a::l,0=>Zab|a::l,k+1=>by have h:=gR a;rw[map_cons,flatten_cons,List.drop_succ_cons,<-HB l k,add_mul,one_mul,Nat.add_comm,<-h,List.drop_length_add_append]
def Cs{n:Nat}{α:Type}[bG α]{a:cH n α}{i:Int}{x:α}(h:a.at i=some x):∃r,pa a i=cells x++r:=by have⟨b,B,w⟩:=cH.vA h;have⟨u,z⟩:=ζe.1 w;refine⟨((a.l.drop (i.toNat+1)).map cells).flatten,?_⟩;show((a.l.map (cells)).flatten).drop (i.toNat*bG.size α)=_;rw[HB,List.drop_eq_getElem_cons u,map_cons,flatten_cons,z]
section
variable{S:Sys}{c:cm}{β γ δ α:Type}{Q:Out×St->a_ β}{e:γ->a_ β}{fo:Fo}{fs:R0}{st0:St}{l:ST}{d:a_ Nat}{gd:a_ (Nat×X')}{now:X'}{az:QP}{dd:S'}
section
variable{N:Nat}[bG α]
def Yv(n:Nat)(dr:X')(fr:S')(q:ST)(fs':R0)(st:St)(k:IntKind){ln sz:Nat}{a:cH N α}{i:Int}{f:α->a_ γ}(D:q=⟨d,gd,now,.p (.idxA ln sz),az,dd,[]⟩::l)
 (B:(iZ S c n fo fs st0,wanted st.g gd,ck S.N st.g az,sz,ln)=(some (.ops dr fr q,fs',st),some true,some [cp a,.v (.int k i)],bG.size α,N))
 (h:∀x,a.at i=some x->Le ((f x).bind e) (uC S c Q dr fr d (.p (.idxA ln sz)) l fs' dd (dy st d (.v (.fptr (pa a i)))))):Le (((a.at i).bind f).bind e) (rn S c Q fo fs st0):=by
 simp at B;have⟨g,w,z,C,G⟩:=B;subst C G;refine FV g D w ?_ h;intro r b;have⟨x,I,b⟩:=ζg.1 b;have⟨g1,g2,_⟩:=cH.vA I;rw[DM z rfl ?_]
 .omega
 rw[xN];simp[br,yz];have u:i.toNat*bG.size α<=(cells a).length:=by rw[gR];exact Nat.mul_le_mul_right _ (Nat.le_of_lt g2)
 rw[if_pos ⟨g1,Zaa⟩,if_pos u]
 rfl
def ZS(n:Nat)(dr:X')(fr:S')(q:ST)(fs':R0)(st:St)(a:cH N α)(i:Int)(o:Nat)(x:α)(D:a.at i=some x){k:Nat}{m:a_ β}(G:q=⟨d,gd,now,.p (.fieldAddr k),az,dd,[]⟩::l)
 (B:(iZ S c n fo fs st0,wanted st.g gd,ck S.N st.g az,ble (o+k) (bG.size α))=(some (.ops dr fr q,fs',st),some true,some [.v (.fptr ((pa a i).drop o))],true))
 (h:Le m (uC S c Q dr fr d (.p (.fieldAddr k)) l fs' dd (dy st d (.v (.fptr ((pa a i).drop (o+k))))))):Le m (rn S c Q fo fs st0):=by
 simp only[ζc]at B;have⟨b,u,w,z⟩:=B;refine sM b G u (DM w rfl ?_) h;have C:=Nat.le_of_ble_eq_true z;have⟨r,e⟩:=Cs D;have I:(pa a i).length>=bG.size α:=by rw[e,ζi,gR];omega
 rw[Kl,Kx,if_pos Zac,drop_drop]
 rfl
def Y0(n:Nat)(dr:X')(fr:S')(q:ST)(fs':R0)(st:St)(a:cH N α)(i:Int)(o:Nat)(x:α)(G:a.at i=some x){sz:Nat}{ag:X'}{v:V}(g:(cut (cells x) o sz).bind (mk ag)=some v)(B:V){m:a_ β}(J:q=⟨d,gd,now,.r (.load sz ag),az,dd,[]⟩::l)
 (D:(iZ S c n fo fs st0,wanted st.g gd,ck S.N st.g az,v)=(some (.ops dr fr q,fs',st),some true,some [.v (.fptr ((pa a i).drop o))],B))
 (h:Le m (uC S c Q dr fr d (.r (.load sz ag)) l fs' dd (dy st d (.v B)))):Le m (rn S c Q fo fs st0):=by
 simp at D;obtain⟨e,z,C,rfl⟩:=D;refine sM e J z ?_ h;rw[Ic,C];have b:ga fr [SV.v (.fptr ((pa a i).drop o))]=true:=rfl;simp[b,PB];have⟨r,f⟩:=Cs G;rw[f];have j:cut ((cells x++r).drop o) 0 sz=cut (cells x) o sz:=by cases u:cut (cells x) o sz with|none=>grind|some w=>unfold cut at u⊢;dsimp only at u⊢;split at u;have e1:(List.drop 0 (List.drop o (cells x++r))).take sz=((cells x).drop o).take sz:=(by have I:sz=0\/o<=(cells x).length:=(by grind);grind);grind;grind
 cases u:cut (cells x) o sz with
 |none=>grind|some w=>grind
def XV(n:Nat)(dr:X')(fr:S')(q:ST)(fs':R0)(st:St)(cs:So){u sz:Nat}{zero:T2}{m:a_ β}(D:q=⟨some u,gd,now,.a (.alloc sz zero),az,dd,[]⟩::l)
 (G:st.new u=true)(B:(iZ S c n fo fs st0,wanted st.g gd,ck S.N st.g az,zero.map SV.v)=(some (.ops dr fr q,fs',st),some true,some [],cs))
 (h:Le m (uC S c Q dr fr (some u) (.a (.alloc sz zero)) l fs' dd {st with g:=bT st.g u (.ptr u 0),m:=bT st.m u (.box cs)})):Le m (rn S c Q fo fs st0):=by
 simp at B;have⟨a,w,z,C⟩:=B;subst C;refine sM a D w ?_ h;rw[Ea,z];simp[G,qT]
def uY(d:Nat)(l:T2):SV.dO d (l.map .v)=false:=by induction l with|nil=>rfl|cons a l u=>simp[SV.dO,SV.c8,u]
def uK{α:Type}[bG α](d:Nat)(x:α):bP.c8 d (bx x)=false:=uY d (cells x)
def Yr(n:Nat)(dr:X')(fr:S')(q:ST)(fs':R0)(st:St)(k:IntKind)(u:Nat){ln sz:Nat}{a:cH N α}{i:Int}{f:α->a_ γ}(D:q=⟨d,gd,now,.p (.idxA ln sz),az,dd,[]⟩::l)
 (B:(iZ S c n fo fs st0,wanted st.g gd,ck S.N st.g az,sz,ln,bp st.m u)=(some (.ops dr fr q,fs',st),some true,some [.ptr u 0,.v (.int k i)],bG.size α,N,some (bx a)))
 (h:∀x,a.at i=some x->Le ((f x).bind e) (uC S c Q dr fr d (.p (.idxA ln sz)) l fs' dd (dy st d (.ptr u (i.toNat*bG.size α+0))))):Le (((a.at i).bind f).bind e) (rn S c Q fo fs st0):=by
 simp at B;have⟨g,w,z,I,J,C⟩:=B;refine FV g D w ?_ h;intro r b;have⟨x,G,b⟩:=ζg.1 b;have⟨g1,g2,_⟩:=cH.vA G;rw[DM z rfl ?_]
 .omega
 simp[k7,dI,Cw,C]
 grind
def Rp{a:cH N α}{i:Int}{o:Nat}{x:α}(B:a.at i=some x){sz:Nat}{ag:X'}{v:V}(c:(cut (cells x) o sz).bind (mk ag)=some v):wV sz ag ((((cells a).map SV.v).drop (i.toNat*bG.size α+o)).take sz)=some (.v v):=by
 have⟨r,d⟩:=Cs B;have e1:(((cells a).map SV.v).drop (i.toNat*bG.size α+o)).take sz=(((cells x).drop o).take sz).map SV.v:=by have u:((cells x).drop o).take sz=((cells x++r).drop o).take sz:=(by cases b:cut (cells x) o sz with|none=>grind|some w=>unfold cut at b;dsimp only at b;split at b;have C:sz=0\/o<=(cells x).length:=(by grind);grind;simp_all);rw[u,<-d,pa,drop_drop,map_take,map_drop]
 rw[e1];unfold wV;cases b:cut (cells x) o sz with|none=>grind|some w=>rw[b]at c;unfold cut at b;dsimp only at b;split at b;rename_i z;cases b;simp only[length_map,z];unfold mk at c;(cases ag with|true=>simp only[if_true]at c⊢;cases c;rw[mF]|false=>grind);simp_all
def Yq(n:Nat)(dr:X')(fr:S')(q:ST)(fs':R0)(st:St)(u:Nat)(a:cH N α)(i:Int)(o:Nat)(x:α)(G:a.at i=some x){sz:Nat}{ag:X'}{v:V}(e:(cut (cells x) o sz).bind (mk ag)=some v)(B:V){m:a_ β}(J:q=⟨d,gd,now,.r (.load sz ag),az,dd,[]⟩::l)
 (D:(iZ S c n fo fs st0,wanted st.g gd,ck S.N st.g az,v,bp st.m u,(!dr||now||ga fr [.ptr u 0]))=(some (.ops dr fr q,fs',st),some true,some [.ptr u (i.toNat*bG.size α+o)],B,some (bx a),true))
 (h:Le m (uC S c Q dr fr d (.r (.load sz ag)) l fs' dd (dy st d (.v B)))):Le m (rn S c Q fo fs st0):=by
 simp only[ζc]at D;obtain⟨f,w,z,rfl,C,I⟩:=D;refine sM f J w ?_ h;rw[Ic,z];have b:(!dr||now||ga fr [SV.ptr u (i.toNat*bG.size α+o)])=true:=I;simp only[ζb,b,ZD,C,OE];rw[Rp G e];rfl
def On{N:Nat}(a:cH N α)(i:Int)(y:α)(h:i.toNat<N):cells (a.set i y)=(cells a).take (i.toNat*bG.size α)++cells y++(cells a).drop ((i.toNat+1)*bG.size α):=by
 have key:∀(l:aZ α)(k:Nat),k<l.length->((l.set k y).map (cells)).flatten=(l.map (cells)).flatten.take (k*bG.size α)++cells y++(l.map (cells)).flatten.drop ((k+1)*bG.size α):=by intro l;induction l with|nil=>grind|cons b l u=>intro k h;have w:=gR b;cases k with|zero=>grind|succ k=>simp only[map_cons,flatten_cons];have e1:(k+1)*bG.size α=(cells b).length+k*bG.size α:=Zac;have e2:(k+1+1)*bG.size α=(cells b).length+(k+1)*bG.size α:=Zac;rw[e2,List.drop_length_add_append];grind
 exact key a.l i.toNat (by rw[a.len];omega)
def YV(n:Nat)(dr:X')(fr:S')(q:ST)(fs':R0)(st:St)(u:Nat)(a:cH N α)(i:Int)(o:Nat)(x:α)(B:a.at i=some x)(y:α)(v:V){sz:Nat}(G:cells y=(cells x).take o++v.cells++(cells x).drop (o+sz)){m:a_ β}(J:q=⟨d,gd,now,.l (.store sz),az,dd,[]⟩::l)
 (D:(iZ S c n fo fs st0,wanted st.g gd,ck S.N st.g az,bp st.m u,(!dr||now),v.cells.length,v.cells.all V.one,ble (o+sz) (bG.size α))=(some (.ops dr fr q,fs',st),some true,some [.ptr u (i.toNat*bG.size α+o),.v v],some (bx a),true,sz,true,true))
 (h:Le m (uC S c Q dr fr d (.l (.store sz)) l fs' dd (dy {st with m:=bT st.m u (bx (a.set i y))} d (.v .undef)))):Le m (rn S c Q fo fs st0):=by
 simp only[ζc]at D;have⟨b,z,C,I,L,O,T,U⟩:=D;refine sM b J z ?_ h;rw[yG,C];have X:=Nat.le_of_ble_eq_true U;have⟨g1,g2,g3⟩:=cH.vA B;have W:i.toNat*bG.size α+o+sz<=((cells a).map SV.v).length:=by rw[length_map,gR];have:(i.toNat+1)*bG.size α<=N*bG.size α:=Nat.mul_le_mul_right _ g2;rw[add_mul,one_mul]at this;show _<=N*bG.size α;omega
 simp only[ζb,L,if_true,ow,I,putCells,O,T,W,and_self,map_some];have⟨r,f⟩:=Cs B;have e:((cells a).map SV.v).take (i.toNat*bG.size α+o)++v.cells.map .v++((cells a).map SV.v).drop (i.toNat*bG.size α+o+sz)=(cells (a.set i y)).map SV.v:=by rw[On a i y g2,G];have hd:(cells a).drop (i.toNat*bG.size α)=cells x++r:=f;have w:=gR x;have e1:(cells a).take (i.toNat*bG.size α+o)=(cells a).take (i.toNat*bG.size α)++(cells x).take o:=(by rw[List.take_add,hd,List.take_append_of_le_length Zaa]);have e2:(cells a).drop (i.toNat*bG.size α+o+sz)=(cells x).drop (o+sz)++(cells a).drop ((i.toNat+1)*bG.size α):=(by have e3:(cells a).drop ((i.toNat+1)*bG.size α)=r:=(by rw[add_mul,one_mul,<-drop_drop,hd,<-w,List.drop_left]);rw[e3,Nat.add_assoc,<-drop_drop,hd,List.drop_append_of_le_length Zaa]);rw[<-map_take,<-map_drop,e1,e2];grind
 rw[e]
end
def UJ{α:Type}[bG α]{m:Tb bP}{d:Nat}{x:α}{vs:T2}(h:bp m d=some (bx x)):pe (jQ m 8) (.ptr d 0::vs.map .v)=some (.fptr (cells x)::vs):=by
 have a:jQ m 8 (.ptr d 0)=some (.fptr (cells x)):=by
  show(match bp m d with
   |some (.box cs)=>match pe (jQ m 7) cs with
    |some u=>if 0<=u.length then some (V.fptr (u.drop 0))else none|none=>none
   |_=>none)=_
  rw[h];simp[IN]
 simp[pe,a,IN]
def YF(n:Nat){fo:Fo}{fs fs':R0}{st0 st:St}{rs:aZ RV}{e:γ->a_ T2}{r:γ}(svs:So){ys:T2}(B:pe (jQ st.m 8) svs=some ys)(h:(iZ S c n fo fs st0,lI st rs)=(some (.rt,fs',st),some svs))(D:e r=some ys):
 Le ((some r).bind e) (rn S c (oJ rs) fo fs st0):=by
 simp at h;rw[qc h.1];refine Le.of_eq ?_;simp[rn,oJ,h.2,B]
 grind
abbrev Mo(κ ν:Type):=aZ (κ×ν)
class Key(κ:Type)[bG κ][DecidableEq κ]where
 kk:yJ
 ok:∀a:κ,q9 kk (enc a)=true
 eq:∀a b:κ,ym (enc a) (enc b)=some (decide (a=b))
instance:Key Int where
 kk:=.int .i64
 ok _:=rfl
 eq a b:=by show some (a==b)=some (decide (a=b));rw[show(a==b)=decide (a=b)from Bool.eq_iff_iff.2 Zab]
instance:Key bf where
 kk:=.ints 2
 ok _:=rfl
 eq a b:=by have⟨p,i⟩:=a;have⟨q,j⟩:=b;simp only[ym,me,jl,Xh,map_some,length_cons,if_true,ζa];rw[Bool.eq_iff_iff];simp
section
variable{κ ν:Type}[bG κ][DecidableEq κ][Key κ][bG ν]
def vB(k:κ):Mo κ ν->a_ ν
 |[]=>none|(a,v)::r=>if k=a then some v else vB k r
def FW(m:Mo κ ν)(k:κ)(z:ν):ν:=(vB k m).getD z
def s_(m:Mo κ ν)(k:κ)(v:ν):Mo κ ν:=
 match m with
 |[]=>[(k,v)]|(a,w)::r=>if k=a then(k,v)::r else(a,w)::s_ r k v
def pX(m:Mo κ ν):aZ (V×V):=m.map λx=>(enc x.1,enc x.2)
def xB(m:Mo κ ν):bP:=.mp (pX m)
def Mi(k:κ):∀(m:Mo κ ν)(i:Nat),(jC (enc k) (pX m) i).map (Option.map (·.2))=some ((vB k m).map enc)
 |[],i=>rfl|(a,v)::r,i=>by simp only[pX,map_cons,jC,Key.eq,vB];by_cases h:k=a;grind;simp only[h];exact Mi k r (i+1)
def SU(k:κ)(v:ν)(m:Mo κ ν):rq (enc k) (enc v) (pX m)=some (pX (s_ m k v)):=by
 unfold rq;have key:∀(m:Mo κ ν)(pre:aZ (V×V))(i:Nat),pre.length=i->(match jC (enc k) (pX m) i with
  |some (some (j,_))=>some ((pre++pX m).set j (enc k,enc v))|some none=>some (pre++pX m++[(enc k,enc v)])|none=>none)=some (pre++pX (s_ m k v)):=by
  intro m
  induction m with
  |nil=>simp[pX,jC,s_]|cons x r u=>
   have⟨a,w⟩:=x;intro pre i h;rw[show pX ((a,w)::r)=(enc a,enc w)::pX r from rfl];simp[jC,Key.eq,s_]
   by_cases b:k=a
   .subst b h;simp[pX]
   simp[b];rw[show pX ((a,w)::s_ r k v)=(enc a,enc w)::pX (s_ r k v)from rfl];have:=u (pre++[(enc a,enc w)]) (i+1) (by simp[h])
   grind
 have:=key m [] 0 rfl;grind
def Yk(n:Nat)(dr:X')(fr:S')(q:ST)(fs':R0)(st:St)(u:Nat)(mp:Mo κ ν)(k:κ)(z:ν){kk:yJ}{B:V}{m:a_ β}(G:q=⟨d,gd,now,.r (.lookup kk B false),az,dd,[]⟩::l)
 (D:(iZ S c n fo fs st0,wanted st.g gd,ck S.N st.g az,bp st.m u,(!dr||now||ga fr [.mp u,cv k]),B,kk)=(some (.ops dr fr q,fs',st),some true,some [.mp u,cv k],some (xB mp),true,enc z,Key.kk κ))
 (h:Le m (uC S c Q dr fr d (.r (.lookup kk B false)) l fs' dd (dy st d (cv (FW mp k z))))):Le m (rn S c Q fo fs st0):=by
 simp only[ζc]at D;have⟨a,C,I,J,L,O,T⟩:=D;subst O T;refine sM a G C ?_ h;rw[Ic,I];simp only[ζb,L,qD,J,xB,Key.ok];have:=Mi k mp 0;simp[FW]
 cases U:jC (enc k) (pX mp) 0 with
 |none=>grind|some r=>
  rw[U]at this
  cases r with
  |none=>
   cases W:vB k mp with
   |none=>rfl|some w=>grind
  |some w=>
   cases W:vB k mp with
   |none=>grind|some X=>grind
def ZK(n:Nat)(dr:X')(fr:S')(q:ST)(fs':R0)(st:St)(u:Nat)(mp:Mo κ ν)(k:κ)(v:ν){kk:yJ}{m:a_ β}(D:q=⟨d,gd,now,.l (.mapUp kk),az,dd,[]⟩::l)
 (B:(iZ S c n fo fs st0,wanted st.g gd,ck S.N st.g az,bp st.m u,(!dr||now),kk)=(some (.ops dr fr q,fs',st),some true,some [.mp u,cv k,cv v],some (xB mp),true,Key.kk κ))
 (h:Le m (uC S c Q dr fr d (.l (.mapUp kk)) l fs' dd (dy {st with m:=bT st.m u (xB (s_ mp k v))} d (.v .undef)))):Le m (rn S c Q fo fs st0):=by
 simp only[ζc]at B;have⟨a,w,z,C,G,I⟩:=B;subst I;refine sM a D w ?_ h;rw[yG,z];simp[G,ow,C,xB,Key.ok,SU]
end
end
instance{n:Nat}:OfNat Arg n:=⟨.s n⟩
abbrev bI(o:BinOp):K:=.p (.bin (some .int) none o)
abbrev ix(n:Nat):K:=.p (.idxS n)
abbrev ld(n:Nat):K:=.r (.load n false)
abbrev lD(n:Nat):K:=.r (.load n true)
abbrev fa(n:Nat):K:=.p (.fieldAddr n)
abbrev ln:K:=.p .lenSl
abbrev su(n:Nat):K:=.l (.store n)
abbrev Iv(n:Nat)(x:Int):Nat×SV:=(n,iv x)
abbrev Bv(n:Nat)(x:Bool):Nat×SV:=(n,bv x)
abbrev Cv{α:Type}[bG α](n:Nat)(x:α):Nat×SV:=(n,cv x)
abbrev Kv{α:Type}[bG α](n:Nat)(x:α):Nat×SV:=(n,cp x)
abbrev Pv(n:Nat):Nat×SV:=(n,.ptr n 0)
abbrev Ov(n:Nat):Nat×SV:=(n,.own (2000+n))
abbrev Xb{α:Type}[bG α](n:Nat)(x:α):Nat×bP:=(n,bx x)
abbrev Lb{α:Type}[bG α](n:Nat)(x:Sl α):Nat×bP:=(n,cV x)
abbrev on(d:Nat)(k:K)(az:aZ Arg)(dd:aZ Nat):RO:=⟨some d,none,true,k,az,dd,[]⟩
abbrev oz(k:K)(az:aZ Arg)(dd:aZ Nat):RO:=⟨none,none,false,k,az,dd,[]⟩
abbrev oy(k:K)(az:aZ Arg)(dd:aZ Nat):RO:=⟨none,none,true,k,az,dd,[]⟩
attribute [simp] Vh Vx U4
def eD.yB{S:Sys}{T:rD}{f:Y'}{b:X'}(B:T f=none)(a:S.E.keep f=false)(D:S.yB f []=some (.bool b)):
 eD S (dh S T) f (λ_:Unit=>[]) (λr:X'=>[.bool r]) (λ_=>some b) true where
 k:=a
 h _:=by have h:=HE (az:=[]) B a D;intro r c;cases c;unfold gN;rw[h];exact vK 8 [.bool b]
 s _ _:=rfl
def Wp{α:Type}(m:a_ α)(P:α->Prop):Prop:=∃a,m=some a/\P a
section
variable{α β:Type}{P Q:α->Prop}
def bh(a:α):Wp (some a) P↔P a:=⟨λh=>by have⟨b,e,p⟩:=h;cases e;exact p,λp=>⟨a,rfl,p⟩⟩
def Vl:Wp (none:a_ α) P↔False:=⟨λh=>(by have⟨b,e,p⟩:=h;cases e),λh=>False.elim h⟩
def eW{m:a_ β}{k:β->a_ α}:Wp (m.bind k) P↔Wp m λb=>Wp (k b) P:=by cases m with|none=>simp only[Option.bind_none,Vl]|some b=>simp only[ζb,bh]
def ct{t:X'}{a b:a_ α}:Wp (bl t a b) P↔(t=true->Wp a P)/\(t=false->Wp b P):=by cases t<;>simp[bl]
def Wp.mono{m:a_ α}(h:Wp m P)(B:∀a,P a->Q a):Wp m Q:=let⟨a,e,p⟩:=h;⟨a,e,B a p⟩
def Wp.and{m:a_ α}(h:Wp m P)(B:Wp m Q):Wp m λa=>P a/\Q a:=by have⟨a,e,p⟩:=h;have⟨b,e2,q⟩:=B;rw[e]at e2;cases e2;exact⟨a,e,p,q⟩
def Wp.eq{m:a_ α}{a:α}(h:Wp m λx=>x=a):m=some a:=by obtain⟨b,e,rfl⟩:=h;exact e
end
section
variable{σ ε ρ:Type}
def fq(step:σ->a_ (Fw σ ε ρ))(s:σ):bQ step s=(step s).bind λw=>match w with
 |.n B=>bQ step B|.x e=>some (.x e)|.r b=>some (.r b):=by
 have d:∀r,bQ step s=some r->((step s).bind λw=>match w with
  |.n B=>bQ step B|.x e=>some (.x e)|.r b=>some (.r b))=some r:=by
  intro r h;have⟨k,a⟩:=pL.1 h
  cases k with
  |zero=>simp[kG]at a|succ k=>
   simp only[kG]at a
   cases u:step s with
   |none=>rw[u]at a;cases a|some w=>
    rw[u]at a
    cases w with
    |n B=>exact pL.2 ⟨k,a⟩|x e=>exact a|r b=>exact a
 cases z:bQ step s with
 |some r=>exact(d r z).symm|none=>
  cases c:((step s).bind λw=>match w with
  |.n B=>bQ step B|.x e=>some (.x e)|.r b=>some (.r b))with
  |none=>rfl|some r=>
   exfalso
   cases u:step s with
   |none=>rw[u]at c;cases c|some w=>
    rw[u]at c;simp only[ζb]at c;have:bQ step s=some r:=by cases w with|n B=>have⟨k,a⟩:=pL.1 c;exact pL.2 ⟨k+1,by simp only[kG,u];exact a⟩|x e=>exact pL.2 ⟨1,by simp only[kG,u];exact c⟩|r b=>exact pL.2 ⟨1,by simp only[kG,u];exact c⟩
    rw[z]at this;cases this
def TH(I:σ->Prop)(μ:σ->Nat)(D:ε->Prop)(G:ρ->Prop)(s:σ):Fw σ ε ρ->Prop
 |.n B=>I B/\μ B<μ s|.x e=>D e|.r b=>G b
def Zv(B:ε->Prop)(D:ρ->Prop):Fw Empty ε ρ->Prop
 |.x e=>B e|.r b=>D b
def RJ{step:σ->a_ (Fw σ ε ρ)}(I:σ->Prop)(μ:σ->Nat)(B:ε->Prop)(D:ρ->Prop)(h:∀s,I s->Wp (step s) (TH I μ B D s)){s:σ}(G:I s):Wp (bQ step s) (Zv B D):=by
 have key:∀n s,μ s<=n->I s->Wp (bQ step s) (Zv B D):=by
  intro n
  induction n with
  |zero=>intro s C c;have⟨w,u,a⟩:=h s c;rw[fq,u];cases w with|n z=>exact absurd a.2 Zaa|x e=>exact⟨_,rfl,a⟩|r b=>exact⟨_,rfl,a⟩
  |succ n J=>intro s C c;have⟨w,u,a⟩:=h s c;rw[fq,u];cases w with|n z=>exact J z (by have:=a.2;omega) a.1|x e=>exact⟨_,rfl,a⟩|r b=>exact⟨_,rfl,a⟩
 exact key (μ s) s (Nat.le_refl _) G
def eY{γ:Type}{step:σ->a_ (Fw σ ε ρ)}{B:ε->a_ γ}{fr:ρ->a_ γ}{P:γ->Prop}(I:σ->Prop)(μ:σ->Nat){s:σ}(D:I s)
 (h:∀s,I s->Wp (step s) (TH I μ (λe=>Wp (B e) P) (λb=>Wp (fr b) P) s)):Wp ((bQ step s).bind (Fw.elim B fr)) P:=by
 rw[eW];refine(RJ I μ _ _ h D).mono ?_;intro w u
 cases w with
 |n a=>cases a|x e=>exact u|r b=>exact u
end
def Gc{β γ δ:Type}{e:γ->a_ β}{m:a_ δ}{f:δ->a_ γ}{L:a_ β}(h:∀x,m=some x->Le ((f x).bind e) L):Le ((m.bind f).bind e) L:=by cases m with|none=>exact Le.none _|some x=>exact h x rfl
section
variable{S:Sys}{c:cm}{β:Type}{Q:Out×St->a_ β}{fo:Fo}{fs:R0}{st0:St}{l:ST}{d:a_ Nat}{now:X'}{az:QP}{dd:S'}
def Le.get{β:Type}{r:β}{L:a_ β}(h:Le (some r) L):L=some r:=h r rfl
def Kt{n:Nat}{fo fo':Fo}{fs fs':R0}{st:St}(A:X'->St){t:X'}{m:a_ β}(B:t=true)(h:iZ S c n fo fs st=some (fo',fs',A t))(D:Le m (rn S c Q fo' fs' (A true))):Le m (rn S c Q fo fs st):=by rw[qc h,B];exact D
def Kf{n:Nat}{fo fo':Fo}{fs fs':R0}{st:St}(A:X'->St){t:X'}{m:a_ β}(B:t=false)(h:iZ S c n fo fs st=some (fo',fs',A t))(D:Le m (rn S c Q fo' fs' (A false))):Le m (rn S c Q fo fs st):=by rw[qc h,B];exact D
def RL{α:Type}[bG α]{s:Sl α}{i:Int}{x:α}{r:β}{L:a_ β}(B:idx s i=some x)(h:Le (((idx s i).bind λ_=>some r).bind some) L):Le (some r) L:=by rw[B]at h;exact h
def Ze{n:Nat}{q:ST}{fs':R0}{st:St}{id:Nat}{vs:So}{xs:T2}{B:T'}{m:a_ β}
 (D:iZ S c n fo fs st0=some (.ops false [] q,fs',st))(G:q=⟨d,none,now,.c,az,dd,[]⟩::l)(J:ck S.N st.g az=some (.yl id::vs))(U:dI vs=some xs)(W:st.want=xs::B)(a:id=st.yid)
 (h:Le m (rn S c Q (.ops false [] l) fs' (qG dd (dy {st with want:=B} d (.v (.bool (st.more|| !B.isEmpty))))))):Le m (rn S c Q fo fs st0):=by
 refine Uc D G rfl ?_ h;unfold gA;simp only[wanted,gQ,J,U,W,a,if_true,and_self,Bool.false_eq_true,if_false]
def Cx(a:RC)(fs:R0)(st:St):rn S c Q (.rc (.loop a)) fs st=(p8 (cR S c a) st).bind (FC (n_ S c Q fs) (og S c Q fs) (λst=>Q (.ret,st))):=by show lK S c Q (.loop a) fs st=_;unfold lK;rw[EN];rfl
def Ve{f:St->a_ (Out×St)}{st st':St}(h:f st=some (.norm,st')):p8 f st=p8 f st':=by
 have key:∀r,p8 f st=some r↔p8 f st'=some r:=λr=>by constructor;intro b;have⟨k,a⟩:=oa.1 b;(cases k with|zero=>simp[kn]at a|succ k=>simp only[kn,h]at a;exact oa.2 ⟨k,a⟩);intro b;have⟨k,a⟩:=oa.1 b;exact oa.2 ⟨k+1,by simp only[kn,h];exact a⟩
 cases u:p8 f st with
 |none=>cases w:p8 f st' with|none=>rfl|some r=>rw[(key r).2 w]at u;cases u
 |some r=>rw[(key r).1 u]
def Lx{f:St->a_ (Out×St)}{st st':St}{o:Out}(h:f st=some (o,st'))(B:o≠.norm):p8 f st=some (o,st'):=by refine oa.2 ⟨1,?_⟩;cases o with|norm=>exact absurd rfl B|exit k=>simp only[kn,h]|ret=>simp only[kn,h]
def GY{a:RC}{fs:R0}{st st':St}(h:rn S c some (.rc a) [] st=some (.norm,st')):rn S c Q (.rc (.loop a)) fs st=rn S c Q (.rc (.loop a)) fs st':=by rw[Cx,Cx,Ve (by rw[Ce];exact h)]
def Gr{a:RC}{fs:R0}{st st':St}{k:Nat}(h:rn S c some (.rc a) [] st=some (.exit k,st')):rn S c Q (.rc (.loop a)) fs st=rn S c Q (.ex k) fs st':=by rw[Cx,Lx (by rw[Ce];exact h) Zab];rfl
def HK{a:RC}{fs:R0}{st st':St}(h:rn S c some (.rc a) [] st=some (.ret,st')):rn S c Q (.rc (.loop a)) fs st=Q (.ret,st'):=by rw[Cx,Lx (by rw[Ce];exact h) Zab];rfl
end
def Qi:Out×St->a_ Unit
 |(.exit _,_)=>none|(_,st)=>if st.want.isEmpty then some ()else none
def Sys.bare(S:Sys):Sys:=⟨S.E,S.N,λ_ _ _=>none,λ_ _=>none,λ_=>none⟩
def oR:cm:=λ_ _ _=>none
def v8(B rest:T')(more:X'):Prop:=more=true/\B=rest\/more=false/\B≠[]/\∃r,rest=B++r
def RY(S:Sys){f:Y'}{fi:FI}{nm:Y'->a_ Nat}{rf:RF}(G:S.E.ft f=some fi)(W:∀g s,nm g=some s->S.N s=g)(e:yg S.E nm fi rf){a b:T2}{xs:T'}(D:a.length+1+b.length<=rf.na)(U:rf.rs=[])
 (h:∀B more,v8 B xs more->∀yid,rn S.bare oR Qi (.rc rf.body) [] ⟨wm 0 (a.map .v++.yl yid::b.map .v),[],[],B,more,yid⟩=some ()):eF S f a b xs:=by
 have k:eF S.bare f a b xs:=Mg (S:=S.bare) (c:=oR) (fi:=fi) (nm:=nm) (rf:=rf) (λ_ _ h=>by cases h) (λ_ _ _ _ _ h=>by simp[oR]at h) (λ_ _ _ _ h=>by simp[Sys.bare]at h) G W e D U (λB more w yid=>by
  have d:=h B more w yid;change lK S.bare oR Qi rf.body [] _=some ()at d;rw[qw]at d;have⟨⟨o,st'⟩,z,u⟩:=ζg.1 d;refine⟨o,st',z,?_,?_,rfl⟩
  .rintro id rfl;simp[Qi]at u
  cases o<;>simp[Qi]at u<;>exact u)
 intro B more w yid J y Z C I H d z u L O;exact k B more w yid J ⟨y.xM,y.yield⟩ Z C I H d z u L O
open Classical in
noncomputable def zl(P:Y'->T2->T2->T'->Prop)(f:Y')(a b:T2):a_ T':=if h:∃u,P f a b u then some (Classical.choose h)else none
def Ed{P:Y'->T2->T2->T'->Prop}{f:Y'}{a b:T2}{xs:T'}(h:P f a b xs)(d:∀ys,P f a b ys->ys=xs):zl P f a b=some xs:=by have c:∃xs,P f a b xs:=⟨xs,h⟩;unfold zl;rw[dif_pos c,d _ (choose_spec c)]
def MP{P:Y'->T2->T2->T'->Prop}{f:Y'}{a b:T2}{xs:T'}(h:zl P f a b=some xs):P f a b xs:=by
 unfold zl at h;split at h;next c=>cases h;exact choose_spec c
 cases h
def Xn{E:Env}{nm:Y'->a_ Nat}{f:Y'}{rf:RF}
 (h:((E.ft f).bind λfi=>(bU ⟨E,nm,fi.ntmps⟩ false fi.body).bind λc=>(fi.results.mapM (Cy E)).bind λrs=>some (c,rs,fi.ntmps))=some (erase rf.body,rf.rs,rf.na)):∃fi,E.ft f=some fi/\yg E nm fi rf:=by
 have⟨fi,a,w⟩:=ζg.1 h;have⟨c,z,B⟩:=ζg.1 w;have⟨rs,C,u⟩:=ζg.1 B;simp only[ζa,ζc]at u;obtain⟨rfl,rfl,D⟩:=u;exact⟨fi,a,z,C,D.symm⟩
def FR.qH{H:bq}{Z Z':Nat->Prop}{x y z:V}(h:FR H Z x z)(k:FR H Z' y z):x=y:=by have⟨n,u⟩:=Bx x;have⟨m,w⟩:=Bx y;have e1:=h.borrow (max n m) (zi (Nat.le_max_left _ _) u);have e2:=k.borrow (max n m) (zi (Nat.le_max_right _ _) w);rw[e1]at e2;exact Option.some.inj e2
open Classical in
noncomputable def zd(E:Env)(f:Y')(az:T2):a_ V:=if h:∃y,AX E f az y then some (Classical.choose h)else none
def Gp{E:Env}{f:Y'}{az:T2}{y:V}(h:zd E f az=some y):AX E f az y:=by
 unfold zd at h;split at h;next a=>cases h;exact choose_spec a
 cases h
def BH{E:Env}{f:Y'}{az:T2}{y:V}(h:AX E f az y):zd E f az=some y:=by have a:∃y,AX E f az y:=⟨y,h⟩;unfold zd;rw[dif_pos a];have⟨n,z,H,Z,k1,w,_⟩:=h;have⟨u,D,H',Z',B,C,_⟩:=choose_spec a;have e1:=(pg E (Nat.le_max_left n u)).go _ _ _ _ k1;have e2:=(pg E (Nat.le_max_right n u)).go _ _ _ _ B;rw[e1]at e2;cases e2;rw[FR.qH C w]
def K8{E:Env}{f:Y'}{az:T2}{y:V}(B:V.scalar y=true)(h:∃n H',run E n (.fn f) az []=some (y,H')):AX E f az y:=by have⟨n,H',h⟩:=h;exact⟨n,y,H',λ_=>False,h,.same _ (kL B),λ_ h=>h.elim,⟨λ_ _ _ h=>h.elim⟩⟩
end Go.VE
