/-
 Plain values and the steps of a certificate.
-/
import Derived.KernelRfl
import Derived.Test.YtfjedefhlilglaaGreatDoorN2
set_option linter.all false
open Classical(choose_spec)
open List(drop_drop flatten_cons length_cons length_map length_nil map_cons map_drop map_take range' replicate)
open Option(map_some)
open Nat(add_mul ble one_mul)
namespace Go.VE
variable[b8]
inductive Sl(α:Type)where
 |nil|emp|row(l:List α)|part(l:List α)
 deriving Inhabited
abbrev Zg:=Sl Int
abbrev Zb:=Sl (Sl Int)
def Sl.l{α:Type}:Sl α->aZ α
 |.nil|.emp=>[]|.row l|.part l=>l
def Sl.k{α:Type}:Sl α->Fl
 |.nil=>.nil|.emp=>.emp|.row _=>.row|.part _=>.part
class bD(α:Type)where
 cells:α->List V
 agg:Bool
 size:Nat
 len:∀a,(cells a).length=size
 good:∀a,V.cI (cells a)=true
 one:∀a,(cells a).all V.one=true
 plain:agg=false->size=1
def cells{α:Type}[bD α](a:α):T2:=bD.cells a
def enc{α:Type}[bD α](a:α):V:=if bD.agg α then .agg (cells a)else(cells a).headD .undef
def rows{α:Type}[bD α](l:aZ α):T':=l.map cells
def bZ{α:Type}[bD α](s:Sl α):V:=pI s.k (bD.size α) (rows s.l)
instance:bD Int where
 cells n:=[.int .i64 n]
 agg:=false
 size:=1
 len _:=rfl
 good _:=rfl
 one _:=rfl
 plain _:=rfl
instance:bD X' where
 cells b:=[.bool b]
 agg:=false
 size:=1
 len _:=rfl
 good _:=rfl
 one _:=rfl
 plain _:=rfl
instance:bD U' where
 cells s:=[.str s]
 agg:=false
 size:=1
 len _:=rfl
 good _:=rfl
 one _:=rfl
 plain _:=rfl
structure bf where
 proc:Int
 index:Int
 deriving DecidableEq,Inhabited
instance:bD bf where
 cells x:=[.int .i64 x.proc,.int .i64 x.index]
 agg:=true
 size:=2
 len _:=rfl
 good _:=rfl
 one _:=rfl
 plain h:=by cases h
@[simp] def abl(n:Int):enc n=.int .i64 n:=rfl
@[simp] def abd(n:X'):enc n=.bool n:=rfl
@[simp] def abk(n:U'):enc n=.str n:=rfl
@[simp] def aaN(n:Int):cells n=[.int .i64 n]:=rfl
@[simp] def ZV(n:X'):cells n=[.bool n]:=rfl
@[simp] def aax(n:U'):cells n=[.str n]:=rfl
@[simp] def abg(n:bf):cells n=[.int .i64 n.proc,.int .i64 n.index]:=rfl
@[simp] def X9(n:bf):enc n=.agg [.int .i64 n.proc,.int .i64 n.index]:=rfl
section
variable{α:Type}[bD α]
def iG(l:aZ α):(rows l).length=l.length:=by simp[rows]
def idx(s:Sl α)(i:Int):a_ α:=if 0<=i then s.l[i.toNat]?else none
def Sg{N:Nat->Y'}(s:Sl α)(k:IntKind)(i:Int){n:Nat}(B:n=bD.size α):bq N (.idxS n) [bZ s,.int k i]=(idx s i).map λx=>.fptr (cells x):=by subst B;unfold idx bZ;simp only[bq,mV];by_cases h:i<0;rw[if_pos h,if_neg Zaa];rfl;rw[if_neg h,if_pos Zaa];cases s<;>simp[Sl.k,Sl.l,pI,rows,Function.comp_def]
def QL{N:Nat->Y'}(s:Sl α):bq N .lenSl [bZ s]=some (.int .i64 s.l.length):=by cases s<;>simp[bq,pO,bZ,Sl.k,Sl.l,pI,iG]
end
section
variable{S:Sys}{c:cm}
end
end Go.VE
namespace Go.VE
variable[b8]
section
variable{S:Sys}{c:cm}
def isSlice:wj->X'
 |.slice ..=>true|_=>false
def Vi(dr:X')(fr:S')(dst:a_ Nat)(now:X')(p:wj)(az:R0)(st:St)(h:isSlice p=false):
 ga S c dr fr ⟨dst,none,now,.p p,az,[],[]⟩ st=(bY S.N st.g az).bind λsvs=>(j8 S.N st.m p svs).bind λx=>some (cW st dst x):=by
 unfold ga nq;have u:gB S.N st.g ⟨dst,none,now,.p p,az,[],[]⟩=none:=by unfold gB;grind
 simp[wanted,u]
 cases z:bY S.N st.g az with
 |none=>rfl|some svs=>simp;cases p<;>first|(simp[isSlice]at h;done)|(cases w:j8 S.N st.m _ svs<;>simp[w])
def MK(N:Nat->Y')(m:Tb bM)(p:wj)(svs:So)(xs:T2)(h:dA svs=some xs):j8 N m p svs=(bq N p xs).bind λx=>some (.v x):=by unfold j8;rw[h];dsimp only;cases bq N p xs<;>rfl
def C0(dr:X')(fr:S')(dst:a_ Nat)(now:X')(q:MF)(az:R0)(st:St):
 ga S c dr fr ⟨dst,none,now,.r q,az,[],[]⟩ st=(bY S.N st.g az).bind λsvs=>if !dr||now||fJ fr svs then(o6 st.m q svs).bind λx=>some (cW st dst x)else none:=by
 unfold ga nq;have u:gB S.N st.g ⟨dst,none,now,.r q,az,[],[]⟩=none:=rfl;simp[wanted,u]
 cases w:bY S.N st.g az with
 |none=>rfl|some svs=>
  simp;split
  .cases z:o6 st.m q svs<;>simp
  rfl
def Ai(dr:X')(fr:S')(d:Nat)(now:X')(q:Rn)(az:R0)(st:St):
 ga S c dr fr ⟨some d,none,now,.a q,az,[],[]⟩ st=(bY S.N st.g az).bind λsvs=>if st.new d then(pq st.m q svs d).bind λr=>some {st with g:=bR st.g d r.2,m:=bR st.m d r.1}else none:=by
 unfold ga nq;have u:gB S.N st.g ⟨some d,none,now,.a q,az,[],[]⟩=none:=rfl;simp[wanted,u]
 cases w:bY S.N st.g az with
 |none=>rfl|some svs=>
  simp;split
  .cases z:pq st.m q svs d<;>simp[cW]
  rfl
def yU(dr:X')(fr:S')(dst:a_ Nat)(now:X')(q:MX)(az:R0)(st:St):
 ga S c dr fr ⟨dst,none,now,.l q,az,[],[]⟩ st=(bY S.N st.g az).bind λsvs=>if !dr||now then(od st dst q svs).bind λr=>some (cW r.2 dst r.1)else none:=by
 unfold ga nq;have u:gB S.N st.g ⟨dst,none,now,.l q,az,[],[]⟩=none:=rfl;simp[wanted,u]
 cases w:bY S.N st.g az with
 |none=>rfl|some svs=>
  simp;split
  .cases z:od st dst q svs<;>simp
  rfl
def lS:So->a_ (Y'×So)
 |.clo f a b::vs=>some (f,a++vs++b)|.v (.clo f a b)::vs=>some (f,a.map .v++vs++b.map .v)|_=>none
def xm(dr:X')(fr:S')(dst:a_ Nat)(now:X')(az:R0)(st:St)(svs:So)(f:Y')(args:So)(B:bY S.N st.g az=some svs)(a:lS svs=some (f,args)):
 ga S c dr fr ⟨dst,none,now,.c,az,[],[]⟩ st=(fK S c dst dr (!dr||now) (gq st.m fr) f args st).bind λr=>some (cW r.2 dst r.1):=by
 unfold ga nq;unfold lS at a;split at a
 .obtain⟨rfl,rfl⟩:=a;simp[wanted,gB,B];cases fK S c dst dr _ _ _ _ st<;>simp
 .obtain⟨rfl,rfl⟩:=a;simp[wanted,gB,B];cases fK S c dst dr _ _ _ _ st<;>simp
 grind
noncomputable def SM{β:Type}(S:Sys)(c:cm)(fr:S')(l:SW)(k:St->a_ β):St->a_ β:=λst=>(oE S c false fr l st).bind k
noncomputable def SN{β:Type}(S:Sys)(c:cm)(fr:S')(l:SW)(k:St->a_ β):St->a_ β:=λst=>(oE S c true fr l st).bind k
noncomputable def YU{β:Type}(S:Sys)(c:cm)(fr dd:S')(l:SW)(k:St->a_ β):St->a_ β:=λst=>SM S c fr l k (qN dd st)
noncomputable def Yj{β:Type}(S:Sys)(c:cm)(fr dd:S')(l:SW)(k:St->a_ β):St->a_ β:=λst=>SN S c fr l k (qN dd st)
@[congr] def aar{β:Type}{fr:S'}{l:SW}{k:St->a_ β}{st st':St}(h:st=st'):SM S c fr l k st=SM S c fr l k st':=by rw[h]
@[congr] def aal{β:Type}{fr B:S'}{l:SW}{k:St->a_ β}{st st':St}(D:fr=B)(h:st=st'):SN S c fr l k st=SN S c B l k st':=Zad
@[congr] def aac{β:Type}{fr dd:S'}{l:SW}{k:St->a_ β}{st st':St}(h:st=st'):YU S c fr dd l k st=YU S c fr dd l k st':=by rw[h]
@[congr] def aaf{β:Type}{fr B dd:S'}{l:SW}{k:St->a_ β}{st st':St}(D:fr=B)(h:st=st'):Yj S c fr dd l k st=Yj S c B dd l k st':=Zad
@[congr] def aau{dr:X'}{fr:S'}{o:RO}{st st':St}(h:st=st'):ga S c dr fr o st=ga S c dr fr o st':=by rw[h]
end
section
variable{S:Sys}{c:cm}(dr:X')(fr:S')(dst:a_ Nat)(now:X')(az:R0)(st:St)
end
inductive Fm where
 |seq(b:RC)|blk(id:Nat)|gst(x:Gh)
abbrev Rd:=aZ Fm
section
variable(S:Sys)(c:cm){β:Type}(Q:Out×St->a_ β)
noncomputable def runK:Rd->Out×St->a_ β
 |[],r=>Q r|.seq b::fs,(.norm,st)=>(cR S c b st).bind (runK fs)|.seq _::fs,r=>runK fs r|.blk id::fs,(.exit k,st)=>if k=id then runK fs (.norm,st)else runK fs (.exit k,st)|.blk _::fs,r=>runK fs r|.gst x::fs,(.norm,st)=>(ghost x st).bind λst=>runK fs (.norm,st)|.gst _::fs,r=>runK fs r
noncomputable def go(a:RC)(fs:Rd)(st:St):a_ β:=(cR S c a st).bind (runK S c Q fs)
noncomputable def UG(fs:Rd):St->a_ β:=λst=>runK S c Q fs (.norm,st)
def bl{α:Type}(t:X')(a b:α):α:=if t then a else b
end
@[congr] def aaG{α:Type}{t B:X'}{a b a' D:α}(h:t=B)(G:B=true->a=a')(J:B=false->b=D):bl t a b=bl B a' D:=by subst h;cases t;exact J rfl;exact G rfl
section
variable{S:Sys}{c:cm}{β:Type}{Q:Out×St->a_ β}
@[congr] def go_congr{a:RC}{fs:Rd}{st st':St}(h:st=st'):go S c Q a fs st=go S c Q a fs st':=by rw[h]
@[congr] def Zp{fs:Rd}{st st':St}(h:st=st'):UG S c Q fs st=UG S c Q fs st':=by rw[h]
@[congr] def Zz{fs:Rd}{r B:Out×St}(h:r=B):runK S c Q fs r=runK S c Q fs B:=by rw[h]
def JY(a:RC)(st:St):(cR S c a st).bind Q=go S c Q a [] st:=by simp only[go];cases cR S c a st<;>rfl
inductive Fw(ν ε ρ:Type)where
 |n(a:ν)|x(e:ε)|r(b:ρ)
def kC{σ ε ρ:Type}(step:σ->a_ (Fw σ ε ρ)):Nat->σ->a_ (Fw Empty ε ρ)
 |0,_=>none|k+1,s=>match step s with
  |some (.n B)=>kC step k B|some (.x e)=>some (.x e)|some (.r b)=>some (.r b)|none=>none
def ze{σ ε ρ:Type}{step:σ->a_ (Fw σ ε ρ)}:∀{k B:Nat}{s:σ}{r:Fw Empty ε ρ},k<=B->kC step k s=some r->kC step B s=some r
 |0,_,_,_,_,h=>by simp[kC]at h|k+1,0,_,_,hk,_=>Zaa|k+1,B+1,s,r,hk,h=>by simp only[kC]at h⊢;split at h;exact ze (Nat.le_of_succ_le_succ hk) h;exact h;exact h;simp at h
open Classical in
noncomputable def bW{σ ε ρ:Type}(step:σ->a_ (Fw σ ε ρ))(s:σ):a_ (Fw Empty ε ρ):=if h:∃k r,kC step k s=some r then some (Classical.choose (choose_spec h))else none
def pW{σ ε ρ:Type}{step:σ->a_ (Fw σ ε ρ)}{s:σ}{r:Fw Empty ε ρ}:bW step s=some r↔∃k,kC step k s=some r:=by
 unfold bW;constructor;intro h;split at h;next u=>simp only[ζa]at h;exact⟨_,by rw[<-h];exact choose_spec (choose_spec u)⟩
 simp at h;rintro⟨k,a⟩;have u:∃k r,kC step k s=some r:=⟨k,r,a⟩;rw[dif_pos u];have z:=choose_spec (choose_spec u);have B:=ze (Nat.le_max_left (Classical.choose u) k) z;have w:=ze (Nat.le_max_right (Classical.choose u) k) a;rw[B]at w;exact w
def Fw.out{ν ε ρ:Type}(B:ν->St)(eε:ε->Nat×St)(eρ:ρ->St):Fw ν ε ρ->Out×St
 |.n a=>(.norm,B a)|.x e=>(.exit (eε e).1,(eε e).2)|.r b=>(.ret,eρ b)
def Fw.elim{ε ρ γ:Type}(B:ε->γ)(fr:ρ->γ):Fw Empty ε ρ->γ
 |.x e=>B e|.r b=>fr b
end
section
variable{α:Type}[bD α]
def HU(s:Sl α):V.one (bZ s)=true:=by cases s<;>rfl
def Ql(l:aZ α):V.oq (rows l)=true:=by induction l with|nil=>rfl|cons a l u=>simp only[rows,map_cons,V.oq,ζh];exact⟨bD.good a,u⟩
def OO(s:Sl α):V.good (bZ s)=true:=by cases s<;>simp only[bZ,Sl.k,pI,V.good]<;>exact Ql _
instance:bD (Sl α)where
 cells s:=[bZ s]
 agg:=false
 size:=1
 len _:=rfl
 good s:=by simp only[V.cI,OO,Bool.and_self]
 one s:=by simp[HU]
 plain _:=rfl
end
section
variable{S:Sys}{c:cm}
def PK(x:a_ SV)(b:X')(y z:a_ St):a_ St:=
 match x with
 |some (.v (.bool t))=>bl (t==b) y z|some (.v _)=>z|_=>none
@[congr] def YZ{x B:a_ SV}{b:X'}{y z:a_ St}(h:x=B):PK x b y z=PK B b y z:=by rw[h]
def Va{β:Type}(x:a_ SV)(y z:a_ β):a_ β:=
 match x with
 |some (.v (.bool t))=>bl t y z|_=>none
@[congr] def Zh{β:Type}{x B:a_ SV}{y z:a_ β}(h:x=B):Va x y z=Va B y z:=by rw[h]
def jX(c:cm)(f:Y')(az:T2):a_ T2:=(c f (az.map .v) []).bind λr=>dc r.2 8 r.1
def Jw(now:X')(args:So)(ok:X')(st:St)(ys:T2):a_ (SV×St):=if(result ys).scalar||ok then some (.v (result ys),st)else if now then(rowsOf args).map λds=>(.v (result ys),{st with m:=o7 ds st.m})else none
def Mx(dst:a_ Nat)(dr now:X')(old:So->X')(f:Y')(args:So)(st:St)(a:S.E.keep f=false):
 fK S c dst dr now old f args st=(dc st.m 8 args).bind λaz=>if now||old args then(jX c f az).bind (Jw now args (dA args).isSome st)else none:=by
 unfold fK jX;simp only[a,Bool.false_eq_true,if_false]
 cases dc st.m 8 args with
 |none=>rfl|some az=>
  simp only[ζb];split
  .cases c f (az.map .v) []with
   |none=>rfl|some r=>have⟨rs,m'⟩:=r;simp only[ζb];cases dc m' 8 rs<;>rfl
  rfl
end
section
variable{S:Sys}{T:rC}
def Lo(rs:aZ RV):Out×St->a_ T2
 |(.exit _,_)=>none|(_,st)=>(lG st rs).bind (dc st.m 8)
def SP{f:Y'}{rf:RF}(B:T f=some rf)(az:T2)(D:az.length<=rf.na):jX (di S T) f az=go S (di S T) (Lo rf.rs) rf.body [] (start (az.map .v) []):=by unfold jX;rw[tC B];unfold ov;rw[if_pos (by simpa using D),<-JY];cases h:cR S (di S T) rf.body (start (az.map .v) [])with|none=>rfl|some r=>have⟨o,st⟩:=r;cases o<;>simp only[ζb,Lo]<;>(try rfl)<;>(cases lG st rf.rs<;>rfl)
end
end Go.VE
namespace Go.VE
variable[b8]
variable{N:Nat->Y'}
def AI(k:IntKind)(a b:Int):QQ:=if b=0 then none else some (k.wrap (a.tdiv b))
def X1(e:a_ KT)(q:a_ Nat)(k:IntKind)(a b:Int):bq N (.bin e q .quo) [.int k a,.int k b]=(AI k a b).bind λx=>some (.int k x):=by simp only[bq,iy,AI,if_true];split<;>rfl
def KO(o:Nat)(cs:T2):bq N (.fieldAddr o) [.fptr cs]=if o<=cs.length then some (.fptr (cs.drop o))else none:=rfl
def mj(s:U')(n:Int):QQ:=if 0<=n then(s[n.toNat]?).map λb=>(b.toNat:Int)else none
def P0(s:U')(k:IntKind)(n:Int):bq N .idxStr [.str s,.int k n]=(mj s n).bind λx=>some (.int .u8 x):=by simp only[bq,mj];split;cases s[n.toNat]?<;>rfl;rfl
def R6(z:T2)(pl:aZ (Nat×Nat))(vs:T2):bq N (.build z pl) vs=(lX z pl vs).bind λcs=>some (.agg cs):=by simp only[bq];cases lX z pl vs<;>rfl
section
variable{α:Type}[bD α]
def Gx(s:Sl α)(k:IntKind)(i:Int)(n:Nat)(B:n=bD.size α):bq N (.idxS n) [bZ s,.int k i]=(idx s i).bind λx=>some (.fptr (cells x)):=by rw[Sg s k i B];cases idx s i<;>rfl
def AT(s:Sl α):bq N .lenSl [bZ s]=some (.int .i64 s.l.length):=QL s
def Sl.isNil{α:Type}(s:Sl α):a_ X':=
 match s with
 |.nil=>some true|.emp=>none|_=>some false
def SF(q:a_ Nat)(s:Sl α):bq N (.bin (some .slice) q .eql) [bZ s,.bO]=s.isNil.bind λt=>some (.bool t):=by cases s<;>rfl
def Q6(q:a_ Nat)(s:Sl α):bq N (.bin (some .slice) q .neq) [bZ s,.bO]=s.isNil.bind λt=>some (.bool !t):=by cases s<;>rfl
def fS(s:Sl α)(lo hi:QQ):a_ (Sl α):=
 (eB s.l.length lo hi).map λ(l,h)=>match s with
  |.nil=>.nil|.emp=>.emp|.row x=>.part ((x.take h).drop l)|.part x=>.part ((x.take h).drop l)
def Ot(s:Sl α)(lo hi:QQ)(n:Nat)(B:n=bD.size α):iR n (bZ s) lo hi=(fS s lo hi).bind λx=>some (bZ x):=by subst B;cases s with|nil=>simp only[bZ,Sl.k,pI,iR,fS,Sl.l,length_nil];cases eB 0 lo hi<;>rfl|emp=>simp only[bZ,Sl.k,pI,iR,fS,Sl.l,length_nil];cases eB 0 lo hi<;>rfl|row l=>simp only[bZ,Sl.k,pI,iR,fS,Sl.l,if_true,iG];cases eB l.length lo hi<;>simp[rows,map_take,map_drop]|part l=>simp only[bZ,Sl.k,pI,iR,fS,Sl.l,if_true,iG];cases eB l.length lo hi<;>simp[rows,map_take,map_drop]
end
def PY(m:Tb bM)(n:Nat)(a:X')(cs:T2):o6 m (.load n a) [.v (.fptr cs)]=(cut cs 0 n).bind λr=>(mk a r).bind λx=>some (.v x):=by simp only[o6,eP];cases cut cs 0 n with|none=>rfl|some r=>simp only[ζb];cases mk a r<;>rfl
end Go.VE
namespace Go.VE
variable[b8]
section
variable{α:Type}[bD α]
def cK(s:Sl α):bM:=.sl s.k (bD.size α) (rows s.l)
def Sl.jc(s:Sl α)(i:Int):a_ Nat:=if 0<=i/\i.toNat<s.l.length then some i.toNat else none
def Sl.get(s:Sl α)(i:Nat):a_ α:=s.l[i]?
def Sl.put(s:Sl α)(i:Nat)(x:α):a_ (Sl α):=if i<s.l.length then some (match s with|.row l=>.row (l.set i x)|.part l=>.part (l.set i x)|s=>s)else none
def gC(s:Sl α)(x:α):a_ (Sl α):=if s.l.length+1<=2147483648 then some (.row (s.l++[x]))else none
def pe(n:Int)(z:α):a_ (Sl α):=if 0<=n/\n<=2147483648 then some (.row (replicate n.toNat z))else none
end
section
variable{α:Type}[bD α]{N:Nat->Y'}{m:Tb bM}
def Oa(n d:Nat)(o:a_ bM)(i:Int):a_ SV:=
 match o with
 |some (.sl k es u)=>if cT k/\es=n/\0<=i/\i.toNat<u.length then some (.el d i.toNat 0)else none|_=>none
def VU(n d:Nat)(k:IntKind)(i:Int):j8 N m (.idxS n) [.own d,.v (.int k i)]=Oa n d (bn m d) i:=by simp[j8,dA,yK,Oa];grind
def WQ(n d:Nat)(s:Sl α)(i:Int)(h:n=bD.size α):Oa n d (some (cK s)) i=(s.jc i).bind λj=>some (.el d j 0):=by simp[Oa,cK,iG,Sl.jc];cases s with|nil=>simp[Sl.l,cT]|emp=>simp[Sl.l,cT]|row l=>simp[Sl.k,Sl.l,cT];grind|part l=>simp[Sl.k,Sl.l,cT];grind
def N0(o:a_ bM):a_ SV:=
 match o with
 |some (.sl _ _ u)=>some (.v (.int .i64 u.length))|_=>none
def Tu(d:Nat):j8 N m .lenSl [.own d]=N0 (bn m d):=by simp[j8,dA,yK,N0];grind
def WL(s:Sl α):N0 (some (cK s))=some (.v (.int .i64 s.l.length)):=by simp[N0,cK,iG]
def Vk(n:Nat)(a:X')(o:Nat)(ob:a_ bM):a_ SV:=
 match ob with
 |some (.box cs)=>xh n a ((cs.drop o).take n)|_=>none
def aa6(n:Nat)(a:X')(d o:Nat):o6 m (.load n a) [.ptr d o]=Vk n a o (bn m d):=by rfl
def Qh(n:Nat)(a:X')(o:Nat)(cs:So):Vk n a o (some (.box cs))=xh n a ((cs.drop o).take n):=rfl
def JX(n:Nat)(a:X')(i o:Nat)(ob:a_ bM):a_ SV:=
 match ob with
 |some (.sl _ _ u)=>match u[i]?with
  |some cs=>((cut cs o n).bind (mk a)).map .v|none=>none
 |_=>none
def ZD(n:Nat)(a:X')(d i o:Nat):o6 m (.load n a) [.el d i o]=JX n a i o (bn m d):=by rfl
def PV(n:Nat)(a:X')(i o:Nat)(s:Sl α):JX n a i o (some (cK s))=(s.get i).bind λx=>(cut (cells x) o n).bind λr=>(mk a r).bind λy=>some (.v y):=by simp only[JX,cK,Sl.get,rows,List.getElem?_map];cases s.l[i]?with|none=>rfl|some x=>simp only[map_some,ζb];cases cut (cells x) o n with|none=>rfl|some r=>simp;cases mk a r<;>rfl
def aag(z:α)(n:Int)(d:Nat)(size:Nat)(zero:T2)(h:zero=cells z)(B:size=bD.size α):
 pq m (.makeSl size zero) [.v (.int .i64 n),.v (.int .i64 n)] d=(pe n z).bind λs=>some (cK s,.own d):=by
 subst h B;simp[pq,pe];split
 .simp[cK,Sl.k,Sl.l,rows]
 rfl
def Gl(st:St)(d i o size:Nat)(x:V)(ob:a_ bM):a_ (SV×St):=
 match ob with
 |some (.sl k es u)=>match u[i]?with
  |some cs=>if x.cells.length=size/\o+size<=cs.length/\x.cells.all V.one=true then
   some (.v .undef,{st with m:=bR st.m d (.sl k es (u.set i (cs.take o++x.cells++cs.drop (o+x.cells.length))))})else none
  |none=>none
 |_=>none
def Og(st:St)(dst:a_ Nat)(size d i o:Nat)(x:V):od st dst (.store size) [.el d i o,.v x]=Gl st d i o size x (bn st.m d):=by rfl
def OD(g:Tb SV)(p:S')(w:T')(B:X')(y:Nat)(d i size:Nat)(x:V)(a:α)(D:x.cells=cells a)(G:size=bD.size α)(s:Sl α):
 Gl ⟨g,m,p,w,B,y⟩ d i 0 size x (some (cK s))=(s.put i a).bind λJ=>some (.v .undef,⟨g,bR m d (cK J),p,w,B,y⟩):=by
 have c:(cells a).all V.one=true:=bD.one a;have u:∀b:α,(cells b).length=bD.size α:=bD.len;subst G;simp only[Gl,cK,rows,List.getElem?_map,D,Sl.put]
 by_cases hi:i<s.l.length
 .have hg:=ζd hi;rw[if_pos hi,hg];simp[u,c]
  cases s with
  |nil=>simp[Sl.l]at hi|emp=>simp[Sl.l]at hi|row l=>simp[Sl.k,Sl.l,List.drop_of_length_le,u]|part l=>simp[Sl.k,Sl.l,List.drop_of_length_le,u]
 grind
def Aj(st:St)(t n:Nat)(s:SV)(xs ys:a_ T'):a_ (SV×St):=
 match xs,ys with
 |some _,some []=>match s with
  |.own d=>match bn st.m d with
   |some ob=>if St.new {st with m:=eG d st.m} t then some (.own t,{st with m:=bR (eG d st.m) t ob})else none|none=>none
  |.v .bO=>if st.new t then some (.own t,{st with m:=bR st.m t (.sl .nil n [])})else none|.v .dS=>if st.new t then some (.own t,{st with m:=bR st.m t (.sl .emp n [])})else none|_=>none
 |some xs,some ys=>
  if xs.length+ys.length<=2147483648/\Kc s=true then
   if St.new {st with m:=giveUp st.m s} t then some (.own t,{st with m:=bR (giveUp st.m s) t (.sl .row n (xs++ys))})else none
  else none
 |_,_=>none
def B9(st:St)(t n:Nat)(s x:SV):od st (some t) (.append n) [s,x]=Aj st t n s (jI st.m n s) (jI st.m n x):=by cases s<;>cases x<;>(rfl)
def N8(n:Nat)(o:a_ bM):a_ T':=
 match o with
 |some (.sl k es u)=>if cT k then(if es=n then some u else none)else some []|_=>none
def Gj(n d:Nat):jI m n (.own d)=N8 n (bn m d):=by simp[jI,N8];grind
def Cs(n:Nat)(s:Sl α)(h:n=bD.size α):N8 n (some (cK s))=some (rows s.l):=by subst h;cases s<;>simp[N8,cK,Sl.k,Sl.l,cT,rows]
def V1(n:Nat):jI m n (.v .bO)=some []:=rfl
def Wu(n:Nat):jI m n (.v .dS)=some []:=rfl
def PE(g:Tb SV)(p:S')(w:T')(B:X')(y:Nat)(t n d:Nat)(l:aZ α)(x:α)(h:n=bD.size α):Aj ⟨g,m,p,w,B,y⟩ t n (.own d) (some (rows l)) (some (rows [x]))=
 (gC (.row l) x).bind λs=>if St.new ⟨g,eG d m,p,w,B,y⟩ t then some (.own t,⟨g,bR (eG d m) t (cK s),p,w,B,y⟩)else none:=by
 subst h;have e:(rows l).length+(rows [x]).length=l.length+1:=by simp[iG]
 by_cases h:l.length+1<=2147483648
 .have a:gC (.row l) x=some (.row (l++[x])):=if_pos h;have u:Aj ⟨g,m,p,w,B,y⟩ t (bD.size α) (.own d) (some (rows l)) (some (rows [x]))=if St.new ⟨g,eG d m,p,w,B,y⟩ t then some (.own t,⟨g,bR (eG d m) t (.sl .row (bD.size α) (rows l++rows [x])),p,w,B,y⟩)else none:=if_pos ⟨Zaa,rfl⟩
  rw[a,u];simp[cK,Sl.k,Sl.l,rows]
 have a:gC (.row l) x=none:=if_neg h;have u:Aj ⟨g,m,p,w,B,y⟩ t (bD.size α) (.own d) (some (rows l)) (some (rows [x]))=none:=if_neg (λq=>h Zaa)
 grind
def QD(g:Tb SV)(p:S')(w:T')(B:X')(y:Nat)(t n:Nat)(x:α)(h:n=bD.size α):Aj ⟨g,m,p,w,B,y⟩ t n (.v .bO) (some []) (some (rows [x]))=
 if St.new ⟨g,m,p,w,B,y⟩ t then some (.own t,⟨g,bR m t (cK (.row [x])),p,w,B,y⟩)else none:=by
 subst h;rfl
def Pq(g:Tb SV)(p:S')(w:T')(B:X')(y:Nat)(t n:Nat)(x:α)(h:n=bD.size α):Aj ⟨g,m,p,w,B,y⟩ t n (.v .dS) (some []) (some (rows [x]))=
 if St.new ⟨g,m,p,w,B,y⟩ t then some (.own t,⟨g,bR m t (cK (.row [x])),p,w,B,y⟩)else none:=by
 subst h;rfl
end
def zz(g:Tb SV)(m:Tb bM)(p:S')(w:T')(B:X')(y d:Nat):St.new ⟨g,m,p,w,B,y⟩ d=(!(p.contains d)&&(bn m d).isNone&& !(xe d g)&& !(uG d m)):=rfl
def tL(d:Nat):xe d []=false:=rfl
def rW(d n:Nat)(x:SV)(r:Tb SV):xe d ((n,x)::r)=(SV.c_ d x||xe d r):=rfl
def tI(d:Nat):uG d []=false:=rfl
def rZ(d n:Nat)(x:bM)(r:Tb bM):uG d ((n,x)::r)=(bM.c_ d x||uG d r):=rfl
def zu(d:Nat)(x:V):SV.c_ d (.v x)=false:=rfl
def uP(d e:Nat):SV.c_ d (.own e)=(e==d):=rfl
def uO(d e o:Nat):SV.c_ d (.ptr e o)=(e==d):=rfl
def xG(d e i o:Nat):SV.c_ d (.el e i o)=(e==d):=rfl
def xA(d e:Nat):SV.c_ d (.mp e)=(e==d):=rfl
def vq(d:Nat)(f:Y')(a b:So):SV.c_ d (.clo f a b)=(SV.dQ d a||SV.dQ d b):=rfl
def u7(d:Nat)(l:So):SV.c_ d (.tup l)=SV.dQ d l:=rfl
def tG(d:Nat):SV.dQ d []=false:=rfl
def rI(d:Nat)(x:SV)(r:So):SV.dQ d (x::r)=(SV.c_ d x||SV.dQ d r):=rfl
def tO(d:Nat)(cs:So):bM.c_ d (.box cs)=SV.dQ d cs:=rfl
def HR(m:Tb bM)(n:Nat):dc m n []=some []:=by cases n<;>simp[dc]
def FK(m:Tb bM)(n:Nat)(x:SV)(r:So):dc m n (x::r)=(shut m n x).bind λy=>(dc m n r).bind λs=>some (y::s):=by cases n<;>(simp[dc];cases shut m _ x<;>(try rfl)<;>(cases dc m _ r<;>rfl))
def Za(m:Tb bM)(n:Nat)(x:V):shut m n (.v x)=some x:=by cases n<;>simp[shut]
def T5(m:Tb bM)(n:Nat)(f:Y')(a b:So):shut m (n+1) (.clo f a b)=(dc m n a).bind λx=>(dc m n b).bind λy=>some (.clo f x y):=by simp[shut];cases dc m n a<;>(try rfl)<;>(cases dc m n b<;>rfl)
def SL(m:Tb bM)(n:Nat)(l:So):shut m (n+1) (.tup l)=(dc m n l).bind λx=>some (.tup x):=by simp[shut];cases dc m n l<;>rfl
def Ts(m:Tb bM)(n:Nat)(l:So):shut m (n+1) (.agg l)=(dc m n l).bind λx=>some (.agg x):=by simp[shut];cases dc m n l<;>rfl
def vm{α:Type}(n:Nat):eG n ([]:Tb α)=[]:=rfl
def tM{α:Type}(n k:Nat)(x:α)(r:Tb α):eG n ((k,x)::r)=if k=n then eG n r else(k,x)::eG n r:=rfl
def mapM_nil(f:So->So):mapM f []=[]:=rfl
section
variable{N:Nat->Y'}{m:Tb bM}
def VY:result []=.tup []:=rfl
def We(x:V):result [x]=x:=rfl
def WR(x y:V)(l:T2):result (x::y::l)=.tup (x::y::l):=rfl
def JK(p:wj)(a:V):j8 N m p [.v a]=(bq N p [a]).bind λx=>some (.v x):=MK N m p _ [a] rfl
def uX(p:wj)(a b:V):j8 N m p [.v a,.v b]=(bq N p [a,b]).bind λx=>some (.v x):=MK N m p _ [a,b] rfl
def nE(l:T2):dA (l.map .v)=some l:=by induction l with|nil=>rfl|cons a l u=>simp only[map_cons,dA,u];rfl
def wu(n:Nat)(l:T2):dc m n (l.map .v)=some l:=by induction l with|nil=>exact HR m n|cons a l u=>rw[map_cons,FK,Za,u];rfl
def Sl.Uv{α:Type}(l:aZ α):(Sl.row l).l=l:=rfl
def QK(cs:T2):lX cs [] []=some cs:=rfl
def NC(cs:T2)(off size:Nat)(pl:aZ (Nat×Nat))(v:V)(vs:T2):lX cs ((off,size)::pl) (v::vs)=
 if v.cells.length=size/\off+v.cells.length<=cs.length then lX (cs.take off++v.cells++cs.drop (off+v.cells.length)) pl vs else none:=by
 simp only[lX]
 by_cases h:v.cells.length=size<;>by_cases u:off+v.cells.length<=cs.length
 .rw[if_neg (by simp[h];omega),if_pos ⟨h,u⟩]
 .rw[if_pos (by simp[h];omega),if_neg (λq=>u q.2)]
 .rw[if_pos (by simp[h]),if_neg (λq=>h q.1)]
 rw[if_pos (by simp[h]),if_neg (λq=>h q.1)]
def Qn(k:IntKind)(n:Int):V.cells (.int k n)=[.int k n]:=rfl
def MP(n:X'):V.cells (.bool n)=[.bool n]:=rfl
def PN(n:U'):V.cells (.str n)=[.str n]:=rfl
def Pm:V.cells .bO=[.bO]:=rfl
def nT(k:IntKind)(n:Int):V.one (.int k n)=true:=rfl
def mH(n:X'):V.one (.bool n)=true:=rfl
def nU(n:U'):V.one (.str n)=true:=rfl
end
section
variable{S:Sys}{c:cm}{β γ δ:Type}{Q:Out×St->a_ β}{L:a_ β}{e:γ->a_ β}
def Qm{dr:X'}{fr:S'}{d:a_ Nat}{gd:a_ (Nat×X')}{now:X'}{k:K}{az:R0}{st:St}(h:wanted st.g gd=some true):
 ga S c dr fr ⟨d,gd,now,k,az,[],[]⟩ st=ga S c dr fr ⟨d,none,now,k,az,[],[]⟩ st:=by
 unfold ga;rw[h];rfl
def DL(dr:X')(st:St):Ee dr [] st=some st:=by cases dr<;>rfl
def nQ(f:SV->a_ V):So->a_ T2
 |[]=>some []|x::r=>(f x).bind λy=>(nQ f r).bind λs=>some (y::s)
def iV(m:Tb bM):Nat->SV->a_ V
 |0,x=>match x with
  |.v y=>some y|.own d=>match bn m d with
   |some (.sl k es xs)=>some (pI k es xs)|_=>none
  |.mp d=>match bn m d with
   |some (.mp B)=>some (.fmap B)|_=>none
  |_=>none
 |n+1,x=>match x with
  |.v y=>some y|.own d=>match bn m d with
   |some (.sl k es xs)=>some (pI k es xs)|_=>none
  |.ptr d o=>match bn m d with
   |some (.box cs)=>match nQ (iV m n) cs with
    |some xs=>if o<=xs.length then some (.fptr (xs.drop o))else none|none=>none
   |_=>none
  |.mp d=>match bn m d with
   |some (.mp B)=>some (.fmap B)|_=>none
  |.clo f a b=>(nQ (iV m n) a).bind λx=>(nQ (iV m n) b).bind λy=>some (.clo f x y)|.tup l=>(nQ (iV m n) l).bind λx=>some (.tup x)|.agg l=>(nQ (iV m n) l).bind λx=>some (.agg x)|_=>none
def xH(m:Tb bM):∀(n:Nat),(∀x,shut m n x=iV m n x)/\∀l,dc m n l=nQ (iV m n) l:=by
 have w:∀n,(∀x,shut m n x=iV m n x)->∀l,dc m n l=nQ (iV m n) l:=by intro n h l;induction l with|nil=>exact HR m n|cons a l u=>rw[FK,h a,u];rfl
 intro n;induction n with|zero=>have c:∀x,shut m 0 x=iV m 0 x:=(by intro x;cases x<;>simp[shut,iV]<;>rfl);grind|succ n u=>have e:∀x,shut m (n+1) x=iV m (n+1) x:=(by intro x;cases x with|ptr d o=>simp[shut,iV,u.2];rfl|clo f a b=>rw[T5,u.2,u.2];rfl|tup l=>rw[SL,u.2];rfl|agg l=>rw[Ts,u.2];rfl|_=>simp[shut,iV]<;>rfl);grind
noncomputable def wJ(S:Sys)(c:cm)(dr:X'):S'->SW->(St->a_ β)->St->a_ β
 |_,[],k,st=>k st|fr,o::r,k,st=>((Ee dr o.pre st).bind (ga S c dr fr o.strip)).bind λst'=>wJ S c dr (if dr then sM fr o.strip else fr) r k (qN o.dead st')
def GB(dr:X'):∀(l:SW)(fr:S')(k:St->a_ β)(st:St),wJ S c dr fr l k st=(oE S c dr fr l st).bind k
 |[],_,_,_=>rfl|o::r,fr,k,st=>by simp[wJ,oE];cases(Ee dr o.pre st).bind (ga S c dr fr o.strip)with|none=>rfl|some st'=>exact GB dr r _ k _
noncomputable def qH(S:Sys)(c:cm):RC->(St->a_ β)->(Nat->St->a_ β)->(St->a_ β)->St->a_ β
 |.skip,n,_,_,st=>n st|.ops l,n,_,_,st=>wJ S c false [] l n st|.qO l,n,_,_,st=>wJ S c true [] l n st|.seq a b,n,x,r,st=>qH S c a (λst=>qH S c b n x r st) x r st|.cond y a b,n,x,r,st=>match sx S.N st.g y with
  |some (.v (.bool t))=>bl t (qH S c a n x r st) (qH S c b n x r st)|_=>none
 |.block id a,n,x,r,st=>qH S c a n (λk st=>if k=id then n st else x k st) r st|.loop a,n,x,r,st=>(qb (cR S c a) st).bind λq=>match q with|(.norm,st)=>n st|(.exit k,st)=>x k st|(.ret,st)=>r st
 |.each g ps a b,n,x,r,st=>(cR S c (.each g ps a b) st).bind λq=>match q with|(.norm,st)=>n st|(.exit k,st)=>x k st|(.ret,st)=>r st
 |.exit k,_,x,_,st=>x k st|.ret,_,_,r,st=>r st|.gh g a,n,x,r,st=>(ghost g st).bind λst=>qH S c a n x r st|.hg a g,n,x,r,st=>qH S c a (λst=>(ghost g st).bind n) x r st
def F_(n:St->a_ β)(x:Nat->St->a_ β)(r:St->a_ β):Out×St->a_ β
 |(.norm,st)=>n st|(.exit k,st)=>x k st|(.ret,st)=>r st
def Fj:∀(d:RC)(n:St->a_ β)(x:Nat->St->a_ β)(r:St->a_ β)(st:St),qH S c d n x r st=(cR S c d st).bind (F_ n x r):=by
 intro d
 induction d with
 |skip=>intros;rfl|ops l=>intro n x r st;simp[qH,cR,GB];cases oE S c false [] l st<;>rfl|qO l=>intro n x r st;simp[qH,cR,GB];cases oE S c true [] l st<;>rfl|seq a b u w=>intro n x r st;simp[qH,cR,u,w];cases h:cR S c a st with|none=>rfl|some q=>have⟨o,st'⟩:=q;cases o<;>rfl
 |cond y a b u w=>
  intro n x r st;simp[qH,cR,u,w]
  cases sx S.N st.g y with
  |none=>rfl|some v=>cases v with
   |v z=>cases z with
    |bool t=>cases t<;>rfl|_=>rfl
   |_=>rfl
 |block id a B=>intro n x r st;simp[qH,cR,B];cases h:cR S c a st with|none=>rfl|some q=>have⟨o,st'⟩:=q;cases o with|exit k=>simp[F_];split<;>rfl|_=>rfl
 |loop a B=>intro n x r st;rfl|each g ps a b u w=>intro n x r st;rfl|exit k=>intros;rfl|ret=>intros;rfl|gh g a B=>simp[qH,cR,B];grind|hg a g B=>intro n x r st;simp[qH,cR,B];cases h:cR S c a st with|none=>rfl|some q=>have⟨o,st'⟩:=q;cases o with|norm=>simp[F_];cases ghost g st'<;>rfl|_=>rfl
section
variable(S c Q)
mutual
noncomputable def oa:Rd->St->a_ β
 |[]=>λst=>Q (.norm,st)|.seq b::fs=>λst=>qH S c b (oa fs) (n9 fs) (λst=>Q (.ret,st)) st|.blk _::fs=>oa fs|.gst g::fs=>λst=>(ghost g st).bind (oa fs)
noncomputable def n9:Rd->Nat->St->a_ β
 |[]=>λk st=>Q (.exit k,st)|.seq _::fs=>n9 fs|.blk id::fs=>λk st=>if k=id then oa fs st else n9 fs k st|.gst _::fs=>n9 fs
end
noncomputable def lM(a:RC)(fs:Rd)(st:St):a_ β:=qH S c a (oa S c Q fs) (n9 S c Q fs) (λst=>Q (.ret,st)) st
end
section
variable{dr:X'}{fr:S'}{d:Nat}{dst:a_ Nat}{now:X'}{az:R0}{st:St}{α:Type}[bD α]
def Nf{p:wj}{svs:So}{m:a_ δ}{v:δ->SV}(B:bY S.N st.g az=some svs)(hi:isSlice p=false)(h:j8 S.N st.m p svs=m.bind λx=>some (v x)):
 ga S c dr fr ⟨dst,none,now,.p p,az,[],[]⟩ st=m.bind λx=>some (cW st dst (v x)):=by
 rw[Vi _ _ _ _ _ _ _ hi,B]
 grind
def BS{p:wj}{svs:So}{v:SV}(B:bY S.N st.g az=some svs)(hi:isSlice p=false)(h:j8 S.N st.m p svs=some v):
 ga S c dr fr ⟨dst,none,now,.p p,az,[],[]⟩ st=some (cW st dst v):=by
 rw[Vi _ _ _ _ _ _ _ hi,B]
 grind
def UA{n:Nat}{s:Sl α}{k:IntKind}{i:Int}(B:bY S.N st.g az=some [.v (bZ s),.v (.int k i)])(D:n=bD.size α):
 ga S c dr fr ⟨dst,none,now,.p (.idxS n),az,[],[]⟩ st=(idx s i).bind λx=>some (cW st dst (.v (.fptr (cells x)))):=
 Nf B rfl (by rw[uX,Gx s k i n D];grind)
def Zw{n e:Nat}{s:Sl α}{k:IntKind}{i:Int}(B:bY S.N st.g az=some [.own e,.v (.int k i)])(D:bn st.m e=some (cK s))(G:n=bD.size α):
 ga S c dr fr ⟨dst,none,now,.p (.idxS n),az,[],[]⟩ st=(s.jc i).bind λj=>some (cW st dst (.el e j 0)):=
 Nf B rfl (by rw[VU,D,WQ n e s i G])
def UZ{s:Sl α}(B:bY S.N st.g az=some [.v (bZ s)]):ga S c dr fr ⟨dst,none,now,.p .lenSl,az,[],[]⟩ st=some (cW st dst (.v (.int .i64 s.l.length))):=BS B rfl (by rw[JK,AT];rfl)
def Zf{e:Nat}{s:Sl α}(B:bY S.N st.g az=some [.own e])(D:bn st.m e=some (cK s)):ga S c dr fr ⟨dst,none,now,.p .lenSl,az,[],[]⟩ st=some (cW st dst (.v (.int .i64 s.l.length))):=BS B rfl (by rw[Tu,D,WL])
def aak{q:a_ KT}{u:a_ Nat}{k:IntKind}{a b:Int}(B:bY S.N st.g az=some [.v (.int k a),.v (.int k b)]):ga S c dr fr ⟨dst,none,now,.p (.bin q u .quo),az,[],[]⟩ st=(AI k a b).bind λx=>some (cW st dst (.v (.int k x))):=Nf B rfl (by rw[uX,X1];grind)
def Wh{u:a_ Nat}{s:Sl α}(B:bY S.N st.g az=some [.v (bZ s),.v .bO]):ga S c dr fr ⟨dst,none,now,.p (.bin (some .slice) u .eql),az,[],[]⟩ st=s.isNil.bind λt=>some (cW st dst (.v (.bool t))):=Nf B rfl (by rw[uX,SF];grind)
def SR{u:a_ Nat}{s:Sl α}(B:bY S.N st.g az=some [.v (bZ s),.v .bO]):ga S c dr fr ⟨dst,none,now,.p (.bin (some .slice) u .neq),az,[],[]⟩ st=s.isNil.bind λt=>some (cW st dst (.v (.bool !t))):=Nf B rfl (by rw[uX,Q6];grind)
def TZ{s:U'}{k:IntKind}{n:Int}(B:bY S.N st.g az=some [.v (.str s),.v (.int k n)]):ga S c dr fr ⟨dst,none,now,.p .idxStr,az,[],[]⟩ st=(mj s n).bind λx=>some (cW st dst (.v (.int .u8 x))):=Nf B rfl (by rw[uX,P0];grind)
def Ye{n e i o:Nat}{a:X'}{s:Sl α}{v:α->V}(B:bY S.N st.g az=some [.el e i o])(hd:(!dr||now||fJ fr [.el e i o])=true)(D:bn st.m e=some (cK s))(b:∀x:α,(cut (cells x) o n).bind (mk a)=some (v x)):
 ga S c dr fr ⟨dst,none,now,.r (.load n a),az,[],[]⟩ st=(s.get i).bind λx=>some (cW st dst (.v (v x))):=by
 rw[C0,B];simp only[ζb,hd,ZD,D,PV]
 cases s.get i with
 |none=>rfl|some x=>
  cases d:cut (cells x) o n with
  |none=>grind|some r=>grind
def Mc{n e i:Nat}{s:Sl α}{x:V}{a:α}(B:bY S.N st.g az=some [.el e i 0,.v x])(hd:(!dr||now)=true)(D:bn st.m e=some (cK s))(G:x.cells=cells a)(J:n=bD.size α):
 ga S c dr fr ⟨dst,none,now,.l (.store n),az,[],[]⟩ st=(s.put i a).bind λU=>some (cW {st with m:=bR st.m e (cK U)} dst (.v .undef)):=by
 rw[yU,B];simp[hd,Og,D];rw[OD st.g st.pin st.want st.more st.yid e i n x a G J s]
 grind
def Yh{n:Nat}{z:α}{zero:T2}{i:Int}(B:bY S.N st.g az=some [.v (.int .i64 i),.v (.int .i64 i)])(D:zero=cells z)(G:n=bD.size α)(J:st.new d=true):
 ga S c dr fr ⟨some d,none,now,.a (.makeSl n zero),az,[],[]⟩ st=(pe i z).bind λs=>some {st with g:=bR st.g d (.own d),m:=bR st.m d (cK s)}:=by
 rw[Ai,B];simp[J];rw[aag z i d n zero D G]
 grind
def Z_{n e u:Nat}{s:Sl α}{x:α}(G:bY S.N st.g az=some [.own e,.own u])(hd:(!dr||now)=true)(J:bn st.m e=some (cK s))(a:bn st.m u=some (cK (.row [x])))(B:n=bD.size α)(U:St.new {st with m:=eG e st.m} d=true):
 ga S c dr fr ⟨some d,none,now,.l (.append n),az,[],[]⟩ st=(gC s x).bind λD=>some {st with g:=bR st.g d (.own d),m:=bR (eG e st.m) d (cK D)}:=by
 rw[yU,G];simp[hd,B9,Gj,J,a];rw[Cs n s B,Cs n (.row [x]) B];have:=PE (m:=st.m) st.g st.pin st.want st.more st.yid d n e s.l x B;simp[Sl.Uv];rw[this];have w:gC (.row s.l) x=gC s x:=by cases s<;>rfl
 rw[w]
 cases gC s x with
 |none=>rfl|some D=>simp;rw[if_pos U];rfl
def XX{n u:Nat}{x:α}{v:V}(a:v=.bO\/v=.dS)(G:bY S.N st.g az=some [.v v,.own u])(hd:(!dr||now)=true)(b:bn st.m u=some (cK (.row [x])))(B:n=bD.size α)(D:st.new d=true):
 ga S c dr fr ⟨some d,none,now,.l (.append n),az,[],[]⟩ st=some {st with g:=bR st.g d (.own d),m:=bR st.m d (cK (.row [x]))}:=by
 rw[yU,G];simp[hd,B9,Gj,b];rw[Cs n (.row [x]) B];simp[Sl.Uv];rcases a with rfl|rfl
 .rw[V1,QD (m:=st.m) st.g st.pin st.want st.more st.yid d n x B];rw[if_pos D];rfl
 rw[Wu,Pq (m:=st.m) st.g st.pin st.want st.more st.yid d n x B];rw[if_pos D];rfl
def YG{f:Y'}{svs args:So}{cs:T2}{m:a_ δ}{E:δ->T2}(a:jX c f cs=m.bind λr=>some (E r))(b:S.E.keep f=false)(D:bY S.N st.g az=some svs)(G:lS svs=some (f,args))
 (B:nQ (iV st.m 8) args=some cs)(J:((!dr||now)||gq st.m fr args)=true)(d:∀r,((result (E r)).scalar||(dA args).isSome)=true):
 ga S c dr fr ⟨dst,none,now,.c,az,[],[]⟩ st=m.bind λr=>some (cW st dst (.v (result (E r)))):=by
 rw[xm dr fr dst now az st svs f args D G,Mx _ _ _ _ _ _ _ b,(xH st.m 8).2,B];simp[J,a]
 cases m with
 |none=>rfl|some r=>
  simp[Jw]
  grind
end
end
section
variable{S:Sys}{c:cm}{β γ:Type}{Q:Out×St->a_ β}{L:a_ β}{e:γ->a_ β}
def qx(a:RC)(st:St):lM S c Q a [] st=(cR S c a st).bind Q:=by unfold lM;rw[Fj];congr 1;funext q;have⟨o,st⟩:=q;cases o<;>rfl
def Cn(a:RC)(st:St):cR S c a st=lM S c some a [] st:=by rw[qx];cases cR S c a st<;>rfl
def q_(rs:aZ RV):Out×St->a_ T2
 |(.exit _,_)=>none|(_,st)=>(lG st rs).bind (nQ (iV st.m 8))
def WB(rs:aZ RV):Lo rs=q_ rs:=by funext q;have⟨o,st⟩:=q;cases o;simp only[Lo,q_];congr 1;funext l;exact(xH st.m 8).2 l;rfl;simp only[Lo,q_];congr 1;funext l;exact(xH st.m 8).2 l
def WA{S:Sys}{T:rC}{f:Y'}{rf:RF}(B:T f=some rf)(az:T2)(D:az.length<=rf.na):jX (di S T) f az=lM S (di S T) (q_ rf.rs) rf.body [] (start (az.map .v) []):=by rw[SP B az D,<-JY,qx,WB]
end
def lH{α σ ε ρ:Type}(step:α->σ->a_ (Fw σ ε ρ)):aZ α->σ->a_ (Fw σ ε ρ)
 |[],s=>some (.n s)|x::xs,s=>(step x s).bind λw=>match w with
  |.n B=>lH step xs B|.x e=>some (.x e)|.r b=>some (.r b)
def Fw.rK{ν ε ρ γ:Type}(fn:ν->γ)(B:ε->γ)(fr:ρ->γ):Fw ν ε ρ->γ
 |.n a=>fn a|.x e=>B e|.r b=>fr b
def Fw.xQ{ν ε ρ:Type}(B:ν->Tb bM)(eε:ε->Nat×Tb bM)(eρ:ρ->Tb bM):Fw ν ε ρ->Out×Tb bM
 |.n a=>(.norm,B a)|.x e=>(.exit (eε e).1,(eε e).2)|.r b=>(.ret,eρ b)
def xQ(q:Out×St):a_ (Out×Tb bM):=some (q.1,q.2.m)
section
variable{S:Sys}{c:cm}{β γ:Type}{Q:Out×St->a_ β}{L:a_ β}{e:γ->a_ β}
noncomputable def AL(S:Sys)(c:cm)(b:RC):Out×St->a_ (Out×Tb bM)
 |(.norm,st)=>lM S c xQ b [] st|_=>none
def Oh(ps:S')(a b:RC)(st:St)(x:T2)(m:Tb bM)(B:x.length=ps.length):
 jv ps (cR S c a) (cR S c b) st x m=lM S c (AL S c b) a [] ⟨yx st.g ps (x.map .v),m,st.pin++rB st.g,[],true,0⟩:=by
 unfold jv;rw[if_pos B,qx]
 cases cR S c a ⟨yx st.g ps (x.map .v),m,st.pin++rB st.g,[],true,0⟩with
 |none=>rfl|some q=>
  have⟨o,u⟩:=q
  cases o with
  |norm=>simp only[ζb,AL];rw[qx];cases cR S c b u<;>rfl|_=>rfl
end
def Le{α:Type}(a b:a_ α):Prop:=∀r,a=some r->b=some r
section
variable{α:Type}
def Le.refl(a:a_ α):Le a a:=λ_ h=>h
def Le.of_eq{a b:a_ α}(h:b=a):Le a b:=λ_ u=>h.trans u
def Le.trans{a b d:a_ α}(c:Le a b)(B:Le b d):Le a d:=λr h=>B r (c r h)
def Le.none(b:a_ α):Le (none:a_ α) b:=λr h=>by cases h
def Le.bind{β:Type}{a b:a_ α}{f g:α->a_ β}(h:Le a b)(B:∀x,Le (f x) (g x)):Le (a.bind f) (b.bind g):=λr c=>by have⟨x,d,u⟩:=ζg.1 c;rw[h x d];exact B x r u
end
section
variable{S:Sys}{c:cm}{β γ δ:Type}{Q:Out×St->a_ β}{L:a_ β}{e:γ->a_ β}
def Ky{dr:X'}{fr:S'}{dst:a_ Nat}{now:X'}{az:R0}{st:St}{f:Y'}{svs args:So}{cs:T2}{m:a_ δ}{E:δ->T2}(a:Le (m.bind λr=>some (E r)) (jX c f cs))(b:S.E.keep f=false)(D:bY S.N st.g az=some svs)(G:lS svs=some (f,args))
 (B:nQ (iV st.m 8) args=some cs)(J:((!dr||now)||gq st.m fr args)=true)(d:∀r,((result (E r)).scalar||(dA args).isSome)=true):
 Le (m.bind λr=>some (cW st dst (.v (result (E r))))) (ga S c dr fr ⟨dst,none,now,.c,az,[],[]⟩ st):=by
 intro q w;have⟨r,e,z⟩:=ζg.1 w;have u:jX c f cs=(some r).bind λr=>some (E r):=a _ (by rw[e];rfl)
 rw[YG (m:=some r) u b D G B J d];exact z
def TI{σ ε ρ:Type}{f:St->a_ (Out×St)}{step:σ->a_ (Fw σ ε ρ)}{eσ:σ->St}{eε:ε->Nat×St}{eρ:ρ->St}(h:∀s,Le ((step s).bind λw=>some (Fw.out eσ eε eρ w)) (f (eσ s)))(s:σ):
 Le ((bW step s).bind λw=>some (Fw.out (λe=>Empty.elim e) eε eρ w)) (qb f (eσ s)):=by
 have key:∀k s r,kC step k s=some r->jV f k (eσ s)=some (Fw.out (λe=>Empty.elim e) eε eρ r):=by intro k;induction k with|zero=>intro s r h;simp[kC]at h|succ k C=>intro s r u;simp only[kC]at u;cases z:step s with|none=>rw[z]at u;cases u|some w=>rw[z]at u;have B:=h s (Fw.out eσ eε eρ w) (by rw[z];rfl);simp only[jV,B];cases w with|n a=>exact C a r u|x e=>cases u;rfl|r b=>cases u;rfl
 intro r c;have⟨w,d,B⟩:=ζg.1 c;have⟨k,g⟩:=pW.1 d;cases B;exact oh.2 ⟨k,key k s w g⟩
def ZI{σ ε ρ:Type}{a:RC}{fs:Rd}{step:σ->a_ (Fw σ ε ρ)}{eσ:σ->St}{eε:ε->Nat×St}{eρ:ρ->St}{s:σ}{B:ε->a_ γ}{fr:ρ->a_ γ}
 (D:L=lM S c Q (.loop a) fs (eσ s))(h:∀s,Le ((step s).bind λw=>some (Fw.out eσ eε eρ w)) (lM S c some a [] (eσ s)))
 (G:∀x,Le ((B x).bind e) (n9 S c Q fs (eε x).1 (eε x).2))(d:∀b,Le ((fr b).bind e) (Q (.ret,eρ b))):Le (((bW step s).bind (Fw.elim B fr)).bind e) L:=by
 subst D;have g:lM S c Q (.loop a) fs (eσ s)=(qb (cR S c a) (eσ s)).bind (F_ (oa S c Q fs) (n9 S c Q fs) (λst=>Q (.ret,st))):=by unfold lM;rw[Fj];rfl
 rw[g];have u:=TI (step:=step) (f:=cR S c a) (eσ:=eσ) (eε:=eε) (eρ:=eρ) (λs=>by rw[Cn];exact h s) s
 cases z:bW step s with
 |none=>exact Le.none _|some w=>
  have C:=u _ (by rw[z];rfl)
  rw[C]
  cases w with
  |n a=>cases a|x a=>exact G a|r a=>exact d a
def Kn{α σ ε ρ:Type}{f:T2->Tb bM->a_ (Out×Tb bM)}{step:α->σ->a_ (Fw σ ε ρ)}{eI:α->T2}{eσ:σ->Tb bM}{eε:ε->Nat×Tb bM}{eρ:ρ->Tb bM}
 (h:∀x s,Le ((step x s).bind λw=>some (Fw.xQ eσ eε eρ w)) (f (eI x) (eσ s))):∀(xs:aZ α)(s:σ),Le ((lH step xs s).bind λw=>some (Fw.xQ eσ eε eρ w)) (si f (xs.map eI) (eσ s))
 |[],s=>λr a=>a|x::xs,s=>by simp only[map_cons,si,lH];cases B:step x s with|none=>exact Le.none _|some w=>have D:=h x s (Fw.xQ eσ eε eρ w) (by rw[B];rfl);rw[D];cases w with|n u=>simp only[ζb,Fw.xQ];exact Kn h xs u|x e=>exact Le.refl _|r b=>exact Le.refl _
def Zs{α σ ε ρ:Type}{g:Arg}{ps:S'}{a b:RC}{fs:Rd}{f:Y'}{x y:T2}{d:aZ α}{eI:α->T2}{step:α->σ->a_ (Fw σ ε ρ)}{eσ:σ->Tb bM}{eε:ε->Nat×Tb bM}{eρ:ρ->Tb bM}{i:Tb SV}{s:σ}
 {fn:σ->a_ γ}{B:ε->a_ γ}{fr:ρ->a_ γ}
 (D:L=lM S c Q (.each g ps a b) fs ⟨i,eσ s,[],[],true,0⟩)(j:sx S.N i g=some (.v (.clo f x y)))(hi:S.items f x y=some (d.map eI))(G:∀x,(eI x).length=ps.length)
 (h:∀x s,Le ((step x s).bind λw=>some (Fw.xQ eσ eε eρ w)) (lM S c (AL S c b) a [] ⟨yx i ps ((eI x).map .v),eσ s,rB i,[],true,0⟩))
 (J:∀s,Le ((fn s).bind e) (oa S c Q fs ⟨i,eσ s,[],[],true,0⟩))
 (U:∀x,Le ((B x).bind e) (n9 S c Q fs (eε x).1 ⟨i,(eε x).2,[],[],true,0⟩))(k:∀b,Le ((fr b).bind e) (Q (.ret,⟨i,eρ b,[],[],true,0⟩))):
 Le (((lH step d s).bind (Fw.rK fn B fr)).bind e) L:=by
 subst D;have l:lM S c Q (.each g ps a b) fs ⟨i,eσ s,[],[],true,0⟩=(cR S c (.each g ps a b) ⟨i,eσ s,[],[],true,0⟩).bind (F_ (oa S c Q fs) (n9 S c Q fs) (λst=>Q (.ret,st))):=by unfold lM;rw[Fj]
 rw[l];simp only[cR,j,hi];have u:=Kn (step:=step) (f:=jv ps (cR S c a) (cR S c b) ⟨i,eσ s,[],[],true,0⟩) (eI:=eI) (eσ:=eσ) (eε:=eε) (eρ:=eρ) (λx s=>by rw[Oh _ _ _ _ _ _ (G x)];exact h x s) d s
 cases z:lH step d s with
 |none=>exact Le.none _|some w=>
  have C:=u _ (by rw[z];rfl)
  rw[C]
  cases w with
  |n a=>exact J a|x a=>exact U a|r a=>exact k a
end
inductive Fo where
 |rc(c:RC)|ops(dr:Bool)(fr:List Nat)(l:List RO)|nx|ex(k:Nat)|rt
abbrev bL(g:Tb SV)(m:Tb bM):St:=⟨g,m,[],[],true,0⟩
section
variable(S:Sys)(c:cm){β:Type}(Q:Out×St->a_ β)
noncomputable def rn:Fo->Rd->St->a_ β
 |.rc a,fs,st=>lM S c Q a fs st|.ops dr fr l,fs,st=>wJ S c dr fr l (oa S c Q fs) st|.nx,fs,st=>oa S c Q fs st|.ex k,fs,st=>n9 S c Q fs k st|.rt,_,st=>Q (.ret,st)
noncomputable def Af:Fo->Rd->St->a_ (Fo×Rd×St)
 |.rc .skip,fs,st=>some (.nx,fs,st)|.rc (.ops l),fs,st=>some (.ops false [] l,fs,st)|.rc (.qO l),fs,st=>some (.ops true [] l,fs,st)|.rc (.seq a b),fs,st=>some (.rc a,.seq b::fs,st)|.rc (.cond y a b),fs,st=>match sx S.N st.g y with
  |some (.v (.bool true))=>some (.rc a,fs,st)|some (.v (.bool false))=>some (.rc b,fs,st)|_=>none
 |.rc (.block id a),fs,st=>some (.rc a,.blk id::fs,st)|.rc (.exit k),fs,st=>some (.ex k,fs,st)|.rc .ret,fs,st=>some (.rt,fs,st)|.rc (.gh g a),fs,st=>match ghost g st with
  |some st'=>some (.rc a,fs,st')|none=>none
 |.rc (.hg a g),fs,st=>some (.rc a,.gst g::fs,st)|.rc (.loop _),_,_=>none|.rc (.each ..),_,_=>none|.ops _ _ [],fs,st=>some (.nx,fs,st)|.ops dr fr (⟨d,gd,now,k,az,dd,[]⟩::r),fs,st=>match ga S c dr fr ⟨d,gd,now,k,az,[],[]⟩ st with
  |some st'=>some (.ops dr (if dr then sM fr ⟨d,gd,now,k,az,[],[]⟩else fr) r,fs,qN dd st')|none=>none
 |.ops dr fr (⟨d,gd,now,k,az,dd,x::xs⟩::r),fs,st=>if dr&& !(BY x&&xs.all BY)then none else match ghost x st with
  |some st'=>some (.ops dr fr (⟨d,gd,now,k,az,dd,xs⟩::r),fs,st')|none=>none
 |.nx,.seq b::fs,st=>some (.rc b,fs,st)|.nx,.blk _::fs,st=>some (.nx,fs,st)|.nx,.gst g::fs,st=>match ghost g st with
  |some st'=>some (.nx,fs,st')|none=>none
 |.nx,[],_=>none|.ex k,.seq _::fs,st=>some (.ex k,fs,st)|.ex k,.blk id::fs,st=>some (if k=id then .nx else .ex k,fs,st)|.ex k,.gst _::fs,st=>some (.ex k,fs,st)|.ex _,[],_=>none|.rt,_,_=>none
noncomputable def iK:Nat->Fo->Rd->St->a_ (Fo×Rd×St)
 |0,fo,fs,st=>some (fo,fs,st)|n+1,fo,fs,st=>match Af S c fo fs st with
  |some (fo',fs',st')=>iK n fo' fs' st'|none=>none
end
section
variable{S:Sys}{c:cm}{β γ δ:Type}{Q:Out×St->a_ β}{e:γ->a_ β}
def Tt{fo fo':Fo}{fs fs':Rd}{st st':St}(h:Af S c fo fs st=some (fo',fs',st')):rn S c Q fo fs st=rn S c Q fo' fs' st':=by
 cases fo with
 |rc a=>cases a with|cond y a b=>simp only[Af]at h;split at h;(next u=>cases h;simp only[rn,lM,qH,u,bl,if_true]);(next u=>cases h;simp only[rn,lM,qH,u,bl];rfl);cases h|gh g a=>simp only[Af]at h;split at h;(next u=>cases h;simp only[rn,lM,qH,u,ζb]);cases h|loop a=>cases h|each g ps a b=>cases h|seq a b=>cases h;simp only[rn,lM,qH,oa,n9]|block id a=>cases h;simp only[rn,lM,qH,oa,n9]|hg a g=>cases h;simp only[rn,lM,qH,oa,n9]|_=>cases h;simp only[rn,lM,qH]
 |ops dr fr l=>cases l with|nil=>cases h;simp only[rn,wJ]|cons o r=>have⟨d,gd,now,k,az,dd,pre⟩:=o;cases pre with|nil=>simp only[Af]at h;split at h;(next u=>cases h;simp only[rn,wJ,DL,RO.strip,ζb,u]);cases h|cons x w=>simp only[Af]at h;split at h;cases h;rename_i hd;split at h;rename_i u;cases h;(cases dr with|true=>simp only[Bool.true_and,Bool.not_eq_true',Bool.not_eq_false,ζh]at hd;simp only[rn,wJ,RO.strip,Ee,qf,if_true,List.all_cons,hd.1,hd.2,Bool.and_self,u,ζb]|false=>simp only[rn,wJ,RO.strip,Ee,qf,Bool.false_eq_true,if_false,u,ζb]);cases h
 |nx=>cases fs with|nil=>cases h|cons f fs=>cases f with|seq b=>cases h;simp only[rn,lM,oa]|blk id=>cases h;simp only[rn,oa]|gst g=>simp only[Af]at h;split at h;(next u=>cases h;simp only[rn,oa,u,ζb]);cases h
 |ex k=>cases fs with|nil=>cases h|cons f fs=>cases f with|seq b=>cases h;simp only[rn,n9]|blk id=>cases h;simp only[rn,n9];by_cases e:k=id;simp only[if_pos e,rn];simp only[if_neg e,rn]|gst g=>cases h;simp only[rn,n9]
 |rt=>cases h
def qj:∀{n:Nat}{fo fo':Fo}{fs fs':Rd}{st st':St},iK S c n fo fs st=some (fo',fs',st')->rn S c Q fo fs st=rn S c Q fo' fs' st'
 |0,fo,fo',fs,fs',st,st',h=>by cases h;rfl|n+1,fo,fo',fs,fs',st,st',h=>by simp only[iK]at h;split at h;(next a b d B=>rw[Tt B];exact qj h);cases h
def Bi{n:Nat}{fo fo':Fo}{fs fs':Rd}{st st':St}{m:a_ β}(h:iK S c n fo fs st=some (fo',fs',st'))(B:Le m (rn S c Q fo' fs' st')):Le m (rn S c Q fo fs st):=by rw[qj h];exact B
def abb{n:Nat}{fo fo':Fo}{fs fs':Rd}{st st':St}{r:γ}(h:iK S c n fo fs st=some (fo',fs',st'))(B:rn S c Q fo' fs' st'=e r):Le ((some r).bind e) (rn S c Q fo fs st):=by rw[qj h];exact Le.of_eq B
def Uu{m:a_ δ}{f:δ->a_ γ}{L:a_ β}(k:δ->a_ β)(B:Le (m.bind k) L)(b:∀r,Le ((f r).bind e) (k r)):Le ((m.bind f).bind e) L:=by intro r a;cases m with|none=>cases a|some x=>exact B r (b x r a)
def aa8{n:Nat}{fo:Fo}{fs fs':Rd}{st0:St}{dr:X'}{q l:SW}{fr:S'}{st:St}{d:a_ Nat}{gd:a_ (Nat×X')}{now:X'}{k:K}{az:R0}{dd:S'}{m:a_ δ}{g:δ->St}{f:δ->a_ γ}
 (B:iK S c n fo fs st0=some (.ops dr fr q,fs',st))(D:q=⟨d,gd,now,k,az,dd,[]⟩::l)(a:wanted st.g gd=some true)
 (G:Le (m.bind λx=>some (g x)) (ga S c dr fr ⟨d,none,now,k,az,[],[]⟩ st))
 (h:∀x,m=some x->Le ((f x).bind e) (rn S c Q (.ops dr (if dr then sM fr ⟨d,gd,now,k,az,[],[]⟩else fr) l) fs' (qN dd (g x)))):Le ((m.bind f).bind e) (rn S c Q fo fs st0):=by
 rw[qj B];subst D;simp only[rn,wJ,RO.strip,DL,ζb];rw[Qm a]
 cases m with
 |none=>exact Le.none _|some x=>rw[G (g x) rfl];exact h x rfl
def Vg{n:Nat}{fo:Fo}{fs fs':Rd}{st0:St}{dr:X'}{q l:SW}{fr:S'}{st st':St}{d:a_ Nat}{gd:a_ (Nat×X')}{now:X'}{k:K}{az:R0}{dd:S'}{m:a_ β}
 (B:iK S c n fo fs st0=some (.ops dr fr q,fs',st))(D:q=⟨d,gd,now,k,az,dd,[]⟩::l)(a:wanted st.g gd=some true)
 (G:ga S c dr fr ⟨d,none,now,k,az,[],[]⟩ st=some st')
 (h:Le m (rn S c Q (.ops dr (if dr then sM fr ⟨d,gd,now,k,az,[],[]⟩else fr) l) fs' (qN dd st'))):Le m (rn S c Q fo fs st0):=by
 rw[qj B];subst D;simp only[rn,wJ,RO.strip,DL,ζb];rw[Qm a,G];exact h
def Py{n:Nat}{fo:Fo}{B:Rd}{st:St}{σ ε ρ:Type}{a:RC}{fs:Rd}{step:σ->a_ (Fw σ ε ρ)}{eσ:σ->St}{eε:ε->Nat×St}{eρ:ρ->St}{s:σ}{D:ε->a_ γ}{fr:ρ->a_ γ}
 (G:iK S c n fo B st=some (.rc (.loop a),fs,eσ s))(h:∀s,Le ((step s).bind λw=>some (Fw.out eσ eε eρ w)) (rn S c some (.rc a) [] (eσ s)))
 (J:∀x,Le ((D x).bind e) (rn S c Q (.ex (eε x).1) fs (eε x).2))(d:∀b,Le ((fr b).bind e) (Q (.ret,eρ b))):Le (((bW step s).bind (Fw.elim D fr)).bind e) (rn S c Q fo B st):=by
 rw[qj G];exact ZI (L:=rn S c Q (.rc (.loop a)) fs (eσ s)) rfl h J d
def Y6{n:Nat}{fo:Fo}{B:Rd}{st:St}{α σ ε ρ:Type}{g:Arg}{ps:S'}{a b:RC}{fs:Rd}{f:Y'}{x y:T2}{d:aZ α}{eI:α->T2}{step:α->σ->a_ (Fw σ ε ρ)}{eσ:σ->Tb bM}{eε:ε->Nat×Tb bM}{eρ:ρ->Tb bM}{i:Tb SV}{s:σ}
 {fn:σ->a_ γ}{D:ε->a_ γ}{fr:ρ->a_ γ}
 (G:iK S c n fo B st=some (.rc (.each g ps a b),fs,bL i (eσ s)))(j:sx S.N i g=some (.v (.clo f x y)))(hi:S.items f x y=some (d.map eI))(J:∀x,(eI x).length=ps.length)
 (h:∀x s,Le ((step x s).bind λw=>some (Fw.xQ eσ eε eρ w)) (rn S c (AL S c b) (.rc a) [] ⟨yx i ps ((eI x).map .v),eσ s,rB i,[],true,0⟩))
 (U:∀s,Le ((fn s).bind e) (rn S c Q .nx fs (bL i (eσ s))))
 (W:∀x,Le ((D x).bind e) (rn S c Q (.ex (eε x).1) fs (bL i (eε x).2)))(k:∀b,Le ((fr b).bind e) (Q (.ret,bL i (eρ b)))):
 Le (((lH step d s).bind (Fw.rK fn D fr)).bind e) (rn S c Q fo B st):=by
 rw[qj G];exact Zs (L:=rn S c Q (.rc (.each g ps a b)) fs (bL i (eσ s))) rfl j hi J h U W k
def YX{b:RC}{st st':St}{m:a_ (Out×Tb bM)}{fs:Rd}{n:Nat}{fo:Fo}(h:iK S c n fo fs st=some (.nx,[],st'))(B:Le m (rn S c xQ (.rc b) [] st')):Le m (rn S c (AL S c b) fo fs st):=by rw[qj h];exact B
def ZS{α:Type}{n:Nat}{fo fo':Fo}{fs fs':Rd}{st:St}{A:a_ α->St}{o:a_ α}{f:α->a_ γ}(h:iK S c n fo fs st=some (fo',fs',A o))
 (B:∀x,o=some x->Le ((f x).bind e) (rn S c Q fo' fs' (A (some x)))):Le ((o.bind f).bind e) (rn S c Q fo fs st):=by
 rw[qj h]
 cases o with
 |none=>exact Le.none _|some x=>exact B x rfl
def aa5{T:rC}{f:Y'}{rf:RF}{az:T2}{m:a_ T2}(B:T f=some rf)(D:az.length<=rf.na)(h:Le m (rn S (di S T) (q_ rf.rs) (.rc rf.body) [] (start (az.map .v) []))):Le m (jX (di S T) f az):=by rw[WA B az D];exact h
end
section
variable{α:Type}[bD α]
abbrev cv(x:α):SV:=.v (enc x)
abbrev cp(x:α):SV:=.v (.fptr (cells x))
abbrev bx(x:α):bM:=.box ((cells x).map .v)
end
structure h_(S:Sys)(c:cm){α δ:Type}(fn:FuncId)(A:α->List V)(E:δ->List V)(p:α->Option δ)(sc:Bool):Prop where
 k:S.E.keep fn=false
 h:∀z,Le ((p z).bind λr=>some (E r)) (jX c fn (A z))
 s:sc=true->∀r,(result (E r)).scalar=true
section
variable{S:Sys}{c:cm}{β γ δ α:Type}{Q:Out×St->a_ β}{e:γ->a_ β}{fo:Fo}{fs:Rd}{st0:St}{l:SW}{d:a_ Nat}{gd:a_ (Nat×X')}{now:X'}{az:R0}{dd:S'}
noncomputable abbrev ud(S:Sys)(c:cm)(Q:Out×St->a_ β)(dr:X')(fr:S')(d:a_ Nat)(k:K)(l:SW)(fs:Rd)(dd:S')(st:St):a_ β:=rn S c Q (.ops dr (if dr then(match k with|.p _|.r _=>fr|_=>match d with|some d=>d::fr|none=>fr)else fr) l) fs (qN dd st)
def GQ(fr:S')(k:K):sM fr ⟨d,gd,now,k,az,[],[]⟩=(match k with|.p _|.r _=>fr|_=>match d with|some d=>d::fr|none=>fr):=by cases k<;>cases d<;>rfl
def Dw{n:Nat}{dr:X'}{fr:S'}{q:SW}{fs':Rd}{st:St}{k:K}{m:a_ δ}{g:δ->St}{f:δ->a_ γ}
 (B:iK S c n fo fs st0=some (.ops dr fr q,fs',st))(D:q=⟨d,gd,now,k,az,dd,[]⟩::l)(a:wanted st.g gd=some true)
 (G:Le (m.bind λx=>some (g x)) (ga S c dr fr ⟨d,none,now,k,az,[],[]⟩ st))
 (h:∀x,m=some x->Le ((f x).bind e) (ud S c Q dr fr d k l fs' dd (g x))):Le ((m.bind f).bind e) (rn S c Q fo fs st0):=
 aa8 B D a G (λx u=>by rw[GQ];grind)
def sX{n:Nat}{dr:X'}{fr:S'}{q:SW}{fs':Rd}{st st':St}{k:K}{m:a_ β}
 (B:iK S c n fo fs st0=some (.ops dr fr q,fs',st))(D:q=⟨d,gd,now,k,az,dd,[]⟩::l)(a:wanted st.g gd=some true)
 (G:ga S c dr fr ⟨d,none,now,k,az,[],[]⟩ st=some st')(h:Le m (ud S c Q dr fr d k l fs' dd st')):Le m (rn S c Q fo fs st0):=
 Vg B D a G (by rw[GQ];omega)
section
variable[bD α]
def SZ(n:Nat)(dr:X')(fr:S')(q:SW)(fs':Rd)(st:St)(k:IntKind){sz:Nat}{s:Sl α}{i:Int}{f:α->a_ γ}(D:q=⟨d,gd,now,.p (.idxS sz),az,dd,[]⟩::l)
 (B:(iK S c n fo fs st0,wanted st.g gd,bY S.N st.g az,sz)=(some (.ops dr fr q,fs',st),some true,some [.v (bZ s),.v (.int k i)],bD.size α))
 (h:∀x,idx s i=some x->Le ((f x).bind e) (ud S c Q dr fr d (.p (.idxS sz)) l fs' dd (cW st d (cp x)))):Le (((idx s i).bind f).bind e) (rn S c Q fo fs st0):=by
 simp at B;exact Dw B.1 D B.2.1 (Le.of_eq (UA B.2.2.1 B.2.2.2)) h
def YP(n:Nat)(dr:X')(fr:S')(q:SW)(fs':Rd)(st:St)(s:Sl α){m:a_ β}(D:q=⟨d,gd,now,.p .lenSl,az,dd,[]⟩::l)
 (B:(iK S c n fo fs st0,wanted st.g gd,bY S.N st.g az)=(some (.ops dr fr q,fs',st),some true,some [.v (bZ s)]))
 (h:Le m (ud S c Q dr fr d (.p .lenSl) l fs' dd (cW st d (.v (.int .i64 s.l.length))))):Le m (rn S c Q fo fs st0):=by
 simp at B;exact sX B.1 D B.2.1 (UZ B.2.2) h
end
section
variable{q:SW}{fs':Rd}
end
def K5(m:Tb bM)(n:Nat)(l:T2):nQ (iV m n) (l.map .v)=some l:=by rw[<-(xH m n).2,wu]
variable{A:α->T2}{E:δ->T2}{p:α->a_ δ}{fn:Y'}{sc:X'}
end
abbrev iv(n:Int):SV:=.v (.int .i64 n)
abbrev bv(b:Bool):SV:=.v (.bool b)
abbrev len{α:Type}(s:Sl α):Int:=((List.length (Sl.l s):Nat):Int)
abbrev o1(d:Nat)(a:Arg)(dd:aZ Nat):RO:=⟨some d,none,false,.p .id,[a],dd,[]⟩
abbrev o2(d:Nat)(k:K)(az:aZ Arg)(dd:aZ Nat):RO:=⟨some d,none,false,k,az,dd,[]⟩
abbrev o3(d s:Nat)(b:Bool)(k:K)(az:aZ Arg)(dd:aZ Nat):RO:=⟨some d,some (s,b),false,k,az,dd,[]⟩
def Ml(a b:bf):X':=[a.proc,a.index]==[b.proc,b.index]
section
variable{α:Type}[bD α]
def vO(h:bD.agg α=false)(a:α):cells a=[enc a]:=by
 have u:(cells a).length=1:=by rw[show(cells a).length=_ from bD.len a,bD.plain h]
 unfold enc;rw[if_neg (by simp[h])];match b:cells a,u with|[x],_=>rfl
def CL(h:bD.agg α=true)(a:α):enc a=.agg (cells a):=by unfold enc;grind
def kf(a:α):V.good (enc a)=true:=by have h:V.cI (cells a)=true:=bD.good a;cases u:bD.agg α with|true=>rw[CL u];exact h|false=>rw[vO u]at h;simp[V.cI]at h;omega
def nH(s:Sl α):V.one (enc s)=true:=HU s
def Tc(s:α)(h:bD.agg α=false):V.one (enc s)=true:=by have:=bD.one s;rw[show bD.cells s=cells s from rfl,vO h]at this;grind
end
instance{α:Type}[bD α]:bD (a_ α)where
 cells o:=[match o with|none=>.iT|some x=>.fptr (cells x)]
 agg:=false
 size:=1
 len _:=rfl
 good o:=by cases o with|none=>rfl|some x=>simp only[V.cI,V.good,Bool.and_true];exact bD.good x
 one o:=by cases o<;>rfl
 plain _:=rfl
structure U8 where
 v:Int
 deriving Inhabited,DecidableEq
instance:bD U8 where
 cells n:=[.int .u8 n.v]
 agg:=false
 size:=1
 len _:=rfl
 good _:=rfl
 one _:=rfl
 plain _:=rfl
structure U64 where
 v:Int
 deriving Inhabited,DecidableEq
instance:bD U64 where
 cells n:=[.int .u64 n.v]
 agg:=false
 size:=1
 len _:=rfl
 good _:=rfl
 one _:=rfl
 plain _:=rfl
structure U32 where
 v:Int
 deriving Inhabited,DecidableEq
instance:bD U32 where
 cells n:=[.int .u32 n.v]
 agg:=false
 size:=1
 len _:=rfl
 good _:=rfl
 one _:=rfl
 plain _:=rfl
structure I32 where
 v:Int
 deriving Inhabited,DecidableEq
instance:bD I32 where
 cells n:=[.int .i32 n.v]
 agg:=false
 size:=1
 len _:=rfl
 good _:=rfl
 one _:=rfl
 plain _:=rfl
structure kH(S:Sys)(c:cm){α δ:Type}(g:FuncId)(w e:List V)(A:α->List V)(R:δ->List V)(p:α->Option δ)(b:Bool):Prop where
 f:h_ S c g (λz=>w++A z++e) R p b
section
variable{S:Sys}{c:cm}{β γ δ α:Type}{Q:Out×St->a_ β}{e:γ->a_ β}{fo:Fo}{fs:Rd}{st0:St}{l:SW}{d:a_ Nat}{gd:a_ (Nat×X')}{now:X'}{az:R0}{dd:S'}
def me{α:Type}[bD α](a:α):V.cells (enc a)=cells a:=by cases u:bD.agg α with|true=>rw[CL u];rfl|false=>have b:=Tc a u;rw[vO u];cases h:enc a<;>first|rfl|(rw[h]at b;cases b)
def rM{α:Type}[bD α](a:α):(cells a).all V.one=true:=bD.one a
def gL{α:Type}[bD α](a:α):(cells a).length=bD.size α:=bD.len a
def Ast[bD α](n:Nat)(dr:X')(fr:S')(q:SW)(fs':Rd)(st:St)(u o:Nat)(x:α)(cs B:So){sz:Nat}{m:a_ β}(G:q=⟨d,gd,now,.l (.store sz),az,dd,[]⟩::l)
 (D:(iK S c n fo fs st0,wanted st.g gd,bY S.N st.g az,bn st.m u,(!dr||now),sz,ble (o+sz) cs.length,cs.take o++(cells x).map .v++cs.drop (o+sz))=(some (.ops dr fr q,fs',st),some true,some [.ptr u o,cv x],some (.box cs),true,bD.size α,true,B))
 (h:Le m (ud S c Q dr fr d (.l (.store sz)) l fs' dd (cW {st with m:=bR st.m u (.box B)} d (.v .undef)))):Le m (rn S c Q fo fs st0):=by
 simp only[ζc]at D;have⟨a,w,z,C,I,J,L,O⟩:=D;refine sX a G w ?_ h;rw[yU,z];subst J;have T:=Nat.le_of_ble_eq_true L;simp only[ζb,I,if_true,od,C,putCells,me,gL,rM,T,and_self,O,map_some]
def B_{α:Type}[bD α]:∀(xs:aZ α)(pre:T')(B:T'),B.length=xs.length->fT (bD.size α) (pre++B) ((range' pre.length xs.length).zip (xs.map enc))=some (pre++rows xs)
 |[],pre,B,h=>by have:=List.eq_nil_of_length_eq_zero h;subst this;rfl|x::xs,pre,s::B,h=>by simp only[length_cons,List.range'_succ,map_cons,List.zip_cons_cons,fT,me,gL,rM];have:=B_ xs (pre++[cells x]) B Zac;simp only[ζi,length_cons,length_nil]at this;have e:(pre++s::B).set pre.length (cells x)=pre++[cells x]++B:=Zab;rw[e,this];simp[rows]
def Abs[bD α](n:Nat)(dr:X')(fr:S')(q:SW)(fs':Rd)(st:St)(xs:aZ α){u sz ln:Nat}{zero:T2}{ix:S'}{m:a_ β}(D:q=⟨some u,gd,now,.a (.buildSl sz ln zero ix),az,dd,[]⟩::l)
 (G:st.new u=true)(B:(iK S c n fo fs st0,wanted st.g gd,bY S.N st.g az,sz,ln,ix)=(some (.ops dr fr q,fs',st),some true,some ((xs.map enc).map .v),bD.size α,xs.length,range' 0 xs.length))
 (h:Le m (ud S c Q dr fr (some u) (.a (.buildSl sz ln zero ix)) l fs' dd {st with g:=bR st.g u (.own u),m:=bR st.m u (cK (.row xs))})):Le m (rn S c Q fo fs st0):=by
 simp only[ζc]at B;have⟨a,w,z,C,I,J⟩:=B;subst C I J;refine sX a D w ?_ h;rw[Ai,z];simp only[ζb,G,pq,nE,List.length_range',length_map];have:=B_ xs [] (replicate xs.length zero) Zab
 simp at this;rw[this];rfl
def aa9[bD α](n:Nat)(dr:X')(fr:S')(q:SW)(fs':Rd)(st:St)(x:α)(vs:T2){z:T2}{pl:aZ (Nat×Nat)}{m:a_ β}(D:q=⟨d,gd,now,.p (.build z pl),az,dd,[]⟩::l)
 (hp:lX z pl vs=some (cells x))(G:bD.agg α=true)
 (B:(iK S c n fo fs st0,wanted st.g gd,bY S.N st.g az)=(some (.ops dr fr q,fs',st),some true,some (vs.map .v)))
 (h:Le m (ud S c Q dr fr d (.p (.build z pl)) l fs' dd (cW st d (cv x)))):Le m (rn S c Q fo fs st0):=by
 simp at B;refine sX B.1 D B.2.1 (BS B.2.2 rfl ?_) h;unfold j8;rw[nE];simp only[R6,hp,map_some];show some (SV.v (.agg (cells x)))=some (.v (enc x));rw[CL G]
section
variable[bD α]
def abf(n:Nat)(dr:X')(fr:S')(q:SW)(fs':Rd)(st:St)(lo hi:X')(D:T2){sz:Nat}{s:Sl α}{a b:QQ}{f:Sl α->a_ γ}(G:q=⟨d,gd,now,.p (.slice sz lo hi),az,dd,[]⟩::l)
 (B:(iK S c n fo fs st0,wanted st.g gd,bY S.N st.g az,mP lo hi D,sz)=(some (.ops dr fr q,fs',st),some true,some (.v (bZ s)::D.map .v),some (a,b),bD.size α))
 (h:∀x,fS s a b=some x->Le ((f x).bind e) (ud S c Q dr fr d (.p (.slice sz lo hi)) l fs' dd (cW st d (.v (bZ x))))):Le (((fS s a b).bind f).bind e) (rn S c Q fo fs st0):=by
 simp at B;refine Dw B.1 G B.2.1 (Le.of_eq ?_) h;have w:=B.2.2.1;unfold ga nq;simp[wanted,gB,w];have u:j8 S.N st.m (.slice sz lo hi) ((bZ s::D).map .v)=(fS s a b).bind λx=>some (.v (bZ x)):=by unfold j8;rw[nE];simp[bq,B.2.2.2.1,Ot s a b sz B.2.2.2.2];cases fS s a b<;>rfl
 simp at u⊢;rw[u];cases fS s a b<;>rfl
def qg(s:Sl α)(lo hi:QQ):a_ (Sl α):=
 match s with
 |.nil|.emp=>none|.row x|.part x=>(eB x.length lo hi).map λ(l,h)=>.part ((x.take h).drop l)
def aaq(n:Nat)(fr:S')(q:SW)(fs':Rd)(st:St)(lo hi:X')(u:Nat)(D:T2){t sz:Nat}{s:Sl α}{a b:QQ}{f:Sl α->a_ γ}(J:q=⟨some t,gd,now,.p (.slice sz lo hi),az,dd,[]⟩::l)
 (G:St.new {st with m:=eG u st.m} t=true)(B:(iK S c n fo fs st0,wanted st.g gd,bY S.N st.g az,mP lo hi D,bn st.m u,sz)=(some (.ops false fr q,fs',st),some true,some (.own u::D.map .v),some (a,b),some (cK s),bD.size α))
 (h:∀x,qg s a b=some x->Le ((f x).bind e) (ud S c Q false fr (some t) (.p (.slice sz lo hi)) l fs' dd {st with g:=bR st.g t (.own t),m:=bR (eG u st.m) t (cK x)})):Le (((qg s a b).bind f).bind e) (rn S c Q fo fs st0):=by
 simp at B;refine Dw B.1 J B.2.1 (Le.of_eq ?_) h;have⟨_,_,z,w,C,I⟩:=B;subst I;unfold ga nq;simp[wanted,gB,z,A9,nE,C,w]
 cases s with
 |nil=>simp[qg,cK,Sl.k,cT]|emp=>simp[qg,cK,Sl.k,cT]|row x=>
  simp[cK,Sl.k,Sl.l,cT,qg,iG,w]
  cases eB x.length a b with
  |none=>rfl|some r=>simp[G,cW,rows,map_drop]
 |part x=>
  simp[cK,Sl.k,Sl.l,cT,qg,iG,w]
  cases eB x.length a b with
  |none=>rfl|some r=>simp[G,cW,rows,map_drop]
def sJ(n:Int)(a:α):a_ (Sl α):=if 0<=n/\n<=2147483648 then some (if n=0 then .row []else .part [])else none
def abc(n:Nat)(dr:X')(fr:S')(q:SW)(fs':Rd)(st:St){u:Nat}{sz:Nat}{zero:T2}{i:Int}{z:α}{f:Sl α->a_ γ}(G:q=⟨some u,gd,now,.a (.makeSl sz zero),az,dd,[]⟩::l)
 (J:st.new u=true)(D:(iK S c n fo fs st0,wanted st.g gd,bY S.N st.g az,sz)=(some (.ops dr fr q,fs',st),some true,some [.v (.int .i64 0),.v (.int .i64 i)],bD.size α))
 (h:∀B,sJ i z=some B->Le ((f B).bind e) (ud S c Q dr fr (some u) (.a (.makeSl sz zero)) l fs' dd {st with g:=bR st.g u (.own u),m:=bR st.m u (cK B)})):Le (((sJ i z).bind f).bind e) (rn S c Q fo fs st0):=by
 simp at D;have⟨b,w,C,I⟩:=D;subst I;refine Dw b G w (Le.of_eq ?_) h;rw[Ai,C];simp only[ζb,J,if_true,pq,true_and,sJ]
 by_cases hi:0<=i/\i<=2147483648
 .rw[if_pos hi,if_pos ⟨Int.le_refl 0,hi⟩]
  by_cases a:i=0
  .subst a;rfl
  have:¬0=i:=λh=>a h.symm
  simp[if_neg a,if_neg this];rfl
 grind
end
end
structure cu(n:Nat)(α:Type)where
 l:List α
 len:l.length=n
def T7{α:Type}[bD α](l:aZ α):(l.map (cells (α:=α))).flatten.length=l.length*bD.size α:=by induction l with|nil=>simp|cons a l u=>simp[u,gL,add_mul,Nat.add_comm]
def Rs{α:Type}[bD α](l:aZ α):V.cI (l.map (cells (α:=α))).flatten=true:=by induction l with|nil=>rfl|cons a l u=>have h:∀(x y:T2),V.cI x=true->V.cI y=true->V.cI (x++y)=true:=(by intro x;induction x with|nil=>grind|cons b x w=>intro y c z;simp[V.cI]at c⊢;grind);exact h _ _ (bD.good a) u
instance{n:Nat}{α:Type}[bD α]:bD (cu n α)where
 cells a:=(a.l.map cells).flatten
 agg:=true
 size:=n*bD.size α
 len a:=by rw[T7,a.len]
 good a:=Rs a.l
 one a:=by have:∀l:aZ α,(l.map (cells (α:=α))).flatten.all V.one=true:=(by intro l;induction l with|nil=>rfl|cons a l u=>simp only[map_cons,flatten_cons,List.all_append,u,rM,Bool.and_self]);exact this a.l
 plain h:=by cases h
def cu.P9(n:Nat){α:Type}(z:α):cu n α:=⟨replicate n z,Zab⟩
def cu.at{n:Nat}{α:Type}(a:cu n α)(i:Int):a_ α:=if 0<=i then a.l[i.toNat]?else none
def cu.set{n:Nat}{α:Type}(a:cu n α)(i:Int)(x:α):cu n α:=⟨a.l.set i.toNat x,by simp[a.len]⟩
def pa{n:Nat}{α:Type}[bD α](a:cu n α)(i:Int):T2:=(cells a).drop (i.toNat*bD.size α)
def cu.vM{n:Nat}{α:Type}{a:cu n α}{i:Int}{x:α}(h:a.at i=some x):0<=i/\i.toNat<n/\a.l[i.toNat]?=some x:=by
 unfold cu.at at h;split at h;next hi=>refine⟨hi,?_,h⟩;have:=(ζe.1 h).1;rw[<-a.len];simp_all
 simp_all
def HE{α:Type}[bD α]:∀(l:aZ α)(k:Nat),((l.map (cells (α:=α))).flatten).drop (k*bD.size α)=((l.drop k).map (cells (α:=α))).flatten
 |[],k=>Zab|a::l,0=>Zab|a::l,k+1=>by have h:=gL a;rw[map_cons,flatten_cons,List.drop_succ_cons,<-HE l k,add_mul,one_mul,Nat.add_comm,<-h,List.drop_length_add_append]
def Cz{n:Nat}{α:Type}[bD α]{a:cu n α}{i:Int}{x:α}(h:a.at i=some x):∃r,pa a i=cells x++r:=by have⟨b,B,w⟩:=cu.vM h;have⟨u,z⟩:=ζe.1 w;refine⟨((a.l.drop (i.toNat+1)).map cells).flatten,?_⟩;show((a.l.map (cells)).flatten).drop (i.toNat*bD.size α)=_;rw[HE,List.drop_eq_getElem_cons u,map_cons,flatten_cons,z]
section
variable{S:Sys}{c:cm}{β γ δ α:Type}{Q:Out×St->a_ β}{e:γ->a_ β}{fo:Fo}{fs:Rd}{st0:St}{l:SW}{d:a_ Nat}{gd:a_ (Nat×X')}{now:X'}{az:R0}{dd:S'}
section
variable{N:Nat}[bD α]
def aad(n:Nat)(dr:X')(fr:S')(q:SW)(fs':Rd)(st:St)(k:IntKind){ln sz:Nat}{a:cu N α}{i:Int}{f:α->a_ γ}(D:q=⟨d,gd,now,.p (.idxA ln sz),az,dd,[]⟩::l)
 (B:(iK S c n fo fs st0,wanted st.g gd,bY S.N st.g az,sz,ln)=(some (.ops dr fr q,fs',st),some true,some [cp a,.v (.int k i)],bD.size α,N))
 (h:∀x,a.at i=some x->Le ((f x).bind e) (ud S c Q dr fr d (.p (.idxA ln sz)) l fs' dd (cW st d (.v (.fptr (pa a i)))))):Le (((a.at i).bind f).bind e) (rn S c Q fo fs st0):=by
 simp at B;have⟨g,w,z,C,G⟩:=B;subst C G;refine Dw g D w ?_ h;intro r b;have⟨x,I,b⟩:=ζg.1 b;have⟨g1,g2,_⟩:=cu.vM I;rw[BS z rfl ?_]
 .omega
 rw[uX];simp[bq,yB];have u:i.toNat*bD.size α<=(cells a).length:=by rw[gL];exact Nat.mul_le_mul_right _ (Nat.le_of_lt g2)
 rw[if_pos ⟨g1,Zaa⟩,if_pos u]
 rfl
def aa7(n:Nat)(dr:X')(fr:S')(q:SW)(fs':Rd)(st:St)(a:cu N α)(i:Int)(o:Nat)(x:α)(D:a.at i=some x){k:Nat}{m:a_ β}(G:q=⟨d,gd,now,.p (.fieldAddr k),az,dd,[]⟩::l)
 (B:(iK S c n fo fs st0,wanted st.g gd,bY S.N st.g az,ble (o+k) (bD.size α))=(some (.ops dr fr q,fs',st),some true,some [.v (.fptr ((pa a i).drop o))],true))
 (h:Le m (ud S c Q dr fr d (.p (.fieldAddr k)) l fs' dd (cW st d (.v (.fptr ((pa a i).drop (o+k))))))):Le m (rn S c Q fo fs st0):=by
 simp only[ζc]at B;have⟨b,u,w,z⟩:=B;refine sX b G u (BS w rfl ?_) h;have C:=Nat.le_of_ble_eq_true z;have⟨r,e⟩:=Cz D;have I:(pa a i).length>=bD.size α:=by rw[e,ζi,gL];omega
 rw[JK,KO,if_pos Zac,drop_drop]
 rfl
def ZT(n:Nat)(dr:X')(fr:S')(q:SW)(fs':Rd)(st:St)(a:cu N α)(i:Int)(o:Nat)(x:α)(G:a.at i=some x){sz:Nat}{ag:X'}{v:V}(g:(cut (cells x) o sz).bind (mk ag)=some v)(B:V){m:a_ β}(J:q=⟨d,gd,now,.r (.load sz ag),az,dd,[]⟩::l)
 (D:(iK S c n fo fs st0,wanted st.g gd,bY S.N st.g az,v)=(some (.ops dr fr q,fs',st),some true,some [.v (.fptr ((pa a i).drop o))],B))
 (h:Le m (ud S c Q dr fr d (.r (.load sz ag)) l fs' dd (cW st d (.v B)))):Le m (rn S c Q fo fs st0):=by
 simp at D;obtain⟨e,z,C,rfl⟩:=D;refine sX e J z ?_ h;rw[C0,C];have b:fJ fr [SV.v (.fptr ((pa a i).drop o))]=true:=rfl;simp[b,PY];have⟨r,f⟩:=Cz G;rw[f];have j:cut ((cells x++r).drop o) 0 sz=cut (cells x) o sz:=by cases u:cut (cells x) o sz with|none=>grind|some w=>unfold cut at u⊢;dsimp only at u⊢;split at u;have e1:(List.drop 0 (List.drop o (cells x++r))).take sz=((cells x).drop o).take sz:=(by have I:sz=0\/o<=(cells x).length:=(by grind);grind);grind;grind
 cases u:cut (cells x) o sz with
 |none=>grind|some w=>grind
def Yp(n:Nat)(dr:X')(fr:S')(q:SW)(fs':Rd)(st:St)(cs:So){u sz:Nat}{zero:T2}{m:a_ β}(D:q=⟨some u,gd,now,.a (.alloc sz zero),az,dd,[]⟩::l)
 (G:st.new u=true)(B:(iK S c n fo fs st0,wanted st.g gd,bY S.N st.g az,zero.map SV.v)=(some (.ops dr fr q,fs',st),some true,some [],cs))
 (h:Le m (ud S c Q dr fr (some u) (.a (.alloc sz zero)) l fs' dd {st with g:=bR st.g u (.ptr u 0),m:=bR st.m u (.box cs)})):Le m (rn S c Q fo fs st0):=by
 simp at B;have⟨a,w,z,C⟩:=B;subst C;refine sX a D w ?_ h;rw[Ai,z];simp[G,pq]
def u5(d:Nat)(l:T2):SV.dQ d (l.map .v)=false:=by induction l with|nil=>rfl|cons a l u=>simp[SV.dQ,SV.c_,u]
def uY{α:Type}[bD α](d:Nat)(x:α):bM.c_ d (bx x)=false:=u5 d (cells x)
def Zr(n:Nat)(dr:X')(fr:S')(q:SW)(fs':Rd)(st:St)(k:IntKind)(u:Nat){ln sz:Nat}{a:cu N α}{i:Int}{f:α->a_ γ}(D:q=⟨d,gd,now,.p (.idxA ln sz),az,dd,[]⟩::l)
 (B:(iK S c n fo fs st0,wanted st.g gd,bY S.N st.g az,sz,ln,bn st.m u)=(some (.ops dr fr q,fs',st),some true,some [.ptr u 0,.v (.int k i)],bD.size α,N,some (bx a)))
 (h:∀x,a.at i=some x->Le ((f x).bind e) (ud S c Q dr fr d (.p (.idxA ln sz)) l fs' dd (cW st d (.ptr u (i.toNat*bD.size α+0))))):Le (((a.at i).bind f).bind e) (rn S c Q fo fs st0):=by
 simp at B;have⟨g,w,z,I,J,C⟩:=B;refine Dw g D w ?_ h;intro r b;have⟨x,G,b⟩:=ζg.1 b;have⟨g1,g2,_⟩:=cu.vM G;rw[BS z rfl ?_]
 .omega
 simp[j8,dA,yK,C]
 grind
def Td{a:cu N α}{i:Int}{o:Nat}{x:α}(B:a.at i=some x){sz:Nat}{ag:X'}{v:V}(c:(cut (cells x) o sz).bind (mk ag)=some v):xh sz ag ((((cells a).map SV.v).drop (i.toNat*bD.size α+o)).take sz)=some (.v v):=by
 have⟨r,d⟩:=Cz B;have e1:(((cells a).map SV.v).drop (i.toNat*bD.size α+o)).take sz=(((cells x).drop o).take sz).map SV.v:=by have u:((cells x).drop o).take sz=((cells x++r).drop o).take sz:=(by cases b:cut (cells x) o sz with|none=>grind|some w=>unfold cut at b;dsimp only at b;split at b;have C:sz=0\/o<=(cells x).length:=(by grind);grind;simp_all);rw[u,<-d,pa,drop_drop,map_take,map_drop]
 rw[e1];unfold xh;cases b:cut (cells x) o sz with|none=>grind|some w=>rw[b]at c;unfold cut at b;dsimp only at b;split at b;rename_i z;cases b;simp only[length_map,z];unfold mk at c;(cases ag with|true=>simp only[if_true]at c⊢;cases c;rw[nE]|false=>grind);simp_all
def ZZ(n:Nat)(dr:X')(fr:S')(q:SW)(fs':Rd)(st:St)(u:Nat)(a:cu N α)(i:Int)(o:Nat)(x:α)(G:a.at i=some x){sz:Nat}{ag:X'}{v:V}(e:(cut (cells x) o sz).bind (mk ag)=some v)(B:V){m:a_ β}(J:q=⟨d,gd,now,.r (.load sz ag),az,dd,[]⟩::l)
 (D:(iK S c n fo fs st0,wanted st.g gd,bY S.N st.g az,v,bn st.m u,(!dr||now||fJ fr [.ptr u 0]))=(some (.ops dr fr q,fs',st),some true,some [.ptr u (i.toNat*bD.size α+o)],B,some (bx a),true))
 (h:Le m (ud S c Q dr fr d (.r (.load sz ag)) l fs' dd (cW st d (.v B)))):Le m (rn S c Q fo fs st0):=by
 simp only[ζc]at D;obtain⟨f,w,z,rfl,C,I⟩:=D;refine sX f J w ?_ h;rw[C0,z];have b:(!dr||now||fJ fr [SV.ptr u (i.toNat*bD.size α+o)])=true:=I;simp only[ζb,b,aa6,C,Qh];rw[Td G e];rfl
def Q3{N:Nat}(a:cu N α)(i:Int)(y:α)(h:i.toNat<N):cells (a.set i y)=(cells a).take (i.toNat*bD.size α)++cells y++(cells a).drop ((i.toNat+1)*bD.size α):=by
 have key:∀(l:aZ α)(k:Nat),k<l.length->((l.set k y).map (cells)).flatten=(l.map (cells)).flatten.take (k*bD.size α)++cells y++(l.map (cells)).flatten.drop ((k+1)*bD.size α):=by intro l;induction l with|nil=>grind|cons b l u=>intro k h;have w:=gL b;cases k with|zero=>grind|succ k=>simp only[map_cons,flatten_cons];have e1:(k+1)*bD.size α=(cells b).length+k*bD.size α:=Zac;have e2:(k+1+1)*bD.size α=(cells b).length+(k+1)*bD.size α:=Zac;rw[e2,List.drop_length_add_append];grind
 exact key a.l i.toNat (by rw[a.len];omega)
def Z8(n:Nat)(dr:X')(fr:S')(q:SW)(fs':Rd)(st:St)(u:Nat)(a:cu N α)(i:Int)(o:Nat)(x:α)(B:a.at i=some x)(y:α)(v:V){sz:Nat}(G:cells y=(cells x).take o++v.cells++(cells x).drop (o+sz)){m:a_ β}(J:q=⟨d,gd,now,.l (.store sz),az,dd,[]⟩::l)
 (D:(iK S c n fo fs st0,wanted st.g gd,bY S.N st.g az,bn st.m u,(!dr||now),v.cells.length,v.cells.all V.one,ble (o+sz) (bD.size α))=(some (.ops dr fr q,fs',st),some true,some [.ptr u (i.toNat*bD.size α+o),.v v],some (bx a),true,sz,true,true))
 (h:Le m (ud S c Q dr fr d (.l (.store sz)) l fs' dd (cW {st with m:=bR st.m u (bx (a.set i y))} d (.v .undef)))):Le m (rn S c Q fo fs st0):=by
 simp only[ζc]at D;have⟨b,z,C,I,L,O,T,U⟩:=D;refine sX b J z ?_ h;rw[yU,C];have X:=Nat.le_of_ble_eq_true U;have⟨g1,g2,g3⟩:=cu.vM B;have W:i.toNat*bD.size α+o+sz<=((cells a).map SV.v).length:=by rw[length_map,gL];have:(i.toNat+1)*bD.size α<=N*bD.size α:=Nat.mul_le_mul_right _ g2;rw[add_mul,one_mul]at this;show _<=N*bD.size α;omega
 simp only[ζb,L,if_true,od,I,putCells,O,T,W,and_self,map_some];have⟨r,f⟩:=Cz B;have e:((cells a).map SV.v).take (i.toNat*bD.size α+o)++v.cells.map .v++((cells a).map SV.v).drop (i.toNat*bD.size α+o+sz)=(cells (a.set i y)).map SV.v:=by rw[Q3 a i y g2,G];have hd:(cells a).drop (i.toNat*bD.size α)=cells x++r:=f;have w:=gL x;have e1:(cells a).take (i.toNat*bD.size α+o)=(cells a).take (i.toNat*bD.size α)++(cells x).take o:=(by rw[List.take_add,hd,List.take_append_of_le_length Zaa]);have e2:(cells a).drop (i.toNat*bD.size α+o+sz)=(cells x).drop (o+sz)++(cells a).drop ((i.toNat+1)*bD.size α):=(by have e3:(cells a).drop ((i.toNat+1)*bD.size α)=r:=(by rw[add_mul,one_mul,<-drop_drop,hd,<-w,List.drop_left]);rw[e3,Nat.add_assoc,<-drop_drop,hd,List.drop_append_of_le_length Zaa]);rw[<-map_take,<-map_drop,e1,e2];grind
 rw[e]
end
def Wb{α:Type}[bD α]{m:Tb bM}{d:Nat}{x:α}{vs:T2}(h:bn m d=some (bx x)):nQ (iV m 8) (.ptr d 0::vs.map .v)=some (.fptr (cells x)::vs):=by
 have a:iV m 8 (.ptr d 0)=some (.fptr (cells x)):=by
  show(match bn m d with
   |some (.box cs)=>match nQ (iV m 7) cs with
    |some u=>if 0<=u.length then some (V.fptr (u.drop 0))else none|none=>none
   |_=>none)=_
  rw[h];simp[K5]
 simp[nQ,a,K5]
def Z5(n:Nat){fo:Fo}{fs fs':Rd}{st0 st:St}{rs:aZ RV}{e:γ->a_ T2}{r:γ}(svs:So){ys:T2}(B:nQ (iV st.m 8) svs=some ys)(h:(iK S c n fo fs st0,lG st rs)=(some (.rt,fs',st),some svs))(D:e r=some ys):
 Le ((some r).bind e) (rn S c (q_ rs) fo fs st0):=by
 simp at h;rw[qj h.1];refine Le.of_eq ?_;simp[rn,q_,h.2,B]
 grind
abbrev Mo(κ ν:Type):=aZ (κ×ν)
class Key(κ:Type)[bD κ][DecidableEq κ]where
 kk:zi
 ok:∀a:κ,rA kk (enc a)=true
 eq:∀a b:κ,yG (enc a) (enc b)=some (decide (a=b))
instance:Key Int where
 kk:=.int .i64
 ok _:=rfl
 eq a b:=by show some (a==b)=some (decide (a=b));rw[show(a==b)=decide (a=b)from Bool.eq_iff_iff.2 Zab]
instance:Key bf where
 kk:=.ints 2
 ok _:=rfl
 eq a b:=by have⟨p,i⟩:=a;have⟨q,j⟩:=b;simp only[yG,mb,jd,X9,map_some,length_cons,if_true,ζa];rw[Bool.eq_iff_iff];simp
section
variable{κ ν:Type}[bD κ][DecidableEq κ][Key κ][bD ν]
def jW(k:κ):Mo κ ν->a_ ν
 |[]=>none|(a,v)::r=>if k=a then some v else jW k r
def oH(m:Mo κ ν)(k:κ)(z:ν):ν:=(jW k m).getD z
def tB(m:Mo κ ν)(k:κ):X':=(jW k m).isSome
def mT(m:Mo κ ν)(k:κ)(v:ν):Mo κ ν:=
 match m with
 |[]=>[(k,v)]|(a,w)::r=>if k=a then(k,v)::r else(a,w)::mT r k v
def oK(m:Mo κ ν):aZ (V×V):=m.map λx=>(enc x.1,enc x.2)
def ve(m:Mo κ ν):bM:=.mp (oK m)
def Gq(k:κ):∀(m:Mo κ ν)(i:Nat),(iY (enc k) (oK m) i).map (Option.map (·.2))=some ((jW k m).map enc)
 |[],i=>rfl|(a,v)::r,i=>by simp only[oK,map_cons,iY,Key.eq,jW];by_cases h:k=a;grind;simp only[h];exact Gq k r (i+1)
def Sw(k:κ)(v:ν)(m:Mo κ ν):qX (enc k) (enc v) (oK m)=some (oK (mT m k v)):=by
 unfold qX;have key:∀(m:Mo κ ν)(pre:aZ (V×V))(i:Nat),pre.length=i->(match iY (enc k) (oK m) i with
  |some (some (j,_))=>some ((pre++oK m).set j (enc k,enc v))|some none=>some (pre++oK m++[(enc k,enc v)])|none=>none)=some (pre++oK (mT m k v)):=by
  intro m
  induction m with
  |nil=>simp[oK,iY,mT]|cons x r u=>
   have⟨a,w⟩:=x;intro pre i h;rw[show oK ((a,w)::r)=(enc a,enc w)::oK r from rfl];simp[iY,Key.eq,mT]
   by_cases b:k=a
   .subst b h;simp[oK]
   simp[b];rw[show oK ((a,w)::mT r k v)=(enc a,enc w)::oK (mT r k v)from rfl];have:=u (pre++[(enc a,enc w)]) (i+1) (by simp[h])
   grind
 have:=key m [] 0 rfl;grind
def ZP(n:Nat)(dr:X')(fr:S')(q:SW)(fs':Rd)(st:St)(u:Nat)(mp:Mo κ ν)(k:κ)(z:ν){kk:zi}{B:V}{m:a_ β}(G:q=⟨d,gd,now,.r (.lookup kk B false),az,dd,[]⟩::l)
 (D:(iK S c n fo fs st0,wanted st.g gd,bY S.N st.g az,bn st.m u,(!dr||now||fJ fr [.mp u,cv k]),B,kk)=(some (.ops dr fr q,fs',st),some true,some [.mp u,cv k],some (ve mp),true,enc z,Key.kk κ))
 (h:Le m (ud S c Q dr fr d (.r (.lookup kk B false)) l fs' dd (cW st d (cv (oH mp k z))))):Le m (rn S c Q fo fs st0):=by
 simp only[ζc]at D;have⟨a,C,I,J,L,O,T⟩:=D;subst O T;refine sX a G C ?_ h;rw[C0,I];simp only[ζb,L,o6,J,ve,Key.ok];have:=Gq k mp 0;simp[oH]
 cases U:iY (enc k) (oK mp) 0 with
 |none=>grind|some r=>
  rw[U]at this
  cases r with
  |none=>
   cases W:jW k mp with
   |none=>rfl|some w=>grind
  |some w=>
   cases W:jW k mp with
   |none=>grind|some X=>grind
def aa2(n:Nat)(dr:X')(fr:S')(q:SW)(fs':Rd)(st:St)(u:Nat)(mp:Mo κ ν)(k:κ)(v:ν){kk:zi}{m:a_ β}(D:q=⟨d,gd,now,.l (.mapUp kk),az,dd,[]⟩::l)
 (B:(iK S c n fo fs st0,wanted st.g gd,bY S.N st.g az,bn st.m u,(!dr||now),kk)=(some (.ops dr fr q,fs',st),some true,some [.mp u,cv k,cv v],some (ve mp),true,Key.kk κ))
 (h:Le m (ud S c Q dr fr d (.l (.mapUp kk)) l fs' dd (cW {st with m:=bR st.m u (ve (mT mp k v))} d (.v .undef)))):Le m (rn S c Q fo fs st0):=by
 simp only[ζc]at B;have⟨a,w,z,C,G,I⟩:=B;subst I;refine sX a D w ?_ h;rw[yU,z];simp[G,od,C,ve,Key.ok,Sw]
end
end
instance{n:Nat}:OfNat Arg n:=⟨.s n⟩
abbrev bI(o:BinOp):K:=.p (.bin (some .int) none o)
abbrev ix(n:Nat):K:=.p (.idxS n)
abbrev ld(n:Nat):K:=.r (.load n false)
abbrev lD(n:Nat):K:=.r (.load n true)
abbrev fa(n:Nat):K:=.p (.fieldAddr n)
abbrev ln:K:=.p .lenSl
abbrev su(n:Nat):K:=.l (.store n)
abbrev Iv(n:Nat)(x:Int):Nat×SV:=(n,iv x)
abbrev Bv(n:Nat)(x:Bool):Nat×SV:=(n,bv x)
abbrev Cv{α:Type}[bD α](n:Nat)(x:α):Nat×SV:=(n,cv x)
abbrev Kv{α:Type}[bD α](n:Nat)(x:α):Nat×SV:=(n,cp x)
abbrev Pv(n:Nat):Nat×SV:=(n,.ptr n 0)
abbrev Ov(n:Nat):Nat×SV:=(n,.own (2000+n))
abbrev Xb{α:Type}[bD α](n:Nat)(x:α):Nat×bM:=(n,bx x)
abbrev Lb{α:Type}[bD α](n:Nat)(x:Sl α):Nat×bM:=(n,cK x)
abbrev on(d:Nat)(k:K)(az:aZ Arg)(dd:aZ Nat):RO:=⟨some d,none,true,k,az,dd,[]⟩
abbrev oz(k:K)(az:aZ Arg)(dd:aZ Nat):RO:=⟨none,none,false,k,az,dd,[]⟩
abbrev oy(k:K)(az:aZ Arg)(dd:aZ Nat):RO:=⟨none,none,true,k,az,dd,[]⟩
attribute [simp] We WR VY
def h_.yV{S:Sys}{T:rC}{f:Y'}{b:X'}(B:T f=none)(a:S.E.keep f=false)(D:S.yV f []=some (.bool b)):
 h_ S (di S T) f (λ_:Unit=>[]) (λr:X'=>[.bool r]) (λ_=>some b) true where
 k:=a
 h _:=by have h:=Hj (az:=[]) B a D;intro r c;cases c;unfold jX;rw[h];exact wu 8 [.bool b]
 s _ _:=rfl
def Wp{α:Type}(m:a_ α)(P:α->Prop):Prop:=∃a,m=some a/\P a
section
variable{α β:Type}{P Q:α->Prop}
def bg(a:α):Wp (some a) P↔P a:=⟨λh=>by have⟨b,e,p⟩:=h;cases e;exact p,λp=>⟨a,rfl,p⟩⟩
def V2:Wp (none:a_ α) P↔False:=⟨λh=>(by have⟨b,e,p⟩:=h;cases e),λh=>False.elim h⟩
def dY{m:a_ β}{k:β->a_ α}:Wp (m.bind k) P↔Wp m λb=>Wp (k b) P:=by cases m with|none=>simp only[Option.bind_none,V2]|some b=>simp only[ζb,bg]
def ck{t:X'}{a b:a_ α}:Wp (bl t a b) P↔(t=true->Wp a P)/\(t=false->Wp b P):=by cases t<;>simp[bl]
def Wp.mono{m:a_ α}(h:Wp m P)(B:∀a,P a->Q a):Wp m Q:=let⟨a,e,p⟩:=h;⟨a,e,B a p⟩
def Wp.and{m:a_ α}(h:Wp m P)(B:Wp m Q):Wp m λa=>P a/\Q a:=by have⟨a,e,p⟩:=h;have⟨b,e2,q⟩:=B;rw[e]at e2;cases e2;exact⟨a,e,p,q⟩
def Wp.eq{m:a_ α}{a:α}(h:Wp m λx=>x=a):m=some a:=by obtain⟨b,e,rfl⟩:=h;exact e
end
section
variable{σ ε ρ:Type}
def fA(step:σ->a_ (Fw σ ε ρ))(s:σ):bW step s=(step s).bind λw=>match w with
 |.n B=>bW step B|.x e=>some (.x e)|.r b=>some (.r b):=by
 have d:∀r,bW step s=some r->((step s).bind λw=>match w with
  |.n B=>bW step B|.x e=>some (.x e)|.r b=>some (.r b))=some r:=by
  intro r h;have⟨k,a⟩:=pW.1 h
  cases k with
  |zero=>simp[kC]at a|succ k=>
   simp only[kC]at a
   cases u:step s with
   |none=>rw[u]at a;cases a|some w=>
    rw[u]at a
    cases w with
    |n B=>exact pW.2 ⟨k,a⟩|x e=>exact a|r b=>exact a
 cases z:bW step s with
 |some r=>exact(d r z).symm|none=>
  cases c:((step s).bind λw=>match w with
  |.n B=>bW step B|.x e=>some (.x e)|.r b=>some (.r b))with
  |none=>rfl|some r=>
   exfalso
   cases u:step s with
   |none=>rw[u]at c;cases c|some w=>
    rw[u]at c;simp only[ζb]at c;have:bW step s=some r:=by cases w with|n B=>have⟨k,a⟩:=pW.1 c;exact pW.2 ⟨k+1,by simp only[kC,u];exact a⟩|x e=>exact pW.2 ⟨1,by simp only[kC,u];exact c⟩|r b=>exact pW.2 ⟨1,by simp only[kC,u];exact c⟩
    rw[z]at this;cases this
def UK(I:σ->Prop)(μ:σ->Nat)(D:ε->Prop)(G:ρ->Prop)(s:σ):Fw σ ε ρ->Prop
 |.n B=>I B/\μ B<μ s|.x e=>D e|.r b=>G b
def Pfw(B:ε->Prop)(D:ρ->Prop):Fw Empty ε ρ->Prop
 |.x e=>B e|.r b=>D b
def Su{step:σ->a_ (Fw σ ε ρ)}(I:σ->Prop)(μ:σ->Nat)(B:ε->Prop)(D:ρ->Prop)(h:∀s,I s->Wp (step s) (UK I μ B D s)){s:σ}(G:I s):Wp (bW step s) (Pfw B D):=by
 have key:∀n s,μ s<=n->I s->Wp (bW step s) (Pfw B D):=by
  intro n
  induction n with
  |zero=>intro s C hi;have⟨w,u,a⟩:=h s hi;rw[fA,u];cases w with|n z=>exact absurd a.2 Zaa|x e=>exact⟨_,rfl,a⟩|r b=>exact⟨_,rfl,a⟩
  |succ n J=>intro s C hi;have⟨w,u,a⟩:=h s hi;rw[fA,u];cases w with|n z=>exact J z (by have:=a.2;omega) a.1|x e=>exact⟨_,rfl,a⟩|r b=>exact⟨_,rfl,a⟩
 exact key (μ s) s (Nat.le_refl _) G
def fZ{γ:Type}{step:σ->a_ (Fw σ ε ρ)}{B:ε->a_ γ}{fr:ρ->a_ γ}{P:γ->Prop}(I:σ->Prop)(μ:σ->Nat){s:σ}(D:I s)
 (h:∀s,I s->Wp (step s) (UK I μ (λe=>Wp (B e) P) (λb=>Wp (fr b) P) s)):Wp ((bW step s).bind (Fw.elim B fr)) P:=by
 rw[dY];refine(Su I μ _ _ h D).mono ?_;intro w u
 cases w with
 |n a=>cases a|x e=>exact u|r b=>exact u
end
def FL{β γ δ:Type}{e:γ->a_ β}{m:a_ δ}{f:δ->a_ γ}{L:a_ β}(h:∀x,m=some x->Le ((f x).bind e) L):Le ((m.bind f).bind e) L:=by cases m with|none=>exact Le.none _|some x=>exact h x rfl
section
variable{S:Sys}{c:cm}{β:Type}{Q:Out×St->a_ β}{fo:Fo}{fs:Rd}{st0:St}{l:SW}{d:a_ Nat}{now:X'}{az:R0}{dd:S'}
def Le.get{β:Type}{r:β}{L:a_ β}(h:Le (some r) L):L=some r:=h r rfl
def Kt{n:Nat}{fo fo':Fo}{fs fs':Rd}{st:St}(A:X'->St){t:X'}{m:a_ β}(B:t=true)(h:iK S c n fo fs st=some (fo',fs',A t))(D:Le m (rn S c Q fo' fs' (A true))):Le m (rn S c Q fo fs st):=by rw[qj h,B];exact D
def Kf{n:Nat}{fo fo':Fo}{fs fs':Rd}{st:St}(A:X'->St){t:X'}{m:a_ β}(B:t=false)(h:iK S c n fo fs st=some (fo',fs',A t))(D:Le m (rn S c Q fo' fs' (A false))):Le m (rn S c Q fo fs st):=by rw[qj h,B];exact D
def SH{α:Type}[bD α]{s:Sl α}{i:Int}{x:α}{r:β}{L:a_ β}(B:idx s i=some x)(h:Le (((idx s i).bind λ_=>some r).bind some) L):Le (some r) L:=by rw[B]at h;exact h
def Kyl{n:Nat}{q:SW}{fs':Rd}{st:St}{id:Nat}{vs:So}{xs:T2}{B:T'}{m:a_ β}
 (D:iK S c n fo fs st0=some (.ops false [] q,fs',st))(G:q=⟨d,none,now,.c,az,dd,[]⟩::l)(J:bY S.N st.g az=some (.yl id::vs))(U:dA vs=some xs)(W:st.want=xs::B)(hi:id=st.yid)
 (h:Le m (rn S c Q (.ops false [] l) fs' (qN dd (cW {st with want:=B} d (.v (.bool (st.more|| !B.isEmpty))))))):Le m (rn S c Q fo fs st0):=by
 refine Vg D G rfl ?_ h;unfold ga;simp only[wanted,gB,J,U,W,hi,if_true,and_self,Bool.false_eq_true,if_false]
def CJ(a:RC)(fs:Rd)(st:St):rn S c Q (.rc (.loop a)) fs st=(qb (cR S c a) st).bind (F_ (oa S c Q fs) (n9 S c Q fs) (λst=>Q (.ret,st))):=by show lM S c Q (.loop a) fs st=_;unfold lM;rw[Fj];rfl
def Vu{f:St->a_ (Out×St)}{st st':St}(h:f st=some (.norm,st')):qb f st=qb f st':=by
 have key:∀r,qb f st=some r↔qb f st'=some r:=λr=>by constructor;intro b;have⟨k,a⟩:=oh.1 b;(cases k with|zero=>simp[jV]at a|succ k=>simp only[jV,h]at a;exact oh.2 ⟨k,a⟩);intro b;have⟨k,a⟩:=oh.1 b;exact oh.2 ⟨k+1,by simp only[jV,h];exact a⟩
 cases u:qb f st with
 |none=>cases w:qb f st' with|none=>rfl|some r=>rw[(key r).2 w]at u;cases u
 |some r=>rw[(key r).1 u]
def Mb{f:St->a_ (Out×St)}{st st':St}{o:Out}(h:f st=some (o,st'))(B:o≠.norm):qb f st=some (o,st'):=by refine oh.2 ⟨1,?_⟩;cases o with|norm=>exact absurd rfl B|exit k=>simp only[jV,h]|ret=>simp only[jV,h]
def Ik{a:RC}{fs:Rd}{st st':St}(h:rn S c some (.rc a) [] st=some (.norm,st')):rn S c Q (.rc (.loop a)) fs st=rn S c Q (.rc (.loop a)) fs st':=by rw[CJ,CJ,Vu (by rw[Cn];exact h)]
def GW{a:RC}{fs:Rd}{st st':St}{k:Nat}(h:rn S c some (.rc a) [] st=some (.exit k,st')):rn S c Q (.rc (.loop a)) fs st=rn S c Q (.ex k) fs st':=by rw[CJ,Mb (by rw[Cn];exact h) Zab];rfl
def GL{a:RC}{fs:Rd}{st st':St}(h:rn S c some (.rc a) [] st=some (.ret,st')):rn S c Q (.rc (.loop a)) fs st=Q (.ret,st'):=by rw[CJ,Mb (by rw[Cn];exact h) Zab];rfl
end
def Qi:Out×St->a_ Unit
 |(.exit _,_)=>none|(_,st)=>if st.want.isEmpty then some ()else none
def Sys.bare(S:Sys):Sys:=⟨S.E,S.N,λ_ _ _=>none,λ_ _=>none,λ_=>none⟩
def oV:cm:=λ_ _ _=>none
def wA(B rest:T')(more:X'):Prop:=more=true/\B=rest\/more=false/\B≠[]/\∃r,rest=B++r
def To(S:Sys){f:Y'}{fi:FI}{nm:Y'->a_ Nat}{rf:RF}(G:S.E.ft f=some fi)(W:∀g s,nm g=some s->S.N s=g)(e:yH S.E nm fi rf){a b:T2}{xs:T'}(D:a.length+1+b.length<=rf.na)(U:rf.rs=[])
 (h:∀B more,wA B xs more->∀yid,rn S.bare oV Qi (.rc rf.body) [] ⟨wI 0 (a.map .v++.yl yid::b.map .v),[],[],B,more,yid⟩=some ()):eT S f a b xs:=by
 have k:eT S.bare f a b xs:=Mz (S:=S.bare) (c:=oV) (fi:=fi) (nm:=nm) (rf:=rf) (λ_ _ h=>by cases h) (λ_ _ _ _ _ h=>by simp[oV]at h) (λ_ _ _ _ h=>by simp[Sys.bare]at h) G W e D U (λB more w yid=>by
  have d:=h B more w yid;change lM S.bare oV Qi rf.body [] _=some ()at d;rw[qx]at d;have⟨⟨o,st'⟩,z,u⟩:=ζg.1 d;refine⟨o,st',z,?_,?_,rfl⟩
  .rintro id rfl;simp[Qi]at u
  cases o<;>simp[Qi]at u<;>exact u)
 intro B more w yid J y Z C I H d z u L O;exact k B more w yid J ⟨y.xS,y.yield⟩ Z C I H d z u L O
open Classical in
noncomputable def zY(P:Y'->T2->T2->T'->Prop)(f:Y')(a b:T2):a_ T':=if h:∃u,P f a b u then some (Classical.choose h)else none
def Fa{P:Y'->T2->T2->T'->Prop}{f:Y'}{a b:T2}{xs:T'}(h:P f a b xs)(d:∀ys,P f a b ys->ys=xs):zY P f a b=some xs:=by have c:∃xs,P f a b xs:=⟨xs,h⟩;unfold zY;rw[dif_pos c,d _ (choose_spec c)]
def NW{P:Y'->T2->T2->T'->Prop}{f:Y'}{a b:T2}{xs:T'}(h:zY P f a b=some xs):P f a b xs:=by
 unfold zY at h;split at h;next c=>cases h;exact choose_spec c
 cases h
def X_{E:Env}{nm:Y'->a_ Nat}{f:Y'}{rf:RF}
 (h:((E.ft f).bind λfi=>(bV ⟨E,nm,fi.ntmps⟩ false fi.body).bind λc=>(fi.results.mapM (CB E)).bind λrs=>some (c,rs,fi.ntmps))=some (erase rf.body,rf.rs,rf.na)):∃fi,E.ft f=some fi/\yH E nm fi rf:=by
 have⟨fi,a,w⟩:=ζg.1 h;have⟨c,z,B⟩:=ζg.1 w;have⟨rs,C,u⟩:=ζg.1 B;simp only[ζa,ζc]at u;obtain⟨rfl,rfl,D⟩:=u;exact⟨fi,a,z,C,D.symm⟩
def FR.qC{H:bp}{Z Z':Nat->Prop}{x y z:V}(h:FR H Z x z)(k:FR H Z' y z):x=y:=by have⟨n,u⟩:=Bj x;have⟨m,w⟩:=Bj y;have e1:=h.borrow (max n m) (zL (Nat.le_max_left _ _) u);have e2:=k.borrow (max n m) (zL (Nat.le_max_right _ _) w);rw[e1]at e2;exact Option.some.inj e2
open Classical in
noncomputable def zW(E:Env)(f:Y')(az:T2):a_ V:=if h:∃y,Ba E f az y then some (Classical.choose h)else none
def HP{E:Env}{f:Y'}{az:T2}{y:V}(h:zW E f az=some y):Ba E f az y:=by
 unfold zW at h;split at h;next a=>cases h;exact choose_spec a
 cases h
def BI{E:Env}{f:Y'}{az:T2}{y:V}(h:Ba E f az y):zW E f az=some y:=by have a:∃y,Ba E f az y:=⟨y,h⟩;unfold zW;rw[dif_pos a];have⟨n,z,H,Z,k1,k2,_⟩:=h;have⟨u,w,H',Z',k3,k4,_⟩:=choose_spec a;have e1:=(pE E (Nat.le_max_left n u)).go _ _ _ _ k1;have e2:=(pE E (Nat.le_max_right n u)).go _ _ _ _ k3;rw[e1]at e2;cases e2;rw[FR.qC k4 k2]
def L5{E:Env}{f:Y'}{az:T2}{y:V}(B:V.scalar y=true)(h:∃n H',run E n (.fn f) az []=some (y,H')):Ba E f az y:=by have⟨n,H',h⟩:=h;exact⟨n,y,H',λ_=>False,h,.same _ (kI B),λ_ h=>h.elim,⟨λ_ _ _ h=>h.elim⟩⟩
end Go.VE
