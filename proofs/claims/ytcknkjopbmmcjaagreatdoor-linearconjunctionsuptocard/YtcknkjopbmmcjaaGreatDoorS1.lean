/-
 Plain values and the steps of a certificate.
-/
import Derived.KernelRfl
import Derived.Test.YtcknkjopbmmcjaaGreatDoorN2
set_option linter.all false
noncomputable section
open Classical(choose_spec)
open List(drop_drop flatten_cons length_cons length_map length_nil map_cons map_drop map_take range' replicate)
open Option(map_some)
open Nat(add_mul ble one_mul)
namespace Go.VE
variable[b_]
inductive Sl(α:Type)where
 |nil|emp|row(l:List α)|part(l:List α)
 deriving Inhabited
abbrev Zg:=Sl Int
abbrev Zb:=Sl (Sl Int)
def Sl.l{α:Type}:Sl α->aZ α
 |.nil|.emp=>[]|.row l|.part l=>l
def Sl.k{α:Type}:Sl α->Fl
 |.nil=>.nil|.emp=>.emp|.row _=>.row|.part _=>.part
class bH(α:Type)where
 cells:α->List V
 agg:Bool
 size:Nat
 len:∀a,(cells a).length=size
 good:∀a,V.cM (cells a)=true
 one:∀a,(cells a).all V.one=true
 plain:agg=false->size=1
def cells{α:Type}[bH α](a:α):So:=bH.cells a
def enc{α:Type}[bH α](a:α):V:=if bH.agg α then .agg (cells a)else(cells a).headD .undef
def rows{α:Type}[bH α](l:aZ α):S':=l.map cells
def b9{α:Type}[bH α](s:Sl α):V:=qc s.k (bH.size α) (rows s.l)
instance:bH Int where
 cells n:=[.int .i64 n]
 agg:=false
 size:=1
 len _:=rfl
 good _:=rfl
 one _:=rfl
 plain _:=rfl
instance:bH X' where
 cells b:=[.bool b]
 agg:=false
 size:=1
 len _:=rfl
 good _:=rfl
 one _:=rfl
 plain _:=rfl
instance:bH U' where
 cells s:=[.str s]
 agg:=false
 size:=1
 len _:=rfl
 good _:=rfl
 one _:=rfl
 plain _:=rfl
structure bf where
 proc:Int
 index:Int
 deriving DecidableEq,Inhabited
instance:bH bf where
 cells x:=[.int .i64 x.proc,.int .i64 x.index]
 agg:=true
 size:=2
 len _:=rfl
 good _:=rfl
 one _:=rfl
 plain h:=by cases h
@[simp] def abL(n:Int):enc n=.int .i64 n:=rfl
@[simp] def abt(n:X'):enc n=.bool n:=rfl
@[simp] def abK(n:U'):enc n=.str n:=rfl
@[simp] def aaT(n:Int):cells n=[.int .i64 n]:=rfl
@[simp] def aaa(n:X'):cells n=[.bool n]:=rfl
@[simp] def aaW(n:U'):cells n=[.str n]:=rfl
@[simp] def abv(n:bf):cells n=[.int .i64 n.proc,.int .i64 n.index]:=rfl
@[simp] def Y8(n:bf):enc n=.agg [.int .i64 n.proc,.int .i64 n.index]:=rfl
section
variable{α:Type}[bH α]
def iP(l:aZ α):(rows l).length=l.length:=by simp[rows]
def idx(s:Sl α)(i:Int):a_ α:=if 0<=i then s.l[i.toNat]?else none
def T6{N:Nat->Y'}(s:Sl α)(k:T2)(i:Int){n:Nat}(B:n=bH.size α):bq N (.idxS n) [b9 s,.int k i]=(idx s i).map λx=>.fptr (cells x):=by subst B;unfold idx b9;simp only[bq,nq];by_cases h:i<0;rw[if_pos h,if_neg Zaa];rfl;rw[if_neg h,if_pos Zaa];cases s<;>simp[Sl.k,Sl.l,qc,rows,Function.comp_def]
def RU{N:Nat->Y'}(s:Sl α):bq N .lenSl [b9 s]=some (.int .i64 s.l.length):=by cases s<;>simp[bq,pO,b9,Sl.k,Sl.l,qc,iP]
end
section
variable{S:Sys}{c:cr}
end
end Go.VE
namespace Go.VE
variable[b_]
section
variable{S:Sys}{c:cr}
def isSlice:wE->X'
 |.slice ..=>true|_=>false
def Vl(dr:X')(fr:ST)(dst:a_ Nat)(now:X')(p:wE)(az:QQ)(st:St)(h:isSlice p=false):
 gx S c dr fr ⟨dst,none,now,.p p,az,[],[]⟩ st=(b7 S.N st.g az).bind λsvs=>(kr S.N st.m p svs).bind λx=>some (c8 st dst x):=by
 unfold gx nG;have u:gJ S.N st.g ⟨dst,none,now,.p p,az,[],[]⟩=none:=by unfold gJ;grind
 simp[wanted,u]
 cases z:b7 S.N st.g az with
 |none=>rfl|some svs=>simp;cases p<;>first|(simp[isSlice]at h;done)|(cases w:kr S.N st.m _ svs<;>simp[w])
def NM(N:Nat->Y')(m:Tb bN)(p:wE)(svs:SW)(xs:So)(h:dG svs=some xs):kr N m p svs=(bq N p xs).bind λx=>some (.v x):=by unfold kr;rw[h];dsimp only;cases bq N p xs<;>rfl
def CK(dr:X')(fr:ST)(dst:a_ Nat)(now:X')(q:Ni)(az:QQ)(st:St):
 gx S c dr fr ⟨dst,none,now,.r q,az,[],[]⟩ st=(b7 S.N st.g az).bind λsvs=>if !dr||now||fL fr svs then(pq st.m q svs).bind λx=>some (c8 st dst x)else none:=by
 unfold gx nG;have u:gJ S.N st.g ⟨dst,none,now,.r q,az,[],[]⟩=none:=rfl;simp[wanted,u]
 cases w:b7 S.N st.g az with
 |none=>rfl|some svs=>
  simp;split
  .cases z:pq st.m q svs<;>simp
  rfl
def As(dr:X')(fr:ST)(d:Nat)(now:X')(q:Qk)(az:QQ)(st:St):
 gx S c dr fr ⟨some d,none,now,.a q,az,[],[]⟩ st=(b7 S.N st.g az).bind λsvs=>if st.new d then(pS st.m q svs d).bind λr=>some {st with g:=bR st.g d r.2,m:=bR st.m d r.1}else none:=by
 unfold gx nG;have u:gJ S.N st.g ⟨some d,none,now,.a q,az,[],[]⟩=none:=rfl;simp[wanted,u]
 cases w:b7 S.N st.g az with
 |none=>rfl|some svs=>
  simp;split
  .cases z:pS st.m q svs d<;>simp[c8]
  rfl
def xF(dr:X')(fr:ST)(dst:a_ Nat)(now:X')(q:NL)(az:QQ)(st:St):
 gx S c dr fr ⟨dst,none,now,.l q,az,[],[]⟩ st=(b7 S.N st.g az).bind λsvs=>if !dr||now then(oe st dst q svs).bind λr=>some (c8 r.2 dst r.1)else none:=by
 unfold gx nG;have u:gJ S.N st.g ⟨dst,none,now,.l q,az,[],[]⟩=none:=rfl;simp[wanted,u]
 cases w:b7 S.N st.g az with
 |none=>rfl|some svs=>
  simp;split
  .cases z:oe st dst q svs<;>simp
  rfl
def mb:SW->a_ (Y'×SW)
 |.clo f a b::vs=>some (f,a++vs++b)|.v (.clo f a b)::vs=>some (f,a.map .v++vs++b.map .v)|_=>none
def xk(dr:X')(fr:ST)(dst:a_ Nat)(now:X')(az:QQ)(st:St)(svs:SW)(f:Y')(args:SW)(B:b7 S.N st.g az=some svs)(a:mb svs=some (f,args)):
 gx S c dr fr ⟨dst,none,now,.c,az,[],[]⟩ st=(fP S c dst dr (!dr||now) (gF st.m fr) f args st).bind λr=>some (c8 r.2 dst r.1):=by
 unfold gx nG;unfold mb at a;split at a
 .obtain⟨rfl,rfl⟩:=a;simp[wanted,gJ,B];cases fP S c dst dr _ _ _ _ st<;>simp
 .obtain⟨rfl,rfl⟩:=a;simp[wanted,gJ,B];cases fP S c dst dr _ _ _ _ st<;>simp
 grind
def TP{β:Type}(S:Sys)(c:cr)(fr:ST)(l:Rd)(k:St->a_ β):St->a_ β:=λst=>(oT S c false fr l st).bind k
def Si{β:Type}(S:Sys)(c:cr)(fr:ST)(l:Rd)(k:St->a_ β):St->a_ β:=λst=>(oT S c true fr l st).bind k
def Yk{β:Type}(S:Sys)(c:cr)(fr dd:ST)(l:Rd)(k:St->a_ β):St->a_ β:=λst=>TP S c fr l k (qR dd st)
def Y1{β:Type}(S:Sys)(c:cr)(fr dd:ST)(l:Rd)(k:St->a_ β):St->a_ β:=λst=>Si S c fr l k (qR dd st)
@[congr] def aai{β:Type}{fr:ST}{l:Rd}{k:St->a_ β}{st st':St}(h:st=st'):TP S c fr l k st=TP S c fr l k st':=by rw[h]
@[congr] def aan{β:Type}{fr B:ST}{l:Rd}{k:St->a_ β}{st st':St}(D:fr=B)(h:st=st'):Si S c fr l k st=Si S c B l k st':=Zad
@[congr] def aaE{β:Type}{fr dd:ST}{l:Rd}{k:St->a_ β}{st st':St}(h:st=st'):Yk S c fr dd l k st=Yk S c fr dd l k st':=by rw[h]
@[congr] def aaP{β:Type}{fr B dd:ST}{l:Rd}{k:St->a_ β}{st st':St}(D:fr=B)(h:st=st'):Y1 S c fr dd l k st=Y1 S c B dd l k st':=Zad
@[congr] def aaX{dr:X'}{fr:ST}{o:RO}{st st':St}(h:st=st'):gx S c dr fr o st=gx S c dr fr o st':=by rw[h]
end
section
variable{S:Sys}{c:cr}(dr:X')(fr:ST)(dst:a_ Nat)(now:X')(az:QQ)(st:St)
end
inductive Fm where
 |seq(b:RC)|blk(id:Nat)|gst(x:Gh)
abbrev QP:=aZ Fm
section
variable(S:Sys)(c:cr){β:Type}(Q:Out×St->a_ β)
def runK:QP->Out×St->a_ β
 |[],r=>Q r|.seq b::fs,(.norm,st)=>(cU S c b st).bind (runK fs)|.seq _::fs,r=>runK fs r|.blk id::fs,(.exit k,st)=>if k=id then runK fs (.norm,st)else runK fs (.exit k,st)|.blk _::fs,r=>runK fs r|.gst x::fs,(.norm,st)=>(ghost x st).bind λst=>runK fs (.norm,st)|.gst _::fs,r=>runK fs r
def go(a:RC)(fs:QP)(st:St):a_ β:=(cU S c a st).bind (runK S c Q fs)
def UN(fs:QP):St->a_ β:=λst=>runK S c Q fs (.norm,st)
def bl{α:Type}(t:X')(a b:α):α:=if t then a else b
end
@[congr] def aaY{α:Type}{t B:X'}{a b a' D:α}(h:t=B)(G:B=true->a=a')(J:B=false->b=D):bl t a b=bl B a' D:=by subst h;cases t;exact J rfl;exact G rfl
section
variable{S:Sys}{c:cr}{β:Type}{Q:Out×St->a_ β}
@[congr] def go_congr{a:RC}{fs:QP}{st st':St}(h:st=st'):go S c Q a fs st=go S c Q a fs st':=by rw[h]
@[congr] def ZR{fs:QP}{st st':St}(h:st=st'):UN S c Q fs st=UN S c Q fs st':=by rw[h]
@[congr] def aaj{fs:QP}{r B:Out×St}(h:r=B):runK S c Q fs r=runK S c Q fs B:=by rw[h]
def La(a:RC)(st:St):(cU S c a st).bind Q=go S c Q a [] st:=by simp only[go];cases cU S c a st<;>rfl
inductive Fw(ν ε ρ:Type)where
 |n(a:ν)|x(e:ε)|r(b:ρ)
def kL{σ ε ρ:Type}(step:σ->a_ (Fw σ ε ρ)):Nat->σ->a_ (Fw Empty ε ρ)
 |0,_=>none|k+1,s=>match step s with
  |some (.n B)=>kL step k B|some (.x e)=>some (.x e)|some (.r b)=>some (.r b)|none=>none
def zD{σ ε ρ:Type}{step:σ->a_ (Fw σ ε ρ)}:∀{k B:Nat}{s:σ}{r:Fw Empty ε ρ},k<=B->kL step k s=some r->kL step B s=some r
 |0,_,_,_,_,h=>by simp[kL]at h|k+1,0,_,_,hk,_=>Zaa|k+1,B+1,s,r,hk,h=>by simp only[kL]at h⊢;split at h;exact zD (Nat.le_of_succ_le_succ hk) h;exact h;exact h;simp at h
open Classical in
def bY{σ ε ρ:Type}(step:σ->a_ (Fw σ ε ρ))(s:σ):a_ (Fw Empty ε ρ):=if h:∃k r,kL step k s=some r then some (Classical.choose (choose_spec h))else none
def qf{σ ε ρ:Type}{step:σ->a_ (Fw σ ε ρ)}{s:σ}{r:Fw Empty ε ρ}:bY step s=some r↔∃k,kL step k s=some r:=by
 unfold bY;constructor;intro h;split at h;next u=>simp only[ζa]at h;exact⟨_,by rw[<-h];exact choose_spec (choose_spec u)⟩
 simp at h;rintro⟨k,a⟩;have u:∃k r,kL step k s=some r:=⟨k,r,a⟩;rw[dif_pos u];have z:=choose_spec (choose_spec u);have B:=zD (Nat.le_max_left (Classical.choose u) k) z;have w:=zD (Nat.le_max_right (Classical.choose u) k) a;rw[B]at w;exact w
def Fw.out{ν ε ρ:Type}(B:ν->St)(eε:ε->Nat×St)(eρ:ρ->St):Fw ν ε ρ->Out×St
 |.n a=>(.norm,B a)|.x e=>(.exit (eε e).1,(eε e).2)|.r b=>(.ret,eρ b)
def Fw.elim{ε ρ γ:Type}(B:ε->γ)(fr:ρ->γ):Fw Empty ε ρ->γ
 |.x e=>B e|.r b=>fr b
end
section
variable{α:Type}[bH α]
def IJ(s:Sl α):V.one (b9 s)=true:=by cases s<;>rfl
def Qt(l:aZ α):V.oO (rows l)=true:=by induction l with|nil=>rfl|cons a l u=>simp only[rows,map_cons,V.oO,ζh];exact⟨bH.good a,u⟩
def O3(s:Sl α):V.good (b9 s)=true:=by cases s<;>simp only[b9,Sl.k,qc,V.good]<;>exact Qt _
instance:bH (Sl α)where
 cells s:=[b9 s]
 agg:=false
 size:=1
 len _:=rfl
 good s:=by simp only[V.cM,O3,Bool.and_self]
 one s:=by simp[IJ]
 plain _:=rfl
end
section
variable{S:Sys}{c:cr}
def Ry(x:a_ SV)(b:X')(y z:a_ St):a_ St:=
 match x with
 |some (.v (.bool t))=>bl (t==b) y z|some (.v _)=>z|_=>none
@[congr] def Yg{x B:a_ SV}{b:X'}{y z:a_ St}(h:x=B):Ry x b y z=Ry B b y z:=by rw[h]
def VO{β:Type}(x:a_ SV)(y z:a_ β):a_ β:=
 match x with
 |some (.v (.bool t))=>bl t y z|_=>none
@[congr] def ZT{β:Type}{x B:a_ SV}{y z:a_ β}(h:x=B):VO x y z=VO B y z:=by rw[h]
def jA(c:cr)(f:Y')(az:So):a_ So:=(c f (az.map .v) []).bind λr=>dg r.2 8 r.1
def JD(now:X')(args:SW)(ok:X')(st:St)(ys:So):a_ (SV×St):=if(result ys).scalar||ok then some (.v (result ys),st)else if now then(rowsOf args).map λds=>(.v (result ys),{st with m:=pL ds st.m})else none
def Na(dst:a_ Nat)(dr now:X')(old:SW->X')(f:Y')(args:SW)(st:St)(a:S.E.keep f=false):
 fP S c dst dr now old f args st=(dg st.m 8 args).bind λaz=>if now||old args then(jA c f az).bind (JD now args (dG args).isSome st)else none:=by
 unfold fP jA;simp only[a,Bool.false_eq_true,if_false]
 cases dg st.m 8 args with
 |none=>rfl|some az=>
  simp only[ζb];split
  .cases c f (az.map .v) []with
   |none=>rfl|some r=>have⟨rs,m'⟩:=r;simp only[ζb];cases dg m' 8 rs<;>rfl
  rfl
end
section
variable{S:Sys}{T:rG}
def KE(rs:aZ RV):Out×St->a_ So
 |(.exit _,_)=>none|(_,st)=>(lS st rs).bind (dg st.m 8)
def SY{f:Y'}{rf:RF}(B:T f=some rf)(az:So)(D:az.length<=rf.na):jA (dw S T) f az=go S (dw S T) (KE rf.rs) rf.body [] (start (az.map .v) []):=by unfold jA;rw[tG B];unfold oM;rw[if_pos (by simpa using D),<-La];cases h:cU S (dw S T) rf.body (start (az.map .v) [])with|none=>rfl|some r=>have⟨o,st⟩:=r;cases o<;>simp only[ζb,KE]<;>(try rfl)<;>(cases lS st rf.rs<;>rfl)
end
end Go.VE
namespace Go.VE
variable[b_]
variable{N:Nat->Y'}
def AL(k:T2)(a b:Int):Pi:=if b=0 then none else some (k.wrap (a.tdiv b))
def Yd(e:a_ KT)(q:a_ Nat)(k:T2)(a b:Int):bq N (.bin e q .quo) [.int k a,.int k b]=(AL k a b).bind λx=>some (.int k x):=by simp only[bq,iG,AL,if_true];split<;>rfl
def Kc(o:Nat)(cs:So):bq N (.fieldAddr o) [.fptr cs]=if o<=cs.length then some (.fptr (cs.drop o))else none:=rfl
def mD(s:U')(n:Int):Pi:=if 0<=n then(s[n.toNat]?).map λb=>(b.toNat:Int)else none
def Rw(s:U')(k:T2)(n:Int):bq N .idxStr [.str s,.int k n]=(mD s n).bind λx=>some (.int .u8 x):=by simp only[bq,mD];split;cases s[n.toNat]?<;>rfl;rfl
def SF(z:So)(pl:aZ (Nat×Nat))(vs:So):bq N (.build z pl) vs=(mq z pl vs).bind λcs=>some (.agg cs):=by simp only[bq];cases mq z pl vs<;>rfl
section
variable{α:Type}[bH α]
def GZ(s:Sl α)(k:T2)(i:Int)(n:Nat)(B:n=bH.size α):bq N (.idxS n) [b9 s,.int k i]=(idx s i).bind λx=>some (.fptr (cells x)):=by rw[T6 s k i B];cases idx s i<;>rfl
def AA(s:Sl α):bq N .lenSl [b9 s]=some (.int .i64 s.l.length):=RU s
def Sl.isNil{α:Type}(s:Sl α):a_ X':=
 match s with
 |.nil=>some true|.emp=>none|_=>some false
def Un(q:a_ Nat)(s:Sl α):bq N (.bin (some .slice) q .eql) [b9 s,.bM]=s.isNil.bind λt=>some (.bool t):=by cases s<;>rfl
def RJ(q:a_ Nat)(s:Sl α):bq N (.bin (some .slice) q .neq) [b9 s,.bM]=s.isNil.bind λt=>some (.bool !t):=by cases s<;>rfl
def gu(s:Sl α)(lo hi:Pi):a_ (Sl α):=
 (eD s.l.length lo hi).map λ(l,h)=>match s with
  |.nil=>.nil|.emp=>.emp|.row x=>.part ((x.take h).drop l)|.part x=>.part ((x.take h).drop l)
def ON(s:Sl α)(lo hi:Pi)(n:Nat)(B:n=bH.size α):iX n (b9 s) lo hi=(gu s lo hi).bind λx=>some (b9 x):=by subst B;cases s with|nil=>simp only[b9,Sl.k,qc,iX,gu,Sl.l,length_nil];cases eD 0 lo hi<;>rfl|emp=>simp only[b9,Sl.k,qc,iX,gu,Sl.l,length_nil];cases eD 0 lo hi<;>rfl|row l=>simp only[b9,Sl.k,qc,iX,gu,Sl.l,if_true,iP];cases eD l.length lo hi<;>simp[rows,map_take,map_drop]|part l=>simp only[b9,Sl.k,qc,iX,gu,Sl.l,if_true,iP];cases eD l.length lo hi<;>simp[rows,map_take,map_drop]
end
def Qe(m:Tb bN)(n:Nat)(a:X')(cs:So):pq m (.load n a) [.v (.fptr cs)]=(cut cs 0 n).bind λr=>(mk a r).bind λx=>some (.v x):=by simp only[pq,eU];cases cut cs 0 n with|none=>rfl|some r=>simp only[ζb];cases mk a r<;>rfl
end Go.VE
namespace Go.VE
variable[b_]
section
variable{α:Type}[bH α]
def cO(s:Sl α):bN:=.sl s.k (bH.size α) (rows s.l)
def Sl.jc(s:Sl α)(i:Int):a_ Nat:=if 0<=i/\i.toNat<s.l.length then some i.toNat else none
def Sl.get(s:Sl α)(i:Nat):a_ α:=s.l[i]?
def Sl.put(s:Sl α)(i:Nat)(x:α):a_ (Sl α):=if i<s.l.length then some (match s with|.row l=>.row (l.set i x)|.part l=>.part (l.set i x)|s=>s)else none
def gm(s:Sl α)(x:α):a_ (Sl α):=if s.l.length+1<=2147483648 then some (.row (s.l++[x]))else none
def o_(n:Int)(z:α):a_ (Sl α):=if 0<=n/\n<=2147483648 then some (.row (replicate n.toNat z))else none
end
section
variable{α:Type}[bH α]{N:Nat->Y'}{m:Tb bN}
def Pw(n d:Nat)(o:a_ bN)(i:Int):a_ SV:=
 match o with
 |some (.sl k es u)=>if cV k/\es=n/\0<=i/\i.toNat<u.length then some (.el d i.toNat 0)else none|_=>none
def Xr(n d:Nat)(k:T2)(i:Int):kr N m (.idxS n) [.own d,.v (.int k i)]=Pw n d (bn m d) i:=by simp[kr,dG,zh,Pw];grind
def VV(n d:Nat)(s:Sl α)(i:Int)(h:n=bH.size α):Pw n d (some (cO s)) i=(s.jc i).bind λj=>some (.el d j 0):=by simp[Pw,cO,iP,Sl.jc];cases s with|nil=>simp[Sl.l,cV]|emp=>simp[Sl.l,cV]|row l=>simp[Sl.k,Sl.l,cV];grind|part l=>simp[Sl.k,Sl.l,cV];grind
def OF(o:a_ bN):a_ SV:=
 match o with
 |some (.sl _ _ u)=>some (.v (.int .i64 u.length))|_=>none
def TE(d:Nat):kr N m .lenSl [.own d]=OF (bn m d):=by simp[kr,dG,zh,OF];grind
def Xv(s:Sl α):OF (some (cO s))=some (.v (.int .i64 s.l.length)):=by simp[OF,cO,iP]
def U_(n:Nat)(a:X')(o:Nat)(ob:a_ bN):a_ SV:=
 match ob with
 |some (.box cs)=>xN n a ((cs.drop o).take n)|_=>none
def aby(n:Nat)(a:X')(d o:Nat):pq m (.load n a) [.ptr d o]=U_ n a o (bn m d):=by rfl
def Qx(n:Nat)(a:X')(o:Nat)(cs:SW):U_ n a o (some (.box cs))=xN n a ((cs.drop o).take n):=rfl
def K9(n:Nat)(a:X')(i o:Nat)(ob:a_ bN):a_ SV:=
 match ob with
 |some (.sl _ _ u)=>match u[i]?with
  |some cs=>((cut cs o n).bind (mk a)).map .v|none=>none
 |_=>none
def aaN(n:Nat)(a:X')(d i o:Nat):pq m (.load n a) [.el d i o]=K9 n a i o (bn m d):=by rfl
def QD(n:Nat)(a:X')(i o:Nat)(s:Sl α):K9 n a i o (some (cO s))=(s.get i).bind λx=>(cut (cells x) o n).bind λr=>(mk a r).bind λy=>some (.v y):=by simp only[K9,cO,Sl.get,rows,List.getElem?_map];cases s.l[i]?with|none=>rfl|some x=>simp only[map_some,ζb];cases cut (cells x) o n with|none=>rfl|some r=>simp;cases mk a r<;>rfl
def aaB(z:α)(n:Int)(d:Nat)(size:Nat)(zero:So)(h:zero=cells z)(B:size=bH.size α):
 pS m (.makeSl size zero) [.v (.int .i64 n),.v (.int .i64 n)] d=(o_ n z).bind λs=>some (cO s,.own d):=by
 subst h B;simp[pS,o_];split
 .simp[cO,Sl.k,Sl.l,rows]
 rfl
def Gw(st:St)(d i o size:Nat)(x:V)(ob:a_ bN):a_ (SV×St):=
 match ob with
 |some (.sl k es u)=>match u[i]?with
  |some cs=>if x.cells.length=size/\o+size<=cs.length/\x.cells.all V.one=true then
   some (.v .undef,{st with m:=bR st.m d (.sl k es (u.set i (cs.take o++x.cells++cs.drop (o+x.cells.length))))})else none
  |none=>none
 |_=>none
def OC(st:St)(dst:a_ Nat)(size d i o:Nat)(x:V):oe st dst (.store size) [.el d i o,.v x]=Gw st d i o size x (bn st.m d):=by rfl
def Pu(g:Tb SV)(p:ST)(w:S')(B:X')(y:Nat)(d i size:Nat)(x:V)(a:α)(D:x.cells=cells a)(G:size=bH.size α)(s:Sl α):
 Gw ⟨g,m,p,w,B,y⟩ d i 0 size x (some (cO s))=(s.put i a).bind λJ=>some (.v .undef,⟨g,bR m d (cO J),p,w,B,y⟩):=by
 have c:(cells a).all V.one=true:=bH.one a;have u:∀b:α,(cells b).length=bH.size α:=bH.len;subst G;simp only[Gw,cO,rows,List.getElem?_map,D,Sl.put]
 by_cases hi:i<s.l.length
 .have hg:=ζd hi;rw[if_pos hi,hg];simp[u,c]
  cases s with
  |nil=>simp[Sl.l]at hi|emp=>simp[Sl.l]at hi|row l=>simp[Sl.k,Sl.l,List.drop_of_length_le,u]|part l=>simp[Sl.k,Sl.l,List.drop_of_length_le,u]
 grind
def AX(st:St)(t n:Nat)(s:SV)(xs ys:a_ S'):a_ (SV×St):=
 match xs,ys with
 |some _,some []=>match s with
  |.own d=>match bn st.m d with
   |some ob=>if St.new {st with m:=eR d st.m} t then some (.own t,{st with m:=bR (eR d st.m) t ob})else none|none=>none
  |.v .bM=>if st.new t then some (.own t,{st with m:=bR st.m t (.sl .nil n [])})else none|.v .dX=>if st.new t then some (.own t,{st with m:=bR st.m t (.sl .emp n [])})else none|_=>none
 |some xs,some ys=>
  if xs.length+ys.length<=2147483648/\Kz s=true then
   if St.new {st with m:=giveUp st.m s} t then some (.own t,{st with m:=bR (giveUp st.m s) t (.sl .row n (xs++ys))})else none
  else none
 |_,_=>none
def Bu(st:St)(t n:Nat)(s x:SV):oe st (some t) (.append n) [s,x]=AX st t n s (ki st.m n s) (ki st.m n x):=by cases s<;>cases x<;>(rfl)
def OA(n:Nat)(o:a_ bN):a_ S':=
 match o with
 |some (.sl k es u)=>if cV k then(if es=n then some u else none)else some []|_=>none
def GK(n d:Nat):ki m n (.own d)=OA n (bn m d):=by simp[ki,OA];grind
def CQ(n:Nat)(s:Sl α)(h:n=bH.size α):OA n (some (cO s))=some (rows s.l):=by subst h;cases s<;>simp[OA,cO,Sl.k,Sl.l,cV,rows]
def VR(n:Nat):ki m n (.v .bM)=some []:=rfl
def VZ(n:Nat):ki m n (.v .dX)=some []:=rfl
def Rj(g:Tb SV)(p:ST)(w:S')(B:X')(y:Nat)(t n d:Nat)(l:aZ α)(x:α)(h:n=bH.size α):AX ⟨g,m,p,w,B,y⟩ t n (.own d) (some (rows l)) (some (rows [x]))=
 (gm (.row l) x).bind λs=>if St.new ⟨g,eR d m,p,w,B,y⟩ t then some (.own t,⟨g,bR (eR d m) t (cO s),p,w,B,y⟩)else none:=by
 subst h;have e:(rows l).length+(rows [x]).length=l.length+1:=by simp[iP]
 by_cases h:l.length+1<=2147483648
 .have a:gm (.row l) x=some (.row (l++[x])):=if_pos h;have u:AX ⟨g,m,p,w,B,y⟩ t (bH.size α) (.own d) (some (rows l)) (some (rows [x]))=if St.new ⟨g,eR d m,p,w,B,y⟩ t then some (.own t,⟨g,bR (eR d m) t (.sl .row (bH.size α) (rows l++rows [x])),p,w,B,y⟩)else none:=if_pos ⟨Zaa,rfl⟩
  rw[a,u];simp[cO,Sl.k,Sl.l,rows]
 have a:gm (.row l) x=none:=if_neg h;have u:AX ⟨g,m,p,w,B,y⟩ t (bH.size α) (.own d) (some (rows l)) (some (rows [x]))=none:=if_neg (λq=>h Zaa)
 grind
def RQ(g:Tb SV)(p:ST)(w:S')(B:X')(y:Nat)(t n:Nat)(x:α)(h:n=bH.size α):AX ⟨g,m,p,w,B,y⟩ t n (.v .bM) (some []) (some (rows [x]))=
 if St.new ⟨g,m,p,w,B,y⟩ t then some (.own t,⟨g,bR m t (cO (.row [x])),p,w,B,y⟩)else none:=by
 subst h;rfl
def Qo(g:Tb SV)(p:ST)(w:S')(B:X')(y:Nat)(t n:Nat)(x:α)(h:n=bH.size α):AX ⟨g,m,p,w,B,y⟩ t n (.v .dX) (some []) (some (rows [x]))=
 if St.new ⟨g,m,p,w,B,y⟩ t then some (.own t,⟨g,bR m t (cO (.row [x])),p,w,B,y⟩)else none:=by
 subst h;rfl
end
def Am(g:Tb SV)(m:Tb bN)(p:ST)(w:S')(B:X')(y d:Nat):St.new ⟨g,m,p,w,B,y⟩ d=(!(p.contains d)&&(bn m d).isNone&& !(xw d g)&& !(uZ d m)):=rfl
def uz(d:Nat):xw d []=false:=rfl
def rY(d n:Nat)(x:SV)(r:Tb SV):xw d ((n,x)::r)=(SV.dc d x||xw d r):=rfl
def uc(d:Nat):uZ d []=false:=rfl
def sG(d n:Nat)(x:bN)(r:Tb bN):uZ d ((n,x)::r)=(bN.dc d x||uZ d r):=rfl
def Ai(d:Nat)(x:V):SV.dc d (.v x)=false:=rfl
def vq(d e:Nat):SV.dc d (.own e)=(e==d):=rfl
def vJ(d e o:Nat):SV.dc d (.ptr e o)=(e==d):=rfl
def xV(d e i o:Nat):SV.dc d (.el e i o)=(e==d):=rfl
def xQ(d e:Nat):SV.dc d (.mp e)=(e==d):=rfl
def vH(d:Nat)(f:Y')(a b:SW):SV.dc d (.clo f a b)=(SV.dW d a||SV.dW d b):=rfl
def vL(d:Nat)(l:SW):SV.dc d (.tup l)=SV.dW d l:=rfl
def ud(d:Nat):SV.dW d []=false:=rfl
def sx(d:Nat)(x:SV)(r:SW):SV.dW d (x::r)=(SV.dc d x||SV.dW d r):=rfl
def uh(d:Nat)(cs:SW):bN.dc d (.box cs)=SV.dW d cs:=rfl
def It(m:Tb bN)(n:Nat):dg m n []=some []:=by cases n<;>simp[dg]
def Fk(m:Tb bN)(n:Nat)(x:SV)(r:SW):dg m n (x::r)=(shut m n x).bind λy=>(dg m n r).bind λs=>some (y::s):=by cases n<;>(simp[dg];cases shut m _ x<;>(try rfl)<;>(cases dg m _ r<;>rfl))
def YX(m:Tb bN)(n:Nat)(x:V):shut m n (.v x)=some x:=by cases n<;>simp[shut]
def TF(m:Tb bN)(n:Nat)(f:Y')(a b:SW):shut m (n+1) (.clo f a b)=(dg m n a).bind λx=>(dg m n b).bind λy=>some (.clo f x y):=by simp[shut];cases dg m n a<;>(try rfl)<;>(cases dg m n b<;>rfl)
def TL(m:Tb bN)(n:Nat)(l:SW):shut m (n+1) (.tup l)=(dg m n l).bind λx=>some (.tup x):=by simp[shut];cases dg m n l<;>rfl
def UH(m:Tb bN)(n:Nat)(l:SW):shut m (n+1) (.agg l)=(dg m n l).bind λx=>some (.agg x):=by simp[shut];cases dg m n l<;>rfl
def vn{α:Type}(n:Nat):eR n ([]:Tb α)=[]:=rfl
def ua{α:Type}(n k:Nat)(x:α)(r:Tb α):eR n ((k,x)::r)=if k=n then eR n r else(k,x)::eR n r:=rfl
def mapM_nil(f:SW->SW):mapM f []=[]:=rfl
section
variable{N:Nat->Y'}{m:Tb bN}
def WN:result []=.tup []:=rfl
def XM(x:V):result [x]=x:=rfl
def Wq(x y:V)(l:So):result (x::y::l)=.tup (x::y::l):=rfl
def LG(p:wE)(a:V):kr N m p [.v a]=(bq N p [a]).bind λx=>some (.v x):=NM N m p _ [a] rfl
def vi(p:wE)(a b:V):kr N m p [.v a,.v b]=(bq N p [a,b]).bind λx=>some (.v x):=NM N m p _ [a,b] rfl
def n9(l:So):dG (l.map .v)=some l:=by induction l with|nil=>rfl|cons a l u=>simp only[map_cons,dG,u];rfl
def wm(n:Nat)(l:So):dg m n (l.map .v)=some l:=by induction l with|nil=>exact It m n|cons a l u=>rw[map_cons,Fk,YX,u];rfl
def Sl.Vr{α:Type}(l:aZ α):(Sl.row l).l=l:=rfl
def HW(cs:So):mq cs [] []=some cs:=rfl
def E7(cs:So)(off size:Nat)(pl:aZ (Nat×Nat))(v:V)(vs:So):mq cs ((off,size)::pl) (v::vs)=
 if v.cells.length=size/\off+v.cells.length<=cs.length then mq (cs.take off++v.cells++cs.drop (off+v.cells.length)) pl vs else none:=by
 simp only[mq]
 by_cases h:v.cells.length=size<;>by_cases u:off+v.cells.length<=cs.length
 .rw[if_neg (by simp[h];omega),if_pos ⟨h,u⟩]
 .rw[if_pos (by simp[h];omega),if_neg (λq=>u q.2)]
 .rw[if_pos (by simp[h]),if_neg (λq=>h q.1)]
 rw[if_pos (by simp[h]),if_neg (λq=>h q.1)]
def FE(k:T2)(n:Int):V.cells (.int k n)=[.int k n]:=rfl
def C3(n:X'):V.cells (.bool n)=[.bool n]:=rfl
def Fz(n:U'):V.cells (.str n)=[.str n]:=rfl
def EG:V.cells .bM=[.bM]:=rfl
def nV(k:T2)(n:Int):V.one (.int k n)=true:=rfl
def mg(n:X'):V.one (.bool n)=true:=rfl
def nO(n:U'):V.one (.str n)=true:=rfl
end
section
variable{S:Sys}{c:cr}{β γ δ:Type}{Q:Out×St->a_ β}{L:a_ β}{e:γ->a_ β}
def QT{dr:X'}{fr:ST}{d:a_ Nat}{gd:a_ (Nat×X')}{now:X'}{k:K}{az:QQ}{st:St}(h:wanted st.g gd=some true):
 gx S c dr fr ⟨d,gd,now,k,az,[],[]⟩ st=gx S c dr fr ⟨d,none,now,k,az,[],[]⟩ st:=by
 unfold gx;rw[h];rfl
def D9(dr:X')(st:St):Ed dr [] st=some st:=by cases dr<;>rfl
def om(f:SV->a_ V):SW->a_ So
 |[]=>some []|x::r=>(f x).bind λy=>(om f r).bind λs=>some (y::s)
def jf(m:Tb bN):Nat->SV->a_ V
 |0,x=>match x with
  |.v y=>some y|.own d=>match bn m d with
   |some (.sl k es xs)=>some (qc k es xs)|_=>none
  |.mp d=>match bn m d with
   |some (.mp B)=>some (.fmap B)|_=>none
  |_=>none
 |n+1,x=>match x with
  |.v y=>some y|.own d=>match bn m d with
   |some (.sl k es xs)=>some (qc k es xs)|_=>none
  |.ptr d o=>match bn m d with
   |some (.box cs)=>match om (jf m n) cs with
    |some xs=>if o<=xs.length then some (.fptr (xs.drop o))else none|none=>none
   |_=>none
  |.mp d=>match bn m d with
   |some (.mp B)=>some (.fmap B)|_=>none
  |.clo f a b=>(om (jf m n) a).bind λx=>(om (jf m n) b).bind λy=>some (.clo f x y)|.tup l=>(om (jf m n) l).bind λx=>some (.tup x)|.agg l=>(om (jf m n) l).bind λx=>some (.agg x)|_=>none
def xW(m:Tb bN):∀(n:Nat),(∀x,shut m n x=jf m n x)/\∀l,dg m n l=om (jf m n) l:=by
 have w:∀n,(∀x,shut m n x=jf m n x)->∀l,dg m n l=om (jf m n) l:=by intro n h l;induction l with|nil=>exact It m n|cons a l u=>rw[Fk,h a,u];rfl
 intro n;induction n with|zero=>have c:∀x,shut m 0 x=jf m 0 x:=(by intro x;cases x<;>simp[shut,jf]<;>rfl);grind|succ n u=>have e:∀x,shut m (n+1) x=jf m (n+1) x:=(by intro x;cases x with|ptr d o=>simp[shut,jf,u.2];rfl|clo f a b=>rw[TF,u.2,u.2];rfl|tup l=>rw[TL,u.2];rfl|agg l=>rw[UH,u.2];rfl|_=>simp[shut,jf]<;>rfl);grind
def w6(S:Sys)(c:cr)(dr:X'):ST->Rd->(St->a_ β)->St->a_ β
 |_,[],k,st=>k st|fr,o::r,k,st=>((Ed dr o.pre st).bind (gx S c dr fr o.strip)).bind λst'=>w6 S c dr (if dr then sZ fr o.strip else fr) r k (qR o.dead st')
def GB(dr:X'):∀(l:Rd)(fr:ST)(k:St->a_ β)(st:St),w6 S c dr fr l k st=(oT S c dr fr l st).bind k
 |[],_,_,_=>rfl|o::r,fr,k,st=>by simp[w6,oT];cases(Ed dr o.pre st).bind (gx S c dr fr o.strip)with|none=>rfl|some st'=>exact GB dr r _ k _
def qX(S:Sys)(c:cr):RC->(St->a_ β)->(Nat->St->a_ β)->(St->a_ β)->St->a_ β
 |.skip,n,_,_,st=>n st|.ops l,n,_,_,st=>w6 S c false [] l n st|.qZ l,n,_,_,st=>w6 S c true [] l n st|.seq a b,n,x,r,st=>qX S c a (λst=>qX S c b n x r st) x r st|.cond y a b,n,x,r,st=>match sR S.N st.g y with
  |some (.v (.bool t))=>bl t (qX S c a n x r st) (qX S c b n x r st)|_=>none
 |.block id a,n,x,r,st=>qX S c a n (λk st=>if k=id then n st else x k st) r st|.loop a,n,x,r,st=>(qp (cU S c a) st).bind λq=>match q with|(.norm,st)=>n st|(.exit k,st)=>x k st|(.ret,st)=>r st
 |.each g ps a b,n,x,r,st=>(cU S c (.each g ps a b) st).bind λq=>match q with|(.norm,st)=>n st|(.exit k,st)=>x k st|(.ret,st)=>r st
 |.exit k,_,x,_,st=>x k st|.ret,_,_,r,st=>r st|.gh g a,n,x,r,st=>(ghost g st).bind λst=>qX S c a n x r st|.hg a g,n,x,r,st=>qX S c a (λst=>(ghost g st).bind n) x r st
def GX(n:St->a_ β)(x:Nat->St->a_ β)(r:St->a_ β):Out×St->a_ β
 |(.norm,st)=>n st|(.exit k,st)=>x k st|(.ret,st)=>r st
def Gq:∀(d:RC)(n:St->a_ β)(x:Nat->St->a_ β)(r:St->a_ β)(st:St),qX S c d n x r st=(cU S c d st).bind (GX n x r):=by
 intro d
 induction d with
 |skip=>intros;rfl|ops l=>intro n x r st;simp[qX,cU,GB];cases oT S c false [] l st<;>rfl|qZ l=>intro n x r st;simp[qX,cU,GB];cases oT S c true [] l st<;>rfl|seq a b u w=>intro n x r st;simp[qX,cU,u,w];cases h:cU S c a st with|none=>rfl|some q=>have⟨o,st'⟩:=q;cases o<;>rfl
 |cond y a b u w=>
  intro n x r st;simp[qX,cU,u,w]
  cases sR S.N st.g y with
  |none=>rfl|some v=>cases v with
   |v z=>cases z with
    |bool t=>cases t<;>rfl|_=>rfl
   |_=>rfl
 |block id a B=>intro n x r st;simp[qX,cU,B];cases h:cU S c a st with|none=>rfl|some q=>have⟨o,st'⟩:=q;cases o with|exit k=>simp[GX];split<;>rfl|_=>rfl
 |loop a B=>intro n x r st;rfl|each g ps a b u w=>intro n x r st;rfl|exit k=>intros;rfl|ret=>intros;rfl|gh g a B=>simp[qX,cU,B];grind|hg a g B=>intro n x r st;simp[qX,cU,B];cases h:cU S c a st with|none=>rfl|some q=>have⟨o,st'⟩:=q;cases o with|norm=>simp[GX];cases ghost g st'<;>rfl|_=>rfl
section
variable(S c Q)
mutual
def oR:QP->St->a_ β
 |[]=>λst=>Q (.norm,st)|.seq b::fs=>λst=>qX S c b (oR fs) (oD fs) (λst=>Q (.ret,st)) st|.blk _::fs=>oR fs|.gst g::fs=>λst=>(ghost g st).bind (oR fs)
def oD:QP->Nat->St->a_ β
 |[]=>λk st=>Q (.exit k,st)|.seq _::fs=>oD fs|.blk id::fs=>λk st=>if k=id then oR fs st else oD fs k st|.gst _::fs=>oD fs
end
def lZ(a:RC)(fs:QP)(st:St):a_ β:=qX S c a (oR S c Q fs) (oD S c Q fs) (λst=>Q (.ret,st)) st
end
section
variable{dr:X'}{fr:ST}{d:Nat}{dst:a_ Nat}{now:X'}{az:QQ}{st:St}{α:Type}[bH α]
def Ng{p:wE}{svs:SW}{m:a_ δ}{v:δ->SV}(B:b7 S.N st.g az=some svs)(hi:isSlice p=false)(h:kr S.N st.m p svs=m.bind λx=>some (v x)):
 gx S c dr fr ⟨dst,none,now,.p p,az,[],[]⟩ st=m.bind λx=>some (c8 st dst (v x)):=by
 rw[Vl _ _ _ _ _ _ _ hi,B]
 grind
def B3{p:wE}{svs:SW}{v:SV}(B:b7 S.N st.g az=some svs)(hi:isSlice p=false)(h:kr S.N st.m p svs=some v):
 gx S c dr fr ⟨dst,none,now,.p p,az,[],[]⟩ st=some (c8 st dst v):=by
 rw[Vl _ _ _ _ _ _ _ hi,B]
 grind
def UP{n:Nat}{s:Sl α}{k:T2}{i:Int}(B:b7 S.N st.g az=some [.v (b9 s),.v (.int k i)])(D:n=bH.size α):
 gx S c dr fr ⟨dst,none,now,.p (.idxS n),az,[],[]⟩ st=(idx s i).bind λx=>some (c8 st dst (.v (.fptr (cells x)))):=
 Ng B rfl (by rw[vi,GZ s k i n D];grind)
def aaR{n e:Nat}{s:Sl α}{k:T2}{i:Int}(B:b7 S.N st.g az=some [.own e,.v (.int k i)])(D:bn st.m e=some (cO s))(G:n=bH.size α):
 gx S c dr fr ⟨dst,none,now,.p (.idxS n),az,[],[]⟩ st=(s.jc i).bind λj=>some (c8 st dst (.el e j 0)):=
 Ng B rfl (by rw[Xr,D,VV n e s i G])
def U9{s:Sl α}(B:b7 S.N st.g az=some [.v (b9 s)]):gx S c dr fr ⟨dst,none,now,.p .lenSl,az,[],[]⟩ st=some (c8 st dst (.v (.int .i64 s.l.length))):=B3 B rfl (by rw[LG,AA];rfl)
def Yh{e:Nat}{s:Sl α}(B:b7 S.N st.g az=some [.own e])(D:bn st.m e=some (cO s)):gx S c dr fr ⟨dst,none,now,.p .lenSl,az,[],[]⟩ st=some (c8 st dst (.v (.int .i64 s.l.length))):=B3 B rfl (by rw[TE,D,Xv])
def ZX{q:a_ KT}{u:a_ Nat}{k:T2}{a b:Int}(B:b7 S.N st.g az=some [.v (.int k a),.v (.int k b)]):gx S c dr fr ⟨dst,none,now,.p (.bin q u .quo),az,[],[]⟩ st=(AL k a b).bind λx=>some (c8 st dst (.v (.int k x))):=Ng B rfl (by rw[vi,Yd];grind)
def Xo{u:a_ Nat}{s:Sl α}(B:b7 S.N st.g az=some [.v (b9 s),.v .bM]):gx S c dr fr ⟨dst,none,now,.p (.bin (some .slice) u .eql),az,[],[]⟩ st=s.isNil.bind λt=>some (c8 st dst (.v (.bool t))):=Ng B rfl (by rw[vi,Un];grind)
def Tz{u:a_ Nat}{s:Sl α}(B:b7 S.N st.g az=some [.v (b9 s),.v .bM]):gx S c dr fr ⟨dst,none,now,.p (.bin (some .slice) u .neq),az,[],[]⟩ st=s.isNil.bind λt=>some (c8 st dst (.v (.bool !t))):=Ng B rfl (by rw[vi,RJ];grind)
def Sg{s:U'}{k:T2}{n:Int}(B:b7 S.N st.g az=some [.v (.str s),.v (.int k n)]):gx S c dr fr ⟨dst,none,now,.p .idxStr,az,[],[]⟩ st=(mD s n).bind λx=>some (c8 st dst (.v (.int .u8 x))):=Ng B rfl (by rw[vi,Rw];grind)
def Zk{n e i o:Nat}{a:X'}{s:Sl α}{v:α->V}(B:b7 S.N st.g az=some [.el e i o])(hd:(!dr||now||fL fr [.el e i o])=true)(D:bn st.m e=some (cO s))(b:∀x:α,(cut (cells x) o n).bind (mk a)=some (v x)):
 gx S c dr fr ⟨dst,none,now,.r (.load n a),az,[],[]⟩ st=(s.get i).bind λx=>some (c8 st dst (.v (v x))):=by
 rw[CK,B];simp only[ζb,hd,aaN,D,QD]
 cases s.get i with
 |none=>rfl|some x=>
  cases d:cut (cells x) o n with
  |none=>grind|some r=>grind
def MY{n e i:Nat}{s:Sl α}{x:V}{a:α}(B:b7 S.N st.g az=some [.el e i 0,.v x])(hd:(!dr||now)=true)(D:bn st.m e=some (cO s))(G:x.cells=cells a)(J:n=bH.size α):
 gx S c dr fr ⟨dst,none,now,.l (.store n),az,[],[]⟩ st=(s.put i a).bind λU=>some (c8 {st with m:=bR st.m e (cO U)} dst (.v .undef)):=by
 rw[xF,B];simp[hd,OC,D];rw[Pu st.g st.pin st.want st.more st.yid e i n x a G J s]
 grind
def YY{n:Nat}{z:α}{zero:So}{i:Int}(B:b7 S.N st.g az=some [.v (.int .i64 i),.v (.int .i64 i)])(D:zero=cells z)(G:n=bH.size α)(J:st.new d=true):
 gx S c dr fr ⟨some d,none,now,.a (.makeSl n zero),az,[],[]⟩ st=(o_ i z).bind λs=>some {st with g:=bR st.g d (.own d),m:=bR st.m d (cO s)}:=by
 rw[As,B];simp[J];rw[aaB z i d n zero D G]
 grind
def aal{n e u:Nat}{s:Sl α}{x:α}(G:b7 S.N st.g az=some [.own e,.own u])(hd:(!dr||now)=true)(J:bn st.m e=some (cO s))(a:bn st.m u=some (cO (.row [x])))(B:n=bH.size α)(U:St.new {st with m:=eR e st.m} d=true):
 gx S c dr fr ⟨some d,none,now,.l (.append n),az,[],[]⟩ st=(gm s x).bind λD=>some {st with g:=bR st.g d (.own d),m:=bR (eR e st.m) d (cO D)}:=by
 rw[xF,G];simp[hd,Bu,GK,J,a];rw[CQ n s B,CQ n (.row [x]) B];have:=Rj (m:=st.m) st.g st.pin st.want st.more st.yid d n e s.l x B;simp[Sl.Vr];rw[this];have w:gm (.row s.l) x=gm s x:=by cases s<;>rfl
 rw[w]
 cases gm s x with
 |none=>rfl|some D=>simp;rw[if_pos U];rfl
def Y6{n u:Nat}{x:α}{v:V}(a:v=.bM\/v=.dX)(G:b7 S.N st.g az=some [.v v,.own u])(hd:(!dr||now)=true)(b:bn st.m u=some (cO (.row [x])))(B:n=bH.size α)(D:st.new d=true):
 gx S c dr fr ⟨some d,none,now,.l (.append n),az,[],[]⟩ st=some {st with g:=bR st.g d (.own d),m:=bR st.m d (cO (.row [x]))}:=by
 rw[xF,G];simp[hd,Bu,GK,b];rw[CQ n (.row [x]) B];simp[Sl.Vr];rcases a with rfl|rfl
 .rw[VR,RQ (m:=st.m) st.g st.pin st.want st.more st.yid d n x B];rw[if_pos D];rfl
 rw[VZ,Qo (m:=st.m) st.g st.pin st.want st.more st.yid d n x B];rw[if_pos D];rfl
def Yl{f:Y'}{svs args:SW}{cs:So}{m:a_ δ}{E:δ->So}(a:jA c f cs=m.bind λr=>some (E r))(b:S.E.keep f=false)(D:b7 S.N st.g az=some svs)(G:mb svs=some (f,args))
 (B:om (jf st.m 8) args=some cs)(J:((!dr||now)||gF st.m fr args)=true)(d:∀r,((result (E r)).scalar||(dG args).isSome)=true):
 gx S c dr fr ⟨dst,none,now,.c,az,[],[]⟩ st=m.bind λr=>some (c8 st dst (.v (result (E r)))):=by
 rw[xk dr fr dst now az st svs f args D G,Na _ _ _ _ _ _ _ b,(xW st.m 8).2,B];simp[J,a]
 cases m with
 |none=>rfl|some r=>
  simp[JD]
  grind
end
end
section
variable{S:Sys}{c:cr}{β γ:Type}{Q:Out×St->a_ β}{L:a_ β}{e:γ->a_ β}
def qD(a:RC)(st:St):lZ S c Q a [] st=(cU S c a st).bind Q:=by unfold lZ;rw[Gq];congr 1;funext q;have⟨o,st⟩:=q;cases o<;>rfl
def CG(a:RC)(st:St):cU S c a st=lZ S c some a [] st:=by rw[qD];cases cU S c a st<;>rfl
def qj(rs:aZ RV):Out×St->a_ So
 |(.exit _,_)=>none|(_,st)=>(lS st rs).bind (om (jf st.m 8))
def WE(rs:aZ RV):KE rs=qj rs:=by funext q;have⟨o,st⟩:=q;cases o;simp only[KE,qj];congr 1;funext l;exact(xW st.m 8).2 l;rfl;simp only[KE,qj];congr 1;funext l;exact(xW st.m 8).2 l
def Xm{S:Sys}{T:rG}{f:Y'}{rf:RF}(B:T f=some rf)(az:So)(D:az.length<=rf.na):jA (dw S T) f az=lZ S (dw S T) (qj rf.rs) rf.body [] (start (az.map .v) []):=by rw[SY B az D,<-La,qD,WE]
end
def lV{α σ ε ρ:Type}(step:α->σ->a_ (Fw σ ε ρ)):aZ α->σ->a_ (Fw σ ε ρ)
 |[],s=>some (.n s)|x::xs,s=>(step x s).bind λw=>match w with
  |.n B=>lV step xs B|.x e=>some (.x e)|.r b=>some (.r b)
def Fw.si{ν ε ρ γ:Type}(fn:ν->γ)(B:ε->γ)(fr:ρ->γ):Fw ν ε ρ->γ
 |.n a=>fn a|.x e=>B e|.r b=>fr b
def Fw.yx{ν ε ρ:Type}(B:ν->Tb bN)(eε:ε->Nat×Tb bN)(eρ:ρ->Tb bN):Fw ν ε ρ->Out×Tb bN
 |.n a=>(.norm,B a)|.x e=>(.exit (eε e).1,(eε e).2)|.r b=>(.ret,eρ b)
def yx(q:Out×St):a_ (Out×Tb bN):=some (q.1,q.2.m)
section
variable{S:Sys}{c:cr}{β γ:Type}{Q:Out×St->a_ β}{L:a_ β}{e:γ->a_ β}
def Az(S:Sys)(c:cr)(b:RC):Out×St->a_ (Out×Tb bN)
 |(.norm,st)=>lZ S c yx b [] st|_=>none
def N3(ps:ST)(a b:RC)(st:St)(x:So)(m:Tb bN)(B:x.length=ps.length):
 jN ps (cU S c a) (cU S c b) st x m=lZ S c (Az S c b) a [] ⟨yY st.g ps (x.map .v),m,st.pin++rL st.g,[],true,0⟩:=by
 unfold jN;rw[if_pos B,qD]
 cases cU S c a ⟨yY st.g ps (x.map .v),m,st.pin++rL st.g,[],true,0⟩with
 |none=>rfl|some q=>
  have⟨o,u⟩:=q
  cases o with
  |norm=>simp only[ζb,Az];rw[qD];cases cU S c b u<;>rfl|_=>rfl
end
def Le{α:Type}(a b:a_ α):Prop:=∀r,a=some r->b=some r
section
variable{α:Type}
def Le.refl(a:a_ α):Le a a:=λ_ h=>h
def Le.of_eq{a b:a_ α}(h:b=a):Le a b:=λ_ u=>h.trans u
def Le.trans{a b d:a_ α}(c:Le a b)(B:Le b d):Le a d:=λr h=>B r (c r h)
def Le.none(b:a_ α):Le (none:a_ α) b:=λr h=>by cases h
def Le.bind{β:Type}{a b:a_ α}{f g:α->a_ β}(h:Le a b)(B:∀x,Le (f x) (g x)):Le (a.bind f) (b.bind g):=λr c=>by have⟨x,d,u⟩:=ζg.1 c;rw[h x d];exact B x r u
end
section
variable{S:Sys}{c:cr}{β γ δ:Type}{Q:Out×St->a_ β}{L:a_ β}{e:γ->a_ β}
def JP{dr:X'}{fr:ST}{dst:a_ Nat}{now:X'}{az:QQ}{st:St}{f:Y'}{svs args:SW}{cs:So}{m:a_ δ}{E:δ->So}(a:Le (m.bind λr=>some (E r)) (jA c f cs))(b:S.E.keep f=false)(D:b7 S.N st.g az=some svs)(G:mb svs=some (f,args))
 (B:om (jf st.m 8) args=some cs)(J:((!dr||now)||gF st.m fr args)=true)(d:∀r,((result (E r)).scalar||(dG args).isSome)=true):
 Le (m.bind λr=>some (c8 st dst (.v (result (E r))))) (gx S c dr fr ⟨dst,none,now,.c,az,[],[]⟩ st):=by
 intro q w;have⟨r,e,z⟩:=ζg.1 w;have u:jA c f cs=(some r).bind λr=>some (E r):=a _ (by rw[e];rfl)
 rw[Yl (m:=some r) u b D G B J d];exact z
def S_{σ ε ρ:Type}{f:St->a_ (Out×St)}{step:σ->a_ (Fw σ ε ρ)}{eσ:σ->St}{eε:ε->Nat×St}{eρ:ρ->St}(h:∀s,Le ((step s).bind λw=>some (Fw.out eσ eε eρ w)) (f (eσ s)))(s:σ):
 Le ((bY step s).bind λw=>some (Fw.out (λe=>Empty.elim e) eε eρ w)) (qp f (eσ s)):=by
 have key:∀k s r,kL step k s=some r->ko f k (eσ s)=some (Fw.out (λe=>Empty.elim e) eε eρ r):=by intro k;induction k with|zero=>intro s r h;simp[kL]at h|succ k C=>intro s r u;simp only[kL]at u;cases z:step s with|none=>rw[z]at u;cases u|some w=>rw[z]at u;have B:=h s (Fw.out eσ eε eρ w) (by rw[z];rfl);simp only[ko,B];cases w with|n a=>exact C a r u|x e=>cases u;rfl|r b=>cases u;rfl
 intro r c;have⟨w,d,B⟩:=ζg.1 c;have⟨k,g⟩:=qf.1 d;cases B;exact oH.2 ⟨k,key k s w g⟩
def aau{σ ε ρ:Type}{a:RC}{fs:QP}{step:σ->a_ (Fw σ ε ρ)}{eσ:σ->St}{eε:ε->Nat×St}{eρ:ρ->St}{s:σ}{B:ε->a_ γ}{fr:ρ->a_ γ}
 (D:L=lZ S c Q (.loop a) fs (eσ s))(h:∀s,Le ((step s).bind λw=>some (Fw.out eσ eε eρ w)) (lZ S c some a [] (eσ s)))
 (G:∀x,Le ((B x).bind e) (oD S c Q fs (eε x).1 (eε x).2))(d:∀b,Le ((fr b).bind e) (Q (.ret,eρ b))):Le (((bY step s).bind (Fw.elim B fr)).bind e) L:=by
 subst D;have g:lZ S c Q (.loop a) fs (eσ s)=(qp (cU S c a) (eσ s)).bind (GX (oR S c Q fs) (oD S c Q fs) (λst=>Q (.ret,st))):=by unfold lZ;rw[Gq];rfl
 rw[g];have u:=S_ (step:=step) (f:=cU S c a) (eσ:=eσ) (eε:=eε) (eρ:=eρ) (λs=>by rw[CG];exact h s) s
 cases z:bY step s with
 |none=>exact Le.none _|some w=>
  have C:=u _ (by rw[z];rfl)
  rw[C]
  cases w with
  |n a=>cases a|x a=>exact G a|r a=>exact d a
def Ki{α σ ε ρ:Type}{f:So->Tb bN->a_ (Out×Tb bN)}{step:α->σ->a_ (Fw σ ε ρ)}{eI:α->So}{eσ:σ->Tb bN}{eε:ε->Nat×Tb bN}{eρ:ρ->Tb bN}
 (h:∀x s,Le ((step x s).bind λw=>some (Fw.yx eσ eε eρ w)) (f (eI x) (eσ s))):∀(xs:aZ α)(s:σ),Le ((lV step xs s).bind λw=>some (Fw.yx eσ eε eρ w)) (sL f (xs.map eI) (eσ s))
 |[],s=>λr a=>a|x::xs,s=>by simp only[map_cons,sL,lV];cases B:step x s with|none=>exact Le.none _|some w=>have D:=h x s (Fw.yx eσ eε eρ w) (by rw[B];rfl);rw[D];cases w with|n u=>simp only[ζb,Fw.yx];exact Ki h xs u|x e=>exact Le.refl _|r b=>exact Le.refl _
def aay{α σ ε ρ:Type}{g:Arg}{ps:ST}{a b:RC}{fs:QP}{f:Y'}{x y:So}{d:aZ α}{eI:α->So}{step:α->σ->a_ (Fw σ ε ρ)}{eσ:σ->Tb bN}{eε:ε->Nat×Tb bN}{eρ:ρ->Tb bN}{i:Tb SV}{s:σ}
 {fn:σ->a_ γ}{B:ε->a_ γ}{fr:ρ->a_ γ}
 (D:L=lZ S c Q (.each g ps a b) fs ⟨i,eσ s,[],[],true,0⟩)(j:sR S.N i g=some (.v (.clo f x y)))(hi:S.items f x y=some (d.map eI))(G:∀x,(eI x).length=ps.length)
 (h:∀x s,Le ((step x s).bind λw=>some (Fw.yx eσ eε eρ w)) (lZ S c (Az S c b) a [] ⟨yY i ps ((eI x).map .v),eσ s,rL i,[],true,0⟩))
 (J:∀s,Le ((fn s).bind e) (oR S c Q fs ⟨i,eσ s,[],[],true,0⟩))
 (U:∀x,Le ((B x).bind e) (oD S c Q fs (eε x).1 ⟨i,(eε x).2,[],[],true,0⟩))(k:∀b,Le ((fr b).bind e) (Q (.ret,⟨i,eρ b,[],[],true,0⟩))):
 Le (((lV step d s).bind (Fw.si fn B fr)).bind e) L:=by
 subst D;have l:lZ S c Q (.each g ps a b) fs ⟨i,eσ s,[],[],true,0⟩=(cU S c (.each g ps a b) ⟨i,eσ s,[],[],true,0⟩).bind (GX (oR S c Q fs) (oD S c Q fs) (λst=>Q (.ret,st))):=by unfold lZ;rw[Gq]
 rw[l];simp only[cU,j,hi];have u:=Ki (step:=step) (f:=jN ps (cU S c a) (cU S c b) ⟨i,eσ s,[],[],true,0⟩) (eI:=eI) (eσ:=eσ) (eε:=eε) (eρ:=eρ) (λx s=>by rw[N3 _ _ _ _ _ _ (G x)];exact h x s) d s
 cases z:lV step d s with
 |none=>exact Le.none _|some w=>
  have C:=u _ (by rw[z];rfl)
  rw[C]
  cases w with
  |n a=>exact J a|x a=>exact U a|r a=>exact k a
end
inductive Fo where
 |rc(c:RC)|ops(dr:Bool)(fr:List Nat)(l:List RO)|nx|ex(k:Nat)|rt
abbrev bL(g:Tb SV)(m:Tb bN):St:=⟨g,m,[],[],true,0⟩
section
variable(S:Sys)(c:cr){β:Type}(Q:Out×St->a_ β)
def rn:Fo->QP->St->a_ β
 |.rc a,fs,st=>lZ S c Q a fs st|.ops dr fr l,fs,st=>w6 S c dr fr l (oR S c Q fs) st|.nx,fs,st=>oR S c Q fs st|.ex k,fs,st=>oD S c Q fs k st|.rt,_,st=>Q (.ret,st)
def AW:Fo->QP->St->a_ (Fo×QP×St)
 |.rc .skip,fs,st=>some (.nx,fs,st)|.rc (.ops l),fs,st=>some (.ops false [] l,fs,st)|.rc (.qZ l),fs,st=>some (.ops true [] l,fs,st)|.rc (.seq a b),fs,st=>some (.rc a,.seq b::fs,st)|.rc (.cond y a b),fs,st=>match sR S.N st.g y with
  |some (.v (.bool true))=>some (.rc a,fs,st)|some (.v (.bool false))=>some (.rc b,fs,st)|_=>none
 |.rc (.block id a),fs,st=>some (.rc a,.blk id::fs,st)|.rc (.exit k),fs,st=>some (.ex k,fs,st)|.rc .ret,fs,st=>some (.rt,fs,st)|.rc (.gh g a),fs,st=>match ghost g st with
  |some st'=>some (.rc a,fs,st')|none=>none
 |.rc (.hg a g),fs,st=>some (.rc a,.gst g::fs,st)|.rc (.loop _),_,_=>none|.rc (.each ..),_,_=>none|.ops _ _ [],fs,st=>some (.nx,fs,st)|.ops dr fr (⟨d,gd,now,k,az,dd,[]⟩::r),fs,st=>match gx S c dr fr ⟨d,gd,now,k,az,[],[]⟩ st with
  |some st'=>some (.ops dr (if dr then sZ fr ⟨d,gd,now,k,az,[],[]⟩else fr) r,fs,qR dd st')|none=>none
 |.ops dr fr (⟨d,gd,now,k,az,dd,x::xs⟩::r),fs,st=>if dr&& !(B1 x&&xs.all B1)then none else match ghost x st with
  |some st'=>some (.ops dr fr (⟨d,gd,now,k,az,dd,xs⟩::r),fs,st')|none=>none
 |.nx,.seq b::fs,st=>some (.rc b,fs,st)|.nx,.blk _::fs,st=>some (.nx,fs,st)|.nx,.gst g::fs,st=>match ghost g st with
  |some st'=>some (.nx,fs,st')|none=>none
 |.nx,[],_=>none|.ex k,.seq _::fs,st=>some (.ex k,fs,st)|.ex k,.blk id::fs,st=>some (if k=id then .nx else .ex k,fs,st)|.ex k,.gst _::fs,st=>some (.ex k,fs,st)|.ex _,[],_=>none|.rt,_,_=>none
def iR:Nat->Fo->QP->St->a_ (Fo×QP×St)
 |0,fo,fs,st=>some (fo,fs,st)|n+1,fo,fs,st=>match AW S c fo fs st with
  |some (fo',fs',st')=>iR n fo' fs' st'|none=>none
end
section
variable{S:Sys}{c:cr}{β γ δ:Type}{Q:Out×St->a_ β}{e:γ->a_ β}
def T4{fo fo':Fo}{fs fs':QP}{st st':St}(h:AW S c fo fs st=some (fo',fs',st')):rn S c Q fo fs st=rn S c Q fo' fs' st':=by
 cases fo with
 |rc a=>cases a with|cond y a b=>simp only[AW]at h;split at h;(next u=>cases h;simp only[rn,lZ,qX,u,bl,if_true]);(next u=>cases h;simp only[rn,lZ,qX,u,bl];rfl);cases h|gh g a=>simp only[AW]at h;split at h;(next u=>cases h;simp only[rn,lZ,qX,u,ζb]);cases h|loop a=>cases h|each g ps a b=>cases h|seq a b=>cases h;simp only[rn,lZ,qX,oR,oD]|block id a=>cases h;simp only[rn,lZ,qX,oR,oD]|hg a g=>cases h;simp only[rn,lZ,qX,oR,oD]|_=>cases h;simp only[rn,lZ,qX]
 |ops dr fr l=>cases l with|nil=>cases h;simp only[rn,w6]|cons o r=>have⟨d,gd,now,k,az,dd,pre⟩:=o;cases pre with|nil=>simp only[AW]at h;split at h;(next u=>cases h;simp only[rn,w6,D9,RO.strip,ζb,u]);cases h|cons x w=>simp only[AW]at h;split at h;cases h;rename_i hd;split at h;rename_i u;cases h;(cases dr with|true=>simp only[Bool.true_and,Bool.not_eq_true',Bool.not_eq_false,ζh]at hd;simp only[rn,w6,RO.strip,Ed,qz,if_true,List.all_cons,hd.1,hd.2,Bool.and_self,u,ζb]|false=>simp only[rn,w6,RO.strip,Ed,qz,Bool.false_eq_true,if_false,u,ζb]);cases h
 |nx=>cases fs with|nil=>cases h|cons f fs=>cases f with|seq b=>cases h;simp only[rn,lZ,oR]|blk id=>cases h;simp only[rn,oR]|gst g=>simp only[AW]at h;split at h;(next u=>cases h;simp only[rn,oR,u,ζb]);cases h
 |ex k=>cases fs with|nil=>cases h|cons f fs=>cases f with|seq b=>cases h;simp only[rn,oD]|blk id=>cases h;simp only[rn,oD];by_cases e:k=id;simp only[if_pos e,rn];simp only[if_neg e,rn]|gst g=>cases h;simp only[rn,oD]
 |rt=>cases h
def qw:∀{n:Nat}{fo fo':Fo}{fs fs':QP}{st st':St},iR S c n fo fs st=some (fo',fs',st')->rn S c Q fo fs st=rn S c Q fo' fs' st'
 |0,fo,fo',fs,fs',st,st',h=>by cases h;rfl|n+1,fo,fo',fs,fs',st,st',h=>by simp only[iR]at h;split at h;(next a b d B=>rw[T4 B];exact qw h);cases h
def BT{n:Nat}{fo fo':Fo}{fs fs':QP}{st st':St}{m:a_ β}(h:iR S c n fo fs st=some (fo',fs',st'))(B:Le m (rn S c Q fo' fs' st')):Le m (rn S c Q fo fs st):=by rw[qw h];exact B
def abx{n:Nat}{fo fo':Fo}{fs fs':QP}{st st':St}{r:γ}(h:iR S c n fo fs st=some (fo',fs',st'))(B:rn S c Q fo' fs' st'=e r):Le ((some r).bind e) (rn S c Q fo fs st):=by rw[qw h];exact Le.of_eq B
def Vf{m:a_ δ}{f:δ->a_ γ}{L:a_ β}(k:δ->a_ β)(B:Le (m.bind k) L)(b:∀r,Le ((f r).bind e) (k r)):Le ((m.bind f).bind e) L:=by intro r a;cases m with|none=>cases a|some x=>exact B r (b x r a)
def abo{n:Nat}{fo:Fo}{fs fs':QP}{st0:St}{dr:X'}{q l:Rd}{fr:ST}{st:St}{d:a_ Nat}{gd:a_ (Nat×X')}{now:X'}{k:K}{az:QQ}{dd:ST}{m:a_ δ}{g:δ->St}{f:δ->a_ γ}
 (B:iR S c n fo fs st0=some (.ops dr fr q,fs',st))(D:q=⟨d,gd,now,k,az,dd,[]⟩::l)(a:wanted st.g gd=some true)
 (G:Le (m.bind λx=>some (g x)) (gx S c dr fr ⟨d,none,now,k,az,[],[]⟩ st))
 (h:∀x,m=some x->Le ((f x).bind e) (rn S c Q (.ops dr (if dr then sZ fr ⟨d,gd,now,k,az,[],[]⟩else fr) l) fs' (qR dd (g x)))):Le ((m.bind f).bind e) (rn S c Q fo fs st0):=by
 rw[qw B];subst D;simp only[rn,w6,RO.strip,D9,ζb];rw[QT a]
 cases m with
 |none=>exact Le.none _|some x=>rw[G (g x) rfl];exact h x rfl
def UM{n:Nat}{fo:Fo}{fs fs':QP}{st0:St}{dr:X'}{q l:Rd}{fr:ST}{st st':St}{d:a_ Nat}{gd:a_ (Nat×X')}{now:X'}{k:K}{az:QQ}{dd:ST}{m:a_ β}
 (B:iR S c n fo fs st0=some (.ops dr fr q,fs',st))(D:q=⟨d,gd,now,k,az,dd,[]⟩::l)(a:wanted st.g gd=some true)
 (G:gx S c dr fr ⟨d,none,now,k,az,[],[]⟩ st=some st')
 (h:Le m (rn S c Q (.ops dr (if dr then sZ fr ⟨d,gd,now,k,az,[],[]⟩else fr) l) fs' (qR dd st'))):Le m (rn S c Q fo fs st0):=by
 rw[qw B];subst D;simp only[rn,w6,RO.strip,D9,ζb];rw[QT a,G];exact h
def Q3{n:Nat}{fo:Fo}{B:QP}{st:St}{σ ε ρ:Type}{a:RC}{fs:QP}{step:σ->a_ (Fw σ ε ρ)}{eσ:σ->St}{eε:ε->Nat×St}{eρ:ρ->St}{s:σ}{D:ε->a_ γ}{fr:ρ->a_ γ}
 (G:iR S c n fo B st=some (.rc (.loop a),fs,eσ s))(h:∀s,Le ((step s).bind λw=>some (Fw.out eσ eε eρ w)) (rn S c some (.rc a) [] (eσ s)))
 (J:∀x,Le ((D x).bind e) (rn S c Q (.ex (eε x).1) fs (eε x).2))(d:∀b,Le ((fr b).bind e) (Q (.ret,eρ b))):Le (((bY step s).bind (Fw.elim D fr)).bind e) (rn S c Q fo B st):=by
 rw[qw G];exact aau (L:=rn S c Q (.rc (.loop a)) fs (eσ s)) rfl h J d
def Yu{n:Nat}{fo:Fo}{B:QP}{st:St}{α σ ε ρ:Type}{g:Arg}{ps:ST}{a b:RC}{fs:QP}{f:Y'}{x y:So}{d:aZ α}{eI:α->So}{step:α->σ->a_ (Fw σ ε ρ)}{eσ:σ->Tb bN}{eε:ε->Nat×Tb bN}{eρ:ρ->Tb bN}{i:Tb SV}{s:σ}
 {fn:σ->a_ γ}{D:ε->a_ γ}{fr:ρ->a_ γ}
 (G:iR S c n fo B st=some (.rc (.each g ps a b),fs,bL i (eσ s)))(j:sR S.N i g=some (.v (.clo f x y)))(hi:S.items f x y=some (d.map eI))(J:∀x,(eI x).length=ps.length)
 (h:∀x s,Le ((step x s).bind λw=>some (Fw.yx eσ eε eρ w)) (rn S c (Az S c b) (.rc a) [] ⟨yY i ps ((eI x).map .v),eσ s,rL i,[],true,0⟩))
 (U:∀s,Le ((fn s).bind e) (rn S c Q .nx fs (bL i (eσ s))))
 (W:∀x,Le ((D x).bind e) (rn S c Q (.ex (eε x).1) fs (bL i (eε x).2)))(k:∀b,Le ((fr b).bind e) (Q (.ret,bL i (eρ b)))):
 Le (((lV step d s).bind (Fw.si fn D fr)).bind e) (rn S c Q fo B st):=by
 rw[qw G];exact aay (L:=rn S c Q (.rc (.each g ps a b)) fs (bL i (eσ s))) rfl j hi J h U W k
def Zm{b:RC}{st st':St}{m:a_ (Out×Tb bN)}{fs:QP}{n:Nat}{fo:Fo}(h:iR S c n fo fs st=some (.nx,[],st'))(B:Le m (rn S c yx (.rc b) [] st')):Le m (rn S c (Az S c b) fo fs st):=by rw[qw h];exact B
def aaF{α:Type}{n:Nat}{fo fo':Fo}{fs fs':QP}{st:St}{A:a_ α->St}{o:a_ α}{f:α->a_ γ}(h:iR S c n fo fs st=some (fo',fs',A o))
 (B:∀x,o=some x->Le ((f x).bind e) (rn S c Q fo' fs' (A (some x)))):Le ((o.bind f).bind e) (rn S c Q fo fs st):=by
 rw[qw h]
 cases o with
 |none=>exact Le.none _|some x=>exact B x rfl
def abC{T:rG}{f:Y'}{rf:RF}{az:So}{m:a_ So}(B:T f=some rf)(D:az.length<=rf.na)(h:Le m (rn S (dw S T) (qj rf.rs) (.rc rf.body) [] (start (az.map .v) []))):Le m (jA (dw S T) f az):=by rw[Xm B az D];exact h
end
section
variable{α:Type}[bH α]
abbrev cv(x:α):SV:=.v (enc x)
abbrev cp(x:α):SV:=.v (.fptr (cells x))
abbrev bx(x:α):bN:=.box ((cells x).map .v)
end
structure gC(S:Sys)(c:cr){α δ:Type}(fn:FuncId)(A:α->List V)(E:δ->List V)(p:α->Option δ)(sc:Bool):Prop where
 k:S.E.keep fn=false
 h:∀z,Le ((p z).bind λr=>some (E r)) (jA c fn (A z))
 s:sc=true->∀r,(result (E r)).scalar=true
section
variable{S:Sys}{c:cr}{β γ δ α:Type}{Q:Out×St->a_ β}{e:γ->a_ β}{fo:Fo}{fs:QP}{st0:St}{l:Rd}{d:a_ Nat}{gd:a_ (Nat×X')}{now:X'}{az:QQ}{dd:ST}
abbrev uP(S:Sys)(c:cr)(Q:Out×St->a_ β)(dr:Bool)(fr:aZ Nat)(d:a_ Nat)(k:K)(l:aZ RO)(fs:aZ Fm)(dd:aZ Nat)(st:St):a_ β:=rn S c Q (.ops dr (if dr then(match k with|.p _|.r _=>fr|_=>match d with|some d=>d::fr|none=>fr)else fr) l) fs (qR dd st)
def HB(fr:ST)(k:K):sZ fr ⟨d,gd,now,k,az,[],[]⟩=(match k with|.p _|.r _=>fr|_=>match d with|some d=>d::fr|none=>fr):=by cases k<;>cases d<;>rfl
def DQ{n:Nat}{dr:X'}{fr:ST}{q:Rd}{fs':QP}{st:St}{k:K}{m:a_ δ}{g:δ->St}{f:δ->a_ γ}
 (B:iR S c n fo fs st0=some (.ops dr fr q,fs',st))(D:q=⟨d,gd,now,k,az,dd,[]⟩::l)(a:wanted st.g gd=some true)
 (G:Le (m.bind λx=>some (g x)) (gx S c dr fr ⟨d,none,now,k,az,[],[]⟩ st))
 (h:∀x,m=some x->Le ((f x).bind e) (uP S c Q dr fr d k l fs' dd (g x))):Le ((m.bind f).bind e) (rn S c Q fo fs st0):=
 abo B D a G (λx u=>by rw[HB];grind)
def tn{n:Nat}{dr:X'}{fr:ST}{q:Rd}{fs':QP}{st st':St}{k:K}{m:a_ β}
 (B:iR S c n fo fs st0=some (.ops dr fr q,fs',st))(D:q=⟨d,gd,now,k,az,dd,[]⟩::l)(a:wanted st.g gd=some true)
 (G:gx S c dr fr ⟨d,none,now,k,az,[],[]⟩ st=some st')(h:Le m (uP S c Q dr fr d k l fs' dd st')):Le m (rn S c Q fo fs st0):=
 UM B D a G (by rw[HB];omega)
section
variable[bH α]
def S7(n:Nat)(dr:X')(fr:ST)(q:Rd)(fs':QP)(st:St)(k:T2){sz:Nat}{s:Sl α}{i:Int}{f:α->a_ γ}(D:q=⟨d,gd,now,.p (.idxS sz),az,dd,[]⟩::l)
 (B:(iR S c n fo fs st0,wanted st.g gd,b7 S.N st.g az,sz)=(some (.ops dr fr q,fs',st),some true,some [.v (b9 s),.v (.int k i)],bH.size α))
 (h:∀x,idx s i=some x->Le ((f x).bind e) (uP S c Q dr fr d (.p (.idxS sz)) l fs' dd (c8 st d (cp x)))):Le (((idx s i).bind f).bind e) (rn S c Q fo fs st0):=by
 simp at B;exact DQ B.1 D B.2.1 (Le.of_eq (UP B.2.2.1 B.2.2.2)) h
def ZA(n:Nat)(dr:X')(fr:ST)(q:Rd)(fs':QP)(st:St)(s:Sl α){m:a_ β}(D:q=⟨d,gd,now,.p .lenSl,az,dd,[]⟩::l)
 (B:(iR S c n fo fs st0,wanted st.g gd,b7 S.N st.g az)=(some (.ops dr fr q,fs',st),some true,some [.v (b9 s)]))
 (h:Le m (uP S c Q dr fr d (.p .lenSl) l fs' dd (c8 st d (.v (.int .i64 s.l.length))))):Le m (rn S c Q fo fs st0):=by
 simp at B;exact tn B.1 D B.2.1 (U9 B.2.2) h
end
section
variable{q:Rd}{fs':QP}
end
def JY(m:Tb bN)(n:Nat)(l:So):om (jf m n) (l.map .v)=some l:=by rw[<-(xW m n).2,wm]
variable{A:α->So}{E:δ->So}{p:α->a_ δ}{fn:Y'}{sc:X'}
end
abbrev iv(n:Int):SV:=.v (.int .i64 n)
abbrev bv(b:Bool):SV:=.v (.bool b)
abbrev len{α:Type}(s:Sl α):Int:=((List.length (Sl.l s):Nat):Int)
abbrev o1(d:Nat)(a:Arg)(dd:aZ Nat):RO:=⟨some d,none,false,.p .id,[a],dd,[]⟩
abbrev o2(d:Nat)(k:K)(az:aZ Arg)(dd:aZ Nat):RO:=⟨some d,none,false,k,az,dd,[]⟩
abbrev o3(d s:Nat)(b:Bool)(k:K)(az:aZ Arg)(dd:aZ Nat):RO:=⟨some d,some (s,b),false,k,az,dd,[]⟩
def M9(a b:bf):X':=[a.proc,a.index]==[b.proc,b.index]
section
variable{α:Type}[bH α]
def wP(h:bH.agg α=false)(a:α):cells a=[enc a]:=by
 have u:(cells a).length=1:=by rw[show(cells a).length=_ from bH.len a,bH.plain h]
 unfold enc;rw[if_neg (by simp[h])];match b:cells a,u with|[x],_=>rfl
def Dh(h:bH.agg α=true)(a:α):enc a=.agg (cells a):=by unfold enc;grind
def kC(a:α):V.good (enc a)=true:=by have h:V.cM (cells a)=true:=bH.good a;cases u:bH.agg α with|true=>rw[Dh u];exact h|false=>rw[wP u]at h;simp[V.cM]at h;omega
def mU(s:Sl α):V.one (enc s)=true:=IJ s
def Uz(s:α)(h:bH.agg α=false):V.one (enc s)=true:=by have:=bH.one s;rw[show bH.cells s=cells s from rfl,wP h]at this;grind
end
instance{α:Type}[bH α]:bH (a_ α)where
 cells o:=[match o with|none=>.ja|some x=>.fptr (cells x)]
 agg:=false
 size:=1
 len _:=rfl
 good o:=by cases o with|none=>rfl|some x=>simp only[V.cM,V.good,Bool.and_true];exact bH.good x
 one o:=by cases o<;>rfl
 plain _:=rfl
structure U8 where
 v:Int
 deriving Inhabited,DecidableEq
instance:bH U8 where
 cells n:=[.int .u8 n.v]
 agg:=false
 size:=1
 len _:=rfl
 good _:=rfl
 one _:=rfl
 plain _:=rfl
structure U64 where
 v:Int
 deriving Inhabited,DecidableEq
instance:bH U64 where
 cells n:=[.int .u64 n.v]
 agg:=false
 size:=1
 len _:=rfl
 good _:=rfl
 one _:=rfl
 plain _:=rfl
structure U32 where
 v:Int
 deriving Inhabited,DecidableEq
instance:bH U32 where
 cells n:=[.int .u32 n.v]
 agg:=false
 size:=1
 len _:=rfl
 good _:=rfl
 one _:=rfl
 plain _:=rfl
structure I32 where
 v:Int
 deriving Inhabited,DecidableEq
instance:bH I32 where
 cells n:=[.int .i32 n.v]
 agg:=false
 size:=1
 len _:=rfl
 good _:=rfl
 one _:=rfl
 plain _:=rfl
structure lY(S:Sys)(c:cr){α δ:Type}(g:FuncId)(w e:List V)(A:α->List V)(R:δ->List V)(p:α->Option δ)(b:Bool):Prop where
 f:gC S c g (λz=>w++A z++e) R p b
section
variable{S:Sys}{c:cr}{β γ δ α:Type}{Q:Out×St->a_ β}{e:γ->a_ β}{fo:Fo}{fs:QP}{st0:St}{l:Rd}{d:a_ Nat}{gd:a_ (Nat×X')}{now:X'}{az:QQ}{dd:ST}
def kJ{α:Type}[bH α](a:α):V.cells (enc a)=cells a:=by cases u:bH.agg α with|true=>rw[Dh u];rfl|false=>have b:=Uz a u;rw[wP u];cases h:enc a<;>first|rfl|(rw[h]at b;cases b)
def sq{α:Type}[bH α](a:α):(cells a).all V.one=true:=bH.one a
def gT{α:Type}[bH α](a:α):(cells a).length=bH.size α:=bH.len a
def Ast[bH α](n:Nat)(dr:X')(fr:ST)(q:Rd)(fs':QP)(st:St)(u o:Nat)(x:α)(cs B:SW){sz:Nat}{m:a_ β}(G:q=⟨d,gd,now,.l (.store sz),az,dd,[]⟩::l)
 (D:(iR S c n fo fs st0,wanted st.g gd,b7 S.N st.g az,bn st.m u,(!dr||now),sz,ble (o+sz) cs.length,cs.take o++(cells x).map .v++cs.drop (o+sz))=(some (.ops dr fr q,fs',st),some true,some [.ptr u o,cv x],some (.box cs),true,bH.size α,true,B))
 (h:Le m (uP S c Q dr fr d (.l (.store sz)) l fs' dd (c8 {st with m:=bR st.m u (.box B)} d (.v .undef)))):Le m (rn S c Q fo fs st0):=by
 simp only[ζc]at D;have⟨a,w,z,C,I,J,L,O⟩:=D;refine tn a G w ?_ h;rw[xF,z];subst J;have T:=Nat.le_of_ble_eq_true L;simp only[ζb,I,if_true,oe,C,putCells,kJ,gT,sq,T,and_self,O,map_some]
def Co{α:Type}[bH α]:∀(xs:aZ α)(pre:S')(B:S'),B.length=xs.length->fW (bH.size α) (pre++B) ((range' pre.length xs.length).zip (xs.map enc))=some (pre++rows xs)
 |[],pre,B,h=>by have:=List.eq_nil_of_length_eq_zero h;subst this;rfl|x::xs,pre,s::B,h=>by simp only[length_cons,List.range'_succ,map_cons,List.zip_cons_cons,fW,kJ,gT,sq];have:=Co xs (pre++[cells x]) B Zac;simp only[ζi,length_cons,length_nil]at this;have e:(pre++s::B).set pre.length (cells x)=pre++[cells x]++B:=Zab;rw[e,this];simp[rows]
def Abs[bH α](n:Nat)(dr:X')(fr:ST)(q:Rd)(fs':QP)(st:St)(xs:aZ α){u sz ln:Nat}{zero:So}{ix:ST}{m:a_ β}(D:q=⟨some u,gd,now,.a (.buildSl sz ln zero ix),az,dd,[]⟩::l)
 (G:st.new u=true)(B:(iR S c n fo fs st0,wanted st.g gd,b7 S.N st.g az,sz,ln,ix)=(some (.ops dr fr q,fs',st),some true,some ((xs.map enc).map .v),bH.size α,xs.length,range' 0 xs.length))
 (h:Le m (uP S c Q dr fr (some u) (.a (.buildSl sz ln zero ix)) l fs' dd {st with g:=bR st.g u (.own u),m:=bR st.m u (cO (.row xs))})):Le m (rn S c Q fo fs st0):=by
 simp only[ζc]at B;have⟨a,w,z,C,I,J⟩:=B;subst C I J;refine tn a D w ?_ h;rw[As,z];simp only[ζb,G,pS,n9,List.length_range',length_map];have:=Co xs [] (replicate xs.length zero) Zab
 simp at this;rw[this];rfl
def abp[bH α](n:Nat)(dr:X')(fr:ST)(q:Rd)(fs':QP)(st:St)(x:α)(vs:So){z:So}{pl:aZ (Nat×Nat)}{m:a_ β}(D:q=⟨d,gd,now,.p (.build z pl),az,dd,[]⟩::l)
 (hp:mq z pl vs=some (cells x))(G:bH.agg α=true)
 (B:(iR S c n fo fs st0,wanted st.g gd,b7 S.N st.g az)=(some (.ops dr fr q,fs',st),some true,some (vs.map .v)))
 (h:Le m (uP S c Q dr fr d (.p (.build z pl)) l fs' dd (c8 st d (cv x)))):Le m (rn S c Q fo fs st0):=by
 simp at B;refine tn B.1 D B.2.1 (B3 B.2.2 rfl ?_) h;unfold kr;rw[n9];simp only[SF,hp,map_some];show some (SV.v (.agg (cells x)))=some (.v (enc x));rw[Dh G]
section
variable[bH α]
def abB(n:Nat)(dr:X')(fr:ST)(q:Rd)(fs':QP)(st:St)(lo hi:X')(D:So){sz:Nat}{s:Sl α}{a b:Pi}{f:Sl α->a_ γ}(G:q=⟨d,gd,now,.p (.slice sz lo hi),az,dd,[]⟩::l)
 (B:(iR S c n fo fs st0,wanted st.g gd,b7 S.N st.g az,ny lo hi D,sz)=(some (.ops dr fr q,fs',st),some true,some (.v (b9 s)::D.map .v),some (a,b),bH.size α))
 (h:∀x,gu s a b=some x->Le ((f x).bind e) (uP S c Q dr fr d (.p (.slice sz lo hi)) l fs' dd (c8 st d (.v (b9 x))))):Le (((gu s a b).bind f).bind e) (rn S c Q fo fs st0):=by
 simp at B;refine DQ B.1 G B.2.1 (Le.of_eq ?_) h;have w:=B.2.2.1;unfold gx nG;simp[wanted,gJ,w];have u:kr S.N st.m (.slice sz lo hi) ((b9 s::D).map .v)=(gu s a b).bind λx=>some (.v (b9 x)):=by unfold kr;rw[n9];simp[bq,B.2.2.2.1,ON s a b sz B.2.2.2.2];cases gu s a b<;>rfl
 simp at u⊢;rw[u];cases gu s a b<;>rfl
def qx(s:Sl α)(lo hi:Pi):a_ (Sl α):=
 match s with
 |.nil|.emp=>none|.row x|.part x=>(eD x.length lo hi).map λ(l,h)=>.part ((x.take h).drop l)
def ZY(n:Nat)(fr:ST)(q:Rd)(fs':QP)(st:St)(lo hi:X')(u:Nat)(D:So){t sz:Nat}{s:Sl α}{a b:Pi}{f:Sl α->a_ γ}(J:q=⟨some t,gd,now,.p (.slice sz lo hi),az,dd,[]⟩::l)
 (G:St.new {st with m:=eR u st.m} t=true)(B:(iR S c n fo fs st0,wanted st.g gd,b7 S.N st.g az,ny lo hi D,bn st.m u,sz)=(some (.ops false fr q,fs',st),some true,some (.own u::D.map .v),some (a,b),some (cO s),bH.size α))
 (h:∀x,qx s a b=some x->Le ((f x).bind e) (uP S c Q false fr (some t) (.p (.slice sz lo hi)) l fs' dd {st with g:=bR st.g t (.own t),m:=bR (eR u st.m) t (cO x)})):Le (((qx s a b).bind f).bind e) (rn S c Q fo fs st0):=by
 simp at B;refine DQ B.1 J B.2.1 (Le.of_eq ?_) h;have⟨_,_,z,w,C,I⟩:=B;subst I;unfold gx nG;simp[wanted,gJ,z,BZ,n9,C,w]
 cases s with
 |nil=>simp[qx,cO,Sl.k,cV]|emp=>simp[qx,cO,Sl.k,cV]|row x=>
  simp[cO,Sl.k,Sl.l,cV,qx,iP,w]
  cases eD x.length a b with
  |none=>rfl|some r=>simp[G,c8,rows,map_drop]
 |part x=>
  simp[cO,Sl.k,Sl.l,cV,qx,iP,w]
  cases eD x.length a b with
  |none=>rfl|some r=>simp[G,c8,rows,map_drop]
def s7(n:Int)(a:α):a_ (Sl α):=if 0<=n/\n<=2147483648 then some (if n=0 then .row []else .part [])else none
def abr(n:Nat)(dr:X')(fr:ST)(q:Rd)(fs':QP)(st:St){u:Nat}{sz:Nat}{zero:So}{i:Int}{z:α}{f:Sl α->a_ γ}(G:q=⟨some u,gd,now,.a (.makeSl sz zero),az,dd,[]⟩::l)
 (J:st.new u=true)(D:(iR S c n fo fs st0,wanted st.g gd,b7 S.N st.g az,sz)=(some (.ops dr fr q,fs',st),some true,some [.v (.int .i64 0),.v (.int .i64 i)],bH.size α))
 (h:∀B,s7 i z=some B->Le ((f B).bind e) (uP S c Q dr fr (some u) (.a (.makeSl sz zero)) l fs' dd {st with g:=bR st.g u (.own u),m:=bR st.m u (cO B)})):Le (((s7 i z).bind f).bind e) (rn S c Q fo fs st0):=by
 simp at D;have⟨b,w,C,I⟩:=D;subst I;refine DQ b G w (Le.of_eq ?_) h;rw[As,C];simp only[ζb,J,if_true,pS,true_and,s7]
 by_cases hi:0<=i/\i<=2147483648
 .rw[if_pos hi,if_pos ⟨Int.le_refl 0,hi⟩]
  by_cases a:i=0
  .subst a;rfl
  have:¬0=i:=λh=>a h.symm
  simp[if_neg a,if_neg this];rfl
 grind
end
end
structure cz(n:Nat)(α:Type)where
 l:List α
 len:l.length=n
def Sw{α:Type}[bH α](l:aZ α):(l.map (cells (α:=α))).flatten.length=l.length*bH.size α:=by induction l with|nil=>simp|cons a l u=>simp[u,gT,add_mul,Nat.add_comm]
def PX{α:Type}[bH α](l:aZ α):V.cM (l.map (cells (α:=α))).flatten=true:=by induction l with|nil=>rfl|cons a l u=>have h:∀(x y:So),V.cM x=true->V.cM y=true->V.cM (x++y)=true:=(by intro x;induction x with|nil=>grind|cons b x w=>intro y c z;simp[V.cM]at c⊢;grind);exact h _ _ (bH.good a) u
instance{n:Nat}{α:Type}[bH α]:bH (cz n α)where
 cells a:=(a.l.map cells).flatten
 agg:=true
 size:=n*bH.size α
 len a:=by rw[Sw,a.len]
 good a:=PX a.l
 one a:=by have:∀l:aZ α,(l.map (cells (α:=α))).flatten.all V.one=true:=(by intro l;induction l with|nil=>rfl|cons a l u=>simp only[map_cons,flatten_cons,List.all_append,u,sq,Bool.and_self]);exact this a.l
 plain h:=by cases h
def cz.QV(n:Nat){α:Type}(z:α):cz n α:=⟨replicate n z,Zab⟩
def cz.at{n:Nat}{α:Type}(a:cz n α)(i:Int):a_ α:=if 0<=i then a.l[i.toNat]?else none
def cz.set{n:Nat}{α:Type}(a:cz n α)(i:Int)(x:α):cz n α:=⟨a.l.set i.toNat x,by simp[a.len]⟩
def pa{n:Nat}{α:Type}[bH α](a:cz n α)(i:Int):So:=(cells a).drop (i.toNat*bH.size α)
def cz.vW{n:Nat}{α:Type}{a:cz n α}{i:Int}{x:α}(h:a.at i=some x):0<=i/\i.toNat<n/\a.l[i.toNat]?=some x:=by
 unfold cz.at at h;split at h;next hi=>refine⟨hi,?_,h⟩;have:=(ζe.1 h).1;rw[<-a.len];simp_all
 simp_all
def HV{α:Type}[bH α]:∀(l:aZ α)(k:Nat),((l.map (cells (α:=α))).flatten).drop (k*bH.size α)=((l.drop k).map (cells (α:=α))).flatten
 |[],k=>Zab|a::l,0=>Zab|a::l,k+1=>by have h:=gT a;rw[map_cons,flatten_cons,List.drop_succ_cons,<-HV l k,add_mul,one_mul,Nat.add_comm,<-h,List.drop_length_add_append]
def Df{n:Nat}{α:Type}[bH α]{a:cz n α}{i:Int}{x:α}(h:a.at i=some x):∃r,pa a i=cells x++r:=by have⟨b,B,w⟩:=cz.vW h;have⟨u,z⟩:=ζe.1 w;refine⟨((a.l.drop (i.toNat+1)).map cells).flatten,?_⟩;show((a.l.map (cells)).flatten).drop (i.toNat*bH.size α)=_;rw[HV,List.drop_eq_getElem_cons u,map_cons,flatten_cons,z]
section
variable{S:Sys}{c:cr}{β γ δ α:Type}{Q:Out×St->a_ β}{e:γ->a_ β}{fo:Fo}{fs:QP}{st0:St}{l:Rd}{d:a_ Nat}{gd:a_ (Nat×X')}{now:X'}{az:QQ}{dd:ST}
section
variable{N:Nat}[bH α]
def aap(n:Nat)(dr:X')(fr:ST)(q:Rd)(fs':QP)(st:St)(k:T2){ln sz:Nat}{a:cz N α}{i:Int}{f:α->a_ γ}(D:q=⟨d,gd,now,.p (.idxA ln sz),az,dd,[]⟩::l)
 (B:(iR S c n fo fs st0,wanted st.g gd,b7 S.N st.g az,sz,ln)=(some (.ops dr fr q,fs',st),some true,some [cp a,.v (.int k i)],bH.size α,N))
 (h:∀x,a.at i=some x->Le ((f x).bind e) (uP S c Q dr fr d (.p (.idxA ln sz)) l fs' dd (c8 st d (.v (.fptr (pa a i)))))):Le (((a.at i).bind f).bind e) (rn S c Q fo fs st0):=by
 simp at B;have⟨g,w,z,C,G⟩:=B;subst C G;refine DQ g D w ?_ h;intro r b;have⟨x,I,b⟩:=ζg.1 b;have⟨g1,g2,_⟩:=cz.vW I;rw[B3 z rfl ?_]
 .omega
 rw[vi];simp[bq,zg];have u:i.toNat*bH.size α<=(cells a).length:=by rw[gT];exact Nat.mul_le_mul_right _ (Nat.le_of_lt g2)
 rw[if_pos ⟨g1,Zaa⟩,if_pos u]
 rfl
def abz(n:Nat)(dr:X')(fr:ST)(q:Rd)(fs':QP)(st:St)(a:cz N α)(i:Int)(o:Nat)(x:α)(D:a.at i=some x){k:Nat}{m:a_ β}(G:q=⟨d,gd,now,.p (.fieldAddr k),az,dd,[]⟩::l)
 (B:(iR S c n fo fs st0,wanted st.g gd,b7 S.N st.g az,ble (o+k) (bH.size α))=(some (.ops dr fr q,fs',st),some true,some [.v (.fptr ((pa a i).drop o))],true))
 (h:Le m (uP S c Q dr fr d (.p (.fieldAddr k)) l fs' dd (c8 st d (.v (.fptr ((pa a i).drop (o+k))))))):Le m (rn S c Q fo fs st0):=by
 simp only[ζc]at B;have⟨b,u,w,z⟩:=B;refine tn b G u (B3 w rfl ?_) h;have C:=Nat.le_of_ble_eq_true z;have⟨r,e⟩:=Df D;have I:(pa a i).length>=bH.size α:=by rw[e,ζi,gT];omega
 rw[LG,Kc,if_pos Zac,drop_drop]
 rfl
def aaM(n:Nat)(dr:X')(fr:ST)(q:Rd)(fs':QP)(st:St)(a:cz N α)(i:Int)(o:Nat)(x:α)(G:a.at i=some x){sz:Nat}{ag:X'}{v:V}(g:(cut (cells x) o sz).bind (mk ag)=some v)(B:V){m:a_ β}(J:q=⟨d,gd,now,.r (.load sz ag),az,dd,[]⟩::l)
 (D:(iR S c n fo fs st0,wanted st.g gd,b7 S.N st.g az,v)=(some (.ops dr fr q,fs',st),some true,some [.v (.fptr ((pa a i).drop o))],B))
 (h:Le m (uP S c Q dr fr d (.r (.load sz ag)) l fs' dd (c8 st d (.v B)))):Le m (rn S c Q fo fs st0):=by
 simp at D;obtain⟨e,z,C,rfl⟩:=D;refine tn e J z ?_ h;rw[CK,C];have b:fL fr [SV.v (.fptr ((pa a i).drop o))]=true:=rfl;simp[b,Qe];have⟨r,f⟩:=Df G;rw[f];have j:cut ((cells x++r).drop o) 0 sz=cut (cells x) o sz:=by cases u:cut (cells x) o sz with|none=>grind|some w=>unfold cut at u⊢;dsimp only at u⊢;split at u;have e1:(List.drop 0 (List.drop o (cells x++r))).take sz=((cells x).drop o).take sz:=(by have I:sz=0\/o<=(cells x).length:=(by grind);grind);grind;grind
 cases u:cut (cells x) o sz with
 |none=>grind|some w=>grind
def Zd(n:Nat)(dr:X')(fr:ST)(q:Rd)(fs':QP)(st:St)(cs:SW){u sz:Nat}{zero:So}{m:a_ β}(D:q=⟨some u,gd,now,.a (.alloc sz zero),az,dd,[]⟩::l)
 (G:st.new u=true)(B:(iR S c n fo fs st0,wanted st.g gd,b7 S.N st.g az,zero.map SV.v)=(some (.ops dr fr q,fs',st),some true,some [],cs))
 (h:Le m (uP S c Q dr fr (some u) (.a (.alloc sz zero)) l fs' dd {st with g:=bR st.g u (.ptr u 0),m:=bR st.m u (.box cs)})):Le m (rn S c Q fo fs st0):=by
 simp at B;have⟨a,w,z,C⟩:=B;subst C;refine tn a D w ?_ h;rw[As,z];simp[G,pS]
def vj(d:Nat)(l:So):SV.dW d (l.map .v)=false:=by induction l with|nil=>rfl|cons a l u=>simp[SV.dW,SV.dc,u]
def vl{α:Type}[bH α](d:Nat)(x:α):bN.dc d (bx x)=false:=vj d (cells x)
def ZW(n:Nat)(dr:X')(fr:ST)(q:Rd)(fs':QP)(st:St)(k:T2)(u:Nat){ln sz:Nat}{a:cz N α}{i:Int}{f:α->a_ γ}(D:q=⟨d,gd,now,.p (.idxA ln sz),az,dd,[]⟩::l)
 (B:(iR S c n fo fs st0,wanted st.g gd,b7 S.N st.g az,sz,ln,bn st.m u)=(some (.ops dr fr q,fs',st),some true,some [.ptr u 0,.v (.int k i)],bH.size α,N,some (bx a)))
 (h:∀x,a.at i=some x->Le ((f x).bind e) (uP S c Q dr fr d (.p (.idxA ln sz)) l fs' dd (c8 st d (.ptr u (i.toNat*bH.size α+0))))):Le (((a.at i).bind f).bind e) (rn S c Q fo fs st0):=by
 simp at B;have⟨g,w,z,I,J,C⟩:=B;refine DQ g D w ?_ h;intro r b;have⟨x,G,b⟩:=ζg.1 b;have⟨g1,g2,_⟩:=cz.vW G;rw[B3 z rfl ?_]
 .omega
 simp[kr,dG,zh,C]
 grind
def Sx{a:cz N α}{i:Int}{o:Nat}{x:α}(B:a.at i=some x){sz:Nat}{ag:X'}{v:V}(c:(cut (cells x) o sz).bind (mk ag)=some v):xN sz ag ((((cells a).map SV.v).drop (i.toNat*bH.size α+o)).take sz)=some (.v v):=by
 have⟨r,d⟩:=Df B;have e1:(((cells a).map SV.v).drop (i.toNat*bH.size α+o)).take sz=(((cells x).drop o).take sz).map SV.v:=by have u:((cells x).drop o).take sz=((cells x++r).drop o).take sz:=(by cases b:cut (cells x) o sz with|none=>grind|some w=>unfold cut at b;dsimp only at b;split at b;have C:sz=0\/o<=(cells x).length:=(by grind);grind;simp_all);rw[u,<-d,pa,drop_drop,map_take,map_drop]
 rw[e1];unfold xN;cases b:cut (cells x) o sz with|none=>grind|some w=>rw[b]at c;unfold cut at b;dsimp only at b;split at b;rename_i z;cases b;simp only[length_map,z];unfold mk at c;(cases ag with|true=>simp only[if_true]at c⊢;cases c;rw[n9]|false=>grind);simp_all
def aaD(n:Nat)(dr:X')(fr:ST)(q:Rd)(fs':QP)(st:St)(u:Nat)(a:cz N α)(i:Int)(o:Nat)(x:α)(G:a.at i=some x){sz:Nat}{ag:X'}{v:V}(e:(cut (cells x) o sz).bind (mk ag)=some v)(B:V){m:a_ β}(J:q=⟨d,gd,now,.r (.load sz ag),az,dd,[]⟩::l)
 (D:(iR S c n fo fs st0,wanted st.g gd,b7 S.N st.g az,v,bn st.m u,(!dr||now||fL fr [.ptr u 0]))=(some (.ops dr fr q,fs',st),some true,some [.ptr u (i.toNat*bH.size α+o)],B,some (bx a),true))
 (h:Le m (uP S c Q dr fr d (.r (.load sz ag)) l fs' dd (c8 st d (.v B)))):Le m (rn S c Q fo fs st0):=by
 simp only[ζc]at D;obtain⟨f,w,z,rfl,C,I⟩:=D;refine tn f J w ?_ h;rw[CK,z];have b:(!dr||now||fL fr [SV.ptr u (i.toNat*bH.size α+o)])=true:=I;simp only[ζb,b,aby,C,Qx];rw[Sx G e];rfl
def Qz{N:Nat}(a:cz N α)(i:Int)(y:α)(h:i.toNat<N):cells (a.set i y)=(cells a).take (i.toNat*bH.size α)++cells y++(cells a).drop ((i.toNat+1)*bH.size α):=by
 have key:∀(l:aZ α)(k:Nat),k<l.length->((l.set k y).map (cells)).flatten=(l.map (cells)).flatten.take (k*bH.size α)++cells y++(l.map (cells)).flatten.drop ((k+1)*bH.size α):=by intro l;induction l with|nil=>grind|cons b l u=>intro k h;have w:=gT b;cases k with|zero=>grind|succ k=>simp only[map_cons,flatten_cons];have e1:(k+1)*bH.size α=(cells b).length+k*bH.size α:=Zac;have e2:(k+1+1)*bH.size α=(cells b).length+(k+1)*bH.size α:=Zac;rw[e2,List.drop_length_add_append];grind
 exact key a.l i.toNat (by rw[a.len];omega)
def aac(n:Nat)(dr:X')(fr:ST)(q:Rd)(fs':QP)(st:St)(u:Nat)(a:cz N α)(i:Int)(o:Nat)(x:α)(B:a.at i=some x)(y:α)(v:V){sz:Nat}(G:cells y=(cells x).take o++v.cells++(cells x).drop (o+sz)){m:a_ β}(J:q=⟨d,gd,now,.l (.store sz),az,dd,[]⟩::l)
 (D:(iR S c n fo fs st0,wanted st.g gd,b7 S.N st.g az,bn st.m u,(!dr||now),v.cells.length,v.cells.all V.one,ble (o+sz) (bH.size α))=(some (.ops dr fr q,fs',st),some true,some [.ptr u (i.toNat*bH.size α+o),.v v],some (bx a),true,sz,true,true))
 (h:Le m (uP S c Q dr fr d (.l (.store sz)) l fs' dd (c8 {st with m:=bR st.m u (bx (a.set i y))} d (.v .undef)))):Le m (rn S c Q fo fs st0):=by
 simp only[ζc]at D;have⟨b,z,C,I,L,O,T,U⟩:=D;refine tn b J z ?_ h;rw[xF,C];have X:=Nat.le_of_ble_eq_true U;have⟨g1,g2,g3⟩:=cz.vW B;have W:i.toNat*bH.size α+o+sz<=((cells a).map SV.v).length:=by rw[length_map,gT];have:(i.toNat+1)*bH.size α<=N*bH.size α:=Nat.mul_le_mul_right _ g2;rw[add_mul,one_mul]at this;show _<=N*bH.size α;omega
 simp only[ζb,L,if_true,oe,I,putCells,O,T,W,and_self,map_some];have⟨r,f⟩:=Df B;have e:((cells a).map SV.v).take (i.toNat*bH.size α+o)++v.cells.map .v++((cells a).map SV.v).drop (i.toNat*bH.size α+o+sz)=(cells (a.set i y)).map SV.v:=by rw[Qz a i y g2,G];have hd:(cells a).drop (i.toNat*bH.size α)=cells x++r:=f;have w:=gT x;have e1:(cells a).take (i.toNat*bH.size α+o)=(cells a).take (i.toNat*bH.size α)++(cells x).take o:=(by rw[List.take_add,hd,List.take_append_of_le_length Zaa]);have e2:(cells a).drop (i.toNat*bH.size α+o+sz)=(cells x).drop (o+sz)++(cells a).drop ((i.toNat+1)*bH.size α):=(by have e3:(cells a).drop ((i.toNat+1)*bH.size α)=r:=(by rw[add_mul,one_mul,<-drop_drop,hd,<-w,List.drop_left]);rw[e3,Nat.add_assoc,<-drop_drop,hd,List.drop_append_of_le_length Zaa]);rw[<-map_take,<-map_drop,e1,e2];grind
 rw[e]
end
def VW{α:Type}[bH α]{m:Tb bN}{d:Nat}{x:α}{vs:So}(h:bn m d=some (bx x)):om (jf m 8) (.ptr d 0::vs.map .v)=some (.fptr (cells x)::vs):=by
 have a:jf m 8 (.ptr d 0)=some (.fptr (cells x)):=by
  show(match bn m d with
   |some (.box cs)=>match om (jf m 7) cs with
    |some u=>if 0<=u.length then some (V.fptr (u.drop 0))else none|none=>none
   |_=>none)=_
  rw[h];simp[JY]
 simp[om,a,JY]
def Z6(n:Nat){fo:Fo}{fs fs':QP}{st0 st:St}{rs:aZ RV}{e:γ->a_ So}{r:γ}(svs:SW){ys:So}(B:om (jf st.m 8) svs=some ys)(h:(iR S c n fo fs st0,lS st rs)=(some (.rt,fs',st),some svs))(D:e r=some ys):
 Le ((some r).bind e) (rn S c (qj rs) fo fs st0):=by
 simp at h;rw[qw h.1];refine Le.of_eq ?_;simp[rn,qj,h.2,B]
 grind
abbrev Mo(κ ν:Type):=aZ (κ×ν)
class Key(κ:Type)[bH κ][DecidableEq κ]where
 kk:zB
 ok:∀a:κ,rM kk (enc a)=true
 eq:∀a b:κ,yT (enc a) (enc b)=some (decide (a=b))
instance:Key Int where
 kk:=.int .i64
 ok _:=rfl
 eq a b:=by show some (a==b)=some (decide (a=b));rw[show(a==b)=decide (a=b)from Bool.eq_iff_iff.2 Zab]
instance:Key bf where
 kk:=.ints 2
 ok _:=rfl
 eq a b:=by have⟨p,i⟩:=a;have⟨q,j⟩:=b;simp only[yT,mA,jr,Y8,map_some,length_cons,if_true,ζa];rw[Bool.eq_iff_iff];simp
section
variable{κ ν:Type}[bH κ][DecidableEq κ][Key κ][bH ν]
def kn(k:κ):Mo κ ν->a_ ν
 |[]=>none|(a,v)::r=>if k=a then some v else kn k r
def pe(m:Mo κ ν)(k:κ)(z:ν):ν:=(kn k m).getD z
def tH(m:Mo κ ν)(k:κ):X':=(kn k m).isSome
def nu(m:Mo κ ν)(k:κ)(v:ν):Mo κ ν:=
 match m with
 |[]=>[(k,v)]|(a,w)::r=>if k=a then(k,v)::r else(a,w)::nu r k v
def o7(m:Mo κ ν):aZ (V×V):=m.map λx=>(enc x.1,enc x.2)
def vM(m:Mo κ ν):bN:=.mp (o7 m)
def GG(k:κ):∀(m:Mo κ ν)(i:Nat),(jd (enc k) (o7 m) i).map (Option.map (·.2))=some ((kn k m).map enc)
 |[],i=>rfl|(a,v)::r,i=>by simp only[o7,map_cons,jd,Key.eq,kn];by_cases h:k=a;grind;simp only[h];exact GG k r (i+1)
def Sa(k:κ)(v:ν)(m:Mo κ ν):rI (enc k) (enc v) (o7 m)=some (o7 (nu m k v)):=by
 unfold rI;have key:∀(m:Mo κ ν)(pre:aZ (V×V))(i:Nat),pre.length=i->(match jd (enc k) (o7 m) i with
  |some (some (j,_))=>some ((pre++o7 m).set j (enc k,enc v))|some none=>some (pre++o7 m++[(enc k,enc v)])|none=>none)=some (pre++o7 (nu m k v)):=by
  intro m
  induction m with
  |nil=>simp[o7,jd,nu]|cons x r u=>
   have⟨a,w⟩:=x;intro pre i h;rw[show o7 ((a,w)::r)=(enc a,enc w)::o7 r from rfl];simp[jd,Key.eq,nu]
   by_cases b:k=a
   .subst b h;simp[o7]
   simp[b];rw[show o7 ((a,w)::nu r k v)=(enc a,enc w)::o7 (nu r k v)from rfl];have:=u (pre++[(enc a,enc w)]) (i+1) (by simp[h])
   grind
 have:=key m [] 0 rfl;grind
def aar(n:Nat)(dr:X')(fr:ST)(q:Rd)(fs':QP)(st:St)(u:Nat)(mp:Mo κ ν)(k:κ)(z:ν){kk:zB}{B:V}{m:a_ β}(G:q=⟨d,gd,now,.r (.lookup kk B false),az,dd,[]⟩::l)
 (D:(iR S c n fo fs st0,wanted st.g gd,b7 S.N st.g az,bn st.m u,(!dr||now||fL fr [.mp u,cv k]),B,kk)=(some (.ops dr fr q,fs',st),some true,some [.mp u,cv k],some (vM mp),true,enc z,Key.kk κ))
 (h:Le m (uP S c Q dr fr d (.r (.lookup kk B false)) l fs' dd (c8 st d (cv (pe mp k z))))):Le m (rn S c Q fo fs st0):=by
 simp only[ζc]at D;have⟨a,C,I,J,L,O,T⟩:=D;subst O T;refine tn a G C ?_ h;rw[CK,I];simp only[ζb,L,pq,J,vM,Key.ok];have:=GG k mp 0;simp[pe]
 cases U:jd (enc k) (o7 mp) 0 with
 |none=>grind|some r=>
  rw[U]at this
  cases r with
  |none=>
   cases W:kn k mp with
   |none=>rfl|some w=>grind
  |some w=>
   cases W:kn k mp with
   |none=>grind|some X=>grind
def abG(n:Nat)(dr:X')(fr:ST)(q:Rd)(fs':QP)(st:St)(u:Nat)(mp:Mo κ ν)(k:κ)(v:ν){kk:zB}{m:a_ β}(D:q=⟨d,gd,now,.l (.mapUp kk),az,dd,[]⟩::l)
 (B:(iR S c n fo fs st0,wanted st.g gd,b7 S.N st.g az,bn st.m u,(!dr||now),kk)=(some (.ops dr fr q,fs',st),some true,some [.mp u,cv k,cv v],some (vM mp),true,Key.kk κ))
 (h:Le m (uP S c Q dr fr d (.l (.mapUp kk)) l fs' dd (c8 {st with m:=bR st.m u (vM (nu mp k v))} d (.v .undef)))):Le m (rn S c Q fo fs st0):=by
 simp only[ζc]at B;have⟨a,w,z,C,G,I⟩:=B;subst I;refine tn a D w ?_ h;rw[xF,z];simp[G,oe,C,vM,Key.ok,Sa]
end
end
instance{n:Nat}:OfNat Arg n:=⟨.s n⟩
abbrev bI(o:BinOp):K:=.p (.bin (some .int) none o)
abbrev ix(n:Nat):K:=.p (.idxS n)
abbrev ld(n:Nat):K:=.r (.load n false)
abbrev lD(n:Nat):K:=.r (.load n true)
abbrev fa(n:Nat):K:=.p (.fieldAddr n)
abbrev ln:K:=.p .lenSl
abbrev su(n:Nat):K:=.l (.store n)
abbrev Iv(n:Nat)(x:Int):Nat×SV:=(n,iv x)
abbrev Bv(n:Nat)(x:Bool):Nat×SV:=(n,bv x)
abbrev Cv{α:Type}[bH α](n:Nat)(x:α):Nat×SV:=(n,cv x)
abbrev Kv{α:Type}[bH α](n:Nat)(x:α):Nat×SV:=(n,cp x)
abbrev Pv(n:Nat):Nat×SV:=(n,.ptr n 0)
abbrev Ov(n:Nat):Nat×SV:=(n,.own (2000+n))
abbrev Xb{α:Type}[bH α](n:Nat)(x:α):Nat×bN:=(n,bx x)
abbrev Lb{α:Type}[bH α](n:Nat)(x:Sl α):Nat×bN:=(n,cO x)
abbrev on(d:Nat)(k:K)(az:aZ Arg)(dd:aZ Nat):RO:=⟨some d,none,true,k,az,dd,[]⟩
abbrev oz(k:K)(az:aZ Arg)(dd:aZ Nat):RO:=⟨none,none,false,k,az,dd,[]⟩
abbrev oy(k:K)(az:aZ Arg)(dd:aZ Nat):RO:=⟨none,none,true,k,az,dd,[]⟩
attribute [simp] XM Wq WN
def gC.yR{S:Sys}{T:rG}{f:Y'}{b:X'}(B:T f=none)(a:S.E.keep f=false)(D:S.yR f []=some (.bool b)):
 gC S (dw S T) f (λ_:Unit=>[]) (λr:X'=>[.bool r]) (λ_=>some b) true where
 k:=a
 h _:=by have h:=Ir (az:=[]) B a D;intro r c;cases c;unfold jA;rw[h];exact wm 8 [.bool b]
 s _ _:=rfl
def Wp{α:Type}(m:a_ α)(P:α->Prop):Prop:=∃a,m=some a/\P a
section
variable{α β:Type}{P Q:α->Prop}
def bg(a:α):Wp (some a) P↔P a:=⟨λh=>by have⟨b,e,p⟩:=h;cases e;exact p,λp=>⟨a,rfl,p⟩⟩
def XE:Wp (none:a_ α) P↔False:=⟨λh=>(by have⟨b,e,p⟩:=h;cases e),λh=>False.elim h⟩
def eM{m:a_ β}{k:β->a_ α}:Wp (m.bind k) P↔Wp m λb=>Wp (k b) P:=by cases m with|none=>simp only[Option.bind_none,XE]|some b=>simp only[ζb,bg]
def cq{t:X'}{a b:a_ α}:Wp (bl t a b) P↔(t=true->Wp a P)/\(t=false->Wp b P):=by cases t<;>simp[bl]
def Wp.mono{m:a_ α}(h:Wp m P)(B:∀a,P a->Q a):Wp m Q:=let⟨a,e,p⟩:=h;⟨a,e,B a p⟩
def Wp.and{m:a_ α}(h:Wp m P)(B:Wp m Q):Wp m λa=>P a/\Q a:=by have⟨a,e,p⟩:=h;have⟨b,e2,q⟩:=B;rw[e]at e2;cases e2;exact⟨a,e,p,q⟩
def Wp.eq{m:a_ α}{a:α}(h:Wp m λx=>x=a):m=some a:=by obtain⟨b,e,rfl⟩:=h;exact e
end
section
variable{σ ε ρ:Type}
def fG(step:σ->a_ (Fw σ ε ρ))(s:σ):bY step s=(step s).bind λw=>match w with
 |.n B=>bY step B|.x e=>some (.x e)|.r b=>some (.r b):=by
 have d:∀r,bY step s=some r->((step s).bind λw=>match w with
  |.n B=>bY step B|.x e=>some (.x e)|.r b=>some (.r b))=some r:=by
  intro r h;have⟨k,a⟩:=qf.1 h
  cases k with
  |zero=>simp[kL]at a|succ k=>
   simp only[kL]at a
   cases u:step s with
   |none=>rw[u]at a;cases a|some w=>
    rw[u]at a
    cases w with
    |n B=>exact qf.2 ⟨k,a⟩|x e=>exact a|r b=>exact a
 cases z:bY step s with
 |some r=>exact(d r z).symm|none=>
  cases c:((step s).bind λw=>match w with
  |.n B=>bY step B|.x e=>some (.x e)|.r b=>some (.r b))with
  |none=>rfl|some r=>
   exfalso
   cases u:step s with
   |none=>rw[u]at c;cases c|some w=>
    rw[u]at c;simp only[ζb]at c;have:bY step s=some r:=by cases w with|n B=>have⟨k,a⟩:=qf.1 c;exact qf.2 ⟨k+1,by simp only[kL,u];exact a⟩|x e=>exact qf.2 ⟨1,by simp only[kL,u];exact c⟩|r b=>exact qf.2 ⟨1,by simp only[kL,u];exact c⟩
    rw[z]at this;cases this
def VB(I:σ->Prop)(μ:σ->Nat)(D:ε->Prop)(G:ρ->Prop)(s:σ):Fw σ ε ρ->Prop
 |.n B=>I B/\μ B<μ s|.x e=>D e|.r b=>G b
def Pfw(B:ε->Prop)(D:ρ->Prop):Fw Empty ε ρ->Prop
 |.x e=>B e|.r b=>D b
def Se{step:σ->a_ (Fw σ ε ρ)}(I:σ->Prop)(μ:σ->Nat)(B:ε->Prop)(D:ρ->Prop)(h:∀s,I s->Wp (step s) (VB I μ B D s)){s:σ}(G:I s):Wp (bY step s) (Pfw B D):=by
 have key:∀n s,μ s<=n->I s->Wp (bY step s) (Pfw B D):=by
  intro n
  induction n with
  |zero=>intro s C hi;have⟨w,u,a⟩:=h s hi;rw[fG,u];cases w with|n z=>exact absurd a.2 Zaa|x e=>exact⟨_,rfl,a⟩|r b=>exact⟨_,rfl,a⟩
  |succ n J=>intro s C hi;have⟨w,u,a⟩:=h s hi;rw[fG,u];cases w with|n z=>exact J z (by have:=a.2;omega) a.1|x e=>exact⟨_,rfl,a⟩|r b=>exact⟨_,rfl,a⟩
 exact key (μ s) s (Nat.le_refl _) G
def gb{γ:Type}{step:σ->a_ (Fw σ ε ρ)}{B:ε->a_ γ}{fr:ρ->a_ γ}{P:γ->Prop}(I:σ->Prop)(μ:σ->Nat){s:σ}(D:I s)
 (h:∀s,I s->Wp (step s) (VB I μ (λe=>Wp (B e) P) (λb=>Wp (fr b) P) s)):Wp ((bY step s).bind (Fw.elim B fr)) P:=by
 rw[eM];refine(Se I μ _ _ h D).mono ?_;intro w u
 cases w with
 |n a=>cases a|x e=>exact u|r b=>exact u
end
def G3{β γ δ:Type}{e:γ->a_ β}{m:a_ δ}{f:δ->a_ γ}{L:a_ β}(h:∀x,m=some x->Le ((f x).bind e) L):Le ((m.bind f).bind e) L:=by cases m with|none=>exact Le.none _|some x=>exact h x rfl
section
variable{S:Sys}{c:cr}{β:Type}{Q:Out×St->a_ β}{fo:Fo}{fs:QP}{st0:St}{l:Rd}{d:a_ Nat}{now:X'}{az:QQ}{dd:ST}
def Le.get{β:Type}{r:β}{L:a_ β}(h:Le (some r) L):L=some r:=h r rfl
def Kt{n:Nat}{fo fo':Fo}{fs fs':QP}{st:St}(A:X'->St){t:X'}{m:a_ β}(B:t=true)(h:iR S c n fo fs st=some (fo',fs',A t))(D:Le m (rn S c Q fo' fs' (A true))):Le m (rn S c Q fo fs st):=by rw[qw h,B];exact D
def Kf{n:Nat}{fo fo':Fo}{fs fs':QP}{st:St}(A:X'->St){t:X'}{m:a_ β}(B:t=false)(h:iR S c n fo fs st=some (fo',fs',A t))(D:Le m (rn S c Q fo' fs' (A false))):Le m (rn S c Q fo fs st):=by rw[qw h,B];exact D
def Sq{α:Type}[bH α]{s:Sl α}{i:Int}{x:α}{r:β}{L:a_ β}(B:idx s i=some x)(h:Le (((idx s i).bind λ_=>some r).bind some) L):Le (some r) L:=by rw[B]at h;exact h
def Kyl{n:Nat}{q:Rd}{fs':QP}{st:St}{id:Nat}{vs:SW}{xs:So}{B:S'}{m:a_ β}
 (D:iR S c n fo fs st0=some (.ops false [] q,fs',st))(G:q=⟨d,none,now,.c,az,dd,[]⟩::l)(J:b7 S.N st.g az=some (.yl id::vs))(U:dG vs=some xs)(W:st.want=xs::B)(hi:id=st.yid)
 (h:Le m (rn S c Q (.ops false [] l) fs' (qR dd (c8 {st with want:=B} d (.v (.bool (st.more|| !B.isEmpty))))))):Le m (rn S c Q fo fs st0):=by
 refine UM D G rfl ?_ h;unfold gx;simp only[wanted,gJ,J,U,W,hi,if_true,and_self,Bool.false_eq_true,if_false]
def CU(a:RC)(fs:QP)(st:St):rn S c Q (.rc (.loop a)) fs st=(qp (cU S c a) st).bind (GX (oR S c Q fs) (oD S c Q fs) (λst=>Q (.ret,st))):=by show lZ S c Q (.loop a) fs st=_;unfold lZ;rw[Gq];rfl
def Wl{f:St->a_ (Out×St)}{st st':St}(h:f st=some (.norm,st')):qp f st=qp f st':=by
 have key:∀r,qp f st=some r↔qp f st'=some r:=λr=>by constructor;intro b;have⟨k,a⟩:=oH.1 b;(cases k with|zero=>simp[ko]at a|succ k=>simp only[ko,h]at a;exact oH.2 ⟨k,a⟩);intro b;have⟨k,a⟩:=oH.1 b;exact oH.2 ⟨k+1,by simp only[ko,h];exact a⟩
 cases u:qp f st with
 |none=>cases w:qp f st' with|none=>rfl|some r=>rw[(key r).2 w]at u;cases u
 |some r=>rw[(key r).1 u]
def Nl{f:St->a_ (Out×St)}{st st':St}{o:Out}(h:f st=some (o,st'))(B:o≠.norm):qp f st=some (o,st'):=by refine oH.2 ⟨1,?_⟩;cases o with|norm=>exact absurd rfl B|exit k=>simp only[ko,h]|ret=>simp only[ko,h]
def H_{a:RC}{fs:QP}{st st':St}(h:rn S c some (.rc a) [] st=some (.norm,st')):rn S c Q (.rc (.loop a)) fs st=rn S c Q (.rc (.loop a)) fs st':=by rw[CU,CU,Wl (by rw[CG];exact h)]
def HR{a:RC}{fs:QP}{st st':St}{k:Nat}(h:rn S c some (.rc a) [] st=some (.exit k,st')):rn S c Q (.rc (.loop a)) fs st=rn S c Q (.ex k) fs st':=by rw[CU,Nl (by rw[CG];exact h) Zab];rfl
def Hr{a:RC}{fs:QP}{st st':St}(h:rn S c some (.rc a) [] st=some (.ret,st')):rn S c Q (.rc (.loop a)) fs st=Q (.ret,st'):=by rw[CU,Nl (by rw[CG];exact h) Zab];rfl
end
def Qi:Out×St->a_ Unit
 |(.exit _,_)=>none|(_,st)=>if st.want.isEmpty then some ()else none
def Sys.bare(S:Sys):Sys:=⟨S.E,S.N,λ_ _ _=>none,λ_ _=>none,λ_=>none⟩
def pH:cr:=λ_ _ _=>none
def wQ(B rest:S')(more:X'):Prop:=more=true/\B=rest\/more=false/\B≠[]/\∃r,rest=B++r
def TS(S:Sys){f:Y'}{fi:FI}{nm:Y'->a_ Nat}{rf:RF}(G:S.E.ft f=some fi)(W:∀g s,nm g=some s->S.N s=g)(e:zd S.E nm fi rf){a b:So}{xs:S'}(D:a.length+1+b.length<=rf.na)(U:rf.rs=[])
 (h:∀B more,wQ B xs more->∀yid,rn S.bare pH Qi (.rc rf.body) [] ⟨wU 0 (a.map .v++.yl yid::b.map .v),[],[],B,more,yid⟩=some ()):eZ S f a b xs:=by
 have k:eZ S.bare f a b xs:=M6 (S:=S.bare) (c:=pH) (fi:=fi) (nm:=nm) (rf:=rf) (λ_ _ h=>by cases h) (λ_ _ _ _ _ h=>by simp[pH]at h) (λ_ _ _ _ h=>by simp[Sys.bare]at h) G W e D U (λB more w yid=>by
  have d:=h B more w yid;change lZ S.bare pH Qi rf.body [] _=some ()at d;rw[qD]at d;have⟨⟨o,st'⟩,z,u⟩:=ζg.1 d;refine⟨o,st',z,?_,?_,rfl⟩
  .rintro id rfl;simp[Qi]at u
  cases o<;>simp[Qi]at u<;>exact u)
 intro B more w yid J y Z C I H d z u L O;exact k B more w yid J ⟨y.yf,y.yield⟩ Z C I H d z u L O
open Classical in
def Ah(P:Y'->So->So->S'->Prop)(f:Y')(a b:So):a_ S':=if h:∃u,P f a b u then some (Classical.choose h)else none
def ET{P:Y'->So->So->S'->Prop}{f:Y'}{a b:So}{xs:S'}(h:P f a b xs)(d:∀ys,P f a b ys->ys=xs):Ah P f a b=some xs:=by have c:∃xs,P f a b xs:=⟨xs,h⟩;unfold Ah;rw[dif_pos c,d _ (choose_spec c)]
def N_{P:Y'->So->So->S'->Prop}{f:Y'}{a b:So}{xs:S'}(h:Ah P f a b=some xs):P f a b xs:=by
 unfold Ah at h;split at h;next c=>cases h;exact choose_spec c
 cases h
def YS{E:Env}{nm:Y'->a_ Nat}{f:Y'}{rf:RF}
 (h:((E.ft f).bind λfi=>(bX ⟨E,nm,fi.ntmps⟩ false fi.body).bind λc=>(fi.results.mapM (C5 E)).bind λrs=>some (c,rs,fi.ntmps))=some (erase rf.body,rf.rs,rf.na)):∃fi,E.ft f=some fi/\zd E nm fi rf:=by
 have⟨fi,a,w⟩:=ζg.1 h;have⟨c,z,B⟩:=ζg.1 w;have⟨rs,C,u⟩:=ζg.1 B;simp only[ζa,ζc]at u;obtain⟨rfl,rfl,D⟩:=u;exact⟨fi,a,z,C,D.symm⟩
def FR.ri{H:bp}{Z Z':Nat->Prop}{x y z:V}(h:FR H Z x z)(k:FR H Z' y z):x=y:=by have⟨n,u⟩:=Br x;have⟨m,w⟩:=Br y;have e1:=h.borrow (max n m) (Aa (Nat.le_max_left _ _) u);have e2:=k.borrow (max n m) (Aa (Nat.le_max_right _ _) w);rw[e1]at e2;exact Option.some.inj e2
open Classical in
def zY(E:Env)(f:Y')(az:So):a_ V:=if h:∃y,Cm E f az y then some (Classical.choose h)else none
def ID{E:Env}{f:Y'}{az:So}{y:V}(h:zY E f az=some y):Cm E f az y:=by
 unfold zY at h;split at h;next a=>cases h;exact choose_spec a
 cases h
def Cl{E:Env}{f:Y'}{az:So}{y:V}(h:Cm E f az y):zY E f az=some y:=by have a:∃y,Cm E f az y:=⟨y,h⟩;unfold zY;rw[dif_pos a];have⟨n,z,H,Z,k1,k2,_⟩:=h;have⟨u,w,H',Z',k3,k4,_⟩:=choose_spec a;have e1:=(pY E (Nat.le_max_left n u)).go _ _ _ _ k1;have e2:=(pY E (Nat.le_max_right n u)).go _ _ _ _ k3;rw[e1]at e2;cases e2;rw[FR.ri k4 k2]
def Mp{E:Env}{f:Y'}{az:So}{y:V}(B:V.scalar y=true)(h:∃n H',run E n (.fn f) az []=some (y,H')):Cm E f az y:=by have⟨n,H',h⟩:=h;exact⟨n,y,H',λ_=>False,h,.same _ (kU B),λ_ h=>h.elim,⟨λ_ _ _ h=>h.elim⟩⟩
end Go.VE
