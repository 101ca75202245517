/-
 Plain values and the steps of a certificate.
-/
import Derived.KernelRfl
import Derived.Test.YtfjedefhlilglaaGreatDoorN2
set_option linter.all false
open Classical(choose_spec)
open List(drop_drop flatten_cons length_cons length_map length_nil map_cons map_drop map_take range' replicate)
open Option(map_some)
open Nat(add_mul ble one_mul)
namespace Go.VE
variable[b8]
inductive Sl(α:Type)where
 |nil|emp|row(l:List α)|part(l:List α)
 deriving Inhabited
abbrev Zg:=Sl Int
abbrev Zb:=Sl (Sl Int)
def Sl.l{α:Type}:Sl α->aZ α
 |.nil|.emp=>[]|.row l|.part l=>l
def Sl.k{α:Type}:Sl α->Fl
 |.nil=>.nil|.emp=>.emp|.row _=>.row|.part _=>.part
class bC(α:Type)where
 cells:α->List V
 agg:Bool
 size:Nat
 len:∀a,(cells a).length=size
 good:∀a,V.cI (cells a)=true
 one:∀a,(cells a).all V.one=true
 plain:agg=false->size=1
def cells{α:Type}[bC α](a:α):T2:=bC.cells a
def enc{α:Type}[bC α](a:α):V:=if bC.agg α then .agg (cells a)else(cells a).headD .undef
def rows{α:Type}[bC α](l:aZ α):T':=l.map cells
def b7{α:Type}[bC α](s:Sl α):V:=pF s.k (bC.size α) (rows s.l)
instance:bC Int where
 cells n:=[.int .i64 n]
 agg:=false
 size:=1
 len _:=rfl
 good _:=rfl
 one _:=rfl
 plain _:=rfl
instance:bC X' where
 cells b:=[.bool b]
 agg:=false
 size:=1
 len _:=rfl
 good _:=rfl
 one _:=rfl
 plain _:=rfl
instance:bC U' where
 cells s:=[.str s]
 agg:=false
 size:=1
 len _:=rfl
 good _:=rfl
 one _:=rfl
 plain _:=rfl
structure bf where
 proc:Int
 index:Int
 deriving DecidableEq,Inhabited
instance:bC bf where
 cells x:=[.int .i64 x.proc,.int .i64 x.index]
 agg:=true
 size:=2
 len _:=rfl
 good _:=rfl
 one _:=rfl
 plain h:=by cases h
@[simp] def abA(n:Int):enc n=.int .i64 n:=rfl
@[simp] def abt(n:X'):enc n=.bool n:=rfl
@[simp] def abz(n:U'):enc n=.str n:=rfl
@[simp] def aaG(n:Int):cells n=[.int .i64 n]:=rfl
@[simp] def aam(n:X'):cells n=[.bool n]:=rfl
@[simp] def aaP(n:U'):cells n=[.str n]:=rfl
@[simp] def abo(n:bf):cells n=[.int .i64 n.proc,.int .i64 n.index]:=rfl
@[simp] def YS(n:bf):enc n=.agg [.int .i64 n.proc,.int .i64 n.index]:=rfl
section
variable{α:Type}[bC α]
def gZ(l:aZ α):(rows l).length=l.length:=by simp[rows]
def idx(s:Sl α)(i:Int):a_ α:=if 0<=i then s.l[i.toNat]?else none
def Sk{N:Nat->Y'}(s:Sl α)(k:IntKind)(i:Int){n:Nat}(B:n=bC.size α):bq N (.idxS n) [b7 s,.int k i]=(idx s i).map λx=>.fptr (cells x):=by subst B;unfold idx b7;simp only[bq,mN];by_cases h:i<0;rw[if_pos h,if_neg Zaa];rfl;rw[if_neg h,if_pos Zaa];cases s<;>simp[Sl.k,Sl.l,pF,rows,Function.comp_def]
def Qj{N:Nat->Y'}(s:Sl α):bq N .lenSl [b7 s]=some (.int .i64 s.l.length):=by cases s<;>simp[bq,pI,b7,Sl.k,Sl.l,pF,gZ]
end
section
variable{S:Sys}{c:cm}
end
end Go.VE
namespace Go.VE
variable[b8]
section
variable{S:Sys}{c:cm}
def isSlice:wz->X'
 |.slice ..=>true|_=>false
def Ve(dr:X')(fr:S')(dst:a_ Nat)(now:X')(p:wz)(az:R0)(st:St)(h:isSlice p=false):
 f_ S c dr fr ⟨dst,none,now,.p p,az,[],[]⟩ st=(bY S.N st.g az).bind λsvs=>(jC S.N st.m p svs).bind λx=>some (cW st dst x):=by
 unfold f_ mV;have u:gz S.N st.g ⟨dst,none,now,.p p,az,[],[]⟩=none:=by unfold gz;grind
 simp[wanted,u]
 cases z:bY S.N st.g az with
 |none=>rfl|some svs=>simp;cases p<;>first|(simp[isSlice]at h;done)|(cases w:jC S.N st.m _ svs<;>simp[w])
def MS(N:Nat->Y')(m:Tb bM)(p:wz)(svs:So)(xs:T2)(h:dB svs=some xs):jC N m p svs=(bq N p xs).bind λx=>some (.v x):=by unfold jC;rw[h];dsimp only;cases bq N p xs<;>rfl
def Cp(dr:X')(fr:S')(dst:a_ Nat)(now:X')(q:MC)(az:R0)(st:St):
 f_ S c dr fr ⟨dst,none,now,.r q,az,[],[]⟩ st=(bY S.N st.g az).bind λsvs=>if !dr||now||fK fr svs then(oN st.m q svs).bind λx=>some (cW st dst x)else none:=by
 unfold f_ mV;have u:gz S.N st.g ⟨dst,none,now,.r q,az,[],[]⟩=none:=rfl;simp[wanted,u]
 cases w:bY S.N st.g az with
 |none=>rfl|some svs=>
  simp;split
  .cases z:oN st.m q svs<;>simp
  rfl
def AL(dr:X')(fr:S')(d:Nat)(now:X')(q:Qc)(az:R0)(st:St):
 f_ S c dr fr ⟨some d,none,now,.a q,az,[],[]⟩ st=(bY S.N st.g az).bind λsvs=>if st.new d then(o9 st.m q svs d).bind λr=>some {st with g:=bQ st.g d r.2,m:=bQ st.m d r.1}else none:=by
 unfold f_ mV;have u:gz S.N st.g ⟨some d,none,now,.a q,az,[],[]⟩=none:=rfl;simp[wanted,u]
 cases w:bY S.N st.g az with
 |none=>rfl|some svs=>
  simp;split
  .cases z:o9 st.m q svs d<;>simp[cW]
  rfl
def yW(dr:X')(fr:S')(dst:a_ Nat)(now:X')(q:MW)(az:R0)(st:St):
 f_ S c dr fr ⟨dst,none,now,.l q,az,[],[]⟩ st=(bY S.N st.g az).bind λsvs=>if !dr||now then(n_ st dst q svs).bind λr=>some (cW r.2 dst r.1)else none:=by
 unfold f_ mV;have u:gz S.N st.g ⟨dst,none,now,.l q,az,[],[]⟩=none:=rfl;simp[wanted,u]
 cases w:bY S.N st.g az with
 |none=>rfl|some svs=>
  simp;split
  .cases z:n_ st dst q svs<;>simp
  rfl
def lH:So->a_ (Y'×So)
 |.clo f a b::vs=>some (f,a++vs++b)|.v (.clo f a b)::vs=>some (f,a.map .v++vs++b.map .v)|_=>none
def vK(dr:X')(fr:S')(dst:a_ Nat)(now:X')(az:R0)(st:St)(svs:So)(f:Y')(args:So)(B:bY S.N st.g az=some svs)(a:lH svs=some (f,args)):
 f_ S c dr fr ⟨dst,none,now,.c,az,[],[]⟩ st=(fu S c dst dr (!dr||now) (fV st.m fr) f args st).bind λr=>some (cW r.2 dst r.1):=by
 unfold f_ mV;unfold lH at a;split at a
 .obtain⟨rfl,rfl⟩:=a;simp[wanted,gz,B];cases fu S c dst dr _ _ _ _ st<;>simp
 .obtain⟨rfl,rfl⟩:=a;simp[wanted,gz,B];cases fu S c dst dr _ _ _ _ st<;>simp
 grind
noncomputable def TQ{β:Type}(S:Sys)(c:cm)(fr:S')(l:SW)(k:St->a_ β):St->a_ β:=λst=>(oE S c false fr l st).bind k
noncomputable def SY{β:Type}(S:Sys)(c:cm)(fr:S')(l:SW)(k:St->a_ β):St->a_ β:=λst=>(oE S c true fr l st).bind k
noncomputable def YG{β:Type}(S:Sys)(c:cm)(fr dd:S')(l:SW)(k:St->a_ β):St->a_ β:=λst=>TQ S c fr l k (qM dd st)
noncomputable def Yk{β:Type}(S:Sys)(c:cm)(fr dd:S')(l:SW)(k:St->a_ β):St->a_ β:=λst=>SY S c fr l k (qM dd st)
@[congr] def ZL{β:Type}{fr:S'}{l:SW}{k:St->a_ β}{st st':St}(h:st=st'):TQ S c fr l k st=TQ S c fr l k st':=by rw[h]
@[congr] def aav{β:Type}{fr B:S'}{l:SW}{k:St->a_ β}{st st':St}(D:fr=B)(h:st=st'):SY S c fr l k st=SY S c B l k st':=Zad
@[congr] def aap{β:Type}{fr dd:S'}{l:SW}{k:St->a_ β}{st st':St}(h:st=st'):YG S c fr dd l k st=YG S c fr dd l k st':=by rw[h]
@[congr] def ZJ{β:Type}{fr B dd:S'}{l:SW}{k:St->a_ β}{st st':St}(D:fr=B)(h:st=st'):Yk S c fr dd l k st=Yk S c B dd l k st':=Zad
@[congr] def aa4{dr:X'}{fr:S'}{o:RO}{st st':St}(h:st=st'):f_ S c dr fr o st=f_ S c dr fr o st':=by rw[h]
end
section
variable{S:Sys}{c:cm}(dr:X')(fr:S')(dst:a_ Nat)(now:X')(az:R0)(st:St)
end
inductive Fm where
 |seq(b:RC)|blk(id:Nat)|gst(x:Gh)
abbrev Rd:=aZ Fm
section
variable(S:Sys)(c:cm){β:Type}(Q:Out×St->a_ β)
noncomputable def runK:Rd->Out×St->a_ β
 |[],r=>Q r|.seq b::fs,(.norm,st)=>(cR S c b st).bind (runK fs)|.seq _::fs,r=>runK fs r|.blk id::fs,(.exit k,st)=>if k=id then runK fs (.norm,st)else runK fs (.exit k,st)|.blk _::fs,r=>runK fs r|.gst x::fs,(.norm,st)=>(ghost x st).bind λst=>runK fs (.norm,st)|.gst _::fs,r=>runK fs r
noncomputable def go(a:RC)(fs:Rd)(st:St):a_ β:=(cR S c a st).bind (runK S c Q fs)
noncomputable def Vk(fs:Rd):St->a_ β:=λst=>runK S c Q fs (.norm,st)
def bl{α:Type}(t:X')(a b:α):α:=if t then a else b
end
@[congr] def aaK{α:Type}{t B:X'}{a b a' D:α}(h:t=B)(G:B=true->a=a')(J:B=false->b=D):bl t a b=bl B a' D:=by subst h;cases t;exact J rfl;exact G rfl
section
variable{S:Sys}{c:cm}{β:Type}{Q:Out×St->a_ β}
@[congr] def go_congr{a:RC}{fs:Rd}{st st':St}(h:st=st'):go S c Q a fs st=go S c Q a fs st':=by rw[h]
@[congr] def Zv{fs:Rd}{st st':St}(h:st=st'):Vk S c Q fs st=Vk S c Q fs st':=by rw[h]
@[congr] def ZE{fs:Rd}{r B:Out×St}(h:r=B):runK S c Q fs r=runK S c Q fs B:=by rw[h]
def KN(a:RC)(st:St):(cR S c a st).bind Q=go S c Q a [] st:=by simp only[go];cases cR S c a st<;>rfl
inductive Fw(ν ε ρ:Type)where
 |n(a:ν)|x(e:ε)|r(b:ρ)
def kn{σ ε ρ:Type}(step:σ->a_ (Fw σ ε ρ)):Nat->σ->a_ (Fw Empty ε ρ)
 |0,_=>none|k+1,s=>match step s with
  |some (.n B)=>kn step k B|some (.x e)=>some (.x e)|some (.r b)=>some (.r b)|none=>none
def zg{σ ε ρ:Type}{step:σ->a_ (Fw σ ε ρ)}:∀{k B:Nat}{s:σ}{r:Fw Empty ε ρ},k<=B->kn step k s=some r->kn step B s=some r
 |0,_,_,_,_,h=>by simp[kn]at h|k+1,0,_,_,hk,_=>Zaa|k+1,B+1,s,r,hk,h=>by simp only[kn]at h⊢;split at h;exact zg (Nat.le_of_succ_le_succ hk) h;exact h;exact h;simp at h
open Classical in
noncomputable def bS{σ ε ρ:Type}(step:σ->a_ (Fw σ ε ρ))(s:σ):a_ (Fw Empty ε ρ):=if h:∃k r,kn step k s=some r then some (Classical.choose (choose_spec h))else none
def pN{σ ε ρ:Type}{step:σ->a_ (Fw σ ε ρ)}{s:σ}{r:Fw Empty ε ρ}:bS step s=some r↔∃k,kn step k s=some r:=by
 unfold bS;constructor;intro h;split at h;next u=>simp only[ζa]at h;exact⟨_,by rw[<-h];exact choose_spec (choose_spec u)⟩
 simp at h;rintro⟨k,a⟩;have u:∃k r,kn step k s=some r:=⟨k,r,a⟩;rw[dif_pos u];have z:=choose_spec (choose_spec u);have B:=zg (Nat.le_max_left (Classical.choose u) k) z;have w:=zg (Nat.le_max_right (Classical.choose u) k) a;rw[B]at w;exact w
def Fw.out{ν ε ρ:Type}(B:ν->St)(eε:ε->Nat×St)(eρ:ρ->St):Fw ν ε ρ->Out×St
 |.n a=>(.norm,B a)|.x e=>(.exit (eε e).1,(eε e).2)|.r b=>(.ret,eρ b)
def Fw.elim{ε ρ γ:Type}(fx:ε->γ)(fr:ρ->γ):Fw Empty ε ρ->γ
 |.x e=>fx e|.r b=>fr b
end
section
variable{α:Type}[bC α]
def Hu(s:Sl α):V.one (b7 s)=true:=by cases s<;>rfl
def P8(l:aZ α):V.oc (rows l)=true:=by induction l with|nil=>rfl|cons a l u=>simp only[rows,map_cons,V.oc,ζh];exact⟨bC.good a,u⟩
def OT(s:Sl α):V.good (b7 s)=true:=by cases s<;>simp only[b7,Sl.k,pF,V.good]<;>exact P8 _
instance:bC (Sl α)where
 cells s:=[b7 s]
 agg:=false
 size:=1
 len _:=rfl
 good s:=by simp only[V.cI,OT,Bool.and_self]
 one s:=by simp[Hu]
 plain _:=rfl
end
section
variable{S:Sys}{c:cm}
def Rj(x:a_ SV)(b:X')(y z:a_ St):a_ St:=
 match x with
 |some (.v (.bool t))=>bl (t==b) y z|some (.v _)=>z|_=>none
@[congr] def YM{x B:a_ SV}{b:X'}{y z:a_ St}(h:x=B):Rj x b y z=Rj B b y z:=by rw[h]
def UD{β:Type}(x:a_ SV)(y z:a_ β):a_ β:=
 match x with
 |some (.v (.bool t))=>bl t y z|_=>none
@[congr] def Zx{β:Type}{x B:a_ SV}{y z:a_ β}(h:x=B):UD x y z=UD B y z:=by rw[h]
def jW(c:cm)(f:Y')(az:T2):a_ T2:=(c f (az.map .v) []).bind λr=>dh r.2 8 r.1
def KW(now:X')(args:So)(ok:X')(st:St)(ys:T2):a_ (SV×St):=if(result ys).scalar||ok then some (.v (result ys),st)else if now then(rowsOf args).map λds=>(.v (result ys),{st with m:=oS ds st.m})else none
def Mz(dst:a_ Nat)(dr now:X')(old:So->X')(f:Y')(args:So)(st:St)(a:S.E.keep f=false):
 fu S c dst dr now old f args st=(dh st.m 8 args).bind λaz=>if now||old args then(jW c f az).bind (KW now args (dB args).isSome st)else none:=by
 unfold fu jW;simp only[a,Bool.false_eq_true,if_false]
 cases dh st.m 8 args with
 |none=>rfl|some az=>
  simp only[ζb];split
  .cases c f (az.map .v) []with
   |none=>rfl|some r=>have⟨rs,m'⟩:=r;simp only[ζb];cases dh m' 8 rs<;>rfl
  rfl
end
section
variable{S:Sys}{T:qN}
def Ll(rs:aZ RV):Out×St->a_ T2
 |(.exit _,_)=>none|(_,st)=>(lg st rs).bind (dh st.m 8)
def TN{f:Y'}{rf:RF}(B:T f=some rf)(az:T2)(D:az.length<=rf.na):jW (dm S T) f az=go S (dm S T) (Ll rf.rs) rf.body [] (start (az.map .v) []):=by unfold jW;rw[tu B];unfold oh;rw[if_pos (by simpa using D),<-KN];cases h:cR S (dm S T) rf.body (start (az.map .v) [])with|none=>rfl|some r=>have⟨o,st⟩:=r;cases o<;>simp only[ζb,Ll]<;>(try rfl)<;>(cases lg st rf.rs<;>rfl)
end
end Go.VE
namespace Go.VE
variable[b8]
variable{N:Nat->Y'}
def AB(k:IntKind)(a b:Int):QQ:=if b=0 then none else some (k.wrap (a.tdiv b))
def Yn(e:a_ KT)(q:a_ Nat)(k:IntKind)(a b:Int):bq N (.bin e q .quo) [.int k a,.int k b]=(AB k a b).bind λx=>some (.int k x):=by simp only[bq,iA,AB,if_true];split<;>rfl
def Jq(o:Nat)(cs:T2):bq N (.fieldAddr o) [.fptr cs]=if o<=cs.length then some (.fptr (cs.drop o))else none:=rfl
def lY(s:U')(n:Int):QQ:=if 0<=n then(s[n.toNat]?).map λb=>(b.toNat:Int)else none
def Pw(s:U')(k:IntKind)(n:Int):bq N .idxStr [.str s,.int k n]=(lY s n).bind λx=>some (.int .u8 x):=by simp only[bq,lY];split;cases s[n.toNat]?<;>rfl;rfl
def Ue(z:T2)(pl:aZ (Nat×Nat))(vs:T2):bq N (.build z pl) vs=(lR z pl vs).bind λcs=>some (.agg cs):=by simp only[bq];cases lR z pl vs<;>rfl
section
variable{α:Type}[bC α]
def Ge(s:Sl α)(k:IntKind)(i:Int)(n:Nat)(B:n=bC.size α):bq N (.idxS n) [b7 s,.int k i]=(idx s i).bind λx=>some (.fptr (cells x)):=by rw[Sk s k i B];cases idx s i<;>rfl
def AI(s:Sl α):bq N .lenSl [b7 s]=some (.int .i64 s.l.length):=Qj s
def Sl.isNil{α:Type}(s:Sl α):a_ X':=
 match s with
 |.nil=>some true|.emp=>none|_=>some false
def S7(q:a_ Nat)(s:Sl α):bq N (.bin (some .slice) q .eql) [b7 s,.bO]=s.isNil.bind λt=>some (.bool t):=by cases s<;>rfl
def Q8(q:a_ Nat)(s:Sl α):bq N (.bin (some .slice) q .neq) [b7 s,.bO]=s.isNil.bind λt=>some (.bool !t):=by cases s<;>rfl
def fZ(s:Sl α)(lo hi:QQ):a_ (Sl α):=
 (eu s.l.length lo hi).map λ(l,h)=>match s with
  |.nil=>.nil|.emp=>.emp|.row x=>.part ((x.take h).drop l)|.part x=>.part ((x.take h).drop l)
def OI(s:Sl α)(lo hi:QQ)(n:Nat)(B:n=bC.size α):iQ n (b7 s) lo hi=(fZ s lo hi).bind λx=>some (b7 x):=by subst B;cases s with|nil=>simp only[b7,Sl.k,pF,iQ,fZ,Sl.l,length_nil];cases eu 0 lo hi<;>rfl|emp=>simp only[b7,Sl.k,pF,iQ,fZ,Sl.l,length_nil];cases eu 0 lo hi<;>rfl|row l=>simp only[b7,Sl.k,pF,iQ,fZ,Sl.l,if_true,gZ];cases eu l.length lo hi<;>simp[rows,map_take,map_drop]|part l=>simp only[b7,Sl.k,pF,iQ,fZ,Sl.l,if_true,gZ];cases eu l.length lo hi<;>simp[rows,map_take,map_drop]
end
def QY(m:Tb bM)(n:Nat)(a:X')(cs:T2):oN m (.load n a) [.v (.fptr cs)]=(cut cs 0 n).bind λr=>(mk a r).bind λx=>some (.v x):=by simp only[oN,eO];cases cut cs 0 n with|none=>rfl|some r=>simp only[ζb];cases mk a r<;>rfl
end Go.VE
namespace Go.VE
variable[b8]
section
variable{α:Type}[bC α]
def cG(s:Sl α):bM:=.sl s.k (bC.size α) (rows s.l)
def Sl.jR(s:Sl α)(i:Int):a_ Nat:=if 0<=i/\i.toNat<s.l.length then some i.toNat else none
def Sl.get(s:Sl α)(i:Nat):a_ α:=s.l[i]?
def Sl.put(s:Sl α)(i:Nat)(x:α):a_ (Sl α):=if i<s.l.length then some (match s with|.row l=>.row (l.set i x)|.part l=>.part (l.set i x)|s=>s)else none
def gw(s:Sl α)(x:α):a_ (Sl α):=if s.l.length+1<=2147483648 then some (.row (s.l++[x]))else none
def oL(n:Int)(z:α):a_ (Sl α):=if 0<=n/\n<=2147483648 then some (.row (replicate n.toNat z))else none
end
section
variable{α:Type}[bC α]{N:Nat->Y'}{m:Tb bM}
def Oi(n d:Nat)(o:a_ bM)(i:Int):a_ SV:=
 match o with
 |some (.sl k es u)=>if cQ k/\es=n/\0<=i/\i.toNat<u.length then some (.el d i.toNat 0)else none|_=>none
def Ww(n d:Nat)(k:IntKind)(i:Int):jC N m (.idxS n) [.own d,.v (.int k i)]=Oi n d (bn m d) i:=by simp[jC,dB,yz,Oi];grind
def Wb(n d:Nat)(s:Sl α)(i:Int)(h:n=bC.size α):Oi n d (some (cG s)) i=(s.jR i).bind λj=>some (.el d j 0):=by simp[Oi,cG,gZ,Sl.jR];cases s with|nil=>simp[Sl.l,cQ]|emp=>simp[Sl.l,cQ]|row l=>simp[Sl.k,Sl.l,cQ];grind|part l=>simp[Sl.k,Sl.l,cQ];grind
def OD(o:a_ bM):a_ SV:=
 match o with
 |some (.sl _ _ u)=>some (.v (.int .i64 u.length))|_=>none
def Tf(d:Nat):jC N m .lenSl [.own d]=OD (bn m d):=by simp[jC,dB,yz,OD];grind
def VL(s:Sl α):OD (some (cG s))=some (.v (.int .i64 s.l.length)):=by simp[OD,cG,gZ]
def Ut(n:Nat)(a:X')(o:Nat)(ob:a_ bM):a_ SV:=
 match ob with
 |some (.box cs)=>xo n a ((cs.drop o).take n)|_=>none
def abv(n:Nat)(a:X')(d o:Nat):oN m (.load n a) [.ptr d o]=Ut n a o (bn m d):=by rfl
def QW(n:Nat)(a:X')(o:Nat)(cs:So):Ut n a o (some (.box cs))=xo n a ((cs.drop o).take n):=rfl
def Js(n:Nat)(a:X')(i o:Nat)(ob:a_ bM):a_ SV:=
 match ob with
 |some (.sl _ _ u)=>match u[i]?with
  |some cs=>((cut cs o n).bind (mk a)).map .v|none=>none
 |_=>none
def aad(n:Nat)(a:X')(d i o:Nat):oN m (.load n a) [.el d i o]=Js n a i o (bn m d):=by rfl
def Q1(n:Nat)(a:X')(i o:Nat)(s:Sl α):Js n a i o (some (cG s))=(s.get i).bind λx=>(cut (cells x) o n).bind λr=>(mk a r).bind λy=>some (.v y):=by simp only[Js,cG,Sl.get,rows,List.getElem?_map];cases s.l[i]?with|none=>rfl|some x=>simp only[map_some,ζb];cases cut (cells x) o n with|none=>rfl|some r=>simp;cases mk a r<;>rfl
def ZQ(z:α)(n:Int)(d:Nat)(size:Nat)(zero:T2)(h:zero=cells z)(B:size=bC.size α):
 o9 m (.makeSl size zero) [.v (.int .i64 n),.v (.int .i64 n)] d=(oL n z).bind λs=>some (cG s,.own d):=by
 subst h B;simp[o9,oL];split
 .simp[cG,Sl.k,Sl.l,rows]
 rfl
def FM(st:St)(d i o size:Nat)(x:V)(ob:a_ bM):a_ (SV×St):=
 match ob with
 |some (.sl k es u)=>match u[i]?with
  |some cs=>if x.cells.length=size/\o+size<=cs.length/\x.cells.all V.one=true then
   some (.v .undef,{st with m:=bQ st.m d (.sl k es (u.set i (cs.take o++x.cells++cs.drop (o+x.cells.length))))})else none
  |none=>none
 |_=>none
def NK(st:St)(dst:a_ Nat)(size d i o:Nat)(x:V):n_ st dst (.store size) [.el d i o,.v x]=FM st d i o size x (bn st.m d):=by rfl
def Ns(g:Tb SV)(p:S')(w:T')(B:X')(y:Nat)(d i size:Nat)(x:V)(a:α)(D:x.cells=cells a)(G:size=bC.size α)(s:Sl α):
 FM ⟨g,m,p,w,B,y⟩ d i 0 size x (some (cG s))=(s.put i a).bind λJ=>some (.v .undef,⟨g,bQ m d (cG J),p,w,B,y⟩):=by
 have c:(cells a).all V.one=true:=bC.one a;have u:∀b:α,(cells b).length=bC.size α:=bC.len;subst G;simp only[FM,cG,rows,List.getElem?_map,D,Sl.put]
 by_cases hi:i<s.l.length
 .have hg:=ζd hi;rw[if_pos hi,hg];simp[u,c]
  cases s with
  |nil=>simp[Sl.l]at hi|emp=>simp[Sl.l]at hi|row l=>simp[Sl.k,Sl.l,List.drop_of_length_le,u]|part l=>simp[Sl.k,Sl.l,List.drop_of_length_le,u]
 grind
def Ak(st:St)(t n:Nat)(s:SV)(xs ys:a_ T'):a_ (SV×St):=
 match xs,ys with
 |some _,some []=>match s with
  |.own d=>match bn st.m d with
   |some ob=>if St.new {st with m:=eG d st.m} t then some (.own t,{st with m:=bQ (eG d st.m) t ob})else none|none=>none
  |.v .bO=>if st.new t then some (.own t,{st with m:=bQ st.m t (.sl .nil n [])})else none|.v .dU=>if st.new t then some (.own t,{st with m:=bQ st.m t (.sl .emp n [])})else none|_=>none
 |some xs,some ys=>
  if xs.length+ys.length<=2147483648/\Lr s=true then
   if St.new {st with m:=giveUp st.m s} t then some (.own t,{st with m:=bQ (giveUp st.m s) t (.sl .row n (xs++ys))})else none
  else none
 |_,_=>none
def A6(st:St)(t n:Nat)(s x:SV):n_ st (some t) (.append n) [s,x]=Ak st t n s (jP st.m n s) (jP st.m n x):=by cases s<;>cases x<;>(rfl)
def OK(n:Nat)(o:a_ bM):a_ T':=
 match o with
 |some (.sl k es u)=>if cQ k then(if es=n then some u else none)else some []|_=>none
def FX(n d:Nat):jP m n (.own d)=OK n (bn m d):=by simp[jP,OK];grind
def Cm(n:Nat)(s:Sl α)(h:n=bC.size α):OK n (some (cG s))=some (rows s.l):=by subst h;cases s<;>simp[OK,cG,Sl.k,Sl.l,cQ,rows]
def VH(n:Nat):jP m n (.v .bO)=some []:=rfl
def VA(n:Nat):jP m n (.v .dU)=some []:=rfl
def Qx(g:Tb SV)(p:S')(w:T')(B:X')(y:Nat)(t n d:Nat)(l:aZ α)(x:α)(h:n=bC.size α):Ak ⟨g,m,p,w,B,y⟩ t n (.own d) (some (rows l)) (some (rows [x]))=
 (gw (.row l) x).bind λs=>if St.new ⟨g,eG d m,p,w,B,y⟩ t then some (.own t,⟨g,bQ (eG d m) t (cG s),p,w,B,y⟩)else none:=by
 subst h;have e:(rows l).length+(rows [x]).length=l.length+1:=by simp[gZ]
 by_cases h:l.length+1<=2147483648
 .have a:gw (.row l) x=some (.row (l++[x])):=if_pos h;have u:Ak ⟨g,m,p,w,B,y⟩ t (bC.size α) (.own d) (some (rows l)) (some (rows [x]))=if St.new ⟨g,eG d m,p,w,B,y⟩ t then some (.own t,⟨g,bQ (eG d m) t (.sl .row (bC.size α) (rows l++rows [x])),p,w,B,y⟩)else none:=if_pos ⟨Zaa,rfl⟩
  rw[a,u];simp[cG,Sl.k,Sl.l,rows]
 have a:gw (.row l) x=none:=if_neg h;have u:Ak ⟨g,m,p,w,B,y⟩ t (bC.size α) (.own d) (some (rows l)) (some (rows [x]))=none:=if_neg (λq=>h Zaa)
 grind
def Rs(g:Tb SV)(p:S')(w:T')(B:X')(y:Nat)(t n:Nat)(x:α)(h:n=bC.size α):Ak ⟨g,m,p,w,B,y⟩ t n (.v .bO) (some []) (some (rows [x]))=
 if St.new ⟨g,m,p,w,B,y⟩ t then some (.own t,⟨g,bQ m t (cG (.row [x])),p,w,B,y⟩)else none:=by
 subst h;rfl
def P9(g:Tb SV)(p:S')(w:T')(B:X')(y:Nat)(t n:Nat)(x:α)(h:n=bC.size α):Ak ⟨g,m,p,w,B,y⟩ t n (.v .dU) (some []) (some (rows [x]))=
 if St.new ⟨g,m,p,w,B,y⟩ t then some (.own t,⟨g,bQ m t (cG (.row [x])),p,w,B,y⟩)else none:=by
 subst h;rfl
end
def zF(g:Tb SV)(m:Tb bM)(p:S')(w:T')(B:X')(y d:Nat):St.new ⟨g,m,p,w,B,y⟩ d=(!(p.contains d)&&(bn m d).isNone&& !(xd d g)&& !(uk d m)):=rfl
def tQ(d:Nat):xd d []=false:=rfl
def r_(d n:Nat)(x:SV)(r:Tb SV):xd d ((n,x)::r)=(SV.c_ d x||xd d r):=rfl
def tF(d:Nat):uk d []=false:=rfl
def rF(d n:Nat)(x:bM)(r:Tb bM):uk d ((n,x)::r)=(bM.c_ d x||uk d r):=rfl
def zM(d:Nat)(x:V):SV.c_ d (.v x)=false:=rfl
def vc(d e:Nat):SV.c_ d (.own e)=(e==d):=rfl
def u6(d e o:Nat):SV.c_ d (.ptr e o)=(e==d):=rfl
def xD(d e i o:Nat):SV.c_ d (.el e i o)=(e==d):=rfl
def xE(d e:Nat):SV.c_ d (.mp e)=(e==d):=rfl
def vt(d:Nat)(f:Y')(a b:So):SV.c_ d (.clo f a b)=(SV.dP d a||SV.dP d b):=rfl
def uZ(d:Nat)(l:So):SV.c_ d (.tup l)=SV.dP d l:=rfl
def tB(d:Nat):SV.dP d []=false:=rfl
def si(d:Nat)(x:SV)(r:So):SV.dP d (x::r)=(SV.c_ d x||SV.dP d r):=rfl
def tJ(d:Nat)(cs:So):bM.c_ d (.box cs)=SV.dP d cs:=rfl
def Hq(m:Tb bM)(n:Nat):dh m n []=some []:=by cases n<;>simp[dh]
def FG(m:Tb bM)(n:Nat)(x:SV)(r:So):dh m n (x::r)=(shut m n x).bind λy=>(dh m n r).bind λs=>some (y::s):=by cases n<;>(simp[dh];cases shut m _ x<;>(try rfl)<;>(cases dh m _ r<;>rfl))
def Y7(m:Tb bM)(n:Nat)(x:V):shut m n (.v x)=some x:=by cases n<;>simp[shut]
def TO(m:Tb bM)(n:Nat)(f:Y')(a b:So):shut m (n+1) (.clo f a b)=(dh m n a).bind λx=>(dh m n b).bind λy=>some (.clo f x y):=by simp[shut];cases dh m n a<;>(try rfl)<;>(cases dh m n b<;>rfl)
def TX(m:Tb bM)(n:Nat)(l:So):shut m (n+1) (.tup l)=(dh m n l).bind λx=>some (.tup x):=by simp[shut];cases dh m n l<;>rfl
def Ss(m:Tb bM)(n:Nat)(l:So):shut m (n+1) (.agg l)=(dh m n l).bind λx=>some (.agg x):=by simp[shut];cases dh m n l<;>rfl
def vk{α:Type}(n:Nat):eG n ([]:Tb α)=[]:=rfl
def tW{α:Type}(n k:Nat)(x:α)(r:Tb α):eG n ((k,x)::r)=if k=n then eG n r else(k,x)::eG n r:=rfl
def mapM_nil(f:So->So):mapM f []=[]:=rfl
section
variable{N:Nat->Y'}{m:Tb bM}
def VC:result []=.tup []:=rfl
def V7(x:V):result [x]=x:=rfl
def Wm(x y:V)(l:T2):result (x::y::l)=.tup (x::y::l):=rfl
def JR(p:wz)(a:V):jC N m p [.v a]=(bq N p [a]).bind λx=>some (.v x):=MS N m p _ [a] rfl
def u_(p:wz)(a b:V):jC N m p [.v a,.v b]=(bq N p [a,b]).bind λx=>some (.v x):=MS N m p _ [a,b] rfl
def mA(l:T2):dB (l.map .v)=some l:=by induction l with|nil=>rfl|cons a l u=>simp only[map_cons,dB,u];rfl
def vT(n:Nat)(l:T2):dh m n (l.map .v)=some l:=by induction l with|nil=>exact Hq m n|cons a l u=>rw[map_cons,FG,Y7,u];rfl
def Sl.UO{α:Type}(l:aZ α):(Sl.row l).l=l:=rfl
def QU(cs:T2):lR cs [] []=some cs:=rfl
def Oa(cs:T2)(off size:Nat)(pl:aZ (Nat×Nat))(v:V)(vs:T2):lR cs ((off,size)::pl) (v::vs)=
 if v.cells.length=size/\off+v.cells.length<=cs.length then lR (cs.take off++v.cells++cs.drop (off+v.cells.length)) pl vs else none:=by
 simp only[lR]
 by_cases h:v.cells.length=size<;>by_cases u:off+v.cells.length<=cs.length
 .rw[if_neg (by simp[h];omega),if_pos ⟨h,u⟩]
 .rw[if_pos (by simp[h];omega),if_neg (λq=>u q.2)]
 .rw[if_pos (by simp[h]),if_neg (λq=>h q.1)]
 rw[if_pos (by simp[h]),if_neg (λq=>h q.1)]
def Pq(k:IntKind)(n:Int):V.cells (.int k n)=[.int k n]:=rfl
def Mr(n:X'):V.cells (.bool n)=[.bool n]:=rfl
def QO(n:U'):V.cells (.str n)=[.str n]:=rfl
def Rq:V.cells .bO=[.bO]:=rfl
def nT(k:IntKind)(n:Int):V.one (.int k n)=true:=rfl
def mo(n:X'):V.one (.bool n)=true:=rfl
def nR(n:U'):V.one (.str n)=true:=rfl
end
section
variable{S:Sys}{c:cm}{β γ δ:Type}{Q:Out×St->a_ β}{L:a_ β}{e:γ->a_ β}
def PY{dr:X'}{fr:S'}{d:a_ Nat}{gd:a_ (Nat×X')}{now:X'}{k:K}{az:R0}{st:St}(h:wanted st.g gd=some true):
 f_ S c dr fr ⟨d,gd,now,k,az,[],[]⟩ st=f_ S c dr fr ⟨d,none,now,k,az,[],[]⟩ st:=by
 unfold f_;rw[h];rfl
def DH(dr:X')(st:St):DX dr [] st=some st:=by cases dr<;>rfl
def nL(f:SV->a_ V):So->a_ T2
 |[]=>some []|x::r=>(f x).bind λy=>(nL f r).bind λs=>some (y::s)
def iW(m:Tb bM):Nat->SV->a_ V
 |0,x=>match x with
  |.v y=>some y|.own d=>match bn m d with
   |some (.sl k es xs)=>some (pF k es xs)|_=>none
  |.mp d=>match bn m d with
   |some (.mp B)=>some (.fmap B)|_=>none
  |_=>none
 |n+1,x=>match x with
  |.v y=>some y|.own d=>match bn m d with
   |some (.sl k es xs)=>some (pF k es xs)|_=>none
  |.ptr d o=>match bn m d with
   |some (.box cs)=>match nL (iW m n) cs with
    |some xs=>if o<=xs.length then some (.fptr (xs.drop o))else none|none=>none
   |_=>none
  |.mp d=>match bn m d with
   |some (.mp B)=>some (.fmap B)|_=>none
  |.clo f a b=>(nL (iW m n) a).bind λx=>(nL (iW m n) b).bind λy=>some (.clo f x y)|.tup l=>(nL (iW m n) l).bind λx=>some (.tup x)|.agg l=>(nL (iW m n) l).bind λx=>some (.agg x)|_=>none
def xA(m:Tb bM):∀(n:Nat),(∀x,shut m n x=iW m n x)/\∀l,dh m n l=nL (iW m n) l:=by
 have w:∀n,(∀x,shut m n x=iW m n x)->∀l,dh m n l=nL (iW m n) l:=by intro n h l;induction l with|nil=>exact Hq m n|cons a l u=>rw[FG,h a,u];rfl
 intro n;induction n with|zero=>have c:∀x,shut m 0 x=iW m 0 x:=(by intro x;cases x<;>simp[shut,iW]<;>rfl);grind|succ n u=>have e:∀x,shut m (n+1) x=iW m (n+1) x:=(by intro x;cases x with|ptr d o=>simp[shut,iW,u.2];rfl|clo f a b=>rw[TO,u.2,u.2];rfl|tup l=>rw[TX,u.2];rfl|agg l=>rw[Ss,u.2];rfl|_=>simp[shut,iW]<;>rfl);grind
noncomputable def wL(S:Sys)(c:cm)(dr:X'):S'->SW->(St->a_ β)->St->a_ β
 |_,[],k,st=>k st|fr,o::r,k,st=>((DX dr o.pre st).bind (f_ S c dr fr o.strip)).bind λst'=>wL S c dr (if dr then sK fr o.strip else fr) r k (qM o.dead st')
def Gn(dr:X'):∀(l:SW)(fr:S')(k:St->a_ β)(st:St),wL S c dr fr l k st=(oE S c dr fr l st).bind k
 |[],_,_,_=>rfl|o::r,fr,k,st=>by simp[wL,oE];cases(DX dr o.pre st).bind (f_ S c dr fr o.strip)with|none=>rfl|some st'=>exact Gn dr r _ k _
noncomputable def qD(S:Sys)(c:cm):RC->(St->a_ β)->(Nat->St->a_ β)->(St->a_ β)->St->a_ β
 |.skip,n,_,_,st=>n st|.ops l,n,_,_,st=>wL S c false [] l n st|.qK l,n,_,_,st=>wL S c true [] l n st|.seq a b,n,x,r,st=>qD S c a (λst=>qD S c b n x r st) x r st|.cond y a b,n,x,r,st=>match sy S.N st.g y with
  |some (.v (.bool t))=>bl t (qD S c a n x r st) (qD S c b n x r st)|_=>none
 |.block id a,n,x,r,st=>qD S c a n (λk st=>if k=id then n st else x k st) r st|.loop a,n,x,r,st=>(pW (cR S c a) st).bind λq=>match q with|(.norm,st)=>n st|(.exit k,st)=>x k st|(.ret,st)=>r st
 |.each g ps a b,n,x,r,st=>(cR S c (.each g ps a b) st).bind λq=>match q with|(.norm,st)=>n st|(.exit k,st)=>x k st|(.ret,st)=>r st
 |.exit k,_,x,_,st=>x k st|.ret,_,_,r,st=>r st|.gh g a,n,x,r,st=>(ghost g st).bind λst=>qD S c a n x r st|.hg a g,n,x,r,st=>qD S c a (λst=>(ghost g st).bind n) x r st
def GG(n:St->a_ β)(x:Nat->St->a_ β)(r:St->a_ β):Out×St->a_ β
 |(.norm,st)=>n st|(.exit k,st)=>x k st|(.ret,st)=>r st
def Er:∀(d:RC)(n:St->a_ β)(x:Nat->St->a_ β)(r:St->a_ β)(st:St),qD S c d n x r st=(cR S c d st).bind (GG n x r):=by
 intro d
 induction d with
 |skip=>intros;rfl|ops l=>intro n x r st;simp[qD,cR,Gn];cases oE S c false [] l st<;>rfl|qK l=>intro n x r st;simp[qD,cR,Gn];cases oE S c true [] l st<;>rfl|seq a b u w=>intro n x r st;simp[qD,cR,u,w];cases h:cR S c a st with|none=>rfl|some q=>have⟨o,st'⟩:=q;cases o<;>rfl
 |cond y a b u w=>
  intro n x r st;simp[qD,cR,u,w]
  cases sy S.N st.g y with
  |none=>rfl|some v=>cases v with
   |v z=>cases z with
    |bool t=>cases t<;>rfl|_=>rfl
   |_=>rfl
 |block id a B=>intro n x r st;simp[qD,cR,B];cases h:cR S c a st with|none=>rfl|some q=>have⟨o,st'⟩:=q;cases o with|exit k=>simp[GG];split<;>rfl|_=>rfl
 |loop a B=>intro n x r st;rfl|each g ps a b u w=>intro n x r st;rfl|exit k=>intros;rfl|ret=>intros;rfl|gh g a B=>simp[qD,cR,B];grind|hg a g B=>intro n x r st;simp[qD,cR,B];cases h:cR S c a st with|none=>rfl|some q=>have⟨o,st'⟩:=q;cases o with|norm=>simp[GG];cases ghost g st'<;>rfl|_=>rfl
section
variable(S c Q)
mutual
noncomputable def nY:Rd->St->a_ β
 |[]=>λst=>Q (.norm,st)|.seq b::fs=>λst=>qD S c b (nY fs) (nW fs) (λst=>Q (.ret,st)) st|.blk _::fs=>nY fs|.gst g::fs=>λst=>(ghost g st).bind (nY fs)
noncomputable def nW:Rd->Nat->St->a_ β
 |[]=>λk st=>Q (.exit k,st)|.seq _::fs=>nW fs|.blk id::fs=>λk st=>if k=id then nY fs st else nW fs k st|.gst _::fs=>nW fs
end
noncomputable def lz(a:RC)(fs:Rd)(st:St):a_ β:=qD S c a (nY S c Q fs) (nW S c Q fs) (λst=>Q (.ret,st)) st
end
section
variable{dr:X'}{fr:S'}{d:Nat}{dst:a_ Nat}{now:X'}{az:R0}{st:St}{α:Type}[bC α]
def K7{p:wz}{svs:So}{m:a_ δ}{v:δ->SV}(B:bY S.N st.g az=some svs)(hi:isSlice p=false)(h:jC S.N st.m p svs=m.bind λx=>some (v x)):
 f_ S c dr fr ⟨dst,none,now,.p p,az,[],[]⟩ st=m.bind λx=>some (cW st dst (v x)):=by
 rw[Ve _ _ _ _ _ _ _ hi,B]
 grind
def BV{p:wz}{svs:So}{v:SV}(B:bY S.N st.g az=some svs)(hi:isSlice p=false)(h:jC S.N st.m p svs=some v):
 f_ S c dr fr ⟨dst,none,now,.p p,az,[],[]⟩ st=some (cW st dst v):=by
 rw[Ve _ _ _ _ _ _ _ hi,B]
 grind
def UH{n:Nat}{s:Sl α}{k:IntKind}{i:Int}(B:bY S.N st.g az=some [.v (b7 s),.v (.int k i)])(D:n=bC.size α):
 f_ S c dr fr ⟨dst,none,now,.p (.idxS n),az,[],[]⟩ st=(idx s i).bind λx=>some (cW st dst (.v (.fptr (cells x)))):=
 K7 B rfl (by rw[u_,Ge s k i n D];grind)
def ZV{n e:Nat}{s:Sl α}{k:IntKind}{i:Int}(B:bY S.N st.g az=some [.own e,.v (.int k i)])(D:bn st.m e=some (cG s))(G:n=bC.size α):
 f_ S c dr fr ⟨dst,none,now,.p (.idxS n),az,[],[]⟩ st=(s.jR i).bind λj=>some (cW st dst (.el e j 0)):=
 K7 B rfl (by rw[Ww,D,Wb n e s i G])
def UK{s:Sl α}(B:bY S.N st.g az=some [.v (b7 s)]):f_ S c dr fr ⟨dst,none,now,.p .lenSl,az,[],[]⟩ st=some (cW st dst (.v (.int .i64 s.l.length))):=BV B rfl (by rw[JR,AI];rfl)
def Y1{e:Nat}{s:Sl α}(B:bY S.N st.g az=some [.own e])(D:bn st.m e=some (cG s)):f_ S c dr fr ⟨dst,none,now,.p .lenSl,az,[],[]⟩ st=some (cW st dst (.v (.int .i64 s.l.length))):=BV B rfl (by rw[Tf,D,VL])
def ZT{q:a_ KT}{u:a_ Nat}{k:IntKind}{a b:Int}(B:bY S.N st.g az=some [.v (.int k a),.v (.int k b)]):f_ S c dr fr ⟨dst,none,now,.p (.bin q u .quo),az,[],[]⟩ st=(AB k a b).bind λx=>some (cW st dst (.v (.int k x))):=K7 B rfl (by rw[u_,Yn];grind)
def V9{u:a_ Nat}{s:Sl α}(B:bY S.N st.g az=some [.v (b7 s),.v .bO]):f_ S c dr fr ⟨dst,none,now,.p (.bin (some .slice) u .eql),az,[],[]⟩ st=s.isNil.bind λt=>some (cW st dst (.v (.bool t))):=K7 B rfl (by rw[u_,S7];grind)
def RW{u:a_ Nat}{s:Sl α}(B:bY S.N st.g az=some [.v (b7 s),.v .bO]):f_ S c dr fr ⟨dst,none,now,.p (.bin (some .slice) u .neq),az,[],[]⟩ st=s.isNil.bind λt=>some (cW st dst (.v (.bool !t))):=K7 B rfl (by rw[u_,Q8];grind)
def RZ{s:U'}{k:IntKind}{n:Int}(B:bY S.N st.g az=some [.v (.str s),.v (.int k n)]):f_ S c dr fr ⟨dst,none,now,.p .idxStr,az,[],[]⟩ st=(lY s n).bind λx=>some (cW st dst (.v (.int .u8 x))):=K7 B rfl (by rw[u_,Pw];grind)
def YZ{n e i o:Nat}{a:X'}{s:Sl α}{v:α->V}(B:bY S.N st.g az=some [.el e i o])(hd:(!dr||now||fK fr [.el e i o])=true)(D:bn st.m e=some (cG s))(b:∀x:α,(cut (cells x) o n).bind (mk a)=some (v x)):
 f_ S c dr fr ⟨dst,none,now,.r (.load n a),az,[],[]⟩ st=(s.get i).bind λx=>some (cW st dst (.v (v x))):=by
 rw[Cp,B];simp only[ζb,hd,aad,D,Q1]
 cases s.get i with
 |none=>rfl|some x=>
  cases d:cut (cells x) o n with
  |none=>grind|some r=>grind
def MT{n e i:Nat}{s:Sl α}{x:V}{a:α}(B:bY S.N st.g az=some [.el e i 0,.v x])(hd:(!dr||now)=true)(D:bn st.m e=some (cG s))(G:x.cells=cells a)(J:n=bC.size α):
 f_ S c dr fr ⟨dst,none,now,.l (.store n),az,[],[]⟩ st=(s.put i a).bind λU=>some (cW {st with m:=bQ st.m e (cG U)} dst (.v .undef)):=by
 rw[yW,B];simp[hd,NK,D];rw[Ns st.g st.pin st.want st.more st.yid e i n x a G J s]
 grind
def Yp{n:Nat}{z:α}{zero:T2}{i:Int}(B:bY S.N st.g az=some [.v (.int .i64 i),.v (.int .i64 i)])(D:zero=cells z)(G:n=bC.size α)(J:st.new d=true):
 f_ S c dr fr ⟨some d,none,now,.a (.makeSl n zero),az,[],[]⟩ st=(oL i z).bind λs=>some {st with g:=bQ st.g d (.own d),m:=bQ st.m d (cG s)}:=by
 rw[AL,B];simp[J];rw[ZQ z i d n zero D G]
 grind
def aal{n e u:Nat}{s:Sl α}{x:α}(G:bY S.N st.g az=some [.own e,.own u])(hd:(!dr||now)=true)(J:bn st.m e=some (cG s))(a:bn st.m u=some (cG (.row [x])))(B:n=bC.size α)(U:St.new {st with m:=eG e st.m} d=true):
 f_ S c dr fr ⟨some d,none,now,.l (.append n),az,[],[]⟩ st=(gw s x).bind λD=>some {st with g:=bQ st.g d (.own d),m:=bQ (eG e st.m) d (cG D)}:=by
 rw[yW,G];simp[hd,A6,FX,J,a];rw[Cm n s B,Cm n (.row [x]) B];have:=Qx (m:=st.m) st.g st.pin st.want st.more st.yid d n e s.l x B;simp[Sl.UO];rw[this];have w:gw (.row s.l) x=gw s x:=by cases s<;>rfl
 rw[w]
 cases gw s x with
 |none=>rfl|some D=>simp;rw[if_pos U];rfl
def Zc{n u:Nat}{x:α}{v:V}(a:v=.bO\/v=.dU)(G:bY S.N st.g az=some [.v v,.own u])(hd:(!dr||now)=true)(b:bn st.m u=some (cG (.row [x])))(B:n=bC.size α)(D:st.new d=true):
 f_ S c dr fr ⟨some d,none,now,.l (.append n),az,[],[]⟩ st=some {st with g:=bQ st.g d (.own d),m:=bQ st.m d (cG (.row [x]))}:=by
 rw[yW,G];simp[hd,A6,FX,b];rw[Cm n (.row [x]) B];simp[Sl.UO];rcases a with rfl|rfl
 .rw[VH,Rs (m:=st.m) st.g st.pin st.want st.more st.yid d n x B];rw[if_pos D];rfl
 rw[VA,P9 (m:=st.m) st.g st.pin st.want st.more st.yid d n x B];rw[if_pos D];rfl
def YL{f:Y'}{svs args:So}{cs:T2}{m:a_ δ}{E:δ->T2}(a:jW c f cs=m.bind λr=>some (E r))(b:S.E.keep f=false)(D:bY S.N st.g az=some svs)(G:lH svs=some (f,args))
 (B:nL (iW st.m 8) args=some cs)(J:((!dr||now)||fV st.m fr args)=true)(d:∀r,((result (E r)).scalar||(dB args).isSome)=true):
 f_ S c dr fr ⟨dst,none,now,.c,az,[],[]⟩ st=m.bind λr=>some (cW st dst (.v (result (E r)))):=by
 rw[vK dr fr dst now az st svs f args D G,Mz _ _ _ _ _ _ _ b,(xA st.m 8).2,B];simp[J,a]
 cases m with
 |none=>rfl|some r=>
  simp[KW]
  grind
end
end
section
variable{S:Sys}{c:cm}{β γ:Type}{Q:Out×St->a_ β}{L:a_ β}{e:γ->a_ β}
def qj(a:RC)(st:St):lz S c Q a [] st=(cR S c a st).bind Q:=by unfold lz;rw[Er];congr 1;funext q;have⟨o,st⟩:=q;cases o<;>rfl
def CO(a:RC)(st:St):cR S c a st=lz S c some a [] st:=by rw[qj];cases cR S c a st<;>rfl
def qZ(rs:aZ RV):Out×St->a_ T2
 |(.exit _,_)=>none|(_,st)=>(lg st rs).bind (nL (iW st.m 8))
def WL(rs:aZ RV):Ll rs=qZ rs:=by funext q;have⟨o,st⟩:=q;cases o;simp only[Ll,qZ];congr 1;funext l;exact(xA st.m 8).2 l;rfl;simp only[Ll,qZ];congr 1;funext l;exact(xA st.m 8).2 l
def VX{S:Sys}{T:qN}{f:Y'}{rf:RF}(B:T f=some rf)(az:T2)(D:az.length<=rf.na):jW (dm S T) f az=lz S (dm S T) (qZ rf.rs) rf.body [] (start (az.map .v) []):=by rw[TN B az D,<-KN,qj,WL]
end
def lq{α σ ε ρ:Type}(step:α->σ->a_ (Fw σ ε ρ)):aZ α->σ->a_ (Fw σ ε ρ)
 |[],s=>some (.n s)|x::xs,s=>(step x s).bind λw=>match w with
  |.n B=>lq step xs B|.x e=>some (.x e)|.r b=>some (.r b)
def Fw.rV{ν ε ρ γ:Type}(fn:ν->γ)(fx:ε->γ)(fr:ρ->γ):Fw ν ε ρ->γ
 |.n a=>fn a|.x e=>fx e|.r b=>fr b
def Fw.xJ{ν ε ρ:Type}(B:ν->Tb bM)(eε:ε->Nat×Tb bM)(eρ:ρ->Tb bM):Fw ν ε ρ->Out×Tb bM
 |.n a=>(.norm,B a)|.x e=>(.exit (eε e).1,(eε e).2)|.r b=>(.ret,eρ b)
def xJ(q:Out×St):a_ (Out×Tb bM):=some (q.1,q.2.m)
section
variable{S:Sys}{c:cm}{β γ:Type}{Q:Out×St->a_ β}{L:a_ β}{e:γ->a_ β}
noncomputable def AQ(S:Sys)(c:cm)(b:RC):Out×St->a_ (Out×Tb bM)
 |(.norm,st)=>lz S c xJ b [] st|_=>none
def OW(ps:S')(a b:RC)(st:St)(x:T2)(m:Tb bM)(B:x.length=ps.length):
 jx ps (cR S c a) (cR S c b) st x m=lz S c (AQ S c b) a [] ⟨yK st.g ps (x.map .v),m,st.pin++rq st.g,[],true,0⟩:=by
 unfold jx;rw[if_pos B,qj]
 cases cR S c a ⟨yK st.g ps (x.map .v),m,st.pin++rq st.g,[],true,0⟩with
 |none=>rfl|some q=>
  have⟨o,u⟩:=q
  cases o with
  |norm=>simp only[ζb,AQ];rw[qj];cases cR S c b u<;>rfl|_=>rfl
end
def Le{α:Type}(a b:a_ α):Prop:=∀r,a=some r->b=some r
section
variable{α:Type}
def Le.refl(a:a_ α):Le a a:=λ_ h=>h
def Le.of_eq{a b:a_ α}(h:b=a):Le a b:=λ_ u=>h.trans u
def Le.trans{a b d:a_ α}(c:Le a b)(B:Le b d):Le a d:=λr h=>B r (c r h)
def Le.none(b:a_ α):Le (none:a_ α) b:=λr h=>by cases h
def Le.bind{β:Type}{a b:a_ α}{f g:α->a_ β}(h:Le a b)(B:∀x,Le (f x) (g x)):Le (a.bind f) (b.bind g):=λr c=>by have⟨x,d,u⟩:=ζg.1 c;rw[h x d];exact B x r u
end
section
variable{S:Sys}{c:cm}{β γ δ:Type}{Q:Out×St->a_ β}{L:a_ β}{e:γ->a_ β}
def KS{dr:X'}{fr:S'}{dst:a_ Nat}{now:X'}{az:R0}{st:St}{f:Y'}{svs args:So}{cs:T2}{m:a_ δ}{E:δ->T2}(a:Le (m.bind λr=>some (E r)) (jW c f cs))(b:S.E.keep f=false)(D:bY S.N st.g az=some svs)(G:lH svs=some (f,args))
 (B:nL (iW st.m 8) args=some cs)(J:((!dr||now)||fV st.m fr args)=true)(d:∀r,((result (E r)).scalar||(dB args).isSome)=true):
 Le (m.bind λr=>some (cW st dst (.v (result (E r))))) (f_ S c dr fr ⟨dst,none,now,.c,az,[],[]⟩ st):=by
 intro q w;have⟨r,e,z⟩:=ζg.1 w;have u:jW c f cs=(some r).bind λr=>some (E r):=a _ (by rw[e];rfl)
 rw[YL (m:=some r) u b D G B J d];exact z
def RQ{σ ε ρ:Type}{f:St->a_ (Out×St)}{step:σ->a_ (Fw σ ε ρ)}{eσ:σ->St}{eε:ε->Nat×St}{eρ:ρ->St}(h:∀s,Le ((step s).bind λw=>some (Fw.out eσ eε eρ w)) (f (eσ s)))(s:σ):
 Le ((bS step s).bind λw=>some (Fw.out (λe=>Empty.elim e) eε eρ w)) (pW f (eσ s)):=by
 have key:∀k s r,kn step k s=some r->jZ f k (eσ s)=some (Fw.out (λe=>Empty.elim e) eε eρ r):=by intro k;induction k with|zero=>intro s r h;simp[kn]at h|succ k C=>intro s r u;simp only[kn]at u;cases z:step s with|none=>rw[z]at u;cases u|some w=>rw[z]at u;have B:=h s (Fw.out eσ eε eρ w) (by rw[z];rfl);simp only[jZ,B];cases w with|n a=>exact C a r u|x e=>cases u;rfl|r b=>cases u;rfl
 intro r c;have⟨w,d,B⟩:=ζg.1 c;have⟨k,g⟩:=pN.1 d;cases B;exact oq.2 ⟨k,key k s w g⟩
def ZR{σ ε ρ:Type}{a:RC}{fs:Rd}{step:σ->a_ (Fw σ ε ρ)}{eσ:σ->St}{eε:ε->Nat×St}{eρ:ρ->St}{s:σ}{fx:ε->a_ γ}{fr:ρ->a_ γ}
 (B:L=lz S c Q (.loop a) fs (eσ s))(h:∀s,Le ((step s).bind λw=>some (Fw.out eσ eε eρ w)) (lz S c some a [] (eσ s)))
 (D:∀x,Le ((fx x).bind e) (nW S c Q fs (eε x).1 (eε x).2))(d:∀b,Le ((fr b).bind e) (Q (.ret,eρ b))):Le (((bS step s).bind (Fw.elim fx fr)).bind e) L:=by
 subst B;have g:lz S c Q (.loop a) fs (eσ s)=(pW (cR S c a) (eσ s)).bind (GG (nY S c Q fs) (nW S c Q fs) (λst=>Q (.ret,st))):=by unfold lz;rw[Er];rfl
 rw[g];have u:=RQ (step:=step) (f:=cR S c a) (eσ:=eσ) (eε:=eε) (eρ:=eρ) (λs=>by rw[CO];exact h s) s
 cases z:bS step s with
 |none=>exact Le.none _|some w=>
  have C:=u _ (by rw[z];rfl)
  rw[C]
  cases w with
  |n a=>cases a|x a=>exact D a|r a=>exact d a
def JX{α σ ε ρ:Type}{f:T2->Tb bM->a_ (Out×Tb bM)}{step:α->σ->a_ (Fw σ ε ρ)}{eI:α->T2}{eσ:σ->Tb bM}{eε:ε->Nat×Tb bM}{eρ:ρ->Tb bM}
 (h:∀x s,Le ((step x s).bind λw=>some (Fw.xJ eσ eε eρ w)) (f (eI x) (eσ s))):∀(xs:aZ α)(s:σ),Le ((lq step xs s).bind λw=>some (Fw.xJ eσ eε eρ w)) (rD f (xs.map eI) (eσ s))
 |[],s=>λr a=>a|x::xs,s=>by simp only[map_cons,rD,lq];cases B:step x s with|none=>exact Le.none _|some w=>have D:=h x s (Fw.xJ eσ eε eρ w) (by rw[B];rfl);rw[D];cases w with|n u=>simp only[ζb,Fw.xJ];exact JX h xs u|x e=>exact Le.refl _|r b=>exact Le.refl _
def aaj{α σ ε ρ:Type}{g:Arg}{ps:S'}{a b:RC}{fs:Rd}{f:Y'}{x y:T2}{d:aZ α}{eI:α->T2}{step:α->σ->a_ (Fw σ ε ρ)}{eσ:σ->Tb bM}{eε:ε->Nat×Tb bM}{eρ:ρ->Tb bM}{i:Tb SV}{s:σ}
 {fn:σ->a_ γ}{fx:ε->a_ γ}{fr:ρ->a_ γ}
 (B:L=lz S c Q (.each g ps a b) fs ⟨i,eσ s,[],[],true,0⟩)(j:sy S.N i g=some (.v (.clo f x y)))(hi:S.items f x y=some (d.map eI))(D:∀x,(eI x).length=ps.length)
 (h:∀x s,Le ((step x s).bind λw=>some (Fw.xJ eσ eε eρ w)) (lz S c (AQ S c b) a [] ⟨yK i ps ((eI x).map .v),eσ s,rq i,[],true,0⟩))
 (G:∀s,Le ((fn s).bind e) (nY S c Q fs ⟨i,eσ s,[],[],true,0⟩))
 (J:∀x,Le ((fx x).bind e) (nW S c Q fs (eε x).1 ⟨i,(eε x).2,[],[],true,0⟩))(k:∀b,Le ((fr b).bind e) (Q (.ret,⟨i,eρ b,[],[],true,0⟩))):
 Le (((lq step d s).bind (Fw.rV fn fx fr)).bind e) L:=by
 subst B;have l:lz S c Q (.each g ps a b) fs ⟨i,eσ s,[],[],true,0⟩=(cR S c (.each g ps a b) ⟨i,eσ s,[],[],true,0⟩).bind (GG (nY S c Q fs) (nW S c Q fs) (λst=>Q (.ret,st))):=by unfold lz;rw[Er]
 rw[l];simp only[cR,j,hi];have u:=JX (step:=step) (f:=jx ps (cR S c a) (cR S c b) ⟨i,eσ s,[],[],true,0⟩) (eI:=eI) (eσ:=eσ) (eε:=eε) (eρ:=eρ) (λx s=>by rw[OW _ _ _ _ _ _ (D x)];exact h x s) d s
 cases z:lq step d s with
 |none=>exact Le.none _|some w=>
  have C:=u _ (by rw[z];rfl)
  rw[C]
  cases w with
  |n a=>exact G a|x a=>exact J a|r a=>exact k a
end
inductive Fo where
 |rc(c:RC)|ops(dr:Bool)(fr:List Nat)(l:List RO)|nx|ex(k:Nat)|rt
abbrev bL(g:Tb SV)(m:Tb bM):St:=⟨g,m,[],[],true,0⟩
section
variable(S:Sys)(c:cm){β:Type}(Q:Out×St->a_ β)
noncomputable def rn:Fo->Rd->St->a_ β
 |.rc a,fs,st=>lz S c Q a fs st|.ops dr fr l,fs,st=>wL S c dr fr l (nY S c Q fs) st|.nx,fs,st=>nY S c Q fs st|.ex k,fs,st=>nW S c Q fs k st|.rt,_,st=>Q (.ret,st)
noncomputable def AU:Fo->Rd->St->a_ (Fo×Rd×St)
 |.rc .skip,fs,st=>some (.nx,fs,st)|.rc (.ops l),fs,st=>some (.ops false [] l,fs,st)|.rc (.qK l),fs,st=>some (.ops true [] l,fs,st)|.rc (.seq a b),fs,st=>some (.rc a,.seq b::fs,st)|.rc (.cond y a b),fs,st=>match sy S.N st.g y with
  |some (.v (.bool true))=>some (.rc a,fs,st)|some (.v (.bool false))=>some (.rc b,fs,st)|_=>none
 |.rc (.block id a),fs,st=>some (.rc a,.blk id::fs,st)|.rc (.exit k),fs,st=>some (.ex k,fs,st)|.rc .ret,fs,st=>some (.rt,fs,st)|.rc (.gh g a),fs,st=>match ghost g st with
  |some st'=>some (.rc a,fs,st')|none=>none
 |.rc (.hg a g),fs,st=>some (.rc a,.gst g::fs,st)|.rc (.loop _),_,_=>none|.rc (.each ..),_,_=>none|.ops _ _ [],fs,st=>some (.nx,fs,st)|.ops dr fr (⟨d,gd,now,k,az,dd,[]⟩::r),fs,st=>match f_ S c dr fr ⟨d,gd,now,k,az,[],[]⟩ st with
  |some st'=>some (.ops dr (if dr then sK fr ⟨d,gd,now,k,az,[],[]⟩else fr) r,fs,qM dd st')|none=>none
 |.ops dr fr (⟨d,gd,now,k,az,dd,x::xs⟩::r),fs,st=>if dr&& !(B4 x&&xs.all B4)then none else match ghost x st with
  |some st'=>some (.ops dr fr (⟨d,gd,now,k,az,dd,xs⟩::r),fs,st')|none=>none
 |.nx,.seq b::fs,st=>some (.rc b,fs,st)|.nx,.blk _::fs,st=>some (.nx,fs,st)|.nx,.gst g::fs,st=>match ghost g st with
  |some st'=>some (.nx,fs,st')|none=>none
 |.nx,[],_=>none|.ex k,.seq _::fs,st=>some (.ex k,fs,st)|.ex k,.blk id::fs,st=>some (if k=id then .nx else .ex k,fs,st)|.ex k,.gst _::fs,st=>some (.ex k,fs,st)|.ex _,[],_=>none|.rt,_,_=>none
noncomputable def iz:Nat->Fo->Rd->St->a_ (Fo×Rd×St)
 |0,fo,fs,st=>some (fo,fs,st)|n+1,fo,fs,st=>match AU S c fo fs st with
  |some (fo',fs',st')=>iz n fo' fs' st'|none=>none
end
section
variable{S:Sys}{c:cm}{β γ δ:Type}{Q:Out×St->a_ β}{e:γ->a_ β}
def Uo{fo fo':Fo}{fs fs':Rd}{st st':St}(h:AU S c fo fs st=some (fo',fs',st')):rn S c Q fo fs st=rn S c Q fo' fs' st':=by
 cases fo with
 |rc a=>cases a with|cond y a b=>simp only[AU]at h;split at h;(next u=>cases h;simp only[rn,lz,qD,u,bl,if_true]);(next u=>cases h;simp only[rn,lz,qD,u,bl];rfl);cases h|gh g a=>simp only[AU]at h;split at h;(next u=>cases h;simp only[rn,lz,qD,u,ζb]);cases h|loop a=>cases h|each g ps a b=>cases h|seq a b=>cases h;simp only[rn,lz,qD,nY,nW]|block id a=>cases h;simp only[rn,lz,qD,nY,nW]|hg a g=>cases h;simp only[rn,lz,qD,nY,nW]|_=>cases h;simp only[rn,lz,qD]
 |ops dr fr l=>cases l with|nil=>cases h;simp only[rn,wL]|cons o r=>have⟨d,gd,now,k,az,dd,pre⟩:=o;cases pre with|nil=>simp only[AU]at h;split at h;(next u=>cases h;simp only[rn,wL,DH,RO.strip,ζb,u]);cases h|cons x w=>simp only[AU]at h;split at h;cases h;rename_i hd;split at h;rename_i u;cases h;(cases dr with|true=>simp only[Bool.true_and,Bool.not_eq_true',Bool.not_eq_false,ζh]at hd;simp only[rn,wL,RO.strip,DX,qf,if_true,List.all_cons,hd.1,hd.2,Bool.and_self,u,ζb]|false=>simp only[rn,wL,RO.strip,DX,qf,Bool.false_eq_true,if_false,u,ζb]);cases h
 |nx=>cases fs with|nil=>cases h|cons f fs=>cases f with|seq b=>cases h;simp only[rn,lz,nY]|blk id=>cases h;simp only[rn,nY]|gst g=>simp only[AU]at h;split at h;(next u=>cases h;simp only[rn,nY,u,ζb]);cases h
 |ex k=>cases fs with|nil=>cases h|cons f fs=>cases f with|seq b=>cases h;simp only[rn,nW]|blk id=>cases h;simp only[rn,nW];by_cases e:k=id;simp only[if_pos e,rn];simp only[if_neg e,rn]|gst g=>cases h;simp only[rn,nW]
 |rt=>cases h
def qb:∀{n:Nat}{fo fo':Fo}{fs fs':Rd}{st st':St},iz S c n fo fs st=some (fo',fs',st')->rn S c Q fo fs st=rn S c Q fo' fs' st'
 |0,fo,fo',fs,fs',st,st',h=>by cases h;rfl|n+1,fo,fo',fs,fs',st,st',h=>by simp only[iz]at h;split at h;(next a b d B=>rw[Uo B];exact qb h);cases h
def B7{n:Nat}{fo fo':Fo}{fs fs':Rd}{st st':St}{m:a_ β}(h:iz S c n fo fs st=some (fo',fs',st'))(B:Le m (rn S c Q fo' fs' st')):Le m (rn S c Q fo fs st):=by rw[qb h];exact B
def abg{n:Nat}{fo fo':Fo}{fs fs':Rd}{st st':St}{r:γ}(h:iz S c n fo fs st=some (fo',fs',st'))(B:rn S c Q fo' fs' st'=e r):Le ((some r).bind e) (rn S c Q fo fs st):=by rw[qb h];exact Le.of_eq B
def Vo{m:a_ δ}{f:δ->a_ γ}{L:a_ β}(k:δ->a_ β)(B:Le (m.bind k) L)(b:∀r,Le ((f r).bind e) (k r)):Le ((m.bind f).bind e) L:=by intro r a;cases m with|none=>cases a|some x=>exact B r (b x r a)
def abd{n:Nat}{fo:Fo}{fs fs':Rd}{st0:St}{dr:X'}{q l:SW}{fr:S'}{st:St}{d:a_ Nat}{gd:a_ (Nat×X')}{now:X'}{k:K}{az:R0}{dd:S'}{m:a_ δ}{g:δ->St}{f:δ->a_ γ}
 (B:iz S c n fo fs st0=some (.ops dr fr q,fs',st))(D:q=⟨d,gd,now,k,az,dd,[]⟩::l)(a:wanted st.g gd=some true)
 (G:Le (m.bind λx=>some (g x)) (f_ S c dr fr ⟨d,none,now,k,az,[],[]⟩ st))
 (h:∀x,m=some x->Le ((f x).bind e) (rn S c Q (.ops dr (if dr then sK fr ⟨d,gd,now,k,az,[],[]⟩else fr) l) fs' (qM dd (g x)))):Le ((m.bind f).bind e) (rn S c Q fo fs st0):=by
 rw[qb B];subst D;simp only[rn,wL,RO.strip,DH,ζb];rw[PY a]
 cases m with
 |none=>exact Le.none _|some x=>rw[G (g x) rfl];exact h x rfl
def UU{n:Nat}{fo:Fo}{fs fs':Rd}{st0:St}{dr:X'}{q l:SW}{fr:S'}{st st':St}{d:a_ Nat}{gd:a_ (Nat×X')}{now:X'}{k:K}{az:R0}{dd:S'}{m:a_ β}
 (B:iz S c n fo fs st0=some (.ops dr fr q,fs',st))(D:q=⟨d,gd,now,k,az,dd,[]⟩::l)(a:wanted st.g gd=some true)
 (G:f_ S c dr fr ⟨d,none,now,k,az,[],[]⟩ st=some st')
 (h:Le m (rn S c Q (.ops dr (if dr then sK fr ⟨d,gd,now,k,az,[],[]⟩else fr) l) fs' (qM dd st'))):Le m (rn S c Q fo fs st0):=by
 rw[qb B];subst D;simp only[rn,wL,RO.strip,DH,ζb];rw[PY a,G];exact h
def Jy{n:Nat}{fo:Fo}{B:Rd}{st:St}{σ ε ρ:Type}{a:RC}{fs:Rd}{step:σ->a_ (Fw σ ε ρ)}{eσ:σ->St}{eε:ε->Nat×St}{eρ:ρ->St}{s:σ}{fx:ε->a_ γ}{fr:ρ->a_ γ}
 (D:iz S c n fo B st=some (.rc (.loop a),fs,eσ s))(h:∀s,Le ((step s).bind λw=>some (Fw.out eσ eε eρ w)) (rn S c some (.rc a) [] (eσ s)))
 (G:∀x,Le ((fx x).bind e) (rn S c Q (.ex (eε x).1) fs (eε x).2))(d:∀b,Le ((fr b).bind e) (Q (.ret,eρ b))):Le (((bS step s).bind (Fw.elim fx fr)).bind e) (rn S c Q fo B st):=by
 rw[qb D];exact ZR (L:=rn S c Q (.rc (.loop a)) fs (eσ s)) rfl h G d
def XY{n:Nat}{fo:Fo}{B:Rd}{st:St}{α σ ε ρ:Type}{g:Arg}{ps:S'}{a b:RC}{fs:Rd}{f:Y'}{x y:T2}{d:aZ α}{eI:α->T2}{step:α->σ->a_ (Fw σ ε ρ)}{eσ:σ->Tb bM}{eε:ε->Nat×Tb bM}{eρ:ρ->Tb bM}{i:Tb SV}{s:σ}
 {fn:σ->a_ γ}{fx:ε->a_ γ}{fr:ρ->a_ γ}
 (D:iz S c n fo B st=some (.rc (.each g ps a b),fs,bL i (eσ s)))(j:sy S.N i g=some (.v (.clo f x y)))(hi:S.items f x y=some (d.map eI))(G:∀x,(eI x).length=ps.length)
 (h:∀x s,Le ((step x s).bind λw=>some (Fw.xJ eσ eε eρ w)) (rn S c (AQ S c b) (.rc a) [] ⟨yK i ps ((eI x).map .v),eσ s,rq i,[],true,0⟩))
 (J:∀s,Le ((fn s).bind e) (rn S c Q .nx fs (bL i (eσ s))))
 (U:∀x,Le ((fx x).bind e) (rn S c Q (.ex (eε x).1) fs (bL i (eε x).2)))(k:∀b,Le ((fr b).bind e) (Q (.ret,bL i (eρ b)))):
 Le (((lq step d s).bind (Fw.rV fn fx fr)).bind e) (rn S c Q fo B st):=by
 rw[qb D];exact aaj (L:=rn S c Q (.rc (.each g ps a b)) fs (bL i (eσ s))) rfl j hi G h J U k
def YR{b:RC}{st st':St}{m:a_ (Out×Tb bM)}{fs:Rd}{n:Nat}{fo:Fo}(h:iz S c n fo fs st=some (.nx,[],st'))(B:Le m (rn S c xJ (.rc b) [] st')):Le m (rn S c (AQ S c b) fo fs st):=by rw[qb h];exact B
def aab{α:Type}{n:Nat}{fo fo':Fo}{fs fs':Rd}{st:St}{A:a_ α->St}{o:a_ α}{f:α->a_ γ}(h:iz S c n fo fs st=some (fo',fs',A o))
 (B:∀x,o=some x->Le ((f x).bind e) (rn S c Q fo' fs' (A (some x)))):Le ((o.bind f).bind e) (rn S c Q fo fs st):=by
 rw[qb h]
 cases o with
 |none=>exact Le.none _|some x=>exact B x rfl
def abk{T:qN}{f:Y'}{rf:RF}{az:T2}{m:a_ T2}(B:T f=some rf)(D:az.length<=rf.na)(h:Le m (rn S (dm S T) (qZ rf.rs) (.rc rf.body) [] (start (az.map .v) []))):Le m (jW (dm S T) f az):=by rw[VX B az D];exact h
end
section
variable{α:Type}[bC α]
abbrev cv(x:α):SV:=.v (enc x)
abbrev cp(x:α):SV:=.v (.fptr (cells x))
abbrev bx(x:α):bM:=.box ((cells x).map .v)
end
structure hG(S:Sys)(c:cm){α δ:Type}(fn:FuncId)(A:α->List V)(E:δ->List V)(p:α->Option δ)(sc:Bool):Prop where
 k:S.E.keep fn=false
 h:∀z,Le ((p z).bind λr=>some (E r)) (jW c fn (A z))
 s:sc=true->∀r,(result (E r)).scalar=true
section
variable{S:Sys}{c:cm}{β γ δ α:Type}{Q:Out×St->a_ β}{e:γ->a_ β}{fo:Fo}{fs:Rd}{st0:St}{l:SW}{d:a_ Nat}{gd:a_ (Nat×X')}{now:X'}{az:R0}{dd:S'}
noncomputable abbrev ug(S:Sys)(c:cm)(Q:Out×St->a_ β)(dr:X')(fr:S')(d:a_ Nat)(k:K)(l:SW)(fs:Rd)(dd:S')(st:St):a_ β:=rn S c Q (.ops dr (if dr then(match k with|.p _|.r _=>fr|_=>match d with|some d=>d::fr|none=>fr)else fr) l) fs (qM dd st)
def GW(fr:S')(k:K):sK fr ⟨d,gd,now,k,az,[],[]⟩=(match k with|.p _|.r _=>fr|_=>match d with|some d=>d::fr|none=>fr):=by cases k<;>cases d<;>rfl
def DR{n:Nat}{dr:X'}{fr:S'}{q:SW}{fs':Rd}{st:St}{k:K}{m:a_ δ}{g:δ->St}{f:δ->a_ γ}
 (B:iz S c n fo fs st0=some (.ops dr fr q,fs',st))(D:q=⟨d,gd,now,k,az,dd,[]⟩::l)(a:wanted st.g gd=some true)
 (G:Le (m.bind λx=>some (g x)) (f_ S c dr fr ⟨d,none,now,k,az,[],[]⟩ st))
 (h:∀x,m=some x->Le ((f x).bind e) (ug S c Q dr fr d k l fs' dd (g x))):Le ((m.bind f).bind e) (rn S c Q fo fs st0):=
 abd B D a G (λx u=>by rw[GW];grind)
def sV{n:Nat}{dr:X'}{fr:S'}{q:SW}{fs':Rd}{st st':St}{k:K}{m:a_ β}
 (B:iz S c n fo fs st0=some (.ops dr fr q,fs',st))(D:q=⟨d,gd,now,k,az,dd,[]⟩::l)(a:wanted st.g gd=some true)
 (G:f_ S c dr fr ⟨d,none,now,k,az,[],[]⟩ st=some st')(h:Le m (ug S c Q dr fr d k l fs' dd st')):Le m (rn S c Q fo fs st0):=
 UU B D a G (by rw[GW];omega)
section
variable[bC α]
def Tj(n:Nat)(dr:X')(fr:S')(q:SW)(fs':Rd)(st:St)(k:IntKind){sz:Nat}{s:Sl α}{i:Int}{f:α->a_ γ}(D:q=⟨d,gd,now,.p (.idxS sz),az,dd,[]⟩::l)
 (B:(iz S c n fo fs st0,wanted st.g gd,bY S.N st.g az,sz)=(some (.ops dr fr q,fs',st),some true,some [.v (b7 s),.v (.int k i)],bC.size α))
 (h:∀x,idx s i=some x->Le ((f x).bind e) (ug S c Q dr fr d (.p (.idxS sz)) l fs' dd (cW st d (cp x)))):Le (((idx s i).bind f).bind e) (rn S c Q fo fs st0):=by
 simp at B;exact DR B.1 D B.2.1 (Le.of_eq (UH B.2.2.1 B.2.2.2)) h
def Yw(n:Nat)(dr:X')(fr:S')(q:SW)(fs':Rd)(st:St)(s:Sl α){m:a_ β}(D:q=⟨d,gd,now,.p .lenSl,az,dd,[]⟩::l)
 (B:(iz S c n fo fs st0,wanted st.g gd,bY S.N st.g az)=(some (.ops dr fr q,fs',st),some true,some [.v (b7 s)]))
 (h:Le m (ug S c Q dr fr d (.p .lenSl) l fs' dd (cW st d (.v (.int .i64 s.l.length))))):Le m (rn S c Q fo fs st0):=by
 simp at B;exact sV B.1 D B.2.1 (UK B.2.2) h
end
section
variable{q:SW}{fs':Rd}
end
def JV(m:Tb bM)(n:Nat)(l:T2):nL (iW m n) (l.map .v)=some l:=by rw[<-(xA m n).2,vT]
variable{A:α->T2}{E:δ->T2}{p:α->a_ δ}{fn:Y'}{sc:X'}
end
abbrev iv(n:Int):SV:=.v (.int .i64 n)
abbrev bv(b:Bool):SV:=.v (.bool b)
abbrev len{α:Type}(s:Sl α):Int:=((List.length (Sl.l s):Nat):Int)
abbrev o1(d:Nat)(a:Arg)(dd:aZ Nat):RO:=⟨some d,none,false,.p .id,[a],dd,[]⟩
abbrev o2(d:Nat)(k:K)(az:aZ Arg)(dd:aZ Nat):RO:=⟨some d,none,false,k,az,dd,[]⟩
abbrev o3(d s:Nat)(b:Bool)(k:K)(az:aZ Arg)(dd:aZ Nat):RO:=⟨some d,some (s,b),false,k,az,dd,[]⟩
def My(a b:bf):X':=[a.proc,a.index]==[b.proc,b.index]
section
variable{α:Type}[bC α]
def wA(h:bC.agg α=false)(a:α):cells a=[enc a]:=by
 have u:(cells a).length=1:=by rw[show(cells a).length=_ from bC.len a,bC.plain h]
 unfold enc;rw[if_neg (by simp[h])];match b:cells a,u with|[x],_=>rfl
def Cj(h:bC.agg α=true)(a:α):enc a=.agg (cells a):=by unfold enc;grind
def j8(a:α):V.good (enc a)=true:=by have h:V.cI (cells a)=true:=bC.good a;cases u:bC.agg α with|true=>rw[Cj u];exact h|false=>rw[wA u]at h;simp[V.cI]at h;omega
def nC(s:Sl α):V.one (enc s)=true:=Hu s
def Ug(s:α)(h:bC.agg α=false):V.one (enc s)=true:=by have:=bC.one s;rw[show bC.cells s=cells s from rfl,wA h]at this;grind
end
instance{α:Type}[bC α]:bC (a_ α)where
 cells o:=[match o with|none=>.iR|some x=>.fptr (cells x)]
 agg:=false
 size:=1
 len _:=rfl
 good o:=by cases o with|none=>rfl|some x=>simp only[V.cI,V.good,Bool.and_true];exact bC.good x
 one o:=by cases o<;>rfl
 plain _:=rfl
structure U8 where
 v:Int
 deriving Inhabited,DecidableEq
instance:bC U8 where
 cells n:=[.int .u8 n.v]
 agg:=false
 size:=1
 len _:=rfl
 good _:=rfl
 one _:=rfl
 plain _:=rfl
structure U64 where
 v:Int
 deriving Inhabited,DecidableEq
instance:bC U64 where
 cells n:=[.int .u64 n.v]
 agg:=false
 size:=1
 len _:=rfl
 good _:=rfl
 one _:=rfl
 plain _:=rfl
structure U32 where
 v:Int
 deriving Inhabited,DecidableEq
instance:bC U32 where
 cells n:=[.int .u32 n.v]
 agg:=false
 size:=1
 len _:=rfl
 good _:=rfl
 one _:=rfl
 plain _:=rfl
structure I32 where
 v:Int
 deriving Inhabited,DecidableEq
instance:bC I32 where
 cells n:=[.int .i32 n.v]
 agg:=false
 size:=1
 len _:=rfl
 good _:=rfl
 one _:=rfl
 plain _:=rfl
structure lW(S:Sys)(c:cm){α δ:Type}(g:FuncId)(w e:List V)(A:α->List V)(R:δ->List V)(p:α->Option δ)(b:Bool):Prop where
 f:hG S c g (λz=>w++A z++e) R p b
section
variable{S:Sys}{c:cm}{β γ δ α:Type}{Q:Out×St->a_ β}{e:γ->a_ β}{fo:Fo}{fs:Rd}{st0:St}{l:SW}{d:a_ Nat}{gd:a_ (Nat×X')}{now:X'}{az:R0}{dd:S'}
def l_{α:Type}[bC α](a:α):V.cells (enc a)=cells a:=by cases u:bC.agg α with|true=>rw[Cj u];rfl|false=>have b:=Ug a u;rw[wA u];cases h:enc a<;>first|rfl|(rw[h]at b;cases b)
def rY{α:Type}[bC α](a:α):(cells a).all V.one=true:=bC.one a
def gH{α:Type}[bC α](a:α):(cells a).length=bC.size α:=bC.len a
def Ast[bC α](n:Nat)(dr:X')(fr:S')(q:SW)(fs':Rd)(st:St)(u o:Nat)(x:α)(cs B:So){sz:Nat}{m:a_ β}(G:q=⟨d,gd,now,.l (.store sz),az,dd,[]⟩::l)
 (D:(iz S c n fo fs st0,wanted st.g gd,bY S.N st.g az,bn st.m u,(!dr||now),sz,ble (o+sz) cs.length,cs.take o++(cells x).map .v++cs.drop (o+sz))=(some (.ops dr fr q,fs',st),some true,some [.ptr u o,cv x],some (.box cs),true,bC.size α,true,B))
 (h:Le m (ug S c Q dr fr d (.l (.store sz)) l fs' dd (cW {st with m:=bQ st.m u (.box B)} d (.v .undef)))):Le m (rn S c Q fo fs st0):=by
 simp only[ζc]at D;have⟨a,w,z,C,I,J,L,O⟩:=D;refine sV a G w ?_ h;rw[yW,z];subst J;have T:=Nat.le_of_ble_eq_true L;simp only[ζb,I,if_true,n_,C,putCells,l_,gH,rY,T,and_self,O,map_some]
def BD{α:Type}[bC α]:∀(xs:aZ α)(pre:T')(B:T'),B.length=xs.length->fS (bC.size α) (pre++B) ((range' pre.length xs.length).zip (xs.map enc))=some (pre++rows xs)
 |[],pre,B,h=>by have:=List.eq_nil_of_length_eq_zero h;subst this;rfl|x::xs,pre,s::B,h=>by simp only[length_cons,List.range'_succ,map_cons,List.zip_cons_cons,fS,l_,gH,rY];have:=BD xs (pre++[cells x]) B Zac;simp only[ζi,length_cons,length_nil]at this;have e:(pre++s::B).set pre.length (cells x)=pre++[cells x]++B:=Zab;rw[e,this];simp[rows]
def Abs[bC α](n:Nat)(dr:X')(fr:S')(q:SW)(fs':Rd)(st:St)(xs:aZ α){u sz ln:Nat}{zero:T2}{ix:S'}{m:a_ β}(D:q=⟨some u,gd,now,.a (.buildSl sz ln zero ix),az,dd,[]⟩::l)
 (G:st.new u=true)(B:(iz S c n fo fs st0,wanted st.g gd,bY S.N st.g az,sz,ln,ix)=(some (.ops dr fr q,fs',st),some true,some ((xs.map enc).map .v),bC.size α,xs.length,range' 0 xs.length))
 (h:Le m (ug S c Q dr fr (some u) (.a (.buildSl sz ln zero ix)) l fs' dd {st with g:=bQ st.g u (.own u),m:=bQ st.m u (cG (.row xs))})):Le m (rn S c Q fo fs st0):=by
 simp only[ζc]at B;have⟨a,w,z,C,I,J⟩:=B;subst C I J;refine sV a D w ?_ h;rw[AL,z];simp only[ζb,G,o9,mA,List.length_range',length_map];have:=BD xs [] (replicate xs.length zero) Zab
 simp at this;rw[this];rfl
def abb[bC α](n:Nat)(dr:X')(fr:S')(q:SW)(fs':Rd)(st:St)(x:α)(vs:T2){z:T2}{pl:aZ (Nat×Nat)}{m:a_ β}(D:q=⟨d,gd,now,.p (.build z pl),az,dd,[]⟩::l)
 (hp:lR z pl vs=some (cells x))(G:bC.agg α=true)
 (B:(iz S c n fo fs st0,wanted st.g gd,bY S.N st.g az)=(some (.ops dr fr q,fs',st),some true,some (vs.map .v)))
 (h:Le m (ug S c Q dr fr d (.p (.build z pl)) l fs' dd (cW st d (cv x)))):Le m (rn S c Q fo fs st0):=by
 simp at B;refine sV B.1 D B.2.1 (BV B.2.2 rfl ?_) h;unfold jC;rw[mA];simp only[Ue,hp,map_some];show some (SV.v (.agg (cells x)))=some (.v (enc x));rw[Cj G]
section
variable[bC α]
def abh(n:Nat)(dr:X')(fr:S')(q:SW)(fs':Rd)(st:St)(lo hi:X')(D:T2){sz:Nat}{s:Sl α}{a b:QQ}{f:Sl α->a_ γ}(G:q=⟨d,gd,now,.p (.slice sz lo hi),az,dd,[]⟩::l)
 (B:(iz S c n fo fs st0,wanted st.g gd,bY S.N st.g az,mL lo hi D,sz)=(some (.ops dr fr q,fs',st),some true,some (.v (b7 s)::D.map .v),some (a,b),bC.size α))
 (h:∀x,fZ s a b=some x->Le ((f x).bind e) (ug S c Q dr fr d (.p (.slice sz lo hi)) l fs' dd (cW st d (.v (b7 x))))):Le (((fZ s a b).bind f).bind e) (rn S c Q fo fs st0):=by
 simp at B;refine DR B.1 G B.2.1 (Le.of_eq ?_) h;have w:=B.2.2.1;unfold f_ mV;simp[wanted,gz,w];have u:jC S.N st.m (.slice sz lo hi) ((b7 s::D).map .v)=(fZ s a b).bind λx=>some (.v (b7 x)):=by unfold jC;rw[mA];simp[bq,B.2.2.2.1,OI s a b sz B.2.2.2.2];cases fZ s a b<;>rfl
 simp at u⊢;rw[u];cases fZ s a b<;>rfl
def qa(s:Sl α)(lo hi:QQ):a_ (Sl α):=
 match s with
 |.nil|.emp=>none|.row x|.part x=>(eu x.length lo hi).map λ(l,h)=>.part ((x.take h).drop l)
def ZG(n:Nat)(fr:S')(q:SW)(fs':Rd)(st:St)(lo hi:X')(u:Nat)(D:T2){t sz:Nat}{s:Sl α}{a b:QQ}{f:Sl α->a_ γ}(J:q=⟨some t,gd,now,.p (.slice sz lo hi),az,dd,[]⟩::l)
 (G:St.new {st with m:=eG u st.m} t=true)(B:(iz S c n fo fs st0,wanted st.g gd,bY S.N st.g az,mL lo hi D,bn st.m u,sz)=(some (.ops false fr q,fs',st),some true,some (.own u::D.map .v),some (a,b),some (cG s),bC.size α))
 (h:∀x,qa s a b=some x->Le ((f x).bind e) (ug S c Q false fr (some t) (.p (.slice sz lo hi)) l fs' dd {st with g:=bQ st.g t (.own t),m:=bQ (eG u st.m) t (cG x)})):Le (((qa s a b).bind f).bind e) (rn S c Q fo fs st0):=by
 simp at B;refine DR B.1 J B.2.1 (Le.of_eq ?_) h;have⟨_,_,z,w,C,I⟩:=B;subst I;unfold f_ mV;simp[wanted,gz,z,B2,mA,C,w]
 cases s with
 |nil=>simp[qa,cG,Sl.k,cQ]|emp=>simp[qa,cG,Sl.k,cQ]|row x=>
  simp[cG,Sl.k,Sl.l,cQ,qa,gZ,w]
  cases eu x.length a b with
  |none=>rfl|some r=>simp[G,cW,rows,map_drop]
 |part x=>
  simp[cG,Sl.k,Sl.l,cQ,qa,gZ,w]
  cases eu x.length a b with
  |none=>rfl|some r=>simp[G,cW,rows,map_drop]
def v7(n:Int)(a:α):a_ (Sl α):=if 0<=n/\n<=2147483648 then some (if n=0 then .row []else .part [])else none
def aba(n:Nat)(dr:X')(fr:S')(q:SW)(fs':Rd)(st:St){u:Nat}{sz:Nat}{zero:T2}{i:Int}{z:α}{f:Sl α->a_ γ}(G:q=⟨some u,gd,now,.a (.makeSl sz zero),az,dd,[]⟩::l)
 (J:st.new u=true)(D:(iz S c n fo fs st0,wanted st.g gd,bY S.N st.g az,sz)=(some (.ops dr fr q,fs',st),some true,some [.v (.int .i64 0),.v (.int .i64 i)],bC.size α))
 (h:∀B,v7 i z=some B->Le ((f B).bind e) (ug S c Q dr fr (some u) (.a (.makeSl sz zero)) l fs' dd {st with g:=bQ st.g u (.own u),m:=bQ st.m u (cG B)})):Le (((v7 i z).bind f).bind e) (rn S c Q fo fs st0):=by
 simp at D;have⟨b,w,C,I⟩:=D;subst I;refine DR b G w (Le.of_eq ?_) h;rw[AL,C];simp only[ζb,J,if_true,o9,true_and,v7]
 by_cases hi:0<=i/\i<=2147483648
 .rw[if_pos hi,if_pos ⟨Int.le_refl 0,hi⟩]
  by_cases a:i=0
  .subst a;rfl
  have:¬0=i:=λh=>a h.symm
  simp[if_neg a,if_neg this];rfl
 grind
end
end
structure cq(n:Nat)(α:Type)where
 l:List α
 len:l.length=n
def Sz{α:Type}[bC α](l:aZ α):(l.map (cells (α:=α))).flatten.length=l.length*bC.size α:=by induction l with|nil=>simp|cons a l u=>simp[u,gH,add_mul,Nat.add_comm]
def PV{α:Type}[bC α](l:aZ α):V.cI (l.map (cells (α:=α))).flatten=true:=by induction l with|nil=>rfl|cons a l u=>have h:∀(x y:T2),V.cI x=true->V.cI y=true->V.cI (x++y)=true:=(by intro x;induction x with|nil=>grind|cons b x w=>intro y c z;simp[V.cI]at c⊢;grind);exact h _ _ (bC.good a) u
instance{n:Nat}{α:Type}[bC α]:bC (cq n α)where
 cells a:=(a.l.map cells).flatten
 agg:=true
 size:=n*bC.size α
 len a:=by rw[Sz,a.len]
 good a:=PV a.l
 one a:=by have:∀l:aZ α,(l.map (cells (α:=α))).flatten.all V.one=true:=(by intro l;induction l with|nil=>rfl|cons a l u=>simp only[map_cons,flatten_cons,List.all_append,u,rY,Bool.and_self]);exact this a.l
 plain h:=by cases h
def cq.PN(n:Nat){α:Type}(z:α):cq n α:=⟨replicate n z,Zab⟩
def cq.at{n:Nat}{α:Type}(a:cq n α)(i:Int):a_ α:=if 0<=i then a.l[i.toNat]?else none
def cq.set{n:Nat}{α:Type}(a:cq n α)(i:Int)(x:α):cq n α:=⟨a.l.set i.toNat x,by simp[a.len]⟩
def pa{n:Nat}{α:Type}[bC α](a:cq n α)(i:Int):T2:=(cells a).drop (i.toNat*bC.size α)
def cq.vP{n:Nat}{α:Type}{a:cq n α}{i:Int}{x:α}(h:a.at i=some x):0<=i/\i.toNat<n/\a.l[i.toNat]?=some x:=by
 unfold cq.at at h;split at h;next hi=>refine⟨hi,?_,h⟩;have:=(ζe.1 h).1;rw[<-a.len];simp_all
 simp_all
def HY{α:Type}[bC α]:∀(l:aZ α)(k:Nat),((l.map (cells (α:=α))).flatten).drop (k*bC.size α)=((l.drop k).map (cells (α:=α))).flatten
 |[],k=>Zab|a::l,0=>Zab|a::l,k+1=>by have h:=gH a;rw[map_cons,flatten_cons,List.drop_succ_cons,<-HY l k,add_mul,one_mul,Nat.add_comm,<-h,List.drop_length_add_append]
def CY{n:Nat}{α:Type}[bC α]{a:cq n α}{i:Int}{x:α}(h:a.at i=some x):∃r,pa a i=cells x++r:=by have⟨b,B,w⟩:=cq.vP h;have⟨u,z⟩:=ζe.1 w;refine⟨((a.l.drop (i.toNat+1)).map cells).flatten,?_⟩;show((a.l.map (cells)).flatten).drop (i.toNat*bC.size α)=_;rw[HY,List.drop_eq_getElem_cons u,map_cons,flatten_cons,z]
section
variable{S:Sys}{c:cm}{β γ δ α:Type}{Q:Out×St->a_ β}{e:γ->a_ β}{fo:Fo}{fs:Rd}{st0:St}{l:SW}{d:a_ Nat}{gd:a_ (Nat×X')}{now:X'}{az:R0}{dd:S'}
section
variable{N:Nat}[bC α]
def aaf(n:Nat)(dr:X')(fr:S')(q:SW)(fs':Rd)(st:St)(k:IntKind){ln sz:Nat}{a:cq N α}{i:Int}{f:α->a_ γ}(D:q=⟨d,gd,now,.p (.idxA ln sz),az,dd,[]⟩::l)
 (B:(iz S c n fo fs st0,wanted st.g gd,bY S.N st.g az,sz,ln)=(some (.ops dr fr q,fs',st),some true,some [cp a,.v (.int k i)],bC.size α,N))
 (h:∀x,a.at i=some x->Le ((f x).bind e) (ug S c Q dr fr d (.p (.idxA ln sz)) l fs' dd (cW st d (.v (.fptr (pa a i)))))):Le (((a.at i).bind f).bind e) (rn S c Q fo fs st0):=by
 simp at B;have⟨g,w,z,C,G⟩:=B;subst C G;refine DR g D w ?_ h;intro r b;have⟨x,I,b⟩:=ζg.1 b;have⟨g1,g2,_⟩:=cq.vP I;rw[BV z rfl ?_]
 .omega
 rw[u_];simp[bq,yw];have u:i.toNat*bC.size α<=(cells a).length:=by rw[gH];exact Nat.mul_le_mul_right _ (Nat.le_of_lt g2)
 rw[if_pos ⟨g1,Zaa⟩,if_pos u]
 rfl
def abe(n:Nat)(dr:X')(fr:S')(q:SW)(fs':Rd)(st:St)(a:cq N α)(i:Int)(o:Nat)(x:α)(D:a.at i=some x){k:Nat}{m:a_ β}(G:q=⟨d,gd,now,.p (.fieldAddr k),az,dd,[]⟩::l)
 (B:(iz S c n fo fs st0,wanted st.g gd,bY S.N st.g az,ble (o+k) (bC.size α))=(some (.ops dr fr q,fs',st),some true,some [.v (.fptr ((pa a i).drop o))],true))
 (h:Le m (ug S c Q dr fr d (.p (.fieldAddr k)) l fs' dd (cW st d (.v (.fptr ((pa a i).drop (o+k))))))):Le m (rn S c Q fo fs st0):=by
 simp only[ζc]at B;have⟨b,u,w,z⟩:=B;refine sV b G u (BV w rfl ?_) h;have C:=Nat.le_of_ble_eq_true z;have⟨r,e⟩:=CY D;have I:(pa a i).length>=bC.size α:=by rw[e,ζi,gH];omega
 rw[JR,Jq,if_pos Zac,drop_drop]
 rfl
def ZS(n:Nat)(dr:X')(fr:S')(q:SW)(fs':Rd)(st:St)(a:cq N α)(i:Int)(o:Nat)(x:α)(G:a.at i=some x){sz:Nat}{ag:X'}{v:V}(g:(cut (cells x) o sz).bind (mk ag)=some v)(B:V){m:a_ β}(J:q=⟨d,gd,now,.r (.load sz ag),az,dd,[]⟩::l)
 (D:(iz S c n fo fs st0,wanted st.g gd,bY S.N st.g az,v)=(some (.ops dr fr q,fs',st),some true,some [.v (.fptr ((pa a i).drop o))],B))
 (h:Le m (ug S c Q dr fr d (.r (.load sz ag)) l fs' dd (cW st d (.v B)))):Le m (rn S c Q fo fs st0):=by
 simp at D;obtain⟨e,z,C,rfl⟩:=D;refine sV e J z ?_ h;rw[Cp,C];have b:fK fr [SV.v (.fptr ((pa a i).drop o))]=true:=rfl;simp[b,QY];have⟨r,f⟩:=CY G;rw[f];have j:cut ((cells x++r).drop o) 0 sz=cut (cells x) o sz:=by cases u:cut (cells x) o sz with|none=>grind|some w=>unfold cut at u⊢;dsimp only at u⊢;split at u;have e1:(List.drop 0 (List.drop o (cells x++r))).take sz=((cells x).drop o).take sz:=(by have I:sz=0\/o<=(cells x).length:=(by grind);grind);grind;grind
 cases u:cut (cells x) o sz with
 |none=>grind|some w=>grind
def X1(n:Nat)(dr:X')(fr:S')(q:SW)(fs':Rd)(st:St)(cs:So){u sz:Nat}{zero:T2}{m:a_ β}(D:q=⟨some u,gd,now,.a (.alloc sz zero),az,dd,[]⟩::l)
 (G:st.new u=true)(B:(iz S c n fo fs st0,wanted st.g gd,bY S.N st.g az,zero.map SV.v)=(some (.ops dr fr q,fs',st),some true,some [],cs))
 (h:Le m (ug S c Q dr fr (some u) (.a (.alloc sz zero)) l fs' dd {st with g:=bQ st.g u (.ptr u 0),m:=bQ st.m u (.box cs)})):Le m (rn S c Q fo fs st0):=by
 simp at B;have⟨a,w,z,C⟩:=B;subst C;refine sV a D w ?_ h;rw[AL,z];simp[G,o9]
def vn(d:Nat)(l:T2):SV.dP d (l.map .v)=false:=by induction l with|nil=>rfl|cons a l u=>simp[SV.dP,SV.c_,u]
def uN{α:Type}[bC α](d:Nat)(x:α):bM.c_ d (bx x)=false:=vn d (cells x)
def aat(n:Nat)(dr:X')(fr:S')(q:SW)(fs':Rd)(st:St)(k:IntKind)(u:Nat){ln sz:Nat}{a:cq N α}{i:Int}{f:α->a_ γ}(D:q=⟨d,gd,now,.p (.idxA ln sz),az,dd,[]⟩::l)
 (B:(iz S c n fo fs st0,wanted st.g gd,bY S.N st.g az,sz,ln,bn st.m u)=(some (.ops dr fr q,fs',st),some true,some [.ptr u 0,.v (.int k i)],bC.size α,N,some (bx a)))
 (h:∀x,a.at i=some x->Le ((f x).bind e) (ug S c Q dr fr d (.p (.idxA ln sz)) l fs' dd (cW st d (.ptr u (i.toNat*bC.size α+0))))):Le (((a.at i).bind f).bind e) (rn S c Q fo fs st0):=by
 simp at B;have⟨g,w,z,I,J,C⟩:=B;refine DR g D w ?_ h;intro r b;have⟨x,G,b⟩:=ζg.1 b;have⟨g1,g2,_⟩:=cq.vP G;rw[BV z rfl ?_]
 .omega
 simp[jC,dB,yz,C]
 grind
def Tw{a:cq N α}{i:Int}{o:Nat}{x:α}(B:a.at i=some x){sz:Nat}{ag:X'}{v:V}(c:(cut (cells x) o sz).bind (mk ag)=some v):xo sz ag ((((cells a).map SV.v).drop (i.toNat*bC.size α+o)).take sz)=some (.v v):=by
 have⟨r,d⟩:=CY B;have e1:(((cells a).map SV.v).drop (i.toNat*bC.size α+o)).take sz=(((cells x).drop o).take sz).map SV.v:=by have u:((cells x).drop o).take sz=((cells x++r).drop o).take sz:=(by cases b:cut (cells x) o sz with|none=>grind|some w=>unfold cut at b;dsimp only at b;split at b;have C:sz=0\/o<=(cells x).length:=(by grind);grind;simp_all);rw[u,<-d,pa,drop_drop,map_take,map_drop]
 rw[e1];unfold xo;cases b:cut (cells x) o sz with|none=>grind|some w=>rw[b]at c;unfold cut at b;dsimp only at b;split at b;rename_i z;cases b;simp only[length_map,z];unfold mk at c;(cases ag with|true=>simp only[if_true]at c⊢;cases c;rw[mA]|false=>grind);simp_all
def ZN(n:Nat)(dr:X')(fr:S')(q:SW)(fs':Rd)(st:St)(u:Nat)(a:cq N α)(i:Int)(o:Nat)(x:α)(G:a.at i=some x){sz:Nat}{ag:X'}{v:V}(e:(cut (cells x) o sz).bind (mk ag)=some v)(B:V){m:a_ β}(J:q=⟨d,gd,now,.r (.load sz ag),az,dd,[]⟩::l)
 (D:(iz S c n fo fs st0,wanted st.g gd,bY S.N st.g az,v,bn st.m u,(!dr||now||fK fr [.ptr u 0]))=(some (.ops dr fr q,fs',st),some true,some [.ptr u (i.toNat*bC.size α+o)],B,some (bx a),true))
 (h:Le m (ug S c Q dr fr d (.r (.load sz ag)) l fs' dd (cW st d (.v B)))):Le m (rn S c Q fo fs st0):=by
 simp only[ζc]at D;obtain⟨f,w,z,rfl,C,I⟩:=D;refine sV f J w ?_ h;rw[Cp,z];have b:(!dr||now||fK fr [SV.ptr u (i.toNat*bC.size α+o)])=true:=I;simp only[ζb,b,abv,C,QW];rw[Tw G e];rfl
def QF{N:Nat}(a:cq N α)(i:Int)(y:α)(h:i.toNat<N):cells (a.set i y)=(cells a).take (i.toNat*bC.size α)++cells y++(cells a).drop ((i.toNat+1)*bC.size α):=by
 have key:∀(l:aZ α)(k:Nat),k<l.length->((l.set k y).map (cells)).flatten=(l.map (cells)).flatten.take (k*bC.size α)++cells y++(l.map (cells)).flatten.drop ((k+1)*bC.size α):=by intro l;induction l with|nil=>grind|cons b l u=>intro k h;have w:=gH b;cases k with|zero=>grind|succ k=>simp only[map_cons,flatten_cons];have e1:(k+1)*bC.size α=(cells b).length+k*bC.size α:=Zac;have e2:(k+1+1)*bC.size α=(cells b).length+(k+1)*bC.size α:=Zac;rw[e2,List.drop_length_add_append];grind
 exact key a.l i.toNat (by rw[a.len];omega)
def aac(n:Nat)(dr:X')(fr:S')(q:SW)(fs':Rd)(st:St)(u:Nat)(a:cq N α)(i:Int)(o:Nat)(x:α)(B:a.at i=some x)(y:α)(v:V){sz:Nat}(G:cells y=(cells x).take o++v.cells++(cells x).drop (o+sz)){m:a_ β}(J:q=⟨d,gd,now,.l (.store sz),az,dd,[]⟩::l)
 (D:(iz S c n fo fs st0,wanted st.g gd,bY S.N st.g az,bn st.m u,(!dr||now),v.cells.length,v.cells.all V.one,ble (o+sz) (bC.size α))=(some (.ops dr fr q,fs',st),some true,some [.ptr u (i.toNat*bC.size α+o),.v v],some (bx a),true,sz,true,true))
 (h:Le m (ug S c Q dr fr d (.l (.store sz)) l fs' dd (cW {st with m:=bQ st.m u (bx (a.set i y))} d (.v .undef)))):Le m (rn S c Q fo fs st0):=by
 simp only[ζc]at D;have⟨b,z,C,I,L,O,T,U⟩:=D;refine sV b J z ?_ h;rw[yW,C];have X:=Nat.le_of_ble_eq_true U;have⟨g1,g2,g3⟩:=cq.vP B;have W:i.toNat*bC.size α+o+sz<=((cells a).map SV.v).length:=by rw[length_map,gH];have:(i.toNat+1)*bC.size α<=N*bC.size α:=Nat.mul_le_mul_right _ g2;rw[add_mul,one_mul]at this;show _<=N*bC.size α;omega
 simp only[ζb,L,if_true,n_,I,putCells,O,T,W,and_self,map_some];have⟨r,f⟩:=CY B;have e:((cells a).map SV.v).take (i.toNat*bC.size α+o)++v.cells.map .v++((cells a).map SV.v).drop (i.toNat*bC.size α+o+sz)=(cells (a.set i y)).map SV.v:=by rw[QF a i y g2,G];have hd:(cells a).drop (i.toNat*bC.size α)=cells x++r:=f;have w:=gH x;have e1:(cells a).take (i.toNat*bC.size α+o)=(cells a).take (i.toNat*bC.size α)++(cells x).take o:=(by rw[List.take_add,hd,List.take_append_of_le_length Zaa]);have e2:(cells a).drop (i.toNat*bC.size α+o+sz)=(cells x).drop (o+sz)++(cells a).drop ((i.toNat+1)*bC.size α):=(by have e3:(cells a).drop ((i.toNat+1)*bC.size α)=r:=(by rw[add_mul,one_mul,<-drop_drop,hd,<-w,List.drop_left]);rw[e3,Nat.add_assoc,<-drop_drop,hd,List.drop_append_of_le_length Zaa]);rw[<-map_take,<-map_drop,e1,e2];grind
 rw[e]
end
def WM{α:Type}[bC α]{m:Tb bM}{d:Nat}{x:α}{vs:T2}(h:bn m d=some (bx x)):nL (iW m 8) (.ptr d 0::vs.map .v)=some (.fptr (cells x)::vs):=by
 have a:iW m 8 (.ptr d 0)=some (.fptr (cells x)):=by
  show(match bn m d with
   |some (.box cs)=>match nL (iW m 7) cs with
    |some u=>if 0<=u.length then some (V.fptr (u.drop 0))else none|none=>none
   |_=>none)=_
  rw[h];simp[JV]
 simp[nL,a,JV]
def Z5(n:Nat){fo:Fo}{fs fs':Rd}{st0 st:St}{rs:aZ RV}{e:γ->a_ T2}{r:γ}(svs:So){ys:T2}(B:nL (iW st.m 8) svs=some ys)(h:(iz S c n fo fs st0,lg st rs)=(some (.rt,fs',st),some svs))(D:e r=some ys):
 Le ((some r).bind e) (rn S c (qZ rs) fo fs st0):=by
 simp at h;rw[qb h.1];refine Le.of_eq ?_;simp[rn,qZ,h.2,B]
 grind
abbrev Mo(κ ν:Type):=aZ (κ×ν)
class Key(κ:Type)[bC κ][DecidableEq κ]where
 kk:za
 ok:∀a:κ,qX kk (enc a)=true
 eq:∀a b:κ,yM (enc a) (enc b)=some (decide (a=b))
instance:Key Int where
 kk:=.int .i64
 ok _:=rfl
 eq a b:=by show some (a==b)=some (decide (a=b));rw[show(a==b)=decide (a=b)from Bool.eq_iff_iff.2 Zab]
instance:Key bf where
 kk:=.ints 2
 ok _:=rfl
 eq a b:=by have⟨p,i⟩:=a;have⟨q,j⟩:=b;simp only[yM,lX,i_,YS,map_some,length_cons,if_true,ζa];rw[Bool.eq_iff_iff];simp
section
variable{κ ν:Type}[bC κ][DecidableEq κ][Key κ][bC ν]
def jV(k:κ):Mo κ ν->a_ ν
 |[]=>none|(a,v)::r=>if k=a then some v else jV k r
def ov(m:Mo κ ν)(k:κ)(z:ν):ν:=(jV k m).getD z
def uT(m:Mo κ ν)(k:κ):X':=(jV k m).isSome
def mP(m:Mo κ ν)(k:κ)(v:ν):Mo κ ν:=
 match m with
 |[]=>[(k,v)]|(a,w)::r=>if k=a then(k,v)::r else(a,w)::mP r k v
def oB(m:Mo κ ν):aZ (V×V):=m.map λx=>(enc x.1,enc x.2)
def vu(m:Mo κ ν):bM:=.mp (oB m)
def Gi(k:κ):∀(m:Mo κ ν)(i:Nat),(iT (enc k) (oB m) i).map (Option.map (·.2))=some ((jV k m).map enc)
 |[],i=>rfl|(a,v)::r,i=>by simp only[oB,map_cons,iT,Key.eq,jV];by_cases h:k=a;grind;simp only[h];exact Gi k r (i+1)
def Te(k:κ)(v:ν)(m:Mo κ ν):qY (enc k) (enc v) (oB m)=some (oB (mP m k v)):=by
 unfold qY;have key:∀(m:Mo κ ν)(pre:aZ (V×V))(i:Nat),pre.length=i->(match iT (enc k) (oB m) i with
  |some (some (j,_))=>some ((pre++oB m).set j (enc k,enc v))|some none=>some (pre++oB m++[(enc k,enc v)])|none=>none)=some (pre++oB (mP m k v)):=by
  intro m
  induction m with
  |nil=>simp[oB,iT,mP]|cons x r u=>
   have⟨a,w⟩:=x;intro pre i h;rw[show oB ((a,w)::r)=(enc a,enc w)::oB r from rfl];simp[iT,Key.eq,mP]
   by_cases b:k=a
   .subst b h;simp[oB]
   simp[b];rw[show oB ((a,w)::mP r k v)=(enc a,enc w)::oB (mP r k v)from rfl];have:=u (pre++[(enc a,enc w)]) (i+1) (by simp[h])
   grind
 have:=key m [] 0 rfl;grind
def aaw(n:Nat)(dr:X')(fr:S')(q:SW)(fs':Rd)(st:St)(u:Nat)(mp:Mo κ ν)(k:κ)(z:ν){kk:za}{B:V}{m:a_ β}(G:q=⟨d,gd,now,.r (.lookup kk B false),az,dd,[]⟩::l)
 (D:(iz S c n fo fs st0,wanted st.g gd,bY S.N st.g az,bn st.m u,(!dr||now||fK fr [.mp u,cv k]),B,kk)=(some (.ops dr fr q,fs',st),some true,some [.mp u,cv k],some (vu mp),true,enc z,Key.kk κ))
 (h:Le m (ug S c Q dr fr d (.r (.lookup kk B false)) l fs' dd (cW st d (cv (ov mp k z))))):Le m (rn S c Q fo fs st0):=by
 simp only[ζc]at D;have⟨a,C,I,J,L,O,T⟩:=D;subst O T;refine sV a G C ?_ h;rw[Cp,I];simp only[ζb,L,oN,J,vu,Key.ok];have:=Gi k mp 0;simp[ov]
 cases U:iT (enc k) (oB mp) 0 with
 |none=>grind|some r=>
  rw[U]at this
  cases r with
  |none=>
   cases W:jV k mp with
   |none=>rfl|some w=>grind
  |some w=>
   cases W:jV k mp with
   |none=>grind|some X=>grind
def abp(n:Nat)(dr:X')(fr:S')(q:SW)(fs':Rd)(st:St)(u:Nat)(mp:Mo κ ν)(k:κ)(v:ν){kk:za}{m:a_ β}(D:q=⟨d,gd,now,.l (.mapUp kk),az,dd,[]⟩::l)
 (B:(iz S c n fo fs st0,wanted st.g gd,bY S.N st.g az,bn st.m u,(!dr||now),kk)=(some (.ops dr fr q,fs',st),some true,some [.mp u,cv k,cv v],some (vu mp),true,Key.kk κ))
 (h:Le m (ug S c Q dr fr d (.l (.mapUp kk)) l fs' dd (cW {st with m:=bQ st.m u (vu (mP mp k v))} d (.v .undef)))):Le m (rn S c Q fo fs st0):=by
 simp only[ζc]at B;have⟨a,w,z,C,G,I⟩:=B;subst I;refine sV a D w ?_ h;rw[yW,z];simp[G,n_,C,vu,Key.ok,Te]
end
end
instance{n:Nat}:OfNat Arg n:=⟨.s n⟩
abbrev bI(o:BinOp):K:=.p (.bin (some .int) none o)
abbrev ix(n:Nat):K:=.p (.idxS n)
abbrev ld(n:Nat):K:=.r (.load n false)
abbrev lD(n:Nat):K:=.r (.load n true)
abbrev fa(n:Nat):K:=.p (.fieldAddr n)
abbrev ln:K:=.p .lenSl
abbrev su(n:Nat):K:=.l (.store n)
abbrev Iv(n:Nat)(x:Int):Nat×SV:=(n,iv x)
abbrev Bv(n:Nat)(x:Bool):Nat×SV:=(n,bv x)
abbrev Cv{α:Type}[bC α](n:Nat)(x:α):Nat×SV:=(n,cv x)
abbrev Kv{α:Type}[bC α](n:Nat)(x:α):Nat×SV:=(n,cp x)
abbrev Pv(n:Nat):Nat×SV:=(n,.ptr n 0)
abbrev Ov(n:Nat):Nat×SV:=(n,.own (2000+n))
abbrev Xb{α:Type}[bC α](n:Nat)(x:α):Nat×bM:=(n,bx x)
abbrev Lb{α:Type}[bC α](n:Nat)(x:Sl α):Nat×bM:=(n,cG x)
abbrev on(d:Nat)(k:K)(az:aZ Arg)(dd:aZ Nat):RO:=⟨some d,none,true,k,az,dd,[]⟩
abbrev oz(k:K)(az:aZ Arg)(dd:aZ Nat):RO:=⟨none,none,false,k,az,dd,[]⟩
abbrev oy(k:K)(az:aZ Arg)(dd:aZ Nat):RO:=⟨none,none,true,k,az,dd,[]⟩
attribute [simp] V7 Wm VC
def hG.yH{S:Sys}{T:qN}{f:Y'}{b:X'}(B:T f=none)(a:S.E.keep f=false)(D:S.yH f []=some (.bool b)):
 hG S (dm S T) f (λ_:Unit=>[]) (λr:X'=>[.bool r]) (λ_=>some b) true where
 k:=a
 h _:=by have h:=Hr (az:=[]) B a D;intro r c;cases c;unfold jW;rw[h];exact vT 8 [.bool b]
 s _ _:=rfl
def Wp{α:Type}(m:a_ α)(P:α->Prop):Prop:=∃a,m=some a/\P a
section
variable{α β:Type}{P Q:α->Prop}
def bg(a:α):Wp (some a) P↔P a:=⟨λh=>by have⟨b,e,p⟩:=h;cases e;exact p,λp=>⟨a,rfl,p⟩⟩
def WU:Wp (none:a_ α) P↔False:=⟨λh=>(by have⟨b,e,p⟩:=h;cases e),λh=>False.elim h⟩
def dX{m:a_ β}{k:β->a_ α}:Wp (m.bind k) P↔Wp m λb=>Wp (k b) P:=by cases m with|none=>simp only[Option.bind_none,WU]|some b=>simp only[ζb,bg]
def b9{t:X'}{a b:a_ α}:Wp (bl t a b) P↔(t=true->Wp a P)/\(t=false->Wp b P):=by cases t<;>simp[bl]
def Wp.mono{m:a_ α}(h:Wp m P)(B:∀a,P a->Q a):Wp m Q:=let⟨a,e,p⟩:=h;⟨a,e,B a p⟩
def Wp.and{m:a_ α}(h:Wp m P)(B:Wp m Q):Wp m λa=>P a/\Q a:=by have⟨a,e,p⟩:=h;have⟨b,e2,q⟩:=B;rw[e]at e2;cases e2;exact⟨a,e,p,q⟩
def Wp.eq{m:a_ α}{a:α}(h:Wp m λx=>x=a):m=some a:=by obtain⟨b,e,rfl⟩:=h;exact e
end
section
variable{σ ε ρ:Type}
def eD(step:σ->a_ (Fw σ ε ρ))(s:σ):bS step s=(step s).bind λw=>match w with
 |.n B=>bS step B|.x e=>some (.x e)|.r b=>some (.r b):=by
 have d:∀r,bS step s=some r->((step s).bind λw=>match w with
  |.n B=>bS step B|.x e=>some (.x e)|.r b=>some (.r b))=some r:=by
  intro r h;have⟨k,a⟩:=pN.1 h
  cases k with
  |zero=>simp[kn]at a|succ k=>
   simp only[kn]at a
   cases u:step s with
   |none=>rw[u]at a;cases a|some w=>
    rw[u]at a
    cases w with
    |n B=>exact pN.2 ⟨k,a⟩|x e=>exact a|r b=>exact a
 cases z:bS step s with
 |some r=>exact(d r z).symm|none=>
  cases c:((step s).bind λw=>match w with
  |.n B=>bS step B|.x e=>some (.x e)|.r b=>some (.r b))with
  |none=>rfl|some r=>
   exfalso
   cases u:step s with
   |none=>rw[u]at c;cases c|some w=>
    rw[u]at c;simp only[ζb]at c;have:bS step s=some r:=by cases w with|n B=>have⟨k,a⟩:=pN.1 c;exact pN.2 ⟨k+1,by simp only[kn,u];exact a⟩|x e=>exact pN.2 ⟨1,by simp only[kn,u];exact c⟩|r b=>exact pN.2 ⟨1,by simp only[kn,u];exact c⟩
    rw[z]at this;cases this
def U0(I:σ->Prop)(μ:σ->Nat)(D:ε->Prop)(G:ρ->Prop)(s:σ):Fw σ ε ρ->Prop
 |.n B=>I B/\μ B<μ s|.x e=>D e|.r b=>G b
def Pfw(B:ε->Prop)(D:ρ->Prop):Fw Empty ε ρ->Prop
 |.x e=>B e|.r b=>D b
def R8{step:σ->a_ (Fw σ ε ρ)}(I:σ->Prop)(μ:σ->Nat)(B:ε->Prop)(D:ρ->Prop)(h:∀s,I s->Wp (step s) (U0 I μ B D s)){s:σ}(G:I s):Wp (bS step s) (Pfw B D):=by
 have key:∀n s,μ s<=n->I s->Wp (bS step s) (Pfw B D):=by
  intro n
  induction n with
  |zero=>intro s C hi;have⟨w,u,a⟩:=h s hi;rw[eD,u];cases w with|n z=>exact absurd a.2 Zaa|x e=>exact⟨_,rfl,a⟩|r b=>exact⟨_,rfl,a⟩
  |succ n J=>intro s C hi;have⟨w,u,a⟩:=h s hi;rw[eD,u];cases w with|n z=>exact J z (by have:=a.2;omega) a.1|x e=>exact⟨_,rfl,a⟩|r b=>exact⟨_,rfl,a⟩
 exact key (μ s) s (Nat.le_refl _) G
def fJ{γ:Type}{step:σ->a_ (Fw σ ε ρ)}{fx:ε->a_ γ}{fr:ρ->a_ γ}{P:γ->Prop}(I:σ->Prop)(μ:σ->Nat){s:σ}(B:I s)
 (h:∀s,I s->Wp (step s) (U0 I μ (λe=>Wp (fx e) P) (λb=>Wp (fr b) P) s)):Wp ((bS step s).bind (Fw.elim fx fr)) P:=by
 rw[dX];refine(R8 I μ _ _ h B).mono ?_;intro w u
 cases w with
 |n a=>cases a|x e=>exact u|r b=>exact u
end
def Gp{β γ δ:Type}{e:γ->a_ β}{m:a_ δ}{f:δ->a_ γ}{L:a_ β}(h:∀x,m=some x->Le ((f x).bind e) L):Le ((m.bind f).bind e) L:=by cases m with|none=>exact Le.none _|some x=>exact h x rfl
section
variable{S:Sys}{c:cm}{β:Type}{Q:Out×St->a_ β}{fo:Fo}{fs:Rd}{st0:St}{l:SW}{d:a_ Nat}{now:X'}{az:R0}{dd:S'}
def Le.get{β:Type}{r:β}{L:a_ β}(h:Le (some r) L):L=some r:=h r rfl
def Kt{n:Nat}{fo fo':Fo}{fs fs':Rd}{st:St}(A:X'->St){t:X'}{m:a_ β}(B:t=true)(h:iz S c n fo fs st=some (fo',fs',A t))(D:Le m (rn S c Q fo' fs' (A true))):Le m (rn S c Q fo fs st):=by rw[qb h,B];exact D
def Kf{n:Nat}{fo fo':Fo}{fs fs':Rd}{st:St}(A:X'->St){t:X'}{m:a_ β}(B:t=false)(h:iz S c n fo fs st=some (fo',fs',A t))(D:Le m (rn S c Q fo' fs' (A false))):Le m (rn S c Q fo fs st):=by rw[qb h,B];exact D
def S9{α:Type}[bC α]{s:Sl α}{i:Int}{x:α}{r:β}{L:a_ β}(B:idx s i=some x)(h:Le (((idx s i).bind λ_=>some r).bind some) L):Le (some r) L:=by rw[B]at h;exact h
def Kyl{n:Nat}{q:SW}{fs':Rd}{st:St}{id:Nat}{vs:So}{xs:T2}{B:T'}{m:a_ β}
 (D:iz S c n fo fs st0=some (.ops false [] q,fs',st))(G:q=⟨d,none,now,.c,az,dd,[]⟩::l)(J:bY S.N st.g az=some (.yl id::vs))(U:dB vs=some xs)(W:st.want=xs::B)(hi:id=st.yid)
 (h:Le m (rn S c Q (.ops false [] l) fs' (qM dd (cW {st with want:=B} d (.v (.bool (st.more|| !B.isEmpty))))))):Le m (rn S c Q fo fs st0):=by
 refine UU D G rfl ?_ h;unfold f_;simp only[wanted,gz,J,U,W,hi,if_true,and_self,Bool.false_eq_true,if_false]
def CG(a:RC)(fs:Rd)(st:St):rn S c Q (.rc (.loop a)) fs st=(pW (cR S c a) st).bind (GG (nY S c Q fs) (nW S c Q fs) (λst=>Q (.ret,st))):=by show lz S c Q (.loop a) fs st=_;unfold lz;rw[Er];rfl
def Xr{f:St->a_ (Out×St)}{st st':St}(h:f st=some (.norm,st')):pW f st=pW f st':=by
 have key:∀r,pW f st=some r↔pW f st'=some r:=λr=>by constructor;intro b;have⟨k,a⟩:=oq.1 b;(cases k with|zero=>simp[jZ]at a|succ k=>simp only[jZ,h]at a;exact oq.2 ⟨k,a⟩);intro b;have⟨k,a⟩:=oq.1 b;exact oq.2 ⟨k+1,by simp only[jZ,h];exact a⟩
 cases u:pW f st with
 |none=>cases w:pW f st' with|none=>rfl|some r=>rw[(key r).2 w]at u;cases u
 |some r=>rw[(key r).1 u]
def Mp{f:St->a_ (Out×St)}{st st':St}{o:Out}(h:f st=some (o,st'))(B:o≠.norm):pW f st=some (o,st'):=by refine oq.2 ⟨1,?_⟩;cases o with|norm=>exact absurd rfl B|exit k=>simp only[jZ,h]|ret=>simp only[jZ,h]
def HR{a:RC}{fs:Rd}{st st':St}(h:rn S c some (.rc a) [] st=some (.norm,st')):rn S c Q (.rc (.loop a)) fs st=rn S c Q (.rc (.loop a)) fs st':=by rw[CG,CG,Xr (by rw[CO];exact h)]
def H6{a:RC}{fs:Rd}{st st':St}{k:Nat}(h:rn S c some (.rc a) [] st=some (.exit k,st')):rn S c Q (.rc (.loop a)) fs st=rn S c Q (.ex k) fs st':=by rw[CG,Mp (by rw[CO];exact h) Zab];rfl
def HK{a:RC}{fs:Rd}{st st':St}(h:rn S c some (.rc a) [] st=some (.ret,st')):rn S c Q (.rc (.loop a)) fs st=Q (.ret,st'):=by rw[CG,Mp (by rw[CO];exact h) Zab];rfl
end
def Qi:Out×St->a_ Unit
 |(.exit _,_)=>none|(_,st)=>if st.want.isEmpty then some ()else none
def Sys.bare(S:Sys):Sys:=⟨S.E,S.N,λ_ _ _=>none,λ_ _=>none,λ_=>none⟩
def oR:cm:=λ_ _ _=>none
def vX(B rest:T')(more:X'):Prop:=more=true/\B=rest\/more=false/\B≠[]/\∃r,rest=B++r
def Tq(S:Sys){f:Y'}{fi:FI}{nm:Y'->a_ Nat}{rf:RF}(G:S.E.ft f=some fi)(W:∀g s,nm g=some s->S.N s=g)(e:yx S.E nm fi rf){a b:T2}{xs:T'}(D:a.length+1+b.length<=rf.na)(U:rf.rs=[])
 (h:∀B more,vX B xs more->∀yid,rn S.bare oR Qi (.rc rf.body) [] ⟨wH 0 (a.map .v++.yl yid::b.map .v),[],[],B,more,yid⟩=some ()):eS S f a b xs:=by
 have k:eS S.bare f a b xs:=MB (S:=S.bare) (c:=oR) (fi:=fi) (nm:=nm) (rf:=rf) (λ_ _ h=>by cases h) (λ_ _ _ _ _ h=>by simp[oR]at h) (λ_ _ _ _ h=>by simp[Sys.bare]at h) G W e D U (λB more w yid=>by
  have d:=h B more w yid;change lz S.bare oR Qi rf.body [] _=some ()at d;rw[qj]at d;have⟨⟨o,st'⟩,z,u⟩:=ζg.1 d;refine⟨o,st',z,?_,?_,rfl⟩
  .rintro id rfl;simp[Qi]at u
  cases o<;>simp[Qi]at u<;>exact u)
 intro B more w yid J y Z C I H d z u L O;exact k B more w yid J ⟨y.xY,y.yield⟩ Z C I H d z u L O
open Classical in
noncomputable def zZ(P:Y'->T2->T2->T'->Prop)(f:Y')(a b:T2):a_ T':=if h:∃u,P f a b u then some (Classical.choose h)else none
def EW{P:Y'->T2->T2->T'->Prop}{f:Y'}{a b:T2}{xs:T'}(h:P f a b xs)(d:∀ys,P f a b ys->ys=xs):zZ P f a b=some xs:=by have c:∃xs,P f a b xs:=⟨xs,h⟩;unfold zZ;rw[dif_pos c,d _ (choose_spec c)]
def Oj{P:Y'->T2->T2->T'->Prop}{f:Y'}{a b:T2}{xs:T'}(h:zZ P f a b=some xs):P f a b xs:=by
 unfold zZ at h;split at h;next c=>cases h;exact choose_spec c
 cases h
def Y4{E:Env}{nm:Y'->a_ Nat}{f:Y'}{rf:RF}
 (h:((E.ft f).bind λfi=>(bW ⟨E,nm,fi.ntmps⟩ false fi.body).bind λc=>(fi.results.mapM (CM E)).bind λrs=>some (c,rs,fi.ntmps))=some (erase rf.body,rf.rs,rf.na)):∃fi,E.ft f=some fi/\yx E nm fi rf:=by
 have⟨fi,a,w⟩:=ζg.1 h;have⟨c,z,B⟩:=ζg.1 w;have⟨rs,C,u⟩:=ζg.1 B;simp only[ζa,ζc]at u;obtain⟨rfl,rfl,D⟩:=u;exact⟨fi,a,z,C,D.symm⟩
def FR.qE{H:bp}{Z Z':Nat->Prop}{x y z:V}(h:FR H Z x z)(k:FR H Z' y z):x=y:=by have⟨n,u⟩:=BM x;have⟨m,w⟩:=BM y;have e1:=h.borrow (max n m) (z6 (Nat.le_max_left _ _) u);have e2:=k.borrow (max n m) (z6 (Nat.le_max_right _ _) w);rw[e1]at e2;exact Option.some.inj e2
open Classical in
noncomputable def zu(E:Env)(f:Y')(az:T2):a_ V:=if h:∃y,BF E f az y then some (Classical.choose h)else none
def HW{E:Env}{f:Y'}{az:T2}{y:V}(h:zu E f az=some y):BF E f az y:=by
 unfold zu at h;split at h;next a=>cases h;exact choose_spec a
 cases h
def BT{E:Env}{f:Y'}{az:T2}{y:V}(h:BF E f az y):zu E f az=some y:=by have a:∃y,BF E f az y:=⟨y,h⟩;unfold zu;rw[dif_pos a];have⟨n,z,H,Z,k1,k2,_⟩:=h;have⟨u,w,H',Z',k3,k4,_⟩:=choose_spec a;have e1:=(n9 E (Nat.le_max_left n u)).go _ _ _ _ k1;have e2:=(n9 E (Nat.le_max_right n u)).go _ _ _ _ k3;rw[e1]at e2;cases e2;rw[FR.qE k4 k2]
def LQ{E:Env}{f:Y'}{az:T2}{y:V}(B:V.scalar y=true)(h:∃n H',run E n (.fn f) az []=some (y,H')):BF E f az y:=by have⟨n,H',h⟩:=h;exact⟨n,y,H',λ_=>False,h,.same _ (kE B),λ_ h=>h.elim,⟨λ_ _ _ h=>h.elim⟩⟩
end Go.VE
