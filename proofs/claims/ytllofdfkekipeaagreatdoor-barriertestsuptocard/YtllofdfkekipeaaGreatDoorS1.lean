/-
 Plain values and the steps of a certificate.
-/
import Derived.KernelRfl
import Derived.Test.YtllofdfkekipeaaGreatDoorN2
set_option linter.all false
noncomputable section
open Classical(choose_spec)
open List(drop_drop flatten_cons length_cons length_map length_nil map_cons map_drop map_take range' replicate)
open Option(map_some)
open Nat(add_mul ble one_mul)
namespace Go.VE
variable[bT]
inductive Sl(α:Type)where
 |nil|emp|row(l:List α)|part(l:List α)
 deriving Inhabited
abbrev Zg:=Sl Int
abbrev Zb:=Sl (Sl Int)
def Sl.l{α:Type}:Sl α->aY α
 |.nil|.emp=>[]|.row l|.part l=>l
def Sl.k{α:Type}:Sl α->Fl
 |.nil=>.nil|.emp=>.emp|.row _=>.row|.part _=>.part
class br(α:Type)where
 cells:α->List V
 agg:Bool
 size:Nat
 len:∀a,(cells a).length=size
 good:∀a,V.cr (cells a)=true
 one:∀a,(cells a).all V.one=true
 plain:agg=false->size=1
def cells{α:Type}[br α](a:α):Zu:=br.cells a
def enc{α:Type}[br α](a:α):V:=if br.agg α then .agg (cells a)else(cells a).headD .undef
def rows{α:Type}[br α](l:aY α):Zt:=l.map cells
def ck{α:Type}[br α](s:Sl α):V:=ov s.k (br.size α) (rows s.l)
instance:br Int where
 cells n:=[.int .i64 n]
 agg:=false
 size:=1
 len _:=rfl
 good _:=rfl
 one _:=rfl
 plain _:=rfl
instance:br Zl where
 cells b:=[.bool b]
 agg:=false
 size:=1
 len _:=rfl
 good _:=rfl
 one _:=rfl
 plain _:=rfl
instance:br Zq where
 cells s:=[.str s]
 agg:=false
 size:=1
 len _:=rfl
 good _:=rfl
 one _:=rfl
 plain _:=rfl
structure a_ where
 proc:Int
 index:Int
 deriving DecidableEq,Inhabited
instance:br a_ where
 cells x:=[.int .i64 x.proc,.int .i64 x.index]
 agg:=true
 size:=2
 len _:=rfl
 good _:=rfl
 one _:=rfl
 plain h:=by cases h
@[simp] def WR(n:Int):enc n=.int .i64 n:=rfl
@[simp] def WC(n:Zl):enc n=.bool n:=rfl
@[simp] def WS(n:Zq):enc n=.str n:=rfl
@[simp] def V_(n:Int):cells n=[.int .i64 n]:=rfl
@[simp] def Vr(n:Zl):cells n=[.bool n]:=rfl
@[simp] def Wb(n:Zq):cells n=[.str n]:=rfl
@[simp] def WE(n:a_):cells n=[.int .i64 n.proc,.int .i64 n.index]:=rfl
@[simp] def UD(n:a_):enc n=.agg [.int .i64 n.proc,.int .i64 n.index]:=rfl
section
variable{α:Type}[br α]
def gI(l:aY α):(rows l).length=l.length:=by simp[rows]
def idx(s:Sl α)(i:Int):aZ α:=if 0<=i then s.l[i.toNat]?else none
def Pe{N:Nat->Zk}(s:Sl α)(k:Zs)(i:Int){n:Nat}(B:n=br.size α):bJ N (.idxS n) [ck s,.int k i]=(idx s i).map λx=>.fptr (cells x):=by subst B;unfold idx ck;simp only[bJ,lu];by_cases h:i<0;rw[if_pos h,if_neg Za];rfl;rw[if_neg h,if_pos Za];cases s<;>simp[Sl.k,Sl.l,ov,rows,Function.comp_def]
def Em{N:Nat->Zk}(s:Sl α):bJ N .lenSl [ck s]=some (.int .i64 s.l.length):=by cases s<;>simp[bJ,mH,ck,Sl.k,Sl.l,ov,gI]
end
section
variable{S:Sys}{c:bZ}
end
end Go.VE
namespace Go.VE
variable[bT]
section
variable{S:Sys}{c:bZ}
def isSlice:uG->Zl
 |.slice ..=>true|_=>false
def Qe(dr:Zl)(fr:Zv)(dst:aZ Nat)(now:Zl)(p:uG)(az:Z4)(st:St)(h:isSlice p=false):
 fG S c dr fr ⟨dst,none,now,.p p,az,[],[]⟩ st=(bV S.N st.g az).bind λsvs=>(jy S.N st.m p svs).bind λx=>some (c6 st dst x):=by
 unfold fG lN;have u:fQ S.N st.g ⟨dst,none,now,.p p,az,[],[]⟩=none:=by unfold fQ;grind
 simp[wanted,u]
 cases z:bV S.N st.g az with
 |none=>rfl|some svs=>simp;cases p<;>first|(simp[isSlice]at h;done)|(cases w:jy S.N st.m _ svs<;>simp[w])
def Jl(N:Nat->Zk)(m:Tb bE)(p:uG)(svs:Zw)(xs:Zu)(h:di svs=some xs):jy N m p svs=(bJ N p xs).bind λx=>some (.v x):=by unfold jy;rw[h];dsimp only;cases bJ N p xs<;>rfl
def xJ(dr:Zl)(fr:Zv)(dst:aZ Nat)(now:Zl)(q:IL)(az:Z4)(st:St):
 fG S c dr fr ⟨dst,none,now,.r q,az,[],[]⟩ st=(bV S.N st.g az).bind λsvs=>if !dr||now||eH fr svs then(mo st.m q svs).bind λx=>some (c6 st dst x)else none:=by
 unfold fG lN;have u:fQ S.N st.g ⟨dst,none,now,.r q,az,[],[]⟩=none:=rfl;simp[wanted,u]
 cases w:bV S.N st.g az with
 |none=>rfl|some svs=>
  simp;split
  .cases z:mo st.m q svs<;>simp
  rfl
def vW(dr:Zl)(fr:Zv)(d:Nat)(now:Zl)(q:Mx)(az:Z4)(st:St):
 fG S c dr fr ⟨some d,none,now,.a q,az,[],[]⟩ st=(bV S.N st.g az).bind λsvs=>if st.new d then(mI st.m q svs d).bind λr=>some {st with g:=bH st.g d r.2,m:=bH st.m d r.1}else none:=by
 unfold fG lN;have u:fQ S.N st.g ⟨some d,none,now,.a q,az,[],[]⟩=none:=rfl;simp[wanted,u]
 cases w:bV S.N st.g az with
 |none=>rfl|some svs=>
  simp;split
  .cases z:mI st.m q svs d<;>simp[c6]
  rfl
def uQ(dr:Zl)(fr:Zv)(dst:aZ Nat)(now:Zl)(q:IJ)(az:Z4)(st:St):
 fG S c dr fr ⟨dst,none,now,.l q,az,[],[]⟩ st=(bV S.N st.g az).bind λsvs=>if !dr||now then(mw st dst q svs).bind λr=>some (c6 r.2 dst r.1)else none:=by
 unfold fG lN;have u:fQ S.N st.g ⟨dst,none,now,.l q,az,[],[]⟩=none:=rfl;simp[wanted,u]
 cases w:bV S.N st.g az with
 |none=>rfl|some svs=>
  simp;split
  .cases z:mw st dst q svs<;>simp
  rfl
def oB:Zw->aZ (Zk×Zw)
 |.clo f a b::vs=>some (f,a++vs++b)|.v (.clo f a b)::vs=>some (f,a.map .v++vs++b.map .v)|_=>none
def Ce(dr:Zl)(fr:Zv)(dst:aZ Nat)(now:Zl)(az:Z4)(st:St)(svs:Zw)(f:Zk)(args:Zw)(B:bV S.N st.g az=some svs)(hc:oB svs=some (f,args)):
 fG S c dr fr ⟨dst,none,now,.c,az,[],[]⟩ st=(gj S c dst dr (!dr||now) (gw st.m fr) f args st).bind λr=>some (c6 r.2 dst r.1):=by
 unfold fG lN;unfold oB at hc;split at hc
 .obtain⟨rfl,rfl⟩:=hc;simp[wanted,fQ,B];cases gj S c dst dr _ _ _ _ st<;>simp
 .obtain⟨rfl,rfl⟩:=hc;simp[wanted,fQ,B];cases gj S c dst dr _ _ _ _ st<;>simp
 grind
def PZ{β:Type}(S:Sys)(c:bZ)(fr:Zv)(l:Zy)(k:St->aZ β):St->aZ β:=λst=>(mY S c false fr l st).bind k
def PN{β:Type}(S:Sys)(c:bZ)(fr:Zv)(l:Zy)(k:St->aZ β):St->aZ β:=λst=>(mY S c true fr l st).bind k
def Ud{β:Type}(S:Sys)(c:bZ)(fr dd:Zv)(l:Zy)(k:St->aZ β):St->aZ β:=λst=>PZ S c fr l k (oZ dd st)
def TT{β:Type}(S:Sys)(c:bZ)(fr dd:Zv)(l:Zy)(k:St->aZ β):St->aZ β:=λst=>PN S c fr l k (oZ dd st)
@[congr] def VR{β:Type}{fr:Zv}{l:Zy}{k:St->aZ β}{st st':St}(h:st=st'):PZ S c fr l k st=PZ S c fr l k st':=by rw[h]
@[congr] def VG{β:Type}{fr B:Zv}{l:Zy}{k:St->aZ β}{st st':St}(G:fr=B)(h:st=st'):PN S c fr l k st=PN S c B l k st':=Ze
@[congr] def Vj{β:Type}{fr dd:Zv}{l:Zy}{k:St->aZ β}{st st':St}(h:st=st'):Ud S c fr dd l k st=Ud S c fr dd l k st':=by rw[h]
@[congr] def Vv{β:Type}{fr B dd:Zv}{l:Zy}{k:St->aZ β}{st st':St}(G:fr=B)(h:st=st'):TT S c fr dd l k st=TT S c B dd l k st':=Ze
@[congr] def V6{dr:Zl}{fr:Zv}{o:RO}{st st':St}(h:st=st'):fG S c dr fr o st=fG S c dr fr o st':=by rw[h]
end
section
variable{S:Sys}{c:bZ}(dr:Zl)(fr:Zv)(dst:aZ Nat)(now:Zl)(az:Z4)(st:St)
end
inductive Fm where
 |seq(b:RC)|blk(id:Nat)|gst(x:Gh)
abbrev Z3:=aY Fm
section
variable(S:Sys)(c:bZ){β:Type}(Q:Out×St->aZ β)
def runK:Z3->Out×St->aZ β
 |[],r=>Q r|.seq b::fs,(.norm,st)=>(cA S c b st).bind (runK fs)|.seq _::fs,r=>runK fs r|.blk id::fs,(.exit k,st)=>if k=id then runK fs (.norm,st)else runK fs (.exit k,st)|.blk _::fs,r=>runK fs r|.gst x::fs,(.norm,st)=>(ghost x st).bind λst=>runK fs (.norm,st)|.gst _::fs,r=>runK fs r
def go(a:RC)(fs:Z3)(st:St):aZ β:=(cA S c a st).bind (runK S c Q fs)
def Qx(fs:Z3):St->aZ β:=λst=>runK S c Q fs (.norm,st)
def bp{α:Type}(t:Zl)(a b:α):α:=if t then a else b
end
@[congr] def V4{α:Type}{t B:Zl}{a b a' G:α}(h:t=B)(J:B=true->a=a')(O:B=false->b=G):bp t a b=bp B a' G:=by subst h;cases t;exact O rfl;exact J rfl
section
variable{S:Sys}{c:bZ}{β:Type}{Q:Out×St->aZ β}
@[congr] def go_congr{a:RC}{fs:Z3}{st st':St}(h:st=st'):go S c Q a fs st=go S c Q a fs st':=by rw[h]
@[congr] def U0{fs:Z3}{st st':St}(h:st=st'):Qx S c Q fs st=Qx S c Q fs st':=by rw[h]
@[congr] def VV{fs:Z3}{r B:Out×St}(h:r=B):runK S c Q fs r=runK S c Q fs B:=by rw[h]
def GC(a:RC)(st:St):(cA S c a st).bind Q=go S c Q a [] st:=by simp only[go];cases cA S c a st<;>rfl
inductive Fw(ν ε ρ:Type)where
 |n(a:ν)|x(e:ε)|r(b:ρ)
def jm{σ ε ρ:Type}(step:σ->aZ (Fw σ ε ρ)):Nat->σ->aZ (Fw Empty ε ρ)
 |0,_=>none|k+1,s=>match step s with
  |some (.n B)=>jm step k B|some (.x e)=>some (.x e)|some (.r b)=>some (.r b)|none=>none
def wU{σ ε ρ:Type}{step:σ->aZ (Fw σ ε ρ)}:∀{k B:Nat}{s:σ}{r:Fw Empty ε ρ},k<=B->jm step k s=some r->jm step B s=some r
 |0,_,_,_,_,h=>by simp[jm]at h|k+1,0,_,_,hk,_=>Za|k+1,B+1,s,r,hk,h=>by simp only[jm]at h⊢;split at h;exact wU (Nat.le_of_succ_le_succ hk) h;exact h;exact h;simp at h
open Classical in
def bM{σ ε ρ:Type}(step:σ->aZ (Fw σ ε ρ))(s:σ):aZ (Fw Empty ε ρ):=if h:∃k r,jm step k s=some r then some (Classical.choose (choose_spec h))else none
def nQ{σ ε ρ:Type}{step:σ->aZ (Fw σ ε ρ)}{s:σ}{r:Fw Empty ε ρ}:bM step s=some r↔∃k,jm step k s=some r:=by
 unfold bM;constructor;intro h;split at h;next u=>simp only[ζa]at h;exact⟨_,by rw[<-h];exact choose_spec (choose_spec u)⟩
 simp at h;rintro⟨k,a⟩;have u:∃k r,jm step k s=some r:=⟨k,r,a⟩;rw[dif_pos u];have z:=choose_spec (choose_spec u);have B:=wU (Nat.le_max_left (Classical.choose u) k) z;have w:=wU (Nat.le_max_right (Classical.choose u) k) a;rw[B]at w;exact w
def Fw.out{ν ε ρ:Type}(B:ν->St)(eε:ε->Nat×St)(eρ:ρ->St):Fw ν ε ρ->Out×St
 |.n a=>(.norm,B a)|.x e=>(.exit (eε e).1,(eε e).2)|.r b=>(.ret,eρ b)
def Fw.elim{ε ρ γ:Type}(B:ε->γ)(fr:ρ->γ):Fw Empty ε ρ->γ
 |.x e=>B e|.r b=>fr b
end
section
variable{α:Type}[br α]
def EI(s:Sl α):V.one (ck s)=true:=by cases s<;>rfl
def MS(l:aY α):V.mS (rows l)=true:=by induction l with|nil=>rfl|cons a l u=>simp only[rows,map_cons,V.mS,ζh];exact⟨br.good a,u⟩
def KR(s:Sl α):V.good (ck s)=true:=by cases s<;>simp only[ck,Sl.k,ov,V.good]<;>exact MS _
instance:br (Sl α)where
 cells s:=[ck s]
 agg:=false
 size:=1
 len _:=rfl
 good s:=by simp only[V.cr,KR,Bool.and_self]
 one s:=by simp[EI]
 plain _:=rfl
end
section
variable{S:Sys}{c:bZ}
def L7(x:aZ SV)(b:Zl)(y z:aZ St):aZ St:=
 match x with
 |some (.v (.bool t))=>bp (t==b) y z|some (.v _)=>z|_=>none
@[congr] def Ur{x B:aZ SV}{b:Zl}{y z:aZ St}(h:x=B):L7 x b y z=L7 B b y z:=by rw[h]
def QL{β:Type}(x:aZ SV)(y z:aZ β):aZ β:=
 match x with
 |some (.v (.bool t))=>bp t y z|_=>none
@[congr] def U4{β:Type}{x B:aZ SV}{y z:aZ β}(h:x=B):QL x y z=QL B y z:=by rw[h]
def nj(c:bZ)(f:Zk)(az:Zu):aZ Zu:=(c f (az.map .v) []).bind λr=>cV r.2 8 r.1
def Nc(now:Zl)(args:Zw)(ok:Zl)(st:St)(ys:Zu):aZ (SV×St):=if(result ys).scalar||ok then some (.v (result ys),st)else if now then(rowsOf args).map λds=>(.v (result ys),{st with m:=o7 ds st.m})else none
def Ry(dst:aZ Nat)(dr now:Zl)(old:Zw->Zl)(f:Zk)(args:Zw)(st:St)(a:S.E.keep f=false):
 gj S c dst dr now old f args st=(cV st.m 8 args).bind λaz=>if now||old args then(nj c f az).bind (Nc now args (di args).isSome st)else none:=by
 unfold gj nj;simp only[a,Bool.false_eq_true,if_false]
 cases cV st.m 8 args with
 |none=>rfl|some az=>
  simp only[ζb];split
  .cases c f (az.map .v) []with
   |none=>rfl|some r=>have⟨rs,m'⟩:=r;simp only[ζb];cases cV m' 8 rs<;>rfl
  rfl
end
section
variable{S:Sys}{T:pR}
def HY(rs:aY RV):Out×St->aZ Zu
 |(.exit _,_)=>none|(_,st)=>(kR st rs).bind (cV st.m 8)
def O8{f:Zk}{rf:RF}(B:T f=some rf)(az:Zu)(G:az.length<=rf.na):nj (cW S T) f az=go S (cW S T) (HY rf.rs) rf.body [] (start (az.map .v) []):=by unfold nj;rw[q_ B];unfold mJ;rw[if_pos (by simpa using G),<-GC];cases h:cA S (cW S T) rf.body (start (az.map .v) [])with|none=>rfl|some r=>have⟨o,st⟩:=r;cases o<;>simp only[ζb,HY]<;>(try rfl)<;>(cases kR st rf.rs<;>rfl)
end
end Go.VE
namespace Go.VE
variable[bT]
variable{N:Nat->Zk}
def FK(o:Nat)(cs:Zu):bJ N (.fieldAddr o) [.fptr cs]=if o<=cs.length then some (.fptr (cs.drop o))else none:=rfl
def kD(s:Zq)(n:Int):Z6:=if 0<=n then(s[n.toNat]?).map λb=>(b.toNat:Int)else none
def MN(s:Zq)(k:Zs)(n:Int):bJ N .idxStr [.str s,.int k n]=(kD s n).bind λx=>some (.int .u8 x):=by simp only[bJ,kD];split;cases s[n.toNat]?<;>rfl;rfl
def Pb(z:Zu)(pl:aY (Nat×Nat))(vs:Zu):bJ N (.build z pl) vs=(kn z pl vs).bind λcs=>some (.agg cs):=by simp only[bJ];cases kn z pl vs<;>rfl
section
variable{α:Type}[br α]
def DW(s:Sl α)(k:Zs)(i:Int)(n:Nat)(B:n=br.size α):bJ N (.idxS n) [ck s,.int k i]=(idx s i).bind λx=>some (.fptr (cells x)):=by rw[Pe s k i B];cases idx s i<;>rfl
def HI(s:Sl α):bJ N .lenSl [ck s]=some (.int .i64 s.l.length):=Em s
def Sl.isNil{α:Type}(s:Sl α):aZ Zl:=
 match s with
 |.nil=>some true|.emp=>none|_=>some false
def Of(q:aZ Nat)(s:Sl α):bJ N (.bin (some .slice) q .eql) [ck s,.bG]=s.isNil.bind λt=>some (.bool t):=by cases s<;>rfl
def fN(s:Sl α)(B G:Z6):aZ (Sl α):=
 (dR s.l.length B G).map λ(l,h)=>match s with
  |.nil=>.nil|.emp=>.emp|.row x=>.part ((x.take h).drop l)|.part x=>.part ((x.take h).drop l)
def Lp(s:Sl α)(B G:Z6)(n:Nat)(J:n=br.size α):g_ n (ck s) B G=(fN s B G).bind λx=>some (ck x):=by subst J;cases s with|nil=>simp only[ck,Sl.k,ov,g_,fN,Sl.l,length_nil];cases dR 0 B G<;>rfl|emp=>simp only[ck,Sl.k,ov,g_,fN,Sl.l,length_nil];cases dR 0 B G<;>rfl|row l=>simp only[ck,Sl.k,ov,g_,fN,Sl.l,if_true,gI];cases dR l.length B G<;>simp[rows,map_take,map_drop]|part l=>simp only[ck,Sl.k,ov,g_,fN,Sl.l,if_true,gI];cases dR l.length B G<;>simp[rows,map_take,map_drop]
end
def MK(m:Tb bE)(n:Nat)(a:Zl)(cs:Zu):mo m (.load n a) [.v (.fptr cs)]=(cut cs 0 n).bind λr=>(mk a r).bind λx=>some (.v x):=by simp only[mo,ec];cases cut cs 0 n with|none=>rfl|some r=>simp only[ζb];cases mk a r<;>rfl
end Go.VE
namespace Go.VE
variable[bT]
section
variable{α:Type}[br α]
def cB(s:Sl α):bE:=.sl s.k (br.size α) (rows s.l)
def Sl.jc(s:Sl α)(i:Int):aZ Nat:=if 0<=i/\i.toNat<s.l.length then some i.toNat else none
def Sl.get(s:Sl α)(i:Nat):aZ α:=s.l[i]?
def Sl.put(s:Sl α)(i:Nat)(x:α):aZ (Sl α):=if i<s.l.length then some (match s with|.row l=>.row (l.set i x)|.part l=>.part (l.set i x)|s=>s)else none
def fP(s:Sl α)(x:α):aZ (Sl α):=if s.l.length+1<=2147483648 then some (.row (s.l++[x]))else none
def od(n:Int)(z:α):aZ (Sl α):=if 0<=n/\n<=2147483648 then some (.row (replicate n.toNat z))else none
end
section
variable{α:Type}[br α]{N:Nat->Zk}{m:Tb bE}
def JE(n d:Nat)(o:aZ bE)(i:Int):aZ SV:=
 match o with
 |some (.sl k es u)=>if cD k/\es=n/\0<=i/\i.toNat<u.length then some (.el d i.toNat 0)else none|_=>none
def Rb(n d:Nat)(k:Zs)(i:Int):jy N m (.idxS n) [.own d,.v (.int k i)]=JE n d (bh m d) i:=by simp[jy,di,wk,JE];grind
def SA(n d:Nat)(s:Sl α)(i:Int)(h:n=br.size α):JE n d (some (cB s)) i=(s.jc i).bind λj=>some (.el d j 0):=by simp[JE,cB,gI,Sl.jc];cases s with|nil=>simp[Sl.l,cD]|emp=>simp[Sl.l,cD]|row l=>simp[Sl.k,Sl.l,cD];grind|part l=>simp[Sl.k,Sl.l,cD];grind
def Lo(o:aZ bE):aZ SV:=
 match o with
 |some (.sl _ _ u)=>some (.v (.int .i64 u.length))|_=>none
def Pz(d:Nat):jy N m .lenSl [.own d]=Lo (bh m d):=by simp[jy,di,wk,Lo];grind
def S3(s:Sl α):Lo (some (cB s))=some (.v (.int .i64 s.l.length)):=by simp[Lo,cB,gI]
def Qm(n:Nat)(a:Zl)(o:Nat)(ob:aZ bE):aZ SV:=
 match ob with
 |some (.box u)=>tN n a ((u.drop o).take n)|_=>none
def WD(n:Nat)(a:Zl)(d o:Nat):mo m (.load n a) [.ptr d o]=Qm n a o (bh m d):=by rfl
def Nh(n:Nat)(a:Zl)(o:Nat)(cs:Zw):Qm n a o (some (.box cs))=tN n a ((cs.drop o).take n):=rfl
def GJ(n:Nat)(a:Zl)(i o:Nat)(ob:aZ bE):aZ SV:=
 match ob with
 |some (.sl _ _ u)=>match u[i]?with
  |some w=>((cut w o n).bind (mk a)).map .v|none=>none
 |_=>none
def VL(n:Nat)(a:Zl)(d i o:Nat):mo m (.load n a) [.el d i o]=GJ n a i o (bh m d):=by rfl
def Mp(n:Nat)(a:Zl)(i o:Nat)(s:Sl α):GJ n a i o (some (cB s))=(s.get i).bind λx=>(cut (cells x) o n).bind λr=>(mk a r).bind λy=>some (.v y):=by simp only[GJ,cB,Sl.get,rows,List.getElem?_map];cases s.l[i]?with|none=>rfl|some x=>simp only[map_some,ζb];cases cut (cells x) o n with|none=>rfl|some r=>simp;cases mk a r<;>rfl
def U6(z:α)(n:Int)(d:Nat)(size:Nat)(zero:Zu)(h:zero=cells z)(B:size=br.size α):
 mI m (.makeSl size zero) [.v (.int .i64 n),.v (.int .i64 n)] d=(od n z).bind λs=>some (cB s,.own d):=by
 subst h B;simp[mI,od];split
 .simp[cB,Sl.k,Sl.l,rows]
 rfl
def Dp(st:St)(d i o size:Nat)(x:V)(ob:aZ bE):aZ (SV×St):=
 match ob with
 |some (.sl k es w)=>match w[i]?with
  |some u=>if x.cells.length=size/\o+size<=u.length/\x.cells.all V.one=true then
   some (.v .undef,{st with m:=bH st.m d (.sl k es (w.set i (u.take o++x.cells++u.drop (o+x.cells.length))))})else none
  |none=>none
 |_=>none
def JW(st:St)(dst:aZ Nat)(size d i o:Nat)(x:V):mw st dst (.store size) [.el d i o,.v x]=Dp st d i o size x (bh st.m d):=by rfl
def Jz(g:Tb SV)(p:Zv)(w:Zt)(B:Zl)(y:Nat)(d i size:Nat)(x:V)(a:α)(G:x.cells=cells a)(J:size=br.size α)(s:Sl α):
 Dp ⟨g,m,p,w,B,y⟩ d i 0 size x (some (cB s))=(s.put i a).bind λO=>some (.v .undef,⟨g,bH m d (cB O),p,w,B,y⟩):=by
 have c:(cells a).all V.one=true:=br.one a;have z:∀b:α,(cells b).length=br.size α:=br.len;subst J;simp only[Dp,cB,rows,List.getElem?_map,G,Sl.put]
 by_cases u:i<s.l.length
 .have hg:=ζd u;rw[if_pos u,hg];simp[z,c]
  cases s with
  |nil=>simp[Sl.l]at u|emp=>simp[Sl.l]at u|row l=>simp[Sl.k,Sl.l,List.drop_of_length_le,z]|part l=>simp[Sl.k,Sl.l,List.drop_of_length_le,z]
 grind
def yo(st:St)(t n:Nat)(s:SV)(xs ys:aZ Zt):aZ (SV×St):=
 match xs,ys with
 |some _,some []=>match s with
  |.own d=>match bh st.m d with
   |some ob=>if St.new {st with m:=eo d st.m} t then some (.own t,{st with m:=bH (eo d st.m) t ob})else none|none=>none
  |.v .bG=>if st.new t then some (.own t,{st with m:=bH st.m t (.sl .nil n [])})else none|.v .dw=>if st.new t then some (.own t,{st with m:=bH st.m t (.sl .emp n [])})else none|_=>none
 |some xs,some ys=>
  if xs.length+ys.length<=2147483648/\HO s=true then
   if St.new {st with m:=giveUp st.m s} t then some (.own t,{st with m:=bH (giveUp st.m s) t (.sl .row n (xs++ys))})else none
  else none
 |_,_=>none
def zX(st:St)(t n:Nat)(s x:SV):mw st (some t) (.append n) [s,x]=yo st t n s (iS st.m n s) (iS st.m n x):=by cases s<;>cases x<;>(rfl)
def JM(n:Nat)(o:aZ bE):aZ Zt:=
 match o with
 |some (.sl k es u)=>if cD k then(if es=n then some u else none)else some []|_=>none
def DZ(n d:Nat):iS m n (.own d)=JM n (bh m d):=by simp[iS,JM];grind
def Aq(n:Nat)(s:Sl α)(h:n=br.size α):JM n (some (cB s))=some (rows s.l):=by subst h;cases s<;>simp[JM,cB,Sl.k,Sl.l,cD,rows]
def RJ(n:Nat):iS m n (.v .bG)=some []:=rfl
def SS(n:Nat):iS m n (.v .dw)=some []:=rfl
def L8(g:Tb SV)(p:Zv)(w:Zt)(B:Zl)(y:Nat)(t n d:Nat)(l:aY α)(x:α)(h:n=br.size α):yo ⟨g,m,p,w,B,y⟩ t n (.own d) (some (rows l)) (some (rows [x]))=
 (fP (.row l) x).bind λs=>if St.new ⟨g,eo d m,p,w,B,y⟩ t then some (.own t,⟨g,bH (eo d m) t (cB s),p,w,B,y⟩)else none:=by
 subst h;have e:(rows l).length+(rows [x]).length=l.length+1:=by simp[gI]
 by_cases h:l.length+1<=2147483648
 .have a:fP (.row l) x=some (.row (l++[x])):=if_pos h;have u:yo ⟨g,m,p,w,B,y⟩ t (br.size α) (.own d) (some (rows l)) (some (rows [x]))=if St.new ⟨g,eo d m,p,w,B,y⟩ t then some (.own t,⟨g,bH (eo d m) t (.sl .row (br.size α) (rows l++rows [x])),p,w,B,y⟩)else none:=if_pos ⟨Za,rfl⟩
  rw[a,u];simp[cB,Sl.k,Sl.l,rows]
 have a:fP (.row l) x=none:=if_neg h;have u:yo ⟨g,m,p,w,B,y⟩ t (br.size α) (.own d) (some (rows l)) (some (rows [x]))=none:=if_neg (λq=>h Za)
 grind
def M9(g:Tb SV)(p:Zv)(w:Zt)(B:Zl)(y:Nat)(t n:Nat)(x:α)(h:n=br.size α):yo ⟨g,m,p,w,B,y⟩ t n (.v .bG) (some []) (some (rows [x]))=
 if St.new ⟨g,m,p,w,B,y⟩ t then some (.own t,⟨g,bH m t (cB (.row [x])),p,w,B,y⟩)else none:=by
 subst h;rfl
def L5(g:Tb SV)(p:Zv)(w:Zt)(B:Zl)(y:Nat)(t n:Nat)(x:α)(h:n=br.size α):yo ⟨g,m,p,w,B,y⟩ t n (.v .dw) (some []) (some (rows [x]))=
 if St.new ⟨g,m,p,w,B,y⟩ t then some (.own t,⟨g,bH m t (cB (.row [x])),p,w,B,y⟩)else none:=by
 subst h;rfl
end
def xk(g:Tb SV)(m:Tb bE)(p:Zv)(w:Zt)(B:Zl)(y d:Nat):St.new ⟨g,m,p,w,B,y⟩ d=(!(p.contains d)&&(bh m d).isNone&& !(uL d g)&& !(rY d m)):=rfl
def rS(d:Nat):uL d []=false:=rfl
def qd(d n:Nat)(x:SV)(r:Tb SV):uL d ((n,x)::r)=(SV.cM d x||uL d r):=rfl
def ru(d:Nat):rY d []=false:=rfl
def qj(d n:Nat)(x:bE)(r:Tb bE):rY d ((n,x)::r)=(bE.cM d x||rY d r):=rfl
def xz(d:Nat)(x:V):SV.cM d (.v x)=false:=rfl
def s8(d e:Nat):SV.cM d (.own e)=(e==d):=rfl
def tF(d e o:Nat):SV.cM d (.ptr e o)=(e==d):=rfl
def u_(d e i o:Nat):SV.cM d (.el e i o)=(e==d):=rfl
def vh(d e:Nat):SV.cM d (.mp e)=(e==d):=rfl
def ta(d:Nat)(f:Zk)(a b:Zw):SV.cM d (.clo f a b)=(SV.dy d a||SV.dy d b):=rfl
def tq(d:Nat)(l:Zw):SV.cM d (.tup l)=SV.dy d l:=rfl
def rH(d:Nat):SV.dy d []=false:=rfl
def pY(d:Nat)(x:SV)(r:Zw):SV.dy d (x::r)=(SV.cM d x||SV.dy d r):=rfl
def rD(d:Nat)(cs:Zw):bE.cM d (.box cs)=SV.dy d cs:=rfl
def D8(m:Tb bE)(n:Nat):cV m n []=some []:=by cases n<;>simp[cV]
def Dg(m:Tb bE)(n:Nat)(x:SV)(r:Zw):cV m n (x::r)=(shut m n x).bind λy=>(cV m n r).bind λs=>some (y::s):=by cases n<;>(simp[cV];cases shut m _ x<;>(try rfl)<;>(cases cV m _ r<;>rfl))
def UK(m:Tb bE)(n:Nat)(x:V):shut m n (.v x)=some x:=by cases n<;>simp[shut]
def NU(m:Tb bE)(n:Nat)(f:Zk)(a b:Zw):shut m (n+1) (.clo f a b)=(cV m n a).bind λx=>(cV m n b).bind λy=>some (.clo f x y):=by simp[shut];cases cV m n a<;>(try rfl)<;>(cases cV m n b<;>rfl)
def Oh(m:Tb bE)(n:Nat)(l:Zw):shut m (n+1) (.tup l)=(cV m n l).bind λx=>some (.tup x):=by simp[shut];cases cV m n l<;>rfl
def Pj(m:Tb bE)(n:Nat)(l:Zw):shut m (n+1) (.agg l)=(cV m n l).bind λx=>some (.agg x):=by simp[shut];cases cV m n l<;>rfl
def sX{α:Type}(n:Nat):eo n ([]:Tb α)=[]:=rfl
def rq{α:Type}(n k:Nat)(x:α)(r:Tb α):eo n ((k,x)::r)=if k=n then eo n r else(k,x)::eo n r:=rfl
def mapM_nil(f:Zw->Zw):mapM f []=[]:=rfl
section
variable{N:Nat->Zk}{m:Tb bE}
def Ss:result []=.tup []:=rfl
def Rj(x:V):result [x]=x:=rfl
def Sr(x y:V)(l:Zu):result (x::y::l)=.tup (x::y::l):=rfl
def GO(p:uG)(a:V):jy N m p [.v a]=(bJ N p [a]).bind λx=>some (.v x):=Jl N m p _ [a] rfl
def xP(p:uG)(a b:V):jy N m p [.v a,.v b]=(bJ N p [a,b]).bind λx=>some (.v x):=Jl N m p _ [a,b] rfl
def pz(l:Zu):di (l.map .v)=some l:=by induction l with|nil=>rfl|cons a l u=>simp only[map_cons,di,u];rfl
def wm(n:Nat)(l:Zu):cV m n (l.map .v)=some l:=by induction l with|nil=>exact D8 m n|cons a l u=>rw[map_cons,Dg,UK,u];rfl
def Sl.QK{α:Type}(l:aY α):(Sl.row l).l=l:=rfl
def LB(cs:Zu):kn cs [] []=some cs:=rfl
def KN(cs:Zu)(off size:Nat)(pl:aY (Nat×Nat))(v:V)(vs:Zu):kn cs ((off,size)::pl) (v::vs)=
 if v.cells.length=size/\off+v.cells.length<=cs.length then kn (cs.take off++v.cells++cs.drop (off+v.cells.length)) pl vs else none:=by
 simp only[kn]
 by_cases h:v.cells.length=size<;>by_cases u:off+v.cells.length<=cs.length
 .rw[if_neg (by simp[h];omega),if_pos ⟨h,u⟩]
 .rw[if_pos (by simp[h];omega),if_neg (λq=>u q.2)]
 .rw[if_pos (by simp[h]),if_neg (λq=>h q.1)]
 rw[if_pos (by simp[h]),if_neg (λq=>h q.1)]
def Mw(k:Zs)(n:Int):V.cells (.int k n)=[.int k n]:=rfl
def I_(n:Zl):V.cells (.bool n)=[.bool n]:=rfl
def LO(n:Zq):V.cells (.str n)=[.str n]:=rfl
def Mg:V.cells .bG=[.bG]:=rfl
def lV(k:Zs)(n:Int):V.one (.int k n)=true:=rfl
def j9(n:Zl):V.one (.bool n)=true:=rfl
def lU(n:Zq):V.one (.str n)=true:=rfl
end
section
variable{S:Sys}{c:bZ}{β γ δ:Type}{Q:Out×St->aZ β}{L:aZ β}{e:γ->aZ β}
def MF{dr:Zl}{fr:Zv}{d:aZ Nat}{gd:aZ (Nat×Zl)}{now:Zl}{k:K}{az:Z4}{st:St}(h:wanted st.g gd=some true):
 fG S c dr fr ⟨d,gd,now,k,az,[],[]⟩ st=fG S c dr fr ⟨d,none,now,k,az,[],[]⟩ st:=by
 unfold fG;rw[h];rfl
def Bs(dr:Zl)(st:St):BQ dr [] st=some st:=by cases dr<;>rfl
def nX(f:SV->aZ V):Zw->aZ Zu
 |[]=>some []|x::r=>(f x).bind λy=>(nX f r).bind λs=>some (y::s)
def i_(m:Tb bE):Nat->SV->aZ V
 |0,x=>match x with
  |.v y=>some y|.own d=>match bh m d with
   |some (.sl k es xs)=>some (ov k es xs)|_=>none
  |.mp d=>match bh m d with
   |some (.mp B)=>some (.fmap B)|_=>none
  |_=>none
 |n+1,x=>match x with
  |.v y=>some y|.own d=>match bh m d with
   |some (.sl k es xs)=>some (ov k es xs)|_=>none
  |.ptr d o=>match bh m d with
   |some (.box cs)=>match nX (i_ m n) cs with
    |some xs=>if o<=xs.length then some (.fptr (xs.drop o))else none|none=>none
   |_=>none
  |.mp d=>match bh m d with
   |some (.mp B)=>some (.fmap B)|_=>none
  |.clo f a b=>(nX (i_ m n) a).bind λx=>(nX (i_ m n) b).bind λy=>some (.clo f x y)|.tup l=>(nX (i_ m n) l).bind λx=>some (.tup x)|.agg l=>(nX (i_ m n) l).bind λx=>some (.agg x)|_=>none
def AS(m:Tb bE):∀(n:Nat),(∀x,shut m n x=i_ m n x)/\∀l,cV m n l=nX (i_ m n) l:=by
 have w:∀n,(∀x,shut m n x=i_ m n x)->∀l,cV m n l=nX (i_ m n) l:=by intro n h l;induction l with|nil=>exact D8 m n|cons a l u=>rw[Dg,h a,u];rfl
 intro n;induction n with|zero=>have c:∀x,shut m 0 x=i_ m 0 x:=(by intro x;cases x<;>simp[shut,i_]<;>rfl);grind|succ n u=>have e:∀x,shut m (n+1) x=i_ m (n+1) x:=(by intro x;cases x with|ptr d o=>simp[shut,i_,u.2];rfl|clo f a b=>rw[NU,u.2,u.2];rfl|tup l=>rw[Oh,u.2];rfl|agg l=>rw[Pj,u.2];rfl|_=>simp[shut,i_]<;>rfl);grind
def uw(S:Sys)(c:bZ)(dr:Zl):Zv->Zy->(St->aZ β)->St->aZ β
 |_,[],k,st=>k st|fr,o::r,k,st=>((BQ dr o.pre st).bind (fG S c dr fr o.strip)).bind λst'=>uw S c dr (if dr then qE fr o.strip else fr) r k (oZ o.dead st')
def DQ(dr:Zl):∀(l:Zy)(fr:Zv)(k:St->aZ β)(st:St),uw S c dr fr l k st=(mY S c dr fr l st).bind k
 |[],_,_,_=>rfl|o::r,fr,k,st=>by simp[uw,mY];cases(BQ dr o.pre st).bind (fG S c dr fr o.strip)with|none=>rfl|some st'=>exact DQ dr r _ k _
def oR(S:Sys)(c:bZ):RC->(St->aZ β)->(Nat->St->aZ β)->(St->aZ β)->St->aZ β
 |.skip,n,_,_,st=>n st|.ops l,n,_,_,st=>uw S c false [] l n st|.oS l,n,_,_,st=>uw S c true [] l n st|.seq a b,n,x,r,st=>oR S c a (λst=>oR S c b n x r st) x r st|.cond y a b,n,x,r,st=>match qt S.N st.g y with
  |some (.v (.bool t))=>bp t (oR S c a n x r st) (oR S c b n x r st)|_=>none
 |.block id a,n,x,r,st=>oR S c a n (λk st=>if k=id then n st else x k st) r st|.loop a,n,x,r,st=>(oa (cA S c a) st).bind λq=>match q with|(.norm,st)=>n st|(.exit k,st)=>x k st|(.ret,st)=>r st
 |.each g ps a b,n,x,r,st=>(cA S c (.each g ps a b) st).bind λq=>match q with|(.norm,st)=>n st|(.exit k,st)=>x k st|(.ret,st)=>r st
 |.exit k,_,x,_,st=>x k st|.ret,_,_,r,st=>r st|.gh g a,n,x,r,st=>(ghost g st).bind λst=>oR S c a n x r st|.hg a g,n,x,r,st=>oR S c a (λst=>(ghost g st).bind n) x r st
def DS(n:St->aZ β)(x:Nat->St->aZ β)(r:St->aZ β):Out×St->aZ β
 |(.norm,st)=>n st|(.exit k,st)=>x k st|(.ret,st)=>r st
def Dl:∀(d:RC)(n:St->aZ β)(x:Nat->St->aZ β)(r:St->aZ β)(st:St),oR S c d n x r st=(cA S c d st).bind (DS n x r):=by
 intro d
 induction d with
 |skip=>intros;rfl|ops l=>intro n x r st;simp[oR,cA,DQ];cases mY S c false [] l st<;>rfl|oS l=>intro n x r st;simp[oR,cA,DQ];cases mY S c true [] l st<;>rfl|seq a b u w=>intro n x r st;simp[oR,cA,u,w];cases h:cA S c a st with|none=>rfl|some q=>have⟨o,st'⟩:=q;cases o<;>rfl
 |cond y a b u w=>
  intro n x r st;simp[oR,cA,u,w]
  cases qt S.N st.g y with
  |none=>rfl|some v=>cases v with
   |v z=>cases z with
    |bool t=>cases t<;>rfl|_=>rfl
   |_=>rfl
 |block id a B=>intro n x r st;simp[oR,cA,B];cases h:cA S c a st with|none=>rfl|some q=>have⟨o,st'⟩:=q;cases o with|exit k=>simp[DS];split<;>rfl|_=>rfl
 |loop a B=>intro n x r st;rfl|each g ps a b u w=>intro n x r st;rfl|exit k=>intros;rfl|ret=>intros;rfl|gh g a B=>simp[oR,cA,B];grind|hg a g B=>intro n x r st;simp[oR,cA,B];cases h:cA S c a st with|none=>rfl|some q=>have⟨o,st'⟩:=q;cases o with|norm=>simp[DS];cases ghost g st'<;>rfl|_=>rfl
section
variable(S c Q)
mutual
def mR:Z3->St->aZ β
 |[]=>λst=>Q (.norm,st)|.seq b::fs=>λst=>oR S c b (mR fs) (mP fs) (λst=>Q (.ret,st)) st|.blk _::fs=>mR fs|.gst g::fs=>λst=>(ghost g st).bind (mR fs)
def mP:Z3->Nat->St->aZ β
 |[]=>λk st=>Q (.exit k,st)|.seq _::fs=>mP fs|.blk id::fs=>λk st=>if k=id then mR fs st else mP fs k st|.gst _::fs=>mP fs
end
def ki(a:RC)(fs:Z3)(st:St):aZ β:=oR S c a (mR S c Q fs) (mP S c Q fs) (λst=>Q (.ret,st)) st
end
section
variable{dr:Zl}{fr:Zv}{d:Nat}{dst:aZ Nat}{now:Zl}{az:Z4}{st:St}{α:Type}[br α]
def Qr{p:uG}{svs:Zw}{m:aZ δ}{v:δ->SV}(B:bV S.N st.g az=some svs)(G:isSlice p=false)(h:jy S.N st.m p svs=m.bind λx=>some (v x)):
 fG S c dr fr ⟨dst,none,now,.p p,az,[],[]⟩ st=m.bind λx=>some (c6 st dst (v x)):=by
 rw[Qe _ _ _ _ _ _ _ G,B]
 grind
def BV{p:uG}{svs:Zw}{v:SV}(B:bV S.N st.g az=some svs)(G:isSlice p=false)(h:jy S.N st.m p svs=some v):
 fG S c dr fr ⟨dst,none,now,.p p,az,[],[]⟩ st=some (c6 st dst v):=by
 rw[Qe _ _ _ _ _ _ _ G,B]
 grind
def P0{n:Nat}{s:Sl α}{k:Zs}{i:Int}(B:bV S.N st.g az=some [.v (ck s),.v (.int k i)])(G:n=br.size α):
 fG S c dr fr ⟨dst,none,now,.p (.idxS n),az,[],[]⟩ st=(idx s i).bind λx=>some (c6 st dst (.v (.fptr (cells x)))):=
 Qr B rfl (by rw[xP,DW s k i n G];grind)
def VQ{n e:Nat}{s:Sl α}{k:Zs}{i:Int}(B:bV S.N st.g az=some [.own e,.v (.int k i)])(G:bh st.m e=some (cB s))(J:n=br.size α):
 fG S c dr fr ⟨dst,none,now,.p (.idxS n),az,[],[]⟩ st=(s.jc i).bind λj=>some (c6 st dst (.el e j 0)):=
 Qr B rfl (by rw[Rb,G,SA n e s i J])
def Ql{s:Sl α}(B:bV S.N st.g az=some [.v (ck s)]):fG S c dr fr ⟨dst,none,now,.p .lenSl,az,[],[]⟩ st=some (c6 st dst (.v (.int .i64 s.l.length))):=BV B rfl (by rw[GO,HI];rfl)
def UA{e:Nat}{s:Sl α}(B:bV S.N st.g az=some [.own e])(G:bh st.m e=some (cB s)):fG S c dr fr ⟨dst,none,now,.p .lenSl,az,[],[]⟩ st=some (c6 st dst (.v (.int .i64 s.l.length))):=BV B rfl (by rw[Pz,G,S3])
def Sv{u:aZ Nat}{s:Sl α}(B:bV S.N st.g az=some [.v (ck s),.v .bG]):fG S c dr fr ⟨dst,none,now,.p (.bin (some .slice) u .eql),az,[],[]⟩ st=s.isNil.bind λt=>some (c6 st dst (.v (.bool t))):=Qr B rfl (by rw[xP,Of];grind)
def NW{s:Zq}{k:Zs}{n:Int}(B:bV S.N st.g az=some [.v (.str s),.v (.int k n)]):fG S c dr fr ⟨dst,none,now,.p .idxStr,az,[],[]⟩ st=(kD s n).bind λx=>some (c6 st dst (.v (.int .u8 x))):=Qr B rfl (by rw[xP,MN];grind)
def Ty{n e i o:Nat}{a:Zl}{s:Sl α}{v:α->V}(B:bV S.N st.g az=some [.el e i o])(G:(!dr||now||eH fr [.el e i o])=true)(J:bh st.m e=some (cB s))(b:∀x:α,(cut (cells x) o n).bind (mk a)=some (v x)):
 fG S c dr fr ⟨dst,none,now,.r (.load n a),az,[],[]⟩ st=(s.get i).bind λx=>some (c6 st dst (.v (v x))):=by
 rw[xJ,B];simp only[ζb,G,VL,J,Mp]
 cases s.get i with
 |none=>rfl|some x=>
  cases hc:cut (cells x) o n with
  |none=>grind|some r=>grind
def SH{n e i:Nat}{s:Sl α}{x:V}{a:α}(B:bV S.N st.g az=some [.el e i 0,.v x])(G:(!dr||now)=true)(J:bh st.m e=some (cB s))(O:x.cells=cells a)(U:n=br.size α):
 fG S c dr fr ⟨dst,none,now,.l (.store n),az,[],[]⟩ st=(s.put i a).bind λW=>some (c6 {st with m:=bH st.m e (cB W)} dst (.v .undef)):=by
 rw[uQ,B];simp[G,JW,J];rw[Jz st.g st.pin st.want st.more st.yid e i n x a O U s]
 grind
def TW{n:Nat}{z:α}{zero:Zu}{i:Int}(B:bV S.N st.g az=some [.v (.int .i64 i),.v (.int .i64 i)])(G:zero=cells z)(J:n=br.size α)(O:st.new d=true):
 fG S c dr fr ⟨some d,none,now,.a (.makeSl n zero),az,[],[]⟩ st=(od i z).bind λs=>some {st with g:=bH st.g d (.own d),m:=bH st.m d (cB s)}:=by
 rw[vW,B];simp[O];rw[U6 z i d n zero G J]
 grind
def Vh{n e u:Nat}{s:Sl α}{x:α}(J:bV S.N st.g az=some [.own e,.own u])(O:(!dr||now)=true)(U:bh st.m e=some (cB s))(a:bh st.m u=some (cB (.row [x])))(B:n=br.size α)(W:St.new {st with m:=eo e st.m} d=true):
 fG S c dr fr ⟨some d,none,now,.l (.append n),az,[],[]⟩ st=(fP s x).bind λG=>some {st with g:=bH st.g d (.own d),m:=bH (eo e st.m) d (cB G)}:=by
 rw[uQ,J];simp[O,zX,DZ,U,a];rw[Aq n s B,Aq n (.row [x]) B];have:=L8 (m:=st.m) st.g st.pin st.want st.more st.yid d n e s.l x B;simp[Sl.QK];rw[this];have w:fP (.row s.l) x=fP s x:=by cases s<;>rfl
 rw[w]
 cases fP s x with
 |none=>rfl|some G=>simp;rw[if_pos W];rfl
def Uu{n u:Nat}{x:α}{v:V}(a:v=.bG\/v=.dw)(J:bV S.N st.g az=some [.v v,.own u])(O:(!dr||now)=true)(b:bh st.m u=some (cB (.row [x])))(B:n=br.size α)(G:st.new d=true):
 fG S c dr fr ⟨some d,none,now,.l (.append n),az,[],[]⟩ st=some {st with g:=bH st.g d (.own d),m:=bH st.m d (cB (.row [x]))}:=by
 rw[uQ,J];simp[O,zX,DZ,b];rw[Aq n (.row [x]) B];simp[Sl.QK];rcases a with rfl|rfl
 .rw[RJ,M9 (m:=st.m) st.g st.pin st.want st.more st.yid d n x B];rw[if_pos G];rfl
 rw[SS,L5 (m:=st.m) st.g st.pin st.want st.more st.yid d n x B];rw[if_pos G];rfl
def TE{f:Zk}{svs args:Zw}{cs:Zu}{m:aZ δ}{E:δ->Zu}(hc:nj c f cs=m.bind λr=>some (E r))(a:S.E.keep f=false)(G:bV S.N st.g az=some svs)(J:oB svs=some (f,args))
 (B:nX (i_ st.m 8) args=some cs)(O:((!dr||now)||gw st.m fr args)=true)(b:∀r,((result (E r)).scalar||(di args).isSome)=true):
 fG S c dr fr ⟨dst,none,now,.c,az,[],[]⟩ st=m.bind λr=>some (c6 st dst (.v (result (E r)))):=by
 rw[Ce dr fr dst now az st svs f args G J,Ry _ _ _ _ _ _ _ a,(AS st.m 8).2,B];simp[O,hc]
 cases m with
 |none=>rfl|some r=>
  simp[Nc]
  grind
end
end
section
variable{S:Sys}{c:bZ}{β γ:Type}{Q:Out×St->aZ β}{L:aZ β}{e:γ->aZ β}
def qa(a:RC)(st:St):ki S c Q a [] st=(cA S c a st).bind Q:=by unfold ki;rw[Dl];congr 1;funext q;have⟨o,st⟩:=q;cases o<;>rfl
def AO(a:RC)(st:St):cA S c a st=ki S c some a [] st:=by rw[qa];cases cA S c a st<;>rfl
def qu(rs:aY RV):Out×St->aZ Zu
 |(.exit _,_)=>none|(_,st)=>(kR st rs).bind (nX (i_ st.m 8))
def Ra(rs:aY RV):HY rs=qu rs:=by funext q;have⟨o,st⟩:=q;cases o;simp only[HY,qu];congr 1;funext l;exact(AS st.m 8).2 l;rfl;simp only[HY,qu];congr 1;funext l;exact(AS st.m 8).2 l
def Q6{S:Sys}{T:pR}{f:Zk}{rf:RF}(B:T f=some rf)(az:Zu)(G:az.length<=rf.na):nj (cW S T) f az=ki S (cW S T) (qu rf.rs) rf.body [] (start (az.map .v) []):=by rw[O8 B az G,<-GC,qa,Ra]
end
def nU{α σ ε ρ:Type}(step:α->σ->aZ (Fw σ ε ρ)):aY α->σ->aZ (Fw σ ε ρ)
 |[],s=>some (.n s)|x::xs,s=>(step x s).bind λw=>match w with
  |.n B=>nU step xs B|.x e=>some (.x e)|.r b=>some (.r b)
def Fw.we{ν ε ρ γ:Type}(fn:ν->γ)(B:ε->γ)(fr:ρ->γ):Fw ν ε ρ->γ
 |.n a=>fn a|.x e=>B e|.r b=>fr b
def Fw.vI{ν ε ρ:Type}(B:ν->Tb bE)(eε:ε->Nat×Tb bE)(eρ:ρ->Tb bE):Fw ν ε ρ->Out×Tb bE
 |.n a=>(.norm,B a)|.x e=>(.exit (eε e).1,(eε e).2)|.r b=>(.ret,eρ b)
def vI(q:Out×St):aZ (Out×Tb bE):=some (q.1,q.2.m)
section
variable{S:Sys}{c:bZ}{β γ:Type}{Q:Out×St->aZ β}{L:aZ β}{e:γ->aZ β}
def xG(S:Sys)(c:bZ)(b:RC):Out×St->aZ (Out×Tb bE)
 |(.norm,st)=>ki S c vI b [] st|_=>none
def Ki(ps:Zv)(a b:RC)(st:St)(x:Zu)(m:Tb bE)(B:x.length=ps.length):
 iJ ps (cA S c a) (cA S c b) st x m=ki S c (xG S c b) a [] ⟨v8 st.g ps (x.map .v),m,st.pin++pM st.g,[],true,0⟩:=by
 unfold iJ;rw[if_pos B,qa]
 cases cA S c a ⟨v8 st.g ps (x.map .v),m,st.pin++pM st.g,[],true,0⟩with
 |none=>rfl|some q=>
  have⟨o,u⟩:=q
  cases o with
  |norm=>simp only[ζb,xG];rw[qa];cases cA S c b u<;>rfl|_=>rfl
end
def Le{α:Type}(a b:aZ α):Prop:=∀r,a=some r->b=some r
section
variable{α:Type}
def Le.refl(a:aZ α):Le a a:=λ_ h=>h
def Le.of_eq{a b:aZ α}(h:b=a):Le a b:=λ_ u=>h.trans u
def Le.trans{a b d:aZ α}(c:Le a b)(B:Le b d):Le a d:=λr h=>B r (c r h)
def Le.none(b:aZ α):Le (none:aZ α) b:=λr h=>by cases h
def Le.bind{β:Type}{a b:aZ α}{f g:α->aZ β}(h:Le a b)(B:∀x,Le (f x) (g x)):Le (a.bind f) (b.bind g):=λr c=>by have⟨x,d,u⟩:=ζg.1 c;rw[h x d];exact B x r u
end
section
variable{S:Sys}{c:bZ}{β γ δ:Type}{Q:Out×St->aZ β}{L:aZ β}{e:γ->aZ β}
def Gx{dr:Zl}{fr:Zv}{dst:aZ Nat}{now:Zl}{az:Z4}{st:St}{f:Zk}{svs args:Zw}{cs:Zu}{m:aZ δ}{E:δ->Zu}(hc:Le (m.bind λr=>some (E r)) (nj c f cs))(a:S.E.keep f=false)(G:bV S.N st.g az=some svs)(J:oB svs=some (f,args))
 (B:nX (i_ st.m 8) args=some cs)(O:((!dr||now)||gw st.m fr args)=true)(b:∀r,((result (E r)).scalar||(di args).isSome)=true):
 Le (m.bind λr=>some (c6 st dst (.v (result (E r))))) (fG S c dr fr ⟨dst,none,now,.c,az,[],[]⟩ st):=by
 intro q w;have⟨r,d,z⟩:=ζg.1 w;have u:nj c f cs=(some r).bind λr=>some (E r):=hc _ (by rw[d];rfl)
 rw[TE (m:=some r) u a G J B O b];exact z
def NN{σ ε ρ:Type}{f:St->aZ (Out×St)}{step:σ->aZ (Fw σ ε ρ)}{eσ:σ->St}{eε:ε->Nat×St}{eρ:ρ->St}(h:∀s,Le ((step s).bind λw=>some (Fw.out eσ eε eρ w)) (f (eσ s)))(s:σ):
 Le ((bM step s).bind λw=>some (Fw.out (λe=>Empty.elim e) eε eρ w)) (oa f (eσ s)):=by
 have key:∀k s r,jm step k s=some r->iX f k (eσ s)=some (Fw.out (λe=>Empty.elim e) eε eρ r):=by intro k;induction k with|zero=>intro s r h;simp[jm]at h|succ k C=>intro s r u;simp only[jm]at u;cases z:step s with|none=>rw[z]at u;cases u|some w=>rw[z]at u;have B:=h s (Fw.out eσ eε eρ w) (by rw[z];rfl);simp only[iX,B];cases w with|n a=>exact C a r u|x e=>cases u;rfl|r b=>cases u;rfl
 intro r c;have⟨w,d,B⟩:=ζg.1 c;have⟨k,g⟩:=nQ.1 d;cases B;exact mM.2 ⟨k,key k s w g⟩
def U_{σ ε ρ:Type}{a:RC}{fs:Z3}{step:σ->aZ (Fw σ ε ρ)}{eσ:σ->St}{eε:ε->Nat×St}{eρ:ρ->St}{s:σ}{B:ε->aZ γ}{fr:ρ->aZ γ}
 (G:L=ki S c Q (.loop a) fs (eσ s))(h:∀s,Le ((step s).bind λw=>some (Fw.out eσ eε eρ w)) (ki S c some a [] (eσ s)))
 (J:∀x,Le ((B x).bind e) (mP S c Q fs (eε x).1 (eε x).2))(d:∀b,Le ((fr b).bind e) (Q (.ret,eρ b))):Le (((bM step s).bind (Fw.elim B fr)).bind e) L:=by
 subst G;have g:ki S c Q (.loop a) fs (eσ s)=(oa (cA S c a) (eσ s)).bind (DS (mR S c Q fs) (mP S c Q fs) (λst=>Q (.ret,st))):=by unfold ki;rw[Dl];rfl
 rw[g];have u:=NN (step:=step) (f:=cA S c a) (eσ:=eσ) (eε:=eε) (eρ:=eρ) (λs=>by rw[AO];exact h s) s
 cases z:bM step s with
 |none=>exact Le.none _|some w=>
  have C:=u _ (by rw[z];rfl)
  rw[C]
  cases w with
  |n a=>cases a|x a=>exact J a|r a=>exact d a
def Hs{α σ ε ρ:Type}{f:Zu->Tb bE->aZ (Out×Tb bE)}{step:α->σ->aZ (Fw σ ε ρ)}{eI:α->Zu}{eσ:σ->Tb bE}{eε:ε->Nat×Tb bE}{eρ:ρ->Tb bE}
 (h:∀x s,Le ((step x s).bind λw=>some (Fw.vI eσ eε eρ w)) (f (eI x) (eσ s))):∀(xs:aY α)(s:σ),Le ((nU step xs s).bind λw=>some (Fw.vI eσ eε eρ w)) (qi f (xs.map eI) (eσ s))
 |[],s=>λr a=>a|x::xs,s=>by simp only[map_cons,qi,nU];cases B:step x s with|none=>exact Le.none _|some w=>have G:=h x s (Fw.vI eσ eε eρ w) (by rw[B];rfl);rw[G];cases w with|n u=>simp only[ζb,Fw.vI];exact Hs h xs u|x e=>exact Le.refl _|r b=>exact Le.refl _
def Va{α σ ε ρ:Type}{g:Arg}{ps:Zv}{a b:RC}{fs:Z3}{f:Zk}{x y:Zu}{d:aY α}{eI:α->Zu}{step:α->σ->aZ (Fw σ ε ρ)}{eσ:σ->Tb bE}{eε:ε->Nat×Tb bE}{eρ:ρ->Tb bE}{i:Tb SV}{s:σ}
 {fn:σ->aZ γ}{B:ε->aZ γ}{fr:ρ->aZ γ}
 (G:L=ki S c Q (.each g ps a b) fs ⟨i,eσ s,[],[],true,0⟩)(j:qt S.N i g=some (.v (.clo f x y)))(J:S.items f x y=some (d.map eI))(O:∀x,(eI x).length=ps.length)
 (h:∀x s,Le ((step x s).bind λw=>some (Fw.vI eσ eε eρ w)) (ki S c (xG S c b) a [] ⟨v8 i ps ((eI x).map .v),eσ s,pM i,[],true,0⟩))
 (U:∀s,Le ((fn s).bind e) (mR S c Q fs ⟨i,eσ s,[],[],true,0⟩))
 (W:∀x,Le ((B x).bind e) (mP S c Q fs (eε x).1 ⟨i,(eε x).2,[],[],true,0⟩))(k:∀b,Le ((fr b).bind e) (Q (.ret,⟨i,eρ b,[],[],true,0⟩))):
 Le (((nU step d s).bind (Fw.we fn B fr)).bind e) L:=by
 subst G;have l:ki S c Q (.each g ps a b) fs ⟨i,eσ s,[],[],true,0⟩=(cA S c (.each g ps a b) ⟨i,eσ s,[],[],true,0⟩).bind (DS (mR S c Q fs) (mP S c Q fs) (λst=>Q (.ret,st))):=by unfold ki;rw[Dl]
 rw[l];simp only[cA,j,J];have u:=Hs (step:=step) (f:=iJ ps (cA S c a) (cA S c b) ⟨i,eσ s,[],[],true,0⟩) (eI:=eI) (eσ:=eσ) (eε:=eε) (eρ:=eρ) (λx s=>by rw[Ki _ _ _ _ _ _ (O x)];exact h x s) d s
 cases z:nU step d s with
 |none=>exact Le.none _|some w=>
  have C:=u _ (by rw[z];rfl)
  rw[C]
  cases w with
  |n a=>exact U a|x a=>exact W a|r a=>exact k a
end
inductive Fo where
 |rc(c:RC)|ops(dr:Bool)(fr:List Nat)(l:List RO)|nx|ex(k:Nat)|rt
abbrev bz(g:Tb SV)(m:Tb bE):St:=⟨g,m,[],[],true,0⟩
section
variable(S:Sys)(c:bZ){β:Type}(Q:Out×St->aZ β)
def rn:Fo->Z3->St->aZ β
 |.rc a,fs,st=>ki S c Q a fs st|.ops dr fr l,fs,st=>uw S c dr fr l (mR S c Q fs) st|.nx,fs,st=>mR S c Q fs st|.ex k,fs,st=>mP S c Q fs k st|.rt,_,st=>Q (.ret,st)
def xI:Fo->Z3->St->aZ (Fo×Z3×St)
 |.rc .skip,fs,st=>some (.nx,fs,st)|.rc (.ops l),fs,st=>some (.ops false [] l,fs,st)|.rc (.oS l),fs,st=>some (.ops true [] l,fs,st)|.rc (.seq a b),fs,st=>some (.rc a,.seq b::fs,st)|.rc (.cond y a b),fs,st=>match qt S.N st.g y with
  |some (.v (.bool true))=>some (.rc a,fs,st)|some (.v (.bool false))=>some (.rc b,fs,st)|_=>none
 |.rc (.block id a),fs,st=>some (.rc a,.blk id::fs,st)|.rc (.exit k),fs,st=>some (.ex k,fs,st)|.rc .ret,fs,st=>some (.rt,fs,st)|.rc (.gh g a),fs,st=>match ghost g st with
  |some st'=>some (.rc a,fs,st')|none=>none
 |.rc (.hg a g),fs,st=>some (.rc a,.gst g::fs,st)|.rc (.loop _),_,_=>none|.rc (.each ..),_,_=>none|.ops _ _ [],fs,st=>some (.nx,fs,st)|.ops dr fr (⟨d,gd,now,k,az,dd,[]⟩::r),fs,st=>match fG S c dr fr ⟨d,gd,now,k,az,[],[]⟩ st with
  |some st'=>some (.ops dr (if dr then qE fr ⟨d,gd,now,k,az,[],[]⟩else fr) r,fs,oZ dd st')|none=>none
 |.ops dr fr (⟨d,gd,now,k,az,dd,x::xs⟩::r),fs,st=>if dr&& !(zA x&&xs.all zA)then none else match ghost x st with
  |some st'=>some (.ops dr fr (⟨d,gd,now,k,az,dd,xs⟩::r),fs,st')|none=>none
 |.nx,.seq b::fs,st=>some (.rc b,fs,st)|.nx,.blk _::fs,st=>some (.nx,fs,st)|.nx,.gst g::fs,st=>match ghost g st with
  |some st'=>some (.nx,fs,st')|none=>none
 |.nx,[],_=>none|.ex k,.seq _::fs,st=>some (.ex k,fs,st)|.ex k,.blk id::fs,st=>some (if k=id then .nx else .ex k,fs,st)|.ex k,.gst _::fs,st=>some (.ex k,fs,st)|.ex _,[],_=>none|.rt,_,_=>none
def gQ:Nat->Fo->Z3->St->aZ (Fo×Z3×St)
 |0,fo,fs,st=>some (fo,fs,st)|n+1,fo,fs,st=>match xI S c fo fs st with
  |some (fo',fs',st')=>gQ n fo' fs' st'|none=>none
end
section
variable{S:Sys}{c:bZ}{β γ δ:Type}{Q:Out×St->aZ β}{e:γ->aZ β}
def Ol{fo fo':Fo}{fs fs':Z3}{st st':St}(h:xI S c fo fs st=some (fo',fs',st')):rn S c Q fo fs st=rn S c Q fo' fs' st':=by
 cases fo with
 |rc a=>cases a with|cond y a b=>simp only[xI]at h;split at h;(next u=>cases h;simp only[rn,ki,oR,u,bp,if_true]);(next u=>cases h;simp only[rn,ki,oR,u,bp];rfl);cases h|gh g a=>simp only[xI]at h;split at h;(next u=>cases h;simp only[rn,ki,oR,u,ζb]);cases h|loop a=>cases h|each g ps a b=>cases h|seq a b=>cases h;simp only[rn,ki,oR,mR,mP]|block id a=>cases h;simp only[rn,ki,oR,mR,mP]|hg a g=>cases h;simp only[rn,ki,oR,mR,mP]|_=>cases h;simp only[rn,ki,oR]
 |ops dr fr l=>cases l with|nil=>cases h;simp only[rn,uw]|cons o r=>have⟨d,gd,now,k,az,dd,pre⟩:=o;cases pre with|nil=>simp only[xI]at h;split at h;(next u=>cases h;simp only[rn,uw,Bs,RO.strip,ζb,u]);cases h|cons x z=>simp only[xI]at h;split at h;cases h;rename_i w;split at h;rename_i u;cases h;(cases dr with|true=>simp only[Bool.true_and,Bool.not_eq_true',Bool.not_eq_false,ζh]at w;simp only[rn,uw,RO.strip,BQ,oA,if_true,List.all_cons,w.1,w.2,Bool.and_self,u,ζb]|false=>simp only[rn,uw,RO.strip,BQ,oA,Bool.false_eq_true,if_false,u,ζb]);cases h
 |nx=>cases fs with|nil=>cases h|cons f fs=>cases f with|seq b=>cases h;simp only[rn,ki,mR]|blk id=>cases h;simp only[rn,mR]|gst g=>simp only[xI]at h;split at h;(next u=>cases h;simp only[rn,mR,u,ζb]);cases h
 |ex k=>cases fs with|nil=>cases h|cons f fs=>cases f with|seq b=>cases h;simp only[rn,mP]|blk id=>cases h;simp only[rn,mP];by_cases e:k=id;simp only[if_pos e,rn];simp only[if_neg e,rn]|gst g=>cases h;simp only[rn,mP]
 |rt=>cases h
def om:∀{n:Nat}{fo fo':Fo}{fs fs':Z3}{st st':St},gQ S c n fo fs st=some (fo',fs',st')->rn S c Q fo fs st=rn S c Q fo' fs' st'
 |0,fo,fo',fs,fs',st,st',h=>by cases h;rfl|n+1,fo,fo',fs,fs',st,st',h=>by simp only[gQ]at h;split at h;(next a b d B=>rw[Ol B];exact om h);cases h
def Dr{n:Nat}{fo fo':Fo}{fs fs':Z3}{st st':St}{m:aZ β}(h:gQ S c n fo fs st=some (fo',fs',st'))(B:Le m (rn S c Q fo' fs' st')):Le m (rn S c Q fo fs st):=by rw[om h];exact B
def WA{n:Nat}{fo fo':Fo}{fs fs':Z3}{st st':St}{r:γ}(h:gQ S c n fo fs st=some (fo',fs',st'))(B:rn S c Q fo' fs' st'=e r):Le ((some r).bind e) (rn S c Q fo fs st):=by rw[om h];exact Le.of_eq B
def Qq{m:aZ δ}{f:δ->aZ γ}{L:aZ β}(k:δ->aZ β)(B:Le (m.bind k) L)(b:∀r,Le ((f r).bind e) (k r)):Le ((m.bind f).bind e) L:=by intro r a;cases m with|none=>cases a|some x=>exact B r (b x r a)
def Wv{n:Nat}{fo:Fo}{fs fs':Z3}{st0:St}{dr:Zl}{q l:Zy}{fr:Zv}{st:St}{d:aZ Nat}{gd:aZ (Nat×Zl)}{now:Zl}{k:K}{az:Z4}{dd:Zv}{m:aZ δ}{g:δ->St}{f:δ->aZ γ}
 (B:gQ S c n fo fs st0=some (.ops dr fr q,fs',st))(G:q=⟨d,gd,now,k,az,dd,[]⟩::l)(a:wanted st.g gd=some true)
 (J:Le (m.bind λx=>some (g x)) (fG S c dr fr ⟨d,none,now,k,az,[],[]⟩ st))
 (h:∀x,m=some x->Le ((f x).bind e) (rn S c Q (.ops dr (if dr then qE fr ⟨d,gd,now,k,az,[],[]⟩else fr) l) fs' (oZ dd (g x)))):Le ((m.bind f).bind e) (rn S c Q fo fs st0):=by
 rw[om B];subst G;simp only[rn,uw,RO.strip,Bs,ζb];rw[MF a]
 cases m with
 |none=>exact Le.none _|some x=>rw[J (g x) rfl];exact h x rfl
def QG{n:Nat}{fo:Fo}{fs fs':Z3}{st0:St}{dr:Zl}{q l:Zy}{fr:Zv}{st st':St}{d:aZ Nat}{gd:aZ (Nat×Zl)}{now:Zl}{k:K}{az:Z4}{dd:Zv}{m:aZ β}
 (B:gQ S c n fo fs st0=some (.ops dr fr q,fs',st))(G:q=⟨d,gd,now,k,az,dd,[]⟩::l)(a:wanted st.g gd=some true)
 (J:fG S c dr fr ⟨d,none,now,k,az,[],[]⟩ st=some st')
 (h:Le m (rn S c Q (.ops dr (if dr then qE fr ⟨d,gd,now,k,az,[],[]⟩else fr) l) fs' (oZ dd st'))):Le m (rn S c Q fo fs st0):=by
 rw[om B];subst G;simp only[rn,uw,RO.strip,Bs,ζb];rw[MF a,J];exact h
def HU{n:Nat}{fo:Fo}{B:Z3}{st:St}{σ ε ρ:Type}{a:RC}{fs:Z3}{step:σ->aZ (Fw σ ε ρ)}{eσ:σ->St}{eε:ε->Nat×St}{eρ:ρ->St}{s:σ}{G:ε->aZ γ}{fr:ρ->aZ γ}
 (J:gQ S c n fo B st=some (.rc (.loop a),fs,eσ s))(h:∀s,Le ((step s).bind λw=>some (Fw.out eσ eε eρ w)) (rn S c some (.rc a) [] (eσ s)))
 (O:∀x,Le ((G x).bind e) (rn S c Q (.ex (eε x).1) fs (eε x).2))(d:∀b,Le ((fr b).bind e) (Q (.ret,eρ b))):Le (((bM step s).bind (Fw.elim G fr)).bind e) (rn S c Q fo B st):=by
 rw[om J];exact U_ (L:=rn S c Q (.rc (.loop a)) fs (eσ s)) rfl h O d
def Uw{n:Nat}{fo:Fo}{B:Z3}{st:St}{α σ ε ρ:Type}{g:Arg}{ps:Zv}{a b:RC}{fs:Z3}{f:Zk}{x y:Zu}{d:aY α}{eI:α->Zu}{step:α->σ->aZ (Fw σ ε ρ)}{eσ:σ->Tb bE}{eε:ε->Nat×Tb bE}{eρ:ρ->Tb bE}{i:Tb SV}{s:σ}
 {fn:σ->aZ γ}{G:ε->aZ γ}{fr:ρ->aZ γ}
 (J:gQ S c n fo B st=some (.rc (.each g ps a b),fs,bz i (eσ s)))(j:qt S.N i g=some (.v (.clo f x y)))(O:S.items f x y=some (d.map eI))(U:∀x,(eI x).length=ps.length)
 (h:∀x s,Le ((step x s).bind λw=>some (Fw.vI eσ eε eρ w)) (rn S c (xG S c b) (.rc a) [] ⟨v8 i ps ((eI x).map .v),eσ s,pM i,[],true,0⟩))
 (W:∀s,Le ((fn s).bind e) (rn S c Q .nx fs (bz i (eσ s))))
 (Y:∀x,Le ((G x).bind e) (rn S c Q (.ex (eε x).1) fs (bz i (eε x).2)))(k:∀b,Le ((fr b).bind e) (Q (.ret,bz i (eρ b)))):
 Le (((nU step d s).bind (Fw.we fn G fr)).bind e) (rn S c Q fo B st):=by
 rw[om J];exact Va (L:=rn S c Q (.rc (.each g ps a b)) fs (bz i (eσ s))) rfl j O U h W Y k
def Uo{b:RC}{st st':St}{m:aZ (Out×Tb bE)}{fs:Z3}{n:Nat}{fo:Fo}(h:gQ S c n fo fs st=some (.nx,[],st'))(B:Le m (rn S c vI (.rc b) [] st')):Le m (rn S c (xG S c b) fo fs st):=by rw[om h];exact B
def U7{α:Type}{n:Nat}{fo fo':Fo}{fs fs':Z3}{st:St}{A:aZ α->St}{o:aZ α}{f:α->aZ γ}(h:gQ S c n fo fs st=some (fo',fs',A o))
 (B:∀x,o=some x->Le ((f x).bind e) (rn S c Q fo' fs' (A (some x)))):Le ((o.bind f).bind e) (rn S c Q fo fs st):=by
 rw[om h]
 cases o with
 |none=>exact Le.none _|some x=>exact B x rfl
def Ws{T:pR}{f:Zk}{rf:RF}{az:Zu}{m:aZ Zu}(B:T f=some rf)(G:az.length<=rf.na)(h:Le m (rn S (cW S T) (qu rf.rs) (.rc rf.body) [] (start (az.map .v) []))):Le m (nj (cW S T) f az):=by rw[Q6 B az G];exact h
end
section
variable{α:Type}[br α]
abbrev cv(x:α):SV:=.v (enc x)
abbrev cp(x:α):SV:=.v (.fptr (cells x))
abbrev bx(x:α):bE:=.box ((cells x).map .v)
end
structure kC(S:Sys)(c:bZ){α δ:Type}(fn:FuncId)(A:α->List V)(E:δ->List V)(p:α->Option δ)(sc:Bool):Prop where
 k:S.E.keep fn=false
 h:∀z,Le ((p z).bind λr=>some (E r)) (nj c fn (A z))
 s:sc=true->∀r,(result (E r)).scalar=true
section
variable{S:Sys}{c:bZ}{β γ δ α:Type}{Q:Out×St->aZ β}{e:γ->aZ β}{fo:Fo}{fs:Z3}{st0:St}{l:Zy}{d:aZ Nat}{gd:aZ (Nat×Zl)}{now:Zl}{az:Z4}{dd:Zv}
abbrev rj(S:Sys)(c:bZ)(Q:Out×St->aZ β)(dr:Bool)(fr:aY Nat)(d:aZ Nat)(k:K)(l:aY RO)(fs:aY Fm)(dd:aY Nat)(st:St):aZ β:=rn S c Q (.ops dr (if dr then(match k with|.p _|.r _=>fr|_=>match d with|some d=>d::fr|none=>fr)else fr) l) fs (oZ dd st)
def EN(fr:Zv)(k:K):qE fr ⟨d,gd,now,k,az,[],[]⟩=(match k with|.p _|.r _=>fr|_=>match d with|some d=>d::fr|none=>fr):=by cases k<;>cases d<;>rfl
def Bk{n:Nat}{dr:Zl}{fr:Zv}{q:Zy}{fs':Z3}{st:St}{k:K}{m:aZ δ}{g:δ->St}{f:δ->aZ γ}
 (B:gQ S c n fo fs st0=some (.ops dr fr q,fs',st))(G:q=⟨d,gd,now,k,az,dd,[]⟩::l)(a:wanted st.g gd=some true)
 (J:Le (m.bind λx=>some (g x)) (fG S c dr fr ⟨d,none,now,k,az,[],[]⟩ st))
 (h:∀x,m=some x->Le ((f x).bind e) (rj S c Q dr fr d k l fs' dd (g x))):Le ((m.bind f).bind e) (rn S c Q fo fs st0):=
 Wv B G a J (λx u=>by rw[EN];grind)
def ql{n:Nat}{dr:Zl}{fr:Zv}{q:Zy}{fs':Z3}{st st':St}{k:K}{m:aZ β}
 (B:gQ S c n fo fs st0=some (.ops dr fr q,fs',st))(G:q=⟨d,gd,now,k,az,dd,[]⟩::l)(a:wanted st.g gd=some true)
 (J:fG S c dr fr ⟨d,none,now,k,az,[],[]⟩ st=some st')(h:Le m (rj S c Q dr fr d k l fs' dd st')):Le m (rn S c Q fo fs st0):=
 QG B G a J (by rw[EN];omega)
section
variable[br α]
def Pw(n:Nat)(dr:Zl)(fr:Zv)(q:Zy)(fs':Z3)(st:St)(k:Zs){a:Nat}{s:Sl α}{i:Int}{f:α->aZ γ}(G:q=⟨d,gd,now,.p (.idxS a),az,dd,[]⟩::l)
 (B:(gQ S c n fo fs st0,wanted st.g gd,bV S.N st.g az,a)=(some (.ops dr fr q,fs',st),some true,some [.v (ck s),.v (.int k i)],br.size α))
 (h:∀x,idx s i=some x->Le ((f x).bind e) (rj S c Q dr fr d (.p (.idxS a)) l fs' dd (c6 st d (cp x)))):Le (((idx s i).bind f).bind e) (rn S c Q fo fs st0):=by
 simp at B;exact Bk B.1 G B.2.1 (Le.of_eq (P0 B.2.2.1 B.2.2.2)) h
def UP(n:Nat)(dr:Zl)(fr:Zv)(q:Zy)(fs':Z3)(st:St)(s:Sl α){m:aZ β}(G:q=⟨d,gd,now,.p .lenSl,az,dd,[]⟩::l)
 (B:(gQ S c n fo fs st0,wanted st.g gd,bV S.N st.g az)=(some (.ops dr fr q,fs',st),some true,some [.v (ck s)]))
 (h:Le m (rj S c Q dr fr d (.p .lenSl) l fs' dd (c6 st d (.v (.int .i64 s.l.length))))):Le m (rn S c Q fo fs st0):=by
 simp at B;exact ql B.1 G B.2.1 (Ql B.2.2) h
end
section
variable{q:Zy}{fs':Z3}
end
def HG(m:Tb bE)(n:Nat)(l:Zu):nX (i_ m n) (l.map .v)=some l:=by rw[<-(AS m n).2,wm]
variable{A:α->Zu}{E:δ->Zu}{p:α->aZ δ}{fn:Zk}{sc:Zl}
end
abbrev iv(n:Int):SV:=.v (.int .i64 n)
abbrev bv(b:Bool):SV:=.v (.bool b)
abbrev len{α:Type}(s:Sl α):Int:=((List.length (Sl.l s):Nat):Int)
abbrev o1(d:Nat)(a:Arg)(dd:aY Nat):RO:=⟨some d,none,false,.p .id,[a],dd,[]⟩
abbrev o2(d:Nat)(k:K)(az:aY Arg)(dd:aY Nat):RO:=⟨some d,none,false,k,az,dd,[]⟩
abbrev o3(d s:Nat)(b:Bool)(k:K)(az:aY Arg)(dd:aY Nat):RO:=⟨some d,some (s,b),false,k,az,dd,[]⟩
def IV(a b:a_):Zl:=[a.proc,a.index]==[b.proc,b.index]
section
variable{α:Type}[br α]
def vS(h:br.agg α=false)(a:α):cells a=[enc a]:=by
 have u:(cells a).length=1:=by rw[show(cells a).length=_ from br.len a,br.plain h]
 unfold enc;rw[if_neg (by simp[h])];match hc:cells a,u with|[x],_=>rfl
def xd(h:br.agg α=true)(a:α):enc a=.agg (cells a):=by unfold enc;grind
def iu(a:α):V.good (enc a)=true:=by have h:V.cr (cells a)=true:=br.good a;cases u:br.agg α with|true=>rw[xd u];exact h|false=>rw[vS u]at h;simp[V.cr]at h;omega
def kU(s:Sl α):V.one (enc s)=true:=EI s
def PC(s:α)(h:br.agg α=false):V.one (enc s)=true:=by have:=br.one s;rw[show br.cells s=cells s from rfl,vS h]at this;grind
end
instance{α:Type}[br α]:br (aZ α)where
 cells o:=[match o with|none=>.gW|some x=>.fptr (cells x)]
 agg:=false
 size:=1
 len _:=rfl
 good o:=by cases o with|none=>rfl|some x=>simp only[V.cr,V.good,Bool.and_true];exact br.good x
 one o:=by cases o<;>rfl
 plain _:=rfl
structure U8 where
 v:Int
 deriving Inhabited,DecidableEq
instance:br U8 where
 cells n:=[.int .u8 n.v]
 agg:=false
 size:=1
 len _:=rfl
 good _:=rfl
 one _:=rfl
 plain _:=rfl
structure WX where
 v:Int
 deriving Inhabited,DecidableEq
instance:br WX where
 cells n:=[.int .u64 n.v]
 agg:=false
 size:=1
 len _:=rfl
 good _:=rfl
 one _:=rfl
 plain _:=rfl
structure Xl where
 v:Int
 deriving Inhabited,DecidableEq
instance:br Xl where
 cells n:=[.int .u32 n.v]
 agg:=false
 size:=1
 len _:=rfl
 good _:=rfl
 one _:=rfl
 plain _:=rfl
structure Xm where
 v:Int
 deriving Inhabited,DecidableEq
instance:br Xm where
 cells n:=[.int .i32 n.v]
 agg:=false
 size:=1
 len _:=rfl
 good _:=rfl
 one _:=rfl
 plain _:=rfl
structure qp(S:Sys)(c:bZ){α δ:Type}(g:FuncId)(w e:List V)(A:α->List V)(R:δ->List V)(p:α->Option δ)(b:Bool):Prop where
 f:kC S c g (λz=>w++A z++e) R p b
section
variable{S:Sys}{c:bZ}{β γ δ α:Type}{Q:Out×St->aZ β}{e:γ->aZ β}{fo:Fo}{fs:Z3}{st0:St}{l:Zy}{d:aZ Nat}{gd:aZ (Nat×Zl)}{now:Zl}{az:Z4}{dd:Zv}
def kK{α:Type}[br α](a:α):V.cells (enc a)=cells a:=by cases u:br.agg α with|true=>rw[xd u];rfl|false=>have b:=PC a u;rw[vS u];cases h:enc a<;>first|rfl|(rw[h]at b;cases b)
def oH{α:Type}[br α](a:α):(cells a).all V.one=true:=br.one a
def eV{α:Type}[br α](a:α):(cells a).length=br.size α:=br.len a
def Ast[br α](n:Nat)(dr:Zl)(fr:Zv)(q:Zy)(fs':Z3)(st:St)(u o:Nat)(x:α)(cs B:Zw){a:Nat}{m:aZ β}(J:q=⟨d,gd,now,.l (.store a),az,dd,[]⟩::l)
 (G:(gQ S c n fo fs st0,wanted st.g gd,bV S.N st.g az,bh st.m u,(!dr||now),a,ble (o+a) cs.length,cs.take o++(cells x).map .v++cs.drop (o+a))=(some (.ops dr fr q,fs',st),some true,some [.ptr u o,cv x],some (.box cs),true,br.size α,true,B))
 (h:Le m (rj S c Q dr fr d (.l (.store a)) l fs' dd (c6 {st with m:=bH st.m u (.box B)} d (.v .undef)))):Le m (rn S c Q fo fs st0):=by
 simp only[ζc]at G;have⟨b,w,z,C,D,I,L,O⟩:=G;refine ql b J w ?_ h;rw[uQ,z];subst I;have T:=Nat.le_of_ble_eq_true L;simp only[ζb,D,if_true,mw,C,putCells,kK,eV,oH,T,and_self,O,map_some]
def yZ{α:Type}[br α]:∀(xs:aY α)(pre:Zt)(B:Zt),B.length=xs.length->eS (br.size α) (pre++B) ((range' pre.length xs.length).zip (xs.map enc))=some (pre++rows xs)
 |[],pre,B,h=>by have:=List.eq_nil_of_length_eq_zero h;subst this;rfl|x::xs,pre,s::B,h=>by simp only[length_cons,List.range'_succ,map_cons,List.zip_cons_cons,eS,kK,eV,oH];have:=yZ xs (pre++[cells x]) B Zd;simp only[ζi,length_cons,length_nil]at this;have e:(pre++s::B).set pre.length (cells x)=pre++[cells x]++B:=Zc;rw[e,this];simp[rows]
def Xd[br α](n:Nat)(dr:Zl)(fr:Zv)(q:Zy)(fs':Z3)(st:St)(xs:aY α){u a ln:Nat}{zero:Zu}{ix:Zv}{m:aZ β}(G:q=⟨some u,gd,now,.a (.buildSl a ln zero ix),az,dd,[]⟩::l)
 (J:st.new u=true)(B:(gQ S c n fo fs st0,wanted st.g gd,bV S.N st.g az,a,ln,ix)=(some (.ops dr fr q,fs',st),some true,some ((xs.map enc).map .v),br.size α,xs.length,range' 0 xs.length))
 (h:Le m (rj S c Q dr fr (some u) (.a (.buildSl a ln zero ix)) l fs' dd {st with g:=bH st.g u (.own u),m:=bH st.m u (cB (.row xs))})):Le m (rn S c Q fo fs st0):=by
 simp only[ζc]at B;have⟨b,w,z,C,D,I⟩:=B;subst C D I;refine ql b G w ?_ h;rw[vW,z];simp only[ζb,J,mI,pz,List.length_range',length_map];have:=yZ xs [] (replicate xs.length zero) Zc
 simp at this;rw[this];rfl
def Ww[br α](n:Nat)(dr:Zl)(fr:Zv)(q:Zy)(fs':Z3)(st:St)(x:α)(vs:Zu){z:Zu}{pl:aY (Nat×Nat)}{m:aZ β}(G:q=⟨d,gd,now,.p (.build z pl),az,dd,[]⟩::l)
 (J:kn z pl vs=some (cells x))(O:br.agg α=true)
 (B:(gQ S c n fo fs st0,wanted st.g gd,bV S.N st.g az)=(some (.ops dr fr q,fs',st),some true,some (vs.map .v)))
 (h:Le m (rj S c Q dr fr d (.p (.build z pl)) l fs' dd (c6 st d (cv x)))):Le m (rn S c Q fo fs st0):=by
 simp at B;refine ql B.1 G B.2.1 (BV B.2.2 rfl ?_) h;unfold jy;rw[pz];simp only[Pb,J,map_some];show some (SV.v (.agg (cells x)))=some (.v (enc x));rw[xd O]
section
variable[br α]
def WJ(n:Nat)(dr:Zl)(fr:Zv)(q:Zy)(fs':Z3)(st:St)(G J:Zl)(O:Zu){g:Nat}{s:Sl α}{a b:Z6}{f:Sl α->aZ γ}(U:q=⟨d,gd,now,.p (.slice g G J),az,dd,[]⟩::l)
 (B:(gQ S c n fo fs st0,wanted st.g gd,bV S.N st.g az,me G J O,g)=(some (.ops dr fr q,fs',st),some true,some (.v (ck s)::O.map .v),some (a,b),br.size α))
 (h:∀x,fN s a b=some x->Le ((f x).bind e) (rj S c Q dr fr d (.p (.slice g G J)) l fs' dd (c6 st d (.v (ck x))))):Le (((fN s a b).bind f).bind e) (rn S c Q fo fs st0):=by
 simp at B;refine Bk B.1 U B.2.1 (Le.of_eq ?_) h;have w:=B.2.2.1;unfold fG lN;simp[wanted,fQ,w];have u:jy S.N st.m (.slice g G J) ((ck s::O).map .v)=(fN s a b).bind λx=>some (.v (ck x)):=by unfold jy;rw[pz];simp[bJ,B.2.2.2.1,Lp s a b g B.2.2.2.2];cases fN s a b<;>rfl
 simp at u⊢;rw[u];cases fN s a b<;>rfl
def oq(s:Sl α)(B G:Z6):aZ (Sl α):=
 match s with
 |.nil|.emp=>none|.row x|.part x=>(dR x.length B G).map λ(l,h)=>.part ((x.take h).drop l)
def V1(n:Nat)(fr:Zv)(q:Zy)(fs':Z3)(st:St)(G J:Zl)(u:Nat)(O:Zu){t d:Nat}{s:Sl α}{a b:Z6}{f:Sl α->aZ γ}(W:q=⟨some t,gd,now,.p (.slice d G J),az,dd,[]⟩::l)
 (U:St.new {st with m:=eo u st.m} t=true)(B:(gQ S c n fo fs st0,wanted st.g gd,bV S.N st.g az,me G J O,bh st.m u,d)=(some (.ops false fr q,fs',st),some true,some (.own u::O.map .v),some (a,b),some (cB s),br.size α))
 (h:∀x,oq s a b=some x->Le ((f x).bind e) (rj S c Q false fr (some t) (.p (.slice d G J)) l fs' dd {st with g:=bH st.g t (.own t),m:=bH (eo u st.m) t (cB x)})):Le (((oq s a b).bind f).bind e) (rn S c Q fo fs st0):=by
 simp at B;refine Bk B.1 W B.2.1 (Le.of_eq ?_) h;have⟨_,_,z,w,C,D⟩:=B;subst D;unfold fG lN;simp[wanted,fQ,z,zk,pz,C,w]
 cases s with
 |nil=>simp[oq,cB,Sl.k,cD]|emp=>simp[oq,cB,Sl.k,cD]|row x=>
  simp[cB,Sl.k,Sl.l,cD,oq,gI,w]
  cases dR x.length a b with
  |none=>rfl|some r=>simp[U,c6,rows,map_drop]
 |part x=>
  simp[cB,Sl.k,Sl.l,cD,oq,gI,w]
  cases dR x.length a b with
  |none=>rfl|some r=>simp[U,c6,rows,map_drop]
def t_(n:Int)(a:α):aZ (Sl α):=if 0<=n/\n<=2147483648 then some (if n=0 then .row []else .part [])else none
def WL(n:Nat)(dr:Zl)(fr:Zv)(q:Zy)(fs':Z3)(st:St){u:Nat}{a:Nat}{zero:Zu}{i:Int}{z:α}{f:Sl α->aZ γ}(J:q=⟨some u,gd,now,.a (.makeSl a zero),az,dd,[]⟩::l)
 (O:st.new u=true)(G:(gQ S c n fo fs st0,wanted st.g gd,bV S.N st.g az,a)=(some (.ops dr fr q,fs',st),some true,some [.v (.int .i64 0),.v (.int .i64 i)],br.size α))
 (h:∀B,t_ i z=some B->Le ((f B).bind e) (rj S c Q dr fr (some u) (.a (.makeSl a zero)) l fs' dd {st with g:=bH st.g u (.own u),m:=bH st.m u (cB B)})):Le (((t_ i z).bind f).bind e) (rn S c Q fo fs st0):=by
 simp at G;have⟨d,C,D,I⟩:=G;subst I;refine Bk d J C (Le.of_eq ?_) h;rw[vW,D];simp only[ζb,O,if_true,mI,true_and,t_]
 by_cases w:0<=i/\i<=2147483648
 .rw[if_pos w,if_pos ⟨Int.le_refl 0,w⟩]
  by_cases b:i=0
  .subst b;rfl
  have:¬0=i:=λh=>b h.symm
  simp[if_neg b,if_neg this];rfl
 grind
end
end
structure bU(n:Nat)(α:Type)where
 l:List α
 len:l.length=n
def OW{α:Type}[br α](l:aY α):(l.map (cells (α:=α))).flatten.length=l.length*br.size α:=by induction l with|nil=>simp|cons a l u=>simp[u,eV,add_mul,Nat.add_comm]
def LA{α:Type}[br α](l:aY α):V.cr (l.map (cells (α:=α))).flatten=true:=by induction l with|nil=>rfl|cons a l u=>have h:∀(x y:Zu),V.cr x=true->V.cr y=true->V.cr (x++y)=true:=(by intro x;induction x with|nil=>grind|cons b x w=>intro y c z;simp[V.cr]at c⊢;grind);exact h _ _ (br.good a) u
instance{n:Nat}{α:Type}[br α]:br (bU n α)where
 cells a:=(a.l.map cells).flatten
 agg:=true
 size:=n*br.size α
 len a:=by rw[OW,a.len]
 good a:=LA a.l
 one a:=by have:∀l:aY α,(l.map (cells (α:=α))).flatten.all V.one=true:=(by intro l;induction l with|nil=>rfl|cons a l u=>simp only[map_cons,flatten_cons,List.all_append,u,oH,Bool.and_self]);exact this a.l
 plain h:=by cases h
def bU.EO(n:Nat){α:Type}(z:α):bU n α:=⟨replicate n z,Zc⟩
def bU.at{n:Nat}{α:Type}(a:bU n α)(i:Int):aZ α:=if 0<=i then a.l[i.toNat]?else none
def bU.set{n:Nat}{α:Type}(a:bU n α)(i:Int)(x:α):bU n α:=⟨a.l.set i.toNat x,by simp[a.len]⟩
def pa{n:Nat}{α:Type}[br α](a:bU n α)(i:Int):Zu:=(cells a).drop (i.toNat*br.size α)
def bU.uM{n:Nat}{α:Type}{a:bU n α}{i:Int}{x:α}(h:a.at i=some x):0<=i/\i.toNat<n/\a.l[i.toNat]?=some x:=by
 unfold bU.at at h;split at h;next u=>refine⟨u,?_,h⟩;have:=(ζe.1 h).1;rw[<-a.len];simp_all
 simp_all
def E9{α:Type}[br α]:∀(l:aY α)(k:Nat),((l.map (cells (α:=α))).flatten).drop (k*br.size α)=((l.drop k).map (cells (α:=α))).flatten
 |[],k=>Zc|a::l,0=>Zc|a::l,k+1=>by have h:=eV a;rw[map_cons,flatten_cons,List.drop_succ_cons,<-E9 l k,add_mul,one_mul,Nat.add_comm,<-h,List.drop_length_add_append]
def AA{n:Nat}{α:Type}[br α]{a:bU n α}{i:Int}{x:α}(h:a.at i=some x):∃r,pa a i=cells x++r:=by have⟨b,B,w⟩:=bU.uM h;have⟨u,z⟩:=ζe.1 w;refine⟨((a.l.drop (i.toNat+1)).map cells).flatten,?_⟩;show((a.l.map (cells)).flatten).drop (i.toNat*br.size α)=_;rw[E9,List.drop_eq_getElem_cons u,map_cons,flatten_cons,z]
section
variable{S:Sys}{c:bZ}{β γ δ α:Type}{Q:Out×St->aZ β}{e:γ->aZ β}{fo:Fo}{fs:Z3}{st0:St}{l:Zy}{d:aZ Nat}{gd:aZ (Nat×Zl)}{now:Zl}{az:Z4}{dd:Zv}
section
variable{N:Nat}[br α]
def Vg(n:Nat)(dr:Zl)(fr:Zv)(q:Zy)(fs':Z3)(st:St)(k:Zs){ln b:Nat}{a:bU N α}{i:Int}{f:α->aZ γ}(G:q=⟨d,gd,now,.p (.idxA ln b),az,dd,[]⟩::l)
 (B:(gQ S c n fo fs st0,wanted st.g gd,bV S.N st.g az,b,ln)=(some (.ops dr fr q,fs',st),some true,some [cp a,.v (.int k i)],br.size α,N))
 (h:∀x,a.at i=some x->Le ((f x).bind e) (rj S c Q dr fr d (.p (.idxA ln b)) l fs' dd (c6 st d (.v (.fptr (pa a i)))))):Le (((a.at i).bind f).bind e) (rn S c Q fo fs st0):=by
 simp at B;have⟨j,w,z,C,D⟩:=B;subst C D;refine Bk j G w ?_ h;intro r g;have⟨x,I,g⟩:=ζg.1 g;have⟨g1,g2,_⟩:=bU.uM I;rw[BV z rfl ?_]
 .omega
 rw[xP];simp[bJ,wz];have u:i.toNat*br.size α<=(cells a).length:=by rw[eV];exact Nat.mul_le_mul_right _ (Nat.le_of_lt g2)
 rw[if_pos ⟨g1,Za⟩,if_pos u]
 rfl
def WB(n:Nat)(dr:Zl)(fr:Zv)(q:Zy)(fs':Z3)(st:St)(a:bU N α)(i:Int)(o:Nat)(x:α)(G:a.at i=some x){k:Nat}{m:aZ β}(J:q=⟨d,gd,now,.p (.fieldAddr k),az,dd,[]⟩::l)
 (B:(gQ S c n fo fs st0,wanted st.g gd,bV S.N st.g az,ble (o+k) (br.size α))=(some (.ops dr fr q,fs',st),some true,some [.v (.fptr ((pa a i).drop o))],true))
 (h:Le m (rj S c Q dr fr d (.p (.fieldAddr k)) l fs' dd (c6 st d (.v (.fptr ((pa a i).drop (o+k))))))):Le m (rn S c Q fo fs st0):=by
 simp only[ζc]at B;have⟨b,u,w,z⟩:=B;refine ql b J u (BV w rfl ?_) h;have C:=Nat.le_of_ble_eq_true z;have⟨r,e⟩:=AA G;have D:(pa a i).length>=br.size α:=by rw[e,ζi,eV];omega
 rw[GO,FK,if_pos Zd,drop_drop]
 rfl
def U5(n:Nat)(dr:Zl)(fr:Zv)(q:Zy)(fs':Z3)(st:St)(a:bU N α)(i:Int)(o:Nat)(x:α)(J:a.at i=some x){b:Nat}{ag:Zl}{v:V}(j:(cut (cells x) o b).bind (mk ag)=some v)(B:V){m:aZ β}(O:q=⟨d,gd,now,.r (.load b ag),az,dd,[]⟩::l)
 (G:(gQ S c n fo fs st0,wanted st.g gd,bV S.N st.g az,v)=(some (.ops dr fr q,fs',st),some true,some [.v (.fptr ((pa a i).drop o))],B))
 (h:Le m (rj S c Q dr fr d (.r (.load b ag)) l fs' dd (c6 st d (.v B)))):Le m (rn S c Q fo fs st0):=by
 simp at G;obtain⟨f,z,C,rfl⟩:=G;refine ql f O z ?_ h;rw[xJ,C];have e:eH fr [SV.v (.fptr ((pa a i).drop o))]=true:=rfl;simp[e,MK];have⟨r,g⟩:=AA J;rw[g];have hc:cut ((cells x++r).drop o) 0 b=cut (cells x) o b:=by cases u:cut (cells x) o b with|none=>grind|some w=>unfold cut at u⊢;dsimp only at u⊢;split at u;have e1:(List.drop 0 (List.drop o (cells x++r))).take b=((cells x).drop o).take b:=(by have D:b=0\/o<=(cells x).length:=(by grind);grind);grind;grind
 cases u:cut (cells x) o b with
 |none=>grind|some w=>grind
def T4(n:Nat)(dr:Zl)(fr:Zv)(q:Zy)(fs':Z3)(st:St)(cs:Zw){u a:Nat}{zero:Zu}{m:aZ β}(G:q=⟨some u,gd,now,.a (.alloc a zero),az,dd,[]⟩::l)
 (J:st.new u=true)(B:(gQ S c n fo fs st0,wanted st.g gd,bV S.N st.g az,zero.map SV.v)=(some (.ops dr fr q,fs',st),some true,some [],cs))
 (h:Le m (rj S c Q dr fr (some u) (.a (.alloc a zero)) l fs' dd {st with g:=bH st.g u (.ptr u 0),m:=bH st.m u (.box cs)})):Le m (rn S c Q fo fs st0):=by
 simp at B;have⟨b,w,z,C⟩:=B;subst C;refine ql b G w ?_ h;rw[vW,z];simp[J,mI]
def sU(d:Nat)(l:Zu):SV.dy d (l.map .v)=false:=by induction l with|nil=>rfl|cons a l u=>simp[SV.dy,SV.cM,u]
def s7{α:Type}[br α](d:Nat)(x:α):bE.cM d (bx x)=false:=sU d (cells x)
def Vm(n:Nat)(dr:Zl)(fr:Zv)(q:Zy)(fs':Z3)(st:St)(k:Zs)(u:Nat){ln b:Nat}{a:bU N α}{i:Int}{f:α->aZ γ}(G:q=⟨d,gd,now,.p (.idxA ln b),az,dd,[]⟩::l)
 (B:(gQ S c n fo fs st0,wanted st.g gd,bV S.N st.g az,b,ln,bh st.m u)=(some (.ops dr fr q,fs',st),some true,some [.ptr u 0,.v (.int k i)],br.size α,N,some (bx a)))
 (h:∀x,a.at i=some x->Le ((f x).bind e) (rj S c Q dr fr d (.p (.idxA ln b)) l fs' dd (c6 st d (.ptr u (i.toNat*br.size α+0))))):Le (((a.at i).bind f).bind e) (rn S c Q fo fs st0):=by
 simp at B;have⟨j,w,z,I,J,C⟩:=B;refine Bk j G w ?_ h;intro r g;have⟨x,D,g⟩:=ζg.1 g;have⟨g1,g2,_⟩:=bU.uM D;rw[BV z rfl ?_]
 .omega
 simp[jy,di,wk,C]
 grind
def OB{a:bU N α}{i:Int}{o:Nat}{x:α}(B:a.at i=some x){b:Nat}{ag:Zl}{v:V}(c:(cut (cells x) o b).bind (mk ag)=some v):tN b ag ((((cells a).map SV.v).drop (i.toNat*br.size α+o)).take b)=some (.v v):=by
 have⟨r,d⟩:=AA B;have e1:(((cells a).map SV.v).drop (i.toNat*br.size α+o)).take b=(((cells x).drop o).take b).map SV.v:=by have u:((cells x).drop o).take b=((cells x++r).drop o).take b:=(by cases hc:cut (cells x) o b with|none=>grind|some w=>unfold cut at hc;dsimp only at hc;split at hc;have C:b=0\/o<=(cells x).length:=(by grind);grind;simp_all);rw[u,<-d,pa,drop_drop,map_take,map_drop]
 rw[e1];unfold tN;cases hc:cut (cells x) o b with|none=>grind|some w=>rw[hc]at c;unfold cut at hc;dsimp only at hc;split at hc;rename_i z;cases hc;simp only[length_map,z];unfold mk at c;(cases ag with|true=>simp only[if_true]at c⊢;cases c;rw[pz]|false=>grind);simp_all
def VJ(n:Nat)(dr:Zl)(fr:Zv)(q:Zy)(fs':Z3)(st:St)(u:Nat)(a:bU N α)(i:Int)(o:Nat)(x:α)(J:a.at i=some x){e:Nat}{ag:Zl}{v:V}(f:(cut (cells x) o e).bind (mk ag)=some v)(B:V){m:aZ β}(O:q=⟨d,gd,now,.r (.load e ag),az,dd,[]⟩::l)
 (G:(gQ S c n fo fs st0,wanted st.g gd,bV S.N st.g az,v,bh st.m u,(!dr||now||eH fr [.ptr u 0]))=(some (.ops dr fr q,fs',st),some true,some [.ptr u (i.toNat*br.size α+o)],B,some (bx a),true))
 (h:Le m (rj S c Q dr fr d (.r (.load e ag)) l fs' dd (c6 st d (.v B)))):Le m (rn S c Q fo fs st0):=by
 simp only[ζc]at G;obtain⟨g,w,z,rfl,C,D⟩:=G;refine ql g O w ?_ h;rw[xJ,z];have b:(!dr||now||eH fr [SV.ptr u (i.toNat*br.size α+o)])=true:=D;simp only[ζb,b,WD,C,Nh];rw[OB J f];rfl
def MT{N:Nat}(a:bU N α)(i:Int)(y:α)(h:i.toNat<N):cells (a.set i y)=(cells a).take (i.toNat*br.size α)++cells y++(cells a).drop ((i.toNat+1)*br.size α):=by
 have key:∀(l:aY α)(k:Nat),k<l.length->((l.set k y).map (cells)).flatten=(l.map (cells)).flatten.take (k*br.size α)++cells y++(l.map (cells)).flatten.drop ((k+1)*br.size α):=by intro l;induction l with|nil=>grind|cons b l u=>intro k h;have w:=eV b;cases k with|zero=>grind|succ k=>simp only[map_cons,flatten_cons];have e1:(k+1)*br.size α=(cells b).length+k*br.size α:=Zd;have e2:(k+1+1)*br.size α=(cells b).length+(k+1)*br.size α:=Zd;rw[e2,List.drop_length_add_append];grind
 exact key a.l i.toNat (by rw[a.len];omega)
def Qc(n:Nat)(dr:Zl)(fr:Zv)(q:Zy)(fs':Z3)(st:St)(u:Nat)(a:bU N α)(i:Int)(o:Nat)(x:α)(B:a.at i=some x)(y:α)(v:V){b:Nat}(J:cells y=(cells x).take o++v.cells++(cells x).drop (o+b)){m:aZ β}(O:q=⟨d,gd,now,.l (.store b),az,dd,[]⟩::l)
 (G:(gQ S c n fo fs st0,wanted st.g gd,bV S.N st.g az,bh st.m u,(!dr||now),v.cells.length,v.cells.all V.one,ble (o+b) (br.size α))=(some (.ops dr fr q,fs',st),some true,some [.ptr u (i.toNat*br.size α+o),.v v],some (bx a),true,b,true,true))
 (h:Le m (rj S c Q dr fr d (.l (.store b)) l fs' dd (c6 {st with m:=bH st.m u (bx (a.set i y))} d (.v .undef)))):Le m (rn S c Q fo fs st0):=by
 simp only[ζc]at G;have⟨f,C,D,I,L,T,U,W⟩:=G;refine ql f O C ?_ h;rw[uQ,D];have Y:=Nat.le_of_ble_eq_true W;have⟨g1,g2,g3⟩:=bU.uM B;have X:i.toNat*br.size α+o+b<=((cells a).map SV.v).length:=by rw[length_map,eV];have:(i.toNat+1)*br.size α<=N*br.size α:=Nat.mul_le_mul_right _ g2;rw[add_mul,one_mul]at this;show _<=N*br.size α;omega
 simp only[ζb,L,if_true,mw,I,putCells,T,U,X,and_self,map_some];have⟨r,g⟩:=AA B;have e:((cells a).map SV.v).take (i.toNat*br.size α+o)++v.cells.map .v++((cells a).map SV.v).drop (i.toNat*br.size α+o+b)=(cells (a.set i y)).map SV.v:=by rw[MT a i y g2,J];have w:(cells a).drop (i.toNat*br.size α)=cells x++r:=g;have z:=eV x;have e1:(cells a).take (i.toNat*br.size α+o)=(cells a).take (i.toNat*br.size α)++(cells x).take o:=(by rw[List.take_add,w,List.take_append_of_le_length Za]);have e2:(cells a).drop (i.toNat*br.size α+o+b)=(cells x).drop (o+b)++(cells a).drop ((i.toNat+1)*br.size α):=(by have e3:(cells a).drop ((i.toNat+1)*br.size α)=r:=(by rw[add_mul,one_mul,<-drop_drop,w,<-z,List.drop_left]);rw[e3,Nat.add_assoc,<-drop_drop,w,List.drop_append_of_le_length Za]);rw[<-map_take,<-map_drop,e1,e2];grind
 rw[e]
end
def RR{α:Type}[br α]{m:Tb bE}{d:Nat}{x:α}{vs:Zu}(h:bh m d=some (bx x)):nX (i_ m 8) (.ptr d 0::vs.map .v)=some (.fptr (cells x)::vs):=by
 have a:i_ m 8 (.ptr d 0)=some (.fptr (cells x)):=by
  show(match bh m d with
   |some (.box w)=>match nX (i_ m 7) w with
    |some u=>if 0<=u.length then some (V.fptr (u.drop 0))else none|none=>none
   |_=>none)=_
  rw[h];simp[HG]
 simp[nX,a,HG]
def Vt(n:Nat){fo:Fo}{fs fs':Z3}{st0 st:St}{rs:aY RV}{e:γ->aZ Zu}{r:γ}(svs:Zw){ys:Zu}(B:nX (i_ st.m 8) svs=some ys)(h:(gQ S c n fo fs st0,kR st rs)=(some (.rt,fs',st),some svs))(G:e r=some ys):
 Le ((some r).bind e) (rn S c (qu rs) fo fs st0):=by
 simp at h;rw[om h.1];refine Le.of_eq ?_;simp[rn,qu,h.2,B]
 grind
abbrev Mo(κ ν:Type):=aY (κ×ν)
class Key(κ:Type)[br κ][DecidableEq κ]where
 kk:vE
 ok:∀a:κ,pL kk (enc a)=true
 eq:∀a b:κ,vL (enc a) (enc b)=some (decide (a=b))
instance:Key Int where
 kk:=.int .i64
 ok _:=rfl
 eq a b:=by show some (a==b)=some (decide (a=b));rw[show(a==b)=decide (a=b)from Bool.eq_iff_iff.2 Zc]
instance:Key a_ where
 kk:=.ints 2
 ok _:=rfl
 eq a b:=by have⟨p,i⟩:=a;have⟨q,j⟩:=b;simp only[vL,kH,hG,UD,map_some,length_cons,if_true,ζa];rw[Bool.eq_iff_iff];simp
section
variable{κ ν:Type}[br κ][DecidableEq κ][Key κ][br ν]
def jA(k:κ):Mo κ ν->aZ ν
 |[]=>none|(a,v)::r=>if k=a then some v else jA k r
def iD(m:Mo κ ν)(k:κ)(z:ν):ν:=(jA k m).getD z
def wK(m:Mo κ ν)(k:κ):Zl:=(jA k m).isSome
def kV(m:Mo κ ν)(k:κ)(v:ν):Mo κ ν:=
 match m with
 |[]=>[(k,v)]|(a,w)::r=>if k=a then(k,v)::r else(a,w)::kV r k v
def mC(m:Mo κ ν):aY (V×V):=m.map λx=>(enc x.1,enc x.2)
def iW(m:Mo κ ν):bE:=.mp (mC m)
def Av(k:κ):∀(m:Mo κ ν)(i:Nat),(gT (enc k) (mC m) i).map (Option.map (·.2))=some ((jA k m).map enc)
 |[],i=>rfl|(a,v)::r,i=>by simp only[mC,map_cons,gT,Key.eq,jA];by_cases h:k=a;grind;simp only[h];exact Av k r (i+1)
def NJ(k:κ)(v:ν)(m:Mo κ ν):pE (enc k) (enc v) (mC m)=some (mC (kV m k v)):=by
 unfold pE;have key:∀(m:Mo κ ν)(pre:aY (V×V))(i:Nat),pre.length=i->(match gT (enc k) (mC m) i with
  |some (some (j,_))=>some ((pre++mC m).set j (enc k,enc v))|some none=>some (pre++mC m++[(enc k,enc v)])|none=>none)=some (pre++mC (kV m k v)):=by
  intro m
  induction m with
  |nil=>simp[mC,gT,kV]|cons x r u=>
   have⟨a,w⟩:=x;intro pre i h;rw[show mC ((a,w)::r)=(enc a,enc w)::mC r from rfl];simp[gT,Key.eq,kV]
   by_cases b:k=a
   .subst b h;simp[mC]
   simp[b];rw[show mC ((a,w)::kV r k v)=(enc a,enc w)::mC (kV r k v)from rfl];have:=u (pre++[(enc a,enc w)]) (i+1) (by simp[h])
   grind
 have:=key m [] 0 rfl;grind
def Vn(n:Nat)(dr:Zl)(fr:Zv)(q:Zy)(fs':Z3)(st:St)(u:Nat)(mp:Mo κ ν)(k:κ)(z:ν){kk:vE}{B:V}{m:aZ β}(J:q=⟨d,gd,now,.r (.lookup kk B false),az,dd,[]⟩::l)
 (G:(gQ S c n fo fs st0,wanted st.g gd,bV S.N st.g az,bh st.m u,(!dr||now||eH fr [.mp u,cv k]),B,kk)=(some (.ops dr fr q,fs',st),some true,some [.mp u,cv k],some (iW mp),true,enc z,Key.kk κ))
 (h:Le m (rj S c Q dr fr d (.r (.lookup kk B false)) l fs' dd (c6 st d (cv (iD mp k z))))):Le m (rn S c Q fo fs st0):=by
 simp only[ζc]at G;have⟨a,C,D,I,L,O,T⟩:=G;subst O T;refine ql a J C ?_ h;rw[xJ,D];simp only[ζb,L,mo,I,iW,Key.ok];have:=Av k mp 0;simp[iD]
 cases U:gT (enc k) (mC mp) 0 with
 |none=>grind|some r=>
  rw[U]at this
  cases r with
  |none=>
   cases W:jA k mp with
   |none=>rfl|some w=>grind
  |some w=>
   cases W:jA k mp with
   |none=>grind|some X=>grind
def Ug(n:Nat)(dr:Zl)(fr:Zv)(q:Zy)(fs':Z3)(st:St)(u:Nat)(mp:Mo κ ν)(k:κ)(z:ν){kk:vE}{B:V}{m:aZ β}(J:q=⟨d,gd,now,.r (.lookup kk B true),az,dd,[]⟩::l)
 (G:(gQ S c n fo fs st0,wanted st.g gd,bV S.N st.g az,bh st.m u,(!dr||now||eH fr [.mp u,cv k]),B,kk)=(some (.ops dr fr q,fs',st),some true,some [.mp u,cv k],some (iW mp),true,enc z,Key.kk κ))
 (h:Le m (rj S c Q dr fr d (.r (.lookup kk B true)) l fs' dd (c6 st d (.v (.tup [enc (iD mp k z),.bool (wK mp k)]))))):Le m (rn S c Q fo fs st0):=by
 simp only[ζc]at G;have⟨a,C,D,I,L,O,T⟩:=G;subst O T;refine ql a J C ?_ h;rw[xJ,D];simp only[ζb,L,mo,I,iW,Key.ok];have:=Av k mp 0;simp[iD,wK]
 cases U:gT (enc k) (mC mp) 0 with
 |none=>grind|some r=>
  rw[U]at this
  cases r with
  |none=>
   cases W:jA k mp with
   |none=>rfl|some w=>grind
  |some w=>
   cases W:jA k mp with
   |none=>grind|some X=>grind
def Wt(n:Nat)(dr:Zl)(fr:Zv)(q:Zy)(fs':Z3)(st:St)(u:Nat)(mp:Mo κ ν)(k:κ)(v:ν){kk:vE}{m:aZ β}(G:q=⟨d,gd,now,.l (.mapUp kk),az,dd,[]⟩::l)
 (B:(gQ S c n fo fs st0,wanted st.g gd,bV S.N st.g az,bh st.m u,(!dr||now),kk)=(some (.ops dr fr q,fs',st),some true,some [.mp u,cv k,cv v],some (iW mp),true,Key.kk κ))
 (h:Le m (rj S c Q dr fr d (.l (.mapUp kk)) l fs' dd (c6 {st with m:=bH st.m u (iW (kV mp k v))} d (.v .undef)))):Le m (rn S c Q fo fs st0):=by
 simp only[ζc]at B;have⟨a,w,z,C,D,I⟩:=B;subst I;refine ql a G w ?_ h;rw[uQ,z];simp[D,mw,C,iW,Key.ok,NJ]
end
end
instance{n:Nat}:OfNat Arg n:=⟨.s n⟩
abbrev bI(o:BinOp):K:=.p (.bin (some .int) none o)
abbrev ix(n:Nat):K:=.p (.idxS n)
abbrev ld(n:Nat):K:=.r (.load n false)
abbrev lD(n:Nat):K:=.r (.load n true)
abbrev fa(n:Nat):K:=.p (.fieldAddr n)
abbrev ln:K:=.p .lenSl
abbrev su(n:Nat):K:=.l (.store n)
abbrev Iv(n:Nat)(x:Int):Nat×SV:=(n,iv x)
abbrev Bv(n:Nat)(x:Bool):Nat×SV:=(n,bv x)
abbrev Cv{α:Type}[br α](n:Nat)(x:α):Nat×SV:=(n,cv x)
abbrev Kv{α:Type}[br α](n:Nat)(x:α):Nat×SV:=(n,cp x)
abbrev Pv(n:Nat):Nat×SV:=(n,.ptr n 0)
abbrev Ov(n:Nat):Nat×SV:=(n,.own (2000+n))
abbrev Xb{α:Type}[br α](n:Nat)(x:α):Nat×bE:=(n,bx x)
abbrev Lb{α:Type}[br α](n:Nat)(x:Sl α):Nat×bE:=(n,cB x)
abbrev on(d:Nat)(k:K)(az:aY Arg)(dd:aY Nat):RO:=⟨some d,none,true,k,az,dd,[]⟩
abbrev oz(k:K)(az:aY Arg)(dd:aY Nat):RO:=⟨none,none,false,k,az,dd,[]⟩
abbrev oy(k:K)(az:aY Arg)(dd:aY Nat):RO:=⟨none,none,true,k,az,dd,[]⟩
attribute [simp] Rj Sr Ss
def kC.yG{S:Sys}{T:pR}{f:Zk}{b:Zl}(B:T f=none)(a:S.E.keep f=false)(G:S.yG f []=some (.bool b)):
 kC S (cW S T) f (λ_:Unit=>[]) (λr:Zl=>[.bool r]) (λ_=>some b) true where
 k:=a
 h _:=by have h:=E0 (az:=[]) B a G;intro r c;cases c;unfold nj;rw[h];exact wm 8 [.bool b]
 s _ _:=rfl
def Wp{α:Type}(m:aZ α)(P:α->Prop):Prop:=∃a,m=some a/\P a
section
variable{α β:Type}{P Q:α->Prop}
def bf(a:α):Wp (some a) P↔P a:=⟨λh=>by have⟨b,e,p⟩:=h;cases e;exact p,λp=>⟨a,rfl,p⟩⟩
def Sj:Wp (none:aZ α) P↔False:=⟨λh=>(by have⟨b,e,p⟩:=h;cases e),λh=>False.elim h⟩
def dU{m:aZ β}{k:β->aZ α}:Wp (m.bind k) P↔Wp m λb=>Wp (k b) P:=by cases m with|none=>simp only[Option.bind_none,Sj]|some b=>simp only[ζb,bf]
def bP{t:Zl}{a b:aZ α}:Wp (bp t a b) P↔(t=true->Wp a P)/\(t=false->Wp b P):=by cases t<;>simp[bp]
def Wp.mono{m:aZ α}(h:Wp m P)(B:∀a,P a->Q a):Wp m Q:=let⟨a,e,p⟩:=h;⟨a,e,B a p⟩
def Wp.and{m:aZ α}(h:Wp m P)(B:Wp m Q):Wp m λa=>P a/\Q a:=by have⟨a,e,p⟩:=h;have⟨b,e2,q⟩:=B;rw[e]at e2;cases e2;exact⟨a,e,p,q⟩
def Wp.eq{m:aZ α}{a:α}(h:Wp m λx=>x=a):m=some a:=by obtain⟨b,e,rfl⟩:=h;exact e
end
section
variable{σ ε ρ:Type}
def iZ(step:σ->aZ (Fw σ ε ρ))(s:σ):bM step s=(step s).bind λw=>match w with
 |.n B=>bM step B|.x e=>some (.x e)|.r b=>some (.r b):=by
 have d:∀r,bM step s=some r->((step s).bind λw=>match w with
  |.n B=>bM step B|.x e=>some (.x e)|.r b=>some (.r b))=some r:=by
  intro r h;have⟨k,a⟩:=nQ.1 h
  cases k with
  |zero=>simp[jm]at a|succ k=>
   simp only[jm]at a
   cases u:step s with
   |none=>rw[u]at a;cases a|some w=>
    rw[u]at a
    cases w with
    |n B=>exact nQ.2 ⟨k,a⟩|x e=>exact a|r b=>exact a
 cases z:bM step s with
 |some r=>exact(d r z).symm|none=>
  cases c:((step s).bind λw=>match w with
  |.n B=>bM step B|.x e=>some (.x e)|.r b=>some (.r b))with
  |none=>rfl|some r=>
   exfalso
   cases u:step s with
   |none=>rw[u]at c;cases c|some w=>
    rw[u]at c;simp only[ζb]at c;have:bM step s=some r:=by cases w with|n B=>have⟨k,a⟩:=nQ.1 c;exact nQ.2 ⟨k+1,by simp only[jm,u];exact a⟩|x e=>exact nQ.2 ⟨1,by simp only[jm,u];exact c⟩|r b=>exact nQ.2 ⟨1,by simp only[jm,u];exact c⟩
    rw[z]at this;cases this
def QU(I:σ->Prop)(μ:σ->Nat)(G:ε->Prop)(J:ρ->Prop)(s:σ):Fw σ ε ρ->Prop
 |.n B=>I B/\μ B<μ s|.x e=>G e|.r b=>J b
def We(B:ε->Prop)(G:ρ->Prop):Fw Empty ε ρ->Prop
 |.x e=>B e|.r b=>G b
def NS{step:σ->aZ (Fw σ ε ρ)}(I:σ->Prop)(μ:σ->Nat)(B:ε->Prop)(G:ρ->Prop)(h:∀s,I s->Wp (step s) (QU I μ B G s)){s:σ}(J:I s):Wp (bM step s) (We B G):=by
 have key:∀n s,μ s<=n->I s->Wp (bM step s) (We B G):=by
  intro n
  induction n with
  |zero=>intro s D u;have⟨w,z,a⟩:=h s u;rw[iZ,z];cases w with|n C=>exact absurd a.2 Za|x e=>exact⟨_,rfl,a⟩|r b=>exact⟨_,rfl,a⟩
  |succ n L=>intro s D u;have⟨w,z,a⟩:=h s u;rw[iZ,z];cases w with|n C=>exact L C (by have:=a.2;omega) a.1|x e=>exact⟨_,rfl,a⟩|r b=>exact⟨_,rfl,a⟩
 exact key (μ s) s (Nat.le_refl _) J
def eX{γ:Type}{step:σ->aZ (Fw σ ε ρ)}{B:ε->aZ γ}{fr:ρ->aZ γ}{P:γ->Prop}(I:σ->Prop)(μ:σ->Nat){s:σ}(G:I s)
 (h:∀s,I s->Wp (step s) (QU I μ (λe=>Wp (B e) P) (λb=>Wp (fr b) P) s)):Wp ((bM step s).bind (Fw.elim B fr)) P:=by
 rw[dU];refine(NS I μ _ _ h G).mono ?_;intro w u
 cases w with
 |n a=>cases a|x e=>exact u|r b=>exact u
end
def KF{β γ δ:Type}{e:γ->aZ β}{m:aZ δ}{f:δ->aZ γ}{L:aZ β}(h:∀x,m=some x->Le ((f x).bind e) L):Le ((m.bind f).bind e) L:=by cases m with|none=>exact Le.none _|some x=>exact h x rfl
section
variable{S:Sys}{c:bZ}{β:Type}{Q:Out×St->aZ β}{fo:Fo}{fs:Z3}{st0:St}{l:Zy}{d:aZ Nat}{now:Zl}{az:Z4}{dd:Zv}
theorem Le.get{β:Type}{r:β}{L:aZ β}(h:Le (some r) L):L=some r:=h r rfl
def Kt{n:Nat}{fo fo':Fo}{fs fs':Z3}{st:St}(A:Zl->St){t:Zl}{m:aZ β}(B:t=true)(h:gQ S c n fo fs st=some (fo',fs',A t))(G:Le m (rn S c Q fo' fs' (A true))):Le m (rn S c Q fo fs st):=by rw[om h,B];exact G
def Kf{n:Nat}{fo fo':Fo}{fs fs':Z3}{st:St}(A:Zl->St){t:Zl}{m:aZ β}(B:t=false)(h:gQ S c n fo fs st=some (fo',fs',A t))(G:Le m (rn S c Q fo' fs' (A false))):Le m (rn S c Q fo fs st):=by rw[om h,B];exact G
def OQ{α:Type}[br α]{s:Sl α}{i:Int}{x:α}{r:β}{L:aZ β}(B:idx s i=some x)(h:Le (((idx s i).bind λ_=>some r).bind some) L):Le (some r) L:=by rw[B]at h;exact h
def Wh{n:Nat}{q:Zy}{fs':Z3}{st:St}{id:Nat}{vs:Zw}{xs:Zu}{B:Zt}{m:aZ β}
 (G:gQ S c n fo fs st0=some (.ops false [] q,fs',st))(J:q=⟨d,none,now,.c,az,dd,[]⟩::l)(O:bV S.N st.g az=some (.yl id::vs))(U:di vs=some xs)(W:st.want=xs::B)(Y:id=st.yid)
 (h:Le m (rn S c Q (.ops false [] l) fs' (oZ dd (c6 {st with want:=B} d (.v (.bool (st.more|| !B.isEmpty))))))):Le m (rn S c Q fo fs st0):=by
 refine QG G J rfl ?_ h;unfold fG;simp only[wanted,fQ,O,U,W,Y,if_true,and_self,Bool.false_eq_true,if_false]
def Ap(a:RC)(fs:Z3)(st:St):rn S c Q (.rc (.loop a)) fs st=(oa (cA S c a) st).bind (DS (mR S c Q fs) (mP S c Q fs) (λst=>Q (.ret,st))):=by show ki S c Q (.loop a) fs st=_;unfold ki;rw[Dl];rfl
def Rp{f:St->aZ (Out×St)}{st st':St}(h:f st=some (.norm,st')):oa f st=oa f st':=by
 have key:∀r,oa f st=some r↔oa f st'=some r:=λr=>by constructor;intro b;have⟨k,a⟩:=mM.1 b;(cases k with|zero=>simp[iX]at a|succ k=>simp only[iX,h]at a;exact mM.2 ⟨k,a⟩);intro b;have⟨k,a⟩:=mM.1 b;exact mM.2 ⟨k+1,by simp only[iX,h];exact a⟩
 cases u:oa f st with
 |none=>cases w:oa f st' with|none=>rfl|some r=>rw[(key r).2 w]at u;cases u
 |some r=>rw[(key r).1 u]
def Jx{f:St->aZ (Out×St)}{st st':St}{o:Out}(h:f st=some (o,st'))(B:o≠.norm):oa f st=some (o,st'):=by refine mM.2 ⟨1,?_⟩;cases o with|norm=>exact absurd rfl B|exit k=>simp only[iX,h]|ret=>simp only[iX,h]
def D5{a:RC}{fs:Z3}{st st':St}(h:rn S c some (.rc a) [] st=some (.norm,st')):rn S c Q (.rc (.loop a)) fs st=rn S c Q (.rc (.loop a)) fs st':=by rw[Ap,Ap,Rp (by rw[AO];exact h)]
def EH{a:RC}{fs:Z3}{st st':St}{k:Nat}(h:rn S c some (.rc a) [] st=some (.exit k,st')):rn S c Q (.rc (.loop a)) fs st=rn S c Q (.ex k) fs st':=by rw[Ap,Jx (by rw[AO];exact h) Zc];rfl
def EB{a:RC}{fs:Z3}{st st':St}(h:rn S c some (.rc a) [] st=some (.ret,st')):rn S c Q (.rc (.loop a)) fs st=Q (.ret,st'):=by rw[Ap,Jx (by rw[AO];exact h) Zc];rfl
end
def Qi:Out×St->aZ Unit
 |(.exit _,_)=>none|(_,st)=>if st.want.isEmpty then some ()else none
def Sys.bare(S:Sys):Sys:=⟨S.E,S.N,λ_ _ _=>none,λ_ _=>none,λ_=>none⟩
def nr:bZ:=λ_ _ _=>none
def Dc(B rest:Zt)(more:Zl):Prop:=more=true/\B=rest\/more=false/\B≠[]/\∃r,rest=B++r
def PR(S:Sys){f:Zk}{fi:FI}{nm:Zk->aZ Nat}{rf:RF}(O:S.E.ft f=some fi)(W:∀g s,nm g=some s->S.N s=g)(e:xK S.E nm fi rf){a b:Zu}{xs:Zt}(G:a.length+1+b.length<=rf.na)(U:rf.rs=[])
 (h:∀B more,Dc B xs more->∀yid,rn S.bare nr Qi (.rc rf.body) [] ⟨wT 0 (a.map .v++.yl yid::b.map .v),[],[],B,more,yid⟩=some ()):fE S f a b xs:=by
 have k:fE S.bare f a b xs:=Sn (S:=S.bare) (c:=nr) (fi:=fi) (nm:=nm) (rf:=rf) (λ_ _ h=>by cases h) (λ_ _ _ _ _ h=>by simp[nr]at h) (λ_ _ _ _ h=>by simp[Sys.bare]at h) O W e G U (λB more w yid=>by
  have d:=h B more w yid;change ki S.bare nr Qi rf.body [] _=some ()at d;rw[qa]at d;have⟨⟨o,st'⟩,z,u⟩:=ζg.1 d;refine⟨o,st',z,?_,?_,rfl⟩
  .rintro id rfl;simp[Qi]at u
  cases o<;>simp[Qi]at u<;>exact u)
 intro B more w yid J y Z C D H d z u I L;exact k B more w yid J ⟨y.wR,y.yield⟩ Z C D H d z u I L
open Classical in
def xB(P:Zk->Zu->Zu->Zt->Prop)(f:Zk)(a b:Zu):aZ Zt:=if h:∃u,P f a b u then some (Classical.choose h)else none
def Lr{P:Zk->Zu->Zu->Zt->Prop}{f:Zk}{a b:Zu}{xs:Zt}(h:P f a b xs)(d:∀ys,P f a b ys->ys=xs):xB P f a b=some xs:=by have c:∃xs,P f a b xs:=⟨xs,h⟩;unfold xB;rw[dif_pos c,d _ (choose_spec c)]
def KG{P:Zk->Zu->Zu->Zt->Prop}{f:Zk}{a b:Zu}{xs:Zt}(h:xB P f a b=some xs):P f a b xs:=by
 unfold xB at h;split at h;next c=>cases h;exact choose_spec c
 cases h
def UI{E:Env}{nm:Zk->aZ Nat}{f:Zk}{rf:RF}
 (h:((E.ft f).bind λfi=>(bL ⟨E,nm,fi.ntmps⟩ false fi.body).bind λc=>(fi.results.mapM (Aw E)).bind λrs=>some (c,rs,fi.ntmps))=some (erase rf.body,rf.rs,rf.na)):∃fi,E.ft f=some fi/\xK E nm fi rf:=by
 have⟨fi,a,w⟩:=ζg.1 h;have⟨c,z,B⟩:=ζg.1 w;have⟨rs,C,u⟩:=ζg.1 B;simp only[ζa,ζc]at u;obtain⟨rfl,rfl,D⟩:=u;exact⟨fi,a,z,C,D.symm⟩
def FR.o6{H:bl}{Z Z':Nat->Prop}{x y z:V}(h:FR H Z x z)(k:FR H Z' y z):x=y:=by have⟨n,u⟩:=yN x;have⟨m,w⟩:=yN y;have e1:=h.borrow (max n m) (xh (Nat.le_max_left _ _) u);have e2:=k.borrow (max n m) (xh (Nat.le_max_right _ _) w);rw[e1]at e2;exact Option.some.inj e2
open Classical in
def Ac(E:Env)(f:Zk)(az:Zu):aZ V:=if h:∃y,wD E f az y then some (Classical.choose h)else none
def MO{E:Env}{f:Zk}{az:Zu}{y:V}(h:Ac E f az=some y):wD E f az y:=by
 unfold Ac at h;split at h;next a=>cases h;exact choose_spec a
 cases h
def vU{E:Env}{f:Zk}{az:Zu}{y:V}(h:wD E f az y):Ac E f az=some y:=by have a:∃y,wD E f az y:=⟨y,h⟩;unfold Ac;rw[dif_pos a];have⟨n,z,H,Z,k1,k2,_⟩:=h;have⟨u,w,H',Z',k3,k4,_⟩:=choose_spec a;have e1:=(nC E (Nat.le_max_left n u)).go _ _ _ _ k1;have e2:=(nC E (Nat.le_max_right n u)).go _ _ _ _ k3;rw[e1]at e2;cases e2;rw[FR.o6 k4 k2]
def ID{E:Env}{f:Zk}{az:Zu}{y:V}(B:V.scalar y=true)(h:∃n H',run E n (.fn f) az []=some (y,H')):wD E f az y:=by have⟨n,H',h⟩:=h;exact⟨n,y,H',λ_=>False,h,.same _ (jH B),λ_ h=>h.elim,⟨λ_ _ _ h=>h.elim⟩⟩
end Go.VE
