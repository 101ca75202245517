/-
 BarrierDual says true for all arguments that together are of bulk at most 1048576, and they read behind the call as they read before: for every such argument, without a condition.
-/
import Derived.Test.YtddlogilhmloeadGreatDoorRows
import Derived.Test.YtddlogilhmloeadGreatDoorCards
import Derived.Test.YtddlogilhmloeadGreatDoorTie
import Derived.Deep.DeepHandedRow
import Derived.Test.YtddlogilhmloeadGreatDoorK1
import Derived.Test.YtddlogilhmloeadGreatDoorL1
set_option linter.all false
open Option renaming some→M,some→_h,none→G,none→_n,bind→H,bind→_l
open Bool renaming true→O,true→_k,false→U,false→_m
open Decidable renaming decide→_p
open List renaming length→W,length→_j
open Go.IntKind renaming i64→Z,i64→_o
open List renaming all_cons→c!,all_eq_true→M?,any_eq_true→J',getElem?_eq_none→j!,getElem?_map→Q?,getElem?_set→D?,getElem?_set_self→J?,getElem_mem→t?,length_cons→Z?,map_append→o!,map_cons→P?,map_singleton→i9,mem_append→M!,mem_cons_of_mem→C?,mem_of_getElem?→s?,mem_singleton→d!,range→B!,range_succ→A',replicate→w?,sum_cons→F!,take_add_one→a!,take_length→H?,take_succ_eq_append_getElem→T?
open Go.IntKind renaming wrap→y?
open Bool renaming false_eq_true→v?,or_eq_true→g!
open Classical renaming byContradiction→L?
open Nat renaming le_add_left→x!,le_refl→z?,le_trans→U?,zero_le→V?
open ByteArray renaming toList→S?
open Int renaming mul_comm→g9,zero_sub→B'
noncomputable section
open UInt8(ofNat)
open List(any_cons idxOf mem_cons mem_iff_getElem? mem_map mem_range)
open Nat(le)
open Bool(not_not)
open Nat(le)
open Nat(le)
open Nat(le)
open Nat(le)
namespace Go.VE
theorem q?{p:Prop}(h:p:=by kernel_rfl):p:=h
theorem FD{κ ν:Type}[DecidableEq κ]{m:Mo κ ν}{k B:κ}{v z:ν}:iM (mA m k v) B z=if B=k then v else iM m B z:=by unfold iM;induction m with|nil=>unfold mA lW;by_cases h:B=k<;>simp[h,lW]|cons a m C=>have⟨a,w⟩:=a;unfold mA;by_cases h:k=a;subst h;rw[J0 Y];by_cases u:B=k;simp[lW,u];simp[lW,u];rw[K' h];by_cases u:B=a;have:B≠k:=λe=>h (e▸u);simp[lW,u,Ne.symm h];simp only[lW,K' u];exact C
theorem IX:∀(l:SW)(r:U'),(l.foldl (λr n=>r.push (ofNat n.toNat)) r).data.toList=r.data.toList++l.map λn=>ofNat n.toNat
 |[],r=>f?|a::l,r=>by rw[List.foldl_cons,IX l];show(r.data.push _).toList++_=_;simp
theorem JG(l:SW):(lB l).data.toList=l.map λn=>ofNat n.toNat:=by unfold lB;rw[IX];rfl
def K0(l:SW):Prop:=∀x∈l,0<=x/\x<256
theorem aa7{a b:Int}(B:0<=a/\a<256)(D:0<=b/\b<256)(h:ofNat a.toNat=ofNat b.toNat):a=b:=by have:=_d UInt8.toNat h;simp[UInt8.toNat_ofNat']at this;omega
theorem KW:∀{a b:SW},K0 a->K0 b->(a.map λn=>ofNat n.toNat)=(b.map λn=>ofNat n.toNat)->a=b
 |[],[],_,_,_=>rfl|[],_::_,_,_,h=>by simp at h|_::_,[],_,_,h=>by simp at h|x::a,y::b,D,J,h=>by simp only[P?,List.cons.injEq]at h;rw[aa7 (D x f?) (J y f?) h.1,KW (λz B=>D z (C? _ B)) (λz B=>J z (C? _ B)) h.2]
theorem KR{a b:SW}(B:K0 a)(D:K0 b)(h:lB a=lB b):a=b:=KW B D (by rw[<-JG,<-JG,h])
theorem aaW{c:Zg}(h:K0 c.l)(D:c.l.length<=8):jN c=M (lB c.l):=by
 refine Wp.eq ?_;unfold jN;have b:∃r,xE (len c) (⟨0⟩:U8)=M r/\r.l=[]:=by unfold xE;rw[J0 ⟨by simp[len],by simp[len];omega⟩];refine⟨_,rfl,?_⟩;split<;>rfl
 have⟨r,b,u⟩:=b;rw[b,ζb];unfold jN.W1;refine eu c.l.length (λi(q:Sl U8×Int)=>q.2=(i:Int)/\q.1.l.map U8.v=c.l.take i) ⟨rfl,by rw[u];rfl⟩ ?_ ?_;rintro i ⟨o,_⟩ hi ⟨e,a⟩;simp only at e a;subst e;have w:o.l.length=i:=by have:=_d List.length a;simp at this;omega
 unfold jN.bk;rw[gy hi,bq,bC hi,ζb];have C:=h c.l[i] (t? hi);have⟨z,k1,k2⟩:=jk (s:=o) (x:=(⟨y? .u8 c.l[i]⟩:U8)) c?;rw[k1,ζb,bf];refine⟨cD i c?,?_⟩;show z.l.map U8.v=_;have B:y? .u8 c.l[i]=c.l[i]:=by simp[y?,IntKind.bits,IntKind.signed];omega
 rw[k2,o!,a,T? hi,i9,B];rintro⟨o,_⟩ ⟨e,a⟩;simp only at e a;subst e;unfold jN.bk;rw[gY,bt,bf];refine(bf _).2 ?_;unfold Ip;rw[a,H?]
section
variable{t:Z4}{A:bQ 200 bu}{L:aX SW}
theorem wG(b:VT t){c:SW}(a:Cons t A c):K0 c:=λx z=>by
 obtain⟨p,w,rfl⟩:=List.mem_iff_getElem.1 z;have u:p<W t.a?.l:=by rw[<-a.1.1];exact w
 have d:=a.1.2 p _ _ (ζd w) (ζd u);have B:=Tu b (ζd u);omega
def sQ(A:bQ 200 bu)(e:WF):aZ:=if e.kind=3 then(ag A e.d?).from_ else⟨0,0⟩
structure Gy(t:Trace)(A:bQ 200 bu)(x:cO):Prop where
 len:x.needs.l.length=t.a?.l.length
 row:∀(p:Nat)(P:bU)(s:Sl aZ),t.a?.l[p]?=some P->x.needs.l[p]?=some s->s.l=P.b?.l.map (sQ A)
theorem PD(c:Small t)(d:VT t)(a:eB t (bJ t) A){p k:Nat}{e:WF}(B:mJ t p k e)(J:e.kind=3):∃b,yK t e=M ((ag A e.d?).from_,b):=by
 have⟨q,j,y,I,L,o,y3,y4,y5⟩:=wz d a B J;have⟨Q,u,D⟩:=I;have S:=(ζe.1 u).1;have w:=(c.2 _ (s? u)).1;unfold yK;rw[y4,iJ,u,ζb];rw[FV (f:=λz=>z.kind==2&&z.d?==e.d?) (λz _=>by unfold uh;rw[nu];rfl) w,ζb];have C:place (λz:WF=>z.kind==2&&z.d?==e.d?) Q.b?.l=(j:Int):=by unfold place;rw[Ec (i:=j) (x:=y) (λi hi z T=>?_) D (by simp[L,o])];refine Bool.eq_false_iff.2 λh=>?_;simp only[ζh,_g]at h;have m:=a.snd _ (dV.2 ⟨q,i,⟨Q,u,T⟩,Y⟩:((⟨q,i+1⟩:aZ),z)∈bJ t) h.1;simp only[h.2,y5]at m;have:=_d aZ.index m;simp at this;omega
 rw[C,cD j (by have:=(ζe.1 D).1;omega),y5];exact⟨_,Y⟩
theorem Of(d:Small t)(e:VT t)(f:eB t (bJ t) A):Wp (i_ t) λq=>∃x,q=M x/\Gy t A x:=by
 have F:=e.few;unfold i_ i_.W1;refine eu (W t.a?.l) (λp(q:Int×Z4×cO)=>q.1=(p:Int)/\t=q.2.1/\q.2.2.needs.l.length=p/\∀(r:Nat)(P:bU)(s:Sl aZ),t.a?.l[r]?=M P->q.2.2.needs.l[r]?=M s->s.l=P.b?.l.map (sQ A)) ⟨Y,Y,Y,λr P s _ h=>by simp[Sl.l]at h⟩ ?_ ?_;rintro p ⟨_,_,x⟩ D ⟨e1,e2,a,C⟩;simp only at e1 e2 a C;subst e1;subst e2;unfold i_.bk;rw[gy D,bq,bC D,ζb];have j:=ζd D;have I:=(d.2 _ (t? D)).1;generalize t.a?.l[p]=P at j I;unfold i_.W2;refine eu (W P.b?.l) (λk(q:Sl aZ×Int×Z4×cO)=>q.2.1=(k:Int)/\t=q.2.2.1/\x=q.2.2.2/\q.1.l=(P.b?.l.take k).map (sQ A)) ⟨Y,Y,Y,Y⟩ ?_ ?_;rintro k ⟨l,_,_,_⟩ c ⟨e1,e2,e3,g⟩;simp only at e1 e2 e3 g;subst e1;subst e2;subst e3;have L:mJ t p k P.b?.l[k]:=⟨P,j,ζd c⟩;have N:W l.l=k:=by rw[g];simp;omega
 have J:∀n:aZ,n=sQ A P.b?.l[k]->Wp (i_.J3 l t.a? (len t.a?) (p:Int) P.b? (len P.b?) (k:Int) t n x) λw=>match w with
  |.n u=>u.2.1=((k+1:Nat):Int)/\t=u.2.2.1/\x=u.2.2.2/\u.1.l=(P.b?.l.take (k+1)).map (sQ A)|.x _=>False|.r _=>False:=λn m=>by
  unfold i_.J3;have⟨o,k1,k2⟩:=jk (s:=l) (x:=n) c?
  rw[k1,ζb,bf];refine⟨cD k c?,Y,Y,?_⟩
  show o.l=_;rw[k2,g,m,T? c,o!,i9]
 have J2:∀n:aZ,n=sQ A P.b?.l[k]->Wp (i_.J3 l t.a? (len t.a?) (p:Int) P.b? (len P.b?) (k:Int) t n x) λw=>∃u,w=.n u/\u.2.1=((k+1:Nat):Int)/\t=u.2.2.1/\x=u.2.2.2/\u.1.l=(P.b?.l.take (k+1)).map (sQ A):=λn m=>(J n m).mono λw S=>by cases w with|n u=>exact⟨u,rfl,S⟩|x _=>exact S.elim|r _=>exact S.elim
 unfold i_.bK;rw[gy c,bq,bC c,ζb,cn];constructor;intro z;have z:P.b?.l[k].kind=3:=by simpa using z
 have⟨b,X⟩:=PD d e f L z;rw[X,ζb];refine(J2 _ (by unfold sQ;rw[J0 z])).mono ?_;rintro _ ⟨u,rfl,h⟩;exact h;intro z;have z:¬P.b?.l[k].kind=3:=by simpa using z
 refine(J2 _ (by unfold sQ;rw[K' z])).mono ?_;rintro _ ⟨u,rfl,h⟩;exact h;rintro⟨l,_,_,_⟩ ⟨e1,e2,e3,g⟩;simp only at e1 e2 e3 g;subst e1;subst e2;subst e3;unfold i_.bK;rw[gY,bt,bf];have⟨o,k1,k2⟩:=jk (s:=x.needs) (x:=l) c?;show Wp (H (ec x.needs l) _) _;rw[k1,ζb,bf];refine⟨cD p c?,Y,by show W o.l=_;rw[k2];simp[a],λr Q s T B=>?_⟩;replace B:o.l[r]?=M s:=B;rw[k2]at B;by_cases i:r<p;rw[List.getElem?_append_left c?]at B;exact C r Q s T B;have y:r=p:=by have:=(ζe.1 B).1;simp at this;omega
 subst y;rw[List.getElem?_append_right c?,a,Nat.sub_self]at B;cases B;rw[j]at T;cases T;rw[g,H?];rintro⟨_,_,x⟩ ⟨e1,e2,a,C⟩;simp only at e1 e2 a C;subst e1;subst e2;unfold i_.bk;rw[gY,bt,bf];exact(bf _).2 ⟨x,Y,a,C⟩
theorem TI(E:Small t)(f:VT t)(g:eB t (bJ t) A)(B:dh t A L){x:cO}(J:Gy t A x){c:Zg}(d:Cons t A c.l){p:Nat}(hp:p<c.l.length):qR x c (p:Int)=M (_p (bump c.l p 1∈L)):=by
 have F:=d.1.1;have N:p<t.a?.l.length:=c?;have I:p<x.needs.l.length:=by rw[J.len];exact N
 have D:=ζd N;have a__:=ζd hp;have l:=d.1.2 p _ _ a__ D;have Y:=J.row p _ _ D (ζd I);have S:idx x.needs (p:Int)=M x.needs.l[p]:=bC I;have c__:idx c (p:Int)=M c.l[p]:=bC hp;refine Wp.eq ?_;unfold qR;rw[show _p ((p:Int)<0)=U from N' c?,bt,show _p ((p:Int)>=(len c))=U from N' (by simp[len];omega),ζb,bt,c__,ζb,S,ζb,ζb,Be a__];generalize x.needs.l[p]=s at Y S;generalize c.l[p]=a at *;generalize t.a?.l[p]=P at *;have m:s.l.length=P.b?.l.length:=by rw[Y];simp
 rw[cn];constructor;intro u;have u:(a:Int)>=s.l.length:=by simpa[len]using u
 rw[bf];refine(N' λh=>?_).symm;have h:=((B.mem _).1 h).1.2 p (a+1) P (by rw[J? hp]) D;omega;intro u;have u:¬(a:Int)>=s.l.length:=by simpa[len]using u
 have w:a.toNat<P.b?.l.length:=c?;have n:mJ t p a.toNat P.b?.l[a.toNat]:=⟨P,D,ζd w⟩;have T:=Cons.up f g d D a__ c?;have C:=B.mem (c.l.set p (a+1));have b__:HI t A c.l p↔(P.b?.l[a.toNat].kind=3->∃b,c.l[(ag A P.b?.l[a.toNat].d?).from_.proc.toNat]?=M b/\(ag A P.b?.l[a.toNat].d?).from_.index<=b):=by constructor;rintro⟨Q,e,x,X,J,i,z⟩;rw[D]at X;cases X;rw[a__]at J;cases J;rw[ζd w]at i;cases i;exact z;intro z;exact⟨P,_,a,D,a__,ζd w,z⟩
 rw[ζb,ζb,P_ l.1,Y,Q?,ζd w];generalize P.b?.l[a.toNat]=e at *;show Wp ((bg ((sQ A e).index==0) (M O) ((idx c (sQ A e).proc).bind λo=>M (_p ((sQ A e).index<=o))):aY X').bind λr=>M r) _;unfold sQ;by_cases z:e.kind=3;rw[J0 z];have⟨q,j,k,_,_,y,Q,X,_⟩:=zF f g n z;have W:q<c.l.length:=by have:=(ζe.1 X).1;omega
 rw[k];simp only;rw[show(((j:Int)+1)==0)=U from by simp;omega,bt,bC W,ζb,ζb,bf];refine decide_eq_decide.2 ?_;rw[C,<-T,b__,k];simp only[Int.toNat_natCast,ζd W];constructor;intro h _;exact⟨_,rfl,h⟩;intro h;have⟨b,v,h⟩:=h z;cases v;exact h;rw[K' z];simp only;rw[show((0:Int)==0)=O from rfl,bq,ζb,bf];refine(_a ?_).symm;rw[C,<-T,b__];exactλh=>_c h z
theorem OA(a:Small t)(b:VT t){c:Zg}(e:Cons t A c.l){p:Nat}(hp:p<W c.l):∃d:Zg,sA c (p:Int)=M d/\d.l=bump c.l p 1:=by have u:=DO a b e;have I:=u.1;have z:=ζd hp;have B:=u.2 c.l[p] (t? hp);unfold sA;have⟨r,C,w⟩:=BG (c:=c) c? c?;rw[C,ζb,pE (by rw[w];exact hp),ζb];unfold Sl.get;rw[w,z,ζb,ζb,fH _ c? c?];have⟨d,D,h⟩:=put_eq (s:=r) (p:=p) (x:=c.l[p]+1) (by rw[w];exact hp);rw[D];exact⟨d,Y,by rw[h,w,Be z]⟩
end
end Go.VE
namespace Go.VE
def zf(L D:aX SW)(i:Nat):X':=match L[i]?with
 |some c=>_p (c∈D)|none=>U
theorem R_{L D:aX SW}{i:Nat}{c:SW}(h:L[i]?=M c):zf L D i=_p (c∈D):=by unfold zf;rw[h]
section
variable{t:Z4}{A:bQ 200 bu}{L:aX SW}
theorem Lu(a:VT t)(B:dh t A L){c:Zg}(b:c.l∈L):jN c=M (lB c.l):=by have u:=a.few;have:=B.len b;exact aaW (wG a ((B.mem _).1 b)) c?
theorem Lt(a:VT t)(B:dh t A L){c d:SW}(b:c∈L)(hd:d∈L):lB c=lB d↔c=d:=⟨λh=>KR (wG a ((B.mem _).1 b)) (wG a ((B.mem _).1 hd)) h,λh=>by rw[h]⟩
theorem SX (hS:Small t) (hv:cm t=some true) (hV:VT t) (hM:eB t (bJ t) A) (B:dh t A L) (h5:L.length<=5000) (hN:0<L.length) {r:Sl (Sl Int)} (hc:mo t=some (r,0)) (hr:ins r=L) {l:Sl (Sl Int)} (hl:l.l.length<=5000) (hm:∀x∈l.l,x.l∈L) :
 Wp (eO t l) λq=>q.2=0/\∃m,q.1=⟨some m⟩/\∀(i:Nat) c,L[i]? = some c->(iM m (lB c) false=true↔pV L (zf L (ins l)) i):=by
 have hg:=AG.of B;have h8:=hV.few;have aa:r.l.length=L.length:=by rw[<-iT,hr]
 have ab:∀{i:Nat} (hi:i<r.l.length),L[i]? = some r.l[i].l:=λhi=>by rw[<-hr];exact sj hi
 have D:(len r:Int)=((L.length:Nat):Int):=by show ((r.l.length:Nat):Int)=_;rw[aa]
 unfold eO;rw[hv,ζb,bq,show decide ((len l)>5000)=false from N' (by simp[len];omega),bt]
 rw[zi (f:=λ_=>false) (λx hx=>by
  obtain⟨z,hz,y⟩:=oH.eq (ace hS hv hV hM x);have:z=true:=y.2 ((B.mem _).1 (hm x hx));unfold rM;rw[hz,this];rfl) c?,ζb,show (l.l.any λ_=>false)=false from by simp,bt]
 unfold mh;rw[hc,ζb,ζb];simp only;rw[show ((0:Int)==0)=true from rfl,bq,ey];refine(Of hS hV hM).mono λq ⟨x,hq,hx⟩=>?_
 subst hq;rw[ζb];unfold eO.W1;refine eu l.l.length (λj (q:Int×Mo ByteArray Bool)=>q.1=(j:Int)/\∀c∈L,(iM q.2 (lB c) false=true↔c∈(l.l.take j).map Sl.l)) ⟨rfl,λc hc=>by simp[iM,lW]⟩ ?_ ?_
 .rintro j ⟨_,m⟩ a__ ⟨e,h1⟩;simp only at e h1;subst e;unfold eO.bk;have J:=hm _ (List.getElem_mem a__);rw[gy a__,bq,bC a__,ζb,Lu hV B J,ζb,bf];refine⟨cD j c?,λc hc=>?_⟩
  show iM (mA m (lB l.l[j].l) true) (lB c) false=true↔_;rw[FD,List.take_succ_eq_append_getElem a__,List.map_append,List.mem_append,List.map_singleton,List.mem_singleton,<-h1 c hc]
  by_cases e:c=l.l[j].l
  .rw[J0 (by rw[e])];simp[e]
  rw[K' (λh=>e ((Lt hV B hc J).1 h))];simp[e]
 rintro⟨_,bad⟩ ⟨e,h1⟩;simp only at e h1;subst e;unfold eO.bk;rw[gY,bt,bf];show Wp (eO.W2 r x _ bad []) _;have F:∀(i:Nat) c,L[i]? = some c->iM bad (lB c) false=zf L (ins l) i:=λi c hi=>by
  rw[R_ hi,Bool.eq_iff_iff,h1 c (List.mem_of_getElem? hi),List.take_length,decide_eq_true_iff];rfl
 rw[D,fH _ c? c?]
 unfold eO.W2;refine eu L.length (λm (q:Int×Mo ByteArray Bool)=>q.1=(L.length:Int)-1-(m:Int)/\∀(k:Nat) c,L[k]? = some c->L.length-m<=k->(iM q.2 (lB c) false=true↔pV L (zf L (ins l)) k)) ⟨by simp,λk c h1 w=>_c (ζe.1 h1).1 c?⟩ ?_ ?_
 .rintro m ⟨_,good⟩ af ⟨e,w⟩;simp only at e w;subst e;obtain⟨i,hi⟩:∃i:Nat,i=L.length-1-m:=⟨_,rfl⟩;rw[show (L.length:Int)-1-(m:Int)=(i:Int)from by omega]
  have Q:i<r.l.length:=by omega
  have u:=ab Q;have S:idx r (i:Int)=some r.l[i]:=bC Q;unfold eO.bK;rw[show decide ((i:Int)>=0)=true from _a c?,bq,S,ζb,D,fH _ c? c?]
  generalize r.l[i]=cs at u S;have I:=List.mem_of_getElem? u;have hC:=(B.mem _).1 I;have ah:cs.l.length<=8:=by rw[hC.1.1];exact h8
  have ad:=Fk (f:=zf L (ins l)) hg u;unfold eO.W3;refine eu cs.l.length (λp (q:Bool×Int)=>q.2=(p:Int)/\(q.1=true↔i=L.length-1\/∃T∈ps L cs.l p,pV L (zf L (ins l)) (L.idxOf (bump cs.l T 1)))) ⟨rfl,?_⟩ ?_ ?_
  .show ((i:Int)==(L.length:Int)-1)=true↔_;rw[_g];exact⟨λh=>.inl c?,λh=>h.elim (λh=>by omega) λ⟨p,h,_⟩=>by have:=(aaJ.1 h).1;omega⟩
  .rintro p ⟨on,_⟩ hp ⟨e,g⟩;simp only at e g;subst e;unfold eO.dG;rw[show (len cs:Int)=(cs.l.length:Int)from rfl,gy (s:=cs) hp,bq,TI hS hV hM B hx hC hp,ζb];obtain⟨d,hd,N⟩:=OA hS hV hC hp;have W:∃z:Bool,(bg (decide (bump cs.l p 1∈L)) ((sA cs (p:Int)).bind λX=>(jN X).bind λY=>some (iM good Y false)) (some false):aY Bool)=some z/\(z=true↔bump cs.l p 1∈L/\pV L (zf L (ins l)) (L.idxOf (bump cs.l p 1))):=by
    by_cases C:bump cs.l p 1∈L
    .have ae:d.l∈L:=by rw[N];exact C
     rw[_a C,bq,hd,ζb,Lu hV B ae,ζb,N];have hk:=hg i _ _ u (wK.2 ⟨p,hp,C,rfl⟩);exact⟨_,rfl,(w _ _ (s7 C) c?).trans ⟨λh=>⟨C,h⟩,λh=>h.2⟩⟩
    rw[N' C,bt];exact⟨_,rfl,λh=>(by cases h),λh=>_c h.1 C⟩
   obtain⟨z,hz,y⟩:=W;rw[hz,ζb,jU,ζb,bf];refine⟨cD p c?,?_⟩
   show (on||z)=true↔_;rw[Bool.or_eq_true,g,y,YO];constructor
   .rintro ((h|⟨T,h,k⟩)|⟨h,k⟩)
    .exact .inl h
    .exact .inr ⟨T,List.mem_append_left _ h,k⟩
    exact .inr ⟨p,by rw[J0 h];simp,k⟩
   rintro (h|⟨T,h,k⟩)
   .exact .inl (.inl h)
   rcases List.mem_append.1 h with h|h
   .exact .inl (.inr ⟨T,h,k⟩)
   split at h
   next C=>rw[List.mem_singleton.1 h]at k;exact .inr ⟨C,k⟩
   simp at h
  rintro⟨on,_⟩ ⟨e,g⟩;simp only at e g;subst e;unfold eO.dG;rw[show (len cs:Int)=(cs.l.length:Int)from rfl,gY (s:=cs),bt,bf];show Wp ((jN cs).bind _) _;rw[Lu hV B I,ζb,ζb,nu,ζb,bf,F i _ u];refine⟨by show IntKind.wrap .i64 ((i:Int)-1)=_;rw[fH _ c? c?];omega,λk c hk ai=>?_⟩
  show iM (mA good (lB cs.l) (on && !zf L (ins l) i)) (lB c) false=true↔_;rw[FD]
  by_cases e:k=i
  .subst e;rw[u]at hk;cases hk;rw[J0 rfl,ad,ζh,g,Bool.not_eq_true'];rw[and_comm];refine and_congr Iff.rfl (or_congr Iff.rfl ?_);rw[aa6];exact⟨λ⟨p,h,o⟩=>⟨_,List.mem_map.2 ⟨p,h,rfl⟩,o⟩,λ⟨j,h,o⟩=>by obtain⟨p,w,rfl⟩:=List.mem_map.1 h;exact⟨p,w,o⟩⟩
  rw[K' (λh=>e ?_)]
  .exact w k c hk c?
  have:=(Lt hV B (List.mem_of_getElem? hk) I).1 h;rw[<-oT B.nodup hk,this,oT B.nodup u]
 rintro⟨_,good⟩ ⟨e,w⟩;simp only at e w;subst e;unfold eO.bK;rw[show decide ((L.length:Int)-1-((L.length:Nat):Int)>=0)=false from N' c?,bt,bf]
 refine(bf _).2 ⟨rfl,good,rfl,λi c hi=>w i c hi c?⟩
theorem eW.le{a b:SW}(h:eW a b):a.sum<=b.sum:=by refine L? λu=>eW.JJ a (h.tr (eW.sum c?))
theorem sU(B:dh t A L):L[0]?=M (w? (W t.a?.l) 0):=by
 have D:w? (W t.a?.l) (0:Int)∈L:=(B.mem _).2 GC;have⟨i,hi,e⟩:=List.mem_iff_getElem.1 D;by_cases d:i=0;subst d;rw[ζd hi,e];exfalso;have w:0<W L:=c?;have u:=List.pairwise_iff_getElem.1 B.srt 0 i w hi c?;rw[e]at u;have a:=(B.mem _).1 (t? w);have I:=a.1.sum.1;have C:=u.le;rw[show(w? (W t.a?.l) (0:Int)).sum=0 from f?]at C;have b:=(MV (t:=t) (A:=A) (z:=.row (w? (W t.a?.l) 0)) Y L[0]).2 ⟨a,by simp;omega⟩;have:L[0]=w? (W t.a?.l) 0:=by simpa[ins,Sl.l]using b
 rw[this]at u;exact eW.JJ _ u
end
section
variable{L:aX SW}{f g:Nat->X'}
end
section
variable{t:Z4}{A:bQ 200 bu}{L:aX SW}{f g:Nat->X'}
theorem N4{c:SW}{p:Nat}{a:Int}(h:c[p]?=M a)(q:Nat):(bump c p 1)[q]?=if p=q then M (a+1)else c[q]?:=by rw[Be h,D?];have:=(ζe.1 h).1;by_cases e:p=q;simp[e,this];omega;simp[e]
theorem HZ:∀{a b:SW},nZ a b->a.sum<=b.sum/\(a.sum=b.sum->a=b)
 |[],[],_=>⟨Int.le_refl _,λ_=>rfl⟩|[],_::_,h=>nomatch h.1
 |_::_,[],h=>nomatch h.1
 |x::a,y::b,h=>by have B:=h.2 0 x y Y Y;have⟨f,w⟩:=HZ (a:=a) (b:=b) ⟨by simpa using h.1,λp u v c d=>h.2 (p+1) u v c d⟩;simp only[F!];refine⟨c?,λe=>?_⟩;have:x=y:=c?;rw[this,w c?]
theorem OO(g:VT t)(h:eB t (bJ t) A)(B:dh t A L){c:SW}(a:Cons t A c):∀(n:Nat){d:SW},Cons t A d->d.sum<=(n:Int)->¬nZ d c->∃p,p<W c/\bump c p 1∈L
 |n,d,D,Y,T=>by have o:W d=W c:=D.1.1.trans a.1.1.symm;have C:0<d.sum:=(by refine L? λF=>T ?_;have i:=D.1.sum.1;have f:=(MV (t:=t) (A:=A) (z:=.row (w? (W t.a?.l) 0)) _i d).2 ⟨D,by simp;omega⟩;have f:d=w? (W t.a?.l) 0:=(by simpa[ins,Sl.l]using f);refine⟨o,λp x y u w=>?_⟩;rw[f,List.getElem?_replicate]at u;split at u;cases u;exact a.1.pos p y w;cases u);have⟨q,b,j,m,Q⟩:=D.down g h C;by_cases J:nZ (d.set q (b-1)) c;have S:=(ζe.1 j).1;have I:=ζd (show q<W c by omega);have e1:=J.2 q (b-1) _ (by rw[J? S]) I;have e2:∀p x y,p≠q->d[p]?=M x->c[p]?=M y->x<=y:=λp x y N u w=>J.2 p x y (by rw[List.getElem?_set_ne (Ne.symm N)];exact u) w;have e3:b=c[q]+1:=(by refine L? λX=>T ⟨o,λp x y u w=>?_⟩;by_cases e:p=q;subst e;rw[j]at u;cases u;rw[I]at w;cases w;omega;exact e2 p x y e u w);refine⟨q,c?,(B.mem _).2 (join_cons a D ⟨zk,λp x y u w=>?_⟩)⟩;rw[N4 I];by_cases e:q=p;subst e;rw[J0 _i];rw[j]at w;cases w;rw[I]at u;cases u;unfold Ao;simp;omega;rw[K' e,u];have:=e2 p y x (Ne.symm e) w u;unfold Ao;simp;omega;cases n with|zero=>omega|succ n=>exact OO g h B a n Q (by rw[uL j];omega) J
theorem C_(b:VT t)(e:eB t (bJ t) A)(B:dh t A L){i:Nat}{c:SW}(hi:L[i]?=M c)(D:∀p,p<W c->bump c p 1∉L):i=W L-1:=by
 have f:=(B.mem _).1 (s? hi);have w:∀d,d∈L->nZ d c:=λd hd=>L? λh=>by have C:=(B.mem _).1 hd;have⟨p,j,I⟩:=OO b e B f d.sum.toNat C c? h;exact D p j I
 obtain⟨z,rfl⟩:=ζe.1 hi;refine L? λJ=>?_;have m:i<W L-1:=c?;have u:=List.pairwise_iff_getElem.1 B.srt i (W L-1) z c? m;have a:=w _ (t? (show W L-1<W L by omega));have Q:=u.le;have:L[W L-1]=L[i]:=(HZ a).2 (by have:=(HZ a).1;omega);rw[this]at u;exact eW.JJ _ u
theorem S5(e:VT t)(f:eB t (bJ t) A)(B:dh t A L):∀(n i:Nat){c:SW},L[i]?=M c->W L-1-i<=n->(∀(j:Nat)d,L[j]?=M d->c.sum<d.sum\/d=c->g j=U)->pV L g i
 |n,i,c,hi,J,h=>by have D:=(ζe.1 hi).1;by_cases a:∃p,p<W c/\bump c p 1∈L;have⟨p,u,w⟩:=a;have z:L.idxOf (bump c p 1)∈rD L c:=wK.2 ⟨p,u,w,Y⟩;have k:=K3 B hi z;(cases n with|zero=>omega|succ n=>refine .step (h i c hi (.inr Y)) hi z (S5 e f B n _ (s7 w) c? λj d hd b=>h j d hd (.inl ?_));have:=LO (c:=c) u;rcases b with b|b;omega;rw[b];omega);have:=C_ e f B hi λp u w=>a ⟨p,u,w⟩;subst this;exact .last (h _ c hi (.inr Y))
def pe(t:Z4):SW:=t.a?.l.map λP=>(W P.b?.l:Int)
theorem zero_eq(a:VT t){x:cO}(B:Gy t A x):od x=M (.row (w? (W t.a?.l) 0)):=by
 have u:=a.few;unfold od nC;have:(len x.needs:Int)=(W t.a?.l:Int):=by show((W x.needs.l:Nat):Int)=_;rw[B.len]
 rw[this,J0 ⟨c?,c?⟩];rfl
theorem Yk(c:Small t)(b:VT t){x:cO}(B:Gy t A x):Wp (hD x) λs=>s.l=pe t:=by
 have C:=b.few;unfold hD;rw[zero_eq b B,ζb,show Sl.whole (.row (w? (W t.a?.l) (0:Int)))=M (.row (w? (W t.a?.l) 0))from Y,ζb];unfold hD.W1;refine eu (W x.needs.l) (λi q=>q.2=(i:Int)/\q.1.l.length=W t.a?.l/\∀j:Nat,j<i->q.1.l[j]?=(pe t)[j]?) ⟨Y,by simp[Sl.l],λj h=>_c h c?⟩ ?_ ?_;rintro i ⟨s,_⟩ hi ⟨rfl,a,u⟩;simp only at a u;have w:i<W t.a?.l:=by rw[<-B.len];exact hi
 unfold hD.bk;dsimp only;rw[gy hi,bq,bC hi,ζb,pE c?,ζb];have⟨r,g1,g2⟩:=put_eq (s:=s) (p:=i) (x:=(len x.needs.l[i]:Int)) c?;rw[g1,ζb,bf];refine⟨cD i c?,by rw[g2];simp[a],λj z=>?_⟩;show r.l[j]?=_;rw[g2,D?];by_cases e:i=j;subst e;rw[J0 Y,J0 c?];have:=B.row i _ _ (ζd w) (ζd hi);unfold pe;rw[Q?,ζd w];simp only[len,this,List.length_map,Option.map_some];rw[K' e];exact u j c?;rintro⟨s,_⟩ ⟨rfl,a,u⟩;simp only at a u;unfold hD.bk;dsimp only;rw[gY,bt,bf];refine(bf _).2 (List.ext_getElem? λj=>?_);by_cases z:j<W t.a?.l;exact u j (by rw[B.len];exact z);rw[j! c?,j! (by unfold pe;simp;omega)]
theorem Y3(a:VT t)(B:dh t A L)(b:eB t (bJ t) A){i:Nat}(h:L[i]?=M (pe t)):i=W L-1:=by
 refine C_ a b B h λp w z=>?_;have c:=(B.mem _).1 z;have u:p<W t.a?.l:=by unfold pe at w;simpa using w
 have C:(pe t)[p]?=M (t.a?.l[p].b?.l.length:Int):=by unfold pe;rw[Q?,ζd u];rfl
 have d:(bump (pe t) p 1)[p]?=M ((t.a?.l[p].b?.l.length:Int)+1):=by rw[N4 C,J0 Y]
 have:=c.1.2 p _ _ d (ζd u);omega
end
section
variable{L:aX SW}
theorem QF{x:bL}(T:LB L x)(j:AG L)(n:0<_j L)(H:_j L<=5000)(W:∀c∈L,0<_j c/\_j c<=8){b:Sl X'}(t:_j b.l=_j L):
 Wp (dc x b) λq=>(q=(.nil,U)/\Rc L (b9 b) (_j L-1)/\b9 b (_j L-1)=U)\/(q.2=O/\¬(Rc L (b9 b) (_j L-1)/\b9 b (_j L-1)=U)/\ins q.1=outs L (b9 b) (_j L)):=by
 have z:_j x.list.l=_j L:=by rw[<-iT,T.list]
 have X:∀{i:Nat}(hi:i<_j x.list.l),L[i]?=M x.list.l[i].l:=λhi=>by rw[<-T.list];exact sj hi
 unfold dc;rw[show(len x.list:Int)=((_j L:Nat):Int)from by show((_j x.list.l:Nat):Int)=_;rw[z]]
 refine SL n c? λK Y v=>?_
 unfold dc.W1;refine eu (_j x.list.l) (λi(q:Sl X'×Zb×Int)=>q.2.2=(i:Int)/\q.1.l.length=_j L/\(∀k,k<_j L->(b9 q.1 k=O↔Oe L (b9 b) i k))/\ins q.2.1=outs L (b9 b) i/\q.2.1.l.length<=i/\(i=_j L->¬(Rc L (b9 b) (_j L-1)/\b9 b (_j L-1)=U)))
  ⟨_i,Y,λk _=>(v k).trans V7.symm,_i,z? _,λh=>_c h c?⟩ ?_ ?_
 .rintro i ⟨r,o,_⟩ hi ⟨e,f,C,D,d__,S⟩;simp only at e f C D d__ S;subst e;have w:i<_j L:=by omega
  unfold dc.bk;rw[show _p ((i:Int)<((_j L:Nat):Int))=O from _a c?,bq,bC hi,ζb,pE (by rw[f];exact w),ζb,Zt (by rw[f];exact w),ζb]
  have u:=X hi;have B:=s? u;generalize x.list.l[i]=cs at u B;have b__:=(C i w).trans (Zv j (z? i));rw[cn];constructor
  .intro c__;have a__:=b__.1 c__;rw[sY (by rw[t];exact w),ζb,cn]
   constructor
   .intro I;have⟨d,hd,y⟩:=BG (c:=cs) (by have:=(W _ B).2;omega) (W _ B).1
    have⟨l,k1,k2⟩:=jk (s:=o) (x:=d) c?
    rw[hd,ζb,k1,ζb,bf];refine⟨cD i c?,f,λk a=>(C k a).trans ⟨λh=>(zD u).2 (.inl h),λh=>((zD u).1 h).elim id λh=>by rw[I]at h;exact _c h.2.1 f?⟩,?_,?_,λh q=>?_⟩
    .show ins l=_;rw[T3 a__ I u,<-D];unfold ins;rw[k2];simp[y]
    .show _j l.l<=_;rw[k2];simp;omega
    rw[show _j L-1=i from c?,I]at q;exact _c q.2 f?
   intro I;rw[show(len x.list:Int)=((_j L:Nat):Int)from by show((_j x.list.l:Nat):Int)=_;rw[z],fH _ c? c?,cn]
   constructor
   .intro e;have e:(i:Int)=(_j L:Int)-1:=by simpa using e
    have e:_j L-1=i:=c?
    refine(bf _).2 ((bf _).2 (.inl ⟨_i,?_,?_⟩))
    .rw[e];exact a__
    rw[e];exact I
   intro e;have e:¬(i:Int)=(_j L:Int)-1:=by simpa using e
   have Q:i<_j x.next.l:=by rw[T.len];exact w
   have g:=T.next i cs.l _ u (ζd Q);rw[bC Q,ζb];generalize x.next.l[i]=s at g;have A:_j s.l=_j (rD L cs.l):=by rw[g,X_]
   have N:_j (rD L cs.l)<=8:=by unfold rD;refine U? (List.length_filterMap_le _ _) ?_;rw[List.length_range];exact(W _ B).2
   unfold dc.W2;refine eu (_j s.l) (λm(q:Sl X'×Int×Int)=>q.2.2=(m:Int)/\q.2.1=len s/\q.1.l.length=_j L/\∀k,k<_j L->(b9 q.1 k=O↔Oe L (b9 b) i k\/k∈(rD L cs.l).take m)) ⟨_i,_i,f,λk a=>(C k a).trans f?⟩ ?_ ?_
   .rintro m ⟨r,_,_⟩ hm ⟨e1,e2,g1,g2⟩;simp only at e1 e2 g1 g2;subst e1;subst e2;unfold dc.bK;have J:m<_j (rD L cs.l):=by omega
    have a:=j i _ _ u (t? J);rw[gy hm,bq,iJ,g,XI J,ζb,pE (by rw[g1];exact a.2),ζb]
    have⟨E,k1,k2⟩:=put_eq (s:=r) (p:=(rD L cs.l)[m]) (x:=O) (by rw[g1];exact a.2)
    rw[k1,ζb,bf];refine⟨cD m c?,_i,by show _j E.l=_;rw[k2,List.length_set,g1],λk F=>?_⟩
    rw[Og (by rw[g1];exact a.2) k2,g2 k F,T? J,M!,d!,or_assoc]
   rintro⟨r,_,_⟩ ⟨e1,e2,g1,g2⟩;simp only at e1 e2 g1 g2;subst e1;subst e2;unfold dc.bK;rw[gY,bt,bf];refine(bf _).2 ⟨cD i c?,g1,λk a=>?_,?_,by show _j o.l<=_;omega,λh=>_c h c?⟩
   .rw[g2 k a,zD u,A,H?];exact⟨λh=>h.imp id λh=>⟨a__,I,h⟩,λh=>h.imp id λh=>h.2.2⟩
   show ins o=_;rw[NR (λh=>by rw[I]at h;exact _c h.2 f?)];exact D
  intro c__;have a__:¬Rc L (b9 b) i:=λh=>by rw[b__.2 h]at c__;cases c__
  rw[bf];refine⟨cD i c?,f,λk a=>(C k a).trans ⟨λh=>(zD u).2 (.inl h),λh=>((zD u).1 h).elim id λh=>_c h.1 a__⟩,?_,by show _j o.l<=_;omega,λh q=>a__ ?_⟩
  .show ins o=_;rw[NR (λh=>a__ h.1)];exact D
  rw[show _j L-1=i from c?]at q;exact q.1
 rintro⟨r,o,_⟩ ⟨e,f,C,D,d__,S⟩;simp only at e f C D d__ S;subst e;unfold dc.bk;rw[show _p (((_j x.list.l:Nat):Int)<((_j L:Nat):Int))=U from N' c?,bt,bf]
 refine(bf _).2 (.inr ⟨_i,?_,?_⟩)
 .exact S z
 rw[<-z];exact D
end
section
variable{t:Z4}{A:bQ 200 bu}{L:aX SW}
theorem Zz{D:aX SW}{b:Sl X'}(B:W b.l=W L)(h:∀(k:Nat)c,L[k]?=M c->(b9 b k=O↔c∈D)):b9 b=zf L D:=by funext k;cases a:L[k]?with|none=>unfold zf b9;rw[a,j! (by have:=List.getElem?_eq_none_iff.1 a;omega)];rfl|some c=>rw[R_ a,Bool.eq_iff_iff,h k c a,decide_eq_true_iff]
open Classical in
def wN(L:aX SW)(G:SW->Prop):Nat->SW->aX SW
 |0,_=>[]|n+1,c=>match(B! (W c)).find? (λp=>_p (bump c p 1∈L/\G (bump c p 1)))with
  |none=>[]|some p=>bump c p 1::wN L G n (bump c p 1)
theorem RW{G:SW->Prop}{n:Nat}{c:SW}{p:Nat}(hp:p<W c)(h:bump c p 1∈L/\G (bump c p 1))(B:∀j,j<p->¬(bump c j 1∈L/\G (bump c j 1))):wN L G (n+1) c=bump c p 1::wN L G n (bump c p 1):=by
 classical
 conv=>lhs;unfold wN
 split
 next u=>exact _c (_a h) (List.find?_eq_none.1 u p (mem_range.2 hp))
 rename_i q u;have⟨z,i,I,w,C⟩:=List.find?_eq_some_iff_getElem.1 u;rw[List.getElem_range]at w;subst w;have D:=_b z;have:¬i<p:=λhi=>B i hi D
 have J:¬p<i:=λhi=>by
  have:=C p hi;rw[List.getElem_range]at this;simp[h]at this
 obtain rfl:i=p:=c?
 rfl
theorem S7 {G:aX Int->Prop} {n:Nat} {c:aX Int} (B:∀j,j<c.length->¬(bump c j 1∈L/\G (bump c j 1))):wN L G n c=[]:=by
 classical
 cases n with
 | zero=>rfl
 | succ n=>
  unfold wN;split
  .rfl
  rename_i q u;have w:=List.find?_some u;have z:=List.mem_range.1 (List.mem_of_find?_eq_some u);exact _c (_b w) (B q z)
theorem Rh(B:dh t A L){p:Nat}(hp:p<W (pe t)):bump (pe t) p 1∉L:=λh=>by
 have a:=(B.mem _).1 h;have u:p<W t.a?.l:=by simpa[pe]using hp
 have b:(pe t)[p]?=M (t.a?.l[p].b?.l.length:Int):=by unfold pe;rw[Q?,ζd u];rfl
 have:=a.1.2 p ((t.a?.l[p].b?.l.length:Int)+1) _ (by rw[Be b,J? hp]) (ζd u);omega
theorem Tw(a:VT t)(b:eB t (bJ t) A)(B:dh t A L){c:SW}(d:c∈L)(hi:L.idxOf c=W L-1):c=pe t:=by have⟨i,h⟩:=mem_iff_getElem?.1 ((B.mem _).2 (LN a b):pe t∈L);have w:=Y3 a B b h;have u:=s7 d;rw[hi,<-w,h]at u;exact(Option.some.inj u).symm
theorem U5(i:Small t)(f:VT t)(F:eB t (bJ t) A)(B:dh t A L)(h5:_j L<=5000){x:cO}(T:Gy t A x){good:Zg->aY X'}{G:SW->Prop}(H:∀d:Zg,d.l∈L->∃b,good d=M b/\(b=O↔G d.l))(c__:∀c∈L,c≠pe t->G c->∃p,p<_j c/\bump c p 1∈L/\G (bump c p 1))(K:G (w? (_j t.a?.l) 0)):
 Wp (gF x good) λr=>_j r.l<=_j L/\ins r=w? (_j t.a?.l) 0::wN L G (_j L) (w? (_j t.a?.l) 0):=by
 have h8:=f.few;have a__:=sU B;have b__:=s? a__;have N:=AG.of B;unfold gF;rw[zero_eq f T,ζb,show Sl.whole (.row (w? (_j t.a?.l) (0:Int)))=M (.row (w? (_j t.a?.l) 0))from _i,ζb,ey];refine(Yk i f T).mono λP C=>?_
 unfold gF.W1;refine fI (λq:Zg×Zb=>∃n:Nat,q.1.l∈L/\G q.1.l/\_j L<=L.idxOf q.1.l+n/\q.2.l.length<=L.idxOf q.1.l+1/\ins q.2++wN L G n q.1.l=w? (_j t.a?.l) 0::wN L G (_j L) (w? (_j t.a?.l) 0)) (λq=>_j L-L.idxOf q.1.l)
  ⟨_j L,b__,K,x! _ _,x! _ _,_i⟩ ?_
 rintro⟨c,o⟩ ⟨n,g,m,R,V,D⟩;simp only at g m R V D;have l:=(B.mem _).1 g;have aa:_j c.l=_j t.a?.l:=l.1.1;have hi:=List.idxOf_lt_length_of_mem g;unfold gF.bk;dsimp only;rw[Lo c?,ζb]
 by_cases I:c.l=P.l
 .rw[_a I,bq,bf];rw[I,C,S7 λj v h=>Rh B v h.1,List.append_nil]at D
  exact(bf _).2 ⟨by show _j o.l<=_;omega,D⟩
 rw[N' I,bt];have⟨p,hp,Q,S⟩:=c__ _ g (by rw[<-C];exact I) m
 unfold gF.W2;refine eu (_j c.l) (λk(q:Int)=>q=(k:Int)/\∀j,j<k->¬(bump c.l j 1∈L/\G (bump c.l j 1))) ⟨_i,λj h=>_c h c?⟩ ?_ ?_
 .rintro k _ hk ⟨rfl,u⟩;have⟨d,y,a⟩:=OA i f l hk;unfold gF.bK;rw[show _p ((k:Int)<len c)=O from gy hk,bq,TI i f F B T l hk,ζb];have W:∃b,(bg (_p (bump c.l k 1∈L)) (_l (sA c (k:Int)) λX=>_l (good X) λY=>M Y) (M U):aY X')=M b/\(b=O↔bump c.l k 1∈L/\G (bump c.l k 1)):=by
   by_cases w:bump c.l k 1∈L
   .have⟨b,d__,J⟩:=H d (by rw[a];exact w)
    refine⟨b,?_,?_⟩
    .rw[_a w,bq,y,ζb,d__];rfl
    rw[J,a];exact⟨λh=>⟨w,h⟩,λh=>h.2⟩
   exact⟨U,by rw[N' w,bt],by simp[w]⟩
  have⟨b,d__,J⟩:=W;rw[d__,ζb,ζb]
  cases w:b with
  |false=>
   rw[show(!U)=O from _i,bq,bf];exact⟨cD k c?,λj v=>by
    by_cases e:j=k
    .subst e;intro h;rw[J.2 h]at w;cases w
    exact u j c?⟩
  |true=>
   rw[show(!O)=U from _i,bt,bf];have z:=J.1 w;have⟨o',j1,E⟩:=jk (s:=o) (x:=d) c?
   have ab:=N _ _ _ (s7 g) (wK.2 ⟨k,hk,z.1,_i⟩);obtain⟨n,rfl⟩:∃n',n=n'+1:=⟨n-1,c?⟩
   dsimp only;rw[show((k:Int)==len c)=U from beq_eq_false_iff_ne.2 (by simp only[len];omega),bt,y,ζb,j1,ζb,bf]
   refine⟨⟨n,by rw[a];exact z.1,by rw[a];exact z.2,by rw[a];omega,by rw[E,a];simp;omega,?_⟩,by show _j L-idxOf d.l L<_j L-idxOf c.l L;rw[a];omega⟩
   rw[RW hk z u]at D;show ins o'++wN L G n d.l=_;rw[<-D];unfold ins;rw[E,o!,List.append_assoc];show _++(d.l::wN L G n d.l)=_;rw[a]
 rintro _ ⟨rfl,u⟩;exact _c ⟨Q,S⟩ (u p hp)
theorem aaO(f:Small t)(g:cm t=M O)(a:VT t)(b:eB t (bJ t) A)(B:dh t A L)(J:_j L<=5000){r:Zb}(e:mo t=M (r,0))(i:ins r=L){w:Zb}(W:_j w.l<=5000)(Y:∀x∈w.l,x.l∈L)(T:pV L (zf L (ins w)) 0):
 ∃q,Ai t w=M (q,0)/\_j q.l<=_j L/\ins q=w? (_j t.a?.l) 0::wN L (λd=>pV L (zf L (ins w)) (L.idxOf d)) (_j L) (w? (_j t.a?.l) 0):=by
 have u:=sU B;have X:0<_j L:=(ζe.1 u).1;have C:=s? u;have a__:=AG.of B;have⟨⟨q,z⟩,j,F,m,Q,S⟩:=SX f g a b B J X e i W Y;simp only at F Q;subst F;subst Q;obtain⟨o,o1,x,rfl,N⟩:=Of f a b;have⟨s,l,n,v⟩:=U5 f a b B J N (good:=λz=>qb z ⟨M m⟩) (G:=λd=>pV L (zf L (ins w)) (L.idxOf d)) (λd hd=>⟨_,by
  show qb d ⟨M m⟩=M (iM m (lB d.l) U);unfold qb;rw[Lu a B hd];rfl,S _ _ (s7 hd)⟩) (λc e D y=>by
  rcases((Fk a__ (s7 e)).1 y).2 with h|⟨k,E,I⟩
  .exact _c (Tw a b B e h) D
  obtain⟨p,p1,p2,rfl⟩:=wK.1 E;exact⟨p,p1,p2,I⟩) (by show pV L _ (L.idxOf _);rw[oT B.nodup u];exact T)
 refine⟨s,?_,n,v⟩;unfold Ai;rw[j,ζb];simp only;rw[show((0:Int)==0)=O from _i,bq,o1,ζb,ζb,zero_eq a N,ζb,Lu a B (c:=.row (w? (_j t.a?.l) (0:Int))) C,ζb];rw[show iM (yp (⟨M m⟩:zu ByteArray X')) (lB (Sl.row (w? (_j t.a?.l) (0:Int))).l) U=O from(S 0 _ u).2 T,bq,l];rfl
theorem SQ{x:bL}(D:LB L x)(J:W L<=5000){b:Sl X'}(T:W b.l=W L):
 Wp (eG x b) λq=>W q.l<=W L/\∀c,c∈ins q↔∃i,L[i]?=M c/\b9 b i=O:=by
 have d:W x.list.l=W L:=by rw[<-iT,D.list]
 have w:∀{i:Nat}(hi:i<W x.list.l),L[i]?=M x.list.l[i].l:=λhi=>by rw[<-D.list];exact sj hi
 unfold eG eG.W1;refine eu (W x.list.l) (λi(q:Zb×Int)=>q.2=(i:Int)/\q.1.l.length<=i/\∀c,c∈ins q.1↔∃j,j<i/\L[j]?=M c/\b9 b j=O) ⟨Y,z? _,λc=>⟨λh=>by simp[ins,Sl.l]at h,λ⟨j,h,_⟩=>_c h c?⟩⟩ ?_ ?_
 .rintro i ⟨o,_⟩ hi ⟨e,a,u⟩;simp only at e a u;subst e;unfold eG.bk;rw[gy hi,bq,bC hi,ζb,sY c?,ζb,cn]
  constructor
  .intro z;have⟨C,k1,k2⟩:=jk (s:=o) (x:=x.list.l[i]) c?
   rw[k1,ζb,bf];refine⟨cD i c?,by show W C.l<=_;rw[k2];simp;omega,λc=>?_⟩
   rw[HN k2,u];constructor
   .rintro (⟨j,B,h⟩|h)
    .exact⟨j,c?,h⟩
    exact⟨i,c?,by rw[h];exact w hi,z⟩
   rintro⟨j,B,h,k⟩
   by_cases e:j=i
   .subst e;rw[w hi]at h;exact .inr (Option.some.inj h).symm
   exact .inl ⟨j,c?,h,k⟩
  intro z;rw[bf];refine⟨cD i c?,by show W o.l<=_;omega,λc=>(u c).trans ⟨λ⟨j,B,h⟩=>⟨j,c?,h⟩,λ⟨j,B,h,k⟩=>⟨j,?_,h,k⟩⟩⟩
  have:j≠i:=λe=>by subst e;rw[z]at k;cases k
  omega
 rintro⟨o,_⟩ ⟨e,a,u⟩;simp only at e a u;subst e;unfold eG.bk;rw[gY,bt,bf];exact(bf _).2 ⟨by show W o.l<=_;omega,λc=>(u c).trans ⟨λ⟨j,_,h⟩=>⟨j,h⟩,λ⟨j,h,k⟩=>⟨j,by have:=(ζe.1 h).1;omega,h,k⟩⟩⟩
theorem abB{s:Sl X'}(B:W s.l<1073741824):Wp (dO s O) λz=>(∃i:Nat,z=(i:Int)/\i<W s.l/\b9 s i=O/\∀j,j<i->b9 s j=U)\/(z=-1/\∀j,j<W s.l->b9 s j=U):=by
 unfold dO dO.W1;refine eu (W s.l) (λi(q:Int)=>q=(i:Int)/\∀j,j<i->b9 s j=U) ⟨Y,λj h=>_c h c?⟩ ?_ ?_;rintro i _ hi ⟨rfl,a⟩;unfold dO.bk;rw[gy hi,bq,sY hi,ζb];cases u:b9 s i with|true=>rw[show(O==O)=O from Y,bq,bf];exact(bf _).2 (.inl ⟨i,Y,hi,u,a⟩)|false=>rw[show(O==U)=U from Y,bt,bf];refine⟨cD i c?,λj w=>?_⟩;by_cases e:j=i;subst e;exact u;exact a j c?
 rintro _ ⟨rfl,a⟩;unfold dO.bk;rw[gY,bt,bf];exact(bf _).2 (.inr ⟨Y,a⟩)
theorem Zw(B:dh t A L)(m:W L<=5000){p:T'}{o:Sl X'}{y:bL}(J:gE t p=M (o,0))(T:W o.l=W L)(h:dQ t=M (M y,0))(D:LB L y):
 Wp (mC t p) λq=>q.2=0/\((∃i c,i<W L/\b9 o i=O/\(∀j,j<i->b9 o j=U)/\L[i]?=M c.l/\q.1=⟨1,O,1,c,.nil,.nil,.nil,0⟩)\/((∀j,j<W L->b9 o j=U)/\q.1=⟨1,U,6,.nil,.nil,.nil,.nil,0⟩)):=by
 have w:W y.list.l=W L:=by rw[<-iT,D.list]
 unfold mC mG;rw[J,ζb];simp only;rw[show((0:Int)==0)=O from Y,bq,h,ζb,ζb];simp only;rw[show((0:Int)==0)=O from Y,bq,ey];refine(abB c?).mono λz C=>?_
 rcases C with⟨i,rfl,hi,a,d⟩|⟨rfl,a⟩
 .rw[N' c?,bt,ζb,bC (show i<W y.list.l by omega),ζb,bf]
  have u:=sj (show i<W y.list.l by omega)
  rw[D.list]at u;exact⟨Y,.inl ⟨i,_,c?,a,d,u,Y⟩⟩
 rw[_a c?,bq,bf]
 exact⟨Y,.inr ⟨λj I=>a j c?,Y⟩⟩
theorem abQ(f:Small t)(g:cm t=M O)(a:VT t)(j:eB t (bJ t) A)(B:dh t A L)(J:_j L<=5000){r:Zb}(b:mo t=M (r,0))(l:ins r=L){p:T'}{o:Sl X'}{y:bL}(a__:gE t p=M (o,0))(D:_j o.l=_j L)(W:dQ t=M (M y,0))(T:LB L y):
 Wp (kZ t p) λq=>q.2=0/\((¬pV L (b9 o) 0/\∃s,ins s=outs L (b9 o) (_j L)/\q.1=⟨2,O,2,.nil,s,.nil,.nil,0⟩)\/(pV L (b9 o) 0/\∃s,_j s.l<=5000/\ins s=w? (_j t.a?.l) 0::wN L (λd=>pV L (b9 o) (L.idxOf d)) (_j L) (w? (_j t.a?.l) 0)/\q.1=⟨2,U,3,.nil,.nil,s,.nil,0⟩)):=by
 have S:0<_j L:=(ζe.1 (sU B)).1;have m:=AG.of B;have C:∀c∈L,0<_j c/\_j c<=8:=λc b=>by have:=B.len b;have:=a.ok.one;have:=a.few;omega
 unfold kZ mG;rw[a__,ζb];simp only;rw[show((0:Int)==0)=O from _i,bq,W,ζb,ζb];simp only;rw[show((0:Int)==0)=O from _i,bq,ζb,ey];refine(QF T m S J C D).mono λq X=>?_
 rcases X with⟨rfl,F,I⟩|⟨F,I,Y⟩
 .have N:pV L (b9 o) 0:=Oi.2 ⟨F,I⟩;simp only;rw[bt,ey];refine(SQ T J D).mono λw⟨x,Q⟩=>?_
  have u:b9 o=zf L (ins w):=Zz D λk c e=>by rw[Q];exact⟨λh=>⟨k,e,h⟩,λ⟨i,hi,h⟩=>by rw[<-oT B.nodup e,oT B.nodup hi];exact h⟩
  have⟨s,b__,E,n⟩:=aaO f g a j B J b l (w:=w) c? (λz v=>by
   obtain⟨i,hi,-⟩:=(Q z.l).1 (oQ.2 ⟨z,v,_i⟩);exact s? hi) (by rw[<-u];exact N)
  rw[b__,ζb];simp only;rw[show((0:Int)==0)=O from _i,bq,bf];exact⟨_i,.inr ⟨N,s,c?,by rw[n,<-u],_i⟩⟩
 rw[F,bq,bf];exact⟨_i,.inl ⟨λh=>I (Oi.1 h),_,Y,_i⟩⟩
theorem MR{c:SW}{p:Nat}{a:Int}(h:c[p]?=M a)(q:Nat):(bump c p 1)[q]?=if p=q then M (a+1)else c[q]?:=by have u:=(ζe.1 h).1;unfold bump;rw[h,D?];by_cases e:p=q;subst e;rw[J0 Y,J0 Y,J0 u];rfl;rw[K' e,K' e]
theorem OF(g:VT t)(h:eB t (bJ t) A)(D:dh t A L){c e:SW}(a:Cons t A c)(J:nZ c e):∀(n:Nat){d:SW},Cons t A d->nZ d e->d.sum<=(n:Int)->¬nZ d c->∃p,p<_j c/\bump c p 1∈L/\nZ (bump c p 1) e
 |n,d,T,B,hs,F=>by have W:_j d=_j c:=T.1.1.trans a.1.1.symm;have m:0<d.sum:=(by refine L? λi=>F ?_;have j:=T.1.sum.1;have f:=(MV (t:=t) (A:=A) (z:=.row (w? (_j t.a?.l) 0)) _i d).2 ⟨T,by simp;omega⟩;have f:d=w? (_j t.a?.l) 0:=(by simpa[ins,Sl.l]using f);refine⟨W,λp x y u w=>?_⟩;rw[f,List.getElem?_replicate]at u;split at u;cases u;exact a.1.pos p y w;cases u);have⟨q,b,C,S,X⟩:=T.down g h m;have Q:=(ζe.1 C).1;by_cases o:nZ (d.set q (b-1)) c;have I:=ζd (show q<_j c by omega);have e1:=o.2 q (b-1) _ (by rw[J? Q]) I;have e2:∀p x y,p≠q->d[p]?=M x->c[p]?=M y->x<=y:=λp x y Y u w=>o.2 p x y (by rw[List.getElem?_set_ne (Ne.symm Y)];exact u) w;have e3:b=c[q]+1:=(by refine L? λN=>F ⟨W,λp x y u w=>?_⟩;by_cases e:p=q;subst e;rw[C]at u;cases u;rw[I]at w;cases w;omega;exact e2 p x y e u w);refine⟨q,c?,(D.mem _).2 (join_cons a T ⟨zk,λp x y u w=>?_⟩),⟨by rw[zk];exact J.1,λp x y u w=>?_⟩⟩;rw[MR I];by_cases e:q=p;subst e;rw[J0 _i];rw[C]at w;cases w;rw[I]at u;cases u;unfold Ao;simp;omega;rw[K' e,u];have:=e2 p y x (Ne.symm e) w u;unfold Ao;simp;omega;rw[MR I]at u;by_cases e:q=p;subst e;rw[J0 _i]at u;cases u;have:=B.2 q b y C w;omega;rw[K' e]at u;exact J.2 p x y u w;cases n with|zero=>omega|succ n=>refine OF g h D a J n X ⟨by rw[List.length_set];exact B.1,λp x y u w=>?_⟩ (by rw[uL C];omega) o;by_cases e:q=p;subst e;rw[J? Q]at u;cases u;have:=B.2 q b y C w;omega;rw[List.getElem?_set_ne e]at u;exact B.2 p x y u w
end
theorem mkz{α:Type}{n:Nat}(z:α)(h:n<=2147483648):nC (n:Int) z=M (.row (w? n z)):=by unfold nC;rw[J0 c?];simp
theorem OD{c:Zg}(h:K0 c.l)(B:W c.l<=8):iR c=M (lB c.l):=by
 refine Wp.eq ?_;unfold iR;rw[show len c=((W c.l:Nat):Int)from Y,mkz _ c?,ζb];unfold iR.W1;refine eu (W c.l) (λi(q:Sl U8×Int)=>q.2=(i:Int)/\q.1.l.length=W c.l/\(q.1.l.map U8.v).take i=c.l.take i) ⟨Y,by simp[Sl.l],f?⟩ ?_ ?_;rintro i ⟨o,_⟩ hi ⟨e,u,a⟩;simp only at e u a;subst e;have C:=h c.l[i] (t? hi);have z:y? .u8 c.l[i]=c.l[i]:=by simp[y?,IntKind.bits,IntKind.signed];omega
 have⟨w,k1,k2⟩:=put_eq (s:=o) (p:=i) (x:=(⟨y? .u8 c.l[i]⟩:U8)) c?;unfold iR.bk;rw[show _p ((i:Int)<((W c.l:Nat):Int))=O from by simpa using hi,bq,bC hi,ζb,pE (by omega:i<W o.l),ζb,k1,ζb,bf];refine⟨cD i c?,by show W w.l=_;rw[k2];simp[u],?_⟩;show(w.l.map U8.v).take (i+1)=_;rw[k2,z,T? hi,T? (by simp[u];exact hi),<-a];simp[List.take_set_of_le];rintro⟨o,_⟩ ⟨e,u,a⟩;simp only at e u a;subst e;unfold iR.bk;rw[show _p (((W c.l:Nat):Int)<((W c.l:Nat):Int))=U from f?,bt,bf];refine(bf _).2 ?_;unfold Ip;rw[H?,List.take_of_length_le (by simp[u])]at a;rw[a]
section
variable{t:Z4}{A:bQ 200 bu}{L:aX SW}
theorem P3(f:Small t)(g:cm t=M O)(i:VT t)(a:eB t (bJ t) A){c:Zg}(l:Cons t A c.l){p k:Nat}{P:bU}(B:t.a?.l[p]?=M P)(D:c.l[p]?=M (k:Int))(d:k<W P.b?.l):
 ∃b,xe t c (p:Int)=M b/\(b=O↔HI t A c.l p):=by
 have C:=ζd d;unfold xe;rw[iJ,B,ζb,iJ,D,ζb,bC d,ζb];generalize P.b?.l[k]=e at C⊢;have m:HI t A c.l p↔(e.kind=3->∃b,c.l[(ag A e.d?).from_.proc.toNat]?=M b/\(ag A e.d?).from_.index<=b):=by constructor;rintro⟨Q,X,x,z,L,u,w⟩;rw[B]at z;cases z;rw[D]at L;cases L;simp only[Int.toNat_natCast]at u;rw[C]at u;cases u;exact w;intro h;exact⟨P,e,k,B,D,by simpa using C,h⟩
 rw[m]
 by_cases w:e.kind=3
 .have⟨q,j,y,⟨Q,z,F⟩,N,o,y3,y4,y5⟩:=wz i a ⟨P,B,C⟩ w;have S:=CA f g a (x:=(⟨q,j+1⟩,y)) (dV.2 ⟨q,j,⟨Q,z,F⟩,Y⟩) N;simp only at S;have I:q<W c.l:=by rw[l.1.1];exact(ζe.1 z).1
  rw[show(e.kind==3)=O from by rw[w];rfl,bq,<-o,S,ζb,bC I,ζb]
  refine⟨_,Y,?_⟩;rw[o,y5];simp only[Int.toNat_natCast,_e];exact⟨λh _=>⟨_,ζd I,h⟩,λh=>by
   have⟨b,T,J⟩:=h w;rw[ζd I]at T;cases T;exact J⟩
 rw[show(e.kind==3)=U from beq_eq_false_iff_ne.2 w,bt];exact⟨O,Y,λ_ h=>_c h w,λ_=>rfl⟩
theorem aaz(f:Small t)(i:cm t=M O)(a:VT t)(g:eB t (bJ t) A){c:Zg}(e:Cons t A c.l){p:Nat}(hp:p<W c.l):
 ∃q,wX t c (p:Int)=M q/\((q.2=0/\q.1.l=bump c.l p 1/\Cons t A (bump c.l p 1))\/(q.2≠0/\¬Cons t A (bump c.l p 1))):=by
 have N:=a.few;have I:=a.ok.one;have L:=e.1.1;have u:p<W t.a?.l:=c?
 have B:=ζd u;have z:=ζd hp;have y:=(DO f a e).2 c.l[p] (t? hp);have⟨X,n⟩:=e.1.2 p _ _ z B;have o:=Be z;unfold wX;rw[show di t (Sl.row [c]) (Sl.row [(p:Int)])=M 0 from L7 f i a g e (ps:=[p]) (by simpa using u) f?,ζb,show((0:Int)==0)=O from Y,bq,bC hp,ζb,bC u,ζb]
 by_cases C:c.l[p]=len t.a?.l[p].b?
 .rw[C,show(len t.a?.l[p].b?==len t.a?.l[p].b?)=O from f?,bq]
  refine⟨_,Y,.inr ⟨f?,λh=>?_⟩⟩
  have:=(h.1.2 p (c.l[p]+1) _ (by rw[o];simp[hp]) B).2
  simp only[len]at C;omega
 rw[show(c.l[p]==len t.a?.l[p].b?)=U from beq_eq_false_iff_ne.2 C,bt];simp only[len]at C;have j:c.l[p]=((c.l[p].toNat:Nat):Int):=c?
 have⟨b,Q,J⟩:=P3 f i a g e B (k:=c.l[p].toNat) (by rw[<-j];exact z) c?
 have w:=Cons.up a g e B z c?
 rw[Q,ζb];rw[<-o]at w
 cases b with
 |false=>rw[bt];exact⟨_,rfl,.inr ⟨f?,λh=>by have:=J.2 (w.2 h);cases this⟩⟩|true=>
  have⟨d,S,D⟩:=BG (c:=c) c? c?
  have⟨l,T,F⟩:=put_eq (s:=d) (p:=p) (x:=y? Z (c.l[p]+1)) (by rw[D];exact hp)
  have m:Sl.get d p=M c.l[p]:=by unfold Sl.get;rw[D];exact z
  rw[bq,S,ζb,pE (by rw[D];exact hp),ζb,m,ζb,ζb,T,ζb]
  exact⟨_,Y,.inl ⟨Y,by show l.l=_;rw[F,D,fH _ c? c?,o],w.1 (J.1 rfl)⟩⟩
def nq(L:aX SW)(i:Nat):ST:=rD L ((L[i]?).getD [])
structure D4(L:List (List Int))(x:bA):Prop where
 l:ins x.l=L
 n:x.next.l.length=L.length
 nx:∀i,i<L.length->∃o,x.next.l[i]?=some o/\o.l=(nq L i).map λk:Nat=>(k:Int)
theorem ZN(l:Small t)(v:cm t=M O)(b:VT t)(y:eB t (bJ t) A)(B:dh t A L)(R:_j L<=5000){r:Zb}(E:mh t=M (r,0))(f:ins r=L):
 Wp (dI t) λq=>∃x,q=(M x,0)/\x.t=t/\D4 L x:=by
 have F:=b.few;have T:_j r.l=_j L:=by rw[<-f,iT]
 have I:∀i(h:i<_j r.l),L[i]?=M r.l[i].l:=λi h=>by rw[<-f];exact sj h
 unfold dI;rw[E,ζb];simp only;rw[show((0:Int)==0)=O from _i,bq];unfold dI.W1;refine eu (_j r.l) (λi(q:Int×Mo ByteArray Int)=>q.1=(i:Int)/\∀(j:Nat)c,j<i->L[j]?=M c->iM q.2 (lB c) 0=(j:Int)) ⟨_i,λj c J=>_c J c?⟩ ?_ ?_
 .rintro i ⟨_,m⟩ hi ⟨rfl,c__⟩;simp only at c__;have w:=I i hi;have d:=(B.mem _).1 (s? w);have g:=wG b d;unfold dI.bk;dsimp only;rw[gy hi,bq,bC hi,ζb,OD g (by rw[d.1.1];exact F),ζb,bf]
  refine⟨cD i c?,λj c J a=>?_⟩
  show iM (mA m (lB r.l[i].l) (i:Int)) (lB c) 0=_;rw[FD]
  by_cases e:j=i
  .subst e;rw[w]at a;cases a;rw[J0 _i]
  have d__:=s? a;rw[K' (λh=>e ?_)]
  .exact c__ j c c? a
  have:=KR (wG b ((B.mem _).1 d__)) g h;subst this;rw[<-oT B.nodup a,oT B.nodup w]
 rintro⟨_,m⟩ ⟨rfl,c__⟩;simp only at c__;have H:∀c∈L,iM m (lB c) 0=(L.idxOf c:Int):=λc a=>by have:=List.idxOf_lt_length_of_mem a;exact c__ _ c c? (s7 a)
 unfold dI.bk;dsimp only;rw[gY,bt,bf];show Wp (dI.W2 r (len r) 0 t m ⟨t,r,.nil⟩) _;unfold dI.W2;refine eu (_j r.l) (λi(q:Int×Mo ByteArray Int×bA)=>q.1=(i:Int)/\q.2.1=m/\q.2.2.t=t/\q.2.2.l=r/\q.2.2.next.l.length=i/\∀j,j<i->∃o,q.2.2.next.l[j]?=M o/\o.l=(nq L j).map λk:Nat=>(k:Int)) ⟨_i,_i,_i,_i,_i,λj J=>_c J c?⟩ ?_ ?_
 .rintro i ⟨_,m,x⟩ hi ⟨rfl,rfl,D,x2,C,b__⟩;simp only at D x2 C b__;have w:=I i hi;have d:=(B.mem _).1 (s? w);have V:=d.1.1;have W:nq L i=rD L r.l[i].l:=by unfold nq;rw[w];rfl
  unfold dI.bK;dsimp only;rw[gy hi,bq,bC hi,ζb];unfold dI.W3;refine eu r.l[i].l.length (λn(q:Zg×Int×bA)=>q.2.1=(n:Int)/\q.2.2=x/\q.1.l.length<=n/\q.1.l=((B! n).filterMap λp=>if bump r.l[i].l p 1∈L then M (L.idxOf (bump r.l[i].l p 1))else G).map λk:Nat=>(k:Int)) ⟨_i,_i,z? _,_i⟩ ?_ ?_
  .rintro n ⟨o,_,x⟩ hn ⟨rfl,rfl,o1,o2⟩;simp only at o1 o2;have⟨q,K,a__⟩:=aaz l v b y d hn;unfold dI.dG;dsimp only;rw[gy hn,bq,K,ζb];rcases a__ with⟨k1,k2,k3⟩|⟨k1,k2⟩
   .have z:=(B.mem _).2 k3;have X:_j (bump r.l[i].l n 1)<=8:=by rw[zk];omega
    have⟨Q,Y,S⟩:=jk (s:=o) (x:=iM m (lB (bump r.l[i].l n 1)) 0) c?
    rw[k1,show((0:Int)==0)=O from _i,bq,OD (by rw[k2];exact wG b k3) (by rw[k2];exact X),ζb,k2,Y,ζb,bf]
    refine⟨cD n c?,_i,by show _j Q.l<=_;rw[S];simp;omega,?_⟩
    show Q.l=_;rw[S,o2,H _ z,A',List.filterMap_append,o!];simp[z]
   have e__:bump r.l[i].l n 1∉L:=λh=>k2 ((B.mem _).1 h)
   rw[show(q.2==0)=U from beq_eq_false_iff_ne.2 k1,bt,bf];refine⟨cD n c?,_i,by show _j o.l<=_;omega,?_⟩
   show o.l=_;rw[o2,A',List.filterMap_append,o!];simp[e__]
  rintro⟨o,_,x⟩ ⟨rfl,rfl,o1,o2⟩;simp only at o1 o2 D x2 C b__;have⟨Q,Y,S⟩:=jk (s:=x.next) (x:=o) c?
  unfold dI.dG;dsimp only;rw[gY,bt,bf];show Wp (_l (ec x.next o) _) _;rw[Y,ζb,bf];refine⟨cD i c?,_i,D,x2,by show _j Q.l=_;rw[S];simp[C],λj J=>?_⟩
  show∃u,Q.l[j]?=M u/\_;rw[S]
  by_cases e:j=i
  .subst e;exact⟨o,by rw[List.getElem?_append_right c?,C];simp,by rw[o2,W];rfl⟩
  have⟨u,N,P⟩:=b__ j c?
  exact⟨u,by rw[List.getElem?_append_left c?];exact N,P⟩
 rintro⟨_,m,x⟩ ⟨rfl,rfl,D,x2,C,b__⟩;simp only at D x2 C b__;unfold dI.bK;dsimp only;rw[gY,bt,bf];exact(bf _).2 ⟨x,_i,D,by rw[x2];exact f,by rw[C,T],λi hi=>b__ i c?⟩
theorem xJ(B:dh t A L){i k:Nat}(hi:i<W L)(a:k∈nq L i):i<k/\k<W L:=by unfold nq at a;rw[ζd hi]at a;exact K3 B (ζd hi) a
theorem ZH(a:VT t)(B:dh t A L){i:Nat}(hi:i<W L):W (nq L i)<=8:=by have b:=(B.mem _).1 (t? hi);have:=a.few;unfold nq rD;rw[ζd hi];refine U? (List.length_filterMap_le ..) ?_;simp[b.1.1];omega
def Bk(L:aX SW)(g:Nat->aX X'->X')(o:Sl X'):Prop:=W o.l=W L/\∀i,i<W L->b9 o i=g i ((nq L i).map (b9 o))
theorem Bk.ind(B:dh t A L){g1 g2:Nat->aX X'->X'}{a b:Sl X'}(D:Bk L g1 a)(J:Bk L g2 b){R:X'->X'->Prop}
 (h:∀i,i<W L->(∀k∈nq L i,R (b9 a k) (b9 b k))->R (g1 i ((nq L i).map (b9 a))) (g2 i ((nq L i).map (b9 b)))):∀i,i<W L->R (b9 a i) (b9 b i):=by
 have key:∀n i,i<W L->W L<=i+n->R (b9 a i) (b9 b i):=by intro n;induction n with|zero=>intro i c u;omega|succ n w=>intro i c u;rw[D.2 i c,J.2 i c];refine h i c λk d=>?_;have:=xJ B c d;exact w k this.2 c?
 exactλi hi=>key (W L) i hi c?
theorem ZG{a b:Sl X'}(B:W a.l=W b.l)(h:∀i,i<W a.l->b9 a i=b9 b i):a.l=b.l:=by refine List.ext_getElem B λi c u=>?_;have:=h i c;unfold b9 at this;rw[ζd c,ζd u]at this;exact this
theorem CV{α:Type}{s r:Sl α}{p:Nat}{x:α}(h:s.whole=M s)(e:Sl.put s p x=M r):r.whole=M r:=by unfold Sl.put at e;split at e<;>cases e;cases s<;>first|rfl|cases h
theorem Zr(d:VT t)(B:dh t A L)(h:_j L<=5000){x:bA}(Y:D4 L x){p:Int×Sl X'->aY X'}{g:Nat->aX X'->X'}(hp:∀(i:Nat)(nx:Sl X'),i<_j L->_j nx.l<=8->p ((i:Int),nx)=M (g i nx.l)):
 Wp (dM x p) λo=>Bk L g o/\o.whole=M o:=by
 have Q:len x.l=((_j L:Nat):Int):=by simp only[len];rw[<-iT,Y.l]
 unfold dM;rw[Q,mkz _ c?,ζb,fH _ c? c?]
 unfold dM.W1;refine fI (λq:Sl X'×Int=>∃k:Nat,k<=_j L/\q.2=(k:Int)-1/\q.1.l.length=_j L/\q.1.whole=M q.1/\∀i,k<=i->i<_j L->b9 q.1 i=g i ((nq L i).map (b9 q.1))) (λq=>(q.2+1).toNat)
  ⟨_j L,z? _,_i,by simp[Sl.l],_i,λi b D=>c?⟩ ?_
 rintro⟨o,_⟩ ⟨k,c,rfl,o1,S,o2⟩;simp only at o1 S o2;unfold dM.bk;dsimp only
 cases k with
 |zero=>
  rw[show _p ((((0:Nat):Int)-1)>=0)=U from by decide,bt,bf]
  exact(bf _).2 ⟨⟨o1,λi hi=>o2 i (V? _) hi⟩,S⟩
 |succ i=>
  have hi:i<_j L:=c?
  have⟨u,a__,X⟩:=Y.nx i hi;have f:=ZH d B hi;have T:_j u.l=_j (nq L i):=by rw[X,List.length_map]
  rw[show(((i+1:Nat):Int)-1)=(i:Int)from c?,show _p ((i:Int)>=0)=O from f?,bq,iJ,a__,ζb]
  unfold dM.W2;refine eu (_j u.l) (λm(q:Sl X'×Int)=>q.2=(m:Int)/\q.1.l=((nq L i).take m).map (b9 o)) ⟨_i,by simp[Sl.l]⟩ ?_ ?_
  .rintro m ⟨w,_⟩ hm ⟨rfl,z⟩;simp only at z;have C:m<_j (nq L i):=by omega
   have l:=xJ B hi (t? C);have N:idx u (m:Int)=M (((nq L i)[m]:Nat):Int):=by rw[iJ,X];simp[C]
   have W:Sl.get o (nq L i)[m]=M (b9 o (nq L i)[m]):=by unfold Sl.get b9;rw[ζd c?];rfl
   have⟨w',J,F⟩:=jk (s:=w) (x:=b9 o (nq L i)[m]) (by rw[z];simp;omega)
   unfold dM.bK;dsimp only;rw[gy hm,bq,N,ζb,pE (by omega:(nq L i)[m]<_j o.l),ζb,W,ζb,J,ζb,bf]
   refine⟨cD m c?,?_⟩
   show w'.l=_;rw[F,z,T? C,o!];rfl
  rintro⟨w,_⟩ ⟨rfl,z⟩;simp only at z;rw[T,H?]at z;unfold dM.bK;dsimp only;rw[gY,bt,bf];have⟨y,J,F⟩:=put_eq (s:=o) (p:=i) (x:=g i w.l) c?
  show Wp (H (p ((i:Int),w)) _) _;rw[hp i w hi (by rw[z];simpa using f),ζb,pE (by omega:i<_j o.l),ζb,J,ζb,bf]
  have I:∀k,b9 y k=if k=i then g i w.l else b9 o k:=λk=>by unfold b9;rw[F,D?];by_cases e:k=i;subst e;rw[J0 _i,J0 _i,J0 c?];rfl;rw[K' (Ne.symm e),K' e]
  have a:∀j,i<=j->j<_j L->(nq L j).map (b9 y)=(nq L j).map (b9 o):=λj b D=>List.map_congr_left λk c=>by have:=xJ B D c;rw[I,K' c?]
  refine⟨⟨i,c?,by show y? Z ((i:Int)-1)=_;exact fH _ c? c?,by show _j y.l=_;rw[F];simp[o1],CV S J,λj b D=>?_⟩,?_⟩
  .show b9 y j=g j ((nq L j).map (b9 y));rw[a j b D,I]
   by_cases e:j=i
   .subst e;rw[J0 _i,z]
   rw[K' e];exact o2 j c? D
  show((y? Z ((i:Int)-1):Int)+1).toNat<((i:Int)+1).toNat;rw[fH _ c? c?];omega
theorem Jt {s:Sl Bool} {v:Bool} (B:s.l.length<1073741824):jK s v=some (s.l.any λb=>v==b):=by
 have key:Wp (jK s v) λb=>b=s.l.any λb=>v==b:=by
  unfold jK dO dO.W1;rw[ey];refine eu s.l.length (λi (q:Int)=>q=(i:Int)/\∀(j:Nat) b,j<i->s.l[j]? = some b->(v==b)=false) ⟨rfl,λj b h=>_c h c?⟩ ?_ ?_
  .rintro i _ hi ⟨rfl,h1⟩;unfold dO.bk;rw[gy hi,bq,bC hi,ζb]
   cases w:(v==s.l[i])with
   | true=>
    rw[bq,bf];refine(bf _).2 ((bf _).2 ?_);rw[show decide ((i:Int)>=0)=true from by simp]
    exact(List.any_eq_true.2 ⟨_,List.getElem_mem hi,w⟩).symm
   | false=>
    rw[bt,bf];refine⟨cD i c?,λj b z u=>?_⟩
    by_cases e:j=i
    .subst e;rw[ζd hi]at u;cases u;exact w
    exact h1 j b c? u
  rintro _ ⟨rfl,h1⟩;unfold dO.bk;rw[gY,bt,bf];refine(bf _).2 ((bf _).2 ?_);rw[show decide ((-1:Int)>=0)=false from by decide]
  refine(List.any_eq_false.2 λb w=>?_).symm
  obtain⟨j,z⟩:=List.mem_iff_getElem?.1 w;rw[h1 j b (ζe.1 z).1 z];simp
 obtain⟨b,h1,rfl⟩:=key;exact h1
theorem NZ{s:Sl X'}(B:W s.l<=8):qV s=M (s.l.any id):=by unfold qV;rw[Jt c?];simp only[ζb];congr 2;funext b;cases b<;>rfl
theorem all_eq{s:Sl X'}(B:W s.l<=8):sD s=M (!s.l.isEmpty&&s.l.all id):=by unfold sD;rw[Jt c?,show _p (len s>0)= !s.l.isEmpty from by cases h:s.l<;>simp[len,h]];cases s.l.isEmpty with|true=>rfl|false=>rw[Bool.not_false,bq];simp only[ζb,Bool.true_and];congr 1;rw[Bool.eq_iff_iff];simp
def gS(kind:Int)(l:Sl X')(i:Nat)(nx:aX X'):X':=if kind=18 then b9 l i||nx.any id else if kind=19 then b9 l i||(!nx.isEmpty&&nx.all id)else if kind=20 then b9 l i&&(nx.isEmpty||nx.any id)else b9 l i&&nx.all id
theorem UD{kind:Int}{l:Sl X'}{i:Nat}{nx:Sl X'}(hi:i<W l.l)(B:W nx.l<=8):iD (i:Int) nx kind l=M (gS kind l i nx.l):=by
 have z:(len nx==0)=nx.l.isEmpty:=by cases h:nx.l<;>simp[len,h];omega
 unfold iD gS;by_cases a:kind=18;rw[show(kind==18)=O from by simp[a],bq,J0 a,sY hi,ζb,NZ B];cases b9 l i<;>rfl;rw[show(kind==18)=U from beq_eq_false_iff_ne.2 a,bt,K' a];by_cases u:kind=19;rw[show(kind==19)=O from by simp[u],bq,J0 u,sY hi,ζb,all_eq B];cases b9 l i<;>rfl;rw[show(kind==19)=U from beq_eq_false_iff_ne.2 u,bt,K' u];by_cases w:kind=20;rw[show(kind==20)=O from by simp[w],bq,J0 w,sY hi,ζb,NZ B,z];cases b9 l i<;>cases nx.l.isEmpty<;>rfl;rw[show(kind==20)=U from beq_eq_false_iff_ne.2 w,bt,K' w,sY hi,ζb,all_eq B,z];cases h:nx.l<;>cases b9 l i<;>rfl
end
section
variable{t:Z4}{A:bQ 200 bu}
end
section
variable{t:Z4}{A:bQ 200 bu}{L:aX SW}
end
theorem nZ.same{a b:SW}(h:nZ a b)(k:nZ b a):a=b:=by refine List.ext_getElem h.1 λj c u=>?_;have:=h.2 j _ _ (ζd c) (ζd u);have:=k.2 j _ _ (ζd u) (ζd c);omega
section
variable{t:Z4}{A:bQ 200 bu}{L:aX SW}{tb:Sl X'}
end
section
variable{α σ:Type}
def Az(p:α->σ->aY (X'×σ)):aX α->σ->aY (X'×σ)
 |[],x=>M (U,x)|a::r,x=>H (p a x) λy=>if y.1 then M (O,y.2)else Az p r y.2
theorem Om{s:Sl α}{p:α->σ->aY (X'×σ)}{x:σ}(B:W s.l<1073741824):C4 s p x=Az p s.l x:=by
 have key:∀(c:aX α)(j:Nat)(x:σ),s.l.drop j=c->(H (bM (GA s p) ((j:Int),x)) (Fw.elim (λe=>M ((-1:Int),e)) λe=>M e)).bind (λy:Int×σ=>M (_p (y.1>=0),y.2))=Az p c x:=by intro c;induction c with|nil=>intro j x hd;have d:_p ((j:Int)<len s)=U:=(by have:W s.l<=j:=(by simpa using hd);simp[len];omega);rw[fM];simp only[GA,d,bg,v?,M',ζb,Fw.elim,Az];rfl|cons a c u=>intro j x hd;have d:j<W s.l:=(by apply L?;intro C;rw[List.drop_eq_nil_of_le c?]at hd;cases hd);have w:=List.drop_eq_getElem_cons d;rw[w]at hd;simp only[List.cons.injEq]at hd;rw[fM];simp only[GA,gy d,bg,L',bC d,ζb,hd.1,Az];cases p a x with|none=>rfl|some y=>have⟨b,z⟩:=y;simp only[ζb];cases b with|true=>simp[Fw.elim]|false=>simp only[v?,M',ζb,cD j c?];exact u (j+1) z hd.2
 exact key s.l 0 x Y
def Ik(p:α->aY X'):aX α->aY X'
 |[]=>M U|a::r=>H (p a) λb=>if b then M O else Ik p r
theorem Jg(p:α->aY X'):∀l:aX α,Az (λx(u:Unit)=>(p x).map λb=>(b,u)) l ()=(Ik p l).map λb=>(b,())
 |[]=>rfl|a::r=>by simp only[Az,Ik];cases p a with|none=>rfl|some b=>cases b<;>simp[Jg p r]
theorem vg{s:Sl α}(p:α->aY X')(B:W s.l<1073741824):C4 s (λx(u:Unit)=>(p x).map λb=>(b,u)) ()=(Ik p s.l).map λb=>(b,()):=by rw[Om B,Jg]
theorem uD{p:α->aY X'}{f:α->X'}:∀{l:aX α},(∀x∈l,p x=M (f x))->Ik p l=M (l.any f)
 |[],_=>rfl|a::r,h=>by simp only[Ik,h a f?,ζb,any_cons,uD (λx B=>h x (C? _ B))];cases f a<;>rfl
theorem gj{δ:Type}{b:(α->aY δ)->α->aY δ}{n:Nat}(h:0<n)(z:α):dY b n z=b (dY b (n-1)) z:=by cases n with|zero=>omega|succ n=>rfl
end
def Qo(l:SW)(az:aX Assign):SW:=az.foldl (λl a=>l.set a.var.toNat a.value) l
def lg(P:bU):Nat->SW
 |0=>P.i?.l.map Var.init_|k+1=>match P.b?.l[k]?with
  |some e=>Qo (lg P k) e.assign.l|none=>lg P k
theorem KH:∀(az:aX Assign)(l:SW),W (Qo l az)=W l
 |[],l=>rfl|a::r,l=>by show(Qo (l.set a.var.toNat a.value) r).length=_;rw[KH r];simp
theorem tf(P:bU):∀k,W (lg P k)=W P.i?.l
 |0=>by simp[lg]|k+1=>by unfold lg;split;rw[KH,tf P k];exact tf P k
def Nr{α:Type}(s:Sl α):Prop:=s=.nil\/∃l,s=.row l
theorem LL:∀(vs:aX Var)(s:Zg),Nr s->W s.l+W vs<1073741824->∃B,yX vs s=M B/\Nr B/\B.l=s.l++vs.map Var.init_
 |[],s,h,_=>⟨s,rfl,h,f?⟩|v::r,s,h,D=>by simp only[Z?]at D;have a:ec s v.init_=M (.row (s.l++[v.init_])):=(by unfold ec;rw[J0 c?]);have⟨B,g1,g2,g3⟩:=LL r (.row (s.l++[v.init_])) (.inr ⟨_,Y⟩) (by show(s.l++[v.init_]).length+W r<1073741824;simp;omega);refine⟨B,?_,g2,by rw[g3];show(s.l++[v.init_])++r.map Var.init_=_;simp⟩;simp only[yX,a,ζb,g1]
theorem LA:∀(az:aX Assign)(s:Zg),Nr s->(∀a∈az,0<=a.var/\a.var<W s.l)->∃B,yF az s=M B/\Nr B/\B.l=Qo s.l az
 |[],s,h,_=>⟨s,rfl,h,rfl⟩|a::r,s,h,D=>by have⟨J,c⟩:=D a f?;have d:Sl.iF s a.var=M a.var.toNat:=(by unfold Sl.iF;rw[J0 ⟨J,c?⟩]);rcases h with rfl|⟨l,rfl⟩;simp[Sl.l]at c;omega;have u:Sl.put (.row l) a.var.toNat a.value=M (.row (l.set a.var.toNat a.value)):=(by unfold Sl.put;rw[J0 (by simp[Sl.l]at c⊢;omega)]);have⟨B,g1,g2,g3⟩:=LA r (.row (l.set a.var.toNat a.value)) (.inr ⟨_,Y⟩) (λb w=>by have:=D b (C? _ w);simpa[Sl.l]using this);refine⟨B,?_,g2,g3⟩;simp only[yF,d,u,ζb,g1]
theorem OH{s:Zg}(h:Nr s)(B:W s.l<1073741824):∃c,PC s=M c/\c.l=s.l:=by rcases h with rfl|⟨l,rfl⟩;exact⟨.nil,Y,Y⟩;unfold PC IB.eC pT;simp only[Sl.isNil,ζb,bg,v?,M'];by_cases u:(Sl.row l).l=[];rw[J0 u];exact⟨.row [],Y,u.symm⟩;rw[K' u,J0 (by simp[Sl.l]at B⊢;omega)];exact⟨_,Y,by simp[Sl.l]⟩
def Ad(P:bU):Prop:=∀e∈P.b?.l,∀a∈e.assign.l,0<=a.var/\a.var<W P.i?.l
theorem K5{P:bU}(B:Ad P)(f:W P.i?.l<1073741824):∀(b:aX WF)(k:Nat)(s:Zg),P.b?.l.drop k=b->Nr s->s.l=lg P k->
 ∃r,yW (k:Int) b s=M r/\W r=W b/\∀(i:Nat)x,r[i]?=M x->x.1=((k+i+1:Nat):Int)/\x.2.l=lg P (k+i+1)
 |[],k,s,_,_,_=>⟨[],rfl,rfl,f?⟩|e::b,k,s,hd,D,J=>by have d:k<W P.b?.l:=(by apply L?;intro D;rw[List.drop_eq_nil_of_le c?]at hd;cases hd);have C:=List.drop_eq_getElem_cons d;rw[C]at hd;simp only[List.cons.injEq]at hd;have h:e∈P.b?.l:=hd.1▸t? d;have w:W s.l=W P.i?.l:=(by rw[J,tf]);have⟨n,g1,g2,g3⟩:=LA e.assign.l s D (λa I=>by rw[w];exact B e h a I);have u:lg P (k+1)=n.l:=(by rw[g3,J];unfold lg;rw[ζd d,hd.1];cases k<;>rfl);have⟨c,g4,g5⟩:=OH g2 (by rw[<-u,tf];exact f);have⟨r,L,j,Q⟩:=K5 B f b (k+1) n hd.2 g2 u.symm;refine⟨((k:Int)+1,c)::r,?_,by simp[j],λi x z=>?_⟩;simp only[yW,g1,g4,ζb];rw[show(k:Int)+1=((k+1:Nat):Int)from Y,L];rfl;cases i with|zero=>simp only[List.getElem?_cons_zero,ζa]at z;subst z;exact⟨rfl,by rw[g5,<-u]⟩|succ i=>rw[List.getElem?_cons_succ]at z;have⟨S,T⟩:=Q i x z;exact⟨by rw[S];congr 1;omega,by rw[T];congr 1;omega⟩
theorem Ju{P:bU}(B:Ad P)(a:W P.i?.l<1073741824)(T:W P.b?.l<1073741824)(D:∀e∈P.b?.l,W e.assign.l<1073741824):
 ∃r,kD P=M r/\W r=W P.b?.l+1/\∀(i:Nat)x,r[i]?=M x->x.1=(i:Int)/\x.2.l=lg P i:=by
 have⟨s,g1,g2,g3⟩:=LL P.i?.l .nil (.inl Y) (by simpa[Sl.l]using a)
 have w:s.l=lg P 0:=by rw[g3];simp[Sl.l,lg]
 have⟨c,g4,g5⟩:=OH g2 (by rw[w,tf];exact a)
 have⟨r,z,C,d⟩:=K5 B a P.b?.l 0 s Y g2 w;refine⟨(0,c)::r,?_,by simp[C],λi x u=>?_⟩
 .unfold kD;have b:(qI (W P.i?.l)&&(qI (W P.b?.l)&&P.b?.l.all λe=>qI (W e.assign.l)))=O:=by
   simp only[ζh,M?,qI,_e];exact⟨c?,c?,λe h=>by have:=D e h;omega⟩
  rw[J0 b,g1,ζb,g4,ζb];rw[show((0:Nat):Int)=0 from Y]at z;rw[z];rfl
 cases i with
 |zero=>simp only[List.getElem?_cons_zero,ζa]at u;subst u;exact⟨rfl,by rw[g5,w]⟩|succ i=>rw[List.getElem?_cons_succ]at u;have⟨I,J⟩:=d i x u;exact⟨by rw[I];congr 1;omega,by rw[J];congr 1;omega⟩
theorem Up{P:bU}(D:Ad P)(b:W P.i?.l<1073741824)(J:W P.b?.l<1073741824)(T:∀e∈P.b?.l,W e.assign.l<1073741824){k:Nat}(d:k<=W P.b?.l):
 ∃x,gD P (k:Int)=M x/\x.l=lg P k:=by
 have⟨r,c,L,C⟩:=Ju D b J T;have key:∀(a:aX (Int×Zg))(i:Nat)(q:Zg),r.drop i=a->i<=k->∃x,H (mw (λ(x:Int×(Zg))(q:Zg)=>gD.k_ P k x q) a q) (Fw.sN (λq=>M Sl.nil) (λe=>Empty.elim e) (λe=>M e))=M x/\x.l=lg P k:=by intro a;induction a with|nil=>intro i q hd hi;have:W r<=i:=(by simpa using hd);omega|cons y a h=>intro i q hd hi;have u:i<W r:=c?;have e2:=List.drop_eq_getElem_cons u;rw[e2]at hd;simp only[List.cons.injEq]at hd;have⟨B,I⟩:=C i y (by rw[ζd u,hd.1]);by_cases w:i=k;subst w;refine⟨y.2,?_,I⟩;simp only[mw,gD.k_,B,beq_self_eq_true,bg,L',ζb,Fw.sN];have z:(y.1==(k:Int))=U:=(by rw[B];simp;omega);have⟨x,g1,g2⟩:=h (i+1) .nil hd.2 c?;refine⟨x,?_,g2⟩;simp only[mw,gD.k_,z,bg,v?,M',ζb];exact g1
 have⟨x,g1,g2⟩:=key r 0 .nil Y (V? _);refine⟨x,?_,g2⟩;unfold gD pI gD.E1;simp only[ζb,c];exact g1
mutual
def Pred.sz:T'->Nat
 |⟨_,_,_,_,_,l⟩=>1+Pred.szS l
def Pred.szS:Sl T'->Nat
 |.nil=>0|.emp=>0|.row l=>Pred.AU l|.part l=>Pred.AU l
def Pred.AU:aX T'->Nat
 |[]=>0|x::r=>Pred.sz x+Pred.AU r
end
mutual
def Pred.dp:T'->Nat
 |⟨_,_,_,_,_,l⟩=>1+Pred.dpS l
def Pred.dpS:Sl T'->Nat
 |.nil=>0|.emp=>0|.row l=>Pred.Dm l|.part l=>Pred.Dm l
def Pred.Dm:aX T'->Nat
 |[]=>0|x::r=>max (Pred.dp x) (Pred.Dm r)
end
mutual
def Pred.jf(f:T'->X'):T'->X'
 |⟨a,b,c,d,e,l⟩=>f ⟨a,b,c,d,e,l⟩&&Pred.Qe f l
def Pred.Qe(f:T'->X'):Sl T'->X'
 |.nil=>O|.emp=>O|.row l=>Pred.HK f l|.part l=>Pred.HK f l
def Pred.HK(f:T'->X'):aX T'->X'
 |[]=>O|x::r=>Pred.jf f x&&Pred.HK f r
end
theorem Pred.acf(s:Sl T'):Pred.szS s=Pred.AU s.l:=by cases s<;>simp[Pred.szS,Pred.AU,Sl.l]
theorem Pred.ab2(s:Sl T'):Pred.dpS s=Pred.Dm s.l:=by cases s<;>simp[Pred.dpS,Pred.Dm,Sl.l]
theorem Pred.KU(f:T'->X'):∀l:aX T',Pred.HK f l=l.all (Pred.jf f)
 |[]=>by simp[Pred.HK]|x::r=>by simp only[Pred.HK,c!,Pred.KU f r]
theorem Pred.abg(f:T'->X')(s:Sl T'):Pred.Qe f s=s.l.all (Pred.jf f):=by cases s<;>simp[Pred.Qe,Pred.KU,Sl.l]
theorem Pred.WO(p:T'):p.sz=1+Pred.AU p.l.l:=by cases p;simp only[Pred.sz,Pred.acf]
theorem Pred.Km(p:T'):p.dp=1+Pred.Dm p.l.l:=by cases p;simp only[Pred.dp,Pred.ab2]
theorem Pred.mF(f:T'->X')(p:T'):p.jf f=(f p&&p.l.l.all (Pred.jf f)):=by cases p;simp only[Pred.jf,Pred.abg]
theorem Pred.OC:∀{l:aX T'}{q:T'},q∈l->q.dp<=Pred.Dm l
 |x::r,q,h=>by simp only[Pred.Dm];rcases mem_cons.1 h with rfl|h;omega;have:=Pred.OC h;omega
theorem Pred.OG:∀{l:aX T'}{q:T'},q∈l->q.sz<=Pred.AU l
 |x::r,q,h=>by simp only[Pred.AU];rcases mem_cons.1 h with rfl|h;omega;have:=Pred.OG h;omega
theorem Pred.lZ{p q:T'}(h:q∈p.l.l):q.dp<p.dp:=by rw[p.Km];have:=Pred.OC h;omega
theorem Pred.tX(p:T'):0<p.dp:=by rw[p.Km];omega
theorem Pred.ind{M:T'->Prop}(h:∀p,(∀q∈p.l.l,M q)->M p)(p:T'):M p:=by
 have key:∀n p,p.dp<=n->M p:=by intro n;induction n with|zero=>intro p u;have:=p.tX;omega|succ n w=>intro p u;exact h p λq z=>w q (by have:=Pred.lZ z;omega)
 exact key _ p (z? _)
abbrev Pred.Sm(p:Pred):Prop:=p.jf (λq=>_p (W q.l.l<1073741824))=O
theorem Pred.Sm.len{p:T'}(h:p.Sm):W p.l.l<1073741824:=by unfold Pred.Sm at h;rw[p.mF]at h;simp only[ζh,_e]at h;exact h.1
theorem Pred.Sm.vi{p q:T'}(h:p.Sm)(B:q∈p.l.l):q.Sm:=by unfold Pred.Sm at h;rw[p.mF]at h;simp only[ζh,M?]at h;exact h.2 q B
theorem NP{f:T'->aY X'}{g:T'->X'}(p:T')(B:p.Sm):p.jf (λq=>f q==M (g q))=O->∀n,p.dp<=n->dY (λr(z:T')=>j_ z f r) n p=M (p.jf g):=by induction p using Pred.ind with|h p C=>intro u n D;rw[p.mF]at u;simp only[ζh,M?,_g]at u;have hd:=p.Km;rw[gj c?];show j_ p f _=_;unfold j_;rw[u.1,ζb,p.mF];cases g p with|false=>rfl|true=>rw[bq,vg _ B.len,uD (f:=λq=> !q.jf g) (λq w=>by have:=C q w (B.vi w) (u.2 q w) (n-1) (by have:=Pred.lZ w;omega);show(dY (λr(z:T')=>j_ z f r) (n-1) q).bind _=_;rw[this];rfl)];simp only[Option.map_some,ζb,Bool.true_and];congr 1;rw[Bool.eq_iff_iff];simp
abbrev OR(p:Pred):Bool:=S? p.name==S? ByteArray.empty
abbrev O2(p:Pred)(c:Int):Bool:=(len p.l==c)&&(!_p (p.n<0)&&(!_p (p.n>1125899906842624)&&((p.n==0||p.kind==1)&&(p.kind==2||(p.kind==3||(p.kind==4||(p.proc==0&&(p.k?==0&&OR p))))))))
theorem Zy:∀k:_root_.Fin 22,1<=k.1->(bQ.at yN ((k.1:Nat):Int)).isSome=O:=by decide
theorem Jh{k:Int}(a:1<=k)(B:k<22):∃c,bQ.at yN k=M c:=by have g:=Zy ⟨k.toNat,c?⟩ g?;grind[Option.isSome_iff_exists]
theorem HY{p:T'}{c:Int}(f:1<=p.kind)(B:p.kind<22)(d:bQ.at yN p.kind=M c):mg p=M (O2 p c):=by
 unfold mg wO O2 OR;rw[N' (show¬p.kind<1 by omega),bt,ζb,N' (show¬p.kind>=22 by omega),bt,d,ζb,ζb];generalize(len p.l==c)=e;generalize _p (p.n<0)=a;generalize _p (p.n>1125899906842624)=b;generalize(p.n==0)=z;generalize(p.kind==1)=k1;generalize(p.kind==2)=k2;generalize(p.kind==3)=k3;generalize(p.kind==4)=k4;generalize(p.proc==0)=d1;generalize(p.k?==0)=d2;generalize(S? p.name==S? ByteArray.empty)=u
 cases e with
 |false=>rfl|true=>cases a with
  |true=>rfl|false=>cases b with
   |true=>rfl|false=>cases z<;>cases k1<;>first|rfl|(cases k2<;>cases k3<;>cases k4<;>cases d1<;>cases d2<;>cases u<;>rfl)
theorem Kw{p:T'}(h:p.kind<1\/22<=p.kind):mg p=M U:=by grind[mg,bg]
def fB(p:T'):X':=(mg p).getD U
theorem Y9(p:T'):mg p=M (fB p):=by unfold fB;by_cases h:p.kind<1\/22<=p.kind;all_goals grind[Kw,Jh,HY]
theorem ta{p:T'}(h:fB p=O):1<=p.kind/\p.kind<22/\bQ.at yN p.kind=M (len p.l):=by grind[fB,Kw,Jh,HY]
def jL(p:T'):X':=_p (p.sz<=200)&&(_p (p.dp<=20)&&p.jf fB)
abbrev wT(p:Pred)(d l:Nat):Bool:=_p (p.sz<=l)&&(_p (p.dp+d<=21)&&p.jf fB)
abbrev Bq(k:aX Pred)(d l:Nat):Bool:=_p (Pred.AU k<=l)&&(_p (Pred.Dm k+d<=21)&&k.all (Pred.jf fB))
theorem X4(p:T')(J:p.Sm):∀(n d l:Nat),1<=n->22<=n+d->d<=21->1<=d->l<=200->
 ∃B:Int,dY (λr(z:T'×Int×Int)=>fq z.1 z.2.1 z.2.2 r) n (p,(d:Int),(l:Int))=M (wT p d l,B)/\(wT p d l=O->B=((l-p.sz:Nat):Int)):=by
 induction p using Pred.ind with
 |h p C=>
  intro n d l b Q hd kE c;have S:=p.WO;have T:=p.Km;rw[gj c?]
  have C:=λq D=>C q D (J.vi D) (n-1)
  show∃B,fq p (d:Int) (l:Int) (dY (λr(z:T'×Int×Int)=>fq z.1 z.2.1 z.2.2 r) (n-1))=_/\_
  generalize dY (λr(z:T'×Int×Int)=>fq z.1 z.2.1 z.2.2 r) (n-1)=R at C⊢
  unfold fq;rw[fH _ c? c?,Y9]
  by_cases o:l=0
  .subst o;have w:wT p d 0=U:=by
    grind
   rw[w];exact⟨_,Y,λh=>by cases h⟩
  rw[N' (show¬((l:Int)-1<0)by omega),bt,ζb]
  by_cases e:20<d
  .have w:wT p d l=U:=by
    grind
   rw[w,_a (show(d:Int)>20 by omega)]
   exact⟨_,Y,λh=>by cases h⟩
  rw[N' (show¬((d:Int)>20)by omega),bt,ζb]
  have f:=p.mF fB
  cases g:fB p with
  |false=>
   have w:wT p d l=U:=g?
   rw[w];exact⟨_,rfl,λh=>by cases h⟩
  |true=>
   rw[ζb,show(!O)=U from Y,bt,Om J.len];have key:∀(k:aX T'),(∀q∈k,q∈p.l.l)->∀m:Nat,m<=200->∃m':Int,Az (λx s=>jl x (d:Int) s R) k (m:Int)=M (!Bq k (d+1) m,m')/\(Bq k (d+1) m=O->m'=((m-Pred.AU k:Nat):Int)):=by intro k;induction k with|nil=>simp_all[Az,Pred.AU,Pred.Dm]|cons q k i=>intro a m N;have⟨B,g1,g2⟩:=C q (a q f?) (d+1) m c? c? c? c? N;have e1:jl q (d:Int) (m:Int) R=M (!wT q (d+1) m,B):=(by grind[jl,cD]);simp only[Az,e1,ζb];have u:Bq (q::k) (d+1) m=(wT q (d+1) m&&Bq k (d+1) (m-q.sz)):=(by rw[Bool.eq_iff_iff];simp only[Bq,wT,Pred.AU,Pred.Dm,ζh,c!];constructor;rintro⟨a1,I,X,F⟩;have a1:=_b a1;have I:=_b I;exact⟨⟨_a c?,_a c?,X⟩,_a c?,_a c?,F⟩;grind);cases w:wT q (d+1) m with|false=>rw[u,w];grind|true=>have⟨m',L,j⟩:=i (λx y=>a x (C? _ y)) (m-q.sz) c?;rw[u,w,Bool.true_and,g2 w];refine⟨m',g?,λh=>?_⟩;rw[j h];have:q.sz<=m:=(by have:=w;grind);grind[Pred.AU]
   have⟨m',L,j⟩:=key p.l.l (λq D=>D) (l-1) c?
   rw[show((l:Int)-1)=((l-1:Nat):Int)from c?,L,ζb]
   have w:wT p d l=Bq p.l.l (d+1) (l-1):=by rw[Bool.eq_iff_iff];grind
   refine⟨m',by rw[w];simp,λh=>?_⟩
   grind
theorem qB{p:T'}(B:p.Sm):nj p=M (jL p):=by obtain⟨u,h,-⟩:=X4 p B 100000 1 200 c? c? c? c? c?;unfold nj rU;rw[show dY (λr(z:T'×Int×Int)=>fq z.1 z.2.1 z.2.2 r) 100000 (p,(1:Int),(200:Int))=_ from h];simp only[ζb];congr 1;rw[Bool.eq_iff_iff];simp_all[jL]
section
variable{t:Z4}
abbrev Bt(t:Trace)(p:Int):Bool:=_p (p>=0)&&_p (p<len t.a?)
def Pg(t:Z4)(p:Int)(name:U'):X':=match idx t.a? p with
 |some P=>P.i?.l.any λv=>S? v.name==S? name|none=>U
def sH(t:Z4)(q:T'):X':=if q.kind==2 then Bt t q.proc&&(q.k?==0&&Pg t q.proc q.name)else if q.kind==3 then Bt t q.proc&&(q.k?==0&&OR q)else if q.kind==4 then Bt t q.proc&&(Bt t q.k?&&(!(q.proc==q.k?)&&OR q))else O
theorem NS(p:Int):lT t p=M (Bt t p):=by unfold lT Bt;cases _p (p>=0)<;>rfl
theorem rX{p:Int}(h:Bt t p=O):∃n:Nat,p=n/\n<W t.a?.l:=by simp only[Bt,ζh]at h;have a:=_b h.1;have u:=_b h.2;exact⟨p.toNat,c?,g?⟩
theorem Uz(a:Small t){p:Int}(h:Bt t p=O)(name:U'):sX t p name=M (Pg t p name):=by obtain⟨n,rfl,u⟩:=rX h;unfold sX Pg;rw[bC u,ζb,Ap (p:=λz=>pX z name) (f:=λv=>S? v.name==S? name) (λv _=>rfl) (a.2 _ (t? u)).2.1];rfl
theorem Zh(a:Small t)(q:T'):lN q t=M (sH t q):=by
 unfold lN sH OR;rw[NS,NS]
 cases q.kind==2 with
 |true=>rw[bq,J0 Y,ζb];cases h:Bt t q.proc with|false=>rfl|true=>rw[Uz a h];cases q.k?==0<;>rfl
 |false=>rw[bt,K' f?];cases q.kind==3 with|true=>rw[bq,J0 Y];cases Bt t q.proc<;>cases q.k?==0<;>cases(S? q.name==S? ByteArray.empty)<;>rfl|false=>rw[bt,K' f?];cases q.kind==4 with|true=>rw[bq,J0 Y];cases Bt t q.proc<;>cases Bt t q.k?<;>cases(q.proc==q.k?)<;>cases(S? q.name==S? ByteArray.empty)<;>rfl|false=>rfl
theorem Mt{f:T'->aY X'}{g:T'->X'}(h:∀q,f q=M (g q)){p:T'}(B:p.Sm)(hd:p.dp<=100000):oN p f=M (p.jf g):=by refine NP p B ?_ _ hd;induction p using Pred.ind with|h p w=>rw[p.mF,ζh,M?];exact⟨by rw[h];simp,λq u=>w q u (B.vi u) (by have:=Pred.lZ u;omega)⟩
theorem vG(a:Small t){p:T'}(B:p.Sm)(hd:p.dp<=100000):pY t p=M (p.jf (sH t)):=by unfold pY;rw[Mt (g:=sH t) (λq=>Zh a q) B hd];rfl
abbrev nD(k:Int):Int:=if k<=8 then 1 else 2
abbrev BJ(k:Int):Int:=if k<=12 then 1 else 2
def An(q:T'):X':=q.l.l.all λk=>nD k.kind==BJ q.kind
theorem rN(k:Int):nk k=M (nD k):=by unfold nk nD;by_cases h:k<=8;rw[_a h,J0 h];rfl;rw[N' h,K' h];rfl
theorem YB(k:Int):ua k=M (BJ k):=by unfold ua BJ;by_cases h:k<=12;rw[_a h,J0 h];rfl;rw[N' h,K' h];rfl
theorem XO{q:T'}(B:W q.l.l<1073741824):jZ q=M (An q):=by unfold jZ An;rw[vg _ B,uD (f:=λk=> !(nD k.kind==BJ q.kind)) (λk _=>by unfold nV;rw[rN,YB];rfl)];simp only[Option.map_some,ζb];congr 1;rw[Bool.eq_iff_iff];simp
theorem x_{p:T'}(B:p.Sm)(hd:p.dp<=100000):ql p=M (p.jf An):=by
 unfold ql;have:p.jf (λq=>(λz=>jZ z) q==M (An q))=O:=by clear hd;induction p using Pred.ind with|h p w=>rw[p.mF,ζh,M?];exact⟨by show(jZ p==M (An p))=O;rw[XO B.len];simp,λq u=>w q u (B.vi u)⟩
 unfold oN;rw[NP p B this _ hd];rfl
def sE(q:T'):X':=_p (q.kind>=18)&&_p (q.kind<=21)
theorem vB{p:T'}(B:p.Sm):nH p=M (jL p&& !p.jf λq=> !sE q):=by unfold nH;rw[qB B,ζb];cases u:jL p with|false=>rfl|true=>have hd:p.dp<=20:=(by simp only[jL,ζh]at u;exact _b u.2.1);rw[bq,Mt (g:=λq=> !sE q) (λq=>by unfold nR tM sE;cases _p (q.kind>=18)<;>rfl) B c?];rfl
end
theorem Ad.of{t:Z4}(B:Ok t){p:Nat}{P:bU}(D:t.a?.l[p]?=M P):Ad P:=by
 intro e C a d;have⟨k,b⟩:=mem_iff_getElem?.1 C;have⟨i,hi⟩:=mem_iff_getElem?.1 d;have h:=B.gm p k P e D b;unfold qL at h;have w:i<W e.assign.l:=by apply L?;intro J;rw[j! c?]at hi;cases hi
 have I:pK (qw P e) 0 (W e.assign.l)=0:=by split at h;split at h;cases h;split at h;cases h;exact h;cases h
 have u:=(RQ (g:=qw P e) (n:=W e.assign.l) (m:=W e.assign.l) (k:=0) c?).1 I i (V? _) w;unfold qw at u;rw[hi]at u;dsimp only at u;by_cases z:(_p (0<=a.var)&&_p (a.var<W P.i?.l))=O;simpa using z;rw[Bool.not_eq_true]at z;rw[z]at u;simp only[UT]at u;cases u
theorem acu{t:Z4}{A:bQ 200 bu}(b:Small t)(f:cm t=M O)(e:VT t)(g:eB t (bJ t) A){c:Zg}(d:Cons t A c.l):
 Wp (kn t c) λr=>r.2=0/\r.1.l.length=W t.a?.l/\∀(p:Nat)(P:bU)(a:Int),t.a?.l[p]?=M P->c.l[p]?=M a->∃x,r.1.l[p]?=M x/\x.l=lg P a.toNat:=by
 have I:=d.1.1;unfold kn;rw[ey];refine(M9 b f e g c).mono λr i=>?_
 rw[i.zero.2 d,show((0:Int)==0)=O from Y,bq];unfold kn.W1;refine eu (W c.l) (λn s=>s.2=(n:Int)/\s.1.l.length=n/\∀(p:Nat)(P:bU)(a:Int),p<n->t.a?.l[p]?=M P->c.l[p]?=M a->∃x,s.1.l[p]?=M x/\x.l=lg P a.toNat) ⟨Y,Y,λp P a h=>_c h c?⟩ ?_ ?_
 .rintro n ⟨o,_⟩ u ⟨e1,e2,e3⟩;simp only at e1 e2 e3;subst e1;have J:n<W t.a?.l:=by omega
  have w:=b.2 _ (t? J);have D:=ζd J;have C:=ζd u;have⟨a0,a1⟩:=d.1.2 n _ _ C D;have T:=Ad.of e.ok D;have⟨x,S,L⟩:=Up T w.2.1 w.1 w.2.2.2.2 (k:=c.l[n].toNat) c?
  rw[show((c.l[n].toNat:Nat):Int)=c.l[n]from c?]at S
  have j:=b.1;unfold kn.bk;rw[gy u,bq,bC u,ζb,bC J,ζb,S,ζb];have m:ec o (x:Zg)=M (.row (o.l++[x])):=by unfold ec;rw[J0 c?]
  rw[m,ζb,bf,cD n c?]
  refine⟨Y,by simp[Sl.l];exact e2,λp P a h z B=>?_⟩
  show∃y,(o.l++[x])[p]?=M y/\_
  by_cases F:p=n
  .subst F;rw[D]at z;rw[C]at B;cases z;cases B;exact⟨x,by rw[List.getElem?_append_right c?];simp[e2],L⟩
  have⟨y,N,Q⟩:=e3 p P a c? z B
  exact⟨y,by rw[List.getElem?_append_left c?];exact N,Q⟩
 rintro⟨o,_⟩ ⟨e1,e2,e3⟩;simp only at e1 e2 e3;subst e1;unfold kn.bk;rw[show _p ((W c.l:Int)<len c)=U from gY,bt,bf];refine(bf _).2 ⟨Y,by rw[e2,I],λp P a D C=>e3 p P a ?_ D C⟩
 apply L?;intro X;rw[j! c?]at C;cases C
section
variable{P:T'}{t:Z4}
end
def wU(l:SW)(m:Int):Prop:=m∈l/\∀x∈l,m<=x
def isMax(l:SW)(m:Int):Prop:=m∈l/\∀x∈l,x<=m
theorem wU.one{l:SW}{a b:Int}(h:wU l a)(g:wU l b):a=b:=by have:=h.2 b g.1;have:=g.2 a h.1;omega
theorem isMax.one{l:SW}{a b:Int}(h:isMax l a)(g:isMax l b):a=b:=by have:=h.2 b g.1;have:=g.2 a h.1;omega
theorem wU.snoc{l:SW}{a x:Int}(h:wU l a):wU (l++[x]) (if x<a then x else a):=by have⟨b,w⟩:=h;split;refine⟨f?,λy u=>?_⟩;grind;refine⟨List.mem_append_left _ b,λy u=>?_⟩;grind
theorem isMax.snoc{l:SW}{a x:Int}(h:isMax l a):isMax (l++[x]) (if x>a then x else a):=by have⟨b,w⟩:=h;split;refine⟨f?,λy u=>?_⟩;grind;refine⟨List.mem_append_left _ b,λy u=>?_⟩;grind
theorem Ro{s:Zg}(h:0<W s.l)(B:W s.l<1073741824):Wp (fK s) λm=>wU s.l m:=by
 unfold fK fK.J1 fK.W2;rw[N' (show¬len s<1 by grind),bt,show idx s 0=M s.l[0]from bC (i:=0) h,ζb];refine eu (W s.l-1) (λn q=>q.2=((n+1:Nat):Int)/\wU (s.l.take (n+1)) q.1) ⟨Y,?_⟩ ?_ ?_;rw[a!,ζd h];exact⟨f?,λx z=>g?⟩;rintro n ⟨m,_⟩ C ⟨rfl,w⟩;have u:n+1<W s.l:=by omega
 unfold fK.bK;rw[gy u,bq,bC u,ζb,bf,cD _ c?];refine⟨Y,?_⟩;rw[a!,ζd u];exact w.snoc;rintro⟨m,_⟩ ⟨rfl,w⟩;unfold fK.bK;rw[show W s.l-1+1=W s.l from c?,gY,bt,bf];rw[show W s.l-1+1=W s.l from c?,H?]at w;exact(bf _).2 w
theorem SS{s:Zg}(h:0<W s.l)(B:W s.l<1073741824):Wp (fL s) λm=>isMax s.l m:=by
 unfold fL fL.J1 fL.W2;rw[N' (show¬len s<1 by grind),bt,show idx s 0=M s.l[0]from bC (i:=0) h,ζb];refine eu (W s.l-1) (λn q=>q.2=((n+1:Nat):Int)/\isMax (s.l.take (n+1)) q.1) ⟨Y,?_⟩ ?_ ?_;rw[a!,ζd h];exact⟨f?,λx z=>g?⟩;rintro n ⟨m,_⟩ C ⟨rfl,w⟩;have u:n+1<W s.l:=by omega
 unfold fL.bK;rw[gy u,bq,bC u,ζb,bf,cD _ c?];refine⟨Y,?_⟩;rw[a!,ζd u];exact w.snoc;rintro⟨m,_⟩ ⟨rfl,w⟩;unfold fL.bK;rw[show W s.l-1+1=W s.l from c?,gY,bt,bf];rw[show W s.l-1+1=W s.l from c?,H?]at w;exact(bf _).2 w
theorem Od{s:Zg}{a b:Int}(h:0<W s.l)(B:W s.l<1073741824)(D:wU s.l a)(J:isMax s.l b):nF s=M ⟨a,b⟩:=by have⟨m,c,u⟩:=Ro h B;have⟨n,g1,g2⟩:=SS h B;unfold nF;rw[c,ζb,g1,ζb,u.one D,g2.one J]
theorem Ww(n:Int):nF (Sl.row [n]:Zg)=M ⟨n,n⟩:=Od (by simp[Sl.l]) (by simp[Sl.l]) ⟨by simp[Sl.l],λx u=>by simp[Sl.l]at u;omega⟩ ⟨by simp[Sl.l],λx u=>by simp[Sl.l]at u;omega⟩
theorem WX(a b c d:Int):nF (Sl.row [a,b,c,d]:Zg)=M ⟨if(if d<c then d else c)<(if b<a then b else a)then(if d<c then d else c)else(if b<a then b else a),if(if d>c then d else c)>(if b>a then b else a)then(if d>c then d else c)else(if b>a then b else a)⟩:=by refine Od (by simp[Sl.l]) (by simp[Sl.l]) ⟨?_,λx u=>?_⟩ ⟨?_,λx u=>?_⟩;show _∈[a,b,c,d];grind;have u:x∈[a,b,c,d]:=u;grind;show _∈[a,b,c,d];grind;have u:x∈[a,b,c,d]:=u;grind
def Dst(az:aX Assign):Prop:=∀(i j:Nat)a b,i<j->az[i]?=M a->az[j]?=M b->a.var≠b.var
def vq(P:bU)(v k:Nat):Int:=((lg P k)[v]?).getD 0
theorem CH{P:bU}{v:Nat}(k:Nat)(a:v<W P.i?.l):(lg P k)[v]?=M (vq P v k):=by unfold vq;rw[ζd (by rw[tf];omega)];rfl
abbrev DK(P:bU)(v n:Nat):aX Int:=(B! (n+1)).map (vq P v)
theorem SN{P:bU}{v n k:Nat}(h:k<=n):vq P v k∈DK P v n:=mem_map.2 ⟨k,mem_range.2 c?,Y⟩
section
variable{P:bU}{v:Nat}
theorem RY(D:Ad P)(b:W P.i?.l<1073741824)(T:W P.b?.l<1073741823)(J:∀e∈P.b?.l,W e.assign.l<1073741824)(B:v<W P.i?.l):
 Wp (gJ P v) λs=>s.l=DK P v (W P.b?.l):=by
 have⟨r,c,C,d⟩:=Ju D b c? J
 have key:∀(a:aX (Int×Zg))(i:Nat)(q:Zg),r.drop i=a->i<=W r->q.l=(B! i).map (vq P v)->∃s,H (mw (λ(x:Int×(Zg))(q:Zg)=>gJ.k_ P v x q) a q) (Fw.sN (λq=>M q) (λe=>Empty.elim e) (λe=>Empty.elim e))=M s/\s.l=(B! (W r)).map (vq P v):=by intro a;induction a with|nil=>intro i q hd hi z;have:W r<=i:=(by simpa using hd);exact⟨q,rfl,by rw[z,show i=W r from c?]⟩|cons y a I=>intro i q hd _ z;have u:i<W r:=(by apply L?;intro S;rw[List.drop_eq_nil_of_le c?]at hd;cases hd);have e2:=List.drop_eq_getElem_cons u;rw[e2]at hd;simp only[List.cons.injEq]at hd;have⟨j,L⟩:=d i y (by rw[ζd u,hd.1]);have h:idx y.2 (v:Int)=M (vq P v i):=(by rw[iJ,L];exact CH i B);have Q:W q.l=i:=(by rw[z];simp);have w:ec q (vq P v i)=M (.row (q.l++[vq P v i])):=(by unfold ec;rw[J0 c?]);have⟨s,g1,g2⟩:=I (i+1) (.row (q.l++[vq P v i])) hd.2 c? (by show q.l++[vq P v i]=_;rw[z,A',o!];rfl);refine⟨s,?_,g2⟩;simp only[mw,gJ.k_,h,w,ζb];exact g1
 have⟨s,g1,g2⟩:=key r 0 .nil Y (V? _) Y;refine⟨s,?_,by show s.l=_;rw[g2,C]⟩
 unfold gJ pI gJ.E1;simp only[ζb,c];exact g1
theorem E6{α:Type}{f:α->X'}{l:aX α}{k:Nat}{x:α}(b:l[k]?=M x)(B:f x=O)(D:∀(j:Nat)(y:α),j<k->l[j]?=M y->f y=U):place f l=k:=by unfold place;have a:=(ζe.1 b);have⟨a,u⟩:=a;rw[show l.findIdx? f=M k from by rw[List.findIdx?_eq_some_iff_getElem];exact⟨a,by rw[u];exact B,λj w=>by rw[D j _ w (ζd c?)];simp⟩]
theorem Jo{t:Z4}(d:Small t)(e:cm t=M O)(J:Ok t){n:Nat}(D:t.a?.l[n]?=M P){name:U'}{x:Var}(c:P.i?.l[v]?=M x)(T:(S? x.name==S? name)=O)
 (m:∀(j:Nat)(w:Var),j<v->P.i?.l[j]?=M w->(S? w.name==S? name)=U):
 Wp (tC t n name) λr=>r.2.2=0/\wU (DK P v (W P.b?.l)) r.1/\isMax (DK P v (W P.b?.l)) r.2.1:=by
 have Q:n<W t.a?.l:=(ζe.1 D).1;have S:=s? D;have u:=d.2 P S;have C:v<W P.i?.l:=(ζe.1 c).1;have I:W P.b?.l<=64:=by have:=J.heads n Q;unfold sP at this;rw[D]at this;dsimp only at this;split at this;split at this;cases this;split at this;split at this;cases this;omega;rename_i h;exact _c this h;cases this
 have⟨s,g1,g2⟩:=RY (Ad.of J D) u.2.1 c? u.2.2.2.2 C
 have g:W s.l=W P.b?.l+1:=by rw[g2];simp[DK]
 have⟨a,a1,L⟩:=Ro (s:=s) c? c?
 have⟨b,o,i⟩:=SS (s:=s) c? c?
 have B:um t n name=M ((v:Int),0):=by unfold um;rw[e,ζb,bq,N' (show¬(n:Int)<0 by omega),bt,ζb,N' (show¬(n:Int)>=len t.a? by simp only[len];omega),bt,iJ,D,ζb];unfold wS;rw[B5 (p:=λz=>p8 z name) (f:=λw=>S? w.name==S? name) (λ_ _=>rfl) u.2.1,E6 c T m,ζb,ζb,N' (show¬((v:Nat):Int)<0 by omega)];rfl
 unfold tC;rw[B,ζb];simp only;rw[show((0:Int)==0)=O from Y,bq,iJ,D,ζb,g1,ζb,a1,ζb,o,ζb,bf];rw[g2]at L i;exact⟨Y,L,i⟩
def ij(o:Ps)(b a:Int):Int×Int:=match o with
 |none=>(b,a)|some x=>(if x<b then x else b,if x>a then x else a)
end
section
variable{t:Z4}{A:bQ 200 bu}
theorem Et(a:Small t){p:Nat}{P:bU}(D:t.a?.l[p]?=M P)(q:Nat):fT t p q=M ((P.b?.l.countP (gX q):Nat):Int):=by
 have d:P∈t.a?.l:=s? D;have I:=(a.2 P d).1;refine Wp.eq ?_;unfold fT;rw[iJ,D,ζb];unfold fT.W1;refine eu (W P.b?.l) (λn s=>s.2=(n:Int)/\s.1=(((P.b?.l.take n).countP (gX q):Nat):Int)) ⟨Y,Y⟩ ?_ ?_;rintro n ⟨o,_⟩ w ⟨e1,e2⟩;simp only at e1 e2;subst e1 e2;have z:=List.countP_le_length (p:=gX q) (l:=P.b?.l.take n);rw[List.length_take]at z;have u:(P.b?.l.take (n+1)).countP (gX q)=(P.b?.l.take n).countP (gX q)+if gX q P.b?.l[n]then 1 else 0:=by rw[a!,ζd w,List.countP_append];show _+List.countP _ [P.b?.l[n]]=_;rw[List.countP_cons,List.countP_nil];simp
 unfold fT.bk;rw[gy w,bq,bC w,ζb];generalize P.b?.l[n]=e at u;have B:(bg (e.kind==2) (M (e.k?==(q:Int))) (M U):aY X')=M (gX q e):=by unfold gX;cases e.kind==2<;>cases e.k?==(q:Int)<;>rfl
 rw[B,ζb,cD n c?];cases C:gX q e with|true=>rw[C]at u;rw[bq,bf,cD _ c?];exact⟨rfl,by simp only[u];rfl⟩|false=>rw[C]at u;rw[bt,bf];exact⟨Y,by simp only[u];rfl⟩
 rintro⟨o,_⟩ ⟨e1,e2⟩;simp only at e1 e2;subst e1 e2;unfold fT.bk;rw[gY,bt,bf];exact(bf _).2 (by rw[H?])
end
section
variable{t:Z4}
def Bf(b a:Int):X':=_p (b>=-1125899906842624)&&_p (a<=1125899906842624)
structure vF(low high:Int):Prop where
 le:low<=high
 lo:-1125899906842624<=low
 hi:high<=1125899906842624
theorem EF(b a:Int):jS ⟨b,a⟩=M (!Bf b a):=by
 unfold jS Bf;have c:_p (b< -1125899906842624)= !_p (b>=-1125899906842624):=by rw[Bool.eq_iff_iff];simp
 have u:_p (a>1125899906842624)= !_p (a<=1125899906842624):=by rw[Bool.eq_iff_iff];simp
 simp only;rw[c,u];cases _p (b>=-1125899906842624)<;>cases _p (a<=1125899906842624)<;>rfl
theorem vF.of{b a:Int}(h:b<=a)(g:Bf b a=O):vF b a:=by simp only[Bf,ζh]at g;have:=_b g.1;have:=_b g.2;exact⟨h,c?,c?⟩
theorem Jy(v:bR)(l h:Int)(r:Z4×T'->aY (bR×X')):cZ.J2 v ⟨l,h⟩ r=M (⟨l,h⟩,Bf l h):=by unfold cZ.J2;rw[EF,ζb,not_not]
theorem G9{ok B:X'}(h:(ok&&B)=U)(p:T')(v a b:bR)(r:Z4×T'->aY (bR×X')):cZ.J1 ok B p v a b r=M (⟨0,0⟩,U):=by unfold cZ.J1;cases ok<;>cases B<;>first|rfl|cases h
theorem Pred.parts{p:T'}(B:fB p=O){c:Int}(a:bQ.at yN p.kind=M c):(W p.l.l:Int)=c:=by obtain⟨-,-,h⟩:=ta B;grind
structure oA(t:Trace)(p:Pred):Prop where
 sm:p.Sm
 f:p.jf fB=true
 r:p.jf (sH t)=true
 y:p.jf An=true
theorem oA.vi{p q:T'}(h:oA t p)(B:q∈p.l.l):oA t q:=by have⟨a,u,w,z⟩:=h;rw[p.mF,ζh,M?]at u w z;exact⟨a.vi B,u.2 q B,w.2 q B,z.2 q B⟩
theorem oA.here{p:T'}(h:oA t p):fB p=O/\sH t p=O/\An p=O:=by have⟨a,u,w,z⟩:=h;rw[p.mF,ζh]at u w z;grind
theorem oA.int{p q:T'}(h:oA t p)(a:p.kind<=12)(B:q∈p.l.l):q.kind<=8:=by have:=h.here.2.2;unfold An at this;grind
end
end Go.VE
namespace Go.VE
end Go.VE
namespace Go.VE
section
variable{t:Z4}{A:bQ 200 bu}{P:bU}{v:Nat}
structure Ci(t:Trace)(A:bQ 200 bu)(c:Sl Int)(l:Sl (Sl Int)):Prop where
 hS:Small t
 hv:cm t=some true
 hV:VT t
 hM:eB t (bJ t) A
 hC:Cons t A c.l
 vals:∀(p:Nat)(P:bU)(a:Int),t.a?.l[p]?=some P->c.l[p]?=some a->∃x,l.l[p]?=some x/\x.l=lg P a.toNat
end
end Go.VE
namespace Go.VE
section
variable{t:Z4}
theorem FE{p:T'}(B:jL p=O)(a:oA t p):qW p=M (nD p.kind,0):=by have u:=a.sm;have hd:=B;simp only[jL,ζh,_e]at hd;unfold qW;rw[qB u,B,ζb,bq,x_ u c?,a.y,ζb,bq,rN];rfl
end
theorem HV{a b x:Int}(c:a<=x)(B:x<=b)(y:Int){lo hi:Int}(D:lo<=a*y/\a*y<=hi)(J:lo<=b*y/\b*y<=hi):lo<=x*y/\x*y<=hi:=by by_cases h:0<=y;have p1:=Int.mul_le_mul_of_nonneg_right c h;have p2:=Int.mul_le_mul_of_nonneg_right B h;omega;have p1:=Int.mul_le_mul_of_nonpos_right c (show y<=0 by omega);have p2:=Int.mul_le_mul_of_nonpos_right B (show y<=0 by omega);omega
theorem YE{a b c d x y lo hi:Int}(f:a<=x)(i:x<=b)(B:c<=y)(D:y<=d)(e:lo<=a*c/\a*c<=hi)(J:lo<=a*d/\a*d<=hi)(T:lo<=b*c/\b*c<=hi)(h:lo<=b*d/\b*d<=hi):lo<=x*y/\x*y<=hi:=by refine HV f i y ?_ ?_;rw[g9 a y];rw[g9 a c]at e;rw[g9 a d]at J;exact HV B D a e J;rw[g9 b y];rw[g9 b c]at T;rw[g9 b d]at h;exact HV B D b T h
theorem aa8{a b m:Int}(h:(if 0-a>a then 0-a else a)*(if 0-b>b then 0-b else b)<=m):-m<=a*b/\a*b<=m:=by
 have z:∀u w:Int,0<=u->0<=w->0<=u*w:=λu w=>Int.mul_nonneg;have e1:(0-a)*b=-(a*b):=by rw[B',Int.neg_mul]
 have e2:a*(0-b)=-(a*b):=by rw[B',Int.mul_neg]
 have e3:(0-a)*(0-b)=a*b:=by rw[B',B',Int.neg_mul_neg]
 by_cases B:0-a>a<;>by_cases C:0-b>b;rw[J0 B,J0 C]at h;have:=z (0-a) (0-b) c? c?;omega;rw[J0 B,K' C]at h;have:=z (0-a) b c? c?;omega;rw[K' B,J0 C]at h;have:=z a (0-b) c? c?;omega;grind
def II(k x y:Int):Int:=if k=5 then y? Z (0-x)else if k=6 then y? Z (x+y)else if k=7 then y? Z (x-y)else y? Z (x*y)
section
variable{t:Z4}{A:bQ 200 bu}
end
section
variable{t:Z4}
end
theorem K2{α:Type}{f:α->X'}:∀{l:aX α},l.any f=O->∃(k:Nat)(x:α),l[k]?=M x/\f x=O/\∀(j:Nat)(y:α),j<k->l[j]?=M y->f y=U
 |[],h=>by simp at h|a::r,h=>by by_cases B:f a=O;exact⟨0,a,Y,B,λj y D=>_c D c?⟩;rw[any_cons,g!]at h;have⟨k,x,b,J,T⟩:=K2 (h.resolve_left B);refine⟨k+1,x,g?,J,λj y D u=>?_⟩;grind
section
variable{t:Z4}
theorem KM(b:Small t){q:T'}(c:q.kind=2)(a:sH t q=O):∃(n k:Nat)(P:bU)(v:Var),q.proc=n/\t.a?.l[n]?=M P/\P.i?.l[k]?=M v/\(S? v.name==S? q.name)=O/\∀(j:Nat)(w:Var),j<k->P.i?.l[j]?=M w->(S? w.name==S? q.name)=U:=by unfold sH at a;rw[J0 g?]at a;simp only[ζh]at a;obtain⟨z,-,u⟩:=a;have⟨n,B,C⟩:=rX (t:=t) (p:=q.proc) g?;grind[Pg,bC,K2]
theorem TH(d:Small t)(f:cm t=M O)(D:Ok t){q:T'}(J:fB q=O)(c:sH t q=O)(i:q.kind<=4):∃b a,g_ t q=M ⟨b,a⟩/\b<=a:=by obtain⟨k1,-,-⟩:=ta J;rcases(show q.kind=1\/q.kind=2\/q.kind=3\/q.kind=4 by omega)with h|h|h|h;refine⟨q.n,q.n,?_,Int.le_refl _⟩;grind[g_,bq,Ww];have⟨n,k,P,v,w,z,u,g,C⟩:=KM d h c;have⟨⟨b,a,e⟩,g1,g2,g3,g4⟩:=Jo d f D z (name:=q.name) u g C;simp only at g2 g3 g4;subst g2;refine⟨b,a,?_,g4.2 _ g3.1⟩;simp_all[g_,bt];unfold sH at c;rw[K' (by simp[h]),J0 (by simpa using h)]at c;simp only[ζh]at c;have⟨n,w,B⟩:=rX (t:=t) (p:=q.proc) g?;refine⟨0,len t.a?.l[n].b?,?_,g?⟩;simp_all[g_,bt,bq,bC];unfold sH at c;rw[K' (by simp[h]),K' (by simp[h]),J0 (by simpa using h)]at c;simp only[ζh]at c;have⟨n,w,B⟩:=rX (t:=t) (p:=q.proc) g?;have⟨m,I,j⟩:=rX (t:=t) (p:=q.k?) g?;have z:=ζd B;refine⟨0,((t.a?.l[n].b?.l.countP (gX m):Nat):Int),?_,c?⟩;simp_all[g_,bt,bq,Et]
theorem oV{a b:Int}(B:-1125899906842624<=a/\a<=1125899906842624)(D:-1125899906842624<=b/\b<=1125899906842624):∃x,iK a b=M x:=by
 unfold iK sM;by_cases u:a=0;subst u;exact⟨_,Y⟩;rw[show(a==0)=U from g?,bt,ζb];by_cases c:b=0;subst c;exact⟨_,Y⟩;rw[show(b==0)=U from g?,bt,ζb,ζb,fH (0-b) c? c?];have:∀k m:Int,m≠0->∃x,BE Z k m=M x:=λk m z=>by simp_all[BE]
 have⟨x,w⟩:=this 1125899906842624 (if 0-b>b then 0-b else b) (by split<;>omega);rw[w,ζb];cases _p ((if y? Z (0-a)>a then y? Z (0-a)else a)>x)<;>cases(_p (a<0)==_p (b<0))<;>exact⟨_,Y⟩
theorem JL{p:T'}(i:5<=p.kind/\p.kind<=8){a b c d:Int}(g:vF a b)(B:vF c d)(v:bR)(r:Z4×T'->aY (bR×X')):
 ∃f e,cZ.J1 O O p v ⟨a,b⟩ ⟨c,d⟩ r=M (⟨f,e⟩,Bf f e)/\f<=e:=by
 have⟨a1,u,C⟩:=g;have⟨D,j,I⟩:=B;unfold cZ.J1;rw[bq,ζb,show(!O)=U from Y,bt];rcases(show p.kind=5\/p.kind=6\/p.kind=7\/p.kind=8 by omega)with h|h|h|h<;>rw[h]
 .refine⟨-b,-a,?_,c?⟩
  rw[show((5:Int)==5)=O from Y,bq,Jy]
  grind[fH]
 .refine⟨a+c,b+d,?_,c?⟩
  rw[show((6:Int)==5)=U from Y,bt,show((6:Int)==6)=O from Y,bq,Jy]
  grind[fH]
 .refine⟨a-d,b-c,?_,c?⟩
  rw[show((7:Int)==5)=U from Y,bt,show((7:Int)==6)=U from Y,bt,show((7:Int)==7)=O from Y,bq,Jy]
  grind[fH]
 have⟨w,J⟩:=oV (a:=a) (b:=c) ⟨c?,c?⟩ ⟨c?,c?⟩
 have⟨x,L⟩:=oV (a:=a) (b:=d) ⟨c?,c?⟩ ⟨c?,c?⟩
 have⟨y,m⟩:=oV (a:=b) (b:=c) ⟨c?,c?⟩ ⟨c?,c?⟩
 have⟨z,Q⟩:=oV (a:=b) (b:=d) ⟨c?,c?⟩ ⟨c?,c?⟩
 refine⟨if(if z<y then z else y)<(if x<w then x else w)then(if z<y then z else y)else(if x<w then x else w),if(if z>y then z else y)>(if x>w then x else w)then(if z>y then z else y)else(if x>w then x else w),?_,?_⟩
 .rw[show((8:Int)==5)=U from Y,bt,show((8:Int)==6)=U from Y,bt,show((8:Int)==7)=U from Y,bt]
  grind[WX,Jy]
 grind
theorem NO(f:Small t)(g:cm t=M O)(T:Ok t)(p:T'):oA t p->p.kind<=8->∀n,p.dp<=n->
 ∃i ok,dY (λr(z:Z4×T')=>dF z.1 z.2 r) n (t,p)=M (i,ok)/\(ok=O->vF i.low i.high):=by
 induction p using Pred.ind with
 |h p u=>
  intro d l n m;have hd:=p.tX;have⟨w,k,o⟩:=d.here;obtain⟨k1,-,-⟩:=ta w;rw[gj c?]
  have u:=λq D=>u q D (d.vi D) (d.int c? D) (n-1) (by have:=Pred.lZ D;omega)
  show∃i ok,dF t p (dY (λr(z:Z4×T')=>dF z.1 z.2 r) (n-1))=M (i,ok)/\_
  generalize dY (λr(z:Z4×T')=>dF z.1 z.2 r) (n-1)=R at u⊢
  unfold dF
  by_cases Q:p.kind<=4
  .have S:_j p.l.l=0:=by
    have:=Pred.parts w (c:=0) (by rcases(show p.kind=1\/p.kind=2\/p.kind=3\/p.kind=4 by omega)with h|h|h|h<;>(rw[h];rfl))
    omega
   have⟨b,a,g1,g2⟩:=TH f g T w k Q;refine⟨⟨b,a⟩,Bf b a,?_,λh=>vF.of g2 h⟩
   rw[show(len p.l==0)=O from g?,bq,g1,ζb,EF,ζb,not_not]
  by_cases N:p.kind=5
  .have W:_j p.l.l=1:=by
    have:=Pred.parts w (c:=1) (by rw[N];rfl)
    omega
   have B:0<_j p.l.l:=c?
   have⟨i,ok,g1,g3⟩:=u _ (t? B);have y:idx p.l 0=M p.l.l[0]:=bC (i:=0) B;rw[show(len p.l==0)=U from g?,bt,y,ζb,g1,ζb,show(len p.l==2)=U from g?,bt]
   simp only
   cases ok with
   |false=>
    rw[G9 _i]
    grind
   |true=>
    have⟨b,a,I,J⟩:=JL (p:=p) ⟨c?,c?⟩ (g3 _i) (g3 _i) ⟨0,0⟩ R
    exact⟨_,_,I,λh=>vF.of J h⟩
  have X:_j p.l.l=2:=by have:=Pred.parts w (c:=2) (by rcases(show p.kind=6\/p.kind=7\/p.kind=8 by omega)with h|h|h<;>(rw[h];rfl));omega
  have B:0<_j p.l.l:=c?
  have e:1<_j p.l.l:=c?
  have⟨i,ok,g1,g3⟩:=u _ (t? B);have⟨j,C,Y,a__⟩:=u _ (t? e);have y:idx p.l 0=M p.l.l[0]:=bC (i:=0) B;have L:idx p.l 1=M p.l.l[1]:=bC (i:=1) e;rw[show(len p.l==0)=U from g?,bt,y,ζb,g1,ζb,show(len p.l==2)=O from g?,bq,L,ζb,Y,ζb]
  simp only
  cases F:ok&&C with
  |false=>
   rw[G9 F]
   grind
  |true=>
   simp only[ζh]at F;obtain⟨rfl,rfl⟩:=F;have⟨b,a,I,J⟩:=JL (p:=p) ⟨c?,c?⟩ (g3 _i) (a__ _i) ⟨0,0⟩ R
   exact⟨_,_,I,λh=>vF.of J h⟩
theorem aaw(c:Small t)(d:cm t=M O)(B:Ok t)(p:T'):oA t p->p.dp<=20->∀n,p.dp<=n->∃b,dY (λr(z:Z4×T')=>cq z.1 z.2 r) n (t,p)=M b:=by induction p using Pred.ind with|h p w=>intro a hd n D;have C:=p.tX;rw[gj c?];have w:=λq u=>w q u (a.vi u) (by have:=Pred.lZ u;omega) (n-1) (by have:=Pred.lZ u;omega);show∃b,cq t p (dY (λr(z:Z4×T')=>cq z.1 z.2 r) (n-1))=M b;generalize dY (λr(z:Z4×T')=>cq z.1 z.2 r) (n-1)=R at w⊢;unfold cq;rw[rN,ζb];by_cases e:p.kind<=8;rw[show(nD p.kind==1)=O from g?,bq];obtain⟨i,ok,g1,-⟩:=NO c d B p a e 100000 c?;grind[cZ];rw[show(nD p.kind==1)=U from g?,bt];let g:T'->X':=λq=>(R (t,q)).getD U;have j:∀q∈p.l.l,R (t,q)=M (g q):=λq u=>(by grind);rw[vg _ a.sm.len,uD (f:=λq=> !g q) (λq u=>by grind[jX])];grind
theorem abx(a:Small t)(D:W (bJ t)<1073741824){p:T'}(B:p.Sm):
 ∃e,fJ t p=M e/\(e=0->cm t=M O/\VT t/\jL p=O/\oA t p):=by
 obtain⟨z,c,w,-⟩:=MS a D;unfold fJ;rw[c,ζb]
 cases z with
 |false=>exact⟨1,rfl,λh=>by cases h⟩|true=>
  have d:=w Y;rw[bq,qB B,ζb]
  cases C:jL p with
  |false=>exact⟨1,rfl,λh=>by cases h⟩|true=>
   have u:=C;simp only[jL,ζh]at u;have hd:=_b u.2.1;unfold ou;rw[show(!O)=U from Y,ζb,bt,vG a B c?,ζb]
   cases g:p.jf (sH t)with
   |false=>exact⟨13,rfl,λh=>by cases h⟩|true=>
    rw[bq,x_ B c?,ζb]
    cases i:p.jf An with
    |false=>exact⟨14,rfl,λh=>by cases h⟩|true=>
     have f:oA t p:=⟨B,u.2.2,g,i⟩;have⟨b,g1⟩:=aaw a c d.ok p f hd 100000 c?
     rw[bq,g1,ζb]
     cases b with
     |false=>exact⟨9,rfl,λh=>by cases h⟩|true=>exact⟨0,Y,λ_=>⟨Y,d,Y,f⟩⟩
end
theorem zQ{a b x:Int}(B:-1125899906842624<=a/\a<=1125899906842624)(D:-1125899906842624<=b/\b<=1125899906842624)(h:iK a b=M x)(J:-1125899906842624<=x/\x<=1125899906842624):a*b=x:=by
 unfold iK sM at h;by_cases u:a=0;subst u;rw[show(0:Int)*b=0 from c?];exact Option.some.inj h;rw[show(a==0)=U from g?,bt,ζb]at h;by_cases d:b=0;subst d;rw[show a*(0:Int)=0 from c?];exact Option.some.inj h;rw[show(b==0)=U from g?,bt,ζb,ζb,fH (0-b) c? c?,fH (0-a) c? c?]at h;have w:0<(if 0-b>b then 0-b else b):=by split<;>omega
 unfold BE at h;rw[K' c?,ζb,Int.tdiv_eq_ediv_of_nonneg c?]at h;have hd:(1125899906842624:Int) / (if 0-b>b then 0-b else b)<=1125899906842624:=Int.ediv_le_self _ c?;have z:0<=(1125899906842624:Int) / (if 0-b>b then 0-b else b):=Int.ediv_nonneg c? c?;rw[fH ((1125899906842624:Int) / (if 0-b>b then 0-b else b)) c? c?]at h;by_cases c:(if 0-a>a then 0-a else a)>(1125899906842624:Int) / (if 0-b>b then 0-b else b);rw[_a c,bq,fH (0-1125899906842625) c? c?]at h;exfalso;revert h;cases(_p (a<0)==_p (b<0))<;>intro h;have:=Option.some.inj h;omega;have:=Option.some.inj h;omega;rw[N' c,bt]at h;have C:=aa8 (Int.mul_le_of_le_ediv w (show(if 0-a>a then 0-a else a)<=(1125899906842624:Int) / (if 0-b>b then 0-b else b)from c?));rw[fH (a*b) c? c?]at h;grind
def Ol(k x y:Int):Int:=if k=5 then 0-x else if k=6 then x+y else if k=7 then x-y else x*y
theorem MO{p:T'}(i:5<=p.kind/\p.kind<=8){a b c d x y:Int}(g:vF a b)(T:vF c d)(D:a<=x/\x<=b)(J:c<=y/\y<=d)(v:bR)(r:Z4×T'->aY (bR×X')):
 ∃f e,cZ.J1 O O p v ⟨a,b⟩ ⟨c,d⟩ r=M (⟨f,e⟩,Bf f e)/\f<=e/\(Bf f e=O->f<=Ol p.kind x y/\Ol p.kind x y<=e):=by
 have⟨a1,N,W⟩:=g;have⟨X,Y,a__⟩:=T;unfold cZ.J1;rw[bq,ζb,show(!O)=U from _i,bt];rcases(show p.kind=5\/p.kind=6\/p.kind=7\/p.kind=8 by omega)with h|h|h|h<;>rw[h]
 .refine⟨-b,-a,?_,c?,λ_=>?_⟩
  .rw[show((5:Int)==5)=O from _i,bq,Jy]
   grind[fH]
  show -b<=(0-x)/\(0-x)<=-a;omega
 .refine⟨a+c,b+d,?_,c?,λ_=>?_⟩
  .rw[show((6:Int)==5)=U from _i,bt,show((6:Int)==6)=O from _i,bq,Jy]
   grind[fH]
  show a+c<=(x+y)/\(x+y)<=b+d;omega
 .refine⟨a-d,b-c,?_,c?,λ_=>?_⟩
  .rw[show((7:Int)==5)=U from _i,bt,show((7:Int)==6)=U from _i,bt,show((7:Int)==7)=O from _i,bq,Jy]
   grind[fH]
  show a-d<=(x-y)/\(x-y)<=b-c;omega
 have⟨w,C⟩:=oV (a:=a) (b:=c) ⟨c?,c?⟩ ⟨c?,c?⟩
 have⟨z,o⟩:=oV (a:=a) (b:=d) ⟨c?,c?⟩ ⟨c?,c?⟩
 have⟨m,I⟩:=oV (a:=b) (b:=c) ⟨c?,c?⟩ ⟨c?,c?⟩
 have⟨n,F⟩:=oV (a:=b) (b:=d) ⟨c?,c?⟩ ⟨c?,c?⟩
 refine⟨if(if n<m then n else m)<(if z<w then z else w)then(if n<m then n else m)else(if z<w then z else w),if(if n>m then n else m)>(if z>w then z else w)then(if n>m then n else m)else(if z>w then z else w),?_,?_,λu=>?_⟩
 .rw[show((8:Int)==5)=U from _i,bt,show((8:Int)==6)=U from _i,bt,show((8:Int)==7)=U from _i,bt]
  grind[WX,Jy]
 .grind
 generalize Q:(if(if n<m then n else m)<(if z<w then z else w)then(if n<m then n else m)else(if z<w then z else w))=L at u⊢;generalize S:(if(if n>m then n else m)>(if z>w then z else w)then(if n>m then n else m)else(if z>w then z else w))=H at u⊢;simp only[Bf,ζh]at u;have o1:=_b u.1;have o2:=_b u.2;have j:L<=n/\L<=m/\L<=z/\L<=w:=by rw[<-Q];grind
 have k:n<=H/\m<=H/\z<=H/\w<=H:=by rw[<-S];grind
 have t1:=zQ ⟨c?,c?⟩ ⟨c?,c?⟩ C c?
 have t2:=zQ ⟨c?,c?⟩ ⟨c?,c?⟩ o c?
 have t3:=zQ ⟨c?,c?⟩ ⟨c?,c?⟩ I c?
 have t4:=zQ ⟨c?,c?⟩ ⟨c?,c?⟩ F c?
 have B:=YE (lo:=L) (hi:=H) D.1 D.2 J.1 J.2 c? c? c? c?
 exact B
section
variable{t:Z4}{A:bQ 200 bu}
theorem YW{c:Zg}{l:Zb}(h:Ci t A c l){q:T'}(Y:fB q=O)(j:sH t q=O)(F:q.kind<=4):
 ∃g d x,g_ t q=M ⟨g,d⟩/\(∀R,b7 ⟨t,c,l⟩ q R=M x)/\g<=x/\x<=d:=by
 have⟨o,s,r,y,i,b__⟩:=h;obtain⟨k1,-,-⟩:=ta Y;rcases(show q.kind=1\/q.kind=2\/q.kind=3\/q.kind=4 by omega)with h|h|h|h
 .refine⟨q.n,q.n,q.n,?_,λR=>?_,Int.le_refl _,Int.le_refl _⟩
  all_goals grind[g_,bq,Ww,b7]
 .have⟨n,k,P,v,Q,C,I,h1,W⟩:=KM o h j;have⟨⟨g,d,e⟩,g1,g2,g3,g4⟩:=Jo o s r.ok C (name:=q.name) I h1 W;simp only at g2 g3 g4;subst g2;have S:=(ζe.1 I).1;have B:=(ζe.1 C).1;have⟨a,J⟩:=i.1.at_ B;have⟨a0,a1⟩:=i.1.2 n a P J C;have⟨x,X,T⟩:=b__ n P a C J;have D:vq P k a.toNat∈DK P k (_j P.b?.l):=SN c?
  refine⟨g,d,vq P k a.toNat,?_,λR=>?_,g3.2 _ D,g4.2 _ D⟩
  .simp_all[g_,bt]
  unfold b7;rw[h,show((2:Int)==1)=U from _i,bt,show((2:Int)==2)=O from _i,bq];unfold kA;simp only;rw[Q,iJ,C,ζb,B5 (p:=λz=>ja z q) (f:=λw=>S? w.name==S? q.name) (λ_ _=>rfl) (o.2 P (s? C)).2.1,E6 I h1 W,ζb,iJ,X,ζb,iJ,T,CH _ S]
  rfl
 .unfold sH at j;rw[K' (by simp[h]),J0 (by simpa using h)]at j
  simp only[ζh]at j;have⟨n,Q,L⟩:=rX (t:=t) (p:=q.proc) g?
  have⟨a,J⟩:=i.1.at_ L;have⟨a0,a1⟩:=i.1.2 n a _ J (ζd L);refine⟨0,len t.a?.l[n].b?,a,?_,λR=>?_,c?,g?⟩
  all_goals simp_all[g_,bt,bq,b7,iJ]
 unfold sH at j;rw[K' (by simp[h]),K' (by simp[h]),J0 (by simpa using h)]at j
 simp only[ζh]at j;have⟨n,Q,L⟩:=rX (t:=t) (p:=q.proc) g?
 have⟨m,H,B⟩:=rX (t:=t) (p:=q.k?) g?
 have C:=ζd L;have e__:=ζd B;have⟨a,J⟩:=i.1.at_ L;have⟨b,E⟩:=i.1.at_ B;have⟨⟨u,e2⟩,K,d__,c__⟩:=E8 o s r y i L B;simp only at d__ c__;rw[JC r y i C e__ J E]at c__;have a__:((t.a?.l[n].b?.l.take a.toNat).countP λe=>gX m e&&tv t c.l e)<=t.a?.l[n].b?.l.countP (gX m):=by refine U? (List.countP_mono_left λe _ N=>?_) (List.Sublist.countP_le (List.take_sublist a.toNat _));grind
 refine⟨0,((t.a?.l[n].b?.l.countP (gX m):Nat):Int),len u,?_,λR=>?_,g?,g?⟩
 all_goals simp_all[g_,bt,bq,Et,b7,ng]
abbrev Hz(n:Nat)(v:bX)(q:Pred):aY Int:=dY (λr(z:bX×Pred)=>b7 z.1 z.2 r) n (v,q)
abbrev Ie(n:Nat)(t:Trace)(q:Pred):aY (bR×Bool):=dY (λr(z:Trace×Pred)=>dF z.1 z.2 r) n (t,q)
def ac1(t:Z4)(c:Zg)(l:Zb)(q:T')(i:bR)(ok:X')(x:Int):Prop:=(∀n,q.dp<=n->Ie n t q=M (i,ok)/\Hz n ⟨t,c,l⟩ q=M x)/\(ok=O->∃b a,i=⟨b,a⟩/\vF b a/\b<=x/\x<=a)
theorem vF.II{a b c d x y k f e:Int}(g:vF a b)(D:vF c d)(J:a<=x/\x<=b)(T:c<=y/\y<=d)(B:Bf f e=O)(h:f<=Ol k x y/\Ol k x y<=e):II k x y=Ol k x y:=by simp only[Bf,ζh]at B;have o1:=_b B.1;have o2:=_b B.2;have⟨a1,u,w⟩:=g;have⟨z,C,i⟩:=D;unfold VE.II Ol at *;split;grind[fH];split;grind[fH];split;grind[fH];rw[K' (by assumption),K' (by assumption),K' (by assumption)]at h;grind[fH]
theorem abA{c:Zg}{l:Zb}(h:Ci t A c l)(q:T'):oA t q->q.kind<=8->∃i ok x,ac1 t c l q i ok x:=by induction q using Pred.ind with|h q Q=>intro m hk;have hd:=q.tX;have⟨S,N,hy⟩:=m.here;obtain⟨k1,-,-⟩:=ta S;have Q:=λq o=>Q q o (m.vi o) (m.int c? o);by_cases P:q.kind<=4;have V:_j q.l.l=0:=(by have:=Pred.parts S (c:=0) (by rcases(show q.kind=1\/q.kind=2\/q.kind=3\/q.kind=4 by omega)with h|h|h|h<;>(rw[h];rfl));omega);have⟨k,f,x,g1,g2,g3,g5⟩:=YW h S N P;refine⟨⟨k,f⟩,Bf k f,x,λn w=>⟨?_,?_⟩,λab=>⟨k,f,_i,vF.of c? ab,g3,g5⟩⟩;unfold Ie;rw[gj c?];show dF t q _=_;unfold dF;rw[show(len q.l==0)=O from by simp[len,V],bq,g1,ζb,EF,ζb,not_not];unfold Hz;rw[gj c?];exact g2 _;have u:∀j:Int,j<5->(q.kind==j)=U:=λj hj=>(by simp;omega);by_cases F:q.kind=5;have T:_j q.l.l=1:=(by have:=Pred.parts S (c:=1) (by rw[F];rfl);omega);have D:0<_j q.l.l:=c?;have⟨i,ok,x,g,g3⟩:=Q _ (t? D);have ad:=Pred.lZ (t? D);have d__:idx q.l 0=M q.l.l[0]:=bC (i:=0) D;have b__:∀n,q.dp<=n->Ie n t q=cZ.J1 ok O q ⟨0,0⟩ i i (λ_=>G):=λn w=>(by have e:=(g (n-1) c?).1;unfold Ie at e⊢;rw[gj c?];show dF t q _=_;generalize dY (λr(z:Z4×T')=>dF z.1 z.2 r) (n-1)=R at e⊢;unfold dF;rw[show(len q.l==0)=U from by simp[len,T],bt,d__,ζb,e,ζb,show(len q.l==2)=U from by simp[len,T],bt];rfl);have B:∀n,q.dp<=n->Hz n ⟨t,c,l⟩ q=M (II q.kind x x):=λn w=>(by have e:=(g (n-1) c?).2;unfold Hz at e⊢;rw[gj c?];show b7 ⟨t,c,l⟩ q _=_;generalize dY (λr(z:bX×T')=>b7 z.1 z.2 r) (n-1)=R at e⊢;unfold b7;rw[u 1 c?,u 2 c?,u 3 c?,u 4 c?,bt,bt,bt,bt,F,show((5:Int)==5)=O from _i,bq,d__,ζb,e];rfl);(cases ok with|false=>rw[G9 _i]at b__;exact⟨_,U,_,λn w=>⟨b__ n w,B n w⟩,λh=>by cases h⟩|true=>obtain⟨a,b,rfl,I,J,x2⟩:=g3 _i;have⟨k,f,s,v,W⟩:=MO (p:=q) ⟨c?,c?⟩ I I ⟨J,x2⟩ ⟨J,x2⟩ ⟨0,0⟩ (λ_=>G);refine⟨_,_,_,λn w=>⟨(b__ n w).trans s,B n w⟩,λh=>⟨k,f,_i,vF.of v h,?_⟩⟩;rw[vF.II I I ⟨J,x2⟩ ⟨J,x2⟩ h (W h)];exact W h);have X:_j q.l.l=2:=(by have:=Pred.parts S (c:=2) (by rcases(show q.kind=6\/q.kind=7\/q.kind=8 by omega)with h|h|h<;>(rw[h];rfl));omega);have D:0<_j q.l.l:=c?;have E:1<_j q.l.l:=c?;have⟨i,ok,x,g,g3⟩:=Q _ (t? D);have⟨j,C,y,H,q3⟩:=Q _ (t? E);have ad:=Pred.lZ (t? D);have ae:=Pred.lZ (t? E);have d__:idx q.l 0=M q.l.l[0]:=bC (i:=0) D;have Y:idx q.l 1=M q.l.l[1]:=bC (i:=1) E;have b__:∀n,q.dp<=n->Ie n t q=cZ.J1 ok C q ⟨0,0⟩ i j (λ_=>G):=λn w=>(by have e:=(g (n-1) c?).1;have L:=(H (n-1) c?).1;unfold Ie at e L⊢;rw[gj c?];show dF t q _=_;generalize dY (λr(z:Z4×T')=>dF z.1 z.2 r) (n-1)=R at e L⊢;unfold dF;rw[show(len q.l==0)=U from by simp[len,X],bt,d__,Y];simp only[ζb];simp only[e,L,ζb];rw[show(len q.l==2)=O from by simp[len,X]];rfl);have B:∀n,q.dp<=n->Hz n ⟨t,c,l⟩ q=M (II q.kind x y):=λn w=>(by have e:=(g (n-1) c?).2;have L:=(H (n-1) c?).2;unfold Hz at e L⊢;rw[gj c?];show b7 ⟨t,c,l⟩ q _=_;generalize dY (λr(z:bX×T')=>b7 z.1 z.2 r) (n-1)=R at e L⊢;unfold b7;rw[u 1 c?,u 2 c?,u 3 c?,u 4 c?,bt,bt,bt,bt,d__,Y];simp only[ζb];simp only[e,L,ζb];unfold VE.II;rcases(show q.kind=6\/q.kind=7\/q.kind=8 by omega)with h|h|h<;>rw[h]<;>rfl);cases c__:ok&&C with|false=>simp only[G9 c__]at b__;exact⟨_,U,_,λn w=>⟨b__ n w,B n w⟩,λh=>by cases h⟩|true=>simp only[ζh]at c__;obtain⟨rfl,rfl⟩:=c__;obtain⟨a,b,rfl,I,J,x2⟩:=g3 _i;obtain⟨c',d,rfl,e__,K,a__⟩:=q3 _i;have⟨k,f,s,v,W⟩:=MO (p:=q) ⟨c?,c?⟩ I e__ ⟨J,x2⟩ ⟨K,a__⟩ ⟨0,0⟩ (λ_=>G);refine⟨_,_,_,λn w=>⟨(b__ n w).trans s,B n w⟩,λh=>⟨k,f,_i,vF.of v h,?_⟩⟩;rw[vF.II I e__ ⟨J,x2⟩ ⟨K,a__⟩ h (W h)];exact W h
abbrev zC(n:Nat)(v:bX)(q:Pred):aY Bool:=dY (λr(z:bX×Pred)=>cK z.1 z.2 r) n (v,q)
theorem oA.bool{q:T'}(a:oA t q)(g:13<=q.kind){k:T'}(b:k∈q.l.l):9<=k.kind:=by have:=a.here.2.2;unfold An at this;rw[M?]at this;have:=this k b;unfold BJ nD at this;rw[K' (show¬q.kind<=12 by omega)]at this;by_cases u:k.kind<=8;rw[J0 u]at this;cases this;omega
theorem KK{q:T'}(k2:q.kind<=21)(h:q.jf (λk=> !sE k)=O):q.kind<=17/\∀k∈q.l.l,k.jf (λk=> !sE k)=O:=by rw[q.mF,ζh,M?]at h;refine⟨?_,h.2⟩;have:=h.1;unfold sE at this;by_cases g:q.kind>=18;rw[_a g,_a k2]at this;cases this;omega
theorem US{c:Zg}{l:Zb}(h:Ci t A c l)(q:T'):oA t q->9<=q.kind->q.dp<=20->q.jf (λk=> !sE k)=O->∃x,∀n,q.dp<=n->zC n ⟨t,c,l⟩ q=M x:=by induction q using Pred.ind with|h q N=>intro a d W F;have hd:=q.tX;have⟨I,j,m⟩:=a.here;obtain⟨k1,k2,-⟩:=ta I;have⟨X,F⟩:=KK c? F;have N:=λg q J=>N q J (a.vi J) (a.bool g J) (by have:=Pred.lZ J;omega) (F q J);have B:∀n,q.dp<=n->zC n ⟨t,c,l⟩ q=cK ⟨t,c,l⟩ q (λz=>zC (n-1) z.1 z.2):=λn C=>(by unfold zC;rw[gj c?]);by_cases S:q.kind<=12;have b__:=Pred.parts I (c:=2) (by rcases(show q.kind=9\/q.kind=10\/q.kind=11\/q.kind=12 by omega)with g|g|g|g<;>(rw[g];rfl));have u:0<_j q.l.l:=c?;have w:1<_j q.l.l:=c?;have D:∀k∈q.l.l,∃x,ez ⟨t,c,l⟩ k=M x:=λk d=>(by obtain⟨i,ok,x,g,-⟩:=abA h k (a.vi d) (a.int S d);exact⟨x,(g 100000 (by have:=Pred.lZ d;omega)).2⟩);have⟨x,Q⟩:=D _ (t? u);have⟨y,T⟩:=D _ (t? w);have key:∀R,∃b,cK ⟨t,c,l⟩ q R=M b/\∀e,cK ⟨t,c,l⟩ q e=M b:=λR=>(by unfold cK;rw[show idx q.l 0=M q.l.l[0]from bC (i:=0) u,show idx q.l 1=M q.l.l[1]from bC (i:=1) w];simp only[ζb,Q,T];rcases(show q.kind=9\/q.kind=10\/q.kind=11\/q.kind=12 by omega)with g|g|g|g<;>rw[g]<;>exact⟨_,_i,λ_=>rfl⟩);obtain⟨b,-,f⟩:=key (λ_=>G);exact⟨b,λn C=>by rw[B n C,f]⟩;by_cases o:q.kind<=14;refine⟨q.kind==13,λn C=>?_⟩;rw[B n C];unfold cK eM.J1;rcases(show q.kind=13\/q.kind=14 by omega)with g|g<;>rw[g]<;>rfl;have u:0<_j q.l.l:=(by rcases(show q.kind=15\/q.kind=16\/q.kind=17 by omega)with g|g|g;have:=Pred.parts I (c:=1) (by rw[g];rfl);omega;have:=Pred.parts I (c:=2) (by rw[g];rfl);omega;have:=Pred.parts I (c:=2) (by rw[g];rfl);omega);have⟨x,Q⟩:=N c? _ (t? u);have p:=Pred.lZ (t? u);have L:idx q.l 0=M q.l.l[0]:=bC (i:=0) u;by_cases g:q.kind=15;refine⟨!x,λn C=>?_⟩;rw[B n C];unfold cK eM.J1;rw[L,g];simp only[ζb,Q (n-1) c?];rfl;have w:1<_j q.l.l:=(by have:=Pred.parts I (c:=2) (by rcases(show q.kind=16\/q.kind=17 by omega)with g|g<;>(rw[g];rfl));omega);have⟨y,T⟩:=N c? _ (t? w);have Y:=Pred.lZ (t? w);have a__:idx q.l 1=M q.l.l[1]:=bC (i:=1) w;refine⟨if q.kind=16 then x&&y else x||y,λn C=>?_⟩;rw[B n C];unfold cK eM.J1;rw[L,a__];simp only[ζb,Q (n-1) c?,T (n-1) c?];rcases(show q.kind=16\/q.kind=17 by omega)with g|g<;>rw[g]<;>cases x<;>rfl
end
section
variable{t:Z4}{A:bQ 200 bu}{L:aX SW}{tb:Sl X'}
end
section
variable{t:Z4}
end
section
variable{t:Z4}{A:bQ 200 bu}{L:aX SW}{tb:Sl X'}
end
section
variable{t:Z4}
variable{A:bQ 200 bu}{L:aX SW}{tb:Sl X'}
end
section
variable{t:Z4}{A:bQ 200 bu}{L:aX SW}{tb:Sl X'}
end
section
variable{t:Z4}{A:bQ 200 bu}
theorem aaI{p:T'}(B:jL p=O)(a:oA t p)(b:nD p.kind=2):sO p 2=M 0:=by unfold sO;rw[FE B a,b];rfl
end
abbrev tJ(t:Trace)(n:Nat)(q:Pred):aY Bool:=dY (λr(z:Trace×Pred)=>cq z.1 z.2 r) n (t,q)
theorem OL{t:Z4}(e:Small t)(g:cm t=M O)(B:Ok t)(p:T'):oA t p->p.dp<=20->∃b,∀n,p.dp<=n->tJ t n p=M b:=by induction p using Pred.ind with|h p C=>intro a hd;have D:=p.tX;by_cases c:p.kind<=8;obtain⟨i,ok,g1,-⟩:=NO e g B p a c 100000 c?;refine⟨ok,λn j=>?_⟩;unfold tJ;rw[gj c?];show cq t p _=_;unfold cq;rw[rN,ζb,show(nD p.kind==1)=O from by simp[nD,c],bq,show cZ t p=_ from g1];rfl;refine⟨!(p.l.l.any λq=> !((tJ t q.dp q).getD U)),λn j=>?_⟩;have d:∀q∈p.l.l,tJ t (n-1) q=M ((tJ t q.dp q).getD U):=λq u=>(by have⟨b,w⟩:=C q u (a.vi u) (by have:=Pred.lZ u;omega);rw[w _ (by have:=Pred.lZ u;omega),w _ (z? _)];rfl);unfold tJ at d⊢;rw[gj c?];show cq t p (dY (λr(z:Z4×T')=>cq z.1 z.2 r) (n-1))=_;generalize dY (λr(z:Z4×T')=>cq z.1 z.2 r) (n-1)=R at d⊢;unfold cq;rw[rN,ζb,show(nD p.kind==1)=U from by simp[nD,c],bt,vg _ a.sm.len,uD (f:=λq=> !((dY (λr(z:Z4×T')=>cq z.1 z.2 r) q.dp (t,q)).getD U)) (λq u=>by unfold jX;rw[d q u];rfl)];rfl
section
variable{t:Z4}{A:bQ 200 bu}{L:aX SW}{tb:Sl X'}
end
section
variable{t:Z4}{A:bQ 200 bu}
end
section
variable{t:Z4}{A:bQ 200 bu}{L:aX SW}
theorem Ff(a:VT t)(B:dh t A L)(D:W L<=5000){x:bA}(J:D4 L x){kind:Int}{l:Sl X'}(T:W l.l=W L):
 ∃o,nh x kind l=M o/\Bk L (gS kind l) o/\o.whole=M o:=by
 have⟨o,o1,o2,o3⟩:=Zr a B D J (p:=λz=>iD z.1 z.2 kind l) (g:=gS kind l) λi nx hi u=>UD c? u
 refine⟨o,?_,o2,o3⟩;unfold nh;rw[o1,ζb,o3];rfl
theorem Qv{x:Sl X'}(D:W x.l<=1073741824):Wp (eZ x) λo=>o.whole=M o/\W o.l=W x.l/\∀i,i<W x.l->b9 o i= !b9 x i:=by have w:len x=((W x.l:Nat):Int):=rfl;unfold eZ;rw[w,mkz _ c?,ζb];unfold eZ.W1;refine eu (W x.l) (λi(q:Sl X'×Int)=>q.2=(i:Int)/\q.1.whole=M q.1/\q.1.l.length=W x.l/\∀j,j<i->b9 q.1 j= !b9 x j) ⟨Y,Y,by simp[Sl.l],λj h=>_c h c?⟩ ?_ ?_;rintro i ⟨n,_⟩ hi ⟨rfl,u,e1,e3⟩;simp only at u e1 e3;have⟨z,B,C⟩:=put_eq (s:=n) (p:=i) (x:= !b9 x i) c?;unfold eZ.bk;dsimp only;rw[gy hi,bq,sY hi,ζb,pE (by omega:i<W n.l),ζb,B,ζb,bf];refine⟨cD i c?,CV u B,by show W z.l=_;rw[C];simp[e1],λj d=>?_⟩;show b9 z j=_;unfold b9;rw[C,D?];by_cases e:j=i;subst e;rw[J0 Y,J0 c?];rfl;rw[K' (Ne.symm e)];exact e3 j c?;rintro⟨n,_⟩ ⟨rfl,u,e1,e3⟩;simp only at u e1 e3;unfold eZ.bk;dsimp only;rw[gY,bt,bf];exact(bf _).2 ⟨u,e1,e3⟩
theorem NQ{a:Sl X'}{i:Nat}(h:i<W a.l):Sl.get a i=M (b9 a i):=by unfold Sl.get b9;rw[ζd h];rfl
theorem Y6{a o:Sl X'}{i:Nat}{b:X'}(h:i<W a.l)(B:o.l=a.l.set i b)(k:Nat):b9 o k=if k=i then b else b9 a k:=by unfold b9;rw[B,D?];by_cases e:k=i;subst e;rw[J0 Y,J0 Y,J0 h];rfl;rw[K' (Ne.symm e),K' e]
def gB(kind:Int)(a b:X'):X':=if kind=16 then a&&b else a||b
theorem XQ{a b:Sl X'}{p:T'}{r:bA×T'->aY (Sl X')}(m:W a.l<=5000)(J:W b.l=W a.l)(T:a.whole=M a):
 Wp (cw.W2 a b (len b) 0 p r) λo=>o.whole=M o/\W o.l=W a.l/\∀i,i<W a.l->b9 o i=gB p.kind (b9 a i) (b9 b i):=by
 rw[show len b=((W a.l:Nat):Int)from by simp only[len,J]]
 unfold cw.W2;refine eu (W a.l) (λi(q:Sl X'×Int)=>q.2=(i:Int)/\q.1.whole=M q.1/\q.1.l.length=W a.l/\∀j,b9 q.1 j=if j<i then gB p.kind (b9 a j) (b9 b j)else b9 a j) ⟨Y,T,Y,λj=>by rw[K' c?]⟩ ?_ ?_
 .rintro i ⟨n,_⟩ hi ⟨rfl,w,e1,e3⟩;simp only at w e1 e3;have u:i<W n.l:=by omega
  have B:b9 n i=b9 a i:=by rw[e3,K' c?]
  have⟨z,C,D⟩:=put_eq (s:=n) (p:=i) (x:=gB p.kind (b9 a i) (b9 b i)) c?
  unfold cw.bK;dsimp only;rw[gy hi,bq,pE (by omega:i<W b.l),ζb,NQ c?,ζb]
  rw[pE u];simp only[ζb];rw[NQ u,B];simp only[ζb];have d:(H (bg (b9 a i) (M (b9 b i)) (M U):aY X') λx=>M x)=M (b9 a i&&b9 b i)/\(H (bg (b9 a i) (M O) (M (b9 b i)):aY X') λx=>M x)=M (b9 a i||b9 b i):=by cases b9 a i<;>exact⟨Y,Y⟩
  have fin:y? Z ((i:Int)+1)=((i+1:Nat):Int)/\z.whole=M z/\W z.l=W a.l/\∀j,b9 z j=if j<i+1 then gB p.kind (b9 a j) (b9 b j)else b9 a j:=by refine⟨cD i c?,CV w C,by rw[D];simp[e1],λj=>?_⟩;rw[Y6 u D];by_cases e:j=i;subst e;rw[J0 Y,J0 c?];rw[K' e,e3];by_cases h:j<i;rw[J0 h,J0 c?];rw[K' h,K' c?]
  by_cases c:p.kind=16
  .rw[show(p.kind==16)=O from by simp[c],bq]
   have:∀{γ:Type}(f:X'->aY γ),(H (bg (b9 a i) (M (b9 b i)) (M U):aY X') f)=f (b9 a i&&b9 b i):=λf=>by cases b9 a i<;>rfl
   rw[this];rw[show(b9 a i&&b9 b i)=gB p.kind (b9 a i) (b9 b i)from by unfold gB;rw[J0 c],C,ζb,bf]
   exact fin
  rw[show(p.kind==16)=U from beq_eq_false_iff_ne.2 c,bt];have:∀{γ:Type}(f:X'->aY γ),(H (bg (b9 a i) (M O) (M (b9 b i)):aY X') f)=f (b9 a i||b9 b i):=λf=>by cases b9 a i<;>rfl
  rw[this];rw[show(b9 a i||b9 b i)=gB p.kind (b9 a i) (b9 b i)from by unfold gB;rw[K' c],C,ζb,bf]
  exact fin
 rintro⟨n,_⟩ ⟨rfl,w,e1,e3⟩;simp only at w e1 e3;unfold cw.bK;dsimp only;rw[gY,bt,bf];exact(bf _).2 ⟨w,e1,λi hi=>by rw[e3,J0 hi]⟩
theorem aaK{s:Sl T'}{k:T'}{i:Nat}(h:s.l[i]?=M k):idx s (i:Int)=M k:=by rw[iJ];exact h
theorem Tt(e:Small t)(g:cm t=M O)(J:Ok t){p q:T'}(c:oA t p)(hd:p.dp<=20)(i:¬p.kind<=8)(h:∀n,p.dp<=n->tJ t n p=M O)(B:q∈p.l.l):∀n,q.dp<=n->tJ t n q=M O:=by
 have C:=p.tX;have d:∀q∈p.l.l,∃b,∀n,q.dp<=n->tJ t n q=M b:=λq B=>OL e g J q (c.vi B) (by have:=Pred.lZ B;omega);have u:∀q∈p.l.l,tJ t (p.dp-1) q=M ((tJ t q.dp q).getD U):=λq B=>by have⟨b,w⟩:=d q B;rw[w _ (by have:=Pred.lZ B;omega),w _ (z? _)];rfl
 have a:=h p.dp (z? _);unfold tJ at a u;rw[gj C]at a;change cq t p (dY (λr(z:Z4×T')=>cq z.1 z.2 r) (p.dp-1))=_ at a;generalize dY (λr(z:Z4×T')=>cq z.1 z.2 r) (p.dp-1)=R at u a;unfold cq at a;rw[rN,ζb,show(nD p.kind==1)=U from by simp[nD,i],bt,vg _ c.sm.len,uD (f:=λq=> !((dY (λr(z:Z4×T')=>cq z.1 z.2 r) q.dp (t,q)).getD U)) (λq B=>by unfold jX;rw[u q B];rfl)]at a;have D:(p.l.l.any λq=> !((dY (λr(z:Z4×T')=>cq z.1 z.2 r) q.dp (t,q)).getD U))=U:=by cases L:(p.l.l.any λq=> !((dY (λr(z:Z4×T')=>cq z.1 z.2 r) q.dp (t,q)).getD U))with|false=>rfl|true=>rw[L]at a;cases a
 rw[List.any_eq_false]at D;have j:=D q B;have⟨b,w⟩:=d q B;have I:=w q.dp (z? _);unfold tJ at I;rw[I]at j;cases b with|false=>exact _c Y j|true=>exact w
theorem RH(p:T'):oA t p->p.kind<=8->p.jf (λk=> !sE k)=O:=by induction p using Pred.ind with|h p w=>intro a b;rw[p.mF,ζh,M?];refine⟨?_,λq u=>w q u (a.vi u) (a.int c? u)⟩;unfold sE;rw[N' (show¬p.kind>=18 by omega)];rfl
theorem P9{p:T'}(a:oA t p)(b:p.kind<=14):p.jf (λk=> !sE k)=O:=by rw[p.mF,ζh,M?];refine⟨?_,λq u=>?_⟩;unfold sE;rw[N' (show¬p.kind>=18 by omega)];rfl;by_cases h:p.kind<=12;exact RH q (a.vi u) (a.int h u);exfalso;have w:(W p.l.l:Int)=0:=Pred.parts a.here.1 (by rcases(show p.kind=13\/p.kind=14 by omega)with g|g<;>rw[g]<;>rfl);have:=List.length_pos_of_mem u;omega
theorem aam(c:Small t)(d:cm t=M O)(e:VT t){p:T'}(D:jL p=O)(a:oA t p)(B:fJ t p=M 0):∀n,p.dp<=n->tJ t n p=M O:=by
 have u:=a.sm;have hd:=D;simp only[jL,ζh,_e]at hd;have⟨b,w⟩:=OL c d e.ok p a c?;unfold fJ ou at B;rw[d,ζb,bq,qB u,ζb,D,show(!O)=U from Y,ζb,bt,vG c u c?,ζb,a.r,bq,x_ u c?,ζb,a.y,bq,
  show dY (λr(z:Z4×T')=>cq z.1 z.2 r) 100000 (t,p)=M b from w 100000 c?,ζb]at B
 cases b with|true=>exact w|false=>exact _c (Option.some.inj B) (by decide)
end
section
variable{t:Z4}{A:bQ 200 bu}
theorem U_{c c':Zg}{l e:Zb}(J:c'.l=c.l)(h:Ci t A c l)(h':Ci t A c' e)(q:T'):oA t q->q.kind<=8->∀n,q.dp<=n->
 ∃x,dY (λr(z:bX×T')=>b7 z.1 z.2 r) n (⟨t,c,l⟩,q)=M x/\dY (λr(z:bX×T')=>b7 z.1 z.2 r) n (⟨t,c',e⟩,q)=M x:=by
 induction q using Pred.ind with
 |h q T=>
  intro E b n k;have hd:=q.tX;have⟨o,a__,N,V,F,L⟩:=h;obtain⟨-,-,-,-,ad,B⟩:=h';have⟨S,d,hy⟩:=E.here;obtain⟨k1,-,-⟩:=ta S;have T:=λq s=>T q s (E.vi s) (E.int c? s) (n-1) (by have:=Pred.lZ s;omega)
  rw[gj c?,gj c?]
  show∃x,b7 ⟨t,c,l⟩ q (dY (λr(z:bX×T')=>b7 z.1 z.2 r) (n-1))=M x/\b7 ⟨t,c',e⟩ q (dY (λr(z:bX×T')=>b7 z.1 z.2 r) (n-1))=M x
  generalize dY (λr(z:bX×T')=>b7 z.1 z.2 r) (n-1)=R at T⊢
  unfold b7;rcases(show q.kind=1\/q.kind=2\/q.kind=3\/q.kind=4\/5<=q.kind by omega)with b|b|b|b|b
  .rw[b];exact⟨q.n,_i,_i⟩
  .have⟨m,j,P,y,K,d__,W,h1,h2⟩:=KM o b d;have ae:=(ζe.1 W).1;have C:=(ζe.1 d__).1;have⟨a,v⟩:=F.1.at_ C;have⟨x,H,c__⟩:=L m P a d__ v;have⟨x',af,X⟩:=B m P a d__ (by rw[J];exact v)
   have b__:∀(c:Zg)(l:Zb)(x:Zg),l.l[m]?=M x->x.l=lg P a.toNat->kA ⟨t,c,l⟩ q=M (vq P j a.toNat):=λc l x H c__=>by unfold kA;simp only;rw[K,iJ,d__,ζb,B5 (p:=λz=>ja z q) (f:=λw=>S? w.name==S? q.name) (λ_ _=>rfl) (o.2 P (s? d__)).2.1,E6 W h1 h2,ζb,iJ,H,ζb,iJ,c__,CH _ ae];rfl
   rw[b,show((2:Int)==1)=U from _i,bt,bt,show((2:Int)==2)=O from _i,bq,bq,b__ c l x H c__,b__ c' e x' af X];exact⟨_,_i,_i⟩
  .unfold sH at d;rw[K' (by simp[b]),J0 (by simpa using b)]at d
   simp only[ζh]at d;have⟨n,k,Q⟩:=rX (t:=t) (p:=q.proc) (by simp only[ζh];exact d.1)
   have⟨a,v⟩:=F.1.at_ Q;rw[b,show((3:Int)==1)=U from _i,bt,bt,show((3:Int)==2)=U from _i,bt,bt,show((3:Int)==3)=O from _i,bq,bq];simp only;rw[k,iJ,iJ,J,v];exact⟨_,_i,_i⟩
  .unfold sH at d;rw[K' (by simp[b]),K' (by simp[b]),J0 (by simpa using b)]at d
   simp only[ζh]at d;have⟨n,k,Q⟩:=rX (t:=t) (p:=q.proc) (by simp only[ζh];exact d.1)
   have⟨m,K,C⟩:=rX (t:=t) (p:=q.k?) (by simp only[ζh];exact d.2.1)
   have⟨⟨u,e2⟩,hu,ah,ai⟩:=E8 o a__ N V F Q C;have⟨⟨u',al⟩,aj,Y,I⟩:=E8 o a__ N V ad Q C;simp only at ah ai Y I;have e__:len u'=len u:=by rw[J]at I;simp only[len];omega
   rw[b,show((4:Int)==1)=U from _i,bt,bt,show((4:Int)==2)=U from _i,bt,bt,show((4:Int)==3)=U from _i,bt,bt,show((4:Int)==4)=O from _i,bq,bq];unfold ng;simp only;rw[k,K,hu,aj];simp only[ζb];exact⟨_,_i,by rw[e__]⟩
  have D:∀j:Int,j<5->(q.kind==j)=U:=λj hj=>by simp;omega
  rw[D 1 c?,D 2 c?,D 3 c?,D 4 c?]
  simp only[bt];have Q:0<_j q.l.l:=by rcases(show q.kind=5\/q.kind=6\/q.kind=7\/q.kind=8 by omega)with g|g|g|g;have:=Pred.parts S (c:=1) (by rw[g];rfl);omega;have:=Pred.parts S (c:=2) (by rw[g];rfl);omega;have:=Pred.parts S (c:=2) (by rw[g];rfl);omega;have:=Pred.parts S (c:=2) (by rw[g];rfl);omega
  have⟨x,x1,x2⟩:=T _ (t? Q);have aa:idx q.l 0=M q.l.l[0]:=bC (i:=0) Q
  by_cases g:q.kind=5
  .rw[g,show((5:Int)==5)=O from _i,bq,bq,aa,ζb,x1,ζb,ζb,x2,ζb];exact⟨_,_i,_i⟩
  have ab:1<_j q.l.l:=by have:=Pred.parts S (c:=2) (by rcases(show q.kind=6\/q.kind=7\/q.kind=8 by omega)with g|g|g<;>(rw[g];rfl));omega
  have⟨y,y1,y2⟩:=T _ (t? ab);have ak:idx q.l 1=M q.l.l[1]:=bC (i:=1) ab;rw[aa,ak];simp only[ζb,x1,x2,y1,y2];rw[show(q.kind==5)=U from by simpa using g,bt]
  cases q.kind==6<;>cases q.kind==7<;>exact⟨_,_i,_i⟩
theorem Qx{c c':Zg}{l J:Zb}(T:c'.l=c.l)(h:Ci t A c l)(d:Ci t A c' J)(q:T'):oA t q->9<=q.kind->q.dp<=20->q.jf (λk=> !sE k)=O->∀n,q.dp<=n->
 ∃x,zC n ⟨t,c,l⟩ q=M x/\zC n ⟨t,c',J⟩ q=M x:=by
 induction q using Pred.ind with
 |h q C=>
  intro a b X F n e;have hd:=q.tX;have⟨D,f,j⟩:=a.here;obtain⟨k1,k2,-⟩:=ta D;have⟨Y,Q⟩:=KK c? F
  have B:∀k∈q.l.l,k.kind<=8->∃x,ez ⟨t,c,l⟩ k=M x/\ez ⟨t,c',J⟩ k=M x:=λk b S=>U_ T h d k (a.vi b) S 100000 (by have:=Pred.lZ b;omega)
  have C:=λg q o=>C q o (a.vi o) (a.bool g o) (by have:=Pred.lZ o;omega) (Q q o) (n-1) (by have:=Pred.lZ o;omega)
  unfold zC at C⊢;rw[gj c?,gj c?]
  show∃x,cK ⟨t,c,l⟩ q (dY (λr(z:bX×T')=>cK z.1 z.2 r) (n-1))=M x/\cK ⟨t,c',J⟩ q (dY (λr(z:bX×T')=>cK z.1 z.2 r) (n-1))=M x
  generalize dY (λr(z:bX×T')=>cK z.1 z.2 r) (n-1)=R at C⊢
  unfold cK eM.J1
  by_cases I:q.kind<=12
  .have a__:=Pred.parts D (c:=2) (by rcases(show q.kind=9\/q.kind=10\/q.kind=11\/q.kind=12 by omega)with g|g|g|g<;>(rw[g];rfl))
   have u:0<_j q.l.l:=c?
   have w:1<_j q.l.l:=c?
   have⟨x,L,x2⟩:=B _ (t? u) (a.int I (t? u));have⟨y,N,W⟩:=B _ (t? w) (a.int I (t? w));rw[show idx q.l 0=M q.l.l[0]from bC (i:=0) u,show idx q.l 1=M q.l.l[1]from bC (i:=1) w];simp only[ζb,L,x2,N,W];rcases(show q.kind=9\/q.kind=10\/q.kind=11\/q.kind=12 by omega)with g|g|g|g<;>rw[g]<;>exact⟨_,_i,_i⟩
  by_cases m:q.kind<=14
  .rcases (show q.kind=13\/q.kind=14 by omega)with g|g<;>rw[g]<;>exact⟨_,_i,_i⟩
  have u:0<_j q.l.l:=by rcases(show q.kind=15\/q.kind=16\/q.kind=17 by omega)with g|g|g;have:=Pred.parts D (c:=1) (by rw[g];rfl);omega;have:=Pred.parts D (c:=2) (by rw[g];rfl);omega;have:=Pred.parts D (c:=2) (by rw[g];rfl);omega
  have⟨x,L,x2⟩:=C c? _ (t? u)
  rw[show idx q.l 0=M q.l.l[0]from bC (i:=0) u]
  by_cases g:q.kind=15
  .rw[g];simp only[ζb,L,x2];exact⟨_,_i,_i⟩
  have w:1<_j q.l.l:=by have:=Pred.parts D (c:=2) (by rcases(show q.kind=16\/q.kind=17 by omega)with g|g<;>(rw[g];rfl));omega
  have⟨y,N,W⟩:=C c? _ (t? w)
  rw[show idx q.l 1=M q.l.l[1]from bC (i:=1) w];simp only[ζb,L,x2,N,W];rcases(show q.kind=16\/q.kind=17 by omega)with g|g<;>rw[g]<;>cases x<;>exact⟨_,_i,_i⟩
end
section
variable{t:Z4}{A:bQ 200 bu}{L:aX SW}
abbrev zT(n:Nat)(z:bA×Pred):aY (Sl Bool):=dY (λr(z:bA×Pred)=>cr z.1 z.2 r) n z
theorem acC(b:Small t)(c:cm t=M O)(d:VT t)(f:eB t (bJ t) A)(B:dh t A L)(N:_j L<=5000){r:Zb}(F:mh t=M (r,0))(g:ins r=L){p:T'}(D:jL p=O)(a:oA t p)(j:9<=p.kind)(T:p.jf (λk=> !sE k)=O)(d__:∀n,p.dp<=n->tJ t n p=M O):
 ∃tb,_l (qi t p) AS=M (tb,0)/\tb.whole=M tb/\_j tb.l=_j L/\∀i(h:i<_j r.l)l,Ci t A r.l[i] l->zC 100000 ⟨t,r.l[i],l⟩ p=M (b9 tb i):=by
 have hd:=D;simp only[jL,ζh,_e]at hd;have u:=a.sm;have c__:fJ t p=M 0:=by
  unfold fJ ou;rw[c,ζb,bq,qB u,ζb,D,show(!O)=U from _i,ζb,bt,vG b u c?,ζb,a.r,bq,x_ u c?,ζb,a.y,bq,
   show dY (λr(z:Z4×T')=>cq z.1 z.2 r) 100000 (t,p)=M O from d__ 100000 c?,ζb]
  rfl
 have Q:nD p.kind=2:=by unfold nD;rw[K' c?]
 have S:_j r.l=_j L:=by rw[<-iT,g]
 have key:Wp (qi t p) λq=>q.2=0/\q.1.whole=M q.1/\q.1.l.length=_j L/\∀i(h:i<_j r.l)l,Ci t A r.l[i] l->zC 100000 ⟨t,r.l[i],l⟩ p=M (b9 q.1 i):=by unfold qi kr;rw[c__,ζb,show((0:Int)==0)=O from _i,bq,aaI D a Q,ζb,show((0:Int)==0)=O from _i,bq,vB u,D,T,ζb,show(O&& !O)=U from _i,bt,F,ζb];simp only;rw[show((0:Int)==0)=O from _i,bq,ey];unfold kr.W1;refine eu (_j r.l) (λn q=>q.2=(n:Int)/\q.1.whole=M q.1/\q.1.l.length=n/\∀i(h:i<_j r.l)l,i<n->Ci t A r.l[i] l->zC 100000 ⟨t,r.l[i],l⟩ p=M (b9 q.1 i)) ⟨_i,_i,_i,λi _ l h=>_c h c?⟩ ?_ ?_;rintro n ⟨o,_⟩ W ⟨rfl,o1,o2,o3⟩;simp only at o1 o2 o3;have m:Cons t A r.l[n].l:=(B.mem _).1 (by rw[<-g];exact oQ.2 ⟨_,t? W,_i⟩);have⟨⟨l,z⟩,a1,Y,a3,e__⟩:=acu b c d f m;simp only at Y a3 e__;subst Y;have b__:Ci t A r.l[n] l:=⟨b,c,d,f,m,e__⟩;have⟨x,I⟩:=US b__ p a j c? T;have I:=I 100000 c?;have⟨w,J,v⟩:=jk (s:=o) (x:=x) c?;have H:w.whole=M w:=(by unfold ec at J;split at J<;>cases J;rfl);unfold kr.bk;dsimp only;rw[gy W,bq,bC W,ζb,a1,ζb];simp only;rw[show((0:Int)==0)=O from _i,bq,show eM ⟨t,r.l[n],l⟩ p=M x from I,ζb,J,ζb,bf];refine⟨cD n c?,H,by show _j w.l=_;rw[v];simp[o2],λi hi K P C=>?_⟩;(show _=M (b9 w i);have X:b9 w i=if i=n then x else b9 o i:=by unfold b9;rw[v];by_cases e:i=n;subst e;rw[List.getElem?_append_right c?,o2,J0 _i];simp;rw[List.getElem?_append_left c?,K' e]);rw[X];by_cases e:i=n;subst e;rw[J0 _i];have⟨y,E,a__⟩:=Qx _i b__ C p a j c? T 100000 c?;rw[I]at E;cases E;exact a__;rw[K' e];exact o3 i hi K c? C;rintro⟨o,_⟩ ⟨rfl,o1,o2,o3⟩;simp only at o1 o2 o3;unfold kr.bk;dsimp only;rw[gY,bt,bf];exact(bf _).2 ((bf _).2 ⟨_i,o1,by rw[<-S];exact o2,λi hi l b__=>o3 i hi l c? b__⟩)
 have⟨⟨tb,z⟩,k1,k2,k3,k4,k5⟩:=key;simp only at k2 k3 k4 k5;subst k2;refine⟨tb,?_,k3,k4,k5⟩;rw[k1,ζb];unfold AS;rw[k3];rfl
theorem R8(K:Small t)(M:cm t=_h O)(j:VT t)(hM:eB t (bJ t) A)(B:dh t A L)(s:L.length<=5000){r:Zb}(hL:mh t=_h (r,0))(N:ins r=L){x:bA}(P:D4 L x)(af:x.t=t)(p:T'):
 oA t p->9<=p.kind->p.dp<=20->p.sz<=200->(∀n,p.dp<=n->tJ t n p=_h O)->∃T:Nat->X',(∀n,p.dp<=n->∃o,zT n (x,p)=_h o/\o.whole=_h o/\o.l.length=L.length/\∀i,i<L.length->b9 o i=T i)/\
  (p.jf (λk=> !sE k)=O->∀i(h:i<r.l.length)l,Ci t A r.l[i] l->zC 100000 ⟨t,r.l[i],l⟩ p=_h (T i)):=by
 have aj:r.l.length=L.length:=by rw[<-iT,N]
 induction p using Pred.ind with
 |h p ih=>
  intro f hk hd hz W;have ak:=p.tX;have⟨X,al,am⟩:=f.here;obtain⟨k1,k2,-⟩:=ta X;have y:jL p=O:=by simp only[jL,ζh,_e];exact⟨hz,hd,f.f⟩
  have D:∀c:Int,bQ.at yN p.kind=_h c->(p.l.l.length:Int)=c:=λc=>Pred.parts X
  cases Y:p.jf (λk=> !sE k)with
  |true=>
   have⟨tb,V,b2,E,F⟩:=acC K M j hM B s hL N y f hk Y W;refine⟨b9 tb,λn w=>⟨tb,?_,b2,E,λi _=>rfl⟩,λ_=>F⟩
   unfold zT;rw[gj c?]
   show cr x p _=_;unfold cr;rw[vB f.sm,y,Y,ζb,show(O&& !O)=U from rfl,bt,af,V];rfl
  |false=>
   have C:∀q∈p.l.l,13<=p.kind->∃T:Nat->X',∀n,p.dp<=n->∃o,zT (n-1) (x,q)=_h o/\o.whole=_h o/\o.l.length=L.length/\∀i,i<L.length->b9 o i=T i:=λq a__ d__=>by have c3:=Pred.lZ a__;obtain⟨T,S,-⟩:=ih q a__ (f.vi a__) (f.bool d__ a__) c? (by have:=Pred.OG a__;have:=p.WO;omega) (Tt K M j.ok f hd c? W a__);exact⟨T,λn w=>S (n-1) c?⟩
   have an:15<=p.kind:=by by_cases h:p.kind<=14;rw[P9 f h]at Y;cases Y;omega
   have ao:1<=p.l.l.length:=by have:∃c:Int,1<=c/\bQ.at yN p.kind=_h c:=(by rcases(show p.kind=15\/p.kind=16\/p.kind=17\/p.kind=18\/p.kind=19\/p.kind=20\/p.kind=21 by omega)with g|g|g|g|g|g|g<;>rw[g]<;>exact⟨_,by decide,rfl⟩);have⟨c,ap,ah⟩:=this;have:=D c ah;omega
   obtain⟨q,aa⟩:∃q,p.l.l[0]?=_h q:=⟨_,ζd c?⟩
   have a__:=s? aa;have ab:idx p.l 0=_h q:=aaK (i:=0) aa;have⟨T,S⟩:=C q a__ c?
   have start:∀n,p.dp<=n->∀a:Sl X',zT (n-1) (x,q)=_h a->a.whole=_h a->zT n (x,p)=bg (p.kind==15) (((eZ a).bind Sl.whole).bind λJ=>_h J)
    (bg (p.kind==16) (cw.J1 x a O p (zT (n-1))) (cw.J1 x a (p.kind==17) p (zT (n-1)))):=λn w a a1 I=>by
    unfold zT at a1;have e1:zT n (x,p)=cr x p (dY (λr(z:bA×T')=>cr z.1 z.2 r) (n-1)):=by unfold zT;rw[gj c?]
    rw[e1];show cr x p (dY (λr(z:bA×T')=>cr z.1 z.2 r) (n-1))=bg (p.kind==15) (((eZ a).bind Sl.whole).bind λJ=>_h J)
     (bg (p.kind==16) (cw.J1 x a O p (dY (λr(z:bA×T')=>cr z.1 z.2 r) (n-1))) (cw.J1 x a (p.kind==17) p (dY (λr(z:bA×T')=>cr z.1 z.2 r) (n-1))))
    generalize dY (λr(z:bA×T')=>cr z.1 z.2 r) (n-1)=R at a1⊢
    unfold cr;rw[vB f.sm,y,Y,ζb,show(O&& !U)=O from rfl,bq,ab,ζb,a1,ζb,I,ζb]
   by_cases b__:p.kind=15
   .refine⟨λi=> !T i,λn w=>?_,λh=>by cases h⟩
    have⟨a,a1,I,a3,a4⟩:=S n w;have⟨z,H,m,z3,z4⟩:=Qv (x:=a) c?
    refine⟨z,?_,m,c?,λi hi=>by rw[z4 i c?,a4 i hi]⟩
    rw[start n w a a1 I,show(p.kind==15)=O from by simp[b__],bq,H,ζb,m];rfl
   by_cases ad:p.kind=16\/p.kind=17
   .have aq:(p.l.l.length:Int)=2:=D 2 (by rcases ad with g|g<;>rw[g]<;>rfl)
    obtain⟨q',ae⟩:∃q,p.l.l[1]?=_h q:=⟨_,ζd c?⟩
    have ai:=s? ae;have Q:idx p.l 1=_h q':=aaK (i:=1) ae;have⟨c__,hU⟩:=C q' ai c?
    refine⟨λi=>gB p.kind (T i) (c__ i),λn w=>?_,λh=>by cases h⟩
    have⟨a,a1,I,a3,a4⟩:=S n w;have⟨u,u1,u2,u3,u4⟩:=hU n w;have⟨z,H,m,z3,z4⟩:=XQ (a:=a) (b:=u) (p:=p) (r:=zT (n-1)) c? c? I
    have hj:∀{γ:Type}(c d e:aY γ),bg (p.kind==16) (bg O c d) (bg (p.kind==17) c e)=c:=λc d e=>by rcases ad with g|g<;>rw[g]<;>rfl
    refine⟨z,?_,m,c?,λi hi=>by rw[z4 i c?,a4 i hi,u4 i hi]⟩
    rw[start n w a a1 I,show(p.kind==15)=U from beq_eq_false_iff_ne.2 b__,bt];unfold cw.J1;rw[hj,Q,ζb,u1,ζb,u2,ζb,H]
   have⟨a0,V,b2,E,F⟩:=S p.dp (z? _);have⟨e0,e1,e2,e3⟩:=Ff j B s P (kind:=p.kind) (l:=a0) E;refine⟨b9 e0,λn w=>?_,λh=>by cases h⟩
   have⟨a,a1,I,a3,a4⟩:=S n w;have⟨e,f1,f2,f3⟩:=Ff j B s P (kind:=p.kind) (l:=a) a3;refine⟨e,?_,f3,f2.1,λi hi=>f2.ind B e2 (R:=λu v=>u=v) (λi hi h=>?_) i hi⟩
   .rw[start n w a a1 I,show(p.kind==15)=U from beq_eq_false_iff_ne.2 b__,bt,show(p.kind==16)=U from beq_eq_false_iff_ne.2 c?,bt,show(p.kind==17)=U from beq_eq_false_iff_ne.2 c?]
    unfold cw.J1;rw[bt,f1,ζb,f3];rfl
   rw[List.map_congr_left h];unfold gS;rw[a4 i hi,F i hi]
end
section
variable{t:Z4}{c:Zg}{p q:T'}
abbrev nd(k:Int)(L:aX Pred):Pred:=⟨k,0,0,0,ByteArray.empty,.row L⟩
theorem acM{k:Int}{L:aX T'}(h:∀q∈L,q.Sm)(B:W L<1073741824):(nd k L).Sm:=by unfold Pred.Sm;rw[Pred.mF,ζh,M?];exact⟨_a B,h⟩
end
section
variable{t:Z4}{A:bQ 200 bu}{L:aX SW}
theorem Tf(c:Small t)(B:W (bJ t)<1073741824){p:T'}(D:p.Sm):
 ∃e,mE t p=M e/\(e=0->cm t=M O/\VT t/\jL p=O/\oA t p/\9<=p.kind/\fJ t p=M 0):=by
 have⟨e,d,z⟩:=abx c B D;unfold mE;rw[d,ζb]
 by_cases u:e=0
 .subst u;have⟨f,g,w,b⟩:=z Y;rw[show((0:Int)==0)=O from Y,bq,FE w b,ζb];simp only;rw[show((0:Int)==0)=O from Y,bq]
  by_cases a:nD p.kind=2
  .refine⟨0,by rw[a];rfl,λ_=>⟨f,g,w,b,?_,trivial⟩⟩
   unfold nD at a
   by_cases h:p.kind<=8
   .rw[J0 h]at a;cases a
   omega
  exact⟨14,by rw[show(nD p.kind==2)=U from beq_eq_false_iff_ne.2 a];rfl,λh=>by cases h⟩
 exact⟨e,by rw[show(e==0)=U from beq_eq_false_iff_ne.2 u,bt],λh=>_c h u⟩
end
theorem Th(p:T')(D:p.Sm):∀(n d:Nat)(m:Int),1<=n->42<=n+d->d<=41->-(d:Int)<=m->m<=60->
 ∃r:Int,dY (λr(z:T'×Int×Int)=>iU z.1 z.2.1 z.2.2 r) n (p,m,(d:Int))=M r/\(r=m\/1<=r)/\r<=60:=by
 induction p using Pred.ind with
 |h p j=>
  intro n d m Q I hd J L;have S:=D.len;rw[gj c?]
  show∃r:Int,iU p m (d:Int) (dY (λr(z:T'×Int×Int)=>iU z.1 z.2.1 z.2.2 r) (n-1))=M r/\(r=m\/1<=r)/\r<=60
  have w:d<=40->∀q∈p.l.l,∀m:Int,-((d+1:Nat):Int)<=m->m<=60->∃r:Int,dY (λr(z:T'×Int×Int)=>iU z.1 z.2.1 z.2.2 r) (n-1) (q,m,((d+1:Nat):Int))=M r/\(r=m\/1<=r)/\r<=60:=λh q C m b o=>j q C (D.vi C) (n-1) (d+1) m c? c? c? b o
  generalize dY (λr(z:T'×Int×Int)=>iU z.1 z.2.1 z.2.2 r) (n-1)=R at w⊢
  unfold iU
  by_cases B:d<=40
  .rw[N' c?,bt]
   show Wp (jG.W1 m (d:Int) 1 p.l (len p.l) 0 _) λr=>(r=m\/1<=r)/\r<=60
   unfold jG.W1;refine eu (W p.l.l) (λi(s:Int×Int)=>s.2=(i:Int)/\(s.1=1\/1<=s.1/\s.1<m)) ⟨Y,.inl Y⟩ ?_ ?_
   .rintro i ⟨u,_⟩ hi ⟨rfl,a⟩;simp only at a;have⟨r,c,T,r1⟩:=w B _ (t? hi) (m-u) c? c?
    unfold jG.bk;dsimp only;rw[gy hi,bq,bC hi,ζb,fH (m-u) c? c?,cD d c?,c,ζb,fH (u+r) c? c?]
    by_cases h:u+r>=m
    .rw[_a h,bq,bf];exact(bf _).2 ⟨.inl Y,c?⟩
    rw[N' h,bt,bf];exact⟨cD i c?,.inr ⟨by show 1<=u+r;omega,by show u+r<m;omega⟩⟩
   rintro⟨u,_⟩ ⟨rfl,a⟩;simp only at a;unfold jG.bk;rw[gY,bt,bf];exact(bf _).2 ⟨.inr (by show 1<=u;omega),by show u<=60;omega⟩
  rw[_a c?,bq];exact⟨m,Y,.inl Y,L⟩
theorem S8{p:T'}(B:p.Sm):∃r,jG p 60 1=M r:=by obtain⟨r,a,-⟩:=Th p B 100000 1 60 c? c? c? c? c?;exact⟨r,a⟩
section
variable{t:Z4}{A:bQ 200 bu}{L:aX SW}
theorem RB(b:Small t)(c:cm t=M O)(a:VT t):∃z,vA t=M z:=by obtain⟨A,-,-,d⟩:=a.msgs;unfold vA;rcases Px b c a d with⟨L,r,s,-,-,-,h,-,-⟩|⟨-,h⟩;rw[h];exact⟨_,Y⟩;rw[h];exact⟨_,Y⟩
theorem Vq{a b:Answer}(c:a.mode=b.mode)(D:a.holds=b.holds)(J:a.kind=b.kind)(T:a.value=b.value)(j:a.cut.l=b.cut.l)(g5:W a.cut.l<1073741824)(m:ins a.cuts=ins b.cuts)(g6:W a.cuts.l<1073741824)(o:∀x∈ins a.cuts,W x<1073741824)(d:ins a.run=ins b.run)(g7:W a.run.l<1073741824)(e:∀x∈ins a.run,W x<1073741824)(B:a.spans=.nil)(f:b.spans=.nil):lG a b=M O:=by refine Wp.eq ?_;unfold lG;simp only[c,D,J,T,beq_self_eq_true,Bool.not_true,bq,bt,ζb,RA g5,j,decide_true,qF m o g6,qF d e g7,B,f];unfold lG.W1;refine eu 0 (λi(q:Int)=>q=0) Y (λi _ h=>_c h c?) ?_;rintro _ rfl;unfold lG.bk;rw[B,show _p ((0:Int)<len (.nil:Sl Span))=U from Y,bt,bf];exact(bf _).2 rfl
theorem Yn:tP ⟨0,U,0,.nil,.nil,.nil,.nil,0⟩=M O:=by unfold tP;rw[Vq (a:=⟨0,U,0,.nil,.nil,.nil,.nil,0⟩) (b:=⟨0,U,0,.nil,.nil,.nil,.nil,0⟩) Y Y Y Y Y (by decide) Y (by decide) (λx h=>by cases h) Y (by decide) (λx h=>by cases h) Y Y];rfl
theorem VC(c:Small t)(Y:_j (bJ t)<1073741824){p:T'}(j:p.Sm):
 (∃e,e≠0/\gE t p=M (.nil,e))\/∃(A:bQ 200 bu)(L:aX SW)(r:Zb)(x:bA)(o:Sl X'),cm t=M O/\VT t/\eB t (bJ t) A/\dh t A L/\_j L<=5000/\mo t=M (r,0)/\ins r=L/\dI t=M (M x,0)/\D4 L x/\jL p=O/\oA t p/\9<=p.kind/\(∀n,p.dp<=n->tJ t n p=M O)/\gE t p=M (o,0)/\_j o.l=_j L/\(∀n,p.dp<=n->∃a,zT n (x,p)=M a/\a.whole=M a/\a.l=o.l):=by
 have⟨e,e1,e4⟩:=Tf c Y j
 by_cases D:e=0
 rotate_left
 .exact .inl ⟨e,D,by unfold gE;rw[e1,ζb,show(e==0)=U from beq_eq_false_iff_ne.2 D,bt]⟩
 subst D;have⟨d,b,y,h,Q,I⟩:=e4 _i;obtain⟨A,-,-,g⟩:=b.msgs;have B:mh t=H (mo t) λx=>M (x.1,x.2):=rfl
 have⟨⟨r,z⟩,J,a__⟩:=IQ c d b g;rcases a__ with⟨rfl,u,w⟩|⟨rfl,rfl,-⟩
 rotate_left
 .have hm:dI t=M (G,16):=by
   unfold dI;rw[B,J];rfl
  exact .inl ⟨16,by decide,by unfold gE;rw[e1,ζb,show((0:Int)==0)=O from _i,bq,hm];rfl⟩
 simp only at u w;obtain⟨L,f⟩:∃L,ins r=L:=⟨_,_i⟩;have w:_j L<=5000:=by rw[<-f,iT];exact w
 have u:dh t A L:=f▸u;have S:mh t=M (r,0):=by rw[B,J];rfl
 obtain⟨q,N,x,rfl,F,W⟩:=ZN c d b g u w S f;have hd:=y;simp only[jL,ζh,_e]at hd;have C:=aam c d b y h I;obtain⟨T,X,-⟩:=R8 c d b g u w S f W F p h Q c? c? C
 have⟨o,o1,o2,o3,k⟩:=X 100000 c?
 refine .inr ⟨A,L,r,x,o,d,b,g,u,w,J,f,N,W,y,h,Q,C,?_,o3,λn l=>?_⟩
 .unfold gE;rw[e1,ζb,show((0:Int)==0)=O from _i,bq,N,ζb];simp only;rw[show((0:Int)==0)=O from _i,bq,ζb,show cw x p=M o from o1,ζb,o2];rfl
 have⟨a,a1,m,a3,a4⟩:=X n l;exact⟨a,a1,m,ZG c? λi hi=>by rw[a4 i c?,k i c?]⟩
theorem Dk(f:T'->X')(k:Int)(a:T'):(nd k [a]).jf f=(f (nd k [a])&&a.jf f):=by rw[Pred.mF];simp[Sl.l]
theorem Vn{k:Int}(b:k=18\/k=19)(a:T'):fB (nd k [a])=O:=by have u:(nd k [a]).kind=k:=rfl;unfold fB;rw[HY (c:=1) (by rw[u];omega) (by rw[u];omega) (by rcases b with rfl|rfl<;>rfl)];rcases b with rfl|rfl<;>simp[O2,OR,len,Sl.l]
theorem aaT {k:Int} (hk:k=18\/k=19) {a:Pred} (B:oA t a) (D:9<=a.kind):oA t (nd k [a]):=by
 refine⟨acM (λq u=>by rw[List.mem_singleton.1 u];exact B.sm) f?,?_,?_,?_⟩
 .rw[Dk,Vn hk,B.f];rfl
 .rw[Dk,B.r];rcases hk with rfl|rfl <;> rfl
 rw[Dk,B.y,Bool.and_true];show ([a].all λq=>nD q.kind==BJ k)=true
 have h1:nD a.kind=2:=by unfold nD;rw[K' c?]
 have w:BJ k=2:=by rcases hk with rfl|rfl <;> rfl
 rw[List.all_cons,List.all_nil,h1,w];rfl
theorem Uj {k:Int} (hk:k=18\/k=19) {a:Pred} (B:∀n,a.dp<=n->tJ t n a=some true):∀n,(nd k [a]).dp<=n->tJ t n (nd k [a])=some true:=λn w=>by
 have hd:(nd k [a]).dp=1+max a.dp 0:=rfl;unfold tJ;rw[gj c?]
 have e1:=B (n-1) c?
 unfold tJ at e1;show cq t (nd k [a]) (dY (λr (z:Trace×Pred)=>cq z.1 z.2 r) (n-1))=some true
 generalize dY (λr (z:Trace×Pred)=>cq z.1 z.2 r) (n-1)=R at e1 ⊢
 unfold cq;rw[rN,ζb,show (nD (nd k [a]).kind==1)=false from by rcases hk with rfl|rfl <;> rfl,bt,vg _ (by show 1<1073741824;omega),uD (f:=λ_=>false) (λz u=>by
  unfold jX;rw[List.mem_singleton.1 u,e1];rfl)]
 rfl
theorem TJ(d:Small t)(c:cm t=M O)(e:VT t)(y:eB t (bJ t) A)(D:dh t A L)(Y:_j L<=5000){x:bA}(f:dI t=M (M x,0))(g:D4 L x){p:T'}(j:oA t p)(m:9<=p.kind)(J:∀n,p.dp<=n->tJ t n p=M O){o:Sl X'}(T:_j o.l=_j L)(q:∀n,p.dp<=n->∃a,zT n (x,p)=M a/\a.whole=M a/\a.l=o.l){k:Int}(b:k=18\/k=19):
 (jL (nd k [p])=U->jA t (nd k [p])=M (U,1))/\(jL (nd k [p])=O->∃E,Bk L (gS k o) E/\jA t (nd k [p])=M (b9 E 0,0)):=by
 have w:=aaT b j m;have u:=w.sm;have B:(nd k [p]).kind=k:=rfl;refine⟨λF=>?_,λF=>?_⟩
 .have C:fJ t (nd k [p])=M 1:=by
   unfold fJ;rw[c,ζb,bq,qB u,ζb,F];rfl
  unfold jA gE mE;rw[C];rfl
 have hd:=F;simp only[jL,ζh,_e]at hd;have C:fJ t (nd k [p])=M 0:=by
  unfold fJ ou;rw[c,ζb,bq,qB u,ζb,F,show(!O)=U from _i,ζb,bt,vG d u c?,ζb,w.r,bq,x_ u c?,ζb,w.y,bq,
   show dY (λr(z:Z4×T')=>cq z.1 z.2 r) 100000 (t,nd k [p])=M O from Uj b J 100000 c?,ζb]
  rfl
 have N:mE t (nd k [p])=M 0:=by unfold mE;rw[C,ζb,show((0:Int)==0)=O from _i,bq,FE F w,ζb];simp only;rw[show((0:Int)==0)=O from _i,bq,show nD (nd k [p]).kind=2 from by rcases b with rfl|rfl<;>rfl];rfl
 have b__:p.dp<(nd k [p]).dp:=Pred.lZ (p:=nd k [p]) (by simp[Sl.l])
 have⟨a,a1,s,W⟩:=q 99999 c?
 have Q:b9 a=b9 o:=by funext i;unfold b9;rw[W]
 have⟨E,E1,E2,X⟩:=Ff e D Y g (kind:=k) (l:=a) (by rw[W];exact T)
 have E2:Bk L (gS k o) E:=by have:gS k a=gS k o:=(by funext i nx;unfold gS;rw[Q]);rw[<-this];exact E2
 have I:idx (nd k [p]).l 0=M p:=rfl;have S:(nd k [p]).jf (λk=> !sE k)=U:=by cases h:(nd k [p]).jf (λk=> !sE k)with|false=>rfl|true=>have:=(KK (by rw[B];omega) h).1;rw[B]at this;omega
 have v:0<_j L:=(ζe.1 (sU D)).1;have a__:cw x (nd k [p])=M E:=by show dY (λr(z:bA×T')=>cr z.1 z.2 r) 100000 (x,nd k [p])=_;rw[gj c?];unfold zT at a1;show cr x (nd k [p]) (dY (λr(z:bA×T')=>cr z.1 z.2 r) 99999)=_;generalize dY (λr(z:bA×T')=>cr z.1 z.2 r) 99999=R at a1⊢;unfold cr;rw[vB u,F,S,ζb,show(O&& !U)=O from _i,bq,I,ζb,a1,ζb,s,ζb,B,show(k==15)=U from beq_eq_false_iff_ne.2 c?,bt,show(k==16)=U from beq_eq_false_iff_ne.2 c?,bt,show(k==17)=U from beq_eq_false_iff_ne.2 c?];unfold cw.J1;rw[bt,B,E1,ζb,X];rfl
 refine⟨E,E2,?_⟩;unfold jA gE;rw[N,ζb,show((0:Int)==0)=O from _i,bq,f,ζb];simp only;rw[show((0:Int)==0)=O from _i,bq,ζb,a__,ζb,X,ζb,ζb];simp only;rw[show((0:Int)==0)=O from _i,bq,show idx E 0=M (b9 E 0)from sY (i:=0) (by rw[E2.1];exact v)];rfl
theorem Tq{i:Nat}(hi:i<W L):nq L i=rD L L[i]:=by unfold nq;rw[ζd hi];rfl
theorem abF(d:VT t)(e:eB t (bJ t) A)(B:dh t A L){o E:Sl X'}(J:Bk L (gS 19 o) E):∀i,i<W L->(b9 E i=O↔¬pV L (b9 o) i):=by
 have key:∀n i,i<W L->W L<=i+n->(b9 E i=O↔¬pV L (b9 o) i):=by intro n;induction n with|zero=>intro i a w;omega|succ n j=>intro i a w;have u:nq L i=[]↔i=W L-1:=(by constructor;intro h;refine C_ d e B (ζd a) λp I z=>?_;have:=wK.2 ⟨p,I,z,Y⟩;rw[<-Tq a,h]at this;cases this;intro h;refine List.eq_nil_iff_forall_not_mem.2 λk c=>?_;have:=xJ B a c;omega);have C:((nq L i).map (b9 E)).all id=O↔¬∃k∈nq L i,pV L (b9 o) k:=(by rw[M?];constructor;rintro h ⟨k,c,D⟩;have:=xJ B a c;exact(j k this.2 c?).1 (h _ (mem_map.2 ⟨k,c,Y⟩)) D;intro h b z;obtain⟨k,c,rfl⟩:=mem_map.1 z;have:=xJ B a c;exact(j k this.2 c?).2 λw=>h ⟨k,c,w⟩);rw[J.2 i a,Fk (AG.of B) (ζd a),<-Tq a];show(b9 o i||(!((nq L i).map (b9 E)).isEmpty&&((nq L i).map (b9 E)).all id))=O↔_;rw[g!,ζh,C,<-u];cases b9 o i with|true=>simp|false=>simp[List.isEmpty_iff]
 exactλi hi=>key (W L) i hi c?
theorem aai(g:VT t)(l:eB t (bJ t) A)(B:dh t A L){o E:Sl X'}(a__:Bk L (gS 18 o) E):b9 E 0=O↔∃i,i<_j L/\b9 o i=O:=by
 have C:=sU B;have W:0<_j L:=(ζe.1 C).1;have f:∀i,i<_j L->b9 E i=(b9 o i||((nq L i).map (b9 E)).any id):=λi hi=>a__.2 i hi;constructor;have key:∀n i,i<_j L->_j L<=i+n->b9 E i=O->∃j,j<_j L/\b9 o j=O:=by intro n;induction n with|zero=>intro i a X;omega|succ n D=>intro i a X h;rw[f i a,g!,J']at h;rcases h with h|⟨b,Y,F⟩;exact⟨i,a,h⟩;obtain⟨k,m,rfl⟩:=mem_map.1 Y;have:=xJ B a m;exact D k this.2 c? F
 exact key (_j L) 0 W c?;rintro⟨i,hi,b__⟩;have I:=ζd hi;have c:=(B.mem _).1 (t? hi);have key:∀n(d:SW),d∈L->nZ d L[i]->_j L<=L.idxOf d+n->b9 E (L.idxOf d)=O:=by intro n;induction n with|zero=>intro d hd J q;have:=List.idxOf_lt_length_of_mem hd;omega|succ n D=>intro d hd J q;have u:=List.idxOf_lt_length_of_mem hd;rw[f _ u];by_cases e:d=L[i];rw[e,oT B.nodup I,b__];rfl;have⟨p,N,T,Q⟩:=OF g l B ((B.mem _).1 hd) J (L[i].sum.toNat) c (nZ.refl _) c? (λh=>e (nZ.same J h));have w:L.idxOf (bump d p 1)∈nq L (L.idxOf d):=(by unfold nq;rw[s7 hd];exact wK.2 ⟨p,N,T,_i⟩);have s:=xJ B u w;rw[g!,J'];exact .inr ⟨_,mem_map.2 ⟨_,w,_i⟩,D _ T Q c?⟩
 have S:nZ (w? (_j t.a?.l) 0) L[i]:=⟨by rw[List.length_replicate];exact c.1.1.symm,λp x y z r=>by
  rw[List.getElem?_replicate]at z;split at z
  next N=>cases z;exact(c.1.2 p y _ r (ζd N)).1
  cases z⟩
 have:=key (_j L) _ (s? C) S c?;rwa [oT B.nodup C]at this
theorem SI(g:Small t)(H:_j (bJ t)<1073741824){p:T'}(K:p.Sm):o7 t p=M O:=by
 have⟨b,w⟩:=SU g 14;have⟨nn,D⟩:=S8 K;have⟨v,l,b__,f⟩:=SM g H;unfold o7;rw[show vm=M O from _i,ζb,bq,w,ζb,ζb,D,ζb,jU,ζb,b__,ζb,jU,ζb];cases n:(!b||decide (nn>=60))|| !v with|true=>rfl|false=>
 simp only[Bool.or_eq_false_iff,Bool.not_eq_false']at n;obtain⟨-,Y⟩:=n;subst Y;have⟨z,I⟩:=RB g l (f _i);rw[bt,I,ζb,ζb];cases z with|false=>rfl|true=>
 rw[show(!O)=U from _i,bt];clear l b__ f I w D;rcases VC g H K with⟨e,he,J⟩|⟨A,L,r,x,o,l,f,m,u,c__,a__,N,Q,P,hf,R,V,S,J,B,T⟩;have w:(e==0)=U:=beq_eq_false_iff_ne.2 he;have n:mC t p=M (⟨0,U,0,.nil,.nil,.nil,.nil,0⟩,e):=by unfold mC mG;rw[J,ζb];simp only;rw[w,bt,ζb];simp only;rw[w,bt]
 have e__:kZ t p=M (⟨0,U,0,.nil,.nil,.nil,.nil,0⟩,e):=by unfold kZ mG;rw[J,ζb];simp only;rw[w,bt,ζb];simp only;rw[w,bt]
 rw[n,e__];simp only[ζb];rw[w,bt,Yn];simp only[ζb,bq,beq_self_eq_true];obtain⟨q,qe,y,rfl,hB⟩:=Wd g f u c__ a__ N;have⟨⟨a,ea⟩,a1,a2,a3⟩:=Zw u c__ J B qe hB;have⟨⟨d,ed⟩,b1,b2,b3⟩:=abQ g l f m u c__ a__ N J B qe hB;simp only at a2 b2 a3 b3;subst a2;subst b2;have I:=sU u;have h0:0<_j L:=(ζe.1 I).1;have e1:a.holds=O↔∃i,i<_j L/\b9 o i=O:=by rcases a3 with⟨i,c,i1,i2,i3,i4,rfl⟩|⟨i1,rfl⟩;exact⟨λ_=>⟨i,i1,i2⟩,λ_=>rfl⟩;exact⟨λh=>(by cases h),λ⟨i,e__,h3⟩=>by rw[i1 i e__]at h3;cases h3⟩
 have e2:d.holds=O↔¬pV L (b9 o) 0:=by rcases b3 with⟨i1,s,i2,rfl⟩|⟨i1,s,i2,i3,rfl⟩;exact⟨λ_=>i1,λ_=>rfl⟩;exact⟨λh=>(by cases h),λh=>_c i1 h⟩
 have e3:d.holds=O->a.holds=O:=λh=>e1.2 (L? λaa=>e2.1 h (S5 f m u (_j L) 0 I c? λj c hj _=>by
  cases w:b9 o j with
  |false=>rfl|true=>exact _c ⟨j,(ζe.1 hj).1,w⟩ aa))
 have d__:=TJ g l f m u c__ Q P R V S B T (k:=18) (.inl _i);have W:=TJ g l f m u c__ Q P R V S B T (k:=19) (.inr _i);have X:jL (nd 19 [p])=jL (nd 18 [p]):=by unfold jL;rw[Dk,Dk,Vn (.inl _i),Vn (.inr _i)];rfl
 rw[a1,ζb,b1,ζb];simp only;rw[show((0:Int)==0)=O from _i,bq];cases C:jL (nd 18 [p])with|false=>rw[d__.1 C,W.1 (X.trans C)];rfl|true=>have⟨E,hE,ab⟩:=d__.2 C;have⟨F,hF,ad⟩:=W.2 (X.trans C);have g1:a.holds=b9 E 0:=(by rw[Bool.eq_iff_iff,e1,aai f m u hE]);have g2:d.holds=b9 F 0:=(by rw[Bool.eq_iff_iff,e2,abF f m u hF 0 h0]);rw[ab,ad];simp only[ζb];rw[show((0:Int)==0)=O from _i,bq,show(!O)=U from _i,ζb,bt,bq,g1,show(b9 E 0==b9 E 0)=O from f?,ζb,bq,g2,show(b9 F 0==b9 F 0)=O from f?,ζb,bq];rw[g1,g2]at e3;cases h:b9 F 0 with|false=>rfl|true=>rw[e3 h];rfl
end
end Go.VE
namespace Go.VE
theorem CO{α:Type}[bY α]{x:α}:∀{l:aX α},x∈l->bY.wt x<=(l.map bY.wt).sum
 |y::l,h=>by simp only[P?,F!];rcases mem_cons.1 h with rfl|h;omega;have:=CO h;omega
theorem zh{α:Type}[bY α](h:∀x:α,1<=bY.wt x):∀(l:aX α),W l<=(l.map bY.wt).sum
 |[]=>z? _|y::l=>by simp only[P?,F!,Z?];have:=zh h l;have:=h y;omega
theorem DQ{α:Type}[bY α](s:Sl α):bY.wt s=(s.l.map bY.wt).sum+1:=rfl
theorem EB(p:Int):∀(es:aX WF)(j:Int),W (jM p j es)=W es
 |[],_=>rfl|_::es,j=>by simp only[jM,Z?,EB p es]
theorem KS:∀(ps:aX bU)(i:Int),W (gO i ps)<=(ps.map bY.wt).sum
 |[],_=>z? _|p::ps,i=>by simp only[gO,ζi,EB,P?,F!];have a:=KS ps (i+1);have u:=zh (α:=WF) (λx=>x! ..) p.b?.l;have w:bY.wt p=bY.wt p.name+bY.wt p.i?+bY.wt p.b?+1:=rfl;have z:=DQ p.b?;omega
theorem VB{t:Z4}(h:bY.wt t<=1048576):Small t/\W (bJ t)<1073741824:=by have B:bY.wt t=bY.wt t.a?+1:=rfl;have b:=DQ t.a?;have C:=zh (α:=bU) (λx=>x! ..) t.a?.l;have D:=KS t.a?.l 0;refine⟨⟨c?,λp u=>?_⟩,by show(gO 0 t.a?.l).length<_;omega⟩;have d:=CO u;have I:bY.wt p=bY.wt p.name+bY.wt p.i?+bY.wt p.b?+1:=rfl;have J:=DQ p.b?;have L:=DQ p.i?;have i:=zh (α:=WF) (λx=>x! ..) p.b?.l;have Q:=zh (α:=Var) (λx=>x! ..) p.i?.l;have w:bY.wt p.name=p.name.size+1:=rfl;refine⟨c?,c?,c?,λv a=>?_,λe z=>?_⟩;have k1:=CO a;have k2:bY.wt v=bY.wt v.name+bY.wt v.init_+1:=rfl;have k3:bY.wt v.name=v.name.size+1:=rfl;omega;have k1:=CO z;have k2:bY.wt e=bY.wt e.kind+bY.wt e.k?+bY.wt e.d?+bY.wt e.time+bY.wt e.assign+1:=rfl;have k3:=DQ e.assign;have k4:=zh (α:=Assign) (λx=>x! ..) e.assign.l;omega
theorem acm(p:T'):bY.wt p<=1048576->p.Sm:=by induction p using Pred.ind with|h p z=>intro h;have u:∃m,bY.wt p=m+Pred.XD p.l+1:=(by cases p;exact⟨_,Y⟩);have⟨m,u⟩:=u;have a:=Pred.wtE p.l;have B:=DQ p.l;have C:=zh (α:=T') (λx=>by cases x;exact x! ..) p.l.l;unfold Pred.Sm;rw[p.mF,ζh,M?];refine⟨_a c?,λq w=>z q w ?_⟩;have:=CO w;omega
end Go.VE
namespace Go.Proofs.YtddlogilhmloeadGreatDoor
open Go.ChangeShapes Go.WideShapes Go.ChangeAt Go.RowKit Go.VE
theorem own:ownKnob Tryz.prog.godebug=G:=by kernel_rfl
theorem kids:Kids Tryz.prog (·<Tryz.prog.types.size):=kids_rows q? q?
theorem full:∀t e,t<Tryz.prog.types.size->Tryz.prog.underlying t=M (.slice e)->0<Tryz.prog.cellsOf e:=slices_full_of Tryz.prog q?
theorem Bn{H:Type}:∀l:aX (DataW H),Rows.uptoBulkAll l=(l.map Rows.uptoBulk).sum
 |[]=>by simp[Rows.uptoBulkAll]|d::r=>by simp[Rows.uptoBulkAll,Bn r]
theorem SB{H:Type}:vL (H:=H) Rows.uptoBulk where
 lit l:=by cases l<;>simp[Rows.uptoBulk]
 str s:=by simp[Rows.uptoBulk]
 nil:=by simp[Rows.uptoBulk]
 slice es u:=by rw[Rows.uptoBulk,Bn,Bn];omega
 agg ps:=by rw[Rows.uptoBulk,Bn];exact z? _
theorem O9:Tryz.prog.globalNamed "antecede/predtype.parts" =M 0:=by kernel_rfl
theorem V3:(Tryz.prog.globals[0]?).map (·.type)=M 203:=by kernel_rfl
theorem table{d:World}(h:laidMetH Tryz.prog Rows.barrierDualUptoRow.laid d):Lib.TabIs Tryz.prog d "antecede/predtype.parts" Z FJ:=Lib.tabIs_of_head (rest:=[]) O9 V3 Tryz.underlying203 Tryz.underlying3 q? q? h
theorem ac3{d:World}(h:laidMetH Tryz.prog Rows.barrierDualUptoRow.laid d):w6 (snap d):=λg cs a=>by
 change(if Nat.beq g 0 then M (FJ.map (V.int Z))else G)=M cs at a;split at a;next u=>cases a;have:g=0:=Nat.eq_of_beq_eq_true u;subst this;exact UQ (λi hi=>(table h).cell O9 i hi) (by decide)
 cases a
set_option maxRecDepth 100000 in
theorem Nn(H:Type)(enc:W'×V'->H)(W:World)(j?:Nat)(args:Array V')(ds a:aX (DataW H))(before:aX MemPlace)
 (B:∀(j:Nat)t v,Tryz.f3.params[j]?=M t->args[j]?=M v->Value.okWide Tryz.prog W .any j? t v)
 (D:DataW.Whole enc Tryz.prog Tryz.f3.params.toList Rows.barrierDualSpec.vars U W args.toList ds a before)(b:Rows.uptoSmall H (ds++a)=O)(T:laidMetH Tryz.prog Rows.barrierDualUptoRow.laid W):
 Calls Tryz.prog 3 args W λe J=>∃v,e=.returned v/\Rows.barrierDualSpec.post enc Tryz.prog Tryz.f3 U O U U W args v J:=by
 have u:=D;obtain⟨p,q,z,c,rfl,Q,S⟩:=D;have b__:DataW.TrodAll enc Tryz.prog W 0 (λ_=>O) O Tryz.f3.params.toList args.toList ds p:=z
 rw[Tryz.params3]at b__ B;obtain⟨I,d__,X,Y,E,F,C,rfl,rfl,e__,d⟩:=trodAll_cons b__;obtain⟨L,K,g,a__,p1,N,rfl,rfl,rfl,h,r1⟩:=trodAll_cons d;obtain⟨rfl,rfl,rfl⟩:=trodAll_nil r1;obtain rfl:args=#[I,L]:=by cases args;simp_all
 obtain⟨rfl,rfl⟩:=trodVars_none c;have⟨a0,i,k0,k⟩:=Reads.WC (t:=24) (α:=VE.Trace) B 0 rfl _i e__;have⟨a1,l,k1,m⟩:=Reads.WC (t:=27) (α:=VE.Pred) B 1 rfl _i h;have R:bY.wt a0+bY.wt a1<=1048576:=by have c0:=k Rows.uptoBulk SB;have c1:=m Rows.uptoBulk SB;have c__:Rows.uptoBulkAll ([X,g]++[])<=1048576:=_b b;rw[Bn]at c__;simp only[List.append_nil,P?,List.map_nil,F!,List.sum_nil]at c__;omega
 have⟨n,o⟩:=VB (t:=a0) c?
 have s:kM cL 3 [VE.enc a0,VE.enc a1]=M [.bool O]:=by have x:_l (o7 a0 a1) (λr:X'=>M [V.bool r])=M [.bool O]:=(by rw[SI n o (acm a1 c?)];rfl);exact(B8 a0 a1).F.h () _ x
 have:=P4 (P:=Tryz.prog) PU HD calls (f:=3) (xs:=[VE.enc a0,VE.enc a1]) (by simp[V.cN,V.good,iB]) s (w:=W) (args:=#[I,L]) (ac3 T) (cW.cons i (cW.cons l .nil))
 refine this.mono λe J⟨y,A⟩=>?_
 subst y;exact⟨_,_i,Se kids full (by rw[Tryz.params3];decide) _i _i _i Tryz.underlying4 u A⟩
def Dz(os:Os):World:=
 {World.holding Tryz.prog os ⟨#[],#[],[]⟩with heap:=(World.holding Tryz.prog os ⟨#[],#[],[]⟩).heap.modify 0 fun
  |.cells _ t frozen=>.cells (FJ.map (Value.int Z)).toArray t frozen|o=>o}
theorem Vj(os:Os):laidMet Tryz.prog Rows.barrierDualUptoRow.laid ((Dz os).forCall (λ_ _=>0) ⟨#[],#[.agg #[.slice G 0 0],.agg #[.int Z 0,.int Z 0,.int Z 0,.int Z 0,.string ByteArray.empty,.slice G 0 0]],[]⟩).memory:=laidMet_of_run' 8 q? q?
theorem Wc(os:Os){H:Type}(enc:W'×V'->H):∃places,DataW.whole enc Tryz.prog ((Dz os).forCall (λ_ _=>0) ⟨#[],#[.agg #[.slice G 0 0],.agg #[.int Z 0,.int Z 0,.int Z 0,.int Z 0,.string ByteArray.empty,.slice G 0 0]],[]⟩).memory Tryz.f3.params.toList Rows.barrierDualSpec.vars U (#[.agg #[.slice G 0 0],.agg #[.int Z 0,.int Z 0,.int Z 0,.int Z 0,.string ByteArray.empty,.slice G 0 0]]:Array V').toList 8=M ([.agg [.nil],.agg [.lit (.int Z 0),.lit (.int Z 0),.lit (.int Z 0),.lit (.int Z 0),.lit (.string []),.nil]],[],places):=⟨[],by kernel_rfl⟩
set_option maxRecDepth 100000 in
theorem S3 (os:Os) (B:os.Started) (H:Type) (enc:TypeId×Value->H) (F:Stop.Interp) :
 ReturnsInHanded {} Tryz.checked os 3 .any ((Rows.OpenSpec.upto Rows.barrierDualSpec).preRow enc Tryz.prog Tryz.f3 Rows.barrierDualUptoRow.domain false Rows.barrierDualUptoRow.laid) (((Rows.OpenSpec.upto Rows.barrierDualSpec).at F).post enc Tryz.prog Tryz.f3 false true false false):=by
 obtain⟨places,z⟩:=Wc os enc;refine returnsInHanded_of_row (C:=Tryz.checked) (s:=Rows.OpenSpec.upto Rows.barrierDualSpec) own B q? Tryz.func3
  (witness_row_at (enc:=enc) (C:=Tryz.checked) false (Dz os) #[.agg #[.slice none 0 0],.agg #[.int .i64 0,.int .i64 0,.int .i64 0,.int .i64 0,.string ByteArray.empty,.slice none 0 0]] rfl q? q? q?
   (OpenSpec.preRow_of_cond 8 z q? (λk hk=>by cases hk;kernel_rfl) q? (Vj os))) ?_
 intro W j? args ds gs before w D _ u _ d _ _;exact Nn H enc W j? args ds gs before w D (u _ rfl) d
theorem XW:Rows.BarrierDualUptoSaid:=
 OpenClaim.holds_of_cond 3 Tryz.f3 Y Y Y Y Y Y Y ⟨Y,Y,Y,Y,Y⟩ Y Y Y Y Y q? Tryz.func3 q?
  (_b q?) (by unfold Func.isWrapper;first|(rw[J0 (by decide+kernel)];kernel_rfl)|(rw[K' (by decide+kernel)];exact⟨Y,Y⟩))
  (λos u d enc _ F=>by rw[OpenClaim.pre_eq_preRow];exact S3 os u d enc F)
theorem U9 (f:FuncId) (fn:Func) (D:Tryz.pinned.checked.prog.funcNamed "antecede/antecedelaw42.BarrierDual" = some f) (B:Tryz.pinned.checked.prog.funcs[f]? = some fn) :
 false=Tryz.pinned.checked.prog.looks []/\∀(j:Nat) t,fn.params[j]? = some t->Tryz.pinned.checked.prog.wantsStandIn t=false:=by
 obtain rfl:f=3:=Option.some.inj ((show Tryz.prog.funcNamed "antecede/antecedelaw42.BarrierDual" = some 3 by kernel_rfl).symm.trans D) |>.symm
 obtain rfl:fn=Tryz.f3:=(Option.some.inj (Tryz.func3.symm.trans B)).symm;refine⟨by kernel_rfl,λj t z=>?_⟩
 rw[Tryz.params3]at z;have C:t∈[24,27]:=by simpa using Array.mem_of_getElem? z
 have w:([24,27].all λu => !Tryz.prog.wantsStandIn u)=true:=by kernel_rfl
 exact(show Tryz.prog.wantsStandIn t=false by simpa using List.all_eq_true.1 w t C)
theorem barrierDualProved:Rows.BarrierDualUptoCardSaid:=Claim7.holds_tied_plain_at .later [] _ _ _ _ XW (λ_ h=>by cases h) q? (λ_ h=>by cases h) barrierDualUpto_row_tie Y ⟨Y,Y⟩ q? Y U9 q?
#print axioms barrierDualProved
end Go.Proofs.YtddlogilhmloeadGreatDoor
