/-
 EvaluateBounds says true for all arguments that together are of bulk at most 1048576, and they read behind the call as they read before: for every such argument, without a condition.
-/
import Derived.Test.YtlmckmkfopljoaaGreatDoorRows
import Derived.Test.YtlmckmkfopljoaaGreatDoorCards
import Derived.Test.YtlmckmkfopljoaaGreatDoorTie
import Derived.Deep.DeepHandedRow
import Derived.Test.YtlmckmkfopljoaaGreatDoorK1
import Derived.Test.YtlmckmkfopljoaaGreatDoorL1
set_option linter.all false
namespace Go.VE
theorem Eb {a b x:Int} (h1:a<=x) (B:x<=b) (y:Int) {lo hi:Int} (D:lo<=a*y/\a*y<=hi) (G:lo<=b*y/\b*y<=hi):lo<=x*y/\x*y<=hi:=by
 by_cases h:0<=y
 .have p1:=Int.mul_le_mul_of_nonneg_right h1 h;have p2:=Int.mul_le_mul_of_nonneg_right B h;omega
 .have p1:=Int.mul_le_mul_of_nonpos_right h1 (show y<=0 by omega)
  have p2:=Int.mul_le_mul_of_nonpos_right B (show y<=0 by omega)
  omega
theorem SH {a b c d x y lo hi:Int} (h1:a<=x) (W:x<=b) (B:c<=y) (D:y<=d) (ac:lo<=a*c/\a*c<=hi) (G:lo<=a*d/\a*d<=hi) (J:lo<=b*c/\b*c<=hi) (U:lo<=b*d/\b*d<=hi):lo<=x*y/\x*y<=hi:=by
 refine Eb h1 W y ?_ ?_
 .rw[Int.mul_comm a y];rw[Int.mul_comm a c]at ac;rw[Int.mul_comm a d]at G;exact Eb B D a ac G
 .rw[Int.mul_comm b y];rw[Int.mul_comm b c]at J;rw[Int.mul_comm b d]at U;exact Eb B D b J U
theorem UT {a b m:Int} (h:(if 0-a>a then 0-a else a)*(if 0-b>b then 0-b else b)<=m):-m<=a*b/\a*b<=m:=by
 have h0:∀u w:Int,0<=u->0<=w->0<=u*w:=λu w=>Int.mul_nonneg
 have e1:(0-a)*b=-(a*b):=by rw[Int.zero_sub,Int.neg_mul]
 have e2:a*(0-b)=-(a*b):=by rw[Int.zero_sub,Int.mul_neg]
 have e3:(0-a)*(0-b)=a*b:=by rw[Int.zero_sub,Int.zero_sub,Int.neg_mul_neg]
 by_cases z:0-a>a <;> by_cases A:0-b>b
 .rw[if_pos z,if_pos A]at h;have:=h0 (0-a) (0-b) (by omega) (by omega);omega
 .rw[if_pos z,if_neg A]at h;have:=h0 (0-a) b (by omega) (by omega);omega
 .rw[if_neg z,if_pos A]at h;have:=h0 a (0-b) (by omega) (by omega);omega
 .rw[if_neg z,if_neg A]at h;have:=h0 a b (by omega) (by omega);omega
theorem yR {a b x:Int} (B:-1125899906842624<=a/\a<=1125899906842624) (D:-1125899906842624<=b/\b<=1125899906842624) (h:cA a b=some x) (G:-1125899906842624<=x/\x<=1125899906842624):a*b=x:=by
 unfold cA cA.J1 at h
 by_cases h0:a=0
 .subst h0;rw[show (0:Int)*b=0 from by omega]at h ⊢
  exact Option.some.inj h
 .rw[show (a==0)=false from by simpa using h0,bE,ζb]at h
  by_cases h1:b=0
  .subst h1;rw[show a*(0:Int)=0 from by omega]at h ⊢
   exact Option.some.inj h
  .rw[show (b==0)=false from by simpa using h1,show (!false)=true from rfl,bA,eN (0-b) (by omega) (by omega),eN (0-a) (by omega) (by omega)]at h
   have u:0<(if 0-b>b then 0-b else b):=by split <;> omega
   unfold xD at h;rw[if_neg (by omega),ζb,Int.tdiv_eq_ediv_of_nonneg (by omega)]at h
   have hd:(1125899906842624:Int) / (if 0-b>b then 0-b else b)<=1125899906842624:=Int.ediv_le_self _ (by omega)
   have w:0<=(1125899906842624:Int) / (if 0-b>b then 0-b else b):=Int.ediv_nonneg (by omega) (by omega)
   rw[eN ((1125899906842624:Int) / (if 0-b>b then 0-b else b)) (by omega) (by omega)]at h
   by_cases hg:(if 0-a>a then 0-a else a)>(1125899906842624:Int) / (if 0-b>b then 0-b else b)
   .rw[decide_eq_true hg,bA]at h;exfalso
    revert h
    cases (decide (a<0)==decide (b<0)) <;> intro h
    .have:(-1125899906842625:Int)=x:=Option.some.inj h;omega
    .have:(1125899906842625:Int)=x:=Option.some.inj h;omega
   .rw[decide_eq_false hg,bE]at h;have z:=UT (Int.mul_le_of_le_ediv u (show (if 0-a>a then 0-a else a)<=(1125899906842624:Int) / (if 0-b>b then 0-b else b)from by omega))
    rw[eN (a*b) (by omega) (by omega)]at h
    exact Option.some.inj h
def QI (k x y:Int):Int:=if k=5 then IntKind.wrap .i64 (0-x)else if k=6 then IntKind.wrap .i64 (x+y)else if k=7 then IntKind.wrap .i64 (x-y)else IntKind.wrap .i64 (x*y)
theorem Kd {p:Pred} (hk:5<=p.kind/\p.kind<=8) {a b c d x y:Int} (h1:wP a b) (U:wP c d) (D:a<=x/\x<=b) (G:c<=y/\y<=d) (v:bN) (r:Trace×Pred->Option (bN×Bool)) :
 ∃low high,cD.J1 true true p v ⟨a,b⟩ ⟨c,d⟩ r=some (⟨low,high⟩,uZ low high)/\low<=high/\(uZ low high=true->low<=QI p.kind x y/\QI p.kind x y<=high):=by
 obtain⟨Y,Z,a3⟩:=h1;obtain⟨c1,c2,c3⟩:=U;unfold cD.J1;rw[bA,ζb,show (!true)=false from rfl,bE];rcases (show p.kind=5\/p.kind=6\/p.kind=7\/p.kind=8 by omega)with h|h|h|h <;> rw[h]
 .refine⟨-b,-a,?_,by omega,λ_=>?_⟩
  .rw[show ((5:Int)==5)=true from rfl,bA,FT];simp only;rw[eN (0-b) (by omega) (by omega),eN (0-a) (by omega) (by omega),show (0:Int)-b=-b from by omega,show (0:Int)-a=-a from by omega]
  .show -b<=IntKind.wrap .i64 (0-x)/\IntKind.wrap .i64 (0-x)<=-a;rw[eN (0-x) (by omega) (by omega)];omega
 .refine⟨a+c,b+d,?_,by omega,λ_=>?_⟩
  .rw[show ((6:Int)==5)=false from rfl,bE,show ((6:Int)==6)=true from rfl,bA,FT];simp only;rw[eN (a+c) (by omega) (by omega),eN (b+d) (by omega) (by omega)]
  .show a+c<=IntKind.wrap .i64 (x+y)/\IntKind.wrap .i64 (x+y)<=b+d;rw[eN (x+y) (by omega) (by omega)];omega
 .refine⟨a-d,b-c,?_,by omega,λ_=>?_⟩
  .rw[show ((7:Int)==5)=false from rfl,bE,show ((7:Int)==6)=false from rfl,bE,show ((7:Int)==7)=true from rfl,bA,FT];simp only;rw[eN (a-d) (by omega) (by omega),eN (b-c) (by omega) (by omega)]
  .show a-d<=IntKind.wrap .i64 (x-y)/\IntKind.wrap .i64 (x-y)<=b-c;rw[eN (x-y) (by omega) (by omega)];omega
 .obtain⟨w,C⟩:=om (a:=a) (b:=c) ⟨by omega,by omega⟩ ⟨by omega,by omega⟩
  obtain⟨z,I⟩:=om (a:=a) (b:=d) ⟨by omega,by omega⟩ ⟨by omega,by omega⟩
  obtain⟨m,J⟩:=om (a:=b) (b:=c) ⟨by omega,by omega⟩ ⟨by omega,by omega⟩
  obtain⟨n,O⟩:=om (a:=b) (b:=d) ⟨by omega,by omega⟩ ⟨by omega,by omega⟩
  refine⟨if(if n<m then n else m)<(if z<w then z else w)then(if n<m then n else m)else(if z<w then z else w),if(if n>m then n else m)>(if z>w then z else w)then(if n>m then n else m)else(if z>w then z else w),?_,?_,λA=>?_⟩
  .rw[show ((8:Int)==5)=false from rfl,bE,show ((8:Int)==6)=false from rfl,bE,show ((8:Int)==7)=false from rfl,bE];simp only[Dx];rw[C,I,J,O];simp only[ζb];rw[Q4,ζb,FT]
  .have S:(if n<m then n else m)<=(if n>m then n else m):=by split <;> split <;> omega
   have Q:(if z<w then z else w)<=(if z>w then z else w):=by split <;> split <;> omega
   split <;> split <;> omega
  .generalize T:(if(if n<m then n else m)<(if z<w then z else w)then(if n<m then n else m)else(if z<w then z else w))=L at A ⊢;generalize W:(if(if n>m then n else m)>(if z>w then z else w)then(if n>m then n else m)else(if z>w then z else w))=H at A ⊢;simp only[uZ,ζh]at A;have o1:=of_decide_eq_true A.1;have o2:=of_decide_eq_true A.2;have l1:L<=n/\L<=m/\L<=z/\L<=w:=by
    rw[<-T];have g1:(if n<m then n else m)<=n/\(if n<m then n else m)<=m:=by split <;> omega
    have g2:(if z<w then z else w)<=z/\(if z<w then z else w)<=w:=by split <;> omega
    generalize (if n<m then n else m)=u at g1;generalize (if z<w then z else w)=X at g2;split <;> omega
   have l2:n<=H/\m<=H/\z<=H/\w<=H:=by
    rw[<-W];have g1:n<=(if n>m then n else m)/\m<=(if n>m then n else m):=by split <;> omega
    have g2:z<=(if z>w then z else w)/\w<=(if z>w then z else w):=by split <;> omega
    generalize (if n>m then n else m)=u at g1;generalize (if z>w then z else w)=X at g2;split <;> omega
   have t1:=yR ⟨by omega,by omega⟩ ⟨by omega,by omega⟩ C (by omega)
   have t2:=yR ⟨by omega,by omega⟩ ⟨by omega,by omega⟩ I (by omega)
   have t3:=yR ⟨by omega,by omega⟩ ⟨by omega,by omega⟩ J (by omega)
   have t4:=yR ⟨by omega,by omega⟩ ⟨by omega,by omega⟩ O (by omega)
   have B:=SH (lo:=L) (hi:=H) D.1 D.2 G.1 G.2 (by omega) (by omega) (by omega) (by omega)
   show L<=IntKind.wrap .i64 (x*y)/\IntKind.wrap .i64 (x*y)<=H;rw[eN (x*y) (by omega) (by omega)];exact B
section
variable {t:Trace} {A:cE 200 bK}
theorem Sr {c:Sl Int} {l:Sl (Sl Int)} (h:Uh t A c l) {q:Pred} (hf:fB q=true) (hr:nD t q=true) (hk:q.kind<=4) :
 ∃low high x,ga t q=some ⟨low,high⟩/\(∀R,cS ⟨t,c,l⟩ q R=some x)/\low<=x/\x<=high:=by
 obtain⟨hS,hv,hV,hM,hC,I⟩:=h;obtain⟨k1,-,-⟩:=vH hf;rcases (show q.kind=1\/q.kind=2\/q.kind=3\/q.kind=4 by omega)with h|h|h|h
 .refine⟨q.n,q.n,q.n,?_,λR=>?_,Int.le_refl _,Int.le_refl _⟩
  .unfold ga;rw[show (q.kind==1)=true from by simpa using h,bA,Q3];rfl
  .unfold cS;rw[h];rfl
 .unfold nD at hr;rw[if_pos (by simpa using h)]at hr
  simp only[ζh]at hr;obtain⟨hp,-,Q⟩:=hr;obtain⟨i,hi,hc⟩:=D6 hS (p:=q.proc) (by simp only[ζh];exact hp) q.name
  rcases hc with⟨n,k,P,v,D,C,rfl,J,h1,Y,-⟩|⟨-,S⟩
  .obtain⟨⟨low,high,e⟩,g1,g2,g3,g4⟩:=Fe hS hv hV.ok C (name:=q.name) J h1 Y;simp only at g2 g3 g4;subst g2;have U:=(ζe.1 J).1;have B:=(ζe.1 C).1;obtain⟨a,L⟩:=hC.1.at_ B;obtain⟨a0,a1⟩:=hC.1.2 n a P L C;obtain⟨x,hx,W⟩:=I n P a C L;have G:nj P k a.toNat∈oA P k P.events.l.length:=zX (by omega)
   refine⟨low,high,nj P k a.toNat,?_,λR=>?_,g3.2 _ G,g4.2 _ G⟩
   .unfold ga;rw[h,show ((2:Int)==1)=false from rfl,bE,show ((2:Int)==3)=false from rfl,bE,show ((2:Int)==4)=false from rfl,bE,D,g1];rfl
   .unfold cS;rw[h,show ((2:Int)==1)=false from rfl,bE,show ((2:Int)==2)=true from rfl,bA];unfold ni;simp only;rw[D,lu,C,ζb,CG (p:=λz=>jC z q) (f:=λw=>ByteArray.toList w.name==ByteArray.toList q.name) (λ_ _=>rfl) (hS.2 P (List.mem_of_getElem? C)).2.1,GN J h1 Y,ζb,lu,hx,ζb,lu,W,Fp _ U]
    rfl
  .rw[S]at Q;cases Q
 .unfold nD at hr;rw[if_neg (by simp[h]),if_pos (by simpa using h)]at hr
  simp only[ζh]at hr;obtain⟨n,D,O⟩:=uk (t:=t) (p:=q.proc) (by simp only[ζh];exact hr.1)
  obtain⟨a,L⟩:=hC.1.at_ O;obtain⟨a0,a1⟩:=hC.1.2 n a _ L (ζd O);refine⟨0,len t.procs.l[n].events,a,?_,λR=>?_,by omega,by simp only[len];omega⟩
  .unfold ga;rw[h,show ((3:Int)==1)=false from rfl,bE,show ((3:Int)==3)=true from rfl,bA,D,bQ O];rfl
  .unfold cS;rw[h,show ((3:Int)==1)=false from rfl,bE,show ((3:Int)==2)=false from rfl,bE,show ((3:Int)==3)=true from rfl,bA];simp only;rw[D,lu,L];rfl
 .unfold nD at hr;rw[if_neg (by simp[h]),if_neg (by simp[h]),if_pos (by simpa using h)]at hr
  simp only[ζh]at hr;obtain⟨n,D,O⟩:=uk (t:=t) (p:=q.proc) (by simp only[ζh];exact hr.1)
  obtain⟨m,Z,B⟩:=uk (t:=t) (p:=q.peer) (by simp only[ζh];exact hr.2.1)
  have C:=ζd O;have hQ:=ζd B;obtain⟨a,L⟩:=hC.1.at_ O;obtain⟨b,hb⟩:=hC.1.at_ B;obtain⟨⟨u,e2⟩,hu,X,T⟩:=Qx hS hv hV hM hC O B;simp only at X T;rw[FC hV hM hC C hQ L hb]at T;have aa:((t.procs.l[n].events.l.take a.toNat).countP λe=>eC m e&&qC t c.l e)<=t.procs.l[n].events.l.countP (eC m):=by
   refine Nat.le_trans (List.countP_mono_left λe _ he=>?_) (List.Sublist.countP_le (List.take_sublist a.toNat _))
   simp only[ζh]at he;exact he.1
  refine⟨0,((t.procs.l[n].events.l.countP (eC m):Nat):Int),len u,?_,λR=>?_,by simp only[len];omega,by simp only[len];omega⟩
  .unfold ga;rw[h,show ((4:Int)==1)=false from rfl,bE,show ((4:Int)==3)=false from rfl,bE,show ((4:Int)==4)=true from rfl,bA,D,Z,BB hS C];rfl
  .unfold cS;rw[h,show ((4:Int)==1)=false from rfl,bE,show ((4:Int)==2)=false from rfl,bE,show ((4:Int)==3)=false from rfl,bE,show ((4:Int)==4)=true from rfl,bA];unfold nU;simp only;rw[D,Z,hu];rfl
theorem UZ {c:Sl Int} {l:Sl (Sl Int)} (h:Uh t A c l) (q:Pred):vW t q->q.kind<=8->∀n,q.dp<=n ->
 ∃i ok x,dz (λr (z:Trace×Pred)=>dF z.1 z.2 r) n (t,q)=some (i,ok)/\dz (λr (z:bD×Pred)=>cS z.1 z.2 r) n (⟨t,c,l⟩,q)=some x/\(ok=true->∃low high,i=⟨low,high⟩/\wP low high/\low<=x/\x<=high):=by
 induction q using Pred.ind with
 | h q w=>
  intro hc hk n hn;have hd:=q.sS;obtain⟨B,hr,hy⟩:=hc.here;obtain⟨k1,-,-⟩:=vH B;have w:=λq I=>w q I (hc.uY I) (hc.int (by omega) I) (n-1) (by have:=Pred.sC I;omega)
  rw[iK (by omega),iK (by omega)]
  show ∃i ok x,dF t q (dz (λr (z:Trace×Pred)=>dF z.1 z.2 r) (n-1))=some (i,ok)/\cS ⟨t,c,l⟩ q (dz (λr (z:bD×Pred)=>cS z.1 z.2 r) (n-1))=some x/\_
  generalize dz (λr (z:Trace×Pred)=>dF z.1 z.2 r) (n-1)=R' at w ⊢
  generalize dz (λr (z:bD×Pred)=>cS z.1 z.2 r) (n-1)=R at w ⊢
  by_cases h4:q.kind<=4
  .have S:q.l.l.length=0:=by
    have:=Pred.parts B (c:=0) (by rcases (show q.kind=1\/q.kind=2\/q.kind=3\/q.kind=4 by omega)with h|h|h|h <;> (rw[h];rfl))
    omega
   obtain⟨low,high,x,g1,g2,g3,g5⟩:=Sr h B hr h4;refine⟨⟨low,high⟩,uZ low high,x,?_,g2 R,λT=>⟨low,high,rfl,wP.of (by omega) T,g3,g5⟩⟩
   unfold dF;rw[show (len q.l==0)=true from by simp[len,S],bA,g1,ζb,Ck,ζb,Bool.not_not]
  .have u:∀j:Int,j<5->(q.kind==j)=false:=λj hj=>by simp;omega
   unfold dF cS;rw[u 1 (by omega),u 2 (by omega),u 3 (by omega),u 4 (by omega),bE,bE,bE,bE]
   by_cases J:q.kind=5
   .have C:q.l.l.length=1:=by
     have:=Pred.parts B (c:=1) (by rw[J];rfl)
     omega
    have h0:0<q.l.l.length:=by omega
    obtain⟨i,ok,x,g1,g2,g3⟩:=w _ (List.getElem_mem h0);have U:idx q.l 0=some q.l.l[0]:=bQ (i:=0) h0;rw[show (len q.l==0)=false from by simp[len,C],bE,U,ζb,g1,ζb,show (len q.l==2)=false from by simp[len,C],bE,show (q.kind==5)=true from by simpa using J,bA,ζb,g2,ζb]
    simp only
    cases ok with
    | false=>
     rw[DE rfl];exact⟨_,false,_,rfl,rfl,λh=>by cases h⟩
    | true=>
     obtain⟨a,b,rfl,L,O,x2⟩:=g3 rfl;obtain⟨low,high,W,X,Q⟩:=Kd (p:=q) ⟨by omega,by omega⟩ L L ⟨O,x2⟩ ⟨O,x2⟩ ⟨0,0⟩ R'
     rw[J]at Q;exact⟨_,_,_,W,rfl,λh=>⟨low,high,rfl,wP.of X h,Q h⟩⟩
   .have D:q.l.l.length=2:=by
     have:=Pred.parts B (c:=2) (by rcases (show q.kind=6\/q.kind=7\/q.kind=8 by omega)with h|h|h <;> (rw[h];rfl))
     omega
    have h0:0<q.l.l.length:=by omega
    have h1:1<q.l.l.length:=by omega
    obtain⟨i,ok,x,g1,g2,g3⟩:=w _ (List.getElem_mem h0);obtain⟨j,G,y,q1,q2,q3⟩:=w _ (List.getElem_mem h1);have U:idx q.l 0=some q.l.l[0]:=bQ (i:=0) h0;have Y:idx q.l 1=some q.l.l[1]:=bQ (i:=1) h1;rw[show (len q.l==0)=false from by simp[len,D],bE,U,Y]
    simp only[ζb,g1,g2,q1,q2];rw[show (len q.l==2)=true from by simp[len,D],bA,show (q.kind==5)=false from by simpa using J,bE]
    have Z:(a_ (q.kind==6) (some (IntKind.wrap .i64 (x+y))) (a_ (q.kind==7) (some (IntKind.wrap .i64 (x-y))) (some (IntKind.wrap .i64 (x*y)))):Option Int)=some (QI q.kind x y):=by
     unfold QI;rcases (show q.kind=6\/q.kind=7\/q.kind=8 by omega)with h|h|h <;> rw[h] <;> rfl
    rw[Z]
    cases hb:ok&&G with
    | false=>
     rw[DE hb];exact⟨_,false,_,rfl,rfl,λh=>by cases h⟩
    | true=>
     simp only[ζh]at hb;obtain⟨rfl,rfl⟩:=hb;obtain⟨a,b,rfl,L,O,x2⟩:=g3 rfl;obtain⟨c',d,rfl,aa,y1,y2⟩:=q3 rfl;obtain⟨low,high,W,X,Q⟩:=Kd (p:=q) ⟨by omega,by omega⟩ L aa ⟨O,x2⟩ ⟨y1,y2⟩ ⟨0,0⟩ R'
     exact⟨_,_,_,W,rfl,λh=>⟨low,high,rfl,wP.of X h,Q h⟩⟩
theorem Lj (hS:Small t) (D:(bU t).length<1073741824) {p:Pred} (B:p.Sm) {c:Sl Int}:kZ t c p=some true:=by
 obtain⟨Y,C⟩:=RA hS;obtain⟨hg,G⟩:=PF B;unfold kZ;rw[show sO=some true from rfl,ζb,bA,C,ζb,G,ζb]
 cases Y with
 | true=>rfl
 | false=>
 cases hg with
 | true=>rfl
 | false=>
 rw[bE,ζb,bE,ζb]
 cases decide (len c>20)with
 | true=>rfl
 | false=>
 rw[bE];obtain⟨w1,e1,g1,f1,Z⟩:=R9 hS D B c 1;obtain⟨e,I,c2,c3⟩:=DO hS D B;unfold sU;rw[g1,ζb];simp only
 by_cases h:e1=0
 .subst h;obtain⟨A,l,rfl,U,w,hc,hk,ht⟩:=Z rfl;have hd:=w;simp only[kK,ζh,decide_eq_true_eq]at hd;have J:p.kind<=8:=by
   unfold lG at hk
   by_cases h:p.kind<=8
   .exact h
   .rw[if_neg h]at hk;cases hk
  obtain⟨i,ok,x,W,x2,x3⟩:=UZ U p hc J 100000 (by omega)
  obtain rfl:e=0:=by
   unfold oh at f1;rw[c2]at f1;obtain⟨vl,hv,L,-⟩:=zW hS D;rw[L,ζb]at f1
   by_cases u:e=0
   .exact u
   .simp only[ζb]at f1;rw[show (e==0)=false from by simpa using u]at f1
    revert f1
    generalize (len c==len t.procs)=lb;intro f1;cases vl <;> cases lb <;> simp[bA,bE]at f1 <;> exact absurd f1 u
  have O:qu t p=some ok:=by
   show dz (λr (z:Trace×Pred)=>eO z.1 z.2 r) 100000 (t,p)=_
   rw[iK (by omega)]
   show eO t p _=_;unfold eO;rw[rS,ζb,hk,show ((1:Int)==1)=true from rfl,bA,show cD t p=some (i,ok)from W];rfl
  have Q:ok=true:=by
   cases ok with
   | true=>rfl
   | false=>
    exfalso;have S:=I;unfold kA at S;rw[U.hv,ζb,bA,vm B,w,ζb,ζb,show (!true)=false from rfl,bE,zT hS B (by omega),hc.r,ζb,bA,AF B (by omega),hc.y,ζb,bA,O,ζb,bE]at S
    cases S
  obtain⟨low,high,rfl,hR,y1,y2⟩:=x3 Q;have T:me t p=some (low,high,0):=by
   unfold me;rw[I,ζb,show ((0:Int)==0)=true from rfl,bA,rS,ζb,hk,show ((1:Int)==1)=true from rfl,bA,show cD t p=some (⟨low,high⟩,ok)from W];rfl
  rw[show dU ⟨t,c,l⟩ p=some x from x2,T];rw[show ((0:Int)==0)=true from rfl,bA,ζb,ζb,ζb];simp only;rw[show ((0:Int)==0)=true from rfl,bA,bA,ζb,decide_eq_true y1,bA,ζb,decide_eq_true y2,bA,Ao B,ht];cases kK p <;> rfl
 .have X:(e1==0)=false:=by simpa using h
  have hB:∃r,me t p=some r:=by
   unfold me;rw[I,ζb]
   by_cases u:e=0
   .obtain⟨hv,hV,w,hc⟩:=c3 u;have hd:=w;simp only[kK,ζh,decide_eq_true_eq]at hd;rw[show (e==0)=true from by simpa using u,bA,rS,ζb]
    by_cases hk:p.kind<=8
    .obtain⟨low,high,ok,i,b1,-,-⟩:=BQ hS hv hV.ok p hc hk 100000 (by omega)
     rw[show cD t p=some (i,ok)from b1];cases lG p.kind==1 <;> exact⟨_,rfl⟩
    .rw[show (lG p.kind==1)=false from by simp[lG,hk],bE];exact⟨_,rfl⟩
   .rw[show (e==0)=false from by simpa using u,bE];exact⟨_,rfl⟩
  obtain⟨r,hr⟩:=hB;rw[X,bE,ζb,hr,ζb];simp only;rw[X,bE];rfl
end
end Go.VE
namespace Go.VE
theorem Ae {α:Type} [cm α] {x:α}:∀{l:List α},x∈l->cm.wt x<=(l.map cm.wt).sum
 | y::l,h=>by
  simp only[List.map_cons,List.sum_cons];rcases List.mem_cons.1 h with rfl|h
  .omega
  .have:=Ae h;omega
theorem wk {α:Type} [cm α] (h:∀x:α,1<=cm.wt x):∀(l:List α),l.length<=(l.map cm.wt).sum
 | []=>Nat.le_refl _
 | y::l=>by
  simp only[List.map_cons,List.sum_cons,List.length_cons];have:=wk h l;have:=h y;omega
theorem Bb {α:Type} [cm α] (s:Sl α):cm.wt s=(s.l.map cm.wt).sum+1:=rfl
theorem BH (p:Int):∀(es:List Event) (j:Int),(iC p j es).length=es.length
 | [],_=>rfl
 | _::es,j=>by simp only[iC,List.length_cons,BH p es]
theorem Hi:∀(ps:List bT) (i:Int),(fJ i ps).length<=(ps.map cm.wt).sum
 | [],_=>Nat.le_refl _
 | p::ps,i=>by
  simp only[fJ,ζi,BH,List.map_cons,List.sum_cons];have h1:=Hi ps (i+1);have u:=wk (α:=Event) (λx=>Nat.le_add_left ..) p.events.l
  have w:cm.wt p=cm.wt p.name+cm.wt p.vars+cm.wt p.events+1:=rfl;have z:=Bb p.events;omega
theorem O8 {t:Trace} (h:cm.wt t<=1048576):Small t/\(bU t).length<1073741824:=by
 have h0:cm.wt t=cm.wt t.procs+1:=rfl;have h1:=Bb t.procs;have C:=wk (α:=bT) (λx=>Nat.le_add_left ..) t.procs.l
 have D:=Hi t.procs.l 0;refine⟨⟨by omega,λp u=>?_⟩,by show (fJ 0 t.procs.l).length<_;omega⟩
 have G:=Ae u;have I:cm.wt p=cm.wt p.name+cm.wt p.vars+cm.wt p.events+1:=rfl;have J:=Bb p.events;have L:=Bb p.vars;have O:=wk (α:=Event) (λx=>Nat.le_add_left ..) p.events.l
 have Q:=wk (α:=Var) (λx=>Nat.le_add_left ..) p.vars.l
 have w:cm.wt p.name=p.name.size+1:=rfl;refine⟨by omega,by omega,by omega,λv hv=>?_,λe z=>?_⟩
 .have k1:=Ae hv;have A:cm.wt v=cm.wt v.name+cm.wt v.init_+1:=rfl;have B:cm.wt v.name=v.name.size+1:=rfl;omega
 .have k1:=Ae z;have A:cm.wt e=cm.wt e.kind+cm.wt e.peer+cm.wt e.message+cm.wt e.time+cm.wt e.assign+1:=rfl;have B:=Bb e.assign;have S:=wk (α:=Assign) (λx=>Nat.le_add_left ..) e.assign.l
  omega
theorem VD (p:Pred):cm.wt p<=1048576->p.Sm:=by
 induction p using Pred.ind with
 | h p w=>
  intro h;have h0:∃m,cm.wt p=m+Pred.Qz p.l+1:=by cases p;exact⟨_,rfl⟩
  obtain⟨m,h0⟩:=h0;have h1:=Pred.Wk p.l;have z:=Bb p.l;have A:=wk (α:=Pred) (λx=>by cases x;exact Nat.le_add_left ..) p.l.l
  unfold Pred.Sm;rw[p.kB,ζh,List.all_eq_true];refine⟨decide_eq_true (by omega),λq u=>w q u ?_⟩
  have:=Ae u;omega
end Go.VE
namespace Go.Proofs.YtlmckmkfopljoaaGreatDoor
open Go.ChangeShapes Go.WideShapes Go.ChangeAt Go.RowKit Go.VE
theorem own:ownKnob Tryz.prog.godebug=none:=by kernel_rfl
theorem kids:Kids Tryz.prog (·<Tryz.prog.types.size):=kids_rows (by kernel_rfl) (by kernel_rfl)
theorem full:∀t e,t<Tryz.prog.types.size->Tryz.prog.underlying t=some (.slice e)->0<Tryz.prog.cellsOf e:=slices_full_of Tryz.prog (by kernel_rfl)
theorem ye {H:Type}:∀l:List (DataW H),Rows.uptoBulkAll l=(l.map Rows.uptoBulk).sum
 | []=>by simp[Rows.uptoBulkAll]
 | d::r=>by simp[Rows.uptoBulkAll,ye r]
theorem HB {H:Type}:sD (H:=H) Rows.uptoBulk where
 lit l:=by cases l <;> simp[Rows.uptoBulk]
 str s:=by simp[Rows.uptoBulk]
 nil:=by simp[Rows.uptoBulk]
 slice es u:=by rw[Rows.uptoBulk,ye,ye];omega
 agg w:=by rw[Rows.uptoBulk,ye];exact Nat.le_refl _
theorem Ku:Tryz.prog.globalNamed "antecede/predtype.parts" = some 0:=by kernel_rfl
theorem Pu:(Tryz.prog.globals[0]?).map (·.type)=some 183:=by kernel_rfl
theorem table {W:World} (h:laidMetH Tryz.prog Rows.evaluateBoundsUptoRow.laid W):Lib.TabIs Tryz.prog W "antecede/predtype.parts" .i64 DU:=
 Lib.tabIs_of_head (rest:=[]) Ku Pu Tryz.underlying183 Tryz.underlying3 (by kernel_rfl) (by kernel_rfl) h
theorem VQ {W:World} (h:laidMetH Tryz.prog Rows.evaluateBoundsUptoRow.laid W):tP (snap W):=λg cs hg=>by
 change (if Nat.beq g 0 then some (DU.map (V.int .i64))else none)=some cs at hg;split at hg
 .rename_i u;cases hg;have:g=0:=Nat.eq_of_beq_eq_true u;subst this;exact PS (λi hi=>(table h).cell Ku i hi) (by decide)
 .cases hg
set_option maxRecDepth 100000 in
theorem Jx (H:Type) (enc:TypeId×Value->H) (W:World) (base:Nat) (args:Array Value) (ds gs:List (DataW H)) (before:List MemPlace)
 (B:∀(j:Nat) t v,Tryz.f6.params[j]? = some t->args[j]? = some v->Value.okWide Tryz.prog W .any base t v)
 (G:DataW.Whole enc Tryz.prog Tryz.f6.params.toList Rows.evaluateBoundsSpec.vars false W args.toList ds gs before) (hk:Rows.uptoSmall H (ds++gs)=true) (U:laidMetH Tryz.prog Rows.evaluateBoundsUptoRow.laid W) :
 Calls Tryz.prog 6 args W λe J=>∃v,e=.returned v/\Rows.evaluateBoundsSpec.post enc Tryz.prog Tryz.f6 false true false false W args v J:=by
 have A:=G;obtain⟨p,q,C,hV,rfl,T,X⟩:=G;have I:DataW.TrodAll enc Tryz.prog W 0 (λ_=>true) true Tryz.f6.params.toList args.toList ds p:=C
 rw[Tryz.params6]at I B;obtain⟨L,Y,Z,aa,p0,q0,D,rfl,rfl,h0,r0⟩:=trodAll_cons I;obtain⟨O,ab,d1,ad,p1,q1,rfl,rfl,rfl,h1,r1⟩:=trodAll_cons r0;obtain⟨Q,ae,d2,af,p2,q2,rfl,rfl,rfl,h2,r2⟩:=trodAll_cons r1;obtain⟨rfl,rfl,rfl⟩:=trodAll_nil r2;obtain rfl:args=#[L,O,Q]:=by cases args;simp_all
 obtain⟨rfl,rfl⟩:=trodVars_none hV;obtain⟨a0,w0,k0,b0⟩:=Reads.LW (t:=24) (α:=VE.Trace) B 0 rfl rfl h0;obtain⟨u,w1,k1,b1⟩:=Reads.LW (t:=25) (α:=Sl Int) B 1 rfl rfl h1;obtain⟨z,w2,k2,b2⟩:=Reads.LW (t:=28) (α:=VE.Pred) B 2 rfl rfl h2;have hb:cm.wt a0+cm.wt u+cm.wt z<=1048576:=by
  have c0:=b0 Rows.uptoBulk HB;have c1:=b1 Rows.uptoBulk HB;have c2:=b2 Rows.uptoBulk HB;have S:Rows.uptoBulkAll ([Z,d1,d2]++[])<=1048576:=of_decide_eq_true hk;rw[ye]at S;simp only[List.append_nil,List.map_cons,List.map_nil,List.sum_cons,List.sum_nil]at S;omega
 obtain⟨hS,hN⟩:=O8 (t:=a0) (by omega)
 have hc:fQ cL 6 [VE.enc a0,VE.enc u,VE.enc z]=some [.bool true]:=by
  have hl:(kZ a0 u z).bind (λr:Bool=>some [V.bool r])=some [.bool true]:=by rw[Lj (t:=a0) (c:=u) hS hN (VD z (by omega))];rfl
  exact(wE a0 u z).F.h () _ hl
 have:=LQ (P:=Tryz.prog) QT JZ calls (f:=6) (xs:=[VE.enc a0,VE.enc u,VE.enc z]) (by simp[V.cI,V.good,mA]) hc (w:=W) (args:=#[L,O,Q]) (VQ U) (cM.cons w0 (cM.cons w1 (cM.cons w2 .nil)))
 refine this.mono λe J ⟨he,hg⟩=>?_
 subst he;exact⟨_,rfl,NI kids full (by rw[Tryz.params6];decide) rfl rfl rfl Tryz.underlying4 A hg⟩
noncomputable def Ap (os:Os):World:=
 { World.holding Tryz.prog os ⟨#[],#[],[]⟩with heap:=(World.holding Tryz.prog os ⟨#[],#[],[]⟩).heap.modify 0 fun
  | .cells _ t frozen=>.cells (DU.map (Value.int .i64)).toArray t frozen
  | o=>o }
theorem PG (os:Os):laidMet Tryz.prog Rows.evaluateBoundsUptoRow.laid ((Ap os).forCall (λ_ _=>0) ⟨#[],#[.agg #[.slice none 0 0],.slice none 0 0,.agg #[.int .i64 0,.int .i64 0,.int .i64 0,.int .i64 0,.string ByteArray.empty,.slice none 0 0]],[]⟩).memory:=
 laidMet_of_run' 8 (by kernel_rfl) (by kernel_rfl)
theorem Pb (os:Os) {H:Type} (enc:TypeId×Value->H):∃places,DataW.whole enc Tryz.prog ((Ap os).forCall (λ_ _=>0) ⟨#[],#[.agg #[.slice none 0 0],.slice none 0 0,.agg #[.int .i64 0,.int .i64 0,.int .i64 0,.int .i64 0,.string ByteArray.empty,.slice none 0 0]],[]⟩).memory Tryz.f6.params.toList Rows.evaluateBoundsSpec.vars false (#[.agg #[.slice none 0 0],.slice none 0 0,.agg #[.int .i64 0,.int .i64 0,.int .i64 0,.int .i64 0,.string ByteArray.empty,.slice none 0 0]]:Array Value).toList 8=some ([.agg [.nil],.nil,.agg [.lit (.int .i64 0),.lit (.int .i64 0),.lit (.int .i64 0),.lit (.int .i64 0),.lit (.string []),.nil]],[],places):=
 ⟨[],by kernel_rfl⟩
set_option maxRecDepth 100000 in
theorem MI (os:Os) (B:os.Started) (H:Type) (enc:TypeId×Value->H) (F:Stop.Interp) :
 ReturnsInHanded {} Tryz.checked os 6 .any ((Rows.OpenSpec.upto Rows.evaluateBoundsSpec).preRow enc Tryz.prog Tryz.f6 Rows.evaluateBoundsUptoRow.domain false Rows.evaluateBoundsUptoRow.laid) (((Rows.OpenSpec.upto Rows.evaluateBoundsSpec).at F).post enc Tryz.prog Tryz.f6 false true false false):=by
 obtain⟨places,z⟩:=Pb os enc;refine returnsInHanded_of_row (C:=Tryz.checked) (s:=Rows.OpenSpec.upto Rows.evaluateBoundsSpec) own B (by kernel_rfl) Tryz.func6
  (witness_row_at (enc:=enc) (C:=Tryz.checked) false (Ap os) #[.agg #[.slice none 0 0],.slice none 0 0,.agg #[.int .i64 0,.int .i64 0,.int .i64 0,.int .i64 0,.string ByteArray.empty,.slice none 0 0]] rfl (by kernel_rfl) (by kernel_rfl) (by kernel_rfl)
   (OpenSpec.preRow_of_cond 8 z (by kernel_rfl) (λk hk=>by cases hk;kernel_rfl) (by kernel_rfl) (PG os))) ?_
 intro W base args ds gs before w A _ u _ D _ _;exact Jx H enc W base args ds gs before w A (u _ rfl) D
theorem Tc:Rows.EvaluateBoundsUptoSaid:=
 OpenClaim.holds_of_cond 6 Tryz.f6 rfl rfl rfl rfl rfl rfl rfl ⟨rfl,rfl,rfl,rfl,rfl⟩ rfl rfl rfl rfl rfl (by kernel_rfl) Tryz.func6 (by kernel_rfl)
  (of_decide_eq_true (by kernel_rfl)) (by unfold Func.isWrapper;first|(rw[if_pos (by decide +kernel)];kernel_rfl)|(rw[if_neg (by decide +kernel)];exact⟨rfl,rfl⟩))
  (λos u H enc _ F=>by rw[OpenClaim.pre_eq_preRow];exact MI os u H enc F)
theorem PA (f:FuncId) (fn:Func) (D:Tryz.pinned.checked.prog.funcNamed "antecede/antecedelaw29.EvaluateBounds" = some f) (B:Tryz.pinned.checked.prog.funcs[f]? = some fn) :
 false=Tryz.pinned.checked.prog.looks []/\∀(j:Nat) t,fn.params[j]? = some t->Tryz.pinned.checked.prog.wantsStandIn t=false:=by
 obtain rfl:f=6:=Option.some.inj ((show Tryz.prog.funcNamed "antecede/antecedelaw29.EvaluateBounds" = some 6 by kernel_rfl).symm.trans D) |>.symm
 obtain rfl:fn=Tryz.f6:=(Option.some.inj (Tryz.func6.symm.trans B)).symm;refine⟨by kernel_rfl,λj t z=>?_⟩
 rw[Tryz.params6]at z;have A:t∈[24,25,28]:=by simpa using Array.mem_of_getElem? z
 have w:([24,25,28].all λu => !Tryz.prog.wantsStandIn u)=true:=by kernel_rfl
 exact(show Tryz.prog.wantsStandIn t=false by simpa using List.all_eq_true.1 w t A)
theorem evaluateBoundsProved:Rows.EvaluateBoundsUptoCardSaid:=
 Claim7.holds_tied_plain_at .later [] _ _ _ _ Tc (λ_ h=>by cases h) (by kernel_rfl) (λ_ h=>by cases h) evaluateBoundsUpto_row_tie rfl ⟨rfl,rfl⟩ (by kernel_rfl) rfl PA (by kernel_rfl)
#print axioms evaluateBoundsProved
end Go.Proofs.YtlmckmkfopljoaaGreatDoor
