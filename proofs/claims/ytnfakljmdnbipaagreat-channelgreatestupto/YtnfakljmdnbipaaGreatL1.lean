/-
 ChannelGreatest says true for all arguments that together are of bulk at most 1048576, and they read behind the call as they read before: for every such argument, without a condition.
-/
import Derived.Test.YtnfakljmdnbipaaGreatRows
import Derived.Test.YtnfakljmdnbipaaGreatK1
import Derived.Test.YtnfakljmdnbipaaGreatG1
set_option linter.all false
namespace Go.VE
instance:bC Assign where
 wt x:=bC.wt x.var+bC.wt x.value+1
 ok x:=bC.ok x.var∧bC.ok x.value∧True
instance:bC Event where
 wt x:=bC.wt x.kind+bC.wt x.peer+bC.wt x.message+bC.wt x.time+bC.wt x.assign+1
 ok x:=bC.ok x.kind∧bC.ok x.peer∧bC.ok x.message∧bC.ok x.time∧bC.ok x.assign∧True
instance:bC Var where
 wt x:=bC.wt x.name+bC.wt x.init_+1
 ok x:=bC.ok x.name∧bC.ok x.init_∧True
instance:bC bl where
 wt x:=bC.wt x.name+bC.wt x.vars+bC.wt x.events+1
 ok x:=bC.ok x.name∧bC.ok x.vars∧bC.ok x.events∧True
instance:bC Trace where
 wt x:=bC.wt x.procs+1
 ok x:=bC.ok x.procs∧True
instance:bC Slice where
 wt x:=bC.wt x.empty+bC.wt x.first+bC.wt x.last+bC.wt x.j+1
 ok x:=bC.ok x.empty∧bC.ok x.first∧bC.ok x.last∧bC.ok x.j∧True
instance:bC aV where
 wt x:=bC.wt x.p+bC.wt x.q+bC.wt x.sent+bC.wt x.received+1
 ok x:=bC.ok x.p∧bC.ok x.q∧bC.ok x.sent∧bC.ok x.received∧True
end Go.VE
namespace Go.VE.YtnfakljmdnbipaaGreat
open Go.Proofs Go.Proofs.YtnfakljmdnbipaaGreat
instance U5:Reads Tryz.prog 9 ByteArray:=Reads.str Tryz.underlying9 (by kernel_rfl)
instance U6:Reads Tryz.prog 3 Int:=Reads.int Tryz.underlying3 (by kernel_rfl)
instance UQ:Reads Tryz.prog 144 Var:=by
 refine Reads.st Tryz.underlying144 (by kernel_rfl) rfl ?_
 intro H enc w base spare held fuel cs l hl h;simp only[List.mapM_cons,List.mapM_nil,Option.pure_def,Option.bind_eq_bind,ζg,ζa]at h;obtain⟨x0,h0,ys0,⟨x1,h1,ys1,rfl,rfl⟩,rfl⟩:=h;obtain⟨a0,c0,k0,b0⟩:=Reads.rd (P:=Tryz.prog) (t:=9) (α:=ByteArray) (d:=x0.1) (ps:=x0.2) h0;rw[show Tryz.prog.cellsOf 9=1 from by kernel_rfl]at c0
 obtain⟨a1,c1,k1,b1⟩:=Reads.rd (P:=Tryz.prog) (t:=3) (α:=Int) (d:=x1.1) (ps:=x1.2) h1;rw[show Tryz.prog.cellsOf 3=1 from by kernel_rfl]at c1
 refine⟨⟨a0,a1⟩,eC.fin (n:=2) (eC.seg (o:=1) (n:=1) (eC.seg (o:=0) (n:=1) (show eC (snap w) [] (cs.take 0)from by simpa using eC.nil) c0) c1) hl,⟨k0,k1,trivial⟩,fun b bo=>?_⟩
 have w0:=b0 b bo;have w1:=b1 b bo;show bC.wt a0+bC.wt a1+1≤_;simp only[List.map_cons,List.map_nil,List.sum_cons,List.sum_nil];omega
instance UZ:Reads Tryz.prog 64 (Sl Var):=Reads.sl (e:=144) Tryz.underlying64 (by kernel_rfl) (by decide)
instance UO:Reads Tryz.prog 147 Assign:=by
 refine Reads.st Tryz.underlying147 (by kernel_rfl) rfl ?_
 intro H enc w base spare held fuel cs l hl h;simp only[List.mapM_cons,List.mapM_nil,Option.pure_def,Option.bind_eq_bind,ζg,ζa]at h;obtain⟨x0,h0,ys0,⟨x1,h1,ys1,rfl,rfl⟩,rfl⟩:=h;obtain⟨a0,c0,k0,b0⟩:=Reads.rd (P:=Tryz.prog) (t:=3) (α:=Int) (d:=x0.1) (ps:=x0.2) h0;rw[show Tryz.prog.cellsOf 3=1 from by kernel_rfl]at c0
 obtain⟨a1,c1,k1,b1⟩:=Reads.rd (P:=Tryz.prog) (t:=3) (α:=Int) (d:=x1.1) (ps:=x1.2) h1;rw[show Tryz.prog.cellsOf 3=1 from by kernel_rfl]at c1
 refine⟨⟨a0,a1⟩,eC.fin (n:=2) (eC.seg (o:=1) (n:=1) (eC.seg (o:=0) (n:=1) (show eC (snap w) [] (cs.take 0)from by simpa using eC.nil) c0) c1) hl,⟨k0,k1,trivial⟩,fun b bo=>?_⟩
 have w0:=b0 b bo;have w1:=b1 b bo;show bC.wt a0+bC.wt a1+1≤_;simp only[List.map_cons,List.map_nil,List.sum_cons,List.sum_nil];omega
instance UX:Reads Tryz.prog 60 (Sl Assign):=Reads.sl (e:=147) Tryz.underlying60 (by kernel_rfl) (by decide)
instance UT:Reads Tryz.prog 62 Event:=by
 refine Reads.st Tryz.underlying62 (by kernel_rfl) rfl ?_
 intro H enc w base spare held fuel cs l hl h;simp only[List.mapM_cons,List.mapM_nil,Option.pure_def,Option.bind_eq_bind,ζg,ζa]at h;obtain⟨x0,h0,ys0,⟨x1,h1,ys1,⟨x2,h2,ys2,⟨x3,h3,ys3,⟨x4,h4,ys4,rfl,rfl⟩,rfl⟩,rfl⟩,rfl⟩,rfl⟩:=h;obtain⟨a0,c0,k0,b0⟩:=Reads.rd (P:=Tryz.prog) (t:=3) (α:=Int) (d:=x0.1) (ps:=x0.2) h0;rw[show Tryz.prog.cellsOf 3=1 from by kernel_rfl]at c0
 obtain⟨a1,c1,k1,b1⟩:=Reads.rd (P:=Tryz.prog) (t:=3) (α:=Int) (d:=x1.1) (ps:=x1.2) h1;rw[show Tryz.prog.cellsOf 3=1 from by kernel_rfl]at c1
 obtain⟨a2,c2,k2,b2⟩:=Reads.rd (P:=Tryz.prog) (t:=3) (α:=Int) (d:=x2.1) (ps:=x2.2) h2;rw[show Tryz.prog.cellsOf 3=1 from by kernel_rfl]at c2
 obtain⟨a3,c3,k3,b3⟩:=Reads.rd (P:=Tryz.prog) (t:=3) (α:=Int) (d:=x3.1) (ps:=x3.2) h3;rw[show Tryz.prog.cellsOf 3=1 from by kernel_rfl]at c3
 obtain⟨a4,c4,k4,b4⟩:=Reads.rd (P:=Tryz.prog) (t:=60) (α:=(Sl Assign)) (d:=x4.1) (ps:=x4.2) h4;rw[show Tryz.prog.cellsOf 60=1 from by kernel_rfl]at c4
 refine⟨⟨a0,a1,a2,a3,a4⟩,eC.fin (n:=5) (eC.seg (o:=4) (n:=1) (eC.seg (o:=3) (n:=1) (eC.seg (o:=2) (n:=1) (eC.seg (o:=1) (n:=1) (eC.seg (o:=0) (n:=1) (show eC (snap w) [] (cs.take 0)from by simpa using eC.nil) c0) c1) c2) c3) c4) hl,⟨k0,k1,k2,k3,k4,trivial⟩,fun b bo=>?_⟩
 have w0:=b0 b bo;have w1:=b1 b bo;have w2:=b2 b bo;have w3:=b3 b bo;have w4:=b4 b bo;show bC.wt a0+bC.wt a1+bC.wt a2+bC.wt a3+bC.wt a4+1≤_;simp only[List.map_cons,List.map_nil,List.sum_cons,List.sum_nil];omega
instance UY:Reads Tryz.prog 63 (Sl Event):=Reads.sl (e:=62) Tryz.underlying63 (by kernel_rfl) (by decide)
instance U0:Reads Tryz.prog 66 bl:=by
 refine Reads.st Tryz.underlying66 (by kernel_rfl) rfl ?_
 intro H enc w base spare held fuel cs l hl h;simp only[List.mapM_cons,List.mapM_nil,Option.pure_def,Option.bind_eq_bind,ζg,ζa]at h;obtain⟨x0,h0,ys0,⟨x1,h1,ys1,⟨x2,h2,ys2,rfl,rfl⟩,rfl⟩,rfl⟩:=h;obtain⟨a0,c0,k0,b0⟩:=Reads.rd (P:=Tryz.prog) (t:=9) (α:=ByteArray) (d:=x0.1) (ps:=x0.2) h0;rw[show Tryz.prog.cellsOf 9=1 from by kernel_rfl]at c0
 obtain⟨a1,c1,k1,b1⟩:=Reads.rd (P:=Tryz.prog) (t:=64) (α:=(Sl Var)) (d:=x1.1) (ps:=x1.2) h1;rw[show Tryz.prog.cellsOf 64=1 from by kernel_rfl]at c1
 obtain⟨a2,c2,k2,b2⟩:=Reads.rd (P:=Tryz.prog) (t:=63) (α:=(Sl Event)) (d:=x2.1) (ps:=x2.2) h2;rw[show Tryz.prog.cellsOf 63=1 from by kernel_rfl]at c2
 refine⟨⟨a0,a1,a2⟩,eC.fin (n:=3) (eC.seg (o:=2) (n:=1) (eC.seg (o:=1) (n:=1) (eC.seg (o:=0) (n:=1) (show eC (snap w) [] (cs.take 0)from by simpa using eC.nil) c0) c1) c2) hl,⟨k0,k1,k2,trivial⟩,fun b bo=>?_⟩
 have w0:=b0 b bo;have w1:=b1 b bo;have w2:=b2 b bo;show bC.wt a0+bC.wt a1+bC.wt a2+1≤_;simp only[List.map_cons,List.map_nil,List.sum_cons,List.sum_nil];omega
instance UW:Reads Tryz.prog 22 (Sl bl):=Reads.sl (e:=66) Tryz.underlying22 (by kernel_rfl) (by decide)
instance U3:Reads Tryz.prog 24 Trace:=by
 refine Reads.st Tryz.underlying24 (by kernel_rfl) rfl ?_
 intro H enc w base spare held fuel cs l hl h;simp only[List.mapM_cons,List.mapM_nil,Option.pure_def,Option.bind_eq_bind,ζg,ζa]at h;obtain⟨x0,h0,ys0,rfl,rfl⟩:=h;obtain⟨a0,c0,k0,b0⟩:=Reads.rd (P:=Tryz.prog) (t:=22) (α:=(Sl bl)) (d:=x0.1) (ps:=x0.2) h0;rw[show Tryz.prog.cellsOf 22=1 from by kernel_rfl]at c0
 refine⟨⟨a0⟩,eC.fin (n:=1) (eC.seg (o:=0) (n:=1) (show eC (snap w) [] (cs.take 0)from by simpa using eC.nil) c0) hl,⟨k0,trivial⟩,fun b bo=>?_⟩
 have w0:=b0 b bo;show bC.wt a0+1≤_;simp only[List.map_cons,List.map_nil,List.sum_cons,List.sum_nil];omega
instance U4:Reads Tryz.prog 5 U8:=Reads.u8 Tryz.underlying5 (by kernel_rfl)
end Go.VE.YtnfakljmdnbipaaGreat
namespace Go.VE
theorem ML {a:Int} (h0:0≤a) (h1:a<4294967296):vt .u64 (IntKind.wrap .u64 (IntKind.wrap .i64 a)) 1=some (a / 2):=by
 have e1:IntKind.wrap .i64 a=a:=iE a (by omega) (by omega)
 have e2:IntKind.wrap .u64 a=a:=by simp[IntKind.wrap,IntKind.bits,IntKind.signed];omega
 rw[e1,e2];unfold vt;rw[if_neg (by omega)]
 show some (a.fdiv (2 ^ (min 1 64)))=_;rw[show (2:Int) ^ (min 1 64)=2 from rfl,Int.fdiv_eq_ediv_of_nonneg a (by omega)]
def Up (l:List Int):Prop:=∀(i j:Nat) (a b:Int),i<j→l[i]? = some a→l[j]? = some b→a<b
theorem NR (a b:Int):pM a b=some (decide (a<b)):=by
 unfold pM jh;simp[au]
theorem zC {l:List Int} {x:Int} {r:Nat} (hr:r≤l.length) (h1:∀k a,k<r→l[k]? = some a→a≤x) (h2:∀k a,r≤k→l[k]? = some a→x<a):l.countP (fun a=>decide (a≤x))=r:=by
 have e:l=l.take r++l.drop r:=(List.take_append_drop r l).symm;rw[e,List.countP_append];have a1:(l.take r).countP (fun a=>decide (a≤x))=(l.take r).length:=by
  rw[List.countP_eq_length];intro a ha;obtain⟨k,hk⟩:=List.getElem?_of_mem ha;have hkl:k<(l.take r).length:=(ζe.1 hk).1;rw[List.getElem?_take]at hk;have hkr:k<r:=by rw[List.length_take]at hkl;omega
  rw[if_pos hkr]at hk;simpa using h1 k a hkr hk
 have a2:(l.drop r).countP (fun a=>decide (a≤x))=0:=by
  rw[List.countP_eq_zero];intro a ha;obtain⟨k,hk⟩:=List.getElem?_of_mem ha;rw[List.getElem?_drop]at hk;have:=h2 (r+k) a (by omega) hk
  simp;omega
 rw[a1,a2,List.length_take];omega
theorem Ez {s:Sl Int} (hu:Up s.l) (hl:s.l.length<1073741824) (x:Int):mA s x=some (Int.ofNat (s.l.countP fun a=>decide (a≤x))):=by
 have hbs:Wp (cB s x) fun r=>∃i:Nat,r.1=i∧i≤s.l.length∧(∀k a,k<i→s.l[k]? = some a→a<x)∧(∀k a,i≤k→s.l[k]? = some a→x≤a)∧(r.2=true↔s.l[i]? = some x):=by
  unfold cB cB.W1;refine cO (fun q:Int×Int=>∃i j:Nat,q.1=i∧q.2=j∧i≤j∧j≤s.l.length∧(∀k a,k<i→s.l[k]? = some a→a<x)∧(∀k a,j≤k→s.l[k]? = some a→x≤a)) (fun q=>q.2.toNat-q.1.toNat)
   ⟨0,s.l.length,rfl,rfl,Nat.zero_le _,Nat.le_refl _,fun k a h=>absurd h (by omega),fun k a h hk=>by have:=(ζe.1 hk).1;omega⟩ ?_
  rintro⟨q1,q2⟩ ⟨i,j,h1,h2,hij,hj,hlo,hhi⟩;simp only at h1 h2;subst h1 h2;unfold cB.aA;rw[aH];constructor
  ·intro h;have hlt:i<j:=by
    have:(i:Int)<j:=by simpa using h
    omega
   rw[ML (by simp;omega) (by simp;omega),ζb]
   have hm:((i:Int)+j) / 2=(((i+j) / 2:Nat):Int):=by omega
   show Wp ((idx s (IntKind.wrap .i64 (((i:Int)+j) / 2))).bind _) _;have hw:IntKind.wrap .i64 (((i:Int)+j) / 2)=(((i+j) / 2:Nat):Int):=by rw[hm,iE _ (by omega) (by omega)]
   have hml:(i+j) / 2<s.l.length:=by omega
   rw[hw,aP hml,ζb,NR,ζb,aH];constructor
   ·intro hc;have hc:s.l[(i+j) / 2]<x:=by simpa using hc
    rw[af];refine⟨⟨(i+j) / 2+1,j,bR _ (by omega),rfl,by omega,hj,fun k a hk ha=>?_,hhi⟩,?_⟩
    ·by_cases e:k=(i+j) / 2
     ·subst e;rw[ζd hml]at ha;cases ha;exact hc
     ·have:=hu k ((i+j) / 2) a _ (by omega) ha (ζd hml);omega
    ·show (j:Int).toNat-(IntKind.wrap .i64 ((((i+j) / 2:Nat):Int)+1)).toNat<(j:Int).toNat-(i:Int).toNat;rw[bR _ (by omega)];simp only[Int.toNat_natCast];omega
   ·intro hc;have hc:x≤s.l[(i+j) / 2]:=by simpa using hc
    rw[af];refine⟨⟨i,(i+j) / 2,rfl,rfl,by omega,by omega,hlo,fun k a hk ha=>?_⟩,?_⟩
    ·by_cases e:k=(i+j) / 2
     ·subst e;rw[ζd hml]at ha;cases ha;exact hc
     ·have:=hu ((i+j) / 2) k _ a (by omega) (ζd hml) ha;omega
    ·show (((i+j) / 2:Nat):Int).toNat-(i:Int).toNat<(j:Int).toNat-(i:Int).toNat;simp only[Int.toNat_natCast];omega
  ·intro h;have hge:j≤i:=by
    have:¬(i:Int)<j:=by simpa using h
    omega
   have hij':i=j:=by omega
   subst hij';refine(af _).2 ?_;show Wp (Option.bind (au (decide ((i:Int)<len s)) _ _) _) _;rw[bt,aH];constructor
   ·intro h2;have hil:i<s.l.length:=by simpa [len]using h2
    rw[aP hil,ζb,bt];unfold kT;rw[aH];constructor
    ·intro h3;have h3:s.l[i]=x:=by simpa using h3
     simp only[af,bt];exact⟨i,rfl,hj,hlo,hhi,by simp[ζd hil,h3]⟩
    ·intro h3;have h3:s.l[i]≠x:=by simpa using h3
     simp only[af,bt,ζb,beq_self_eq_true,Bool.not_true,bF];exact⟨i,rfl,hj,hlo,hhi,by simp[ζd hil,h3]⟩
   ·intro h2;have hil:s.l.length≤i:=by simpa [len]using h2
    simp only[af];exact⟨i,rfl,hj,hlo,hhi,by simp[List.getElem?_eq_none hil]⟩
 obtain⟨⟨i,b⟩,hi,n,h1,h2,h3,h4,h5⟩:=hbs;simp only at h1 h5;subst h1;unfold mA;rw[hi,ζb]
 cases b with
 | true=>
  have hx:=h5.1 rfl;have hnl:=(ζe.1 hx).1;have hc:s.l.countP (fun a=>decide (a≤x))=n+1:=by
   refine zC (by omega) (fun k a hk ha=>?_) (fun k a hk ha=>?_)
   ·by_cases e:k=n
    ·subst e;rw[hx]at ha;cases ha;omega
    ·have:=h3 k a (by omega) ha;omega
   ·have:=hu n k x a (by omega) hx ha;omega
  rw[a_,hc,bR n (by omega)];rfl
 | false=>
  have hc:s.l.countP (fun a=>decide (a≤x))=n:=by
   refine zC h2 (fun k a hk ha=>by have:=h3 k a hk ha;omega) (fun k a hk ha=>?_)
   have:=h4 k a hk ha
   by_cases e:k=n
   ·subst e;have:a≠x:=fun e=>by subst e;have:=h5.2 ha;cases this
    omega
   ·have hn:n<s.l.length:=by have:=(ζe.1 ha).1;omega
    have h6:=h4 n s.l[n] (Nat.le_refl _) (ζd hn);have:=hu n k s.l[n] a (by omega) (ζd hn) ha
    omega
  rw[bF,hc];rfl
end Go.VE
namespace Go.VE
abbrev lK {α:Type} (m:Option α):Prop:=Wp m fun _=>True
theorem lK.get {α:Type} {m:Option α} (h:lK m):∃a,m=some a:=let ⟨a,e,_⟩:=h;⟨a,e⟩
theorem lK.ok {m:Option Bool} (h:lK m):m=some (m.getD false):=by obtain⟨a,e,_⟩:=h;rw[e];rfl
def Small (t:Trace):Prop:=t.procs.l.length<1073741824∧∀p∈t.procs.l,p.events.l.length<1073741824∧p.vars.l.length<1073741824∧p.name.size<1073741824∧(∀v∈p.vars.l,v.name.size<1073741824)∧∀e∈p.events.l,e.assign.l.length<1073741824
section
theorem Ft {s:Sl Event} {p:Event→Option Bool} {f:Event→Bool} (hp:∀x∈s.l,p x=some (f x)) (hl:s.l.length<1073741824):dV s p=some (place f s.l):=
 q_ hp (by omega) (fun i=>rfl)
theorem HN {s:Sl bl} {p:bl→Option Bool} {f:bl→Bool} (hp:∀x∈s.l,p x=some (f x)) (hl:s.l.length<1073741824):dY s p=some (place f s.l):=
 q_ hp (by omega) (fun i=>rfl)
theorem KC {s:Sl Var} {p:Var→Option Bool} {f:Var→Bool} (hp:∀x∈s.l,p x=some (f x)) (hl:s.l.length<1073741824):eP s p=some (place f s.l):=
 q_ hp (by omega) (fun i=>rfl)
theorem Eo {s:Sl Assign} {p:Assign→Option Bool} {f:Assign→Bool} (hp:∀x∈s.l,p x=some (f x)) (hl:s.l.length<1073741824):dI s p=some (place f s.l):=
 q_ hp (by omega) (fun i=>rfl)
theorem vE {s:Sl Event} {p:Event→Option Bool} {f:Event→Bool} (hp:∀x∈s.l,p x=some (f x)) (hl:s.l.length<1073741824):fB s p=some (s.l.any f):=by
 unfold fB;rw[Ft hp hl,ζb,qO]
theorem wN {s:Sl bl} {p:bl→Option Bool} {f:bl→Bool} (hp:∀x∈s.l,p x=some (f x)) (hl:s.l.length<1073741824):fM s p=some (s.l.any f):=by
 unfold fM;rw[HN hp hl,ζb,qO]
theorem xW {s:Sl Var} {p:Var→Option Bool} {f:Var→Bool} (hp:∀x∈s.l,p x=some (f x)) (hl:s.l.length<1073741824):fW s p=some (s.l.any f):=by
 unfold fW;rw[KC hp hl,ζb,qO]
theorem uF {s:Sl Assign} {p:Assign→Option Bool} {f:Assign→Bool} (hp:∀x∈s.l,p x=some (f x)) (hl:s.l.length<1073741824):eV s p=some (s.l.any f):=by
 unfold eV;rw[Eo hp hl,ζb,qO]
theorem gR (x lo hi:Int):ku x lo hi=some (decide (lo≤x)&&decide (x≤hi)):=by
 unfold ku;rw[gm];rfl
theorem zu (c:Int):lK (iO c):=by
 unfold iO;simp only[gm,gV,ζb,lK,af]
theorem IE (c:Int):lK (lQ c):=by
 unfold lQ;simp only[gm,gV,ζb,lK,af]
theorem vz {s:ByteArray} {i:Nat} (h:i<s.size):∃x,iq s (i:Int)=some x:=by
 unfold iq;rw[if_pos (by omega)]
 exact⟨_,by rw[show (s[(i:Int).toNat]?)=some s[i]from by simp[h]];rfl⟩
theorem zn (s:ByteArray) (hs:s.size<1073741824):lK (dh s):=by
 unfold dh;simp only[gV,ζb];rw[lK,bt];have h1:lK (au (ByteArray.toList s==ByteArray.toList ByteArray.empty||decide (((ByteArray.size s:Nat):Int)>16)) (some true)
  ((iq s 0).bind fun x_2=>(iO x_2).bind fun x_3=>some (!x_3))):=by
  rw[lK,aH];refine⟨fun _=>(af _).2 trivial,fun h=>?_⟩
  have h0:0<s.size:=by
   simp only[Bool.or_eq_false_iff,beq_eq_false_iff_ne,ne_eq]at h;apply Classical.byContradiction;intro hn;apply h.1;have:s=ByteArray.empty:=by
    apply ByteArray.ext;apply Array.eq_empty_of_size_eq_zero;show s.size=0;omega
   rw[this]
  obtain⟨x,hx⟩:=vz h0;rw[show (0:Int)=((0:Nat):Int)from rfl,hx,ζb];obtain⟨y,hy⟩:=(zu x).get;rw[hy,ζb,af];trivial
 refine h1.mono fun b _=>?_
 rw[aH];refine⟨fun _=>(af _).2 trivial,fun _=>?_⟩
 unfold dh.W1;refine cO (fun i:Int=>∃n:Nat,i=n∧n≤s.size) (fun i:Int=>s.size-i.toNat) ⟨0,rfl,Nat.zero_le _⟩ ?_
 rintro i ⟨n,rfl,hn⟩;unfold dh.aA;rw[aH];refine⟨fun h=>?_,fun _=>(af _).2 ((af _).2 trivial)⟩
 have hlt:n<s.size:=by simpa using h
 obtain⟨x,hx⟩:=vz hlt;obtain⟨y,hy⟩:=(zu x).get;obtain⟨z,hz⟩:=(IE x).get;simp only[hx,hy,hz,ζb];rw[bt,aH];refine⟨fun _=>(af _).2 ?_,fun _=>(af _).2 ?_⟩ <;>
 ·rw[bt,aH];refine⟨fun _=>(af _).2 ?_,fun _=>(af _).2 ?_⟩ <;>
  ·rw[aH];refine⟨fun _=>(af _).2 ((af _).2 trivial),fun _=>(af _).2 ?_⟩
   exact⟨⟨n+1,bR n (by omega),by omega⟩,by rw[bR n (by omega)];simp;omega⟩
theorem Ln {t:Trace} (hS:Small t) {p:Nat} (hp:p<t.procs.l.length):lK (b9 t p):=by
 unfold b9;rw[aP hp,ζb];obtain⟨_,hps⟩:=hS;obtain⟨h1,h2,h3,h4,h5⟩:=hps _ (List.getElem_mem hp);generalize hx:t.procs.l[p]=x at *;obtain⟨b,hb⟩:=(zn x.name h3).get;obtain⟨y,hy,hyl⟩:=j9 t.procs p (by omega)
 rw[hb,ζb,hy,ζb,wN (f:=fun z=>(fF z x).getD false) (fun z _=>lK.ok ((af _).2 trivial)) (by rw[hyl];simp;omega),ζb,je,ζb,lK,aH]
 refine⟨fun _=>(af _).2 trivial,fun _=>?_⟩
 rw[aH];refine⟨fun _=>(af _).2 trivial,fun _=>?_⟩
 unfold b9.W1;refine cO (fun i:Int=>∃n:Nat,i=n∧n≤x.vars.l.length) (fun i:Int=>x.vars.l.length-i.toNat) ⟨0,rfl,Nat.zero_le _⟩ ?_
 rintro i ⟨n,rfl,hn⟩;unfold b9.aA;rw[aH];refine⟨fun h=>?_,fun _=>(af _).2 ?_⟩
 ·have hlt:n<x.vars.l.length:=by simpa [len]using h
  rw[aP hlt,ζb];obtain⟨b',hb'⟩:=(zn x.vars.l[n].name (h4 _ (List.getElem_mem hlt))).get;obtain⟨y',hy',hyl'⟩:=j9 x.vars n (by omega)
  rw[hb',ζb,hy',ζb,xW (f:=fun z=>(fI z x.vars.l[n]).getD false) (fun z _=>lK.ok ((af _).2 trivial)) (by rw[hyl'];simp;omega),ζb,je,ζb,gR,ζb,aH]
  refine⟨fun _=>(af _).2 ((af _).2 trivial),fun _=>?_⟩
  rw[aH];refine⟨fun _=>(af _).2 ?_,fun _=>(af _).2 ((af _).2 trivial)⟩
  exact⟨⟨n+1,bR n (by omega),by omega⟩,by rw[bR n (by omega)];simp;omega⟩
 ·rw[je];exact(af _).2 trivial
def gw (n:Nat) (p:Int) (e:Event):Prop:=e.kind=1∨((e.kind=2∨e.kind=3)∧0≤e.peer∧e.peer<n∧e.peer≠p∧0≤e.message∧e.message≤199)
theorem Jc {t:Trace} (hS:Small t) (p:Int) (e:Event):Wp (dB t p e) fun b=>b=true→gw t.procs.l.length p e:=by
 have hw:IntKind.wrap .i64 ((len t.procs)-1)=(t.procs.l.length:Int)-1:=iE _ (by simp[len];omega) (by have:=hS.1;simp[len];omega)
 have j:∀b:Bool,(b=true→e.kind=2∨e.kind=3)→Wp (dB.J1 p b t e) fun b=>b=true→gw t.procs.l.length p e:=by
  intro b hb;unfold dB.J1;simp only[gR,ζb,gm,hw,aH,af];intro k;simp only[ζh,decide_eq_true_eq,Bool.not_eq_true',beq_eq_false_iff_ne,ne_eq]at k;exact .inr ⟨hb k.1,k.2.1.1.1,by omega,k.2.1.2,k.2.2.1,k.2.2.2⟩
 unfold dB;simp only[gm,ζb,aH,af];refine⟨fun h _=>.inl (by simpa using h),fun _=>⟨fun h=>j true fun _=>.inl (by simpa using h),fun _=>j _ fun h=>.inr (by simpa using h)⟩⟩
end
end Go.VE
namespace Go.VE
def iF (t:Trace) (p k:Nat) (e:Event):Prop:=∃P,t.procs.l[p]? = some P∧P.events.l[k]? = some e
theorem qK {p:Int} {x:aa×Event}:∀{es:List Event} {j:Int},x∈fS p j es↔∃k:Nat,es[k]? = some x.2∧x.1=⟨p,j+k+1⟩
 | [],j=>by simp[fS]
 | e::es,j=>by
  simp only[fS,List.mem_cons,qK (es:=es)];constructor
  ·rintro (rfl|⟨k,h1,h2⟩)
   ·exact⟨0,rfl,by simp⟩
   ·exact⟨k+1,by simpa using h1,by rw[h2];congr 1;push_cast;omega⟩
  ·rintro⟨k,h1,h2⟩
   cases k with
   | zero=>
    simp at h1;exact .inl (by obtain⟨a,b⟩:=x;simp only at h1 h2;rw[h1,h2];simp)
   | succ k=>exact .inr ⟨k,by simpa using h1,by rw[h2];congr 1;push_cast;omega⟩
theorem ru {x:aa×Event}:∀{ps:List bl} {i:Int},x∈dQ i ps↔∃(a k:Nat) (P:bl),ps[a]? = some P∧P.events.l[k]? = some x.2∧x.1=⟨i+a,k+1⟩
 | [],i=>by simp[dQ]
 | p::ps,i=>by
  simp only[dQ,List.mem_append,qK,ru (ps:=ps)];constructor
  ·rintro (⟨k,h1,h2⟩|⟨a,k,P,h1,h2,h3⟩)
   ·exact⟨0,k,p,rfl,h1,by rw[h2];simp⟩
   ·exact⟨a+1,k,P,by simpa using h1,h2,by rw[h3];congr 1;push_cast;omega⟩
  ·rintro⟨a,k,P,h1,h2,h3⟩
   cases a with
   | zero=>
    simp at h1;subst h1;exact .inl ⟨k,h2,by rw[h3];simp⟩
   | succ a=>exact .inr ⟨a,k,P,by simpa using h1,h2,by rw[h3];congr 1;push_cast;omega⟩
abbrev aO (t:Trace):List (aa×Event):=dQ 0 t.procs.l
theorem cm {t:Trace} {x:aa×Event}:x∈aO t↔∃p k:Nat,iF t p k x.2∧x.1=⟨p,k+1⟩:=by
 unfold aO;rw[ru];constructor
 ·rintro⟨a,k,P,h1,h2,h3⟩;exact⟨a,k,⟨P,h1,h2⟩,by rw[h3];simp⟩
 ·rintro⟨a,k,⟨P,h1,h2⟩,h3⟩;exact⟨a,k,P,h1,h2,by rw[h3];simp⟩
theorem vg {t:Trace} {x y:aa×Event} (hx:x∈aO t) (hy:y∈aO t) (h:x.1=y.1):x=y:=by
 obtain⟨p,k,⟨P,hP,hk⟩,e1⟩:=cm.1 hx;obtain⟨q,j,⟨Q,hQ,hj⟩,e2⟩:=cm.1 hy;obtain⟨a,e⟩:=x;obtain⟨b,f⟩:=y;simp only at *;subst h;rw[e1]at e2;simp only[aa.mk.injEq]at e2;have hpq:p=q:=by omega
 have hkj:k=j:=by omega
 subst hpq hkj;rw[hP]at hQ;cases hQ;rw[hk]at hj;cases hj;rfl
theorem o_ {t:Trace} (hS:Small t):gB t=some (aO t):=by
 unfold gB;rw[if_pos];simp only[Cr,ζh,List.all_eq_true,decide_eq_true_eq];exact⟨by have:=hS.1;omega,fun p hp=>by have:=(hS.2 p hp).1;omega⟩
theorem Oi {t:Trace} (hS:Small t) {p k:Nat} {e:Event} (h:iF t p k e):Wp (bE t ⟨p,k+1⟩ e) fun r=>r=0→gw t.procs.l.length p e:=by
 obtain⟨P,hP,hk⟩:=h;have hPm:P∈t.procs.l:=List.mem_of_getElem? hP;obtain⟨h1,h2,h3,h4,h5⟩:=hS.2 P hPm;have hkl:k<P.events.l.length:=(ζe.1 hk).1;have hem:e∈P.events.l:=List.mem_of_getElem? hk;have j:∀last:Int,Wp (bE.J1 last t ⟨p,k+1⟩ e P) fun r=>r=0→gw t.procs.l.length p e:=by
  intro last;unfold bE.J1;rw[bt];refine(Jc hS p e).mono fun b hb=>?_
  rw[aH];refine⟨fun hbt=>?_,fun _=>(af _).2 fun h=>by cases h⟩
  have hf:=hb hbt;simp only[gR,ζb,je];refine Wp.mono (P:=fun _=>True) ?_ fun _ _ _=>hf
  rw[aH];refine⟨fun _=>(af _).2 trivial,fun _=>?_⟩
  rw[aH];refine⟨fun _=>(af _).2 trivial,fun _=>?_⟩
  unfold bE.W2;refine cO (fun i:Int=>∃n:Nat,i=n∧n≤e.assign.l.length) (fun i:Int=>e.assign.l.length-i.toNat) ⟨0,rfl,Nat.zero_le _⟩ ?_
  rintro i ⟨n,rfl,hn⟩;have hal:=h5 e hem;unfold bE.bu;rw[aH];refine⟨fun h=>?_,fun _=>(af _).2 ((af _).2 trivial)⟩
  have hlt:n<e.assign.l.length:=by simpa [len]using h
  obtain⟨y',hy',hyl'⟩:=j9 e.assign n (by omega)
  rw[aP hlt,ζb];simp only[gR,ζb,je];rw[hy',ζb,uF (f:=fun z=>(gl z e.assign.l[n]).getD false) (fun z _=>lK.ok ((af _).2 trivial)) (by rw[hyl'];simp;omega),ζb,aH]
  refine⟨fun _=>(af _).2 ((af _).2 trivial),fun _=>?_⟩
  rw[af];split
  ·exact(af _).2 trivial
  ·exact⟨⟨n+1,bR n (by omega),by omega⟩,by rw[bR n (by omega)];simp;omega⟩
 unfold bE;rw[show idx t.procs ((⟨(p:Int),(k:Int)+1⟩:aa).proc)=some P from by rw[kX,hP],ζb,aH]
 refine⟨fun h=>?_,fun _=>j 0⟩
 have hk1:1≤k:=by
  have:(k:Int)+1>1:=by simpa using h
  omega
 have hw:IntKind.wrap .i64 ((⟨(p:Int),(k:Int)+1⟩:aa).index-2)=((k-1:Nat):Int):=by
  show IntKind.wrap .i64 ((k:Int)+1-2)=_;rw[iE _ (by omega) (by omega)];omega
 rw[hw,aP (by omega:k-1<P.events.l.length),ζb]
 exact j _
def pL (t:Trace) (p m to:Int):Bool:=match t.procs.l[p.toNat]? with
 | some P=>P.events.l.any fun e=>e.kind==2&&e.message==m&&e.peer==to
 | none=>false
theorem Jz {t:Trace} (hS:Small t) {p:Int} (h0:0≤p) (h1:p<t.procs.l.length) (m to:Int):qI t p m to=some (pL t p m to):=by
 unfold qI;have hlt:p.toNat<t.procs.l.length:=by omega
 have hP:=List.getElem_mem hlt;rw[K_ h0,ζd hlt,ζb,vE (f:=fun e=>e.kind==2&&e.message==m&&e.peer==to) (fun e _=>by
  unfold nj;simp only[gm,ζb]) (hS.2 _ hP).1,ζb]
 unfold pL;rw[ζd hlt]
theorem vr {t:Trace} {p:Nat} {m to:Int}:pL t p m to=true↔∃k e,iF t p k e∧e.kind=2∧e.message=m∧e.peer=to:=by
 unfold pL iF;rw[show ((p:Nat):Int).toNat=p from rfl]
 cases hP:t.procs.l[p]? with
 | none=>simp
 | some P=>
  simp only[List.any_eq_true,ζh,beq_iff_eq,ζa,exists_eq_left'];constructor
  ·rintro⟨e,he,h⟩;obtain⟨k,hk⟩:=List.getElem?_of_mem he;exact⟨k,e,hk,h.1.1,h.1.2,h.2⟩
  ·rintro⟨k,e,hk,h1,h2,h3⟩;exact⟨e,List.mem_of_getElem? hk,⟨h1,h2⟩,h3⟩
def ag (A:bK 200 aK) (m:Int):aK:=(A.at m).getD default
theorem Gv (A:bK 200 aK) {m:Int} (h0:0≤m) (h1:m≤199):A.at m=some (ag A m):=by
 have:m.toNat<A.l.length:=by rw[A.len];omega
 unfold ag bK.at;rw[if_pos h0,ζd this];rfl
theorem nV (A:bK 200 aK) {m m':Int} (x:aK) (h0:0≤m) (h1:m≤199) (h2:0≤m'):ag (A.set m x) m'=if m'=m then x else ag A m':=by
 have:m.toNat<A.l.length:=by rw[A.len];omega
 unfold ag bK.at bK.set;simp only[if_pos h2];rw[List.getElem?_set]
 by_cases e:m'=m
 ·subst e;simp[this]
 ·rw[if_neg (by omega),if_neg e]
theorem Ix {m:Int} (h0:0≤m) (h1:m≤199):ag (bK.Hu 200 (⟨⟨0,0⟩,⟨0,0⟩⟩:aK)) m=⟨⟨0,0⟩,⟨0,0⟩⟩:=by
 unfold ag bK.at bK.Hu;simp only[if_pos h0];rw[List.getElem?_replicate,if_pos (by omega)];rfl
structure eH (t:Trace) (its:List (aa×Event)) (A:bK 200 aK):Prop where
 snd:∀x∈its,x.2.kind=2→(ag A x.2.message).from_=x.1
 rcv:∀x∈its,x.2.kind=3→(ag A x.2.message).to_=x.1∧pL t x.2.peer x.2.message x.1.proc=true
 fr:∀m,0≤m→m≤199→(ag A m).from_.index=0∨∃e,((ag A m).from_,e)∈its∧e.kind=2∧e.message=m
 to:∀m,0≤m→m≤199→(ag A m).to_.index=0∨∃e,((ag A m).to_,e)∈its∧e.kind=3∧e.message=m
def FN (a b:aa×Event):Prop:=a.1.proc<b.1.proc∨a.1.proc=b.1.proc∧a.1.index<b.1.index
theorem I_ {p:Int}:∀{es:List Event} {j:Int},(fS p j es).Pairwise FN
 | [],_=>List.Pairwise.nil
 | e::es,j=>by
  simp only[fS,List.pairwise_cons];refine⟨fun b hb=>?_,I_⟩
  obtain⟨k,_,h2⟩:=qK.1 hb;refine .inr ⟨by rw[h2],?_⟩
  rw[h2];dsimp only;omega
theorem Di:∀{ps:List bl} {i:Int},(dQ i ps).Pairwise FN
 | [],_=>List.Pairwise.nil
 | P::ps,i=>by
  simp only[dQ,List.pairwise_append];refine⟨I_,Di,fun a ha b hb=>.inl ?_⟩
  obtain⟨k,_,h2⟩:=qK.1 ha;obtain⟨c,j,P,_,_,h3⟩:=ru.1 hb;rw[h2,h3];dsimp only;omega
theorem Dz {t:Trace} {k:Nat} {x y:aa×Event} (hx:(aO t)[k]? = some x) (hy:y∈(aO t).take k):y.1≠x.1:=by
 obtain⟨h1,h2⟩:=ζe.1 hx;have hp:((aO t).take k++(aO t).drop k).Pairwise FN:=by rw[List.take_append_drop];exact Di
 have:=(List.pairwise_append.1 hp).2.2 y hy x (by rw[List.drop_eq_getElem_cons h1,h2];exact List.mem_cons_self ..)
 intro e;unfold FN at this;rw[e]at this;omega
structure uC (t:Trace):Prop where
 snd:∀x∈aO t,∀y∈aO t,x.2.kind=2→y.2.kind=2→x.2.message=y.2.message→x.1=y.1
 rcv:∀x∈aO t,∀y∈aO t,x.2.kind=3→y.2.kind=3→x.2.message=y.2.message→x.1=y.1
 has:∀x∈aO t,x.2.kind=3→pL t x.2.peer x.2.message x.1.proc=true
theorem eH.wO {t:Trace} {A:bK 200 aK} (h:eH t (aO t) A):uC t:=
 ⟨fun x hx y hy k2 k2' hm=>by rw[←h.snd x hx k2,←h.snd y hy k2',hm],fun x hx y hy k2 k2' hm=>by rw[←(h.rcv x hx k2).1,←(h.rcv y hy k2').1,hm],fun x hx k=>(h.rcv x hx k).2⟩
theorem Ae {t:Trace} (hS:Small t) (hF:∀x∈aO t,gw t.procs.l.length x.1.proc x.2):Wp (di t) fun r=>(r.2.2=0→∃A,r.1=some A∧eH t (aO t) A)∧(uC t→r.2.2=0):=by
 unfold di gu;rw[ζb];unfold di.E1;rw[o_ hS,ζb];refine um (fun k A=>eH t ((aO t).take k) A) ⟨by simp,by simp,fun m h0 h1=>.inl (by rw[Ix h0 h1]),fun m h0 h1=>.inl (by rw[Ix h0 h1])⟩ ?_ ?_
 ·intro k x A hx hI;have hxm:x∈aO t:=List.mem_of_getElem? hx;have hkl:k<(aO t).length:=(ζe.1 hx).1;have htk:(aO t).take (k+1)=(aO t).take k++[x]:=by rw[List.take_add_one,hx];rfl
  obtain⟨p,j,hat,hid⟩:=cm.1 hxm;have hxi:x.1.index>0:=by rw[hid];show (j:Int)+1>0;omega
  have hf:=hF x hxm;unfold di.ny;rw[aH];constructor
  ·intro hk;have hk2:x.2.kind=2:=by simpa using hk
   have hm:0≤x.2.message∧x.2.message≤199:=by
    rcases hf with h|⟨_,_,_,_,h⟩
    ·omega
    ·exact h
   rw[Gv A hm.1 hm.2,ζb,aH];refine⟨fun hg=>(af _).2 ((af _).2 ⟨fun h=>(by cases h),fun hp=>?_⟩),fun h0=>?_⟩
   ·rcases hI.fr _ hm.1 hm.2 with hg'|⟨e,he,hk',hm'⟩
    ·simp[hg']at hg
    ·exact absurd (hp.snd _ (List.mem_of_mem_take he) x hxm hk' hk2 hm') (Dz hx he)
   have h0:¬(ag A x.2.message).from_.index>0:=by simpa using h0
   rw[ζb,af,htk];have old:∀y∈(aO t).take k,y.2.kind=2→y.2.message≠x.2.message:=fun y hy hy2 he=>by
    have:=hI.snd y hy hy2;rw[he]at this;rw[this]at h0;obtain⟨p',j',_,hid'⟩:=cm.1 (List.mem_of_mem_take hy);rw[hid']at h0;exact h0 (by show (j':Int)+1>0;omega)
   have nn:∀y∈(aO t).take k,y.2.kind=2∨y.2.kind=3→0≤y.2.message:=fun y hy hy2=>by
    rcases hF y (List.mem_of_mem_take hy)with h|⟨_,_,_,_,h,_⟩
    ·omega
    ·exact h
   refine⟨fun y hy hy2=>?_,fun y hy hy3=>?_,fun m m0 m1=>?_,fun m m0 m1=>?_⟩
   ·rcases List.mem_append.1 hy with hy|hy
    ·rw[nV A _ hm.1 hm.2 (nn y hy (.inl hy2)),if_neg (old y hy hy2)];exact hI.snd y hy hy2
    ·simp at hy;subst hy;rw[nV A _ hm.1 hm.2 hm.1,if_pos rfl]
   ·rcases List.mem_append.1 hy with hy|hy
    ·rw[nV A _ hm.1 hm.2 (nn y hy (.inr hy3))];have:=hI.rcv y hy hy3;split
     ·rename_i e;rw[e]at this;exact⟨this.1,by rw[e];exact this.2⟩
     ·exact this
    ·simp at hy;subst hy;omega
   ·rw[nV A _ hm.1 hm.2 m0];split
    ·rename_i e;exact .inr ⟨x.2,by simp,hk2,e.symm⟩
    ·exact(hI.fr m m0 m1).imp (fun h=>h) fun⟨e,h1,h2⟩=>⟨e,List.mem_append_left _ h1,h2⟩
   ·rw[nV A _ hm.1 hm.2 m0];have:=(hI.to m m0 m1).imp (fun h=>h) fun⟨e,h1,h2⟩=>(⟨e,List.mem_append_left [x] h1,h2⟩:∃e,((ag A m).to_,e)∈(aO t).take k++[x]∧e.kind=3∧e.message=m)
    split
    ·rename_i e;subst e;exact this
    ·exact this
  ·intro hk;have hk2:¬x.2.kind=2:=by simpa using hk
   rw[aH];constructor
   ·intro hk;have hk3:x.2.kind=3:=by simpa using hk
    have hm:0≤x.2.message∧x.2.message≤199∧0≤x.2.peer∧x.2.peer<t.procs.l.length:=by
     rcases hf with h|⟨_,h1,h2,_,h3,h4⟩
     ·omega
     ·exact⟨h3,h4,h1,h2⟩
    rw[Gv A hm.1 hm.2.1,ζb,aH];refine⟨fun hg=>(af _).2 ((af _).2 ⟨fun h=>(by cases h),fun hp=>?_⟩),fun h0=>?_⟩
    ·rcases hI.to _ hm.1 hm.2.1 with hg'|⟨e,he,hk',hm'⟩
     ·simp[hg']at hg
     ·exact absurd (hp.rcv _ (List.mem_of_mem_take he) x hxm hk' hk3 hm') (Dz hx he)
    have h0:¬(ag A x.2.message).to_.index>0:=by simpa using h0
    rw[Jz hS hm.2.2.1 hm.2.2.2,ζb,aH];refine⟨fun hs=>?_,fun hs=>(af _).2 ((af _).2 ⟨fun h=>(by cases h),fun hp=>by rw[hp.has x hxm hk3]at hs;cases hs⟩)⟩
    rw[ζb,af,htk];have old:∀y∈(aO t).take k,y.2.kind=3→y.2.message≠x.2.message:=fun y hy hy2 he=>by
     have:=(hI.rcv y hy hy2).1;rw[he]at this;rw[this]at h0;obtain⟨p',j',_,hid'⟩:=cm.1 (List.mem_of_mem_take hy);rw[hid']at h0;exact h0 (by show (j':Int)+1>0;omega)
    have nn:∀y∈(aO t).take k,y.2.kind=2∨y.2.kind=3→0≤y.2.message:=fun y hy hy2=>by
     rcases hF y (List.mem_of_mem_take hy)with h|⟨_,_,_,_,h,_⟩
     ·omega
     ·exact h
    refine⟨fun y hy hy2=>?_,fun y hy hy3=>?_,fun m m0 m1=>?_,fun m m0 m1=>?_⟩
    ·rcases List.mem_append.1 hy with hy|hy
     ·rw[nV A _ hm.1 hm.2.1 (nn y hy (.inl hy2))];have:=hI.snd y hy hy2;split
      ·rename_i e;rw[e]at this;exact this
      ·exact this
     ·simp at hy;subst hy;omega
    ·rcases List.mem_append.1 hy with hy|hy
     ·rw[nV A _ hm.1 hm.2.1 (nn y hy (.inr hy3)),if_neg (old y hy hy3)];exact hI.rcv y hy hy3
     ·simp at hy;subst hy;rw[nV A _ hm.1 hm.2.1 hm.1,if_pos rfl];exact⟨rfl,hs⟩
    ·rw[nV A _ hm.1 hm.2.1 m0];have:=(hI.fr m m0 m1).imp (fun h=>h) fun⟨e,h1,h2⟩=>(⟨e,List.mem_append_left [x] h1,h2⟩:∃e,((ag A m).from_,e)∈(aO t).take k++[x]∧e.kind=2∧e.message=m)
     split
     ·rename_i e;subst e;exact this
     ·exact this
    ·rw[nV A _ hm.1 hm.2.1 m0];split
     ·rename_i e;exact .inr ⟨x.2,by simp,hk3,e.symm⟩
     ·exact(hI.to m m0 m1).imp (fun h=>h) fun⟨e,h1,h2⟩=>⟨e,List.mem_append_left _ h1,h2⟩
   ·intro hk;have hk3:¬x.2.kind=3:=by simpa using hk
    rw[af,htk];refine⟨fun y hy hy2=>?_,fun y hy hy3=>?_,fun m m0 m1=>?_,fun m m0 m1=>?_⟩
    ·rcases List.mem_append.1 hy with hy|hy
     ·exact hI.snd y hy hy2
     ·simp at hy;subst hy;exact absurd hy2 hk2
    ·rcases List.mem_append.1 hy with hy|hy
     ·exact hI.rcv y hy hy3
     ·simp at hy;subst hy;exact absurd hy3 hk3
    ·exact(hI.fr m m0 m1).imp (fun h=>h) fun⟨e,h1,h2⟩=>⟨e,List.mem_append_left _ h1,h2⟩
    ·exact(hI.to m m0 m1).imp (fun h=>h) fun⟨e,h1,h2⟩=>⟨e,List.mem_append_left _ h1,h2⟩
 ·intro A hA;rw[List.take_length]at hA;exact(af _).2 ⟨fun _=>⟨A,rfl,hA⟩,fun _=>rfl⟩
end Go.VE
namespace Go.VE
def fN (f:Nat→Bool) (k n:Nat):Bool:=(List.range' k (n-k)).any f
theorem BK {f:Nat→Bool} {k n:Nat} (h:k<n):fN f k n=(f k||fN f (k+1) n):=by
 unfold fN;rw[show n-k=(n-(k+1))+1 from by omega,List.range'_succ];rfl
theorem KS {f:Nat→Bool} {k n:Nat} (h:n≤k):fN f k n=false:=by
 unfold fN;rw[show n-k=0 from by omega];rfl
theorem yU {f:Nat→Bool} {k n:Nat}:fN f k n=true↔∃i,k≤i∧i<n∧f i=true:=by
 unfold fN;rw[List.any_eq_true];constructor
 ·rintro⟨i,hi,hf⟩;rw[List.mem_range'_1]at hi;exact⟨i,hi.1,by omega,hf⟩
 ·rintro⟨i,h1,h2,hf⟩;exact⟨i,by rw[List.mem_range'_1];omega,hf⟩
theorem Sh {f g:Nat→Bool} {k n:Nat} (h:∀i,k≤i→i<n→f i=g i):fN f k n=fN g k n:=by
 rw[Bool.eq_iff_iff,yU,yU];constructor <;> rintro⟨i,h1,h2,h3⟩ <;> exact⟨i,h1,h2,by rw[←h3,h i h1 h2]⟩
theorem AF {step:Int→Option (Fw Int Unit Unit)} {n:Nat} (f:Nat→Bool) (hn:n<9223372036854775807) (h1:∀i:Nat,i<n→step i=some (if f i then .r ()else .n (IntKind.wrap .i64 ((i:Int)+1)))) (h2:step (n:Int)=some (.x ())) :
 ∀m k:Nat,k+m=n→aX step (k:Int)=some (if fN f k n then .r ()else .x ()):=by
 intro m
 induction m with
 | zero=>
  intro k hk;have:k=n:=by omega
  subst this;rw[gE,h2,KS (Nat.le_refl _)];rfl
 | succ m ih=>
  intro k hk;rw[gE,h1 k (by omega),BK (by omega)]
  cases hf:f k with
  | true=>rfl
  | false=>
   simp only[Bool.false_eq_true,if_false,ζb,Bool.false_or];rw[bR k (by omega)]
   exact ih (k+1) (by omega)
def jM (g:Nat→Int) (k n:Nat):Int:=match (List.range' k (n-k)).find? fun i => !(g i==0)with
 | some i=>g i
 | none=>0
theorem tF {g:Nat→Int} {k n:Nat} (h:k<n):jM g k n=if g k=0 then jM g (k+1) n else g k:=by
 unfold jM;rw[show n-k=(n-(k+1))+1 from by omega,List.range'_succ,List.find?_cons]
 by_cases h0:g k=0
 ·simp[h0]
 ·rw[if_neg h0,show (!(g k==0))=true from by simp[h0]]
theorem vk {g:Nat→Int} {k n:Nat} (h:n≤k):jM g k n=0:=by
 unfold jM;rw[show n-k=0 from by omega];rfl
theorem SQ {g:Nat→Int} {n:Nat}:∀{m k:Nat},k+m=n→(jM g k n=0↔∀i,k≤i→i<n→g i=0):=by
 intro m
 induction m with
 | zero=>intro k hk;rw[vk (by omega)];exact⟨fun _ i h1 h2=>by omega,fun _=>rfl⟩
 | succ m ih=>
  intro k hk;rw[tF (by omega)]
  split
  ·rename_i h0;rw[ih (show k+1+m=n by omega)]
   constructor
   ·intro h i h1 h2
    by_cases e:i=k
    ·subst e;exact h0
    ·exact h i (by omega) h2
   ·intro h i h1 h2;exact h i (by omega) h2
  ·rename_i h0;exact⟨fun h=>absurd h h0,fun h=>absurd (h k (Nat.le_refl _) (by omega)) h0⟩
theorem RI {g g':Nat→Int} {n:Nat} (h:∀i,i<n→g i=g' i):∀{m k:Nat},k+m=n→jM g k n=jM g' k n:=by
 intro m
 induction m with
 | zero=>intro k hk;rw[vk (by omega),vk (by omega)]
 | succ m ih=>intro k hk;rw[tF (g:=g) (by omega),tF (g:=g') (by omega),h k (by omega),ih (show k+1+m=n by omega)]
theorem NP {step:Int→Option (Fw Int Unit Int)} {n:Nat} (g:Nat→Int) (hn:n<9223372036854775807) (h1:∀i:Nat,i<n→step i=some (if g i=0 then .n (IntKind.wrap .i64 ((i:Int)+1))else .r (g i))) (h2:step (n:Int)=some (.x ())) :
 ∀m k:Nat,k+m=n→aX step (k:Int)=some (if jM g k n=0 then .x ()else .r (jM g k n)):=by
 intro m
 induction m with
 | zero=>
  intro k hk;have:k=n:=by omega
  subst this;rw[gE,h2,vk (Nat.le_refl _)];rfl
 | succ m ih=>
  intro k hk;rw[gE,h1 k (by omega),tF (by omega)]
  by_cases h0:g k=0
  ·simp only[h0,if_true,ζb];rw[bR k (by omega)]
   exact ih (k+1) (by omega)
  ·simp only[h0,if_false,ζb]
theorem vl {step:Int→Option (Fw Int Unit Int)} {n:Nat} (g:Nat→Int) (hn:n<9223372036854775807) (h1:∀i:Nat,i<n→step i=some (if g i=0 then .n (IntKind.wrap .i64 ((i:Int)+1))else .r (g i))) (h2:step (n:Int)=some (.x ())):aX step 0=some (if jM g 0 n=0 then .x ()else .r (jM g 0 n)):=NP g hn h1 h2 n 0 (by omega)
theorem zb {step:Int→Option (Fw Int Unit Unit)} {n:Nat} (f:Nat→Bool) (hn:n<9223372036854775807) (h1:∀i:Nat,i<n→step i=some (if f i then .r ()else .n (IntKind.wrap .i64 ((i:Int)+1)))) (h2:step (n:Int)=some (.x ())):aX step 0=some (if fN f 0 n then .r ()else .x ()):=AF f hn h1 h2 n 0 (by omega)
def tU (c:Int):Bool:=decide (c≥65)&&decide (c≤90)||decide (c≥97)&&decide (c≤122)
def yV (c:Int):Bool:=decide (c≥48)&&decide (c≤57)
theorem Ar (c:Int):iO c=some (tU c):=by
 unfold iO tU;simp only[gm,gV,ζb];rw[Bool.or_comm]
theorem zk (c:Int):lH c=some (tU c):=by
 unfold lH tU;simp only[gm,gV,ζb]
theorem Ia (c:Int):lQ c=some (yV c):=by
 unfold lQ yV;simp only[gm,ζb]
theorem Je (c:Int):o7 c=some (yV c):=by
 unfold o7 yV;simp only[gm,ζb]
def tq (s:ByteArray) (i:Nat):Int:=(iq s (i:Int)).getD 0
theorem zO {s:ByteArray} {i:Nat} (h:i<s.size):iq s (i:Int)=some (tq s i):=by
 obtain⟨x,hx⟩:=vz h;unfold tq;rw[hx];rfl
def pN (s:ByteArray) (i:Nat):Bool := !tU (tq s i) && !yV (tq s i) && !(tq s i==95)
def jo (s:ByteArray):Bool:=decide (1≤s.size)&&decide (s.size≤16)&&tU (tq s 0) && !fN (pN s) 0 s.size
theorem Gr {s:ByteArray} {i:Nat} (h:i<s.size):dh.aA s (s.size:Int) i=some (if pN s i then .r ()else .n (IntKind.wrap .i64 ((i:Int)+1))):=by
 unfold dh.aA pN;rw[show decide ((i:Int)<(s.size:Int))=true from by simpa using h,a_,zO h]
 simp only[ζb,Ar,Ia];cases tU (tq s i) <;> cases yV (tq s i) <;> cases (tq s i==95) <;> rfl
theorem GA {s:ByteArray} {i:Nat} (h:i<s.size):fh.aA s i=some (if pN s i then .r ()else .n (IntKind.wrap .i64 ((i:Int)+1))):=by
 unfold fh.aA pN;rw[show decide ((i:Int)<((ByteArray.size s:Nat):Int))=true from by simpa using h,a_,zO h]
 simp only[ζb,zk,Je];cases tU (tq s i) <;> cases yV (tq s i) <;> cases (tq s i==95) <;> rfl
theorem toList_empty {s:ByteArray}:(ByteArray.toList s==ByteArray.toList ByteArray.empty)=decide (s.size=0):=by
 rw[Bool.eq_iff_iff,beq_iff_eq,decide_eq_true_eq];constructor
 ·intro h;have h1:(ByteArray.toList s).length=s.size:=by rw[Go.ByteArray.toList_eq];simp
  rw[←h1,h];rw[Go.ByteArray.toList_eq];rfl
 ·intro h;have:s=ByteArray.empty:=by
   apply ByteArray.ext;exact Array.eq_empty_of_size_eq_zero h
  rw[this]
theorem Bu {s:ByteArray} (hs:s.size<1073741824):dh s=some (jo s):=by
 unfold dh;rw[toList_empty];simp only[gV,ζb]
 by_cases h0:s.size=0
 ·simp[h0,jo,au]
 by_cases h16:s.size≤16
 ·have hc:(decide (s.size=0)||decide (((ByteArray.size s:Nat):Int)>16))=false:=by simp[h0];omega
  rw[hc,bF,show (0:Int)=((0:Nat):Int)from rfl,zO (show 0<s.size by omega)]
  simp only[ζb,Ar]
  cases hl:tU (tq s 0)with
  | false=>simp[jo,hl,au]
  | true=>
   simp only[Bool.not_true,bF];unfold dh.W1;rw[AF (n:=s.size) (pN s) (by omega) (fun i hi=>Gr hi) (by unfold dh.aA;simp[au]) s.size 0 (by omega)]
   have:jo s = !fN (pN s) 0 s.size:=by simp[jo,hl,h16];omega
   rw[this];cases fN (pN s) 0 s.size <;> rfl
 ·have hc:(decide (s.size=0)||decide (((ByteArray.size s:Nat):Int)>16))=true:=by simp;omega
  rw[hc,a_];simp[jo,h16,au]
theorem CI {s:ByteArray} (hs:s.size<1073741824):fh s=some (jo s):=by
 unfold fh;simp only[gV,ζb]
 by_cases h0:s.size=0
 ·simp[h0,jo,au]
 by_cases h16:s.size≤16
 ·have hc:(decide (((ByteArray.size s:Nat):Int)<1)||decide (((ByteArray.size s:Nat):Int)>16))=false:=by simp;omega
  rw[hc,bF,show (0:Int)=((0:Nat):Int)from rfl,zO (show 0<s.size by omega)]
  simp only[ζb,zk]
  cases hl:tU (tq s 0)with
  | false=>simp[jo,hl,au]
  | true=>
   simp only[Bool.not_true,bF];unfold fh.W1;rw[show (1:Int)=((1:Nat):Int)from rfl,AF (n:=s.size) (pN s) (by omega) (fun i hi=>GA hi) (by unfold fh.aA;simp[au]) (s.size-1) 1 (by omega)]
   have hb0:pN s 0=false:=by simp[pN,hl]
   have:jo s = !fN (pN s) 1 s.size:=by
    have h1:=BK (f:=pN s) (show 0<s.size by omega)
    rw[hb0]at h1;simp[jo,hl,h16,h1];omega
   rw[this];cases fN (pN s) 1 s.size <;> rfl
 ·have hc:(decide (((ByteArray.size s:Nat):Int)<1)||decide (((ByteArray.size s:Nat):Int)>16))=true:=by simp;omega
  rw[hc,a_];simp[jo,h16,au]
end Go.VE
namespace Go.VE
def fO {α:Type} (l:List α) (f:α→Bool) (i:Nat):Bool:=match l[i]? with|some y=>f y|none=>false
theorem wL {α:Type} {l:List α} {f:α→Bool} {i:Nat} (h:i<l.length):fO l f i=f l[i]:=by unfold fO;rw[ζd h]
theorem y_ {α:Type} {l:List α} {f:α→Bool} {p:Nat}:(l.take p).any f=fN (fO l f) 0 p:=by
 rw[Bool.eq_iff_iff,List.any_eq_true,yU];constructor
 ·rintro⟨x,hx,hf⟩;obtain⟨i,hi⟩:=List.getElem?_of_mem hx;have hl:=(ζe.1 hi).1;rw[List.length_take]at hl;rw[List.getElem?_take,if_pos (by omega)]at hi
  exact⟨i,Nat.zero_le _,by omega,by unfold fO;rw[hi];exact hf⟩
 ·rintro⟨i,_,hi,hf⟩;unfold fO at hf;split at hf
  ·rename_i y hy;exact⟨y,List.mem_of_getElem? (i:=i) (by rw[List.getElem?_take,if_pos hi];exact hy),hf⟩
  ·cases hf
def oH (a b:ByteArray):Bool:=ByteArray.toList a==ByteArray.toList b
def Pp:Bool→Bool→Bool→Int
 | true,false,true=>0
 | true,false,false=>2
 | _,_,_=>13
def rm (P:bl) (i:Nat):Int:=match P.vars.l[i]? with
 | some v=>Pp (jo v.name) (fN (fO P.vars.l fun w=>oH w.name v.name) 0 i) (decide (v.init_≥-1073741824)&&decide (v.init_≤1073741824))
 | none=>0
def o5 (t:Trace) (p:Nat):Int:=match t.procs.l[p]? with
 | some P=>if jo P.name && !fN (fO t.procs.l fun y=>oH y.name P.name) 0 p then
  (if P.vars.l.length>8 then 5 else if jM (rm P) 0 P.vars.l.length=0 then(if P.events.l.length>64 then 5 else 0)else jM (rm P) 0 P.vars.l.length)else 13
 | none=>0
theorem BB {P:bl} {i:Nat} (h:i<P.vars.l.length):rm P i=Pp (jo P.vars.l[i].name) (fN (fO P.vars.l fun w=>oH w.name P.vars.l[i].name) 0 i) (decide (P.vars.l[i].init_≥-1073741824)&&decide (P.vars.l[i].init_≤1073741824)):=by
 unfold rm;rw[ζd h]
theorem Bf (n:Int):mR n=some (decide (n≥-1073741824)&&decide (n≤1073741824)):=by
 unfold mR;rw[gm];rfl
theorem J2 {t:Trace} (hS:Small t) {p:Nat} (hp:p<t.procs.l.length):b9 t p=some (o5 t p):=by
 have hP:=hS.2 _ (List.getElem_mem hp);have h1:=hS.1;unfold b9 o5;rw[aP hp,ζb,ζd hp];generalize hPe:t.procs.l[p]=P at *;obtain⟨hPev,hPv,hPn,hPvn,_⟩:=hP;rw[Bu hPn,ζb];obtain⟨x,hx,hxl⟩:=j9 t.procs p (by omega)
 have hdup:fM x (fun z=>fF z P)=some (fN (fO t.procs.l fun y=>oH y.name P.name) 0 p):=by
  rw[wN (p:=fun z=>fF z P) (f:=fun y=>oH y.name P.name) (fun y _=>rfl) (by rw[hxl,List.length_take];omega),hxl,y_]
 rw[hx,ζb,hdup,ζb];dsimp only
 cases hn:jo P.name with
 | false=>simp[au]
 | true=>
  rw[a_,ζb,Bool.true_and]
  cases hd:fN (fO t.procs.l fun y=>oH y.name P.name) 0 p with
  | true=>simp[au]
  | false=>
   rw[bF];simp only[Bool.not_false,if_true]
   by_cases h8:P.vars.l.length>8
   ·rw[show decide (len P.vars>8)=true from by simp[len];omega,a_,if_pos h8]
   ·rw[show decide (len P.vars>8)=false from by simp[len];omega,bF,if_neg h8]
    unfold b9.W1;rw[vl (n:=P.vars.l.length) (rm P) (by omega) (fun i hi=>?_) (by unfold b9.aA;simp[au,len])]
    ·by_cases he:jM (rm P) 0 P.vars.l.length=0
     ·rw[if_pos he,if_pos he];show au (decide (len P.events>64)) (some 5) (some 0)=_;rw[je];simp only[len,decide_eq_true_eq]
      by_cases h64:P.events.l.length>64
      ·rw[if_pos h64,if_pos (by omega)]
      ·rw[if_neg h64,if_neg (by omega)]
     ·rw[if_neg he,if_neg he];rfl
    ·unfold b9.aA;rw[BB hi,show decide ((i:Int)<len P.vars)=true from by simp[len];exact hi,a_,aP hi,ζb]
     have hv:=hPvn _ (List.getElem_mem hi);obtain⟨y,hy,hyl⟩:=j9 P.vars i (by omega)
     have hdv:fW y (fun z=>fI z P.vars.l[i])=some (fN (fO P.vars.l fun w=>oH w.name P.vars.l[i].name) 0 i):=by
      rw[xW (p:=fun z=>fI z P.vars.l[i]) (f:=fun w=>oH w.name P.vars.l[i].name) (fun w _=>rfl) (by rw[hyl,List.length_take];omega),hyl,y_]
     rw[Bu hv,ζb,hy,ζb,hdv,ζb,gR];have hr:(decide (-1073741824≤P.vars.l[i].init_)&&decide (P.vars.l[i].init_≤1073741824))=(decide (P.vars.l[i].init_≥-1073741824)&&decide (P.vars.l[i].init_≤1073741824)):=rfl;rw[hr];generalize jo P.vars.l[i].name=A;generalize fN (fO P.vars.l fun w=>oH w.name P.vars.l[i].name) 0 i=B
     generalize (decide (P.vars.l[i].init_≥-1073741824)&&decide (P.vars.l[i].init_≤1073741824))=C;cases A <;> cases B <;> cases C <;> rfl
theorem Lg {t:Trace} (hS:Small t) {p:Nat} (hp:p<t.procs.l.length):cR t p=some (o5 t p):=by
 have hP:=hS.2 _ (List.getElem_mem hp);have h1:=hS.1;unfold cR o5;rw[aP hp,ζb,ζd hp];generalize hPe:t.procs.l[p]=P at *;obtain⟨hPev,hPv,hPn,hPvn,_⟩:=hP;rw[CI hPn,ζb];dsimp only
 cases hn:jo P.name with
 | false=>simp[au]
 | true=>
  rw[a_,Bool.true_and];unfold cR.W1;rw[zb (n:=p) (fO t.procs.l fun y=>oH y.name P.name) (by omega) (fun i hi=>?_) (by unfold cR.aA;simp[au])]
  ·cases hd:fN (fO t.procs.l fun y=>oH y.name P.name) 0 p with
   | true=>rfl
   | false=>
    simp only[Bool.not_false,if_true];show au (decide (len P.vars>8)) (some 5) (cR.W2 0 P)=_
    by_cases h8:P.vars.l.length>8
    ·rw[show decide (len P.vars>8)=true from by simp[len];omega,a_,if_pos h8]
    ·rw[show decide (len P.vars>8)=false from by simp[len];omega,bF,if_neg h8]
     unfold cR.W2;rw[vl (n:=P.vars.l.length) (rm P) (by omega) (fun i hi=>?_) (by unfold cR.bu;simp[au,len])]
     ·by_cases he:jM (rm P) 0 P.vars.l.length=0
      ·rw[if_pos he,if_pos he];show au (decide (len P.events>64)) (some 5) (some 0)=_;rw[je];simp only[len,decide_eq_true_eq]
       by_cases h64:P.events.l.length>64
       ·rw[if_pos h64,if_pos (by omega)]
       ·rw[if_neg h64,if_neg (by omega)]
      ·rw[if_neg he,if_neg he];rfl
     ·unfold cR.bu;rw[BB hi,show decide ((i:Int)<len P.vars)=true from by simp[len];exact hi,a_,aP hi,ζb]
      rw[CI (hPvn _ (List.getElem_mem hi)),ζb];have h3:cR.W3 i 0 P=if fN (fO P.vars.l fun w=>oH w.name P.vars.l[i].name) 0 i then some (.r 13)else(if decide (P.vars.l[i].init_≥-1073741824)&&decide (P.vars.l[i].init_≤1073741824)then some (.n (IntKind.wrap .i64 ((i:Int)+1)))else some (.r 2)):=by
       unfold cR.W3;rw[zb (n:=i) (fO P.vars.l fun w=>oH w.name P.vars.l[i].name) (by omega) (fun j hj=>?_) (by unfold cR.dK;simp[au])]
       ·cases fN (fO P.vars.l fun w=>oH w.name P.vars.l[i].name) 0 i with
        | true=>rfl
        | false=>
         show (idx P.vars (i:Int)).bind _=_;rw[aP hi,ζb,Bf,ζb];cases (decide (P.vars.l[i].init_≥-1073741824)&&decide (P.vars.l[i].init_≤1073741824)) <;> rfl
       ·unfold cR.dK;have hjl:j<P.vars.l.length:=by omega
        rw[show decide ((j:Int)<(i:Int))=true from by simpa using hj,a_,aP hjl,ζb,aP hi,ζb,wL hjl,je];rfl
      rw[h3];generalize jo P.vars.l[i].name=A;generalize fN (fO P.vars.l fun w=>oH w.name P.vars.l[i].name) 0 i=B
      generalize (decide (P.vars.l[i].init_≥-1073741824)&&decide (P.vars.l[i].init_≤1073741824))=C;cases A <;> cases B <;> cases C <;> rfl
  ·unfold cR.aA;have hil:i<t.procs.l.length:=by omega
   rw[show decide ((i:Int)<(p:Int))=true from by simpa using hi,a_,aP hil,ζb,wL hil,je];rfl
end Go.VE
namespace Go.VE
def DY (n:Nat) (p:Int) (e:Event):Bool:=if e.kind==1 then e.peer==0&&e.message==0 else(e.kind==2||e.kind==3)&&(decide (0≤e.peer)&&decide (e.peer<n)) && !(e.peer==p)&&(decide (0≤e.message)&&decide (e.message≤199))
theorem HA {t:Trace} (hS:Small t) (p:Int) (e:Event):dB t p e=some (DY t.procs.l.length p e):=by
 have h1:=hS.1;have hw:IntKind.wrap .i64 (len t.procs-1)=len t.procs-1:=iE _ (by simp[len];omega) (by simp[len];omega)
 have hj:∀b:Bool,dB.J1 p b t e=some (b&&(decide (0≤e.peer)&&decide (e.peer<t.procs.l.length)) && !(e.peer==p)&&(decide (0≤e.message)&&decide (e.message≤199))):=by
  intro b;unfold dB.J1;simp only[gR,hw,ζb];have:decide (e.peer≤len t.procs-1)=decide (e.peer<t.procs.l.length):=by congr 1;apply propext;simp[len];omega
  rw[this];generalize (decide (0≤e.peer)&&decide (e.peer<(t.procs.l.length:Int)))=A;generalize (e.peer==p)=B;generalize (decide (0≤e.message)&&decide (e.message≤199))=C;cases b <;> cases A <;> cases B <;> cases C <;> rfl
 unfold dB DY;rw[hj,hj]
 cases h1:e.kind==1 with
 | true=>
  rw[a_];cases e.peer==0 <;> cases e.message==0 <;> rfl
 | false=>
  rw[bF];simp only[Bool.false_eq_true,if_false];cases h2:e.kind==2 <;> simp[au]
def Ax (P:bl) (k:Nat) (e:Event):Bool:=match k with|0=>false|j+1=>fO P.events.l (fun x=>decide (e.time<x.time)) j
def qH (P:bl) (k:Nat) (e:Event):Bool:=decide (e.time<0)||decide (e.time>1099511627776)||Ax P k e
def QI:Bool→Bool→Bool→Int
 | true,true,false=>0
 | true,true,true=>8
 | _,_,_=>2
def nX (P:bl) (e:Event) (i:Nat):Int:=match e.assign.l[i]? with
 | some a=>QI (decide (0≤a.var)&&decide (a.var<P.vars.l.length)) (decide (a.value≥-1073741824)&&decide (a.value≤1073741824)) (fN (fO e.assign.l fun b=>b.var==a.var) 0 i)
 | none=>0
theorem BG {P:bl} {e:Event} {i:Nat} (h:i<e.assign.l.length):nX P e i=QI (decide (0≤e.assign.l[i].var)&&decide (e.assign.l[i].var<P.vars.l.length)) (decide (e.assign.l[i].value≥-1073741824)&&decide (e.assign.l[i].value≤1073741824)) (fN (fO e.assign.l fun b=>b.var==e.assign.l[i].var) 0 i):=by
 unfold nX;rw[ζd h]
def mq (n:Nat) (P:bl) (p k:Nat) (e:Event):Int:=if DY n p e then(if qH P k e then 11 else if e.assign.l.length>8 then 5 else jM (nX P e) 0 e.assign.l.length)else 3
theorem FB {P:bl} {e:Event} (hv:P.vars.l.length<1073741824) (ha:e.assign.l.length<1073741824):bE.W2 e.assign (len e.assign) 0 e P=some (jM (nX P e) 0 e.assign.l.length):=by
 have hw:IntKind.wrap .i64 (len P.vars-1)=len P.vars-1:=iE _ (by simp[len];omega) (by simp[len];omega)
 unfold bE.W2;rw[vl (n:=e.assign.l.length) (nX P e) (by omega) (fun i hi=>?_) (by unfold bE.bu;simp[au,len])]
 ·by_cases he:jM (nX P e) 0 e.assign.l.length=0
  ·rw[if_pos he,he];rfl
  ·rw[if_neg he];rfl
 ·unfold bE.bu;obtain⟨y,hy,hyl⟩:=j9 e.assign i (by omega)
  have hdv:eV y (fun z=>gl z e.assign.l[i])=some (fN (fO e.assign.l fun b=>b.var==e.assign.l[i].var) 0 i):=by
   rw[uF (p:=fun z=>gl z e.assign.l[i]) (f:=fun b=>b.var==e.assign.l[i].var) (fun w _=>rfl) (by rw[hyl,List.length_take];omega),hyl,y_]
  rw[BG hi,show decide ((i:Int)<len e.assign)=true from by simp[len];exact hi,a_,aP hi,ζb,gR,gR,hw,hy,ζb,ζb,ζb,hdv,ζb]
  have h1:(decide (0≤e.assign.l[i].var)&&decide (e.assign.l[i].var≤len P.vars-1))=(decide (0≤e.assign.l[i].var)&&decide (e.assign.l[i].var<P.vars.l.length)):=by
   congr 2;apply propext;simp[len];omega
  have h2:(decide (-1073741824≤e.assign.l[i].value)&&decide (e.assign.l[i].value≤1073741824))=(decide (e.assign.l[i].value≥-1073741824)&&decide (e.assign.l[i].value≤1073741824)):=rfl;rw[h1,h2];generalize (decide (0≤e.assign.l[i].var)&&decide (e.assign.l[i].var<(P.vars.l.length:Int)))=A;generalize (decide (e.assign.l[i].value≥-1073741824)&&decide (e.assign.l[i].value≤1073741824))=B;generalize fN (fO e.assign.l fun b=>b.var==e.assign.l[i].var) 0 i=C
  cases A <;> cases B <;> cases C <;> rfl
theorem IG {t:Trace} (hS:Small t) {p k:Nat} {P:bl} {e:Event} (hP:t.procs.l[p]? = some P) (he:P.events.l[k]? = some e):bE t ⟨p,k+1⟩ e=some (mq t.procs.l.length P p k e):=by
 obtain⟨hp,hPe⟩:=ζe.1 hP;obtain⟨hk,hke⟩:=ζe.1 he;obtain⟨hPev,hPv,_,_,hPa⟩:=hS.2 P (hPe▸List.getElem_mem hp);have ha:=hPa e (hke▸List.getElem_mem hk);have hJ:∀last:Int,((decide (0≤e.time)&&decide (e.time≤1099511627776)) && !decide (e.time<last))=(!qH P k e) →
  bE.J1 last t ⟨p,k+1⟩ e P=some (mq t.procs.l.length P p k e):=by
  intro last hl;unfold bE.J1 mq;rw[HA hS,ζb,gR,ζb,FB hPv ha];dsimp only
  cases DY t.procs.l.length p e with
  | false=>rfl
  | true=>
   rw[a_,if_pos rfl];have:(au (decide (0≤e.time)&&decide (e.time≤1099511627776)) (some (decide (e.time<last))) (some true):Option Bool)=some (qH P k e):=by
    have h2:(!((decide (0≤e.time)&&decide (e.time≤1099511627776)) && !decide (e.time<last)))=qH P k e:=by rw[hl,Bool.not_not]
    rw[←h2];cases (decide (0≤e.time)&&decide (e.time≤1099511627776)) <;> cases decide (e.time<last) <;> rfl
   rw[this,ζb]
   cases qH P k e with
   | true=>rfl
   | false=>
    rw[bF];simp only[Bool.false_eq_true,if_false]
    by_cases h8:e.assign.l.length>8
    ·rw[show decide (len e.assign>8)=true from by simp[len];omega,a_,if_pos h8]
    ·rw[show decide (len e.assign>8)=false from by simp[len];omega,bF,if_neg h8]
 unfold bE;dsimp only;rw[show idx t.procs (p:Int)=some P from by rw[kX];exact hP,ζb]
 cases k with
 | zero=>
  rw[show decide (((0:Nat):Int)+1>1)=false from by decide,bF]
  refine hJ 0 ?_;simp only[qH,Ax,Bool.or_false];rw[Bool.eq_iff_iff];simp only[ζh,Bool.not_eq_true',decide_eq_true_eq,decide_eq_false_iff_not,Bool.or_eq_false_iff];omega
 | succ j=>
  rw[show decide ((((j+1:Nat)):Int)+1>1)=true from by simp;omega,a_]
  have hjl:j<P.events.l.length:=by omega
  have hw:IntKind.wrap .i64 ((((j+1:Nat)):Int)+1-2)=((j:Nat):Int):=by rw[iE _ (by omega) (by omega)];omega
  rw[hw,aP hjl,ζb];refine hJ _ ?_;simp only[qH,Ax,wL hjl];rw[Bool.eq_iff_iff];simp only[ζh,Bool.not_eq_true',decide_eq_true_eq,decide_eq_false_iff_not,Bool.or_eq_false_iff];omega
end Go.VE
namespace Go.VE
theorem Gy {t:Trace} {p:Nat} {P:bl} {e:Event} (hP:t.procs.l[p]? = some P) (ha:e.assign.l.length<1073741824):cQ.W2 p 0 t e=some (jM (nX P e) 0 e.assign.l.length):=by
 unfold cQ.W2;rw[vl (n:=e.assign.l.length) (nX P e) (by omega) (fun i hi=>?_) (by unfold cQ.bu;simp[au,len])]
 ·by_cases he:jM (nX P e) 0 e.assign.l.length=0
  ·rw[if_pos he,he];rfl
  ·rw[if_neg he];rfl
 ·unfold cQ.bu;have h3:cQ.W3 p i 0 t e e.assign.l[i]=if fN (fO e.assign.l fun b=>b.var==e.assign.l[i].var) 0 i then some (.r 8)else some (.n (IntKind.wrap .i64 ((i:Int)+1))):=by
   unfold cQ.W3;rw[zb (n:=i) (fO e.assign.l fun b=>b.var==e.assign.l[i].var) (by omega) (fun j hj=>?_) (by unfold cQ.dK;simp[au])]
   ·cases fN (fO e.assign.l fun b=>b.var==e.assign.l[i].var) 0 i <;> rfl
   ·unfold cQ.dK;have hjl:j<e.assign.l.length:=by omega
    rw[show decide ((j:Int)<(i:Int))=true from by simpa using hj,a_,aP hjl,ζb,wL hjl,je]
  rw[BG hi,show decide ((i:Int)<len e.assign)=true from by simp[len];exact hi,a_,aP hi,ζb,h3,Bf,ζb,show idx t.procs (p:Int)=some P from by rw[kX];exact hP,ζb]
  have h1:(au (decide (e.assign.l[i].var<0)) (some true) (some (decide (e.assign.l[i].var≥len P.vars))):Option Bool)=some (!(decide (0≤e.assign.l[i].var)&&decide (e.assign.l[i].var<P.vars.l.length))):=by
   rw[gV];congr 1;rw[Bool.eq_iff_iff];simp only[Bool.or_eq_true,Bool.not_eq_true',decide_eq_true_eq,Bool.and_eq_false_iff,decide_eq_false_iff_not,len];omega
  rw[h1,ζb];generalize (decide (0≤e.assign.l[i].var)&&decide (e.assign.l[i].var<(P.vars.l.length:Int)))=A;generalize (decide (e.assign.l[i].value≥-1073741824)&&decide (e.assign.l[i].value≤1073741824))=B;generalize fN (fO e.assign.l fun b=>b.var==e.assign.l[i].var) 0 i=C
  cases A <;> cases B <;> cases C <;> rfl
theorem Ka {t:Trace} (hS:Small t) {p k:Nat} {P:bl} {e:Event} (hP:t.procs.l[p]? = some P) (he:P.events.l[k]? = some e):cQ t p k=some (mq t.procs.l.length P p k e):=by
 obtain⟨hp,hPe⟩:=ζe.1 hP;obtain⟨hk,hke⟩:=ζe.1 he;obtain⟨hPev,hPv,_,_,hPa⟩:=hS.2 P (hPe▸List.getElem_mem hp);have ha:=hPa e (hke▸List.getElem_mem hk);have hJ:cQ.J1 p k t e=some (if qH P k e then 11 else if e.assign.l.length>8 then 5 else jM (nX P e) 0 e.assign.l.length):=by
  unfold cQ.J1;rw[gV,ζb,Gy hP ha,show idx t.procs (p:Int)=some P from by rw[kX];exact hP,ζb]
  have h1:(au (decide ((k:Int)>0)) ((idx P.events (IntKind.wrap .i64 ((k:Int)-1))).bind fun x_3=>some (decide (e.time<x_3.time))) (some false):Option Bool)=some (Ax P k e):=by
   cases k with
   | zero=>rfl
   | succ j=>
    have hjl:j<P.events.l.length:=by omega
    rw[show decide ((((j+1:Nat)):Int)>0)=true from by simp only[decide_eq_true_eq];omega,a_,show IntKind.wrap .i64 ((((j+1:Nat)):Int)-1)=((j:Nat):Int)from by rw[iE _ (by omega) (by omega)];omega,aP hjl,ζb]
    simp only[Ax,wL hjl]
  rw[h1,ζb,gV,ζb];show au (qH P k e) _ _=_
  cases qH P k e with
  | true=>rfl
  | false=>
   rw[bF];simp only[Bool.false_eq_true,if_false]
   by_cases h8:e.assign.l.length>8
   ·rw[show decide (len e.assign>8)=true from by simp[len];omega,a_,if_pos h8]
   ·rw[show decide (len e.assign>8)=false from by simp[len];omega,bF,if_neg h8]
 unfold cQ mq;rw[show idx t.procs (p:Int)=some P from by rw[kX];exact hP,ζb,show idx P.events (k:Int)=some e from by rw[kX];exact he,ζb,hJ]
 unfold DY
 cases h1:e.kind==1 with
 | true=>
  rw[a_];simp only[if_true];cases e.peer==0 <;> cases e.message==0 <;> rfl
 | false=>
  rw[bF];simp only[Bool.false_eq_true,if_false];have h2:(au (e.kind==2) (some false) (some (!(e.kind==3))):Option Bool)=some (!(e.kind==2||e.kind==3)):=by cases e.kind==2 <;> rfl
  rw[h2,ζb,gV,ζb,gV,ζb,gV,ζb,gV,ζb,gV,ζb];have h3:(((((!(e.kind==2||e.kind==3))||decide (e.peer<0))||decide (e.peer≥len t.procs))||(e.peer==p))||decide (e.message<0)||decide (e.message>199)) = !((e.kind==2||e.kind==3)&&(decide (0≤e.peer)&&decide (e.peer<t.procs.l.length)) && !(e.peer==p)&&(decide (0≤e.message)&&decide (e.message≤199))):=by
   generalize (e.kind==2||e.kind==3)=A;have a1:decide (e.peer<0) = !decide (0≤e.peer):=by rw[Bool.eq_iff_iff];simp
   have a2:decide (e.peer≥len t.procs) = !decide (e.peer<t.procs.l.length):=by rw[Bool.eq_iff_iff];simp[len]
   have a3:decide (e.message<0) = !decide (0≤e.message):=by rw[Bool.eq_iff_iff];simp
   have a4:decide (e.message>199) = !decide (e.message≤199):=by rw[Bool.eq_iff_iff];simp
   rw[a1,a2,a3,a4];generalize decide (0≤e.peer)=B;generalize decide (e.peer<(t.procs.l.length:Int))=C;generalize (e.peer==(p:Int))=D;generalize decide (0≤e.message)=F;generalize decide (e.message≤199)=G;cases A <;> cases B <;> cases C <;> cases D <;> cases F <;> cases G <;> rfl
  rw[h3];generalize ((e.kind==2||e.kind==3)&&(decide (0≤e.peer)&&decide (e.peer<(t.procs.l.length:Int))) && !(e.peer==(p:Int))&&(decide (0≤e.message)&&decide (e.message≤199)))=Z;cases Z <;> rfl
theorem FA {n:Nat} {p:Int} {e:Event} (h:DY n p e=true):gw n p e:=by
 unfold DY at h;split at h
 ·rename_i h1;left;simpa using h1
 ·right;simp only[ζh,Bool.or_eq_true,beq_iff_eq,decide_eq_true_eq,Bool.not_eq_true',beq_eq_false_iff_ne,ne_eq]at h;obtain⟨⟨⟨h1,h2⟩,h3⟩,h4⟩:=h;exact⟨h1,h2.1,h2.2,h3,h4.1,h4.2⟩
theorem CW {n:Nat} {P:bl} {p k:Nat} {e:Event} (h:mq n P p k e=0):gw n p e:=by
 unfold mq at h;split at h
 ·rename_i h1;exact FA h1
 ·cases h
end Go.VE
namespace Go.VE
theorem sr {α:Type} [DecidableEq α]:∀{l r:List α},l.Nodup→(∀x∈l,x∈r)→l.length≤r.length
 | [],_,_,_=>Nat.zero_le _
 | x::l,r,hn,hs=>by
  have hx:x∈r:=hs x (List.mem_cons_self ..);have hn':=List.nodup_cons.1 hn;have:=sr (l:=l) (r:=r.erase x) hn'.2 fun y hy=>(List.mem_erase_of_ne (by rintro rfl;exact hn'.1 hy)).2 (hs y (List.mem_cons_of_mem _ hy))
  rw[List.length_erase_of_mem hx]at this;have hp:0<r.length:=List.length_pos_of_mem hx;simp only[List.length_cons];omega
section
variable {κ:Type} [DecidableEq κ]
theorem Aq {ν:Type} {k:κ}:∀{m:Mo κ ν},k∉m.map (·.1)→qB k m=none
 | [],_=>rfl
 | (a,v)::r,h=>by
  simp only[List.map_cons,List.mem_cons,not_or]at h;unfold qB;rw[if_neg h.1];exact Aq h.2
theorem Bj {ν:Type} {k:κ}:∀{m:Mo κ ν},k∈m.map (·.1)→∃v,qB k m=some v∧(k,v)∈m
 | [],h=>by simp at h
 | (a,v)::r,h=>by
  unfold qB
  by_cases e:k=a
  ·subst e;exact⟨v,by rw[if_pos rfl],List.mem_cons_self ..⟩
  ·rw[if_neg e];obtain⟨w,h1,h2⟩:=Bj (m:=r) (by simpa [e]using h)
   exact⟨w,h1,List.mem_cons_of_mem _ h2⟩
theorem ox {ν:Type} {k:κ} {v:ν}:∀{m:Mo κ ν},k∉m.map (·.1)→oF m k v=m++[(k,v)]
 | [],_=>rfl
 | (a,w)::r,h=>by
  simp only[List.map_cons,List.mem_cons,not_or]at h;show (if k=a then _ else _)=_;rw[if_neg h.1,ox h.2];rfl
end
def Vd (t:Trace) (y:aa):Prop:=∃e,(y,e)∈aO t
theorem Vd.at_ {t:Trace} {y:aa} (h:Vd t y):∃(p k:Nat) (e:Event),iF t p k e∧y=⟨p,k+1⟩∧(y,e)∈aO t:=by
 obtain⟨e,he⟩:=h;obtain⟨p,k,h1,h2⟩:=cm.1 he;exact⟨p,k,e,h1,h2,he⟩
def C4 (t:Trace) (y z:aa):Prop:=∃e f,(y,e)∈aO t∧(z,f)∈aO t∧e.kind=2∧f.kind=3∧e.message=f.message
def Edge (t:Trace) (y z:aa):Prop:=Vd t y∧Vd t z∧(z=⟨y.proc,y.index+1⟩∨C4 t y z)
abbrev Way (t:Trace):aa→aa→Prop:=Relation.TransGen (Edge t)
def Ff (t:Trace):Prop:=∃x,Way t x x
theorem Way.l {t:Trace} {x y:aa} (h:Way t x y):Vd t x:=by
 induction h with
 | single h=>exact h.1
 | tail _ _ ih=>exact ih
theorem Way.r {t:Trace} {x y:aa} (h:Way t x y):Vd t y:=by
 cases h with
 | single h=>exact h.2.1
 | tail _ h=>exact h.2.1
theorem Lm {t:Trace} (hS:Small t) (hF:∀x∈aO t,gw t.procs.l.length x.1.proc x.2) {A:bK 200 aK} (hA:eH t (aO t) A) {y:aa} (hy:Vd t y) :
 Wp (gC t A y) fun s=>s.l.length≤2∧∀z,z∈s.l↔Edge t y z:=by
 obtain⟨p,k,e,hat,hid,hmem⟩:=hy.at_;have hat':=hat;obtain⟨P,hP,hk⟩:=hat;have hPm:P∈t.procs.l:=List.mem_of_getElem? hP;have h1:=(hS.2 P hPm).1;have hkl:k<P.events.l.length:=(ζe.1 hk).1;have hyp:y.proc=p:=by rw[hid]
 have hyi:y.index=k+1:=by rw[hid]
 have j:∀s:Sl aa,s.l.length≤1→(∀z,z∈s.l↔Vd t z∧z=⟨y.proc,y.index+1⟩)→Wp (gC.J1 A s P.events y) fun s=>s.l.length≤2∧∀z,z∈s.l↔Edge t y z:=by
  intro s hs hz;have no:¬(∃z,C4 t y z)→s.l.length≤2∧∀z,z∈s.l↔Edge t y z:=fun hn=>⟨by omega,fun z=>(hz z).trans ⟨fun h=>⟨hy,h.1,.inl h.2⟩,fun h=>⟨h.2.1,h.2.2.elim id fun h=>(hn ⟨z,h⟩).elim⟩⟩⟩
  unfold gC.J1;have hw:IntKind.wrap .i64 (y.index-1)=((k:Nat):Int):=by rw[hyi,iE _ (by omega) (by omega)];omega
  rw[hw,kX,hk,ζb,bt,aH];constructor
  ·intro hk2;have hk2:e.kind=2:=by simpa using hk2
   have hm:0≤e.message∧e.message≤199:=by
    rcases hF _ hmem with h|⟨_,_,_,_,h⟩
    ·simp only at h;omega
    ·exact h
   have to_:∀z,C4 t y z→(ag A e.message).to_=z:=fun z ⟨e',f,a1,a2,a3,a4,a5⟩=>by
    cases vg a1 hmem rfl;rw[a5];exact(hA.rcv _ a2 a4).1
   rw[Gv A hm.1 hm.2,ζb,af,aH];refine⟨fun h=>?_,fun h=>(af _).2 (no fun⟨z,hz⟩=>?_)⟩
   ·have h:(ag A e.message).to_.index>0:=by simpa using h
    rw[ζb];unfold gy;rw[if_pos (by omega),ζb,af]
    refine⟨by show (s.l++[(ag A e.message).to_]).length≤2;rw[ζi,List.length_singleton];omega,fun z=>?_⟩
    have hto:C4 t y (ag A e.message).to_:=by
     rcases hA.to e.message hm.1 hm.2 with h0|⟨e',h1,h2,h3⟩
     ·omega
     ·exact⟨e,e',hmem,h1,hk2,h2,h3.symm⟩
    show z∈s.l++[(ag A e.message).to_]↔_;rw[List.mem_append,List.mem_singleton,hz];constructor
    ·rintro (h|rfl)
     ·exact⟨hy,h.1,.inl h.2⟩
     ·exact⟨hy,let ⟨_,f,_,a2,_⟩:=hto;⟨f,a2⟩,.inr hto⟩
    ·rintro⟨_,h1,h2|h2⟩
     ·exact .inl ⟨h1,h2⟩
     ·exact .inr (to_ z h2).symm
   ·rw[to_ z hz]at h;obtain⟨_,f,_,a2,_⟩:=hz;obtain⟨q,i,_,hi⟩:=cm.1 a2;simp only at hi;rw[hi]at h;simp at h
  ·intro hk2;rw[af,aH];refine⟨fun h=>(by cases h),fun _=>(af _).2 (no fun⟨z,e',f,a1,_,a3,_⟩=>?_)⟩
   cases vg a1 hmem rfl;simp[a3]at hk2
 unfold gC;rw[hyp,kX,hP,ζb,aH];rw[hyp]at j;constructor
 ·intro h;have h:y.index<len P.events:=by simpa using h
  have hk2:k+1<P.events.l.length:=by rw[hyi]at h;simp[len]at h;omega
  refine j _ (by simp[Sl.l]) fun z=>?_
  have hw:IntKind.wrap .i64 (y.index+1)=y.index+1:=iE _ (by omega) (by omega)
  simp only[Sl.l,List.mem_singleton,hw];refine⟨fun hz=>⟨⟨P.events.l[k+1],cm.2 ⟨p,k+1,⟨P,hP,ζd hk2⟩,?_⟩⟩,hz⟩,fun hz=>hz.2⟩
  rw[hz,hyi];simp
 ·intro h;have h:¬y.index<len P.events:=by simpa using h
  refine j _ (by simp[Sl.l]) fun z=>⟨fun hz=>by simp[Sl.l]at hz,fun⟨hz,he⟩=>?_⟩
  obtain⟨q,i,f,⟨Q,hQ,hi⟩,hqi,_⟩:=hz.at_;rw[he,hyi]at hqi;simp only[aa.mk.injEq]at hqi;have:q=p:=by omega
  subst this;rw[hP]at hQ;cases hQ;have:=(ζe.1 hi).1;rw[hyi]at h;simp[len]at h;omega
structure DI (t:Trace) (x:aa) (rest:Sl aa) (m:Mo aa Bool) (U:aa→Prop):Prop where
 rst:∀y∈rest.l,y=x∨Way t x y
 keys:(m.map (·.1)).Nodup
 seen:∀y∈m,Way t x y.1∧y.1≠x∧y.2=true
 le:rest.l.length≤m.length+1
 done:∀y,y=x∨y∈m.map (·.1)→y∈rest.l∨U y∨∀z,Edge t y z→z∈m.map (·.1)
theorem DI.count {t:Trace} {x:aa} {rest:Sl aa} {m:Mo aa Bool} {U:aa→Prop} (h:DI t x rest m U):m.length≤(aO t).length:=by
 have:=sr (r:=(aO t).map (·.1)) h.keys fun x hx=>by
  obtain⟨y,hy,rfl⟩:=List.mem_map.1 hx;obtain⟨e,he⟩:=(h.seen y hy).1.r;exact List.mem_map.2 ⟨_,he,rfl⟩
 simpa using this
theorem HI {t:Trace} (hS:Small t) (hN:(aO t).length<1073741824) (hF:∀x∈aO t,gw t.procs.l.length x.1.proc x.2) {A:bK 200 aK} (hA:eH t (aO t) A):Wp (dN t A) fun r=>(r.2=true↔Ff t):=by
 unfold dN gu;rw[ζb];unfold dN.E1;rw[o_ hS,ζb];refine um (fun k _=>∀x∈(aO t).take k,¬Way t x.1 x.1) (by simp) ?_ fun _ h=>(af _).2 ⟨fun h=>(by cases h),fun⟨x,hx⟩=>?_⟩
 ·intro i x _ hx hall;have hxm:x∈aO t:=List.mem_of_getElem? hx;unfold dN.ny dN.W2;refine Wp.mono (P:=fun w=>match w with|.n s=>¬Way t x.1 x.1|.x e=>False|.r e=>Ff t) ?_ fun w hw=>by
   cases w with
   | n s=>
    intro y hy;rw[List.take_add_one,hx]at hy;rcases List.mem_append.1 hy with hy|hy
    ·exact hall y hy
    ·simp at hy;subst hy;exact hw
   | x e=>exact hw.elim
   | r b=>exact(af _).2 ⟨fun _=>hw,fun _=>rfl⟩
  refine cO (fun q:Sl aa×Mo aa Bool=>DI t x.1 q.1 q.2 fun _=>False) (fun q=>2*((aO t).length-q.2.length)+q.1.l.length) ⟨fun y hy=>.inl (by simpa [Sl.l]using hy),by simp,by simp,by simp[Sl.l],fun y hy=>.inl ?_⟩ ?_
  ·simpa [Sl.l]using hy
  rintro⟨rest,m⟩ hI;unfold dN.bu;rw[aH];refine⟨fun h=>?_,fun h=>(af _).2 ((af _).2 fun hw=>?_)⟩
  ·have hlen:0<rest.l.length:=by
    have:len rest>0:=by simpa using h
    simp[len]at this;omega
   have hc:=hI.count;have hle:=hI.le;simp only at hc hle;have hw:IntKind.wrap .i64 ((len rest)-1)=((rest.l.length-1:Nat):Int):=by
    rw[iE _ (by simp[len];omega) (by simp[len];omega)];simp[len];omega
   have hlast:rest.l.length-1<rest.l.length:=by omega
   rw[hw];have h1:Sl.mN rest ((rest.l.length-1:Nat):Int)=some (rest.l.length-1):=by
    unfold Sl.mN;rw[if_pos ⟨by omega,by simpa using hlast⟩];rfl
   have h2:Sl.get rest (rest.l.length-1)=some rest.l[rest.l.length-1]:=by unfold Sl.get;exact ζd hlast
   obtain⟨cut,h3,h4⟩:∃x,lJ rest none (some ((rest.l.length-1:Nat):Int))=some x∧x.l=rest.l.take (rest.l.length-1):=by
    cases rest with
    | nil=>simp[Sl.l]at hlen
    | emp=>simp[Sl.l]at hlen
    | row l=>
     simp only[Sl.l]at hlen ⊢;unfold lJ cD;simp only[Option.getD_none,Option.getD_some];rw[if_pos (by omega)]
     exact⟨_,rfl,by simp[Sl.l]⟩
    | part l=>
     simp only[Sl.l]at hlen ⊢;unfold lJ cD;simp only[Option.getD_none,Option.getD_some];rw[if_pos (by omega)]
     exact⟨_,rfl,by simp[Sl.l]⟩
   rw[h1,ζb,h2,ζb,h3,ζb,bt];generalize hye:rest.l[rest.l.length-1]=y;have hym:y∈rest.l:=hye▸List.getElem_mem hlast;have hsplit:∀z,z∈rest.l→z∈cut.l∨z=y:=fun z hz=>by
    have:rest.l.take (rest.l.length-1)++rest.l.drop (rest.l.length-1)=rest.l:=List.take_append_drop ..;rw[←this]at hz;rcases List.mem_append.1 hz with hz|hz
    ·exact .inl (h4▸hz)
    ·rw[List.drop_eq_getElem_cons hlast,List.drop_of_length_le (by omega)]at hz
     exact .inr (by simpa [hye]using hz)
   have hyw:y=x.1∨Way t x.1 y:=hI.rst _ hym;have hyv:Vd t y:=hyw.elim (fun e=>⟨x.2,e▸hxm⟩) Way.r
   refine(Lm hS hF hA hyv).mono fun s hs=>?_
   unfold dN.W3;refine cO (fun q:Sl aa×Int×Mo aa Bool=>∃n:Nat,q.2.1=n∧n≤s.l.length∧DI t x.1 q.1 q.2.2 (fun u=>u=y)∧(∀z∈s.l.take n,z∈q.2.2.map (·.1))∧2*((aO t).length-q.2.2.length)+q.1.l.length<2*((aO t).length-m.length)+rest.l.length) (fun q=>s.l.length-q.2.1.toNat)
    ⟨0,rfl,Nat.zero_le _,⟨fun z hz=>hI.rst z (by rw[h4]at hz;exact List.mem_of_mem_take hz),hI.keys,hI.seen,by rw[h4];simp;omega,fun u hu=>?_⟩,by simp,by rw[h4];simp;omega⟩ ?_
   ·rcases hI.done u hu with h|h|h
    ·exact(hsplit u h).imp_right .inl
    ·exact h.elim
    ·exact .inr (.inr h)
   rintro⟨rest2,i2,m2⟩ ⟨n,rfl,hn,hI2,hms,hμ⟩;simp only at hI2 hμ hms;unfold dN.dK;rw[aH];constructor
   ·intro h;have hlt:n<s.l.length:=by simpa [len]using h
    have hxe:=(hs.2 s.l[n]).1 (List.getElem_mem hlt);have hxw:Way t x.1 s.l[n]:=hyw.elim (fun e=>.single (e▸hxe)) fun h=>.tail h hxe
    rw[aP hlt,ζb,aH];refine⟨fun he=>(af _).2 ((af _).2 ((af _).2 ⟨x.1,?_⟩)),fun hne=>?_⟩
    ·have:s.l[n]=x.1:=by
      unfold E3 at he
      revert he;cases s.l[n];cases x.1;intro he;simpa using he
     rw[this]at hxw;exact hxw
    have hne:s.l[n]≠x.1:=fun e=>by rw[e]at hne;simp[E3]at hne
    have hw2:=bR n (by omega)
    have htk:s.l.take (n+1)=s.l.take n++[s.l[n]]:=by rw[List.take_add_one,ζd hlt];rfl
    rw[aH];refine⟨fun hg=>(af _).2 ⟨⟨n+1,hw2,by omega,hI2,fun z hz=>?_,hμ⟩,by show _-(IntKind.wrap .i64 ((n:Int)+1)).toNat<_;rw[hw2];simp;omega⟩,fun hno=>?_⟩
    ·rw[htk]at hz;rcases List.mem_append.1 hz with hz|hz
     ·exact hms z hz
     ·simp only[List.mem_singleton]at hz;subst hz;apply Classical.byContradiction;intro hk;unfold A1 at hg;rw[Aq hk]at hg;cases hg
    have hc2:=hI2.count;have hle2:=hI2.le;unfold gy;rw[if_pos (show rest2.l.length+1≤2147483648 from by omega),ζb,af]
    have hnew:s.l[n]∉m2.map (·.1):=fun hin=>by
     obtain⟨v,hv,hvm⟩:=Bj hin;have:=(hI2.seen _ hvm).2.2;simp only at this;subst this;unfold A1 at hno;rw[hv]at hno;cases hno
    have hmm:∀z,z∈(oF m2 s.l[n] true).map (·.1)↔z∈m2.map (·.1)∨z=s.l[n]:=fun z=>by
     rw[ox hnew,List.map_append,List.mem_append];simp
    have hS2:DI t x.1 (.row (rest2.l++[s.l[n]])) (oF m2 s.l[n] true) (fun u=>u=y):=by
     refine⟨fun y hy=>?_,?_,fun y hy=>?_,?_,fun u hu=>?_⟩
     ·simp only[Sl.l,List.mem_append,List.mem_singleton]at hy;rcases hy with hy|rfl
      ·exact hI2.rst y hy
      ·exact .inr hxw
     ·rw[ox hnew,List.map_append,List.nodup_append];refine⟨hI2.keys,by simp,fun a ha b hb=>?_⟩
      simp only[List.map_cons,List.map_nil,List.mem_singleton]at hb;subst hb;exact fun e=>hnew (e▸ha)
     ·rw[ox hnew]at hy;rcases List.mem_append.1 hy with hy|hy
      ·exact hI2.seen y hy
      ·simp only[List.mem_singleton]at hy;subst hy;exact⟨hxw,hne,rfl⟩
     ·rw[ox hnew];show (rest2.l++[s.l[n]]).length≤_;rw[ζi,ζi,List.length_singleton,List.length_singleton];omega
     ·simp only[Sl.l,List.mem_append,List.mem_singleton];have old:u=x.1∨u∈m2.map (·.1)→(u∈rest2.l∨u=s.l[n])∨u=y∨∀z,Edge t u z→z∈(oF m2 s.l[n] true).map (·.1):=fun hu=>by
       rcases hI2.done u hu with h|h|h
       ·exact .inl (.inl h)
       ·exact .inr (.inl h)
       ·exact .inr (.inr fun z hz=>(hmm z).2 (.inl (h z hz)))
      rcases hu with hu|hu
      ·exact old (.inl hu)
      ·rcases (hmm u).1 hu with hu|hu
       ·exact old (.inr hu)
       ·exact .inl (.inr hu)
    have hc3:=hS2.count;refine⟨⟨n+1,hw2,by omega,hS2,fun z hz=>?_,?_⟩,by show _-(IntKind.wrap .i64 ((n:Int)+1)).toNat<_;rw[hw2];simp;omega⟩
    ·rw[htk]at hz;rcases List.mem_append.1 hz with hz|hz
     ·exact(hmm z).2 (.inl (hms z hz))
     ·exact(hmm z).2 (.inr (by simpa using hz))
    rw[ox hnew,ζi,List.length_singleton]at hc3;show 2*((aO t).length-(oF m2 s.l[n] true).length)+(rest2.l++[s.l[n]]).length<_;rw[ox hnew,ζi,ζi,List.length_singleton,List.length_singleton];omega
   ·intro h;have hge:s.l.length≤n:=by simpa [len]using h
    rw[List.take_of_length_le hge]at hms;refine(af _).2 ((af _).2 ⟨⟨hI2.rst,hI2.keys,hI2.seen,hI2.le,fun u hu=>?_⟩,hμ⟩)
    rcases hI2.done u hu with h|h|h
    ·exact .inl h
    ·subst h;exact .inr (.inr fun z hz=>hms z ((hs.2 z).2 hz))
    ·exact .inr (.inr h)
  ·have hr0:rest.l=[]:=by
    have:¬len rest>0:=by simpa using h
    simp[len]at this;exact this
   have hd:∀y,y=x.1∨y∈m.map (·.1)→∀z,Edge t y z→z∈m.map (·.1):=fun y hy=>by
    rcases hI.done y hy with h|h|h
    ·simp only[hr0]at h;cases h
    ·exact h.elim
    ·exact h
   have key:∀z,Way t x.1 z→z∈m.map (·.1):=fun z hz=>by
    induction hz with
    | single h=>exact hd _ (.inl rfl) _ h
    | tail _ h ih=>exact hd _ (.inr ih) _ h
   obtain⟨y,hy,hyx⟩:=List.mem_map.1 (key _ hw);exact(hI.seen y hy).2.1 hyx
 ·obtain⟨e,he⟩:=hx.l;rw[List.take_length]at h;exact absurd hx (h _ he)
structure Ok (t:Trace):Prop where
 one:1≤t.procs.l.length
 few:t.procs.l.length≤8
 heads:∀p,p<t.procs.l.length→o5 t p=0
 eT:∀(p k:Nat) P e,t.procs.l[p]? = some P→P.events.l[k]? = some e→mq t.procs.l.length P p k e=0
 wO:uC t
 acyc:¬Ff t
theorem BP {t:Trace} (h:∀(p k:Nat) P e,t.procs.l[p]? = some P→P.events.l[k]? = some e→mq t.procs.l.length P p k e=0):∀x∈aO t,gw t.procs.l.length x.1.proc x.2:=fun x hx=>by
 obtain⟨p,k,⟨P,hP,he⟩,hid⟩:=cm.1 hx;rw[hid];exact CW (h p k P _ hP he)
structure VT (t:Trace):Prop where
 formed:∀x∈aO t,gw t.procs.l.length x.1.proc x.2
 msgs:∃A i,di t=some (some A,i,0)∧eH t (aO t) A
 few:t.procs.l.length≤8
 ok:Ok t
theorem Kx {t:Trace} (hS:Small t) (hN:(aO t).length<1073741824):Wp (fc t) fun r=>(r.2=0→VT t)∧(Ok t→r.2=0):=by
 unfold fc;rw[gR,ζb,aH];refine⟨fun hin=>?_,fun hin=>(af _).2 ⟨fun h=>(by cases h),fun h=>?_⟩⟩
 rotate_left
 ·have h1:=h.one;have h8:=h.few;simp only[Bool.and_eq_false_iff,decide_eq_false_iff_not,len]at hin;omega
 have h8:1≤t.procs.l.length∧t.procs.l.length≤8:=by
  simp only[ζh,decide_eq_true_eq,len]at hin;omega
 unfold fc.W1;refine cO (fun i:Int=>∃n:Nat,i=n∧n≤t.procs.l.length∧∀p,p<n→o5 t p=0) (fun i:Int=>t.procs.l.length-i.toNat) ⟨0,rfl,Nat.zero_le _,fun p hp=>absurd hp (by omega)⟩ ?_
 rintro i ⟨n,rfl,hn,hh⟩;unfold fc.aA;rw[aH];constructor
 ·intro h;have hlt:n<t.procs.l.length:=by simpa [len]using h
  rw[J2 hS hlt,ζb,aH];refine⟨fun h0=>(af _).2 ⟨⟨n+1,bR n (by omega),by omega,fun p hp=>?_⟩,by rw[bR n (by omega)];simp;omega⟩,fun h0=>(af _).2 ((af _).2 ⟨fun h=>?_,fun h=>?_⟩)⟩
  ·by_cases e:p=n
   ·subst e;simpa using h0
   ·exact hh p (by omega)
  ·simp only at h;simp[h]at h0
  ·simp[h.heads n hlt]at h0
 ·intro h;have hge:t.procs.l.length≤n:=by simpa [len]using h
  rw[af];unfold gu;rw[ζb];unfold fc.E2;rw[o_ hS,ζb];refine um (fun i _=>∀(p k:Nat) P e,t.procs.l[p]? = some P→P.events.l[k]? = some e→(⟨p,k+1⟩,e)∈(aO t).take i→mq t.procs.l.length P p k e=0) (by simp) ?_ ?_
  ·intro i x _ hx hI;have hxm:x∈aO t:=List.mem_of_getElem? hx;obtain⟨p,j,⟨P,hP,he⟩,hid⟩:=cm.1 hxm;unfold fc.EB;rw[hid,IG hS hP he,ζb,aH];refine⟨fun h0=>(af _).2 fun p' k' P' e' hP' he' hm=>?_,fun h0=>(af _).2 ((af _).2 ⟨fun h=>?_,fun h=>?_⟩)⟩
   ·rw[List.take_add_one,hx]at hm;rcases List.mem_append.1 hm with hm|hm
    ·exact hI p' k' P' e' hP' he' hm
    ·simp only[Option.toList_some,List.mem_singleton]at hm;rw[←hm]at hid he;simp only[aa.mk.injEq]at hid;have e1:p'=p:=by omega
     have e2:k'=j:=by omega
     subst e1 e2;rw[hP']at hP;cases hP;rw[←hm]at h0;simpa using h0
   ·simp only at h;simp[h]at h0
   ·simp[h.eT p j P _ hP he]at h0
  ·intro _ hI;have hI:∀(p k:Nat) P e,t.procs.l[p]? = some P→P.events.l[k]? = some e→mq t.procs.l.length P p k e=0:=fun p k P e hP he=>hI p k P e hP he (by rw[List.take_length];exact cm.2 ⟨p,k,⟨P,hP,he⟩,rfl⟩)
   have hF:=BP hI;obtain⟨r,hr,hq,hq2⟩:=Ae hS hF;rw[hr,ζb,aH];refine⟨fun h0=>?_,fun h0=>(af _).2 ⟨fun h=>?_,fun h=>hq2 h.wO⟩⟩
   ·have h0:r.2.2=0:=by simpa using h0
    obtain⟨A,hA,hM⟩:=hq h0;rw[hA,ζb];obtain⟨c,hc,hcc⟩:=HI hS hN hF hM;rw[hc,ζb,aH];refine⟨fun hb=>(af _).2 ⟨fun h=>(by cases h),fun h=>absurd (hcc.1 hb) h.acyc⟩,fun hb=>(af _).2 ⟨fun _=>?_,fun _=>rfl⟩⟩
    exact⟨hF,⟨A,r.2.1,by rw[hr];obtain⟨r1,r2,r3⟩:=r;simp only at hA h0;rw[hA,h0],hM⟩,h8.2,h8.1,h8.2,fun p hp=>hh p (by omega),hI,hM.wO,fun hc=>by rw[hcc.2 hc]at hb;cases hb⟩
   ·simp only at h;simp[h]at h0
theorem J7 {t:Trace} (hS:Small t) (hN:(aO t).length<1073741824):Wp (ct t) fun b=>(b=true→VT t)∧(Ok t→b=true):=by
 unfold ct;rw[bt];exact(Kx hS hN).mono fun r hr=>(af _).2 ⟨fun h=>hr.1 (by simpa using h),fun h=>by simpa using hr.2 h⟩
end Go.VE
namespace Go.VE
def jK (f:Event→Bool):Int→List Event→List Int
 | _,[]=>[]
 | j,e::r=>if f e then(j+1)::jK f (j+1) r else jK f (j+1) r
theorem yX (f:Event→Bool) (e:Event):∀(l:List Event) (j:Int),jK f j (l++[e])=jK f j l++(if f e then [j+l.length+1]else [])
 | [],j=>by simp[jK]
 | x::l,j=>by
  simp only[List.cons_append,jK,yX f e l (j+1),List.length_cons];split <;> simp <;> split <;> simp <;> omega
theorem sn (f:Event→Bool):∀(l:List Event) (j:Int),(jK f j l).length≤l.length
 | [],_=>Nat.le_refl _
 | x::l,j=>by
  have:=sn f l (j+1);simp only[jK];split <;> simp only[List.length_cons] <;> omega
theorem wR (f:Event→Bool):∀(l:List Event) (j:Int) (a:Int),a∈jK f j l→j<a
 | x::l,j,a,h=>by
  simp only[jK]at h;split at h
  ·rcases List.mem_cons.1 h with rfl|h
   ·omega
   ·have:=wR f l (j+1) a h;omega
  ·have:=wR f l (j+1) a h;omega
theorem wD (f:Event→Bool):∀(l:List Event) (j:Int),Up (jK f j l)
 | [],_=>fun i k a b _ h=>by simp[jK]at h
 | x::l,j=>by
  intro i k a b hik ha hb;simp only[jK]at ha hb;split at ha
  ·rename_i hf;rw[if_pos hf]at hb
   cases k with
   | zero=>omega
   | succ k=>
    simp only[List.getElem?_cons_succ]at hb
    cases i with
    | zero=>
     simp only[List.getElem?_cons_zero,ζa]at ha;subst ha;exact wR f l (j+1) b (List.mem_of_getElem? hb)
    | succ i=>
     simp only[List.getElem?_cons_succ]at ha;exact wD f l (j+1) i k a b (by omega) ha hb
  ·rename_i hf;rw[if_neg hf]at hb;exact wD f l (j+1) i k a b hik ha hb
theorem rq (f:Event→Bool):∀(l:List Event) (j:Int) (x:Nat),(jK f j l).countP (fun a=>decide (a≤j+x))=(l.take x).countP f
 | [],j,x=>by simp[jK]
 | e::l,j,0=>by
  rw[List.take_zero,List.countP_nil,List.countP_eq_zero];intro a ha;have:=wR f (e::l) j a ha;simp;omega
 | e::l,j,x+1=>by
  have ih:=rq f l (j+1) x;rw[show j+1+(x:Int)=j+((x+1:Nat):Int)from by push_cast;omega]at ih
  simp only[jK,List.take_succ_cons,List.countP_cons];split
  ·rename_i hf;rw[List.countP_cons,ih];simp;omega
  ·rename_i hf;rw[ih];simp
def dg (q:Int) (e:Event):Bool:=e.kind==2&&e.peer==q
def d_ (p:Int) (e:Event):Bool:=e.kind==3&&e.peer==p
theorem Nw {t:Trace} (hS:Small t) {p q:Nat} (hp:p<t.procs.l.length) (hq:q<t.procs.l.length) :
 Wp (ei t p q) fun w=>w.p=p∧w.q=q∧w.sent.l=jK (dg q) 0 t.procs.l[p].events.l∧w.received.l=jK (d_ p) 0 t.procs.l[q].events.l:=by
 have hP:=(hS.2 _ (List.getElem_mem hp)).1;have hQ:=(hS.2 _ (List.getElem_mem hq)).1;unfold ei;rw[aP hp,ζb];generalize hPe:t.procs.l[p]=P at *;unfold ei.W1;refine cO (fun s:Int×aV×aV=>∃n:Nat,s.1=n∧n≤P.events.l.length∧s.2.2.p=p∧s.2.2.q=q∧s.2.2.sent.l=jK (dg q) 0 (P.events.l.take n)) (fun s=>P.events.l.length-s.1.toNat) ⟨0,rfl,Nat.zero_le _,rfl,rfl,rfl⟩ ?_
 rintro⟨i,v,w⟩ ⟨n,hi,hn,h1,h2,h3⟩;simp only at hi h1 h2 h3;subst hi;unfold ei.aA;rw[aH];constructor
 ·intro h;have hlt:n<P.events.l.length:=by simpa [len]using h
  have hw:=bR n (by omega)
  have htk:P.events.l.take (n+1)=P.events.l.take n++[P.events.l[n]]:=by rw[List.take_add_one,ζd hlt];rfl
  have hmu:P.events.l.length-(IntKind.wrap .i64 ((n:Int)+1)).toNat<P.events.l.length-((n:Int)).toNat:=by rw[hw];simp;omega
  have hl0:=sn (dg q) (P.events.l.take n) 0;rw[List.length_take]at hl0;have hsel:=yX (dg q) P.events.l[n] (P.events.l.take n) 0;rw[←htk,List.length_take,Nat.min_eq_left (by omega)]at hsel
  rw[aP hlt,ζb,gm,ζb,aH];constructor
  ·intro hc;unfold gy;rw[h3,if_pos (by omega),ζb,af]
   refine⟨⟨n+1,hw,by omega,h1,h2,?_⟩,hmu⟩
   show jK (dg q) 0 (P.events.l.take n)++[IntKind.wrap .i64 ((n:Int)+1)]=_;rw[hsel,if_pos (show dg q P.events.l[n]=true from hc),hw];simp
  ·intro hc;rw[af];refine⟨⟨n+1,hw,by omega,h1,h2,?_⟩,hmu⟩
   show w.sent.l=_;rw[hsel,h3,if_neg (show ¬dg q P.events.l[n]=true from by rw[show dg q P.events.l[n]=false from hc];simp)];simp
 ·intro h;have hge:P.events.l.length≤n:=by simpa [len]using h
  rw[List.take_of_length_le hge]at h3;refine(af _).2 ?_;show Wp ((idx t.procs q).bind _) _;rw[aP hq,ζb];generalize hQe:t.procs.l[q]=Q at *;unfold ei.W2;refine cO (fun s:Int×aV×aV=>∃n:Nat,s.1=n∧n≤Q.events.l.length∧s.2.2.p=p∧s.2.2.q=q∧s.2.2.sent.l=jK (dg q) 0 P.events.l∧s.2.2.received.l=jK (d_ p) 0 (Q.events.l.take n)) (fun s=>Q.events.l.length-s.1.toNat) ⟨0,rfl,Nat.zero_le _,h1,h2,h3,rfl⟩ ?_
  rintro⟨i,v',w'⟩ ⟨m,hi,hm,g1,g2,g3,g4⟩;simp only at hi g1 g2 g3 g4;subst hi;unfold ei.bu;rw[aH];constructor
  ·intro h;have hlt:m<Q.events.l.length:=by simpa [len]using h
   have hw:=bR m (by omega)
   have htk:Q.events.l.take (m+1)=Q.events.l.take m++[Q.events.l[m]]:=by rw[List.take_add_one,ζd hlt];rfl
   have hmu:Q.events.l.length-(IntKind.wrap .i64 ((m:Int)+1)).toNat<Q.events.l.length-((m:Int)).toNat:=by rw[hw];simp;omega
   have hl0:=sn (d_ p) (Q.events.l.take m) 0;rw[List.length_take]at hl0;have hsel:=yX (d_ p) Q.events.l[m] (Q.events.l.take m) 0;rw[←htk,List.length_take,Nat.min_eq_left (by omega)]at hsel
   rw[aP hlt,ζb,gm,ζb,aH];constructor
   ·intro hc;unfold gy;rw[g4,if_pos (by omega),ζb,af]
    refine⟨⟨m+1,hw,by omega,g1,g2,g3,?_⟩,hmu⟩
    show jK (d_ p) 0 (Q.events.l.take m)++[IntKind.wrap .i64 ((m:Int)+1)]=_;rw[hsel,if_pos (show d_ p Q.events.l[m]=true from hc),hw];simp
   ·intro hc;rw[af];refine⟨⟨m+1,hw,by omega,g1,g2,g3,?_⟩,hmu⟩
    show w'.received.l=_;rw[hsel,g4,if_neg (show ¬d_ p Q.events.l[m]=true from by rw[show d_ p Q.events.l[m]=false from hc];simp)];simp
  ·intro h;have hge:Q.events.l.length≤m:=by simpa [len]using h
   rw[List.take_of_length_le hge]at g4;refine(af _).2 ((af _).2 ⟨g1,g2,g3,g4⟩)
end Go.VE
namespace Go.VE
def under (t:Trace) (c:List Int) (p q:Nat):Int:=match t.procs.l[p]?,t.procs.l[q]?,c[p]?,c[q]? with
 | some P,some Q,some a,some b=>((P.events.l.take a.toNat).countP (dg q):Int)-((Q.events.l.take b.toNat).countP (d_ p):Int)
 | _,_,_,_=>0
theorem Q_ {t:Trace} (hS:Small t) {c:Sl Int} {p q:Nat} (hp:p<t.procs.l.length) (hq:q<t.procs.l.length) (hcl:c.l.length=t.procs.l.length) (hc:∀a∈c.l,0≤a) {w:aV}
 (h1:w.p=p) (h2:w.q=q) (h3:w.sent.l=jK (dg q) 0 t.procs.l[p].events.l) (h4:w.received.l=jK (d_ p) 0 t.procs.l[q].events.l):kV w c=some (under t c.l p q):=by
 have hpc:p<c.l.length:=by omega
 have hqc:q<c.l.length:=by omega
 have hP:=(hS.2 _ (List.getElem_mem hp)).1;have hQ:=(hS.2 _ (List.getElem_mem hq)).1;have ha:=hc _ (List.getElem_mem hpc);have hb:=hc _ (List.getElem_mem hqc);have s1:=sn (dg q) t.procs.l[p].events.l 0;have s2:=sn (d_ p) t.procs.l[q].events.l 0;unfold kV;rw[h1,aP hpc,ζb,Ez (by rw[h3];exact wD _ _ _) (by rw[h3];omega),ζb,h2,aP hqc,ζb,Ez (by rw[h4];exact wD _ _ _) (by rw[h4];omega),ζb]
 have e1:=rq (dg q) t.procs.l[p].events.l 0 c.l[p].toNat;have e2:=rq (d_ p) t.procs.l[q].events.l 0 c.l[q].toNat;rw[show (0:Int)+(c.l[p].toNat:Int)=c.l[p]from by omega]at e1
 rw[show (0:Int)+(c.l[q].toNat:Int)=c.l[q]from by omega]at e2
 rw[h3,h4,e1,e2];have b1:=List.countP_le_length (p:=dg q) (l:=t.procs.l[p].events.l.take c.l[p].toNat);have b2:=List.countP_le_length (p:=d_ p) (l:=t.procs.l[q].events.l.take c.l[q].toNat);rw[List.length_take]at b1 b2;rw[iE _ (by simp only[Int.ofNat_eq_natCast];omega) (by simp only[Int.ofNat_eq_natCast];omega)]
 unfold under;rw[ζd hp,ζd hq,ζd hpc,ζd hqc];rfl
end Go.VE
namespace Go.VE
theorem B1 {t:Trace} (hS:Small t) (hv:ct t=some true) {A:bK 200 aK} (hM:eH t (aO t) A) {x:aa×Event} (hx:x∈aO t) (hk:x.2.kind=2):mQ t x.2.message=some (x.1,true):=by
 refine Wp.eq ?_;unfold mQ fA;rw[hv,ζb,a_];unfold gu;rw[ζb];unfold fA.E1;rw[o_ hS,ζb,bt];refine um (fun k _=>∀y∈(aO t).take k,¬(y.2.kind=2∧y.2.message=x.2.message)) (by simp) ?_ ?_
 ·intro k y _ hy hI;have hym:y∈aO t:=List.mem_of_getElem? hy;unfold fA.ny;rw[gm,ζb,aH];constructor
  ·intro hc;have hc:y.2.kind=2∧y.2.message=x.2.message:=by simpa using hc
   refine(af _).2 ((af _).2 ((af _).2 ?_));have h1:=hM.snd y hym hc.1;have h2:=hM.snd x hx hk;rw[hc.2,h2]at h1;rw[h1]
  ·intro hc;have hc:¬(y.2.kind=2∧y.2.message=x.2.message):=by
    intro h;rw[h.1,h.2]at hc;simp at hc
   rw[af];intro z hz;rw[List.take_add_one,hy]at hz;rcases List.mem_append.1 hz with hz|hz
   ·exact hI z hz
   ·simp at hz;subst hz;exact hc
 ·intro _ hI;rw[List.take_length]at hI;exact absurd ⟨hk,rfl⟩ (hI x hx)
def kK (t:Trace) (c:List Int):Prop:=c.length=t.procs.l.length∧∀(p:Nat) (a:Int) (P:bl),c[p]? = some a→t.procs.l[p]? = some P→0≤a∧a≤P.events.l.length
def jN (t:Trace) (A:bK 200 aK) (c:List Int):Prop:=∀(p k:Nat) (e:Event) (a:Int),iF t p k e→c[p]? = some a→(k:Int)<a→e.kind=3→∃b,c[(ag A e.message).from_.proc.toNat]? = some b∧(ag A e.message).from_.index≤b
theorem qe {t:Trace} (hV:VT t) {A:bK 200 aK} (hM:eH t (aO t) A) {p k:Nat} {e:Event} (he:iF t p k e) (hk:e.kind=3) :
 ∃(q j:Nat) (y:Event),iF t q j y∧y.kind=2∧y.message=e.message∧y.peer=p∧e.peer=q∧(ag A e.message).from_=⟨q,j+1⟩:=by
 have hmem:((⟨p,k+1⟩:aa),e)∈aO t:=cm.2 ⟨p,k,he,rfl⟩;have hs:=(hM.rcv _ hmem hk).2;have hf:=hV.formed _ hmem;simp only at hs hf;have hpeer:0≤e.peer:=by
  rcases hf with h|⟨_,h,_⟩
  ·omega
  ·exact h
 obtain⟨q,hq⟩:∃q:Nat,e.peer=q:=⟨e.peer.toNat,by omega⟩
 rw[hq]at hs;obtain⟨j,y,hat,h1,h2,h3⟩:=vr.1 hs;have:=hM.snd (⟨q,j+1⟩,y) (cm.2 ⟨q,j,hat,rfl⟩) h1;simp only at this;rw[h2]at this;exact⟨q,j,y,hat,h1,h2,h3,hq,this⟩
def Uj (t:Trace) (A:bK 200 aK) (c:List Int) (s:aa):Prop:=∃(p k:Nat) (e:Event) (a:Int) (q j:Nat) (y:Event) (b:Int),iF t p k e∧c[p]? = some a∧(k:Int)<a∧e.kind=3∧(ag A e.message).from_=s∧s=⟨q,j+1⟩∧iF t q j y∧c[q]? = some b∧b<(j:Int)+1
theorem ES {t:Trace} (hS:Small t) (hv:ct t=some true) (hV:VT t) {A:bK 200 aK} (hM:eH t (aO t) A) {c:Sl Int} (hR:kK t c.l):Wp (ey t c) fun r=>(r.2.2=false→jN t A c.l)∧(r.2.2=true→Uj t A c.l r.1):=by
 have hn8:=hV.few;unfold ey ey.W1;refine cO (fun s:Int=>∃n:Nat,s=n∧n≤c.l.length∧∀(p k:Nat) (e:Event) (a:Int),p<n→iF t p k e→c.l[p]? = some a→(k:Int)<a→e.kind=3→∃b,c.l[(ag A e.message).from_.proc.toNat]? = some b∧(ag A e.message).from_.index≤b) (fun s:Int=>c.l.length-s.toNat) ⟨0,rfl,Nat.zero_le _,fun p k e a h=>absurd h (by omega)⟩ ?_
 rintro s ⟨n,rfl,hn,hI⟩;have hcl:=hR.1;unfold ey.aA;rw[aH];constructor
 ·intro h;have hlt:n<c.l.length:=by simpa [len]using h
  have hlt2:n<t.procs.l.length:=by omega
  have hP:=(hS.2 _ (List.getElem_mem hlt2)).1;obtain⟨r1,r2⟩:=hR.2 n _ _ (ζd hlt) (ζd hlt2);rw[aP hlt,ζb,aP hlt2,ζb];obtain⟨y,hy,hyl⟩:=j9 t.procs.l[n].events c.l[n].toNat (by omega)
  rw[show ((c.l[n].toNat:Nat):Int)=c.l[n]from by omega]at hy
  rw[hy,ζb];unfold ey.W2;refine cO (fun s:Int=>∃m:Nat,s=m∧m≤y.l.length∧∀(k:Nat) (e:Event),k<m→iF t n k e→e.kind=3→∃b,c.l[(ag A e.message).from_.proc.toNat]? = some b∧(ag A e.message).from_.index≤b) (fun s:Int=>y.l.length-s.toNat) ⟨0,rfl,Nat.zero_le _,fun k e h=>absurd h (by omega)⟩ ?_
  rintro s ⟨m,rfl,hm,hJ⟩;have hyl2:y.l.length=c.l[n].toNat:=by rw[hyl,List.length_take];omega
  unfold ey.bu;rw[aH];constructor
  ·intro h;have hltm:m<y.l.length:=by simpa [len]using h
   have hwm:=bR m (by omega)
   have hmu:y.l.length-(IntKind.wrap .i64 ((m:Int)+1)).toNat<y.l.length-((m:Int)).toNat:=by rw[hwm];simp;omega
   have hg:y.l[m]? = t.procs.l[n].events.l[m]? := by rw[hyl,List.getElem?_take,if_pos (show m<c.l[n].toNat from by omega)]
   have hat:iF t n m y.l[m]:=⟨_,ζd hlt2,by rw[←hg];exact ζd hltm⟩
   rw[aP hltm,ζb];generalize y.l[m]=e at hat;rw[aH];constructor
   ·intro hk;have hk:e.kind=3:=by simpa using hk
    obtain⟨q,j,z,hz,z1,z2,z3,z4,z5⟩:=qe hV hM hat hk;have hsd:=B1 hS hv hM (x:=(⟨q,j+1⟩,z)) (cm.2 ⟨q,j,hz,rfl⟩) z1;simp only at hsd;rw[z2]at hsd;have hzq:=hz;obtain⟨Q,hQ,_⟩:=hz;have hql:q<c.l.length:=by have:=(ζe.1 hQ).1;omega
    rw[hsd,ζb];simp only;rw[aP hql,ζb,aH];constructor
    ·intro hgt;have hgt:(j:Int)+1>c.l[q]:=by simpa using hgt
     exact(af _).2 ((af _).2 ((af _).2 ⟨fun h=>(by cases h),fun _=>⟨n,m,e,c.l[n],q,j,z,c.l[q],hat,ζd hlt,by omega,hk,z5,rfl,hzq,ζd hql,by omega⟩⟩))
    ·intro hle;have hle:¬((j:Int)+1>c.l[q]):=by simpa using hle
     refine(af _).2 ⟨⟨m+1,hwm,by omega,fun k e' hk' hat' he'=>?_⟩,hmu⟩
     by_cases ek:k=m
     ·subst ek;have:e'=e:=by
       obtain⟨P1,a1,a2⟩:=hat;obtain⟨P2,b1,b2⟩:=hat';rw[a1]at b1;cases b1;rw[a2]at b2;cases b2;rfl
      subst this;rw[z5];exact⟨c.l[q],by simp only[Int.toNat_natCast];exact ζd hql,by simp only;omega⟩
     ·exact hJ k e' (by omega) hat' he'
   ·intro hk;have hk:¬e.kind=3:=by simpa using hk
    refine(af _).2 ⟨⟨m+1,hwm,by omega,fun k e' hk' hat' he'=>?_⟩,hmu⟩
    by_cases ek:k=m
    ·subst ek;have:e'=e:=by
      obtain⟨P1,a1,a2⟩:=hat;obtain⟨P2,b1,b2⟩:=hat';rw[a1]at b1;cases b1;rw[a2]at b2;cases b2;rfl
     subst this;exact absurd he' hk
    ·exact hJ k e' (by omega) hat' he'
  ·intro h;have hge:y.l.length≤m:=by simpa [len]using h
   have hwn:=bR n (by omega)
   refine(af _).2 ((af _).2 ⟨⟨n+1,hwn,by omega,fun p k e a hp hat ha hka he=>?_⟩,by show _-(IntKind.wrap .i64 ((n:Int)+1)).toNat<_;rw[hwn];simp;omega⟩)
   by_cases ep:p=n
   ·subst ep;rw[ζd hlt]at ha;cases ha;exact hJ k e (by omega) hat he
   ·exact hI p k e a (by omega) hat ha hka he
 ·intro h;have hge:c.l.length≤n:=by simpa [len]using h
  refine(af _).2 ((af _).2 ⟨fun _ p k e a hat ha hka he=>hI p k e a (by have:=(ζe.1 ha).1;omega) hat ha hka he,fun h=>(by cases h)⟩)
theorem zV {t:Trace} (hS:Small t) (hv:ct t=some true) (hV:VT t) {A:bK 200 aK} (hM:eH t (aO t) A) {c:Sl Int} (hR:kK t c.l):Wp (ey t c) fun r=>(r.2.2=false↔jN t A c.l):=by
 refine(ES hS hv hV hM hR).mono fun r hr=>⟨hr.1,fun hC=>?_⟩
 cases h:r.2.2 with
 | false=>rfl
 | true=>
  obtain⟨p,k,e,a,q,j,y,b,h1,h2,h3,h4,h5,h6,_,h7,h8⟩:=hr.2 h;obtain⟨b',g1,g2⟩:=hC p k e a h1 h2 h3 h4;rw[h5,h6]at g1 g2;simp only[Int.toNat_natCast]at g1 g2;rw[h7]at g1;cases g1;omega
end Go.VE
namespace Go.VE
theorem sK {s:Sl (Sl Int)} {p:Sl Int→Option Bool} {f:Sl Int→Bool} (hp:∀x∈s.l,p x=some (f x)) (hl:s.l.length<1073741824):gY s p=some (s.l.any f):=by
 have h:ec s p=some (place f s.l):=q_ hp (by omega) (fun i=>rfl)
 unfold gY;rw[h,ζb,qO]
theorem vw {t:Trace} (hS:Small t) {c:Sl Int} (hcl:c.l.length=t.procs.l.length):Wp (gA t c) fun b=>(b=true↔kK t c.l):=by
 have h1:=hS.1;unfold gA gA.W1;refine cO (fun s:Int=>∃n:Nat,s=n∧n≤c.l.length∧∀(p:Nat) (a:Int) (P:bl),p<n→c.l[p]? = some a→t.procs.l[p]? = some P→0≤a∧a≤P.events.l.length) (fun s:Int=>c.l.length-s.toNat) ⟨0,rfl,Nat.zero_le _,fun p a P h=>absurd h (by omega)⟩ ?_
 rintro s ⟨n,rfl,hn,hI⟩;unfold gA.aA;rw[aH];constructor
 ·intro h;have hlt:n<c.l.length:=by simpa [len]using h
  have hlt2:n<t.procs.l.length:=by omega
  have hw:=bR n (by omega)
  rw[aP hlt,ζb,aP hlt2,ζb,gV,ζb,aH];constructor
  ·intro hb;have hb:c.l[n]<0∨c.l[n]>t.procs.l[n].events.l.length:=by simpa [len]using hb
   refine(af _).2 ((af _).2 ⟨fun h=>(by cases h),fun hR=>?_⟩)
   have:=hR.2 n _ _ (ζd hlt) (ζd hlt2);omega
  ·intro hb;have hb:0≤c.l[n]∧c.l[n]≤t.procs.l[n].events.l.length:=by simpa [len]using hb
   refine(af _).2 ⟨⟨n+1,hw,by omega,fun p a P hp ha hP=>?_⟩,by rw[hw];simp;omega⟩
   by_cases e:p=n
   ·subst e;rw[ζd hlt]at ha;cases ha;rw[ζd hlt2]at hP;cases hP;exact hb
   ·exact hI p a P (by omega) ha hP
 ·intro h;have hge:c.l.length≤n:=by simpa [len]using h
  refine(af _).2 ((af _).2 ⟨fun _=>⟨hcl,fun p a P ha hP=>hI p a P (by have:=(ζe.1 ha).1;omega) ha hP⟩,fun _=>rfl⟩)
def Code (t:Trace) (A:bK 200 aK) (c:List Int) (r:Int):Prop:=c.length≠t.procs.l.length∧r=1∨c.length=t.procs.l.length∧¬kK t c∧r=2∨kK t c∧¬jN t A c∧r=18∨kK t c∧jN t A c∧r=0
theorem PF {t:Trace} (hS:Small t) (hv:ct t=some true) (hV:VT t) {A:bK 200 aK} (hM:eH t (aO t) A) (c:Sl Int) :
 Wp (bX t (Sl.row [c]:Sl (Sl Int)) (Sl.nil:Sl Int)) fun r=>Code t A c.l r:=by
 unfold bX oR;rw[hv,ζb,a_,sK (f:=fun z=>(e9 z t).getD false) (fun z _=>lK.ok ((af _).2 trivial)) (by simp[Sl.l]),ζb,ζb,ζb]
 have hany:(!((Sl.row [c]:Sl (Sl Int)).l.any fun z=>(e9 z t).getD false))=(len c==len t.procs):=by
  simp[Sl.l,e9]
 rw[hany,aH];constructor
 ·intro h;have hcl:c.l.length=t.procs.l.length:=by
   have:(c.l.length:Int)=t.procs.l.length:=by simpa [len]using h
   omega
  unfold bX.W1;refine cO (fun s:Int=>s=0∨s=1∧kK t c.l) (fun s:Int=>1-s.toNat) (.inl rfl) ?_
  intro s hs;unfold bX.aA;rcases hs with rfl|⟨rfl,hR⟩
  ·rw[show decide ((0:Int)<len (Sl.row [c]:Sl (Sl Int)))=true from rfl,a_,show idx (Sl.row [c]:Sl (Sl Int)) 0=some c from rfl,ζb,bt];refine(vw hS hcl).mono fun b hb=>?_
   rw[aH];exact⟨fun hbt=>(af _).2 ⟨.inr ⟨rfl,hb.1 hbt⟩,by decide⟩,fun hbf=>(af _).2 ((af _).2 (.inr (.inl ⟨hcl,fun h=>(by rw[hb.2 h]at hbf;cases hbf),rfl⟩)))⟩
  ·rw[show decide ((1:Int)<len (Sl.row [c]:Sl (Sl Int)))=false from rfl,bF,af];show Wp (bX.W2 (Sl.row [c]) Sl.nil 0 0 t) _;unfold bX.W2;refine cO (fun s:Int=>s=0) (fun _=>0) rfl ?_
   rintro s rfl;unfold bX.bu;rw[show decide ((0:Int)<0)=false from rfl,bF,af];show Wp (bX.W3 (Sl.row [c]) 1 0 t) _;unfold bX.W3;refine cO (fun s:Int=>s=0∨s=1∧jN t A c.l) (fun s:Int=>1-s.toNat) (.inl rfl) ?_
   intro s hs;unfold bX.dK;rcases hs with rfl|⟨rfl,hC⟩
   ·rw[show decide ((0:Int)<1)=true from rfl,a_,show idx (Sl.row [c]:Sl (Sl Int)) 0=some c from rfl,ζb];unfold rQ;rw[bt,bt];refine(zV hS hv hV hM hR).mono fun r hr=>?_
    rw[af,aH];exact⟨fun hb=>(af _).2 ⟨.inr ⟨rfl,hr.1 (by simpa using hb)⟩,by decide⟩,fun hb=>(af _).2 ((af _).2 (.inr (.inr (.inl ⟨hR,fun h=>(by have:=hr.2 h;simp[this]at hb),rfl⟩))))⟩
   ·rw[show decide ((1:Int)<1)=false from rfl,bF,af];exact(af _).2 (.inr (.inr (.inr ⟨hR,hC,rfl⟩)))
 ·intro h;exact(af _).2 (.inl ⟨fun e=>(by simp[len,e]at h),rfl⟩)
theorem Code.zero {t:Trace} {A:bK 200 aK} {c:List Int} {r:Int} (h:Code t A c r):r=0↔kK t c∧jN t A c:=by
 rcases h with⟨h,rfl⟩|⟨_,h,rfl⟩|⟨_,h,rfl⟩|⟨h1,h2,rfl⟩
 ·exact⟨fun h=>(by cases h),fun h'=>absurd h'.1.1 h⟩
 ·exact⟨fun h=>(by cases h),fun h'=>absurd h'.1 h⟩
 ·exact⟨fun h=>(by cases h),fun h'=>absurd h'.2 h⟩
 ·exact⟨fun _=>⟨h1,h2⟩,fun _=>rfl⟩
theorem KJ {t:Trace} (hS:Small t) (hv:ct t=some true) (hV:VT t) {A:bK 200 aK} (hM:eH t (aO t) A) (c:Sl Int) :
 Wp (bX t (Sl.row [c]:Sl (Sl Int)) (Sl.nil:Sl Int)) fun r=>(r=0↔kK t c.l∧jN t A c.l):=(PF hS hv hV hM c).mono fun _ h=>h.zero
def Cons (t:Trace) (A:bK 200 aK) (c:List Int):Prop:=kK t c∧jN t A c
end Go.VE
namespace Go.VE
def places {α:Type} (f:α→Bool) (l:List α):List Nat:=(List.range l.length).filter fun k=>match l[k]? with|some x=>f x|none=>false
theorem pI {α:Type} {f:α→Bool} {l:List α} {k:Nat}:k∈places f l↔∃x,l[k]? = some x∧f x=true:=by
 unfold places;rw[List.mem_filter,List.mem_range];constructor
 ·rintro⟨h1,h2⟩;rw[ζd h1]at h2;exact⟨_,ζd h1,h2⟩
 ·rintro⟨x,h1,h2⟩;exact⟨(ζe.1 h1).1,by rw[h1];exact h2⟩
theorem Cu {α:Type} (f:α→Bool) (l:List α):(places f l).Nodup:=List.nodup_range.sublist (List.filter_sublist ..)
theorem Al {α:Type} (f:α→Bool):∀l:List α,(places f l).length=l.countP f:=by
 intro l;unfold places;rw[←List.countP_eq_length_filter]
 induction l with
 | nil=>rfl
 | cons x l ih=>
  rw[List.length_cons,List.range_succ_eq_map,List.countP_cons,List.countP_map,List.countP_cons];simp only[List.getElem?_cons_zero];rw[←ih]
  congr 1
theorem wA {α β:Type} {f:α→Bool} {g:β→Bool} {l:List α} {m:List β} (φ:Nat→Nat) (h:∀k∈places f l,φ k∈places g m) (hi:∀k k',k∈places f l→k'∈places f l→φ k=φ k'→k=k'):l.countP f≤m.countP g:=by
 rw[←Al,←Al];have hn:((places f l).map φ).Nodup:=by
  unfold List.Nodup;rw[List.pairwise_map];exact List.Pairwise.imp_of_mem (fun {a b} ha hb hne he=>hne (hi a b ha hb he)) (Cu f l)
 have:=sr (r:=places g m) hn fun x hx=>by
  obtain⟨k,hk,rfl⟩:=List.mem_map.1 hx;exact h k hk
 simpa using this
theorem Py {t:Trace} (hV:VT t) {A:bK 200 aK} (hM:eH t (aO t) A) {c:List Int} (hC:Cons t A c) (p q:Nat):0≤under t c p q:=by
 unfold under;split
 ·rename_i P Q a b hP hQ ha hb;have hb0:=hC.1.2 q b Q hb hQ;have ha0:=hC.1.2 p a P ha hP;have key:(Q.events.l.take b.toNat).countP (d_ p)≤(P.events.l.take a.toNat).countP (dg q):=by
   refine wA (fun k=>match Q.events.l[k]? with|some e=>((ag A e.message).from_.index-1).toNat|none=>0) (fun k hk=>?_) (fun k k' hk hk' he=>?_)
   ·obtain⟨e,h1,h2⟩:=pI.1 hk;have hkb:k<b.toNat:=by
     have:=(ζe.1 h1).1;rw[List.length_take]at this;omega
    rw[List.getElem?_take,if_pos hkb]at h1;have h2:e.kind=3∧e.peer=p:=by simpa [d_]using h2
    have hat:iF t q k e:=⟨Q,hQ,h1⟩;obtain⟨q',j,y,hy,y1,y2,y3,y4,y5⟩:=qe hV hM hat h2.1;have hqp:q'=p:=by omega
    subst hqp;rw[h1];simp only[y5];obtain⟨P',hP',hj⟩:=hy;rw[hP]at hP';cases hP';obtain⟨x,hx1,hx2⟩:=hC.2 q k e b hat hb (by omega) h2.1
    rw[y5]at hx1 hx2;simp only[Int.toNat_natCast]at hx1 hx2;rw[ha]at hx1;cases hx1;rw[show ((j:Int)+1-1).toNat=j from by omega]
    refine pI.2 ⟨y,?_,by simp[dg,y1,y3]⟩
    rw[List.getElem?_take,if_pos (by omega)];exact hj
   ·obtain⟨e,h1,h2⟩:=pI.1 hk;obtain⟨e',h1',h2'⟩:=pI.1 hk';have hkb:k<b.toNat:=by
     have:=(ζe.1 h1).1;rw[List.length_take]at this;omega
    have hkb':k'<b.toNat:=by
     have:=(ζe.1 h1').1;rw[List.length_take]at this;omega
    rw[List.getElem?_take,if_pos hkb]at h1;rw[List.getElem?_take,if_pos hkb']at h1';have h2:e.kind=3∧e.peer=p:=by simpa [d_]using h2
    have h2':e'.kind=3∧e'.peer=p:=by simpa [d_]using h2'
    obtain⟨q1,j,y,hy,y1,y2,y3,y4,y5⟩:=qe hV hM (show iF t q k e from⟨Q,hQ,h1⟩) h2.1;obtain⟨q2,j',y',hy',y1',y2',y3',y4',y5'⟩:=qe hV hM (show iF t q k' e' from⟨Q,hQ,h1'⟩) h2'.1;have e1:q1=p:=by omega
    have e2:q2=p:=by omega
    subst e1 e2;simp only[h1,h1',y5,y5']at he;have hjj:j=j':=by omega
    subst hjj;obtain⟨P1,a1,a2⟩:=hy;obtain⟨P2,b1,b2⟩:=hy';rw[a1]at b1;cases b1;rw[a2]at b2;cases b2;have r1:=(hM.rcv (⟨q,k+1⟩,e) (cm.2 ⟨q,k,⟨Q,hQ,h1⟩,rfl⟩) h2.1).1;have r2:=(hM.rcv (⟨q,k'+1⟩,e') (cm.2 ⟨q,k',⟨Q,hQ,h1'⟩,rfl⟩) h2'.1).1;simp only at r1 r2;rw[←y2,y2',r2]at r1;simp only[aa.mk.injEq]at r1;omega
  omega
 ·exact Int.le_refl _
end Go.VE
namespace Go.VE
theorem K3 {t:Trace} (hS:Small t):lK (gU t):=by
 unfold gU;rw[lK,aH];refine⟨fun _=>(af _).2 trivial,fun _=>?_⟩
 unfold gU.W1;refine cO (fun q:Int×Int=>∃n:Nat,q.2=n∧n≤t.procs.l.length) (fun q:Int×Int=>t.procs.l.length-q.2.toNat) ⟨0,rfl,Nat.zero_le _⟩ ?_
 rintro⟨c,i⟩ ⟨n,hi,hn⟩;simp only at hi;subst hi;have h1:=hS.1;unfold gU.aA;rw[aH];refine⟨fun h=>?_,fun _=>(af _).2 ((af _).2 trivial)⟩
 have hlt:n<t.procs.l.length:=by simpa [len]using h
 rw[aP hlt,ζb,vE (f:=fun z=>(mV z).getD false) (fun z _=>lK.ok ((af _).2 trivial)) (hS.2 _ (List.getElem_mem hlt)).1,ζb,je,ζb,aH]
 refine⟨fun _=>(af _).2 ((af _).2 trivial),fun _=>(af _).2 ⟨⟨n+1,bR n (by omega),by omega⟩,?_⟩⟩
 show _-(IntKind.wrap .i64 ((n:Int)+1)).toNat<_;rw[bR n (by omega)];simp;omega
theorem KR {t:Trace} (hv:ct t=some true) {p q:Nat} (hp:p<t.procs.l.length) (hq:q<t.procs.l.length) (hne:p≠q):oc t p q=some 0:=by
 unfold oc;rw[hv,ζb];have h1:decide ((p:Int)<0)=false:=by simp
 have h2:decide ((p:Int)≥len t.procs)=false:=by simp[len];omega
 have h3:decide ((q:Int)<0)=false:=by simp
 have h4:decide ((q:Int)≥len t.procs)=false:=by simp[len];omega
 have h5:((p:Int)==(q:Int))=false:=by simp;omega
 simp only[h1,h2,h3,h4,h5,a_,bF,ζb]
end Go.VE
namespace Go.VE
def iQ (kind m:Int) (x:aa×Event):Bool:=x.2.kind==kind&&x.2.message==m
def eN (t:Trace) (kind m:Int):aa:=match (aO t).find? (iQ kind m)with
 | some x=>x.1
 | none=>⟨0,0⟩
theorem Gp {t:Trace} {kind m:Int} {p:Nat} {P:bl} (hp8:p<9223372036854775806) (hP:t.procs.l[p]? = some P) (hl:P.events.l.length<1073741824):∀(q i:Nat),i+q=P.events.l.length →
 aX (fun q:Int=>cC.bu kind m p t ⟨0,0⟩ q) (i:Int)=some (match (fS p i (P.events.l.drop i)).find? (iQ kind m)with|some x=>.r x.1|none=>.x ()):=by
 have hix:idx t.procs (p:Int)=some P:=by rw[kX];exact hP
 intro q
 induction q with
 | zero=>
  intro i hi;rw[gE];unfold cC.bu;rw[hix,ζb,show decide ((i:Int)<len P.events)=false from by simp[len];omega,bF,List.drop_of_length_le (by omega)]
  rfl
 | succ q ih=>
  intro i hi;have hil:i<P.events.l.length:=by omega
  rw[gE];have hs:cC.bu kind m p t ⟨0,0⟩ i=some (if iQ kind m (⟨p,(i:Int)+1⟩,P.events.l[i])then .r ⟨p,(i:Int)+1⟩else .n ((i+1:Nat):Int)):=by
   unfold cC.bu;rw[hix,ζb,show decide ((i:Int)<len P.events)=true from by simp[len];omega,a_,ζb,aP hil,ζb,gm,ζb,bR i (by omega),je]
   rfl
  rw[hs,ζb,List.drop_eq_getElem_cons hil];simp only[fS,List.find?_cons]
  cases hh:iQ kind m (⟨p,(i:Int)+1⟩,P.events.l[i])with
  | true=>rfl
  | false=>
   simp only[Bool.false_eq_true,if_false];exact ih (i+1) (by omega)
theorem Gx {t:Trace} (hS:Small t) {kind m:Int}:∀(q p:Nat),p+q=t.procs.l.length →
 aX (fun q:Int=>cC.aA kind m t ⟨0,0⟩ q) (p:Int)=some (match (dQ p (t.procs.l.drop p)).find? (iQ kind m)with|some x=>.r x.1|none=>.x ()):=by
 have h1:=hS.1;intro q
 induction q with
 | zero=>
  intro p hp;rw[gE];unfold cC.aA;rw[show decide ((p:Int)<len t.procs)=false from by simp[len];omega,bF,List.drop_of_length_le (by omega)]
  rfl
 | succ q ih=>
  intro p hp;have hpl:p<t.procs.l.length:=by omega
  have hw:aX (fun q:Int=>cC.bu kind m p t ⟨0,0⟩ q) 0=some (match (fS p 0 t.procs.l[p].events.l).find? (iQ kind m)with|some x=>.r x.1|none=>.x ()):=Gp (t:=t) (kind:=kind) (m:=m) (by omega) (ζd hpl) (hS.2 _ (List.getElem_mem hpl)).1 (t.procs.l[p].events.l.length) 0 (by omega)
  rw[gE];unfold cC.aA;rw[show decide ((p:Int)<len t.procs)=true from by simp[len];omega,a_]
  unfold cC.W2;rw[hw,List.drop_eq_getElem_cons hpl];simp only[dQ,List.find?_append]
  cases hf:(fS p 0 t.procs.l[p].events.l).find? (iQ kind m)with
  | some x=>rfl
  | none=>
   simp only[ζb,Fw.elim,Option.none_or];rw[bR p (by omega)]
   exact ih (p+1) (by omega)
theorem find_eq {t:Trace} (hS:Small t) (kind m:Int):cC t kind m=some (eN t kind m):=by
 unfold cC cC.W1;have hw:aX (fun q:Int=>cC.aA kind m t ⟨0,0⟩ q) 0=some (match (aO t).find? (iQ kind m)with|some x=>.r x.1|none=>.x ()):=Gx hS (kind:=kind) (m:=m) t.procs.l.length 0 (by omega)
 rw[hw];unfold eN;cases (aO t).find? (iQ kind m) <;> rfl
theorem rN {t:Trace} {kind m:Int} {x:aa×Event} (h:(aO t).find? (iQ kind m)=some x):x∈aO t∧x.2.kind=kind∧x.2.message=m∧eN t kind m=x.1:=by
 have h1:=List.find?_some h;simp only[iQ,ζh,beq_iff_eq]at h1;exact⟨List.mem_of_find?_eq_some h,h1.1,h1.2,by unfold eN;rw[h]⟩
theorem Dl {t:Trace} {kind m:Int} {x:aa×Event} (hx:x∈aO t) (hk:x.2.kind=kind) (hm:x.2.message=m):∃y,(aO t).find? (iQ kind m)=some y:=by
 cases hf:(aO t).find? (iQ kind m)with
 | some y=>exact⟨y,rfl⟩
 | none=>
  rw[List.find?_eq_none]at hf;exact absurd (hf x hx) (by simp[iQ,hk,hm])
theorem FM {t:Trace} {kind m:Int} (h:∀x∈aO t,¬(x.2.kind=kind∧x.2.message=m)):eN t kind m=⟨0,0⟩:=by
 unfold eN;have:(aO t).find? (iQ kind m)=none:=by
  rw[List.find?_eq_none];intro x hx;simp only[iQ,ζh,beq_iff_eq];exact h x hx
 rw[this]
theorem LS {t:Trace} {p k:Nat} {e:Event} (h:iF t p k e) (hk:k<9223372036854775807):qY t ⟨p,k+1⟩=some e:=by
 obtain⟨P,hP,he⟩:=h;unfold qY;dsimp only;rw[show idx t.procs (p:Int)=some P from by rw[kX];exact hP,ζb,show IntKind.wrap .i64 ((k:Int)+1-1)=(k:Int)from by rw[iE _ (by omega) (by omega)];omega,show idx P.events (k:Int)=some e from by rw[kX];exact he]
 rfl
def rO (t:Trace) (x:aa×Event):Int:=if x.2.kind=1 then 0 else if eN t x.2.kind x.2.message=x.1 then(if x.2.kind=3 then(if pL t x.2.peer x.2.message x.1.proc then 0 else 7)else 0)else 8
theorem IB {t:Trace} (hS:Small t) {p k:Nat} {e:Event} (h:iF t p k e) (hF:gw t.procs.l.length p e):fP t ⟨p,k+1⟩=some (rO t (⟨p,k+1⟩,e)):=by
 have hk:k<1073741824:=by
  obtain⟨P,hP,he⟩:=h;have:=(hS.2 P (List.mem_of_getElem? hP)).1;have:=(ζe.1 he).1;omega
 unfold fP rO;rw[LS h (by omega),ζb]
 dsimp only
 by_cases h1:e.kind=1
 ·rw[show (e.kind==1)=true from by simp[h1],a_,if_pos h1]
 ·rw[show (e.kind==1)=false from by simp[h1],bF,if_neg h1,find_eq hS,ζb]
  have hev:E3 (eN t e.kind e.message) ⟨p,(k:Int)+1⟩=decide (eN t e.kind e.message=⟨p,(k:Int)+1⟩):=by
   unfold E3;rw[Bool.eq_iff_iff];cases eN t e.kind e.message;simp
  rw[hev]
  by_cases h2:eN t e.kind e.message=⟨p,(k:Int)+1⟩
  ·rw[if_pos h2,show decide (eN t e.kind e.message=⟨p,(k:Int)+1⟩)=true from by simpa using h2,a_]
   by_cases h3:e.kind=3
   ·rw[if_pos h3,show (e.kind==3)=true from by simp[h3],a_]
    have hpe:0≤e.peer∧e.peer<t.procs.l.length:=by
     rcases hF with h|⟨_,h1,h2,_⟩
     ·exact absurd h h1
     ·exact⟨h1,h2⟩
    have hq:e.peer.toNat<t.procs.l.length:=by omega
    have hQ:=ζd hq;have hql:=(hS.2 _ (List.getElem_mem hq)).1;generalize hQe:t.procs.l[e.peer.toNat]=Q at *;have hix:idx t.procs e.peer=some Q:=by rw[K_ hpe.1];exact hQ
    have hsb:pL t e.peer e.message p=Q.events.l.any fun s=>s.kind==2&&s.message==e.message&&s.peer==p:=by
     unfold pL;rw[hQ]
    unfold fP.W1;refine Wp.eq (cO (fun z:Bool×Int=>∃m:Nat,z.2=m∧m≤Q.events.l.length∧z.1=(Q.events.l.take m).any fun s=>s.kind==2&&s.message==e.message&&s.peer==p) (fun z=>Q.events.l.length-z.2.toNat) ⟨0,rfl,Nat.zero_le _,rfl⟩ ?_)
    rintro⟨s,i⟩ ⟨m,hi,hm,hs⟩;simp only at hi hs;subst hi;unfold fP.aA;dsimp only;rw[hix,ζb,aH];constructor
    ·intro hl;have hml:m<Q.events.l.length:=by simpa [len]using hl
     have hw:=bR m (by omega)
     rw[ζb,aP hml,ζb,gm,ζb,gm,ζb,gV,ζb,af];refine⟨⟨m+1,hw,by omega,?_⟩,by show _-(IntKind.wrap .i64 ((m:Int)+1)).toNat<_;rw[hw];simp;omega⟩
     show (s||_)=_;rw[List.take_add_one,ζd hml,List.any_append,hs];simp
    ·intro hl;have hml:Q.events.l.length≤m:=by simpa [len]using hl
     rw[List.take_of_length_le hml]at hs;refine(af _).2 ?_;rw[hsb,←hs];cases s
     ·exact(af _).2 rfl
     ·exact(af _).2 rfl
   ·rw[if_neg h3,show (e.kind==3)=false from by simp[h3],bF]
  ·rw[if_neg h2,show decide (eN t e.kind e.message=⟨p,(k:Int)+1⟩)=false from by simpa using h2,bF]
theorem FP {t:Trace} (hF:∀x∈aO t,gw t.procs.l.length x.1.proc x.2):(∀x∈aO t,rO t x=0)↔uC t:=by
 constructor
 ·intro h;have key:∀x∈aO t,x.2.kind≠1→eN t x.2.kind x.2.message=x.1:=fun x hx hk=>by
   have:=h x hx;unfold rO at this;rw[if_neg hk]at this;split at this
   ·assumption
   ·cases this
  refine⟨fun x hx y hy kx ky hm=>?_,fun x hx y hy kx ky hm=>?_,fun x hx kx=>?_⟩
  ·rw[←key x hx (by omega),←key y hy (by omega),kx,ky,hm]
  ·rw[←key x hx (by omega),←key y hy (by omega),kx,ky,hm]
  ·have:=h x hx;unfold rO at this;rw[if_neg (by omega),if_pos (key x hx (by omega)),if_pos kx]at this
   split at this
   ·assumption
   ·cases this
 ·intro h x hx;unfold rO
  by_cases k1:x.2.kind=1
  ·rw[if_pos k1]
  ·rw[if_neg k1];obtain⟨y,hy⟩:=Dl hx rfl rfl;obtain⟨y1,y2,y3,y4⟩:=rN hy;have hk:x.2.kind=2∨x.2.kind=3:=by
    rcases hF x hx with h|⟨h,_⟩
    ·exact absurd h k1
    ·exact h
   have he:eN t x.2.kind x.2.message=x.1:=by
    rw[y4];rcases hk with hk|hk
    ·exact h.snd y y1 x hx (by rw[y2,hk]) hk y3
    ·exact h.rcv y y1 x hx (by rw[y2,hk]) hk y3
   rw[if_pos he]
   by_cases k3:x.2.kind=3
   ·rw[if_pos k3,if_pos (h.has x hx k3)]
   ·rw[if_neg k3]
end Go.VE
namespace Go.VE
theorem uz {t:Trace} (hF:∀x∈aO t,gw t.procs.l.length x.1.proc x.2) (hP:uC t) {z:aa} {f:Event} (hz:(z,f)∈aO t) (hk:f.kind=3):∃e,(eN t 2 f.message,e)∈aO t∧e.kind=2∧e.message=f.message:=by
 have h:=hP.has _ hz hk;have hp:0≤f.peer:=by
  rcases hF _ hz with h|⟨_,h,_⟩
  ·simp only at h;omega
  ·exact h
 rw[show f.peer=((f.peer.toNat:Nat):Int)from by omega,vr]at h
 obtain⟨k,e,ha,h1,h2,_⟩:=h;obtain⟨y,hy⟩:=Dl (cm.2 ⟨_,k,ha,rfl⟩:((⟨(f.peer.toNat:Nat),k+1⟩:aa),e)∈aO t) h1 h2;obtain⟨y1,y2,y3,y4⟩:=rN hy;exact⟨y.2,by rw[y4];exact y1,y2,y3⟩
theorem C4.find {t:Trace} (hF:∀x∈aO t,gw t.procs.l.length x.1.proc x.2) (hP:uC t) {y z:aa} {f:Event} (h:C4 t y z) (hz:(z,f)∈aO t):f.kind=3∧eN t 2 f.message=y:=by
 obtain⟨e,f',h1,h2,h3,h4,h5⟩:=h;cases vg h2 hz rfl;obtain⟨e',a1,a2,a3⟩:=uz hF hP hz h4;exact⟨h4,hP.snd _ a1 _ h1 a2 h3 (by rw[a3,h5])⟩
theorem yj {t:Trace} (hS:Small t) (hF:∀x∈aO t,gw t.procs.l.length x.1.proc x.2) (hP:uC t) {z:aa} (hz:Vd t z) :
 Wp (cA t z) fun s=>s.l.length≤2∧∀y,y∈s.l↔Edge t y z:=by
 obtain⟨p,k,f,hat,rfl,hmem⟩:=hz.at_;have hk:k<1073741824:=by
  obtain⟨P,hP,he⟩:=hat;have:=(hS.2 P (List.mem_of_getElem? hP)).1;have:=(ζe.1 he).1;omega
 have j:∀s:Sl aa,s.l.length≤1→(∀y,y∈s.l↔Vd t y∧(⟨p,k+1⟩:aa)=⟨y.proc,y.index+1⟩)→Wp (cA.J1 s t ⟨p,k+1⟩) fun s=>s.l.length≤2∧∀y,y∈s.l↔Edge t y ⟨p,k+1⟩:=by
  intro s hs hsy;unfold cA.J1;rw[LS hat (by omega),ζb,aH]
  constructor
  ·intro h3;have h3:f.kind=3:=by simpa using h3
   rw[find_eq hS,ζb];unfold gy;rw[if_pos (by omega),ζb,af]
   refine⟨by show (s.l++[_]).length≤2;rw[ζi,List.length_singleton];omega,fun y=>?_⟩
   show y∈s.l++[eN t 2 f.message]↔_;rw[List.mem_append,List.mem_singleton,hsy];obtain⟨e,a1,a2,a3⟩:=uz hF hP hmem h3;constructor
   ·rintro (h|rfl)
    ·exact⟨h.1,hz,.inl h.2⟩
    ·exact⟨⟨e,a1⟩,hz,.inr ⟨e,f,a1,hmem,a2,h3,a3⟩⟩
   ·rintro⟨h1,_,h2|h2⟩
    ·exact .inl ⟨h1,h2⟩
    ·exact .inr (h2.find hF hP hmem).2.symm
  ·intro h3;refine(af _).2 ⟨by omega,fun y=>(hsy y).trans ⟨fun h=>⟨h.1,hz,.inl h.2⟩,fun⟨h1,_,h2⟩=>⟨h1,h2.elim id fun h2=>?_⟩⟩⟩
   have:=(h2.find hF hP hmem).1;simp[this]at h3
 unfold cA;rw[aH];constructor
 ·intro h;have h:(k:Int)+1>1:=by simpa using h
  refine j _ (by simp[Sl.l]) fun y=>?_
  have hw:IntKind.wrap .i64 ((k:Int)+1-1)=k:=by rw[iE _ (by omega) (by omega)];omega
  simp only[Sl.l,List.mem_singleton,hw,aa.mk.injEq];constructor
  ·rintro rfl;obtain⟨P,hP,he⟩:=hat;have:=(ζe.1 he).1;exact⟨⟨P.events.l[k-1],cm.2 ⟨p,k-1,⟨P,hP,ζd (by omega)⟩,by simp;omega⟩⟩,rfl,rfl⟩
  ·rintro⟨_,h1,h2⟩;cases y;simp only at h1 h2;congr 1 <;> omega
 ·intro h;have h:¬(k:Int)+1>1:=by simpa using h
  refine j _ (by simp[Sl.l]) fun y=>⟨fun hy=>by simp[Sl.l]at hy,fun⟨hy,he⟩=>?_⟩
  obtain⟨q,i,f,_,rfl,_⟩:=hy.at_;simp only[aa.mk.injEq]at he;omega
theorem PD {α:Type} {r:α→α→Prop} {x:α} (h:Acc r x):¬Relation.TransGen r x x:=by
 induction h with
 | intro x _ ih=>
  intro h
  cases h with
  | single h=>exact ih x h (.single h)
  | tail h1 h2=>exact ih _ h2 (Relation.TransGen.trans (.single h2) h1)
theorem ET:∀{d:List Nat} {i k:Nat},d[i]? = some k→(d.set i (k+1)).sum=d.sum+1
 | [],_,_,h=>by simp at h
 | x::d,0,k,h=>by simp at h;subst h;simp;omega
 | x::d,i+1,k,h=>by
  have:=ET (d:=d) (i:=i) (k:=k) (by simpa using h)
  simp[this];omega
theorem HK:∀{d l:List Nat},d.length=l.length→(∀(i a b:Nat),d[i]? = some a→l[i]? = some b→a≤b)→d.sum≤l.sum
 | [],_,_,_=>by simp
 | x::d,[],h,_=>by simp at h
 | x::d,y::l,h,hh=>by
  have h1:=hh 0 x y rfl rfl;have h2:=HK (d:=d) (l:=l) (by simpa using h) fun i a b ha hb=>hh (i+1) a b (by simpa using ha) (by simpa using hb)
  simp;omega
def nI (d:List Nat):List Int:=d.map Int.ofNat
def sI (s:Sl Int):Nat:=(s.l.map Int.toNat).sum
theorem Ce (d:List Nat):sI (.row (nI d))=d.sum:=by
 unfold sI nI;rw[show (Sl.row (d.map Int.ofNat)).l=d.map Int.ofNat from rfl,List.map_map,show (Int.toNat ∘ Int.ofNat)=id from rfl,List.map_id]
theorem Ip (d:List Nat):(nI d).length=d.length:=by simp[nI]
structure Kh (t:Trace) (d:List Nat):Prop where
 len:d.length=t.procs.l.length
 le:∀(p k:Nat) P,d[p]? = some k→t.procs.l[p]? = some P→k≤P.events.l.length
 acc:∀(p k j:Nat),d[p]? = some k→j<k→Acc (Edge t) ⟨p,j+1⟩
def lF (t:Trace):Nat:=(t.procs.l.map fun P=>P.events.l.length).sum
theorem Kh.sum {t:Trace} {d:List Nat} (h:Kh t d):d.sum≤lF t:=HK (by simp[h.len]) fun i a b ha hb=>by
 rw[List.getElem?_map]at hb
 cases hP:t.procs.l[i]? with
 | none=>simp[hP]at hb
 | some P=>simp[hP]at hb;rw[←hb];exact h.le i a P ha hP
theorem zM {d:List Nat} {p:Nat} (h:p<d.length):Sl.mN (.row (nI d)) (p:Int)=some p:=by
 unfold Sl.mN;rw[if_pos ⟨by omega,by simpa [Sl.l,Ip]using h⟩];rfl
theorem wk {d:List Nat} {p k:Nat} (h:d[p]? = some k):Sl.get (.row (nI d)) p=some (k:Int):=by
 unfold Sl.get nI;rw[show (Sl.row (d.map Int.ofNat)).l=d.map Int.ofNat from rfl,List.getElem?_map,h];rfl
def Mv (t:Trace) (d0:List Nat) (s:Sl Int) (b:Bool) (d:List Nat):Prop:=s=.row (nI d)∧Kh t d∧d0.sum≤d.sum∧(b=true→d0.sum<d.sum)
def KQ (t:Trace) (d0:List Nat) (p:Nat) (w:Fw (Sl Int×Bool×Int) (Sl Int×Bool) Empty):Prop:=∃s' b' d',w=.n (s',b',((p+1:Nat):Int))∧Mv t d0 s' b' d'
theorem MK {t:Trace} (hS:Small t) (hF:∀x∈aO t,gw t.procs.l.length x.1.proc x.2) (hP:uC t) {d0 d1:List Nat} {s:Sl Int} {b:Bool} {p:Nat} (hp:p<t.procs.l.length) (hM:Mv t d0 s b d1) :
 Wp (bV.W3 s b p t) (KQ t d0 p):=by
 have hix:=aP hp;have hn:=hS.1;have hPl:=(hS.2 _ (List.getElem_mem hp)).1;have hPg:=ζd hp;generalize t.procs.l[p]=P at *;unfold bV.W3;refine cO (fun q:Sl Int×Bool=>∃d,Mv t d0 q.1 q.2 d) (fun q=>lF t-sI q.1) ⟨d1,hM⟩ ?_
 rintro⟨s,b⟩ ⟨d,rfl,hK,hd,hb⟩;simp only at hb;have hpd:p<d.length:=by rw[hK.len];exact hp
 have hg:=ζd hpd;generalize d[p]=k at hg;have hkl:=hK.le p k P hg hPg;have stop:∀{pr:Empty→Prop},Wp (some (Fw.x (Sl.row (nI d),b))) (LX (fun q:Sl Int×Bool=>∃d,Mv t d0 q.1 q.2 d) (fun q=>lF t-sI q.1) (fun e=>Wp (some (Fw.n (e.1,e.2,IntKind.wrap .i64 ((p:Int)+1)))) (KQ t d0 p)) pr (Sl.row (nI d),b)):=by
  refine(af _).2 ((af _).2 ⟨_,_,d,?_,rfl,hK,hd,hb⟩);rw[bR p (by omega)]
 unfold bV.dK;rw[zM hpd,ζb,wk hg,ζb,hix,ζb,aH];refine⟨fun h=>?_,fun _=>stop⟩
 have hlt:k<P.events.l.length:=by simpa [Go.VE.len]using h
 have hat:iF t p k P.events.l[k]:=⟨P,hPg,ζd hlt⟩;have hmem:((⟨p,k+1⟩:aa),P.events.l[k])∈aO t:=cm.2 ⟨p,k,hat,rfl⟩;have go:(P.events.l[k].kind=3→∀q j:Nat,eN t 2 P.events.l[k].message=⟨q,j+1⟩→∃k',d[q]? = some k'∧j<k')→∀{px:Sl Int×Bool→Prop} {pr:Empty→Prop},Wp (bV.J4 (.row (nI d)) p t) (LX (fun q:Sl Int×Bool=>∃d,Mv t d0 q.1 q.2 d) (fun q=>lF t-sI q.1) px pr (Sl.row (nI d),b)):=by
  intro hq px pr;unfold bV.J4;rw[zM hpd,ζb,wk hg,ζb,ζb];unfold Sl.put;rw[if_pos (by simpa [Sl.l,Ip]using hpd),ζb,af]
  have hset:(nI d).set p (IntKind.wrap .i64 ((k:Int)+1))=nI (d.set p (k+1)):=by
   rw[bR k (by omega)];unfold nI;rw[List.map_set];rfl
  have hsum:=ET hg;have hK2:Kh t (d.set p (k+1)):=by
   refine⟨by simp[hK.len],fun q i Q hi hQ=>?_,fun q i j hi hj=>?_⟩
   ·rw[List.getElem?_set]at hi;split at hi
    ·rename_i e;subst e;cases hi;rw[hPg]at hQ;cases hQ;omega
    ·exact hK.le q i Q hi hQ
   ·rw[List.getElem?_set]at hi;split at hi
    ·rename_i e;subst e;cases hi
     by_cases hjk:j<k
     ·exact hK.acc p k j hg hjk
     ·have:j=k:=by omega
      subst this;refine Acc.intro _ fun y hy=>?_
      obtain⟨hyv,_,he|he⟩:=hy
      ·obtain⟨q,i,f,_,rfl,_⟩:=hyv.at_;simp only[aa.mk.injEq]at he;have e1:q=p:=by omega
       subst e1;exact hK.acc q j i hg (by omega)
      ·obtain⟨h3,hf⟩:=he.find hF hP hmem;obtain⟨q,i,f,_,rfl,_⟩:=hyv.at_;obtain⟨k',hk',hik⟩:=hq h3 q i hf;exact hK.acc q k' i hk' hik
    ·exact hK.acc q i j hi hj
  have hs2:=hK2.sum;refine⟨⟨_,by rw[←hset],hK2,by rw[hsum];omega,fun _=>by rw[hsum];omega⟩,?_⟩
  show lF t-sI (.row ((nI d).set p (IntKind.wrap .i64 ((k:Int)+1))))<lF t-sI (.row (nI d));rw[hset,Ce,Ce,hsum];rw[hsum]at hs2;omega
 dsimp only;rw[ζb,ζb,wk hg,ζb,aP hlt,ζb,aH];refine⟨fun h3=>?_,fun h3=>go fun h=>by simp[h]at h3⟩
 have h3:P.events.l[k].kind=3:=by simpa using h3
 obtain⟨e,a1,a2,a3⟩:=uz hF hP hmem h3;obtain⟨q,j,hat2,hqj⟩:=cm.1 a1;simp only at hqj;have hqd:q<d.length:=by
  obtain⟨Q,hQ,_⟩:=hat2;rw[hK.len];exact(ζe.1 hQ).1
 have hgq:=ζd hqd;rw[find_eq hS,ζb,hqj,zM hqd,ζb,wk hgq,ζb,aH];refine⟨fun _=>stop,fun h=>go fun _ q' j' hh=>?_⟩
 rw[hqj]at hh;simp only[aa.mk.injEq]at hh;have e1:q'=q:=by omega
 have e2:j'=j:=by omega
 subst e1 e2;exact⟨_,hgq,by simp at h;omega⟩
theorem FH {t:Trace} (hS:Small t) (hF:∀x∈aO t,gw t.procs.l.length x.1.proc x.2) (hP:uC t):Wp (bV t) fun b=>b=true→¬Ff t:=by
 have hn:=hS.1;unfold bV nJ;rw[if_pos (by simp[len];omega),ζb]
 have h0:(Sl.row (List.replicate (len t.procs).toNat (0:Int)))=.row (nI (List.replicate t.procs.l.length 0)):=by simp[len,nI]
 rw[h0];unfold bV.W1;have hrep:∀(p k:Nat),(List.replicate t.procs.l.length 0)[p]? = some k→k=0:=fun p k h=>by
  rw[List.getElem?_replicate]at h;split at h <;> simp at h;exact h.symm
 refine cO (fun s:Sl Int=>∃d,s=.row (nI d)∧Kh t d) (fun s=>lF t-sI s) ⟨_,rfl,by simp,fun p k P h _=>by rw[hrep p k h];omega,fun p k j h hj=>by rw[hrep p k h]at hj;omega⟩ ?_
 rintro s ⟨d0,rfl,hK⟩;unfold bV.aA bV.W2;refine cO (fun q:Sl Int×Bool×Int=>∃(n:Nat) (d:List Nat),q.2.2=n∧n≤t.procs.l.length∧Mv t d0 q.1 q.2.1 d) (fun q=>t.procs.l.length-q.2.2.toNat) ⟨0,d0,rfl,Nat.zero_le _,rfl,hK,Nat.le_refl _,by simp⟩ ?_
 rintro⟨s,b,i⟩ ⟨n,d,hi,hnn,hM⟩;simp only at hi hM;subst hi;unfold bV.bu;rw[aH];constructor
 ·intro h;have hlt:n<t.procs.l.length:=by simpa [len]using h
  refine(MK hS hF hP hlt hM).mono ?_;rintro w ⟨s',b',d',rfl,hM'⟩;exact⟨⟨n+1,d',rfl,by omega,hM'⟩,by simp;omega⟩
 ·intro _;obtain⟨rfl,hK',hle,hmv⟩:=hM;rw[af];show Wp (au b _ _) _;rw[aH];refine⟨fun hb=>(af _).2 ⟨⟨d,rfl,hK'⟩,?_⟩,fun _=>(af _).2 ?_⟩
  ·show lF t-sI (.row (nI d))<lF t-sI (.row (nI d0));rw[Ce,Ce];have:=hmv hb;have:=hK'.sum;omega
  ·show Wp (bV.W5 (.row (nI d)) 0 t) _;unfold bV.W5;refine cO (fun i:Int=>∃n:Nat,i=n∧n≤t.procs.l.length∧∀p,p<n→∀P,t.procs.l[p]? = some P→d[p]? = some P.events.l.length) (fun i:Int=>t.procs.l.length-i.toNat) ⟨0,rfl,Nat.zero_le _,fun p hp=>absurd hp (by omega)⟩ ?_
   rintro i ⟨n,rfl,hn',hh⟩;unfold bV.uk;rw[aH];constructor
   ·intro h;have hlt:n<t.procs.l.length:=by simpa [len]using h
    have hnd:n<d.length:=by rw[hK'.len];exact hlt
    have hg:=ζd hnd;rw[zM hnd,ζb,wk hg,ζb,aP hlt,ζb,aH];refine⟨fun _=>(af _).2 ((af _).2 fun h=>by cases h),fun h=>(af _).2 ⟨⟨n+1,bR n (by omega),by omega,fun p hp P hP=>?_⟩,by rw[bR n (by omega)];simp;omega⟩⟩
    by_cases e:p=n
    ·subst e;rw[ζd hlt]at hP;cases hP;have:=hK'.le p _ _ hg (ζd hlt);simp[len]at h;rw[hg];congr 1;omega
    ·exact hh p (by omega) P hP
   ·intro h;have hge:t.procs.l.length≤n:=by simpa [len]using h
    refine(af _).2 ((af _).2 fun _ ⟨x,hx⟩=>?_)
    obtain⟨p,k,e,⟨P,hP,he⟩,rfl,_⟩:=hx.l.at_;have hpl:=(ζe.1 hP).1;exact PD (hK'.acc p _ k (hh p (by omega) P hP) (ζe.1 he).1) hx
end Go.VE
namespace Go.VE
def nH (out:List (List Bool)) (y:aa):Bool:=match out[y.proc.toNat]? with
 | some row=>row[y.index.toNat]?.getD false
 | none=>false
theorem wE {t:Trace} {out:List (List Bool)} {p k:Nat} {row:List Bool} (hr:out[p]? = some row) (hk:k+1<row.length) {z:aa} (hz:Vd t z) :
 nH (out.set p (row.set (k+1) true)) z=(decide (z=⟨p,k+1⟩)||nH out z):=by
 obtain⟨q,j,e,_,rfl,_⟩:=hz.at_;have hp:=(ζe.1 hr).1;unfold nH;have e1:(⟨(q:Int),(j:Int)+1⟩:aa).proc.toNat=q:=rfl;have e2:(⟨(q:Int),(j:Int)+1⟩:aa).index.toNat=j+1:=by show ((j:Int)+1).toNat=j+1;omega
 rw[e1,e2,List.getElem?_set]
 by_cases hpq:p=q
 ·subst hpq;rw[if_pos rfl,if_pos hp,hr];dsimp only;rw[List.getElem?_set]
  by_cases hkj:k=j
  ·subst hkj;simp[hk]
  ·rw[if_neg (by omega),show decide ((⟨(p:Int),(j:Int)+1⟩:aa)=⟨p,k+1⟩)=false from by simp;omega,Bool.false_or]
 ·rw[if_neg hpq,show decide ((⟨(q:Int),(j:Int)+1⟩:aa)=⟨p,k+1⟩)=false from by simp;omega,Bool.false_or]
theorem wY {α:Type} {f g:α→Bool}:∀{l:List α},(∀z∈l,f z=true→g z=true)→(∃z∈l,f z=false∧g z=true)→l.countP f<l.countP g
 | [],_,⟨z,hz,_⟩=>by simp at hz
 | a::l,h,⟨z,hz,hf,hg⟩=>by
  simp only[List.countP_cons];have hle:=List.countP_mono_left (l:=l) (p:=f) (q:=g) fun x hx=>h x (List.mem_cons_of_mem _ hx)
  rcases List.mem_cons.1 hz with rfl|hz
  ·simp[hf,hg];omega
  ·have:=wY (l:=l) (fun x hx=>h x (List.mem_cons_of_mem _ hx)) ⟨z,hz,hf,hg⟩
   have h1:=h a (List.mem_cons_self ..)
   cases hfa:f a with
   | true=>simp[h1 hfa];omega
   | false=>simp;split <;> omega
def cnt (t:Trace) (out:List (List Bool)):Nat:=(aO t).countP fun z=>nH out z.1
structure Tf (t:Trace) (x:aa) (out:List (List Bool)) (rest:List aa):Prop where
 shp:∀(p:Nat) P,t.procs.l[p]? = some P→∃row,out[p]? = some row∧row.length=P.events.l.length+1
 len:out.length=t.procs.l.length
 que:∀y∈rest,Way t y x
 snd:∀y,Vd t y→nH out y=true→Way t y x
 cls:∀z,z=x∨Vd t z∧nH out z=true→∀y,Edge t y z→nH out y=true∨y∈rest
 le:rest.length≤2*cnt t out+2
theorem xR {t:Trace} {y:aa}:nH (eS t) y=false:=by
 unfold nH eS;split
 ·rename_i row h;rw[List.getElem?_map]at h
  cases hP:t.procs.l[y.proc.toNat]? with
  | none=>simp[hP]at h
  | some P=>
   simp[hP]at h;subst h;rw[List.getElem?_replicate];split <;> rfl
 ·rfl
theorem Ml {t:Trace} (hS:Small t) (hN:(aO t).length<1073741824) (hF:∀x∈aO t,gw t.procs.l.length x.1.proc x.2) (hP:uC t) {x:aa} (hx:Vd t x) :
 Wp (kn t x) fun s=>∃out,s=nested out∧Tf t x out []∧∀y,Vd t y→(nH out y=true↔Way t y x):=by
 unfold kn;rw[if_pos (by
  unfold wT;simp only[ζh,List.all_eq_true,decide_eq_true_eq];exact⟨by have:=hS.1;omega,fun P hP=>by have:=(hS.2 P hP).1;omega⟩),bt]
 refine(yj hS hF hP hx).mono fun s hs=>?_
 refine cO (fun q:List (List Bool)×List aa=>Tf t x q.1 q.2) (fun q=>2*((aO t).length-cnt t q.1)+q.2.length) ⟨fun p P hP=>⟨List.replicate (P.events.l.length+1) false,by simp[eS,hP],by simp⟩,by simp[eS],fun y hy=>.single ((hs.2 y).1 hy),fun y _ h=>(by rw[xR]at h;cases h),fun z hz y hy=>?_,by have:=hs.1;show s.l.length≤2*cnt t (eS t)+2;omega⟩ ?_
 ·rcases hz with rfl|⟨_,h⟩
  ·exact .inr ((hs.2 y).2 hy)
  ·rw[xR]at h;cases h
 rintro⟨out,rest⟩ hI
 cases rest with
 | nil=>
  show Wp (some _) _;refine(af _).2 ((af _).2 ⟨out,rfl,hI,fun y hy=>⟨hI.snd y hy,fun hw=>?_⟩⟩)
  have key:∀w,Way t y w→w=x∨Vd t w∧nH out w=true→nH out y=true:=fun w hw=>by
   induction hw with
   | single h=>exact fun hw=>(hI.cls _ hw _ h).elim id fun h=>by cases h
   | tail hyb hbw ih=>exact fun hw=>ih (.inr ⟨hbw.1,(hI.cls _ hw _ hbw).elim id fun h=>by cases h⟩)
  exact key x hw (.inl rfl)
 | cons y rest=>
  have hyw:=hI.que y (List.mem_cons_self ..);have hyv:=hyw.l;obtain⟨p,k,e,hat,rfl,hmem⟩:=hyv.at_;obtain⟨P,hPp,hk⟩:=hat;have hkl:=(ζe.1 hk).1;obtain⟨row,hr,hrl⟩:=hI.shp p P hPp;have hkr:k+1<row.length:=by omega
  show Wp (kR _ (out,⟨p,k+1⟩::rest)) _;unfold kR;have e2:((k:Int)+1).toNat=k+1:=by omega
  dsimp only;rw[if_pos ⟨by omega,by omega⟩,show ((p:Nat):Int).toNat=p from rfl,e2,hr,ζb,ζd hkr,ζb,aH]
  have hmk:nH out ⟨p,k+1⟩=row[k+1]:=by
   unfold nH;rw[show ((⟨(p:Int),(k:Int)+1⟩:aa).proc).toNat=p from rfl,hr];dsimp only;rw[e2,ζd hkr];rfl
  constructor
  ·intro hb;rw[af];refine⟨⟨hI.shp,hI.len,fun y hy=>hI.que y (List.mem_cons_of_mem _ hy),hI.snd,fun z hz y hy=>?_,by have:=hI.le;simp only[List.length_cons]at this;show rest.length≤2*cnt t out+2;omega⟩,Nat.add_lt_add_left (Nat.lt_succ_self _) _⟩
   rcases hI.cls z hz y hy with h|h
   ·exact .inl h
   ·rcases List.mem_cons.1 h with rfl|h
    ·exact .inl (by rw[hmk];exact hb)
    ·exact .inr h
  ·intro hb;rw[bt];refine(yj hS hF hP hyv).mono fun more hm=>?_
   have hle:=hI.le;simp only[List.length_cons]at hle;have hcl:cnt t out≤(aO t).length:=List.countP_le_length;have hm1:=hm.1;have hlt:cnt t out<cnt t (out.set p (row.set (k+1) true)):=wY (fun z hz h=>by rw[wE hr hkr ⟨_,hz⟩,h,Bool.or_true]) ⟨_,hmem,by rw[hmk,hb],by rw[wE hr hkr hyv];simp⟩
   have hcl2:cnt t (out.set p (row.set (k+1) true))≤(aO t).length:=List.countP_le_length;rw[if_pos (by omega),af]
   refine⟨⟨fun q Q hQ=>?_,by show (out.set _ _).length=_;rw[List.length_set];exact hI.len,fun z hz=>?_,fun z hz h=>?_,fun z hz y hy=>?_,by show (rest++more.l).length≤_;rw[ζi];show _≤2*cnt t (out.set p (row.set (k+1) true))+2;omega⟩,?_⟩
   ·show ∃r,(out.set p (row.set (k+1) true))[q]? = some r∧_;rw[List.getElem?_set];split
    ·rename_i e;subst e;rw[if_pos (ζe.1 hr).1];rw[hPp]at hQ;cases hQ;exact⟨_,rfl,by simp[hrl]⟩
    ·exact hI.shp q Q hQ
   ·rcases List.mem_append.1 hz with hz|hz
    ·exact hI.que z (List.mem_cons_of_mem _ hz)
    ·exact .trans (.single ((hm.2 z).1 hz)) hyw
   ·show Way t z x;have h:nH (out.set p (row.set (k+1) true)) z=true:=h;rw[wE hr hkr hz]at h;simp only[Bool.or_eq_true,decide_eq_true_eq]at h;rcases h with rfl|h
    ·exact hyw
    ·exact hI.snd z hz h
   ·show nH (out.set p (row.set (k+1) true)) y=true∨y∈rest++more.l;rw[wE hr hkr hy.1];have old:z=x∨Vd t z∧nH out z=true→(decide (y=⟨p,k+1⟩)||nH out y)=true∨y∈rest++more.l:=fun hz=>by
     rcases hI.cls z hz y hy with h|h
     ·exact .inl (by rw[show nH out y=true from h,Bool.or_true])
     ·rcases List.mem_cons.1 h with rfl|h
      ·exact .inl (by simp)
      ·exact .inr (List.mem_append_left _ h)
    rcases hz with hz|⟨hzv,hz⟩
    ·exact old (.inl hz)
    ·have hz:nH (out.set p (row.set (k+1) true)) z=true:=hz;rw[wE hr hkr hzv]at hz;simp only[Bool.or_eq_true,decide_eq_true_eq]at hz;rcases hz with rfl|hz
     ·exact .inr (List.mem_append_right _ ((hm.2 y).2 hy))
     ·exact old (.inr ⟨hzv,hz⟩)
   ·show 2*((aO t).length-cnt t (out.set p (row.set (k+1) true)))+(rest++more.l).length<2*((aO t).length-cnt t out)+(_::rest).length;rw[ζi,List.length_cons];omega
theorem RU {t:Trace} (hS:Small t) (hN:(aO t).length<1073741824) (hF:∀x∈aO t,gw t.procs.l.length x.1.proc x.2) (hP:uC t):Wp (bO.W6 0 t ⟨0,0⟩) fun r=>(r.2=0↔¬Ff t):=by
 have hn:=hS.1;unfold bO.W6;refine cO (fun i:Int=>∃n:Nat,i=n∧n≤t.procs.l.length∧∀(p k:Nat) e,p<n→iF t p k e→¬Way t ⟨p,k+1⟩ ⟨p,k+1⟩) (fun i:Int=>t.procs.l.length-i.toNat) ⟨0,rfl,Nat.zero_le _,fun p k e hp=>absurd hp (by omega)⟩ ?_
 rintro i ⟨n,rfl,hnn,hh⟩;unfold bO.Fj;rw[aH];constructor
 ·intro h;have hlt:n<t.procs.l.length:=by simpa [len]using h
  have hix:=aP hlt;have hPg:=ζd hlt;have hPl:=(hS.2 _ (List.getElem_mem hlt)).1;generalize t.procs.l[n]=P at *;unfold bO.W7;refine cO (fun i:Int=>∃m:Nat,i=m∧m≤P.events.l.length∧∀k,k<m→¬Way t ⟨n,k+1⟩ ⟨n,k+1⟩) (fun i:Int=>P.events.l.length-i.toNat) ⟨0,rfl,Nat.zero_le _,fun k hk=>absurd hk (by omega)⟩ ?_
  rintro i ⟨m,rfl,hm,hk⟩;unfold bO.E0;rw[hix,ζb,aH];constructor
  ·intro h;have hml:m<P.events.l.length:=by simpa [len]using h
   have hw:=bR m (by omega)
   have hv:Vd t ⟨n,m+1⟩:=⟨P.events.l[m],cm.2 ⟨n,m,⟨P,hPg,ζd hml⟩,rfl⟩⟩;rw[hw,show (((m+1:Nat)):Int)=(m:Int)+1 from by simp,bt]
   refine(Ml hS hN hF hP hv).mono ?_;rintro s ⟨out,rfl,hI,hmk⟩;obtain⟨row,hr,hrl⟩:=hI.shp n P hPg;have hon:out≠[]:=by rintro rfl;cases hr
   have hkr:m+1<row.length:=by omega
   have h1:idx (nested out) (n:Int)=some (.row row):=by
    unfold nested;rw[if_neg hon,kX];show (out.map Sl.row)[n]? = _;rw[List.getElem?_map,hr];rfl
   have h2:idx (Sl.row row) ((m:Int)+1)=some row[m+1]:=by
    rw[show (m:Int)+1=((m+1:Nat):Int)from by simp]
    exact aP (s:=Sl.row row) hkr
   rw[h1,ζb,h2,ζb,aH];have hb:row[m+1]=nH out ⟨n,m+1⟩:=by
    unfold nH;rw[show ((⟨(n:Int),(m:Int)+1⟩:aa).proc).toNat=n from rfl,hr];dsimp only;rw[show ((m:Int)+1).toNat=m+1 from by omega,ζd hkr];rfl
   rw[hb];refine⟨fun hy=>(af _).2 ((af _).2 ((af _).2 ⟨fun h=>(by cases h),fun h=>absurd ⟨_,(hmk _ hv).1 hy⟩ h⟩)),fun hy=>(af _).2 ⟨⟨m+1,by simp,by omega,fun k hkm=>?_⟩,by simp;omega⟩⟩
   by_cases e:k=m
   ·subst e;exact fun hw=>by rw[(hmk _ hv).2 hw]at hy;cases hy
   ·exact hk k (by omega)
  ·intro h;have hge:P.events.l.length≤m:=by simpa [len]using h
   refine(af _).2 ((af _).2 ⟨⟨n+1,bR n (by omega),by omega,fun p k e hp hat=>?_⟩,by rw[bR n (by omega)];simp;omega⟩)
   by_cases e:p=n
   ·subst e;obtain⟨Q,hQ,he⟩:=hat;rw[hPg]at hQ;cases hQ;have:=(ζe.1 he).1;exact hk k (by omega)
   ·exact hh p k _ (by omega) hat
 ·intro h;have hge:t.procs.l.length≤n:=by simpa [len]using h
  refine(af _).2 ((af _).2 ⟨fun _ ⟨x,hx⟩=>?_,fun _=>rfl⟩)
  obtain⟨p,k,e,hat,rfl,_⟩:=hx.l.at_;obtain⟨P,hP,_⟩:=id hat;exact hh p k e (by have:=(ζe.1 hP).1;omega) hat hx
end Go.VE
namespace Go.VE
theorem CT {t:Trace} (hF:∀x∈aO t,gw t.procs.l.length x.1.proc x.2):(∀(p k:Nat) e,iF t p k e→rO t (⟨p,k+1⟩,e)=0)↔uC t:=
 Iff.trans ⟨fun h x hx=>by obtain⟨p,k,h1,h2⟩:=cm.1 hx;obtain⟨a,e⟩:=x;simp only at h1 h2;rw[h2];exact h p k e h1,fun h p k e ha=>h _ (cm.2 ⟨p,k,ha,rfl⟩)⟩ (FP hF)
theorem HX {t:Trace} (hS:Small t) (hN:(aO t).length<1073741824):Wp (bO t) fun r=>(r.2=0↔Ok t):=by
 have hn:=hS.1;unfold bO;rw[gV,ζb,aH];refine⟨fun hin=>(af _).2 ⟨fun h=>(by cases h),fun h=>?_⟩,fun hin=>?_⟩
 ·have h1:=h.one;have h8:=h.few;simp only[Bool.or_eq_true,decide_eq_true_eq,len]at hin;omega
 have h8:1≤t.procs.l.length∧t.procs.l.length≤8:=by
  simp only[Bool.or_eq_false_iff,decide_eq_false_iff_not,len]at hin;omega
 unfold bO.W1;refine cO (fun i:Int=>∃n:Nat,i=n∧n≤t.procs.l.length∧∀p,p<n→o5 t p=0) (fun i:Int=>t.procs.l.length-i.toNat) ⟨0,rfl,Nat.zero_le _,fun p hp=>absurd hp (by omega)⟩ ?_
 rintro i ⟨n,rfl,hnn,hh⟩;unfold bO.aA;rw[aH];constructor
 ·intro h;have hlt:n<t.procs.l.length:=by simpa [len]using h
  rw[Lg hS hlt,ζb,aH];refine⟨fun h0=>(af _).2 ⟨⟨n+1,bR n (by omega),by omega,fun p hp=>?_⟩,by rw[bR n (by omega)];simp;omega⟩,fun h0=>(af _).2 ((af _).2 ⟨fun h=>?_,fun h=>?_⟩)⟩
  ·by_cases e:p=n
   ·subst e;simpa using h0
   ·exact hh p (by omega)
  ·simp only at h;simp[h]at h0
  ·simp[h.heads n hlt]at h0
 intro h;have hge:t.procs.l.length≤n:=by simpa [len]using h
 rw[af];unfold bO.W2;refine cO (fun i:Int=>∃n:Nat,i=n∧n≤t.procs.l.length∧∀(p k:Nat) P e,p<n→t.procs.l[p]? = some P→P.events.l[k]? = some e→mq t.procs.l.length P p k e=0) (fun i:Int=>t.procs.l.length-i.toNat) ⟨0,rfl,Nat.zero_le _,fun p k P e hp=>absurd hp (by omega)⟩ ?_
 rintro i ⟨n',rfl,hnn',he⟩;unfold bO.bu;rw[aH];constructor
 ·intro h;have hlt:n'<t.procs.l.length:=by simpa [len]using h
  have hix:=aP hlt;have hPg:=ζd hlt;have hPl:=(hS.2 _ (List.getElem_mem hlt)).1;generalize t.procs.l[n']=P at hix hPg hPl;unfold bO.W3;refine cO (fun i:Int=>∃m:Nat,i=m∧m≤P.events.l.length∧∀(k:Nat) e,k<m→P.events.l[k]? = some e→mq t.procs.l.length P n' k e=0) (fun i:Int=>P.events.l.length-i.toNat) ⟨0,rfl,Nat.zero_le _,fun k e hk=>absurd hk (by omega)⟩ ?_
  rintro i ⟨m,rfl,hm,hk⟩;unfold bO.dK;rw[hix,ζb,aH];constructor
  ·intro h;have hml:m<P.events.l.length:=by simpa [len]using h
   have hmg:=ζd hml;have hw:=bR m (by omega)
   rw[Ka hS hPg hmg,ζb,aH];refine⟨fun h0=>(af _).2 ⟨⟨m+1,hw,by omega,fun k e hkm hke=>?_⟩,by rw[hw];simp;omega⟩,fun h0=>(af _).2 ((af _).2 ((af _).2 ⟨fun h=>?_,fun h=>?_⟩))⟩
   ·by_cases ek:k=m
    ·subst ek;rw[hmg]at hke;cases hke;simpa using h0
    ·exact hk k e (by omega) hke
   ·simp only at h;simp[h]at h0
   ·simp[h.eT n' m P _ hPg hmg]at h0
  ·intro h;have hge':P.events.l.length≤m:=by simpa [len]using h
   refine(af _).2 ((af _).2 ⟨⟨n'+1,bR n' (by omega),by omega,fun p k Q e hp hQ hke=>?_⟩,by rw[bR n' (by omega)];simp;omega⟩)
   by_cases ep:p=n'
   ·subst ep;rw[hPg]at hQ;cases hQ;exact hk k e (by have:=(ζe.1 hke).1;omega) hke
   ·exact he p k Q e (by omega) hQ hke
 intro h;have hge':t.procs.l.length≤n':=by simpa [len]using h
 have he:∀(p k:Nat) P e,t.procs.l[p]? = some P→P.events.l[k]? = some e→mq t.procs.l.length P p k e=0:=fun p k P e hP hk=>he p k P e (by have:=(ζe.1 hP).1;omega) hP hk
 have hF:=BP he;rw[af];unfold bO.W4;refine cO (fun i:Int=>∃n:Nat,i=n∧n≤t.procs.l.length∧∀(p k:Nat) e,p<n→iF t p k e→rO t (⟨p,k+1⟩,e)=0) (fun i:Int=>t.procs.l.length-i.toNat) ⟨0,rfl,Nat.zero_le _,fun p k e hp=>absurd hp (by omega)⟩ ?_
 rintro i ⟨q,rfl,hq,hpr⟩;unfold bO.ED;rw[aH];constructor
 ·intro h;have hlt:q<t.procs.l.length:=by simpa [len]using h
  have hix:=aP hlt;have hPg:=ζd hlt;have hPl:=(hS.2 _ (List.getElem_mem hlt)).1;generalize t.procs.l[q]=P at hix hPg hPl;unfold bO.W5;refine cO (fun i:Int=>∃m:Nat,i=m∧m≤P.events.l.length∧∀(k:Nat) e,k<m→P.events.l[k]? = some e→rO t (⟨q,k+1⟩,e)=0) (fun i:Int=>P.events.l.length-i.toNat) ⟨0,rfl,Nat.zero_le _,fun k e hk=>absurd hk (by omega)⟩ ?_
  rintro i ⟨m,rfl,hm,hk⟩;unfold bO.uk;rw[hix,ζb,aH];constructor
  ·intro h;have hml:m<P.events.l.length:=by simpa [len]using h
   have hmg:=ζd hml;have hw:=bR m (by omega)
   have hat:iF t q m P.events.l[m]:=⟨P,hPg,hmg⟩;rw[hw,show (((m+1:Nat)):Int)=(m:Int)+1 from by simp,IB hS hat (hF (⟨q,m+1⟩,P.events.l[m]) (cm.2 ⟨q,m,hat,rfl⟩)),ζb,aH]
   refine⟨fun h0=>(af _).2 ⟨⟨m+1,by simp,by omega,fun k e hkm hke=>?_⟩,by simp;omega⟩,fun h0=>(af _).2 ((af _).2 ((af _).2 ⟨fun h=>?_,fun h=>?_⟩))⟩
   ·by_cases ek:k=m
    ·subst ek;rw[hmg]at hke;cases hke;simpa using h0
    ·exact hk k e (by omega) hke
   ·simp only at h;simp[h]at h0
   ·simp[(CT hF).2 h.wO q m _ hat]at h0
  ·intro h;have hge':P.events.l.length≤m:=by simpa [len]using h
   refine(af _).2 ((af _).2 ⟨⟨q+1,bR q (by omega),by omega,fun p k e hp hat=>?_⟩,by rw[bR q (by omega)];simp;omega⟩)
   by_cases ep:p=q
   ·subst ep;obtain⟨Q,hQ,hke⟩:=hat;rw[hPg]at hQ;cases hQ;exact hk k e (by have:=(ζe.1 hke).1;omega) hke
   ·exact hpr p k e (by omega) hat
 intro h;have hgq:t.procs.l.length≤q:=by simpa [len]using h
 have hP:uC t:=(CT hF).1 fun p k e hat=>hpr p k e (by obtain⟨P,hP,_⟩:=hat;have:=(ζe.1 hP).1;omega) hat
 have hok:¬Ff t↔Ok t:=⟨fun h=>⟨h8.1,h8.2,fun p hp=>hh p (by omega),he,hP,h⟩,fun h=>h.acyc⟩
 rw[af,bt];refine(FH hS hF hP).mono fun b hb=>?_
 rw[aH];exact⟨fun h=>(af _).2 ⟨fun _=>hok.1 (hb h),fun _=>rfl⟩,fun _=>(RU hS hN hF hP).mono fun r hr=>hr.trans hok⟩
theorem Ht {t:Trace} (hS:Small t) (hN:(aO t).length<1073741824):∃b,ct t=some b∧mD t=some b∧(b=true→VT t):=by
 obtain⟨b,hb,h1,h2⟩:=J7 hS hN;refine⟨b,hb,?_,h1⟩;unfold mD;obtain⟨r,hr,h3⟩:=HX hS hN;rw[hr,ζb]
 congr 1
 rw[Bool.eq_iff_iff,beq_iff_eq,h3];exact⟨h2,fun h=>(h1 h).ok⟩
end Go.VE
namespace Go.VE
theorem Jy {t:Trace} (hS:Small t) {c:Sl Int} (hcl:c.l.length=t.procs.l.length) {step:Int→Option (Fw Int Unit Unit)}
 (hs:∀i,step i=au (decide (i<(len c))) ((idx c i).bind fun x_1=>(au (decide (x_1<0)) (some true) ((idx c i).bind fun x_2=>(idx t.procs i).bind fun x_3=>some (decide (x_2>(len x_3.events)))):Option Bool).bind fun x_4=>au x_4 (some (.r ())) (some (.n (IntKind.wrap .i64 (i+1))))) (some (.x ()))) :
 Wp ((aX step 0).bind (Fw.elim (fun _=>some true) (fun _=>some false))) fun b=>(b=true↔kK t c.l):=by
 have h1:=hS.1;refine cO (fun s:Int=>∃n:Nat,s=n∧n≤c.l.length∧∀(p:Nat) (a:Int) (P:bl),p<n→c.l[p]? = some a→t.procs.l[p]? = some P→0≤a∧a≤P.events.l.length) (fun s:Int=>c.l.length-s.toNat) ⟨0,rfl,Nat.zero_le _,fun p a P h=>absurd h (by omega)⟩ ?_
 rintro s ⟨n,rfl,hn,hI⟩;rw[hs,aH];constructor
 ·intro h;have hlt:n<c.l.length:=by simpa [len]using h
  have hlt2:n<t.procs.l.length:=by omega
  have hw:=bR n (by omega)
  rw[aP hlt,ζb,ζb,aP hlt2,ζb,gV,ζb,aH];constructor
  ·intro hb;have hb:c.l[n]<0∨c.l[n]>t.procs.l[n].events.l.length:=by simpa [len]using hb
   refine(af _).2 ((af _).2 ⟨fun h=>(by cases h),fun hR=>?_⟩)
   have:=hR.2 n _ _ (ζd hlt) (ζd hlt2);omega
  ·intro hb;have hb:0≤c.l[n]∧c.l[n]≤t.procs.l[n].events.l.length:=by simpa [len]using hb
   refine(af _).2 ⟨⟨n+1,hw,by omega,fun p a P hp ha hP=>?_⟩,by rw[hw];simp;omega⟩
   by_cases e:p=n
   ·subst e;rw[ζd hlt]at ha;cases ha;rw[ζd hlt2]at hP;cases hP;exact hb
   ·exact hI p a P (by omega) ha hP
 ·intro h;have hge:c.l.length≤n:=by simpa [len]using h
  refine(af _).2 ((af _).2 ⟨fun _=>⟨hcl,fun p a P ha hP=>hI p a P (by have:=(ζe.1 ha).1;omega) ha hP⟩,fun _=>rfl⟩)
theorem Nd {t:Trace} (hS:Small t) {c:Sl Int} (hcl:c.l.length=t.procs.l.length):Wp (j7 t c) fun b=>(b=true↔kK t c.l):=by
 unfold j7;rw[show (len c==len t.procs)=true from by simp[len,hcl],a_]
 exact Jy hS hcl fun i=>rfl
theorem B0 {t:Trace} (hV:VT t) {A:bK 200 aK} (hM:eH t (aO t) A) {p k:Nat} {e:Event} (hat:iF t p k e) (hk:e.kind=3):eN t 2 e.message=(ag A e.message).from_:=by
 obtain⟨y,h1,h2,h3⟩:=uz hV.formed hV.ok.wO (cm.2 ⟨p,k,hat,rfl⟩:((⟨p,k+1⟩:aa),e)∈aO t) hk;have:=hM.snd _ h1 h2;simp only[h3]at this;exact this.symm
theorem Fi (t:Trace) (kind m:Int):eN t kind m=⟨0,0⟩∧(∀x∈aO t,¬(x.2.kind=kind∧x.2.message=m))∨∃z,(eN t kind m,z)∈aO t∧z.kind=kind∧z.message=m:=by
 cases h:(aO t).find? (iQ kind m)with
 | some x=>
  obtain⟨a1,a2,a3,a4⟩:=rN h;exact .inr ⟨x.2,by rw[a4];exact a1,a2,a3⟩
 | none=>
  rw[List.find?_eq_none]at h;have h':∀x∈aO t,¬(x.2.kind=kind∧x.2.message=m):=fun x hx=>by have:=h x hx;simpa [iQ]using this
  exact .inl ⟨FM h',h'⟩
theorem E4 {t:Trace} (hV:VT t) {r s:aa} {z e:Event} (hr:(r,z)∈aO t) (hz:z.kind=3) (hs:(s,e)∈aO t) (he:e.kind=2) (hm:e.message=z.message):e.peer=r.proc∧z.peer=s.proc:=by
 have h:=hV.ok.wO.has _ hr hz;have hp:0≤z.peer:=by
  rcases hV.formed _ hr with h|⟨_,h,_⟩
  ·simp only at h;omega
  ·exact h
 rw[show z.peer=((z.peer.toNat:Nat):Int)from by omega,vr]at h
 obtain⟨k,y,ha,h1,h2,h3⟩:=h;have hy:((⟨(z.peer.toNat:Nat),k+1⟩:aa),y)∈aO t:=cm.2 ⟨_,k,ha,rfl⟩;have:=hV.ok.wO.snd _ hy _ hs h1 he (by rw[hm];exact h2)
 simp only at this;subst this;cases vg hy hs rfl;exact⟨h3,by simp only;omega⟩
def n_ (t:Trace) (c:List Int) (e:Event):Bool:=(eN t 3 e.message).index==0||decide ((eN t 3 e.message).index>(c[(eN t 3 e.message).proc.toNat]?).getD 0)
theorem wq {α:Type} (f g:α→Bool):∀l:List α,l.countP f=l.countP (fun x=>f x&&g x)+l.countP (fun x=>f x && !g x)
 | []=>rfl
 | x::l=>by
  simp only[List.countP_cons,wq f g l];cases f x <;> cases g x <;> simp <;> omega
theorem qG {α:Type} {f:α→Bool} {l:List α} {n k:Nat}:k∈places f (l.take n)↔k<n∧∃x,l[k]? = some x∧f x=true:=by
 rw[pI];simp only[List.getElem?_take];constructor
 ·rintro⟨x,h1,h2⟩;split at h1
  ·exact⟨‹_›,x,h1,h2⟩
  ·cases h1
 ·rintro⟨h,x,h1,h2⟩;exact⟨x,by rw[if_pos h];exact h1,h2⟩
theorem M3 {t:Trace} (hV:VT t) {A:bK 200 aK} (hM:eH t (aO t) A) {c:List Int} (hC:Cons t A c) {p q:Nat} {P Q:bl} {a b:Int} (hP:t.procs.l[p]? = some P) (hQ:t.procs.l[q]? = some Q) (ha:c[p]? = some a) (hb:c[q]? = some b) :
 (Q.events.l.take b.toNat).countP (d_ p)=(P.events.l.take a.toNat).countP fun e=>dg q e && !n_ t c e:=by
 have mem:∀{p:Nat} {P:bl} {k:Nat} {e:Event},t.procs.l[p]? = some P→P.events.l[k]? = some e→((⟨p,k+1⟩:aa),e)∈aO t:=fun hP hk=>cm.2 ⟨_,_,⟨_,hP,hk⟩,rfl⟩
 have a0:=(hC.1.2 p a P ha hP).1;have b0:=(hC.1.2 q b Q hb hQ).1;have r1:∀k,k∈places (d_ p) (Q.events.l.take b.toNat)→∃(z:Event) (j:Nat) (e:Event),Q.events.l[k]? = some z∧z.kind=3∧P.events.l[j]? = some e∧e.kind=2∧e.peer=q∧e.message=z.message∧eN t 2 z.message=⟨p,j+1⟩∧(j:Int)+1≤a∧(k:Int)+1≤b:=fun k hk=>by
  obtain⟨hkb,z,h1,h2⟩:=qG.1 hk;have h2:z.kind=3∧z.peer=p:=by simpa [d_]using h2
  have hm:=mem hQ h1;obtain⟨e,e1,e2,e3⟩:=uz hV.formed hV.ok.wO hm h2.1;obtain⟨f1,f2⟩:=E4 hV hm h2.1 e1 e2 e3;obtain⟨p',j,⟨P',hP',hj⟩,hf⟩:=cm.1 e1;simp only at f1 hf hj;rw[hf]at f2;have hpp:p'=p:=by simp only at f2;omega
  subst hpp;rw[hP]at hP';cases hP';obtain⟨x,hx1,hx2⟩:=hC.2 q k z b ⟨Q,hQ,h1⟩ hb (by omega) h2.1
  rw[←B0 hV hM ⟨Q,hQ,h1⟩ h2.1,hf]at hx1 hx2;simp only[Int.toNat_natCast]at hx1 hx2;rw[ha]at hx1;cases hx1;exact⟨z,j,e,h1,h2.1,hj,e2,f1,e3,hf,hx2,by omega⟩
 have s1:∀k,k∈places (fun e=>dg q e && !n_ t c e) (P.events.l.take a.toNat)→∃(e:Event) (j:Nat) (z:Event),P.events.l[k]? = some e∧e.kind=2∧Q.events.l[j]? = some z∧z.kind=3∧z.peer=p∧z.message=e.message∧eN t 3 e.message=⟨q,j+1⟩∧(j:Int)+1≤b:=fun k hk=>by
  obtain⟨hka,e,h1,h2⟩:=qG.1 hk;simp only[ζh,Bool.not_eq_true',n_,Bool.or_eq_false_iff,dg,beq_iff_eq,beq_eq_false_iff_ne,decide_eq_false_iff_not]at h2;obtain⟨⟨g1,g2⟩,g3,g4⟩:=h2;rcases Fi t 3 e.message with⟨h,_⟩|⟨z,z1,z2,z3⟩
  ·rw[h]at g3;exact absurd rfl g3
  ·obtain⟨f1,f2⟩:=E4 hV z1 z2 (mem hP h1) g1 z3.symm;obtain⟨q',j,⟨Q',hQ',hj⟩,hf⟩:=cm.1 z1;simp only at hf hj f1 f2;rw[hf]at f1 g4;have hqq:q'=q:=by simp only at f1;omega
   subst hqq;rw[hQ]at hQ';cases hQ';simp only[Int.toNat_natCast,hb,Option.getD_some]at g4;exact⟨e,j,z,h1,g1,hj,z2,f2,z3,hf,by omega⟩
 apply Nat.le_antisymm
 ·refine wA (fun k=>match Q.events.l[k]? with|some z=>((eN t 2 z.message).index-1).toNat|none=>0) (fun k hk=>?_) fun k k' hk hk' he=>?_
  ·obtain⟨z,j,e,h1,h2,h3,h4,h5,h6,h7,h8,h9⟩:=r1 k hk;rw[h1];simp only[h7];rw[show ((j:Int)+1-1).toNat=j from by omega]
   refine qG.2 ⟨by omega,e,h3,?_⟩
   have hfe:eN t 3 e.message=⟨q,k+1⟩:=by
    rcases Fi t 3 e.message with⟨_,h⟩|⟨z',z1,z2,z3⟩
    ·exact absurd ⟨h2,h6.symm⟩ (h _ (mem hQ h1))
    ·exact hV.ok.wO.rcv _ z1 _ (mem hQ h1) z2 h2 (by rw[z3,h6])
   simp only[n_,hfe,dg,h4,h5,Int.toNat_natCast,hb,Option.getD_some];simp;omega
  ·obtain⟨z,j,e,h1,h2,h3,h4,h5,h6,h7,_⟩:=r1 k hk;obtain⟨z',j',e',h1',h2',h3',h4',h5',h6',h7',_⟩:=r1 k' hk';simp only[h1,h1',h7,h7']at he;have hjj:j=j':=by omega
   subst hjj;rw[h3]at h3';cases h3';have:=hV.ok.wO.rcv _ (mem hQ h1) _ (mem hQ h1') h2 h2' (by rw[←h6,h6'])
   simp only[aa.mk.injEq]at this;omega
 ·refine wA (fun k=>match P.events.l[k]? with|some e=>((eN t 3 e.message).index-1).toNat|none=>0) (fun k hk=>?_) fun k k' hk hk' he=>?_
  ·obtain⟨e,j,z,h1,h2,h3,h4,h5,h6,h7,h8⟩:=s1 k hk;rw[h1];simp only[h7];rw[show ((j:Int)+1-1).toNat=j from by omega]
   exact qG.2 ⟨by omega,z,h3,by simp[d_,h4,h5]⟩
  ·obtain⟨e,j,z,h1,h2,h3,h4,h5,h6,h7,_⟩:=s1 k hk;obtain⟨e',j',z',h1',h2',h3',h4',h5',h6',h7',_⟩:=s1 k' hk';simp only[h1,h1',h7,h7']at he;have hjj:j=j':=by omega
   subst hjj;rw[h3]at h3';cases h3';have:=hV.ok.wO.snd _ (mem hP h1) _ (mem hP h1') h2 h2' (by rw[←h6,h6'])
   simp only[aa.mk.injEq]at this;omega
theorem ID {t:Trace} (hV:VT t) {A:bK 200 aK} (hM:eH t (aO t) A) {c:List Int} (hC:Cons t A c) {p q:Nat} {P Q:bl} {a b:Int} (hP:t.procs.l[p]? = some P) (hQ:t.procs.l[q]? = some Q) (ha:c[p]? = some a) (hb:c[q]? = some b) :
 under t c p q=((P.events.l.take a.toNat).countP fun e=>dg q e&&n_ t c e:Nat):=by
 unfold under;rw[hP,hQ,ha,hb];dsimp only;rw[M3 hV hM hC hP hQ ha hb,wq (dg q) (n_ t c)];omega
end Go.VE
namespace Go.VE
theorem gQ {σ ε ρ γ:Type} {step:σ→Option (Fw σ ε ρ)} {fx:ε→Option γ} {fr:ρ→Option γ} {P:γ→Prop} (n:Nat) (I:Nat→σ→Prop) {s:σ} (h0:I 0 s)
 (h:∀i s,i<n→I i s→Wp (step s) fun w=>match w with|.n s'=>I (i+1) s'|.x e=>Wp (fx e) P|.r b=>Wp (fr b) P)
 (hn:∀s,I n s→Wp (step s) fun w=>match w with|.n _=>False|.x e=>Wp (fx e) P|.r b=>Wp (fr b) P):Wp ((aX step s).bind (Fw.elim fx fr)) P:=by
 have key:∀m i s,i+m=n→I i s→Wp ((aX step s).bind (Fw.elim fx fr)) P:=by
  intro m
  induction m with
  | zero=>
   intro i s hi hI;obtain⟨w,hw,hr⟩:=hn s (by rw[←hi];exact hI)
   rw[gE,hw]
   cases w with
   | n s'=>exact hr.elim
   | x e=>exact hr
   | r b=>exact hr
  | succ m ih=>
   intro i s hi hI;obtain⟨w,hw,hr⟩:=h i s (by omega) hI
   rw[gE,hw]
   cases w with
   | n s'=>exact ih (i+1) s' (by omega) hr
   | x e=>exact hr
   | r b=>exact hr
 exact key n 0 s (Nat.zero_add n) h0
def bump (c:List Int) (p:Nat) (d:Int):List Int:=c.set p ((c[p]?).getD 0+d)
theorem pU:∀{c:List Int} {p:Nat} {a b:Int},c[p]? = some a→(c.set p b).sum=c.sum-a+b
 | [],_,_,_,h=>by simp at h
 | x::c,0,a,b,h=>by simp at h;subst h;simp;omega
 | x::c,p+1,a,b,h=>by
  have:=pU (c:=c) (p:=p) (b:=b) (by simpa using h)
  simp only[List.set_cons_succ,List.sum_cons,this];omega
theorem m_:∀{c:List Int},(∀(p:Nat) a,c[p]? = some a→0≤a)→0≤c.sum
 | [],_=>by simp
 | x::c,h=>by
  have h1:=h 0 x rfl;have h2:=m_ (c:=c) fun p a ha=>h (p+1) a (by simpa using ha)
  simp only[List.sum_cons];omega
theorem De:∀{c:List Int},(∀(p:Nat) a,c[p]? = some a→0≤a)→c.sum=0→∀(p:Nat) a,c[p]? = some a→a=0
 | [],_,_,p,a,ha=>by simp at ha
 | x::c,h,hs,p,a,ha=>by
  have h1:=h 0 x rfl;have hc:∀(p:Nat) a,c[p]? = some a→0≤a:=fun p a ha=>h (p+1) a (by simpa using ha)
  have h2:=m_ hc;simp only[List.sum_cons]at hs
  cases p with
  | zero=>simp at ha;omega
  | succ p=>exact De hc (by omega) p a (by simpa using ha)
theorem EV:∀{c:List Int} {l:List Nat},c.length=l.length→(∀(i:Nat) a b,c[i]? = some a→l[i]? = some b→a≤(b:Nat))→c.sum≤(l.sum:Nat)
 | [],[],_,_=>by simp
 | x::c,y::l,hl,h=>by
  have h1:=h 0 x y rfl rfl;have h2:=EV (c:=c) (l:=l) (by simpa using hl) fun i a b ha hb=>h (i+1) a b (by simpa using ha) (by simpa using hb)
  simp only[List.sum_cons];omega
section
variable {t:Trace} {A:bK 200 aK} {c:List Int}
theorem kK.pos (h:kK t c) (p:Nat) (a:Int) (ha:c[p]? = some a):0≤a:=
 (h.2 p a _ ha (ζd (by have:=(ζe.1 ha).1;rw[←h.1];exact this))).1
theorem kK.at_ (h:kK t c) {p:Nat} (hp:p<t.procs.l.length):∃a,c[p]? = some a:=⟨_,ζd (by rw[h.1];exact hp)⟩
theorem kK.sum (h:kK t c):0≤c.sum∧c.sum≤(lF t:Nat):=
 ⟨m_ h.pos,EV (by simp[h.1]) fun i a b ha hb=>by
  rw[List.getElem?_map]at hb
  cases hP:t.procs.l[i]? with
  | none=>simp[hP]at hb
  | some P=>simp[hP]at hb;rw[←hb];exact(h.2 i a P ha hP).2⟩
theorem kK.set (h:kK t c) {p:Nat} {b:Int} {P:bl} (hP:t.procs.l[p]? = some P) (h0:0≤b) (h1:b≤P.events.l.length):kK t (c.set p b):=by
 refine⟨by simp[h.1],fun q a Q ha hQ=>?_⟩
 rw[List.getElem?_set]at ha;split at ha
 ·rename_i e;subst e;split at ha
  ·cases ha;rw[hP]at hQ;cases hQ;exact⟨h0,h1⟩
  ·cases ha
 ·exact h.2 q a Q ha hQ
def JO (t:Trace) (A:bK 200 aK) (c:List Int) (p:Nat):Prop:=∃P e a,t.procs.l[p]? = some P∧c[p]? = some a∧P.events.l[a.toNat]? = some e∧(e.kind=3→∃b,c[(ag A e.message).from_.proc.toNat]? = some b∧(ag A e.message).from_.index≤b)
theorem iF.one {p k:Nat} {e f:Event} (h:iF t p k e) (g:iF t p k f):e=f:=by
 obtain⟨P,a1,a2⟩:=h;obtain⟨Q,b1,b2⟩:=g;rw[a1]at b1;cases b1;rw[a2]at b2;cases b2;rfl
theorem jN.le (h:jN t A c) {p:Nat} {a b:Int} (ha:c[p]? = some a) (hab:a≤b) (hn:∀(k:Nat) e,iF t p k e→a≤k→(k:Int)<b→e.kind=3→∃b',(c.set p b)[(ag A e.message).from_.proc.toNat]? = some b'∧(ag A e.message).from_.index≤b'):jN t A (c.set p b):=by
 have hp:=(ζe.1 ha).1;have up:∀(q:Nat) x,c[q]? = some x→∃y,(c.set p b)[q]? = some y∧x≤y:=fun q x hx=>by
  rw[List.getElem?_set]
  by_cases e:p=q
  ·subst e;rw[ha]at hx;cases hx;exact⟨b,by simp[hp],hab⟩
  ·exact⟨x,by simp[e,hx],Int.le_refl _⟩
 intro q k e x hat hx hk h3;rw[List.getElem?_set]at hx;have old:∀x,c[q]? = some x→(k:Int)<x→∃b',(c.set p b)[(ag A e.message).from_.proc.toNat]? = some b'∧(ag A e.message).from_.index≤b':=fun x hx hk=>by
  obtain⟨y,hy,hy2⟩:=h q k e x hat hx hk h3;obtain⟨z,hz,hz2⟩:=up _ y hy;exact⟨z,hz,by omega⟩
 split at hx
 ·rename_i ep;subst ep;simp[hp]at hx;subst hx
  by_cases hka:(k:Int)<a
  ·exact old a ha hka
  ·exact hn k e hat (by omega) hk h3
 ·exact old x hx hk
theorem vh (hV:VT t) (hM:eH t (aO t) A) {p k:Nat} {e:Event} (hat:iF t p k e) (h3:e.kind=3):∃q j:Nat,(ag A e.message).from_=⟨q,j+1⟩∧q≠p∧C4 t ⟨q,j+1⟩ ⟨p,k+1⟩∧∃y,iF t q j y:=by
 obtain⟨q,j,y,hy,y1,y2,y3,y4,y5⟩:=qe hV hM hat h3;have hm:((⟨p,k+1⟩:aa),e)∈aO t:=cm.2 ⟨p,k,hat,rfl⟩;refine⟨q,j,y5,?_,⟨y,e,cm.2 ⟨q,j,hy,rfl⟩,hm,y1,h3,y2⟩,y,hy⟩;rcases hV.formed _ hm with h|⟨_,_,_,h,_⟩
 ·simp only at h;omega
 ·simp only at h;omega
theorem Cons.up (hV:VT t) (hM:eH t (aO t) A) (hC:Cons t A c) {p:Nat} {a:Int} {P:bl} (hP:t.procs.l[p]? = some P) (ha:c[p]? = some a) (hl:a<P.events.l.length):JO t A c p↔Cons t A (c.set p (a+1)):=by
 have h0:=hC.1.pos p a ha;have hp:=(ζe.1 ha).1;have han:((a.toNat:Nat):Int)=a:=by omega
 constructor
 ·rintro⟨Q,e,x,hQ,hx,he,h3⟩;rw[hP]at hQ;cases hQ;rw[ha]at hx;cases hx;refine⟨hC.1.set hP (by omega) (by omega),hC.2.le ha (by omega) fun k f hat hk1 hk2 hf=>?_⟩
  have hka:k=a.toNat:=by omega
  subst hka;cases hat.one ⟨P,hP,he⟩;obtain⟨b,hb,hb2⟩:=h3 hf;rw[List.getElem?_set]
  by_cases e2:p=(ag A e.message).from_.proc.toNat
  ·rw[←e2,ha]at hb;cases hb;exact⟨a+1,by simp[←e2,hp],by omega⟩
  ·exact⟨b,by rw[if_neg e2];exact hb,hb2⟩
 ·intro h;have hel:a.toNat<P.events.l.length:=by omega
  refine⟨P,P.events.l[a.toNat],a,hP,ha,ζd hel,fun h3=>?_⟩
  obtain⟨b,hb,hb2⟩:=h.2 p a.toNat _ (a+1) ⟨P,hP,ζd hel⟩ (by simp[hp]) (by omega) h3
  rw[List.getElem?_set]at hb;split at hb
  ·rename_i e2;obtain⟨q,j,f1,f2,_⟩:=vh hV hM ⟨P,hP,ζd hel⟩ h3;rw[f1]at e2;exact absurd e2.symm (by simpa using f2)
  ·exact⟨b,hb,hb2⟩
noncomputable def A2 (t:Trace) (x:aa):Nat:=by
 classical
 exact(aO t).countP fun z=>decide (Way t z.1 x)
theorem EK (hV:VT t) {x y:aa} (h:Way t x y):A2 t x<A2 t y:=by
 classical
 unfold A2;refine wY (fun z _ hz=>?_) ?_
 ·have hz:Way t z.1 x:=by simpa using hz
  simpa using hz.trans h
 ·obtain⟨e,he⟩:=h.l;exact⟨(x,e),he,by simpa using fun k=>hV.ok.acyc ⟨x,k⟩,by simpa using h⟩
theorem EZ (x:aa):A2 t x≤(aO t).length:=by
 classical
 unfold A2;exact List.countP_le_length
theorem Vd.of {p k:Nat} {e:Event} (h:iF t p k e):Vd t ⟨p,k+1⟩:=⟨e,cm.2 ⟨p,k,h,rfl⟩⟩
theorem Dx {p:Nat} {P:bl} (hP:t.procs.l[p]? = some P):∀(d k:Nat),k+d+1<P.events.l.length→Way t ⟨p,k+1⟩ ⟨p,((k+d+1:Nat):Int)+1⟩
 | 0,k,h=>.single ⟨Vd.of ⟨P,hP,ζd (by omega)⟩,Vd.of ⟨P,hP,ζd h⟩,.inl (by simp)⟩
 | d+1,k,h=>(Dx hP d k (by omega)).tail ⟨Vd.of ⟨P,hP,ζd (show k+d+1<_ by omega)⟩,Vd.of ⟨P,hP,ζd h⟩,.inl (by simp;omega)⟩
theorem OE {q k:Nat} {b:Int} {Q:bl} {x:aa} (hQ:t.procs.l[q]? = some Q) (h:Way t x ⟨q,k+1⟩) (h1:(k:Int)<b) (h2:b≤Q.events.l.length):Way t x ⟨q,b⟩:=by
 by_cases e:b=k+1
 ·rw[e];exact h
 ·have:=Dx hQ (b.toNat-k-2) k (by omega)
  rw[show (((k+(b.toNat-k-2)+1:Nat):Int)+1)=b from by omega]at this
  exact h.trans this
theorem Cons.Fe (hV:VT t) (hM:eH t (aO t) A) (hC:Cons t A c) {p:Nat} {a:Int} (ha:c[p]? = some a) (h0:0<a):Cons t A (c.set p (a-1))∨∃(q:Nat) (b:Int),c[q]? = some b∧0<b∧Way t ⟨p,a⟩ ⟨q,b⟩:=by
 have hp:=(ζe.1 ha).1;have hP:=ζd (show p<t.procs.l.length by rw[←hC.1.1];exact hp)
 have hr:=hC.1.2 p a _ ha hP;refine Classical.byContradiction fun hno=>hno (.inl ⟨hC.1.set hP (by omega) (by omega),fun q k e x hat hx hk h3=>?_⟩)
 obtain⟨x0,hx0,hxx⟩:∃x0,c[q]? = some x0∧x≤x0:=by
  rw[List.getElem?_set]at hx;split at hx
  ·rename_i e2;subst e2;simp[hp]at hx;exact⟨a,ha,by omega⟩
  ·exact⟨x,hx,Int.le_refl _⟩
 obtain⟨y,hy,hy2⟩:=hC.2 q k e x0 hat hx0 (by omega) h3
 obtain⟨r,j,f1,f2,f3,_⟩:=vh hV hM hat h3;rw[f1]at hy hy2 ⊢;simp only[Int.toNat_natCast]at hy hy2 ⊢;rw[List.getElem?_set]
 by_cases e2:p=r
 ·subst e2;rw[ha]at hy;cases hy;refine⟨a-1,by simp[hp],?_⟩
  refine Classical.byContradiction fun hj=>hno (.inr ⟨q,x0,hx0,by omega,?_⟩)
  have:a=(j:Int)+1:=by omega
  subst this;obtain⟨Q,hQ,_⟩:=hat;have hrq:=hC.1.2 q x0 Q hx0 hQ;obtain⟨ye,fe,m1,m2,m3⟩:=f3;exact OE hQ (.single ⟨⟨ye,m1⟩,⟨fe,m2⟩,.inr ⟨ye,fe,m1,m2,m3⟩⟩) (by omega) hrq.2
 ·exact⟨y,by rw[if_neg e2];exact hy,hy2⟩
theorem Cons.RG (hV:VT t) (hM:eH t (aO t) A) (hC:Cons t A c):∀(n p:Nat) (a:Int),c[p]? = some a→0<a→(aO t).length-A2 t ⟨p,a⟩≤n→∃(q:Nat) (b:Int),c[q]? = some b∧0<b∧Cons t A (c.set q (b-1)):=by
 intro n
 induction n with
 | zero=>
  intro p a ha h0 hn;rcases hC.Fe hV hM ha h0 with h|⟨q,b,_,_,hw⟩
  ·exact⟨p,a,ha,h0,h⟩
  ·have:=EK hV hw;have:=EZ (t:=t) ⟨q,b⟩;omega
 | succ n ih=>
  intro p a ha h0 hn;rcases hC.Fe hV hM ha h0 with h|⟨q,b,hb,hb0,hw⟩
  ·exact⟨p,a,ha,h0,h⟩
  ·have:=EK hV hw;have:=EZ (t:=t) ⟨q,b⟩;exact ih q b hb hb0 (by omega)
theorem Cons.down (hV:VT t) (hM:eH t (aO t) A) (hC:Cons t A c) (hs:0<c.sum):∃(q:Nat) (b:Int),c[q]? = some b∧0<b∧Cons t A (c.set q (b-1)):=by
 obtain⟨p,a,ha,h0⟩:∃(p:Nat) (a:Int),c[p]? = some a∧0<a:=by
  refine Classical.byContradiction fun hno=>?_
  have hz:∀a∈c,a=0:=fun a ha=>by
   obtain⟨p,hp⟩:=List.mem_iff_getElem?.1 ha;have:=hC.1.pos p a hp;exact Classical.byContradiction fun hne=>hno ⟨p,a,hp,by omega⟩
  have:c.sum=0:=by
   clear hC hs hno
   induction c with
   | nil=>rfl
   | cons x c ih=>simp[hz x (List.mem_cons_self ..),ih fun a ha=>hz a (List.mem_cons_of_mem _ ha)]
  omega
 exact hC.RG hV hM _ p a ha h0 (Nat.le_refl _)
theorem Cons.BU (hV:VT t) (hM:eH t (aO t) A):∀(d:Nat) {c:List Int} {k:Nat},Cons t A c→c.sum=((k+d:Nat):Int)→∃c',Cons t A c'∧c'.sum=(k:Int)
 | 0,c,k,hC,hs=>⟨c,hC,by simpa using hs⟩
 | d+1,c,k,hC,hs=>by
  obtain⟨q,b,hb,hb0,hC2⟩:=hC.down hV hM (by omega)
  exact Cons.BU hV hM d hC2 (by rw[pU hb];omega)
end
end Go.VE
namespace Go.VE
theorem kL {α:Type} {s:Sl α} {n:Nat} (h:n<s.l.length):decide ((n:Int)<len s)=true:=by simp[len];omega
theorem lC {α:Type} {s:Sl α}:decide ((s.l.length:Int)<len s)=false:=by simp[len]
theorem xQ {α:Type} {s x:Sl α} (h:s.l.length+x.l.length≤2147483648):∃r,lg s x=some r∧r.l=s.l++x.l:=by
 unfold lg
 by_cases e:x.l=[]
 ·rw[if_pos e];exact⟨s,rfl,by rw[e,List.append_nil]⟩
 ·rw[if_neg e,if_pos h];exact⟨_,rfl,rfl⟩
theorem oS {α:Type} {s:Sl α} {x:α} (h:s.l.length<2147483648):∃r,gy s x=some r∧r.l=s.l++[x]:=by
 unfold gy;rw[if_pos (by omega)];exact⟨_,rfl,rfl⟩
theorem CU {α:Type} {s:Sl α} {p:Nat} (h:p<s.l.length):Sl.mN s (p:Int)=some p:=by
 unfold Sl.mN;rw[if_pos ⟨by omega,by simpa using h⟩];rfl
theorem put_eq {α:Type} {s:Sl α} {p:Nat} {x:α} (h:p<s.l.length):∃r,Sl.put s p x=some r∧r.l=s.l.set p x:=by
 unfold Sl.put;rw[if_pos h];exact⟨_,rfl,by cases s <;> first|rfl|(simp[Sl.l]at h)⟩
section
variable {t:Trace} {A:bK 200 aK}
def UG (t:Trace) (A:bK 200 aK) (c:List Int) (n:Nat):Prop:=∀(p k:Nat) (e:Event) (a:Int),p<n→iF t p k e→c[p]? = some a→(k:Int)<a→e.kind=3→∃b,c[(ag A e.message).from_.proc.toNat]? = some b∧(ag A e.message).from_.index≤b
theorem Qy (hS:Small t) (hV:VT t) (hM:eH t (aO t) A) {c:Sl Int} (hR:kK t c.l):Wp (cz t c) fun b=>(b=true↔jN t A c.l):=by
 have hcl:=hR.1;have hn8:=hV.few;unfold cz cz.W1;refine gQ c.l.length (fun n s=>s=(n:Int)∧UG t A c.l n) ⟨rfl,fun p k e a h=>absurd h (by omega)⟩ ?_ ?_
 ·rintro n _ hlt ⟨rfl,hI⟩;unfold cz.aA;rw[kL hlt,a_];have hlt2:n<t.procs.l.length:=by omega
  have hPl:=(hS.2 _ (List.getElem_mem hlt2)).1;have hPg:=ζd hlt2;have hcg:=ζd hlt;obtain⟨r1,r2⟩:=hR.2 n _ _ hcg hPg;have hix:=aP hlt;generalize c.l[n]=a at *;generalize t.procs.l[n]=P at *;unfold cz.W2;refine gQ a.toNat (fun m s=>s=(m:Int)∧∀(k:Nat) (e:Event),k<m→iF t n k e→e.kind=3→∃b,c.l[(ag A e.message).from_.proc.toNat]? = some b∧(ag A e.message).from_.index≤b) ⟨rfl,fun k e h=>absurd h (by omega)⟩ ?_ ?_
  ·rintro m _ hm ⟨rfl,hJ⟩;unfold cz.bu;have hmP:m<P.events.l.length:=by omega
   have hat:iF t n m P.events.l[m]:=⟨P,hPg,ζd hmP⟩;rw[hix,ζb,show decide ((m:Int)<a)=true from by simp;omega,a_,kX,hPg,ζb,aP hmP,ζb,bR m (by omega)]
   generalize P.events.l[m]=e at *;have more:(e.kind=3→∃b,c.l[(ag A e.message).from_.proc.toNat]? = some b∧(ag A e.message).from_.index≤b)→∀(k:Nat) (e:Event),k<m+1→iF t n k e→e.kind=3→∃b,c.l[(ag A e.message).from_.proc.toNat]? = some b∧(ag A e.message).from_.index≤b:=fun h k f hk hf h3=>by
    by_cases ek:k=m
    ·subst ek;cases hat.one hf;exact h h3
    ·exact hJ k f (by omega) hf h3
   rw[aH];refine⟨fun h3=>?_,fun h3=>(af _).2 ⟨rfl,more fun k=>by simp[k]at h3⟩⟩
   have h3:e.kind=3:=by simpa using h3
   obtain⟨q,j,f1,_,_,y,Q,hQ,_⟩:=vh hV hM hat h3;have hql:q<c.l.length:=by have:=(ζe.1 hQ).1;omega
   rw[find_eq hS,B0 hV hM hat h3,ζb,f1];simp only;rw[aP hql,ζb,aH];refine⟨fun hgt=>(af _).2 ((af _).2 ((af _).2 ⟨fun h=>(by cases h),fun hC=>?_⟩)),fun hle=>(af _).2 ⟨rfl,more fun _=>?_⟩⟩
   ·obtain⟨b,hb1,hb2⟩:=hC n m e a hat hcg (by omega) h3
    rw[f1]at hb1 hb2;simp only[Int.toNat_natCast,ζd hql,ζa]at hb1 hb2;simp only[decide_eq_true_eq]at hgt;omega
   ·rw[f1];exact⟨c.l[q],by simp only[Int.toNat_natCast];exact ζd hql,by simp at hle ⊢;omega⟩
  ·rintro _ ⟨rfl,hJ⟩;unfold cz.bu;rw[hix,ζb,show decide ((a.toNat:Int)<a)=false from by simp;omega,bF]
   refine(af _).2 ((af _).2 ⟨bR n (by omega),fun p k e x hp hat hx hk h3=>?_⟩)
   by_cases e2:p=n
   ·subst e2;rw[hcg]at hx;cases hx;exact hJ k e (by omega) hat h3
   ·exact hI p k e x (by omega) hat hx hk h3
 ·rintro _ ⟨rfl,hI⟩;unfold cz.aA;rw[lC,bF];exact(af _).2 ((af _).2 ⟨fun _ p k e a hat hx=>hI p k e a (ζe.1 hx).1 hat hx,fun _=>rfl⟩)
theorem Ru (hS:Small t) (hV:VT t) (hM:eH t (aO t) A) {c:Sl Int} (hcl:c.l.length=t.procs.l.length):Wp (tc t c) fun b=>(b=true↔Cons t A c.l):=by
 unfold tc;rw[bt];refine(Nd hS hcl).mono fun b hb=>?_
 rw[bt,aH];constructor
 ·intro h;have hR:=hb.1 h;rw[bt];refine(Qy hS hV hM hR).mono fun b2 hb2=>?_
  rw[af,af];exact hb2.trans ⟨fun h=>⟨hR,h⟩,fun h=>h.2⟩
 ·intro h;rw[af,af];exact⟨fun h=>(by cases h),fun hC=>absurd (hb.2 hC.1) (by simp[h])⟩
theorem step_eq {c:Sl Int} {p:Nat} {a:Int} (ha:c.l[p]? = some a) (hl:c.l.length≤1073741824) (h0:0≤a) (h1:a<1073741824):∃d:Sl Int,nQ c p=some d∧d.l=c.l.set p (a+1):=by
 have hp:=(ζe.1 ha).1;unfold nQ;obtain⟨r,h2,h3⟩:=xQ (s:=Sl.row []) (x:=c) (show 0+c.l.length≤_ by omega)
 have h3:r.l=c.l:=h3;rw[h2,ζb,CU (by rw[h3];exact hp),ζb]
 unfold Sl.get;rw[h3,ha,ζb,ζb,iE _ (by omega) (by omega)]
 obtain⟨d,h4,h5⟩:=put_eq (s:=r) (p:=p) (x:=a+1) (by rw[h3];exact hp)
 rw[h4];exact⟨d,rfl,by rw[h5,h3]⟩
end
end Go.VE
namespace Go.VE
def ins (s:Sl (Sl Int)):List (List Int):=s.l.map Sl.l
theorem BT {c:Sl Int} (hl:c.l.length<1073741824):lK (eu c):=by
 unfold eu eu.W1;refine gQ c.l.length (fun n s=>s.2=(n:Int)) rfl ?_ ?_
 ·rintro n ⟨x,_⟩ hlt h;simp only at h;subst h;unfold eu.aA;rw[kL hlt,a_,aP hlt,ζb,af];exact bR n (by omega)
 ·rintro⟨x,_⟩ h;simp only at h;subst h;unfold eu.aA;rw[lC,bF,af];exact(af _).2 trivial
theorem GM {a b:Sl Int} (h:a.l.length=b.l.length) (hl:a.l.length<1073741824):lK (eW a b):=by
 obtain⟨x,hx⟩:=(BT hl).get;obtain⟨y,hy⟩:=(BT (c:=b) (by omega)).get
 unfold eW;rw[hx,ζb,hy,ζb,ζb,ζb];refine aH.2 ⟨fun _=>?_,fun _=>(af _).2 trivial⟩
 unfold eW.W1;refine gQ a.l.length (fun n s=>s=(n:Int)) rfl ?_ ?_
 ·rintro n _ hlt rfl;unfold eW.aA;rw[kL hlt,a_,aP hlt,ζb,aP (show n<b.l.length by omega),ζb,ζb,ζb,aH]
  exact⟨fun _=>(af _).2 (bR n (by omega)),fun _=>(af _).2 ((af _).2 trivial)⟩
 ·rintro _ rfl;unfold eW.aA;rw[lC,bF,af];exact(af _).2 trivial
theorem Nc {a b:Sl Int} (hl:a.l.length<1073741824):Wp (dA a b) fun r=>r=true→a.l=b.l:=by
 unfold dA;rw[aH];refine⟨fun h=>?_,fun _=>(af _).2 fun h=>by cases h⟩
 have h:(a.l.length:Int)=b.l.length:=by simpa [len]using h
 have h:a.l.length=b.l.length:=by omega
 unfold dA.W1;refine gQ a.l.length (fun n s=>s=(n:Int)∧∀i,i<n→a.l[i]? = b.l[i]?) ⟨rfl,fun i h=>absurd h (by omega)⟩ ?_ ?_
 ·rintro n _ hlt ⟨rfl,hI⟩;unfold dA.aA;have hb:n<b.l.length:=by omega
  rw[kL hlt,a_,aP hlt,ζb,aP hb,ζb,aH];refine⟨fun he=>(af _).2 ⟨bR n (by omega),fun i hi=>?_⟩,fun _=>(af _).2 ((af _).2 fun h=>by cases h)⟩
  by_cases e:i=n
  ·subst e;rw[ζd hlt,ζd hb];simpa using he
  ·exact hI i (by omega)
 ·rintro _ ⟨rfl,hI⟩;unfold dA.aA;rw[lC,bF,af];refine(af _).2 fun _=>List.ext_getElem? fun i=>?_
  by_cases hi:i<a.l.length
  ·exact hI i hi
  ·rw[List.getElem?_eq_none (by omega),List.getElem?_eq_none (by omega)]
theorem Eg {α:Type} (s:Sl α) (i:Nat) (h:i≤s.l.length):∃x,dZ s (some (i:Int)) none=some x∧x.l=s.l.drop i:=by
 unfold dZ cD;simp only[Option.getD_some,Option.getD_none];rw[if_pos ⟨by omega,by omega,by omega⟩]
 exact⟨_,rfl,by cases s <;> simp[Sl.l]⟩
theorem Ja {l:Sl (Sl Int)} {c:Sl Int} (hn:∀x∈l.l,x.l.length=c.l.length) (hc:c.l.length<1073741824) (hl:l.l.length<1073741824) :
 Wp (eZ l c) fun r=>r.l.length≤l.l.length+1∧∀d,d∈ins r↔d∈ins l∨d=c.l:=by
 unfold eZ eZ.W1;have post:∀n:Nat,n≤l.l.length→Wp ((au (decide ((n:Int)<(len l))) ((idx l n).bind fun x_1=>(dA x_1 c).bind fun x_2=>some x_2) (some false):Option Bool).bind fun x_3=>
  au x_3 (some l) ((dZ l none (some (n:Int))).bind fun x_4=>(lg (Sl.row []:Sl (Sl Int)) x_4).bind fun x_5=>(gy x_5 (c:Sl Int)).bind fun x_6=>(dZ l (some (n:Int)) none).bind fun x_7=>(lg x_6 x_7).bind fun x_8=>some x_8))
  fun r=>r.l.length≤l.l.length+1∧∀d,d∈ins r↔d∈ins l∨d=c.l:=by
  intro n hnl;have hcut:Wp ((dZ l none (some (n:Int))).bind fun x_4=>(lg (Sl.row []:Sl (Sl Int)) x_4).bind fun x_5=>(gy x_5 (c:Sl Int)).bind fun x_6=>(dZ l (some (n:Int)) none).bind fun x_7=>(lg x_6 x_7).bind fun x_8=>some x_8) fun r=>r.l.length≤l.l.length+1∧∀d,d∈ins r↔d∈ins l∨d=c.l:=by
   obtain⟨x4,h4,e4⟩:=j9 l n hnl;have e4l:x4.l.length≤l.l.length:=by rw[e4,List.length_take];omega
   obtain⟨x5,h5,e5⟩:=xQ (s:=(Sl.row []:Sl (Sl Int))) (x:=x4) (show 0+x4.l.length≤_ by omega)
   have e5:x5.l=x4.l:=e5;obtain⟨x6,h6,e6⟩:=oS (s:=x5) (x:=c) (by rw[e5];omega)
   obtain⟨x7,h7,e7⟩:=Eg l n hnl;obtain⟨x8,h8,e8⟩:=xQ (s:=x6) (x:=x7) (by rw[e6,e7,e5,ζi,List.length_drop,List.length_singleton];omega)
   rw[h4,ζb,h5,ζb,h6,ζb,h7,ζb,h8,ζb,af];have e:x8.l=l.l.take n++[c]++l.l.drop n:=by rw[e8,e6,e7,e5,e4]
   refine⟨by rw[e];simp;omega,fun d=>?_⟩
   unfold ins;rw[e];simp only[List.map_append,List.mem_append,List.map_cons,List.map_nil,List.mem_singleton];have:l.l.map Sl.l=(l.l.take n).map Sl.l++(l.l.drop n).map Sl.l:=by rw[←List.map_append,List.take_append_drop]
   rw[this,List.mem_append];constructor
   ·rintro ((h|h)|h)
    ·exact .inl (.inl h)
    ·exact .inr h
    ·exact .inl (.inr h)
   ·rintro ((h|h)|h)
    ·exact .inl (.inl h)
    ·exact .inr h
    ·exact .inl (.inr h)
  by_cases h:n<l.l.length
  ·rw[kL h,a_,aP h,ζb,bt,bt];refine(Nc (b:=c) (by rw[hn _ (List.getElem_mem h)];exact hc)).mono fun b hb=>?_
   rw[af,aH];refine⟨fun ht=>(af _).2 ⟨by omega,fun d=>⟨.inl,fun h2=>h2.elim id fun h2=>?_⟩⟩,fun _=>hcut⟩
   rw[h2,←hb ht];exact List.mem_map_of_mem (List.getElem_mem h)
  ·rw[show (n:Int)=(l.l.length:Nat)from by omega,lC,bF,ζb,bF,←show (n:Int)=(l.l.length:Nat)from by omega]
   exact hcut
 refine gQ l.l.length (fun n s=>s=(n:Int)) rfl ?_ ?_
 ·rintro n _ hlt rfl;unfold eZ.aA;obtain⟨b,hb⟩:=(GM (a:=l.l[n]) (b:=c) (hn _ (List.getElem_mem hlt)) (by rw[hn _ (List.getElem_mem hlt)];exact hc)).get
  rw[kL hlt,a_,aP hlt,ζb,hb,ζb,ζb,aH];refine⟨fun _=>(af _).2 (bR n (by omega)),fun _=>(af _).2 ?_⟩
  exact post n (by omega)
 ·rintro _ rfl;unfold eZ.aA;rw[lC,bF,ζb,bF,af];exact post _ (Nat.le_refl _)
end Go.VE
namespace Go.VE
def yC (t:Trace) (A:bK 200 aK) (c d:List Int):Prop:=∃(p:Nat) (a:Int),c[p]? = some a∧d=c.set p (a+1)∧Cons t A d
section
variable {t:Trace} {A:bK 200 aK}
theorem mZ {s:Sl (Sl Int)} {d:List Int}:d∈ins s↔∃x∈s.l,x.l=d:=by unfold ins;exact List.mem_map
theorem E5 {r s:Sl (Sl Int)} {x:Sl Int} (h:r.l=s.l++[x]) {d:List Int}:d∈ins r↔d∈ins s∨d=x.l:=by
 unfold ins;rw[h];simp
theorem Ny (hS:Small t) (hV:VT t) (hM:eH t (aO t) A) {c:Sl Int} (hC:Cons t A c.l):Wp (gq t c) fun r=>r.l.length≤8∧∀d,d∈ins r↔yC t A c.l d:=by
 have hcl:=hC.1.1;have hn8:=hV.few;unfold gq gq.W1;refine gQ c.l.length (fun n s=>s.2=(n:Int)∧s.1.l.length≤n∧∀d,d∈ins s.1↔∃(p:Nat) (a:Int),p<n∧c.l[p]? = some a∧d=c.l.set p (a+1)∧Cons t A d) ⟨rfl,Nat.le_refl _,fun d=>⟨fun h=>by simp[ins,Sl.l]at h,fun⟨p,a,h,_⟩=>absurd h (by omega)⟩⟩ ?_ ?_
 ·rintro n ⟨out,_⟩ hlt ⟨h,hlen,hI⟩;simp only at h hlen hI;subst h;have hlt2:n<t.procs.l.length:=by omega
  have hPl:=(hS.2 _ (List.getElem_mem hlt2)).1;have hcg:=ζd hlt;have hr:=hC.1.2 n _ _ hcg (ζd hlt2);unfold gq.aA;rw[kL hlt,a_,aP hlt,ζb,aP hlt2,ζb,bR n (by omega)]
  generalize c.l[n]=a at *;have keep:¬Cons t A (c.l.set n (a+1))→∀d,d∈ins out↔∃(p:Nat) (a:Int),p<n+1∧c.l[p]? = some a∧d=c.l.set p (a+1)∧Cons t A d:=fun hno d=>by
   rw[hI];refine⟨fun⟨p,b,h,k⟩=>⟨p,b,by omega,k⟩,fun⟨p,b,h,k1,k2,k3⟩=>⟨p,b,?_,k1,k2,k3⟩⟩
   refine Classical.byContradiction fun hp=>hno ?_
   have:p=n:=by omega
   subst this;rw[hcg]at k1;cases k1;rw[←k2];exact k3
  by_cases hlt3:a<t.procs.l[n].events.l.length
  ·obtain⟨d,hd,hdl⟩:=step_eq (c:=c) hcg (by omega) hr.1 (by omega)
   rw[show decide (a<(len t.procs.l[n].events))=true from by simpa [len]using hlt3,a_,hd,ζb,bt,bt]
   refine(Ru hS hV hM (c:=d) (by rw[hdl,List.length_set];exact hcl)).mono fun b hb=>?_
   rw[hdl]at hb;rw[af,aH];constructor
   ·intro ht;obtain⟨r,hr1,hr2⟩:=oS (s:=out) (x:=d) (by omega)
    rw[ζb,hr1,ζb,af];refine⟨rfl,by rw[hr2];simp;omega,fun e=>?_⟩
    rw[E5 hr2,hI,hdl];constructor
    ·rintro (⟨p,b,h,k⟩|h)
     ·exact⟨p,b,by omega,k⟩
     ·exact⟨n,a,by omega,hcg,h,by rw[h];exact hb.1 ht⟩
    ·rintro⟨p,b,h,k1,k2,k3⟩
     by_cases e2:p=n
     ·subst e2;rw[hcg]at k1;cases k1;exact .inr k2
     ·exact .inl ⟨p,b,by omega,k1,k2,k3⟩
   ·intro hf;exact(af _).2 ⟨rfl,Nat.le_succ_of_le hlen,keep fun h=>by rw[hb.2 h]at hf;cases hf⟩
  ·rw[show decide (a<(len t.procs.l[n].events))=false from by simpa [len]using hlt3,bF,ζb,bF,af]
   refine⟨rfl,Nat.le_succ_of_le hlen,keep fun h=>?_⟩
   have:=h.1.2 n (a+1) _ (by simp[List.getElem?_set,hlt]) (ζd hlt2)
   omega
 ·rintro⟨out,_⟩ ⟨h,hlen,hI⟩;simp only at h hlen hI;subst h;unfold gq.aA;rw[lC,bF,af];refine(af _).2 ⟨show out.l.length≤8 by omega,fun d=>(hI d).trans ⟨fun⟨p,a,_,h⟩=>⟨p,a,h⟩,fun⟨p,a,h⟩=>⟨p,a,(ζe.1 h.1).1,h⟩⟩⟩
def xT (t:Trace) (A:bK 200 aK) (k:Nat) (s:Sl (Sl Int)):Prop:=∀d,d∈ins s↔Cons t A d∧d.sum=(k:Int)
theorem yC.iff (hV:VT t) (hM:eH t (aO t) A) {k:Nat} {d:List Int}:(∃c,(Cons t A c∧c.sum=(k:Int))∧yC t A c d)↔Cons t A d∧d.sum=((k+1:Nat):Int):=by
 constructor
 ·rintro⟨c,⟨hC,hs⟩,p,a,ha,rfl,hD⟩;exact⟨hD,by rw[pU ha];omega⟩
 ·rintro⟨hD,hs⟩;obtain⟨q,b,hb,hb0,hC⟩:=hD.down hV hM (by omega)
  have hq:=(ζe.1 hb).1;refine⟨_,⟨hC,by rw[pU hb];omega⟩,q,b-1,by simp[hq],?_,hD⟩
  rw[List.set_set,show b-1+1=b from by omega]
  refine List.ext_getElem? fun i=>?_
  rw[List.getElem?_set];split
  ·rename_i e;subst e;simp[hq,hb];exact(ζe.1 hb).2.symm▸rfl
  ·rfl
theorem p_ {s:Sl (Sl Int)} {n:Nat} (h:n<s.l.length) {d:List Int}:d∈(s.l.take (n+1)).map Sl.l↔d∈(s.l.take n).map Sl.l∨d=s.l[n].l:=by
 rw[show s.l.take (n+1)=s.l.take n++[s.l[n]]from by rw[List.take_add_one,ζd h];rfl]
 simp only[List.map_append,List.mem_append,List.map_cons,List.map_nil,List.mem_singleton]
theorem EX:∀n:Nat,(List.replicate n (0:Int)).sum=0
 | 0=>rfl
 | n+1=>by rw[List.replicate_succ,List.sum_cons,EX n];rfl
theorem u7:Cons t A (List.replicate t.procs.l.length 0):=by
 have hz:∀(p:Nat) a,(List.replicate t.procs.l.length (0:Int))[p]? = some a→a=0:=fun p a h=>by
  rw[List.getElem?_replicate]at h;split at h <;> cases h;rfl
 exact⟨⟨by simp,fun p a P ha _=>by rw[hz p a ha];omega⟩,fun p k e a _ ha hk=>by rw[hz p a ha]at hk;omega⟩
theorem QM {z:Sl Int} (hz:z.l=List.replicate t.procs.l.length 0):xT t A 0 (Sl.row [z]):=by
 intro d;have:d∈ins (Sl.row [z])↔d=List.replicate t.procs.l.length 0:=by unfold ins;rw[←hz];exact List.mem_singleton
 rw[this];constructor
 ·rintro rfl;exact⟨u7,by rw[EX];rfl⟩
 ·rintro⟨hC,hs⟩;refine List.ext_getElem? fun i=>?_
  rw[List.getElem?_replicate,←hC.1.1];split
  ·rename_i hi;have h:=ζd hi;rw[h,De hC.1.pos (by simpa using hs) i _ h]
  ·exact List.getElem?_eq_none (by omega)
theorem xT.none (hV:VT t) (hM:eH t (aO t) A) {k:Nat} {s:Sl (Sl Int)} (h:xT t A k s) (he:s.l.length=0) {d:List Int} (hD:Cons t A d):d.sum<(k:Int):=by
 refine Classical.byContradiction fun hge=>?_
 have h0:=m_ hD.1.pos;obtain⟨c,hC,hs⟩:=Cons.BU hV hM (d.sum.toNat-k) (k:=k) hD (by omega)
 have:=(h c).2 ⟨hC,hs⟩;obtain⟨x,hx,_⟩:=mZ.1 this;have:=List.length_pos_of_mem hx;omega
theorem xT.last {s:Sl (Sl Int)} (h:xT t A (lF t+1) s):s.l.length=0:=by
 refine Classical.byContradiction fun hne=>?_
 have hx:=List.getElem_mem (show 0<s.l.length by omega)
 have:=(h s.l[0].l).1 (mZ.2 ⟨_,hx,rfl⟩);have:=this.1.1.sum;omega
theorem zo {α:Type} (s:Sl α):decide ((len s)>0) = !decide (s.l.length=0):=by
 by_cases h:s.l.length=0
 ·simp[len,h]
 ·simp[h,len];omega
theorem K7 (hS:Small t) (hV:VT t) (hM:eH t (aO t) A):Wp (dz t) fun r=>r.2=true→∀d,Cons t A d→d∈ins r.1:=by
 have hn8:=hV.few;unfold dz nJ;rw[if_pos ⟨by simp[len],by simp[len];omega⟩,ζb]
 unfold dz.W1;refine gQ (lF t+1) (fun k s=>xT t A k s.1∧(∀d,Cons t A d→d.sum<(k:Int)→d∈ins s.2)∧s.1.l.length≤40000∧s.2.l.length≤5000) ⟨?_,fun d hD h=>absurd (m_ hD.1.pos) (by simp at h;omega),by simp[Sl.l],by simp[Sl.l]⟩ ?_ ?_
 ·exact QM (by simp[Sl.l,len])
 ·rintro k ⟨level,out⟩ hk ⟨h1,h2,h3,h4⟩;simp only at h1 h2 h3 h4;unfold dz.aA;rw[zo]
  by_cases he:level.l.length=0
  ·rw[show (!decide (level.l.length=0))=false from by simp[he],bF,af]
   exact(af _).2 fun _ d hD=>h2 d hD (h1.none hV hM he hD)
  ·rw[show (!decide (level.l.length=0))=true from by simp[he],a_]
   obtain⟨x,hx,hxl⟩:=xQ (s:=out) (x:=level) (by omega)
   rw[hx,ζb,aH];refine⟨fun _=>(af _).2 ((af _).2 fun h=>by cases h),fun h5=>?_⟩
   have h5:x.l.length≤5000:=by simp[len]at h5;omega
   have h6:level.l.length≤5000:=by rw[hxl,ζi]at h5;omega
   have hxi:∀d,d∈ins x↔d∈ins out∨d∈ins level:=fun d=>by unfold ins;rw[hxl];simp
   unfold dz.W2;refine gQ level.l.length (fun n s=>s.2=(n:Int)∧s.1.l.length≤8*n∧∀d,d∈ins s.1↔∃c∈(level.l.take n).map Sl.l,yC t A c d) ⟨rfl,Nat.zero_le _,fun d=>by simp[ins,Sl.l]⟩ ?_ ?_
   ·rintro n ⟨more,_⟩ hlt ⟨e,g1,g2⟩;simp only at e g1 g2;subst e;unfold dz.bu;have hCn:=(h1 level.l[n].l).1 (mZ.2 ⟨_,List.getElem_mem hlt,rfl⟩);rw[kL hlt,a_,aP hlt,ζb,bt];refine(Ny hS hV hM hCn.1).mono fun nx hn=>?_
    unfold dz.W3;have hlen:∀d,Cons t A d→d.length=t.procs.l.length:=fun d h=>h.1.1
    refine gQ nx.l.length (fun m s=>s.2=(m:Int)∧s.1.l.length≤8*n+m∧∀d,d∈ins s.1↔d∈ins more∨d∈(nx.l.take m).map Sl.l) ⟨rfl,g1,fun d=>by simp⟩ ?_ ?_
    ·rintro m ⟨mr,_⟩ hlm ⟨e,f1,f2⟩;simp only at e f1 f2;subst e;unfold dz.dK;rw[kL hlm,a_,aP hlm,ζb,bt];have hN:nx.l[m].l.length=t.procs.l.length:=by
      obtain⟨p,a,_,_,k⟩:=(hn.2 nx.l[m].l).1 (mZ.2 ⟨_,List.getElem_mem hlm,rfl⟩);exact hlen _ k
     refine(Ja (l:=mr) (c:=nx.l[m]) (fun y hy=>?_) (by omega) (by omega)).mono fun r hr=>?_
     ·rw[hN];rcases (f2 y.l).1 (mZ.2 ⟨_,hy,rfl⟩)with h|h
      ·obtain⟨_,_,p,a,_,_,k⟩:=(g2 y.l).1 h;exact hlen _ k
      ·obtain⟨z,hz,e⟩:=List.mem_map.1 h;obtain⟨p,a,_,_,k⟩:=(hn.2 z.l).1 (mZ.2 ⟨_,List.mem_of_mem_take hz,rfl⟩);rw[←e];exact hlen _ k
     ·refine(af _).2 ⟨bR m (by omega),Nat.le_trans hr.1 (by omega),fun d=>?_⟩
      rw[hr.2,f2,p_ hlm,or_assoc]
    ·rintro⟨mr,_⟩ ⟨e,f1,f2⟩;simp only at e f1 f2;subst e;unfold dz.dK;rw[lC,bF,af];refine(af _).2 ⟨bR n (by omega),show mr.l.length≤_ by omega,fun d=>?_⟩
     rw[f2,List.take_length];constructor
     ·rintro (h|h)
      ·obtain⟨c,hc,hs⟩:=(g2 d).1 h;exact⟨c,(p_ hlt).2 (.inl hc),hs⟩
      ·exact⟨_,(p_ hlt).2 (.inr rfl),(hn.2 d).1 h⟩
     ·rintro⟨c,hc,hs⟩;rcases (p_ hlt).1 hc with h|h
      ·exact .inl ((g2 d).2 ⟨c,h,hs⟩)
      ·subst h;exact .inr ((hn.2 d).2 hs)
   ·rintro⟨more,_⟩ ⟨e,g1,g2⟩;simp only at e g1 g2;subst e;unfold dz.bu;rw[lC,bF,af];refine(af _).2 ⟨fun d=>?_,fun d hD hs=>?_,show more.l.length≤_ by omega,h5⟩
    ·rw[g2,List.take_length,←yC.iff hV hM (k:=k)];exact⟨fun⟨c,hc,hs⟩=>⟨c,(h1 c).1 hc,hs⟩,fun⟨c,hc,hs⟩=>⟨c,(h1 c).2 hc,hs⟩⟩
    ·rw[hxi]
     by_cases hk2:d.sum<(k:Int)
     ·exact .inl (h2 d hD hk2)
     ·exact .inr ((h1 d).2 ⟨hD,by omega⟩)
 ·rintro⟨level,out⟩ ⟨h1,h2,h3,h4⟩;simp only at h1 h2 h3 h4;unfold dz.aA;rw[zo,show (!decide (level.l.length=0))=false from by simp[h1.last],bF,af]
  exact(af _).2 fun _ d hD=>h2 d hD (h1.none hV hM h1.last hD)
end
end Go.VE
namespace Go.VE
def gF:List Int→List Int→Int
 | [],[]=>0
 | [],_::_=>-1
 | _::_,[]=>1
 | x::a,y::b=>if x<y then -1 else if x>y then 1 else gF a b
theorem wv:∀a,gF a a=0
 | []=>rfl
 | x::a=>by simp[gF,wv a]
theorem A_:∀a b c,gF a b<0→gF b c<0→gF a c<0
 | [],[],_,h,_=>by simp[gF]at h
 | [],_::_,[],_,h=>by simp[gF]at h
 | [],_::_,_::_,_,_=>by simp[gF]
 | _::_,[],_,h,_=>by simp[gF]at h
 | _::_,_::_,[],_,h=>by simp[gF]at h
 | x::a,y::b,z::c,h1,h2=>by
  have ih:=A_ a b c;simp only[gF]at h1 h2 ⊢;split at h1
  ·split at h2
   ·rw[if_pos (by omega)];omega
   ·split at h2
    ·omega
    ·rw[if_pos (by omega)];omega
  ·split at h1
   ·omega
   ·split at h2
    ·rw[if_pos (by omega)];omega
    ·split at h2
     ·omega
     ·rw[if_neg (by omega),if_neg (by omega)];exact ih h1 h2
theorem AK:∀a b,¬gF a b<0→¬gF b a<0→a=b
 | [],[],_,_=>rfl
 | [],_::_,h,_=>by simp[gF]at h
 | _::_,[],_,h=>by simp[gF]at h
 | x::a,y::b,h1,h2=>by
  have ih:=AK a b;simp only[gF]at h1 h2;split at h1
  ·omega
  ·split at h2
   ·omega
   ·rw[ih (by first|assumption|(split at h1 <;> first|assumption|omega)) (by first|assumption|(split at h2 <;> first|assumption|omega)),show x=y from by omega]
theorem JC (a b c:List Int) (h1:¬gF a b<0) (h2:¬gF b c<0):¬gF a c<0:=fun h=>by
 by_cases h3:gF b a<0
 ·exact h2 (A_ b a c h3 h)
 ·rw[AK a b h1 h3]at h;exact h2 h
theorem J_ {α:Type} {s:Sl α} {p:α→α→Option Int} {f:α→List Int} (hp:∀x y,x∈s.l→y∈s.l→p x y=some (gF (f x) (f y))) (hl:s.l.length<2147483648):∃r,uL s p=some r∧r.l.Perm s.l∧r.l.Pairwise fun x y=>¬gF (f y) (f x)<0:=by
 unfold uL;split
 ·rename_i h;exact⟨s,rfl,List.Perm.refl _,by rw[h];exact List.Pairwise.nil⟩
 ·rename_i x l h;rw[if_pos (by rw[h]at hl;simp at hl;omega)]
  simp only;have ht:∀i j:_root_.Fin (l.length+1),p (x::l)[i.1] (x::l)[j.1]=some (gF (f (x::l)[i.1]) (f (x::l)[j.1])):=fun i j=>hp _ _ (by rw[h];exact List.getElem_mem _) (by rw[h];exact List.getElem_mem _)
  have hlt:(mh fun i j:_root_.Fin (l.length+1)=>p (x::l)[i.1] (x::l)[j.1])=fun i j=>decide (gF (f (x::l)[i.1]) (f (x::l)[j.1])<0):=by
   funext i j;unfold mh;show decide ((p _ _).getD 0<0)=_;rw[ht];rfl
  have hok:uW (fun i j:_root_.Fin (l.length+1)=>p (x::l)[i.1] (x::l)[j.1])=true:=by
   have hl':∀i j,mh (fun i j:_root_.Fin (l.length+1)=>p (x::l)[i.1] (x::l)[j.1]) i j=decide (gF (f (x::l)[i.1]) (f (x::l)[j.1])<0):=fun i j=>by rw[hlt]
   refine List.all_eq_true.2 fun i _=>Bool.and_eq_true_iff.2 ⟨by rw[hl',wv];rfl,List.all_eq_true.2 fun j _=>Bool.and_eq_true_iff.2 ⟨by show (p _ _).isSome=true;rw[ht];rfl,List.all_eq_true.2 fun k _=>Bool.and_eq_true_iff.2 ⟨?_,?_⟩⟩⟩
   ·have:=A_ (f (x::l)[i.1]) (f (x::l)[j.1]) (f (x::l)[k.1]);rw[hl',hl',hl'];simp only[Bool.or_eq_true,Bool.not_eq_true',Bool.and_eq_false_iff,decide_eq_true_eq,decide_eq_false_iff_not];omega
   ·have:=JC (f (x::l)[i.1]) (f (x::l)[j.1]) (f (x::l)[k.1]);rw[hl',hl',hl'];simp only[Bool.or_eq_true,Bool.not_eq_true',decide_eq_true_eq,decide_eq_false_iff_not];omega
  rw[if_pos hok];have hswo:=(nv hok).2;have hs:=Sort.pdq_sorts _ hswo (List.finRange (l.length+1)).toArray 0 (l.length+1) (Lib.bitLen (l.length+1)) true true (Nat.zero_le _) (by simp) (Or.inl rfl)
  rw[←zg]at hs;generalize nG l.length _=d at hs;obtain⟨⟨hsz,_,hperm⟩,hsort⟩:=hs;have hsz:d.size=l.length+1:=by simpa using hsz
  have hre:∀y:List α,(s.re y).l=y:=fun y=>by cases s <;> first|rfl|(simp[Sl.l]at h)
  refine⟨_,rfl,?_,?_⟩
  ·rw[hre,h];have h1:d.extract 0 (l.length+1)=d:=Array.ext (by simp[hsz]) fun i h1 h2=>by simp
   rw[h1]at hperm;have h2:((List.finRange (l.length+1)).toArray.extract 0 (l.length+1)).toList=List.finRange (l.length+1):=by simp[List.take_of_length_le]
   rw[h2]at hperm;refine(hperm.map _).trans ?_;rw[show (List.finRange (l.length+1)).map (fun i=>(x::l)[i.1])=x::l from ?_]
   exact List.ext_getElem (by simp) fun i h1 h2=>by simp
  ·rw[hre,List.pairwise_map,List.pairwise_iff_getElem];intro i j hi hj hij;have:=hsort i j (Nat.zero_le _) hij (by simpa [hsz]using hj)
   rw[hlt]at this;simp only[Array.length_toList]at hi hj;simp only[getElem!_pos d i hi,getElem!_pos d j hj,decide_eq_false_iff_not]at this;simpa using this
end Go.VE
namespace Go.VE
theorem JS {α:Type} {s:Sl α} {p:α→α→Option Bool} {f:α→List Int} (hp:∀x y,x∈s.l→y∈s.l→p x y=some (decide (f x=f y))) (hl:s.l.length<2147483648) (hs:s.l.Pairwise fun x y=>¬gF (f y) (f x)<0) :
 ∃r,wM s p=some r∧(r.l.map f).Nodup∧(∀d,d∈r.l.map f↔d∈s.l.map f)∧r.l.length≤s.l.length:=by
 have hn:∀i,i<s.l.length→0<i→∃(h1:i<s.l.length) (h2:i-1<s.l.length),rF s.l p i=some (decide (f s.l[i]=f s.l[i-1])):=fun i h h0=>by
  refine⟨h,by omega,?_⟩
  unfold rF;rw[ζd h,ζd (show i-1<s.l.length by omega)]
  exact hp _ _ (List.getElem_mem _) (List.getElem_mem _)
 unfold wM;rw[if_pos ⟨by omega,List.all_eq_true.2 fun i hi=>by
  by_cases h:i=0
  ·subst h;rfl
  ·obtain⟨_,_,e⟩:=hn i (List.mem_range.1 hi) (by omega)
   rw[e];simp⟩]
 have hcut:∀y:List α,(s.l=[]→y=[])→(s.qx y).l=y:=fun y hy=>by cases s <;> first|rfl|exact(hy rfl).symm
 have hK:∀i,i∈kept (fun i=>(rF s.l p i).getD false) s.l.length↔i<s.l.length∧(i=0∨(rF s.l p i).getD false=false):=fun i=>by unfold kept;simp[List.mem_filter]
 have hlen:=xA (fun i=>(rF s.l p i).getD false) s.l.length
 have hpw:(kept (fun i=>(rF s.l p i).getD false) s.l.length).Pairwise (·<·):=by unfold kept;exact List.pairwise_lt_range.filter _
 generalize kept (fun i=>(rF s.l p i).getD false) s.l.length=K at *
 have hre:(s.qx (K.filterMap (s.l[·]?))).l=K.filterMap (s.l[·]?):=hcut _ fun h=>by rw[h];simp
 refine⟨_,rfl,?_,fun d=>?_,?_⟩
 ·rw[hre,List.Nodup,List.pairwise_map,List.pairwise_filterMap];refine hpw.imp_of_mem ?_;intro i j hi hj hij x hx y hy hxy;obtain⟨hjl,hj0⟩:=(hK j).1 hj;obtain⟨h1,h2,e⟩:=hn j hjl (by omega)
  rw[e]at hj0;have hne:¬f s.l[j]=f s.l[j-1]:=by
   rcases hj0 with h|h
   ·omega
   ·simpa using h
  rw[ζd h1]at hy;cases hy;have hil:i<s.l.length:=by omega
  rw[ζd hil]at hx;cases hx;have hpi:=List.pairwise_iff_getElem.1 hs;have a1:=hpi (j-1) j h2 h1 (by omega)
  refine hne (AK _ _ a1 ?_)
  by_cases e2:i=j-1
  ·subst e2;rw[←hxy,wv];omega
  ·have a2:=hpi i (j-1) hil h2 (by omega)
   rw[hxy]at a2;exact a2
 ·rw[hre];simp only[List.mem_map,List.mem_filterMap];constructor
  ·rintro⟨x,⟨i,_,hx⟩,rfl⟩;exact⟨x,List.mem_of_getElem? hx,rfl⟩
  ·rintro⟨x,hx,rfl⟩;obtain⟨i,hi⟩:=List.mem_iff_getElem?.1 hx;have key:∀(i:Nat) x,s.l[i]? = some x→∃y,(∃j,j∈K∧s.l[j]? = some y)∧f y=f x:=by
    intro i
    induction i with
    | zero=>intro x hx;exact⟨x,⟨0,(hK 0).2 ⟨(ζe.1 hx).1,.inl rfl⟩,hx⟩,rfl⟩
    | succ i ih=>
     intro x hx;have hlt:=(ζe.1 hx).1;obtain⟨h1,h2,e⟩:=hn (i+1) hlt (by omega)
     have hxe:s.l[i+1]=x:=(ζe.1 hx).2
     by_cases hg:f s.l[i+1]=f s.l[i+1-1]
     ·obtain⟨y,hy,hf⟩:=ih _ (ζd (show i<s.l.length by omega))
      exact⟨y,hy,by rw[hf,←hxe];exact hg.symm⟩
     ·exact⟨x,⟨i+1,(hK _).2 ⟨hlt,.inr (by rw[e];simpa using hg)⟩,hx⟩,rfl⟩
   exact key i x hi
 ·rw[hre];exact Nat.le_trans (List.length_filterMap_le ..) hlen
theorem He {a b:Sl Int} (hl:a.l.length<1073741824):gN a b=some (gF a.l b.l):=by
 refine Wp.eq ?_;unfold gN dy dy.W1;rw[bt];refine gQ a.l.length (fun n s=>s=(n:Int)∧n≤b.l.length∧gF (a.l.drop n) (b.l.drop n)=gF a.l b.l) ⟨rfl,Nat.zero_le _,rfl⟩ ?_ ?_
 ·rintro n _ hlt ⟨rfl,hnb,hI⟩;unfold dy.aA;rw[kL hlt,a_,aP hlt,ζb];have hd:a.l.drop n=a.l[n]::a.l.drop (n+1):=List.drop_eq_getElem_cons hlt
  by_cases hb:n<b.l.length
  ·have hdb:b.l.drop n=b.l[n]::b.l.drop (n+1):=List.drop_eq_getElem_cons hb;rw[show decide ((n:Int)≥len b)=false from by simp[len];omega,bF,aP hb,ζb]
   rw[hd,hdb]at hI;simp only[gF]at hI;generalize a.l[n]=x at *;generalize b.l[n]=y at *;have hcmp:mc x y=some (if x<y then -1 else if x>y then 1 else 0):=by
    unfold mc jh;simp only[bne_self_eq_false,ζb,bF,a_]
    by_cases h1:x<y
    ·simp[h1,au]
    ·by_cases h2:x>y
     ·simp[h1,h2,au]
     ·simp[h1,h2,au]
   rw[hcmp,ζb]
   by_cases h1:x<y
   ·rw[if_pos h1]at hI ⊢;rw[show ((-1:Int)==0)=false from rfl,bF,af];exact(af _).2 ((af _).2 hI)
   ·rw[if_neg h1]at hI ⊢
    by_cases h2:x>y
    ·rw[if_pos h2]at hI ⊢;rw[show ((1:Int)==0)=false from rfl,bF,af];exact(af _).2 ((af _).2 hI)
    ·rw[if_neg h2]at hI ⊢;rw[show ((0:Int)==0)=true from rfl,a_,af];exact⟨bR n (by omega),hb,hI⟩
  ·rw[show decide ((n:Int)≥len b)=true from by simp[len];omega,a_,af]
   rw[hd,List.drop_eq_nil_of_le (show b.l.length≤n by omega)]at hI
   exact(af _).2 ((af _).2 hI)
 ·rintro _ ⟨rfl,hnb,hI⟩;unfold dy.aA;rw[lC,bF,af];rw[List.drop_eq_nil_of_le (Nat.le_refl _)]at hI
  by_cases h:a.l.length<b.l.length
  ·rw[show decide (len a<len b)=true from by simp[len];omega,a_]
   rw[List.drop_eq_getElem_cons h]at hI;exact(af _).2 ((af _).2 hI)
  ·rw[show decide (len a<len b)=false from by simp[len];omega,bF]
   rw[List.drop_eq_nil_of_le (show b.l.length≤a.l.length by omega)]at hI
   exact(af _).2 ((af _).2 hI)
theorem DA {a b:Sl Int} (hl:a.l.length<1073741824):dn a b=some (decide (a.l=b.l)):=by
 refine Wp.eq ?_;unfold dn;rw[aH];refine⟨fun h=>?_,fun h=>(af _).2 ?_⟩
 ·have h:(a.l.length:Int)=b.l.length:=by simpa [len]using h
  have h:a.l.length=b.l.length:=by omega
  unfold dn.W1;refine gQ a.l.length (fun n s=>s=(n:Int)∧∀i,i<n→a.l[i]? = b.l[i]?) ⟨rfl,fun i h=>absurd h (by omega)⟩ ?_ ?_
  ·rintro n _ hlt ⟨rfl,hI⟩;unfold dn.aA;have hb:n<b.l.length:=by omega
   rw[show decide ((n:Int)<len a)=true from kL hlt,a_,aP hlt,ζb,aP hb,ζb,aH];refine⟨fun he=>(af _).2 ⟨bR n (by omega),fun i hi=>?_⟩,fun he=>(af _).2 ((af _).2 ?_)⟩
   ·by_cases e:i=n
    ·subst e;rw[ζd hlt,ζd hb];simpa using he
    ·exact hI i (by omega)
   ·refine(decide_eq_false fun e=>?_).symm
    have h1:a.l[n]? = b.l[n]? := by rw[e]
    rw[ζd hlt,ζd hb]at h1;simp at he h1;exact he h1
  ·rintro _ ⟨rfl,hI⟩;unfold dn.aA;rw[lC,bF,af];refine(af _).2 (decide_eq_true (List.ext_getElem? fun i=>?_)).symm
   by_cases hi:i<a.l.length
   ·exact hI i hi
   ·rw[List.getElem?_eq_none (by omega),List.getElem?_eq_none (by omega)]
 ·refine(decide_eq_false fun e=>?_).symm
  simp[len,e]at h
end Go.VE
namespace Go.VE
section
variable {t:Trace} {A:bK 200 aK}
def ri (A:bK 200 aK) (e:Event):aa:=if e.kind=3 then(ag A e.message).from_ else ⟨0,0⟩
structure L0 (t:Trace) (A:bK 200 aK) (n:Nat) (m:aZ):Prop where
 lens:m.lengths.l=(t.procs.l.take n).map fun P=>(P.events.l.length:Int)
 need:m.need.l.map Sl.l=(t.procs.l.take n).map fun P=>P.events.l.map (ri A)
theorem of_wp (hS:Small t) (hv:ct t=some true) (hV:VT t) (hM:eH t (aO t) A):Wp (iy t) (L0 t A t.procs.l.length):=by
 have hn8:=hV.few;unfold iy iy.W1;refine gQ t.procs.l.length (fun n s=>s.1=(n:Int)∧s.2.1=t∧L0 t A n s.2.2.2) ⟨rfl,rfl,rfl,rfl⟩ ?_ ?_
 ·rintro n ⟨_,_,vb,mb⟩ hlt ⟨h1,h2,h3⟩;simp only at h1 h2 h3;subst h1;have h2:=h2.symm;subst h2;unfold iy.aA;rw[kL hlt,a_,aP hlt,ζb];have hPg:=ζd hlt;have hPl:=(hS.2 _ (List.getElem_mem hlt)).1;generalize hPe:t.procs.l[n]=P at *;unfold iy.W2;refine gQ P.events.l.length (fun k s=>s.2.1=(k:Int)∧s.2.2.1=t∧s.2.2.2.2=mb∧s.1.l=(P.events.l.take k).map (ri A)) ⟨rfl,rfl,rfl,rfl⟩ ?_ ?_
  ·rintro k ⟨nd,_,_,vb2,_⟩ hk ⟨h4,h5,h6,h7⟩;simp only at h4 h5 h6 h7;subst h4;have h5:=h5.symm;have h6:=h6.symm;subst h5 h6;unfold iy.bu;rw[kL hk,a_,aP hk,ζb];have hat:iF t n k P.events.l[k]:=⟨P,hPg,ζd hk⟩;have htk:P.events.l.take (k+1)=P.events.l.take k++[P.events.l[k]]:=by rw[List.take_add_one,ζd hk];rfl
   generalize P.events.l[k]=e at *;have fin:∀id,id=ri A e→Wp (iy.J3 nd t.procs (len t.procs) n P.events (len P.events) k t ⟨Sl.nil,Sl.nil⟩ mb P id) fun w=>match w with|.n s'=>s'.2.1=((k+1:Nat):Int)∧s'.2.2.1=t∧s'.2.2.2.2=mb∧s'.1.l=(P.events.l.take (k+1)).map (ri A)|.x e=>False|.r b=>False:=fun id hid=>by
    unfold iy.J3;obtain⟨r,h8,h9⟩:=oS (s:=nd) (x:=id) (by rw[h7];simp;omega)
    rw[h8,ζb,af];exact⟨bR k (by omega),rfl,rfl,by rw[h9,h7,htk,List.map_append,hid];rfl⟩
   rw[aH];constructor
   ·intro h3;have h3:e.kind=3:=by simpa using h3
    obtain⟨q,j,y,hy,y1,y2,y3,y4,y5⟩:=qe hV hM hat h3;have hs:=B1 hS hv hM (cm.2 ⟨q,j,hy,rfl⟩:((⟨q,j+1⟩:aa),y)∈aO t) y1;simp only at hs;rw[y2]at hs;rw[hs,ζb];refine(fin _ (by unfold ri;rw[if_pos h3,y5])).mono fun w hw=>?_
    cases w with
    | n s=>exact hw
    | x e=>exact hw.elim
    | r b=>exact hw.elim
   ·intro h3;have h3:¬e.kind=3:=by simpa using h3
    refine(fin _ (by unfold ri;rw[if_neg h3])).mono fun w hw=>?_
    cases w with
    | n s=>exact hw
    | x e=>exact hw.elim
    | r b=>exact hw.elim
  ·rintro⟨nd,_,_,vb2,_⟩ ⟨h4,h5,h6,h7⟩;simp only at h4 h5 h6 h7;subst h4;have h5:=h5.symm;have h6:=h6.symm;subst h5 h6;unfold iy.bu;have hl1:mb.lengths.l.length=n:=by rw[h3.lens];simp;omega
   have hl2:mb.need.l.length=n:=by have:=congrArg List.length h3.need;simp at this;omega
   obtain⟨x1,a1,a2⟩:=oS (s:=mb.lengths) (x:=len P.events) (by omega)
   obtain⟨x2,b1,b2⟩:=oS (s:=mb.need) (x:=nd) (by omega)
   rw[lC,bF,af];simp only;rw[a1,ζb,b1,ζb,af];have htk:t.procs.l.take (n+1)=t.procs.l.take n++[P]:=by rw[List.take_add_one,hPg];rfl
   refine⟨bR n (by omega),rfl,?_,?_⟩
   ·show x1.l=_;rw[a2,h3.lens,htk,List.map_append];rfl
   ·show x2.l.map Sl.l=_;rw[b2,List.map_append,h3.need,htk,List.map_append,List.map_cons,h7,List.take_length];rfl
 ·rintro⟨_,_,vb,mb⟩ ⟨h1,h2,h3⟩;simp only at h1 h2 h3;subst h1;have h2:=h2.symm;subst h2;unfold iy.aA;rw[lC,bF,af];exact(af _).2 h3
theorem KH (hV:VT t) (hM:eH t (aO t) A) {m:aZ} (hm:L0 t A t.procs.l.length m) {c:Sl Int} (hC:Cons t A c.l) {p:Nat} (hp:p<t.procs.l.length) :
 Wp (lB m c p) fun b=>(b=true↔∃a,c.l[p]? = some a∧Cons t A (c.l.set p (a+1))):=by
 have hcl:=hC.1.1;have hPg:=ζd hp;obtain⟨a,ha⟩:=hC.1.at_ hp;have hr:=hC.1.2 p a _ ha hPg;generalize t.procs.l[p]=P at *;have hlen:m.lengths.l[p]? = some (P.events.l.length:Int):=by rw[hm.lens,List.take_length,List.getElem?_map,hPg];rfl
 have hpl:=(ζe.1 ha).1;have hix:idx c (p:Int)=some a:=by rw[kX];exact ha
 unfold lB;rw[hix,ζb,kX,hlen,ζb,aH];constructor
 ·intro h;have h:a=P.events.l.length:=by simpa using h
  refine(af _).2 ⟨fun h=>(by cases h),fun⟨b,hb,hC2⟩=>?_⟩
  rw[ha]at hb;cases hb;have:=hC2.1.2 p (a+1) P (by simp[hpl]) hPg
  omega
 ·intro h;have h:¬a=P.events.l.length:=by simpa using h
  have hlt:a<P.events.l.length:=by omega
  have hn:=congrArg (fun l=>l[p]?) hm.need
  simp only[List.take_length,List.getElem?_map,hPg,Option.map_some]at hn;obtain⟨nd,hnd,hnl⟩:=ζf.1 hn;have hal:a.toNat<P.events.l.length:=by omega
  have hx:idx nd a=some (ri A P.events.l[a.toNat]):=by
   rw[K_ hr.1,hnl,List.getElem?_map,ζd hal];rfl
  rw[kX,hnd,ζb,ζb,hx,ζb];have hup:=hC.up hV hM hPg ha hlt;have hiff:(∃b,c.l[p]? = some b∧Cons t A (c.l.set p (b+1)))↔JO t A c.l p:=by
   rw[hup];exact⟨fun⟨b,hb,k⟩=>by rw[ha]at hb;cases hb;exact k,fun k=>⟨a,ha,k⟩⟩
  rw[hiff];have hat:iF t p a.toNat P.events.l[a.toNat]:=⟨P,hPg,ζd hal⟩;have hen:JO t A c.l p↔(P.events.l[a.toNat].kind=3→∃b,c.l[(ag A P.events.l[a.toNat].message).from_.proc.toNat]? = some b∧(ag A P.events.l[a.toNat].message).from_.index≤b):=
   ⟨fun⟨Q,e,x,h1,h2,h3,h4⟩=>by rw[hPg]at h1;cases h1;rw[ha]at h2;cases h2;rw[ζd hal]at h3;cases h3;exact h4,fun h=>⟨P,_,a,hPg,ha,ζd hal,h⟩⟩
  rw[hen];generalize P.events.l[a.toNat]=e at *;unfold ri
  by_cases h3:e.kind=3
  ·rw[if_pos h3];obtain⟨q,j,f1,_,_,y,Q,hQ,_⟩:=vh hV hM hat h3;have hq:q<c.l.length:=by have:=(ζe.1 hQ).1;omega
   rw[f1];simp only[Int.toNat_natCast];rw[aP hq,ζb,af];simp only[decide_eq_true_eq];exact⟨fun h _=>⟨_,ζd hq,h⟩,fun h=>by obtain⟨b,hb,hb2⟩:=h h3;rw[ζd hq]at hb;cases hb;exact hb2⟩
  ·rw[if_neg h3];have h0:0<c.l.length:=by omega
   have hpos:=hC.1.pos 0 _ (ζd h0);have hi:idx c ((⟨0,0⟩:aa).proc)=some c.l[0]:=aP (s:=c) (i:=0) h0;rw[hi,ζb,af];exact⟨fun _ h=>absurd h h3,fun _=>by simpa using hpos⟩
end
end Go.VE
namespace Go.VE
theorem CN {c:Sl Int} (hl:c.l.length≤1073741824) (h0:0<c.l.length):∃d,(jJ c).bind Sl.whole=some d∧d.l=c.l:=by
 unfold jJ;have key:((lg (Sl.row []:Sl Int) c).bind fun x=>some x).bind Sl.whole=some (.row ([]++c.l)):=by
  unfold lg;rw[if_neg (fun h=>by rw[h]at h0;simp at h0),if_pos (show (Sl.row ([]:List Int)).l.length+c.l.length≤2147483648 from show 0+c.l.length≤_ by omega)];rfl
 cases c with
 | nil=>simp[Sl.l]at h0
 | emp=>simp[Sl.l]at h0
 | part l=>exact⟨_,key,rfl⟩
 | row l=>exact⟨_,key,rfl⟩
section
variable {t:Trace} {A:bK 200 aK}
theorem JE (hS:Small t) (hV:VT t) (hM:eH t (aO t) A) {m:aZ} (hm:L0 t A t.procs.l.length m) {k:Nat} {level:Sl (Sl Int)} (hL:xT t A k level) (hl:level.l.length≤5000) :
 Wp (cW m level) fun r=>xT t A (k+1) r∧(ins r).Nodup∧r.l.length≤40000:=by
 have hn8:=hV.few;unfold cW cW.W1;refine gQ level.l.length (fun n s=>s.2.1=len level∧s.2.2=(n:Int)∧s.1.l.length≤8*n∧∀d,d∈ins s.1↔∃c∈(level.l.take n).map Sl.l,yC t A c d) ⟨rfl,rfl,Nat.zero_le _,fun d=>by simp[ins,Sl.l]⟩ ?_ ?_
 ·rintro n ⟨out,_,_⟩ hlt ⟨e1,e2,g1,g2⟩;simp only at e1 e2 g1 g2;subst e1 e2;have hCn:=(hL level.l[n].l).1 (mZ.2 ⟨_,List.getElem_mem hlt,rfl⟩);unfold cW.aA;rw[kL hlt,a_,aP hlt,ζb];have htk:∀d,d∈(level.l.take (n+1)).map Sl.l↔d∈(level.l.take n).map Sl.l∨d=level.l[n].l:=fun d=>p_ hlt
  generalize level.l[n]=c at *;have hcl:=hCn.1.1.1;have hone:=hV.ok.one;unfold cW.W2;refine gQ c.l.length (fun j s=>s.2=(j:Int)∧s.1.l.length≤8*n+j∧∀d,d∈ins s.1↔d∈ins out∨∃(p:Nat) (a:Int),p<j∧c.l[p]? = some a∧d=c.l.set p (a+1)∧Cons t A d) ⟨rfl,g1,fun d=>⟨.inl,fun h=>h.elim id fun⟨p,a,h,_⟩=>absurd h (by omega)⟩⟩ ?_ ?_
  ·rintro j ⟨o2,_⟩ hj ⟨e,f1,f2⟩;simp only at e f1 f2;subst e;unfold cW.bu;rw[show decide ((j:Int)<len c)=true from kL hj,a_,bt];refine(KH hV hM hm hCn.1 (p:=j) (by omega)).mono fun b hb=>?_
   have hcg:=ζd hj;have hr:=hCn.1.1.2 j _ _ hcg (ζd (show j<t.procs.l.length by omega))
   have hPl:=(hS.2 _ (List.getElem_mem (show j<t.procs.l.length by omega))).1
   generalize c.l[j]=a at *;have more:∀o3:Sl (Sl Int),(∀d,d∈ins o3↔d∈ins o2∨d=c.l.set j (a+1)∧Cons t A d)→∀d,d∈ins o3↔d∈ins out∨∃(p:Nat) (a:Int),p<j+1∧c.l[p]? = some a∧d=c.l.set p (a+1)∧Cons t A d:=fun o3 h d=>by
    rw[h,f2];constructor
    ·rintro ((h|⟨p,b,h,k⟩)|⟨h,k⟩)
     ·exact .inl h
     ·exact .inr ⟨p,b,by omega,k⟩
     ·exact .inr ⟨j,a,by omega,hcg,h,k⟩
    ·rintro (h|⟨p,b,h,k1,k2,k3⟩)
     ·exact .inl (.inl h)
     ·by_cases e:p=j
      ·subst e;rw[hcg]at k1;cases k1;exact .inr ⟨k2,k3⟩
      ·exact .inl (.inr ⟨p,b,by omega,k1,k2,k3⟩)
   rw[aH];constructor
   ·intro ht;obtain⟨x,hx,hC2⟩:=hb.1 ht;rw[hcg]at hx;cases hx;obtain⟨d,hd,hdl⟩:=CN (c:=c) (by omega) (by omega)
    obtain⟨d2,hd2,hdl2⟩:=put_eq (s:=d) (p:=j) (x:=a+1) (by rw[hdl];exact hj)
    obtain⟨o3,ho3,hol3⟩:=oS (s:=o2) (x:=d2) (by omega)
    have hg:Sl.get d j=some a:=by unfold Sl.get;rw[hdl];exact hcg
    rw[hd,ζb,CU (by rw[hdl];exact hj),ζb,hg,ζb,ζb,iE _ (by omega) (by omega),hd2,ζb,ho3,ζb,af]
    refine⟨bR j (by omega),by rw[hol3];simp;omega,more o3 fun e=>?_⟩
    rw[E5 hol3,hdl2,hdl];exact⟨fun h=>h.elim .inl fun h=>.inr ⟨h,by rw[h];exact hC2⟩,fun h=>h.elim .inl fun h=>.inr h.1⟩
   ·intro hf;refine(af _).2 ⟨bR j (by omega),Nat.le_succ_of_le f1,more o2 fun d=>⟨.inl,fun h=>h.elim id fun⟨h1,h2⟩=>?_⟩⟩
    rw[hb.2 ⟨a,hcg,by rw[←h1];exact h2⟩]at hf;cases hf
  ·rintro⟨o2,_⟩ ⟨e,f1,f2⟩;simp only at e f1 f2;subst e;unfold cW.bu;rw[lC,bF,af];refine(af _).2 ⟨rfl,bR n (by omega),show o2.l.length≤_ by omega,fun d=>?_⟩
   rw[f2];constructor
   ·rintro (h|⟨p,a,_,h⟩)
    ·obtain⟨c',hc,hs⟩:=(g2 d).1 h;exact⟨c',(htk c').2 (.inl hc),hs⟩
    ·exact⟨_,(htk _).2 (.inr rfl),p,a,h⟩
   ·rintro⟨c',hc,hs⟩;rcases (htk c').1 hc with h|h
    ·exact .inl ((g2 d).2 ⟨c',h,hs⟩)
    ·subst h;obtain⟨p,a,h⟩:=hs;exact .inr ⟨p,a,(ζe.1 h.1).1,h⟩
 ·rintro⟨out,_,_⟩ ⟨e1,e2,g1,g2⟩;simp only at e1 e2 g1 g2;subst e1 e2;unfold cW.aA;rw[lC,bF,af];simp only;have hout:xT t A (k+1) out:=fun d=>by
   rw[g2,List.take_length,←yC.iff hV hM (k:=k)];exact⟨fun⟨c,hc,hs⟩=>⟨c,(hL c).1 hc,hs⟩,fun⟨c,hc,hs⟩=>⟨c,(hL c).2 hc,hs⟩⟩
  have hlen:∀s:Sl (Sl Int),(∀d,d∈ins s↔d∈ins out)→∀x∈s.l,x.l.length<1073741824:=fun s h x hx=>by
   have:=((hout x.l).1 ((h x.l).1 (mZ.2 ⟨x,hx,rfl⟩))).1.1.1;omega
  obtain⟨r1,h1,p1,s1⟩:=J_ (s:=out) (p:=gN) (f:=Sl.l) (fun x y hx _=>He (hlen out (fun _=>Iff.rfl) x hx)) (by omega)
  have hr1:∀d,d∈ins r1↔d∈ins out:=fun d=>(p1.map Sl.l).mem_iff
  have hr1l:r1.l.length=out.l.length:=p1.length_eq;obtain⟨r2,h2,nd,m2,l2⟩:=JS (s:=r1) (p:=iS) (f:=Sl.l) (fun x y hx _=>by unfold iS;rw[DA (hlen r1 hr1 x hx)];rfl) (by omega) s1
  rw[h1,ζb,h2,ζb,af];exact⟨fun d=>(m2 d).trans ((hr1 d).trans (hout d)),nd,by omega⟩
structure Qf (t:Trace) (A:bK 200 aK) (k:Nat) (o:Sl (Sl (Sl Int))):Prop where
 nd:(o.l.flatMap ins).Nodup
 mem:∀d,d∈o.l.flatMap ins↔Cons t A d∧d.sum<(k:Int)
theorem Kk (hS:Small t) (hv:ct t=some true) (hV:VT t) (hM:eH t (aO t) A) {all:List (List Int)} (ha:∀d,Cons t A d→d∈all) (h250:all.length≤250) (hT:lF t<1073741824) :
 Wp (tg t) fun r=>r.2=0∧r.1.l.length≤250∧∀d,d∈ins r.1↔Cons t A d:=by
 have hn8:=hV.few;unfold tg xd gT;rw[hv,ζb,a_,bt,bt,bt];refine(of_wp hS hv hV hM).mono fun m hm=>?_
 unfold nJ;rw[if_pos ⟨by simp[len],by simp[len];omega⟩,ζb]
 have fin:∀(k:Nat) (out:Sl (Sl (Sl Int))),Qf t A k out→(∀d,Cons t A d→d.sum<(k:Int))→out.l.length≤2147483648→(out.l.flatMap ins).length≤250→Wp ((gL out).bind fun x_2=>some (x_2,(0:Int))) fun b=>Wp (some (b.1,b.2)) fun r=>r.2=0∧r.1.l.length≤250∧∀d,d∈ins r.1↔Cons t A d:=fun k out h3 hk ho hf=>by
  have hfl:(out.l.flatMap Sl.l).map Sl.l=out.l.flatMap ins:=by rw[List.map_flatMap];rfl
  have hc:(uV out).l=out.l.flatMap Sl.l:=by
   unfold uV;split
   ·rename_i h;exact(List.length_eq_zero_iff.1 h).symm
   ·rfl
  unfold gL;rw[if_pos ⟨ho,by rw[←List.length_map (f:=Sl.l),hfl];omega⟩,ζb,af,af]
  refine⟨rfl,show (uV out).l.length≤250 by rw[hc,←List.length_map (f:=Sl.l),hfl];omega,fun d=>?_⟩
  have:ins (uV out)=out.l.flatMap ins:=by unfold ins at hfl ⊢;rw[hc];exact hfl
  show d∈ins (uV out)↔_;rw[this,h3.mem];exact⟨fun h=>h.1,fun h=>⟨h,hk d h⟩⟩
 unfold gT.W1;refine gQ (lF t+1) (fun k s=>xT t A k s.1∧(ins s.1).Nodup∧Qf t A k s.2.1∧s.2.2=((s.2.1.l.flatMap ins).length:Int)∧s.2.1.l.length=k) ⟨QM (by simp[Sl.l,len]),by simp[ins,Sl.l],⟨by simp[Sl.l],fun d=>⟨fun h=>by simp[Sl.l]at h,fun h=>absurd (m_ h.1.1.pos) (by have:=h.2;simp at this;omega)⟩⟩,by simp[Sl.l],rfl⟩ ?_ ?_
 ·rintro k ⟨level,out,tot⟩ hk ⟨h1,h2,h3,h4,h5⟩;simp only at h1 h2 h3 h4 h5;have bound:(out.l.flatMap ins++ins level).Nodup∧(out.l.flatMap ins).length+level.l.length≤250:=by
   have nd:(out.l.flatMap ins++ins level).Nodup:=List.nodup_append.2 ⟨h3.nd,h2,fun a ha b hb e=>by
    have x1:=((h3.mem a).1 ha).2;have x2:=((h1 b).1 hb).2;rw[e]at x1;omega⟩
   refine⟨nd,?_⟩;have:=sr (r:=all) nd fun x hx=>(List.mem_append.1 hx).elim (fun h=>ha x ((h3.mem x).1 h).1) fun h=>ha x ((h1 x).1 h).1
   rw[ζi]at this;have e:(ins level).length=level.l.length:=by unfold ins;simp
   omega
  unfold gT.aA;rw[zo]
  by_cases he:level.l.length=0
  ·rw[show (!decide (level.l.length=0))=false from by simp[he],bF,af]
   refine(af _).2 ?_;exact fin k out h3 (fun d hD=>h1.none hV hM he hD) (by omega) (by omega)
  ·rw[show (!decide (level.l.length=0))=true from by simp[he],a_,h4]
   have hw:IntKind.wrap .i64 (((out.l.flatMap ins).length:Int)+len level)=(((out.l.flatMap ins).length+level.l.length:Nat):Int):=by
    have e:len level=(level.l.length:Int):=rfl;rw[e,iE _ (by omega) (by omega)];omega
   rw[hw,show decide ((((out.l.flatMap ins).length+level.l.length:Nat):Int)>5000)=false from decide_eq_false (by omega),bF]
   obtain⟨o2,g1,g2⟩:=oS (s:=out) (x:=level) (by omega)
   rw[g1,ζb,bt];refine(JE hS hV hM hm h1 (by omega)).mono fun r ⟨r1,r2,r3⟩=>?_
   have hfl:o2.l.flatMap ins=out.l.flatMap ins++ins level:=by rw[g2];simp
   refine(af _).2 ⟨r1,r2,⟨by rw[hfl];exact bound.1,fun d=>?_⟩,by rw[hfl,ζi];unfold ins;simp,by rw[g2];simp[h5]⟩
   rw[hfl,List.mem_append,h3.mem,h1];constructor
   ·rintro (⟨h,k1⟩|⟨h,k1⟩)
    ·exact⟨h,by omega⟩
    ·exact⟨h,by omega⟩
   ·rintro⟨h,k1⟩
    by_cases hk2:d.sum<(k:Int)
    ·exact .inl ⟨h,hk2⟩
    ·exact .inr ⟨h,by omega⟩
 ·rintro⟨level,out,tot⟩ ⟨h1,h2,h3,h4,h5⟩;simp only at h1 h2 h3 h4 h5;unfold gT.aA;rw[zo,show (!decide (level.l.length=0))=false from by simp[h1.last],bF,af]
  refine(af _).2 ?_;refine fin _ out h3 (fun d hD=>h1.none hV hM h1.last hD) (by omega) ?_
  exact Nat.le_trans (sr (r:=all) h3.nd fun x hx=>ha x ((h3.mem x).1 hx).1) h250
end
end Go.VE
namespace Go.VE
def sB (c d:List Int):Prop:=∀(p:Nat) (a b:Int),c[p]? = some a→d[p]? = some b→a≤b
section
variable {t:Trace} {A:bK 200 aK}
theorem JV (hS:Small t) (hv:ct t=some true) (hV:VT t) (hM:eH t (aO t) A) {c:Sl Int} (hR:kK t c.l) :
 Wp (tE t c) fun r=>r.2=0∧Cons t A r.1.l∧sB c.l r.1.l∧∀d,Cons t A d→sB c.l d→sB r.1.l d:=by
 have hn8:=hV.few;have hone:=hV.ok.one;have hcl:=hR.1;unfold tE hG oR;rw[hv,ζb,a_,sK (f:=fun z=>(e9 z t).getD false) (fun z _=>lK.ok ((af _).2 trivial)) (by simp[Sl.l]),ζb,ζb,ζb]
 have hany:(!((Sl.row [c]:Sl (Sl Int)).l.any fun z=>(e9 z t).getD false))=true:=by
  simp[Sl.l,e9,len,hcl] <;> exact congrArg Int.ofNat hcl
 rw[hany,a_,bt,bt];refine(vw hS hcl).mono fun b hb=>?_
 rw[hb.2 hR,a_];obtain⟨d0,h1,h2⟩:=CN (c:=c) (by omega) (by omega)
 rw[h1,ζb];unfold hG.W1;refine cO (fun s:Sl Int=>kK t s.l∧sB c.l s.l∧∀d,Cons t A d→sB c.l d→sB s.l d) (fun s:Sl Int=>((lF t:Int)-s.l.sum).toNat) ⟨by rw[h2];exact hR,fun p a b ha hb=>by rw[h2,ha]at hb;cases hb;exact Int.le_refl _,fun d _ h=>by rw[h2];exact h⟩ ?_
 rintro s ⟨i1,i2,i3⟩;unfold hG.aA;rw[bt];refine(ES hS hv hV hM i1).mono fun r hr=>?_
 rw[aH];constructor
 ·intro ht;obtain⟨p,k,e,a,q,j,y,b,g1,g2,g3,g4,g5,g6,g7,g8,g9⟩:=hr.2 ht;have hql:=(ζe.1 g8).1;have hset:Sl.setAt s r.1.proc r.1.index=some (s.re (s.l.set q ((j:Int)+1))):=by
   unfold Sl.setAt;rw[g6,if_pos ⟨by simp,by simpa using hql⟩];rfl
  have hre:(s.re (s.l.set q ((j:Int)+1))).l=s.l.set q ((j:Int)+1):=by cases s <;> first|rfl|(simp[Sl.l]at hql)
  simp only;rw[hset,ζb,af];obtain⟨Q,hQ,hy⟩:=g7;have hyl:=(ζe.1 hy).1;have i1':=i1.set hQ (b:=(j:Int)+1) (by omega) (by omega)
  refine⟨⟨by rw[hre];exact i1',?_,?_⟩,?_⟩
  ·rw[hre];intro p' a' b' ha' hb';rw[List.getElem?_set]at hb';split at hb'
   ·rename_i e2;subst e2;simp[hql]at hb';have:=i2 q a' b ha' g8;omega
   ·exact i2 p' a' b' ha' hb'
  ·rw[hre];intro d hD hcd p' a' b' ha' hb';rw[List.getElem?_set]at ha';split at ha'
   ·rename_i e2;subst e2;simp[hql]at ha';obtain⟨x,hx⟩:=hD.1.at_ (show p<t.procs.l.length by have:=(ζe.1 g2).1;rw[←i1.1];exact this)
    have:=i3 d hD hcd p a x g2 hx;obtain⟨z,hz,hz2⟩:=hD.2 p k e x g1 hx (by omega) g4
    rw[g5,g6]at hz hz2;simp only[Int.toNat_natCast]at hz hz2;rw[hb']at hz;cases hz;omega
   ·exact i3 d hD hcd p' a' b' ha' hb'
  ·show ((lF t:Int)-(s.re (s.l.set q ((j:Int)+1))).l.sum).toNat<((lF t:Int)-s.l.sum).toNat;have h3:=i1'.sum;rw[pU g8]at h3;rw[hre,pU g8];omega
 ·intro hf;exact(af _).2 ((af _).2 ((af _).2 ⟨rfl,⟨i1,hr.1 hf⟩,i2,i3⟩))
end
end Go.VE
namespace Go.VE
theorem Pr {S:List Int} (hu:Up S) {i:Nat} {k x:Int} (hk:S[i]? = some k):k≤x↔i<S.countP (fun a=>decide (a≤x)):=by
 have hi:=(ζe.1 hk).1;have hs:S.countP (fun a=>decide (a≤x))=(S.take i).countP (fun a=>decide (a≤x))+(S.drop i).countP (fun a=>decide (a≤x)):=by
  rw[←List.countP_append,List.take_append_drop]
 have hd:S.drop i=k::S.drop (i+1):=by rw[List.drop_eq_getElem_cons hi];congr 1;exact(ζe.1 hk).2
 constructor
 ·intro hx;have h1:(S.take i).countP (fun a=>decide (a≤x))=i:=by
   rw[List.countP_eq_length.2 ?_,List.length_take];omega;intro a ha;obtain⟨j,hj⟩:=List.mem_iff_getElem?.1 ha;rw[List.getElem?_take]at hj;split at hj
   ·rename_i hji;have:=hu j i a k hji hj hk;simp;omega
   ·cases hj
  rw[hs,h1,hd,List.countP_cons];simp[hx]
 ·intro h;refine Classical.byContradiction fun hx=>?_
  have h1:(S.drop i).countP (fun a=>decide (a≤x))=0:=by
   rw[List.countP_eq_zero];intro a ha;obtain⟨j,hj⟩:=List.mem_iff_getElem?.1 ha;rw[List.getElem?_drop]at hj
   by_cases h0:j=0
   ·subst h0;rw[Nat.add_zero,hk]at hj;cases hj;simpa using hx
   ·have:=hu i (i+j) k a (by omega) hk hj;simp;omega
  have:=List.countP_le_length (p:=fun a=>decide (a≤x)) (l:=S.take i)
  rw[List.length_take]at this;omega
theorem It (f:Event→Bool):∀(l:List Event) (j:Int) (a:Int),a∈jK f j l→a≤j+l.length
 | [],j,a,h=>by simp[jK]at h
 | x::l,j,a,h=>by
  have ih:=It f l (j+1) a;simp only[jK]at h;split at h
  ·rcases List.mem_cons.1 h with h|h
   ·subst h;simp;omega
   ·have:=ih h;simp;omega
  ·have:=ih h;simp;omega
section
variable {t:Trace} {A:bK 200 aK}
def ov (t:Trace) (p q:Nat) (d:List Int):Nat:=match t.procs.l[p]?,d[p]? with
 | some P,some a=>(P.events.l.take a.toNat).countP (dg q)
 | _,_=>0
theorem GQ {c d:List Int} (hC:Cons t A c) (hD:Cons t A d) (hle:sB c d) {p q:Nat} (hp:p<t.procs.l.length) (hq:q<t.procs.l.length) (hn:ov t p q d≤ov t p q c):under t d p q≤under t c p q:=by
 obtain⟨a,ha⟩:=hC.1.at_ hp;obtain⟨b,hb⟩:=hC.1.at_ hq;obtain⟨a',ha'⟩:=hD.1.at_ hp;obtain⟨b',hb'⟩:=hD.1.at_ hq;have h1:=ζd hp;have h2:=ζd hq;unfold ov at hn;unfold under;rw[h1,ha,ha']at hn;rw[h1,h2,ha,hb,ha',hb'];simp only at hn ⊢;have hbb:=hle q b b' hb hb';have hm:(t.procs.l[q].events.l.take b.toNat).countP (d_ p)≤(t.procs.l[q].events.l.take b'.toNat).countP (d_ p):=by
  have:t.procs.l[q].events.l.take b.toNat=(t.procs.l[q].events.l.take b'.toNat).take b.toNat:=by rw[List.take_take,Nat.min_eq_left (by omega)]
  rw[this];exact(List.take_sublist _ _).countP_le
 omega
theorem E9 {d:List Int} (hD:kK t d) {p:Nat} (hp:p<t.procs.l.length) {q i:Nat} {k a:Int} (hk:(jK (dg q) 0 t.procs.l[p].events.l)[i]? = some k) (ha:d[p]? = some a):k≤a↔i<ov t p q d:=by
 have h0:=hD.pos p a ha;rw[Pr (wD _ _ 0) hk];have:=rq (dg q) t.procs.l[p].events.l 0 a.toNat;rw[show (0:Int)+(a.toNat:Nat)=a from by omega]at this
 rw[this];unfold ov;rw[ζd hp,ha]
theorem QX {d:List Int} (hD:kK t d) {p:Nat} (hp:p<t.procs.l.length) (q:Nat):ov t p q d≤(jK (dg q) 0 t.procs.l[p].events.l).length:=by
 obtain⟨a,ha⟩:=hD.at_ hp;have h0:=hD.pos p a ha;have:=rq (dg q) t.procs.l[p].events.l 0 a.toNat;unfold ov;rw[ζd hp,ha];simp only;rw[←this];exact List.countP_le_length
theorem Nx (hS:Small t) (hv:ct t=some true) (hV:VT t) (hM:eH t (aO t) A) {p q:Nat} (hp:p<t.procs.l.length) (hq:q<t.procs.l.length) (hne:p≠q) :
 Wp (fL t p q) fun r=>r.2.2=0∧Cons t A r.2.1.l∧under t r.2.1.l p q=r.1∧∀d,Cons t A d→under t d p q≤r.1∧(under t d p q=r.1→sB r.2.1.l d):=by
 have hn8:=hV.few;have hP:=(hS.2 _ (List.getElem_mem hp)).1;unfold fL;rw[KR hv hp hq hne,ζb,show ((0:Int)==0)=true from rfl,a_,bt];refine(Nw hS hp hq).mono fun w ⟨w1,w2,w3,w4⟩=>?_
 have hmk:nJ (len t.procs) (0:Int)=some (Sl.row (List.replicate t.procs.l.length 0)):=by
  unfold nJ;rw[if_pos ⟨by simp[len],by simp[len];omega⟩];simp[len]
 rw[hmk,ζb];unfold fL.W1;have hz:∀(i:Nat) a,(List.replicate t.procs.l.length (0:Int))[i]? = some a→a=0:=fun i a h=>by
  rw[List.getElem?_replicate]at h;split at h <;> cases h;rfl
 have hsl:w.sent.l.length≤t.procs.l[p].events.l.length:=by rw[w3];exact sn _ _ _
 refine gQ w.sent.l.length (fun i s=>s.2.2=(i:Int)∧Cons t A s.2.1.l∧under t s.2.1.l p q=s.1∧(∀d,Cons t A d→ov t p q d≤i→under t d p q≤s.1∧(under t d p q=s.1→sB s.2.1.l d))∧∀d,Cons t A d→i≤ov t p q d→sB s.2.1.l d)
  ⟨rfl,u7,?_,fun d hD hc=>⟨?_,fun _ i a b ha hb=>by rw[hz i a ha];exact hD.1.pos i b hb⟩,fun d hD _ i a b ha hb=>by rw[hz i a ha];exact hD.1.pos i b hb⟩ ?_ ?_
 ·have hr:∀r:Nat,r<t.procs.l.length→(List.replicate t.procs.l.length (0:Int))[r]? = some 0:=fun r hr=>by rw[List.getElem?_replicate,if_pos hr]
  show under t (List.replicate t.procs.l.length 0) p q=0;unfold under;rw[ζd hp,ζd hq,hr p hp,hr q hq];simp
 ·obtain⟨a,ha⟩:=hD.1.at_ hp;obtain⟨b,hb⟩:=hD.1.at_ hq;show under t d p q≤0;unfold ov at hc;unfold under;rw[ζd hp,ha]at hc;rw[ζd hp,ζd hq,ha,hb];simp only at hc ⊢;omega
 ·rintro i ⟨m,c,_⟩ hlt ⟨e,h1,h2,h3,h4⟩;simp only at e h1 h2 h3 h4;subst e;have hk:=ζd hlt;unfold fL.aA;rw[kL hlt,a_,aP hlt,ζb,hmk,ζb];generalize w.sent.l[i]=k at *;rw[w3]at hk;have k0:=wR _ _ _ _ (List.mem_of_getElem? hk);have k1:=It _ _ _ _ (List.mem_of_getElem? hk);obtain⟨c0,g1,g2⟩:=put_eq (s:=Sl.row (List.replicate t.procs.l.length (0:Int))) (p:=p) (x:=k) (by simpa [Sl.l]using hp)
  have g2:c0.l=(List.replicate t.procs.l.length (0:Int)).set p k:=g2;rw[CU (by simpa [Sl.l]using hp),ζb,g1,ζb,bt]
  have hR0:kK t c0.l:=by rw[g2];exact u7 (A:=A).1.set (ζd hp) (by omega) (by omega)
  refine(JV hS hv hV hM hR0).mono fun r ⟨r0,r1,r2,r3⟩=>?_
  have least:∀d,Cons t A d→i<ov t p q d→sB r.1.l d:=fun d hD hc=>r3 d hD fun j a b ha hb=>by
   rw[g2,List.getElem?_set]at ha;split at ha
   ·rename_i e;subst e;simp[hp]at ha;subst ha;exact(E9 hD.1 hp hk hb).2 hc
   ·rw[hz j a ha];exact hD.1.pos j b hb
  have hcr:i<ov t p q r.1.l:=by
   obtain⟨a,ha⟩:=r1.1.at_ hp;refine(E9 r1.1 hp hk ha).1 (r2 p k a ?_ ha);rw[g2];simp[hp]
  rw[r0,show ((0:Int)==0)=true from rfl,a_,Q_ hS hp hq r1.1.1 (fun a ha=>by
   obtain⟨j,hj⟩:=List.mem_iff_getElem?.1 ha;exact r1.1.pos j a hj) w1 w2 w3 w4,ζb]
  have hmax:∀d,Cons t A d→ov t p q d=i+1→under t d p q≤under t r.1.l p q:=fun d hD hc=>GQ r1 hD (least d hD (by omega)) hp hq (by omega)
  have hi:IntKind.wrap .i64 ((i:Int)+1)=((i+1:Nat):Int):=bR i (by omega)
  rw[aH];constructor
  ·intro hgt;have hgt:under t r.1.l p q>m:=by simpa using hgt
   refine(af _).2 ⟨hi,r1,rfl,fun d hD hc=>?_,fun d hD hc=>least d hD (by omega)⟩
   show under t d p q≤under t r.1.l p q∧(under t d p q=under t r.1.l p q→sB r.1.l d)
   by_cases e:ov t p q d=i+1
   ·exact⟨hmax d hD e,fun _=>least d hD (by omega)⟩
   ·have:=(h3 d hD (by omega)).1
    exact⟨by omega,fun h=>absurd h (by omega)⟩
  ·intro hle;have hle:¬under t r.1.l p q>m:=by simpa using hle
   refine(af _).2 ⟨hi,h1,h2,fun d hD hc=>?_,fun d hD hc=>h4 d hD (by omega)⟩
   show under t d p q≤m∧(under t d p q=m→sB c.l d)
   by_cases e:ov t p q d=i+1
   ·have:=hmax d hD e;exact⟨by omega,fun _=>h4 d hD (by omega)⟩
   ·exact h3 d hD (by omega)
 ·rintro⟨m,c,_⟩ ⟨e,h1,h2,h3,h4⟩;simp only at e h1 h2 h3 h4;subst e;unfold fL.aA;rw[lC,bF,af];exact(af _).2 ⟨rfl,h1,h2,fun d hD=>h3 d hD (by rw[w3];exact QX hD.1 hp q)⟩
end
end Go.VE
namespace Go.VE
section
variable {t:Trace} {A:bK 200 aK}
theorem HV (hS:Small t) (hv:ct t=some true) (hV:VT t) (hM:eH t (aO t) A) {c:Sl Int} (hC:Cons t A c.l) {p q:Nat} (hp:p<t.procs.l.length) (hq:q<t.procs.l.length) :
 bX t (Sl.row [c]:Sl (Sl Int)) (Sl.row [(p:Int),(q:Int)]:Sl Int)=some 0:=by
 refine Wp.eq ?_;have hcl:=hC.1.1;unfold bX oR;rw[hv,ζb,a_,sK (f:=fun z=>(e9 z t).getD false) (fun z _=>lK.ok ((af _).2 trivial)) (by simp[Sl.l]),ζb,ζb,ζb]
 have hany:(!((Sl.row [c]:Sl (Sl Int)).l.any fun z=>(e9 z t).getD false))=true:=by
  simp[Sl.l,e9,len,hcl] <;> exact congrArg Int.ofNat hcl
 rw[hany,a_];unfold bX.W1;refine gQ 1 (fun n s=>s=(n:Int)) rfl ?_ ?_
 ·rintro n _ hn rfl;obtain rfl:n=0:=by omega
  unfold bX.aA;rw[show decide (((0:Nat):Int)<len (Sl.row [c]:Sl (Sl Int)))=true from rfl,a_,show idx (Sl.row [c]:Sl (Sl Int)) ((0:Nat):Int)=some c from rfl,ζb,bt];refine(vw hS hcl).mono fun b hb=>?_
  rw[hb.2 hC.1,a_];exact(af _).2 rfl
 ·rintro _ rfl;unfold bX.aA;rw[show decide (((1:Nat):Int)<len (Sl.row [c]:Sl (Sl Int)))=false from rfl,bF,af];have proc:∀r:Nat,r<t.procs.l.length→qy t r=some true:=fun r hr=>by
   unfold qy;rw[show decide ((r:Int)≥0)=true from by simp,a_,kL hr];rfl
  show Wp (bX.W2 (Sl.row [c]) (Sl.row [(p:Int),(q:Int)]) 2 0 t) _;unfold bX.W2;refine gQ 2 (fun n s=>s=(n:Int)) rfl ?_ ?_
  ·rintro n _ hn rfl;unfold bX.bu;rw[show decide ((n:Int)<2)=true from by simp;omega,a_]
   have hx:∃r:Nat,idx (Sl.row [(p:Int),(q:Int)]) (n:Int)=some (r:Int)∧r<t.procs.l.length:=by
    rcases (show n=0∨n=1 by omega)with rfl|rfl
    ·exact⟨p,rfl,hp⟩
    ·exact⟨q,rfl,hq⟩
   obtain⟨r,h1,h2⟩:=hx;rw[h1,ζb,proc r h2,ζb,a_];exact(af _).2 (bR n (by omega))
  ·rintro _ rfl;unfold bX.bu;rw[show decide (((2:Nat):Int)<2)=false from rfl,bF,af];show Wp (bX.W3 (Sl.row [c]) 1 0 t) _;unfold bX.W3;refine gQ 1 (fun n s=>s=(n:Int)) rfl ?_ ?_
   ·rintro n _ hn rfl;obtain rfl:n=0:=by omega
    unfold bX.dK;rw[show decide (((0:Nat):Int)<1)=true from rfl,a_,show idx (Sl.row [c]:Sl (Sl Int)) ((0:Nat):Int)=some c from rfl,ζb];unfold rQ;rw[bt,bt];refine(zV hS hv hV hM hC.1).mono fun r hr=>?_
    rw[af,hr.2 hC.2];exact(af _).2 rfl
   ·rintro _ rfl;unfold bX.dK;rw[show decide (((1:Nat):Int)<1)=false from rfl,bF,af];exact(af _).2 rfl
theorem KP (hS:Small t) (hv:ct t=some true) (kind m:Int):fA t kind m=some (match (aO t).find? (iQ kind m)with|some x=>(x.1,true)|none=>(⟨0,0⟩,false)):=by
 refine Wp.eq ?_;unfold fA;rw[hv,ζb,a_];unfold gu;rw[ζb];unfold fA.E1;rw[o_ hS,ζb];refine um (fun k _=>((aO t).take k).find? (iQ kind m)=none) (by simp) ?_ ?_
 ·intro k y _ hy hI;have htk:(aO t).take (k+1)=(aO t).take k++[y]:=by rw[List.take_add_one,hy];rfl
  have hh:(y.2.kind==kind&&y.2.message==m)=iQ kind m y:=rfl;unfold fA.ny;rw[gm,ζb,hh,aH];constructor
  ·intro hc;refine(af _).2 ((af _).2 ?_);have:(aO t).find? (iQ kind m)=some y:=by
    rw[←List.take_append_drop (k+1) (aO t),htk,List.find?_append,List.find?_append,hI];simp[hc]
   rw[this]
  ·intro hc;rw[af,htk,List.find?_append,hI];simp[hc]
 ·intro _ hI;rw[List.take_length]at hI;exact(af _).2 (by rw[hI])
theorem KL (hS:Small t) (hv:ct t=some true) (hV:VT t) (hM:eH t (aO t) A) {c:Sl Int} (hC:Cons t A c.l) {p q:Nat} (hp:p<t.procs.l.length) (hq:q<t.procs.l.length) :
 Wp (fK t c p q) fun r=>r.2=0∧(r.1.l.length:Int)=under t c.l p q:=by
 have hP:=ζd hp;obtain⟨a,ha⟩:=hC.1.at_ hp;obtain⟨b,hb⟩:=hC.1.at_ hq;rw[ID hV hM hC hP (ζd hq) ha hb];have hPl:=(hS.2 _ (List.getElem_mem hp)).1;obtain⟨a0,a1⟩:=hC.1.2 p a _ ha hP;generalize hPe:t.procs.l[p]=P at *;unfold fK;rw[HV hS hv hV hM hC hp hq,ζb,show ((0:Int)==0)=true from rfl,a_,kX,hP,ζb,show idx c (p:Int)=some a from by rw[kX];exact ha,ζb]
 obtain⟨y,hy,hyl⟩:=j9 P.events a.toNat (by omega)
 rw[show ((a.toNat:Nat):Int)=a from by omega]at hy
 rw[hy,ζb,←hyl];have hyn:y.l.length≤P.events.l.length:=by rw[hyl,List.length_take];omega
 unfold fK.W1;refine gQ y.l.length (fun n s=>s.2.1=len y∧s.2.2=(n:Int)∧s.1.l.length=(y.l.take n).countP fun e=>dg q e&&n_ t c.l e) ⟨rfl,rfl,rfl⟩ ?_ ?_
 ·rintro n ⟨o,_,_⟩ hlt ⟨e1,e2,ho⟩;simp only at e1 e2 ho;subst e1 e2;have hcn:=List.countP_le_length (p:=fun e=>dg q e&&n_ t c.l e) (l:=y.l.take n)
  rw[List.length_take]at hcn;have hnext:(y.l.take (n+1)).countP (fun e=>dg q e&&n_ t c.l e)=o.l.length+if dg q y.l[n]&&n_ t c.l y.l[n]then 1 else 0:=by
   rw[List.take_add_one,ζd hlt,List.countP_append,ho];show _+List.countP _ [y.l[n]]=_;rw[List.countP_cons,List.countP_nil];simp
  have hw:=bR n (by omega)
  unfold fK.aA;rw[kL hlt,a_,aP hlt,ζb];generalize y.l[n]=e at hnext;have hsk:(au (e.kind==2) (some (!(e.peer==(q:Int)))) (some true):Option Bool)=some (!dg q e):=by
   unfold dg;cases e.kind==2 <;> cases e.peer==(q:Int) <;> rfl
  rw[hsk,ζb,aH];refine⟨fun hs=>(af _).2 ⟨rfl,hw,by rw[hnext,show dg q e=false from by simpa using hs];rfl⟩,fun hs=>?_⟩
  have hs:dg q e=true:=by simpa using hs
  unfold qn;rw[KP hS hv,ζb,ζb];have hc:(au (match (aO t).find? (iQ 3 e.message)with|some x=>(x.1,true)|none=>((⟨0,0⟩:aa),false)).2 ((idx c (match (aO t).find? (iQ 3 e.message)with|some x=>(x.1,true)|none=>((⟨0,0⟩:aa),false)).1.proc).bind fun x_4=>some (decide ((match (aO t).find? (iQ 3 e.message)with|some x=>(x.1,true)|none=>((⟨0,0⟩:aa),false)).1.index>x_4))) (some true):Option Bool)=some (n_ t c.l e):=by
   unfold n_ eN
   cases hf:(aO t).find? (iQ 3 e.message)with
   | none=>rfl
   | some x=>
    obtain⟨q',j,⟨Q',hQ',_⟩,hx⟩:=cm.1 (rN hf).1;have hql:q'<c.l.length:=by rw[hC.1.1];exact(ζe.1 hQ').1
    simp only[hx,a_];rw[aP hql,ζb,show ((q':Nat):Int).toNat=q' from rfl,ζd hql,show (((j:Int)+1)==0)=false from by simp;omega,Bool.false_or];rfl
  rw[hc,ζb,aH];refine⟨fun hb=>?_,fun hb=>(af _).2 ⟨rfl,hw,by rw[hnext,hs,hb];rfl⟩⟩
  obtain⟨r,h1,h2⟩:=oS (s:=o) (x:=e.message) (by omega)
  rw[h1,ζb,af];exact⟨rfl,hw,by rw[h2,hnext,hs,hb,ζi];rfl⟩
 ·rintro⟨o,_,_⟩ ⟨e1,e2,ho⟩;simp only at e1 e2 ho;subst e1 e2;unfold fK.aA;rw[lC,bF,af];refine(af _).2 ⟨rfl,?_⟩;rw[List.take_length]at ho;simp only[ho]
end
end Go.VE
namespace Go.VE
theorem Ox {a b:Sl Int} (hn:a.l.length=b.l.length) (hl:a.l.length<1073741824):Wp (jO a b) fun r=>(r=true↔sB a.l b.l):=by
 unfold jO;rw[show (len a==len b)=true from by simp[len,hn],a_]
 unfold jO.W1;refine gQ a.l.length (fun n s=>s=(n:Int)∧∀(p:Nat) x y,p<n→a.l[p]? = some x→b.l[p]? = some y→x≤y) ⟨rfl,fun p x y h=>absurd h (by omega)⟩ ?_ ?_
 ·rintro n _ hlt ⟨rfl,hI⟩;have hb:n<b.l.length:=by omega
  unfold jO.aA;rw[show decide ((n:Int)<len a)=true from kL hlt,a_,aP hlt,ζb,aP hb,ζb,aH];constructor
  ·intro h;have h:a.l[n]>b.l[n]:=by simpa using h
   refine(af _).2 ((af _).2 ⟨fun h=>(by cases h),fun k=>?_⟩)
   have:=k n _ _ (ζd hlt) (ζd hb);omega
  ·intro h;have h:¬a.l[n]>b.l[n]:=by simpa using h
   refine(af _).2 ⟨bR n (by omega),fun p x y hp hx hy=>?_⟩
   by_cases e:p=n
   ·subst e;rw[ζd hlt]at hx;rw[ζd hb]at hy;cases hx;cases hy;omega
   ·exact hI p x y (by omega) hx hy
 ·rintro _ ⟨rfl,hI⟩;unfold jO.aA;rw[lC,bF,af];exact(af _).2 ⟨fun _ p x y hx hy=>hI p x y (ζe.1 hx).1 hx hy,fun _=>rfl⟩
section
variable {t:Trace} {A:bK 200 aK}
theorem KN (hS:Small t) (hv:ct t=some true) (hV:VT t) (hM:eH t (aO t) A) {a b:Nat} (ha:a<t.procs.l.length) (hb:b<t.procs.l.length) {n:Int} {c:Sl Int} (hC:Cons t A c.l) (hn:under t c.l a b=n)
 (hmax:∀d,Cons t A d→under t d a b≤n∧(under t d a b=n→sB c.l d)) {all:Sl (Sl Int)} (hall:∀d,d∈ins all↔Cons t A d) (hl:all.l.length<1073741824) :
 Wp (b_.W1 a b n c false all (len all) 0 t) fun r=>r=true:=by
 have hn8:=hV.few;unfold b_.W1;refine gQ all.l.length (fun i s=>s.2=(i:Int)∧(c.l∈(all.l.take i).map Sl.l→s.1=true)) ⟨rfl,fun h=>by simp at h⟩ ?_ ?_
 ·rintro i ⟨f,_⟩ hlt ⟨e,hf⟩;simp only at e hf;subst e;have hD:=(hall all.l[i].l).1 (mZ.2 ⟨_,List.getElem_mem hlt,rfl⟩);have htk:c.l∈(all.l.take (i+1)).map Sl.l↔c.l∈(all.l.take i).map Sl.l∨c.l=all.l[i].l:=p_ hlt;unfold b_.aA;rw[kL hlt,a_,aP hlt,ζb,bt];generalize all.l[i]=d at *;refine(KL hS hv hV hM hD ha hb).mono fun r ⟨r0,r1⟩=>?_
  have hm:=hmax _ hD;have hcd:c.l.length=d.l.length:=by rw[hC.1.1,hD.1.1]
  have hcs:c.l.length<1073741824:=by rw[hC.1.1];omega
  have hw:=bR i (by omega)
  have hlen:len r.1=under t d.l a b:=r1;rw[r0,show ((0:Int)==0)=true from rfl,a_,hlen,show decide (under t d.l a b>n)=false from decide_eq_false (by omega),ζb,bF,bt,bt]
  have h1:Wp (au (under t d.l a b==n) ((jO c d).bind fun x_4=>some (!x_4)) (some false):Option Bool) fun x=>x=false:=by
   rw[aH];refine⟨fun h=>?_,fun _=>(af _).2 rfl⟩
   rw[bt];refine(Ox hcd hcs).mono fun x hx=>(af _).2 ?_
   rw[hx.2 (hm.2 (by simpa using h))];rfl
  refine h1.mono fun x hx=>?_
  subst hx;rw[af,bF,DA hcs,bt,aH];constructor
  ·intro ht;exact(af _).2 ((af _).2 ⟨hw,fun _=>rfl⟩)
  ·intro hff;rw[bt];have h2:Wp (au (under t d.l a b==n) ((some (decide (c.l=d.l))).bind fun x_7=>some x_7) (some false):Option Bool) fun x=>c.l=d.l→x=true:=by
    rw[aH];exact⟨fun _=>(af _).2 fun h=>decide_eq_true h,fun h=>(af _).2 fun e=>by rw[←e,hn]at h;simp at h⟩
   refine h2.mono fun x hx=>(af _).2 ((af _).2 ⟨hw,fun h=>?_⟩)
   rcases htk.1 h with h|h
   ·rw[hf h]at hff;cases hff
   ·exact hx h
 ·rintro⟨f,_⟩ ⟨e,hf⟩;simp only at e hf;subst e;unfold b_.aA;rw[lC,bF,af];exact(af _).2 (hf (by rw[List.take_length];exact(hall c.l).2 hC))
theorem Hp (hV:VT t) {p:Nat} {P:bl} (hP:t.procs.l[p]? = some P):P.events.l.length≤64:=by
 have h:=hV.ok.heads p (ζe.1 hP).1;unfold o5 at h;rw[hP]at h;simp only at h;split at h
 ·split at h
  ·cases h
  ·split at h
   ·split at h
    ·cases h
    ·omega
   ·rename_i h2;exact absurd h h2
 ·cases h
theorem MX (hV:VT t):lF t<1073741824:=by
 have key:∀l:List bl,(∀P∈l,P.events.l.length≤64)→(l.map fun P=>P.events.l.length).sum≤64*l.length:=by
  intro l
  induction l with
  | nil=>intro _;simp
  | cons P l ih=>
   intro h;have h1:=h P (List.mem_cons_self ..);have h2:=ih fun Q hQ=>h Q (List.mem_cons_of_mem _ hQ)
   simp only[List.map_cons,List.sum_cons,List.length_cons];omega
 have:=key t.procs.l fun P hP=>by
  obtain⟨p,hp⟩:=List.mem_iff_getElem?.1 hP;exact Hp hV hp
 have:=hV.few;unfold lF;omega
theorem AP {x:Int} {n:Nat} (h0:0≤x) (hn:0<n):sP x (n:Int)=some (((x.toNat % n:Nat)):Int):=by
 unfold sP;rw[if_neg (by omega),Int.tmod_eq_emod_of_nonneg h0]
 congr 1
 rw[Int.natCast_emod,Int.toNat_of_nonneg h0]
theorem F_ (hS:Small t) (hN:(aO t).length<1073741824):Wp (nq t) fun r=>r.2=true→∃A,ct t=some true∧mD t=some true∧VT t∧eH t (aO t) A∧(∀d,Cons t A d→d∈ins r.1)∧r.1.l.length≤250:=by
 obtain⟨n,hn⟩:=(K3 hS).get;obtain⟨v,hv,hrv,hV⟩:=Ht hS hN;unfold nq;rw[hn,ζb,hrv,ζb]
 cases hd:decide (n>24)with
 | true=>rw[a_,ζb,a_,af];intro h;cases h
 | false=>
  rw[bF,ζb]
  cases v with
  | false=>rw[show (!false)=true from rfl,a_,af];intro h;cases h
  | true=>
   have hV:=hV rfl;obtain⟨A,i,hA,hM⟩:=hV.msgs;rw[show (!true)=false from rfl,bF,bt];unfold qf;rw[bt];refine(K7 hS hV hM).mono fun r hr=>?_
   rw[af];dsimp only
   cases h2:r.2 with
   | false=>rw[bF,ζb,af];intro h;cases h
   | true=>
    rw[a_,ζb,af];intro h;refine⟨A,hv,rfl,hV,hM,hr h2,?_⟩;have:=of_decide_eq_true h;simp only[len]at this;show r.1.l.length≤250;omega
theorem Ef (hS:Small t) (hN:(aO t).length<1073741824) {p q:Int} (hp:0≤p∧p≤255) (hq:0≤q∧q≤255):b_ t p q=some true:=by
 refine Wp.eq ?_;unfold b_ sS;rw[ζb,a_,bt];refine(F_ hS hN).mono fun r hr=>?_
 cases h2:r.2 with
 | false=>rw[bF,ζb,a_,af]
 | true=>
  rw[a_,ζb];obtain⟨A,hv,hrv,hV,hM,hall,h250⟩:=hr h2;have h8:=hV.few
  cases hl:decide (len t.procs<2)with
  | true=>rw[a_,af]
  | false=>
   have hl:2≤t.procs.l.length:=by have:=of_decide_eq_false hl;simp only[len]at this;omega
   rw[bF,iE p (by omega) (by omega),iE q (by omega) (by omega)]
   simp only[len];rw[AP hp.1 (by omega),ζb,iE _ (by omega) (by omega),show ((t.procs.l.length:Int)-1)=((t.procs.l.length-1:Nat):Int)from by omega,AP hq.1 (by omega),ζb]
   have ha:p.toNat % t.procs.l.length<t.procs.l.length:=Nat.mod_lt _ (by omega)
   have hb:q.toNat % (t.procs.l.length-1)<t.procs.l.length-1:=Nat.mod_lt _ (by omega)
   generalize p.toNat % t.procs.l.length=a at ha ⊢;generalize q.toNat % (t.procs.l.length-1)=b at hb ⊢;rw[iE ((a:Int)+1) (by omega) (by omega),iE _ (by omega) (by omega),AP (by omega) (by omega),ζb]
   have hc:((a:Int)+1+b).toNat % t.procs.l.length<t.procs.l.length:=Nat.mod_lt _ (by omega)
   have hne:a≠((a:Int)+1+b).toNat % t.procs.l.length:=by
    rw[show ((a:Int)+1+b).toNat=a+1+b from by omega]
    by_cases h:a+1+b<t.procs.l.length
    ·rw[Nat.mod_eq_of_lt h];omega
    ·rw[Nat.mod_eq_sub_mod (by omega),Nat.mod_eq_of_lt (by omega)];omega
   generalize ((a:Int)+1+b).toNat % t.procs.l.length=c at hc hne ⊢;rw[bt];refine(Nx hS hv hV hM ha hc hne).mono fun m ⟨m1,m2,m3,m4⟩=>?_
   rw[bt];refine(Kk hS hv hV hM hall (by unfold ins;rw[List.length_map];exact h250) (MX hV)).mono fun x ⟨x1,x2,x3⟩=>?_
   obtain⟨e,he,e1⟩:=KJ hS hv hV hM m.2.1;have hcons:nC t m.2.1=some true:=by
    unfold nC;rw[he,ζb,e1.2 m2];rfl
   rw[m1,x1,show ((0:Int)==0)=true from rfl,show (!true)=false from rfl,a_,ζb,bF,hcons,ζb,show (!true)=false from rfl,ζb,bF];exact KN hS hv hV hM ha hc m2 m3 m4 x3 (by omega)
end
end Go.VE
namespace Go.VE
theorem Ak {α:Type} [bC α] {x:α}:∀{l:List α},x∈l→bC.wt x≤(l.map bC.wt).sum
 | y::l,h=>by
  simp only[List.map_cons,List.sum_cons];rcases List.mem_cons.1 h with rfl|h
  ·omega
  ·have:=Ak h;omega
theorem uu {α:Type} [bC α] (h:∀x:α,1≤bC.wt x):∀(l:List α),l.length≤(l.map bC.wt).sum
 | []=>Nat.le_refl _
 | y::l=>by
  simp only[List.map_cons,List.sum_cons,List.length_cons];have:=uu h l;have:=h y;omega
theorem zy {α:Type} [bC α] (s:Sl α):bC.wt s=(s.l.map bC.wt).sum+1:=rfl
theorem yo (p:Int):∀(es:List Event) (j:Int),(fS p j es).length=es.length
 | [],_=>rfl
 | _::es,j=>by simp only[fS,List.length_cons,yo p es]
theorem Ds:∀(ps:List bl) (i:Int),(dQ i ps).length≤(ps.map bC.wt).sum
 | [],_=>Nat.le_refl _
 | p::ps,i=>by
  simp only[dQ,ζi,yo,List.map_cons,List.sum_cons];have h1:=Ds ps (i+1);have h2:=uu (α:=Event) (fun x=>Nat.le_add_left ..) p.events.l
  have h3:bC.wt p=bC.wt p.name+bC.wt p.vars+bC.wt p.events+1:=rfl;have h4:=zy p.events;omega
theorem JA {t:Trace} (h:bC.wt t≤1048576):Small t∧(aO t).length<1073741824:=by
 have h0:bC.wt t=bC.wt t.procs+1:=rfl;have h1:=zy t.procs;have h2:=uu (α:=bl) (fun x=>Nat.le_add_left ..) t.procs.l
 have h3:=Ds t.procs.l 0;refine⟨⟨by omega,fun p hp=>?_⟩,by show (dQ 0 t.procs.l).length<_;omega⟩
 have h4:=Ak hp;have h5:bC.wt p=bC.wt p.name+bC.wt p.vars+bC.wt p.events+1:=rfl;have h6:=zy p.events;have h7:=zy p.vars;have h8:=uu (α:=Event) (fun x=>Nat.le_add_left ..) p.events.l
 have h9:=uu (α:=Var) (fun x=>Nat.le_add_left ..) p.vars.l
 have h10:bC.wt p.name=p.name.size+1:=rfl;refine⟨by omega,by omega,by omega,fun v hv=>?_,fun e he=>?_⟩
 ·have k1:=Ak hv;have k2:bC.wt v=bC.wt v.name+bC.wt v.init_+1:=rfl;have k3:bC.wt v.name=v.name.size+1:=rfl;omega
 ·have k1:=Ak he;have k2:bC.wt e=bC.wt e.kind+bC.wt e.peer+bC.wt e.message+bC.wt e.time+bC.wt e.assign+1:=rfl;have k3:=zy e.assign;have k4:=uu (α:=Assign) (fun x=>Nat.le_add_left ..) e.assign.l
  omega
end Go.VE
namespace Go.Proofs.YtnfakljmdnbipaaGreat
open Go.ChangeShapes Go.WideShapes Go.ChangeAt Go.RowKit Go.VE
theorem own:ownKnob Tryz.prog.godebug=none:=by kernel_rfl
theorem kids:Kids Tryz.prog (·<Tryz.prog.types.size):=kids_rows (by kernel_rfl) (by kernel_rfl)
theorem full:∀t e,t<Tryz.prog.types.size→Tryz.prog.underlying t=some (.slice e)→0<Tryz.prog.cellsOf e:=slices_full_of Tryz.prog (by kernel_rfl)
theorem uG {H:Type}:∀l:List (DataW H),Rows.uptoBulkAll l=(l.map Rows.uptoBulk).sum
 | []=>by simp[Rows.uptoBulkAll]
 | d::r=>by simp[Rows.uptoBulkAll,uG r]
theorem C2 {H:Type}:sH (H:=H) Rows.uptoBulk where
 lit l:=by cases l <;> simp[Rows.uptoBulk]
 str s:=by simp[Rows.uptoBulk]
 nil:=by simp[Rows.uptoBulk]
 slice es sp:=by rw[Rows.uptoBulk,uG,uG];omega
 agg ps:=by rw[Rows.uptoBulk,uG];exact Nat.le_refl _
set_option maxRecDepth 100000 in
theorem Eb (H:Type) (enc:TypeId×Value→H) (W:World) (base:Nat) (args:Array Value) (ds gs:List (DataW H)) (before:List MemPlace)
 (hval:∀(j:Nat) t v,Tryz.f3.params[j]? = some t→args[j]? = some v→Value.okWide Tryz.prog W .any base t v)
 (hW:DataW.Whole enc Tryz.prog Tryz.f3.params.toList Rows.channelGreatestSpec.vars false W args.toList ds gs before) (hk:Rows.uptoSmall H (ds++gs)=true) :
 Calls Tryz.prog 3 args W fun e W'=>∃v,e=.returned v∧Rows.channelGreatestSpec.post enc Tryz.prog Tryz.f3 false true false false W args v W':=by
 have hW':=hW;obtain⟨p,q,hA0,hV,rfl,hfz,hnd⟩:=hW;have hA:DataW.TrodAll enc Tryz.prog W 0 (fun _=>true) true Tryz.f3.params.toList args.toList ds p:=hA0
 rw[Tryz.params3]at hA hval;obtain⟨v0,vs0,d0,ds0,p0,q0,hargs,rfl,rfl,h0,r0⟩:=trodAll_cons hA;obtain⟨v1,vs1,d1,ds1,p1,q1,rfl,rfl,rfl,h1,r1⟩:=trodAll_cons r0;obtain⟨v2,vs2,d2,ds2,p2,q2,rfl,rfl,rfl,h2,r2⟩:=trodAll_cons r1;obtain⟨rfl,rfl,rfl⟩:=trodAll_nil r2;obtain rfl:args=#[v0,v1,v2]:=by cases args;simp_all
 obtain⟨rfl,rfl⟩:=trodVars_none hV;obtain⟨a0,w0,k0,b0⟩:=Reads.GF (t:=24) (α:=VE.Trace) hval 0 rfl rfl h0;obtain⟨a1,w1,k1,b1⟩:=Reads.GF (t:=5) (α:=U8) hval 1 rfl rfl h1;obtain⟨a2,w2,k2,b2⟩:=Reads.GF (t:=5) (α:=U8) hval 2 rfl rfl h2;have hb:bC.wt a0+bC.wt a1+bC.wt a2≤1048576:=by
  have c0:=b0 Rows.uptoBulk C2;have c1:=b1 Rows.uptoBulk C2;have c2:=b2 Rows.uptoBulk C2;have h7:Rows.uptoBulkAll ([d0,d1,d2]++[])≤1048576:=of_decide_eq_true hk;rw[uG]at h7;simp only[List.append_nil,List.map_cons,List.map_nil,List.sum_cons,List.sum_nil]at h7;omega
 obtain⟨hS,hN⟩:=JA (t:=a0) (by omega)
 have hc:jZ cL 3 [VE.enc a0,.int .u8 a1.v,.int .u8 a2.v]=some [.bool true]:=by
  have hl:(b_ a0 a1.v a2.v).bind (fun r:Bool=>some [V.bool r])=some [.bool true]:=by rw[Ef hS hN k1 k2];rfl
  exact(sU a0 a1.v a2.v).F.h () _ hl
 have:=GP (P:=Tryz.prog) Cl xO calls (f:=3) (xs:=[VE.enc a0,.int .u8 a1.v,.int .u8 a2.v]) (by simp[V.bD,V.good,iG]) hc (w:=W) (args:=#[v0,v1,v2]) (bH.cons w0 (bH.cons w1 (bH.cons w2 .nil)))
 refine this.mono fun e W' ⟨he,hg⟩=>?_
 subst he;exact⟨_,rfl,I7 kids full (by rw[Tryz.params3];decide) rfl rfl rfl Tryz.underlying4 hW' hg⟩
set_option maxRecDepth 100000 in
theorem Hi (os:Os) (started:os.Started) (H:Type) (enc:TypeId×Value→H) (F:Stop.Interp) :
 ReturnsInHanded {} Tryz.checked os 3 .any ((Rows.OpenSpec.upto Rows.channelGreatestSpec).pre6 enc Tryz.prog Tryz.f3 Rows.channelGreatestUptoRow.domain false) (((Rows.OpenSpec.upto Rows.channelGreatestSpec).at F).post enc Tryz.prog Tryz.f3 false true false false):=by
 refine returnsInHanded_of_cond (C:=Tryz.checked) (s:=Rows.OpenSpec.upto Rows.channelGreatestSpec) (k:=Rows.uptoSmall) rfl own started (by kernel_rfl) Tryz.func3
  (OpenSpec.witness (enc:=enc) (C:=Tryz.checked) (s:=Rows.OpenSpec.upto Rows.channelGreatestSpec) (k:=Rows.uptoSmall) rfl false ⟨#[],#[.agg #[.slice none 0 0],.int .u8 0,.int .u8 0],[]⟩ 8 (by kernel_rfl) (by kernel_rfl) (by kernel_rfl)
   (x:=([.agg [.nil],.lit (.int .u8 0),.lit (.int .u8 0)],[],[])) (by kernel_rfl) rfl (by kernel_rfl)) ?_
 intro W base args ds gs before hval hW _ hk _;exact Eb H enc W base args ds gs before hval hW hk
theorem NG:Rows.channelGreatestUptoRow.holds Tryz.pinned (Rows.OpenSpec.upto Rows.channelGreatestSpec):=
 OpenClaim.holds_of_cond 3 Tryz.f3 rfl rfl rfl rfl rfl rfl rfl ⟨rfl,rfl,rfl,rfl,rfl⟩ rfl rfl rfl rfl rfl (by kernel_rfl) Tryz.func3 (by kernel_rfl)
  (of_decide_eq_true (by kernel_rfl)) (by unfold Func.isWrapper;first|(rw[if_pos (by decide +kernel)];kernel_rfl)|(rw[if_neg (by decide +kernel)];exact⟨rfl,rfl⟩))
  (fun os started H enc _ F=>Hi os started H enc F)
theorem channelGreatestProved:Rows.ChannelGreatestUptoSaid:=
 NG
#print axioms channelGreatestProved
end Go.Proofs.YtnfakljmdnbipaaGreat
