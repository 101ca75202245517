/-
 SliceOrders says true for all arguments that together are of bulk at most 1048576, and they read behind the call as they read before: for every such argument, without a condition.
-/
import Derived.Test.YtjbnbbbiijdbpaaGreatDoorRows
import Derived.Test.YtjbnbbbiijdbpaaGreatDoorCards
import Derived.Test.YtjbnbbbiijdbpaaGreatDoorTie
import Derived.Deep.DeepHandedRow
import Derived.Test.YtjbnbbbiijdbpaaGreatDoorK1
import Derived.Test.YtjbnbbbiijdbpaaGreatDoorG1
set_option linter.all false
namespace Go.VE
instance:bt Assign where
 wt x:=bt.wt x.var+bt.wt x.value+1
 ok x:=bt.ok x.var∧bt.ok x.value∧True
instance:bt Event where
 wt x:=bt.wt x.kind+bt.wt x.peer+bt.wt x.message+bt.wt x.time+bt.wt x.assign+1
 ok x:=bt.ok x.kind∧bt.ok x.peer∧bt.ok x.message∧bt.ok x.time∧bt.ok x.assign∧True
instance:bt Var where
 wt x:=bt.wt x.name+bt.wt x.init_+1
 ok x:=bt.ok x.name∧bt.ok x.init_∧True
instance:bt bq where
 wt x:=bt.wt x.name+bt.wt x.vars+bt.wt x.events+1
 ok x:=bt.ok x.name∧bt.ok x.vars∧bt.ok x.events∧True
instance:bt Trace where
 wt x:=bt.wt x.procs+1
 ok x:=bt.ok x.procs∧True
instance:bt Slice where
 wt x:=bt.wt x.empty+bt.wt x.first+bt.wt x.last+bt.wt x.j+1
 ok x:=bt.ok x.empty∧bt.ok x.first∧bt.ok x.last∧bt.ok x.j∧True
end Go.VE
namespace Go.VE.YtjbnbbbiijdbpaaGreatDoor
open Go.Proofs Go.Proofs.YtjbnbbbiijdbpaaGreatDoor
instance ZO:Reads Tryz.prog 9 ByteArray:=Reads.str Tryz.underlying9 (by kernel_rfl)
instance ZS:Reads Tryz.prog 3 Int:=Reads.int Tryz.underlying3 (by kernel_rfl)
instance ZH:Reads Tryz.prog 79 Var:=by
 refine Reads.st Tryz.underlying79 (by kernel_rfl) rfl ?_
 intro H enc w base spare held fuel cs l hl h;simp only[List.mapM_cons,List.mapM_nil,Option.pure_def,Option.bind_eq_bind,ζg,ζa]at h;obtain⟨x0,h0,ys0,⟨x1,h1,ys1,rfl,rfl⟩,rfl⟩:=h;obtain⟨a0,c0,k0,b0⟩:=Reads.rd (P:=Tryz.prog) (t:=9) (α:=ByteArray) (d:=x0.1) (ps:=x0.2) h0;rw[show Tryz.prog.cellsOf 9=1 from by kernel_rfl]at c0
 obtain⟨a1,c1,k1,b1⟩:=Reads.rd (P:=Tryz.prog) (t:=3) (α:=Int) (d:=x1.1) (ps:=x1.2) h1;rw[show Tryz.prog.cellsOf 3=1 from by kernel_rfl]at c1
 refine⟨⟨a0,a1⟩,dF.fin (n:=2) (dF.seg (o:=1) (n:=1) (dF.seg (o:=0) (n:=1) (show dF (snap w) [] (cs.take 0)from by simpa using dF.nil) c0) c1) hl,⟨k0,k1,trivial⟩,fun b bo=>?_⟩
 have w0:=b0 b bo;have w1:=b1 b bo;show bt.wt a0+bt.wt a1+1≤_;simp only[List.map_cons,List.map_nil,List.sum_cons,List.sum_nil];omega
instance Zy:Reads Tryz.prog 56 (Sl Var):=Reads.sl (e:=79) Tryz.underlying56 (by kernel_rfl) (by decide)
instance Zv:Reads Tryz.prog 152 Assign:=by
 refine Reads.st Tryz.underlying152 (by kernel_rfl) rfl ?_
 intro H enc w base spare held fuel cs l hl h;simp only[List.mapM_cons,List.mapM_nil,Option.pure_def,Option.bind_eq_bind,ζg,ζa]at h;obtain⟨x0,h0,ys0,⟨x1,h1,ys1,rfl,rfl⟩,rfl⟩:=h;obtain⟨a0,c0,k0,b0⟩:=Reads.rd (P:=Tryz.prog) (t:=3) (α:=Int) (d:=x0.1) (ps:=x0.2) h0;rw[show Tryz.prog.cellsOf 3=1 from by kernel_rfl]at c0
 obtain⟨a1,c1,k1,b1⟩:=Reads.rd (P:=Tryz.prog) (t:=3) (α:=Int) (d:=x1.1) (ps:=x1.2) h1;rw[show Tryz.prog.cellsOf 3=1 from by kernel_rfl]at c1
 refine⟨⟨a0,a1⟩,dF.fin (n:=2) (dF.seg (o:=1) (n:=1) (dF.seg (o:=0) (n:=1) (show dF (snap w) [] (cs.take 0)from by simpa using dF.nil) c0) c1) hl,⟨k0,k1,trivial⟩,fun b bo=>?_⟩
 have w0:=b0 b bo;have w1:=b1 b bo;show bt.wt a0+bt.wt a1+1≤_;simp only[List.map_cons,List.map_nil,List.sum_cons,List.sum_nil];omega
instance ZE:Reads Tryz.prog 68 (Sl Assign):=Reads.sl (e:=152) Tryz.underlying68 (by kernel_rfl) (by decide)
instance ZK:Reads Tryz.prog 70 Event:=by
 refine Reads.st Tryz.underlying70 (by kernel_rfl) rfl ?_
 intro H enc w base spare held fuel cs l hl h;simp only[List.mapM_cons,List.mapM_nil,Option.pure_def,Option.bind_eq_bind,ζg,ζa]at h;obtain⟨x0,h0,ys0,⟨x1,h1,ys1,⟨x2,h2,ys2,⟨x3,h3,ys3,⟨x4,h4,ys4,rfl,rfl⟩,rfl⟩,rfl⟩,rfl⟩,rfl⟩:=h;obtain⟨a0,c0,k0,b0⟩:=Reads.rd (P:=Tryz.prog) (t:=3) (α:=Int) (d:=x0.1) (ps:=x0.2) h0;rw[show Tryz.prog.cellsOf 3=1 from by kernel_rfl]at c0
 obtain⟨a1,c1,k1,b1⟩:=Reads.rd (P:=Tryz.prog) (t:=3) (α:=Int) (d:=x1.1) (ps:=x1.2) h1;rw[show Tryz.prog.cellsOf 3=1 from by kernel_rfl]at c1
 obtain⟨a2,c2,k2,b2⟩:=Reads.rd (P:=Tryz.prog) (t:=3) (α:=Int) (d:=x2.1) (ps:=x2.2) h2;rw[show Tryz.prog.cellsOf 3=1 from by kernel_rfl]at c2
 obtain⟨a3,c3,k3,b3⟩:=Reads.rd (P:=Tryz.prog) (t:=3) (α:=Int) (d:=x3.1) (ps:=x3.2) h3;rw[show Tryz.prog.cellsOf 3=1 from by kernel_rfl]at c3
 obtain⟨a4,c4,k4,b4⟩:=Reads.rd (P:=Tryz.prog) (t:=68) (α:=(Sl Assign)) (d:=x4.1) (ps:=x4.2) h4;rw[show Tryz.prog.cellsOf 68=1 from by kernel_rfl]at c4
 refine⟨⟨a0,a1,a2,a3,a4⟩,dF.fin (n:=5) (dF.seg (o:=4) (n:=1) (dF.seg (o:=3) (n:=1) (dF.seg (o:=2) (n:=1) (dF.seg (o:=1) (n:=1) (dF.seg (o:=0) (n:=1) (show dF (snap w) [] (cs.take 0)from by simpa using dF.nil) c0) c1) c2) c3) c4) hl,⟨k0,k1,k2,k3,k4,trivial⟩,fun b bo=>?_⟩
 have w0:=b0 b bo;have w1:=b1 b bo;have w2:=b2 b bo;have w3:=b3 b bo;have w4:=b4 b bo;show bt.wt a0+bt.wt a1+bt.wt a2+bt.wt a3+bt.wt a4+1≤_;simp only[List.map_cons,List.map_nil,List.sum_cons,List.sum_nil];omega
instance ZJ:Reads Tryz.prog 57 (Sl Event):=Reads.sl (e:=70) Tryz.underlying57 (by kernel_rfl) (by decide)
instance ZB:Reads Tryz.prog 59 bq:=by
 refine Reads.st Tryz.underlying59 (by kernel_rfl) rfl ?_
 intro H enc w base spare held fuel cs l hl h;simp only[List.mapM_cons,List.mapM_nil,Option.pure_def,Option.bind_eq_bind,ζg,ζa]at h;obtain⟨x0,h0,ys0,⟨x1,h1,ys1,⟨x2,h2,ys2,rfl,rfl⟩,rfl⟩,rfl⟩:=h;obtain⟨a0,c0,k0,b0⟩:=Reads.rd (P:=Tryz.prog) (t:=9) (α:=ByteArray) (d:=x0.1) (ps:=x0.2) h0;rw[show Tryz.prog.cellsOf 9=1 from by kernel_rfl]at c0
 obtain⟨a1,c1,k1,b1⟩:=Reads.rd (P:=Tryz.prog) (t:=56) (α:=(Sl Var)) (d:=x1.1) (ps:=x1.2) h1;rw[show Tryz.prog.cellsOf 56=1 from by kernel_rfl]at c1
 obtain⟨a2,c2,k2,b2⟩:=Reads.rd (P:=Tryz.prog) (t:=57) (α:=(Sl Event)) (d:=x2.1) (ps:=x2.2) h2;rw[show Tryz.prog.cellsOf 57=1 from by kernel_rfl]at c2
 refine⟨⟨a0,a1,a2⟩,dF.fin (n:=3) (dF.seg (o:=2) (n:=1) (dF.seg (o:=1) (n:=1) (dF.seg (o:=0) (n:=1) (show dF (snap w) [] (cs.take 0)from by simpa using dF.nil) c0) c1) c2) hl,⟨k0,k1,k2,trivial⟩,fun b bo=>?_⟩
 have w0:=b0 b bo;have w1:=b1 b bo;have w2:=b2 b bo;show bt.wt a0+bt.wt a1+bt.wt a2+1≤_;simp only[List.map_cons,List.map_nil,List.sum_cons,List.sum_nil];omega
instance ZA:Reads Tryz.prog 22 (Sl bq):=Reads.sl (e:=59) Tryz.underlying22 (by kernel_rfl) (by decide)
instance ZI:Reads Tryz.prog 24 Trace:=by
 refine Reads.st Tryz.underlying24 (by kernel_rfl) rfl ?_
 intro H enc w base spare held fuel cs l hl h;simp only[List.mapM_cons,List.mapM_nil,Option.pure_def,Option.bind_eq_bind,ζg,ζa]at h;obtain⟨x0,h0,ys0,rfl,rfl⟩:=h;obtain⟨a0,c0,k0,b0⟩:=Reads.rd (P:=Tryz.prog) (t:=22) (α:=(Sl bq)) (d:=x0.1) (ps:=x0.2) h0;rw[show Tryz.prog.cellsOf 22=1 from by kernel_rfl]at c0
 refine⟨⟨a0⟩,dF.fin (n:=1) (dF.seg (o:=0) (n:=1) (show dF (snap w) [] (cs.take 0)from by simpa using dF.nil) c0) hl,⟨k0,trivial⟩,fun b bo=>?_⟩
 have w0:=b0 b bo;show bt.wt a0+1≤_;simp only[List.map_cons,List.map_nil,List.sum_cons,List.sum_nil];omega
instance ZQ:Reads Tryz.prog 4 Bool:=Reads.bool Tryz.underlying4 (by kernel_rfl)
instance ZD:Reads Tryz.prog 25 (Sl Int):=Reads.sl (e:=3) Tryz.underlying25 (by kernel_rfl) (by decide)
instance ZG:Reads Tryz.prog 33 (Sl (Sl Int)):=Reads.sl (e:=25) Tryz.underlying33 (by kernel_rfl) (by decide)
instance ZL:Reads Tryz.prog 26 (Sl (Sl (Sl Int))):=Reads.sl (e:=33) Tryz.underlying26 (by kernel_rfl) (by decide)
instance ZC:Reads Tryz.prog 28 Slice:=by
 refine Reads.st Tryz.underlying28 (by kernel_rfl) rfl ?_
 intro H enc w base spare held fuel cs l hl h;simp only[List.mapM_cons,List.mapM_nil,Option.pure_def,Option.bind_eq_bind,ζg,ζa]at h;obtain⟨x0,h0,ys0,⟨x1,h1,ys1,⟨x2,h2,ys2,⟨x3,h3,ys3,rfl,rfl⟩,rfl⟩,rfl⟩,rfl⟩:=h;obtain⟨a0,c0,k0,b0⟩:=Reads.rd (P:=Tryz.prog) (t:=4) (α:=Bool) (d:=x0.1) (ps:=x0.2) h0;rw[show Tryz.prog.cellsOf 4=1 from by kernel_rfl]at c0
 obtain⟨a1,c1,k1,b1⟩:=Reads.rd (P:=Tryz.prog) (t:=25) (α:=(Sl Int)) (d:=x1.1) (ps:=x1.2) h1;rw[show Tryz.prog.cellsOf 25=1 from by kernel_rfl]at c1
 obtain⟨a2,c2,k2,b2⟩:=Reads.rd (P:=Tryz.prog) (t:=25) (α:=(Sl Int)) (d:=x2.1) (ps:=x2.2) h2;rw[show Tryz.prog.cellsOf 25=1 from by kernel_rfl]at c2
 obtain⟨a3,c3,k3,b3⟩:=Reads.rd (P:=Tryz.prog) (t:=26) (α:=(Sl (Sl (Sl Int)))) (d:=x3.1) (ps:=x3.2) h3;rw[show Tryz.prog.cellsOf 26=1 from by kernel_rfl]at c3
 refine⟨⟨a0,a1,a2,a3⟩,dF.fin (n:=4) (dF.seg (o:=3) (n:=1) (dF.seg (o:=2) (n:=1) (dF.seg (o:=1) (n:=1) (dF.seg (o:=0) (n:=1) (show dF (snap w) [] (cs.take 0)from by simpa using dF.nil) c0) c1) c2) c3) hl,⟨k0,k1,k2,k3,trivial⟩,fun b bo=>?_⟩
 have w0:=b0 b bo;have w1:=b1 b bo;have w2:=b2 b bo;have w3:=b3 b bo;show bt.wt a0+bt.wt a1+bt.wt a2+bt.wt a3+1≤_;simp only[List.map_cons,List.map_nil,List.sum_cons,List.sum_nil];omega
end Go.VE.YtjbnbbbiijdbpaaGreatDoor
namespace Go.VE
theorem Y2 {a:Int} (h0:0≤a) (h1:a<4294967296):Ri .u64 (IntKind.wrap .u64 (IntKind.wrap .i64 a)) 1=some (a / 2):=by
 have e1:IntKind.wrap .i64 a=a:=mw a (by omega) (by omega)
 have e2:IntKind.wrap .u64 a=a:=by simp[IntKind.wrap,IntKind.bits,IntKind.signed];omega
 rw[e1,e2];unfold Ri;rw[if_neg (by omega)]
 show some (a.fdiv (2 ^ (min 1 64)))=_;rw[show (2:Int) ^ (min 1 64)=2 from rfl,Int.fdiv_eq_ediv_of_nonneg a (by omega)]
def Up (l:List Int):Prop:=∀(i j:Nat) (a b:Int),i<j→l[i]? = some a→l[j]? = some b→a<b
theorem Wy {l:List Int} {x:Int} {r:Nat} (hr:r≤l.length) (h1:∀k a,k<r→l[k]? = some a→a≤x) (h2:∀k a,r≤k→l[k]? = some a→x<a):l.countP (fun a=>decide (a≤x))=r:=by
 have e:l=l.take r++l.drop r:=(List.take_append_drop r l).symm;rw[e,List.countP_append];have a1:(l.take r).countP (fun a=>decide (a≤x))=(l.take r).length:=by
  rw[List.countP_eq_length];intro a ha;obtain⟨k,hk⟩:=List.getElem?_of_mem ha;have hkl:k<(l.take r).length:=(ζe.1 hk).1;rw[List.getElem?_take]at hk;have hkr:k<r:=by rw[List.length_take]at hkl;omega
  rw[if_pos hkr]at hk;simpa using h1 k a hkr hk
 have a2:(l.drop r).countP (fun a=>decide (a≤x))=0:=by
  rw[List.countP_eq_zero];intro a ha;obtain⟨k,hk⟩:=List.getElem?_of_mem ha;rw[List.getElem?_drop]at hk;have:=h2 (r+k) a (by omega) hk
  simp;omega
 rw[a1,a2,List.length_take];omega
end Go.VE
namespace Go.VE
abbrev mO {α:Type} (m:Option α):Prop:=Wp m fun _=>True
theorem mO.get {α:Type} {m:Option α} (h:mO m):∃a,m=some a:=let ⟨a,e,_⟩:=h;⟨a,e⟩
theorem mO.ok {m:Option Bool} (h:mO m):m=some (m.getD false):=by obtain⟨a,e,_⟩:=h;rw[e];rfl
def Small (t:Trace):Prop:=t.procs.l.length<1073741824∧∀p∈t.procs.l,p.events.l.length<1073741824∧p.vars.l.length<1073741824∧p.name.size<1073741824∧(∀v∈p.vars.l,v.name.size<1073741824)∧∀e∈p.events.l,e.assign.l.length<1073741824
section
theorem Hq {s:Sl Event} {p:Event→Option Bool} {f:Event→Bool} (hp:∀x∈s.l,p x=some (f x)) (hl:s.l.length<1073741824):dO s p=some (place f s.l):=
 od hp (by omega) (fun i=>rfl)
theorem Ix {s:Sl bq} {p:bq→Option Bool} {f:bq→Bool} (hp:∀x∈s.l,p x=some (f x)) (hl:s.l.length<1073741824):dV s p=some (place f s.l):=
 od hp (by omega) (fun i=>rfl)
theorem Ju {s:Sl Var} {p:Var→Option Bool} {f:Var→Bool} (hp:∀x∈s.l,p x=some (f x)) (hl:s.l.length<1073741824):ez s p=some (place f s.l):=
 od hp (by omega) (fun i=>rfl)
theorem D9 {s:Sl Assign} {p:Assign→Option Bool} {f:Assign→Bool} (hp:∀x∈s.l,p x=some (f x)) (hl:s.l.length<1073741824):dB s p=some (place f s.l):=
 od hp (by omega) (fun i=>rfl)
theorem vv {s:Sl Event} {p:Event→Option Bool} {f:Event→Bool} (hp:∀x∈s.l,p x=some (f x)) (hl:s.l.length<1073741824):eX s p=some (s.l.any f):=by
 unfold eX;rw[Hq hp hl,ζb,nZ]
theorem vV {s:Sl bq} {p:bq→Option Bool} {f:bq→Bool} (hp:∀x∈s.l,p x=some (f x)) (hl:s.l.length<1073741824):fC s p=some (s.l.any f):=by
 unfold fC;rw[Ix hp hl,ζb,nZ]
theorem tN {s:Sl Var} {p:Var→Option Bool} {f:Var→Bool} (hp:∀x∈s.l,p x=some (f x)) (hl:s.l.length<1073741824):eo s p=some (s.l.any f):=by
 unfold eo;rw[Ju hp hl,ζb,nZ]
theorem ue {s:Sl Assign} {p:Assign→Option Bool} {f:Assign→Bool} (hp:∀x∈s.l,p x=some (f x)) (hl:s.l.length<1073741824):eG s p=some (s.l.any f):=by
 unfold eG;rw[D9 hp hl,ζb,nZ]
theorem gD (x lo hi:Int):jV x lo hi=some (decide (lo≤x)&&decide (x≤hi)):=by
 unfold jV;rw[fP];rfl
theorem zi (c:Int):mO (iF c):=by
 unfold iF;simp only[fP,eW,ζb,mO,ai]
theorem H9 (c:Int):mO (kW c):=by
 unfold kW;simp only[fP,eW,ζb,mO,ai]
theorem uR {s:ByteArray} {i:Nat} (h:i<s.size):∃x,gM s (i:Int)=some x:=by
 unfold gM;rw[if_pos (by omega)]
 exact⟨_,by rw[show (s[(i:Int).toNat]?)=some s[i]from by simp[h]];rfl⟩
theorem z_ (s:ByteArray) (hs:s.size<1073741824):mO (cU s):=by
 unfold cU;simp only[eW,ζb];rw[mO,dQ];have h1:mO (au (ByteArray.toList s==ByteArray.toList ByteArray.empty||decide (((ByteArray.size s:Nat):Int)>16)) (some true)
  ((gM s 0).bind fun x_2=>(iF x_2).bind fun x_3=>some (!x_3))):=by
  rw[mO,aT];refine⟨fun _=>(ai _).2 trivial,fun h=>?_⟩
  have h0:0<s.size:=by
   simp only[Bool.or_eq_false_iff,beq_eq_false_iff_ne,ne_eq]at h;apply Classical.byContradiction;intro hn;apply h.1;have:s=ByteArray.empty:=by
    apply ByteArray.ext;apply Array.eq_empty_of_size_eq_zero;show s.size=0;omega
   rw[this]
  obtain⟨x,hx⟩:=uR h0;rw[show (0:Int)=((0:Nat):Int)from rfl,hx,ζb];obtain⟨y,hy⟩:=(zi x).get;rw[hy,ζb,ai];trivial
 refine h1.mono fun b _=>?_
 rw[aT];refine⟨fun _=>(ai _).2 trivial,fun _=>?_⟩
 unfold cU.W1;refine c6 (fun i:Int=>∃n:Nat,i=n∧n≤s.size) (fun i:Int=>s.size-i.toNat) ⟨0,rfl,Nat.zero_le _⟩ ?_
 rintro i ⟨n,rfl,hn⟩;unfold cU.aG;rw[aT];refine⟨fun h=>?_,fun _=>(ai _).2 ((ai _).2 trivial)⟩
 have hlt:n<s.size:=by simpa using h
 obtain⟨x,hx⟩:=uR hlt;obtain⟨y,hy⟩:=(zi x).get;obtain⟨z,hz⟩:=(H9 x).get;simp only[hx,hy,hz,ζb];rw[dQ,aT];refine⟨fun _=>(ai _).2 ?_,fun _=>(ai _).2 ?_⟩ <;>
 ·rw[dQ,aT];refine⟨fun _=>(ai _).2 ?_,fun _=>(ai _).2 ?_⟩ <;>
  ·rw[aT];refine⟨fun _=>(ai _).2 ((ai _).2 trivial),fun _=>(ai _).2 ?_⟩
   exact⟨⟨n+1,bW n (by omega),by omega⟩,by rw[bW n (by omega)];simp;omega⟩
theorem KH {t:Trace} (hS:Small t) {p:Nat} (hp:p<t.procs.l.length):mO (bX t p):=by
 unfold bX;rw[aQ hp,ζb];obtain⟨_,hps⟩:=hS;obtain⟨h1,h2,h3,h4,h5⟩:=hps _ (List.getElem_mem hp);generalize hx:t.procs.l[p]=x at *;obtain⟨b,hb⟩:=(z_ x.name h3).get;obtain⟨y,hy,hyl⟩:=lP t.procs p (by omega)
 rw[hb,ζb,hy,ζb,vV (f:=fun z=>(e9 z x).getD false) (fun z _=>mO.ok ((ai _).2 trivial)) (by rw[hyl];simp;omega),ζb,jh,ζb,mO,aT]
 refine⟨fun _=>(ai _).2 trivial,fun _=>?_⟩
 rw[aT];refine⟨fun _=>(ai _).2 trivial,fun _=>?_⟩
 unfold bX.W1;refine c6 (fun i:Int=>∃n:Nat,i=n∧n≤x.vars.l.length) (fun i:Int=>x.vars.l.length-i.toNat) ⟨0,rfl,Nat.zero_le _⟩ ?_
 rintro i ⟨n,rfl,hn⟩;unfold bX.aG;rw[aT];refine⟨fun h=>?_,fun _=>(ai _).2 ?_⟩
 ·have hlt:n<x.vars.l.length:=by simpa [len]using h
  rw[aQ hlt,ζb];obtain⟨b',hb'⟩:=(z_ x.vars.l[n].name (h4 _ (List.getElem_mem hlt))).get;obtain⟨y',hy',hyl'⟩:=lP x.vars n (by omega)
  rw[hb',ζb,hy',ζb,tN (f:=fun z=>(e8 z x.vars.l[n]).getD false) (fun z _=>mO.ok ((ai _).2 trivial)) (by rw[hyl'];simp;omega),ζb,jh,ζb,gD,ζb,aT]
  refine⟨fun _=>(ai _).2 ((ai _).2 trivial),fun _=>?_⟩
  rw[aT];refine⟨fun _=>(ai _).2 ?_,fun _=>(ai _).2 ((ai _).2 trivial)⟩
  exact⟨⟨n+1,bW n (by omega),by omega⟩,by rw[bW n (by omega)];simp;omega⟩
 ·rw[jh];exact(ai _).2 trivial
def fU (n:Nat) (p:Int) (e:Event):Prop:=e.kind=1∨((e.kind=2∨e.kind=3)∧0≤e.peer∧e.peer<n∧e.peer≠p∧0≤e.message∧e.message≤199)
theorem HW {t:Trace} (hS:Small t) (p:Int) (e:Event):Wp (dw t p e) fun b=>b=true→fU t.procs.l.length p e:=by
 have hw:IntKind.wrap .i64 ((len t.procs)-1)=(t.procs.l.length:Int)-1:=mw _ (by simp[len];omega) (by have:=hS.1;simp[len];omega)
 have j:∀b:Bool,(b=true→e.kind=2∨e.kind=3)→Wp (dw.J1 p b t e) fun b=>b=true→fU t.procs.l.length p e:=by
  intro b hb;unfold dw.J1;simp only[gD,ζb,fP,hw,aT,ai];intro k;simp only[ζh,decide_eq_true_eq,Bool.not_eq_true',beq_eq_false_iff_ne,ne_eq]at k;exact .inr ⟨hb k.1,k.2.1.1.1,by omega,k.2.1.2,k.2.2.1,k.2.2.2⟩
 unfold dw;simp only[fP,ζb,aT,ai];refine⟨fun h _=>.inl (by simpa using h),fun _=>⟨fun h=>j true fun _=>.inl (by simpa using h),fun _=>j _ fun h=>.inr (by simpa using h)⟩⟩
end
end Go.VE
namespace Go.VE
def gY (t:Trace) (p k:Nat) (e:Event):Prop:=∃P,t.procs.l[p]? = some P∧P.events.l[k]? = some e
theorem qx {p:Int} {x:aa×Event}:∀{es:List Event} {j:Int},x∈fJ p j es↔∃k:Nat,es[k]? = some x.2∧x.1=⟨p,j+k+1⟩
 | [],j=>by simp[fJ]
 | e::es,j=>by
  simp only[fJ,List.mem_cons,qx (es:=es)];constructor
  ·rintro (rfl|⟨k,h1,h2⟩)
   ·exact⟨0,rfl,by simp⟩
   ·exact⟨k+1,by simpa using h1,by rw[h2];congr 1;push_cast;omega⟩
  ·rintro⟨k,h1,h2⟩
   cases k with
   | zero=>
    simp at h1;exact .inl (by obtain⟨a,b⟩:=x;simp only at h1 h2;rw[h1,h2];simp)
   | succ k=>exact .inr ⟨k,by simpa using h1,by rw[h2];congr 1;push_cast;omega⟩
theorem ri {x:aa×Event}:∀{ps:List bq} {i:Int},x∈dK i ps↔∃(a k:Nat) (P:bq),ps[a]? = some P∧P.events.l[k]? = some x.2∧x.1=⟨i+a,k+1⟩
 | [],i=>by simp[dK]
 | p::ps,i=>by
  simp only[dK,List.mem_append,qx,ri (ps:=ps)];constructor
  ·rintro (⟨k,h1,h2⟩|⟨a,k,P,h1,h2,h3⟩)
   ·exact⟨0,k,p,rfl,h1,by rw[h2];simp⟩
   ·exact⟨a+1,k,P,by simpa using h1,h2,by rw[h3];congr 1;push_cast;omega⟩
  ·rintro⟨a,k,P,h1,h2,h3⟩
   cases a with
   | zero=>
    simp at h1;subst h1;exact .inl ⟨k,h2,by rw[h3];simp⟩
   | succ a=>exact .inr ⟨a,k,P,by simpa using h1,h2,by rw[h3];congr 1;push_cast;omega⟩
abbrev aN (t:Trace):List (aa×Event):=dK 0 t.procs.l
theorem bU {t:Trace} {x:aa×Event}:x∈aN t↔∃p k:Nat,gY t p k x.2∧x.1=⟨p,k+1⟩:=by
 unfold aN;rw[ri];constructor
 ·rintro⟨a,k,P,h1,h2,h3⟩;exact⟨a,k,⟨P,h1,h2⟩,by rw[h3];simp⟩
 ·rintro⟨a,k,⟨P,h1,h2⟩,h3⟩;exact⟨a,k,P,h1,h2,by rw[h3];simp⟩
theorem uA {t:Trace} {x y:aa×Event} (hx:x∈aN t) (hy:y∈aN t) (h:x.1=y.1):x=y:=by
 obtain⟨p,k,⟨P,hP,hk⟩,e1⟩:=bU.1 hx;obtain⟨q,j,⟨Q,hQ,hj⟩,e2⟩:=bU.1 hy;obtain⟨a,e⟩:=x;obtain⟨b,f⟩:=y;simp only at *;subst h;rw[e1]at e2;simp only[aa.mk.injEq]at e2;have hpq:p=q:=by omega
 have hkj:k=j:=by omega
 subst hpq hkj;rw[hP]at hQ;cases hQ;rw[hk]at hj;cases hj;rfl
theorem oK {t:Trace} (hS:Small t):fV t=some (aN t):=by
 unfold fV;rw[if_pos];simp only[Ci,ζh,List.all_eq_true,decide_eq_true_eq];exact⟨by have:=hS.1;omega,fun p hp=>by have:=(hS.2 p hp).1;omega⟩
theorem Qc {t:Trace} (hS:Small t) {p k:Nat} {e:Event} (h:gY t p k e):Wp (bz t ⟨p,k+1⟩ e) fun r=>r=0→fU t.procs.l.length p e:=by
 obtain⟨P,hP,hk⟩:=h;have hPm:P∈t.procs.l:=List.mem_of_getElem? hP;obtain⟨h1,h2,h3,h4,h5⟩:=hS.2 P hPm;have hkl:k<P.events.l.length:=(ζe.1 hk).1;have hem:e∈P.events.l:=List.mem_of_getElem? hk;have j:∀last:Int,Wp (bz.J1 last t ⟨p,k+1⟩ e P) fun r=>r=0→fU t.procs.l.length p e:=by
  intro last;unfold bz.J1;rw[dQ];refine(HW hS p e).mono fun b hb=>?_
  rw[aT];refine⟨fun hbt=>?_,fun _=>(ai _).2 fun h=>by cases h⟩
  have hf:=hb hbt;simp only[gD,ζb,jh];refine Wp.mono (P:=fun _=>True) ?_ fun _ _ _=>hf
  rw[aT];refine⟨fun _=>(ai _).2 trivial,fun _=>?_⟩
  rw[aT];refine⟨fun _=>(ai _).2 trivial,fun _=>?_⟩
  unfold bz.W2;refine c6 (fun i:Int=>∃n:Nat,i=n∧n≤e.assign.l.length) (fun i:Int=>e.assign.l.length-i.toNat) ⟨0,rfl,Nat.zero_le _⟩ ?_
  rintro i ⟨n,rfl,hn⟩;have hal:=h5 e hem;unfold bz.bl;rw[aT];refine⟨fun h=>?_,fun _=>(ai _).2 ((ai _).2 trivial)⟩
  have hlt:n<e.assign.l.length:=by simpa [len]using h
  obtain⟨y',hy',hyl'⟩:=lP e.assign n (by omega)
  rw[aQ hlt,ζb];simp only[gD,ζb,jh];rw[hy',ζb,ue (f:=fun z=>(fQ z e.assign.l[n]).getD false) (fun z _=>mO.ok ((ai _).2 trivial)) (by rw[hyl'];simp;omega),ζb,aT]
  refine⟨fun _=>(ai _).2 ((ai _).2 trivial),fun _=>?_⟩
  rw[ai];split
  ·exact(ai _).2 trivial
  ·exact⟨⟨n+1,bW n (by omega),by omega⟩,by rw[bW n (by omega)];simp;omega⟩
 unfold bz;rw[show idx t.procs ((⟨(p:Int),(k:Int)+1⟩:aa).proc)=some P from by rw[o8,hP],ζb,aT]
 refine⟨fun h=>?_,fun _=>j 0⟩
 have hk1:1≤k:=by
  have:(k:Int)+1>1:=by simpa using h
  omega
 have hw:IntKind.wrap .i64 ((⟨(p:Int),(k:Int)+1⟩:aa).index-2)=((k-1:Nat):Int):=by
  show IntKind.wrap .i64 ((k:Int)+1-2)=_;rw[mw _ (by omega) (by omega)];omega
 rw[hw,aQ (by omega:k-1<P.events.l.length),ζb]
 exact j _
def pg (t:Trace) (p m to:Int):Bool:=match t.procs.l[p.toNat]? with
 | some P=>P.events.l.any fun e=>e.kind==2&&e.message==m&&e.peer==to
 | none=>false
theorem JJ {t:Trace} (hS:Small t) {p:Int} (h0:0≤p) (h1:p<t.procs.l.length) (m to:Int):qv t p m to=some (pg t p m to):=by
 unfold qv;have hlt:p.toNat<t.procs.l.length:=by omega
 have hP:=List.getElem_mem hlt;rw[QD h0,ζd hlt,ζb,vv (f:=fun e=>e.kind==2&&e.message==m&&e.peer==to) (fun e _=>by
  unfold mG;simp only[fP,ζb]) (hS.2 _ hP).1,ζb]
 unfold pg;rw[ζd hlt]
theorem rJ {t:Trace} {p:Nat} {m to:Int}:pg t p m to=true↔∃k e,gY t p k e∧e.kind=2∧e.message=m∧e.peer=to:=by
 unfold pg gY;rw[show ((p:Nat):Int).toNat=p from rfl]
 cases hP:t.procs.l[p]? with
 | none=>simp
 | some P=>
  simp only[List.any_eq_true,ζh,beq_iff_eq,ζa,exists_eq_left'];constructor
  ·rintro⟨e,he,h⟩;obtain⟨k,hk⟩:=List.getElem?_of_mem he;exact⟨k,e,hk,h.1.1,h.1.2,h.2⟩
  ·rintro⟨k,e,hk,h1,h2,h3⟩;exact⟨e,List.mem_of_getElem? hk,⟨h1,h2⟩,h3⟩
def ag (A:bp 200 aH) (m:Int):aH:=(A.at m).getD default
theorem GQ (A:bp 200 aH) {m:Int} (h0:0≤m) (h1:m≤199):A.at m=some (ag A m):=by
 have:m.toNat<A.l.length:=by rw[A.len];omega
 unfold ag bp.at;rw[if_pos h0,ζd this];rfl
theorem mV (A:bp 200 aH) {m m':Int} (x:aH) (h0:0≤m) (h1:m≤199) (h2:0≤m'):ag (A.set m x) m'=if m'=m then x else ag A m':=by
 have:m.toNat<A.l.length:=by rw[A.len];omega
 unfold ag bp.at bp.set;simp only[if_pos h2];rw[List.getElem?_set]
 by_cases e:m'=m
 ·subst e;simp[this]
 ·rw[if_neg (by omega),if_neg e]
theorem IG {m:Int} (h0:0≤m) (h1:m≤199):ag (bp.Jj 200 (⟨⟨0,0⟩,⟨0,0⟩⟩:aH)) m=⟨⟨0,0⟩,⟨0,0⟩⟩:=by
 unfold ag bp.at bp.Jj;simp only[if_pos h0];rw[List.getElem?_replicate,if_pos (by omega)];rfl
structure eT (t:Trace) (its:List (aa×Event)) (A:bp 200 aH):Prop where
 snd:∀x∈its,x.2.kind=2→(ag A x.2.message).from_=x.1
 rcv:∀x∈its,x.2.kind=3→(ag A x.2.message).to_=x.1∧pg t x.2.peer x.2.message x.1.proc=true
 fr:∀m,0≤m→m≤199→(ag A m).from_.index=0∨∃e,((ag A m).from_,e)∈its∧e.kind=2∧e.message=m
 to:∀m,0≤m→m≤199→(ag A m).to_.index=0∨∃e,((ag A m).to_,e)∈its∧e.kind=3∧e.message=m
def GA (a b:aa×Event):Prop:=a.1.proc<b.1.proc∨a.1.proc=b.1.proc∧a.1.index<b.1.index
theorem Jf {p:Int}:∀{es:List Event} {j:Int},(fJ p j es).Pairwise GA
 | [],_=>List.Pairwise.nil
 | e::es,j=>by
  simp only[fJ,List.pairwise_cons];refine⟨fun b hb=>?_,Jf⟩
  obtain⟨k,_,h2⟩:=qx.1 hb;refine .inr ⟨by rw[h2],?_⟩
  rw[h2];dsimp only;omega
theorem DN:∀{ps:List bq} {i:Int},(dK i ps).Pairwise GA
 | [],_=>List.Pairwise.nil
 | P::ps,i=>by
  simp only[dK,List.pairwise_append];refine⟨Jf,DN,fun a ha b hb=>.inl ?_⟩
  obtain⟨k,_,h2⟩:=qx.1 ha;obtain⟨c,j,P,_,_,h3⟩:=ri.1 hb;rw[h2,h3];dsimp only;omega
theorem Cx {t:Trace} {k:Nat} {x y:aa×Event} (hx:(aN t)[k]? = some x) (hy:y∈(aN t).take k):y.1≠x.1:=by
 obtain⟨h1,h2⟩:=ζe.1 hx;have hp:((aN t).take k++(aN t).drop k).Pairwise GA:=by rw[List.take_append_drop];exact DN
 have:=(List.pairwise_append.1 hp).2.2 y hy x (by rw[List.drop_eq_getElem_cons h1,h2];exact List.mem_cons_self ..)
 intro e;unfold GA at this;rw[e]at this;omega
structure uo (t:Trace):Prop where
 snd:∀x∈aN t,∀y∈aN t,x.2.kind=2→y.2.kind=2→x.2.message=y.2.message→x.1=y.1
 rcv:∀x∈aN t,∀y∈aN t,x.2.kind=3→y.2.kind=3→x.2.message=y.2.message→x.1=y.1
 has:∀x∈aN t,x.2.kind=3→pg t x.2.peer x.2.message x.1.proc=true
theorem eT.vR {t:Trace} {A:bp 200 aH} (h:eT t (aN t) A):uo t:=
 ⟨fun x hx y hy k2 k2' hm=>by rw[←h.snd x hx k2,←h.snd y hy k2',hm],fun x hx y hy k2 k2' hm=>by rw[←(h.rcv x hx k2).1,←(h.rcv y hy k2').1,hm],fun x hx k=>(h.rcv x hx k).2⟩
theorem zd {t:Trace} (hS:Small t) (hF:∀x∈aN t,fU t.procs.l.length x.1.proc x.2):Wp (cV t) fun r=>(r.2.2=0→∃A,r.1=some A∧eT t (aN t) A)∧(uo t→r.2.2=0):=by
 unfold cV fT;rw[ζb];unfold cV.E1;rw[oK hS,ζb];refine uj (fun k A=>eT t ((aN t).take k) A) ⟨by simp,by simp,fun m h0 h1=>.inl (by rw[IG h0 h1]),fun m h0 h1=>.inl (by rw[IG h0 h1])⟩ ?_ ?_
 ·intro k x A hx hI;have hxm:x∈aN t:=List.mem_of_getElem? hx;have hkl:k<(aN t).length:=(ζe.1 hx).1;have htk:(aN t).take (k+1)=(aN t).take k++[x]:=by rw[List.take_add_one,hx];rfl
  obtain⟨p,j,hat,hid⟩:=bU.1 hxm;have hxi:x.1.index>0:=by rw[hid];show (j:Int)+1>0;omega
  have hf:=hF x hxm;unfold cV.mJ;rw[aT];constructor
  ·intro hk;have hk2:x.2.kind=2:=by simpa using hk
   have hm:0≤x.2.message∧x.2.message≤199:=by
    rcases hf with h|⟨_,_,_,_,h⟩
    ·omega
    ·exact h
   rw[GQ A hm.1 hm.2,ζb,aT];refine⟨fun hg=>(ai _).2 ((ai _).2 ⟨fun h=>(by cases h),fun hp=>?_⟩),fun h0=>?_⟩
   ·rcases hI.fr _ hm.1 hm.2 with hg'|⟨e,he,hk',hm'⟩
    ·simp[hg']at hg
    ·exact absurd (hp.snd _ (List.mem_of_mem_take he) x hxm hk' hk2 hm') (Cx hx he)
   have h0:¬(ag A x.2.message).from_.index>0:=by simpa using h0
   rw[ζb,ai,htk];have old:∀y∈(aN t).take k,y.2.kind=2→y.2.message≠x.2.message:=fun y hy hy2 he=>by
    have:=hI.snd y hy hy2;rw[he]at this;rw[this]at h0;obtain⟨p',j',_,hid'⟩:=bU.1 (List.mem_of_mem_take hy);rw[hid']at h0;exact h0 (by show (j':Int)+1>0;omega)
   have nn:∀y∈(aN t).take k,y.2.kind=2∨y.2.kind=3→0≤y.2.message:=fun y hy hy2=>by
    rcases hF y (List.mem_of_mem_take hy)with h|⟨_,_,_,_,h,_⟩
    ·omega
    ·exact h
   refine⟨fun y hy hy2=>?_,fun y hy hy3=>?_,fun m m0 m1=>?_,fun m m0 m1=>?_⟩
   ·rcases List.mem_append.1 hy with hy|hy
    ·rw[mV A _ hm.1 hm.2 (nn y hy (.inl hy2)),if_neg (old y hy hy2)];exact hI.snd y hy hy2
    ·simp at hy;subst hy;rw[mV A _ hm.1 hm.2 hm.1,if_pos rfl]
   ·rcases List.mem_append.1 hy with hy|hy
    ·rw[mV A _ hm.1 hm.2 (nn y hy (.inr hy3))];have:=hI.rcv y hy hy3;split
     ·rename_i e;rw[e]at this;exact⟨this.1,by rw[e];exact this.2⟩
     ·exact this
    ·simp at hy;subst hy;omega
   ·rw[mV A _ hm.1 hm.2 m0];split
    ·rename_i e;exact .inr ⟨x.2,by simp,hk2,e.symm⟩
    ·exact(hI.fr m m0 m1).imp (fun h=>h) fun⟨e,h1,h2⟩=>⟨e,List.mem_append_left _ h1,h2⟩
   ·rw[mV A _ hm.1 hm.2 m0];have:=(hI.to m m0 m1).imp (fun h=>h) fun⟨e,h1,h2⟩=>(⟨e,List.mem_append_left [x] h1,h2⟩:∃e,((ag A m).to_,e)∈(aN t).take k++[x]∧e.kind=3∧e.message=m)
    split
    ·rename_i e;subst e;exact this
    ·exact this
  ·intro hk;have hk2:¬x.2.kind=2:=by simpa using hk
   rw[aT];constructor
   ·intro hk;have hk3:x.2.kind=3:=by simpa using hk
    have hm:0≤x.2.message∧x.2.message≤199∧0≤x.2.peer∧x.2.peer<t.procs.l.length:=by
     rcases hf with h|⟨_,h1,h2,_,h3,h4⟩
     ·omega
     ·exact⟨h3,h4,h1,h2⟩
    rw[GQ A hm.1 hm.2.1,ζb,aT];refine⟨fun hg=>(ai _).2 ((ai _).2 ⟨fun h=>(by cases h),fun hp=>?_⟩),fun h0=>?_⟩
    ·rcases hI.to _ hm.1 hm.2.1 with hg'|⟨e,he,hk',hm'⟩
     ·simp[hg']at hg
     ·exact absurd (hp.rcv _ (List.mem_of_mem_take he) x hxm hk' hk3 hm') (Cx hx he)
    have h0:¬(ag A x.2.message).to_.index>0:=by simpa using h0
    rw[JJ hS hm.2.2.1 hm.2.2.2,ζb,aT];refine⟨fun hs=>?_,fun hs=>(ai _).2 ((ai _).2 ⟨fun h=>(by cases h),fun hp=>by rw[hp.has x hxm hk3]at hs;cases hs⟩)⟩
    rw[ζb,ai,htk];have old:∀y∈(aN t).take k,y.2.kind=3→y.2.message≠x.2.message:=fun y hy hy2 he=>by
     have:=(hI.rcv y hy hy2).1;rw[he]at this;rw[this]at h0;obtain⟨p',j',_,hid'⟩:=bU.1 (List.mem_of_mem_take hy);rw[hid']at h0;exact h0 (by show (j':Int)+1>0;omega)
    have nn:∀y∈(aN t).take k,y.2.kind=2∨y.2.kind=3→0≤y.2.message:=fun y hy hy2=>by
     rcases hF y (List.mem_of_mem_take hy)with h|⟨_,_,_,_,h,_⟩
     ·omega
     ·exact h
    refine⟨fun y hy hy2=>?_,fun y hy hy3=>?_,fun m m0 m1=>?_,fun m m0 m1=>?_⟩
    ·rcases List.mem_append.1 hy with hy|hy
     ·rw[mV A _ hm.1 hm.2.1 (nn y hy (.inl hy2))];have:=hI.snd y hy hy2;split
      ·rename_i e;rw[e]at this;exact this
      ·exact this
     ·simp at hy;subst hy;omega
    ·rcases List.mem_append.1 hy with hy|hy
     ·rw[mV A _ hm.1 hm.2.1 (nn y hy (.inr hy3)),if_neg (old y hy hy3)];exact hI.rcv y hy hy3
     ·simp at hy;subst hy;rw[mV A _ hm.1 hm.2.1 hm.1,if_pos rfl];exact⟨rfl,hs⟩
    ·rw[mV A _ hm.1 hm.2.1 m0];have:=(hI.fr m m0 m1).imp (fun h=>h) fun⟨e,h1,h2⟩=>(⟨e,List.mem_append_left [x] h1,h2⟩:∃e,((ag A m).from_,e)∈(aN t).take k++[x]∧e.kind=2∧e.message=m)
     split
     ·rename_i e;subst e;exact this
     ·exact this
    ·rw[mV A _ hm.1 hm.2.1 m0];split
     ·rename_i e;exact .inr ⟨x.2,by simp,hk3,e.symm⟩
     ·exact(hI.to m m0 m1).imp (fun h=>h) fun⟨e,h1,h2⟩=>⟨e,List.mem_append_left _ h1,h2⟩
   ·intro hk;have hk3:¬x.2.kind=3:=by simpa using hk
    rw[ai,htk];refine⟨fun y hy hy2=>?_,fun y hy hy3=>?_,fun m m0 m1=>?_,fun m m0 m1=>?_⟩
    ·rcases List.mem_append.1 hy with hy|hy
     ·exact hI.snd y hy hy2
     ·simp at hy;subst hy;exact absurd hy2 hk2
    ·rcases List.mem_append.1 hy with hy|hy
     ·exact hI.rcv y hy hy3
     ·simp at hy;subst hy;exact absurd hy3 hk3
    ·exact(hI.fr m m0 m1).imp (fun h=>h) fun⟨e,h1,h2⟩=>⟨e,List.mem_append_left _ h1,h2⟩
    ·exact(hI.to m m0 m1).imp (fun h=>h) fun⟨e,h1,h2⟩=>⟨e,List.mem_append_left _ h1,h2⟩
 ·intro A hA;rw[List.take_length]at hA;exact(ai _).2 ⟨fun _=>⟨A,rfl,hA⟩,fun _=>rfl⟩
end Go.VE
namespace Go.VE
def fm (f:Nat→Bool) (k n:Nat):Bool:=(List.range' k (n-k)).any f
theorem BE {f:Nat→Bool} {k n:Nat} (h:k<n):fm f k n=(f k||fm f (k+1) n):=by
 unfold fm;rw[show n-k=(n-(k+1))+1 from by omega,List.range'_succ];rfl
theorem Ls {f:Nat→Bool} {k n:Nat} (h:n≤k):fm f k n=false:=by
 unfold fm;rw[show n-k=0 from by omega];rfl
theorem yQ {f:Nat→Bool} {k n:Nat}:fm f k n=true↔∃i,k≤i∧i<n∧f i=true:=by
 unfold fm;rw[List.any_eq_true];constructor
 ·rintro⟨i,hi,hf⟩;rw[List.mem_range'_1]at hi;exact⟨i,hi.1,by omega,hf⟩
 ·rintro⟨i,h1,h2,hf⟩;exact⟨i,by rw[List.mem_range'_1];omega,hf⟩
theorem VO {f g:Nat→Bool} {k n:Nat} (h:∀i,k≤i→i<n→f i=g i):fm f k n=fm g k n:=by
 rw[Bool.eq_iff_iff,yQ,yQ];constructor <;> rintro⟨i,h1,h2,h3⟩ <;> exact⟨i,h1,h2,by rw[←h3,h i h1 h2]⟩
theorem AV {step:Int→Option (Fw Int Unit Unit)} {n:Nat} (f:Nat→Bool) (hn:n<9223372036854775807) (h1:∀i:Nat,i<n→step i=some (if f i then .r ()else .n (IntKind.wrap .i64 ((i:Int)+1)))) (h2:step (n:Int)=some (.x ())) :
 ∀m k:Nat,k+m=n→aX step (k:Int)=some (if fm f k n then .r ()else .x ()):=by
 intro m
 induction m with
 | zero=>
  intro k hk;have:k=n:=by omega
  subst this;rw[eV,h2,Ls (Nat.le_refl _)];rfl
 | succ m ih=>
  intro k hk;rw[eV,h1 k (by omega),BE (by omega)]
  cases hf:f k with
  | true=>rfl
  | false=>
   simp only[Bool.false_eq_true,if_false,ζb,Bool.false_or];rw[bW k (by omega)]
   exact ih (k+1) (by omega)
def jx (g:Nat→Int) (k n:Nat):Int:=match (List.range' k (n-k)).find? fun i => !(g i==0)with
 | some i=>g i
 | none=>0
theorem tB {g:Nat→Int} {k n:Nat} (h:k<n):jx g k n=if g k=0 then jx g (k+1) n else g k:=by
 unfold jx;rw[show n-k=(n-(k+1))+1 from by omega,List.range'_succ,List.find?_cons]
 by_cases h0:g k=0
 ·simp[h0]
 ·rw[if_neg h0,show (!(g k==0))=true from by simp[h0]]
theorem vl {g:Nat→Int} {k n:Nat} (h:n≤k):jx g k n=0:=by
 unfold jx;rw[show n-k=0 from by omega];rfl
theorem Xw {g:Nat→Int} {n:Nat}:∀{m k:Nat},k+m=n→(jx g k n=0↔∀i,k≤i→i<n→g i=0):=by
 intro m
 induction m with
 | zero=>intro k hk;rw[vl (by omega)];exact⟨fun _ i h1 h2=>by omega,fun _=>rfl⟩
 | succ m ih=>
  intro k hk;rw[tB (by omega)]
  split
  ·rename_i h0;rw[ih (show k+1+m=n by omega)]
   constructor
   ·intro h i h1 h2
    by_cases e:i=k
    ·subst e;exact h0
    ·exact h i (by omega) h2
   ·intro h i h1 h2;exact h i (by omega) h2
  ·rename_i h0;exact⟨fun h=>absurd h h0,fun h=>absurd (h k (Nat.le_refl _) (by omega)) h0⟩
theorem WG {g g':Nat→Int} {n:Nat} (h:∀i,i<n→g i=g' i):∀{m k:Nat},k+m=n→jx g k n=jx g' k n:=by
 intro m
 induction m with
 | zero=>intro k hk;rw[vl (by omega),vl (by omega)]
 | succ m ih=>intro k hk;rw[tB (g:=g) (by omega),tB (g:=g') (by omega),h k (by omega),ih (show k+1+m=n by omega)]
theorem Oi {step:Int→Option (Fw Int Unit Int)} {n:Nat} (g:Nat→Int) (hn:n<9223372036854775807) (h1:∀i:Nat,i<n→step i=some (if g i=0 then .n (IntKind.wrap .i64 ((i:Int)+1))else .r (g i))) (h2:step (n:Int)=some (.x ())) :
 ∀m k:Nat,k+m=n→aX step (k:Int)=some (if jx g k n=0 then .x ()else .r (jx g k n)):=by
 intro m
 induction m with
 | zero=>
  intro k hk;have:k=n:=by omega
  subst this;rw[eV,h2,vl (Nat.le_refl _)];rfl
 | succ m ih=>
  intro k hk;rw[eV,h1 k (by omega),tB (by omega)]
  by_cases h0:g k=0
  ·simp only[h0,if_true,ζb];rw[bW k (by omega)]
   exact ih (k+1) (by omega)
  ·simp only[h0,if_false,ζb]
theorem uK {step:Int→Option (Fw Int Unit Int)} {n:Nat} (g:Nat→Int) (hn:n<9223372036854775807) (h1:∀i:Nat,i<n→step i=some (if g i=0 then .n (IntKind.wrap .i64 ((i:Int)+1))else .r (g i))) (h2:step (n:Int)=some (.x ())):aX step 0=some (if jx g 0 n=0 then .x ()else .r (jx g 0 n)):=Oi g hn h1 h2 n 0 (by omega)
theorem yG {step:Int→Option (Fw Int Unit Unit)} {n:Nat} (f:Nat→Bool) (hn:n<9223372036854775807) (h1:∀i:Nat,i<n→step i=some (if f i then .r ()else .n (IntKind.wrap .i64 ((i:Int)+1)))) (h2:step (n:Int)=some (.x ())):aX step 0=some (if fm f 0 n then .r ()else .x ()):=AV f hn h1 h2 n 0 (by omega)
def tH (c:Int):Bool:=decide (c≥65)&&decide (c≤90)||decide (c≥97)&&decide (c≤122)
def yU (c:Int):Bool:=decide (c≥48)&&decide (c≤57)
theorem Ac (c:Int):iF c=some (tH c):=by
 unfold iF tH;simp only[fP,eW,ζb];rw[Bool.or_comm]
theorem zR (c:Int):kT c=some (tH c):=by
 unfold kT tH;simp only[fP,eW,ζb]
theorem Ir (c:Int):kW c=some (yU c):=by
 unfold kW yU;simp only[fP,ζb]
theorem Ij (c:Int):oL c=some (yU c):=by
 unfold oL yU;simp only[fP,ζb]
def th (s:ByteArray) (i:Nat):Int:=(gM s (i:Int)).getD 0
theorem zI {s:ByteArray} {i:Nat} (h:i<s.size):gM s (i:Int)=some (th s i):=by
 obtain⟨x,hx⟩:=uR h;unfold th;rw[hx];rfl
def o9 (s:ByteArray) (i:Nat):Bool := !tH (th s i) && !yU (th s i) && !(th s i==95)
def iU (s:ByteArray):Bool:=decide (1≤s.size)&&decide (s.size≤16)&&tH (th s 0) && !fm (o9 s) 0 s.size
theorem FU {s:ByteArray} {i:Nat} (h:i<s.size):cU.aG s (s.size:Int) i=some (if o9 s i then .r ()else .n (IntKind.wrap .i64 ((i:Int)+1))):=by
 unfold cU.aG o9;rw[show decide ((i:Int)<(s.size:Int))=true from by simpa using h,a_,zI h]
 simp only[ζb,Ac,Ir];cases tH (th s i) <;> cases yU (th s i) <;> cases (th s i==95) <;> rfl
theorem Ho {s:ByteArray} {i:Nat} (h:i<s.size):eN.aG s i=some (if o9 s i then .r ()else .n (IntKind.wrap .i64 ((i:Int)+1))):=by
 unfold eN.aG o9;rw[show decide ((i:Int)<((ByteArray.size s:Nat):Int))=true from by simpa using h,a_,zI h]
 simp only[ζb,zR,Ij];cases tH (th s i) <;> cases yU (th s i) <;> cases (th s i==95) <;> rfl
theorem toList_empty {s:ByteArray}:(ByteArray.toList s==ByteArray.toList ByteArray.empty)=decide (s.size=0):=by
 rw[Bool.eq_iff_iff,beq_iff_eq,decide_eq_true_eq];constructor
 ·intro h;have h1:(ByteArray.toList s).length=s.size:=by rw[Go.ByteArray.toList_eq];simp
  rw[←h1,h];rw[Go.ByteArray.toList_eq];rfl
 ·intro h;have:s=ByteArray.empty:=by
   apply ByteArray.ext;exact Array.eq_empty_of_size_eq_zero h
  rw[this]
theorem Bh {s:ByteArray} (hs:s.size<1073741824):cU s=some (iU s):=by
 unfold cU;rw[toList_empty];simp only[eW,ζb]
 by_cases h0:s.size=0
 ·simp[h0,iU,au]
 by_cases h16:s.size≤16
 ·have hc:(decide (s.size=0)||decide (((ByteArray.size s:Nat):Int)>16))=false:=by simp[h0];omega
  rw[hc,bM,show (0:Int)=((0:Nat):Int)from rfl,zI (show 0<s.size by omega)]
  simp only[ζb,Ac]
  cases hl:tH (th s 0)with
  | false=>simp[iU,hl,au]
  | true=>
   simp only[Bool.not_true,bM];unfold cU.W1;rw[AV (n:=s.size) (o9 s) (by omega) (fun i hi=>FU hi) (by unfold cU.aG;simp[au]) s.size 0 (by omega)]
   have:iU s = !fm (o9 s) 0 s.size:=by simp[iU,hl,h16];omega
   rw[this];cases fm (o9 s) 0 s.size <;> rfl
 ·have hc:(decide (s.size=0)||decide (((ByteArray.size s:Nat):Int)>16))=true:=by simp;omega
  rw[hc,a_];simp[iU,h16,au]
theorem Dm {s:ByteArray} (hs:s.size<1073741824):eN s=some (iU s):=by
 unfold eN;simp only[eW,ζb]
 by_cases h0:s.size=0
 ·simp[h0,iU,au]
 by_cases h16:s.size≤16
 ·have hc:(decide (((ByteArray.size s:Nat):Int)<1)||decide (((ByteArray.size s:Nat):Int)>16))=false:=by simp;omega
  rw[hc,bM,show (0:Int)=((0:Nat):Int)from rfl,zI (show 0<s.size by omega)]
  simp only[ζb,zR]
  cases hl:tH (th s 0)with
  | false=>simp[iU,hl,au]
  | true=>
   simp only[Bool.not_true,bM];unfold eN.W1;rw[show (1:Int)=((1:Nat):Int)from rfl,AV (n:=s.size) (o9 s) (by omega) (fun i hi=>Ho hi) (by unfold eN.aG;simp[au]) (s.size-1) 1 (by omega)]
   have hb0:o9 s 0=false:=by simp[o9,hl]
   have:iU s = !fm (o9 s) 1 s.size:=by
    have h1:=BE (f:=o9 s) (show 0<s.size by omega)
    rw[hb0]at h1;simp[iU,hl,h16,h1];omega
   rw[this];cases fm (o9 s) 1 s.size <;> rfl
 ·have hc:(decide (((ByteArray.size s:Nat):Int)<1)||decide (((ByteArray.size s:Nat):Int)>16))=true:=by simp;omega
  rw[hc,a_];simp[iU,h16,au]
end Go.VE
namespace Go.VE
def fO {α:Type} (l:List α) (f:α→Bool) (i:Nat):Bool:=match l[i]? with|some y=>f y|none=>false
theorem vS {α:Type} {l:List α} {f:α→Bool} {i:Nat} (h:i<l.length):fO l f i=f l[i]:=by unfold fO;rw[ζd h]
theorem yH {α:Type} {l:List α} {f:α→Bool} {p:Nat}:(l.take p).any f=fm (fO l f) 0 p:=by
 rw[Bool.eq_iff_iff,List.any_eq_true,yQ];constructor
 ·rintro⟨x,hx,hf⟩;obtain⟨i,hi⟩:=List.getElem?_of_mem hx;have hl:=(ζe.1 hi).1;rw[List.length_take]at hl;rw[List.getElem?_take,if_pos (by omega)]at hi
  exact⟨i,Nat.zero_le _,by omega,by unfold fO;rw[hi];exact hf⟩
 ·rintro⟨i,_,hi,hf⟩;unfold fO at hf;split at hf
  ·rename_i y hy;exact⟨y,List.mem_of_getElem? (i:=i) (by rw[List.getElem?_take,if_pos hi];exact hy),hf⟩
  ·cases hf
def nM (a b:ByteArray):Bool:=ByteArray.toList a==ByteArray.toList b
def Rn:Bool→Bool→Bool→Int
 | true,false,true=>0
 | true,false,false=>2
 | _,_,_=>13
def qV (P:bq) (i:Nat):Int:=match P.vars.l[i]? with
 | some v=>Rn (iU v.name) (fm (fO P.vars.l fun w=>nM w.name v.name) 0 i) (decide (v.init_≥-1073741824)&&decide (v.init_≤1073741824))
 | none=>0
def om (t:Trace) (p:Nat):Int:=match t.procs.l[p]? with
 | some P=>if iU P.name && !fm (fO t.procs.l fun y=>nM y.name P.name) 0 p then
  (if P.vars.l.length>8 then 5 else if jx (qV P) 0 P.vars.l.length=0 then(if P.events.l.length>64 then 5 else 0)else jx (qV P) 0 P.vars.l.length)else 13
 | none=>0
theorem Bz {P:bq} {i:Nat} (h:i<P.vars.l.length):qV P i=Rn (iU P.vars.l[i].name) (fm (fO P.vars.l fun w=>nM w.name P.vars.l[i].name) 0 i) (decide (P.vars.l[i].init_≥-1073741824)&&decide (P.vars.l[i].init_≤1073741824)):=by
 unfold qV;rw[ζd h]
theorem BJ (n:Int):lX n=some (decide (n≥-1073741824)&&decide (n≤1073741824)):=by
 unfold lX;rw[fP];rfl
theorem Ko {t:Trace} (hS:Small t) {p:Nat} (hp:p<t.procs.l.length):bX t p=some (om t p):=by
 have hP:=hS.2 _ (List.getElem_mem hp);have h1:=hS.1;unfold bX om;rw[aQ hp,ζb,ζd hp];generalize hPe:t.procs.l[p]=P at *;obtain⟨hPev,hPv,hPn,hPvn,_⟩:=hP;rw[Bh hPn,ζb];obtain⟨x,hx,hxl⟩:=lP t.procs p (by omega)
 have hdup:fC x (fun z=>e9 z P)=some (fm (fO t.procs.l fun y=>nM y.name P.name) 0 p):=by
  rw[vV (p:=fun z=>e9 z P) (f:=fun y=>nM y.name P.name) (fun y _=>rfl) (by rw[hxl,List.length_take];omega),hxl,yH]
 rw[hx,ζb,hdup,ζb];dsimp only
 cases hn:iU P.name with
 | false=>simp[au]
 | true=>
  rw[a_,ζb,Bool.true_and]
  cases hd:fm (fO t.procs.l fun y=>nM y.name P.name) 0 p with
  | true=>simp[au]
  | false=>
   rw[bM];simp only[Bool.not_false,if_true]
   by_cases h8:P.vars.l.length>8
   ·rw[show decide (len P.vars>8)=true from by simp[len];omega,a_,if_pos h8]
   ·rw[show decide (len P.vars>8)=false from by simp[len];omega,bM,if_neg h8]
    unfold bX.W1;rw[uK (n:=P.vars.l.length) (qV P) (by omega) (fun i hi=>?_) (by unfold bX.aG;simp[au,len])]
    ·by_cases he:jx (qV P) 0 P.vars.l.length=0
     ·rw[if_pos he,if_pos he];show au (decide (len P.events>64)) (some 5) (some 0)=_;rw[jh];simp only[len,decide_eq_true_eq]
      by_cases h64:P.events.l.length>64
      ·rw[if_pos h64,if_pos (by omega)]
      ·rw[if_neg h64,if_neg (by omega)]
     ·rw[if_neg he,if_neg he];rfl
    ·unfold bX.aG;rw[Bz hi,show decide ((i:Int)<len P.vars)=true from by simp[len];exact hi,a_,aQ hi,ζb]
     have hv:=hPvn _ (List.getElem_mem hi);obtain⟨y,hy,hyl⟩:=lP P.vars i (by omega)
     have hdv:eo y (fun z=>e8 z P.vars.l[i])=some (fm (fO P.vars.l fun w=>nM w.name P.vars.l[i].name) 0 i):=by
      rw[tN (p:=fun z=>e8 z P.vars.l[i]) (f:=fun w=>nM w.name P.vars.l[i].name) (fun w _=>rfl) (by rw[hyl,List.length_take];omega),hyl,yH]
     rw[Bh hv,ζb,hy,ζb,hdv,ζb,gD];have hr:(decide (-1073741824≤P.vars.l[i].init_)&&decide (P.vars.l[i].init_≤1073741824))=(decide (P.vars.l[i].init_≥-1073741824)&&decide (P.vars.l[i].init_≤1073741824)):=rfl;rw[hr];generalize iU P.vars.l[i].name=A;generalize fm (fO P.vars.l fun w=>nM w.name P.vars.l[i].name) 0 i=B
     generalize (decide (P.vars.l[i].init_≥-1073741824)&&decide (P.vars.l[i].init_≤1073741824))=C;cases A <;> cases B <;> cases C <;> rfl
theorem J9 {t:Trace} (hS:Small t) {p:Nat} (hp:p<t.procs.l.length):cH t p=some (om t p):=by
 have hP:=hS.2 _ (List.getElem_mem hp);have h1:=hS.1;unfold cH om;rw[aQ hp,ζb,ζd hp];generalize hPe:t.procs.l[p]=P at *;obtain⟨hPev,hPv,hPn,hPvn,_⟩:=hP;rw[Dm hPn,ζb];dsimp only
 cases hn:iU P.name with
 | false=>simp[au]
 | true=>
  rw[a_,Bool.true_and];unfold cH.W1;rw[yG (n:=p) (fO t.procs.l fun y=>nM y.name P.name) (by omega) (fun i hi=>?_) (by unfold cH.aG;simp[au])]
  ·cases hd:fm (fO t.procs.l fun y=>nM y.name P.name) 0 p with
   | true=>rfl
   | false=>
    simp only[Bool.not_false,if_true];show au (decide (len P.vars>8)) (some 5) (cH.W2 0 P)=_
    by_cases h8:P.vars.l.length>8
    ·rw[show decide (len P.vars>8)=true from by simp[len];omega,a_,if_pos h8]
    ·rw[show decide (len P.vars>8)=false from by simp[len];omega,bM,if_neg h8]
     unfold cH.W2;rw[uK (n:=P.vars.l.length) (qV P) (by omega) (fun i hi=>?_) (by unfold cH.bl;simp[au,len])]
     ·by_cases he:jx (qV P) 0 P.vars.l.length=0
      ·rw[if_pos he,if_pos he];show au (decide (len P.events>64)) (some 5) (some 0)=_;rw[jh];simp only[len,decide_eq_true_eq]
       by_cases h64:P.events.l.length>64
       ·rw[if_pos h64,if_pos (by omega)]
       ·rw[if_neg h64,if_neg (by omega)]
      ·rw[if_neg he,if_neg he];rfl
     ·unfold cH.bl;rw[Bz hi,show decide ((i:Int)<len P.vars)=true from by simp[len];exact hi,a_,aQ hi,ζb]
      rw[Dm (hPvn _ (List.getElem_mem hi)),ζb];have h3:cH.W3 i 0 P=if fm (fO P.vars.l fun w=>nM w.name P.vars.l[i].name) 0 i then some (.r 13)else(if decide (P.vars.l[i].init_≥-1073741824)&&decide (P.vars.l[i].init_≤1073741824)then some (.n (IntKind.wrap .i64 ((i:Int)+1)))else some (.r 2)):=by
       unfold cH.W3;rw[yG (n:=i) (fO P.vars.l fun w=>nM w.name P.vars.l[i].name) (by omega) (fun j hj=>?_) (by unfold cH.dI;simp[au])]
       ·cases fm (fO P.vars.l fun w=>nM w.name P.vars.l[i].name) 0 i with
        | true=>rfl
        | false=>
         show (idx P.vars (i:Int)).bind _=_;rw[aQ hi,ζb,BJ,ζb];cases (decide (P.vars.l[i].init_≥-1073741824)&&decide (P.vars.l[i].init_≤1073741824)) <;> rfl
       ·unfold cH.dI;have hjl:j<P.vars.l.length:=by omega
        rw[show decide ((j:Int)<(i:Int))=true from by simpa using hj,a_,aQ hjl,ζb,aQ hi,ζb,vS hjl,jh];rfl
      rw[h3];generalize iU P.vars.l[i].name=A;generalize fm (fO P.vars.l fun w=>nM w.name P.vars.l[i].name) 0 i=B
      generalize (decide (P.vars.l[i].init_≥-1073741824)&&decide (P.vars.l[i].init_≤1073741824))=C;cases A <;> cases B <;> cases C <;> rfl
  ·unfold cH.aG;have hil:i<t.procs.l.length:=by omega
   rw[show decide ((i:Int)<(p:Int))=true from by simpa using hi,a_,aQ hil,ζb,vS hil,jh];rfl
end Go.VE
namespace Go.VE
def DY (n:Nat) (p:Int) (e:Event):Bool:=if e.kind==1 then e.peer==0&&e.message==0 else(e.kind==2||e.kind==3)&&(decide (0≤e.peer)&&decide (e.peer<n)) && !(e.peer==p)&&(decide (0≤e.message)&&decide (e.message≤199))
theorem Jk {t:Trace} (hS:Small t) (p:Int) (e:Event):dw t p e=some (DY t.procs.l.length p e):=by
 have h1:=hS.1;have hw:IntKind.wrap .i64 (len t.procs-1)=len t.procs-1:=mw _ (by simp[len];omega) (by simp[len];omega)
 have hj:∀b:Bool,dw.J1 p b t e=some (b&&(decide (0≤e.peer)&&decide (e.peer<t.procs.l.length)) && !(e.peer==p)&&(decide (0≤e.message)&&decide (e.message≤199))):=by
  intro b;unfold dw.J1;simp only[gD,hw,ζb];have:decide (e.peer≤len t.procs-1)=decide (e.peer<t.procs.l.length):=by congr 1;apply propext;simp[len];omega
  rw[this];generalize (decide (0≤e.peer)&&decide (e.peer<(t.procs.l.length:Int)))=A;generalize (e.peer==p)=B;generalize (decide (0≤e.message)&&decide (e.message≤199))=C;cases b <;> cases A <;> cases B <;> cases C <;> rfl
 unfold dw DY;rw[hj,hj]
 cases h1:e.kind==1 with
 | true=>
  rw[a_];cases e.peer==0 <;> cases e.message==0 <;> rfl
 | false=>
  rw[bM];simp only[Bool.false_eq_true,if_false];cases h2:e.kind==2 <;> simp[au]
def Ao (P:bq) (k:Nat) (e:Event):Bool:=match k with|0=>false|j+1=>fO P.events.l (fun x=>decide (e.time<x.time)) j
def qj (P:bq) (k:Nat) (e:Event):Bool:=decide (e.time<0)||decide (e.time>1099511627776)||Ao P k e
def TC:Bool→Bool→Bool→Int
 | true,true,false=>0
 | true,true,true=>8
 | _,_,_=>2
def nk (P:bq) (e:Event) (i:Nat):Int:=match e.assign.l[i]? with
 | some a=>TC (decide (0≤a.var)&&decide (a.var<P.vars.l.length)) (decide (a.value≥-1073741824)&&decide (a.value≤1073741824)) (fm (fO e.assign.l fun b=>b.var==a.var) 0 i)
 | none=>0
theorem Bi {P:bq} {e:Event} {i:Nat} (h:i<e.assign.l.length):nk P e i=TC (decide (0≤e.assign.l[i].var)&&decide (e.assign.l[i].var<P.vars.l.length)) (decide (e.assign.l[i].value≥-1073741824)&&decide (e.assign.l[i].value≤1073741824)) (fm (fO e.assign.l fun b=>b.var==e.assign.l[i].var) 0 i):=by
 unfold nk;rw[ζd h]
def lK (n:Nat) (P:bq) (p k:Nat) (e:Event):Int:=if DY n p e then(if qj P k e then 11 else if e.assign.l.length>8 then 5 else jx (nk P e) 0 e.assign.l.length)else 3
theorem G5 {P:bq} {e:Event} (hv:P.vars.l.length<1073741824) (ha:e.assign.l.length<1073741824):bz.W2 e.assign (len e.assign) 0 e P=some (jx (nk P e) 0 e.assign.l.length):=by
 have hw:IntKind.wrap .i64 (len P.vars-1)=len P.vars-1:=mw _ (by simp[len];omega) (by simp[len];omega)
 unfold bz.W2;rw[uK (n:=e.assign.l.length) (nk P e) (by omega) (fun i hi=>?_) (by unfold bz.bl;simp[au,len])]
 ·by_cases he:jx (nk P e) 0 e.assign.l.length=0
  ·rw[if_pos he,he];rfl
  ·rw[if_neg he];rfl
 ·unfold bz.bl;obtain⟨y,hy,hyl⟩:=lP e.assign i (by omega)
  have hdv:eG y (fun z=>fQ z e.assign.l[i])=some (fm (fO e.assign.l fun b=>b.var==e.assign.l[i].var) 0 i):=by
   rw[ue (p:=fun z=>fQ z e.assign.l[i]) (f:=fun b=>b.var==e.assign.l[i].var) (fun w _=>rfl) (by rw[hyl,List.length_take];omega),hyl,yH]
  rw[Bi hi,show decide ((i:Int)<len e.assign)=true from by simp[len];exact hi,a_,aQ hi,ζb,gD,gD,hw,hy,ζb,ζb,ζb,hdv,ζb]
  have h1:(decide (0≤e.assign.l[i].var)&&decide (e.assign.l[i].var≤len P.vars-1))=(decide (0≤e.assign.l[i].var)&&decide (e.assign.l[i].var<P.vars.l.length)):=by
   congr 2;apply propext;simp[len];omega
  have h2:(decide (-1073741824≤e.assign.l[i].value)&&decide (e.assign.l[i].value≤1073741824))=(decide (e.assign.l[i].value≥-1073741824)&&decide (e.assign.l[i].value≤1073741824)):=rfl;rw[h1,h2];generalize (decide (0≤e.assign.l[i].var)&&decide (e.assign.l[i].var<(P.vars.l.length:Int)))=A;generalize (decide (e.assign.l[i].value≥-1073741824)&&decide (e.assign.l[i].value≤1073741824))=B;generalize fm (fO e.assign.l fun b=>b.var==e.assign.l[i].var) 0 i=C
  cases A <;> cases B <;> cases C <;> rfl
theorem IA {t:Trace} (hS:Small t) {p k:Nat} {P:bq} {e:Event} (hP:t.procs.l[p]? = some P) (he:P.events.l[k]? = some e):bz t ⟨p,k+1⟩ e=some (lK t.procs.l.length P p k e):=by
 obtain⟨hp,hPe⟩:=ζe.1 hP;obtain⟨hk,hke⟩:=ζe.1 he;obtain⟨hPev,hPv,_,_,hPa⟩:=hS.2 P (hPe▸List.getElem_mem hp);have ha:=hPa e (hke▸List.getElem_mem hk);have hJ:∀last:Int,((decide (0≤e.time)&&decide (e.time≤1099511627776)) && !decide (e.time<last))=(!qj P k e) →
  bz.J1 last t ⟨p,k+1⟩ e P=some (lK t.procs.l.length P p k e):=by
  intro last hl;unfold bz.J1 lK;rw[Jk hS,ζb,gD,ζb,G5 hPv ha];dsimp only
  cases DY t.procs.l.length p e with
  | false=>rfl
  | true=>
   rw[a_,if_pos rfl];have:(au (decide (0≤e.time)&&decide (e.time≤1099511627776)) (some (decide (e.time<last))) (some true):Option Bool)=some (qj P k e):=by
    have h2:(!((decide (0≤e.time)&&decide (e.time≤1099511627776)) && !decide (e.time<last)))=qj P k e:=by rw[hl,Bool.not_not]
    rw[←h2];cases (decide (0≤e.time)&&decide (e.time≤1099511627776)) <;> cases decide (e.time<last) <;> rfl
   rw[this,ζb]
   cases qj P k e with
   | true=>rfl
   | false=>
    rw[bM];simp only[Bool.false_eq_true,if_false]
    by_cases h8:e.assign.l.length>8
    ·rw[show decide (len e.assign>8)=true from by simp[len];omega,a_,if_pos h8]
    ·rw[show decide (len e.assign>8)=false from by simp[len];omega,bM,if_neg h8]
 unfold bz;dsimp only;rw[show idx t.procs (p:Int)=some P from by rw[o8];exact hP,ζb]
 cases k with
 | zero=>
  rw[show decide (((0:Nat):Int)+1>1)=false from by decide,bM]
  refine hJ 0 ?_;simp only[qj,Ao,Bool.or_false];rw[Bool.eq_iff_iff];simp only[ζh,Bool.not_eq_true',decide_eq_true_eq,decide_eq_false_iff_not,Bool.or_eq_false_iff];omega
 | succ j=>
  rw[show decide ((((j+1:Nat)):Int)+1>1)=true from by simp;omega,a_]
  have hjl:j<P.events.l.length:=by omega
  have hw:IntKind.wrap .i64 ((((j+1:Nat)):Int)+1-2)=((j:Nat):Int):=by rw[mw _ (by omega) (by omega)];omega
  rw[hw,aQ hjl,ζb];refine hJ _ ?_;simp only[qj,Ao,vS hjl];rw[Bool.eq_iff_iff];simp only[ζh,Bool.not_eq_true',decide_eq_true_eq,decide_eq_false_iff_not,Bool.or_eq_false_iff];omega
end Go.VE
namespace Go.VE
theorem GU {t:Trace} {p:Nat} {P:bq} {e:Event} (hP:t.procs.l[p]? = some P) (ha:e.assign.l.length<1073741824):cI.W2 p 0 t e=some (jx (nk P e) 0 e.assign.l.length):=by
 unfold cI.W2;rw[uK (n:=e.assign.l.length) (nk P e) (by omega) (fun i hi=>?_) (by unfold cI.bl;simp[au,len])]
 ·by_cases he:jx (nk P e) 0 e.assign.l.length=0
  ·rw[if_pos he,he];rfl
  ·rw[if_neg he];rfl
 ·unfold cI.bl;have h3:cI.W3 p i 0 t e e.assign.l[i]=if fm (fO e.assign.l fun b=>b.var==e.assign.l[i].var) 0 i then some (.r 8)else some (.n (IntKind.wrap .i64 ((i:Int)+1))):=by
   unfold cI.W3;rw[yG (n:=i) (fO e.assign.l fun b=>b.var==e.assign.l[i].var) (by omega) (fun j hj=>?_) (by unfold cI.dI;simp[au])]
   ·cases fm (fO e.assign.l fun b=>b.var==e.assign.l[i].var) 0 i <;> rfl
   ·unfold cI.dI;have hjl:j<e.assign.l.length:=by omega
    rw[show decide ((j:Int)<(i:Int))=true from by simpa using hj,a_,aQ hjl,ζb,vS hjl,jh]
  rw[Bi hi,show decide ((i:Int)<len e.assign)=true from by simp[len];exact hi,a_,aQ hi,ζb,h3,BJ,ζb,show idx t.procs (p:Int)=some P from by rw[o8];exact hP,ζb]
  have h1:(au (decide (e.assign.l[i].var<0)) (some true) (some (decide (e.assign.l[i].var≥len P.vars))):Option Bool)=some (!(decide (0≤e.assign.l[i].var)&&decide (e.assign.l[i].var<P.vars.l.length))):=by
   rw[eW];congr 1;rw[Bool.eq_iff_iff];simp only[Bool.or_eq_true,Bool.not_eq_true',decide_eq_true_eq,Bool.and_eq_false_iff,decide_eq_false_iff_not,len];omega
  rw[h1,ζb];generalize (decide (0≤e.assign.l[i].var)&&decide (e.assign.l[i].var<(P.vars.l.length:Int)))=A;generalize (decide (e.assign.l[i].value≥-1073741824)&&decide (e.assign.l[i].value≤1073741824))=B;generalize fm (fO e.assign.l fun b=>b.var==e.assign.l[i].var) 0 i=C
  cases A <;> cases B <;> cases C <;> rfl
theorem Kq {t:Trace} (hS:Small t) {p k:Nat} {P:bq} {e:Event} (hP:t.procs.l[p]? = some P) (he:P.events.l[k]? = some e):cI t p k=some (lK t.procs.l.length P p k e):=by
 obtain⟨hp,hPe⟩:=ζe.1 hP;obtain⟨hk,hke⟩:=ζe.1 he;obtain⟨hPev,hPv,_,_,hPa⟩:=hS.2 P (hPe▸List.getElem_mem hp);have ha:=hPa e (hke▸List.getElem_mem hk);have hJ:cI.J1 p k t e=some (if qj P k e then 11 else if e.assign.l.length>8 then 5 else jx (nk P e) 0 e.assign.l.length):=by
  unfold cI.J1;rw[eW,ζb,GU hP ha,show idx t.procs (p:Int)=some P from by rw[o8];exact hP,ζb]
  have h1:(au (decide ((k:Int)>0)) ((idx P.events (IntKind.wrap .i64 ((k:Int)-1))).bind fun x_3=>some (decide (e.time<x_3.time))) (some false):Option Bool)=some (Ao P k e):=by
   cases k with
   | zero=>rfl
   | succ j=>
    have hjl:j<P.events.l.length:=by omega
    rw[show decide ((((j+1:Nat)):Int)>0)=true from by simp only[decide_eq_true_eq];omega,a_,show IntKind.wrap .i64 ((((j+1:Nat)):Int)-1)=((j:Nat):Int)from by rw[mw _ (by omega) (by omega)];omega,aQ hjl,ζb]
    simp only[Ao,vS hjl]
  rw[h1,ζb,eW,ζb];show au (qj P k e) _ _=_
  cases qj P k e with
  | true=>rfl
  | false=>
   rw[bM];simp only[Bool.false_eq_true,if_false]
   by_cases h8:e.assign.l.length>8
   ·rw[show decide (len e.assign>8)=true from by simp[len];omega,a_,if_pos h8]
   ·rw[show decide (len e.assign>8)=false from by simp[len];omega,bM,if_neg h8]
 unfold cI lK;rw[show idx t.procs (p:Int)=some P from by rw[o8];exact hP,ζb,show idx P.events (k:Int)=some e from by rw[o8];exact he,ζb,hJ]
 unfold DY
 cases h1:e.kind==1 with
 | true=>
  rw[a_];simp only[if_true];cases e.peer==0 <;> cases e.message==0 <;> rfl
 | false=>
  rw[bM];simp only[Bool.false_eq_true,if_false];have h2:(au (e.kind==2) (some false) (some (!(e.kind==3))):Option Bool)=some (!(e.kind==2||e.kind==3)):=by cases e.kind==2 <;> rfl
  rw[h2,ζb,eW,ζb,eW,ζb,eW,ζb,eW,ζb,eW,ζb];have h3:(((((!(e.kind==2||e.kind==3))||decide (e.peer<0))||decide (e.peer≥len t.procs))||(e.peer==p))||decide (e.message<0)||decide (e.message>199)) = !((e.kind==2||e.kind==3)&&(decide (0≤e.peer)&&decide (e.peer<t.procs.l.length)) && !(e.peer==p)&&(decide (0≤e.message)&&decide (e.message≤199))):=by
   generalize (e.kind==2||e.kind==3)=A;have a1:decide (e.peer<0) = !decide (0≤e.peer):=by rw[Bool.eq_iff_iff];simp
   have a2:decide (e.peer≥len t.procs) = !decide (e.peer<t.procs.l.length):=by rw[Bool.eq_iff_iff];simp[len]
   have a3:decide (e.message<0) = !decide (0≤e.message):=by rw[Bool.eq_iff_iff];simp
   have a4:decide (e.message>199) = !decide (e.message≤199):=by rw[Bool.eq_iff_iff];simp
   rw[a1,a2,a3,a4];generalize decide (0≤e.peer)=B;generalize decide (e.peer<(t.procs.l.length:Int))=C;generalize (e.peer==(p:Int))=D;generalize decide (0≤e.message)=F;generalize decide (e.message≤199)=G;cases A <;> cases B <;> cases C <;> cases D <;> cases F <;> cases G <;> rfl
  rw[h3];generalize ((e.kind==2||e.kind==3)&&(decide (0≤e.peer)&&decide (e.peer<(t.procs.l.length:Int))) && !(e.peer==(p:Int))&&(decide (0≤e.message)&&decide (e.message≤199)))=Z;cases Z <;> rfl
theorem Hl {n:Nat} {p:Int} {e:Event} (h:DY n p e=true):fU n p e:=by
 unfold DY at h;split at h
 ·rename_i h1;left;simpa using h1
 ·right;simp only[ζh,Bool.or_eq_true,beq_iff_eq,decide_eq_true_eq,Bool.not_eq_true',beq_eq_false_iff_ne,ne_eq]at h;obtain⟨⟨⟨h1,h2⟩,h3⟩,h4⟩:=h;exact⟨h1,h2.1,h2.2,h3,h4.1,h4.2⟩
theorem DZ {n:Nat} {P:bq} {p k:Nat} {e:Event} (h:lK n P p k e=0):fU n p e:=by
 unfold lK at h;split at h
 ·rename_i h1;exact Hl h1
 ·cases h
end Go.VE
namespace Go.VE
theorem yu {α:Type} [DecidableEq α]:∀{l r:List α},l.Nodup→(∀x∈l,x∈r)→l.length≤r.length
 | [],_,_,_=>Nat.zero_le _
 | x::l,r,hn,hs=>by
  have hx:x∈r:=hs x (List.mem_cons_self ..);have hn':=List.nodup_cons.1 hn;have:=yu (l:=l) (r:=r.erase x) hn'.2 fun y hy=>(List.mem_erase_of_ne (by rintro rfl;exact hn'.1 hy)).2 (hs y (List.mem_cons_of_mem _ hy))
  rw[List.length_erase_of_mem hx]at this;have hp:0<r.length:=List.length_pos_of_mem hx;simp only[List.length_cons];omega
section
variable {κ:Type} [DecidableEq κ]
theorem zh {ν:Type} {k:κ}:∀{m:Mo κ ν},k∉m.map (·.1)→qA k m=none
 | [],_=>rfl
 | (a,v)::r,h=>by
  simp only[List.map_cons,List.mem_cons,not_or]at h;unfold qA;rw[if_neg h.1];exact zh h.2
theorem Bq {ν:Type} {k:κ}:∀{m:Mo κ ν},k∈m.map (·.1)→∃v,qA k m=some v∧(k,v)∈m
 | [],h=>by simp at h
 | (a,v)::r,h=>by
  unfold qA
  by_cases e:k=a
  ·subst e;exact⟨v,by rw[if_pos rfl],List.mem_cons_self ..⟩
  ·rw[if_neg e];obtain⟨w,h1,h2⟩:=Bq (m:=r) (by simpa [e]using h)
   exact⟨w,h1,List.mem_cons_of_mem _ h2⟩
theorem nK {ν:Type} {k:κ} {v:ν}:∀{m:Mo κ ν},k∉m.map (·.1)→nH m k v=m++[(k,v)]
 | [],_=>rfl
 | (a,w)::r,h=>by
  simp only[List.map_cons,List.mem_cons,not_or]at h;show (if k=a then _ else _)=_;rw[if_neg h.1,nK h.2];rfl
end
def Vd (t:Trace) (y:aa):Prop:=∃e,(y,e)∈aN t
theorem Vd.at_ {t:Trace} {y:aa} (h:Vd t y):∃(p k:Nat) (e:Event),gY t p k e∧y=⟨p,k+1⟩∧(y,e)∈aN t:=by
 obtain⟨e,he⟩:=h;obtain⟨p,k,h1,h2⟩:=bU.1 he;exact⟨p,k,e,h1,h2,he⟩
def CB (t:Trace) (y z:aa):Prop:=∃e f,(y,e)∈aN t∧(z,f)∈aN t∧e.kind=2∧f.kind=3∧e.message=f.message
def Edge (t:Trace) (y z:aa):Prop:=Vd t y∧Vd t z∧(z=⟨y.proc,y.index+1⟩∨CB t y z)
abbrev Way (t:Trace):aa→aa→Prop:=Relation.TransGen (Edge t)
def EW (t:Trace):Prop:=∃x,Way t x x
theorem Way.l {t:Trace} {x y:aa} (h:Way t x y):Vd t x:=by
 induction h with
 | single h=>exact h.1
 | tail _ _ ih=>exact ih
theorem Way.r {t:Trace} {x y:aa} (h:Way t x y):Vd t y:=by
 cases h with
 | single h=>exact h.2.1
 | tail _ h=>exact h.2.1
theorem JO {t:Trace} (hS:Small t) (hF:∀x∈aN t,fU t.procs.l.length x.1.proc x.2) {A:bp 200 aH} (hA:eT t (aN t) A) {y:aa} (hy:Vd t y) :
 Wp (fZ t A y) fun s=>s.l.length≤2∧∀z,z∈s.l↔Edge t y z:=by
 obtain⟨p,k,e,hat,hid,hmem⟩:=hy.at_;have hat':=hat;obtain⟨P,hP,hk⟩:=hat;have hPm:P∈t.procs.l:=List.mem_of_getElem? hP;have h1:=(hS.2 P hPm).1;have hkl:k<P.events.l.length:=(ζe.1 hk).1;have hyp:y.proc=p:=by rw[hid]
 have hyi:y.index=k+1:=by rw[hid]
 have j:∀s:Sl aa,s.l.length≤1→(∀z,z∈s.l↔Vd t z∧z=⟨y.proc,y.index+1⟩)→Wp (fZ.J1 A s P.events y) fun s=>s.l.length≤2∧∀z,z∈s.l↔Edge t y z:=by
  intro s hs hz;have no:¬(∃z,CB t y z)→s.l.length≤2∧∀z,z∈s.l↔Edge t y z:=fun hn=>⟨by omega,fun z=>(hz z).trans ⟨fun h=>⟨hy,h.1,.inl h.2⟩,fun h=>⟨h.2.1,h.2.2.elim id fun h=>(hn ⟨z,h⟩).elim⟩⟩⟩
  unfold fZ.J1;have hw:IntKind.wrap .i64 (y.index-1)=((k:Nat):Int):=by rw[hyi,mw _ (by omega) (by omega)];omega
  rw[hw,o8,hk,ζb,dQ,aT];constructor
  ·intro hk2;have hk2:e.kind=2:=by simpa using hk2
   have hm:0≤e.message∧e.message≤199:=by
    rcases hF _ hmem with h|⟨_,_,_,_,h⟩
    ·simp only at h;omega
    ·exact h
   have to_:∀z,CB t y z→(ag A e.message).to_=z:=fun z ⟨e',f,a1,a2,a3,a4,a5⟩=>by
    cases uA a1 hmem rfl;rw[a5];exact(hA.rcv _ a2 a4).1
   rw[GQ A hm.1 hm.2,ζb,ai,aT];refine⟨fun h=>?_,fun h=>(ai _).2 (no fun⟨z,hz⟩=>?_)⟩
   ·have h:(ag A e.message).to_.index>0:=by simpa using h
    rw[ζb];unfold kH;rw[if_pos (by omega),ζb,ai]
    refine⟨by show (s.l++[(ag A e.message).to_]).length≤2;rw[ζi,List.length_singleton];omega,fun z=>?_⟩
    have hto:CB t y (ag A e.message).to_:=by
     rcases hA.to e.message hm.1 hm.2 with h0|⟨e',h1,h2,h3⟩
     ·omega
     ·exact⟨e,e',hmem,h1,hk2,h2,h3.symm⟩
    show z∈s.l++[(ag A e.message).to_]↔_;rw[List.mem_append,List.mem_singleton,hz];constructor
    ·rintro (h|rfl)
     ·exact⟨hy,h.1,.inl h.2⟩
     ·exact⟨hy,let ⟨_,f,_,a2,_⟩:=hto;⟨f,a2⟩,.inr hto⟩
    ·rintro⟨_,h1,h2|h2⟩
     ·exact .inl ⟨h1,h2⟩
     ·exact .inr (to_ z h2).symm
   ·rw[to_ z hz]at h;obtain⟨_,f,_,a2,_⟩:=hz;obtain⟨q,i,_,hi⟩:=bU.1 a2;simp only at hi;rw[hi]at h;simp at h
  ·intro hk2;rw[ai,aT];refine⟨fun h=>(by cases h),fun _=>(ai _).2 (no fun⟨z,e',f,a1,_,a3,_⟩=>?_)⟩
   cases uA a1 hmem rfl;simp[a3]at hk2
 unfold fZ;rw[hyp,o8,hP,ζb,aT];rw[hyp]at j;constructor
 ·intro h;have h:y.index<len P.events:=by simpa using h
  have hk2:k+1<P.events.l.length:=by rw[hyi]at h;simp[len]at h;omega
  refine j _ (by simp[Sl.l]) fun z=>?_
  have hw:IntKind.wrap .i64 (y.index+1)=y.index+1:=mw _ (by omega) (by omega)
  simp only[Sl.l,List.mem_singleton,hw];refine⟨fun hz=>⟨⟨P.events.l[k+1],bU.2 ⟨p,k+1,⟨P,hP,ζd hk2⟩,?_⟩⟩,hz⟩,fun hz=>hz.2⟩
  rw[hz,hyi];simp
 ·intro h;have h:¬y.index<len P.events:=by simpa using h
  refine j _ (by simp[Sl.l]) fun z=>⟨fun hz=>by simp[Sl.l]at hz,fun⟨hz,he⟩=>?_⟩
  obtain⟨q,i,f,⟨Q,hQ,hi⟩,hqi,_⟩:=hz.at_;rw[he,hyi]at hqi;simp only[aa.mk.injEq]at hqi;have:q=p:=by omega
  subst this;rw[hP]at hQ;cases hQ;have:=(ζe.1 hi).1;rw[hyi]at h;simp[len]at h;omega
structure Cr (t:Trace) (x:aa) (rest:Sl aa) (m:Mo aa Bool) (U:aa→Prop):Prop where
 rst:∀y∈rest.l,y=x∨Way t x y
 keys:(m.map (·.1)).Nodup
 seen:∀y∈m,Way t x y.1∧y.1≠x∧y.2=true
 le:rest.l.length≤m.length+1
 done:∀y,y=x∨y∈m.map (·.1)→y∈rest.l∨U y∨∀z,Edge t y z→z∈m.map (·.1)
theorem Cr.count {t:Trace} {x:aa} {rest:Sl aa} {m:Mo aa Bool} {U:aa→Prop} (h:Cr t x rest m U):m.length≤(aN t).length:=by
 have:=yu (r:=(aN t).map (·.1)) h.keys fun x hx=>by
  obtain⟨y,hy,rfl⟩:=List.mem_map.1 hx;obtain⟨e,he⟩:=(h.seen y hy).1.r;exact List.mem_map.2 ⟨_,he,rfl⟩
 simpa using this
theorem IE {t:Trace} (hS:Small t) (hN:(aN t).length<1073741824) (hF:∀x∈aN t,fU t.procs.l.length x.1.proc x.2) {A:bp 200 aH} (hA:eT t (aN t) A):Wp (dJ t A) fun r=>(r.2=true↔EW t):=by
 unfold dJ fT;rw[ζb];unfold dJ.E1;rw[oK hS,ζb];refine uj (fun k _=>∀x∈(aN t).take k,¬Way t x.1 x.1) (by simp) ?_ fun _ h=>(ai _).2 ⟨fun h=>(by cases h),fun⟨x,hx⟩=>?_⟩
 ·intro i x _ hx hall;have hxm:x∈aN t:=List.mem_of_getElem? hx;unfold dJ.mJ dJ.W2;refine Wp.mono (P:=fun w=>match w with|.n s=>¬Way t x.1 x.1|.x e=>False|.r e=>EW t) ?_ fun w hw=>by
   cases w with
   | n s=>
    intro y hy;rw[List.take_add_one,hx]at hy;rcases List.mem_append.1 hy with hy|hy
    ·exact hall y hy
    ·simp at hy;subst hy;exact hw
   | x e=>exact hw.elim
   | r b=>exact(ai _).2 ⟨fun _=>hw,fun _=>rfl⟩
  refine c6 (fun q:Sl aa×Mo aa Bool=>Cr t x.1 q.1 q.2 fun _=>False) (fun q=>2*((aN t).length-q.2.length)+q.1.l.length) ⟨fun y hy=>.inl (by simpa [Sl.l]using hy),by simp,by simp,by simp[Sl.l],fun y hy=>.inl ?_⟩ ?_
  ·simpa [Sl.l]using hy
  rintro⟨rest,m⟩ hI;unfold dJ.bl;rw[aT];refine⟨fun h=>?_,fun h=>(ai _).2 ((ai _).2 fun hw=>?_)⟩
  ·have hlen:0<rest.l.length:=by
    have:len rest>0:=by simpa using h
    simp[len]at this;omega
   have hc:=hI.count;have hle:=hI.le;simp only at hc hle;have hw:IntKind.wrap .i64 ((len rest)-1)=((rest.l.length-1:Nat):Int):=by
    rw[mw _ (by simp[len];omega) (by simp[len];omega)];simp[len];omega
   have hlast:rest.l.length-1<rest.l.length:=by omega
   rw[hw];have h1:Sl.pz rest ((rest.l.length-1:Nat):Int)=some (rest.l.length-1):=by
    unfold Sl.pz;rw[if_pos ⟨by omega,by simpa using hlast⟩];rfl
   have h2:Sl.get rest (rest.l.length-1)=some rest.l[rest.l.length-1]:=by unfold Sl.get;exact ζd hlast
   obtain⟨cut,h3,h4⟩:∃x,kV rest none (some ((rest.l.length-1:Nat):Int))=some x∧x.l=rest.l.take (rest.l.length-1):=by
    cases rest with
    | nil=>simp[Sl.l]at hlen
    | emp=>simp[Sl.l]at hlen
    | row l=>
     simp only[Sl.l]at hlen ⊢;unfold kV cE;simp only[Option.getD_none,Option.getD_some];rw[if_pos (by omega)]
     exact⟨_,rfl,by simp[Sl.l]⟩
    | part l=>
     simp only[Sl.l]at hlen ⊢;unfold kV cE;simp only[Option.getD_none,Option.getD_some];rw[if_pos (by omega)]
     exact⟨_,rfl,by simp[Sl.l]⟩
   rw[h1,ζb,h2,ζb,h3,ζb,dQ];generalize hye:rest.l[rest.l.length-1]=y;have hym:y∈rest.l:=hye▸List.getElem_mem hlast;have hsplit:∀z,z∈rest.l→z∈cut.l∨z=y:=fun z hz=>by
    have:rest.l.take (rest.l.length-1)++rest.l.drop (rest.l.length-1)=rest.l:=List.take_append_drop ..;rw[←this]at hz;rcases List.mem_append.1 hz with hz|hz
    ·exact .inl (h4▸hz)
    ·rw[List.drop_eq_getElem_cons hlast,List.drop_of_length_le (by omega)]at hz
     exact .inr (by simpa [hye]using hz)
   have hyw:y=x.1∨Way t x.1 y:=hI.rst _ hym;have hyv:Vd t y:=hyw.elim (fun e=>⟨x.2,e▸hxm⟩) Way.r
   refine(JO hS hF hA hyv).mono fun s hs=>?_
   unfold dJ.W3;refine c6 (fun q:Sl aa×Int×Mo aa Bool=>∃n:Nat,q.2.1=n∧n≤s.l.length∧Cr t x.1 q.1 q.2.2 (fun u=>u=y)∧(∀z∈s.l.take n,z∈q.2.2.map (·.1))∧2*((aN t).length-q.2.2.length)+q.1.l.length<2*((aN t).length-m.length)+rest.l.length) (fun q=>s.l.length-q.2.1.toNat)
    ⟨0,rfl,Nat.zero_le _,⟨fun z hz=>hI.rst z (by rw[h4]at hz;exact List.mem_of_mem_take hz),hI.keys,hI.seen,by rw[h4];simp;omega,fun u hu=>?_⟩,by simp,by rw[h4];simp;omega⟩ ?_
   ·rcases hI.done u hu with h|h|h
    ·exact(hsplit u h).imp_right .inl
    ·exact h.elim
    ·exact .inr (.inr h)
   rintro⟨rest2,i2,m2⟩ ⟨n,rfl,hn,hI2,hms,hμ⟩;simp only at hI2 hμ hms;unfold dJ.dI;rw[aT];constructor
   ·intro h;have hlt:n<s.l.length:=by simpa [len]using h
    have hxe:=(hs.2 s.l[n]).1 (List.getElem_mem hlt);have hxw:Way t x.1 s.l[n]:=hyw.elim (fun e=>.single (e▸hxe)) fun h=>.tail h hxe
    rw[aQ hlt,ζb,aT];refine⟨fun he=>(ai _).2 ((ai _).2 ((ai _).2 ⟨x.1,?_⟩)),fun hne=>?_⟩
    ·have:s.l[n]=x.1:=by
      unfold FB at he
      revert he;cases s.l[n];cases x.1;intro he;simpa using he
     rw[this]at hxw;exact hxw
    have hne:s.l[n]≠x.1:=fun e=>by rw[e]at hne;simp[FB]at hne
    have hw2:=bW n (by omega)
    have htk:s.l.take (n+1)=s.l.take n++[s.l[n]]:=by rw[List.take_add_one,ζd hlt];rfl
    rw[aT];refine⟨fun hg=>(ai _).2 ⟨⟨n+1,hw2,by omega,hI2,fun z hz=>?_,hμ⟩,by show _-(IntKind.wrap .i64 ((n:Int)+1)).toNat<_;rw[hw2];simp;omega⟩,fun hno=>?_⟩
    ·rw[htk]at hz;rcases List.mem_append.1 hz with hz|hz
     ·exact hms z hz
     ·simp only[List.mem_singleton]at hz;subst hz;apply Classical.byContradiction;intro hk;unfold Ay at hg;rw[zh hk]at hg;cases hg
    have hc2:=hI2.count;have hle2:=hI2.le;unfold kH;rw[if_pos (show rest2.l.length+1≤2147483648 from by omega),ζb,ai]
    have hnew:s.l[n]∉m2.map (·.1):=fun hin=>by
     obtain⟨v,hv,hvm⟩:=Bq hin;have:=(hI2.seen _ hvm).2.2;simp only at this;subst this;unfold Ay at hno;rw[hv]at hno;cases hno
    have hmm:∀z,z∈(nH m2 s.l[n] true).map (·.1)↔z∈m2.map (·.1)∨z=s.l[n]:=fun z=>by
     rw[nK hnew,List.map_append,List.mem_append];simp
    have hS2:Cr t x.1 (.row (rest2.l++[s.l[n]])) (nH m2 s.l[n] true) (fun u=>u=y):=by
     refine⟨fun y hy=>?_,?_,fun y hy=>?_,?_,fun u hu=>?_⟩
     ·simp only[Sl.l,List.mem_append,List.mem_singleton]at hy;rcases hy with hy|rfl
      ·exact hI2.rst y hy
      ·exact .inr hxw
     ·rw[nK hnew,List.map_append,List.nodup_append];refine⟨hI2.keys,by simp,fun a ha b hb=>?_⟩
      simp only[List.map_cons,List.map_nil,List.mem_singleton]at hb;subst hb;exact fun e=>hnew (e▸ha)
     ·rw[nK hnew]at hy;rcases List.mem_append.1 hy with hy|hy
      ·exact hI2.seen y hy
      ·simp only[List.mem_singleton]at hy;subst hy;exact⟨hxw,hne,rfl⟩
     ·rw[nK hnew];show (rest2.l++[s.l[n]]).length≤_;rw[ζi,ζi,List.length_singleton,List.length_singleton];omega
     ·simp only[Sl.l,List.mem_append,List.mem_singleton];have old:u=x.1∨u∈m2.map (·.1)→(u∈rest2.l∨u=s.l[n])∨u=y∨∀z,Edge t u z→z∈(nH m2 s.l[n] true).map (·.1):=fun hu=>by
       rcases hI2.done u hu with h|h|h
       ·exact .inl (.inl h)
       ·exact .inr (.inl h)
       ·exact .inr (.inr fun z hz=>(hmm z).2 (.inl (h z hz)))
      rcases hu with hu|hu
      ·exact old (.inl hu)
      ·rcases (hmm u).1 hu with hu|hu
       ·exact old (.inr hu)
       ·exact .inl (.inr hu)
    have hc3:=hS2.count;refine⟨⟨n+1,hw2,by omega,hS2,fun z hz=>?_,?_⟩,by show _-(IntKind.wrap .i64 ((n:Int)+1)).toNat<_;rw[hw2];simp;omega⟩
    ·rw[htk]at hz;rcases List.mem_append.1 hz with hz|hz
     ·exact(hmm z).2 (.inl (hms z hz))
     ·exact(hmm z).2 (.inr (by simpa using hz))
    rw[nK hnew,ζi,List.length_singleton]at hc3;show 2*((aN t).length-(nH m2 s.l[n] true).length)+(rest2.l++[s.l[n]]).length<_;rw[nK hnew,ζi,ζi,List.length_singleton,List.length_singleton];omega
   ·intro h;have hge:s.l.length≤n:=by simpa [len]using h
    rw[List.take_of_length_le hge]at hms;refine(ai _).2 ((ai _).2 ⟨⟨hI2.rst,hI2.keys,hI2.seen,hI2.le,fun u hu=>?_⟩,hμ⟩)
    rcases hI2.done u hu with h|h|h
    ·exact .inl h
    ·subst h;exact .inr (.inr fun z hz=>hms z ((hs.2 z).2 hz))
    ·exact .inr (.inr h)
  ·have hr0:rest.l=[]:=by
    have:¬len rest>0:=by simpa using h
    simp[len]at this;exact this
   have hd:∀y,y=x.1∨y∈m.map (·.1)→∀z,Edge t y z→z∈m.map (·.1):=fun y hy=>by
    rcases hI.done y hy with h|h|h
    ·simp only[hr0]at h;cases h
    ·exact h.elim
    ·exact h
   have key:∀z,Way t x.1 z→z∈m.map (·.1):=fun z hz=>by
    induction hz with
    | single h=>exact hd _ (.inl rfl) _ h
    | tail _ h ih=>exact hd _ (.inr ih) _ h
   obtain⟨y,hy,hyx⟩:=List.mem_map.1 (key _ hw);exact(hI.seen y hy).2.1 hyx
 ·obtain⟨e,he⟩:=hx.l;rw[List.take_length]at h;exact absurd hx (h _ he)
structure Ok (t:Trace):Prop where
 one:1≤t.procs.l.length
 few:t.procs.l.length≤8
 heads:∀p,p<t.procs.l.length→om t p=0
 eD:∀(p k:Nat) P e,t.procs.l[p]? = some P→P.events.l[k]? = some e→lK t.procs.l.length P p k e=0
 vR:uo t
 acyc:¬EW t
theorem BM {t:Trace} (h:∀(p k:Nat) P e,t.procs.l[p]? = some P→P.events.l[k]? = some e→lK t.procs.l.length P p k e=0):∀x∈aN t,fU t.procs.l.length x.1.proc x.2:=fun x hx=>by
 obtain⟨p,k,⟨P,hP,he⟩,hid⟩:=bU.1 hx;rw[hid];exact DZ (h p k P _ hP he)
structure VT (t:Trace):Prop where
 formed:∀x∈aN t,fU t.procs.l.length x.1.proc x.2
 msgs:∃A i,cV t=some (some A,i,0)∧eT t (aN t) A
 few:t.procs.l.length≤8
 ok:Ok t
theorem JX {t:Trace} (hS:Small t) (hN:(aN t).length<1073741824):Wp (eO t) fun r=>(r.2=0→VT t)∧(Ok t→r.2=0):=by
 unfold eO;rw[gD,ζb,aT];refine⟨fun hin=>?_,fun hin=>(ai _).2 ⟨fun h=>(by cases h),fun h=>?_⟩⟩
 rotate_left
 ·have h1:=h.one;have h8:=h.few;simp only[Bool.and_eq_false_iff,decide_eq_false_iff_not,len]at hin;omega
 have h8:1≤t.procs.l.length∧t.procs.l.length≤8:=by
  simp only[ζh,decide_eq_true_eq,len]at hin;omega
 unfold eO.W1;refine c6 (fun i:Int=>∃n:Nat,i=n∧n≤t.procs.l.length∧∀p,p<n→om t p=0) (fun i:Int=>t.procs.l.length-i.toNat) ⟨0,rfl,Nat.zero_le _,fun p hp=>absurd hp (by omega)⟩ ?_
 rintro i ⟨n,rfl,hn,hh⟩;unfold eO.aG;rw[aT];constructor
 ·intro h;have hlt:n<t.procs.l.length:=by simpa [len]using h
  rw[Ko hS hlt,ζb,aT];refine⟨fun h0=>(ai _).2 ⟨⟨n+1,bW n (by omega),by omega,fun p hp=>?_⟩,by rw[bW n (by omega)];simp;omega⟩,fun h0=>(ai _).2 ((ai _).2 ⟨fun h=>?_,fun h=>?_⟩)⟩
  ·by_cases e:p=n
   ·subst e;simpa using h0
   ·exact hh p (by omega)
  ·simp only at h;simp[h]at h0
  ·simp[h.heads n hlt]at h0
 ·intro h;have hge:t.procs.l.length≤n:=by simpa [len]using h
  rw[ai];unfold fT;rw[ζb];unfold eO.E2;rw[oK hS,ζb];refine uj (fun i _=>∀(p k:Nat) P e,t.procs.l[p]? = some P→P.events.l[k]? = some e→(⟨p,k+1⟩,e)∈(aN t).take i→lK t.procs.l.length P p k e=0) (by simp) ?_ ?_
  ·intro i x _ hx hI;have hxm:x∈aN t:=List.mem_of_getElem? hx;obtain⟨p,j,⟨P,hP,he⟩,hid⟩:=bU.1 hxm;unfold eO.EV;rw[hid,IA hS hP he,ζb,aT];refine⟨fun h0=>(ai _).2 fun p' k' P' e' hP' he' hm=>?_,fun h0=>(ai _).2 ((ai _).2 ⟨fun h=>?_,fun h=>?_⟩)⟩
   ·rw[List.take_add_one,hx]at hm;rcases List.mem_append.1 hm with hm|hm
    ·exact hI p' k' P' e' hP' he' hm
    ·simp only[Option.toList_some,List.mem_singleton]at hm;rw[←hm]at hid he;simp only[aa.mk.injEq]at hid;have e1:p'=p:=by omega
     have e2:k'=j:=by omega
     subst e1 e2;rw[hP']at hP;cases hP;rw[←hm]at h0;simpa using h0
   ·simp only at h;simp[h]at h0
   ·simp[h.eD p j P _ hP he]at h0
  ·intro _ hI;have hI:∀(p k:Nat) P e,t.procs.l[p]? = some P→P.events.l[k]? = some e→lK t.procs.l.length P p k e=0:=fun p k P e hP he=>hI p k P e hP he (by rw[List.take_length];exact bU.2 ⟨p,k,⟨P,hP,he⟩,rfl⟩)
   have hF:=BM hI;obtain⟨r,hr,hq,hq2⟩:=zd hS hF;rw[hr,ζb,aT];refine⟨fun h0=>?_,fun h0=>(ai _).2 ⟨fun h=>?_,fun h=>hq2 h.vR⟩⟩
   ·have h0:r.2.2=0:=by simpa using h0
    obtain⟨A,hA,hM⟩:=hq h0;rw[hA,ζb];obtain⟨c,hc,hcc⟩:=IE hS hN hF hM;rw[hc,ζb,aT];refine⟨fun hb=>(ai _).2 ⟨fun h=>(by cases h),fun h=>absurd (hcc.1 hb) h.acyc⟩,fun hb=>(ai _).2 ⟨fun _=>?_,fun _=>rfl⟩⟩
    exact⟨hF,⟨A,r.2.1,by rw[hr];obtain⟨r1,r2,r3⟩:=r;simp only at hA h0;rw[hA,h0],hM⟩,h8.2,h8.1,h8.2,fun p hp=>hh p (by omega),hI,hM.vR,fun hc=>by rw[hcc.2 hc]at hb;cases hb⟩
   ·simp only at h;simp[h]at h0
theorem Lu {t:Trace} (hS:Small t) (hN:(aN t).length<1073741824):Wp (cT t) fun b=>(b=true→VT t)∧(Ok t→b=true):=by
 unfold cT;rw[dQ];exact(JX hS hN).mono fun r hr=>(ai _).2 ⟨fun h=>hr.1 (by simpa using h),fun h=>by simpa using hr.2 h⟩
end Go.VE
namespace Go.VE
def mY (f:Event→Bool):Int→List Event→List Int
 | _,[]=>[]
 | j,e::r=>if f e then(j+1)::mY f (j+1) r else mY f (j+1) r
theorem LD (f:Event→Bool) (e:Event):∀(l:List Event) (j:Int),mY f j (l++[e])=mY f j l++(if f e then [j+l.length+1]else [])
 | [],j=>by simp[mY]
 | x::l,j=>by
  simp only[List.cons_append,mY,LD f e l (j+1),List.length_cons];split <;> simp <;> split <;> simp <;> omega
theorem O5 (f:Event→Bool):∀(l:List Event) (j:Int),(mY f j l).length≤l.length
 | [],_=>Nat.le_refl _
 | x::l,j=>by
  have:=O5 f l (j+1);simp only[mY];split <;> simp only[List.length_cons] <;> omega
theorem Ak (f:Event→Bool):∀(l:List Event) (j:Int) (a:Int),a∈mY f j l→j<a
 | x::l,j,a,h=>by
  simp only[mY]at h;split at h
  ·rcases List.mem_cons.1 h with rfl|h
   ·omega
   ·have:=Ak f l (j+1) a h;omega
  ·have:=Ak f l (j+1) a h;omega
theorem Cm (f:Event→Bool):∀(l:List Event) (j:Int),Up (mY f j l)
 | [],_=>fun i k a b _ h=>by simp[mY]at h
 | x::l,j=>by
  intro i k a b hik ha hb;simp only[mY]at ha hb;split at ha
  ·rename_i hf;rw[if_pos hf]at hb
   cases k with
   | zero=>omega
   | succ k=>
    simp only[List.getElem?_cons_succ]at hb
    cases i with
    | zero=>
     simp only[List.getElem?_cons_zero,ζa]at ha;subst ha;exact Ak f l (j+1) b (List.mem_of_getElem? hb)
    | succ i=>
     simp only[List.getElem?_cons_succ]at ha;exact Cm f l (j+1) i k a b (by omega) ha hb
  ·rename_i hf;rw[if_neg hf]at hb;exact Cm f l (j+1) i k a b hik ha hb
theorem wh (f:Event→Bool):∀(l:List Event) (j:Int) (x:Nat),(mY f j l).countP (fun a=>decide (a≤j+x))=(l.take x).countP f
 | [],j,x=>by simp[mY]
 | e::l,j,0=>by
  rw[List.take_zero,List.countP_nil,List.countP_eq_zero];intro a ha;have:=Ak f (e::l) j a ha;simp;omega
 | e::l,j,x+1=>by
  have ih:=wh f l (j+1) x;rw[show j+1+(x:Int)=j+((x+1:Nat):Int)from by push_cast;omega]at ih
  simp only[mY,List.take_succ_cons,List.countP_cons];split
  ·rename_i hf;rw[List.countP_cons,ih];simp;omega
  ·rename_i hf;rw[ih];simp
def jH (q:Int) (e:Event):Bool:=e.kind==2&&e.peer==q
def kg (p:Int) (e:Event):Bool:=e.kind==3&&e.peer==p
end Go.VE
namespace Go.VE
def under (t:Trace) (c:List Int) (p q:Nat):Int:=match t.procs.l[p]?,t.procs.l[q]?,c[p]?,c[q]? with
 | some P,some Q,some a,some b=>((P.events.l.take a.toNat).countP (jH q):Int)-((Q.events.l.take b.toNat).countP (kg p):Int)
 | _,_,_,_=>0
end Go.VE
namespace Go.VE
theorem IL {t:Trace} (hS:Small t) (hv:cT t=some true) {A:bp 200 aH} (hM:eT t (aN t) A) {x:aa×Event} (hx:x∈aN t) (hk:x.2.kind=2):oJ t x.2.message=some (x.1,true):=by
 refine Wp.eq ?_;unfold oJ fI;rw[hv,ζb,a_];unfold fT;rw[ζb];unfold fI.E1;rw[oK hS,ζb,dQ];refine uj (fun k _=>∀y∈(aN t).take k,¬(y.2.kind=2∧y.2.message=x.2.message)) (by simp) ?_ ?_
 ·intro k y _ hy hI;have hym:y∈aN t:=List.mem_of_getElem? hy;unfold fI.mJ;rw[fP,ζb,aT];constructor
  ·intro hc;have hc:y.2.kind=2∧y.2.message=x.2.message:=by simpa using hc
   refine(ai _).2 ((ai _).2 ((ai _).2 ?_));have h1:=hM.snd y hym hc.1;have h2:=hM.snd x hx hk;rw[hc.2,h2]at h1;rw[h1]
  ·intro hc;have hc:¬(y.2.kind=2∧y.2.message=x.2.message):=by
    intro h;rw[h.1,h.2]at hc;simp at hc
   rw[ai];intro z hz;rw[List.take_add_one,hy]at hz;rcases List.mem_append.1 hz with hz|hz
   ·exact hI z hz
   ·simp at hz;subst hz;exact hc
 ·intro _ hI;rw[List.take_length]at hI;exact absurd ⟨hk,rfl⟩ (hI x hx)
def jY (t:Trace) (c:List Int):Prop:=c.length=t.procs.l.length∧∀(p:Nat) (a:Int) (P:bq),c[p]? = some a→t.procs.l[p]? = some P→0≤a∧a≤P.events.l.length
def iM (t:Trace) (A:bp 200 aH) (c:List Int):Prop:=∀(p k:Nat) (e:Event) (a:Int),gY t p k e→c[p]? = some a→(k:Int)<a→e.kind=3→∃b,c[(ag A e.message).from_.proc.toNat]? = some b∧(ag A e.message).from_.index≤b
theorem pT {t:Trace} (hV:VT t) {A:bp 200 aH} (hM:eT t (aN t) A) {p k:Nat} {e:Event} (he:gY t p k e) (hk:e.kind=3) :
 ∃(q j:Nat) (y:Event),gY t q j y∧y.kind=2∧y.message=e.message∧y.peer=p∧e.peer=q∧(ag A e.message).from_=⟨q,j+1⟩:=by
 have hmem:((⟨p,k+1⟩:aa),e)∈aN t:=bU.2 ⟨p,k,he,rfl⟩;have hs:=(hM.rcv _ hmem hk).2;have hf:=hV.formed _ hmem;simp only at hs hf;have hpeer:0≤e.peer:=by
  rcases hf with h|⟨_,h,_⟩
  ·omega
  ·exact h
 obtain⟨q,hq⟩:∃q:Nat,e.peer=q:=⟨e.peer.toNat,by omega⟩
 rw[hq]at hs;obtain⟨j,y,hat,h1,h2,h3⟩:=rJ.1 hs;have:=hM.snd (⟨q,j+1⟩,y) (bU.2 ⟨q,j,hat,rfl⟩) h1;simp only at this;rw[h2]at this;exact⟨q,j,y,hat,h1,h2,h3,hq,this⟩
def YB (t:Trace) (A:bp 200 aH) (c:List Int) (s:aa):Prop:=∃(p k:Nat) (e:Event) (a:Int) (q j:Nat) (y:Event) (b:Int),gY t p k e∧c[p]? = some a∧(k:Int)<a∧e.kind=3∧(ag A e.message).from_=s∧s=⟨q,j+1⟩∧gY t q j y∧c[q]? = some b∧b<(j:Int)+1
theorem MT {t:Trace} (hS:Small t) (hv:cT t=some true) (hV:VT t) {A:bp 200 aH} (hM:eT t (aN t) A) {c:Sl Int} (hR:jY t c.l):Wp (eP t c) fun r=>(r.2.2=false→iM t A c.l)∧(r.2.2=true→YB t A c.l r.1):=by
 have hn8:=hV.few;unfold eP eP.W1;refine c6 (fun s:Int=>∃n:Nat,s=n∧n≤c.l.length∧∀(p k:Nat) (e:Event) (a:Int),p<n→gY t p k e→c.l[p]? = some a→(k:Int)<a→e.kind=3→∃b,c.l[(ag A e.message).from_.proc.toNat]? = some b∧(ag A e.message).from_.index≤b) (fun s:Int=>c.l.length-s.toNat) ⟨0,rfl,Nat.zero_le _,fun p k e a h=>absurd h (by omega)⟩ ?_
 rintro s ⟨n,rfl,hn,hI⟩;have hcl:=hR.1;unfold eP.aG;rw[aT];constructor
 ·intro h;have hlt:n<c.l.length:=by simpa [len]using h
  have hlt2:n<t.procs.l.length:=by omega
  have hP:=(hS.2 _ (List.getElem_mem hlt2)).1;obtain⟨r1,r2⟩:=hR.2 n _ _ (ζd hlt) (ζd hlt2);rw[aQ hlt,ζb,aQ hlt2,ζb];obtain⟨y,hy,hyl⟩:=lP t.procs.l[n].events c.l[n].toNat (by omega)
  rw[show ((c.l[n].toNat:Nat):Int)=c.l[n]from by omega]at hy
  rw[hy,ζb];unfold eP.W2;refine c6 (fun s:Int=>∃m:Nat,s=m∧m≤y.l.length∧∀(k:Nat) (e:Event),k<m→gY t n k e→e.kind=3→∃b,c.l[(ag A e.message).from_.proc.toNat]? = some b∧(ag A e.message).from_.index≤b) (fun s:Int=>y.l.length-s.toNat) ⟨0,rfl,Nat.zero_le _,fun k e h=>absurd h (by omega)⟩ ?_
  rintro s ⟨m,rfl,hm,hJ⟩;have hyl2:y.l.length=c.l[n].toNat:=by rw[hyl,List.length_take];omega
  unfold eP.bl;rw[aT];constructor
  ·intro h;have hltm:m<y.l.length:=by simpa [len]using h
   have hwm:=bW m (by omega)
   have hmu:y.l.length-(IntKind.wrap .i64 ((m:Int)+1)).toNat<y.l.length-((m:Int)).toNat:=by rw[hwm];simp;omega
   have hg:y.l[m]? = t.procs.l[n].events.l[m]? := by rw[hyl,List.getElem?_take,if_pos (show m<c.l[n].toNat from by omega)]
   have hat:gY t n m y.l[m]:=⟨_,ζd hlt2,by rw[←hg];exact ζd hltm⟩
   rw[aQ hltm,ζb];generalize y.l[m]=e at hat;rw[aT];constructor
   ·intro hk;have hk:e.kind=3:=by simpa using hk
    obtain⟨q,j,z,hz,z1,z2,z3,z4,z5⟩:=pT hV hM hat hk;have hsd:=IL hS hv hM (x:=(⟨q,j+1⟩,z)) (bU.2 ⟨q,j,hz,rfl⟩) z1;simp only at hsd;rw[z2]at hsd;have hzq:=hz;obtain⟨Q,hQ,_⟩:=hz;have hql:q<c.l.length:=by have:=(ζe.1 hQ).1;omega
    rw[hsd,ζb];simp only;rw[aQ hql,ζb,aT];constructor
    ·intro hgt;have hgt:(j:Int)+1>c.l[q]:=by simpa using hgt
     exact(ai _).2 ((ai _).2 ((ai _).2 ⟨fun h=>(by cases h),fun _=>⟨n,m,e,c.l[n],q,j,z,c.l[q],hat,ζd hlt,by omega,hk,z5,rfl,hzq,ζd hql,by omega⟩⟩))
    ·intro hle;have hle:¬((j:Int)+1>c.l[q]):=by simpa using hle
     refine(ai _).2 ⟨⟨m+1,hwm,by omega,fun k e' hk' hat' he'=>?_⟩,hmu⟩
     by_cases ek:k=m
     ·subst ek;have:e'=e:=by
       obtain⟨P1,a1,a2⟩:=hat;obtain⟨P2,b1,b2⟩:=hat';rw[a1]at b1;cases b1;rw[a2]at b2;cases b2;rfl
      subst this;rw[z5];exact⟨c.l[q],by simp only[Int.toNat_natCast];exact ζd hql,by simp only;omega⟩
     ·exact hJ k e' (by omega) hat' he'
   ·intro hk;have hk:¬e.kind=3:=by simpa using hk
    refine(ai _).2 ⟨⟨m+1,hwm,by omega,fun k e' hk' hat' he'=>?_⟩,hmu⟩
    by_cases ek:k=m
    ·subst ek;have:e'=e:=by
      obtain⟨P1,a1,a2⟩:=hat;obtain⟨P2,b1,b2⟩:=hat';rw[a1]at b1;cases b1;rw[a2]at b2;cases b2;rfl
     subst this;exact absurd he' hk
    ·exact hJ k e' (by omega) hat' he'
  ·intro h;have hge:y.l.length≤m:=by simpa [len]using h
   have hwn:=bW n (by omega)
   refine(ai _).2 ((ai _).2 ⟨⟨n+1,hwn,by omega,fun p k e a hp hat ha hka he=>?_⟩,by show _-(IntKind.wrap .i64 ((n:Int)+1)).toNat<_;rw[hwn];simp;omega⟩)
   by_cases ep:p=n
   ·subst ep;rw[ζd hlt]at ha;cases ha;exact hJ k e (by omega) hat he
   ·exact hI p k e a (by omega) hat ha hka he
 ·intro h;have hge:c.l.length≤n:=by simpa [len]using h
  refine(ai _).2 ((ai _).2 ⟨fun _ p k e a hat ha hka he=>hI p k e a (by have:=(ζe.1 ha).1;omega) hat ha hka he,fun h=>(by cases h)⟩)
theorem zw {t:Trace} (hS:Small t) (hv:cT t=some true) (hV:VT t) {A:bp 200 aH} (hM:eT t (aN t) A) {c:Sl Int} (hR:jY t c.l):Wp (eP t c) fun r=>(r.2.2=false↔iM t A c.l):=by
 refine(MT hS hv hV hM hR).mono fun r hr=>⟨hr.1,fun hC=>?_⟩
 cases h:r.2.2 with
 | false=>rfl
 | true=>
  obtain⟨p,k,e,a,q,j,y,b,h1,h2,h3,h4,h5,h6,_,h7,h8⟩:=hr.2 h;obtain⟨b',g1,g2⟩:=hC p k e a h1 h2 h3 h4;rw[h5,h6]at g1 g2;simp only[Int.toNat_natCast]at g1 g2;rw[h7]at g1;cases g1;omega
end Go.VE
namespace Go.VE
theorem sw {s:Sl (Sl Int)} {p:Sl Int→Option Bool} {f:Sl Int→Bool} (hp:∀x∈s.l,p x=some (f x)) (hl:s.l.length<1073741824):fA s p=some (s.l.any f):=by
 have h:dY s p=some (place f s.l):=od hp (by omega) (fun i=>rfl)
 unfold fA;rw[h,ζb,nZ]
theorem zu {t:Trace} (hS:Small t) {c:Sl Int} (hcl:c.l.length=t.procs.l.length):Wp (gE t c) fun b=>(b=true↔jY t c.l):=by
 have h1:=hS.1;unfold gE gE.W1;refine c6 (fun s:Int=>∃n:Nat,s=n∧n≤c.l.length∧∀(p:Nat) (a:Int) (P:bq),p<n→c.l[p]? = some a→t.procs.l[p]? = some P→0≤a∧a≤P.events.l.length) (fun s:Int=>c.l.length-s.toNat) ⟨0,rfl,Nat.zero_le _,fun p a P h=>absurd h (by omega)⟩ ?_
 rintro s ⟨n,rfl,hn,hI⟩;unfold gE.aG;rw[aT];constructor
 ·intro h;have hlt:n<c.l.length:=by simpa [len]using h
  have hlt2:n<t.procs.l.length:=by omega
  have hw:=bW n (by omega)
  rw[aQ hlt,ζb,aQ hlt2,ζb,eW,ζb,aT];constructor
  ·intro hb;have hb:c.l[n]<0∨c.l[n]>t.procs.l[n].events.l.length:=by simpa [len]using hb
   refine(ai _).2 ((ai _).2 ⟨fun h=>(by cases h),fun hR=>?_⟩)
   have:=hR.2 n _ _ (ζd hlt) (ζd hlt2);omega
  ·intro hb;have hb:0≤c.l[n]∧c.l[n]≤t.procs.l[n].events.l.length:=by simpa [len]using hb
   refine(ai _).2 ⟨⟨n+1,hw,by omega,fun p a P hp ha hP=>?_⟩,by rw[hw];simp;omega⟩
   by_cases e:p=n
   ·subst e;rw[ζd hlt]at ha;cases ha;rw[ζd hlt2]at hP;cases hP;exact hb
   ·exact hI p a P (by omega) ha hP
 ·intro h;have hge:c.l.length≤n:=by simpa [len]using h
  refine(ai _).2 ((ai _).2 ⟨fun _=>⟨hcl,fun p a P ha hP=>hI p a P (by have:=(ζe.1 ha).1;omega) ha hP⟩,fun _=>rfl⟩)
def Code (t:Trace) (A:bp 200 aH) (c:List Int) (r:Int):Prop:=c.length≠t.procs.l.length∧r=1∨c.length=t.procs.l.length∧¬jY t c∧r=2∨jY t c∧¬iM t A c∧r=18∨jY t c∧iM t A c∧r=0
theorem SH {t:Trace} (hS:Small t) (hv:cT t=some true) (hV:VT t) {A:bp 200 aH} (hM:eT t (aN t) A) (c:Sl Int) :
 Wp (bT t (Sl.row [c]:Sl (Sl Int)) (Sl.nil:Sl Int)) fun r=>Code t A c.l r:=by
 unfold bT tw;rw[hv,ζb,a_,sw (f:=fun z=>(gG z t).getD false) (fun z _=>mO.ok ((ai _).2 trivial)) (by simp[Sl.l]),ζb,ζb,ζb]
 have hany:(!((Sl.row [c]:Sl (Sl Int)).l.any fun z=>(gG z t).getD false))=(len c==len t.procs):=by
  simp[Sl.l,gG]
 rw[hany,aT];constructor
 ·intro h;have hcl:c.l.length=t.procs.l.length:=by
   have:(c.l.length:Int)=t.procs.l.length:=by simpa [len]using h
   omega
  unfold bT.W1;refine c6 (fun s:Int=>s=0∨s=1∧jY t c.l) (fun s:Int=>1-s.toNat) (.inl rfl) ?_
  intro s hs;unfold bT.aG;rcases hs with rfl|⟨rfl,hR⟩
  ·rw[show decide ((0:Int)<len (Sl.row [c]:Sl (Sl Int)))=true from rfl,a_,show idx (Sl.row [c]:Sl (Sl Int)) 0=some c from rfl,ζb,dQ];refine(zu hS hcl).mono fun b hb=>?_
   rw[aT];exact⟨fun hbt=>(ai _).2 ⟨.inr ⟨rfl,hb.1 hbt⟩,by decide⟩,fun hbf=>(ai _).2 ((ai _).2 (.inr (.inl ⟨hcl,fun h=>(by rw[hb.2 h]at hbf;cases hbf),rfl⟩)))⟩
  ·rw[show decide ((1:Int)<len (Sl.row [c]:Sl (Sl Int)))=false from rfl,bM,ai];show Wp (bT.W2 (Sl.row [c]) Sl.nil 0 0 t) _;unfold bT.W2;refine c6 (fun s:Int=>s=0) (fun _=>0) rfl ?_
   rintro s rfl;unfold bT.bl;rw[show decide ((0:Int)<0)=false from rfl,bM,ai];show Wp (bT.W3 (Sl.row [c]) 1 0 t) _;unfold bT.W3;refine c6 (fun s:Int=>s=0∨s=1∧iM t A c.l) (fun s:Int=>1-s.toNat) (.inl rfl) ?_
   intro s hs;unfold bT.dI;rcases hs with rfl|⟨rfl,hC⟩
   ·rw[show decide ((0:Int)<1)=true from rfl,a_,show idx (Sl.row [c]:Sl (Sl Int)) 0=some c from rfl,ζb];unfold rD;rw[dQ,dQ];refine(zw hS hv hV hM hR).mono fun r hr=>?_
    rw[ai,aT];exact⟨fun hb=>(ai _).2 ⟨.inr ⟨rfl,hr.1 (by simpa using hb)⟩,by decide⟩,fun hb=>(ai _).2 ((ai _).2 (.inr (.inr (.inl ⟨hR,fun h=>(by have:=hr.2 h;simp[this]at hb),rfl⟩))))⟩
   ·rw[show decide ((1:Int)<1)=false from rfl,bM,ai];exact(ai _).2 (.inr (.inr (.inr ⟨hR,hC,rfl⟩)))
 ·intro h;exact(ai _).2 (.inl ⟨fun e=>(by simp[len,e]at h),rfl⟩)
theorem Code.zero {t:Trace} {A:bp 200 aH} {c:List Int} {r:Int} (h:Code t A c r):r=0↔jY t c∧iM t A c:=by
 rcases h with⟨h,rfl⟩|⟨_,h,rfl⟩|⟨_,h,rfl⟩|⟨h1,h2,rfl⟩
 ·exact⟨fun h=>(by cases h),fun h'=>absurd h'.1.1 h⟩
 ·exact⟨fun h=>(by cases h),fun h'=>absurd h'.1 h⟩
 ·exact⟨fun h=>(by cases h),fun h'=>absurd h'.2 h⟩
 ·exact⟨fun _=>⟨h1,h2⟩,fun _=>rfl⟩
theorem Ki {t:Trace} (hS:Small t) (hv:cT t=some true) (hV:VT t) {A:bp 200 aH} (hM:eT t (aN t) A) (c:Sl Int) :
 Wp (bT t (Sl.row [c]:Sl (Sl Int)) (Sl.nil:Sl Int)) fun r=>(r=0↔jY t c.l∧iM t A c.l):=(SH hS hv hV hM c).mono fun _ h=>h.zero
def Cons (t:Trace) (A:bp 200 aH) (c:List Int):Prop:=jY t c∧iM t A c
end Go.VE
namespace Go.VE
def places {α:Type} (f:α→Bool) (l:List α):List Nat:=(List.range l.length).filter fun k=>match l[k]? with|some x=>f x|none=>false
theorem oN {α:Type} {f:α→Bool} {l:List α} {k:Nat}:k∈places f l↔∃x,l[k]? = some x∧f x=true:=by
 unfold places;rw[List.mem_filter,List.mem_range];constructor
 ·rintro⟨h1,h2⟩;rw[ζd h1]at h2;exact⟨_,ζd h1,h2⟩
 ·rintro⟨x,h1,h2⟩;exact⟨(ζe.1 h1).1,by rw[h1];exact h2⟩
theorem CE {α:Type} (f:α→Bool) (l:List α):(places f l).Nodup:=List.nodup_range.sublist (List.filter_sublist ..)
theorem zU {α:Type} (f:α→Bool):∀l:List α,(places f l).length=l.countP f:=by
 intro l;unfold places;rw[←List.countP_eq_length_filter]
 induction l with
 | nil=>rfl
 | cons x l ih=>
  rw[List.length_cons,List.range_succ_eq_map,List.countP_cons,List.countP_map,List.countP_cons];simp only[List.getElem?_cons_zero];rw[←ih]
  congr 1
theorem vJ {α β:Type} {f:α→Bool} {g:β→Bool} {l:List α} {m:List β} (φ:Nat→Nat) (h:∀k∈places f l,φ k∈places g m) (hi:∀k k',k∈places f l→k'∈places f l→φ k=φ k'→k=k'):l.countP f≤m.countP g:=by
 rw[←zU,←zU];have hn:((places f l).map φ).Nodup:=by
  unfold List.Nodup;rw[List.pairwise_map];exact List.Pairwise.imp_of_mem (fun {a b} ha hb hne he=>hne (hi a b ha hb he)) (CE f l)
 have:=yu (r:=places g m) hn fun x hx=>by
  obtain⟨k,hk,rfl⟩:=List.mem_map.1 hx;exact h k hk
 simpa using this
theorem Sm {t:Trace} (hV:VT t) {A:bp 200 aH} (hM:eT t (aN t) A) {c:List Int} (hC:Cons t A c) (p q:Nat):0≤under t c p q:=by
 unfold under;split
 ·rename_i P Q a b hP hQ ha hb;have hb0:=hC.1.2 q b Q hb hQ;have ha0:=hC.1.2 p a P ha hP;have key:(Q.events.l.take b.toNat).countP (kg p)≤(P.events.l.take a.toNat).countP (jH q):=by
   refine vJ (fun k=>match Q.events.l[k]? with|some e=>((ag A e.message).from_.index-1).toNat|none=>0) (fun k hk=>?_) (fun k k' hk hk' he=>?_)
   ·obtain⟨e,h1,h2⟩:=oN.1 hk;have hkb:k<b.toNat:=by
     have:=(ζe.1 h1).1;rw[List.length_take]at this;omega
    rw[List.getElem?_take,if_pos hkb]at h1;have h2:e.kind=3∧e.peer=p:=by simpa [kg]using h2
    have hat:gY t q k e:=⟨Q,hQ,h1⟩;obtain⟨q',j,y,hy,y1,y2,y3,y4,y5⟩:=pT hV hM hat h2.1;have hqp:q'=p:=by omega
    subst hqp;rw[h1];simp only[y5];obtain⟨P',hP',hj⟩:=hy;rw[hP]at hP';cases hP';obtain⟨x,hx1,hx2⟩:=hC.2 q k e b hat hb (by omega) h2.1
    rw[y5]at hx1 hx2;simp only[Int.toNat_natCast]at hx1 hx2;rw[ha]at hx1;cases hx1;rw[show ((j:Int)+1-1).toNat=j from by omega]
    refine oN.2 ⟨y,?_,by simp[jH,y1,y3]⟩
    rw[List.getElem?_take,if_pos (by omega)];exact hj
   ·obtain⟨e,h1,h2⟩:=oN.1 hk;obtain⟨e',h1',h2'⟩:=oN.1 hk';have hkb:k<b.toNat:=by
     have:=(ζe.1 h1).1;rw[List.length_take]at this;omega
    have hkb':k'<b.toNat:=by
     have:=(ζe.1 h1').1;rw[List.length_take]at this;omega
    rw[List.getElem?_take,if_pos hkb]at h1;rw[List.getElem?_take,if_pos hkb']at h1';have h2:e.kind=3∧e.peer=p:=by simpa [kg]using h2
    have h2':e'.kind=3∧e'.peer=p:=by simpa [kg]using h2'
    obtain⟨q1,j,y,hy,y1,y2,y3,y4,y5⟩:=pT hV hM (show gY t q k e from⟨Q,hQ,h1⟩) h2.1;obtain⟨q2,j',y',hy',y1',y2',y3',y4',y5'⟩:=pT hV hM (show gY t q k' e' from⟨Q,hQ,h1'⟩) h2'.1;have e1:q1=p:=by omega
    have e2:q2=p:=by omega
    subst e1 e2;simp only[h1,h1',y5,y5']at he;have hjj:j=j':=by omega
    subst hjj;obtain⟨P1,a1,a2⟩:=hy;obtain⟨P2,b1,b2⟩:=hy';rw[a1]at b1;cases b1;rw[a2]at b2;cases b2;have r1:=(hM.rcv (⟨q,k+1⟩,e) (bU.2 ⟨q,k,⟨Q,hQ,h1⟩,rfl⟩) h2.1).1;have r2:=(hM.rcv (⟨q,k'+1⟩,e') (bU.2 ⟨q,k',⟨Q,hQ,h1'⟩,rfl⟩) h2'.1).1;simp only at r1 r2;rw[←y2,y2',r2]at r1;simp only[aa.mk.injEq]at r1;omega
  omega
 ·exact Int.le_refl _
end Go.VE
namespace Go.VE
end Go.VE
namespace Go.VE
def jA (kind m:Int) (x:aa×Event):Bool:=x.2.kind==kind&&x.2.message==m
def eH (t:Trace) (kind m:Int):aa:=match (aN t).find? (jA kind m)with
 | some x=>x.1
 | none=>⟨0,0⟩
theorem FX {t:Trace} {kind m:Int} {p:Nat} {P:bq} (hp8:p<9223372036854775806) (hP:t.procs.l[p]? = some P) (hl:P.events.l.length<1073741824):∀(q i:Nat),i+q=P.events.l.length →
 aX (fun q:Int=>cw.bl kind m p t ⟨0,0⟩ q) (i:Int)=some (match (fJ p i (P.events.l.drop i)).find? (jA kind m)with|some x=>.r x.1|none=>.x ()):=by
 have hix:idx t.procs (p:Int)=some P:=by rw[o8];exact hP
 intro q
 induction q with
 | zero=>
  intro i hi;rw[eV];unfold cw.bl;rw[hix,ζb,show decide ((i:Int)<len P.events)=false from by simp[len];omega,bM,List.drop_of_length_le (by omega)]
  rfl
 | succ q ih=>
  intro i hi;have hil:i<P.events.l.length:=by omega
  rw[eV];have hs:cw.bl kind m p t ⟨0,0⟩ i=some (if jA kind m (⟨p,(i:Int)+1⟩,P.events.l[i])then .r ⟨p,(i:Int)+1⟩else .n ((i+1:Nat):Int)):=by
   unfold cw.bl;rw[hix,ζb,show decide ((i:Int)<len P.events)=true from by simp[len];omega,a_,ζb,aQ hil,ζb,fP,ζb,bW i (by omega),jh]
   rfl
  rw[hs,ζb,List.drop_eq_getElem_cons hil];simp only[fJ,List.find?_cons]
  cases hh:jA kind m (⟨p,(i:Int)+1⟩,P.events.l[i])with
  | true=>rfl
  | false=>
   simp only[Bool.false_eq_true,if_false];exact ih (i+1) (by omega)
theorem Gp {t:Trace} (hS:Small t) {kind m:Int}:∀(q p:Nat),p+q=t.procs.l.length →
 aX (fun q:Int=>cw.aG kind m t ⟨0,0⟩ q) (p:Int)=some (match (dK p (t.procs.l.drop p)).find? (jA kind m)with|some x=>.r x.1|none=>.x ()):=by
 have h1:=hS.1;intro q
 induction q with
 | zero=>
  intro p hp;rw[eV];unfold cw.aG;rw[show decide ((p:Int)<len t.procs)=false from by simp[len];omega,bM,List.drop_of_length_le (by omega)]
  rfl
 | succ q ih=>
  intro p hp;have hpl:p<t.procs.l.length:=by omega
  have hw:aX (fun q:Int=>cw.bl kind m p t ⟨0,0⟩ q) 0=some (match (fJ p 0 t.procs.l[p].events.l).find? (jA kind m)with|some x=>.r x.1|none=>.x ()):=FX (t:=t) (kind:=kind) (m:=m) (by omega) (ζd hpl) (hS.2 _ (List.getElem_mem hpl)).1 (t.procs.l[p].events.l.length) 0 (by omega)
  rw[eV];unfold cw.aG;rw[show decide ((p:Int)<len t.procs)=true from by simp[len];omega,a_]
  unfold cw.W2;rw[hw,List.drop_eq_getElem_cons hpl];simp only[dK,List.find?_append]
  cases hf:(fJ p 0 t.procs.l[p].events.l).find? (jA kind m)with
  | some x=>rfl
  | none=>
   simp only[ζb,Fw.elim,Option.none_or];rw[bW p (by omega)]
   exact ih (p+1) (by omega)
theorem find_eq {t:Trace} (hS:Small t) (kind m:Int):cw t kind m=some (eH t kind m):=by
 unfold cw cw.W1;have hw:aX (fun q:Int=>cw.aG kind m t ⟨0,0⟩ q) 0=some (match (aN t).find? (jA kind m)with|some x=>.r x.1|none=>.x ()):=Gp hS (kind:=kind) (m:=m) t.procs.l.length 0 (by omega)
 rw[hw];unfold eH;cases (aN t).find? (jA kind m) <;> rfl
theorem uH {t:Trace} {kind m:Int} {x:aa×Event} (h:(aN t).find? (jA kind m)=some x):x∈aN t∧x.2.kind=kind∧x.2.message=m∧eH t kind m=x.1:=by
 have h1:=List.find?_some h;simp only[jA,ζh,beq_iff_eq]at h1;exact⟨List.mem_of_find?_eq_some h,h1.1,h1.2,by unfold eH;rw[h]⟩
theorem Dn {t:Trace} {kind m:Int} {x:aa×Event} (hx:x∈aN t) (hk:x.2.kind=kind) (hm:x.2.message=m):∃y,(aN t).find? (jA kind m)=some y:=by
 cases hf:(aN t).find? (jA kind m)with
 | some y=>exact⟨y,rfl⟩
 | none=>
  rw[List.find?_eq_none]at hf;exact absurd (hf x hx) (by simp[jA,hk,hm])
theorem Gq {t:Trace} {kind m:Int} (h:∀x∈aN t,¬(x.2.kind=kind∧x.2.message=m)):eH t kind m=⟨0,0⟩:=by
 unfold eH;have:(aN t).find? (jA kind m)=none:=by
  rw[List.find?_eq_none];intro x hx;simp only[jA,ζh,beq_iff_eq];exact h x hx
 rw[this]
theorem LR {t:Trace} {p k:Nat} {e:Event} (h:gY t p k e) (hk:k<9223372036854775807):qW t ⟨p,k+1⟩=some e:=by
 obtain⟨P,hP,he⟩:=h;unfold qW;dsimp only;rw[show idx t.procs (p:Int)=some P from by rw[o8];exact hP,ζb,show IntKind.wrap .i64 ((k:Int)+1-1)=(k:Int)from by rw[mw _ (by omega) (by omega)];omega,show idx P.events (k:Int)=some e from by rw[o8];exact he]
 rfl
def rL (t:Trace) (x:aa×Event):Int:=if x.2.kind=1 then 0 else if eH t x.2.kind x.2.message=x.1 then(if x.2.kind=3 then(if pg t x.2.peer x.2.message x.1.proc then 0 else 7)else 0)else 8
theorem HJ {t:Trace} (hS:Small t) {p k:Nat} {e:Event} (h:gY t p k e) (hF:fU t.procs.l.length p e):fE t ⟨p,k+1⟩=some (rL t (⟨p,k+1⟩,e)):=by
 have hk:k<1073741824:=by
  obtain⟨P,hP,he⟩:=h;have:=(hS.2 P (List.mem_of_getElem? hP)).1;have:=(ζe.1 he).1;omega
 unfold fE rL;rw[LR h (by omega),ζb]
 dsimp only
 by_cases h1:e.kind=1
 ·rw[show (e.kind==1)=true from by simp[h1],a_,if_pos h1]
 ·rw[show (e.kind==1)=false from by simp[h1],bM,if_neg h1,find_eq hS,ζb]
  have hev:FB (eH t e.kind e.message) ⟨p,(k:Int)+1⟩=decide (eH t e.kind e.message=⟨p,(k:Int)+1⟩):=by
   unfold FB;rw[Bool.eq_iff_iff];cases eH t e.kind e.message;simp
  rw[hev]
  by_cases h2:eH t e.kind e.message=⟨p,(k:Int)+1⟩
  ·rw[if_pos h2,show decide (eH t e.kind e.message=⟨p,(k:Int)+1⟩)=true from by simpa using h2,a_]
   by_cases h3:e.kind=3
   ·rw[if_pos h3,show (e.kind==3)=true from by simp[h3],a_]
    have hpe:0≤e.peer∧e.peer<t.procs.l.length:=by
     rcases hF with h|⟨_,h1,h2,_⟩
     ·exact absurd h h1
     ·exact⟨h1,h2⟩
    have hq:e.peer.toNat<t.procs.l.length:=by omega
    have hQ:=ζd hq;have hql:=(hS.2 _ (List.getElem_mem hq)).1;generalize hQe:t.procs.l[e.peer.toNat]=Q at *;have hix:idx t.procs e.peer=some Q:=by rw[QD hpe.1];exact hQ
    have hsb:pg t e.peer e.message p=Q.events.l.any fun s=>s.kind==2&&s.message==e.message&&s.peer==p:=by
     unfold pg;rw[hQ]
    unfold fE.W1;refine Wp.eq (c6 (fun z:Bool×Int=>∃m:Nat,z.2=m∧m≤Q.events.l.length∧z.1=(Q.events.l.take m).any fun s=>s.kind==2&&s.message==e.message&&s.peer==p) (fun z=>Q.events.l.length-z.2.toNat) ⟨0,rfl,Nat.zero_le _,rfl⟩ ?_)
    rintro⟨s,i⟩ ⟨m,hi,hm,hs⟩;simp only at hi hs;subst hi;unfold fE.aG;dsimp only;rw[hix,ζb,aT];constructor
    ·intro hl;have hml:m<Q.events.l.length:=by simpa [len]using hl
     have hw:=bW m (by omega)
     rw[ζb,aQ hml,ζb,fP,ζb,fP,ζb,eW,ζb,ai];refine⟨⟨m+1,hw,by omega,?_⟩,by show _-(IntKind.wrap .i64 ((m:Int)+1)).toNat<_;rw[hw];simp;omega⟩
     show (s||_)=_;rw[List.take_add_one,ζd hml,List.any_append,hs];simp
    ·intro hl;have hml:Q.events.l.length≤m:=by simpa [len]using hl
     rw[List.take_of_length_le hml]at hs;refine(ai _).2 ?_;rw[hsb,←hs];cases s
     ·exact(ai _).2 rfl
     ·exact(ai _).2 rfl
   ·rw[if_neg h3,show (e.kind==3)=false from by simp[h3],bM]
  ·rw[if_neg h2,show decide (eH t e.kind e.message=⟨p,(k:Int)+1⟩)=false from by simpa using h2,bM]
theorem FY {t:Trace} (hF:∀x∈aN t,fU t.procs.l.length x.1.proc x.2):(∀x∈aN t,rL t x=0)↔uo t:=by
 constructor
 ·intro h;have key:∀x∈aN t,x.2.kind≠1→eH t x.2.kind x.2.message=x.1:=fun x hx hk=>by
   have:=h x hx;unfold rL at this;rw[if_neg hk]at this;split at this
   ·assumption
   ·cases this
  refine⟨fun x hx y hy kx ky hm=>?_,fun x hx y hy kx ky hm=>?_,fun x hx kx=>?_⟩
  ·rw[←key x hx (by omega),←key y hy (by omega),kx,ky,hm]
  ·rw[←key x hx (by omega),←key y hy (by omega),kx,ky,hm]
  ·have:=h x hx;unfold rL at this;rw[if_neg (by omega),if_pos (key x hx (by omega)),if_pos kx]at this
   split at this
   ·assumption
   ·cases this
 ·intro h x hx;unfold rL
  by_cases k1:x.2.kind=1
  ·rw[if_pos k1]
  ·rw[if_neg k1];obtain⟨y,hy⟩:=Dn hx rfl rfl;obtain⟨y1,y2,y3,y4⟩:=uH hy;have hk:x.2.kind=2∨x.2.kind=3:=by
    rcases hF x hx with h|⟨h,_⟩
    ·exact absurd h k1
    ·exact h
   have he:eH t x.2.kind x.2.message=x.1:=by
    rw[y4];rcases hk with hk|hk
    ·exact h.snd y y1 x hx (by rw[y2,hk]) hk y3
    ·exact h.rcv y y1 x hx (by rw[y2,hk]) hk y3
   rw[if_pos he]
   by_cases k3:x.2.kind=3
   ·rw[if_pos k3,if_pos (h.has x hx k3)]
   ·rw[if_neg k3]
end Go.VE
namespace Go.VE
theorem uh {t:Trace} (hF:∀x∈aN t,fU t.procs.l.length x.1.proc x.2) (hP:uo t) {z:aa} {f:Event} (hz:(z,f)∈aN t) (hk:f.kind=3):∃e,(eH t 2 f.message,e)∈aN t∧e.kind=2∧e.message=f.message:=by
 have h:=hP.has _ hz hk;have hp:0≤f.peer:=by
  rcases hF _ hz with h|⟨_,h,_⟩
  ·simp only at h;omega
  ·exact h
 rw[show f.peer=((f.peer.toNat:Nat):Int)from by omega,rJ]at h
 obtain⟨k,e,ha,h1,h2,_⟩:=h;obtain⟨y,hy⟩:=Dn (bU.2 ⟨_,k,ha,rfl⟩:((⟨(f.peer.toNat:Nat),k+1⟩:aa),e)∈aN t) h1 h2;obtain⟨y1,y2,y3,y4⟩:=uH hy;exact⟨y.2,by rw[y4];exact y1,y2,y3⟩
theorem CB.find {t:Trace} (hF:∀x∈aN t,fU t.procs.l.length x.1.proc x.2) (hP:uo t) {y z:aa} {f:Event} (h:CB t y z) (hz:(z,f)∈aN t):f.kind=3∧eH t 2 f.message=y:=by
 obtain⟨e,f',h1,h2,h3,h4,h5⟩:=h;cases uA h2 hz rfl;obtain⟨e',a1,a2,a3⟩:=uh hF hP hz h4;exact⟨h4,hP.snd _ a1 _ h1 a2 h3 (by rw[a3,h5])⟩
theorem xT {t:Trace} (hS:Small t) (hF:∀x∈aN t,fU t.procs.l.length x.1.proc x.2) (hP:uo t) {z:aa} (hz:Vd t z) :
 Wp (cu t z) fun s=>s.l.length≤2∧∀y,y∈s.l↔Edge t y z:=by
 obtain⟨p,k,f,hat,rfl,hmem⟩:=hz.at_;have hk:k<1073741824:=by
  obtain⟨P,hP,he⟩:=hat;have:=(hS.2 P (List.mem_of_getElem? hP)).1;have:=(ζe.1 he).1;omega
 have j:∀s:Sl aa,s.l.length≤1→(∀y,y∈s.l↔Vd t y∧(⟨p,k+1⟩:aa)=⟨y.proc,y.index+1⟩)→Wp (cu.J1 s t ⟨p,k+1⟩) fun s=>s.l.length≤2∧∀y,y∈s.l↔Edge t y ⟨p,k+1⟩:=by
  intro s hs hsy;unfold cu.J1;rw[LR hat (by omega),ζb,aT]
  constructor
  ·intro h3;have h3:f.kind=3:=by simpa using h3
   rw[find_eq hS,ζb];unfold kH;rw[if_pos (by omega),ζb,ai]
   refine⟨by show (s.l++[_]).length≤2;rw[ζi,List.length_singleton];omega,fun y=>?_⟩
   show y∈s.l++[eH t 2 f.message]↔_;rw[List.mem_append,List.mem_singleton,hsy];obtain⟨e,a1,a2,a3⟩:=uh hF hP hmem h3;constructor
   ·rintro (h|rfl)
    ·exact⟨h.1,hz,.inl h.2⟩
    ·exact⟨⟨e,a1⟩,hz,.inr ⟨e,f,a1,hmem,a2,h3,a3⟩⟩
   ·rintro⟨h1,_,h2|h2⟩
    ·exact .inl ⟨h1,h2⟩
    ·exact .inr (h2.find hF hP hmem).2.symm
  ·intro h3;refine(ai _).2 ⟨by omega,fun y=>(hsy y).trans ⟨fun h=>⟨h.1,hz,.inl h.2⟩,fun⟨h1,_,h2⟩=>⟨h1,h2.elim id fun h2=>?_⟩⟩⟩
   have:=(h2.find hF hP hmem).1;simp[this]at h3
 unfold cu;rw[aT];constructor
 ·intro h;have h:(k:Int)+1>1:=by simpa using h
  refine j _ (by simp[Sl.l]) fun y=>?_
  have hw:IntKind.wrap .i64 ((k:Int)+1-1)=k:=by rw[mw _ (by omega) (by omega)];omega
  simp only[Sl.l,List.mem_singleton,hw,aa.mk.injEq];constructor
  ·rintro rfl;obtain⟨P,hP,he⟩:=hat;have:=(ζe.1 he).1;exact⟨⟨P.events.l[k-1],bU.2 ⟨p,k-1,⟨P,hP,ζd (by omega)⟩,by simp;omega⟩⟩,rfl,rfl⟩
  ·rintro⟨_,h1,h2⟩;cases y;simp only at h1 h2;congr 1 <;> omega
 ·intro h;have h:¬(k:Int)+1>1:=by simpa using h
  refine j _ (by simp[Sl.l]) fun y=>⟨fun hy=>by simp[Sl.l]at hy,fun⟨hy,he⟩=>?_⟩
  obtain⟨q,i,f,_,rfl,_⟩:=hy.at_;simp only[aa.mk.injEq]at he;omega
theorem Sc {α:Type} {r:α→α→Prop} {x:α} (h:Acc r x):¬Relation.TransGen r x x:=by
 induction h with
 | intro x _ ih=>
  intro h
  cases h with
  | single h=>exact ih x h (.single h)
  | tail h1 h2=>exact ih _ h2 (Relation.TransGen.trans (.single h2) h1)
theorem ED:∀{d:List Nat} {i k:Nat},d[i]? = some k→(d.set i (k+1)).sum=d.sum+1
 | [],_,_,h=>by simp at h
 | x::d,0,k,h=>by simp at h;subst h;simp;omega
 | x::d,i+1,k,h=>by
  have:=ED (d:=d) (i:=i) (k:=k) (by simpa using h)
  simp[this];omega
theorem Je:∀{d l:List Nat},d.length=l.length→(∀(i a b:Nat),d[i]? = some a→l[i]? = some b→a≤b)→d.sum≤l.sum
 | [],_,_,_=>by simp
 | x::d,[],h,_=>by simp at h
 | x::d,y::l,h,hh=>by
  have h1:=hh 0 x y rfl rfl;have h2:=Je (d:=d) (l:=l) (by simpa using h) fun i a b ha hb=>hh (i+1) a b (by simpa using ha) (by simpa using hb)
  simp;omega
def nI (d:List Nat):List Int:=d.map Int.ofNat
def sI (s:Sl Int):Nat:=(s.l.map Int.toNat).sum
theorem B6 (d:List Nat):sI (.row (nI d))=d.sum:=by
 unfold sI nI;rw[show (Sl.row (d.map Int.ofNat)).l=d.map Int.ofNat from rfl,List.map_map,show (Int.toNat ∘ Int.ofNat)=id from rfl,List.map_id]
theorem Ik (d:List Nat):(nI d).length=d.length:=by simp[nI]
structure Kh (t:Trace) (d:List Nat):Prop where
 len:d.length=t.procs.l.length
 le:∀(p k:Nat) P,d[p]? = some k→t.procs.l[p]? = some P→k≤P.events.l.length
 acc:∀(p k j:Nat),d[p]? = some k→j<k→Acc (Edge t) ⟨p,j+1⟩
def qc (t:Trace):Nat:=(t.procs.l.map fun P=>P.events.l.length).sum
theorem Kh.sum {t:Trace} {d:List Nat} (h:Kh t d):d.sum≤qc t:=Je (by simp[h.len]) fun i a b ha hb=>by
 rw[List.getElem?_map]at hb
 cases hP:t.procs.l[i]? with
 | none=>simp[hP]at hb
 | some P=>simp[hP]at hb;rw[←hb];exact h.le i a P ha hP
theorem zK {d:List Nat} {p:Nat} (h:p<d.length):Sl.pz (.row (nI d)) (p:Int)=some p:=by
 unfold Sl.pz;rw[if_pos ⟨by omega,by simpa [Sl.l,Ik]using h⟩];rfl
theorem wO {d:List Nat} {p k:Nat} (h:d[p]? = some k):Sl.get (.row (nI d)) p=some (k:Int):=by
 unfold Sl.get nI;rw[show (Sl.row (d.map Int.ofNat)).l=d.map Int.ofNat from rfl,List.getElem?_map,h];rfl
def Mv (t:Trace) (d0:List Nat) (s:Sl Int) (b:Bool) (d:List Nat):Prop:=s=.row (nI d)∧Kh t d∧d0.sum≤d.sum∧(b=true→d0.sum<d.sum)
def KQ (t:Trace) (d0:List Nat) (p:Nat) (w:Fw (Sl Int×Bool×Int) (Sl Int×Bool) Empty):Prop:=∃s' b' d',w=.n (s',b',((p+1:Nat):Int))∧Mv t d0 s' b' d'
theorem NO {t:Trace} (hS:Small t) (hF:∀x∈aN t,fU t.procs.l.length x.1.proc x.2) (hP:uo t) {d0 d1:List Nat} {s:Sl Int} {b:Bool} {p:Nat} (hp:p<t.procs.l.length) (hM:Mv t d0 s b d1) :
 Wp (bO.W3 s b p t) (KQ t d0 p):=by
 have hix:=aQ hp;have hn:=hS.1;have hPl:=(hS.2 _ (List.getElem_mem hp)).1;have hPg:=ζd hp;generalize t.procs.l[p]=P at *;unfold bO.W3;refine c6 (fun q:Sl Int×Bool=>∃d,Mv t d0 q.1 q.2 d) (fun q=>qc t-sI q.1) ⟨d1,hM⟩ ?_
 rintro⟨s,b⟩ ⟨d,rfl,hK,hd,hb⟩;simp only at hb;have hpd:p<d.length:=by rw[hK.len];exact hp
 have hg:=ζd hpd;generalize d[p]=k at hg;have hkl:=hK.le p k P hg hPg;have stop:∀{pr:Empty→Prop},Wp (some (Fw.x (Sl.row (nI d),b))) (LO (fun q:Sl Int×Bool=>∃d,Mv t d0 q.1 q.2 d) (fun q=>qc t-sI q.1) (fun e=>Wp (some (Fw.n (e.1,e.2,IntKind.wrap .i64 ((p:Int)+1)))) (KQ t d0 p)) pr (Sl.row (nI d),b)):=by
  refine(ai _).2 ((ai _).2 ⟨_,_,d,?_,rfl,hK,hd,hb⟩);rw[bW p (by omega)]
 unfold bO.dI;rw[zK hpd,ζb,wO hg,ζb,hix,ζb,aT];refine⟨fun h=>?_,fun _=>stop⟩
 have hlt:k<P.events.l.length:=by simpa [Go.VE.len]using h
 have hat:gY t p k P.events.l[k]:=⟨P,hPg,ζd hlt⟩;have hmem:((⟨p,k+1⟩:aa),P.events.l[k])∈aN t:=bU.2 ⟨p,k,hat,rfl⟩;have go:(P.events.l[k].kind=3→∀q j:Nat,eH t 2 P.events.l[k].message=⟨q,j+1⟩→∃k',d[q]? = some k'∧j<k')→∀{px:Sl Int×Bool→Prop} {pr:Empty→Prop},Wp (bO.J4 (.row (nI d)) p t) (LO (fun q:Sl Int×Bool=>∃d,Mv t d0 q.1 q.2 d) (fun q=>qc t-sI q.1) px pr (Sl.row (nI d),b)):=by
  intro hq px pr;unfold bO.J4;rw[zK hpd,ζb,wO hg,ζb,ζb];unfold Sl.put;rw[if_pos (by simpa [Sl.l,Ik]using hpd),ζb,ai]
  have hset:(nI d).set p (IntKind.wrap .i64 ((k:Int)+1))=nI (d.set p (k+1)):=by
   rw[bW k (by omega)];unfold nI;rw[List.map_set];rfl
  have hsum:=ED hg;have hK2:Kh t (d.set p (k+1)):=by
   refine⟨by simp[hK.len],fun q i Q hi hQ=>?_,fun q i j hi hj=>?_⟩
   ·rw[List.getElem?_set]at hi;split at hi
    ·rename_i e;subst e;cases hi;rw[hPg]at hQ;cases hQ;omega
    ·exact hK.le q i Q hi hQ
   ·rw[List.getElem?_set]at hi;split at hi
    ·rename_i e;subst e;cases hi
     by_cases hjk:j<k
     ·exact hK.acc p k j hg hjk
     ·have:j=k:=by omega
      subst this;refine Acc.intro _ fun y hy=>?_
      obtain⟨hyv,_,he|he⟩:=hy
      ·obtain⟨q,i,f,_,rfl,_⟩:=hyv.at_;simp only[aa.mk.injEq]at he;have e1:q=p:=by omega
       subst e1;exact hK.acc q j i hg (by omega)
      ·obtain⟨h3,hf⟩:=he.find hF hP hmem;obtain⟨q,i,f,_,rfl,_⟩:=hyv.at_;obtain⟨k',hk',hik⟩:=hq h3 q i hf;exact hK.acc q k' i hk' hik
    ·exact hK.acc q i j hi hj
  have hs2:=hK2.sum;refine⟨⟨_,by rw[←hset],hK2,by rw[hsum];omega,fun _=>by rw[hsum];omega⟩,?_⟩
  show qc t-sI (.row ((nI d).set p (IntKind.wrap .i64 ((k:Int)+1))))<qc t-sI (.row (nI d));rw[hset,B6,B6,hsum];rw[hsum]at hs2;omega
 dsimp only;rw[ζb,ζb,wO hg,ζb,aQ hlt,ζb,aT];refine⟨fun h3=>?_,fun h3=>go fun h=>by simp[h]at h3⟩
 have h3:P.events.l[k].kind=3:=by simpa using h3
 obtain⟨e,a1,a2,a3⟩:=uh hF hP hmem h3;obtain⟨q,j,hat2,hqj⟩:=bU.1 a1;simp only at hqj;have hqd:q<d.length:=by
  obtain⟨Q,hQ,_⟩:=hat2;rw[hK.len];exact(ζe.1 hQ).1
 have hgq:=ζd hqd;rw[find_eq hS,ζb,hqj,zK hqd,ζb,wO hgq,ζb,aT];refine⟨fun _=>stop,fun h=>go fun _ q' j' hh=>?_⟩
 rw[hqj]at hh;simp only[aa.mk.injEq]at hh;have e1:q'=q:=by omega
 have e2:j'=j:=by omega
 subst e1 e2;exact⟨_,hgq,by simp at h;omega⟩
theorem G7 {t:Trace} (hS:Small t) (hF:∀x∈aN t,fU t.procs.l.length x.1.proc x.2) (hP:uo t):Wp (bO t) fun b=>b=true→¬EW t:=by
 have hn:=hS.1;unfold bO vQ;rw[if_pos (by simp[len];omega),ζb]
 have h0:(Sl.row (List.replicate (len t.procs).toNat (0:Int)))=.row (nI (List.replicate t.procs.l.length 0)):=by simp[len,nI]
 rw[h0];unfold bO.W1;have hrep:∀(p k:Nat),(List.replicate t.procs.l.length 0)[p]? = some k→k=0:=fun p k h=>by
  rw[List.getElem?_replicate]at h;split at h <;> simp at h;exact h.symm
 refine c6 (fun s:Sl Int=>∃d,s=.row (nI d)∧Kh t d) (fun s=>qc t-sI s) ⟨_,rfl,by simp,fun p k P h _=>by rw[hrep p k h];omega,fun p k j h hj=>by rw[hrep p k h]at hj;omega⟩ ?_
 rintro s ⟨d0,rfl,hK⟩;unfold bO.aG bO.W2;refine c6 (fun q:Sl Int×Bool×Int=>∃(n:Nat) (d:List Nat),q.2.2=n∧n≤t.procs.l.length∧Mv t d0 q.1 q.2.1 d) (fun q=>t.procs.l.length-q.2.2.toNat) ⟨0,d0,rfl,Nat.zero_le _,rfl,hK,Nat.le_refl _,by simp⟩ ?_
 rintro⟨s,b,i⟩ ⟨n,d,hi,hnn,hM⟩;simp only at hi hM;subst hi;unfold bO.bl;rw[aT];constructor
 ·intro h;have hlt:n<t.procs.l.length:=by simpa [len]using h
  refine(NO hS hF hP hlt hM).mono ?_;rintro w ⟨s',b',d',rfl,hM'⟩;exact⟨⟨n+1,d',rfl,by omega,hM'⟩,by simp;omega⟩
 ·intro _;obtain⟨rfl,hK',hle,hmv⟩:=hM;rw[ai];show Wp (au b _ _) _;rw[aT];refine⟨fun hb=>(ai _).2 ⟨⟨d,rfl,hK'⟩,?_⟩,fun _=>(ai _).2 ?_⟩
  ·show qc t-sI (.row (nI d))<qc t-sI (.row (nI d0));rw[B6,B6];have:=hmv hb;have:=hK'.sum;omega
  ·show Wp (bO.W5 (.row (nI d)) 0 t) _;unfold bO.W5;refine c6 (fun i:Int=>∃n:Nat,i=n∧n≤t.procs.l.length∧∀p,p<n→∀P,t.procs.l[p]? = some P→d[p]? = some P.events.l.length) (fun i:Int=>t.procs.l.length-i.toNat) ⟨0,rfl,Nat.zero_le _,fun p hp=>absurd hp (by omega)⟩ ?_
   rintro i ⟨n,rfl,hn',hh⟩;unfold bO.uf;rw[aT];constructor
   ·intro h;have hlt:n<t.procs.l.length:=by simpa [len]using h
    have hnd:n<d.length:=by rw[hK'.len];exact hlt
    have hg:=ζd hnd;rw[zK hnd,ζb,wO hg,ζb,aQ hlt,ζb,aT];refine⟨fun _=>(ai _).2 ((ai _).2 fun h=>by cases h),fun h=>(ai _).2 ⟨⟨n+1,bW n (by omega),by omega,fun p hp P hP=>?_⟩,by rw[bW n (by omega)];simp;omega⟩⟩
    by_cases e:p=n
    ·subst e;rw[ζd hlt]at hP;cases hP;have:=hK'.le p _ _ hg (ζd hlt);simp[len]at h;rw[hg];congr 1;omega
    ·exact hh p (by omega) P hP
   ·intro h;have hge:t.procs.l.length≤n:=by simpa [len]using h
    refine(ai _).2 ((ai _).2 fun _ ⟨x,hx⟩=>?_)
    obtain⟨p,k,e,⟨P,hP,he⟩,rfl,_⟩:=hx.l.at_;have hpl:=(ζe.1 hP).1;exact Sc (hK'.acc p _ k (hh p (by omega) P hP) (ζe.1 he).1) hx
end Go.VE
namespace Go.VE
def mP (out:List (List Bool)) (y:aa):Bool:=match out[y.proc.toNat]? with
 | some row=>row[y.index.toNat]?.getD false
 | none=>false
theorem wM {t:Trace} {out:List (List Bool)} {p k:Nat} {row:List Bool} (hr:out[p]? = some row) (hk:k+1<row.length) {z:aa} (hz:Vd t z) :
 mP (out.set p (row.set (k+1) true)) z=(decide (z=⟨p,k+1⟩)||mP out z):=by
 obtain⟨q,j,e,_,rfl,_⟩:=hz.at_;have hp:=(ζe.1 hr).1;unfold mP;have e1:(⟨(q:Int),(j:Int)+1⟩:aa).proc.toNat=q:=rfl;have e2:(⟨(q:Int),(j:Int)+1⟩:aa).index.toNat=j+1:=by show ((j:Int)+1).toNat=j+1;omega
 rw[e1,e2,List.getElem?_set]
 by_cases hpq:p=q
 ·subst hpq;rw[if_pos rfl,if_pos hp,hr];dsimp only;rw[List.getElem?_set]
  by_cases hkj:k=j
  ·subst hkj;simp[hk]
  ·rw[if_neg (by omega),show decide ((⟨(p:Int),(j:Int)+1⟩:aa)=⟨p,k+1⟩)=false from by simp;omega,Bool.false_or]
 ·rw[if_neg hpq,show decide ((⟨(q:Int),(j:Int)+1⟩:aa)=⟨p,k+1⟩)=false from by simp;omega,Bool.false_or]
theorem wJ {α:Type} {f g:α→Bool}:∀{l:List α},(∀z∈l,f z=true→g z=true)→(∃z∈l,f z=false∧g z=true)→l.countP f<l.countP g
 | [],_,⟨z,hz,_⟩=>by simp at hz
 | a::l,h,⟨z,hz,hf,hg⟩=>by
  simp only[List.countP_cons];have hle:=List.countP_mono_left (l:=l) (p:=f) (q:=g) fun x hx=>h x (List.mem_cons_of_mem _ hx)
  rcases List.mem_cons.1 hz with rfl|hz
  ·simp[hf,hg];omega
  ·have:=wJ (l:=l) (fun x hx=>h x (List.mem_cons_of_mem _ hx)) ⟨z,hz,hf,hg⟩
   have h1:=h a (List.mem_cons_self ..)
   cases hfa:f a with
   | true=>simp[h1 hfa];omega
   | false=>simp;split <;> omega
def cnt (t:Trace) (out:List (List Bool)):Nat:=(aN t).countP fun z=>mP out z.1
structure XY (t:Trace) (x:aa) (out:List (List Bool)) (rest:List aa):Prop where
 shp:∀(p:Nat) P,t.procs.l[p]? = some P→∃row,out[p]? = some row∧row.length=P.events.l.length+1
 len:out.length=t.procs.l.length
 que:∀y∈rest,Way t y x
 snd:∀y,Vd t y→mP out y=true→Way t y x
 cls:∀z,z=x∨Vd t z∧mP out z=true→∀y,Edge t y z→mP out y=true∨y∈rest
 le:rest.length≤2*cnt t out+2
theorem xM {t:Trace} {y:aa}:mP (eu t) y=false:=by
 unfold mP eu;split
 ·rename_i row h;rw[List.getElem?_map]at h
  cases hP:t.procs.l[y.proc.toNat]? with
  | none=>simp[hP]at h
  | some P=>
   simp[hP]at h;subst h;rw[List.getElem?_replicate];split <;> rfl
 ·rfl
theorem M3 {t:Trace} (hS:Small t) (hN:(aN t).length<1073741824) (hF:∀x∈aN t,fU t.procs.l.length x.1.proc x.2) (hP:uo t) {x:aa} (hx:Vd t x) :
 Wp (jT t x) fun s=>∃out,s=nested out∧XY t x out []∧∀y,Vd t y→(mP out y=true↔Way t y x):=by
 unfold jT;rw[if_pos (by
  unfold wk;simp only[ζh,List.all_eq_true,decide_eq_true_eq];exact⟨by have:=hS.1;omega,fun P hP=>by have:=(hS.2 P hP).1;omega⟩),dQ]
 refine(xT hS hF hP hx).mono fun s hs=>?_
 refine c6 (fun q:List (List Bool)×List aa=>XY t x q.1 q.2) (fun q=>2*((aN t).length-cnt t q.1)+q.2.length) ⟨fun p P hP=>⟨List.replicate (P.events.l.length+1) false,by simp[eu,hP],by simp⟩,by simp[eu],fun y hy=>.single ((hs.2 y).1 hy),fun y _ h=>(by rw[xM]at h;cases h),fun z hz y hy=>?_,by have:=hs.1;show s.l.length≤2*cnt t (eu t)+2;omega⟩ ?_
 ·rcases hz with rfl|⟨_,h⟩
  ·exact .inr ((hs.2 y).2 hy)
  ·rw[xM]at h;cases h
 rintro⟨out,rest⟩ hI
 cases rest with
 | nil=>
  show Wp (some _) _;refine(ai _).2 ((ai _).2 ⟨out,rfl,hI,fun y hy=>⟨hI.snd y hy,fun hw=>?_⟩⟩)
  have key:∀w,Way t y w→w=x∨Vd t w∧mP out w=true→mP out y=true:=fun w hw=>by
   induction hw with
   | single h=>exact fun hw=>(hI.cls _ hw _ h).elim id fun h=>by cases h
   | tail hyb hbw ih=>exact fun hw=>ih (.inr ⟨hbw.1,(hI.cls _ hw _ hbw).elim id fun h=>by cases h⟩)
  exact key x hw (.inl rfl)
 | cons y rest=>
  have hyw:=hI.que y (List.mem_cons_self ..);have hyv:=hyw.l;obtain⟨p,k,e,hat,rfl,hmem⟩:=hyv.at_;obtain⟨P,hPp,hk⟩:=hat;have hkl:=(ζe.1 hk).1;obtain⟨row,hr,hrl⟩:=hI.shp p P hPp;have hkr:k+1<row.length:=by omega
  show Wp (kJ _ (out,⟨p,k+1⟩::rest)) _;unfold kJ;have e2:((k:Int)+1).toNat=k+1:=by omega
  dsimp only;rw[if_pos ⟨by omega,by omega⟩,show ((p:Nat):Int).toNat=p from rfl,e2,hr,ζb,ζd hkr,ζb,aT]
  have hmk:mP out ⟨p,k+1⟩=row[k+1]:=by
   unfold mP;rw[show ((⟨(p:Int),(k:Int)+1⟩:aa).proc).toNat=p from rfl,hr];dsimp only;rw[e2,ζd hkr];rfl
  constructor
  ·intro hb;rw[ai];refine⟨⟨hI.shp,hI.len,fun y hy=>hI.que y (List.mem_cons_of_mem _ hy),hI.snd,fun z hz y hy=>?_,by have:=hI.le;simp only[List.length_cons]at this;show rest.length≤2*cnt t out+2;omega⟩,Nat.add_lt_add_left (Nat.lt_succ_self _) _⟩
   rcases hI.cls z hz y hy with h|h
   ·exact .inl h
   ·rcases List.mem_cons.1 h with rfl|h
    ·exact .inl (by rw[hmk];exact hb)
    ·exact .inr h
  ·intro hb;rw[dQ];refine(xT hS hF hP hyv).mono fun more hm=>?_
   have hle:=hI.le;simp only[List.length_cons]at hle;have hcl:cnt t out≤(aN t).length:=List.countP_le_length;have hm1:=hm.1;have hlt:cnt t out<cnt t (out.set p (row.set (k+1) true)):=wJ (fun z hz h=>by rw[wM hr hkr ⟨_,hz⟩,h,Bool.or_true]) ⟨_,hmem,by rw[hmk,hb],by rw[wM hr hkr hyv];simp⟩
   have hcl2:cnt t (out.set p (row.set (k+1) true))≤(aN t).length:=List.countP_le_length;rw[if_pos (by omega),ai]
   refine⟨⟨fun q Q hQ=>?_,by show (out.set _ _).length=_;rw[List.length_set];exact hI.len,fun z hz=>?_,fun z hz h=>?_,fun z hz y hy=>?_,by show (rest++more.l).length≤_;rw[ζi];show _≤2*cnt t (out.set p (row.set (k+1) true))+2;omega⟩,?_⟩
   ·show ∃r,(out.set p (row.set (k+1) true))[q]? = some r∧_;rw[List.getElem?_set];split
    ·rename_i e;subst e;rw[if_pos (ζe.1 hr).1];rw[hPp]at hQ;cases hQ;exact⟨_,rfl,by simp[hrl]⟩
    ·exact hI.shp q Q hQ
   ·rcases List.mem_append.1 hz with hz|hz
    ·exact hI.que z (List.mem_cons_of_mem _ hz)
    ·exact .trans (.single ((hm.2 z).1 hz)) hyw
   ·show Way t z x;have h:mP (out.set p (row.set (k+1) true)) z=true:=h;rw[wM hr hkr hz]at h;simp only[Bool.or_eq_true,decide_eq_true_eq]at h;rcases h with rfl|h
    ·exact hyw
    ·exact hI.snd z hz h
   ·show mP (out.set p (row.set (k+1) true)) y=true∨y∈rest++more.l;rw[wM hr hkr hy.1];have old:z=x∨Vd t z∧mP out z=true→(decide (y=⟨p,k+1⟩)||mP out y)=true∨y∈rest++more.l:=fun hz=>by
     rcases hI.cls z hz y hy with h|h
     ·exact .inl (by rw[show mP out y=true from h,Bool.or_true])
     ·rcases List.mem_cons.1 h with rfl|h
      ·exact .inl (by simp)
      ·exact .inr (List.mem_append_left _ h)
    rcases hz with hz|⟨hzv,hz⟩
    ·exact old (.inl hz)
    ·have hz:mP (out.set p (row.set (k+1) true)) z=true:=hz;rw[wM hr hkr hzv]at hz;simp only[Bool.or_eq_true,decide_eq_true_eq]at hz;rcases hz with rfl|hz
     ·exact .inr (List.mem_append_right _ ((hm.2 y).2 hy))
     ·exact old (.inr ⟨hzv,hz⟩)
   ·show 2*((aN t).length-cnt t (out.set p (row.set (k+1) true)))+(rest++more.l).length<2*((aN t).length-cnt t out)+(_::rest).length;rw[ζi,List.length_cons];omega
theorem VW {t:Trace} (hS:Small t) (hN:(aN t).length<1073741824) (hF:∀x∈aN t,fU t.procs.l.length x.1.proc x.2) (hP:uo t):Wp (bK.W6 0 t ⟨0,0⟩) fun r=>(r.2=0↔¬EW t):=by
 have hn:=hS.1;unfold bK.W6;refine c6 (fun i:Int=>∃n:Nat,i=n∧n≤t.procs.l.length∧∀(p k:Nat) e,p<n→gY t p k e→¬Way t ⟨p,k+1⟩ ⟨p,k+1⟩) (fun i:Int=>t.procs.l.length-i.toNat) ⟨0,rfl,Nat.zero_le _,fun p k e hp=>absurd hp (by omega)⟩ ?_
 rintro i ⟨n,rfl,hnn,hh⟩;unfold bK.E0;rw[aT];constructor
 ·intro h;have hlt:n<t.procs.l.length:=by simpa [len]using h
  have hix:=aQ hlt;have hPg:=ζd hlt;have hPl:=(hS.2 _ (List.getElem_mem hlt)).1;generalize t.procs.l[n]=P at *;unfold bK.W7;refine c6 (fun i:Int=>∃m:Nat,i=m∧m≤P.events.l.length∧∀k,k<m→¬Way t ⟨n,k+1⟩ ⟨n,k+1⟩) (fun i:Int=>P.events.l.length-i.toNat) ⟨0,rfl,Nat.zero_le _,fun k hk=>absurd hk (by omega)⟩ ?_
  rintro i ⟨m,rfl,hm,hk⟩;unfold bK.E3;rw[hix,ζb,aT];constructor
  ·intro h;have hml:m<P.events.l.length:=by simpa [len]using h
   have hw:=bW m (by omega)
   have hv:Vd t ⟨n,m+1⟩:=⟨P.events.l[m],bU.2 ⟨n,m,⟨P,hPg,ζd hml⟩,rfl⟩⟩;rw[hw,show (((m+1:Nat)):Int)=(m:Int)+1 from by simp,dQ]
   refine(M3 hS hN hF hP hv).mono ?_;rintro s ⟨out,rfl,hI,hmk⟩;obtain⟨row,hr,hrl⟩:=hI.shp n P hPg;have hon:out≠[]:=by rintro rfl;cases hr
   have hkr:m+1<row.length:=by omega
   have h1:idx (nested out) (n:Int)=some (.row row):=by
    unfold nested;rw[if_neg hon,o8];show (out.map Sl.row)[n]? = _;rw[List.getElem?_map,hr];rfl
   have h2:idx (Sl.row row) ((m:Int)+1)=some row[m+1]:=by
    rw[show (m:Int)+1=((m+1:Nat):Int)from by simp]
    exact aQ (s:=Sl.row row) hkr
   rw[h1,ζb,h2,ζb,aT];have hb:row[m+1]=mP out ⟨n,m+1⟩:=by
    unfold mP;rw[show ((⟨(n:Int),(m:Int)+1⟩:aa).proc).toNat=n from rfl,hr];dsimp only;rw[show ((m:Int)+1).toNat=m+1 from by omega,ζd hkr];rfl
   rw[hb];refine⟨fun hy=>(ai _).2 ((ai _).2 ((ai _).2 ⟨fun h=>(by cases h),fun h=>absurd ⟨_,(hmk _ hv).1 hy⟩ h⟩)),fun hy=>(ai _).2 ⟨⟨m+1,by simp,by omega,fun k hkm=>?_⟩,by simp;omega⟩⟩
   by_cases e:k=m
   ·subst e;exact fun hw=>by rw[(hmk _ hv).2 hw]at hy;cases hy
   ·exact hk k (by omega)
  ·intro h;have hge:P.events.l.length≤m:=by simpa [len]using h
   refine(ai _).2 ((ai _).2 ⟨⟨n+1,bW n (by omega),by omega,fun p k e hp hat=>?_⟩,by rw[bW n (by omega)];simp;omega⟩)
   by_cases e:p=n
   ·subst e;obtain⟨Q,hQ,he⟩:=hat;rw[hPg]at hQ;cases hQ;have:=(ζe.1 he).1;exact hk k (by omega)
   ·exact hh p k _ (by omega) hat
 ·intro h;have hge:t.procs.l.length≤n:=by simpa [len]using h
  refine(ai _).2 ((ai _).2 ⟨fun _ ⟨x,hx⟩=>?_,fun _=>rfl⟩)
  obtain⟨p,k,e,hat,rfl,_⟩:=hx.l.at_;obtain⟨P,hP,_⟩:=id hat;exact hh p k e (by have:=(ζe.1 hP).1;omega) hat hx
end Go.VE
namespace Go.VE
theorem Co {t:Trace} (hF:∀x∈aN t,fU t.procs.l.length x.1.proc x.2):(∀(p k:Nat) e,gY t p k e→rL t (⟨p,k+1⟩,e)=0)↔uo t:=
 Iff.trans ⟨fun h x hx=>by obtain⟨p,k,h1,h2⟩:=bU.1 hx;obtain⟨a,e⟩:=x;simp only at h1 h2;rw[h2];exact h p k e h1,fun h p k e ha=>h _ (bU.2 ⟨p,k,ha,rfl⟩)⟩ (FY hF)
theorem Jm {t:Trace} (hS:Small t) (hN:(aN t).length<1073741824):Wp (bK t) fun r=>(r.2=0↔Ok t):=by
 have hn:=hS.1;unfold bK;rw[eW,ζb,aT];refine⟨fun hin=>(ai _).2 ⟨fun h=>(by cases h),fun h=>?_⟩,fun hin=>?_⟩
 ·have h1:=h.one;have h8:=h.few;simp only[Bool.or_eq_true,decide_eq_true_eq,len]at hin;omega
 have h8:1≤t.procs.l.length∧t.procs.l.length≤8:=by
  simp only[Bool.or_eq_false_iff,decide_eq_false_iff_not,len]at hin;omega
 unfold bK.W1;refine c6 (fun i:Int=>∃n:Nat,i=n∧n≤t.procs.l.length∧∀p,p<n→om t p=0) (fun i:Int=>t.procs.l.length-i.toNat) ⟨0,rfl,Nat.zero_le _,fun p hp=>absurd hp (by omega)⟩ ?_
 rintro i ⟨n,rfl,hnn,hh⟩;unfold bK.aG;rw[aT];constructor
 ·intro h;have hlt:n<t.procs.l.length:=by simpa [len]using h
  rw[J9 hS hlt,ζb,aT];refine⟨fun h0=>(ai _).2 ⟨⟨n+1,bW n (by omega),by omega,fun p hp=>?_⟩,by rw[bW n (by omega)];simp;omega⟩,fun h0=>(ai _).2 ((ai _).2 ⟨fun h=>?_,fun h=>?_⟩)⟩
  ·by_cases e:p=n
   ·subst e;simpa using h0
   ·exact hh p (by omega)
  ·simp only at h;simp[h]at h0
  ·simp[h.heads n hlt]at h0
 intro h;have hge:t.procs.l.length≤n:=by simpa [len]using h
 rw[ai];unfold bK.W2;refine c6 (fun i:Int=>∃n:Nat,i=n∧n≤t.procs.l.length∧∀(p k:Nat) P e,p<n→t.procs.l[p]? = some P→P.events.l[k]? = some e→lK t.procs.l.length P p k e=0) (fun i:Int=>t.procs.l.length-i.toNat) ⟨0,rfl,Nat.zero_le _,fun p k P e hp=>absurd hp (by omega)⟩ ?_
 rintro i ⟨n',rfl,hnn',he⟩;unfold bK.bl;rw[aT];constructor
 ·intro h;have hlt:n'<t.procs.l.length:=by simpa [len]using h
  have hix:=aQ hlt;have hPg:=ζd hlt;have hPl:=(hS.2 _ (List.getElem_mem hlt)).1;generalize t.procs.l[n']=P at hix hPg hPl;unfold bK.W3;refine c6 (fun i:Int=>∃m:Nat,i=m∧m≤P.events.l.length∧∀(k:Nat) e,k<m→P.events.l[k]? = some e→lK t.procs.l.length P n' k e=0) (fun i:Int=>P.events.l.length-i.toNat) ⟨0,rfl,Nat.zero_le _,fun k e hk=>absurd hk (by omega)⟩ ?_
  rintro i ⟨m,rfl,hm,hk⟩;unfold bK.dI;rw[hix,ζb,aT];constructor
  ·intro h;have hml:m<P.events.l.length:=by simpa [len]using h
   have hmg:=ζd hml;have hw:=bW m (by omega)
   rw[Kq hS hPg hmg,ζb,aT];refine⟨fun h0=>(ai _).2 ⟨⟨m+1,hw,by omega,fun k e hkm hke=>?_⟩,by rw[hw];simp;omega⟩,fun h0=>(ai _).2 ((ai _).2 ((ai _).2 ⟨fun h=>?_,fun h=>?_⟩))⟩
   ·by_cases ek:k=m
    ·subst ek;rw[hmg]at hke;cases hke;simpa using h0
    ·exact hk k e (by omega) hke
   ·simp only at h;simp[h]at h0
   ·simp[h.eD n' m P _ hPg hmg]at h0
  ·intro h;have hge':P.events.l.length≤m:=by simpa [len]using h
   refine(ai _).2 ((ai _).2 ⟨⟨n'+1,bW n' (by omega),by omega,fun p k Q e hp hQ hke=>?_⟩,by rw[bW n' (by omega)];simp;omega⟩)
   by_cases ep:p=n'
   ·subst ep;rw[hPg]at hQ;cases hQ;exact hk k e (by have:=(ζe.1 hke).1;omega) hke
   ·exact he p k Q e (by omega) hQ hke
 intro h;have hge':t.procs.l.length≤n':=by simpa [len]using h
 have he:∀(p k:Nat) P e,t.procs.l[p]? = some P→P.events.l[k]? = some e→lK t.procs.l.length P p k e=0:=fun p k P e hP hk=>he p k P e (by have:=(ζe.1 hP).1;omega) hP hk
 have hF:=BM he;rw[ai];unfold bK.W4;refine c6 (fun i:Int=>∃n:Nat,i=n∧n≤t.procs.l.length∧∀(p k:Nat) e,p<n→gY t p k e→rL t (⟨p,k+1⟩,e)=0) (fun i:Int=>t.procs.l.length-i.toNat) ⟨0,rfl,Nat.zero_le _,fun p k e hp=>absurd hp (by omega)⟩ ?_
 rintro i ⟨q,rfl,hq,hpr⟩;unfold bK.rP;rw[aT];constructor
 ·intro h;have hlt:q<t.procs.l.length:=by simpa [len]using h
  have hix:=aQ hlt;have hPg:=ζd hlt;have hPl:=(hS.2 _ (List.getElem_mem hlt)).1;generalize t.procs.l[q]=P at hix hPg hPl;unfold bK.W5;refine c6 (fun i:Int=>∃m:Nat,i=m∧m≤P.events.l.length∧∀(k:Nat) e,k<m→P.events.l[k]? = some e→rL t (⟨q,k+1⟩,e)=0) (fun i:Int=>P.events.l.length-i.toNat) ⟨0,rfl,Nat.zero_le _,fun k e hk=>absurd hk (by omega)⟩ ?_
  rintro i ⟨m,rfl,hm,hk⟩;unfold bK.uf;rw[hix,ζb,aT];constructor
  ·intro h;have hml:m<P.events.l.length:=by simpa [len]using h
   have hmg:=ζd hml;have hw:=bW m (by omega)
   have hat:gY t q m P.events.l[m]:=⟨P,hPg,hmg⟩;rw[hw,show (((m+1:Nat)):Int)=(m:Int)+1 from by simp,HJ hS hat (hF (⟨q,m+1⟩,P.events.l[m]) (bU.2 ⟨q,m,hat,rfl⟩)),ζb,aT]
   refine⟨fun h0=>(ai _).2 ⟨⟨m+1,by simp,by omega,fun k e hkm hke=>?_⟩,by simp;omega⟩,fun h0=>(ai _).2 ((ai _).2 ((ai _).2 ⟨fun h=>?_,fun h=>?_⟩))⟩
   ·by_cases ek:k=m
    ·subst ek;rw[hmg]at hke;cases hke;simpa using h0
    ·exact hk k e (by omega) hke
   ·simp only at h;simp[h]at h0
   ·simp[(Co hF).2 h.vR q m _ hat]at h0
  ·intro h;have hge':P.events.l.length≤m:=by simpa [len]using h
   refine(ai _).2 ((ai _).2 ⟨⟨q+1,bW q (by omega),by omega,fun p k e hp hat=>?_⟩,by rw[bW q (by omega)];simp;omega⟩)
   by_cases ep:p=q
   ·subst ep;obtain⟨Q,hQ,hke⟩:=hat;rw[hPg]at hQ;cases hQ;exact hk k e (by have:=(ζe.1 hke).1;omega) hke
   ·exact hpr p k e (by omega) hat
 intro h;have hgq:t.procs.l.length≤q:=by simpa [len]using h
 have hP:uo t:=(Co hF).1 fun p k e hat=>hpr p k e (by obtain⟨P,hP,_⟩:=hat;have:=(ζe.1 hP).1;omega) hat
 have hok:¬EW t↔Ok t:=⟨fun h=>⟨h8.1,h8.2,fun p hp=>hh p (by omega),he,hP,h⟩,fun h=>h.acyc⟩
 rw[ai,dQ];refine(G7 hS hF hP).mono fun b hb=>?_
 rw[aT];exact⟨fun h=>(ai _).2 ⟨fun _=>hok.1 (hb h),fun _=>rfl⟩,fun _=>(VW hS hN hF hP).mono fun r hr=>hr.trans hok⟩
theorem Bo {t:Trace} (hS:Small t) (hN:(aN t).length<1073741824):∃b,cT t=some b∧fD t=some b∧(b=true→VT t):=by
 obtain⟨b,hb,h1,h2⟩:=Lu hS hN;refine⟨b,hb,?_,h1⟩;unfold fD;obtain⟨r,hr,h3⟩:=Jm hS hN;rw[hr,ζb]
 congr 1
 rw[Bool.eq_iff_iff,beq_iff_eq,h3];exact⟨h2,fun h=>(h1 h).ok⟩
end Go.VE
namespace Go.VE
theorem C_ {t:Trace} (hS:Small t) {c:Sl Int} (hcl:c.l.length=t.procs.l.length) {step:Int→Option (Fw Int Unit Unit)}
 (hs:∀i,step i=au (decide (i<(len c))) ((idx c i).bind fun x_1=>(au (decide (x_1<0)) (some true) ((idx c i).bind fun x_2=>(idx t.procs i).bind fun x_3=>some (decide (x_2>(len x_3.events)))):Option Bool).bind fun x_4=>au x_4 (some (.r ())) (some (.n (IntKind.wrap .i64 (i+1))))) (some (.x ()))) :
 Wp ((aX step 0).bind (Fw.elim (fun _=>some true) (fun _=>some false))) fun b=>(b=true↔jY t c.l):=by
 have h1:=hS.1;refine c6 (fun s:Int=>∃n:Nat,s=n∧n≤c.l.length∧∀(p:Nat) (a:Int) (P:bq),p<n→c.l[p]? = some a→t.procs.l[p]? = some P→0≤a∧a≤P.events.l.length) (fun s:Int=>c.l.length-s.toNat) ⟨0,rfl,Nat.zero_le _,fun p a P h=>absurd h (by omega)⟩ ?_
 rintro s ⟨n,rfl,hn,hI⟩;rw[hs,aT];constructor
 ·intro h;have hlt:n<c.l.length:=by simpa [len]using h
  have hlt2:n<t.procs.l.length:=by omega
  have hw:=bW n (by omega)
  rw[aQ hlt,ζb,ζb,aQ hlt2,ζb,eW,ζb,aT];constructor
  ·intro hb;have hb:c.l[n]<0∨c.l[n]>t.procs.l[n].events.l.length:=by simpa [len]using hb
   refine(ai _).2 ((ai _).2 ⟨fun h=>(by cases h),fun hR=>?_⟩)
   have:=hR.2 n _ _ (ζd hlt) (ζd hlt2);omega
  ·intro hb;have hb:0≤c.l[n]∧c.l[n]≤t.procs.l[n].events.l.length:=by simpa [len]using hb
   refine(ai _).2 ⟨⟨n+1,hw,by omega,fun p a P hp ha hP=>?_⟩,by rw[hw];simp;omega⟩
   by_cases e:p=n
   ·subst e;rw[ζd hlt]at ha;cases ha;rw[ζd hlt2]at hP;cases hP;exact hb
   ·exact hI p a P (by omega) ha hP
 ·intro h;have hge:c.l.length≤n:=by simpa [len]using h
  refine(ai _).2 ((ai _).2 ⟨fun _=>⟨hcl,fun p a P ha hP=>hI p a P (by have:=(ζe.1 ha).1;omega) ha hP⟩,fun _=>rfl⟩)
theorem A7 {t:Trace} (hV:VT t) {A:bp 200 aH} (hM:eT t (aN t) A) {p k:Nat} {e:Event} (hat:gY t p k e) (hk:e.kind=3):eH t 2 e.message=(ag A e.message).from_:=by
 obtain⟨y,h1,h2,h3⟩:=uh hV.formed hV.ok.vR (bU.2 ⟨p,k,hat,rfl⟩:((⟨p,k+1⟩:aa),e)∈aN t) hk;have:=hM.snd _ h1 h2;simp only[h3]at this;exact this.symm
theorem EZ (t:Trace) (kind m:Int):eH t kind m=⟨0,0⟩∧(∀x∈aN t,¬(x.2.kind=kind∧x.2.message=m))∨∃z,(eH t kind m,z)∈aN t∧z.kind=kind∧z.message=m:=by
 cases h:(aN t).find? (jA kind m)with
 | some x=>
  obtain⟨a1,a2,a3,a4⟩:=uH h;exact .inr ⟨x.2,by rw[a4];exact a1,a2,a3⟩
 | none=>
  rw[List.find?_eq_none]at h;have h':∀x∈aN t,¬(x.2.kind=kind∧x.2.message=m):=fun x hx=>by have:=h x hx;simpa [jA]using this
  exact .inl ⟨Gq h',h'⟩
theorem EB {t:Trace} (hV:VT t) {r s:aa} {z e:Event} (hr:(r,z)∈aN t) (hz:z.kind=3) (hs:(s,e)∈aN t) (he:e.kind=2) (hm:e.message=z.message):e.peer=r.proc∧z.peer=s.proc:=by
 have h:=hV.ok.vR.has _ hr hz;have hp:0≤z.peer:=by
  rcases hV.formed _ hr with h|⟨_,h,_⟩
  ·simp only at h;omega
  ·exact h
 rw[show z.peer=((z.peer.toNat:Nat):Int)from by omega,rJ]at h
 obtain⟨k,y,ha,h1,h2,h3⟩:=h;have hy:((⟨(z.peer.toNat:Nat),k+1⟩:aa),y)∈aN t:=bU.2 ⟨_,k,ha,rfl⟩;have:=hV.ok.vR.snd _ hy _ hs h1 he (by rw[hm];exact h2)
 simp only at this;subst this;cases uA hy hs rfl;exact⟨h3,by simp only;omega⟩
def xd (t:Trace) (c:List Int) (e:Event):Bool:=(eH t 3 e.message).index==0||decide ((eH t 3 e.message).index>(c[(eH t 3 e.message).proc.toNat]?).getD 0)
theorem wg {α:Type} (f g:α→Bool):∀l:List α,l.countP f=l.countP (fun x=>f x&&g x)+l.countP (fun x=>f x && !g x)
 | []=>rfl
 | x::l=>by
  simp only[List.countP_cons,wg f g l];cases f x <;> cases g x <;> simp <;> omega
theorem ql {α:Type} {f:α→Bool} {l:List α} {n k:Nat}:k∈places f (l.take n)↔k<n∧∃x,l[k]? = some x∧f x=true:=by
 rw[oN];simp only[List.getElem?_take];constructor
 ·rintro⟨x,h1,h2⟩;split at h1
  ·exact⟨‹_›,x,h1,h2⟩
  ·cases h1
 ·rintro⟨h,x,h1,h2⟩;exact⟨x,by rw[if_pos h];exact h1,h2⟩
theorem Nw {t:Trace} (hV:VT t) {A:bp 200 aH} (hM:eT t (aN t) A) {c:List Int} (hC:Cons t A c) {p q:Nat} {P Q:bq} {a b:Int} (hP:t.procs.l[p]? = some P) (hQ:t.procs.l[q]? = some Q) (ha:c[p]? = some a) (hb:c[q]? = some b) :
 (Q.events.l.take b.toNat).countP (kg p)=(P.events.l.take a.toNat).countP fun e=>jH q e && !xd t c e:=by
 have mem:∀{p:Nat} {P:bq} {k:Nat} {e:Event},t.procs.l[p]? = some P→P.events.l[k]? = some e→((⟨p,k+1⟩:aa),e)∈aN t:=fun hP hk=>bU.2 ⟨_,_,⟨_,hP,hk⟩,rfl⟩
 have a0:=(hC.1.2 p a P ha hP).1;have b0:=(hC.1.2 q b Q hb hQ).1;have r1:∀k,k∈places (kg p) (Q.events.l.take b.toNat)→∃(z:Event) (j:Nat) (e:Event),Q.events.l[k]? = some z∧z.kind=3∧P.events.l[j]? = some e∧e.kind=2∧e.peer=q∧e.message=z.message∧eH t 2 z.message=⟨p,j+1⟩∧(j:Int)+1≤a∧(k:Int)+1≤b:=fun k hk=>by
  obtain⟨hkb,z,h1,h2⟩:=ql.1 hk;have h2:z.kind=3∧z.peer=p:=by simpa [kg]using h2
  have hm:=mem hQ h1;obtain⟨e,e1,e2,e3⟩:=uh hV.formed hV.ok.vR hm h2.1;obtain⟨f1,f2⟩:=EB hV hm h2.1 e1 e2 e3;obtain⟨p',j,⟨P',hP',hj⟩,hf⟩:=bU.1 e1;simp only at f1 hf hj;rw[hf]at f2;have hpp:p'=p:=by simp only at f2;omega
  subst hpp;rw[hP]at hP';cases hP';obtain⟨x,hx1,hx2⟩:=hC.2 q k z b ⟨Q,hQ,h1⟩ hb (by omega) h2.1
  rw[←A7 hV hM ⟨Q,hQ,h1⟩ h2.1,hf]at hx1 hx2;simp only[Int.toNat_natCast]at hx1 hx2;rw[ha]at hx1;cases hx1;exact⟨z,j,e,h1,h2.1,hj,e2,f1,e3,hf,hx2,by omega⟩
 have s1:∀k,k∈places (fun e=>jH q e && !xd t c e) (P.events.l.take a.toNat)→∃(e:Event) (j:Nat) (z:Event),P.events.l[k]? = some e∧e.kind=2∧Q.events.l[j]? = some z∧z.kind=3∧z.peer=p∧z.message=e.message∧eH t 3 e.message=⟨q,j+1⟩∧(j:Int)+1≤b:=fun k hk=>by
  obtain⟨hka,e,h1,h2⟩:=ql.1 hk;simp only[ζh,Bool.not_eq_true',xd,Bool.or_eq_false_iff,jH,beq_iff_eq,beq_eq_false_iff_ne,decide_eq_false_iff_not]at h2;obtain⟨⟨g1,g2⟩,g3,g4⟩:=h2;rcases EZ t 3 e.message with⟨h,_⟩|⟨z,z1,z2,z3⟩
  ·rw[h]at g3;exact absurd rfl g3
  ·obtain⟨f1,f2⟩:=EB hV z1 z2 (mem hP h1) g1 z3.symm;obtain⟨q',j,⟨Q',hQ',hj⟩,hf⟩:=bU.1 z1;simp only at hf hj f1 f2;rw[hf]at f1 g4;have hqq:q'=q:=by simp only at f1;omega
   subst hqq;rw[hQ]at hQ';cases hQ';simp only[Int.toNat_natCast,hb,Option.getD_some]at g4;exact⟨e,j,z,h1,g1,hj,z2,f2,z3,hf,by omega⟩
 apply Nat.le_antisymm
 ·refine vJ (fun k=>match Q.events.l[k]? with|some z=>((eH t 2 z.message).index-1).toNat|none=>0) (fun k hk=>?_) fun k k' hk hk' he=>?_
  ·obtain⟨z,j,e,h1,h2,h3,h4,h5,h6,h7,h8,h9⟩:=r1 k hk;rw[h1];simp only[h7];rw[show ((j:Int)+1-1).toNat=j from by omega]
   refine ql.2 ⟨by omega,e,h3,?_⟩
   have hfe:eH t 3 e.message=⟨q,k+1⟩:=by
    rcases EZ t 3 e.message with⟨_,h⟩|⟨z',z1,z2,z3⟩
    ·exact absurd ⟨h2,h6.symm⟩ (h _ (mem hQ h1))
    ·exact hV.ok.vR.rcv _ z1 _ (mem hQ h1) z2 h2 (by rw[z3,h6])
   simp only[xd,hfe,jH,h4,h5,Int.toNat_natCast,hb,Option.getD_some];simp;omega
  ·obtain⟨z,j,e,h1,h2,h3,h4,h5,h6,h7,_⟩:=r1 k hk;obtain⟨z',j',e',h1',h2',h3',h4',h5',h6',h7',_⟩:=r1 k' hk';simp only[h1,h1',h7,h7']at he;have hjj:j=j':=by omega
   subst hjj;rw[h3]at h3';cases h3';have:=hV.ok.vR.rcv _ (mem hQ h1) _ (mem hQ h1') h2 h2' (by rw[←h6,h6'])
   simp only[aa.mk.injEq]at this;omega
 ·refine vJ (fun k=>match P.events.l[k]? with|some e=>((eH t 3 e.message).index-1).toNat|none=>0) (fun k hk=>?_) fun k k' hk hk' he=>?_
  ·obtain⟨e,j,z,h1,h2,h3,h4,h5,h6,h7,h8⟩:=s1 k hk;rw[h1];simp only[h7];rw[show ((j:Int)+1-1).toNat=j from by omega]
   exact ql.2 ⟨by omega,z,h3,by simp[kg,h4,h5]⟩
  ·obtain⟨e,j,z,h1,h2,h3,h4,h5,h6,h7,_⟩:=s1 k hk;obtain⟨e',j',z',h1',h2',h3',h4',h5',h6',h7',_⟩:=s1 k' hk';simp only[h1,h1',h7,h7']at he;have hjj:j=j':=by omega
   subst hjj;rw[h3]at h3';cases h3';have:=hV.ok.vR.snd _ (mem hP h1) _ (mem hP h1') h2 h2' (by rw[←h6,h6'])
   simp only[aa.mk.injEq]at this;omega
theorem XF {t:Trace} (hV:VT t) {A:bp 200 aH} (hM:eT t (aN t) A) {c:List Int} (hC:Cons t A c) {p q:Nat} {P Q:bq} {a b:Int} (hP:t.procs.l[p]? = some P) (hQ:t.procs.l[q]? = some Q) (ha:c[p]? = some a) (hb:c[q]? = some b) :
 under t c p q=((P.events.l.take a.toNat).countP fun e=>jH q e&&xd t c e:Nat):=by
 unfold under;rw[hP,hQ,ha,hb];dsimp only;rw[Nw hV hM hC hP hQ ha hb,wg (jH q) (xd t c)];omega
end Go.VE
namespace Go.VE
def Table (t:Trace) (c:List Int) (rows:List (Sl Int)):Prop:=rows.length=t.procs.l.length∧∀(p:Nat) (r:Sl Int),rows[p]? = some r→r.l.length=t.procs.l.length∧∀(q:Nat) (x:Int),r.l[q]? = some x→x=if p=q then 0 else under t c p q
end Go.VE
namespace Go.VE
def Ce (q:Int) (e:Event):Bool:=if e.kind==2 then !(e.peer==q)else true
theorem N6 {q:Int} {e:Event} (h:Ce q e=false):e.kind=2∧e.peer=q:=by
 unfold Ce at h
 by_cases hk:e.kind=2
 ·simpa [hk]using h
 ·simp[hk]at h
def tj (q:Int) (pos:Event→Int):List Event→Int→Bool→Bool
 | [],_,_=>true
 | e::r,last,missing=>au (Ce q e) (tj q pos r last missing)
  (au (pos e==0) (tj q pos r last true)
  (au (if missing then true else decide (pos e<last)) false (tj q pos r (pos e) missing)))
theorem Ei {q:Int} {pos pos':Event→Int}:∀{l:List Event} {last:Int} {missing:Bool},(∀e∈l,e.kind=2→e.peer=q→pos e=pos' e)→tj q pos l last missing=tj q pos' l last missing
 | [],_,_,_=>rfl
 | e::r,last,missing,h=>by
  have hr:∀{last:Int} {missing:Bool},tj q pos r last missing=tj q pos' r last missing:=Ei fun x hx=>h x (List.mem_cons_of_mem _ hx)
  unfold tj
  cases hc:Ce q e with
  | true=>exact hr
  | false=>
   have hk:=N6 hc;simp only[h e (List.mem_cons_self ..) hk.1 hk.2,hr]
def pos1 (t:Trace) (q:Nat) (e:Event):Int:=match t.procs.l[q]? with
 | some Q=>place (fun y=>y.kind==3&&y.message==e.message) Q.events.l+1
 | none=>0
theorem drop_cons {α:Type} {l:List α} {n:Nat} (h:n<l.length):l.drop n=l[n]::l.drop (n+1):=List.drop_eq_getElem_cons h
def pos2 (A:bp 200 aH) (e:Event):Int:=(ag A e.message).to_.index
theorem pos_eq {t:Trace} (hV:VT t) {A:bp 200 aH} (hA:eT t (aN t) A) {p q:Nat} (hp:p<t.procs.l.length) (hq:q<t.procs.l.length) {e:Event} (he:e∈t.procs.l[p].events.l) (hk:e.kind=2) (hpe:e.peer=q):pos1 t q e=pos2 A e:=by
 obtain⟨k,hke⟩:=List.getElem?_of_mem he;have hat:gY t p k e:=⟨_,ζd hp,hke⟩;have hmem:((⟨p,k+1⟩:aa),e)∈aN t:=bU.2 ⟨p,k,hat,rfl⟩;have hm:0≤e.message∧e.message≤199:=by
  rcases hV.formed _ hmem with h|⟨_,_,_,_,h⟩
  ·simp only at h;omega
  ·exact h
 unfold pos1 pos2;rw[ζd hq];simp only;have rcv:∀(r j:Nat) (y:Event),gY t r j y→y.kind=3→y.message=e.message→(ag A e.message).to_=⟨r,j+1⟩:=fun r j y hy h3 hme=>by
  have:=(hA.rcv (⟨r,j+1⟩,y) (bU.2 ⟨r,j,hy,rfl⟩) h3).1;rw[←hme];exact this
 rcases hA.to e.message hm.1 hm.2 with h0|⟨y,hy,h3,hme⟩
 ·rw[h0];have:t.procs.l[q].events.l.findIdx? (fun y=>y.kind==3&&y.message==e.message)=none:=by
   rw[List.findIdx?_eq_none_iff];intro y hy
   cases hb:(y.kind==3&&y.message==e.message)with
   | false=>rfl
   | true=>
    exfalso;simp only[ζh,beq_iff_eq]at hb;obtain⟨j,hj⟩:=List.getElem?_of_mem hy;have:=rcv q j y ⟨_,ζd hq,hj⟩ hb.1 hb.2;rw[this]at h0;simp only at h0;omega
  unfold place;rw[this];rfl
 ·obtain⟨r,j,hyat,hid⟩:=bU.1 hy;simp only at hyat hid;have hs:=(hA.rcv _ hy h3).2;simp only at hs;have hfy:=hV.formed _ hy;have hpeer:0≤y.peer:=by
   rcases hfy with h|⟨_,h,_⟩
   ·simp only at h;omega
   ·exact h
  obtain⟨pn,hpn⟩:∃pn:Nat,y.peer=pn:=⟨y.peer.toNat,by omega⟩
  rw[hpn,hme]at hs;obtain⟨k2,e2,hat2,g1,g2,g3⟩:=rJ.1 hs;have f1:=hA.snd _ hmem hk;have f2:=hA.snd (⟨pn,k2+1⟩,e2) (bU.2 ⟨pn,k2,hat2,rfl⟩) g1;simp only at f1 f2;rw[g2,f1]at f2;have e1:p=pn∧k=k2:=by
   simp only[aa.mk.injEq]at f2;omega
  obtain⟨rfl,rfl⟩:=e1;have e3:e2=e:=by
   obtain⟨P,h1,h2⟩:=hat;obtain⟨P',h1',h2'⟩:=hat2;rw[h1]at h1';cases h1';rw[h2]at h2';cases h2';rfl
  subst e3;have hrq:r=q:=by
   have:(ag A e2.message).to_.proc=(q:Int):=by rw[←g3,hpe]
   rw[hid]at this;simp only at this;omega
  subst hrq;obtain⟨Q,hQ,hj⟩:=hyat;rw[ζd hq]at hQ;cases hQ;have:t.procs.l[r].events.l.findIdx? (fun y=>y.kind==3&&y.message==e2.message)=some j:=by
   refine xY (fun i hi z hz=>?_) hj (by simp[h3,hme])
   cases hb:(z.kind==3&&z.message==e2.message)with
   | false=>rfl
   | true=>
    exfalso;simp only[ζh,beq_iff_eq]at hb;have:=rcv r i z ⟨_,ζd hq,hz⟩ hb.1 hb.2;rw[hid]at this;simp only[aa.mk.injEq]at this;omega
  unfold place;rw[this,hid]
end Go.VE
namespace Go.VE
theorem zM {t:Trace} (hS:Small t) (hV:VT t) {A:bp 200 aH} (hM:eT t (aN t) A) {c:Sl Int} (hR:jY t c.l):Wp (dn t c) fun b=>(b=true↔iM t A c.l):=by
 have hn8:=hV.few;have hcl:=hR.1;unfold dn dn.W1;refine c6 (fun s:Int=>∃n:Nat,s=n∧n≤c.l.length∧∀(p k:Nat) (e:Event) (a:Int),p<n→gY t p k e→c.l[p]? = some a→(k:Int)<a→e.kind=3→∃b,c.l[(ag A e.message).from_.proc.toNat]? = some b∧(ag A e.message).from_.index≤b) (fun s:Int=>c.l.length-s.toNat) ⟨0,rfl,Nat.zero_le _,fun p k e a h=>absurd h (by omega)⟩ ?_
 rintro s ⟨n,rfl,hn,hI⟩;unfold dn.aG;rw[aT];constructor
 ·intro h;have hlt:n<c.l.length:=by simpa [len]using h
  have hlt2:n<t.procs.l.length:=by omega
  have hPl:=(hS.2 _ (List.getElem_mem hlt2)).1;have hPg:=ζd hlt2;have hcg:=ζd hlt;obtain⟨r1,r2⟩:=hR.2 n _ _ hcg hPg;have hix:=aQ hlt;generalize c.l[n]=a at *;generalize hPe:t.procs.l[n]=P at *;unfold dn.W2;refine c6 (fun s:Int=>∃m:Nat,s=m∧(m:Int)≤a∧∀(k:Nat) (e:Event),k<m→gY t n k e→e.kind=3→∃b,c.l[(ag A e.message).from_.proc.toNat]? = some b∧(ag A e.message).from_.index≤b) (fun s:Int=>a.toNat-s.toNat) ⟨0,rfl,by simpa using r1,fun k e h=>absurd h (by omega)⟩ ?_
  rintro s ⟨m,rfl,hm,hJ⟩;unfold dn.bl;rw[hix,ζb,aT];constructor
  ·intro h;have hma:(m:Int)<a:=by simpa using h
   have hmP:m<P.events.l.length:=by omega
   have hwm:=bW m (by omega)
   have hmu:a.toNat-(IntKind.wrap .i64 ((m:Int)+1)).toNat<a.toNat-((m:Int)).toNat:=by rw[hwm];simp;omega
   have hat:gY t n m P.events.l[m]:=⟨P,hPg,ζd hmP⟩;have hixP:idx t.procs (n:Int)=some P:=by rw[o8];exact hPg
   have same:∀k e,gY t n k e→k=m→e=P.events.l[m]:=fun k e ⟨Q,hQ,he⟩ hk=>by
    subst hk;rw[hPg]at hQ;cases hQ;rw[ζd hmP]at he;cases he;rfl
   unfold tE;rw[hixP,ζb,aQ hmP,ζb,dQ,aT];constructor
   ·intro hk;have hk:P.events.l[m].kind=3:=by simpa using hk
    obtain⟨q,j,z,hz,z1,z2,z3,z4,z5⟩:=pT hV hM hat hk;obtain⟨Q,hQ,_⟩:=hz;have hql:q<c.l.length:=by have:=(ζe.1 hQ).1;omega
    rw[find_eq hS,A7 hV hM hat hk,ζb,z5];simp only;rw[aQ hql,ζb,ai,aT];constructor
    ·intro hle;have hle:(j:Int)+1≤c.l[q]:=by simpa using hle
     refine(ai _).2 ⟨⟨m+1,hwm,by omega,fun k e' hk' hat' he'=>?_⟩,hmu⟩
     by_cases ek:k=m
     ·cases same k e' hat' ek;rw[z5];exact⟨c.l[q],by simp only[Int.toNat_natCast];exact ζd hql,by simp only;omega⟩
     ·exact hJ k e' (by omega) hat' he'
    ·intro hgt;have hgt:¬((j:Int)+1≤c.l[q]):=by simpa using hgt
     refine(ai _).2 ((ai _).2 ((ai _).2 ⟨fun h=>(by cases h),fun hC=>?_⟩))
     obtain⟨b,hb1,hb2⟩:=hC n m _ a hat hcg hma hk;rw[z5]at hb1 hb2;simp only[Int.toNat_natCast]at hb1 hb2;rw[ζd hql]at hb1;cases hb1;omega
   ·intro hk;rw[ai,a_];refine(ai _).2 ⟨⟨m+1,hwm,by omega,fun k e' hk' hat' he'=>?_⟩,hmu⟩
    by_cases ek:k=m
    ·cases same k e' hat' ek;simp[he']at hk
    ·exact hJ k e' (by omega) hat' he'
  ·intro h;have hge:¬(m:Int)<a:=by simpa using h
   refine(ai _).2 ((ai _).2 ⟨⟨n+1,bW n (by omega),by omega,fun p k e a' hp hat ha' hk hk3=>?_⟩,by rw[bW n (by omega)];simp;omega⟩)
   by_cases ep:p=n
   ·subst ep;rw[hcg]at ha';cases ha';exact hJ k e (by omega) hat hk3
   ·exact hI p k e a' (by omega) hat ha' hk hk3
 ·intro h;have hge:c.l.length≤n:=by simpa [len]using h
  refine(ai _).2 ((ai _).2 ⟨fun _ p k e a hat ha hk hk3=>hI p k e a (by have:=(ζe.1 ha).1;omega) hat ha hk hk3,fun _=>rfl⟩)
theorem YY {t:Trace} (hS:Small t) (hv:fD t=some true) (hV:VT t) {A:bp 200 aH} (hM:eT t (aN t) A) {c:Sl Int} (hR:jY t c.l):Wp (c_ t c) fun b=>(b=true↔iM t A c.l):=by
 have hr:Wp (iE t c) fun b=>(b=true↔jY t c.l):=C_ hS hR.1 fun i=>rfl
 obtain⟨b,hb,hb2⟩:=hr;rw[hb2.2 hR]at hb;obtain⟨b',hb',hb2'⟩:=zM hS hV hM hR;unfold c_ qz;rw[hv,ζb,a_,ζb,show (len c==len t.procs)=true from by simp[len,hR.1],ζb,a_,hb,ζb,ζb,a_,hb',ζb,ζb,ai]
 exact hb2'
theorem Code.one {t:Trace} {A:bp 200 aH} {c:List Int} {r s:Int} (h:Code t A c r) (g:Code t A c s):r=s:=by
 rcases h with⟨h,rfl⟩|⟨h1,h2,rfl⟩|⟨h1,h2,rfl⟩|⟨h1,h2,rfl⟩ <;> rcases g with⟨g,rfl⟩|⟨g1,g2,rfl⟩|⟨g1,g2,rfl⟩|⟨g1,g2,rfl⟩ <;> first|rfl|contradiction|exact absurd ‹jY t c›.1 ‹_›
end Go.VE
namespace Go.VE
theorem vi {σ ε ρ γ:Type} {step:σ→Option (Fw σ ε ρ)} {fx:ε→Option γ} {fr:ρ→Option γ} {P:γ→Prop} (n:Nat) (I:Nat→σ→Prop) {s:σ} (h0:I 0 s)
 (h:∀i s,i<n→I i s→Wp (step s) fun w=>match w with|.n s'=>I (i+1) s'|.x e=>Wp (fx e) P|.r b=>Wp (fr b) P)
 (hn:∀s,I n s→Wp (step s) fun w=>match w with|.n _=>False|.x e=>Wp (fx e) P|.r b=>Wp (fr b) P):Wp ((aX step s).bind (Fw.elim fx fr)) P:=by
 have key:∀m i s,i+m=n→I i s→Wp ((aX step s).bind (Fw.elim fx fr)) P:=by
  intro m
  induction m with
  | zero=>
   intro i s hi hI;obtain⟨w,hw,hr⟩:=hn s (by rw[←hi];exact hI)
   rw[eV,hw]
   cases w with
   | n s'=>exact hr.elim
   | x e=>exact hr
   | r b=>exact hr
  | succ m ih=>
   intro i s hi hI;obtain⟨w,hw,hr⟩:=h i s (by omega) hI
   rw[eV,hw]
   cases w with
   | n s'=>exact ih (i+1) s' (by omega) hr
   | x e=>exact hr
   | r b=>exact hr
 exact key n 0 s (Nat.zero_add n) h0
def bump (c:List Int) (p:Nat) (d:Int):List Int:=c.set p ((c[p]?).getD 0+d)
theorem vj:∀{c:List Int} {p:Nat} {a b:Int},c[p]? = some a→(c.set p b).sum=c.sum-a+b
 | [],_,_,_,h=>by simp at h
 | x::c,0,a,b,h=>by simp at h;subst h;simp;omega
 | x::c,p+1,a,b,h=>by
  have:=vj (c:=c) (p:=p) (b:=b) (by simpa using h)
  simp only[List.set_cons_succ,List.sum_cons,this];omega
theorem rz:∀{c:List Int},(∀(p:Nat) a,c[p]? = some a→0≤a)→0≤c.sum
 | [],_=>by simp
 | x::c,h=>by
  have h1:=h 0 x rfl;have h2:=rz (c:=c) fun p a ha=>h (p+1) a (by simpa using ha)
  simp only[List.sum_cons];omega
theorem DH:∀{c:List Int},(∀(p:Nat) a,c[p]? = some a→0≤a)→c.sum=0→∀(p:Nat) a,c[p]? = some a→a=0
 | [],_,_,p,a,ha=>by simp at ha
 | x::c,h,hs,p,a,ha=>by
  have h1:=h 0 x rfl;have hc:∀(p:Nat) a,c[p]? = some a→0≤a:=fun p a ha=>h (p+1) a (by simpa using ha)
  have h2:=rz hc;simp only[List.sum_cons]at hs
  cases p with
  | zero=>simp at ha;omega
  | succ p=>exact DH hc (by omega) p a (by simpa using ha)
theorem Ew:∀{c:List Int} {l:List Nat},c.length=l.length→(∀(i:Nat) a b,c[i]? = some a→l[i]? = some b→a≤(b:Nat))→c.sum≤(l.sum:Nat)
 | [],[],_,_=>by simp
 | x::c,y::l,hl,h=>by
  have h1:=h 0 x y rfl rfl;have h2:=Ew (c:=c) (l:=l) (by simpa using hl) fun i a b ha hb=>h (i+1) a b (by simpa using ha) (by simpa using hb)
  simp only[List.sum_cons];omega
section
variable {t:Trace} {A:bp 200 aH} {c:List Int}
theorem jY.pos (h:jY t c) (p:Nat) (a:Int) (ha:c[p]? = some a):0≤a:=
 (h.2 p a _ ha (ζd (by have:=(ζe.1 ha).1;rw[←h.1];exact this))).1
theorem jY.at_ (h:jY t c) {p:Nat} (hp:p<t.procs.l.length):∃a,c[p]? = some a:=⟨_,ζd (by rw[h.1];exact hp)⟩
theorem jY.sum (h:jY t c):0≤c.sum∧c.sum≤(qc t:Nat):=
 ⟨rz h.pos,Ew (by simp[h.1]) fun i a b ha hb=>by
  rw[List.getElem?_map]at hb
  cases hP:t.procs.l[i]? with
  | none=>simp[hP]at hb
  | some P=>simp[hP]at hb;rw[←hb];exact(h.2 i a P ha hP).2⟩
theorem jY.set (h:jY t c) {p:Nat} {b:Int} {P:bq} (hP:t.procs.l[p]? = some P) (h0:0≤b) (h1:b≤P.events.l.length):jY t (c.set p b):=by
 refine⟨by simp[h.1],fun q a Q ha hQ=>?_⟩
 rw[List.getElem?_set]at ha;split at ha
 ·rename_i e;subst e;split at ha
  ·cases ha;rw[hP]at hQ;cases hQ;exact⟨h0,h1⟩
  ·cases ha
 ·exact h.2 q a Q ha hQ
def YW (t:Trace) (A:bp 200 aH) (c:List Int) (p:Nat):Prop:=∃P e a,t.procs.l[p]? = some P∧c[p]? = some a∧P.events.l[a.toNat]? = some e∧(e.kind=3→∃b,c[(ag A e.message).from_.proc.toNat]? = some b∧(ag A e.message).from_.index≤b)
theorem gY.one {p k:Nat} {e f:Event} (h:gY t p k e) (g:gY t p k f):e=f:=by
 obtain⟨P,a1,a2⟩:=h;obtain⟨Q,b1,b2⟩:=g;rw[a1]at b1;cases b1;rw[a2]at b2;cases b2;rfl
theorem iM.le (h:iM t A c) {p:Nat} {a b:Int} (ha:c[p]? = some a) (hab:a≤b) (hn:∀(k:Nat) e,gY t p k e→a≤k→(k:Int)<b→e.kind=3→∃b',(c.set p b)[(ag A e.message).from_.proc.toNat]? = some b'∧(ag A e.message).from_.index≤b'):iM t A (c.set p b):=by
 have hp:=(ζe.1 ha).1;have up:∀(q:Nat) x,c[q]? = some x→∃y,(c.set p b)[q]? = some y∧x≤y:=fun q x hx=>by
  rw[List.getElem?_set]
  by_cases e:p=q
  ·subst e;rw[ha]at hx;cases hx;exact⟨b,by simp[hp],hab⟩
  ·exact⟨x,by simp[e,hx],Int.le_refl _⟩
 intro q k e x hat hx hk h3;rw[List.getElem?_set]at hx;have old:∀x,c[q]? = some x→(k:Int)<x→∃b',(c.set p b)[(ag A e.message).from_.proc.toNat]? = some b'∧(ag A e.message).from_.index≤b':=fun x hx hk=>by
  obtain⟨y,hy,hy2⟩:=h q k e x hat hx hk h3;obtain⟨z,hz,hz2⟩:=up _ y hy;exact⟨z,hz,by omega⟩
 split at hx
 ·rename_i ep;subst ep;simp[hp]at hx;subst hx
  by_cases hka:(k:Int)<a
  ·exact old a ha hka
  ·exact hn k e hat (by omega) hk h3
 ·exact old x hx hk
theorem DK (hV:VT t) (hM:eT t (aN t) A) {p k:Nat} {e:Event} (hat:gY t p k e) (h3:e.kind=3):∃q j:Nat,(ag A e.message).from_=⟨q,j+1⟩∧q≠p∧CB t ⟨q,j+1⟩ ⟨p,k+1⟩∧∃y,gY t q j y:=by
 obtain⟨q,j,y,hy,y1,y2,y3,y4,y5⟩:=pT hV hM hat h3;have hm:((⟨p,k+1⟩:aa),e)∈aN t:=bU.2 ⟨p,k,hat,rfl⟩;refine⟨q,j,y5,?_,⟨y,e,bU.2 ⟨q,j,hy,rfl⟩,hm,y1,h3,y2⟩,y,hy⟩;rcases hV.formed _ hm with h|⟨_,_,_,h,_⟩
 ·simp only at h;omega
 ·simp only at h;omega
theorem Cons.up (hV:VT t) (hM:eT t (aN t) A) (hC:Cons t A c) {p:Nat} {a:Int} {P:bq} (hP:t.procs.l[p]? = some P) (ha:c[p]? = some a) (hl:a<P.events.l.length):YW t A c p↔Cons t A (c.set p (a+1)):=by
 have h0:=hC.1.pos p a ha;have hp:=(ζe.1 ha).1;have han:((a.toNat:Nat):Int)=a:=by omega
 constructor
 ·rintro⟨Q,e,x,hQ,hx,he,h3⟩;rw[hP]at hQ;cases hQ;rw[ha]at hx;cases hx;refine⟨hC.1.set hP (by omega) (by omega),hC.2.le ha (by omega) fun k f hat hk1 hk2 hf=>?_⟩
  have hka:k=a.toNat:=by omega
  subst hka;cases hat.one ⟨P,hP,he⟩;obtain⟨b,hb,hb2⟩:=h3 hf;rw[List.getElem?_set]
  by_cases e2:p=(ag A e.message).from_.proc.toNat
  ·rw[←e2,ha]at hb;cases hb;exact⟨a+1,by simp[←e2,hp],by omega⟩
  ·exact⟨b,by rw[if_neg e2];exact hb,hb2⟩
 ·intro h;have hel:a.toNat<P.events.l.length:=by omega
  refine⟨P,P.events.l[a.toNat],a,hP,ha,ζd hel,fun h3=>?_⟩
  obtain⟨b,hb,hb2⟩:=h.2 p a.toNat _ (a+1) ⟨P,hP,ζd hel⟩ (by simp[hp]) (by omega) h3
  rw[List.getElem?_set]at hb;split at hb
  ·rename_i e2;obtain⟨q,j,f1,f2,_⟩:=DK hV hM ⟨P,hP,ζd hel⟩ h3;rw[f1]at e2;exact absurd e2.symm (by simpa using f2)
  ·exact⟨b,hb,hb2⟩
noncomputable def AJ (t:Trace) (x:aa):Nat:=by
 classical
 exact(aN t).countP fun z=>decide (Way t z.1 x)
theorem EY (hV:VT t) {x y:aa} (h:Way t x y):AJ t x<AJ t y:=by
 classical
 unfold AJ;refine wJ (fun z _ hz=>?_) ?_
 ·have hz:Way t z.1 x:=by simpa using hz
  simpa using hz.trans h
 ·obtain⟨e,he⟩:=h.l;exact⟨(x,e),he,by simpa using fun k=>hV.ok.acyc ⟨x,k⟩,by simpa using h⟩
theorem ER (x:aa):AJ t x≤(aN t).length:=by
 classical
 unfold AJ;exact List.countP_le_length
theorem Vd.of {p k:Nat} {e:Event} (h:gY t p k e):Vd t ⟨p,k+1⟩:=⟨e,bU.2 ⟨p,k,h,rfl⟩⟩
theorem CM {p:Nat} {P:bq} (hP:t.procs.l[p]? = some P):∀(d k:Nat),k+d+1<P.events.l.length→Way t ⟨p,k+1⟩ ⟨p,((k+d+1:Nat):Int)+1⟩
 | 0,k,h=>.single ⟨Vd.of ⟨P,hP,ζd (by omega)⟩,Vd.of ⟨P,hP,ζd h⟩,.inl (by simp)⟩
 | d+1,k,h=>(CM hP d k (by omega)).tail ⟨Vd.of ⟨P,hP,ζd (show k+d+1<_ by omega)⟩,Vd.of ⟨P,hP,ζd h⟩,.inl (by simp;omega)⟩
theorem Ry {q k:Nat} {b:Int} {Q:bq} {x:aa} (hQ:t.procs.l[q]? = some Q) (h:Way t x ⟨q,k+1⟩) (h1:(k:Int)<b) (h2:b≤Q.events.l.length):Way t x ⟨q,b⟩:=by
 by_cases e:b=k+1
 ·rw[e];exact h
 ·have:=CM hQ (b.toNat-k-2) k (by omega)
  rw[show (((k+(b.toNat-k-2)+1:Nat):Int)+1)=b from by omega]at this
  exact h.trans this
theorem Cons.EJ (hV:VT t) (hM:eT t (aN t) A) (hC:Cons t A c) {p:Nat} {a:Int} (ha:c[p]? = some a) (h0:0<a):Cons t A (c.set p (a-1))∨∃(q:Nat) (b:Int),c[q]? = some b∧0<b∧Way t ⟨p,a⟩ ⟨q,b⟩:=by
 have hp:=(ζe.1 ha).1;have hP:=ζd (show p<t.procs.l.length by rw[←hC.1.1];exact hp)
 have hr:=hC.1.2 p a _ ha hP;refine Classical.byContradiction fun hno=>hno (.inl ⟨hC.1.set hP (by omega) (by omega),fun q k e x hat hx hk h3=>?_⟩)
 obtain⟨x0,hx0,hxx⟩:∃x0,c[q]? = some x0∧x≤x0:=by
  rw[List.getElem?_set]at hx;split at hx
  ·rename_i e2;subst e2;simp[hp]at hx;exact⟨a,ha,by omega⟩
  ·exact⟨x,hx,Int.le_refl _⟩
 obtain⟨y,hy,hy2⟩:=hC.2 q k e x0 hat hx0 (by omega) h3
 obtain⟨r,j,f1,f2,f3,_⟩:=DK hV hM hat h3;rw[f1]at hy hy2 ⊢;simp only[Int.toNat_natCast]at hy hy2 ⊢;rw[List.getElem?_set]
 by_cases e2:p=r
 ·subst e2;rw[ha]at hy;cases hy;refine⟨a-1,by simp[hp],?_⟩
  refine Classical.byContradiction fun hj=>hno (.inr ⟨q,x0,hx0,by omega,?_⟩)
  have:a=(j:Int)+1:=by omega
  subst this;obtain⟨Q,hQ,_⟩:=hat;have hrq:=hC.1.2 q x0 Q hx0 hQ;obtain⟨ye,fe,m1,m2,m3⟩:=f3;exact Ry hQ (.single ⟨⟨ye,m1⟩,⟨fe,m2⟩,.inr ⟨ye,fe,m1,m2,m3⟩⟩) (by omega) hrq.2
 ·exact⟨y,by rw[if_neg e2];exact hy,hy2⟩
theorem Cons.VS (hV:VT t) (hM:eT t (aN t) A) (hC:Cons t A c):∀(n p:Nat) (a:Int),c[p]? = some a→0<a→(aN t).length-AJ t ⟨p,a⟩≤n→∃(q:Nat) (b:Int),c[q]? = some b∧0<b∧Cons t A (c.set q (b-1)):=by
 intro n
 induction n with
 | zero=>
  intro p a ha h0 hn;rcases hC.EJ hV hM ha h0 with h|⟨q,b,_,_,hw⟩
  ·exact⟨p,a,ha,h0,h⟩
  ·have:=EY hV hw;have:=ER (t:=t) ⟨q,b⟩;omega
 | succ n ih=>
  intro p a ha h0 hn;rcases hC.EJ hV hM ha h0 with h|⟨q,b,hb,hb0,hw⟩
  ·exact⟨p,a,ha,h0,h⟩
  ·have:=EY hV hw;have:=ER (t:=t) ⟨q,b⟩;exact ih q b hb hb0 (by omega)
theorem Cons.down (hV:VT t) (hM:eT t (aN t) A) (hC:Cons t A c) (hs:0<c.sum):∃(q:Nat) (b:Int),c[q]? = some b∧0<b∧Cons t A (c.set q (b-1)):=by
 obtain⟨p,a,ha,h0⟩:∃(p:Nat) (a:Int),c[p]? = some a∧0<a:=by
  refine Classical.byContradiction fun hno=>?_
  have hz:∀a∈c,a=0:=fun a ha=>by
   obtain⟨p,hp⟩:=List.mem_iff_getElem?.1 ha;have:=hC.1.pos p a hp;exact Classical.byContradiction fun hne=>hno ⟨p,a,hp,by omega⟩
  have:c.sum=0:=by
   clear hC hs hno
   induction c with
   | nil=>rfl
   | cons x c ih=>simp[hz x (List.mem_cons_self ..),ih fun a ha=>hz a (List.mem_cons_of_mem _ ha)]
  omega
 exact hC.VS hV hM _ p a ha h0 (Nat.le_refl _)
theorem Cons.BR (hV:VT t) (hM:eT t (aN t) A):∀(d:Nat) {c:List Int} {k:Nat},Cons t A c→c.sum=((k+d:Nat):Int)→∃c',Cons t A c'∧c'.sum=(k:Int)
 | 0,c,k,hC,hs=>⟨c,hC,by simpa using hs⟩
 | d+1,c,k,hC,hs=>by
  obtain⟨q,b,hb,hb0,hC2⟩:=hC.down hV hM (by omega)
  exact Cons.BR hV hM d hC2 (by rw[vj hb];omega)
end
end Go.VE
namespace Go.VE
theorem oQ {α:Type} {s:Sl α} {n:Nat} (h:n<s.l.length):decide ((n:Int)<len s)=true:=by simp[len];omega
theorem qb {α:Type} {s:Sl α}:decide ((s.l.length:Int)<len s)=false:=by simp[len]
theorem Y1 {α:Type} {s x:Sl α} (h:s.l.length+x.l.length≤2147483648):∃r,RN s x=some r∧r.l=s.l++x.l:=by
 unfold RN
 by_cases e:x.l=[]
 ·rw[if_pos e];exact⟨s,rfl,by rw[e,List.append_nil]⟩
 ·rw[if_neg e,if_pos h];exact⟨_,rfl,rfl⟩
theorem M5 {α:Type} {s:Sl α} {x:α} (h:s.l.length<2147483648):∃r,kH s x=some r∧r.l=s.l++[x]:=by
 unfold kH;rw[if_pos (by omega)];exact⟨_,rfl,rfl⟩
theorem Zk {α:Type} {s:Sl α} {p:Nat} (h:p<s.l.length):Sl.pz s (p:Int)=some p:=by
 unfold Sl.pz;rw[if_pos ⟨by omega,by simpa using h⟩];rfl
theorem put_eq {α:Type} {s:Sl α} {p:Nat} {x:α} (h:p<s.l.length):∃r,Sl.put s p x=some r∧r.l=s.l.set p x:=by
 unfold Sl.put;rw[if_pos h];exact⟨_,rfl,by cases s <;> first|rfl|(simp[Sl.l]at h)⟩
section
variable {t:Trace} {A:bp 200 aH}
def ZP (t:Trace) (A:bp 200 aH) (c:List Int) (n:Nat):Prop:=∀(p k:Nat) (e:Event) (a:Int),p<n→gY t p k e→c[p]? = some a→(k:Int)<a→e.kind=3→∃b,c[(ag A e.message).from_.proc.toNat]? = some b∧(ag A e.message).from_.index≤b
end
end Go.VE
namespace Go.VE
def ins (s:Sl (Sl Int)):List (List Int):=s.l.map Sl.l
theorem VI {α:Type} (s:Sl α) (i:Nat) (h:i≤s.l.length):∃x,gz s (some (i:Int)) none=some x∧x.l=s.l.drop i:=by
 unfold gz cE;simp only[Option.getD_some,Option.getD_none];rw[if_pos ⟨by omega,by omega,by omega⟩]
 exact⟨_,rfl,by cases s <;> simp[Sl.l]⟩
end Go.VE
namespace Go.VE
def QF (t:Trace) (A:bp 200 aH) (c d:List Int):Prop:=∃(p:Nat) (a:Int),c[p]? = some a∧d=c.set p (a+1)∧Cons t A d
section
variable {t:Trace} {A:bp 200 aH}
theorem E4 {s:Sl (Sl Int)} {d:List Int}:d∈ins s↔∃x∈s.l,x.l=d:=by unfold ins;exact List.mem_map
theorem Y_ {r s:Sl (Sl Int)} {x:Sl Int} (h:r.l=s.l++[x]) {d:List Int}:d∈ins r↔d∈ins s∨d=x.l:=by
 unfold ins;rw[h];simp
def Ib (t:Trace) (A:bp 200 aH) (k:Nat) (s:Sl (Sl Int)):Prop:=∀d,d∈ins s↔Cons t A d∧d.sum=(k:Int)
theorem QF.iff (hV:VT t) (hM:eT t (aN t) A) {k:Nat} {d:List Int}:(∃c,(Cons t A c∧c.sum=(k:Int))∧QF t A c d)↔Cons t A d∧d.sum=((k+1:Nat):Int):=by
 constructor
 ·rintro⟨c,⟨hC,hs⟩,p,a,ha,rfl,hD⟩;exact⟨hD,by rw[vj ha];omega⟩
 ·rintro⟨hD,hs⟩;obtain⟨q,b,hb,hb0,hC⟩:=hD.down hV hM (by omega)
  have hq:=(ζe.1 hb).1;refine⟨_,⟨hC,by rw[vj hb];omega⟩,q,b-1,by simp[hq],?_,hD⟩
  rw[List.set_set,show b-1+1=b from by omega]
  refine List.ext_getElem? fun i=>?_
  rw[List.getElem?_set];split
  ·rename_i e;subst e;simp[hq,hb];exact(ζe.1 hb).2.symm▸rfl
  ·rfl
theorem YM {s:Sl (Sl Int)} {n:Nat} (h:n<s.l.length) {d:List Int}:d∈(s.l.take (n+1)).map Sl.l↔d∈(s.l.take n).map Sl.l∨d=s.l[n].l:=by
 rw[show s.l.take (n+1)=s.l.take n++[s.l[n]]from by rw[List.take_add_one,ζd h];rfl]
 simp only[List.map_append,List.mem_append,List.map_cons,List.map_nil,List.mem_singleton]
theorem E7:∀n:Nat,(List.replicate n (0:Int)).sum=0
 | 0=>rfl
 | n+1=>by rw[List.replicate_succ,List.sum_cons,E7 n];rfl
theorem GG:Cons t A (List.replicate t.procs.l.length 0):=by
 have hz:∀(p:Nat) a,(List.replicate t.procs.l.length (0:Int))[p]? = some a→a=0:=fun p a h=>by
  rw[List.getElem?_replicate]at h;split at h <;> cases h;rfl
 exact⟨⟨by simp,fun p a P ha _=>by rw[hz p a ha];omega⟩,fun p k e a _ ha hk=>by rw[hz p a ha]at hk;omega⟩
theorem Zz {z:Sl Int} (hz:z.l=List.replicate t.procs.l.length 0):Ib t A 0 (Sl.row [z]):=by
 intro d;have:d∈ins (Sl.row [z])↔d=List.replicate t.procs.l.length 0:=by unfold ins;rw[←hz];exact List.mem_singleton
 rw[this];constructor
 ·rintro rfl;exact⟨GG,by rw[E7];rfl⟩
 ·rintro⟨hC,hs⟩;refine List.ext_getElem? fun i=>?_
  rw[List.getElem?_replicate,←hC.1.1];split
  ·rename_i hi;have h:=ζd hi;rw[h,DH hC.1.pos (by simpa using hs) i _ h]
  ·exact List.getElem?_eq_none (by omega)
theorem Ib.none (hV:VT t) (hM:eT t (aN t) A) {k:Nat} {s:Sl (Sl Int)} (h:Ib t A k s) (he:s.l.length=0) {d:List Int} (hD:Cons t A d):d.sum<(k:Int):=by
 refine Classical.byContradiction fun hge=>?_
 have h0:=rz hD.1.pos;obtain⟨c,hC,hs⟩:=Cons.BR hV hM (d.sum.toNat-k) (k:=k) hD (by omega)
 have:=(h c).2 ⟨hC,hs⟩;obtain⟨x,hx,_⟩:=E4.1 this;have:=List.length_pos_of_mem hx;omega
theorem Ib.last {s:Sl (Sl Int)} (h:Ib t A (qc t+1) s):s.l.length=0:=by
 refine Classical.byContradiction fun hne=>?_
 have hx:=List.getElem_mem (show 0<s.l.length by omega)
 have:=(h s.l[0].l).1 (E4.2 ⟨_,hx,rfl⟩);have:=this.1.1.sum;omega
theorem Zc {α:Type} (s:Sl α):decide ((len s)>0) = !decide (s.l.length=0):=by
 by_cases h:s.l.length=0
 ·simp[len,h]
 ·simp[h,len];omega
end
end Go.VE
namespace Go.VE
def ir:List Int→List Int→Int
 | [],[]=>0
 | [],_::_=>-1
 | _::_,[]=>1
 | x::a,y::b=>if x<y then -1 else if x>y then 1 else ir a b
theorem vX:∀a,ir a a=0
 | []=>rfl
 | x::a=>by simp[ir,vX a]
theorem AM:∀a b c,ir a b<0→ir b c<0→ir a c<0
 | [],[],_,h,_=>by simp[ir]at h
 | [],_::_,[],_,h=>by simp[ir]at h
 | [],_::_,_::_,_,_=>by simp[ir]
 | _::_,[],_,h,_=>by simp[ir]at h
 | _::_,_::_,[],_,h=>by simp[ir]at h
 | x::a,y::b,z::c,h1,h2=>by
  have ih:=AM a b c;simp only[ir]at h1 h2 ⊢;split at h1
  ·split at h2
   ·rw[if_pos (by omega)];omega
   ·split at h2
    ·omega
    ·rw[if_pos (by omega)];omega
  ·split at h1
   ·omega
   ·split at h2
    ·rw[if_pos (by omega)];omega
    ·split at h2
     ·omega
     ·rw[if_neg (by omega),if_neg (by omega)];exact ih h1 h2
theorem Au:∀a b,¬ir a b<0→¬ir b a<0→a=b
 | [],[],_,_=>rfl
 | [],_::_,h,_=>by simp[ir]at h
 | _::_,[],_,h=>by simp[ir]at h
 | x::a,y::b,h1,h2=>by
  have ih:=Au a b;simp only[ir]at h1 h2;split at h1
  ·omega
  ·split at h2
   ·omega
   ·rw[ih (by first|assumption|(split at h1 <;> first|assumption|omega)) (by first|assumption|(split at h2 <;> first|assumption|omega)),show x=y from by omega]
theorem KW (a b c:List Int) (h1:¬ir a b<0) (h2:¬ir b c<0):¬ir a c<0:=fun h=>by
 by_cases h3:ir b a<0
 ·exact h2 (AM b a c h3 h)
 ·rw[Au a b h1 h3]at h;exact h2 h
theorem YZ {α:Type} {s:Sl α} {p:α→α→Option Int} {f:α→List Int} (hp:∀x y,x∈s.l→y∈s.l→p x y=some (ir (f x) (f y))) (hl:s.l.length<2147483648):∃r,Rl s p=some r∧r.l.Perm s.l∧r.l.Pairwise fun x y=>¬ir (f y) (f x)<0:=by
 unfold Rl;split
 ·rename_i h;exact⟨s,rfl,List.Perm.refl _,by rw[h];exact List.Pairwise.nil⟩
 ·rename_i x l h;rw[if_pos (by rw[h]at hl;simp at hl;omega)]
  simp only;have ht:∀i j:_root_.Fin (l.length+1),p (x::l)[i.1] (x::l)[j.1]=some (ir (f (x::l)[i.1]) (f (x::l)[j.1])):=fun i j=>hp _ _ (by rw[h];exact List.getElem_mem _) (by rw[h];exact List.getElem_mem _)
  have hlt:(qK fun i j:_root_.Fin (l.length+1)=>p (x::l)[i.1] (x::l)[j.1])=fun i j=>decide (ir (f (x::l)[i.1]) (f (x::l)[j.1])<0):=by
   funext i j;unfold qK;show decide ((p _ _).getD 0<0)=_;rw[ht];rfl
  have hok:zx (fun i j:_root_.Fin (l.length+1)=>p (x::l)[i.1] (x::l)[j.1])=true:=by
   have hl':∀i j,qK (fun i j:_root_.Fin (l.length+1)=>p (x::l)[i.1] (x::l)[j.1]) i j=decide (ir (f (x::l)[i.1]) (f (x::l)[j.1])<0):=fun i j=>by rw[hlt]
   refine List.all_eq_true.2 fun i _=>Bool.and_eq_true_iff.2 ⟨by rw[hl',vX];rfl,List.all_eq_true.2 fun j _=>Bool.and_eq_true_iff.2 ⟨by show (p _ _).isSome=true;rw[ht];rfl,List.all_eq_true.2 fun k _=>Bool.and_eq_true_iff.2 ⟨?_,?_⟩⟩⟩
   ·have:=AM (f (x::l)[i.1]) (f (x::l)[j.1]) (f (x::l)[k.1]);rw[hl',hl',hl'];simp only[Bool.or_eq_true,Bool.not_eq_true',Bool.and_eq_false_iff,decide_eq_true_eq,decide_eq_false_iff_not];omega
   ·have:=KW (f (x::l)[i.1]) (f (x::l)[j.1]) (f (x::l)[k.1]);rw[hl',hl',hl'];simp only[Bool.or_eq_true,Bool.not_eq_true',decide_eq_true_eq,decide_eq_false_iff_not];omega
  rw[if_pos hok];have hswo:=(uI hok).2;have hs:=Sort.pdq_sorts _ hswo (List.finRange (l.length+1)).toArray 0 (l.length+1) (Lib.bitLen (l.length+1)) true true (Nat.zero_le _) (by simp) (Or.inl rfl)
  rw[←DG]at hs;generalize zc l.length _=d at hs;obtain⟨⟨hsz,_,hperm⟩,hsort⟩:=hs;have hsz:d.size=l.length+1:=by simpa using hsz
  have hre:∀y:List α,(s.re y).l=y:=fun y=>by cases s <;> first|rfl|(simp[Sl.l]at h)
  refine⟨_,rfl,?_,?_⟩
  ·rw[hre,h];have h1:d.extract 0 (l.length+1)=d:=Array.ext (by simp[hsz]) fun i h1 h2=>by simp
   rw[h1]at hperm;have h2:((List.finRange (l.length+1)).toArray.extract 0 (l.length+1)).toList=List.finRange (l.length+1):=by simp[List.take_of_length_le]
   rw[h2]at hperm;refine(hperm.map _).trans ?_;rw[show (List.finRange (l.length+1)).map (fun i=>(x::l)[i.1])=x::l from ?_]
   exact List.ext_getElem (by simp) fun i h1 h2=>by simp
  ·rw[hre,List.pairwise_map,List.pairwise_iff_getElem];intro i j hi hj hij;have:=hsort i j (Nat.zero_le _) hij (by simpa [hsz]using hj)
   rw[hlt]at this;simp only[Array.length_toList]at hi hj;simp only[getElem!_pos d i hi,getElem!_pos d j hj,decide_eq_false_iff_not]at this;simpa using this
end Go.VE
namespace Go.VE
theorem YN {α:Type} {s:Sl α} {p:α→α→Option Bool} {f:α→List Int} (hp:∀x y,x∈s.l→y∈s.l→p x y=some (decide (f x=f y))) (hl:s.l.length<2147483648) (hs:s.l.Pairwise fun x y=>¬ir (f y) (f x)<0) :
 ∃r,UL s p=some r∧(r.l.map f).Nodup∧(∀d,d∈r.l.map f↔d∈s.l.map f)∧r.l.length≤s.l.length:=by
 have hn:∀i,i<s.l.length→0<i→∃(h1:i<s.l.length) (h2:i-1<s.l.length),zf s.l p i=some (decide (f s.l[i]=f s.l[i-1])):=fun i h h0=>by
  refine⟨h,by omega,?_⟩
  unfold zf;rw[ζd h,ζd (show i-1<s.l.length by omega)]
  exact hp _ _ (List.getElem_mem _) (List.getElem_mem _)
 unfold UL;rw[if_pos ⟨by omega,List.all_eq_true.2 fun i hi=>by
  by_cases h:i=0
  ·subst h;rfl
  ·obtain⟨_,_,e⟩:=hn i (List.mem_range.1 hi) (by omega)
   rw[e];simp⟩]
 have hcut:∀y:List α,(s.l=[]→y=[])→(s.Hx y).l=y:=fun y hy=>by cases s <;> first|rfl|exact(hy rfl).symm
 have hK:∀i,i∈kept (fun i=>(zf s.l p i).getD false) s.l.length↔i<s.l.length∧(i=0∨(zf s.l p i).getD false=false):=fun i=>by unfold kept;simp[List.mem_filter]
 have hlen:=ES (fun i=>(zf s.l p i).getD false) s.l.length
 have hpw:(kept (fun i=>(zf s.l p i).getD false) s.l.length).Pairwise (·<·):=by unfold kept;exact List.pairwise_lt_range.filter _
 generalize kept (fun i=>(zf s.l p i).getD false) s.l.length=K at *
 have hre:(s.Hx (K.filterMap (s.l[·]?))).l=K.filterMap (s.l[·]?):=hcut _ fun h=>by rw[h];simp
 refine⟨_,rfl,?_,fun d=>?_,?_⟩
 ·rw[hre,List.Nodup,List.pairwise_map,List.pairwise_filterMap];refine hpw.imp_of_mem ?_;intro i j hi hj hij x hx y hy hxy;obtain⟨hjl,hj0⟩:=(hK j).1 hj;obtain⟨h1,h2,e⟩:=hn j hjl (by omega)
  rw[e]at hj0;have hne:¬f s.l[j]=f s.l[j-1]:=by
   rcases hj0 with h|h
   ·omega
   ·simpa using h
  rw[ζd h1]at hy;cases hy;have hil:i<s.l.length:=by omega
  rw[ζd hil]at hx;cases hx;have hpi:=List.pairwise_iff_getElem.1 hs;have a1:=hpi (j-1) j h2 h1 (by omega)
  refine hne (Au _ _ a1 ?_)
  by_cases e2:i=j-1
  ·subst e2;rw[←hxy,vX];omega
  ·have a2:=hpi i (j-1) hil h2 (by omega)
   rw[hxy]at a2;exact a2
 ·rw[hre];simp only[List.mem_map,List.mem_filterMap];constructor
  ·rintro⟨x,⟨i,_,hx⟩,rfl⟩;exact⟨x,List.mem_of_getElem? hx,rfl⟩
  ·rintro⟨x,hx,rfl⟩;obtain⟨i,hi⟩:=List.mem_iff_getElem?.1 hx;have key:∀(i:Nat) x,s.l[i]? = some x→∃y,(∃j,j∈K∧s.l[j]? = some y)∧f y=f x:=by
    intro i
    induction i with
    | zero=>intro x hx;exact⟨x,⟨0,(hK 0).2 ⟨(ζe.1 hx).1,.inl rfl⟩,hx⟩,rfl⟩
    | succ i ih=>
     intro x hx;have hlt:=(ζe.1 hx).1;obtain⟨h1,h2,e⟩:=hn (i+1) hlt (by omega)
     have hxe:s.l[i+1]=x:=(ζe.1 hx).2
     by_cases hg:f s.l[i+1]=f s.l[i+1-1]
     ·obtain⟨y,hy,hf⟩:=ih _ (ζd (show i<s.l.length by omega))
      exact⟨y,hy,by rw[hf,←hxe];exact hg.symm⟩
     ·exact⟨x,⟨i+1,(hK _).2 ⟨hlt,.inr (by rw[e];simpa using hg)⟩,hx⟩,rfl⟩
   exact key i x hi
 ·rw[hre];exact Nat.le_trans (List.length_filterMap_le ..) hlen
theorem Kc {a b:Sl Int} (hl:a.l.length<1073741824):c9 a b=some (decide (a.l=b.l)):=by
 refine Wp.eq ?_;unfold c9;rw[aT];refine⟨fun h=>?_,fun h=>(ai _).2 ?_⟩
 ·have h:(a.l.length:Int)=b.l.length:=by simpa [len]using h
  have h:a.l.length=b.l.length:=by omega
  unfold c9.W1;refine vi a.l.length (fun n s=>s=(n:Int)∧∀i,i<n→a.l[i]? = b.l[i]?) ⟨rfl,fun i h=>absurd h (by omega)⟩ ?_ ?_
  ·rintro n _ hlt ⟨rfl,hI⟩;unfold c9.aG;have hb:n<b.l.length:=by omega
   rw[show decide ((n:Int)<len a)=true from oQ hlt,a_,aQ hlt,ζb,aQ hb,ζb,aT];refine⟨fun he=>(ai _).2 ⟨bW n (by omega),fun i hi=>?_⟩,fun he=>(ai _).2 ((ai _).2 ?_)⟩
   ·by_cases e:i=n
    ·subst e;rw[ζd hlt,ζd hb];simpa using he
    ·exact hI i (by omega)
   ·refine(decide_eq_false fun e=>?_).symm
    have h1:a.l[n]? = b.l[n]? := by rw[e]
    rw[ζd hlt,ζd hb]at h1;simp at he h1;exact he h1
  ·rintro _ ⟨rfl,hI⟩;unfold c9.aG;rw[qb,bM,ai];refine(ai _).2 (decide_eq_true (List.ext_getElem? fun i=>?_)).symm
   by_cases hi:i<a.l.length
   ·exact hI i hi
   ·rw[List.getElem?_eq_none (by omega),List.getElem?_eq_none (by omega)]
 ·refine(decide_eq_false fun e=>?_).symm
  simp[len,e]at h
end Go.VE
namespace Go.VE
section
variable {t:Trace} {A:bp 200 aH}
def Zp (A:bp 200 aH) (e:Event):aa:=if e.kind=3 then(ag A e.message).from_ else ⟨0,0⟩
end
end Go.VE
namespace Go.VE
section
variable {t:Trace} {A:bp 200 aH}
structure ZF (t:Trace) (A:bp 200 aH) (k:Nat) (o:Sl (Sl (Sl Int))):Prop where
 nd:(o.l.flatMap ins).Nodup
 mem:∀d,d∈o.l.flatMap ins↔Cons t A d∧d.sum<(k:Int)
end
end Go.VE
namespace Go.VE
def Ys (c d:List Int):Prop:=∀(p:Nat) (a b:Int),c[p]? = some a→d[p]? = some b→a≤b
section
variable {t:Trace} {A:bp 200 aH}
end
end Go.VE
namespace Go.VE
theorem Tc {S:List Int} (hu:Up S) {i:Nat} {k x:Int} (hk:S[i]? = some k):k≤x↔i<S.countP (fun a=>decide (a≤x)):=by
 have hi:=(ζe.1 hk).1;have hs:S.countP (fun a=>decide (a≤x))=(S.take i).countP (fun a=>decide (a≤x))+(S.drop i).countP (fun a=>decide (a≤x)):=by
  rw[←List.countP_append,List.take_append_drop]
 have hd:S.drop i=k::S.drop (i+1):=by rw[List.drop_eq_getElem_cons hi];congr 1;exact(ζe.1 hk).2
 constructor
 ·intro hx;have h1:(S.take i).countP (fun a=>decide (a≤x))=i:=by
   rw[List.countP_eq_length.2 ?_,List.length_take];omega;intro a ha;obtain⟨j,hj⟩:=List.mem_iff_getElem?.1 ha;rw[List.getElem?_take]at hj;split at hj
   ·rename_i hji;have:=hu j i a k hji hj hk;simp;omega
   ·cases hj
  rw[hs,h1,hd,List.countP_cons];simp[hx]
 ·intro h;refine Classical.byContradiction fun hx=>?_
  have h1:(S.drop i).countP (fun a=>decide (a≤x))=0:=by
   rw[List.countP_eq_zero];intro a ha;obtain⟨j,hj⟩:=List.mem_iff_getElem?.1 ha;rw[List.getElem?_drop]at hj
   by_cases h0:j=0
   ·subst h0;rw[Nat.add_zero,hk]at hj;cases hj;simpa using hx
   ·have:=hu i (i+j) k a (by omega) hk hj;simp;omega
  have:=List.countP_le_length (p:=fun a=>decide (a≤x)) (l:=S.take i)
  rw[List.length_take]at this;omega
theorem R2 (f:Event→Bool):∀(l:List Event) (j:Int) (a:Int),a∈mY f j l→a≤j+l.length
 | [],j,a,h=>by simp[mY]at h
 | x::l,j,a,h=>by
  have ih:=R2 f l (j+1) a;simp only[mY]at h;split at h
  ·rcases List.mem_cons.1 h with h|h
   ·subst h;simp;omega
   ·have:=ih h;simp;omega
  ·have:=ih h;simp;omega
section
variable {t:Trace} {A:bp 200 aH}
def yx (t:Trace) (p q:Nat) (d:List Int):Nat:=match t.procs.l[p]?,d[p]? with
 | some P,some a=>(P.events.l.take a.toNat).countP (jH q)
 | _,_=>0
theorem V_ {c d:List Int} (hC:Cons t A c) (hD:Cons t A d) (hle:Ys c d) {p q:Nat} (hp:p<t.procs.l.length) (hq:q<t.procs.l.length) (hn:yx t p q d≤yx t p q c):under t d p q≤under t c p q:=by
 obtain⟨a,ha⟩:=hC.1.at_ hp;obtain⟨b,hb⟩:=hC.1.at_ hq;obtain⟨a',ha'⟩:=hD.1.at_ hp;obtain⟨b',hb'⟩:=hD.1.at_ hq;have h1:=ζd hp;have h2:=ζd hq;unfold yx at hn;unfold under;rw[h1,ha,ha']at hn;rw[h1,h2,ha,hb,ha',hb'];simp only at hn ⊢;have hbb:=hle q b b' hb hb';have hm:(t.procs.l[q].events.l.take b.toNat).countP (kg p)≤(t.procs.l[q].events.l.take b'.toNat).countP (kg p):=by
  have:t.procs.l[q].events.l.take b.toNat=(t.procs.l[q].events.l.take b'.toNat).take b.toNat:=by rw[List.take_take,Nat.min_eq_left (by omega)]
  rw[this];exact(List.take_sublist _ _).countP_le
 omega
theorem Y8 {d:List Int} (hD:jY t d) {p:Nat} (hp:p<t.procs.l.length) {q i:Nat} {k a:Int} (hk:(mY (jH q) 0 t.procs.l[p].events.l)[i]? = some k) (ha:d[p]? = some a):k≤a↔i<yx t p q d:=by
 have h0:=hD.pos p a ha;rw[Tc (Cm _ _ 0) hk];have:=wh (jH q) t.procs.l[p].events.l 0 a.toNat;rw[show (0:Int)+(a.toNat:Nat)=a from by omega]at this
 rw[this];unfold yx;rw[ζd hp,ha]
theorem Zs {d:List Int} (hD:jY t d) {p:Nat} (hp:p<t.procs.l.length) (q:Nat):yx t p q d≤(mY (jH q) 0 t.procs.l[p].events.l).length:=by
 obtain⟨a,ha⟩:=hD.at_ hp;have h0:=hD.pos p a ha;have:=wh (jH q) t.procs.l[p].events.l 0 a.toNat;unfold yx;rw[ζd hp,ha];simp only;rw[←this];exact List.countP_le_length
end
end Go.VE
namespace Go.VE
section
variable {t:Trace} {A:bp 200 aH}
theorem Xk (hS:Small t) (hv:cT t=some true) (hV:VT t) (hM:eT t (aN t) A) {c:Sl Int} (hC:Cons t A c.l) {p q:Nat} (hp:p<t.procs.l.length) (hq:q<t.procs.l.length) :
 bT t (Sl.row [c]:Sl (Sl Int)) (Sl.row [(p:Int),(q:Int)]:Sl Int)=some 0:=by
 refine Wp.eq ?_;have hcl:=hC.1.1;unfold bT tw;rw[hv,ζb,a_,sw (f:=fun z=>(gG z t).getD false) (fun z _=>mO.ok ((ai _).2 trivial)) (by simp[Sl.l]),ζb,ζb,ζb]
 have hany:(!((Sl.row [c]:Sl (Sl Int)).l.any fun z=>(gG z t).getD false))=true:=by
  simp[Sl.l,gG,len,hcl] <;> exact congrArg Int.ofNat hcl
 rw[hany,a_];unfold bT.W1;refine vi 1 (fun n s=>s=(n:Int)) rfl ?_ ?_
 ·rintro n _ hn rfl;obtain rfl:n=0:=by omega
  unfold bT.aG;rw[show decide (((0:Nat):Int)<len (Sl.row [c]:Sl (Sl Int)))=true from rfl,a_,show idx (Sl.row [c]:Sl (Sl Int)) ((0:Nat):Int)=some c from rfl,ζb,dQ];refine(zu hS hcl).mono fun b hb=>?_
  rw[hb.2 hC.1,a_];exact(ai _).2 rfl
 ·rintro _ rfl;unfold bT.aG;rw[show decide (((1:Nat):Int)<len (Sl.row [c]:Sl (Sl Int)))=false from rfl,bM,ai];have proc:∀r:Nat,r<t.procs.l.length→qt t r=some true:=fun r hr=>by
   unfold qt;rw[show decide ((r:Int)≥0)=true from by simp,a_,oQ hr];rfl
  show Wp (bT.W2 (Sl.row [c]) (Sl.row [(p:Int),(q:Int)]) 2 0 t) _;unfold bT.W2;refine vi 2 (fun n s=>s=(n:Int)) rfl ?_ ?_
  ·rintro n _ hn rfl;unfold bT.bl;rw[show decide ((n:Int)<2)=true from by simp;omega,a_]
   have hx:∃r:Nat,idx (Sl.row [(p:Int),(q:Int)]) (n:Int)=some (r:Int)∧r<t.procs.l.length:=by
    rcases (show n=0∨n=1 by omega)with rfl|rfl
    ·exact⟨p,rfl,hp⟩
    ·exact⟨q,rfl,hq⟩
   obtain⟨r,h1,h2⟩:=hx;rw[h1,ζb,proc r h2,ζb,a_];exact(ai _).2 (bW n (by omega))
  ·rintro _ rfl;unfold bT.bl;rw[show decide (((2:Nat):Int)<2)=false from rfl,bM,ai];show Wp (bT.W3 (Sl.row [c]) 1 0 t) _;unfold bT.W3;refine vi 1 (fun n s=>s=(n:Int)) rfl ?_ ?_
   ·rintro n _ hn rfl;obtain rfl:n=0:=by omega
    unfold bT.dI;rw[show decide (((0:Nat):Int)<1)=true from rfl,a_,show idx (Sl.row [c]:Sl (Sl Int)) ((0:Nat):Int)=some c from rfl,ζb];unfold rD;rw[dQ,dQ];refine(zw hS hv hV hM hC.1).mono fun r hr=>?_
    rw[ai,hr.2 hC.2];exact(ai _).2 rfl
   ·rintro _ rfl;unfold bT.dI;rw[show decide (((1:Nat):Int)<1)=false from rfl,bM,ai];exact(ai _).2 rfl
theorem YP (hS:Small t) (hv:cT t=some true) (kind m:Int):fI t kind m=some (match (aN t).find? (jA kind m)with|some x=>(x.1,true)|none=>(⟨0,0⟩,false)):=by
 refine Wp.eq ?_;unfold fI;rw[hv,ζb,a_];unfold fT;rw[ζb];unfold fI.E1;rw[oK hS,ζb];refine uj (fun k _=>((aN t).take k).find? (jA kind m)=none) (by simp) ?_ ?_
 ·intro k y _ hy hI;have htk:(aN t).take (k+1)=(aN t).take k++[y]:=by rw[List.take_add_one,hy];rfl
  have hh:(y.2.kind==kind&&y.2.message==m)=jA kind m y:=rfl;unfold fI.mJ;rw[fP,ζb,hh,aT];constructor
  ·intro hc;refine(ai _).2 ((ai _).2 ?_);have:(aN t).find? (jA kind m)=some y:=by
    rw[←List.take_append_drop (k+1) (aN t),htk,List.find?_append,List.find?_append,hI];simp[hc]
   rw[this]
  ·intro hc;rw[ai,htk,List.find?_append,hI];simp[hc]
 ·intro _ hI;rw[List.take_length]at hI;exact(ai _).2 (by rw[hI])
end
end Go.VE
namespace Go.VE
theorem Zl {a b:Sl Int} (hn:a.l.length=b.l.length) (hl:a.l.length<1073741824):Wp (dy a b) fun r=>(r=true↔Ys a.l b.l):=by
 unfold dy;rw[show (len a==len b)=true from by simp[len,hn],a_]
 unfold dy.W1;refine vi a.l.length (fun n s=>s=(n:Int)∧∀(p:Nat) x y,p<n→a.l[p]? = some x→b.l[p]? = some y→x≤y) ⟨rfl,fun p x y h=>absurd h (by omega)⟩ ?_ ?_
 ·rintro n _ hlt ⟨rfl,hI⟩;have hb:n<b.l.length:=by omega
  unfold dy.aG;rw[show decide ((n:Int)<len a)=true from oQ hlt,a_,aQ hlt,ζb,aQ hb,ζb,aT];constructor
  ·intro h;have h:a.l[n]>b.l[n]:=by simpa using h
   refine(ai _).2 ((ai _).2 ⟨fun h=>(by cases h),fun k=>?_⟩)
   have:=k n _ _ (ζd hlt) (ζd hb);omega
  ·intro h;have h:¬a.l[n]>b.l[n]:=by simpa using h
   refine(ai _).2 ⟨bW n (by omega),fun p x y hp hx hy=>?_⟩
   by_cases e:p=n
   ·subst e;rw[ζd hlt]at hx;rw[ζd hb]at hy;cases hx;cases hy;omega
   ·exact hI p x y (by omega) hx hy
 ·rintro _ ⟨rfl,hI⟩;unfold dy.aG;rw[qb,bM,ai];exact(ai _).2 ⟨fun _ p x y hx hy=>hI p x y (ζe.1 hx).1 hx hy,fun _=>rfl⟩
section
variable {t:Trace} {A:bp 200 aH}
theorem IU (hV:VT t) {p:Nat} {P:bq} (hP:t.procs.l[p]? = some P):P.events.l.length≤64:=by
 have h:=hV.ok.heads p (ζe.1 hP).1;unfold om at h;rw[hP]at h;simp only at h;split at h
 ·split at h
  ·cases h
  ·split at h
   ·split at h
    ·cases h
    ·omega
   ·rename_i h2;exact absurd h h2
 ·cases h
theorem Y4 (hV:VT t):qc t<1073741824:=by
 have key:∀l:List bq,(∀P∈l,P.events.l.length≤64)→(l.map fun P=>P.events.l.length).sum≤64*l.length:=by
  intro l
  induction l with
  | nil=>intro _;simp
  | cons P l ih=>
   intro h;have h1:=h P (List.mem_cons_self ..);have h2:=ih fun Q hQ=>h Q (List.mem_cons_of_mem _ hQ)
   simp only[List.map_cons,List.sum_cons,List.length_cons];omega
 have:=key t.procs.l fun P hP=>by
  obtain⟨p,hp⟩:=List.mem_iff_getElem?.1 hP;exact IU hV hp
 have:=hV.few;unfold qc;omega
theorem Y9 {x:Int} {n:Nat} (h0:0≤x) (hn:0<n):Sg x (n:Int)=some (((x.toNat % n:Nat)):Int):=by
 unfold Sg;rw[if_neg (by omega),Int.tmod_eq_emod_of_nonneg h0]
 congr 1
 rw[Int.natCast_emod,Int.toNat_of_nonneg h0]
end
end Go.VE
namespace Go.VE
abbrev aY (m:Option Bool) (P:Prop):Prop:=Wp m fun b=>(b=true↔P)
theorem aY.eq {m:Option Bool} {P:Prop} (h:aY m P):∃b,m=some b∧(b=true↔P):=h
theorem aY.iff {m:Option Bool} {P Q:Prop} (h:aY m P) (e:P↔Q):aY m Q:=h.mono fun b hb=>hb.trans e
theorem fh {b:Bool} {P:Prop} (h:b=true↔P):aY (some b) P:=(ai _).2 h
theorem aY.some {m:Option Bool} {P:Prop} (h:aY m P):aY (m.bind fun x=>Option.some x) P:=by
 obtain⟨b,hb,h⟩:=h;rw[hb];exact fh h
theorem aY.same {m n:Option Bool} {P:Prop} (h:aY m P) (k:aY n P):∃b,m=Option.some b∧n=Option.some b∧(b=true↔P):=by
 obtain⟨b,hb,h⟩:=h;obtain⟨d,hd,k⟩:=k;have:b=d:=by rw[Bool.eq_iff_iff,h,k]
 subst this;exact⟨b,hb,hd,h⟩
theorem aY.and {m n:Option Bool} {P Q:Prop} (h:aY m P) (k:P→aY n Q) {f:Bool→Option Bool} (hf:∀b,f b=au b (n.bind fun x=>Option.some x) (Option.some false)):aY (m.bind f) (P∧Q):=by
 obtain⟨b,hb,h⟩:=h;rw[hb,ζb,hf]
 cases b with
 | true=>exact((k (h.1 rfl)).some).iff ⟨fun q=>⟨h.1 rfl,q⟩,fun q=>q.2⟩
 | false=>exact fh ⟨fun e=>(nomatch e),fun q=>(h.2 q.1).symm▸rfl⟩
theorem aY.Gr {m:Option Bool} {b:Bool} {P Q:Prop} (h:aY m P) (k:P→(b=true↔Q)) {f:Bool→Option Bool} (hf:∀x,f x=au x (Option.some b) (Option.some false)):aY (m.bind f) (P∧Q):=by
 obtain⟨x,hx,h⟩:=h;rw[hx,ζb,hf]
 cases x with
 | true=>exact fh ((k (h.1 rfl)).trans ⟨fun q=>⟨h.1 rfl,q⟩,fun q=>q.2⟩)
 | false=>exact fh ⟨fun e=>(nomatch e),fun q=>(h.2 q.1).symm▸rfl⟩
theorem aY.Me {m n:Option Bool} {P Q:Prop} (h:aY m (¬P)) (k:P→aY n Q) {f:Bool→Option Bool} (hf:∀b,f b=au b (Option.some true) (n.bind fun x=>Option.some (!x))):aY (m.bind f) (¬(P∧Q)):=by
 obtain⟨b,hb,h⟩:=h;rw[hb,ζb,hf]
 cases b with
 | true=>exact fh ⟨fun _ q=>(h.1 rfl) q.1,fun _=>rfl⟩
 | false=>
  have hp:P:=Classical.byContradiction fun hn=>(nomatch h.2 hn)
  obtain⟨d,hd,k⟩:=k hp;rw[bM,hd,ζb];refine fh ?_
  cases d with
  | true=>exact⟨fun e=>(nomatch e),fun q=>absurd ⟨hp,k.1 rfl⟩ q⟩
  | false=>exact⟨fun _ q=>(nomatch k.2 q.2),fun _=>rfl⟩
theorem aY.Ig {m:Option Bool} {b:Bool} {P Q:Prop} (h:aY m (¬P)) (k:P→(b=true↔Q)) {f:Bool→Option Bool} (hf:∀x,f x=au x (Option.some true) (Option.some (!b))):aY (m.bind f) (¬(P∧Q)):=by
 obtain⟨x,hx,h⟩:=h;rw[hx,ζb,hf]
 cases x with
 | true=>exact fh ⟨fun _ q=>(h.1 rfl) q.1,fun _=>rfl⟩
 | false=>
  have hp:P:=Classical.byContradiction fun hn=>(nomatch h.2 hn)
  rw[bM];refine fh ?_
  cases b with
  | true=>exact⟨fun e=>(nomatch e),fun q=>absurd ⟨hp,(k hp).1 rfl⟩ q⟩
  | false=>exact⟨fun _ q=>(nomatch (k hp).2 q.2),fun _=>rfl⟩
theorem aY.JH {m n:Option Bool} {P Q:Prop} (h:aY m P) (k:P→aY n Q) {f:Bool→Option Bool} (hf:∀b,f b=au b (n.bind fun x=>Option.some (!x)) (Option.some true)):aY (m.bind f) (¬(P∧Q)):=by
 obtain⟨b,hb,h⟩:=h;rw[hb,ζb,hf]
 cases b with
 | true=>
  obtain⟨d,hd,k⟩:=k (h.1 rfl);rw[a_,hd,ζb];refine fh ?_
  cases d with
  | true=>exact⟨fun e=>(nomatch e),fun q=>absurd ⟨h.1 rfl,k.1 rfl⟩ q⟩
  | false=>exact⟨fun _ q=>(nomatch k.2 q.2),fun _=>rfl⟩
 | false=>exact fh ⟨fun _ q=>(nomatch h.2 q.1),fun _=>rfl⟩
theorem Cy {step:Int→Option (Fw Int Unit Unit)} {n:Nat} {P:Nat→Prop} (h:∀i,i<n→(∀j,j<i→P j)→Wp (step (i:Int)) fun w=>P i∧w=.n ((i+1:Nat):Int)∨¬P i∧w=.r ()) (he:(∀j,j<n→P j)→step (n:Int)=some (.x ())) :
 Wp (aX step 0) fun w=>(∀i,i<n→P i)∧w=.x ()∨(¬∀i,i<n→P i)∧w=.r ():=by
 have key:∀m k,k+m=n→(∀j,j<k→P j)→Wp (aX step (k:Int)) fun w=>(∀i,i<n→P i)∧w=.x ()∨(¬∀i,i<n→P i)∧w=.r ():=by
  intro m
  induction m with
  | zero=>
   intro k hk hp;have:k=n:=by omega
   subst this;rw[eV,he hp,ζb];exact(ai _).2 (.inl ⟨hp,rfl⟩)
  | succ m ih=>
   intro k hk hp;rw[eV,dQ];refine(h k (by omega) hp).mono ?_
   rintro w (⟨h1,rfl⟩|⟨h1,rfl⟩)
   ·exact ih (k+1) (by omega) fun j hj=>by
     rcases Nat.lt_or_eq_of_le (Nat.lt_succ_iff.1 hj)with hj|rfl
     ·exact hp j hj
     ·exact h1
   ·exact(ai _).2 (.inr ⟨fun k2=>h1 (k2 k (by omega)),rfl⟩)
 exact key n 0 (by omega) fun j hj=>absurd hj (by omega)
theorem lV {step:Int→Option (Fw Int Unit Unit)} {n:Nat} {P:Nat→Prop} (h:∀i,i<n→(∀j,j<i→P j)→Wp (step (i:Int)) fun w=>P i∧w=.n ((i+1:Nat):Int)∨¬P i∧w=.r ()) (he:(∀j,j<n→P j)→step (n:Int)=some (.x ())) :
 aY ((aX step 0).bind (Fw.elim (fun _=>some true) (fun _=>some false))) (∀i,i<n→P i):=by
 rw[aY,dQ];refine(Cy h he).mono ?_;rintro w (⟨h1,rfl⟩|⟨h1,rfl⟩)
 ·exact fh ⟨fun _=>h1,fun _=>rfl⟩
 ·exact fh ⟨fun e=>(nomatch e),fun h2=>absurd h2 h1⟩
theorem sA {γ:Type} {step:Int→Option (Fw Int Unit Unit)} {n:Nat} {P:Nat→Prop} {fx:Unit→Option γ} {fr:Unit→Option γ} {R:γ→Prop} (h:∀i,i<n→(∀j,j<i→P j)→Wp (step (i:Int)) fun w=>P i∧w=.n ((i+1:Nat):Int)∨¬P i∧w=.r ()) (he:(∀j,j<n→P j)→step (n:Int)=some (.x ()))
 (hx:(∀i,i<n→P i)→Wp (fx ()) R) (hr:(¬∀i,i<n→P i)→Wp (fr ()) R):Wp ((aX step 0).bind (Fw.elim fx fr)) R:=by
 rw[dQ];refine(Cy h he).mono ?_;rintro w (⟨h1,rfl⟩|⟨h1,rfl⟩)
 ·exact hx h1
 ·exact hr h1
theorem sP {m:Option Bool} {P:Prop} {n:Int} {k:Nat} (h:aY m P) (hn:n=((k+1:Nat):Int)):Wp (m.bind fun x=>au x (some (.n n)) (some (.r ()))) fun w:Fw Int Unit Unit=>P∧w=.n ((k+1:Nat):Int)∨¬P∧w=.r ():=by
 obtain⟨b,hb,h⟩:=h;rw[hb,ζb]
 cases b with
 | true=>exact(ai _).2 (.inl ⟨h.1 rfl,by rw[hn]⟩)
 | false=>exact(ai _).2 (.inr ⟨fun q=>(nomatch h.2 q),rfl⟩)
theorem Es {b:Bool} {P:Prop} {n:Int} {k:Nat} (h:b=true↔P) (hn:n=((k+1:Nat):Int)):Wp (au b (some (.n n)) (some (.r ()))) fun w:Fw Int Unit Unit=>P∧w=.n ((k+1:Nat):Int)∨¬P∧w=.r ():=by
 cases b with
 | true=>exact(ai _).2 (.inl ⟨h.1 rfl,by rw[hn]⟩)
 | false=>exact(ai _).2 (.inr ⟨fun q=>(nomatch h.2 q),rfl⟩)
theorem Ic {b:Bool} {P:Prop} {n:Int} {k:Nat} (h:b=true↔¬P) (hn:n=((k+1:Nat):Int)):Wp (au b (some (.r ())) (some (.n n))) fun w:Fw Int Unit Unit=>P∧w=.n ((k+1:Nat):Int)∨¬P∧w=.r ():=by
 cases b with
 | true=>exact(ai _).2 (.inr ⟨h.1 rfl,rfl⟩)
 | false=>exact(ai _).2 (.inl ⟨Classical.byContradiction fun q=>(nomatch h.2 q),by rw[hn]⟩)
def kq (a b:List Int):Prop:=a.length=b.length∧∀(p:Nat) (x y:Int),a[p]? = some x→b[p]? = some y→x≤y
theorem VC {a b:List Int} (hn:a.length=b.length):(∀i,i<a.length→∀x y,a[i]? = some x→b[i]? = some y→x≤y)↔kq a b:=
 ⟨fun h=>⟨hn,fun p x y hx hy=>h p (ζe.1 hx).1 x y hx hy⟩,fun h i _ x y hx hy=>h.2 i x y hx hy⟩
theorem EE {a b:Sl Int} (hl:a.l.length<1073741824) {step:Int→Option (Fw Int Unit Unit)}
 (hs:∀i,step i=au (decide (i<len a)) ((idx a i).bind fun x_1=>(idx b i).bind fun x_2=>au (decide (x_1>x_2)) (some (.r ())) (some (.n (IntKind.wrap .i64 (i+1))))) (some (.x ()))) :
 aY (au ((len a)==(len b)) ((aX step 0).bind (Fw.elim (fun _=>some true) (fun _=>some false))) (some false)) (kq a.l b.l):=by
 by_cases hn:a.l.length=b.l.length
 ·rw[show ((len a)==(len b))=true from by simp[len,hn],a_]
  refine(lV (n:=a.l.length) (P:=fun i=>∀x y,a.l[i]? = some x→b.l[i]? = some y→x≤y) ?_ ?_).iff (VC hn)
  ·intro i hi _;have hb:i<b.l.length:=by omega
   rw[hs,oQ hi,a_,aQ hi,ζb,aQ hb,ζb];refine Ic ?_ (bW i (by omega))
   rw[decide_eq_true_eq];constructor
   ·intro h k;have:=k _ _ (ζd hi) (ζd hb);omega
   ·intro h;refine Classical.byContradiction fun h2=>h fun x y hx hy=>?_
    rw[ζd hi]at hx;rw[ζd hb]at hy;cases hx;cases hy;omega
  ·intro _;rw[hs,qb,bM]
 ·rw[show ((len a)==(len b))=false from by simp[len];omega,bM]
  exact fh ⟨fun e=>(nomatch e),fun h=>absurd h.1 hn⟩
theorem za {a b:Sl Int} (hl:a.l.length<1073741824):aY (dy a b) (kq a.l b.l):=EE hl fun i=>rfl
theorem AE {a b:Sl Int} (hl:a.l.length<1073741824):aY (cR a b) (kq a.l b.l):=EE hl fun i=>rfl
theorem WD {a b:Sl Int} (hl:a.l.length<1073741824):aY (dm a b) (a.l=b.l):=by
 by_cases hn:a.l.length=b.l.length
 ·unfold dm;rw[show ((len a)==(len b))=true from by simp[len,hn],a_]
  unfold dm.W1;refine(lV (n:=a.l.length) (P:=fun i=>a.l[i]? = b.l[i]?) ?_ ?_).iff ?_
  ·intro i hi _;have hb:i<b.l.length:=by omega
   unfold dm.aG;rw[oQ hi,a_,aQ hi,ζb,aQ hb,ζb];refine Es ?_ (bW i (by omega))
   rw[ζd hi,ζd hb];simp
  ·intro _;unfold dm.aG;rw[qb,bM]
  ·constructor
   ·intro h;refine List.ext_getElem? fun i=>?_
    by_cases hi:i<a.l.length
    ·exact h i hi
    ·rw[List.getElem?_eq_none (by omega),List.getElem?_eq_none (by omega)]
   ·intro h i _;rw[h]
 ·unfold dm;rw[show ((len a)==(len b))=false from by simp[len];omega,bM]
  exact fh ⟨fun e=>(nomatch e),fun h=>absurd (by rw[h]) hn⟩
theorem VX {a b:Sl Int} (hl:a.l.length<1073741824):aY (c9 a b) (a.l=b.l):=by
 rw[Kc hl];exact fh (by simp)
section
variable {t:Trace} {A:bp 200 aH}
theorem Cd (hS:Small t) (hv:cT t=some true) (hV:VT t) (hM:eT t (aN t) A) (c:Sl Int):aY (gy t c) (Cons t A c.l):=by
 obtain⟨r,hr,h⟩:=Ki hS hv hV hM c;unfold gy;rw[hr,ζb];exact fh (by rw[beq_iff_eq,h];exact Iff.rfl)
theorem Cg (hS:Small t) (hv:fD t=some true) (hV:VT t) (hM:eT t (aN t) A) (c:Sl Int):aY (c_ t c) (Cons t A c.l):=by
 unfold c_ qz;rw[hv,ζb,a_,ζb,ζb]
 by_cases hcl:c.l.length=t.procs.l.length
 ·rw[show (len c==len t.procs)=true from by simp[len,hcl],a_]
  have hr:aY (iE t c) (jY t c.l):=C_ hS hcl fun i=>rfl
  refine aY.and (P:=jY t c.l) (Q:=iM t A c.l) (n:=dn t c) (aY.some hr) (fun hR=>?_) (f:=fun x_5=>(au x_5 ((dn t c).bind fun x_6=>some x_6) (some false):Option Bool).bind fun x_7=>some x_7) (fun b=>by cases b <;> simp[au])
  exact zM hS hV hM hR
 ·rw[show (len c==len t.procs)=false from by simp[len];omega]
  exact fh ⟨fun e=>(nomatch e),fun h=>absurd h.1.1 hcl⟩
end
end Go.VE
namespace Go.VE
def nth (l:List Int) (p:Nat):Int:=(l[p]?).getD 0
def lE (t:Trace) (p:Nat):Nat:=((t.procs.l[p]?).map fun P=>P.events.l.length).getD 0
def q_ (s:Slice) (p:Nat):Nat:=((s.j.l[p]?).map fun r=>r.l.length).getD 0
def el (s:Slice) (p i:Nat):List Int:=match s.j.l[p]? with
 | some r=>match r.l[i]? with
  | some c=>c.l
  | none=>[]
 | none=>[]
theorem lS {l:List Int} {p:Nat} (h:p<l.length):nth l p=l[p]:=by unfold nth;rw[ζd h];rfl
theorem mZ {t:Trace} {p:Nat} (h:p<t.procs.l.length):lE t p=t.procs.l[p].events.l.length:=by unfold lE;rw[ζd h];rfl
theorem oC {s:Slice} {p:Nat} (h:p<s.j.l.length):q_ s p=s.j.l[p].l.length:=by unfold q_;rw[ζd h];rfl
def kR (t:Trace) (A:bp 200 aH) (s:Slice) (p i:Nat):Prop:=
 (nth s.last.l p≤(i:Int)∧(el s p i).length=0)∨((i:Int)<nth s.last.l p∧(((i:Int)<nth s.first.l p∧el s p i=s.first.l)∨(nth s.first.l p≤(i:Int)∧Cons t A (el s p i)∧(i:Int)<nth (el s p i) p∧kq s.first.l (el s p i)∧kq (el s p i) s.last.l)))
def oc (s:Slice) (c:List Int):Prop:=∀p,p<c.length→∀i:Nat,(i:Int)<nth c p→kq (el s p i) c
def tY (t:Trace) (A:bp 200 aH) (s:Slice):Prop:=((((Cons t A s.first.l∧Cons t A s.last.l)∧kq s.first.l s.last.l)∧s.j.l.length=t.procs.l.length)∧∀p,p<t.procs.l.length→q_ s p=lE t p)
def Ck (t:Trace) (A:bp 200 aH) (s:Slice):Prop:=
 (tY t A s∧∀p,p<t.procs.l.length→∀i,i<lE t p→kR t A s p i)∧∀p,p<t.procs.l.length→∀i:Nat,(i:Int)<nth s.last.l p→oc s (el s p i)
def Dg (s:Slice):Prop:=(s.first.l.length=0∧s.last.l.length=0)∧s.j.l.length=0
def ki (t:Trace) (A:bp 200 aH) (s:Slice):Prop:=s.empty=true∧Dg s∨s.empty=false∧Ck t A s
def oF (s:Slice) (c:List Int):Prop:=((s.empty=false∧kq s.first.l c)∧kq c s.last.l)∧oc s c
structure me (s:Slice):Prop where
 f:s.first.l.length≤60
 l:s.last.l.length≤60
 j:s.j.l.length≤60
 r:∀r∈s.j.l,r.l.length≤60∧∀c∈r.l,c.l.length≤60
section
variable {t:Trace} {A:bp 200 aH} {s:Slice}
theorem ja {c:List Int} (h:Cons t A c) {p:Nat} (hp:p<t.procs.l.length):0≤nth c p∧nth c p≤lE t p:=by
 have hc:p<c.length:=by rw[h.1.1];exact hp
 rw[lS hc,mZ hp];exact h.1.2 p _ _ (ζd hc) (ζd hp)
theorem tZ {p i:Nat} (hp:p<s.j.l.length) (hi:i<q_ s p) (hL:me s):∃c,gT s ⟨p,((i+1:Nat):Int)⟩=some c∧c.l=el s p i∧c.l.length≤60:=by
 rw[oC hp]at hi;have hr:=(hL.r _ (List.getElem_mem hp));refine⟨s.j.l[p].l[i],?_,?_,hr.2 _ (List.getElem_mem hi)⟩
 ·unfold gT;dsimp only;rw[aQ hp,ζb,mw _ (by omega) (by omega),show ((i+1:Nat):Int)-1=(i:Int)from by omega,aQ hi,ζb]
 ·unfold el;rw[ζd hp];dsimp only;rw[ζd hi]
theorem o6 {c:Sl Int} {f:aa→Option Bool} {g:Nat→Nat→Prop} (hc:c.l.length<1073741824) (hb:∀p,p<c.l.length→nth c.l p<1073741824)
 (h:∀p,p<c.l.length→∀i:Nat,(i:Int)<nth c.l p→aY (f ⟨p,((i+1:Nat):Int)⟩) (g p i)):aY (cm c f) (∀p,p<c.l.length→∀i:Nat,(i:Int)<nth c.l p→g p i):=by
 unfold cm cm.W1;refine lV (n:=c.l.length) ?_ ?_
 ·intro p hp _;unfold cm.aG;rw[oQ hp,a_,aQ hp,ζb];unfold cm.W2;have hn:=lS hp;have hb:=hb p hp;rw[hn]at hb
  by_cases h0:c.l[p]≤0
  ·refine sA (n:=0) (P:=fun _=>True) (fun i hi=>absurd hi (by omega)) (fun _=>?_) (fun _=>?_) (fun k=>absurd (fun i hi=>absurd hi (by omega)) k)
   ·unfold cm.bl;rw[show decide (((0:Nat):Int)<c.l[p])=false from by simp;omega,bM]
   ·exact(ai _).2 (.inl ⟨fun i hi=>by rw[hn]at hi;omega,by rw[bW p (by omega)]⟩)
  ·obtain⟨k,hk⟩:∃k:Nat,c.l[p]=(k:Int):=⟨c.l[p].toNat,by omega⟩
   have e:(∀i,i<k→g p i)↔∀i:Nat,(i:Int)<nth c.l p→g p i:=by
    rw[hn,hk];exact⟨fun h i hi=>h i (by omega),fun h i hi=>h i (by omega)⟩
   refine sA (n:=k) (P:=g p) (fun i hi _=>?_) (fun _=>?_) (fun q=>?_) (fun q=>?_)
   ·unfold cm.bl;rw[show decide ((i:Int)<c.l[p])=true from by simp;omega,a_,bW i (by omega)]
    exact sP (h p hp i (by rw[hn];omega)) rfl
   ·unfold cm.bl;rw[show decide ((k:Int)<c.l[p])=false from by simp;omega,bM]
   ·exact(ai _).2 (.inl ⟨e.1 q,by rw[bW p (by omega)]⟩)
   ·exact(ai _).2 (.inr ⟨fun q2=>q (e.2 q2),rfl⟩)
 ·intro _;unfold cm.aG;rw[qb,bM]
theorem yS {c:Sl Int} {p i:Nat} (hp:p<c.l.length):mj ⟨p,((i+1:Nat):Int)⟩ c=some (decide ((i:Int)<nth c.l p)):=by
 unfold mj;rw[aQ hp,ζb,lS hp];exact congrArg some (decide_eq_decide.2 (by dsimp only;omega))
theorem Ek (hS:Small t) (hv:cT t=some true) (hV:VT t) (hM:eT t (aN t) A) (hL:me s) (hs:tY t A s) {p i:Nat} (hp:p<t.procs.l.length) (hi:i<lE t p) :
 aY (qq t s ⟨p,((i+1:Nat):Int)⟩) (kR t A s p i):=by
 obtain⟨⟨⟨⟨h1,h2⟩,h3⟩,h4⟩,h5⟩:=hs;obtain⟨c,hc,hce,hcl⟩:=tZ (s:=s) (p:=p) (i:=i) (by omega) (by rw[h5 p hp];exact hi) hL
 have hl:p<s.last.l.length:=by rw[h2.1.1];exact hp
 have hf:p<s.first.l.length:=by rw[h1.1.1];exact hp
 have hL1:=hL.f;have hL2:=hL.l;unfold qq;rw[hc,ζb,yS hl,ζb];unfold kR;rw[←hce]
 by_cases hlt:(i:Int)<nth s.last.l p
 ·rw[decide_eq_true hlt,a_,yS hf,ζb]
  by_cases hft:(i:Int)<nth s.first.l p
  ·rw[decide_eq_true hft,a_];refine((VX (a:=c) (b:=s.first) (by omega)).some).iff ?_
   exact⟨fun h=>.inr ⟨hlt,.inl ⟨hft,h⟩⟩,fun h=>by rcases h with h|⟨_,h|h⟩ <;> first|exact h.2|omega⟩
  ·rw[decide_eq_false hft,bM];have k1:=Cd hS hv hV hM c;have k2:=aY.and (Q:=(i:Int)<nth c.l p) k1 (n:=mj ⟨p,((i+1:Nat):Int)⟩ c) (fun hC=>by rw[yS (by rw[hC.1.1];exact hp)];exact fh (by simp)) (f:=fun x_5=>(au x_5 ((mj ⟨p,((i+1:Nat):Int)⟩ c).bind fun x_6=>some x_6) (some false):Option Bool)) (fun b=>rfl)
   have k3:=aY.and k2 (Q:=kq s.first.l c.l) (n:=dy s.first c) (fun _=>za (by omega)) (f:=fun x_7=>(au x_7 ((dy s.first c).bind fun x_8=>some x_8) (some false):Option Bool)) (fun b=>rfl)
   have k4:=aY.and k3 (Q:=kq c.l s.last.l) (n:=dy c s.last) (fun _=>za (by omega)) (f:=fun x_9=>(au x_9 ((dy c s.last).bind fun x_10=>some x_10) (some false):Option Bool)) (fun b=>rfl)
   have k5:=k4.some;simp only[Option.bind_assoc]at k5 ⊢;refine k5.iff ?_;exact⟨fun⟨⟨⟨a,b⟩,d⟩,e⟩=>.inr ⟨hlt,.inr ⟨by omega,a,b,d,e⟩⟩,fun h=>by rcases h with h|⟨_,h|⟨_,a,b,d,e⟩⟩ <;> first|exact⟨⟨⟨a,b⟩,d⟩,e⟩|omega⟩
 ·rw[decide_eq_false hlt,bM];refine fh ?_;rw[beq_iff_eq];simp only[len];exact⟨fun h=>.inl ⟨by omega,by omega⟩,fun h=>by rcases h with h|h <;> omega⟩
theorem Di (hS:Small t) (hv:cT t=some true) (hV:VT t) (hM:eT t (aN t) A) (hL:me s):aY (fu t s) (tY t A s):=by
 have hL1:=hL.f;have hL2:=hL.l;have hL3:=hL.j;unfold fu;have k1:=Cd hS hv hV hM s.first
 have k2:=aY.JH k1 (Q:=Cons t A s.last.l) (fun _=>Cd hS hv hV hM s.last) (f:=fun x_1=>(au x_1 ((gy t s.last).bind fun x_2=>some (!x_2)) (some true):Option Bool)) (fun b=>rfl)
 have k3:=aY.Me k2 (Q:=kq s.first.l s.last.l) (fun _=>za (a:=s.first) (b:=s.last) (by omega)) (f:=fun x_3=>(au x_3 (some true) ((dy s.first s.last).bind fun x_4=>some (!x_4)):Option Bool)) (fun b=>rfl)
 have k4:=aY.Ig k3 (Q:=s.j.l.length=t.procs.l.length) (b:=((len s.j)==(len t.procs))) (fun _=>by rw[beq_iff_eq];simp only[len];omega) (f:=fun x_5=>(au x_5 (some true) (some (!((len s.j)==(len t.procs)))):Option Bool)) (fun b=>rfl)
 simp only[Option.bind_assoc]at k4 ⊢;obtain⟨b,hb,h⟩:=k4;simp only[←Option.bind_assoc]at hb ⊢;rw[hb,ζb]
 cases b with
 | true=>exact fh ⟨fun e=>(nomatch e),fun q=>absurd q.1 (h.1 rfl)⟩
 | false=>
  have hh:((Cons t A s.first.l∧Cons t A s.last.l)∧kq s.first.l s.last.l)∧s.j.l.length=t.procs.l.length:=Classical.byContradiction fun q=>(nomatch h.2 q)
  rw[bM];unfold fu.W1;refine(lV (n:=s.j.l.length) (P:=fun p=>q_ s p=lE t p) ?_ ?_).iff ?_
  ·intro p hp _;have hp2:p<t.procs.l.length:=by rw[←hh.2];exact hp
   unfold fu.aG;rw[oQ hp,a_,aQ hp,ζb,aQ hp2,ζb];refine Es ?_ (bW p (by omega))
   rw[beq_iff_eq,oC hp,mZ hp2];simp only[len];omega
  ·intro _;unfold fu.aG;rw[qb,bM]
  ·exact⟨fun q=>⟨hh,fun p hp=>q p (by rw[hh.2];exact hp)⟩,fun q p hp=>q.2 p (by rw[←hh.2];exact hp)⟩
theorem KO (hS:Small t) (hV:VT t):∃c,eM t=some c∧c.l.length=t.procs.l.length∧∀p,p<t.procs.l.length→nth c.l p=lE t p:=by
 have h8:=hV.few;unfold eM eM.W1;refine vi (P:=fun c:Sl Int=>c.l.length=t.procs.l.length∧∀p,p<t.procs.l.length→nth c.l p=lE t p) t.procs.l.length (fun i (s:Sl Int×Int)=>s.2=(i:Int)∧s.1.l.length=i∧∀p,p<i→nth s.1.l p=lE t p) ⟨rfl,rfl,fun p hp=>absurd hp (by omega)⟩ ?_ ?_
 ·rintro i ⟨o,_⟩ hi ⟨e,h1,h2⟩;simp only at e h1 h2;subst e;unfold eM.aG;rw[oQ hi,a_,aQ hi,ζb];obtain⟨r,hr,hrl⟩:=M5 (s:=o) (x:=len t.procs.l[i].events) (by omega)
  rw[hr,ζb,ai];refine⟨bW i (by omega),by rw[hrl];simp[h1],fun p hp=>?_⟩
  show nth r.l p=_;rw[hrl]
  by_cases e:p=i
  ·subst e;unfold nth;rw[List.getElem?_append_right (by omega),h1,Nat.sub_self,mZ hi];rfl
  ·unfold nth;rw[List.getElem?_append_left (by omega)]
   exact h2 p (by omega)
 ·rintro⟨o,_⟩ ⟨e,h1,h2⟩;simp only at e h1 h2;subst e;unfold eM.aG;rw[qb,bM,ai];exact(ai _).2 ⟨h1,h2⟩
theorem uO (hS:tY t A s) (h:∀p,p<t.procs.l.length→∀i,i<lE t p→kR t A s p i) {p i:Nat} (hp:p<t.procs.l.length) (hi:(i:Int)<nth s.last.l p):i<lE t p∧Cons t A (el s p i):=by
 have h2:=ja hS.1.1.1.2 hp;have hie:i<lE t p:=by omega
 refine⟨hie,?_⟩;rcases h p hp i hie with k|⟨_,k|k⟩
 ·omega
 ·rw[k.2];exact hS.1.1.1.1
 ·exact k.2.1
theorem DE (hS:Small t) (hv:cT t=some true) (hV:VT t) (hM:eT t (aN t) A) (hL:me s):aY (iB t s) (ki t A s):=by
 have h8:=hV.few;have hev:∀p,p<t.procs.l.length→lE t p<1073741824:=fun p hp=>by rw[mZ hp];exact(hS.2 _ (List.getElem_mem hp)).1
 unfold iB;rw[hv,ζb,a_]
 cases he:s.empty with
 | true=>
  rw[a_];have k1:=aY.Gr (m:=some (len s.first==0)) (P:=s.first.l.length=0) (fh (by rw[beq_iff_eq];simp only[len];omega)) (b:=(len s.last==0)) (Q:=s.last.l.length=0) (fun _=>by rw[beq_iff_eq];simp only[len];omega) (f:=fun x=>(au x (some (len s.last==0)) (some false):Option Bool)) (fun b=>rfl)
  have k2:=aY.Gr k1 (b:=(len s.j==0)) (Q:=s.j.l.length=0) (fun _=>by rw[beq_iff_eq];simp only[len];omega) (f:=fun x=>(au x (some (len s.j==0)) (some false):Option Bool)) (fun b=>rfl)
  rw[ζb]at k2;have k:=(aY.some k2).iff (Q:=ki t A s) (by unfold ki Dg;rw[he];simp)
  rw[Option.bind_assoc]at k;exact k
 | false=>
  rw[bM];have k1:=Di hS hv hV hM hL;obtain⟨c,hc,hc1,hc2⟩:=KO hS hV;have k2:=aY.JH k1 (Q:=∀p,p<t.procs.l.length→∀i,i<lE t p→kR t A s p i) (n:=(eM t).bind fun x_5=>cm x_5 (fun z=>ko z t s)) (fun hs=>by
   rw[hc,ζb];refine(o6 (g:=kR t A s) (by omega) (fun p hp=>by rw[hc2 p (by omega)];have:=hev p (by omega);omega) (fun p hp i hi=>?_)).iff ?_
   ·rw[hc2 p (by omega)]at hi
    exact(Ek hS hv hV hM hL hs (by omega) (by omega)).some
   ·rw[hc1];constructor
    ·intro h p hp i hi;exact h p hp i (by rw[hc2 p hp];omega)
    ·intro h p hp i hi;exact h p hp i (by rw[hc2 p hp]at hi;omega)) (f:=fun x_4=>(au x_4 ((eM t).bind fun x_5=>(cm x_5 (fun z=>ko z t s)).bind fun x_6=>some (!x_6)) (some true):Option Bool)) (fun b=>by simp only[Option.bind_assoc])
  obtain⟨b,hb,h⟩:=k2;rw[←Option.bind_assoc,hb,ζb];have hval:ki t A s↔Ck t A s:=by unfold ki;rw[he];simp
  cases b with
  | true=>exact fh ⟨fun e=>(nomatch e),fun q=>absurd (hval.1 q).1 (h.1 rfl)⟩
  | false=>
   have hh:tY t A s∧∀p,p<t.procs.l.length→∀i,i<lE t p→kR t A s p i:=Classical.byContradiction fun q=>(nomatch h.2 q)
   have hl:s.last.l.length=t.procs.l.length:=hh.1.1.1.1.2.1.1;have hj:s.j.l.length=t.procs.l.length:=hh.1.1.2;rw[bM];refine((o6 (g:=fun p i=>oc s (el s p i)) (by omega) (fun p hp=>?_) (fun p hp i hi=>?_)).some).iff ?_
   ·have:=ja hh.1.1.1.1.2 (p:=p) (by omega);have:=hev p (by omega);omega
   ·obtain⟨hie,hC⟩:=uO hh.1 hh.2 (p:=p) (by omega) hi
    obtain⟨d,hd,hde,hdl⟩:=tZ (s:=s) (p:=p) (i:=i) (by omega) (by rw[hh.1.2 p (by omega)];exact hie) hL
    unfold mB;rw[hd,ζb];refine(o6 (g:=fun q k=>kq (el s q k) (el s p i)) (by omega) (fun q hq=>?_) (fun q hq k hk=>?_)).some |>.iff ?_
    ·rw[hde]at hq ⊢;have hq':q<t.procs.l.length:=by rw[←hC.1.1];exact hq
     have:=ja hC hq';have:=hev q hq';omega
    ·rw[hde]at hq hk;have hq':q<t.procs.l.length:=by rw[←hC.1.1];exact hq
     have:=ja hC hq';unfold j7;obtain⟨y,hy,hye,hyl⟩:=tZ (s:=s) (p:=q) (i:=k) (by omega) (by rw[hh.1.2 q hq'];omega) hL
     rw[hy,ζb,←hye,←hde];exact(za (by omega)).some
    ·rw[hde];exact Iff.rfl
   ·rw[hval,hl];exact⟨fun q=>⟨hh,q⟩,fun q=>q.2⟩
theorem KD (hS:Small t) (hV:VT t) (hL:me s) (hs:ki t A s) {c:Sl Int} (hc:Cons t A c.l):aY (jF s c) (oF s c.l):=by
 have h8:=hV.few;have hcl:=hc.1.1;have hL1:=hL.f;have hev:∀p,p<t.procs.l.length→lE t p<1073741824:=fun p hp=>by rw[mZ hp];exact(hS.2 _ (List.getElem_mem hp)).1
 unfold jF;have k1:aY ((au s.empty (some false) ((dy s.first c).bind fun x_1=>some x_1):Option Bool)) (s.empty=false∧kq s.first.l c.l):=by
  cases he:s.empty with
  | true=>exact fh ⟨fun e=>(nomatch e),fun q=>(nomatch q.1)⟩
  | false=>exact((za (by omega)).some).iff ⟨fun q=>⟨rfl,q⟩,fun q=>q.2⟩
 have k2:=aY.and k1 (Q:=kq c.l s.last.l) (n:=dy c s.last) (fun _=>za (by omega)) (f:=fun x_2=>(au x_2 ((dy c s.last).bind fun x_3=>some x_3) (some false):Option Bool)) (fun b=>rfl)
 have k3:=aY.and k2 (Q:=oc s c.l) (n:=cm c (fun z=>kj z s c)) (fun hq=>by
  rcases hs with⟨he,_⟩|⟨he,hF⟩
  ·exact absurd hq.1.1 (by rw[he];decide)
  have hj:s.j.l.length=t.procs.l.length:=hF.1.1.1.2;refine o6 (g:=fun p i=>kq (el s p i) c.l) (by omega) (fun p hp=>?_) (fun p hp i hi=>?_)
  ·have:=ja hc (p:=p) (by omega);have:=hev p (by omega);omega
  ·have:=ja hc (p:=p) (by omega)
   unfold kj;obtain⟨d,hd,hde,hdl⟩:=tZ (s:=s) (p:=p) (i:=i) (by omega) (by rw[hF.1.1.2 p (by omega)];omega) hL
   rw[hd,ζb,←hde];exact(za (by omega)).some) (f:=fun x_4=>(au x_4 ((cm c (fun z=>kj z s c)).bind fun x_5=>some x_5) (some false):Option Bool)) (fun b=>rfl)
 have k4:=k3.some;simp only[Option.bind_assoc]at k4 ⊢;exact k4
end
end Go.VE
namespace Go.VE
section
variable {t:Trace} {A:bp 200 aH} {s:Slice}
theorem vf {p i:Nat} (hp:p<s.j.l.length) (hi:i<q_ s p) (hL:me s):∃r c,idx s.j (p:Int)=some r∧idx r (i:Int)=some c∧c.l=el s p i∧c.l.length≤60:=by
 rw[oC hp]at hi;have hr:=(hL.r _ (List.getElem_mem hp));refine⟨s.j.l[p],s.j.l[p].l[i],aQ hp,aQ hi,?_,hr.2 _ (List.getElem_mem hi)⟩;unfold el;rw[ζd hp];dsimp only;rw[ζd hi]
theorem Jt (hS:Small t) (hv:fD t=some true) (hV:VT t) (hM:eT t (aN t) A) (hL:me s) (h1:Cons t A s.first.l) (h2:Cons t A s.last.l) {p i:Nat} (hp:p<t.procs.l.length) (hj:p<s.j.l.length) (hi:i<q_ s p) :
 aY (mD t s p i) (kR t A s p i):=by
 obtain⟨r,c,hr,hc,hce,hcl⟩:=vf hj hi hL;have hl:p<s.last.l.length:=by rw[h2.1.1];exact hp
 have hf:p<s.first.l.length:=by rw[h1.1.1];exact hp
 have hL1:=hL.f;have hL2:=hL.l;unfold mD;rw[hr,ζb,hc,ζb,aQ hl,ζb,←lS hl];unfold kR;rw[←hce]
 by_cases hlt:(i:Int)<nth s.last.l p
 ·rw[show decide ((i:Int)≥nth s.last.l p)=false from by simp;omega,bM,aQ hf,ζb,←lS hf]
  by_cases hft:(i:Int)<nth s.first.l p
  ·rw[decide_eq_true hft,a_];refine((WD (a:=c) (b:=s.first) (by omega)).some).iff ?_
   exact⟨fun h=>.inr ⟨hlt,.inl ⟨hft,h⟩⟩,fun h=>by rcases h with h|⟨_,h|h⟩ <;> first|exact h.2|omega⟩
  ·rw[decide_eq_false hft,bM];have k1:=Cg hS hv hV hM c;have k2:=aY.and k1 (Q:=(i:Int)<nth c.l p) (n:=(idx c p).bind fun x_7=>some (decide (x_7>(i:Int)))) (fun hC=>by
    have hpc:p<c.l.length:=by rw[hC.1.1];exact hp
    rw[aQ hpc,ζb,←lS hpc];exact fh (by simp)) (f:=fun x_6=>(au x_6 ((idx c p).bind fun x_7=>some (decide (x_7>(i:Int)))) (some false):Option Bool)) (fun b=>by simp only[Option.bind_assoc,ζb])
   have k3:=aY.and k2 (Q:=kq s.first.l c.l) (n:=cR s.first c) (fun _=>AE (by omega)) (f:=fun x_7=>(au x_7 ((cR s.first c).bind fun x_8=>some x_8) (some false):Option Bool)) (fun b=>rfl)
   have k4:=aY.and k3 (Q:=kq c.l s.last.l) (n:=cR c s.last) (fun _=>AE (by omega)) (f:=fun x_9=>(au x_9 ((cR c s.last).bind fun x_10=>some x_10) (some false):Option Bool)) (fun b=>rfl)
   have k5:=k4.some;simp only[Option.bind_assoc]at k5 ⊢;refine k5.iff ?_;exact⟨fun⟨⟨⟨a,b⟩,d⟩,e⟩=>.inr ⟨hlt,.inr ⟨by omega,a,b,d,e⟩⟩,fun h=>by rcases h with h|⟨_,h|⟨_,a,b,d,e⟩⟩ <;> first|exact⟨⟨⟨a,b⟩,d⟩,e⟩|omega⟩
 ·rw[show decide ((i:Int)≥nth s.last.l p)=true from by simp;omega,a_]
  refine fh ?_;rw[beq_iff_eq];simp only[len];exact⟨fun h=>.inl ⟨by omega,by omega⟩,fun h=>by rcases h with h|h <;> omega⟩
theorem wX {γ:Type} {step:Int→Option (Fw Int Unit Unit)} {n:Int} {P:Nat→Prop} {fx:Unit→Option γ} {fr:Unit→Option γ} {R:γ→Prop} (h:∀i:Nat,(i:Int)<n→(∀j,j<i→P j)→Wp (step (i:Int)) fun w=>P i∧w=.n ((i+1:Nat):Int)∨¬P i∧w=.r ()) (he:∀i:Nat,n≤(i:Int)→step (i:Int)=some (.x ()))
 (hx:(∀i:Nat,(i:Int)<n→P i)→Wp (fx ()) R) (hr:(¬∀i:Nat,(i:Int)<n→P i)→Wp (fr ()) R):Wp ((aX step 0).bind (Fw.elim fx fr)) R:=by
 have e:(∀i,i<n.toNat→P i)↔∀i:Nat,(i:Int)<n→P i:=⟨fun h i hi=>h i (by omega),fun h i hi=>h i (by omega)⟩
 exact sA (n:=n.toNat) (P:=P) (fun i hi hp=>h i (by omega) hp) (fun _=>he _ (by omega)) (fun q=>hx (e.1 q)) (fun q=>hr fun k=>q (e.2 k))
theorem vu (hL:me s) {c:Sl Int} (hc:c.l.length≤60) (hb:∀p,p<c.l.length→nth c.l p<1073741824) (h:∀p,p<c.l.length→p<s.j.l.length∧∀i:Nat,(i:Int)<nth c.l p→i<q_ s p):aY (cF s c) (oc s c.l):=by
 unfold cF cF.W1;refine lV (n:=c.l.length) (P:=fun p=>∀i:Nat,(i:Int)<nth c.l p→kq (el s p i) c.l) ?_ ?_
 ·intro p hp _;have hn:=lS hp;have hb:=hb p hp;obtain⟨hj,hr⟩:=h p hp;unfold cF.aG;rw[oQ hp,a_];unfold cF.W2;refine wX (n:=nth c.l p) (P:=fun i=>kq (el s p i) c.l) (fun i hi _=>?_) (fun i hi=>?_) (fun q=>?_) (fun q=>?_)
  ·unfold cF.bl;obtain⟨r,d,h1,h2,h3,h4⟩:=vf hj (hr i hi) hL;rw[aQ hp,ζb,←hn,decide_eq_true hi,a_,h1,ζb,h2,ζb,←h3];exact sP (AE (by omega)) (bW i (by omega))
  ·unfold cF.bl;rw[aQ hp,ζb,←hn,decide_eq_false (by omega),bM]
  ·exact(ai _).2 (.inl ⟨q,by rw[bW p (by omega)]⟩)
  ·exact(ai _).2 (.inr ⟨q,rfl⟩)
 ·intro _;unfold cF.aG;rw[qb,bM]
theorem DL (hS:Small t) (hv:fD t=some true) (hV:VT t) (hM:eT t (aN t) A) (hL:me s):aY (bN t s) (ki t A s):=by
 have h8:=hV.few;have hL1:=hL.f;have hL2:=hL.l;have hL3:=hL.j;have hev:∀p,p<t.procs.l.length→lE t p<1073741824:=fun p hp=>by rw[mZ hp];exact(hS.2 _ (List.getElem_mem hp)).1
 unfold bN;rw[hv,ζb,a_]
 cases he:s.empty with
 | true=>
  rw[a_];have k1:=aY.Gr (m:=some (len s.first==0)) (P:=s.first.l.length=0) (fh (by rw[beq_iff_eq];simp only[len];omega)) (b:=(len s.last==0)) (Q:=s.last.l.length=0) (fun _=>by rw[beq_iff_eq];simp only[len];omega) (f:=fun x=>(au x (some (len s.last==0)) (some false):Option Bool)) (fun b=>rfl)
  have k2:=aY.Gr k1 (b:=(len s.j==0)) (Q:=s.j.l.length=0) (fun _=>by rw[beq_iff_eq];simp only[len];omega) (f:=fun x=>(au x (some (len s.j==0)) (some false):Option Bool)) (fun b=>rfl)
  rw[ζb]at k2;have k:=(aY.some k2).iff (Q:=ki t A s) (by unfold ki Dg;rw[he];simp)
  rw[Option.bind_assoc]at k;exact k
 | false=>
  rw[bM];have hval:ki t A s↔Ck t A s:=by unfold ki;rw[he];simp
  have k1:=Cg hS hv hV hM s.first
  have k2:=aY.JH k1 (Q:=Cons t A s.last.l) (fun _=>Cg hS hv hV hM s.last) (f:=fun x_1=>(au x_1 ((c_ t s.last).bind fun x_2=>some (!x_2)) (some true):Option Bool)) (fun b=>rfl)
  have k3:=aY.Me k2 (Q:=kq s.first.l s.last.l) (fun _=>AE (a:=s.first) (b:=s.last) (by omega)) (f:=fun x_3=>(au x_3 (some true) ((cR s.first s.last).bind fun x_4=>some (!x_4)):Option Bool)) (fun b=>rfl)
  have k4:=aY.Ig k3 (Q:=s.j.l.length=t.procs.l.length) (b:=((len s.j)==(len t.procs))) (fun _=>by rw[beq_iff_eq];simp only[len];omega) (f:=fun x_5=>(au x_5 (some true) (some (!((len s.j)==(len t.procs)))):Option Bool)) (fun b=>rfl)
  simp only[Option.bind_assoc]at k4 ⊢;obtain⟨b,hb,h⟩:=k4;simp only[←Option.bind_assoc]at hb ⊢;rw[hb,ζb]
  cases b with
  | true=>exact fh ⟨fun e=>(nomatch e),fun q=>absurd (hval.1 q).1.1.1 (h.1 rfl)⟩
  | false=>
   have hh:((Cons t A s.first.l∧Cons t A s.last.l)∧kq s.first.l s.last.l)∧s.j.l.length=t.procs.l.length:=Classical.byContradiction fun q=>(nomatch h.2 q)
   have hl:s.last.l.length=t.procs.l.length:=hh.1.1.2.1.1;rw[bM];unfold bN.W1;refine sA (n:=s.j.l.length) (P:=fun p=>q_ s p=lE t p∧∀i,i<lE t p→kR t A s p i) (R:=fun b=>b=true↔ki t A s) ?_ ?_ ?_ ?_
   ·intro p hp _;have hp2:p<t.procs.l.length:=by rw[←hh.2];exact hp
    unfold bN.aG;rw[oQ hp,a_,aQ hp,ζb,aQ hp2,ζb]
    by_cases hq:q_ s p=lE t p
    ·rw[show (len s.j.l[p]==len t.procs.l[p].events)=true from by rw[beq_iff_eq];simp only[len];rw[oC hp,mZ hp2]at hq;omega,a_]
     unfold bN.W2;have hrow:=hL.r _ (List.getElem_mem hp);refine sA (n:=q_ s p) (P:=kR t A s p) ?_ ?_ ?_ ?_
     ·intro i hi _;unfold bN.bl;rw[aQ hp,ζb,show decide ((i:Int)<len s.j.l[p])=true from oQ (by rw[←oC hp];exact hi),a_]
      exact sP (Jt hS hv hV hM hL hh.1.1.1 hh.1.1.2 hp2 hp hi) (bW i (by rw[oC hp]at hi;omega))
     ·intro _;unfold bN.bl;rw[aQ hp,ζb,oC hp,qb,bM]
     ·intro q;exact(ai _).2 (.inl ⟨⟨hq,fun i hi=>q i (by rw[hq];exact hi)⟩,by rw[bW p (by omega)]⟩)
     ·intro q;exact(ai _).2 (.inr ⟨fun k=>q fun i hi=>k.2 i (by rw[←hq];exact hi),rfl⟩)
    ·rw[show (len s.j.l[p]==len t.procs.l[p].events)=false from by rw[beq_eq_false_iff_ne];simp only[len];rw[oC hp,mZ hp2]at hq;omega,bM]
     exact(ai _).2 (.inr ⟨fun k=>hq k.1,rfl⟩)
   ·intro _;unfold bN.aG;rw[qb,bM]
   ·intro q;have hsh:tY t A s:=⟨hh,fun p hp=>(q p (by rw[hh.2];exact hp)).1⟩
    have hri:∀p,p<t.procs.l.length→∀i,i<lE t p→kR t A s p i:=fun p hp=>(q p (by rw[hh.2];exact hp)).2
    unfold bN.W3;refine(lV (n:=s.j.l.length) (P:=fun p=>∀i:Nat,(i:Int)<nth s.last.l p→oc s (el s p i)) ?_ ?_).iff ?_
    ·intro p hp _;have hp2:p<t.procs.l.length:=by rw[←hh.2];exact hp
     have hpl:p<s.last.l.length:=by rw[hl];exact hp2
     have hle:=ja hh.1.1.2 hp2;have hee:=hev p hp2;unfold bN.dI;rw[oQ hp,a_];unfold bN.W4;refine wX (n:=nth s.last.l p) (P:=fun i=>oc s (el s p i)) (fun i hi _=>?_) (fun i hi=>?_) (fun q=>?_) (fun q=>?_)
     ·unfold bN.rP;obtain⟨hie,hC⟩:=uO hsh hri hp2 hi;obtain⟨r,d,g1,g2,g3,g4⟩:=vf (s:=s) (p:=p) (i:=i) hp (by rw[hsh.2 p hp2];exact hie) hL
      rw[aQ hpl,ζb,←lS hpl,decide_eq_true hi,a_,g1,ζb,g2,ζb];rw[←g3]at hC;refine sP ?_ (bW i (by omega))
      rw[←g3];refine vu hL g4 (fun k hk=>?_) (fun k hk=>?_)
      ·have hk':k<t.procs.l.length:=by rw[←hC.1.1];exact hk
       have:=ja hC hk';have:=hev k hk';omega
      ·have hk':k<t.procs.l.length:=by rw[←hC.1.1];exact hk
       have:=ja hC hk';exact⟨by rw[hh.2];exact hk',fun i hi=>by rw[hsh.2 k hk'];omega⟩
     ·unfold bN.rP;rw[aQ hpl,ζb,←lS hpl,decide_eq_false (by omega),bM]
     ·exact(ai _).2 (.inl ⟨q,by rw[bW p (by omega)]⟩)
     ·exact(ai _).2 (.inr ⟨q,rfl⟩)
    ·intro _;unfold bN.dI;rw[qb,bM]
    ·rw[hval,hh.2];exact⟨fun k=>⟨⟨hsh,hri⟩,k⟩,fun k=>k.2⟩
   ·intro q;refine(ai _).2 ⟨fun e=>(nomatch e),fun k=>absurd (fun p hp=>?_) q⟩
    have hp2:p<t.procs.l.length:=by rw[←hh.2];exact hp
    exact⟨(hval.1 k).1.1.2 p hp2,(hval.1 k).1.2 p hp2⟩
theorem KM (hS:Small t) (hv:fD t=some true) (hV:VT t) (hM:eT t (aN t) A) (hL:me s) (hs:ki t A s) (c:Sl Int) (hc60:c.l.length≤60):aY (jP t s c) (Cons t A c.l∧oF s c.l):=by
 have h8:=hV.few;have hL1:=hL.f;have hev:∀p,p<t.procs.l.length→lE t p<1073741824:=fun p hp=>by rw[mZ hp];exact(hS.2 _ (List.getElem_mem hp)).1
 unfold jP;have k1:aY ((au s.empty (some false) ((c_ t c).bind fun x_1=>some x_1):Option Bool)) (s.empty=false∧Cons t A c.l):=by
  cases he:s.empty with
  | true=>exact fh ⟨fun e=>(nomatch e),fun q=>(nomatch q.1)⟩
  | false=>exact((Cg hS hv hV hM c).some).iff ⟨fun q=>⟨rfl,q⟩,fun q=>q.2⟩
 have k2:=aY.and k1 (Q:=kq s.first.l c.l) (n:=cR s.first c) (fun _=>AE (by omega)) (f:=fun x_2=>(au x_2 ((cR s.first c).bind fun x_3=>some x_3) (some false):Option Bool)) (fun b=>rfl)
 have k3:=aY.and k2 (Q:=kq c.l s.last.l) (n:=cR c s.last) (fun hq=>AE (by omega)) (f:=fun x_4=>(au x_4 ((cR c s.last).bind fun x_5=>some x_5) (some false):Option Bool)) (fun b=>rfl)
 have k4:=aY.and k3 (Q:=oc s c.l) (n:=cF s c) (fun hq=>by
  have hc:=hq.1.1.2;have he:=hq.1.1.1;rcases hs with⟨he',_⟩|⟨_,hF⟩
  ·rw[he]at he';cases he'
  have hcl:=hc.1.1;refine vu hL hc60 (fun p hp=>?_) (fun p hp=>⟨?_,fun i hi=>?_⟩)
  ·have:=ja hc (p:=p) (by omega);have:=hev p (by omega);omega
  ·rw[hF.1.1.1.2];omega
  ·have:=ja hc (p:=p) (by omega)
   rw[hF.1.1.2 p (by omega)];omega) (f:=fun x_6=>(au x_6 ((cF s c).bind fun x_7=>some x_7) (some false):Option Bool)) (fun b=>rfl)
 have k5:=k4.some;simp only[Option.bind_assoc]at k5 ⊢;refine k5.iff ?_;unfold oF;exact⟨fun⟨⟨⟨⟨a,b⟩,d⟩,e⟩,f⟩=>⟨b,⟨⟨a,d⟩,e⟩,f⟩,fun⟨b,⟨⟨a,d⟩,e⟩,f⟩=>⟨⟨⟨⟨a,b⟩,d⟩,e⟩,f⟩⟩
end
end Go.VE
namespace Go.VE
theorem B1 {s:Sl (Sl (Sl Int))} {p:Sl (Sl Int)→Option Bool} {f:Sl (Sl Int)→Bool} (hp:∀x∈s.l,p x=some (f x)) (hl:s.l.length<1073741824):gA s p=some (s.l.any f):=by
 have h:dN s p=some (place f s.l):=od hp (by omega) (fun i=>rfl)
 unfold gA;rw[h,ζb,nZ]
theorem EO {t:Trace} (hS:Small t) (m:Int):∃b,gb t m=some b:=by
 refine mO.get ?_;unfold gb gb.W1;refine vi t.procs.l.length (fun i q=>q.2=(i:Int)) rfl ?_ ?_
 ·rintro n ⟨c,_⟩ hlt e;simp only at e;subst e;have h1:=hS.1;unfold gb.aG;rw[oQ hlt,a_,aQ hlt,ζb,eW,ζb,eW,ζb];rw[vv (f:=fun z=>(nC z).getD false) (fun z _=>mO.ok ((ai _).2 trivial)) (hS.2 _ (List.getElem_mem hlt)).1]
  rw[tN (f:=fun z=>(ny z).getD false) (fun z _=>mO.ok ((ai _).2 trivial)) (hS.2 _ (List.getElem_mem hlt)).2.1]
  simp only[ζb,eW];rw[aT];exact⟨fun _=>(ai _).2 ((ai _).2 trivial),fun _=>(ai _).2 (bW n (by omega))⟩
 ·rintro⟨c,_⟩ e;simp only at e;subst e;unfold gb.aG;rw[qb,bM,ai];exact(ai _).2 trivial
structure Cn (s:Slice):Prop where
 j:s.j.l.length<1073741824
 r:∀r∈s.j.l,r.l.length<1073741824
theorem yC {s:Slice} (hF:Cn s):∃b,kf s=some b∧(b=true→me s):=by
 have hsh:∀r∈s.j.l,∃b,oG r=some b∧(b=true→r.l.length≤60∧∀c∈r.l,c.l.length≤60):=by
  intro r hr;unfold oG;rw[sw (p:=fun z=>lH z) (f:=fun c=>decide ((len c)>12)) (fun x _=>rfl) (hF.r r hr),ζb]
  simp only[fP,ζb];refine⟨_,rfl,fun h=>?_⟩
  simp only[ζh,decide_eq_true_eq,Bool.not_eq_true',List.any_eq_false,len]at h;refine⟨by omega,fun c hc=>?_⟩
  have:=h.2 c hc;have:=h.2 c hc;omega
 have hd:∀r∈s.j.l,gI r=some ((gI r).getD false):=fun r hr=>by
  obtain⟨b,hb,_⟩:=hsh r hr;unfold gI;rw[hb];rfl
 unfold kf;rw[B1 hd hF.j,ζb];simp only[fP,ζb];refine⟨_,rfl,fun h=>?_⟩
 simp only[ζh,decide_eq_true_eq,Bool.not_eq_true',List.any_eq_false,len]at h;refine⟨by omega,by omega,by omega,fun r hr=>?_⟩
 obtain⟨b,hb,h2⟩:=hsh r hr;have h3:=h.2 r hr;unfold gI at h3;rw[hb]at h3;refine h2 ?_
 cases b with
 | true=>rfl
 | false=>exact absurd rfl h3
section
variable {t:Trace} {s:Slice}
theorem uF (hv:cT t=some false):iB t s=some false:=by unfold iB;rw[hv];rfl
theorem zX (hv:fD t=some false):bN t s=some false:=by unfold bN;rw[hv];rfl
theorem YC (hS:Small t) (hN:(aN t).length<1073741824) (hF:Cn s) (c:Sl Int):mQ t s c=some true:=by
 obtain⟨b,hb⟩:=EO hS 40;obtain⟨d,hd,hL⟩:=yC hF;obtain⟨v,hv,hrv,hV⟩:=Bo hS hN;unfold mQ jv;rw[hb,hd];simp only[ζb,a_,eW]
 cases h:(((!b)||(!d))||decide ((len c)>20))with
 | true=>rfl
 | false=>
  simp only[Bool.or_eq_false_iff,Bool.not_eq_false',decide_eq_false_iff_not,len]at h;have hL:=hL h.1.2;rw[bM]
  cases v with
  | false=>
   have e:qI t s c=some false:=by unfold qI;rw[uF hv];rfl
   rw[uF hv,zX hrv,e];rfl
  | true=>
   have hV:=hV rfl;obtain⟨A,i,hA,hM⟩:=hV.msgs;obtain⟨x,h1,h2,hx⟩:=aY.same (DL hS hrv hV hM hL) (DE hS hv hV hM hL);rw[h1,h2,ζb,ζb,show (x==x)=true from by simp,a_]
   unfold qI;rw[h2,ζb]
   cases x with
   | false=>rfl
   | true=>
    have hE:=hx.1 rfl;have k1:=aY.and (Cd hS hv hV hM c) (Q:=oF s c.l) (n:=jF s c) (fun hC=>KD hS hV hL hE hC) (f:=fun x_3=>(au x_3 ((jF s c).bind fun x_4=>some x_4) (some false):Option Bool)) (fun b=>rfl)
    obtain⟨y,g1,g2,_⟩:=aY.same k1 (KM hS hrv hV hM hL hE c (by omega))
    rw[a_,a_];have e1:∀m:Option Bool,(m.bind fun x=>some x)=m:=fun m=>by cases m <;> rfl
    simp only[e1]at g1 ⊢;rw[g1,g2,ζb,ζb];simp
def Za (t:Trace) (A:bp 200 aH) (a b:Slice):Prop:=(Cons t A a.first.l∧oF b a.first.l)∧∀p,p<t.procs.l.length→∀i:Nat,(i:Int)<nth a.last.l p→Cons t A (el a p i)∧oF b (el a p i)
theorem HE {a b:Slice} (hS:Small t) (hN:(aN t).length<1073741824) (hFa:Cn a) (hFb:Cn b):jE t a b=some true:=by
 obtain⟨w,hw⟩:=EO hS 20;obtain⟨da,hda,hLa⟩:=yC hFa;obtain⟨db,hdb,hLb⟩:=yC hFb;obtain⟨v,hv,hrv,hV⟩:=Bo hS hN;have e1:∀m:Option Bool,(m.bind fun x=>some x)=m:=fun m=>by cases m <;> rfl
 unfold jE jv;rw[hw,hda,hdb];simp only[ζb,a_,eW]
 cases h:(((!w)||(!da))||(!db))with
 | true=>rfl
 | false=>
  simp only[Bool.or_eq_false_iff,Bool.not_eq_false']at h;have hLa:=hLa h.1.2;have hLb:=hLb h.2;rw[bM];unfold wq
  cases v with
  | false=>rw[uF hv,zX hrv];rfl
  | true=>
   have hV:=hV rfl;have h8:=hV.few;obtain⟨A,i,hA,hM⟩:=hV.msgs;have hev:∀p,p<t.procs.l.length→lE t p<1073741824:=fun p hp=>by rw[mZ hp];exact(hS.2 _ (List.getElem_mem hp)).1
   obtain⟨x,h1,h2,hx⟩:=aY.same (DL hS hrv hV hM hLa) (DE hS hv hV hM hLa);obtain⟨y,h3,h4,hy⟩:=aY.same (DL hS hrv hV hM hLb) (DE hS hv hV hM hLb);rw[h1,h2,h3,h4];simp only[ζb]
   cases x with
   | false=>rfl
   | true=>
    cases y with
    | false=>rfl
    | true=>
     have hEa:=hx.1 rfl;have hEb:=hy.1 rfl;show (au a.empty (some (true,(0:Int))) _).bind _=some true;unfold eB
     cases he:a.empty with
     | true=>rfl
     | false=>
      have hFa:Ck t A a:=by rcases hEa with⟨h,_⟩|⟨_,h⟩ <;> first|exact h|(rw[he]at h;cases h)
      have hlen:a.last.l.length=t.procs.l.length:=hFa.1.1.1.1.1.2.1.1;have hjl:a.j.l.length=t.procs.l.length:=hFa.1.1.1.2;have hC1:Cons t A a.first.l:=hFa.1.1.1.1.1.1
      have hel:∀p,p<t.procs.l.length→∀i:Nat,(i:Int)<nth a.last.l p→i<q_ a p∧Cons t A (el a p i):=fun p hp i hi=>by
       obtain⟨g1,g2⟩:=uO hFa.1.1 hFa.1.2 hp hi;exact⟨by rw[hFa.1.1.2 p hp];exact g1,g2⟩
      have p1:aY (jF b a.first) (Cons t A a.first.l∧oF b a.first.l):=(KD hS hV hLb hEb hC1).iff ⟨fun h=>⟨hC1,h⟩,fun h=>h.2⟩
      have p2:=aY.and p1 (Q:=∀p,p<t.procs.l.length→∀i:Nat,(i:Int)<nth a.last.l p→Cons t A (el a p i)∧oF b (el a p i)) (n:=cm a.last (fun z=>jt z b a)) (fun _=>by
       have hh:=hLa.l;rw[←hlen];refine o6 (g:=fun p i=>Cons t A (el a p i)∧oF b (el a p i)) (by omega) (fun p hp=>?_) (fun p hp i hi=>?_)
       ·have:=ja hFa.1.1.1.1.1.2 (p:=p) (by omega);have:=hev p (by omega);omega
       ·obtain⟨g1,g2⟩:=hel p (by omega) i hi
        obtain⟨d,hd,hde,hdl⟩:=tZ (s:=a) (p:=p) (i:=i) (by omega) g1 hLa
        unfold jt;rw[hd,ζb,e1,←hde];rw[←hde]at g2;exact(KD hS hV hLb hEb g2).iff ⟨fun h=>⟨g2,h⟩,fun h=>h.2⟩) (f:=fun x_4=>(au x_4 ((cm a.last (fun z=>jt z b a)).bind fun x_5=>some x_5) (some false):Option Bool)) (fun b=>rfl)
      have r1:aY (jP t b a.first) (Cons t A a.first.l∧oF b a.first.l):=KM hS hrv hV hM hLb hEb a.first (by have:=hLa.f;omega)
      have r2:aY ((jP t b a.first).bind fun x_1=>au x_1 (eB.W1 0 t a b) (some false)) ((Cons t A a.first.l∧oF b a.first.l)∧∀p,p<t.procs.l.length→∀i:Nat,(i:Int)<nth a.last.l p→Cons t A (el a p i)∧oF b (el a p i)):=by
       refine aY.and r1 (n:=eB.W1 0 t a b) (fun _=>?_) (fun x=>by cases x <;> simp[au,e1])
       have hh:=hLa.j;unfold eB.W1;rw[←hjl];refine lV (n:=a.j.l.length) (P:=fun p=>∀i:Nat,(i:Int)<nth a.last.l p→Cons t A (el a p i)∧oF b (el a p i)) ?_ ?_
       ·intro p hp _;have hp2:p<t.procs.l.length:=by omega
        have hpl:p<a.last.l.length:=by omega
        have hle:=ja hFa.1.1.1.1.1.2 hp2;have hee:=hev p hp2;unfold eB.aG;rw[oQ hp,a_];unfold eB.W2;refine wX (n:=nth a.last.l p) (P:=fun i=>Cons t A (el a p i)∧oF b (el a p i)) (fun i hi _=>?_) (fun i hi=>?_) (fun q=>?_) (fun q=>?_)
        ·unfold eB.bl;obtain⟨g1,_⟩:=hel p hp2 i hi;obtain⟨r,d,k1,k2,k3,k4⟩:=vf (s:=a) (p:=p) (i:=i) hp g1 hLa;rw[aQ hpl,ζb,←lS hpl,decide_eq_true hi,a_,k1,ζb,k2,ζb,←k3];exact sP (KM hS hrv hV hM hLb hEb d (by omega)) (bW i (by omega))
        ·unfold eB.bl;rw[aQ hpl,ζb,←lS hpl,decide_eq_false (by omega),bM]
        ·exact(ai _).2 (.inl ⟨q,by rw[bW p (by omega)]⟩)
        ·exact(ai _).2 (.inr ⟨q,rfl⟩)
       ·intro _;unfold eB.aG;rw[qb,bM]
      obtain⟨z,z1,z2,_⟩:=aY.same p2 r2;rw[bM,bM];rw[←Option.bind_assoc (f:=fun x_4=>au x_4 ((cm a.last fun z=>jt z b a).bind fun x_5=>some x_5) (some false)),z1,ζb,ζb,a_,ζb,show (!true)=false from rfl,bM,z2,ζb]
      show (au (z==z) (some true) (some false)).bind _=some true;rw[show (z==z)=true from by simp];rfl
end
end Go.VE
namespace Go.VE
theorem wv {α:Type} [bt α] {x:α}:∀{l:List α},x∈l→bt.wt x≤(l.map bt.wt).sum
 | y::l,h=>by
  simp only[List.map_cons,List.sum_cons];rcases List.mem_cons.1 h with rfl|h
  ·omega
  ·have:=wv h;omega
theorem qT {α:Type} [bt α] (h:∀x:α,1≤bt.wt x):∀(l:List α),l.length≤(l.map bt.wt).sum
 | []=>Nat.le_refl _
 | y::l=>by
  simp only[List.map_cons,List.sum_cons,List.length_cons];have:=qT h l;have:=h y;omega
theorem u5 {α:Type} [bt α] (s:Sl α):bt.wt s=(s.l.map bt.wt).sum+1:=rfl
theorem ym (p:Int):∀(es:List Event) (j:Int),(fJ p j es).length=es.length
 | [],_=>rfl
 | _::es,j=>by simp only[fJ,List.length_cons,ym p es]
theorem C6:∀(ps:List bq) (i:Int),(dK i ps).length≤(ps.map bt.wt).sum
 | [],_=>Nat.le_refl _
 | p::ps,i=>by
  simp only[dK,ζi,ym,List.map_cons,List.sum_cons];have h1:=C6 ps (i+1);have h2:=qT (α:=Event) (fun x=>Nat.le_add_left ..) p.events.l
  have h3:bt.wt p=bt.wt p.name+bt.wt p.vars+bt.wt p.events+1:=rfl;have h4:=u5 p.events;omega
theorem K5 {t:Trace} (h:bt.wt t≤1048576):Small t∧(aN t).length<1073741824:=by
 have h0:bt.wt t=bt.wt t.procs+1:=rfl;have h1:=u5 t.procs;have h2:=qT (α:=bq) (fun x=>Nat.le_add_left ..) t.procs.l
 have h3:=C6 t.procs.l 0;refine⟨⟨by omega,fun p hp=>?_⟩,by show (dK 0 t.procs.l).length<_;omega⟩
 have h4:=wv hp;have h5:bt.wt p=bt.wt p.name+bt.wt p.vars+bt.wt p.events+1:=rfl;have h6:=u5 p.events;have h7:=u5 p.vars;have h8:=qT (α:=Event) (fun x=>Nat.le_add_left ..) p.events.l
 have h9:=qT (α:=Var) (fun x=>Nat.le_add_left ..) p.vars.l
 have h10:bt.wt p.name=p.name.size+1:=rfl;refine⟨by omega,by omega,by omega,fun v hv=>?_,fun e he=>?_⟩
 ·have k1:=wv hv;have k2:bt.wt v=bt.wt v.name+bt.wt v.init_+1:=rfl;have k3:bt.wt v.name=v.name.size+1:=rfl;omega
 ·have k1:=wv he;have k2:bt.wt e=bt.wt e.kind+bt.wt e.peer+bt.wt e.message+bt.wt e.time+bt.wt e.assign+1:=rfl;have k3:=u5 e.assign;have k4:=qT (α:=Assign) (fun x=>Nat.le_add_left ..) e.assign.l
  omega
theorem fits {s:Slice} (h:bt.wt s≤1048576):Cn s:=by
 have h0:bt.wt s=bt.wt s.empty+bt.wt s.first+bt.wt s.last+bt.wt s.j+1:=rfl
 have h1:=u5 s.j;have h2:=qT (α:=Sl (Sl Int)) (fun x=>Nat.le_add_left ..) s.j.l
 refine⟨by omega,fun r hr=>?_⟩
 have h3:=wv hr;have h4:=u5 r;have h5:=qT (α:=Sl Int) (fun x=>Nat.le_add_left ..) r.l
 omega
end Go.VE
namespace Go.Proofs.YtjbnbbbiijdbpaaGreatDoor
open Go.ChangeShapes Go.WideShapes Go.ChangeAt Go.RowKit Go.VE
theorem own:ownKnob Tryz.prog.godebug=none:=by kernel_rfl
theorem kids:Kids Tryz.prog (·<Tryz.prog.types.size):=kids_rows (by kernel_rfl) (by kernel_rfl)
theorem full:∀t e,t<Tryz.prog.types.size→Tryz.prog.underlying t=some (.slice e)→0<Tryz.prog.cellsOf e:=slices_full_of Tryz.prog (by kernel_rfl)
theorem uq {H:Type}:∀l:List (DataW H),Rows.uptoBulkAll l=(l.map Rows.uptoBulk).sum
 | []=>by simp[Rows.uptoBulkAll]
 | d::r=>by simp[Rows.uptoBulkAll,uq r]
theorem Dh {H:Type}:sN (H:=H) Rows.uptoBulk where
 lit l:=by cases l <;> simp[Rows.uptoBulk]
 str s:=by simp[Rows.uptoBulk]
 nil:=by simp[Rows.uptoBulk]
 slice es sp:=by rw[Rows.uptoBulk,uq,uq];omega
 agg ps:=by rw[Rows.uptoBulk,uq];exact Nat.le_refl _
theorem Gl:Tryz.prog.globalNamed "antecede/predtype.parts" = some 0:=by kernel_rfl
theorem KB:(Tryz.prog.globals[0]?).map (·.type)=some 223:=by kernel_rfl
theorem table {W:World} (h:laidMetH Tryz.prog Rows.sliceOrdersUptoRow.laid W):Lib.TabIs Tryz.prog W "antecede/predtype.parts" .i64 B7:=
 Lib.tabIs_of_head (rest:=[]) Gl KB Tryz.underlying223 Tryz.underlying3 (by kernel_rfl) (by kernel_rfl) h
theorem VZ {W:World} (h:laidMetH Tryz.prog Rows.sliceOrdersUptoRow.laid W):qn (snap W):=fun g cs hg=>by
 change (if Nat.beq g 0 then some (B7.map (V.int .i64))else none)=some cs at hg;split at hg
 ·rename_i hb;cases hg;have:g=0:=Nat.eq_of_beq_eq_true hb;subst this;exact JS (fun i hi=>(table h).cell Gl i hi) (by decide)
 ·cases hg
set_option maxRecDepth 100000 in
theorem Ep (H:Type) (enc:TypeId×Value→H) (W:World) (base:Nat) (args:Array Value) (ds gs:List (DataW H)) (before:List MemPlace)
 (hval:∀(j:Nat) t v,Tryz.f5.params[j]? = some t→args[j]? = some v→Value.okWide Tryz.prog W .any base t v)
 (hW:DataW.Whole enc Tryz.prog Tryz.f5.params.toList Rows.sliceOrdersSpec.vars false W args.toList ds gs before) (hk:Rows.uptoSmall H (ds++gs)=true) (hL:laidMetH Tryz.prog Rows.sliceOrdersUptoRow.laid W) :
 Calls Tryz.prog 5 args W fun e W'=>∃v,e=.returned v∧Rows.sliceOrdersSpec.post enc Tryz.prog Tryz.f5 false true false false W args v W':=by
 have hW':=hW;obtain⟨p,q,hA0,hV,rfl,hfz,hnd⟩:=hW;have hA:DataW.TrodAll enc Tryz.prog W 0 (fun _=>true) true Tryz.f5.params.toList args.toList ds p:=hA0
 rw[Tryz.params5]at hA hval;obtain⟨v0,vs0,d0,ds0,p0,q0,hargs,rfl,rfl,h0,r0⟩:=trodAll_cons hA;obtain⟨v1,vs1,d1,ds1,p1,q1,rfl,rfl,rfl,h1,r1⟩:=trodAll_cons r0;obtain⟨v2,vs2,d2,ds2,p2,q2,rfl,rfl,rfl,h2,r2⟩:=trodAll_cons r1;obtain⟨rfl,rfl,rfl⟩:=trodAll_nil r2;obtain rfl:args=#[v0,v1,v2]:=by cases args;simp_all
 obtain⟨rfl,rfl⟩:=trodVars_none hV;obtain⟨a0,w0,k0,b0⟩:=Reads.GY (t:=24) (α:=VE.Trace) hval 0 rfl rfl h0;obtain⟨a1,w1,k1,b1⟩:=Reads.GY (t:=28) (α:=VE.Slice) hval 1 rfl rfl h1;obtain⟨a2,w2,k2,b2⟩:=Reads.GY (t:=28) (α:=VE.Slice) hval 2 rfl rfl h2;have hb:bt.wt a0+bt.wt a1+bt.wt a2≤1048576:=by
  have c0:=b0 Rows.uptoBulk Dh;have c1:=b1 Rows.uptoBulk Dh;have c2:=b2 Rows.uptoBulk Dh;have h7:Rows.uptoBulkAll ([d0,d1,d2]++[])≤1048576:=of_decide_eq_true hk;rw[uq]at h7;simp only[List.append_nil,List.map_cons,List.map_nil,List.sum_cons,List.sum_nil]at h7;omega
 obtain⟨hS,hN⟩:=K5 (t:=a0) (by omega)
 have hc:jR cL 5 [VE.enc a0,VE.enc a1,VE.enc a2]=some [.bool true]:=by
  have hl:(jE a0 a1 a2).bind (fun r:Bool=>some [V.bool r])=some [.bool true]:=by rw[HE hS hN (fits (s:=a1) (by omega)) (fits (s:=a2) (by omega))];rfl
  exact(uY a0 a1 a2).F.h () _ hl
 have:=Gi (P:=Tryz.prog) Mj EX calls (f:=5) (xs:=[VE.enc a0,VE.enc a1,VE.enc a2]) (by simp[V.bF,V.good,kC]) hc (w:=W) (args:=#[v0,v1,v2]) (VZ hL) (bB.cons w0 (bB.cons w1 (bB.cons w2 .nil)))
 refine this.mono fun e W' ⟨he,hg⟩=>?_
 subst he;exact⟨_,rfl,Il kids full (by rw[Tryz.params5];decide) rfl rfl rfl Tryz.underlying4 hW' hg⟩
noncomputable def vF (os:Os):World:=
 { World.holding Tryz.prog os ⟨#[],#[],[]⟩with heap:=(World.holding Tryz.prog os ⟨#[],#[],[]⟩).heap.modify 0 fun
  | .cells _ t frozen=>.cells (B7.map (Value.int .i64)).toArray t frozen
  | o=>o }
theorem JE (os:Os):laidMet Tryz.prog Rows.sliceOrdersUptoRow.laid ((vF os).forCall (fun _ _=>0) ⟨#[],#[.agg #[.slice none 0 0],.agg #[.bool false,.slice none 0 0,.slice none 0 0,.slice none 0 0],.agg #[.bool false,.slice none 0 0,.slice none 0 0,.slice none 0 0]],[]⟩).memory:=
 laidMet_of_run' 8 (by kernel_rfl) (by kernel_rfl)
theorem KZ (os:Os) {H:Type} (enc:TypeId×Value→H):∃places,DataW.whole enc Tryz.prog ((vF os).forCall (fun _ _=>0) ⟨#[],#[.agg #[.slice none 0 0],.agg #[.bool false,.slice none 0 0,.slice none 0 0,.slice none 0 0],.agg #[.bool false,.slice none 0 0,.slice none 0 0,.slice none 0 0]],[]⟩).memory Tryz.f5.params.toList Rows.sliceOrdersSpec.vars false (#[.agg #[.slice none 0 0],.agg #[.bool false,.slice none 0 0,.slice none 0 0,.slice none 0 0],.agg #[.bool false,.slice none 0 0,.slice none 0 0,.slice none 0 0]]:Array Value).toList 8=some ([.agg [.nil],.agg [.lit (.bool false),.nil,.nil,.nil],.agg [.lit (.bool false),.nil,.nil,.nil]],[],places):=
 ⟨[],by kernel_rfl⟩
set_option maxRecDepth 100000 in
theorem Ja (os:Os) (started:os.Started) (H:Type) (enc:TypeId×Value→H) (F:Stop.Interp) :
 ReturnsInHanded {} Tryz.checked os 5 .any ((Rows.OpenSpec.upto Rows.sliceOrdersSpec).preRow enc Tryz.prog Tryz.f5 Rows.sliceOrdersUptoRow.domain false Rows.sliceOrdersUptoRow.laid) (((Rows.OpenSpec.upto Rows.sliceOrdersSpec).at F).post enc Tryz.prog Tryz.f5 false true false false):=by
 obtain⟨places,hx⟩:=KZ os enc;refine returnsInHanded_of_row (C:=Tryz.checked) (s:=Rows.OpenSpec.upto Rows.sliceOrdersSpec) own started (by kernel_rfl) Tryz.func5
  (witness_row_at (enc:=enc) (C:=Tryz.checked) false (vF os) #[.agg #[.slice none 0 0],.agg #[.bool false,.slice none 0 0,.slice none 0 0,.slice none 0 0],.agg #[.bool false,.slice none 0 0,.slice none 0 0,.slice none 0 0]] rfl (by kernel_rfl) (by kernel_rfl) (by kernel_rfl)
   (OpenSpec.preRow_of_cond 8 hx (by kernel_rfl) (fun k hk=>by cases hk;kernel_rfl) (by kernel_rfl) (JE os))) ?_
 intro W base args ds gs before hval hW _ hcond _ hL _ _;exact Ep H enc W base args ds gs before hval hW (hcond _ rfl) hL
theorem Nf:Rows.SliceOrdersUptoSaid:=
 OpenClaim.holds_of_cond 5 Tryz.f5 rfl rfl rfl rfl rfl rfl rfl ⟨rfl,rfl,rfl,rfl,rfl⟩ rfl rfl rfl rfl rfl (by kernel_rfl) Tryz.func5 (by kernel_rfl)
  (of_decide_eq_true (by kernel_rfl)) (by unfold Func.isWrapper;first|(rw[if_pos (by decide +kernel)];kernel_rfl)|(rw[if_neg (by decide +kernel)];exact⟨rfl,rfl⟩))
  (fun os started H enc _ F=>by rw[OpenClaim.pre_eq_preRow];exact Ja os started H enc F)
theorem K3 (f:FuncId) (fn:Func) (hf:Tryz.pinned.checked.prog.funcNamed "antecede/antecedelaw34.SliceOrders" = some f) (hfn:Tryz.pinned.checked.prog.funcs[f]? = some fn) :
 false=Tryz.pinned.checked.prog.looks []∧∀(j:Nat) t,fn.params[j]? = some t→Tryz.pinned.checked.prog.wantsStandIn t=false:=by
 obtain rfl:f=5:=Option.some.inj ((show Tryz.prog.funcNamed "antecede/antecedelaw34.SliceOrders" = some 5 by kernel_rfl).symm.trans hf) |>.symm
 obtain rfl:fn=Tryz.f5:=(Option.some.inj (Tryz.func5.symm.trans hfn)).symm;refine⟨by kernel_rfl,fun j t ht=>?_⟩
 rw[Tryz.params5]at ht;have hm:t∈[24,28,28]:=by simpa using Array.mem_of_getElem? ht
 have hall:([24,28,28].all fun u => !Tryz.prog.wantsStandIn u)=true:=by kernel_rfl
 exact(show Tryz.prog.wantsStandIn t=false by simpa using List.all_eq_true.1 hall t hm)
theorem sliceOrdersProved:Rows.SliceOrdersUptoCardSaid:=
 Claim7.holds_tied_plain_at .later [] _ _ _ _ Nf (fun _ h=>by cases h) (by kernel_rfl) (fun _ h=>by cases h) sliceOrdersUpto_row_tie rfl ⟨rfl,rfl⟩ (by kernel_rfl) rfl K3 (by kernel_rfl)
#print axioms sliceOrdersProved
end Go.Proofs.YtjbnbbbiijdbpaaGreatDoor
