/-
 SliceLattice says true for all arguments that together are of bulk at most 1048576, and they read behind the call as they read before: for every such argument, without a condition.
-/
import Derived.Test.YtjbnbbbiijdbpaaGreatDoorRows
import Derived.Test.YtjbnbbbiijdbpaaGreatDoorCards
import Derived.Test.YtjbnbbbiijdbpaaGreatDoorTie
import Derived.Deep.DeepHandedRow
import Derived.Test.YtjbnbbbiijdbpaaGreatDoorK1
import Derived.Test.YtjbnbbbiijdbpaaGreatDoorG1
set_option linter.all false
namespace Go.VE
instance:bu Assign where
 wt x:=bu.wt x.var+bu.wt x.value+1
 ok x:=bu.ok x.var∧bu.ok x.value∧True
instance:bu Event where
 wt x:=bu.wt x.kind+bu.wt x.peer+bu.wt x.message+bu.wt x.time+bu.wt x.assign+1
 ok x:=bu.ok x.kind∧bu.ok x.peer∧bu.ok x.message∧bu.ok x.time∧bu.ok x.assign∧True
instance:bu Var where
 wt x:=bu.wt x.name+bu.wt x.init_+1
 ok x:=bu.ok x.name∧bu.ok x.init_∧True
instance:bu bt where
 wt x:=bu.wt x.name+bu.wt x.vars+bu.wt x.events+1
 ok x:=bu.ok x.name∧bu.ok x.vars∧bu.ok x.events∧True
instance:bu Trace where
 wt x:=bu.wt x.procs+1
 ok x:=bu.ok x.procs∧True
instance:bu Slice where
 wt x:=bu.wt x.empty+bu.wt x.first+bu.wt x.last+bu.wt x.j+1
 ok x:=bu.ok x.empty∧bu.ok x.first∧bu.ok x.last∧bu.ok x.j∧True
end Go.VE
namespace Go.VE.YtjbnbbbiijdbpaaGreatDoor
open Go.Proofs Go.Proofs.YtjbnbbbiijdbpaaGreatDoor
instance rd9:Reads Tryz.prog 9 ByteArray:=Reads.str Tryz.underlying9 (by kernel_rfl)
instance rd3:Reads Tryz.prog 3 Int:=Reads.int Tryz.underlying3 (by kernel_rfl)
instance Z7:Reads Tryz.prog 79 Var:=by
 refine Reads.st Tryz.underlying79 (by kernel_rfl) rfl ?_
 intro H enc w base spare held fuel cs l hl h;simp only[List.mapM_cons,List.mapM_nil,Option.pure_def,Option.bind_eq_bind,ζg,ζa]at h;obtain⟨x0,h0,ys0,⟨x1,h1,ys1,rfl,rfl⟩,rfl⟩:=h;obtain⟨a0,c0,k0,b0⟩:=Reads.rd (P:=Tryz.prog) (t:=9) (α:=ByteArray) (d:=x0.1) (ps:=x0.2) h0;rw[show Tryz.prog.cellsOf 9=1 from by kernel_rfl]at c0
 obtain⟨a1,c1,k1,b1⟩:=Reads.rd (P:=Tryz.prog) (t:=3) (α:=Int) (d:=x1.1) (ps:=x1.2) h1;rw[show Tryz.prog.cellsOf 3=1 from by kernel_rfl]at c1
 refine⟨⟨a0,a1⟩,dJ.fin (n:=2) (dJ.seg (o:=1) (n:=1) (dJ.seg (o:=0) (n:=1) (show dJ (snap w) [] (cs.take 0)from by simpa using dJ.nil) c0) c1) hl,⟨k0,k1,trivial⟩,fun b bo=>?_⟩
 have w0:=b0 b bo;have w1:=b1 b bo;show bu.wt a0+bu.wt a1+1≤_;simp only[List.map_cons,List.map_nil,List.sum_cons,List.sum_nil];omega
instance ZX:Reads Tryz.prog 56 (Sl Var):=Reads.sl (e:=79) Tryz.underlying56 (by kernel_rfl) (by decide)
instance ZQ:Reads Tryz.prog 152 Assign:=by
 refine Reads.st Tryz.underlying152 (by kernel_rfl) rfl ?_
 intro H enc w base spare held fuel cs l hl h;simp only[List.mapM_cons,List.mapM_nil,Option.pure_def,Option.bind_eq_bind,ζg,ζa]at h;obtain⟨x0,h0,ys0,⟨x1,h1,ys1,rfl,rfl⟩,rfl⟩:=h;obtain⟨a0,c0,k0,b0⟩:=Reads.rd (P:=Tryz.prog) (t:=3) (α:=Int) (d:=x0.1) (ps:=x0.2) h0;rw[show Tryz.prog.cellsOf 3=1 from by kernel_rfl]at c0
 obtain⟨a1,c1,k1,b1⟩:=Reads.rd (P:=Tryz.prog) (t:=3) (α:=Int) (d:=x1.1) (ps:=x1.2) h1;rw[show Tryz.prog.cellsOf 3=1 from by kernel_rfl]at c1
 refine⟨⟨a0,a1⟩,dJ.fin (n:=2) (dJ.seg (o:=1) (n:=1) (dJ.seg (o:=0) (n:=1) (show dJ (snap w) [] (cs.take 0)from by simpa using dJ.nil) c0) c1) hl,⟨k0,k1,trivial⟩,fun b bo=>?_⟩
 have w0:=b0 b bo;have w1:=b1 b bo;show bu.wt a0+bu.wt a1+1≤_;simp only[List.map_cons,List.map_nil,List.sum_cons,List.sum_nil];omega
instance Z3:Reads Tryz.prog 68 (Sl Assign):=Reads.sl (e:=152) Tryz.underlying68 (by kernel_rfl) (by decide)
instance ZV:Reads Tryz.prog 70 Event:=by
 refine Reads.st Tryz.underlying70 (by kernel_rfl) rfl ?_
 intro H enc w base spare held fuel cs l hl h;simp only[List.mapM_cons,List.mapM_nil,Option.pure_def,Option.bind_eq_bind,ζg,ζa]at h;obtain⟨x0,h0,ys0,⟨x1,h1,ys1,⟨x2,h2,ys2,⟨x3,h3,ys3,⟨x4,h4,ys4,rfl,rfl⟩,rfl⟩,rfl⟩,rfl⟩,rfl⟩:=h;obtain⟨a0,c0,k0,b0⟩:=Reads.rd (P:=Tryz.prog) (t:=3) (α:=Int) (d:=x0.1) (ps:=x0.2) h0;rw[show Tryz.prog.cellsOf 3=1 from by kernel_rfl]at c0
 obtain⟨a1,c1,k1,b1⟩:=Reads.rd (P:=Tryz.prog) (t:=3) (α:=Int) (d:=x1.1) (ps:=x1.2) h1;rw[show Tryz.prog.cellsOf 3=1 from by kernel_rfl]at c1
 obtain⟨a2,c2,k2,b2⟩:=Reads.rd (P:=Tryz.prog) (t:=3) (α:=Int) (d:=x2.1) (ps:=x2.2) h2;rw[show Tryz.prog.cellsOf 3=1 from by kernel_rfl]at c2
 obtain⟨a3,c3,k3,b3⟩:=Reads.rd (P:=Tryz.prog) (t:=3) (α:=Int) (d:=x3.1) (ps:=x3.2) h3;rw[show Tryz.prog.cellsOf 3=1 from by kernel_rfl]at c3
 obtain⟨a4,c4,k4,b4⟩:=Reads.rd (P:=Tryz.prog) (t:=68) (α:=(Sl Assign)) (d:=x4.1) (ps:=x4.2) h4;rw[show Tryz.prog.cellsOf 68=1 from by kernel_rfl]at c4
 refine⟨⟨a0,a1,a2,a3,a4⟩,dJ.fin (n:=5) (dJ.seg (o:=4) (n:=1) (dJ.seg (o:=3) (n:=1) (dJ.seg (o:=2) (n:=1) (dJ.seg (o:=1) (n:=1) (dJ.seg (o:=0) (n:=1) (show dJ (snap w) [] (cs.take 0)from by simpa using dJ.nil) c0) c1) c2) c3) c4) hl,⟨k0,k1,k2,k3,k4,trivial⟩,fun b bo=>?_⟩
 have w0:=b0 b bo;have w1:=b1 b bo;have w2:=b2 b bo;have w3:=b3 b bo;have w4:=b4 b bo;show bu.wt a0+bu.wt a1+bu.wt a2+bu.wt a3+bu.wt a4+1≤_;simp only[List.map_cons,List.map_nil,List.sum_cons,List.sum_nil];omega
instance ZS:Reads Tryz.prog 57 (Sl Event):=Reads.sl (e:=70) Tryz.underlying57 (by kernel_rfl) (by decide)
instance Z_:Reads Tryz.prog 59 bt:=by
 refine Reads.st Tryz.underlying59 (by kernel_rfl) rfl ?_
 intro H enc w base spare held fuel cs l hl h;simp only[List.mapM_cons,List.mapM_nil,Option.pure_def,Option.bind_eq_bind,ζg,ζa]at h;obtain⟨x0,h0,ys0,⟨x1,h1,ys1,⟨x2,h2,ys2,rfl,rfl⟩,rfl⟩,rfl⟩:=h;obtain⟨a0,c0,k0,b0⟩:=Reads.rd (P:=Tryz.prog) (t:=9) (α:=ByteArray) (d:=x0.1) (ps:=x0.2) h0;rw[show Tryz.prog.cellsOf 9=1 from by kernel_rfl]at c0
 obtain⟨a1,c1,k1,b1⟩:=Reads.rd (P:=Tryz.prog) (t:=56) (α:=(Sl Var)) (d:=x1.1) (ps:=x1.2) h1;rw[show Tryz.prog.cellsOf 56=1 from by kernel_rfl]at c1
 obtain⟨a2,c2,k2,b2⟩:=Reads.rd (P:=Tryz.prog) (t:=57) (α:=(Sl Event)) (d:=x2.1) (ps:=x2.2) h2;rw[show Tryz.prog.cellsOf 57=1 from by kernel_rfl]at c2
 refine⟨⟨a0,a1,a2⟩,dJ.fin (n:=3) (dJ.seg (o:=2) (n:=1) (dJ.seg (o:=1) (n:=1) (dJ.seg (o:=0) (n:=1) (show dJ (snap w) [] (cs.take 0)from by simpa using dJ.nil) c0) c1) c2) hl,⟨k0,k1,k2,trivial⟩,fun b bo=>?_⟩
 have w0:=b0 b bo;have w1:=b1 b bo;have w2:=b2 b bo;show bu.wt a0+bu.wt a1+bu.wt a2+1≤_;simp only[List.map_cons,List.map_nil,List.sum_cons,List.sum_nil];omega
instance ZU:Reads Tryz.prog 22 (Sl bt):=Reads.sl (e:=59) Tryz.underlying22 (by kernel_rfl) (by decide)
instance ZR:Reads Tryz.prog 24 Trace:=by
 refine Reads.st Tryz.underlying24 (by kernel_rfl) rfl ?_
 intro H enc w base spare held fuel cs l hl h;simp only[List.mapM_cons,List.mapM_nil,Option.pure_def,Option.bind_eq_bind,ζg,ζa]at h;obtain⟨x0,h0,ys0,rfl,rfl⟩:=h;obtain⟨a0,c0,k0,b0⟩:=Reads.rd (P:=Tryz.prog) (t:=22) (α:=(Sl bt)) (d:=x0.1) (ps:=x0.2) h0;rw[show Tryz.prog.cellsOf 22=1 from by kernel_rfl]at c0
 refine⟨⟨a0⟩,dJ.fin (n:=1) (dJ.seg (o:=0) (n:=1) (show dJ (snap w) [] (cs.take 0)from by simpa using dJ.nil) c0) hl,⟨k0,trivial⟩,fun b bo=>?_⟩
 have w0:=b0 b bo;show bu.wt a0+1≤_;simp only[List.map_cons,List.map_nil,List.sum_cons,List.sum_nil];omega
instance rd4:Reads Tryz.prog 4 Bool:=Reads.bool Tryz.underlying4 (by kernel_rfl)
instance Z8:Reads Tryz.prog 25 (Sl Int):=Reads.sl (e:=3) Tryz.underlying25 (by kernel_rfl) (by decide)
instance ZW:Reads Tryz.prog 33 (Sl (Sl Int)):=Reads.sl (e:=25) Tryz.underlying33 (by kernel_rfl) (by decide)
instance ZZ:Reads Tryz.prog 26 (Sl (Sl (Sl Int))):=Reads.sl (e:=33) Tryz.underlying26 (by kernel_rfl) (by decide)
instance ZT:Reads Tryz.prog 28 Slice:=by
 refine Reads.st Tryz.underlying28 (by kernel_rfl) rfl ?_
 intro H enc w base spare held fuel cs l hl h;simp only[List.mapM_cons,List.mapM_nil,Option.pure_def,Option.bind_eq_bind,ζg,ζa]at h;obtain⟨x0,h0,ys0,⟨x1,h1,ys1,⟨x2,h2,ys2,⟨x3,h3,ys3,rfl,rfl⟩,rfl⟩,rfl⟩,rfl⟩:=h;obtain⟨a0,c0,k0,b0⟩:=Reads.rd (P:=Tryz.prog) (t:=4) (α:=Bool) (d:=x0.1) (ps:=x0.2) h0;rw[show Tryz.prog.cellsOf 4=1 from by kernel_rfl]at c0
 obtain⟨a1,c1,k1,b1⟩:=Reads.rd (P:=Tryz.prog) (t:=25) (α:=(Sl Int)) (d:=x1.1) (ps:=x1.2) h1;rw[show Tryz.prog.cellsOf 25=1 from by kernel_rfl]at c1
 obtain⟨a2,c2,k2,b2⟩:=Reads.rd (P:=Tryz.prog) (t:=25) (α:=(Sl Int)) (d:=x2.1) (ps:=x2.2) h2;rw[show Tryz.prog.cellsOf 25=1 from by kernel_rfl]at c2
 obtain⟨a3,c3,k3,b3⟩:=Reads.rd (P:=Tryz.prog) (t:=26) (α:=(Sl (Sl (Sl Int)))) (d:=x3.1) (ps:=x3.2) h3;rw[show Tryz.prog.cellsOf 26=1 from by kernel_rfl]at c3
 refine⟨⟨a0,a1,a2,a3⟩,dJ.fin (n:=4) (dJ.seg (o:=3) (n:=1) (dJ.seg (o:=2) (n:=1) (dJ.seg (o:=1) (n:=1) (dJ.seg (o:=0) (n:=1) (show dJ (snap w) [] (cs.take 0)from by simpa using dJ.nil) c0) c1) c2) c3) hl,⟨k0,k1,k2,k3,trivial⟩,fun b bo=>?_⟩
 have w0:=b0 b bo;have w1:=b1 b bo;have w2:=b2 b bo;have w3:=b3 b bo;show bu.wt a0+bu.wt a1+bu.wt a2+bu.wt a3+1≤_;simp only[List.map_cons,List.map_nil,List.sum_cons,List.sum_nil];omega
end Go.VE.YtjbnbbbiijdbpaaGreatDoor
namespace Go.VE
theorem Zs {a:Int} (h0:0≤a) (h1:a<4294967296):R6 .u64 (IntKind.wrap .u64 (IntKind.wrap .i64 a)) 1=some (a / 2):=by
 have e1:IntKind.wrap .i64 a=a:=mm a (by omega) (by omega)
 have e2:IntKind.wrap .u64 a=a:=by simp[IntKind.wrap,IntKind.bits,IntKind.signed];omega
 rw[e1,e2];unfold R6;rw[if_neg (by omega)]
 show some (a.fdiv (2 ^ (min 1 64)))=_;rw[show (2:Int) ^ (min 1 64)=2 from rfl,Int.fdiv_eq_ediv_of_nonneg a (by omega)]
def Up (l:List Int):Prop:=∀(i j:Nat) (a b:Int),i<j→l[i]? = some a→l[j]? = some b→a<b
theorem WK {l:List Int} {x:Int} {r:Nat} (hr:r≤l.length) (h1:∀k a,k<r→l[k]? = some a→a≤x) (h2:∀k a,r≤k→l[k]? = some a→x<a):l.countP (fun a=>decide (a≤x))=r:=by
 have e:l=l.take r++l.drop r:=(List.take_append_drop r l).symm;rw[e,List.countP_append];have a1:(l.take r).countP (fun a=>decide (a≤x))=(l.take r).length:=by
  rw[List.countP_eq_length];intro a ha;obtain⟨k,hk⟩:=List.getElem?_of_mem ha;have hkl:k<(l.take r).length:=(ζe.1 hk).1;rw[List.getElem?_take]at hk;have hkr:k<r:=by rw[List.length_take]at hkl;omega
  rw[if_pos hkr]at hk;simpa using h1 k a hkr hk
 have a2:(l.drop r).countP (fun a=>decide (a≤x))=0:=by
  rw[List.countP_eq_zero];intro a ha;obtain⟨k,hk⟩:=List.getElem?_of_mem ha;rw[List.getElem?_drop]at hk;have:=h2 (r+k) a (by omega) hk
  simp;omega
 rw[a1,a2,List.length_take];omega
end Go.VE
namespace Go.VE
abbrev lQ {α:Type} (m:Option α):Prop:=Wp m fun _=>True
theorem lQ.get {α:Type} {m:Option α} (h:lQ m):∃a,m=some a:=let ⟨a,e,_⟩:=h;⟨a,e⟩
theorem lQ.ok {m:Option Bool} (h:lQ m):m=some (m.getD false):=by obtain⟨a,e,_⟩:=h;rw[e];rfl
def Small (t:Trace):Prop:=t.procs.l.length<1073741824∧∀p∈t.procs.l,p.events.l.length<1073741824∧p.vars.l.length<1073741824∧p.name.size<1073741824∧(∀v∈p.vars.l,v.name.size<1073741824)∧∀e∈p.events.l,e.assign.l.length<1073741824
section
theorem GN {s:Sl Event} {p:Event→Option Bool} {f:Event→Bool} (hp:∀x∈s.l,p x=some (f x)) (hl:s.l.length<1073741824):dQ s p=some (place f s.l):=
 n_ hp (by omega) (fun i=>rfl)
theorem Iw {s:Sl bt} {p:bt→Option Bool} {f:bt→Bool} (hp:∀x∈s.l,p x=some (f x)) (hl:s.l.length<1073741824):ec s p=some (place f s.l):=
 n_ hp (by omega) (fun i=>rfl)
theorem JV {s:Sl Var} {p:Var→Option Bool} {f:Var→Bool} (hp:∀x∈s.l,p x=some (f x)) (hl:s.l.length<1073741824):eA s p=some (place f s.l):=
 n_ hp (by omega) (fun i=>rfl)
theorem Ey {s:Sl Assign} {p:Assign→Option Bool} {f:Assign→Bool} (hp:∀x∈s.l,p x=some (f x)) (hl:s.l.length<1073741824):dI s p=some (place f s.l):=
 n_ hp (by omega) (fun i=>rfl)
theorem vI {s:Sl Event} {p:Event→Option Bool} {f:Event→Bool} (hp:∀x∈s.l,p x=some (f x)) (hl:s.l.length<1073741824):eY s p=some (s.l.any f):=by
 unfold eY;rw[GN hp hl,ζb,ou]
theorem wU {s:Sl bt} {p:bt→Option Bool} {f:bt→Bool} (hp:∀x∈s.l,p x=some (f x)) (hl:s.l.length<1073741824):fF s p=some (s.l.any f):=by
 unfold fF;rw[Iw hp hl,ζb,ou]
theorem tS {s:Sl Var} {p:Var→Option Bool} {f:Var→Bool} (hp:∀x∈s.l,p x=some (f x)) (hl:s.l.length<1073741824):ey s p=some (s.l.any f):=by
 unfold ey;rw[JV hp hl,ζb,ou]
theorem uj {s:Sl Assign} {p:Assign→Option Bool} {f:Assign→Bool} (hp:∀x∈s.l,p x=some (f x)) (hl:s.l.length<1073741824):eN s p=some (s.l.any f):=by
 unfold eN;rw[Ey hp hl,ζb,ou]
theorem gG (x lo hi:Int):jU x lo hi=some (decide (lo≤x)&&decide (x≤hi)):=by
 unfold jU;rw[fS];rfl
theorem zP (c:Int):lQ (iD c):=by
 unfold iD;simp only[fS,fu,ζb,lQ,ai]
theorem Ir (c:Int):lQ (k_ c):=by
 unfold k_;simp only[fS,fu,ζb,lQ,ai]
theorem vm {s:ByteArray} {i:Nat} (h:i<s.size):∃x,gO s (i:Int)=some x:=by
 unfold gO;rw[if_pos (by omega)]
 exact⟨_,by rw[show (s[(i:Int).toNat]?)=some s[i]from by simp[h]];rfl⟩
theorem zA (s:ByteArray) (hs:s.size<1073741824):lQ (cZ s):=by
 unfold cZ;simp only[fu,ζb];rw[lQ,dx];have h1:lQ (au (ByteArray.toList s==ByteArray.toList ByteArray.empty||decide (((ByteArray.size s:Nat):Int)>16)) (some true)
  ((gO s 0).bind fun x_2=>(iD x_2).bind fun x_3=>some (!x_3))):=by
  rw[lQ,aU];refine⟨fun _=>(ai _).2 trivial,fun h=>?_⟩
  have h0:0<s.size:=by
   simp only[Bool.or_eq_false_iff,beq_eq_false_iff_ne,ne_eq]at h;apply Classical.byContradiction;intro hn;apply h.1;have:s=ByteArray.empty:=by
    apply ByteArray.ext;apply Array.eq_empty_of_size_eq_zero;show s.size=0;omega
   rw[this]
  obtain⟨x,hx⟩:=vm h0;rw[show (0:Int)=((0:Nat):Int)from rfl,hx,ζb];obtain⟨y,hy⟩:=(zP x).get;rw[hy,ζb,ai];trivial
 refine h1.mono fun b _=>?_
 rw[aU];refine⟨fun _=>(ai _).2 trivial,fun _=>?_⟩
 unfold cZ.W1;refine c8 (fun i:Int=>∃n:Nat,i=n∧n≤s.size) (fun i:Int=>s.size-i.toNat) ⟨0,rfl,Nat.zero_le _⟩ ?_
 rintro i ⟨n,rfl,hn⟩;unfold cZ.aD;rw[aU];refine⟨fun h=>?_,fun _=>(ai _).2 ((ai _).2 trivial)⟩
 have hlt:n<s.size:=by simpa using h
 obtain⟨x,hx⟩:=vm hlt;obtain⟨y,hy⟩:=(zP x).get;obtain⟨z,hz⟩:=(Ir x).get;simp only[hx,hy,hz,ζb];rw[dx,aU];refine⟨fun _=>(ai _).2 ?_,fun _=>(ai _).2 ?_⟩ <;>
 ·rw[dx,aU];refine⟨fun _=>(ai _).2 ?_,fun _=>(ai _).2 ?_⟩ <;>
  ·rw[aU];refine⟨fun _=>(ai _).2 ((ai _).2 trivial),fun _=>(ai _).2 ?_⟩
   exact⟨⟨n+1,bR n (by omega),by omega⟩,by rw[bR n (by omega)];simp;omega⟩
theorem Kg {t:Trace} (hS:Small t) {p:Nat} (hp:p<t.procs.l.length):lQ (bX t p):=by
 unfold bX;rw[aO hp,ζb];obtain⟨_,hps⟩:=hS;obtain⟨h1,h2,h3,h4,h5⟩:=hps _ (List.getElem_mem hp);generalize hx:t.procs.l[p]=x at *;obtain⟨b,hb⟩:=(zA x.name h3).get;obtain⟨y,hy,hyl⟩:=lX t.procs p (by omega)
 rw[hb,ζb,hy,ζb,wU (f:=fun z=>(e_ z x).getD false) (fun z _=>lQ.ok ((ai _).2 trivial)) (by rw[hyl];simp;omega),ζb,js,ζb,lQ,aU]
 refine⟨fun _=>(ai _).2 trivial,fun _=>?_⟩
 rw[aU];refine⟨fun _=>(ai _).2 trivial,fun _=>?_⟩
 unfold bX.W1;refine c8 (fun i:Int=>∃n:Nat,i=n∧n≤x.vars.l.length) (fun i:Int=>x.vars.l.length-i.toNat) ⟨0,rfl,Nat.zero_le _⟩ ?_
 rintro i ⟨n,rfl,hn⟩;unfold bX.aD;rw[aU];refine⟨fun h=>?_,fun _=>(ai _).2 ?_⟩
 ·have hlt:n<x.vars.l.length:=by simpa [len]using h
  rw[aO hlt,ζb];obtain⟨b',hb'⟩:=(zA x.vars.l[n].name (h4 _ (List.getElem_mem hlt))).get;obtain⟨y',hy',hyl'⟩:=lX x.vars n (by omega)
  rw[hb',ζb,hy',ζb,tS (f:=fun z=>(fh z x.vars.l[n]).getD false) (fun z _=>lQ.ok ((ai _).2 trivial)) (by rw[hyl'];simp;omega),ζb,js,ζb,gG,ζb,aU]
  refine⟨fun _=>(ai _).2 ((ai _).2 trivial),fun _=>?_⟩
  rw[aU];refine⟨fun _=>(ai _).2 ?_,fun _=>(ai _).2 ((ai _).2 trivial)⟩
  exact⟨⟨n+1,bR n (by omega),by omega⟩,by rw[bR n (by omega)];simp;omega⟩
 ·rw[js];exact(ai _).2 trivial
def f_ (n:Nat) (p:Int) (e:Event):Prop:=e.kind=1∨((e.kind=2∨e.kind=3)∧0≤e.peer∧e.peer<n∧e.peer≠p∧0≤e.message∧e.message≤199)
theorem Ie {t:Trace} (hS:Small t) (p:Int) (e:Event):Wp (dA t p e) fun b=>b=true→f_ t.procs.l.length p e:=by
 have hw:IntKind.wrap .i64 ((len t.procs)-1)=(t.procs.l.length:Int)-1:=mm _ (by simp[len];omega) (by have:=hS.1;simp[len];omega)
 have j:∀b:Bool,(b=true→e.kind=2∨e.kind=3)→Wp (dA.J1 p b t e) fun b=>b=true→f_ t.procs.l.length p e:=by
  intro b hb;unfold dA.J1;simp only[gG,ζb,fS,hw,aU,ai];intro k;simp only[ζh,decide_eq_true_eq,Bool.not_eq_true',beq_eq_false_iff_ne,ne_eq]at k;exact .inr ⟨hb k.1,k.2.1.1.1,by omega,k.2.1.2,k.2.2.1,k.2.2.2⟩
 unfold dA;simp only[fS,ζb,aU,ai];refine⟨fun h _=>.inl (by simpa using h),fun _=>⟨fun h=>j true fun _=>.inl (by simpa using h),fun _=>j _ fun h=>.inr (by simpa using h)⟩⟩
end
end Go.VE
namespace Go.VE
def hG (t:Trace) (p k:Nat) (e:Event):Prop:=∃P,t.procs.l[p]? = some P∧P.events.l[k]? = some e
theorem qC {p:Int} {x:aa×Event}:∀{es:List Event} {j:Int},x∈fN p j es↔∃k:Nat,es[k]? = some x.2∧x.1=⟨p,j+k+1⟩
 | [],j=>by simp[fN]
 | e::es,j=>by
  simp only[fN,List.mem_cons,qC (es:=es)];constructor
  ·rintro (rfl|⟨k,h1,h2⟩)
   ·exact⟨0,rfl,by simp⟩
   ·exact⟨k+1,by simpa using h1,by rw[h2];congr 1;push_cast;omega⟩
  ·rintro⟨k,h1,h2⟩
   cases k with
   | zero=>
    simp at h1;exact .inl (by obtain⟨a,b⟩:=x;simp only at h1 h2;rw[h1,h2];simp)
   | succ k=>exact .inr ⟨k,by simpa using h1,by rw[h2];congr 1;push_cast;omega⟩
theorem rq {x:aa×Event}:∀{ps:List bt} {i:Int},x∈dO i ps↔∃(a k:Nat) (P:bt),ps[a]? = some P∧P.events.l[k]? = some x.2∧x.1=⟨i+a,k+1⟩
 | [],i=>by simp[dO]
 | p::ps,i=>by
  simp only[dO,List.mem_append,qC,rq (ps:=ps)];constructor
  ·rintro (⟨k,h1,h2⟩|⟨a,k,P,h1,h2,h3⟩)
   ·exact⟨0,k,p,rfl,h1,by rw[h2];simp⟩
   ·exact⟨a+1,k,P,by simpa using h1,h2,by rw[h3];congr 1;push_cast;omega⟩
  ·rintro⟨a,k,P,h1,h2,h3⟩
   cases a with
   | zero=>
    simp at h1;subst h1;exact .inl ⟨k,h2,by rw[h3];simp⟩
   | succ a=>exact .inr ⟨a,k,P,by simpa using h1,h2,by rw[h3];congr 1;push_cast;omega⟩
abbrev aM (t:Trace):List (aa×Event):=dO 0 t.procs.l
theorem bV {t:Trace} {x:aa×Event}:x∈aM t↔∃p k:Nat,hG t p k x.2∧x.1=⟨p,k+1⟩:=by
 unfold aM;rw[rq];constructor
 ·rintro⟨a,k,P,h1,h2,h3⟩;exact⟨a,k,⟨P,h1,h2⟩,by rw[h3];simp⟩
 ·rintro⟨a,k,⟨P,h1,h2⟩,h3⟩;exact⟨a,k,P,h1,h2,by rw[h3];simp⟩
theorem vf {t:Trace} {x y:aa×Event} (hx:x∈aM t) (hy:y∈aM t) (h:x.1=y.1):x=y:=by
 obtain⟨p,k,⟨P,hP,hk⟩,e1⟩:=bV.1 hx;obtain⟨q,j,⟨Q,hQ,hj⟩,e2⟩:=bV.1 hy;obtain⟨a,e⟩:=x;obtain⟨b,f⟩:=y;simp only at *;subst h;rw[e1]at e2;simp only[aa.mk.injEq]at e2;have hpq:p=q:=by omega
 have hkj:k=j:=by omega
 subst hpq hkj;rw[hP]at hQ;cases hQ;rw[hk]at hj;cases hj;rfl
theorem o7 {t:Trace} (hS:Small t):gb t=some (aM t):=by
 unfold gb;rw[if_pos];simp only[Ci,ζh,List.all_eq_true,decide_eq_true_eq];exact⟨by have:=hS.1;omega,fun p hp=>by have:=(hS.2 p hp).1;omega⟩
theorem Qv {t:Trace} (hS:Small t) {p k:Nat} {e:Event} (h:hG t p k e):Wp (bA t ⟨p,k+1⟩ e) fun r=>r=0→f_ t.procs.l.length p e:=by
 obtain⟨P,hP,hk⟩:=h;have hPm:P∈t.procs.l:=List.mem_of_getElem? hP;obtain⟨h1,h2,h3,h4,h5⟩:=hS.2 P hPm;have hkl:k<P.events.l.length:=(ζe.1 hk).1;have hem:e∈P.events.l:=List.mem_of_getElem? hk;have j:∀last:Int,Wp (bA.J1 last t ⟨p,k+1⟩ e P) fun r=>r=0→f_ t.procs.l.length p e:=by
  intro last;unfold bA.J1;rw[dx];refine(Ie hS p e).mono fun b hb=>?_
  rw[aU];refine⟨fun hbt=>?_,fun _=>(ai _).2 fun h=>by cases h⟩
  have hf:=hb hbt;simp only[gG,ζb,js];refine Wp.mono (P:=fun _=>True) ?_ fun _ _ _=>hf
  rw[aU];refine⟨fun _=>(ai _).2 trivial,fun _=>?_⟩
  rw[aU];refine⟨fun _=>(ai _).2 trivial,fun _=>?_⟩
  unfold bA.W2;refine c8 (fun i:Int=>∃n:Nat,i=n∧n≤e.assign.l.length) (fun i:Int=>e.assign.l.length-i.toNat) ⟨0,rfl,Nat.zero_le _⟩ ?_
  rintro i ⟨n,rfl,hn⟩;have hal:=h5 e hem;unfold bA.bg;rw[aU];refine⟨fun h=>?_,fun _=>(ai _).2 ((ai _).2 trivial)⟩
  have hlt:n<e.assign.l.length:=by simpa [len]using h
  obtain⟨y',hy',hyl'⟩:=lX e.assign n (by omega)
  rw[aO hlt,ζb];simp only[gG,ζb,js];rw[hy',ζb,uj (f:=fun z=>(fV z e.assign.l[n]).getD false) (fun z _=>lQ.ok ((ai _).2 trivial)) (by rw[hyl'];simp;omega),ζb,aU]
  refine⟨fun _=>(ai _).2 ((ai _).2 trivial),fun _=>?_⟩
  rw[ai];split
  ·exact(ai _).2 trivial
  ·exact⟨⟨n+1,bR n (by omega),by omega⟩,by rw[bR n (by omega)];simp;omega⟩
 unfold bA;rw[show idx t.procs ((⟨(p:Int),(k:Int)+1⟩:aa).proc)=some P from by rw[o6,hP],ζb,aU]
 refine⟨fun h=>?_,fun _=>j 0⟩
 have hk1:1≤k:=by
  have:(k:Int)+1>1:=by simpa using h
  omega
 have hw:IntKind.wrap .i64 ((⟨(p:Int),(k:Int)+1⟩:aa).index-2)=((k-1:Nat):Int):=by
  show IntKind.wrap .i64 ((k:Int)+1-2)=_;rw[mm _ (by omega) (by omega)];omega
 rw[hw,aO (by omega:k-1<P.events.l.length),ζb]
 exact j _
def o_ (t:Trace) (p m to:Int):Bool:=match t.procs.l[p.toNat]? with
 | some P=>P.events.l.any fun e=>e.kind==2&&e.message==m&&e.peer==to
 | none=>false
theorem KX {t:Trace} (hS:Small t) {p:Int} (h0:0≤p) (h1:p<t.procs.l.length) (m to:Int):qo t p m to=some (o_ t p m to):=by
 unfold qo;have hlt:p.toNat<t.procs.l.length:=by omega
 have hP:=List.getElem_mem hlt;rw[QJ h0,ζd hlt,ζb,vI (f:=fun e=>e.kind==2&&e.message==m&&e.peer==to) (fun e _=>by
  unfold mJ;simp only[fS,ζb]) (hS.2 _ hP).1,ζb]
 unfold o_;rw[ζd hlt]
theorem rE {t:Trace} {p:Nat} {m to:Int}:o_ t p m to=true↔∃k e,hG t p k e∧e.kind=2∧e.message=m∧e.peer=to:=by
 unfold o_ hG;rw[show ((p:Nat):Int).toNat=p from rfl]
 cases hP:t.procs.l[p]? with
 | none=>simp
 | some P=>
  simp only[List.any_eq_true,ζh,beq_iff_eq,ζa,exists_eq_left'];constructor
  ·rintro⟨e,he,h⟩;obtain⟨k,hk⟩:=List.getElem?_of_mem he;exact⟨k,e,hk,h.1.1,h.1.2,h.2⟩
  ·rintro⟨k,e,hk,h1,h2,h3⟩;exact⟨e,List.mem_of_getElem? hk,⟨h1,h2⟩,h3⟩
def ag (A:bq 200 aH) (m:Int):aH:=(A.at m).getD default
theorem GH (A:bq 200 aH) {m:Int} (h0:0≤m) (h1:m≤199):A.at m=some (ag A m):=by
 have:m.toNat<A.l.length:=by rw[A.len];omega
 unfold ag bq.at;rw[if_pos h0,ζd this];rfl
theorem ni (A:bq 200 aH) {m m':Int} (x:aH) (h0:0≤m) (h1:m≤199) (h2:0≤m'):ag (A.set m x) m'=if m'=m then x else ag A m':=by
 have:m.toNat<A.l.length:=by rw[A.len];omega
 unfold ag bq.at bq.set;simp only[if_pos h2];rw[List.getElem?_set]
 by_cases e:m'=m
 ·subst e;simp[this]
 ·rw[if_neg (by omega),if_neg e]
theorem HP {m:Int} (h0:0≤m) (h1:m≤199):ag (bq.Iq 200 (⟨⟨0,0⟩,⟨0,0⟩⟩:aH)) m=⟨⟨0,0⟩,⟨0,0⟩⟩:=by
 unfold ag bq.at bq.Iq;simp only[if_pos h0];rw[List.getElem?_replicate,if_pos (by omega)];rfl
structure dS (t:Trace) (its:List (aa×Event)) (A:bq 200 aH):Prop where
 snd:∀x∈its,x.2.kind=2→(ag A x.2.message).from_=x.1
 rcv:∀x∈its,x.2.kind=3→(ag A x.2.message).to_=x.1∧o_ t x.2.peer x.2.message x.1.proc=true
 fr:∀m,0≤m→m≤199→(ag A m).from_.index=0∨∃e,((ag A m).from_,e)∈its∧e.kind=2∧e.message=m
 to:∀m,0≤m→m≤199→(ag A m).to_.index=0∨∃e,((ag A m).to_,e)∈its∧e.kind=3∧e.message=m
def Hj (a b:aa×Event):Prop:=a.1.proc<b.1.proc∨a.1.proc=b.1.proc∧a.1.index<b.1.index
theorem IQ {p:Int}:∀{es:List Event} {j:Int},(fN p j es).Pairwise Hj
 | [],_=>List.Pairwise.nil
 | e::es,j=>by
  simp only[fN,List.pairwise_cons];refine⟨fun b hb=>?_,IQ⟩
  obtain⟨k,_,h2⟩:=qC.1 hb;refine .inr ⟨by rw[h2],?_⟩
  rw[h2];dsimp only;omega
theorem DU:∀{ps:List bt} {i:Int},(dO i ps).Pairwise Hj
 | [],_=>List.Pairwise.nil
 | P::ps,i=>by
  simp only[dO,List.pairwise_append];refine⟨IQ,DU,fun a ha b hb=>.inl ?_⟩
  obtain⟨k,_,h2⟩:=qC.1 ha;obtain⟨c,j,P,_,_,h3⟩:=rq.1 hb;rw[h2,h3];dsimp only;omega
theorem CM {t:Trace} {k:Nat} {x y:aa×Event} (hx:(aM t)[k]? = some x) (hy:y∈(aM t).take k):y.1≠x.1:=by
 obtain⟨h1,h2⟩:=ζe.1 hx;have hp:((aM t).take k++(aM t).drop k).Pairwise Hj:=by rw[List.take_append_drop];exact DU
 have:=(List.pairwise_append.1 hp).2.2 y hy x (by rw[List.drop_eq_getElem_cons h1,h2];exact List.mem_cons_self ..)
 intro e;unfold Hj at this;rw[e]at this;omega
structure uq (t:Trace):Prop where
 snd:∀x∈aM t,∀y∈aM t,x.2.kind=2→y.2.kind=2→x.2.message=y.2.message→x.1=y.1
 rcv:∀x∈aM t,∀y∈aM t,x.2.kind=3→y.2.kind=3→x.2.message=y.2.message→x.1=y.1
 has:∀x∈aM t,x.2.kind=3→o_ t x.2.peer x.2.message x.1.proc=true
theorem dS.we {t:Trace} {A:bq 200 aH} (h:dS t (aM t) A):uq t:=
 ⟨fun x hx y hy k2 k2' hm=>by rw[←h.snd x hx k2,←h.snd y hy k2',hm],fun x hx y hy k2 k2' hm=>by rw[←(h.rcv x hx k2).1,←(h.rcv y hy k2').1,hm],fun x hx k=>(h.rcv x hx k).2⟩
theorem zG {t:Trace} (hS:Small t) (hF:∀x∈aM t,f_ t.procs.l.length x.1.proc x.2):Wp (cW t) fun r=>(r.2.2=0→∃A,r.1=some A∧dS t (aM t) A)∧(uq t→r.2.2=0):=by
 unfold cW gi;rw[ζb];unfold cW.E1;rw[o7 hS,ζb];refine uF (fun k A=>dS t ((aM t).take k) A) ⟨by simp,by simp,fun m h0 h1=>.inl (by rw[HP h0 h1]),fun m h0 h1=>.inl (by rw[HP h0 h1])⟩ ?_ ?_
 ·intro k x A hx hI;have hxm:x∈aM t:=List.mem_of_getElem? hx;have hkl:k<(aM t).length:=(ζe.1 hx).1;have htk:(aM t).take (k+1)=(aM t).take k++[x]:=by rw[List.take_add_one,hx];rfl
  obtain⟨p,j,hat,hid⟩:=bV.1 hxm;have hxi:x.1.index>0:=by rw[hid];show (j:Int)+1>0;omega
  have hf:=hF x hxm;unfold cW.mK;rw[aU];constructor
  ·intro hk;have hk2:x.2.kind=2:=by simpa using hk
   have hm:0≤x.2.message∧x.2.message≤199:=by
    rcases hf with h|⟨_,_,_,_,h⟩
    ·omega
    ·exact h
   rw[GH A hm.1 hm.2,ζb,aU];refine⟨fun hg=>(ai _).2 ((ai _).2 ⟨fun h=>(by cases h),fun hp=>?_⟩),fun h0=>?_⟩
   ·rcases hI.fr _ hm.1 hm.2 with hg'|⟨e,he,hk',hm'⟩
    ·simp[hg']at hg
    ·exact absurd (hp.snd _ (List.mem_of_mem_take he) x hxm hk' hk2 hm') (CM hx he)
   have h0:¬(ag A x.2.message).from_.index>0:=by simpa using h0
   rw[ζb,ai,htk];have old:∀y∈(aM t).take k,y.2.kind=2→y.2.message≠x.2.message:=fun y hy hy2 he=>by
    have:=hI.snd y hy hy2;rw[he]at this;rw[this]at h0;obtain⟨p',j',_,hid'⟩:=bV.1 (List.mem_of_mem_take hy);rw[hid']at h0;exact h0 (by show (j':Int)+1>0;omega)
   have nn:∀y∈(aM t).take k,y.2.kind=2∨y.2.kind=3→0≤y.2.message:=fun y hy hy2=>by
    rcases hF y (List.mem_of_mem_take hy)with h|⟨_,_,_,_,h,_⟩
    ·omega
    ·exact h
   refine⟨fun y hy hy2=>?_,fun y hy hy3=>?_,fun m m0 m1=>?_,fun m m0 m1=>?_⟩
   ·rcases List.mem_append.1 hy with hy|hy
    ·rw[ni A _ hm.1 hm.2 (nn y hy (.inl hy2)),if_neg (old y hy hy2)];exact hI.snd y hy hy2
    ·simp at hy;subst hy;rw[ni A _ hm.1 hm.2 hm.1,if_pos rfl]
   ·rcases List.mem_append.1 hy with hy|hy
    ·rw[ni A _ hm.1 hm.2 (nn y hy (.inr hy3))];have:=hI.rcv y hy hy3;split
     ·rename_i e;rw[e]at this;exact⟨this.1,by rw[e];exact this.2⟩
     ·exact this
    ·simp at hy;subst hy;omega
   ·rw[ni A _ hm.1 hm.2 m0];split
    ·rename_i e;exact .inr ⟨x.2,by simp,hk2,e.symm⟩
    ·exact(hI.fr m m0 m1).imp (fun h=>h) fun⟨e,h1,h2⟩=>⟨e,List.mem_append_left _ h1,h2⟩
   ·rw[ni A _ hm.1 hm.2 m0];have:=(hI.to m m0 m1).imp (fun h=>h) fun⟨e,h1,h2⟩=>(⟨e,List.mem_append_left [x] h1,h2⟩:∃e,((ag A m).to_,e)∈(aM t).take k++[x]∧e.kind=3∧e.message=m)
    split
    ·rename_i e;subst e;exact this
    ·exact this
  ·intro hk;have hk2:¬x.2.kind=2:=by simpa using hk
   rw[aU];constructor
   ·intro hk;have hk3:x.2.kind=3:=by simpa using hk
    have hm:0≤x.2.message∧x.2.message≤199∧0≤x.2.peer∧x.2.peer<t.procs.l.length:=by
     rcases hf with h|⟨_,h1,h2,_,h3,h4⟩
     ·omega
     ·exact⟨h3,h4,h1,h2⟩
    rw[GH A hm.1 hm.2.1,ζb,aU];refine⟨fun hg=>(ai _).2 ((ai _).2 ⟨fun h=>(by cases h),fun hp=>?_⟩),fun h0=>?_⟩
    ·rcases hI.to _ hm.1 hm.2.1 with hg'|⟨e,he,hk',hm'⟩
     ·simp[hg']at hg
     ·exact absurd (hp.rcv _ (List.mem_of_mem_take he) x hxm hk' hk3 hm') (CM hx he)
    have h0:¬(ag A x.2.message).to_.index>0:=by simpa using h0
    rw[KX hS hm.2.2.1 hm.2.2.2,ζb,aU];refine⟨fun hs=>?_,fun hs=>(ai _).2 ((ai _).2 ⟨fun h=>(by cases h),fun hp=>by rw[hp.has x hxm hk3]at hs;cases hs⟩)⟩
    rw[ζb,ai,htk];have old:∀y∈(aM t).take k,y.2.kind=3→y.2.message≠x.2.message:=fun y hy hy2 he=>by
     have:=(hI.rcv y hy hy2).1;rw[he]at this;rw[this]at h0;obtain⟨p',j',_,hid'⟩:=bV.1 (List.mem_of_mem_take hy);rw[hid']at h0;exact h0 (by show (j':Int)+1>0;omega)
    have nn:∀y∈(aM t).take k,y.2.kind=2∨y.2.kind=3→0≤y.2.message:=fun y hy hy2=>by
     rcases hF y (List.mem_of_mem_take hy)with h|⟨_,_,_,_,h,_⟩
     ·omega
     ·exact h
    refine⟨fun y hy hy2=>?_,fun y hy hy3=>?_,fun m m0 m1=>?_,fun m m0 m1=>?_⟩
    ·rcases List.mem_append.1 hy with hy|hy
     ·rw[ni A _ hm.1 hm.2.1 (nn y hy (.inl hy2))];have:=hI.snd y hy hy2;split
      ·rename_i e;rw[e]at this;exact this
      ·exact this
     ·simp at hy;subst hy;omega
    ·rcases List.mem_append.1 hy with hy|hy
     ·rw[ni A _ hm.1 hm.2.1 (nn y hy (.inr hy3)),if_neg (old y hy hy3)];exact hI.rcv y hy hy3
     ·simp at hy;subst hy;rw[ni A _ hm.1 hm.2.1 hm.1,if_pos rfl];exact⟨rfl,hs⟩
    ·rw[ni A _ hm.1 hm.2.1 m0];have:=(hI.fr m m0 m1).imp (fun h=>h) fun⟨e,h1,h2⟩=>(⟨e,List.mem_append_left [x] h1,h2⟩:∃e,((ag A m).from_,e)∈(aM t).take k++[x]∧e.kind=2∧e.message=m)
     split
     ·rename_i e;subst e;exact this
     ·exact this
    ·rw[ni A _ hm.1 hm.2.1 m0];split
     ·rename_i e;exact .inr ⟨x.2,by simp,hk3,e.symm⟩
     ·exact(hI.to m m0 m1).imp (fun h=>h) fun⟨e,h1,h2⟩=>⟨e,List.mem_append_left _ h1,h2⟩
   ·intro hk;have hk3:¬x.2.kind=3:=by simpa using hk
    rw[ai,htk];refine⟨fun y hy hy2=>?_,fun y hy hy3=>?_,fun m m0 m1=>?_,fun m m0 m1=>?_⟩
    ·rcases List.mem_append.1 hy with hy|hy
     ·exact hI.snd y hy hy2
     ·simp at hy;subst hy;exact absurd hy2 hk2
    ·rcases List.mem_append.1 hy with hy|hy
     ·exact hI.rcv y hy hy3
     ·simp at hy;subst hy;exact absurd hy3 hk3
    ·exact(hI.fr m m0 m1).imp (fun h=>h) fun⟨e,h1,h2⟩=>⟨e,List.mem_append_left _ h1,h2⟩
    ·exact(hI.to m m0 m1).imp (fun h=>h) fun⟨e,h1,h2⟩=>⟨e,List.mem_append_left _ h1,h2⟩
 ·intro A hA;rw[List.take_length]at hA;exact(ai _).2 ⟨fun _=>⟨A,rfl,hA⟩,fun _=>rfl⟩
end Go.VE
namespace Go.VE
def fG (f:Nat→Bool) (k n:Nat):Bool:=(List.range' k (n-k)).any f
theorem BW {f:Nat→Bool} {k n:Nat} (h:k<n):fG f k n=(f k||fG f (k+1) n):=by
 unfold fG;rw[show n-k=(n-(k+1))+1 from by omega,List.range'_succ];rfl
theorem K1 {f:Nat→Bool} {k n:Nat} (h:n≤k):fG f k n=false:=by
 unfold fG;rw[show n-k=0 from by omega];rfl
theorem y7 {f:Nat→Bool} {k n:Nat}:fG f k n=true↔∃i,k≤i∧i<n∧f i=true:=by
 unfold fG;rw[List.any_eq_true];constructor
 ·rintro⟨i,hi,hf⟩;rw[List.mem_range'_1]at hi;exact⟨i,hi.1,by omega,hf⟩
 ·rintro⟨i,h1,h2,hf⟩;exact⟨i,by rw[List.mem_range'_1];omega,hf⟩
theorem Wu {f g:Nat→Bool} {k n:Nat} (h:∀i,k≤i→i<n→f i=g i):fG f k n=fG g k n:=by
 rw[Bool.eq_iff_iff,y7,y7];constructor <;> rintro⟨i,h1,h2,h3⟩ <;> exact⟨i,h1,h2,by rw[←h3,h i h1 h2]⟩
theorem AR {step:Int→Option (Fw Int Unit Unit)} {n:Nat} (f:Nat→Bool) (hn:n<9223372036854775807) (h1:∀i:Nat,i<n→step i=some (if f i then .r ()else .n (IntKind.wrap .i64 ((i:Int)+1)))) (h2:step (n:Int)=some (.x ())) :
 ∀m k:Nat,k+m=n→aW step (k:Int)=some (if fG f k n then .r ()else .x ()):=by
 intro m
 induction m with
 | zero=>
  intro k hk;have:k=n:=by omega
  subst this;rw[eZ,h2,K1 (Nat.le_refl _)];rfl
 | succ m ih=>
  intro k hk;rw[eZ,h1 k (by omega),BW (by omega)]
  cases hf:f k with
  | true=>rfl
  | false=>
   simp only[Bool.false_eq_true,if_false,ζb,Bool.false_or];rw[bR k (by omega)]
   exact ih (k+1) (by omega)
def jA (g:Nat→Int) (k n:Nat):Int:=match (List.range' k (n-k)).find? fun i => !(g i==0)with
 | some i=>g i
 | none=>0
theorem tu {g:Nat→Int} {k n:Nat} (h:k<n):jA g k n=if g k=0 then jA g (k+1) n else g k:=by
 unfold jA;rw[show n-k=(n-(k+1))+1 from by omega,List.range'_succ,List.find?_cons]
 by_cases h0:g k=0
 ·simp[h0]
 ·rw[if_neg h0,show (!(g k==0))=true from by simp[h0]]
theorem vc {g:Nat→Int} {k n:Nat} (h:n≤k):jA g k n=0:=by
 unfold jA;rw[show n-k=0 from by omega];rfl
theorem Xv {g:Nat→Int} {n:Nat}:∀{m k:Nat},k+m=n→(jA g k n=0↔∀i,k≤i→i<n→g i=0):=by
 intro m
 induction m with
 | zero=>intro k hk;rw[vc (by omega)];exact⟨fun _ i h1 h2=>by omega,fun _=>rfl⟩
 | succ m ih=>
  intro k hk;rw[tu (by omega)]
  split
  ·rename_i h0;rw[ih (show k+1+m=n by omega)]
   constructor
   ·intro h i h1 h2
    by_cases e:i=k
    ·subst e;exact h0
    ·exact h i (by omega) h2
   ·intro h i h1 h2;exact h i (by omega) h2
  ·rename_i h0;exact⟨fun h=>absurd h h0,fun h=>absurd (h k (Nat.le_refl _) (by omega)) h0⟩
theorem Wa {g g':Nat→Int} {n:Nat} (h:∀i,i<n→g i=g' i):∀{m k:Nat},k+m=n→jA g k n=jA g' k n:=by
 intro m
 induction m with
 | zero=>intro k hk;rw[vc (by omega),vc (by omega)]
 | succ m ih=>intro k hk;rw[tu (g:=g) (by omega),tu (g:=g') (by omega),h k (by omega),ih (show k+1+m=n by omega)]
theorem Pc {step:Int→Option (Fw Int Unit Int)} {n:Nat} (g:Nat→Int) (hn:n<9223372036854775807) (h1:∀i:Nat,i<n→step i=some (if g i=0 then .n (IntKind.wrap .i64 ((i:Int)+1))else .r (g i))) (h2:step (n:Int)=some (.x ())) :
 ∀m k:Nat,k+m=n→aW step (k:Int)=some (if jA g k n=0 then .x ()else .r (jA g k n)):=by
 intro m
 induction m with
 | zero=>
  intro k hk;have:k=n:=by omega
  subst this;rw[eZ,h2,vc (Nat.le_refl _)];rfl
 | succ m ih=>
  intro k hk;rw[eZ,h1 k (by omega),tu (by omega)]
  by_cases h0:g k=0
  ·simp only[h0,if_true,ζb];rw[bR k (by omega)]
   exact ih (k+1) (by omega)
  ·simp only[h0,if_false,ζb]
theorem vk {step:Int→Option (Fw Int Unit Int)} {n:Nat} (g:Nat→Int) (hn:n<9223372036854775807) (h1:∀i:Nat,i<n→step i=some (if g i=0 then .n (IntKind.wrap .i64 ((i:Int)+1))else .r (g i))) (h2:step (n:Int)=some (.x ())):aW step 0=some (if jA g 0 n=0 then .x ()else .r (jA g 0 n)):=Pc g hn h1 h2 n 0 (by omega)
theorem yQ {step:Int→Option (Fw Int Unit Unit)} {n:Nat} (f:Nat→Bool) (hn:n<9223372036854775807) (h1:∀i:Nat,i<n→step i=some (if f i then .r ()else .n (IntKind.wrap .i64 ((i:Int)+1)))) (h2:step (n:Int)=some (.x ())):aW step 0=some (if fG f 0 n then .r ()else .x ()):=AR f hn h1 h2 n 0 (by omega)
def tP (c:Int):Bool:=decide (c≥65)&&decide (c≤90)||decide (c≥97)&&decide (c≤122)
def y_ (c:Int):Bool:=decide (c≥48)&&decide (c≤57)
theorem zm (c:Int):iD c=some (tP c):=by
 unfold iD tP;simp only[fS,fu,ζb];rw[Bool.or_comm]
theorem z6 (c:Int):kR c=some (tP c):=by
 unfold kR tP;simp only[fS,fu,ζb]
theorem HQ (c:Int):k_ c=some (y_ c):=by
 unfold k_ y_;simp only[fS,ζb]
theorem Jt (c:Int):oH c=some (y_ c):=by
 unfold oH y_;simp only[fS,ζb]
def tg (s:ByteArray) (i:Nat):Int:=(gO s (i:Int)).getD 0
theorem zD {s:ByteArray} {i:Nat} (h:i<s.size):gO s (i:Int)=some (tg s i):=by
 obtain⟨x,hx⟩:=vm h;unfold tg;rw[hx];rfl
def pH (s:ByteArray) (i:Nat):Bool := !tP (tg s i) && !y_ (tg s i) && !(tg s i==95)
def iY (s:ByteArray):Bool:=decide (1≤s.size)&&decide (s.size≤16)&&tP (tg s 0) && !fG (pH s) 0 s.size
theorem Gf {s:ByteArray} {i:Nat} (h:i<s.size):cZ.aD s (s.size:Int) i=some (if pH s i then .r ()else .n (IntKind.wrap .i64 ((i:Int)+1))):=by
 unfold cZ.aD pH;rw[show decide ((i:Int)<(s.size:Int))=true from by simpa using h,aY,zD h]
 simp only[ζb,zm,HQ];cases tP (tg s i) <;> cases y_ (tg s i) <;> cases (tg s i==95) <;> rfl
theorem FV {s:ByteArray} {i:Nat} (h:i<s.size):eU.aD s i=some (if pH s i then .r ()else .n (IntKind.wrap .i64 ((i:Int)+1))):=by
 unfold eU.aD pH;rw[show decide ((i:Int)<((ByteArray.size s:Nat):Int))=true from by simpa using h,aY,zD h]
 simp only[ζb,z6,Jt];cases tP (tg s i) <;> cases y_ (tg s i) <;> cases (tg s i==95) <;> rfl
theorem toList_empty {s:ByteArray}:(ByteArray.toList s==ByteArray.toList ByteArray.empty)=decide (s.size=0):=by
 rw[Bool.eq_iff_iff,beq_iff_eq,decide_eq_true_eq];constructor
 ·intro h;have h1:(ByteArray.toList s).length=s.size:=by rw[Go.ByteArray.toList_eq];simp
  rw[←h1,h];rw[Go.ByteArray.toList_eq];rfl
 ·intro h;have:s=ByteArray.empty:=by
   apply ByteArray.ext;exact Array.eq_empty_of_size_eq_zero h
  rw[this]
theorem Bg {s:ByteArray} (hs:s.size<1073741824):cZ s=some (iY s):=by
 unfold cZ;rw[toList_empty];simp only[fu,ζb]
 by_cases h0:s.size=0
 ·simp[h0,iY,au]
 by_cases h16:s.size≤16
 ·have hc:(decide (s.size=0)||decide (((ByteArray.size s:Nat):Int)>16))=false:=by simp[h0];omega
  rw[hc,bG,show (0:Int)=((0:Nat):Int)from rfl,zD (show 0<s.size by omega)]
  simp only[ζb,zm]
  cases hl:tP (tg s 0)with
  | false=>simp[iY,hl,au]
  | true=>
   simp only[Bool.not_true,bG];unfold cZ.W1;rw[AR (n:=s.size) (pH s) (by omega) (fun i hi=>Gf hi) (by unfold cZ.aD;simp[au]) s.size 0 (by omega)]
   have:iY s = !fG (pH s) 0 s.size:=by simp[iY,hl,h16];omega
   rw[this];cases fG (pH s) 0 s.size <;> rfl
 ·have hc:(decide (s.size=0)||decide (((ByteArray.size s:Nat):Int)>16))=true:=by simp;omega
  rw[hc,aY];simp[iY,h16,au]
theorem Dz {s:ByteArray} (hs:s.size<1073741824):eU s=some (iY s):=by
 unfold eU;simp only[fu,ζb]
 by_cases h0:s.size=0
 ·simp[h0,iY,au]
 by_cases h16:s.size≤16
 ·have hc:(decide (((ByteArray.size s:Nat):Int)<1)||decide (((ByteArray.size s:Nat):Int)>16))=false:=by simp;omega
  rw[hc,bG,show (0:Int)=((0:Nat):Int)from rfl,zD (show 0<s.size by omega)]
  simp only[ζb,z6]
  cases hl:tP (tg s 0)with
  | false=>simp[iY,hl,au]
  | true=>
   simp only[Bool.not_true,bG];unfold eU.W1;rw[show (1:Int)=((1:Nat):Int)from rfl,AR (n:=s.size) (pH s) (by omega) (fun i hi=>FV hi) (by unfold eU.aD;simp[au]) (s.size-1) 1 (by omega)]
   have hb0:pH s 0=false:=by simp[pH,hl]
   have:iY s = !fG (pH s) 1 s.size:=by
    have h1:=BW (f:=pH s) (show 0<s.size by omega)
    rw[hb0]at h1;simp[iY,hl,h16,h1];omega
   rw[this];cases fG (pH s) 1 s.size <;> rfl
 ·have hc:(decide (((ByteArray.size s:Nat):Int)<1)||decide (((ByteArray.size s:Nat):Int)>16))=true:=by simp;omega
  rw[hc,aY];simp[iY,h16,au]
end Go.VE
namespace Go.VE
def fO {α:Type} (l:List α) (f:α→Bool) (i:Nat):Bool:=match l[i]? with|some y=>f y|none=>false
theorem vZ {α:Type} {l:List α} {f:α→Bool} {i:Nat} (h:i<l.length):fO l f i=f l[i]:=by unfold fO;rw[ζd h]
theorem ze {α:Type} {l:List α} {f:α→Bool} {p:Nat}:(l.take p).any f=fG (fO l f) 0 p:=by
 rw[Bool.eq_iff_iff,List.any_eq_true,y7];constructor
 ·rintro⟨x,hx,hf⟩;obtain⟨i,hi⟩:=List.getElem?_of_mem hx;have hl:=(ζe.1 hi).1;rw[List.length_take]at hl;rw[List.getElem?_take,if_pos (by omega)]at hi
  exact⟨i,Nat.zero_le _,by omega,by unfold fO;rw[hi];exact hf⟩
 ·rintro⟨i,_,hi,hf⟩;unfold fO at hf;split at hf
  ·rename_i y hy;exact⟨y,List.mem_of_getElem? (i:=i) (by rw[List.getElem?_take,if_pos hi];exact hy),hf⟩
  ·cases hf
def nJ (a b:ByteArray):Bool:=ByteArray.toList a==ByteArray.toList b
def To:Bool→Bool→Bool→Int
 | true,false,true=>0
 | true,false,false=>2
 | _,_,_=>13
def qP (P:bt) (i:Nat):Int:=match P.vars.l[i]? with
 | some v=>To (iY v.name) (fG (fO P.vars.l fun w=>nJ w.name v.name) 0 i) (decide (v.init_≥-1073741824)&&decide (v.init_≤1073741824))
 | none=>0
def oA (t:Trace) (p:Nat):Int:=match t.procs.l[p]? with
 | some P=>if iY P.name && !fG (fO t.procs.l fun y=>nJ y.name P.name) 0 p then
  (if P.vars.l.length>8 then 5 else if jA (qP P) 0 P.vars.l.length=0 then(if P.events.l.length>64 then 5 else 0)else jA (qP P) 0 P.vars.l.length)else 13
 | none=>0
theorem Bs {P:bt} {i:Nat} (h:i<P.vars.l.length):qP P i=To (iY P.vars.l[i].name) (fG (fO P.vars.l fun w=>nJ w.name P.vars.l[i].name) 0 i) (decide (P.vars.l[i].init_≥-1073741824)&&decide (P.vars.l[i].init_≤1073741824)):=by
 unfold qP;rw[ζd h]
theorem BC (n:Int):lN n=some (decide (n≥-1073741824)&&decide (n≤1073741824)):=by
 unfold lN;rw[fS];rfl
theorem JN {t:Trace} (hS:Small t) {p:Nat} (hp:p<t.procs.l.length):bX t p=some (oA t p):=by
 have hP:=hS.2 _ (List.getElem_mem hp);have h1:=hS.1;unfold bX oA;rw[aO hp,ζb,ζd hp];generalize hPe:t.procs.l[p]=P at *;obtain⟨hPev,hPv,hPn,hPvn,_⟩:=hP;rw[Bg hPn,ζb];obtain⟨x,hx,hxl⟩:=lX t.procs p (by omega)
 have hdup:fF x (fun z=>e_ z P)=some (fG (fO t.procs.l fun y=>nJ y.name P.name) 0 p):=by
  rw[wU (p:=fun z=>e_ z P) (f:=fun y=>nJ y.name P.name) (fun y _=>rfl) (by rw[hxl,List.length_take];omega),hxl,ze]
 rw[hx,ζb,hdup,ζb];dsimp only
 cases hn:iY P.name with
 | false=>simp[au]
 | true=>
  rw[aY,ζb,Bool.true_and]
  cases hd:fG (fO t.procs.l fun y=>nJ y.name P.name) 0 p with
  | true=>simp[au]
  | false=>
   rw[bG];simp only[Bool.not_false,if_true]
   by_cases h8:P.vars.l.length>8
   ·rw[show decide (len P.vars>8)=true from by simp[len];omega,aY,if_pos h8]
   ·rw[show decide (len P.vars>8)=false from by simp[len];omega,bG,if_neg h8]
    unfold bX.W1;rw[vk (n:=P.vars.l.length) (qP P) (by omega) (fun i hi=>?_) (by unfold bX.aD;simp[au,len])]
    ·by_cases he:jA (qP P) 0 P.vars.l.length=0
     ·rw[if_pos he,if_pos he];show au (decide (len P.events>64)) (some 5) (some 0)=_;rw[js];simp only[len,decide_eq_true_eq]
      by_cases h64:P.events.l.length>64
      ·rw[if_pos h64,if_pos (by omega)]
      ·rw[if_neg h64,if_neg (by omega)]
     ·rw[if_neg he,if_neg he];rfl
    ·unfold bX.aD;rw[Bs hi,show decide ((i:Int)<len P.vars)=true from by simp[len];exact hi,aY,aO hi,ζb]
     have hv:=hPvn _ (List.getElem_mem hi);obtain⟨y,hy,hyl⟩:=lX P.vars i (by omega)
     have hdv:ey y (fun z=>fh z P.vars.l[i])=some (fG (fO P.vars.l fun w=>nJ w.name P.vars.l[i].name) 0 i):=by
      rw[tS (p:=fun z=>fh z P.vars.l[i]) (f:=fun w=>nJ w.name P.vars.l[i].name) (fun w _=>rfl) (by rw[hyl,List.length_take];omega),hyl,ze]
     rw[Bg hv,ζb,hy,ζb,hdv,ζb,gG];have hr:(decide (-1073741824≤P.vars.l[i].init_)&&decide (P.vars.l[i].init_≤1073741824))=(decide (P.vars.l[i].init_≥-1073741824)&&decide (P.vars.l[i].init_≤1073741824)):=rfl;rw[hr];generalize iY P.vars.l[i].name=A;generalize fG (fO P.vars.l fun w=>nJ w.name P.vars.l[i].name) 0 i=B
     generalize (decide (P.vars.l[i].init_≥-1073741824)&&decide (P.vars.l[i].init_≤1073741824))=C;cases A <;> cases B <;> cases C <;> rfl
theorem KY {t:Trace} (hS:Small t) {p:Nat} (hp:p<t.procs.l.length):cH t p=some (oA t p):=by
 have hP:=hS.2 _ (List.getElem_mem hp);have h1:=hS.1;unfold cH oA;rw[aO hp,ζb,ζd hp];generalize hPe:t.procs.l[p]=P at *;obtain⟨hPev,hPv,hPn,hPvn,_⟩:=hP;rw[Dz hPn,ζb];dsimp only
 cases hn:iY P.name with
 | false=>simp[au]
 | true=>
  rw[aY,Bool.true_and];unfold cH.W1;rw[yQ (n:=p) (fO t.procs.l fun y=>nJ y.name P.name) (by omega) (fun i hi=>?_) (by unfold cH.aD;simp[au])]
  ·cases hd:fG (fO t.procs.l fun y=>nJ y.name P.name) 0 p with
   | true=>rfl
   | false=>
    simp only[Bool.not_false,if_true];show au (decide (len P.vars>8)) (some 5) (cH.W2 0 P)=_
    by_cases h8:P.vars.l.length>8
    ·rw[show decide (len P.vars>8)=true from by simp[len];omega,aY,if_pos h8]
    ·rw[show decide (len P.vars>8)=false from by simp[len];omega,bG,if_neg h8]
     unfold cH.W2;rw[vk (n:=P.vars.l.length) (qP P) (by omega) (fun i hi=>?_) (by unfold cH.bg;simp[au,len])]
     ·by_cases he:jA (qP P) 0 P.vars.l.length=0
      ·rw[if_pos he,if_pos he];show au (decide (len P.events>64)) (some 5) (some 0)=_;rw[js];simp only[len,decide_eq_true_eq]
       by_cases h64:P.events.l.length>64
       ·rw[if_pos h64,if_pos (by omega)]
       ·rw[if_neg h64,if_neg (by omega)]
      ·rw[if_neg he,if_neg he];rfl
     ·unfold cH.bg;rw[Bs hi,show decide ((i:Int)<len P.vars)=true from by simp[len];exact hi,aY,aO hi,ζb]
      rw[Dz (hPvn _ (List.getElem_mem hi)),ζb];have h3:cH.W3 i 0 P=if fG (fO P.vars.l fun w=>nJ w.name P.vars.l[i].name) 0 i then some (.r 13)else(if decide (P.vars.l[i].init_≥-1073741824)&&decide (P.vars.l[i].init_≤1073741824)then some (.n (IntKind.wrap .i64 ((i:Int)+1)))else some (.r 2)):=by
       unfold cH.W3;rw[yQ (n:=i) (fO P.vars.l fun w=>nJ w.name P.vars.l[i].name) (by omega) (fun j hj=>?_) (by unfold cH.dw;simp[au])]
       ·cases fG (fO P.vars.l fun w=>nJ w.name P.vars.l[i].name) 0 i with
        | true=>rfl
        | false=>
         show (idx P.vars (i:Int)).bind _=_;rw[aO hi,ζb,BC,ζb];cases (decide (P.vars.l[i].init_≥-1073741824)&&decide (P.vars.l[i].init_≤1073741824)) <;> rfl
       ·unfold cH.dw;have hjl:j<P.vars.l.length:=by omega
        rw[show decide ((j:Int)<(i:Int))=true from by simpa using hj,aY,aO hjl,ζb,aO hi,ζb,vZ hjl,js];rfl
      rw[h3];generalize iY P.vars.l[i].name=A;generalize fG (fO P.vars.l fun w=>nJ w.name P.vars.l[i].name) 0 i=B
      generalize (decide (P.vars.l[i].init_≥-1073741824)&&decide (P.vars.l[i].init_≤1073741824))=C;cases A <;> cases B <;> cases C <;> rfl
  ·unfold cH.aD;have hil:i<t.procs.l.length:=by omega
   rw[show decide ((i:Int)<(p:Int))=true from by simpa using hi,aY,aO hil,ζb,vZ hil,js];rfl
end Go.VE
namespace Go.VE
def CQ (n:Nat) (p:Int) (e:Event):Bool:=if e.kind==1 then e.peer==0&&e.message==0 else(e.kind==2||e.kind==3)&&(decide (0≤e.peer)&&decide (e.peer<n)) && !(e.peer==p)&&(decide (0≤e.message)&&decide (e.message≤199))
theorem HO {t:Trace} (hS:Small t) (p:Int) (e:Event):dA t p e=some (CQ t.procs.l.length p e):=by
 have h1:=hS.1;have hw:IntKind.wrap .i64 (len t.procs-1)=len t.procs-1:=mm _ (by simp[len];omega) (by simp[len];omega)
 have hj:∀b:Bool,dA.J1 p b t e=some (b&&(decide (0≤e.peer)&&decide (e.peer<t.procs.l.length)) && !(e.peer==p)&&(decide (0≤e.message)&&decide (e.message≤199))):=by
  intro b;unfold dA.J1;simp only[gG,hw,ζb];have:decide (e.peer≤len t.procs-1)=decide (e.peer<t.procs.l.length):=by congr 1;apply propext;simp[len];omega
  rw[this];generalize (decide (0≤e.peer)&&decide (e.peer<(t.procs.l.length:Int)))=A;generalize (e.peer==p)=B;generalize (decide (0≤e.message)&&decide (e.message≤199))=C;cases b <;> cases A <;> cases B <;> cases C <;> rfl
 unfold dA CQ;rw[hj,hj]
 cases h1:e.kind==1 with
 | true=>
  rw[aY];cases e.peer==0 <;> cases e.message==0 <;> rfl
 | false=>
  rw[bG];simp only[Bool.false_eq_true,if_false];cases h2:e.kind==2 <;> simp[au]
def zV (P:bt) (k:Nat) (e:Event):Bool:=match k with|0=>false|j+1=>fO P.events.l (fun x=>decide (e.time<x.time)) j
def qE (P:bt) (k:Nat) (e:Event):Bool:=decide (e.time<0)||decide (e.time>1099511627776)||zV P k e
def RU:Bool→Bool→Bool→Int
 | true,true,false=>0
 | true,true,true=>8
 | _,_,_=>2
def mW (P:bt) (e:Event) (i:Nat):Int:=match e.assign.l[i]? with
 | some a=>RU (decide (0≤a.var)&&decide (a.var<P.vars.l.length)) (decide (a.value≥-1073741824)&&decide (a.value≤1073741824)) (fG (fO e.assign.l fun b=>b.var==a.var) 0 i)
 | none=>0
theorem BP {P:bt} {e:Event} {i:Nat} (h:i<e.assign.l.length):mW P e i=RU (decide (0≤e.assign.l[i].var)&&decide (e.assign.l[i].var<P.vars.l.length)) (decide (e.assign.l[i].value≥-1073741824)&&decide (e.assign.l[i].value≤1073741824)) (fG (fO e.assign.l fun b=>b.var==e.assign.l[i].var) 0 i):=by
 unfold mW;rw[ζd h]
def lz (n:Nat) (P:bt) (p k:Nat) (e:Event):Int:=if CQ n p e then(if qE P k e then 11 else if e.assign.l.length>8 then 5 else jA (mW P e) 0 e.assign.l.length)else 3
theorem FO {P:bt} {e:Event} (hv:P.vars.l.length<1073741824) (ha:e.assign.l.length<1073741824):bA.W2 e.assign (len e.assign) 0 e P=some (jA (mW P e) 0 e.assign.l.length):=by
 have hw:IntKind.wrap .i64 (len P.vars-1)=len P.vars-1:=mm _ (by simp[len];omega) (by simp[len];omega)
 unfold bA.W2;rw[vk (n:=e.assign.l.length) (mW P e) (by omega) (fun i hi=>?_) (by unfold bA.bg;simp[au,len])]
 ·by_cases he:jA (mW P e) 0 e.assign.l.length=0
  ·rw[if_pos he,he];rfl
  ·rw[if_neg he];rfl
 ·unfold bA.bg;obtain⟨y,hy,hyl⟩:=lX e.assign i (by omega)
  have hdv:eN y (fun z=>fV z e.assign.l[i])=some (fG (fO e.assign.l fun b=>b.var==e.assign.l[i].var) 0 i):=by
   rw[uj (p:=fun z=>fV z e.assign.l[i]) (f:=fun b=>b.var==e.assign.l[i].var) (fun w _=>rfl) (by rw[hyl,List.length_take];omega),hyl,ze]
  rw[BP hi,show decide ((i:Int)<len e.assign)=true from by simp[len];exact hi,aY,aO hi,ζb,gG,gG,hw,hy,ζb,ζb,ζb,hdv,ζb]
  have h1:(decide (0≤e.assign.l[i].var)&&decide (e.assign.l[i].var≤len P.vars-1))=(decide (0≤e.assign.l[i].var)&&decide (e.assign.l[i].var<P.vars.l.length)):=by
   congr 2;apply propext;simp[len];omega
  have h2:(decide (-1073741824≤e.assign.l[i].value)&&decide (e.assign.l[i].value≤1073741824))=(decide (e.assign.l[i].value≥-1073741824)&&decide (e.assign.l[i].value≤1073741824)):=rfl;rw[h1,h2];generalize (decide (0≤e.assign.l[i].var)&&decide (e.assign.l[i].var<(P.vars.l.length:Int)))=A;generalize (decide (e.assign.l[i].value≥-1073741824)&&decide (e.assign.l[i].value≤1073741824))=B;generalize fG (fO e.assign.l fun b=>b.var==e.assign.l[i].var) 0 i=C
  cases A <;> cases B <;> cases C <;> rfl
theorem IM {t:Trace} (hS:Small t) {p k:Nat} {P:bt} {e:Event} (hP:t.procs.l[p]? = some P) (he:P.events.l[k]? = some e):bA t ⟨p,k+1⟩ e=some (lz t.procs.l.length P p k e):=by
 obtain⟨hp,hPe⟩:=ζe.1 hP;obtain⟨hk,hke⟩:=ζe.1 he;obtain⟨hPev,hPv,_,_,hPa⟩:=hS.2 P (hPe▸List.getElem_mem hp);have ha:=hPa e (hke▸List.getElem_mem hk);have hJ:∀last:Int,((decide (0≤e.time)&&decide (e.time≤1099511627776)) && !decide (e.time<last))=(!qE P k e) →
  bA.J1 last t ⟨p,k+1⟩ e P=some (lz t.procs.l.length P p k e):=by
  intro last hl;unfold bA.J1 lz;rw[HO hS,ζb,gG,ζb,FO hPv ha];dsimp only
  cases CQ t.procs.l.length p e with
  | false=>rfl
  | true=>
   rw[aY,if_pos rfl];have:(au (decide (0≤e.time)&&decide (e.time≤1099511627776)) (some (decide (e.time<last))) (some true):Option Bool)=some (qE P k e):=by
    have h2:(!((decide (0≤e.time)&&decide (e.time≤1099511627776)) && !decide (e.time<last)))=qE P k e:=by rw[hl,Bool.not_not]
    rw[←h2];cases (decide (0≤e.time)&&decide (e.time≤1099511627776)) <;> cases decide (e.time<last) <;> rfl
   rw[this,ζb]
   cases qE P k e with
   | true=>rfl
   | false=>
    rw[bG];simp only[Bool.false_eq_true,if_false]
    by_cases h8:e.assign.l.length>8
    ·rw[show decide (len e.assign>8)=true from by simp[len];omega,aY,if_pos h8]
    ·rw[show decide (len e.assign>8)=false from by simp[len];omega,bG,if_neg h8]
 unfold bA;dsimp only;rw[show idx t.procs (p:Int)=some P from by rw[o6];exact hP,ζb]
 cases k with
 | zero=>
  rw[show decide (((0:Nat):Int)+1>1)=false from by decide,bG]
  refine hJ 0 ?_;simp only[qE,zV,Bool.or_false];rw[Bool.eq_iff_iff];simp only[ζh,Bool.not_eq_true',decide_eq_true_eq,decide_eq_false_iff_not,Bool.or_eq_false_iff];omega
 | succ j=>
  rw[show decide ((((j+1:Nat)):Int)+1>1)=true from by simp;omega,aY]
  have hjl:j<P.events.l.length:=by omega
  have hw:IntKind.wrap .i64 ((((j+1:Nat)):Int)+1-2)=((j:Nat):Int):=by rw[mm _ (by omega) (by omega)];omega
  rw[hw,aO hjl,ζb];refine hJ _ ?_;simp only[qE,zV,vZ hjl];rw[Bool.eq_iff_iff];simp only[ζh,Bool.not_eq_true',decide_eq_true_eq,decide_eq_false_iff_not,Bool.or_eq_false_iff];omega
end Go.VE
namespace Go.VE
theorem Hg {t:Trace} {p:Nat} {P:bt} {e:Event} (hP:t.procs.l[p]? = some P) (ha:e.assign.l.length<1073741824):cK.W2 p 0 t e=some (jA (mW P e) 0 e.assign.l.length):=by
 unfold cK.W2;rw[vk (n:=e.assign.l.length) (mW P e) (by omega) (fun i hi=>?_) (by unfold cK.bg;simp[au,len])]
 ·by_cases he:jA (mW P e) 0 e.assign.l.length=0
  ·rw[if_pos he,he];rfl
  ·rw[if_neg he];rfl
 ·unfold cK.bg;have h3:cK.W3 p i 0 t e e.assign.l[i]=if fG (fO e.assign.l fun b=>b.var==e.assign.l[i].var) 0 i then some (.r 8)else some (.n (IntKind.wrap .i64 ((i:Int)+1))):=by
   unfold cK.W3;rw[yQ (n:=i) (fO e.assign.l fun b=>b.var==e.assign.l[i].var) (by omega) (fun j hj=>?_) (by unfold cK.dw;simp[au])]
   ·cases fG (fO e.assign.l fun b=>b.var==e.assign.l[i].var) 0 i <;> rfl
   ·unfold cK.dw;have hjl:j<e.assign.l.length:=by omega
    rw[show decide ((j:Int)<(i:Int))=true from by simpa using hj,aY,aO hjl,ζb,vZ hjl,js]
  rw[BP hi,show decide ((i:Int)<len e.assign)=true from by simp[len];exact hi,aY,aO hi,ζb,h3,BC,ζb,show idx t.procs (p:Int)=some P from by rw[o6];exact hP,ζb]
  have h1:(au (decide (e.assign.l[i].var<0)) (some true) (some (decide (e.assign.l[i].var≥len P.vars))):Option Bool)=some (!(decide (0≤e.assign.l[i].var)&&decide (e.assign.l[i].var<P.vars.l.length))):=by
   rw[fu];congr 1;rw[Bool.eq_iff_iff];simp only[Bool.or_eq_true,Bool.not_eq_true',decide_eq_true_eq,Bool.and_eq_false_iff,decide_eq_false_iff_not,len];omega
  rw[h1,ζb];generalize (decide (0≤e.assign.l[i].var)&&decide (e.assign.l[i].var<(P.vars.l.length:Int)))=A;generalize (decide (e.assign.l[i].value≥-1073741824)&&decide (e.assign.l[i].value≤1073741824))=B;generalize fG (fO e.assign.l fun b=>b.var==e.assign.l[i].var) 0 i=C
  cases A <;> cases B <;> cases C <;> rfl
theorem KM {t:Trace} (hS:Small t) {p k:Nat} {P:bt} {e:Event} (hP:t.procs.l[p]? = some P) (he:P.events.l[k]? = some e):cK t p k=some (lz t.procs.l.length P p k e):=by
 obtain⟨hp,hPe⟩:=ζe.1 hP;obtain⟨hk,hke⟩:=ζe.1 he;obtain⟨hPev,hPv,_,_,hPa⟩:=hS.2 P (hPe▸List.getElem_mem hp);have ha:=hPa e (hke▸List.getElem_mem hk);have hJ:cK.J1 p k t e=some (if qE P k e then 11 else if e.assign.l.length>8 then 5 else jA (mW P e) 0 e.assign.l.length):=by
  unfold cK.J1;rw[fu,ζb,Hg hP ha,show idx t.procs (p:Int)=some P from by rw[o6];exact hP,ζb]
  have h1:(au (decide ((k:Int)>0)) ((idx P.events (IntKind.wrap .i64 ((k:Int)-1))).bind fun x_3=>some (decide (e.time<x_3.time))) (some false):Option Bool)=some (zV P k e):=by
   cases k with
   | zero=>rfl
   | succ j=>
    have hjl:j<P.events.l.length:=by omega
    rw[show decide ((((j+1:Nat)):Int)>0)=true from by simp only[decide_eq_true_eq];omega,aY,show IntKind.wrap .i64 ((((j+1:Nat)):Int)-1)=((j:Nat):Int)from by rw[mm _ (by omega) (by omega)];omega,aO hjl,ζb]
    simp only[zV,vZ hjl]
  rw[h1,ζb,fu,ζb];show au (qE P k e) _ _=_
  cases qE P k e with
  | true=>rfl
  | false=>
   rw[bG];simp only[Bool.false_eq_true,if_false]
   by_cases h8:e.assign.l.length>8
   ·rw[show decide (len e.assign>8)=true from by simp[len];omega,aY,if_pos h8]
   ·rw[show decide (len e.assign>8)=false from by simp[len];omega,bG,if_neg h8]
 unfold cK lz;rw[show idx t.procs (p:Int)=some P from by rw[o6];exact hP,ζb,show idx P.events (k:Int)=some e from by rw[o6];exact he,ζb,hJ]
 unfold CQ
 cases h1:e.kind==1 with
 | true=>
  rw[aY];simp only[if_true];cases e.peer==0 <;> cases e.message==0 <;> rfl
 | false=>
  rw[bG];simp only[Bool.false_eq_true,if_false];have h2:(au (e.kind==2) (some false) (some (!(e.kind==3))):Option Bool)=some (!(e.kind==2||e.kind==3)):=by cases e.kind==2 <;> rfl
  rw[h2,ζb,fu,ζb,fu,ζb,fu,ζb,fu,ζb,fu,ζb];have h3:(((((!(e.kind==2||e.kind==3))||decide (e.peer<0))||decide (e.peer≥len t.procs))||(e.peer==p))||decide (e.message<0)||decide (e.message>199)) = !((e.kind==2||e.kind==3)&&(decide (0≤e.peer)&&decide (e.peer<t.procs.l.length)) && !(e.peer==p)&&(decide (0≤e.message)&&decide (e.message≤199))):=by
   generalize (e.kind==2||e.kind==3)=A;have a1:decide (e.peer<0) = !decide (0≤e.peer):=by rw[Bool.eq_iff_iff];simp
   have a2:decide (e.peer≥len t.procs) = !decide (e.peer<t.procs.l.length):=by rw[Bool.eq_iff_iff];simp[len]
   have a3:decide (e.message<0) = !decide (0≤e.message):=by rw[Bool.eq_iff_iff];simp
   have a4:decide (e.message>199) = !decide (e.message≤199):=by rw[Bool.eq_iff_iff];simp
   rw[a1,a2,a3,a4];generalize decide (0≤e.peer)=B;generalize decide (e.peer<(t.procs.l.length:Int))=C;generalize (e.peer==(p:Int))=D;generalize decide (0≤e.message)=F;generalize decide (e.message≤199)=G;cases A <;> cases B <;> cases C <;> cases D <;> cases F <;> cases G <;> rfl
  rw[h3];generalize ((e.kind==2||e.kind==3)&&(decide (0≤e.peer)&&decide (e.peer<(t.procs.l.length:Int))) && !(e.peer==(p:Int))&&(decide (0≤e.message)&&decide (e.message≤199)))=Z;cases Z <;> rfl
theorem Hi {n:Nat} {p:Int} {e:Event} (h:CQ n p e=true):f_ n p e:=by
 unfold CQ at h;split at h
 ·rename_i h1;left;simpa using h1
 ·right;simp only[ζh,Bool.or_eq_true,beq_iff_eq,decide_eq_true_eq,Bool.not_eq_true',beq_eq_false_iff_ne,ne_eq]at h;obtain⟨⟨⟨h1,h2⟩,h3⟩,h4⟩:=h;exact⟨h1,h2.1,h2.2,h3,h4.1,h4.2⟩
theorem C_ {n:Nat} {P:bt} {p k:Nat} {e:Event} (h:lz n P p k e=0):f_ n p e:=by
 unfold lz at h;split at h
 ·rename_i h1;exact Hi h1
 ·cases h
end Go.VE
namespace Go.VE
theorem yR {α:Type} [DecidableEq α]:∀{l r:List α},l.Nodup→(∀x∈l,x∈r)→l.length≤r.length
 | [],_,_,_=>Nat.zero_le _
 | x::l,r,hn,hs=>by
  have hx:x∈r:=hs x (List.mem_cons_self ..);have hn':=List.nodup_cons.1 hn;have:=yR (l:=l) (r:=r.erase x) hn'.2 fun y hy=>(List.mem_erase_of_ne (by rintro rfl;exact hn'.1 hy)).2 (hs y (List.mem_cons_of_mem _ hy))
  rw[List.length_erase_of_mem hx]at this;have hp:0<r.length:=List.length_pos_of_mem hx;simp only[List.length_cons];omega
section
variable {κ:Type} [DecidableEq κ]
theorem Af {ν:Type} {k:κ}:∀{m:Mo κ ν},k∉m.map (·.1)→qn k m=none
 | [],_=>rfl
 | (a,v)::r,h=>by
  simp only[List.map_cons,List.mem_cons,not_or]at h;unfold qn;rw[if_neg h.1];exact Af h.2
theorem Br {ν:Type} {k:κ}:∀{m:Mo κ ν},k∈m.map (·.1)→∃v,qn k m=some v∧(k,v)∈m
 | [],h=>by simp at h
 | (a,v)::r,h=>by
  unfold qn
  by_cases e:k=a
  ·subst e;exact⟨v,by rw[if_pos rfl],List.mem_cons_self ..⟩
  ·rw[if_neg e];obtain⟨w,h1,h2⟩:=Br (m:=r) (by simpa [e]using h)
   exact⟨w,h1,List.mem_cons_of_mem _ h2⟩
theorem nN {ν:Type} {k:κ} {v:ν}:∀{m:Mo κ ν},k∉m.map (·.1)→nK m k v=m++[(k,v)]
 | [],_=>rfl
 | (a,w)::r,h=>by
  simp only[List.map_cons,List.mem_cons,not_or]at h;show (if k=a then _ else _)=_;rw[if_neg h.1,nN h.2];rfl
end
def Vd (t:Trace) (y:aa):Prop:=∃e,(y,e)∈aM t
theorem Vd.at_ {t:Trace} {y:aa} (h:Vd t y):∃(p k:Nat) (e:Event),hG t p k e∧y=⟨p,k+1⟩∧(y,e)∈aM t:=by
 obtain⟨e,he⟩:=h;obtain⟨p,k,h1,h2⟩:=bV.1 he;exact⟨p,k,e,h1,h2,he⟩
def Cw (t:Trace) (y z:aa):Prop:=∃e f,(y,e)∈aM t∧(z,f)∈aM t∧e.kind=2∧f.kind=3∧e.message=f.message
def Edge (t:Trace) (y z:aa):Prop:=Vd t y∧Vd t z∧(z=⟨y.proc,y.index+1⟩∨Cw t y z)
abbrev Way (t:Trace):aa→aa→Prop:=Relation.TransGen (Edge t)
def EH (t:Trace):Prop:=∃x,Way t x x
theorem Way.l {t:Trace} {x y:aa} (h:Way t x y):Vd t x:=by
 induction h with
 | single h=>exact h.1
 | tail _ _ ih=>exact ih
theorem Way.r {t:Trace} {x y:aa} (h:Way t x y):Vd t y:=by
 cases h with
 | single h=>exact h.2.1
 | tail _ h=>exact h.2.1
theorem LI {t:Trace} (hS:Small t) (hF:∀x∈aM t,f_ t.procs.l.length x.1.proc x.2) {A:bq 200 aH} (hA:dS t (aM t) A) {y:aa} (hy:Vd t y) :
 Wp (fW t A y) fun s=>s.l.length≤2∧∀z,z∈s.l↔Edge t y z:=by
 obtain⟨p,k,e,hat,hid,hmem⟩:=hy.at_;have hat':=hat;obtain⟨P,hP,hk⟩:=hat;have hPm:P∈t.procs.l:=List.mem_of_getElem? hP;have h1:=(hS.2 P hPm).1;have hkl:k<P.events.l.length:=(ζe.1 hk).1;have hyp:y.proc=p:=by rw[hid]
 have hyi:y.index=k+1:=by rw[hid]
 have j:∀s:Sl aa,s.l.length≤1→(∀z,z∈s.l↔Vd t z∧z=⟨y.proc,y.index+1⟩)→Wp (fW.J1 A s P.events y) fun s=>s.l.length≤2∧∀z,z∈s.l↔Edge t y z:=by
  intro s hs hz;have no:¬(∃z,Cw t y z)→s.l.length≤2∧∀z,z∈s.l↔Edge t y z:=fun hn=>⟨by omega,fun z=>(hz z).trans ⟨fun h=>⟨hy,h.1,.inl h.2⟩,fun h=>⟨h.2.1,h.2.2.elim id fun h=>(hn ⟨z,h⟩).elim⟩⟩⟩
  unfold fW.J1;have hw:IntKind.wrap .i64 (y.index-1)=((k:Nat):Int):=by rw[hyi,mm _ (by omega) (by omega)];omega
  rw[hw,o6,hk,ζb,dx,aU];constructor
  ·intro hk2;have hk2:e.kind=2:=by simpa using hk2
   have hm:0≤e.message∧e.message≤199:=by
    rcases hF _ hmem with h|⟨_,_,_,_,h⟩
    ·simp only at h;omega
    ·exact h
   have to_:∀z,Cw t y z→(ag A e.message).to_=z:=fun z ⟨e',f,a1,a2,a3,a4,a5⟩=>by
    cases vf a1 hmem rfl;rw[a5];exact(hA.rcv _ a2 a4).1
   rw[GH A hm.1 hm.2,ζb,ai,aU];refine⟨fun h=>?_,fun h=>(ai _).2 (no fun⟨z,hz⟩=>?_)⟩
   ·have h:(ag A e.message).to_.index>0:=by simpa using h
    rw[ζb];unfold kB;rw[if_pos (by omega),ζb,ai]
    refine⟨by show (s.l++[(ag A e.message).to_]).length≤2;rw[ζi,List.length_singleton];omega,fun z=>?_⟩
    have hto:Cw t y (ag A e.message).to_:=by
     rcases hA.to e.message hm.1 hm.2 with h0|⟨e',h1,h2,h3⟩
     ·omega
     ·exact⟨e,e',hmem,h1,hk2,h2,h3.symm⟩
    show z∈s.l++[(ag A e.message).to_]↔_;rw[List.mem_append,List.mem_singleton,hz];constructor
    ·rintro (h|rfl)
     ·exact⟨hy,h.1,.inl h.2⟩
     ·exact⟨hy,let ⟨_,f,_,a2,_⟩:=hto;⟨f,a2⟩,.inr hto⟩
    ·rintro⟨_,h1,h2|h2⟩
     ·exact .inl ⟨h1,h2⟩
     ·exact .inr (to_ z h2).symm
   ·rw[to_ z hz]at h;obtain⟨_,f,_,a2,_⟩:=hz;obtain⟨q,i,_,hi⟩:=bV.1 a2;simp only at hi;rw[hi]at h;simp at h
  ·intro hk2;rw[ai,aU];refine⟨fun h=>(by cases h),fun _=>(ai _).2 (no fun⟨z,e',f,a1,_,a3,_⟩=>?_)⟩
   cases vf a1 hmem rfl;simp[a3]at hk2
 unfold fW;rw[hyp,o6,hP,ζb,aU];rw[hyp]at j;constructor
 ·intro h;have h:y.index<len P.events:=by simpa using h
  have hk2:k+1<P.events.l.length:=by rw[hyi]at h;simp[len]at h;omega
  refine j _ (by simp[Sl.l]) fun z=>?_
  have hw:IntKind.wrap .i64 (y.index+1)=y.index+1:=mm _ (by omega) (by omega)
  simp only[Sl.l,List.mem_singleton,hw];refine⟨fun hz=>⟨⟨P.events.l[k+1],bV.2 ⟨p,k+1,⟨P,hP,ζd hk2⟩,?_⟩⟩,hz⟩,fun hz=>hz.2⟩
  rw[hz,hyi];simp
 ·intro h;have h:¬y.index<len P.events:=by simpa using h
  refine j _ (by simp[Sl.l]) fun z=>⟨fun hz=>by simp[Sl.l]at hz,fun⟨hz,he⟩=>?_⟩
  obtain⟨q,i,f,⟨Q,hQ,hi⟩,hqi,_⟩:=hz.at_;rw[he,hyi]at hqi;simp only[aa.mk.injEq]at hqi;have:q=p:=by omega
  subst this;rw[hP]at hQ;cases hQ;have:=(ζe.1 hi).1;rw[hyi]at h;simp[len]at h;omega
structure Dd (t:Trace) (x:aa) (rest:Sl aa) (m:Mo aa Bool) (U:aa→Prop):Prop where
 rst:∀y∈rest.l,y=x∨Way t x y
 keys:(m.map (·.1)).Nodup
 seen:∀y∈m,Way t x y.1∧y.1≠x∧y.2=true
 le:rest.l.length≤m.length+1
 done:∀y,y=x∨y∈m.map (·.1)→y∈rest.l∨U y∨∀z,Edge t y z→z∈m.map (·.1)
theorem Dd.count {t:Trace} {x:aa} {rest:Sl aa} {m:Mo aa Bool} {U:aa→Prop} (h:Dd t x rest m U):m.length≤(aM t).length:=by
 have:=yR (r:=(aM t).map (·.1)) h.keys fun x hx=>by
  obtain⟨y,hy,rfl⟩:=List.mem_map.1 hx;obtain⟨e,he⟩:=(h.seen y hy).1.r;exact List.mem_map.2 ⟨_,he,rfl⟩
 simpa using this
theorem IV {t:Trace} (hS:Small t) (hN:(aM t).length<1073741824) (hF:∀x∈aM t,f_ t.procs.l.length x.1.proc x.2) {A:bq 200 aH} (hA:dS t (aM t) A):Wp (dM t A) fun r=>(r.2=true↔EH t):=by
 unfold dM gi;rw[ζb];unfold dM.E1;rw[o7 hS,ζb];refine uF (fun k _=>∀x∈(aM t).take k,¬Way t x.1 x.1) (by simp) ?_ fun _ h=>(ai _).2 ⟨fun h=>(by cases h),fun⟨x,hx⟩=>?_⟩
 ·intro i x _ hx hall;have hxm:x∈aM t:=List.mem_of_getElem? hx;unfold dM.mK dM.W2;refine Wp.mono (P:=fun w=>match w with|.n s=>¬Way t x.1 x.1|.x e=>False|.r e=>EH t) ?_ fun w hw=>by
   cases w with
   | n s=>
    intro y hy;rw[List.take_add_one,hx]at hy;rcases List.mem_append.1 hy with hy|hy
    ·exact hall y hy
    ·simp at hy;subst hy;exact hw
   | x e=>exact hw.elim
   | r b=>exact(ai _).2 ⟨fun _=>hw,fun _=>rfl⟩
  refine c8 (fun q:Sl aa×Mo aa Bool=>Dd t x.1 q.1 q.2 fun _=>False) (fun q=>2*((aM t).length-q.2.length)+q.1.l.length) ⟨fun y hy=>.inl (by simpa [Sl.l]using hy),by simp,by simp,by simp[Sl.l],fun y hy=>.inl ?_⟩ ?_
  ·simpa [Sl.l]using hy
  rintro⟨rest,m⟩ hI;unfold dM.bg;rw[aU];refine⟨fun h=>?_,fun h=>(ai _).2 ((ai _).2 fun hw=>?_)⟩
  ·have hlen:0<rest.l.length:=by
    have:len rest>0:=by simpa using h
    simp[len]at this;omega
   have hc:=hI.count;have hle:=hI.le;simp only at hc hle;have hw:IntKind.wrap .i64 ((len rest)-1)=((rest.l.length-1:Nat):Int):=by
    rw[mm _ (by simp[len];omega) (by simp[len];omega)];simp[len];omega
   have hlast:rest.l.length-1<rest.l.length:=by omega
   rw[hw];have h1:Sl.oR rest ((rest.l.length-1:Nat):Int)=some (rest.l.length-1):=by
    unfold Sl.oR;rw[if_pos ⟨by omega,by simpa using hlast⟩];rfl
   have h2:Sl.get rest (rest.l.length-1)=some rest.l[rest.l.length-1]:=by unfold Sl.get;exact ζd hlast
   obtain⟨cut,h3,h4⟩:∃x,kN rest none (some ((rest.l.length-1:Nat):Int))=some x∧x.l=rest.l.take (rest.l.length-1):=by
    cases rest with
    | nil=>simp[Sl.l]at hlen
    | emp=>simp[Sl.l]at hlen
    | row l=>
     simp only[Sl.l]at hlen ⊢;unfold kN cE;simp only[Option.getD_none,Option.getD_some];rw[if_pos (by omega)]
     exact⟨_,rfl,by simp[Sl.l]⟩
    | part l=>
     simp only[Sl.l]at hlen ⊢;unfold kN cE;simp only[Option.getD_none,Option.getD_some];rw[if_pos (by omega)]
     exact⟨_,rfl,by simp[Sl.l]⟩
   rw[h1,ζb,h2,ζb,h3,ζb,dx];generalize hye:rest.l[rest.l.length-1]=y;have hym:y∈rest.l:=hye▸List.getElem_mem hlast;have hsplit:∀z,z∈rest.l→z∈cut.l∨z=y:=fun z hz=>by
    have:rest.l.take (rest.l.length-1)++rest.l.drop (rest.l.length-1)=rest.l:=List.take_append_drop ..;rw[←this]at hz;rcases List.mem_append.1 hz with hz|hz
    ·exact .inl (h4▸hz)
    ·rw[List.drop_eq_getElem_cons hlast,List.drop_of_length_le (by omega)]at hz
     exact .inr (by simpa [hye]using hz)
   have hyw:y=x.1∨Way t x.1 y:=hI.rst _ hym;have hyv:Vd t y:=hyw.elim (fun e=>⟨x.2,e▸hxm⟩) Way.r
   refine(LI hS hF hA hyv).mono fun s hs=>?_
   unfold dM.W3;refine c8 (fun q:Sl aa×Int×Mo aa Bool=>∃n:Nat,q.2.1=n∧n≤s.l.length∧Dd t x.1 q.1 q.2.2 (fun u=>u=y)∧(∀z∈s.l.take n,z∈q.2.2.map (·.1))∧2*((aM t).length-q.2.2.length)+q.1.l.length<2*((aM t).length-m.length)+rest.l.length) (fun q=>s.l.length-q.2.1.toNat)
    ⟨0,rfl,Nat.zero_le _,⟨fun z hz=>hI.rst z (by rw[h4]at hz;exact List.mem_of_mem_take hz),hI.keys,hI.seen,by rw[h4];simp;omega,fun u hu=>?_⟩,by simp,by rw[h4];simp;omega⟩ ?_
   ·rcases hI.done u hu with h|h|h
    ·exact(hsplit u h).imp_right .inl
    ·exact h.elim
    ·exact .inr (.inr h)
   rintro⟨rest2,i2,m2⟩ ⟨n,rfl,hn,hI2,hms,hμ⟩;simp only at hI2 hμ hms;unfold dM.dw;rw[aU];constructor
   ·intro h;have hlt:n<s.l.length:=by simpa [len]using h
    have hxe:=(hs.2 s.l[n]).1 (List.getElem_mem hlt);have hxw:Way t x.1 s.l[n]:=hyw.elim (fun e=>.single (e▸hxe)) fun h=>.tail h hxe
    rw[aO hlt,ζb,aU];refine⟨fun he=>(ai _).2 ((ai _).2 ((ai _).2 ⟨x.1,?_⟩)),fun hne=>?_⟩
    ·have:s.l[n]=x.1:=by
      unfold FJ at he
      revert he;cases s.l[n];cases x.1;intro he;simpa using he
     rw[this]at hxw;exact hxw
    have hne:s.l[n]≠x.1:=fun e=>by rw[e]at hne;simp[FJ]at hne
    have hw2:=bR n (by omega)
    have htk:s.l.take (n+1)=s.l.take n++[s.l[n]]:=by rw[List.take_add_one,ζd hlt];rfl
    rw[aU];refine⟨fun hg=>(ai _).2 ⟨⟨n+1,hw2,by omega,hI2,fun z hz=>?_,hμ⟩,by show _-(IntKind.wrap .i64 ((n:Int)+1)).toNat<_;rw[hw2];simp;omega⟩,fun hno=>?_⟩
    ·rw[htk]at hz;rcases List.mem_append.1 hz with hz|hz
     ·exact hms z hz
     ·simp only[List.mem_singleton]at hz;subst hz;apply Classical.byContradiction;intro hk;unfold AB at hg;rw[Af hk]at hg;cases hg
    have hc2:=hI2.count;have hle2:=hI2.le;unfold kB;rw[if_pos (show rest2.l.length+1≤2147483648 from by omega),ζb,ai]
    have hnew:s.l[n]∉m2.map (·.1):=fun hin=>by
     obtain⟨v,hv,hvm⟩:=Br hin;have:=(hI2.seen _ hvm).2.2;simp only at this;subst this;unfold AB at hno;rw[hv]at hno;cases hno
    have hmm:∀z,z∈(nK m2 s.l[n] true).map (·.1)↔z∈m2.map (·.1)∨z=s.l[n]:=fun z=>by
     rw[nN hnew,List.map_append,List.mem_append];simp
    have hS2:Dd t x.1 (.row (rest2.l++[s.l[n]])) (nK m2 s.l[n] true) (fun u=>u=y):=by
     refine⟨fun y hy=>?_,?_,fun y hy=>?_,?_,fun u hu=>?_⟩
     ·simp only[Sl.l,List.mem_append,List.mem_singleton]at hy;rcases hy with hy|rfl
      ·exact hI2.rst y hy
      ·exact .inr hxw
     ·rw[nN hnew,List.map_append,List.nodup_append];refine⟨hI2.keys,by simp,fun a ha b hb=>?_⟩
      simp only[List.map_cons,List.map_nil,List.mem_singleton]at hb;subst hb;exact fun e=>hnew (e▸ha)
     ·rw[nN hnew]at hy;rcases List.mem_append.1 hy with hy|hy
      ·exact hI2.seen y hy
      ·simp only[List.mem_singleton]at hy;subst hy;exact⟨hxw,hne,rfl⟩
     ·rw[nN hnew];show (rest2.l++[s.l[n]]).length≤_;rw[ζi,ζi,List.length_singleton,List.length_singleton];omega
     ·simp only[Sl.l,List.mem_append,List.mem_singleton];have old:u=x.1∨u∈m2.map (·.1)→(u∈rest2.l∨u=s.l[n])∨u=y∨∀z,Edge t u z→z∈(nK m2 s.l[n] true).map (·.1):=fun hu=>by
       rcases hI2.done u hu with h|h|h
       ·exact .inl (.inl h)
       ·exact .inr (.inl h)
       ·exact .inr (.inr fun z hz=>(hmm z).2 (.inl (h z hz)))
      rcases hu with hu|hu
      ·exact old (.inl hu)
      ·rcases (hmm u).1 hu with hu|hu
       ·exact old (.inr hu)
       ·exact .inl (.inr hu)
    have hc3:=hS2.count;refine⟨⟨n+1,hw2,by omega,hS2,fun z hz=>?_,?_⟩,by show _-(IntKind.wrap .i64 ((n:Int)+1)).toNat<_;rw[hw2];simp;omega⟩
    ·rw[htk]at hz;rcases List.mem_append.1 hz with hz|hz
     ·exact(hmm z).2 (.inl (hms z hz))
     ·exact(hmm z).2 (.inr (by simpa using hz))
    rw[nN hnew,ζi,List.length_singleton]at hc3;show 2*((aM t).length-(nK m2 s.l[n] true).length)+(rest2.l++[s.l[n]]).length<_;rw[nN hnew,ζi,ζi,List.length_singleton,List.length_singleton];omega
   ·intro h;have hge:s.l.length≤n:=by simpa [len]using h
    rw[List.take_of_length_le hge]at hms;refine(ai _).2 ((ai _).2 ⟨⟨hI2.rst,hI2.keys,hI2.seen,hI2.le,fun u hu=>?_⟩,hμ⟩)
    rcases hI2.done u hu with h|h|h
    ·exact .inl h
    ·subst h;exact .inr (.inr fun z hz=>hms z ((hs.2 z).2 hz))
    ·exact .inr (.inr h)
  ·have hr0:rest.l=[]:=by
    have:¬len rest>0:=by simpa using h
    simp[len]at this;exact this
   have hd:∀y,y=x.1∨y∈m.map (·.1)→∀z,Edge t y z→z∈m.map (·.1):=fun y hy=>by
    rcases hI.done y hy with h|h|h
    ·simp only[hr0]at h;cases h
    ·exact h.elim
    ·exact h
   have key:∀z,Way t x.1 z→z∈m.map (·.1):=fun z hz=>by
    induction hz with
    | single h=>exact hd _ (.inl rfl) _ h
    | tail _ h ih=>exact hd _ (.inr ih) _ h
   obtain⟨y,hy,hyx⟩:=List.mem_map.1 (key _ hw);exact(hI.seen y hy).2.1 hyx
 ·obtain⟨e,he⟩:=hx.l;rw[List.take_length]at h;exact absurd hx (h _ he)
structure Ok (t:Trace):Prop where
 one:1≤t.procs.l.length
 few:t.procs.l.length≤8
 heads:∀p,p<t.procs.l.length→oA t p=0
 eF:∀(p k:Nat) P e,t.procs.l[p]? = some P→P.events.l[k]? = some e→lz t.procs.l.length P p k e=0
 we:uq t
 acyc:¬EH t
theorem Bm {t:Trace} (h:∀(p k:Nat) P e,t.procs.l[p]? = some P→P.events.l[k]? = some e→lz t.procs.l.length P p k e=0):∀x∈aM t,f_ t.procs.l.length x.1.proc x.2:=fun x hx=>by
 obtain⟨p,k,⟨P,hP,he⟩,hid⟩:=bV.1 hx;rw[hid];exact C_ (h p k P _ hP he)
structure VT (t:Trace):Prop where
 formed:∀x∈aM t,f_ t.procs.l.length x.1.proc x.2
 msgs:∃A i,cW t=some (some A,i,0)∧dS t (aM t) A
 few:t.procs.l.length≤8
 ok:Ok t
theorem J_ {t:Trace} (hS:Small t) (hN:(aM t).length<1073741824):Wp (eS t) fun r=>(r.2=0→VT t)∧(Ok t→r.2=0):=by
 unfold eS;rw[gG,ζb,aU];refine⟨fun hin=>?_,fun hin=>(ai _).2 ⟨fun h=>(by cases h),fun h=>?_⟩⟩
 rotate_left
 ·have h1:=h.one;have h8:=h.few;simp only[Bool.and_eq_false_iff,decide_eq_false_iff_not,len]at hin;omega
 have h8:1≤t.procs.l.length∧t.procs.l.length≤8:=by
  simp only[ζh,decide_eq_true_eq,len]at hin;omega
 unfold eS.W1;refine c8 (fun i:Int=>∃n:Nat,i=n∧n≤t.procs.l.length∧∀p,p<n→oA t p=0) (fun i:Int=>t.procs.l.length-i.toNat) ⟨0,rfl,Nat.zero_le _,fun p hp=>absurd hp (by omega)⟩ ?_
 rintro i ⟨n,rfl,hn,hh⟩;unfold eS.aD;rw[aU];constructor
 ·intro h;have hlt:n<t.procs.l.length:=by simpa [len]using h
  rw[JN hS hlt,ζb,aU];refine⟨fun h0=>(ai _).2 ⟨⟨n+1,bR n (by omega),by omega,fun p hp=>?_⟩,by rw[bR n (by omega)];simp;omega⟩,fun h0=>(ai _).2 ((ai _).2 ⟨fun h=>?_,fun h=>?_⟩)⟩
  ·by_cases e:p=n
   ·subst e;simpa using h0
   ·exact hh p (by omega)
  ·simp only at h;simp[h]at h0
  ·simp[h.heads n hlt]at h0
 ·intro h;have hge:t.procs.l.length≤n:=by simpa [len]using h
  rw[ai];unfold gi;rw[ζb];unfold eS.E2;rw[o7 hS,ζb];refine uF (fun i _=>∀(p k:Nat) P e,t.procs.l[p]? = some P→P.events.l[k]? = some e→(⟨p,k+1⟩,e)∈(aM t).take i→lz t.procs.l.length P p k e=0) (by simp) ?_ ?_
  ·intro i x _ hx hI;have hxm:x∈aM t:=List.mem_of_getElem? hx;obtain⟨p,j,⟨P,hP,he⟩,hid⟩:=bV.1 hxm;unfold eS.EN;rw[hid,IM hS hP he,ζb,aU];refine⟨fun h0=>(ai _).2 fun p' k' P' e' hP' he' hm=>?_,fun h0=>(ai _).2 ((ai _).2 ⟨fun h=>?_,fun h=>?_⟩)⟩
   ·rw[List.take_add_one,hx]at hm;rcases List.mem_append.1 hm with hm|hm
    ·exact hI p' k' P' e' hP' he' hm
    ·simp only[Option.toList_some,List.mem_singleton]at hm;rw[←hm]at hid he;simp only[aa.mk.injEq]at hid;have e1:p'=p:=by omega
     have e2:k'=j:=by omega
     subst e1 e2;rw[hP']at hP;cases hP;rw[←hm]at h0;simpa using h0
   ·simp only at h;simp[h]at h0
   ·simp[h.eF p j P _ hP he]at h0
  ·intro _ hI;have hI:∀(p k:Nat) P e,t.procs.l[p]? = some P→P.events.l[k]? = some e→lz t.procs.l.length P p k e=0:=fun p k P e hP he=>hI p k P e hP he (by rw[List.take_length];exact bV.2 ⟨p,k,⟨P,hP,he⟩,rfl⟩)
   have hF:=Bm hI;obtain⟨r,hr,hq,hq2⟩:=zG hS hF;rw[hr,ζb,aU];refine⟨fun h0=>?_,fun h0=>(ai _).2 ⟨fun h=>?_,fun h=>hq2 h.we⟩⟩
   ·have h0:r.2.2=0:=by simpa using h0
    obtain⟨A,hA,hM⟩:=hq h0;rw[hA,ζb];obtain⟨c,hc,hcc⟩:=IV hS hN hF hM;rw[hc,ζb,aU];refine⟨fun hb=>(ai _).2 ⟨fun h=>(by cases h),fun h=>absurd (hcc.1 hb) h.acyc⟩,fun hb=>(ai _).2 ⟨fun _=>?_,fun _=>rfl⟩⟩
    exact⟨hF,⟨A,r.2.1,by rw[hr];obtain⟨r1,r2,r3⟩:=r;simp only at hA h0;rw[hA,h0],hM⟩,h8.2,h8.1,h8.2,fun p hp=>hh p (by omega),hI,hM.we,fun hc=>by rw[hcc.2 hc]at hb;cases hb⟩
   ·simp only at h;simp[h]at h0
theorem Lu {t:Trace} (hS:Small t) (hN:(aM t).length<1073741824):Wp (bZ t) fun b=>(b=true→VT t)∧(Ok t→b=true):=by
 unfold bZ;rw[dx];exact(J_ hS hN).mono fun r hr=>(ai _).2 ⟨fun h=>hr.1 (by simpa using h),fun h=>by simpa using hr.2 h⟩
end Go.VE
namespace Go.VE
def mT (f:Event→Bool):Int→List Event→List Int
 | _,[]=>[]
 | j,e::r=>if f e then(j+1)::mT f (j+1) r else mT f (j+1) r
theorem K6 (f:Event→Bool) (e:Event):∀(l:List Event) (j:Int),mT f j (l++[e])=mT f j l++(if f e then [j+l.length+1]else [])
 | [],j=>by simp[mT]
 | x::l,j=>by
  simp only[List.cons_append,mT,K6 f e l (j+1),List.length_cons];split <;> simp <;> split <;> simp <;> omega
theorem Qm (f:Event→Bool):∀(l:List Event) (j:Int),(mT f j l).length≤l.length
 | [],_=>Nat.le_refl _
 | x::l,j=>by
  have:=Qm f l (j+1);simp only[mT];split <;> simp only[List.length_cons] <;> omega
theorem z_ (f:Event→Bool):∀(l:List Event) (j:Int) (a:Int),a∈mT f j l→j<a
 | x::l,j,a,h=>by
  simp only[mT]at h;split at h
  ·rcases List.mem_cons.1 h with rfl|h
   ·omega
   ·have:=z_ f l (j+1) a h;omega
  ·have:=z_ f l (j+1) a h;omega
theorem Dj (f:Event→Bool):∀(l:List Event) (j:Int),Up (mT f j l)
 | [],_=>fun i k a b _ h=>by simp[mT]at h
 | x::l,j=>by
  intro i k a b hik ha hb;simp only[mT]at ha hb;split at ha
  ·rename_i hf;rw[if_pos hf]at hb
   cases k with
   | zero=>omega
   | succ k=>
    simp only[List.getElem?_cons_succ]at hb
    cases i with
    | zero=>
     simp only[List.getElem?_cons_zero,ζa]at ha;subst ha;exact z_ f l (j+1) b (List.mem_of_getElem? hb)
    | succ i=>
     simp only[List.getElem?_cons_succ]at ha;exact Dj f l (j+1) i k a b (by omega) ha hb
  ·rename_i hf;rw[if_neg hf]at hb;exact Dj f l (j+1) i k a b hik ha hb
theorem wX (f:Event→Bool):∀(l:List Event) (j:Int) (x:Nat),(mT f j l).countP (fun a=>decide (a≤j+x))=(l.take x).countP f
 | [],j,x=>by simp[mT]
 | e::l,j,0=>by
  rw[List.take_zero,List.countP_nil,List.countP_eq_zero];intro a ha;have:=z_ f (e::l) j a ha;simp;omega
 | e::l,j,x+1=>by
  have ih:=wX f l (j+1) x;rw[show j+1+(x:Int)=j+((x+1:Nat):Int)from by push_cast;omega]at ih
  simp only[mT,List.take_succ_cons,List.countP_cons];split
  ·rename_i hf;rw[List.countP_cons,ih];simp;omega
  ·rename_i hf;rw[ih];simp
def jP (q:Int) (e:Event):Bool:=e.kind==2&&e.peer==q
def kj (p:Int) (e:Event):Bool:=e.kind==3&&e.peer==p
end Go.VE
namespace Go.VE
def under (t:Trace) (c:List Int) (p q:Nat):Int:=match t.procs.l[p]?,t.procs.l[q]?,c[p]?,c[q]? with
 | some P,some Q,some a,some b=>((P.events.l.take a.toNat).countP (jP q):Int)-((Q.events.l.take b.toNat).countP (kj p):Int)
 | _,_,_,_=>0
end Go.VE
namespace Go.VE
theorem Jr {t:Trace} (hS:Small t) (hv:bZ t=some true) {A:bq 200 aH} (hM:dS t (aM t) A) {x:aa×Event} (hx:x∈aM t) (hk:x.2.kind=2):pE t x.2.message=some (x.1,true):=by
 refine Wp.eq ?_;unfold pE fJ;rw[hv,ζb,aY];unfold gi;rw[ζb];unfold fJ.E1;rw[o7 hS,ζb,dx];refine uF (fun k _=>∀y∈(aM t).take k,¬(y.2.kind=2∧y.2.message=x.2.message)) (by simp) ?_ ?_
 ·intro k y _ hy hI;have hym:y∈aM t:=List.mem_of_getElem? hy;unfold fJ.mK;rw[fS,ζb,aU];constructor
  ·intro hc;have hc:y.2.kind=2∧y.2.message=x.2.message:=by simpa using hc
   refine(ai _).2 ((ai _).2 ((ai _).2 ?_));have h1:=hM.snd y hym hc.1;have h2:=hM.snd x hx hk;rw[hc.2,h2]at h1;rw[h1]
  ·intro hc;have hc:¬(y.2.kind=2∧y.2.message=x.2.message):=by
    intro h;rw[h.1,h.2]at hc;simp at hc
   rw[ai];intro z hz;rw[List.take_add_one,hy]at hz;rcases List.mem_append.1 hz with hz|hz
   ·exact hI z hz
   ·simp at hz;subst hz;exact hc
 ·intro _ hI;rw[List.take_length]at hI;exact absurd ⟨hk,rfl⟩ (hI x hx)
def jX (t:Trace) (c:List Int):Prop:=c.length=t.procs.l.length∧∀(p:Nat) (a:Int) (P:bt),c[p]? = some a→t.procs.l[p]? = some P→0≤a∧a≤P.events.l.length
def iN (t:Trace) (A:bq 200 aH) (c:List Int):Prop:=∀(p k:Nat) (e:Event) (a:Int),hG t p k e→c[p]? = some a→(k:Int)<a→e.kind=3→∃b,c[(ag A e.message).from_.proc.toNat]? = some b∧(ag A e.message).from_.index≤b
theorem pY {t:Trace} (hV:VT t) {A:bq 200 aH} (hM:dS t (aM t) A) {p k:Nat} {e:Event} (he:hG t p k e) (hk:e.kind=3) :
 ∃(q j:Nat) (y:Event),hG t q j y∧y.kind=2∧y.message=e.message∧y.peer=p∧e.peer=q∧(ag A e.message).from_=⟨q,j+1⟩:=by
 have hmem:((⟨p,k+1⟩:aa),e)∈aM t:=bV.2 ⟨p,k,he,rfl⟩;have hs:=(hM.rcv _ hmem hk).2;have hf:=hV.formed _ hmem;simp only at hs hf;have hpeer:0≤e.peer:=by
  rcases hf with h|⟨_,h,_⟩
  ·omega
  ·exact h
 obtain⟨q,hq⟩:∃q:Nat,e.peer=q:=⟨e.peer.toNat,by omega⟩
 rw[hq]at hs;obtain⟨j,y,hat,h1,h2,h3⟩:=rE.1 hs;have:=hM.snd (⟨q,j+1⟩,y) (bV.2 ⟨q,j,hat,rfl⟩) h1;simp only at this;rw[h2]at this;exact⟨q,j,y,hat,h1,h2,h3,hq,this⟩
def YX (t:Trace) (A:bq 200 aH) (c:List Int) (s:aa):Prop:=∃(p k:Nat) (e:Event) (a:Int) (q j:Nat) (y:Event) (b:Int),hG t p k e∧c[p]? = some a∧(k:Int)<a∧e.kind=3∧(ag A e.message).from_=s∧s=⟨q,j+1⟩∧hG t q j y∧c[q]? = some b∧b<(j:Int)+1
theorem N4 {t:Trace} (hS:Small t) (hv:bZ t=some true) (hV:VT t) {A:bq 200 aH} (hM:dS t (aM t) A) {c:Sl Int} (hR:jX t c.l):Wp (eR t c) fun r=>(r.2.2=false→iN t A c.l)∧(r.2.2=true→YX t A c.l r.1):=by
 have hn8:=hV.few;unfold eR eR.W1;refine c8 (fun s:Int=>∃n:Nat,s=n∧n≤c.l.length∧∀(p k:Nat) (e:Event) (a:Int),p<n→hG t p k e→c.l[p]? = some a→(k:Int)<a→e.kind=3→∃b,c.l[(ag A e.message).from_.proc.toNat]? = some b∧(ag A e.message).from_.index≤b) (fun s:Int=>c.l.length-s.toNat) ⟨0,rfl,Nat.zero_le _,fun p k e a h=>absurd h (by omega)⟩ ?_
 rintro s ⟨n,rfl,hn,hI⟩;have hcl:=hR.1;unfold eR.aD;rw[aU];constructor
 ·intro h;have hlt:n<c.l.length:=by simpa [len]using h
  have hlt2:n<t.procs.l.length:=by omega
  have hP:=(hS.2 _ (List.getElem_mem hlt2)).1;obtain⟨r1,r2⟩:=hR.2 n _ _ (ζd hlt) (ζd hlt2);rw[aO hlt,ζb,aO hlt2,ζb];obtain⟨y,hy,hyl⟩:=lX t.procs.l[n].events c.l[n].toNat (by omega)
  rw[show ((c.l[n].toNat:Nat):Int)=c.l[n]from by omega]at hy
  rw[hy,ζb];unfold eR.W2;refine c8 (fun s:Int=>∃m:Nat,s=m∧m≤y.l.length∧∀(k:Nat) (e:Event),k<m→hG t n k e→e.kind=3→∃b,c.l[(ag A e.message).from_.proc.toNat]? = some b∧(ag A e.message).from_.index≤b) (fun s:Int=>y.l.length-s.toNat) ⟨0,rfl,Nat.zero_le _,fun k e h=>absurd h (by omega)⟩ ?_
  rintro s ⟨m,rfl,hm,hJ⟩;have hyl2:y.l.length=c.l[n].toNat:=by rw[hyl,List.length_take];omega
  unfold eR.bg;rw[aU];constructor
  ·intro h;have hltm:m<y.l.length:=by simpa [len]using h
   have hwm:=bR m (by omega)
   have hmu:y.l.length-(IntKind.wrap .i64 ((m:Int)+1)).toNat<y.l.length-((m:Int)).toNat:=by rw[hwm];simp;omega
   have hg:y.l[m]? = t.procs.l[n].events.l[m]? := by rw[hyl,List.getElem?_take,if_pos (show m<c.l[n].toNat from by omega)]
   have hat:hG t n m y.l[m]:=⟨_,ζd hlt2,by rw[←hg];exact ζd hltm⟩
   rw[aO hltm,ζb];generalize y.l[m]=e at hat;rw[aU];constructor
   ·intro hk;have hk:e.kind=3:=by simpa using hk
    obtain⟨q,j,z,hz,z1,z2,z3,z4,z5⟩:=pY hV hM hat hk;have hsd:=Jr hS hv hM (x:=(⟨q,j+1⟩,z)) (bV.2 ⟨q,j,hz,rfl⟩) z1;simp only at hsd;rw[z2]at hsd;have hzq:=hz;obtain⟨Q,hQ,_⟩:=hz;have hql:q<c.l.length:=by have:=(ζe.1 hQ).1;omega
    rw[hsd,ζb];simp only;rw[aO hql,ζb,aU];constructor
    ·intro hgt;have hgt:(j:Int)+1>c.l[q]:=by simpa using hgt
     exact(ai _).2 ((ai _).2 ((ai _).2 ⟨fun h=>(by cases h),fun _=>⟨n,m,e,c.l[n],q,j,z,c.l[q],hat,ζd hlt,by omega,hk,z5,rfl,hzq,ζd hql,by omega⟩⟩))
    ·intro hle;have hle:¬((j:Int)+1>c.l[q]):=by simpa using hle
     refine(ai _).2 ⟨⟨m+1,hwm,by omega,fun k e' hk' hat' he'=>?_⟩,hmu⟩
     by_cases ek:k=m
     ·subst ek;have:e'=e:=by
       obtain⟨P1,a1,a2⟩:=hat;obtain⟨P2,b1,b2⟩:=hat';rw[a1]at b1;cases b1;rw[a2]at b2;cases b2;rfl
      subst this;rw[z5];exact⟨c.l[q],by simp only[Int.toNat_natCast];exact ζd hql,by simp only;omega⟩
     ·exact hJ k e' (by omega) hat' he'
   ·intro hk;have hk:¬e.kind=3:=by simpa using hk
    refine(ai _).2 ⟨⟨m+1,hwm,by omega,fun k e' hk' hat' he'=>?_⟩,hmu⟩
    by_cases ek:k=m
    ·subst ek;have:e'=e:=by
      obtain⟨P1,a1,a2⟩:=hat;obtain⟨P2,b1,b2⟩:=hat';rw[a1]at b1;cases b1;rw[a2]at b2;cases b2;rfl
     subst this;exact absurd he' hk
    ·exact hJ k e' (by omega) hat' he'
  ·intro h;have hge:y.l.length≤m:=by simpa [len]using h
   have hwn:=bR n (by omega)
   refine(ai _).2 ((ai _).2 ⟨⟨n+1,hwn,by omega,fun p k e a hp hat ha hka he=>?_⟩,by show _-(IntKind.wrap .i64 ((n:Int)+1)).toNat<_;rw[hwn];simp;omega⟩)
   by_cases ep:p=n
   ·subst ep;rw[ζd hlt]at ha;cases ha;exact hJ k e (by omega) hat he
   ·exact hI p k e a (by omega) hat ha hka he
 ·intro h;have hge:c.l.length≤n:=by simpa [len]using h
  refine(ai _).2 ((ai _).2 ⟨fun _ p k e a hat ha hka he=>hI p k e a (by have:=(ζe.1 ha).1;omega) hat ha hka he,fun h=>(by cases h)⟩)
theorem u_ {t:Trace} (hS:Small t) (hv:bZ t=some true) (hV:VT t) {A:bq 200 aH} (hM:dS t (aM t) A) {c:Sl Int} (hR:jX t c.l):Wp (eR t c) fun r=>(r.2.2=false↔iN t A c.l):=by
 refine(N4 hS hv hV hM hR).mono fun r hr=>⟨hr.1,fun hC=>?_⟩
 cases h:r.2.2 with
 | false=>rfl
 | true=>
  obtain⟨p,k,e,a,q,j,y,b,h1,h2,h3,h4,h5,h6,_,h7,h8⟩:=hr.2 h;obtain⟨b',g1,g2⟩:=hC p k e a h1 h2 h3 h4;rw[h5,h6]at g1 g2;simp only[Int.toNat_natCast]at g1 g2;rw[h7]at g1;cases g1;omega
end Go.VE
namespace Go.VE
theorem pe {s:Sl (Sl Int)} {p:Sl Int→Option Bool} {f:Sl Int→Bool} (hp:∀x∈s.l,p x=some (f x)) (hl:s.l.length<1073741824):fC s p=some (s.l.any f):=by
 have h:dY s p=some (place f s.l):=n_ hp (by omega) (fun i=>rfl)
 unfold fC;rw[h,ζb,ou]
theorem uZ {t:Trace} (hS:Small t) {c:Sl Int} (hcl:c.l.length=t.procs.l.length):Wp (gF t c) fun b=>(b=true↔jX t c.l):=by
 have h1:=hS.1;unfold gF gF.W1;refine c8 (fun s:Int=>∃n:Nat,s=n∧n≤c.l.length∧∀(p:Nat) (a:Int) (P:bt),p<n→c.l[p]? = some a→t.procs.l[p]? = some P→0≤a∧a≤P.events.l.length) (fun s:Int=>c.l.length-s.toNat) ⟨0,rfl,Nat.zero_le _,fun p a P h=>absurd h (by omega)⟩ ?_
 rintro s ⟨n,rfl,hn,hI⟩;unfold gF.aD;rw[aU];constructor
 ·intro h;have hlt:n<c.l.length:=by simpa [len]using h
  have hlt2:n<t.procs.l.length:=by omega
  have hw:=bR n (by omega)
  rw[aO hlt,ζb,aO hlt2,ζb,fu,ζb,aU];constructor
  ·intro hb;have hb:c.l[n]<0∨c.l[n]>t.procs.l[n].events.l.length:=by simpa [len]using hb
   refine(ai _).2 ((ai _).2 ⟨fun h=>(by cases h),fun hR=>?_⟩)
   have:=hR.2 n _ _ (ζd hlt) (ζd hlt2);omega
  ·intro hb;have hb:0≤c.l[n]∧c.l[n]≤t.procs.l[n].events.l.length:=by simpa [len]using hb
   refine(ai _).2 ⟨⟨n+1,hw,by omega,fun p a P hp ha hP=>?_⟩,by rw[hw];simp;omega⟩
   by_cases e:p=n
   ·subst e;rw[ζd hlt]at ha;cases ha;rw[ζd hlt2]at hP;cases hP;exact hb
   ·exact hI p a P (by omega) ha hP
 ·intro h;have hge:c.l.length≤n:=by simpa [len]using h
  refine(ai _).2 ((ai _).2 ⟨fun _=>⟨hcl,fun p a P ha hP=>hI p a P (by have:=(ζe.1 ha).1;omega) ha hP⟩,fun _=>rfl⟩)
def Code (t:Trace) (A:bq 200 aH) (c:List Int) (r:Int):Prop:=c.length≠t.procs.l.length∧r=1∨c.length=t.procs.l.length∧¬jX t c∧r=2∨jX t c∧¬iN t A c∧r=18∨jX t c∧iN t A c∧r=0
theorem Tj {t:Trace} (hS:Small t) (hv:bZ t=some true) (hV:VT t) {A:bq 200 aH} (hM:dS t (aM t) A) (c:Sl Int) :
 Wp (a_ t (Sl.row [c]:Sl (Sl Int)) (Sl.nil:Sl Int)) fun r=>Code t A c.l r:=by
 unfold a_ qZ;rw[hv,ζb,aY,pe (f:=fun z=>(dB z t).getD false) (fun z _=>lQ.ok ((ai _).2 trivial)) (by simp[Sl.l]),ζb,ζb,ζb]
 have hany:(!((Sl.row [c]:Sl (Sl Int)).l.any fun z=>(dB z t).getD false))=(len c==len t.procs):=by
  simp[Sl.l,dB]
 rw[hany,aU];constructor
 ·intro h;have hcl:c.l.length=t.procs.l.length:=by
   have:(c.l.length:Int)=t.procs.l.length:=by simpa [len]using h
   omega
  unfold a_.W1;refine c8 (fun s:Int=>s=0∨s=1∧jX t c.l) (fun s:Int=>1-s.toNat) (.inl rfl) ?_
  intro s hs;unfold a_.aD;rcases hs with rfl|⟨rfl,hR⟩
  ·rw[show decide ((0:Int)<len (Sl.row [c]:Sl (Sl Int)))=true from rfl,aY,show idx (Sl.row [c]:Sl (Sl Int)) 0=some c from rfl,ζb,dx];refine(uZ hS hcl).mono fun b hb=>?_
   rw[aU];exact⟨fun hbt=>(ai _).2 ⟨.inr ⟨rfl,hb.1 hbt⟩,by decide⟩,fun hbf=>(ai _).2 ((ai _).2 (.inr (.inl ⟨hcl,fun h=>(by rw[hb.2 h]at hbf;cases hbf),rfl⟩)))⟩
  ·rw[show decide ((1:Int)<len (Sl.row [c]:Sl (Sl Int)))=false from rfl,bG,ai];show Wp (a_.W2 (Sl.row [c]) Sl.nil 0 0 t) _;unfold a_.W2;refine c8 (fun s:Int=>s=0) (fun _=>0) rfl ?_
   rintro s rfl;unfold a_.bg;rw[show decide ((0:Int)<0)=false from rfl,bG,ai];show Wp (a_.W3 (Sl.row [c]) 1 0 t) _;unfold a_.W3;refine c8 (fun s:Int=>s=0∨s=1∧iN t A c.l) (fun s:Int=>1-s.toNat) (.inl rfl) ?_
   intro s hs;unfold a_.dw;rcases hs with rfl|⟨rfl,hC⟩
   ·rw[show decide ((0:Int)<1)=true from rfl,aY,show idx (Sl.row [c]:Sl (Sl Int)) 0=some c from rfl,ζb];unfold oZ;rw[dx,dx];refine(u_ hS hv hV hM hR).mono fun r hr=>?_
    rw[ai,aU];exact⟨fun hb=>(ai _).2 ⟨.inr ⟨rfl,hr.1 (by simpa using hb)⟩,by decide⟩,fun hb=>(ai _).2 ((ai _).2 (.inr (.inr (.inl ⟨hR,fun h=>(by have:=hr.2 h;simp[this]at hb),rfl⟩))))⟩
   ·rw[show decide ((1:Int)<1)=false from rfl,bG,ai];exact(ai _).2 (.inr (.inr (.inr ⟨hR,hC,rfl⟩)))
 ·intro h;exact(ai _).2 (.inl ⟨fun e=>(by simp[len,e]at h),rfl⟩)
theorem Code.zero {t:Trace} {A:bq 200 aH} {c:List Int} {r:Int} (h:Code t A c r):r=0↔jX t c∧iN t A c:=by
 rcases h with⟨h,rfl⟩|⟨_,h,rfl⟩|⟨_,h,rfl⟩|⟨h1,h2,rfl⟩
 ·exact⟨fun h=>(by cases h),fun h'=>absurd h'.1.1 h⟩
 ·exact⟨fun h=>(by cases h),fun h'=>absurd h'.1 h⟩
 ·exact⟨fun h=>(by cases h),fun h'=>absurd h'.2 h⟩
 ·exact⟨fun _=>⟨h1,h2⟩,fun _=>rfl⟩
theorem Kr {t:Trace} (hS:Small t) (hv:bZ t=some true) (hV:VT t) {A:bq 200 aH} (hM:dS t (aM t) A) (c:Sl Int) :
 Wp (a_ t (Sl.row [c]:Sl (Sl Int)) (Sl.nil:Sl Int)) fun r=>(r=0↔jX t c.l∧iN t A c.l):=(Tj hS hv hV hM c).mono fun _ h=>h.zero
def Cons (t:Trace) (A:bq 200 aH) (c:List Int):Prop:=jX t c∧iN t A c
end Go.VE
namespace Go.VE
def places {α:Type} (f:α→Bool) (l:List α):List Nat:=(List.range l.length).filter fun k=>match l[k]? with|some x=>f x|none=>false
theorem oN {α:Type} {f:α→Bool} {l:List α} {k:Nat}:k∈places f l↔∃x,l[k]? = some x∧f x=true:=by
 unfold places;rw[List.mem_filter,List.mem_range];constructor
 ·rintro⟨h1,h2⟩;rw[ζd h1]at h2;exact⟨_,ζd h1,h2⟩
 ·rintro⟨x,h1,h2⟩;exact⟨(ζe.1 h1).1,by rw[h1];exact h2⟩
theorem Ds {α:Type} (f:α→Bool) (l:List α):(places f l).Nodup:=List.nodup_range.sublist (List.filter_sublist ..)
theorem zC {α:Type} (f:α→Bool):∀l:List α,(places f l).length=l.countP f:=by
 intro l;unfold places;rw[←List.countP_eq_length_filter]
 induction l with
 | nil=>rfl
 | cons x l ih=>
  rw[List.length_cons,List.range_succ_eq_map,List.countP_cons,List.countP_map,List.countP_cons];simp only[List.getElem?_cons_zero];rw[←ih]
  congr 1
theorem vY {α β:Type} {f:α→Bool} {g:β→Bool} {l:List α} {m:List β} (φ:Nat→Nat) (h:∀k∈places f l,φ k∈places g m) (hi:∀k k',k∈places f l→k'∈places f l→φ k=φ k'→k=k'):l.countP f≤m.countP g:=by
 rw[←zC,←zC];have hn:((places f l).map φ).Nodup:=by
  unfold List.Nodup;rw[List.pairwise_map];exact List.Pairwise.imp_of_mem (fun {a b} ha hb hne he=>hne (hi a b ha hb he)) (Ds f l)
 have:=yR (r:=places g m) hn fun x hx=>by
  obtain⟨k,hk,rfl⟩:=List.mem_map.1 hx;exact h k hk
 simpa using this
theorem S4 {t:Trace} (hV:VT t) {A:bq 200 aH} (hM:dS t (aM t) A) {c:List Int} (hC:Cons t A c) (p q:Nat):0≤under t c p q:=by
 unfold under;split
 ·rename_i P Q a b hP hQ ha hb;have hb0:=hC.1.2 q b Q hb hQ;have ha0:=hC.1.2 p a P ha hP;have key:(Q.events.l.take b.toNat).countP (kj p)≤(P.events.l.take a.toNat).countP (jP q):=by
   refine vY (fun k=>match Q.events.l[k]? with|some e=>((ag A e.message).from_.index-1).toNat|none=>0) (fun k hk=>?_) (fun k k' hk hk' he=>?_)
   ·obtain⟨e,h1,h2⟩:=oN.1 hk;have hkb:k<b.toNat:=by
     have:=(ζe.1 h1).1;rw[List.length_take]at this;omega
    rw[List.getElem?_take,if_pos hkb]at h1;have h2:e.kind=3∧e.peer=p:=by simpa [kj]using h2
    have hat:hG t q k e:=⟨Q,hQ,h1⟩;obtain⟨q',j,y,hy,y1,y2,y3,y4,y5⟩:=pY hV hM hat h2.1;have hqp:q'=p:=by omega
    subst hqp;rw[h1];simp only[y5];obtain⟨P',hP',hj⟩:=hy;rw[hP]at hP';cases hP';obtain⟨x,hx1,hx2⟩:=hC.2 q k e b hat hb (by omega) h2.1
    rw[y5]at hx1 hx2;simp only[Int.toNat_natCast]at hx1 hx2;rw[ha]at hx1;cases hx1;rw[show ((j:Int)+1-1).toNat=j from by omega]
    refine oN.2 ⟨y,?_,by simp[jP,y1,y3]⟩
    rw[List.getElem?_take,if_pos (by omega)];exact hj
   ·obtain⟨e,h1,h2⟩:=oN.1 hk;obtain⟨e',h1',h2'⟩:=oN.1 hk';have hkb:k<b.toNat:=by
     have:=(ζe.1 h1).1;rw[List.length_take]at this;omega
    have hkb':k'<b.toNat:=by
     have:=(ζe.1 h1').1;rw[List.length_take]at this;omega
    rw[List.getElem?_take,if_pos hkb]at h1;rw[List.getElem?_take,if_pos hkb']at h1';have h2:e.kind=3∧e.peer=p:=by simpa [kj]using h2
    have h2':e'.kind=3∧e'.peer=p:=by simpa [kj]using h2'
    obtain⟨q1,j,y,hy,y1,y2,y3,y4,y5⟩:=pY hV hM (show hG t q k e from⟨Q,hQ,h1⟩) h2.1;obtain⟨q2,j',y',hy',y1',y2',y3',y4',y5'⟩:=pY hV hM (show hG t q k' e' from⟨Q,hQ,h1'⟩) h2'.1;have e1:q1=p:=by omega
    have e2:q2=p:=by omega
    subst e1 e2;simp only[h1,h1',y5,y5']at he;have hjj:j=j':=by omega
    subst hjj;obtain⟨P1,a1,a2⟩:=hy;obtain⟨P2,b1,b2⟩:=hy';rw[a1]at b1;cases b1;rw[a2]at b2;cases b2;have r1:=(hM.rcv (⟨q,k+1⟩,e) (bV.2 ⟨q,k,⟨Q,hQ,h1⟩,rfl⟩) h2.1).1;have r2:=(hM.rcv (⟨q,k'+1⟩,e') (bV.2 ⟨q,k',⟨Q,hQ,h1'⟩,rfl⟩) h2'.1).1;simp only at r1 r2;rw[←y2,y2',r2]at r1;simp only[aa.mk.injEq]at r1;omega
  omega
 ·exact Int.le_refl _
end Go.VE
namespace Go.VE
end Go.VE
namespace Go.VE
def jC (kind m:Int) (x:aa×Event):Bool:=x.2.kind==kind&&x.2.message==m
def eO (t:Trace) (kind m:Int):aa:=match (aM t).find? (jC kind m)with
 | some x=>x.1
 | none=>⟨0,0⟩
theorem Gy {t:Trace} {kind m:Int} {p:Nat} {P:bt} (hp8:p<9223372036854775806) (hP:t.procs.l[p]? = some P) (hl:P.events.l.length<1073741824):∀(q i:Nat),i+q=P.events.l.length →
 aW (fun q:Int=>cz.bg kind m p t ⟨0,0⟩ q) (i:Int)=some (match (fN p i (P.events.l.drop i)).find? (jC kind m)with|some x=>.r x.1|none=>.x ()):=by
 have hix:idx t.procs (p:Int)=some P:=by rw[o6];exact hP
 intro q
 induction q with
 | zero=>
  intro i hi;rw[eZ];unfold cz.bg;rw[hix,ζb,show decide ((i:Int)<len P.events)=false from by simp[len];omega,bG,List.drop_of_length_le (by omega)]
  rfl
 | succ q ih=>
  intro i hi;have hil:i<P.events.l.length:=by omega
  rw[eZ];have hs:cz.bg kind m p t ⟨0,0⟩ i=some (if jC kind m (⟨p,(i:Int)+1⟩,P.events.l[i])then .r ⟨p,(i:Int)+1⟩else .n ((i+1:Nat):Int)):=by
   unfold cz.bg;rw[hix,ζb,show decide ((i:Int)<len P.events)=true from by simp[len];omega,aY,ζb,aO hil,ζb,fS,ζb,bR i (by omega),js]
   rfl
  rw[hs,ζb,List.drop_eq_getElem_cons hil];simp only[fN,List.find?_cons]
  cases hh:jC kind m (⟨p,(i:Int)+1⟩,P.events.l[i])with
  | true=>rfl
  | false=>
   simp only[Bool.false_eq_true,if_false];exact ih (i+1) (by omega)
theorem Hr {t:Trace} (hS:Small t) {kind m:Int}:∀(q p:Nat),p+q=t.procs.l.length →
 aW (fun q:Int=>cz.aD kind m t ⟨0,0⟩ q) (p:Int)=some (match (dO p (t.procs.l.drop p)).find? (jC kind m)with|some x=>.r x.1|none=>.x ()):=by
 have h1:=hS.1;intro q
 induction q with
 | zero=>
  intro p hp;rw[eZ];unfold cz.aD;rw[show decide ((p:Int)<len t.procs)=false from by simp[len];omega,bG,List.drop_of_length_le (by omega)]
  rfl
 | succ q ih=>
  intro p hp;have hpl:p<t.procs.l.length:=by omega
  have hw:aW (fun q:Int=>cz.bg kind m p t ⟨0,0⟩ q) 0=some (match (fN p 0 t.procs.l[p].events.l).find? (jC kind m)with|some x=>.r x.1|none=>.x ()):=Gy (t:=t) (kind:=kind) (m:=m) (by omega) (ζd hpl) (hS.2 _ (List.getElem_mem hpl)).1 (t.procs.l[p].events.l.length) 0 (by omega)
  rw[eZ];unfold cz.aD;rw[show decide ((p:Int)<len t.procs)=true from by simp[len];omega,aY]
  unfold cz.W2;rw[hw,List.drop_eq_getElem_cons hpl];simp only[dO,List.find?_append]
  cases hf:(fN p 0 t.procs.l[p].events.l).find? (jC kind m)with
  | some x=>rfl
  | none=>
   simp only[ζb,Fw.elim,Option.none_or];rw[bR p (by omega)]
   exact ih (p+1) (by omega)
theorem find_eq {t:Trace} (hS:Small t) (kind m:Int):cz t kind m=some (eO t kind m):=by
 unfold cz cz.W1;have hw:aW (fun q:Int=>cz.aD kind m t ⟨0,0⟩ q) 0=some (match (aM t).find? (jC kind m)with|some x=>.r x.1|none=>.x ()):=Hr hS (kind:=kind) (m:=m) t.procs.l.length 0 (by omega)
 rw[hw];unfold eO;cases (aM t).find? (jC kind m) <;> rfl
theorem uN {t:Trace} {kind m:Int} {x:aa×Event} (h:(aM t).find? (jC kind m)=some x):x∈aM t∧x.2.kind=kind∧x.2.message=m∧eO t kind m=x.1:=by
 have h1:=List.find?_some h;simp only[jC,ζh,beq_iff_eq]at h1;exact⟨List.mem_of_find?_eq_some h,h1.1,h1.2,by unfold eO;rw[h]⟩
theorem D2 {t:Trace} {kind m:Int} {x:aa×Event} (hx:x∈aM t) (hk:x.2.kind=kind) (hm:x.2.message=m):∃y,(aM t).find? (jC kind m)=some y:=by
 cases hf:(aM t).find? (jC kind m)with
 | some y=>exact⟨y,rfl⟩
 | none=>
  rw[List.find?_eq_none]at hf;exact absurd (hf x hx) (by simp[jC,hk,hm])
theorem Gj {t:Trace} {kind m:Int} (h:∀x∈aM t,¬(x.2.kind=kind∧x.2.message=m)):eO t kind m=⟨0,0⟩:=by
 unfold eO;have:(aM t).find? (jC kind m)=none:=by
  rw[List.find?_eq_none];intro x hx;simp only[jC,ζh,beq_iff_eq];exact h x hx
 rw[this]
theorem Ml {t:Trace} {p k:Nat} {e:Event} (h:hG t p k e) (hk:k<9223372036854775807):qM t ⟨p,k+1⟩=some e:=by
 obtain⟨P,hP,he⟩:=h;unfold qM;dsimp only;rw[show idx t.procs (p:Int)=some P from by rw[o6];exact hP,ζb,show IntKind.wrap .i64 ((k:Int)+1-1)=(k:Int)from by rw[mm _ (by omega) (by omega)];omega,show idx P.events (k:Int)=some e from by rw[o6];exact he]
 rfl
def rT (t:Trace) (x:aa×Event):Int:=if x.2.kind=1 then 0 else if eO t x.2.kind x.2.message=x.1 then(if x.2.kind=3 then(if o_ t x.2.peer x.2.message x.1.proc then 0 else 7)else 0)else 8
theorem HW {t:Trace} (hS:Small t) {p k:Nat} {e:Event} (h:hG t p k e) (hF:f_ t.procs.l.length p e):fH t ⟨p,k+1⟩=some (rT t (⟨p,k+1⟩,e)):=by
 have hk:k<1073741824:=by
  obtain⟨P,hP,he⟩:=h;have:=(hS.2 P (List.mem_of_getElem? hP)).1;have:=(ζe.1 he).1;omega
 unfold fH rT;rw[Ml h (by omega),ζb]
 dsimp only
 by_cases h1:e.kind=1
 ·rw[show (e.kind==1)=true from by simp[h1],aY,if_pos h1]
 ·rw[show (e.kind==1)=false from by simp[h1],bG,if_neg h1,find_eq hS,ζb]
  have hev:FJ (eO t e.kind e.message) ⟨p,(k:Int)+1⟩=decide (eO t e.kind e.message=⟨p,(k:Int)+1⟩):=by
   unfold FJ;rw[Bool.eq_iff_iff];cases eO t e.kind e.message;simp
  rw[hev]
  by_cases h2:eO t e.kind e.message=⟨p,(k:Int)+1⟩
  ·rw[if_pos h2,show decide (eO t e.kind e.message=⟨p,(k:Int)+1⟩)=true from by simpa using h2,aY]
   by_cases h3:e.kind=3
   ·rw[if_pos h3,show (e.kind==3)=true from by simp[h3],aY]
    have hpe:0≤e.peer∧e.peer<t.procs.l.length:=by
     rcases hF with h|⟨_,h1,h2,_⟩
     ·exact absurd h h1
     ·exact⟨h1,h2⟩
    have hq:e.peer.toNat<t.procs.l.length:=by omega
    have hQ:=ζd hq;have hql:=(hS.2 _ (List.getElem_mem hq)).1;generalize hQe:t.procs.l[e.peer.toNat]=Q at *;have hix:idx t.procs e.peer=some Q:=by rw[QJ hpe.1];exact hQ
    have hsb:o_ t e.peer e.message p=Q.events.l.any fun s=>s.kind==2&&s.message==e.message&&s.peer==p:=by
     unfold o_;rw[hQ]
    unfold fH.W1;refine Wp.eq (c8 (fun z:Bool×Int=>∃m:Nat,z.2=m∧m≤Q.events.l.length∧z.1=(Q.events.l.take m).any fun s=>s.kind==2&&s.message==e.message&&s.peer==p) (fun z=>Q.events.l.length-z.2.toNat) ⟨0,rfl,Nat.zero_le _,rfl⟩ ?_)
    rintro⟨s,i⟩ ⟨m,hi,hm,hs⟩;simp only at hi hs;subst hi;unfold fH.aD;dsimp only;rw[hix,ζb,aU];constructor
    ·intro hl;have hml:m<Q.events.l.length:=by simpa [len]using hl
     have hw:=bR m (by omega)
     rw[ζb,aO hml,ζb,fS,ζb,fS,ζb,fu,ζb,ai];refine⟨⟨m+1,hw,by omega,?_⟩,by show _-(IntKind.wrap .i64 ((m:Int)+1)).toNat<_;rw[hw];simp;omega⟩
     show (s||_)=_;rw[List.take_add_one,ζd hml,List.any_append,hs];simp
    ·intro hl;have hml:Q.events.l.length≤m:=by simpa [len]using hl
     rw[List.take_of_length_le hml]at hs;refine(ai _).2 ?_;rw[hsb,←hs];cases s
     ·exact(ai _).2 rfl
     ·exact(ai _).2 rfl
   ·rw[if_neg h3,show (e.kind==3)=false from by simp[h3],bG]
  ·rw[if_neg h2,show decide (eO t e.kind e.message=⟨p,(k:Int)+1⟩)=false from by simpa using h2,bG]
theorem GC {t:Trace} (hF:∀x∈aM t,f_ t.procs.l.length x.1.proc x.2):(∀x∈aM t,rT t x=0)↔uq t:=by
 constructor
 ·intro h;have key:∀x∈aM t,x.2.kind≠1→eO t x.2.kind x.2.message=x.1:=fun x hx hk=>by
   have:=h x hx;unfold rT at this;rw[if_neg hk]at this;split at this
   ·assumption
   ·cases this
  refine⟨fun x hx y hy kx ky hm=>?_,fun x hx y hy kx ky hm=>?_,fun x hx kx=>?_⟩
  ·rw[←key x hx (by omega),←key y hy (by omega),kx,ky,hm]
  ·rw[←key x hx (by omega),←key y hy (by omega),kx,ky,hm]
  ·have:=h x hx;unfold rT at this;rw[if_neg (by omega),if_pos (key x hx (by omega)),if_pos kx]at this
   split at this
   ·assumption
   ·cases this
 ·intro h x hx;unfold rT
  by_cases k1:x.2.kind=1
  ·rw[if_pos k1]
  ·rw[if_neg k1];obtain⟨y,hy⟩:=D2 hx rfl rfl;obtain⟨y1,y2,y3,y4⟩:=uN hy;have hk:x.2.kind=2∨x.2.kind=3:=by
    rcases hF x hx with h|⟨h,_⟩
    ·exact absurd h k1
    ·exact h
   have he:eO t x.2.kind x.2.message=x.1:=by
    rw[y4];rcases hk with hk|hk
    ·exact h.snd y y1 x hx (by rw[y2,hk]) hk y3
    ·exact h.rcv y y1 x hx (by rw[y2,hk]) hk y3
   rw[if_pos he]
   by_cases k3:x.2.kind=3
   ·rw[if_pos k3,if_pos (h.has x hx k3)]
   ·rw[if_neg k3]
end Go.VE
namespace Go.VE
theorem uC {t:Trace} (hF:∀x∈aM t,f_ t.procs.l.length x.1.proc x.2) (hP:uq t) {z:aa} {f:Event} (hz:(z,f)∈aM t) (hk:f.kind=3):∃e,(eO t 2 f.message,e)∈aM t∧e.kind=2∧e.message=f.message:=by
 have h:=hP.has _ hz hk;have hp:0≤f.peer:=by
  rcases hF _ hz with h|⟨_,h,_⟩
  ·simp only at h;omega
  ·exact h
 rw[show f.peer=((f.peer.toNat:Nat):Int)from by omega,rE]at h
 obtain⟨k,e,ha,h1,h2,_⟩:=h;obtain⟨y,hy⟩:=D2 (bV.2 ⟨_,k,ha,rfl⟩:((⟨(f.peer.toNat:Nat),k+1⟩:aa),e)∈aM t) h1 h2;obtain⟨y1,y2,y3,y4⟩:=uN hy;exact⟨y.2,by rw[y4];exact y1,y2,y3⟩
theorem Cw.find {t:Trace} (hF:∀x∈aM t,f_ t.procs.l.length x.1.proc x.2) (hP:uq t) {y z:aa} {f:Event} (h:Cw t y z) (hz:(z,f)∈aM t):f.kind=3∧eO t 2 f.message=y:=by
 obtain⟨e,f',h1,h2,h3,h4,h5⟩:=h;cases vf h2 hz rfl;obtain⟨e',a1,a2,a3⟩:=uC hF hP hz h4;exact⟨h4,hP.snd _ a1 _ h1 a2 h3 (by rw[a3,h5])⟩
theorem yu {t:Trace} (hS:Small t) (hF:∀x∈aM t,f_ t.procs.l.length x.1.proc x.2) (hP:uq t) {z:aa} (hz:Vd t z) :
 Wp (cw t z) fun s=>s.l.length≤2∧∀y,y∈s.l↔Edge t y z:=by
 obtain⟨p,k,f,hat,rfl,hmem⟩:=hz.at_;have hk:k<1073741824:=by
  obtain⟨P,hP,he⟩:=hat;have:=(hS.2 P (List.mem_of_getElem? hP)).1;have:=(ζe.1 he).1;omega
 have j:∀s:Sl aa,s.l.length≤1→(∀y,y∈s.l↔Vd t y∧(⟨p,k+1⟩:aa)=⟨y.proc,y.index+1⟩)→Wp (cw.J1 s t ⟨p,k+1⟩) fun s=>s.l.length≤2∧∀y,y∈s.l↔Edge t y ⟨p,k+1⟩:=by
  intro s hs hsy;unfold cw.J1;rw[Ml hat (by omega),ζb,aU]
  constructor
  ·intro h3;have h3:f.kind=3:=by simpa using h3
   rw[find_eq hS,ζb];unfold kB;rw[if_pos (by omega),ζb,ai]
   refine⟨by show (s.l++[_]).length≤2;rw[ζi,List.length_singleton];omega,fun y=>?_⟩
   show y∈s.l++[eO t 2 f.message]↔_;rw[List.mem_append,List.mem_singleton,hsy];obtain⟨e,a1,a2,a3⟩:=uC hF hP hmem h3;constructor
   ·rintro (h|rfl)
    ·exact⟨h.1,hz,.inl h.2⟩
    ·exact⟨⟨e,a1⟩,hz,.inr ⟨e,f,a1,hmem,a2,h3,a3⟩⟩
   ·rintro⟨h1,_,h2|h2⟩
    ·exact .inl ⟨h1,h2⟩
    ·exact .inr (h2.find hF hP hmem).2.symm
  ·intro h3;refine(ai _).2 ⟨by omega,fun y=>(hsy y).trans ⟨fun h=>⟨h.1,hz,.inl h.2⟩,fun⟨h1,_,h2⟩=>⟨h1,h2.elim id fun h2=>?_⟩⟩⟩
   have:=(h2.find hF hP hmem).1;simp[this]at h3
 unfold cw;rw[aU];constructor
 ·intro h;have h:(k:Int)+1>1:=by simpa using h
  refine j _ (by simp[Sl.l]) fun y=>?_
  have hw:IntKind.wrap .i64 ((k:Int)+1-1)=k:=by rw[mm _ (by omega) (by omega)];omega
  simp only[Sl.l,List.mem_singleton,hw,aa.mk.injEq];constructor
  ·rintro rfl;obtain⟨P,hP,he⟩:=hat;have:=(ζe.1 he).1;exact⟨⟨P.events.l[k-1],bV.2 ⟨p,k-1,⟨P,hP,ζd (by omega)⟩,by simp;omega⟩⟩,rfl,rfl⟩
  ·rintro⟨_,h1,h2⟩;cases y;simp only at h1 h2;congr 1 <;> omega
 ·intro h;have h:¬(k:Int)+1>1:=by simpa using h
  refine j _ (by simp[Sl.l]) fun y=>⟨fun hy=>by simp[Sl.l]at hy,fun⟨hy,he⟩=>?_⟩
  obtain⟨q,i,f,_,rfl,_⟩:=hy.at_;simp only[aa.mk.injEq]at he;omega
theorem Q8 {α:Type} {r:α→α→Prop} {x:α} (h:Acc r x):¬Relation.TransGen r x x:=by
 induction h with
 | intro x _ ih=>
  intro h
  cases h with
  | single h=>exact ih x h (.single h)
  | tail h1 h2=>exact ih _ h2 (Relation.TransGen.trans (.single h2) h1)
theorem EV:∀{d:List Nat} {i k:Nat},d[i]? = some k→(d.set i (k+1)).sum=d.sum+1
 | [],_,_,h=>by simp at h
 | x::d,0,k,h=>by simp at h;subst h;simp;omega
 | x::d,i+1,k,h=>by
  have:=EV (d:=d) (i:=i) (k:=k) (by simpa using h)
  simp[this];omega
theorem IL:∀{d l:List Nat},d.length=l.length→(∀(i a b:Nat),d[i]? = some a→l[i]? = some b→a≤b)→d.sum≤l.sum
 | [],_,_,_=>by simp
 | x::d,[],h,_=>by simp at h
 | x::d,y::l,h,hh=>by
  have h1:=hh 0 x y rfl rfl;have h2:=IL (d:=d) (l:=l) (by simpa using h) fun i a b ha hb=>hh (i+1) a b (by simpa using ha) (by simpa using hb)
  simp;omega
def nI (d:List Nat):List Int:=d.map Int.ofNat
def sI (s:Sl Int):Nat:=(s.l.map Int.toNat).sum
theorem Co (d:List Nat):sI (.row (nI d))=d.sum:=by
 unfold sI nI;rw[show (Sl.row (d.map Int.ofNat)).l=d.map Int.ofNat from rfl,List.map_map,show (Int.toNat ∘ Int.ofNat)=id from rfl,List.map_id]
theorem Iz (d:List Nat):(nI d).length=d.length:=by simp[nI]
structure Kh (t:Trace) (d:List Nat):Prop where
 len:d.length=t.procs.l.length
 le:∀(p k:Nat) P,d[p]? = some k→t.procs.l[p]? = some P→k≤P.events.l.length
 acc:∀(p k j:Nat),d[p]? = some k→j<k→Acc (Edge t) ⟨p,j+1⟩
def qd (t:Trace):Nat:=(t.procs.l.map fun P=>P.events.l.length).sum
theorem Kh.sum {t:Trace} {d:List Nat} (h:Kh t d):d.sum≤qd t:=IL (by simp[h.len]) fun i a b ha hb=>by
 rw[List.getElem?_map]at hb
 cases hP:t.procs.l[i]? with
 | none=>simp[hP]at hb
 | some P=>simp[hP]at hb;rw[←hb];exact h.le i a P ha hP
theorem zF {d:List Nat} {p:Nat} (h:p<d.length):Sl.oR (.row (nI d)) (p:Int)=some p:=by
 unfold Sl.oR;rw[if_pos ⟨by omega,by simpa [Sl.l,Iz]using h⟩];rfl
theorem wj {d:List Nat} {p k:Nat} (h:d[p]? = some k):Sl.get (.row (nI d)) p=some (k:Int):=by
 unfold Sl.get nI;rw[show (Sl.row (d.map Int.ofNat)).l=d.map Int.ofNat from rfl,List.getElem?_map,h];rfl
def Mv (t:Trace) (d0:List Nat) (s:Sl Int) (b:Bool) (d:List Nat):Prop:=s=.row (nI d)∧Kh t d∧d0.sum≤d.sum∧(b=true→d0.sum<d.sum)
def KQ (t:Trace) (d0:List Nat) (p:Nat) (w:Fw (Sl Int×Bool×Int) (Sl Int×Bool) Empty):Prop:=∃s' b' d',w=.n (s',b',((p+1:Nat):Int))∧Mv t d0 s' b' d'
theorem NF {t:Trace} (hS:Small t) (hF:∀x∈aM t,f_ t.procs.l.length x.1.proc x.2) (hP:uq t) {d0 d1:List Nat} {s:Sl Int} {b:Bool} {p:Nat} (hp:p<t.procs.l.length) (hM:Mv t d0 s b d1) :
 Wp (bP.W3 s b p t) (KQ t d0 p):=by
 have hix:=aO hp;have hn:=hS.1;have hPl:=(hS.2 _ (List.getElem_mem hp)).1;have hPg:=ζd hp;generalize t.procs.l[p]=P at *;unfold bP.W3;refine c8 (fun q:Sl Int×Bool=>∃d,Mv t d0 q.1 q.2 d) (fun q=>qd t-sI q.1) ⟨d1,hM⟩ ?_
 rintro⟨s,b⟩ ⟨d,rfl,hK,hd,hb⟩;simp only at hb;have hpd:p<d.length:=by rw[hK.len];exact hp
 have hg:=ζd hpd;generalize d[p]=k at hg;have hkl:=hK.le p k P hg hPg;have stop:∀{pr:Empty→Prop},Wp (some (Fw.x (Sl.row (nI d),b))) (MA (fun q:Sl Int×Bool=>∃d,Mv t d0 q.1 q.2 d) (fun q=>qd t-sI q.1) (fun e=>Wp (some (Fw.n (e.1,e.2,IntKind.wrap .i64 ((p:Int)+1)))) (KQ t d0 p)) pr (Sl.row (nI d),b)):=by
  refine(ai _).2 ((ai _).2 ⟨_,_,d,?_,rfl,hK,hd,hb⟩);rw[bR p (by omega)]
 unfold bP.dw;rw[zF hpd,ζb,wj hg,ζb,hix,ζb,aU];refine⟨fun h=>?_,fun _=>stop⟩
 have hlt:k<P.events.l.length:=by simpa [Go.VE.len]using h
 have hat:hG t p k P.events.l[k]:=⟨P,hPg,ζd hlt⟩;have hmem:((⟨p,k+1⟩:aa),P.events.l[k])∈aM t:=bV.2 ⟨p,k,hat,rfl⟩;have go:(P.events.l[k].kind=3→∀q j:Nat,eO t 2 P.events.l[k].message=⟨q,j+1⟩→∃k',d[q]? = some k'∧j<k')→∀{px:Sl Int×Bool→Prop} {pr:Empty→Prop},Wp (bP.J4 (.row (nI d)) p t) (MA (fun q:Sl Int×Bool=>∃d,Mv t d0 q.1 q.2 d) (fun q=>qd t-sI q.1) px pr (Sl.row (nI d),b)):=by
  intro hq px pr;unfold bP.J4;rw[zF hpd,ζb,wj hg,ζb,ζb];unfold Sl.put;rw[if_pos (by simpa [Sl.l,Iz]using hpd),ζb,ai]
  have hset:(nI d).set p (IntKind.wrap .i64 ((k:Int)+1))=nI (d.set p (k+1)):=by
   rw[bR k (by omega)];unfold nI;rw[List.map_set];rfl
  have hsum:=EV hg;have hK2:Kh t (d.set p (k+1)):=by
   refine⟨by simp[hK.len],fun q i Q hi hQ=>?_,fun q i j hi hj=>?_⟩
   ·rw[List.getElem?_set]at hi;split at hi
    ·rename_i e;subst e;cases hi;rw[hPg]at hQ;cases hQ;omega
    ·exact hK.le q i Q hi hQ
   ·rw[List.getElem?_set]at hi;split at hi
    ·rename_i e;subst e;cases hi
     by_cases hjk:j<k
     ·exact hK.acc p k j hg hjk
     ·have:j=k:=by omega
      subst this;refine Acc.intro _ fun y hy=>?_
      obtain⟨hyv,_,he|he⟩:=hy
      ·obtain⟨q,i,f,_,rfl,_⟩:=hyv.at_;simp only[aa.mk.injEq]at he;have e1:q=p:=by omega
       subst e1;exact hK.acc q j i hg (by omega)
      ·obtain⟨h3,hf⟩:=he.find hF hP hmem;obtain⟨q,i,f,_,rfl,_⟩:=hyv.at_;obtain⟨k',hk',hik⟩:=hq h3 q i hf;exact hK.acc q k' i hk' hik
    ·exact hK.acc q i j hi hj
  have hs2:=hK2.sum;refine⟨⟨_,by rw[←hset],hK2,by rw[hsum];omega,fun _=>by rw[hsum];omega⟩,?_⟩
  show qd t-sI (.row ((nI d).set p (IntKind.wrap .i64 ((k:Int)+1))))<qd t-sI (.row (nI d));rw[hset,Co,Co,hsum];rw[hsum]at hs2;omega
 dsimp only;rw[ζb,ζb,wj hg,ζb,aO hlt,ζb,aU];refine⟨fun h3=>?_,fun h3=>go fun h=>by simp[h]at h3⟩
 have h3:P.events.l[k].kind=3:=by simpa using h3
 obtain⟨e,a1,a2,a3⟩:=uC hF hP hmem h3;obtain⟨q,j,hat2,hqj⟩:=bV.1 a1;simp only at hqj;have hqd:q<d.length:=by
  obtain⟨Q,hQ,_⟩:=hat2;rw[hK.len];exact(ζe.1 hQ).1
 have hgq:=ζd hqd;rw[find_eq hS,ζb,hqj,zF hqd,ζb,wj hgq,ζb,aU];refine⟨fun _=>stop,fun h=>go fun _ q' j' hh=>?_⟩
 rw[hqj]at hh;simp only[aa.mk.injEq]at hh;have e1:q'=q:=by omega
 have e2:j'=j:=by omega
 subst e1 e2;exact⟨_,hgq,by simp at h;omega⟩
theorem Hf {t:Trace} (hS:Small t) (hF:∀x∈aM t,f_ t.procs.l.length x.1.proc x.2) (hP:uq t):Wp (bP t) fun b=>b=true→¬EH t:=by
 have hn:=hS.1;unfold bP sV;rw[if_pos (by simp[len];omega),ζb]
 have h0:(Sl.row (List.replicate (len t.procs).toNat (0:Int)))=.row (nI (List.replicate t.procs.l.length 0)):=by simp[len,nI]
 rw[h0];unfold bP.W1;have hrep:∀(p k:Nat),(List.replicate t.procs.l.length 0)[p]? = some k→k=0:=fun p k h=>by
  rw[List.getElem?_replicate]at h;split at h <;> simp at h;exact h.symm
 refine c8 (fun s:Sl Int=>∃d,s=.row (nI d)∧Kh t d) (fun s=>qd t-sI s) ⟨_,rfl,by simp,fun p k P h _=>by rw[hrep p k h];omega,fun p k j h hj=>by rw[hrep p k h]at hj;omega⟩ ?_
 rintro s ⟨d0,rfl,hK⟩;unfold bP.aD bP.W2;refine c8 (fun q:Sl Int×Bool×Int=>∃(n:Nat) (d:List Nat),q.2.2=n∧n≤t.procs.l.length∧Mv t d0 q.1 q.2.1 d) (fun q=>t.procs.l.length-q.2.2.toNat) ⟨0,d0,rfl,Nat.zero_le _,rfl,hK,Nat.le_refl _,by simp⟩ ?_
 rintro⟨s,b,i⟩ ⟨n,d,hi,hnn,hM⟩;simp only at hi hM;subst hi;unfold bP.bg;rw[aU];constructor
 ·intro h;have hlt:n<t.procs.l.length:=by simpa [len]using h
  refine(NF hS hF hP hlt hM).mono ?_;rintro w ⟨s',b',d',rfl,hM'⟩;exact⟨⟨n+1,d',rfl,by omega,hM'⟩,by simp;omega⟩
 ·intro _;obtain⟨rfl,hK',hle,hmv⟩:=hM;rw[ai];show Wp (au b _ _) _;rw[aU];refine⟨fun hb=>(ai _).2 ⟨⟨d,rfl,hK'⟩,?_⟩,fun _=>(ai _).2 ?_⟩
  ·show qd t-sI (.row (nI d))<qd t-sI (.row (nI d0));rw[Co,Co];have:=hmv hb;have:=hK'.sum;omega
  ·show Wp (bP.W5 (.row (nI d)) 0 t) _;unfold bP.W5;refine c8 (fun i:Int=>∃n:Nat,i=n∧n≤t.procs.l.length∧∀p,p<n→∀P,t.procs.l[p]? = some P→d[p]? = some P.events.l.length) (fun i:Int=>t.procs.l.length-i.toNat) ⟨0,rfl,Nat.zero_le _,fun p hp=>absurd hp (by omega)⟩ ?_
   rintro i ⟨n,rfl,hn',hh⟩;unfold bP.uD;rw[aU];constructor
   ·intro h;have hlt:n<t.procs.l.length:=by simpa [len]using h
    have hnd:n<d.length:=by rw[hK'.len];exact hlt
    have hg:=ζd hnd;rw[zF hnd,ζb,wj hg,ζb,aO hlt,ζb,aU];refine⟨fun _=>(ai _).2 ((ai _).2 fun h=>by cases h),fun h=>(ai _).2 ⟨⟨n+1,bR n (by omega),by omega,fun p hp P hP=>?_⟩,by rw[bR n (by omega)];simp;omega⟩⟩
    by_cases e:p=n
    ·subst e;rw[ζd hlt]at hP;cases hP;have:=hK'.le p _ _ hg (ζd hlt);simp[len]at h;rw[hg];congr 1;omega
    ·exact hh p (by omega) P hP
   ·intro h;have hge:t.procs.l.length≤n:=by simpa [len]using h
    refine(ai _).2 ((ai _).2 fun _ ⟨x,hx⟩=>?_)
    obtain⟨p,k,e,⟨P,hP,he⟩,rfl,_⟩:=hx.l.at_;have hpl:=(ζe.1 hP).1;exact Q8 (hK'.acc p _ k (hh p (by omega) P hP) (ζe.1 he).1) hx
end Go.VE
namespace Go.VE
def mM (out:List (List Bool)) (y:aa):Bool:=match out[y.proc.toNat]? with
 | some row=>row[y.index.toNat]?.getD false
 | none=>false
theorem wI {t:Trace} {out:List (List Bool)} {p k:Nat} {row:List Bool} (hr:out[p]? = some row) (hk:k+1<row.length) {z:aa} (hz:Vd t z) :
 mM (out.set p (row.set (k+1) true)) z=(decide (z=⟨p,k+1⟩)||mM out z):=by
 obtain⟨q,j,e,_,rfl,_⟩:=hz.at_;have hp:=(ζe.1 hr).1;unfold mM;have e1:(⟨(q:Int),(j:Int)+1⟩:aa).proc.toNat=q:=rfl;have e2:(⟨(q:Int),(j:Int)+1⟩:aa).index.toNat=j+1:=by show ((j:Int)+1).toNat=j+1;omega
 rw[e1,e2,List.getElem?_set]
 by_cases hpq:p=q
 ·subst hpq;rw[if_pos rfl,if_pos hp,hr];dsimp only;rw[List.getElem?_set]
  by_cases hkj:k=j
  ·subst hkj;simp[hk]
  ·rw[if_neg (by omega),show decide ((⟨(p:Int),(j:Int)+1⟩:aa)=⟨p,k+1⟩)=false from by simp;omega,Bool.false_or]
 ·rw[if_neg hpq,show decide ((⟨(q:Int),(j:Int)+1⟩:aa)=⟨p,k+1⟩)=false from by simp;omega,Bool.false_or]
theorem wH {α:Type} {f g:α→Bool}:∀{l:List α},(∀z∈l,f z=true→g z=true)→(∃z∈l,f z=false∧g z=true)→l.countP f<l.countP g
 | [],_,⟨z,hz,_⟩=>by simp at hz
 | a::l,h,⟨z,hz,hf,hg⟩=>by
  simp only[List.countP_cons];have hle:=List.countP_mono_left (l:=l) (p:=f) (q:=g) fun x hx=>h x (List.mem_cons_of_mem _ hx)
  rcases List.mem_cons.1 hz with rfl|hz
  ·simp[hf,hg];omega
  ·have:=wH (l:=l) (fun x hx=>h x (List.mem_cons_of_mem _ hx)) ⟨z,hz,hf,hg⟩
   have h1:=h a (List.mem_cons_self ..)
   cases hfa:f a with
   | true=>simp[h1 hfa];omega
   | false=>simp;split <;> omega
def cnt (t:Trace) (out:List (List Bool)):Nat:=(aM t).countP fun z=>mM out z.1
structure XZ (t:Trace) (x:aa) (out:List (List Bool)) (rest:List aa):Prop where
 shp:∀(p:Nat) P,t.procs.l[p]? = some P→∃row,out[p]? = some row∧row.length=P.events.l.length+1
 len:out.length=t.procs.l.length
 que:∀y∈rest,Way t y x
 snd:∀y,Vd t y→mM out y=true→Way t y x
 cls:∀z,z=x∨Vd t z∧mM out z=true→∀y,Edge t y z→mM out y=true∨y∈rest
 le:rest.length≤2*cnt t out+2
theorem xV {t:Trace} {y:aa}:mM (eB t) y=false:=by
 unfold mM eB;split
 ·rename_i row h;rw[List.getElem?_map]at h
  cases hP:t.procs.l[y.proc.toNat]? with
  | none=>simp[hP]at h
  | some P=>
   simp[hP]at h;subst h;rw[List.getElem?_replicate];split <;> rfl
 ·rfl
theorem Nx {t:Trace} (hS:Small t) (hN:(aM t).length<1073741824) (hF:∀x∈aM t,f_ t.procs.l.length x.1.proc x.2) (hP:uq t) {x:aa} (hx:Vd t x) :
 Wp (jV t x) fun s=>∃out,s=nested out∧XZ t x out []∧∀y,Vd t y→(mM out y=true↔Way t y x):=by
 unfold jV;rw[if_pos (by
  unfold wZ;simp only[ζh,List.all_eq_true,decide_eq_true_eq];exact⟨by have:=hS.1;omega,fun P hP=>by have:=(hS.2 P hP).1;omega⟩),dx]
 refine(yu hS hF hP hx).mono fun s hs=>?_
 refine c8 (fun q:List (List Bool)×List aa=>XZ t x q.1 q.2) (fun q=>2*((aM t).length-cnt t q.1)+q.2.length) ⟨fun p P hP=>⟨List.replicate (P.events.l.length+1) false,by simp[eB,hP],by simp⟩,by simp[eB],fun y hy=>.single ((hs.2 y).1 hy),fun y _ h=>(by rw[xV]at h;cases h),fun z hz y hy=>?_,by have:=hs.1;show s.l.length≤2*cnt t (eB t)+2;omega⟩ ?_
 ·rcases hz with rfl|⟨_,h⟩
  ·exact .inr ((hs.2 y).2 hy)
  ·rw[xV]at h;cases h
 rintro⟨out,rest⟩ hI
 cases rest with
 | nil=>
  show Wp (some _) _;refine(ai _).2 ((ai _).2 ⟨out,rfl,hI,fun y hy=>⟨hI.snd y hy,fun hw=>?_⟩⟩)
  have key:∀w,Way t y w→w=x∨Vd t w∧mM out w=true→mM out y=true:=fun w hw=>by
   induction hw with
   | single h=>exact fun hw=>(hI.cls _ hw _ h).elim id fun h=>by cases h
   | tail hyb hbw ih=>exact fun hw=>ih (.inr ⟨hbw.1,(hI.cls _ hw _ hbw).elim id fun h=>by cases h⟩)
  exact key x hw (.inl rfl)
 | cons y rest=>
  have hyw:=hI.que y (List.mem_cons_self ..);have hyv:=hyw.l;obtain⟨p,k,e,hat,rfl,hmem⟩:=hyv.at_;obtain⟨P,hPp,hk⟩:=hat;have hkl:=(ζe.1 hk).1;obtain⟨row,hr,hrl⟩:=hI.shp p P hPp;have hkr:k+1<row.length:=by omega
  show Wp (kI _ (out,⟨p,k+1⟩::rest)) _;unfold kI;have e2:((k:Int)+1).toNat=k+1:=by omega
  dsimp only;rw[if_pos ⟨by omega,by omega⟩,show ((p:Nat):Int).toNat=p from rfl,e2,hr,ζb,ζd hkr,ζb,aU]
  have hmk:mM out ⟨p,k+1⟩=row[k+1]:=by
   unfold mM;rw[show ((⟨(p:Int),(k:Int)+1⟩:aa).proc).toNat=p from rfl,hr];dsimp only;rw[e2,ζd hkr];rfl
  constructor
  ·intro hb;rw[ai];refine⟨⟨hI.shp,hI.len,fun y hy=>hI.que y (List.mem_cons_of_mem _ hy),hI.snd,fun z hz y hy=>?_,by have:=hI.le;simp only[List.length_cons]at this;show rest.length≤2*cnt t out+2;omega⟩,Nat.add_lt_add_left (Nat.lt_succ_self _) _⟩
   rcases hI.cls z hz y hy with h|h
   ·exact .inl h
   ·rcases List.mem_cons.1 h with rfl|h
    ·exact .inl (by rw[hmk];exact hb)
    ·exact .inr h
  ·intro hb;rw[dx];refine(yu hS hF hP hyv).mono fun more hm=>?_
   have hle:=hI.le;simp only[List.length_cons]at hle;have hcl:cnt t out≤(aM t).length:=List.countP_le_length;have hm1:=hm.1;have hlt:cnt t out<cnt t (out.set p (row.set (k+1) true)):=wH (fun z hz h=>by rw[wI hr hkr ⟨_,hz⟩,h,Bool.or_true]) ⟨_,hmem,by rw[hmk,hb],by rw[wI hr hkr hyv];simp⟩
   have hcl2:cnt t (out.set p (row.set (k+1) true))≤(aM t).length:=List.countP_le_length;rw[if_pos (by omega),ai]
   refine⟨⟨fun q Q hQ=>?_,by show (out.set _ _).length=_;rw[List.length_set];exact hI.len,fun z hz=>?_,fun z hz h=>?_,fun z hz y hy=>?_,by show (rest++more.l).length≤_;rw[ζi];show _≤2*cnt t (out.set p (row.set (k+1) true))+2;omega⟩,?_⟩
   ·show ∃r,(out.set p (row.set (k+1) true))[q]? = some r∧_;rw[List.getElem?_set];split
    ·rename_i e;subst e;rw[if_pos (ζe.1 hr).1];rw[hPp]at hQ;cases hQ;exact⟨_,rfl,by simp[hrl]⟩
    ·exact hI.shp q Q hQ
   ·rcases List.mem_append.1 hz with hz|hz
    ·exact hI.que z (List.mem_cons_of_mem _ hz)
    ·exact .trans (.single ((hm.2 z).1 hz)) hyw
   ·show Way t z x;have h:mM (out.set p (row.set (k+1) true)) z=true:=h;rw[wI hr hkr hz]at h;simp only[Bool.or_eq_true,decide_eq_true_eq]at h;rcases h with rfl|h
    ·exact hyw
    ·exact hI.snd z hz h
   ·show mM (out.set p (row.set (k+1) true)) y=true∨y∈rest++more.l;rw[wI hr hkr hy.1];have old:z=x∨Vd t z∧mM out z=true→(decide (y=⟨p,k+1⟩)||mM out y)=true∨y∈rest++more.l:=fun hz=>by
     rcases hI.cls z hz y hy with h|h
     ·exact .inl (by rw[show mM out y=true from h,Bool.or_true])
     ·rcases List.mem_cons.1 h with rfl|h
      ·exact .inl (by simp)
      ·exact .inr (List.mem_append_left _ h)
    rcases hz with hz|⟨hzv,hz⟩
    ·exact old (.inl hz)
    ·have hz:mM (out.set p (row.set (k+1) true)) z=true:=hz;rw[wI hr hkr hzv]at hz;simp only[Bool.or_eq_true,decide_eq_true_eq]at hz;rcases hz with rfl|hz
     ·exact .inr (List.mem_append_right _ ((hm.2 y).2 hy))
     ·exact old (.inr ⟨hzv,hz⟩)
   ·show 2*((aM t).length-cnt t (out.set p (row.set (k+1) true)))+(rest++more.l).length<2*((aM t).length-cnt t out)+(_::rest).length;rw[ζi,List.length_cons];omega
theorem Wx {t:Trace} (hS:Small t) (hN:(aM t).length<1073741824) (hF:∀x∈aM t,f_ t.procs.l.length x.1.proc x.2) (hP:uq t):Wp (bM.W6 0 t ⟨0,0⟩) fun r=>(r.2=0↔¬EH t):=by
 have hn:=hS.1;unfold bM.W6;refine c8 (fun i:Int=>∃n:Nat,i=n∧n≤t.procs.l.length∧∀(p k:Nat) e,p<n→hG t p k e→¬Way t ⟨p,k+1⟩ ⟨p,k+1⟩) (fun i:Int=>t.procs.l.length-i.toNat) ⟨0,rfl,Nat.zero_le _,fun p k e hp=>absurd hp (by omega)⟩ ?_
 rintro i ⟨n,rfl,hnn,hh⟩;unfold bM.Fq;rw[aU];constructor
 ·intro h;have hlt:n<t.procs.l.length:=by simpa [len]using h
  have hix:=aO hlt;have hPg:=ζd hlt;have hPl:=(hS.2 _ (List.getElem_mem hlt)).1;generalize t.procs.l[n]=P at *;unfold bM.W7;refine c8 (fun i:Int=>∃m:Nat,i=m∧m≤P.events.l.length∧∀k,k<m→¬Way t ⟨n,k+1⟩ ⟨n,k+1⟩) (fun i:Int=>P.events.l.length-i.toNat) ⟨0,rfl,Nat.zero_le _,fun k hk=>absurd hk (by omega)⟩ ?_
  rintro i ⟨m,rfl,hm,hk⟩;unfold bM.E_;rw[hix,ζb,aU];constructor
  ·intro h;have hml:m<P.events.l.length:=by simpa [len]using h
   have hw:=bR m (by omega)
   have hv:Vd t ⟨n,m+1⟩:=⟨P.events.l[m],bV.2 ⟨n,m,⟨P,hPg,ζd hml⟩,rfl⟩⟩;rw[hw,show (((m+1:Nat)):Int)=(m:Int)+1 from by simp,dx]
   refine(Nx hS hN hF hP hv).mono ?_;rintro s ⟨out,rfl,hI,hmk⟩;obtain⟨row,hr,hrl⟩:=hI.shp n P hPg;have hon:out≠[]:=by rintro rfl;cases hr
   have hkr:m+1<row.length:=by omega
   have h1:idx (nested out) (n:Int)=some (.row row):=by
    unfold nested;rw[if_neg hon,o6];show (out.map Sl.row)[n]? = _;rw[List.getElem?_map,hr];rfl
   have h2:idx (Sl.row row) ((m:Int)+1)=some row[m+1]:=by
    rw[show (m:Int)+1=((m+1:Nat):Int)from by simp]
    exact aO (s:=Sl.row row) hkr
   rw[h1,ζb,h2,ζb,aU];have hb:row[m+1]=mM out ⟨n,m+1⟩:=by
    unfold mM;rw[show ((⟨(n:Int),(m:Int)+1⟩:aa).proc).toNat=n from rfl,hr];dsimp only;rw[show ((m:Int)+1).toNat=m+1 from by omega,ζd hkr];rfl
   rw[hb];refine⟨fun hy=>(ai _).2 ((ai _).2 ((ai _).2 ⟨fun h=>(by cases h),fun h=>absurd ⟨_,(hmk _ hv).1 hy⟩ h⟩)),fun hy=>(ai _).2 ⟨⟨m+1,by simp,by omega,fun k hkm=>?_⟩,by simp;omega⟩⟩
   by_cases e:k=m
   ·subst e;exact fun hw=>by rw[(hmk _ hv).2 hw]at hy;cases hy
   ·exact hk k (by omega)
  ·intro h;have hge:P.events.l.length≤m:=by simpa [len]using h
   refine(ai _).2 ((ai _).2 ⟨⟨n+1,bR n (by omega),by omega,fun p k e hp hat=>?_⟩,by rw[bR n (by omega)];simp;omega⟩)
   by_cases e:p=n
   ·subst e;obtain⟨Q,hQ,he⟩:=hat;rw[hPg]at hQ;cases hQ;have:=(ζe.1 he).1;exact hk k (by omega)
   ·exact hh p k _ (by omega) hat
 ·intro h;have hge:t.procs.l.length≤n:=by simpa [len]using h
  refine(ai _).2 ((ai _).2 ⟨fun _ ⟨x,hx⟩=>?_,fun _=>rfl⟩)
  obtain⟨p,k,e,hat,rfl,_⟩:=hx.l.at_;obtain⟨P,hP,_⟩:=id hat;exact hh p k e (by have:=(ζe.1 hP).1;omega) hat hx
end Go.VE
namespace Go.VE
theorem C3 {t:Trace} (hF:∀x∈aM t,f_ t.procs.l.length x.1.proc x.2):(∀(p k:Nat) e,hG t p k e→rT t (⟨p,k+1⟩,e)=0)↔uq t:=
 Iff.trans ⟨fun h x hx=>by obtain⟨p,k,h1,h2⟩:=bV.1 hx;obtain⟨a,e⟩:=x;simp only at h1 h2;rw[h2];exact h p k e h1,fun h p k e ha=>h _ (bV.2 ⟨p,k,ha,rfl⟩)⟩ (GC hF)
theorem Jw {t:Trace} (hS:Small t) (hN:(aM t).length<1073741824):Wp (bM t) fun r=>(r.2=0↔Ok t):=by
 have hn:=hS.1;unfold bM;rw[fu,ζb,aU];refine⟨fun hin=>(ai _).2 ⟨fun h=>(by cases h),fun h=>?_⟩,fun hin=>?_⟩
 ·have h1:=h.one;have h8:=h.few;simp only[Bool.or_eq_true,decide_eq_true_eq,len]at hin;omega
 have h8:1≤t.procs.l.length∧t.procs.l.length≤8:=by
  simp only[Bool.or_eq_false_iff,decide_eq_false_iff_not,len]at hin;omega
 unfold bM.W1;refine c8 (fun i:Int=>∃n:Nat,i=n∧n≤t.procs.l.length∧∀p,p<n→oA t p=0) (fun i:Int=>t.procs.l.length-i.toNat) ⟨0,rfl,Nat.zero_le _,fun p hp=>absurd hp (by omega)⟩ ?_
 rintro i ⟨n,rfl,hnn,hh⟩;unfold bM.aD;rw[aU];constructor
 ·intro h;have hlt:n<t.procs.l.length:=by simpa [len]using h
  rw[KY hS hlt,ζb,aU];refine⟨fun h0=>(ai _).2 ⟨⟨n+1,bR n (by omega),by omega,fun p hp=>?_⟩,by rw[bR n (by omega)];simp;omega⟩,fun h0=>(ai _).2 ((ai _).2 ⟨fun h=>?_,fun h=>?_⟩)⟩
  ·by_cases e:p=n
   ·subst e;simpa using h0
   ·exact hh p (by omega)
  ·simp only at h;simp[h]at h0
  ·simp[h.heads n hlt]at h0
 intro h;have hge:t.procs.l.length≤n:=by simpa [len]using h
 rw[ai];unfold bM.W2;refine c8 (fun i:Int=>∃n:Nat,i=n∧n≤t.procs.l.length∧∀(p k:Nat) P e,p<n→t.procs.l[p]? = some P→P.events.l[k]? = some e→lz t.procs.l.length P p k e=0) (fun i:Int=>t.procs.l.length-i.toNat) ⟨0,rfl,Nat.zero_le _,fun p k P e hp=>absurd hp (by omega)⟩ ?_
 rintro i ⟨n',rfl,hnn',he⟩;unfold bM.bg;rw[aU];constructor
 ·intro h;have hlt:n'<t.procs.l.length:=by simpa [len]using h
  have hix:=aO hlt;have hPg:=ζd hlt;have hPl:=(hS.2 _ (List.getElem_mem hlt)).1;generalize t.procs.l[n']=P at hix hPg hPl;unfold bM.W3;refine c8 (fun i:Int=>∃m:Nat,i=m∧m≤P.events.l.length∧∀(k:Nat) e,k<m→P.events.l[k]? = some e→lz t.procs.l.length P n' k e=0) (fun i:Int=>P.events.l.length-i.toNat) ⟨0,rfl,Nat.zero_le _,fun k e hk=>absurd hk (by omega)⟩ ?_
  rintro i ⟨m,rfl,hm,hk⟩;unfold bM.dw;rw[hix,ζb,aU];constructor
  ·intro h;have hml:m<P.events.l.length:=by simpa [len]using h
   have hmg:=ζd hml;have hw:=bR m (by omega)
   rw[KM hS hPg hmg,ζb,aU];refine⟨fun h0=>(ai _).2 ⟨⟨m+1,hw,by omega,fun k e hkm hke=>?_⟩,by rw[hw];simp;omega⟩,fun h0=>(ai _).2 ((ai _).2 ((ai _).2 ⟨fun h=>?_,fun h=>?_⟩))⟩
   ·by_cases ek:k=m
    ·subst ek;rw[hmg]at hke;cases hke;simpa using h0
    ·exact hk k e (by omega) hke
   ·simp only at h;simp[h]at h0
   ·simp[h.eF n' m P _ hPg hmg]at h0
  ·intro h;have hge':P.events.l.length≤m:=by simpa [len]using h
   refine(ai _).2 ((ai _).2 ⟨⟨n'+1,bR n' (by omega),by omega,fun p k Q e hp hQ hke=>?_⟩,by rw[bR n' (by omega)];simp;omega⟩)
   by_cases ep:p=n'
   ·subst ep;rw[hPg]at hQ;cases hQ;exact hk k e (by have:=(ζe.1 hke).1;omega) hke
   ·exact he p k Q e (by omega) hQ hke
 intro h;have hge':t.procs.l.length≤n':=by simpa [len]using h
 have he:∀(p k:Nat) P e,t.procs.l[p]? = some P→P.events.l[k]? = some e→lz t.procs.l.length P p k e=0:=fun p k P e hP hk=>he p k P e (by have:=(ζe.1 hP).1;omega) hP hk
 have hF:=Bm he;rw[ai];unfold bM.W4;refine c8 (fun i:Int=>∃n:Nat,i=n∧n≤t.procs.l.length∧∀(p k:Nat) e,p<n→hG t p k e→rT t (⟨p,k+1⟩,e)=0) (fun i:Int=>t.procs.l.length-i.toNat) ⟨0,rfl,Nat.zero_le _,fun p k e hp=>absurd hp (by omega)⟩ ?_
 rintro i ⟨q,rfl,hq,hpr⟩;unfold bM.r_;rw[aU];constructor
 ·intro h;have hlt:q<t.procs.l.length:=by simpa [len]using h
  have hix:=aO hlt;have hPg:=ζd hlt;have hPl:=(hS.2 _ (List.getElem_mem hlt)).1;generalize t.procs.l[q]=P at hix hPg hPl;unfold bM.W5;refine c8 (fun i:Int=>∃m:Nat,i=m∧m≤P.events.l.length∧∀(k:Nat) e,k<m→P.events.l[k]? = some e→rT t (⟨q,k+1⟩,e)=0) (fun i:Int=>P.events.l.length-i.toNat) ⟨0,rfl,Nat.zero_le _,fun k e hk=>absurd hk (by omega)⟩ ?_
  rintro i ⟨m,rfl,hm,hk⟩;unfold bM.uD;rw[hix,ζb,aU];constructor
  ·intro h;have hml:m<P.events.l.length:=by simpa [len]using h
   have hmg:=ζd hml;have hw:=bR m (by omega)
   have hat:hG t q m P.events.l[m]:=⟨P,hPg,hmg⟩;rw[hw,show (((m+1:Nat)):Int)=(m:Int)+1 from by simp,HW hS hat (hF (⟨q,m+1⟩,P.events.l[m]) (bV.2 ⟨q,m,hat,rfl⟩)),ζb,aU]
   refine⟨fun h0=>(ai _).2 ⟨⟨m+1,by simp,by omega,fun k e hkm hke=>?_⟩,by simp;omega⟩,fun h0=>(ai _).2 ((ai _).2 ((ai _).2 ⟨fun h=>?_,fun h=>?_⟩))⟩
   ·by_cases ek:k=m
    ·subst ek;rw[hmg]at hke;cases hke;simpa using h0
    ·exact hk k e (by omega) hke
   ·simp only at h;simp[h]at h0
   ·simp[(C3 hF).2 h.we q m _ hat]at h0
  ·intro h;have hge':P.events.l.length≤m:=by simpa [len]using h
   refine(ai _).2 ((ai _).2 ⟨⟨q+1,bR q (by omega),by omega,fun p k e hp hat=>?_⟩,by rw[bR q (by omega)];simp;omega⟩)
   by_cases ep:p=q
   ·subst ep;obtain⟨Q,hQ,hke⟩:=hat;rw[hPg]at hQ;cases hQ;exact hk k e (by have:=(ζe.1 hke).1;omega) hke
   ·exact hpr p k e (by omega) hat
 intro h;have hgq:t.procs.l.length≤q:=by simpa [len]using h
 have hP:uq t:=(C3 hF).1 fun p k e hat=>hpr p k e (by obtain⟨P,hP,_⟩:=hat;have:=(ζe.1 hP).1;omega) hat
 have hok:¬EH t↔Ok t:=⟨fun h=>⟨h8.1,h8.2,fun p hp=>hh p (by omega),he,hP,h⟩,fun h=>h.acyc⟩
 rw[ai,dx];refine(Hf hS hF hP).mono fun b hb=>?_
 rw[aU];exact⟨fun h=>(ai _).2 ⟨fun _=>hok.1 (hb h),fun _=>rfl⟩,fun _=>(Wx hS hN hF hP).mono fun r hr=>hr.trans hok⟩
theorem Iy {t:Trace} (hS:Small t) (hN:(aM t).length<1073741824):∃b,bZ t=some b∧fB t=some b∧(b=true→VT t):=by
 obtain⟨b,hb,h1,h2⟩:=Lu hS hN;refine⟨b,hb,?_,h1⟩;unfold fB;obtain⟨r,hr,h3⟩:=Jw hS hN;rw[hr,ζb]
 congr 1
 rw[Bool.eq_iff_iff,beq_iff_eq,h3];exact⟨h2,fun h=>(h1 h).ok⟩
end Go.VE
namespace Go.VE
theorem C7 {t:Trace} (hS:Small t) {c:Sl Int} (hcl:c.l.length=t.procs.l.length) {step:Int→Option (Fw Int Unit Unit)}
 (hs:∀i,step i=au (decide (i<(len c))) ((idx c i).bind fun x_1=>(au (decide (x_1<0)) (some true) ((idx c i).bind fun x_2=>(idx t.procs i).bind fun x_3=>some (decide (x_2>(len x_3.events)))):Option Bool).bind fun x_4=>au x_4 (some (.r ())) (some (.n (IntKind.wrap .i64 (i+1))))) (some (.x ()))) :
 Wp ((aW step 0).bind (Fw.elim (fun _=>some true) (fun _=>some false))) fun b=>(b=true↔jX t c.l):=by
 have h1:=hS.1;refine c8 (fun s:Int=>∃n:Nat,s=n∧n≤c.l.length∧∀(p:Nat) (a:Int) (P:bt),p<n→c.l[p]? = some a→t.procs.l[p]? = some P→0≤a∧a≤P.events.l.length) (fun s:Int=>c.l.length-s.toNat) ⟨0,rfl,Nat.zero_le _,fun p a P h=>absurd h (by omega)⟩ ?_
 rintro s ⟨n,rfl,hn,hI⟩;rw[hs,aU];constructor
 ·intro h;have hlt:n<c.l.length:=by simpa [len]using h
  have hlt2:n<t.procs.l.length:=by omega
  have hw:=bR n (by omega)
  rw[aO hlt,ζb,ζb,aO hlt2,ζb,fu,ζb,aU];constructor
  ·intro hb;have hb:c.l[n]<0∨c.l[n]>t.procs.l[n].events.l.length:=by simpa [len]using hb
   refine(ai _).2 ((ai _).2 ⟨fun h=>(by cases h),fun hR=>?_⟩)
   have:=hR.2 n _ _ (ζd hlt) (ζd hlt2);omega
  ·intro hb;have hb:0≤c.l[n]∧c.l[n]≤t.procs.l[n].events.l.length:=by simpa [len]using hb
   refine(ai _).2 ⟨⟨n+1,hw,by omega,fun p a P hp ha hP=>?_⟩,by rw[hw];simp;omega⟩
   by_cases e:p=n
   ·subst e;rw[ζd hlt]at ha;cases ha;rw[ζd hlt2]at hP;cases hP;exact hb
   ·exact hI p a P (by omega) ha hP
 ·intro h;have hge:c.l.length≤n:=by simpa [len]using h
  refine(ai _).2 ((ai _).2 ⟨fun _=>⟨hcl,fun p a P ha hP=>hI p a P (by have:=(ζe.1 ha).1;omega) ha hP⟩,fun _=>rfl⟩)
theorem Bz {t:Trace} (hV:VT t) {A:bq 200 aH} (hM:dS t (aM t) A) {p k:Nat} {e:Event} (hat:hG t p k e) (hk:e.kind=3):eO t 2 e.message=(ag A e.message).from_:=by
 obtain⟨y,h1,h2,h3⟩:=uC hV.formed hV.ok.we (bV.2 ⟨p,k,hat,rfl⟩:((⟨p,k+1⟩:aa),e)∈aM t) hk;have:=hM.snd _ h1 h2;simp only[h3]at this;exact this.symm
theorem E6 (t:Trace) (kind m:Int):eO t kind m=⟨0,0⟩∧(∀x∈aM t,¬(x.2.kind=kind∧x.2.message=m))∨∃z,(eO t kind m,z)∈aM t∧z.kind=kind∧z.message=m:=by
 cases h:(aM t).find? (jC kind m)with
 | some x=>
  obtain⟨a1,a2,a3,a4⟩:=uN h;exact .inr ⟨x.2,by rw[a4];exact a1,a2,a3⟩
 | none=>
  rw[List.find?_eq_none]at h;have h':∀x∈aM t,¬(x.2.kind=kind∧x.2.message=m):=fun x hx=>by have:=h x hx;simpa [jC]using this
  exact .inl ⟨Gj h',h'⟩
theorem Fj {t:Trace} (hV:VT t) {r s:aa} {z e:Event} (hr:(r,z)∈aM t) (hz:z.kind=3) (hs:(s,e)∈aM t) (he:e.kind=2) (hm:e.message=z.message):e.peer=r.proc∧z.peer=s.proc:=by
 have h:=hV.ok.we.has _ hr hz;have hp:0≤z.peer:=by
  rcases hV.formed _ hr with h|⟨_,h,_⟩
  ·simp only at h;omega
  ·exact h
 rw[show z.peer=((z.peer.toNat:Nat):Int)from by omega,rE]at h
 obtain⟨k,y,ha,h1,h2,h3⟩:=h;have hy:((⟨(z.peer.toNat:Nat),k+1⟩:aa),y)∈aM t:=bV.2 ⟨_,k,ha,rfl⟩;have:=hV.ok.we.snd _ hy _ hs h1 he (by rw[hm];exact h2)
 simp only at this;subst this;cases vf hy hs rfl;exact⟨h3,by simp only;omega⟩
def xL (t:Trace) (c:List Int) (e:Event):Bool:=(eO t 3 e.message).index==0||decide ((eO t 3 e.message).index>(c[(eO t 3 e.message).proc.toNat]?).getD 0)
theorem wu {α:Type} (f g:α→Bool):∀l:List α,l.countP f=l.countP (fun x=>f x&&g x)+l.countP (fun x=>f x && !g x)
 | []=>rfl
 | x::l=>by
  simp only[List.countP_cons,wu f g l];cases f x <;> cases g x <;> simp <;> omega
theorem qt {α:Type} {f:α→Bool} {l:List α} {n k:Nat}:k∈places f (l.take n)↔k<n∧∃x,l[k]? = some x∧f x=true:=by
 rw[oN];simp only[List.getElem?_take];constructor
 ·rintro⟨x,h1,h2⟩;split at h1
  ·exact⟨‹_›,x,h1,h2⟩
  ·cases h1
 ·rintro⟨h,x,h1,h2⟩;exact⟨x,by rw[if_pos h];exact h1,h2⟩
theorem NX {t:Trace} (hV:VT t) {A:bq 200 aH} (hM:dS t (aM t) A) {c:List Int} (hC:Cons t A c) {p q:Nat} {P Q:bt} {a b:Int} (hP:t.procs.l[p]? = some P) (hQ:t.procs.l[q]? = some Q) (ha:c[p]? = some a) (hb:c[q]? = some b) :
 (Q.events.l.take b.toNat).countP (kj p)=(P.events.l.take a.toNat).countP fun e=>jP q e && !xL t c e:=by
 have mem:∀{p:Nat} {P:bt} {k:Nat} {e:Event},t.procs.l[p]? = some P→P.events.l[k]? = some e→((⟨p,k+1⟩:aa),e)∈aM t:=fun hP hk=>bV.2 ⟨_,_,⟨_,hP,hk⟩,rfl⟩
 have a0:=(hC.1.2 p a P ha hP).1;have b0:=(hC.1.2 q b Q hb hQ).1;have r1:∀k,k∈places (kj p) (Q.events.l.take b.toNat)→∃(z:Event) (j:Nat) (e:Event),Q.events.l[k]? = some z∧z.kind=3∧P.events.l[j]? = some e∧e.kind=2∧e.peer=q∧e.message=z.message∧eO t 2 z.message=⟨p,j+1⟩∧(j:Int)+1≤a∧(k:Int)+1≤b:=fun k hk=>by
  obtain⟨hkb,z,h1,h2⟩:=qt.1 hk;have h2:z.kind=3∧z.peer=p:=by simpa [kj]using h2
  have hm:=mem hQ h1;obtain⟨e,e1,e2,e3⟩:=uC hV.formed hV.ok.we hm h2.1;obtain⟨f1,f2⟩:=Fj hV hm h2.1 e1 e2 e3;obtain⟨p',j,⟨P',hP',hj⟩,hf⟩:=bV.1 e1;simp only at f1 hf hj;rw[hf]at f2;have hpp:p'=p:=by simp only at f2;omega
  subst hpp;rw[hP]at hP';cases hP';obtain⟨x,hx1,hx2⟩:=hC.2 q k z b ⟨Q,hQ,h1⟩ hb (by omega) h2.1
  rw[←Bz hV hM ⟨Q,hQ,h1⟩ h2.1,hf]at hx1 hx2;simp only[Int.toNat_natCast]at hx1 hx2;rw[ha]at hx1;cases hx1;exact⟨z,j,e,h1,h2.1,hj,e2,f1,e3,hf,hx2,by omega⟩
 have s1:∀k,k∈places (fun e=>jP q e && !xL t c e) (P.events.l.take a.toNat)→∃(e:Event) (j:Nat) (z:Event),P.events.l[k]? = some e∧e.kind=2∧Q.events.l[j]? = some z∧z.kind=3∧z.peer=p∧z.message=e.message∧eO t 3 e.message=⟨q,j+1⟩∧(j:Int)+1≤b:=fun k hk=>by
  obtain⟨hka,e,h1,h2⟩:=qt.1 hk;simp only[ζh,Bool.not_eq_true',xL,Bool.or_eq_false_iff,jP,beq_iff_eq,beq_eq_false_iff_ne,decide_eq_false_iff_not]at h2;obtain⟨⟨g1,g2⟩,g3,g4⟩:=h2;rcases E6 t 3 e.message with⟨h,_⟩|⟨z,z1,z2,z3⟩
  ·rw[h]at g3;exact absurd rfl g3
  ·obtain⟨f1,f2⟩:=Fj hV z1 z2 (mem hP h1) g1 z3.symm;obtain⟨q',j,⟨Q',hQ',hj⟩,hf⟩:=bV.1 z1;simp only at hf hj f1 f2;rw[hf]at f1 g4;have hqq:q'=q:=by simp only at f1;omega
   subst hqq;rw[hQ]at hQ';cases hQ';simp only[Int.toNat_natCast,hb,Option.getD_some]at g4;exact⟨e,j,z,h1,g1,hj,z2,f2,z3,hf,by omega⟩
 apply Nat.le_antisymm
 ·refine vY (fun k=>match Q.events.l[k]? with|some z=>((eO t 2 z.message).index-1).toNat|none=>0) (fun k hk=>?_) fun k k' hk hk' he=>?_
  ·obtain⟨z,j,e,h1,h2,h3,h4,h5,h6,h7,h8,h9⟩:=r1 k hk;rw[h1];simp only[h7];rw[show ((j:Int)+1-1).toNat=j from by omega]
   refine qt.2 ⟨by omega,e,h3,?_⟩
   have hfe:eO t 3 e.message=⟨q,k+1⟩:=by
    rcases E6 t 3 e.message with⟨_,h⟩|⟨z',z1,z2,z3⟩
    ·exact absurd ⟨h2,h6.symm⟩ (h _ (mem hQ h1))
    ·exact hV.ok.we.rcv _ z1 _ (mem hQ h1) z2 h2 (by rw[z3,h6])
   simp only[xL,hfe,jP,h4,h5,Int.toNat_natCast,hb,Option.getD_some];simp;omega
  ·obtain⟨z,j,e,h1,h2,h3,h4,h5,h6,h7,_⟩:=r1 k hk;obtain⟨z',j',e',h1',h2',h3',h4',h5',h6',h7',_⟩:=r1 k' hk';simp only[h1,h1',h7,h7']at he;have hjj:j=j':=by omega
   subst hjj;rw[h3]at h3';cases h3';have:=hV.ok.we.rcv _ (mem hQ h1) _ (mem hQ h1') h2 h2' (by rw[←h6,h6'])
   simp only[aa.mk.injEq]at this;omega
 ·refine vY (fun k=>match P.events.l[k]? with|some e=>((eO t 3 e.message).index-1).toNat|none=>0) (fun k hk=>?_) fun k k' hk hk' he=>?_
  ·obtain⟨e,j,z,h1,h2,h3,h4,h5,h6,h7,h8⟩:=s1 k hk;rw[h1];simp only[h7];rw[show ((j:Int)+1-1).toNat=j from by omega]
   exact qt.2 ⟨by omega,z,h3,by simp[kj,h4,h5]⟩
  ·obtain⟨e,j,z,h1,h2,h3,h4,h5,h6,h7,_⟩:=s1 k hk;obtain⟨e',j',z',h1',h2',h3',h4',h5',h6',h7',_⟩:=s1 k' hk';simp only[h1,h1',h7,h7']at he;have hjj:j=j':=by omega
   subst hjj;rw[h3]at h3';cases h3';have:=hV.ok.we.snd _ (mem hP h1) _ (mem hP h1') h2 h2' (by rw[←h6,h6'])
   simp only[aa.mk.injEq]at this;omega
theorem Xs {t:Trace} (hV:VT t) {A:bq 200 aH} (hM:dS t (aM t) A) {c:List Int} (hC:Cons t A c) {p q:Nat} {P Q:bt} {a b:Int} (hP:t.procs.l[p]? = some P) (hQ:t.procs.l[q]? = some Q) (ha:c[p]? = some a) (hb:c[q]? = some b) :
 under t c p q=((P.events.l.take a.toNat).countP fun e=>jP q e&&xL t c e:Nat):=by
 unfold under;rw[hP,hQ,ha,hb];dsimp only;rw[NX hV hM hC hP hQ ha hb,wu (jP q) (xL t c)];omega
end Go.VE
namespace Go.VE
def Table (t:Trace) (c:List Int) (rows:List (Sl Int)):Prop:=rows.length=t.procs.l.length∧∀(p:Nat) (r:Sl Int),rows[p]? = some r→r.l.length=t.procs.l.length∧∀(q:Nat) (x:Int),r.l[q]? = some x→x=if p=q then 0 else under t c p q
end Go.VE
namespace Go.VE
def Ck (q:Int) (e:Event):Bool:=if e.kind==2 then !(e.peer==q)else true
theorem ON {q:Int} {e:Event} (h:Ck q e=false):e.kind=2∧e.peer=q:=by
 unfold Ck at h
 by_cases hk:e.kind=2
 ·simpa [hk]using h
 ·simp[hk]at h
def tf (q:Int) (pos:Event→Int):List Event→Int→Bool→Bool
 | [],_,_=>true
 | e::r,last,missing=>au (Ck q e) (tf q pos r last missing)
  (au (pos e==0) (tf q pos r last true)
  (au (if missing then true else decide (pos e<last)) false (tf q pos r (pos e) missing)))
theorem Ek {q:Int} {pos pos':Event→Int}:∀{l:List Event} {last:Int} {missing:Bool},(∀e∈l,e.kind=2→e.peer=q→pos e=pos' e)→tf q pos l last missing=tf q pos' l last missing
 | [],_,_,_=>rfl
 | e::r,last,missing,h=>by
  have hr:∀{last:Int} {missing:Bool},tf q pos r last missing=tf q pos' r last missing:=Ek fun x hx=>h x (List.mem_cons_of_mem _ hx)
  unfold tf
  cases hc:Ck q e with
  | true=>exact hr
  | false=>
   have hk:=ON hc;simp only[h e (List.mem_cons_self ..) hk.1 hk.2,hr]
def pos1 (t:Trace) (q:Nat) (e:Event):Int:=match t.procs.l[q]? with
 | some Q=>place (fun y=>y.kind==3&&y.message==e.message) Q.events.l+1
 | none=>0
theorem drop_cons {α:Type} {l:List α} {n:Nat} (h:n<l.length):l.drop n=l[n]::l.drop (n+1):=List.drop_eq_getElem_cons h
def pos2 (A:bq 200 aH) (e:Event):Int:=(ag A e.message).to_.index
theorem pos_eq {t:Trace} (hV:VT t) {A:bq 200 aH} (hA:dS t (aM t) A) {p q:Nat} (hp:p<t.procs.l.length) (hq:q<t.procs.l.length) {e:Event} (he:e∈t.procs.l[p].events.l) (hk:e.kind=2) (hpe:e.peer=q):pos1 t q e=pos2 A e:=by
 obtain⟨k,hke⟩:=List.getElem?_of_mem he;have hat:hG t p k e:=⟨_,ζd hp,hke⟩;have hmem:((⟨p,k+1⟩:aa),e)∈aM t:=bV.2 ⟨p,k,hat,rfl⟩;have hm:0≤e.message∧e.message≤199:=by
  rcases hV.formed _ hmem with h|⟨_,_,_,_,h⟩
  ·simp only at h;omega
  ·exact h
 unfold pos1 pos2;rw[ζd hq];simp only;have rcv:∀(r j:Nat) (y:Event),hG t r j y→y.kind=3→y.message=e.message→(ag A e.message).to_=⟨r,j+1⟩:=fun r j y hy h3 hme=>by
  have:=(hA.rcv (⟨r,j+1⟩,y) (bV.2 ⟨r,j,hy,rfl⟩) h3).1;rw[←hme];exact this
 rcases hA.to e.message hm.1 hm.2 with h0|⟨y,hy,h3,hme⟩
 ·rw[h0];have:t.procs.l[q].events.l.findIdx? (fun y=>y.kind==3&&y.message==e.message)=none:=by
   rw[List.findIdx?_eq_none_iff];intro y hy
   cases hb:(y.kind==3&&y.message==e.message)with
   | false=>rfl
   | true=>
    exfalso;simp only[ζh,beq_iff_eq]at hb;obtain⟨j,hj⟩:=List.getElem?_of_mem hy;have:=rcv q j y ⟨_,ζd hq,hj⟩ hb.1 hb.2;rw[this]at h0;simp only at h0;omega
  unfold place;rw[this];rfl
 ·obtain⟨r,j,hyat,hid⟩:=bV.1 hy;simp only at hyat hid;have hs:=(hA.rcv _ hy h3).2;simp only at hs;have hfy:=hV.formed _ hy;have hpeer:0≤y.peer:=by
   rcases hfy with h|⟨_,h,_⟩
   ·simp only at h;omega
   ·exact h
  obtain⟨pn,hpn⟩:∃pn:Nat,y.peer=pn:=⟨y.peer.toNat,by omega⟩
  rw[hpn,hme]at hs;obtain⟨k2,e2,hat2,g1,g2,g3⟩:=rE.1 hs;have f1:=hA.snd _ hmem hk;have f2:=hA.snd (⟨pn,k2+1⟩,e2) (bV.2 ⟨pn,k2,hat2,rfl⟩) g1;simp only at f1 f2;rw[g2,f1]at f2;have e1:p=pn∧k=k2:=by
   simp only[aa.mk.injEq]at f2;omega
  obtain⟨rfl,rfl⟩:=e1;have e3:e2=e:=by
   obtain⟨P,h1,h2⟩:=hat;obtain⟨P',h1',h2'⟩:=hat2;rw[h1]at h1';cases h1';rw[h2]at h2';cases h2';rfl
  subst e3;have hrq:r=q:=by
   have:(ag A e2.message).to_.proc=(q:Int):=by rw[←g3,hpe]
   rw[hid]at this;simp only at this;omega
  subst hrq;obtain⟨Q,hQ,hj⟩:=hyat;rw[ζd hq]at hQ;cases hQ;have:t.procs.l[r].events.l.findIdx? (fun y=>y.kind==3&&y.message==e2.message)=some j:=by
   refine yB (fun i hi z hz=>?_) hj (by simp[h3,hme])
   cases hb:(z.kind==3&&z.message==e2.message)with
   | false=>rfl
   | true=>
    exfalso;simp only[ζh,beq_iff_eq]at hb;have:=rcv r i z ⟨_,ζd hq,hz⟩ hb.1 hb.2;rw[hid]at this;simp only[aa.mk.injEq]at this;omega
  unfold place;rw[this,hid]
end Go.VE
namespace Go.VE
theorem Ax {t:Trace} (hS:Small t) (hV:VT t) {A:bq 200 aH} (hM:dS t (aM t) A) {c:Sl Int} (hR:jX t c.l):Wp (dy t c) fun b=>(b=true↔iN t A c.l):=by
 have hn8:=hV.few;have hcl:=hR.1;unfold dy dy.W1;refine c8 (fun s:Int=>∃n:Nat,s=n∧n≤c.l.length∧∀(p k:Nat) (e:Event) (a:Int),p<n→hG t p k e→c.l[p]? = some a→(k:Int)<a→e.kind=3→∃b,c.l[(ag A e.message).from_.proc.toNat]? = some b∧(ag A e.message).from_.index≤b) (fun s:Int=>c.l.length-s.toNat) ⟨0,rfl,Nat.zero_le _,fun p k e a h=>absurd h (by omega)⟩ ?_
 rintro s ⟨n,rfl,hn,hI⟩;unfold dy.aD;rw[aU];constructor
 ·intro h;have hlt:n<c.l.length:=by simpa [len]using h
  have hlt2:n<t.procs.l.length:=by omega
  have hPl:=(hS.2 _ (List.getElem_mem hlt2)).1;have hPg:=ζd hlt2;have hcg:=ζd hlt;obtain⟨r1,r2⟩:=hR.2 n _ _ hcg hPg;have hix:=aO hlt;generalize c.l[n]=a at *;generalize hPe:t.procs.l[n]=P at *;unfold dy.W2;refine c8 (fun s:Int=>∃m:Nat,s=m∧(m:Int)≤a∧∀(k:Nat) (e:Event),k<m→hG t n k e→e.kind=3→∃b,c.l[(ag A e.message).from_.proc.toNat]? = some b∧(ag A e.message).from_.index≤b) (fun s:Int=>a.toNat-s.toNat) ⟨0,rfl,by simpa using r1,fun k e h=>absurd h (by omega)⟩ ?_
  rintro s ⟨m,rfl,hm,hJ⟩;unfold dy.bg;rw[hix,ζb,aU];constructor
  ·intro h;have hma:(m:Int)<a:=by simpa using h
   have hmP:m<P.events.l.length:=by omega
   have hwm:=bR m (by omega)
   have hmu:a.toNat-(IntKind.wrap .i64 ((m:Int)+1)).toNat<a.toNat-((m:Int)).toNat:=by rw[hwm];simp;omega
   have hat:hG t n m P.events.l[m]:=⟨P,hPg,ζd hmP⟩;have hixP:idx t.procs (n:Int)=some P:=by rw[o6];exact hPg
   have same:∀k e,hG t n k e→k=m→e=P.events.l[m]:=fun k e ⟨Q,hQ,he⟩ hk=>by
    subst hk;rw[hPg]at hQ;cases hQ;rw[ζd hmP]at he;cases he;rfl
   unfold tX;rw[hixP,ζb,aO hmP,ζb,dx,aU];constructor
   ·intro hk;have hk:P.events.l[m].kind=3:=by simpa using hk
    obtain⟨q,j,z,hz,z1,z2,z3,z4,z5⟩:=pY hV hM hat hk;obtain⟨Q,hQ,_⟩:=hz;have hql:q<c.l.length:=by have:=(ζe.1 hQ).1;omega
    rw[find_eq hS,Bz hV hM hat hk,ζb,z5];simp only;rw[aO hql,ζb,ai,aU];constructor
    ·intro hle;have hle:(j:Int)+1≤c.l[q]:=by simpa using hle
     refine(ai _).2 ⟨⟨m+1,hwm,by omega,fun k e' hk' hat' he'=>?_⟩,hmu⟩
     by_cases ek:k=m
     ·cases same k e' hat' ek;rw[z5];exact⟨c.l[q],by simp only[Int.toNat_natCast];exact ζd hql,by simp only;omega⟩
     ·exact hJ k e' (by omega) hat' he'
    ·intro hgt;have hgt:¬((j:Int)+1≤c.l[q]):=by simpa using hgt
     refine(ai _).2 ((ai _).2 ((ai _).2 ⟨fun h=>(by cases h),fun hC=>?_⟩))
     obtain⟨b,hb1,hb2⟩:=hC n m _ a hat hcg hma hk;rw[z5]at hb1 hb2;simp only[Int.toNat_natCast]at hb1 hb2;rw[ζd hql]at hb1;cases hb1;omega
   ·intro hk;rw[ai,aY];refine(ai _).2 ⟨⟨m+1,hwm,by omega,fun k e' hk' hat' he'=>?_⟩,hmu⟩
    by_cases ek:k=m
    ·cases same k e' hat' ek;simp[he']at hk
    ·exact hJ k e' (by omega) hat' he'
  ·intro h;have hge:¬(m:Int)<a:=by simpa using h
   refine(ai _).2 ((ai _).2 ⟨⟨n+1,bR n (by omega),by omega,fun p k e a' hp hat ha' hk hk3=>?_⟩,by rw[bR n (by omega)];simp;omega⟩)
   by_cases ep:p=n
   ·subst ep;rw[hcg]at ha';cases ha';exact hJ k e (by omega) hat hk3
   ·exact hI p k e a' (by omega) hat ha' hk hk3
 ·intro h;have hge:c.l.length≤n:=by simpa [len]using h
  refine(ai _).2 ((ai _).2 ⟨fun _ p k e a hat ha hk hk3=>hI p k e a (by have:=(ζe.1 ha).1;omega) hat ha hk hk3,fun _=>rfl⟩)
theorem Ze {t:Trace} (hS:Small t) (hv:fB t=some true) (hV:VT t) {A:bq 200 aH} (hM:dS t (aM t) A) {c:Sl Int} (hR:jX t c.l):Wp (dh t c) fun b=>(b=true↔iN t A c.l):=by
 have hr:Wp (iC t c) fun b=>(b=true↔jX t c.l):=C7 hS hR.1 fun i=>rfl
 obtain⟨b,hb,hb2⟩:=hr;rw[hb2.2 hR]at hb;obtain⟨b',hb',hb2'⟩:=Ax hS hV hM hR;unfold dh qy;rw[hv,ζb,aY,ζb,show (len c==len t.procs)=true from by simp[len,hR.1],ζb,aY,hb,ζb,ζb,aY,hb',ζb,ζb,ai]
 exact hb2'
theorem Code.one {t:Trace} {A:bq 200 aH} {c:List Int} {r s:Int} (h:Code t A c r) (g:Code t A c s):r=s:=by
 rcases h with⟨h,rfl⟩|⟨h1,h2,rfl⟩|⟨h1,h2,rfl⟩|⟨h1,h2,rfl⟩ <;> rcases g with⟨g,rfl⟩|⟨g1,g2,rfl⟩|⟨g1,g2,rfl⟩|⟨g1,g2,rfl⟩ <;> first|rfl|contradiction|exact absurd ‹jX t c›.1 ‹_›
end Go.VE
namespace Go.VE
theorem mC {σ ε ρ γ:Type} {step:σ→Option (Fw σ ε ρ)} {fx:ε→Option γ} {fr:ρ→Option γ} {P:γ→Prop} (n:Nat) (I:Nat→σ→Prop) {s:σ} (h0:I 0 s)
 (h:∀i s,i<n→I i s→Wp (step s) fun w=>match w with|.n s'=>I (i+1) s'|.x e=>Wp (fx e) P|.r b=>Wp (fr b) P)
 (hn:∀s,I n s→Wp (step s) fun w=>match w with|.n _=>False|.x e=>Wp (fx e) P|.r b=>Wp (fr b) P):Wp ((aW step s).bind (Fw.elim fx fr)) P:=by
 have key:∀m i s,i+m=n→I i s→Wp ((aW step s).bind (Fw.elim fx fr)) P:=by
  intro m
  induction m with
  | zero=>
   intro i s hi hI;obtain⟨w,hw,hr⟩:=hn s (by rw[←hi];exact hI)
   rw[eZ,hw]
   cases w with
   | n s'=>exact hr.elim
   | x e=>exact hr
   | r b=>exact hr
  | succ m ih=>
   intro i s hi hI;obtain⟨w,hw,hr⟩:=h i s (by omega) hI
   rw[eZ,hw]
   cases w with
   | n s'=>exact ih (i+1) s' (by omega) hr
   | x e=>exact hr
   | r b=>exact hr
 exact key n 0 s (Nat.zero_add n) h0
def bump (c:List Int) (p:Nat) (d:Int):List Int:=c.set p ((c[p]?).getD 0+d)
theorem vl:∀{c:List Int} {p:Nat} {a b:Int},c[p]? = some a→(c.set p b).sum=c.sum-a+b
 | [],_,_,_,h=>by simp at h
 | x::c,0,a,b,h=>by simp at h;subst h;simp;omega
 | x::c,p+1,a,b,h=>by
  have:=vl (c:=c) (p:=p) (b:=b) (by simpa using h)
  simp only[List.set_cons_succ,List.sum_cons,this];omega
theorem rJ:∀{c:List Int},(∀(p:Nat) a,c[p]? = some a→0≤a)→0≤c.sum
 | [],_=>by simp
 | x::c,h=>by
  have h1:=h 0 x rfl;have h2:=rJ (c:=c) fun p a ha=>h (p+1) a (by simpa using ha)
  simp only[List.sum_cons];omega
theorem Da:∀{c:List Int},(∀(p:Nat) a,c[p]? = some a→0≤a)→c.sum=0→∀(p:Nat) a,c[p]? = some a→a=0
 | [],_,_,p,a,ha=>by simp at ha
 | x::c,h,hs,p,a,ha=>by
  have h1:=h 0 x rfl;have hc:∀(p:Nat) a,c[p]? = some a→0≤a:=fun p a ha=>h (p+1) a (by simpa using ha)
  have h2:=rJ hc;simp only[List.sum_cons]at hs
  cases p with
  | zero=>simp at ha;omega
  | succ p=>exact Da hc (by omega) p a (by simpa using ha)
theorem E5:∀{c:List Int} {l:List Nat},c.length=l.length→(∀(i:Nat) a b,c[i]? = some a→l[i]? = some b→a≤(b:Nat))→c.sum≤(l.sum:Nat)
 | [],[],_,_=>by simp
 | x::c,y::l,hl,h=>by
  have h1:=h 0 x y rfl rfl;have h2:=E5 (c:=c) (l:=l) (by simpa using hl) fun i a b ha hb=>h (i+1) a b (by simpa using ha) (by simpa using hb)
  simp only[List.sum_cons];omega
section
variable {t:Trace} {A:bq 200 aH} {c:List Int}
theorem jX.pos (h:jX t c) (p:Nat) (a:Int) (ha:c[p]? = some a):0≤a:=
 (h.2 p a _ ha (ζd (by have:=(ζe.1 ha).1;rw[←h.1];exact this))).1
theorem jX.at_ (h:jX t c) {p:Nat} (hp:p<t.procs.l.length):∃a,c[p]? = some a:=⟨_,ζd (by rw[h.1];exact hp)⟩
theorem jX.sum (h:jX t c):0≤c.sum∧c.sum≤(qd t:Nat):=
 ⟨rJ h.pos,E5 (by simp[h.1]) fun i a b ha hb=>by
  rw[List.getElem?_map]at hb
  cases hP:t.procs.l[i]? with
  | none=>simp[hP]at hb
  | some P=>simp[hP]at hb;rw[←hb];exact(h.2 i a P ha hP).2⟩
theorem jX.set (h:jX t c) {p:Nat} {b:Int} {P:bt} (hP:t.procs.l[p]? = some P) (h0:0≤b) (h1:b≤P.events.l.length):jX t (c.set p b):=by
 refine⟨by simp[h.1],fun q a Q ha hQ=>?_⟩
 rw[List.getElem?_set]at ha;split at ha
 ·rename_i e;subst e;split at ha
  ·cases ha;rw[hP]at hQ;cases hQ;exact⟨h0,h1⟩
  ·cases ha
 ·exact h.2 q a Q ha hQ
def Y1 (t:Trace) (A:bq 200 aH) (c:List Int) (p:Nat):Prop:=∃P e a,t.procs.l[p]? = some P∧c[p]? = some a∧P.events.l[a.toNat]? = some e∧(e.kind=3→∃b,c[(ag A e.message).from_.proc.toNat]? = some b∧(ag A e.message).from_.index≤b)
theorem hG.one {p k:Nat} {e f:Event} (h:hG t p k e) (g:hG t p k f):e=f:=by
 obtain⟨P,a1,a2⟩:=h;obtain⟨Q,b1,b2⟩:=g;rw[a1]at b1;cases b1;rw[a2]at b2;cases b2;rfl
theorem iN.le (h:iN t A c) {p:Nat} {a b:Int} (ha:c[p]? = some a) (hab:a≤b) (hn:∀(k:Nat) e,hG t p k e→a≤k→(k:Int)<b→e.kind=3→∃b',(c.set p b)[(ag A e.message).from_.proc.toNat]? = some b'∧(ag A e.message).from_.index≤b'):iN t A (c.set p b):=by
 have hp:=(ζe.1 ha).1;have up:∀(q:Nat) x,c[q]? = some x→∃y,(c.set p b)[q]? = some y∧x≤y:=fun q x hx=>by
  rw[List.getElem?_set]
  by_cases e:p=q
  ·subst e;rw[ha]at hx;cases hx;exact⟨b,by simp[hp],hab⟩
  ·exact⟨x,by simp[e,hx],Int.le_refl _⟩
 intro q k e x hat hx hk h3;rw[List.getElem?_set]at hx;have old:∀x,c[q]? = some x→(k:Int)<x→∃b',(c.set p b)[(ag A e.message).from_.proc.toNat]? = some b'∧(ag A e.message).from_.index≤b':=fun x hx hk=>by
  obtain⟨y,hy,hy2⟩:=h q k e x hat hx hk h3;obtain⟨z,hz,hz2⟩:=up _ y hy;exact⟨z,hz,by omega⟩
 split at hx
 ·rename_i ep;subst ep;simp[hp]at hx;subst hx
  by_cases hka:(k:Int)<a
  ·exact old a ha hka
  ·exact hn k e hat (by omega) hk h3
 ·exact old x hx hk
theorem Dc (hV:VT t) (hM:dS t (aM t) A) {p k:Nat} {e:Event} (hat:hG t p k e) (h3:e.kind=3):∃q j:Nat,(ag A e.message).from_=⟨q,j+1⟩∧q≠p∧Cw t ⟨q,j+1⟩ ⟨p,k+1⟩∧∃y,hG t q j y:=by
 obtain⟨q,j,y,hy,y1,y2,y3,y4,y5⟩:=pY hV hM hat h3;have hm:((⟨p,k+1⟩:aa),e)∈aM t:=bV.2 ⟨p,k,hat,rfl⟩;refine⟨q,j,y5,?_,⟨y,e,bV.2 ⟨q,j,hy,rfl⟩,hm,y1,h3,y2⟩,y,hy⟩;rcases hV.formed _ hm with h|⟨_,_,_,h,_⟩
 ·simp only at h;omega
 ·simp only at h;omega
theorem Cons.up (hV:VT t) (hM:dS t (aM t) A) (hC:Cons t A c) {p:Nat} {a:Int} {P:bt} (hP:t.procs.l[p]? = some P) (ha:c[p]? = some a) (hl:a<P.events.l.length):Y1 t A c p↔Cons t A (c.set p (a+1)):=by
 have h0:=hC.1.pos p a ha;have hp:=(ζe.1 ha).1;have han:((a.toNat:Nat):Int)=a:=by omega
 constructor
 ·rintro⟨Q,e,x,hQ,hx,he,h3⟩;rw[hP]at hQ;cases hQ;rw[ha]at hx;cases hx;refine⟨hC.1.set hP (by omega) (by omega),hC.2.le ha (by omega) fun k f hat hk1 hk2 hf=>?_⟩
  have hka:k=a.toNat:=by omega
  subst hka;cases hat.one ⟨P,hP,he⟩;obtain⟨b,hb,hb2⟩:=h3 hf;rw[List.getElem?_set]
  by_cases e2:p=(ag A e.message).from_.proc.toNat
  ·rw[←e2,ha]at hb;cases hb;exact⟨a+1,by simp[←e2,hp],by omega⟩
  ·exact⟨b,by rw[if_neg e2];exact hb,hb2⟩
 ·intro h;have hel:a.toNat<P.events.l.length:=by omega
  refine⟨P,P.events.l[a.toNat],a,hP,ha,ζd hel,fun h3=>?_⟩
  obtain⟨b,hb,hb2⟩:=h.2 p a.toNat _ (a+1) ⟨P,hP,ζd hel⟩ (by simp[hp]) (by omega) h3
  rw[List.getElem?_set]at hb;split at hb
  ·rename_i e2;obtain⟨q,j,f1,f2,_⟩:=Dc hV hM ⟨P,hP,ζd hel⟩ h3;rw[f1]at e2;exact absurd e2.symm (by simpa using f2)
  ·exact⟨b,hb,hb2⟩
noncomputable def AW (t:Trace) (x:aa):Nat:=by
 classical
 exact(aM t).countP fun z=>decide (Way t z.1 x)
theorem EJ (hV:VT t) {x y:aa} (h:Way t x y):AW t x<AW t y:=by
 classical
 unfold AW;refine wH (fun z _ hz=>?_) ?_
 ·have hz:Way t z.1 x:=by simpa using hz
  simpa using hz.trans h
 ·obtain⟨e,he⟩:=h.l;exact⟨(x,e),he,by simpa using fun k=>hV.ok.acyc ⟨x,k⟩,by simpa using h⟩
theorem ER (x:aa):AW t x≤(aM t).length:=by
 classical
 unfold AW;exact List.countP_le_length
theorem Vd.of {p k:Nat} {e:Event} (h:hG t p k e):Vd t ⟨p,k+1⟩:=⟨e,bV.2 ⟨p,k,h,rfl⟩⟩
theorem DM {p:Nat} {P:bt} (hP:t.procs.l[p]? = some P):∀(d k:Nat),k+d+1<P.events.l.length→Way t ⟨p,k+1⟩ ⟨p,((k+d+1:Nat):Int)+1⟩
 | 0,k,h=>.single ⟨Vd.of ⟨P,hP,ζd (by omega)⟩,Vd.of ⟨P,hP,ζd h⟩,.inl (by simp)⟩
 | d+1,k,h=>(DM hP d k (by omega)).tail ⟨Vd.of ⟨P,hP,ζd (show k+d+1<_ by omega)⟩,Vd.of ⟨P,hP,ζd h⟩,.inl (by simp;omega)⟩
theorem Tc {q k:Nat} {b:Int} {Q:bt} {x:aa} (hQ:t.procs.l[q]? = some Q) (h:Way t x ⟨q,k+1⟩) (h1:(k:Int)<b) (h2:b≤Q.events.l.length):Way t x ⟨q,b⟩:=by
 by_cases e:b=k+1
 ·rw[e];exact h
 ·have:=DM hQ (b.toNat-k-2) k (by omega)
  rw[show (((k+(b.toNat-k-2)+1:Nat):Int)+1)=b from by omega]at this
  exact h.trans this
theorem Cons.Fg (hV:VT t) (hM:dS t (aM t) A) (hC:Cons t A c) {p:Nat} {a:Int} (ha:c[p]? = some a) (h0:0<a):Cons t A (c.set p (a-1))∨∃(q:Nat) (b:Int),c[q]? = some b∧0<b∧Way t ⟨p,a⟩ ⟨q,b⟩:=by
 have hp:=(ζe.1 ha).1;have hP:=ζd (show p<t.procs.l.length by rw[←hC.1.1];exact hp)
 have hr:=hC.1.2 p a _ ha hP;refine Classical.byContradiction fun hno=>hno (.inl ⟨hC.1.set hP (by omega) (by omega),fun q k e x hat hx hk h3=>?_⟩)
 obtain⟨x0,hx0,hxx⟩:∃x0,c[q]? = some x0∧x≤x0:=by
  rw[List.getElem?_set]at hx;split at hx
  ·rename_i e2;subst e2;simp[hp]at hx;exact⟨a,ha,by omega⟩
  ·exact⟨x,hx,Int.le_refl _⟩
 obtain⟨y,hy,hy2⟩:=hC.2 q k e x0 hat hx0 (by omega) h3
 obtain⟨r,j,f1,f2,f3,_⟩:=Dc hV hM hat h3;rw[f1]at hy hy2 ⊢;simp only[Int.toNat_natCast]at hy hy2 ⊢;rw[List.getElem?_set]
 by_cases e2:p=r
 ·subst e2;rw[ha]at hy;cases hy;refine⟨a-1,by simp[hp],?_⟩
  refine Classical.byContradiction fun hj=>hno (.inr ⟨q,x0,hx0,by omega,?_⟩)
  have:a=(j:Int)+1:=by omega
  subst this;obtain⟨Q,hQ,_⟩:=hat;have hrq:=hC.1.2 q x0 Q hx0 hQ;obtain⟨ye,fe,m1,m2,m3⟩:=f3;exact Tc hQ (.single ⟨⟨ye,m1⟩,⟨fe,m2⟩,.inr ⟨ye,fe,m1,m2,m3⟩⟩) (by omega) hrq.2
 ·exact⟨y,by rw[if_neg e2];exact hy,hy2⟩
theorem Cons.WC (hV:VT t) (hM:dS t (aM t) A) (hC:Cons t A c):∀(n p:Nat) (a:Int),c[p]? = some a→0<a→(aM t).length-AW t ⟨p,a⟩≤n→∃(q:Nat) (b:Int),c[q]? = some b∧0<b∧Cons t A (c.set q (b-1)):=by
 intro n
 induction n with
 | zero=>
  intro p a ha h0 hn;rcases hC.Fg hV hM ha h0 with h|⟨q,b,_,_,hw⟩
  ·exact⟨p,a,ha,h0,h⟩
  ·have:=EJ hV hw;have:=ER (t:=t) ⟨q,b⟩;omega
 | succ n ih=>
  intro p a ha h0 hn;rcases hC.Fg hV hM ha h0 with h|⟨q,b,hb,hb0,hw⟩
  ·exact⟨p,a,ha,h0,h⟩
  ·have:=EJ hV hw;have:=ER (t:=t) ⟨q,b⟩;exact ih q b hb hb0 (by omega)
theorem Cons.down (hV:VT t) (hM:dS t (aM t) A) (hC:Cons t A c) (hs:0<c.sum):∃(q:Nat) (b:Int),c[q]? = some b∧0<b∧Cons t A (c.set q (b-1)):=by
 obtain⟨p,a,ha,h0⟩:∃(p:Nat) (a:Int),c[p]? = some a∧0<a:=by
  refine Classical.byContradiction fun hno=>?_
  have hz:∀a∈c,a=0:=fun a ha=>by
   obtain⟨p,hp⟩:=List.mem_iff_getElem?.1 ha;have:=hC.1.pos p a hp;exact Classical.byContradiction fun hne=>hno ⟨p,a,hp,by omega⟩
  have:c.sum=0:=by
   clear hC hs hno
   induction c with
   | nil=>rfl
   | cons x c ih=>simp[hz x (List.mem_cons_self ..),ih fun a ha=>hz a (List.mem_cons_of_mem _ ha)]
  omega
 exact hC.WC hV hM _ p a ha h0 (Nat.le_refl _)
theorem Cons.BD (hV:VT t) (hM:dS t (aM t) A):∀(d:Nat) {c:List Int} {k:Nat},Cons t A c→c.sum=((k+d:Nat):Int)→∃c',Cons t A c'∧c'.sum=(k:Int)
 | 0,c,k,hC,hs=>⟨c,hC,by simpa using hs⟩
 | d+1,c,k,hC,hs=>by
  obtain⟨q,b,hb,hb0,hC2⟩:=hC.down hV hM (by omega)
  exact Cons.BD hV hM d hC2 (by rw[vl hb];omega)
end
end Go.VE
namespace Go.VE
theorem nD {α:Type} {s:Sl α} {n:Nat} (h:n<s.l.length):decide ((n:Int)<len s)=true:=by simp[len];omega
theorem oI {α:Type} {s:Sl α}:decide ((s.l.length:Int)<len s)=false:=by simp[len]
theorem Zr {α:Type} {s x:Sl α} (h:s.l.length+x.l.length≤2147483648):∃r,VC s x=some r∧r.l=s.l++x.l:=by
 unfold VC
 by_cases e:x.l=[]
 ·rw[if_pos e];exact⟨s,rfl,by rw[e,List.append_nil]⟩
 ·rw[if_neg e,if_pos h];exact⟨_,rfl,rfl⟩
theorem MJ {α:Type} {s:Sl α} {x:α} (h:s.l.length<2147483648):∃r,kB s x=some r∧r.l=s.l++[x]:=by
 unfold kB;rw[if_pos (by omega)];exact⟨_,rfl,rfl⟩
theorem RJ {α:Type} {s:Sl α} {p:Nat} (h:p<s.l.length):Sl.oR s (p:Int)=some p:=by
 unfold Sl.oR;rw[if_pos ⟨by omega,by simpa using h⟩];rfl
theorem put_eq {α:Type} {s:Sl α} {p:Nat} {x:α} (h:p<s.l.length):∃r,Sl.put s p x=some r∧r.l=s.l.set p x:=by
 unfold Sl.put;rw[if_pos h];exact⟨_,rfl,by cases s <;> first|rfl|(simp[Sl.l]at h)⟩
section
variable {t:Trace} {A:bq 200 aH}
def ClN (t:Trace) (A:bq 200 aH) (c:List Int) (n:Nat):Prop:=∀(p k:Nat) (e:Event) (a:Int),p<n→hG t p k e→c[p]? = some a→(k:Int)<a→e.kind=3→∃b,c[(ag A e.message).from_.proc.toNat]? = some b∧(ag A e.message).from_.index≤b
end
end Go.VE
namespace Go.VE
def ins (s:Sl (Sl Int)):List (List Int):=s.l.map Sl.l
theorem V3 {α:Type} (s:Sl α) (i:Nat) (h:i≤s.l.length):∃x,gy s (some (i:Int)) none=some x∧x.l=s.l.drop i:=by
 unfold gy cE;simp only[Option.getD_some,Option.getD_none];rw[if_pos ⟨by omega,by omega,by omega⟩]
 exact⟨_,rfl,by cases s <;> simp[Sl.l]⟩
end Go.VE
namespace Go.VE
def U4 (t:Trace) (A:bq 200 aH) (c d:List Int):Prop:=∃(p:Nat) (a:Int),c[p]? = some a∧d=c.set p (a+1)∧Cons t A d
section
variable {t:Trace} {A:bq 200 aH}
theorem FE {s:Sl (Sl Int)} {d:List Int}:d∈ins s↔∃x∈s.l,x.l=d:=by unfold ins;exact List.mem_map
theorem Zp {r s:Sl (Sl Int)} {x:Sl Int} (h:r.l=s.l++[x]) {d:List Int}:d∈ins r↔d∈ins s∨d=x.l:=by
 unfold ins;rw[h];simp
def IJ (t:Trace) (A:bq 200 aH) (k:Nat) (s:Sl (Sl Int)):Prop:=∀d,d∈ins s↔Cons t A d∧d.sum=(k:Int)
theorem U4.iff (hV:VT t) (hM:dS t (aM t) A) {k:Nat} {d:List Int}:(∃c,(Cons t A c∧c.sum=(k:Int))∧U4 t A c d)↔Cons t A d∧d.sum=((k+1:Nat):Int):=by
 constructor
 ·rintro⟨c,⟨hC,hs⟩,p,a,ha,rfl,hD⟩;exact⟨hD,by rw[vl ha];omega⟩
 ·rintro⟨hD,hs⟩;obtain⟨q,b,hb,hb0,hC⟩:=hD.down hV hM (by omega)
  have hq:=(ζe.1 hb).1;refine⟨_,⟨hC,by rw[vl hb];omega⟩,q,b-1,by simp[hq],?_,hD⟩
  rw[List.set_set,show b-1+1=b from by omega]
  refine List.ext_getElem? fun i=>?_
  rw[List.getElem?_set];split
  ·rename_i e;subst e;simp[hq,hb];exact(ζe.1 hb).2.symm▸rfl
  ·rfl
theorem YZ {s:Sl (Sl Int)} {n:Nat} (h:n<s.l.length) {d:List Int}:d∈(s.l.take (n+1)).map Sl.l↔d∈(s.l.take n).map Sl.l∨d=s.l[n].l:=by
 rw[show s.l.take (n+1)=s.l.take n++[s.l[n]]from by rw[List.take_add_one,ζd h];rfl]
 simp only[List.map_append,List.mem_append,List.map_cons,List.map_nil,List.mem_singleton]
theorem FC:∀n:Nat,(List.replicate n (0:Int)).sum=0
 | 0=>rfl
 | n+1=>by rw[List.replicate_succ,List.sum_cons,FC n];rfl
theorem GL:Cons t A (List.replicate t.procs.l.length 0):=by
 have hz:∀(p:Nat) a,(List.replicate t.procs.l.length (0:Int))[p]? = some a→a=0:=fun p a h=>by
  rw[List.getElem?_replicate]at h;split at h <;> cases h;rfl
 exact⟨⟨by simp,fun p a P ha _=>by rw[hz p a ha];omega⟩,fun p k e a _ ha hk=>by rw[hz p a ha]at hk;omega⟩
theorem ZY {z:Sl Int} (hz:z.l=List.replicate t.procs.l.length 0):IJ t A 0 (Sl.row [z]):=by
 intro d;have:d∈ins (Sl.row [z])↔d=List.replicate t.procs.l.length 0:=by unfold ins;rw[←hz];exact List.mem_singleton
 rw[this];constructor
 ·rintro rfl;exact⟨GL,by rw[FC];rfl⟩
 ·rintro⟨hC,hs⟩;refine List.ext_getElem? fun i=>?_
  rw[List.getElem?_replicate,←hC.1.1];split
  ·rename_i hi;have h:=ζd hi;rw[h,Da hC.1.pos (by simpa using hs) i _ h]
  ·exact List.getElem?_eq_none (by omega)
theorem IJ.none (hV:VT t) (hM:dS t (aM t) A) {k:Nat} {s:Sl (Sl Int)} (h:IJ t A k s) (he:s.l.length=0) {d:List Int} (hD:Cons t A d):d.sum<(k:Int):=by
 refine Classical.byContradiction fun hge=>?_
 have h0:=rJ hD.1.pos;obtain⟨c,hC,hs⟩:=Cons.BD hV hM (d.sum.toNat-k) (k:=k) hD (by omega)
 have:=(h c).2 ⟨hC,hs⟩;obtain⟨x,hx,_⟩:=FE.1 this;have:=List.length_pos_of_mem hx;omega
theorem IJ.last {s:Sl (Sl Int)} (h:IJ t A (qd t+1) s):s.l.length=0:=by
 refine Classical.byContradiction fun hne=>?_
 have hx:=List.getElem_mem (show 0<s.l.length by omega)
 have:=(h s.l[0].l).1 (FE.2 ⟨_,hx,rfl⟩);have:=this.1.1.sum;omega
theorem ZJ {α:Type} (s:Sl α):decide ((len s)>0) = !decide (s.l.length=0):=by
 by_cases h:s.l.length=0
 ·simp[len,h]
 ·simp[h,len];omega
end
end Go.VE
namespace Go.VE
def ij:List Int→List Int→Int
 | [],[]=>0
 | [],_::_=>-1
 | _::_,[]=>1
 | x::a,y::b=>if x<y then -1 else if x>y then 1 else ij a b
theorem w_:∀a,ij a a=0
 | []=>rfl
 | x::a=>by simp[ij,w_ a]
theorem A4:∀a b c,ij a b<0→ij b c<0→ij a c<0
 | [],[],_,h,_=>by simp[ij]at h
 | [],_::_,[],_,h=>by simp[ij]at h
 | [],_::_,_::_,_,_=>by simp[ij]
 | _::_,[],_,h,_=>by simp[ij]at h
 | _::_,_::_,[],_,h=>by simp[ij]at h
 | x::a,y::b,z::c,h1,h2=>by
  have ih:=A4 a b c;simp only[ij]at h1 h2 ⊢;split at h1
  ·split at h2
   ·rw[if_pos (by omega)];omega
   ·split at h2
    ·omega
    ·rw[if_pos (by omega)];omega
  ·split at h1
   ·omega
   ·split at h2
    ·rw[if_pos (by omega)];omega
    ·split at h2
     ·omega
     ·rw[if_neg (by omega),if_neg (by omega)];exact ih h1 h2
theorem AF:∀a b,¬ij a b<0→¬ij b a<0→a=b
 | [],[],_,_=>rfl
 | [],_::_,h,_=>by simp[ij]at h
 | _::_,[],_,h=>by simp[ij]at h
 | x::a,y::b,h1,h2=>by
  have ih:=AF a b;simp only[ij]at h1 h2;split at h1
  ·omega
  ·split at h2
   ·omega
   ·rw[ih (by first|assumption|(split at h1 <;> first|assumption|omega)) (by first|assumption|(split at h2 <;> first|assumption|omega)),show x=y from by omega]
theorem KC (a b c:List Int) (h1:¬ij a b<0) (h2:¬ij b c<0):¬ij a c<0:=fun h=>by
 by_cases h3:ij b a<0
 ·exact h2 (A4 b a c h3 h)
 ·rw[AF a b h1 h3]at h;exact h2 h
theorem Zh {α:Type} {s:Sl α} {p:α→α→Option Int} {f:α→List Int} (hp:∀x y,x∈s.l→y∈s.l→p x y=some (ij (f x) (f y))) (hl:s.l.length<2147483648):∃r,VO s p=some r∧r.l.Perm s.l∧r.l.Pairwise fun x y=>¬ij (f y) (f x)<0:=by
 unfold VO;split
 ·rename_i h;exact⟨s,rfl,List.Perm.refl _,by rw[h];exact List.Pairwise.nil⟩
 ·rename_i x l h;rw[if_pos (by rw[h]at hl;simp at hl;omega)]
  simp only;have ht:∀i j:_root_.Fin (l.length+1),p (x::l)[i.1] (x::l)[j.1]=some (ij (f (x::l)[i.1]) (f (x::l)[j.1])):=fun i j=>hp _ _ (by rw[h];exact List.getElem_mem _) (by rw[h];exact List.getElem_mem _)
  have hlt:(qW fun i j:_root_.Fin (l.length+1)=>p (x::l)[i.1] (x::l)[j.1])=fun i j=>decide (ij (f (x::l)[i.1]) (f (x::l)[j.1])<0):=by
   funext i j;unfold qW;show decide ((p _ _).getD 0<0)=_;rw[ht];rfl
  have hok:Av (fun i j:_root_.Fin (l.length+1)=>p (x::l)[i.1] (x::l)[j.1])=true:=by
   have hl':∀i j,qW (fun i j:_root_.Fin (l.length+1)=>p (x::l)[i.1] (x::l)[j.1]) i j=decide (ij (f (x::l)[i.1]) (f (x::l)[j.1])<0):=fun i j=>by rw[hlt]
   refine List.all_eq_true.2 fun i _=>Bool.and_eq_true_iff.2 ⟨by rw[hl',w_];rfl,List.all_eq_true.2 fun j _=>Bool.and_eq_true_iff.2 ⟨by show (p _ _).isSome=true;rw[ht];rfl,List.all_eq_true.2 fun k _=>Bool.and_eq_true_iff.2 ⟨?_,?_⟩⟩⟩
   ·have:=A4 (f (x::l)[i.1]) (f (x::l)[j.1]) (f (x::l)[k.1]);rw[hl',hl',hl'];simp only[Bool.or_eq_true,Bool.not_eq_true',Bool.and_eq_false_iff,decide_eq_true_eq,decide_eq_false_iff_not];omega
   ·have:=KC (f (x::l)[i.1]) (f (x::l)[j.1]) (f (x::l)[k.1]);rw[hl',hl',hl'];simp only[Bool.or_eq_true,Bool.not_eq_true',decide_eq_true_eq,decide_eq_false_iff_not];omega
  rw[if_pos hok];have hswo:=(vu hok).2;have hs:=Sort.pdq_sorts _ hswo (List.finRange (l.length+1)).toArray 0 (l.length+1) (Lib.bitLen (l.length+1)) true true (Nat.zero_le _) (by simp) (Or.inl rfl)
  rw[←De]at hs;generalize An l.length _=d at hs;obtain⟨⟨hsz,_,hperm⟩,hsort⟩:=hs;have hsz:d.size=l.length+1:=by simpa using hsz
  have hre:∀y:List α,(s.re y).l=y:=fun y=>by cases s <;> first|rfl|(simp[Sl.l]at h)
  refine⟨_,rfl,?_,?_⟩
  ·rw[hre,h];have h1:d.extract 0 (l.length+1)=d:=Array.ext (by simp[hsz]) fun i h1 h2=>by simp
   rw[h1]at hperm;have h2:((List.finRange (l.length+1)).toArray.extract 0 (l.length+1)).toList=List.finRange (l.length+1):=by simp[List.take_of_length_le]
   rw[h2]at hperm;refine(hperm.map _).trans ?_;rw[show (List.finRange (l.length+1)).map (fun i=>(x::l)[i.1])=x::l from ?_]
   exact List.ext_getElem (by simp) fun i h1 h2=>by simp
  ·rw[hre,List.pairwise_map,List.pairwise_iff_getElem];intro i j hi hj hij;have:=hsort i j (Nat.zero_le _) hij (by simpa [hsz]using hj)
   rw[hlt]at this;simp only[Array.length_toList]at hi hj;simp only[getElem!_pos d i hi,getElem!_pos d j hj,decide_eq_false_iff_not]at this;simpa using this
end Go.VE
namespace Go.VE
theorem Y2 {α:Type} {s:Sl α} {p:α→α→Option Bool} {f:α→List Int} (hp:∀x y,x∈s.l→y∈s.l→p x y=some (decide (f x=f y))) (hl:s.l.length<2147483648) (hs:s.l.Pairwise fun x y=>¬ij (f y) (f x)<0) :
 ∃r,Tp s p=some r∧(r.l.map f).Nodup∧(∀d,d∈r.l.map f↔d∈s.l.map f)∧r.l.length≤s.l.length:=by
 have hn:∀i,i<s.l.length→0<i→∃(h1:i<s.l.length) (h2:i-1<s.l.length),zN s.l p i=some (decide (f s.l[i]=f s.l[i-1])):=fun i h h0=>by
  refine⟨h,by omega,?_⟩
  unfold zN;rw[ζd h,ζd (show i-1<s.l.length by omega)]
  exact hp _ _ (List.getElem_mem _) (List.getElem_mem _)
 unfold Tp;rw[if_pos ⟨by omega,List.all_eq_true.2 fun i hi=>by
  by_cases h:i=0
  ·subst h;rfl
  ·obtain⟨_,_,e⟩:=hn i (List.mem_range.1 hi) (by omega)
   rw[e];simp⟩]
 have hcut:∀y:List α,(s.l=[]→y=[])→(s.Gn y).l=y:=fun y hy=>by cases s <;> first|rfl|exact(hy rfl).symm
 have hK:∀i,i∈kept (fun i=>(zN s.l p i).getD false) s.l.length↔i<s.l.length∧(i=0∨(zN s.l p i).getD false=false):=fun i=>by unfold kept;simp[List.mem_filter]
 have hlen:=E4 (fun i=>(zN s.l p i).getD false) s.l.length
 have hpw:(kept (fun i=>(zN s.l p i).getD false) s.l.length).Pairwise (·<·):=by unfold kept;exact List.pairwise_lt_range.filter _
 generalize kept (fun i=>(zN s.l p i).getD false) s.l.length=K at *
 have hre:(s.Gn (K.filterMap (s.l[·]?))).l=K.filterMap (s.l[·]?):=hcut _ fun h=>by rw[h];simp
 refine⟨_,rfl,?_,fun d=>?_,?_⟩
 ·rw[hre,List.Nodup,List.pairwise_map,List.pairwise_filterMap];refine hpw.imp_of_mem ?_;intro i j hi hj hij x hx y hy hxy;obtain⟨hjl,hj0⟩:=(hK j).1 hj;obtain⟨h1,h2,e⟩:=hn j hjl (by omega)
  rw[e]at hj0;have hne:¬f s.l[j]=f s.l[j-1]:=by
   rcases hj0 with h|h
   ·omega
   ·simpa using h
  rw[ζd h1]at hy;cases hy;have hil:i<s.l.length:=by omega
  rw[ζd hil]at hx;cases hx;have hpi:=List.pairwise_iff_getElem.1 hs;have a1:=hpi (j-1) j h2 h1 (by omega)
  refine hne (AF _ _ a1 ?_)
  by_cases e2:i=j-1
  ·subst e2;rw[←hxy,w_];omega
  ·have a2:=hpi i (j-1) hil h2 (by omega)
   rw[hxy]at a2;exact a2
 ·rw[hre];simp only[List.mem_map,List.mem_filterMap];constructor
  ·rintro⟨x,⟨i,_,hx⟩,rfl⟩;exact⟨x,List.mem_of_getElem? hx,rfl⟩
  ·rintro⟨x,hx,rfl⟩;obtain⟨i,hi⟩:=List.mem_iff_getElem?.1 hx;have key:∀(i:Nat) x,s.l[i]? = some x→∃y,(∃j,j∈K∧s.l[j]? = some y)∧f y=f x:=by
    intro i
    induction i with
    | zero=>intro x hx;exact⟨x,⟨0,(hK 0).2 ⟨(ζe.1 hx).1,.inl rfl⟩,hx⟩,rfl⟩
    | succ i ih=>
     intro x hx;have hlt:=(ζe.1 hx).1;obtain⟨h1,h2,e⟩:=hn (i+1) hlt (by omega)
     have hxe:s.l[i+1]=x:=(ζe.1 hx).2
     by_cases hg:f s.l[i+1]=f s.l[i+1-1]
     ·obtain⟨y,hy,hf⟩:=ih _ (ζd (show i<s.l.length by omega))
      exact⟨y,hy,by rw[hf,←hxe];exact hg.symm⟩
     ·exact⟨x,⟨i+1,(hK _).2 ⟨hlt,.inr (by rw[e];simpa using hg)⟩,hx⟩,rfl⟩
   exact key i x hi
 ·rw[hre];exact Nat.le_trans (List.length_filterMap_le ..) hlen
theorem LH {a b:Sl Int} (hl:a.l.length<1073741824):c_ a b=some (decide (a.l=b.l)):=by
 refine Wp.eq ?_;unfold c_;rw[aU];refine⟨fun h=>?_,fun h=>(ai _).2 ?_⟩
 ·have h:(a.l.length:Int)=b.l.length:=by simpa [len]using h
  have h:a.l.length=b.l.length:=by omega
  unfold c_.W1;refine mC a.l.length (fun n s=>s=(n:Int)∧∀i,i<n→a.l[i]? = b.l[i]?) ⟨rfl,fun i h=>absurd h (by omega)⟩ ?_ ?_
  ·rintro n _ hlt ⟨rfl,hI⟩;unfold c_.aD;have hb:n<b.l.length:=by omega
   rw[show decide ((n:Int)<len a)=true from nD hlt,aY,aO hlt,ζb,aO hb,ζb,aU];refine⟨fun he=>(ai _).2 ⟨bR n (by omega),fun i hi=>?_⟩,fun he=>(ai _).2 ((ai _).2 ?_)⟩
   ·by_cases e:i=n
    ·subst e;rw[ζd hlt,ζd hb];simpa using he
    ·exact hI i (by omega)
   ·refine(decide_eq_false fun e=>?_).symm
    have h1:a.l[n]? = b.l[n]? := by rw[e]
    rw[ζd hlt,ζd hb]at h1;simp at he h1;exact he h1
  ·rintro _ ⟨rfl,hI⟩;unfold c_.aD;rw[oI,bG,ai];refine(ai _).2 (decide_eq_true (List.ext_getElem? fun i=>?_)).symm
   by_cases hi:i<a.l.length
   ·exact hI i hi
   ·rw[List.getElem?_eq_none (by omega),List.getElem?_eq_none (by omega)]
 ·refine(decide_eq_false fun e=>?_).symm
  simp[len,e]at h
end Go.VE
namespace Go.VE
section
variable {t:Trace} {A:bq 200 aH}
def ZF (A:bq 200 aH) (e:Event):aa:=if e.kind=3 then(ag A e.message).from_ else ⟨0,0⟩
end
end Go.VE
namespace Go.VE
section
variable {t:Trace} {A:bq 200 aH}
structure Z5 (t:Trace) (A:bq 200 aH) (k:Nat) (o:Sl (Sl (Sl Int))):Prop where
 nd:(o.l.flatMap ins).Nodup
 mem:∀d,d∈o.l.flatMap ins↔Cons t A d∧d.sum<(k:Int)
end
end Go.VE
namespace Go.VE
def XM (c d:List Int):Prop:=∀(p:Nat) (a b:Int),c[p]? = some a→d[p]? = some b→a≤b
section
variable {t:Trace} {A:bq 200 aH}
end
end Go.VE
namespace Go.VE
theorem VV {S:List Int} (hu:Up S) {i:Nat} {k x:Int} (hk:S[i]? = some k):k≤x↔i<S.countP (fun a=>decide (a≤x)):=by
 have hi:=(ζe.1 hk).1;have hs:S.countP (fun a=>decide (a≤x))=(S.take i).countP (fun a=>decide (a≤x))+(S.drop i).countP (fun a=>decide (a≤x)):=by
  rw[←List.countP_append,List.take_append_drop]
 have hd:S.drop i=k::S.drop (i+1):=by rw[List.drop_eq_getElem_cons hi];congr 1;exact(ζe.1 hk).2
 constructor
 ·intro hx;have h1:(S.take i).countP (fun a=>decide (a≤x))=i:=by
   rw[List.countP_eq_length.2 ?_,List.length_take];omega;intro a ha;obtain⟨j,hj⟩:=List.mem_iff_getElem?.1 ha;rw[List.getElem?_take]at hj;split at hj
   ·rename_i hji;have:=hu j i a k hji hj hk;simp;omega
   ·cases hj
  rw[hs,h1,hd,List.countP_cons];simp[hx]
 ·intro h;refine Classical.byContradiction fun hx=>?_
  have h1:(S.drop i).countP (fun a=>decide (a≤x))=0:=by
   rw[List.countP_eq_zero];intro a ha;obtain⟨j,hj⟩:=List.mem_iff_getElem?.1 ha;rw[List.getElem?_drop]at hj
   by_cases h0:j=0
   ·subst h0;rw[Nat.add_zero,hk]at hj;cases hj;simpa using hx
   ·have:=hu i (i+j) k a (by omega) hk hj;simp;omega
  have:=List.countP_le_length (p:=fun a=>decide (a≤x)) (l:=S.take i)
  rw[List.length_take]at this;omega
theorem SO (f:Event→Bool):∀(l:List Event) (j:Int) (a:Int),a∈mT f j l→a≤j+l.length
 | [],j,a,h=>by simp[mT]at h
 | x::l,j,a,h=>by
  have ih:=SO f l (j+1) a;simp only[mT]at h;split at h
  ·rcases List.mem_cons.1 h with h|h
   ·subst h;simp;omega
   ·have:=ih h;simp;omega
  ·have:=ih h;simp;omega
section
variable {t:Trace} {A:bq 200 aH}
def y8 (t:Trace) (p q:Nat) (d:List Int):Nat:=match t.procs.l[p]?,d[p]? with
 | some P,some a=>(P.events.l.take a.toNat).countP (jP q)
 | _,_=>0
theorem WD {c d:List Int} (hC:Cons t A c) (hD:Cons t A d) (hle:XM c d) {p q:Nat} (hp:p<t.procs.l.length) (hq:q<t.procs.l.length) (hn:y8 t p q d≤y8 t p q c):under t d p q≤under t c p q:=by
 obtain⟨a,ha⟩:=hC.1.at_ hp;obtain⟨b,hb⟩:=hC.1.at_ hq;obtain⟨a',ha'⟩:=hD.1.at_ hp;obtain⟨b',hb'⟩:=hD.1.at_ hq;have h1:=ζd hp;have h2:=ζd hq;unfold y8 at hn;unfold under;rw[h1,ha,ha']at hn;rw[h1,h2,ha,hb,ha',hb'];simp only at hn ⊢;have hbb:=hle q b b' hb hb';have hm:(t.procs.l[q].events.l.take b.toNat).countP (kj p)≤(t.procs.l[q].events.l.take b'.toNat).countP (kj p):=by
  have:t.procs.l[q].events.l.take b.toNat=(t.procs.l[q].events.l.take b'.toNat).take b.toNat:=by rw[List.take_take,Nat.min_eq_left (by omega)]
  rw[this];exact(List.take_sublist _ _).countP_le
 omega
theorem Zv {d:List Int} (hD:jX t d) {p:Nat} (hp:p<t.procs.l.length) {q i:Nat} {k a:Int} (hk:(mT (jP q) 0 t.procs.l[p].events.l)[i]? = some k) (ha:d[p]? = some a):k≤a↔i<y8 t p q d:=by
 have h0:=hD.pos p a ha;rw[VV (Dj _ _ 0) hk];have:=wX (jP q) t.procs.l[p].events.l 0 a.toNat;rw[show (0:Int)+(a.toNat:Nat)=a from by omega]at this
 rw[this];unfold y8;rw[ζd hp,ha]
theorem ZD {d:List Int} (hD:jX t d) {p:Nat} (hp:p<t.procs.l.length) (q:Nat):y8 t p q d≤(mT (jP q) 0 t.procs.l[p].events.l).length:=by
 obtain⟨a,ha⟩:=hD.at_ hp;have h0:=hD.pos p a ha;have:=wX (jP q) t.procs.l[p].events.l 0 a.toNat;unfold y8;rw[ζd hp,ha];simp only;rw[←this];exact List.countP_le_length
end
end Go.VE
namespace Go.VE
section
variable {t:Trace} {A:bq 200 aH}
theorem X6 (hS:Small t) (hv:bZ t=some true) (hV:VT t) (hM:dS t (aM t) A) {c:Sl Int} (hC:Cons t A c.l) {p q:Nat} (hp:p<t.procs.l.length) (hq:q<t.procs.l.length) :
 a_ t (Sl.row [c]:Sl (Sl Int)) (Sl.row [(p:Int),(q:Int)]:Sl Int)=some 0:=by
 refine Wp.eq ?_;have hcl:=hC.1.1;unfold a_ qZ;rw[hv,ζb,aY,pe (f:=fun z=>(dB z t).getD false) (fun z _=>lQ.ok ((ai _).2 trivial)) (by simp[Sl.l]),ζb,ζb,ζb]
 have hany:(!((Sl.row [c]:Sl (Sl Int)).l.any fun z=>(dB z t).getD false))=true:=by
  simp[Sl.l,dB,len,hcl] <;> exact congrArg Int.ofNat hcl
 rw[hany,aY];unfold a_.W1;refine mC 1 (fun n s=>s=(n:Int)) rfl ?_ ?_
 ·rintro n _ hn rfl;obtain rfl:n=0:=by omega
  unfold a_.aD;rw[show decide (((0:Nat):Int)<len (Sl.row [c]:Sl (Sl Int)))=true from rfl,aY,show idx (Sl.row [c]:Sl (Sl Int)) ((0:Nat):Int)=some c from rfl,ζb,dx];refine(uZ hS hcl).mono fun b hb=>?_
  rw[hb.2 hC.1,aY];exact(ai _).2 rfl
 ·rintro _ rfl;unfold a_.aD;rw[show decide (((1:Nat):Int)<len (Sl.row [c]:Sl (Sl Int)))=false from rfl,bG,ai];have proc:∀r:Nat,r<t.procs.l.length→qx t r=some true:=fun r hr=>by
   unfold qx;rw[show decide ((r:Int)≥0)=true from by simp,aY,nD hr];rfl
  show Wp (a_.W2 (Sl.row [c]) (Sl.row [(p:Int),(q:Int)]) 2 0 t) _;unfold a_.W2;refine mC 2 (fun n s=>s=(n:Int)) rfl ?_ ?_
  ·rintro n _ hn rfl;unfold a_.bg;rw[show decide ((n:Int)<2)=true from by simp;omega,aY]
   have hx:∃r:Nat,idx (Sl.row [(p:Int),(q:Int)]) (n:Int)=some (r:Int)∧r<t.procs.l.length:=by
    rcases (show n=0∨n=1 by omega)with rfl|rfl
    ·exact⟨p,rfl,hp⟩
    ·exact⟨q,rfl,hq⟩
   obtain⟨r,h1,h2⟩:=hx;rw[h1,ζb,proc r h2,ζb,aY];exact(ai _).2 (bR n (by omega))
  ·rintro _ rfl;unfold a_.bg;rw[show decide (((2:Nat):Int)<2)=false from rfl,bG,ai];show Wp (a_.W3 (Sl.row [c]) 1 0 t) _;unfold a_.W3;refine mC 1 (fun n s=>s=(n:Int)) rfl ?_ ?_
   ·rintro n _ hn rfl;obtain rfl:n=0:=by omega
    unfold a_.dw;rw[show decide (((0:Nat):Int)<1)=true from rfl,aY,show idx (Sl.row [c]:Sl (Sl Int)) ((0:Nat):Int)=some c from rfl,ζb];unfold oZ;rw[dx,dx];refine(u_ hS hv hV hM hC.1).mono fun r hr=>?_
    rw[ai,hr.2 hC.2];exact(ai _).2 rfl
   ·rintro _ rfl;unfold a_.dw;rw[show decide (((1:Nat):Int)<1)=false from rfl,bG,ai];exact(ai _).2 rfl
theorem Zd (hS:Small t) (hv:bZ t=some true) (kind m:Int):fJ t kind m=some (match (aM t).find? (jC kind m)with|some x=>(x.1,true)|none=>(⟨0,0⟩,false)):=by
 refine Wp.eq ?_;unfold fJ;rw[hv,ζb,aY];unfold gi;rw[ζb];unfold fJ.E1;rw[o7 hS,ζb];refine uF (fun k _=>((aM t).take k).find? (jC kind m)=none) (by simp) ?_ ?_
 ·intro k y _ hy hI;have htk:(aM t).take (k+1)=(aM t).take k++[y]:=by rw[List.take_add_one,hy];rfl
  have hh:(y.2.kind==kind&&y.2.message==m)=jC kind m y:=rfl;unfold fJ.mK;rw[fS,ζb,hh,aU];constructor
  ·intro hc;refine(ai _).2 ((ai _).2 ?_);have:(aM t).find? (jC kind m)=some y:=by
    rw[←List.take_append_drop (k+1) (aM t),htk,List.find?_append,List.find?_append,hI];simp[hc]
   rw[this]
  ·intro hc;rw[ai,htk,List.find?_append,hI];simp[hc]
 ·intro _ hI;rw[List.take_length]at hI;exact(ai _).2 (by rw[hI])
end
end Go.VE
namespace Go.VE
theorem ZG {a b:Sl Int} (hn:a.l.length=b.l.length) (hl:a.l.length<1073741824):Wp (cI a b) fun r=>(r=true↔XM a.l b.l):=by
 unfold cI;rw[show (len a==len b)=true from by simp[len,hn],aY]
 unfold cI.W1;refine mC a.l.length (fun n s=>s=(n:Int)∧∀(p:Nat) x y,p<n→a.l[p]? = some x→b.l[p]? = some y→x≤y) ⟨rfl,fun p x y h=>absurd h (by omega)⟩ ?_ ?_
 ·rintro n _ hlt ⟨rfl,hI⟩;have hb:n<b.l.length:=by omega
  unfold cI.aD;rw[show decide ((n:Int)<len a)=true from nD hlt,aY,aO hlt,ζb,aO hb,ζb,aU];constructor
  ·intro h;have h:a.l[n]>b.l[n]:=by simpa using h
   refine(ai _).2 ((ai _).2 ⟨fun h=>(by cases h),fun k=>?_⟩)
   have:=k n _ _ (ζd hlt) (ζd hb);omega
  ·intro h;have h:¬a.l[n]>b.l[n]:=by simpa using h
   refine(ai _).2 ⟨bR n (by omega),fun p x y hp hx hy=>?_⟩
   by_cases e:p=n
   ·subst e;rw[ζd hlt]at hx;rw[ζd hb]at hy;cases hx;cases hy;omega
   ·exact hI p x y (by omega) hx hy
 ·rintro _ ⟨rfl,hI⟩;unfold cI.aD;rw[oI,bG,ai];exact(ai _).2 ⟨fun _ p x y hx hy=>hI p x y (ζe.1 hx).1 hx hy,fun _=>rfl⟩
section
variable {t:Trace} {A:bq 200 aH}
theorem IG (hV:VT t) {p:Nat} {P:bt} (hP:t.procs.l[p]? = some P):P.events.l.length≤64:=by
 have h:=hV.ok.heads p (ζe.1 hP).1;unfold oA at h;rw[hP]at h;simp only at h;split at h
 ·split at h
  ·cases h
  ·split at h
   ·split at h
    ·cases h
    ·omega
   ·rename_i h2;exact absurd h h2
 ·cases h
theorem Zw (hV:VT t):qd t<1073741824:=by
 have key:∀l:List bt,(∀P∈l,P.events.l.length≤64)→(l.map fun P=>P.events.l.length).sum≤64*l.length:=by
  intro l
  induction l with
  | nil=>intro _;simp
  | cons P l ih=>
   intro h;have h1:=h P (List.mem_cons_self ..);have h2:=ih fun Q hQ=>h Q (List.mem_cons_of_mem _ hQ)
   simp only[List.map_cons,List.sum_cons,List.length_cons];omega
 have:=key t.procs.l fun P hP=>by
  obtain⟨p,hp⟩:=List.mem_iff_getElem?.1 hP;exact IG hV hp
 have:=hV.few;unfold qd;omega
theorem Zq {x:Int} {n:Nat} (h0:0≤x) (hn:0<n):RR x (n:Int)=some (((x.toNat % n:Nat)):Int):=by
 unfold RR;rw[if_neg (by omega),Int.tmod_eq_emod_of_nonneg h0]
 congr 1
 rw[Int.natCast_emod,Int.toNat_of_nonneg h0]
end
end Go.VE
namespace Go.VE
abbrev bl (m:Option Bool) (P:Prop):Prop:=Wp m fun b=>(b=true↔P)
theorem bl.eq {m:Option Bool} {P:Prop} (h:bl m P):∃b,m=some b∧(b=true↔P):=h
theorem bl.iff {m:Option Bool} {P Q:Prop} (h:bl m P) (e:P↔Q):bl m Q:=h.mono fun b hb=>hb.trans e
theorem fm {b:Bool} {P:Prop} (h:b=true↔P):bl (some b) P:=(ai _).2 h
theorem bl.some {m:Option Bool} {P:Prop} (h:bl m P):bl (m.bind fun x=>Option.some x) P:=by
 obtain⟨b,hb,h⟩:=h;rw[hb];exact fm h
theorem bl.same {m n:Option Bool} {P:Prop} (h:bl m P) (k:bl n P):∃b,m=Option.some b∧n=Option.some b∧(b=true↔P):=by
 obtain⟨b,hb,h⟩:=h;obtain⟨d,hd,k⟩:=k;have:b=d:=by rw[Bool.eq_iff_iff,h,k]
 subst this;exact⟨b,hb,hd,h⟩
theorem bl.and {m n:Option Bool} {P Q:Prop} (h:bl m P) (k:P→bl n Q) {f:Bool→Option Bool} (hf:∀b,f b=au b (n.bind fun x=>Option.some x) (Option.some false)):bl (m.bind f) (P∧Q):=by
 obtain⟨b,hb,h⟩:=h;rw[hb,ζb,hf]
 cases b with
 | true=>exact((k (h.1 rfl)).some).iff ⟨fun q=>⟨h.1 rfl,q⟩,fun q=>q.2⟩
 | false=>exact fm ⟨fun e=>(nomatch e),fun q=>(h.2 q.1).symm▸rfl⟩
theorem bl.GS {m:Option Bool} {b:Bool} {P Q:Prop} (h:bl m P) (k:P→(b=true↔Q)) {f:Bool→Option Bool} (hf:∀x,f x=au x (Option.some b) (Option.some false)):bl (m.bind f) (P∧Q):=by
 obtain⟨x,hx,h⟩:=h;rw[hx,ζb,hf]
 cases x with
 | true=>exact fm ((k (h.1 rfl)).trans ⟨fun q=>⟨h.1 rfl,q⟩,fun q=>q.2⟩)
 | false=>exact fm ⟨fun e=>(nomatch e),fun q=>(h.2 q.1).symm▸rfl⟩
theorem bl.Mi {m n:Option Bool} {P Q:Prop} (h:bl m (¬P)) (k:P→bl n Q) {f:Bool→Option Bool} (hf:∀b,f b=au b (Option.some true) (n.bind fun x=>Option.some (!x))):bl (m.bind f) (¬(P∧Q)):=by
 obtain⟨b,hb,h⟩:=h;rw[hb,ζb,hf]
 cases b with
 | true=>exact fm ⟨fun _ q=>(h.1 rfl) q.1,fun _=>rfl⟩
 | false=>
  have hp:P:=Classical.byContradiction fun hn=>(nomatch h.2 hn)
  obtain⟨d,hd,k⟩:=k hp;rw[bG,hd,ζb];refine fm ?_
  cases d with
  | true=>exact⟨fun e=>(nomatch e),fun q=>absurd ⟨hp,k.1 rfl⟩ q⟩
  | false=>exact⟨fun _ q=>(nomatch k.2 q.2),fun _=>rfl⟩
theorem bl.Ia {m:Option Bool} {b:Bool} {P Q:Prop} (h:bl m (¬P)) (k:P→(b=true↔Q)) {f:Bool→Option Bool} (hf:∀x,f x=au x (Option.some true) (Option.some (!b))):bl (m.bind f) (¬(P∧Q)):=by
 obtain⟨x,hx,h⟩:=h;rw[hx,ζb,hf]
 cases x with
 | true=>exact fm ⟨fun _ q=>(h.1 rfl) q.1,fun _=>rfl⟩
 | false=>
  have hp:P:=Classical.byContradiction fun hn=>(nomatch h.2 hn)
  rw[bG];refine fm ?_
  cases b with
  | true=>exact⟨fun e=>(nomatch e),fun q=>absurd ⟨hp,(k hp).1 rfl⟩ q⟩
  | false=>exact⟨fun _ q=>(nomatch (k hp).2 q.2),fun _=>rfl⟩
theorem bl.Kd {m n:Option Bool} {P Q:Prop} (h:bl m P) (k:P→bl n Q) {f:Bool→Option Bool} (hf:∀b,f b=au b (n.bind fun x=>Option.some (!x)) (Option.some true)):bl (m.bind f) (¬(P∧Q)):=by
 obtain⟨b,hb,h⟩:=h;rw[hb,ζb,hf]
 cases b with
 | true=>
  obtain⟨d,hd,k⟩:=k (h.1 rfl);rw[aY,hd,ζb];refine fm ?_
  cases d with
  | true=>exact⟨fun e=>(nomatch e),fun q=>absurd ⟨h.1 rfl,k.1 rfl⟩ q⟩
  | false=>exact⟨fun _ q=>(nomatch k.2 q.2),fun _=>rfl⟩
 | false=>exact fm ⟨fun _ q=>(nomatch h.2 q.1),fun _=>rfl⟩
theorem Di {step:Int→Option (Fw Int Unit Unit)} {n:Nat} {P:Nat→Prop} (h:∀i,i<n→(∀j,j<i→P j)→Wp (step (i:Int)) fun w=>P i∧w=.n ((i+1:Nat):Int)∨¬P i∧w=.r ()) (he:(∀j,j<n→P j)→step (n:Int)=some (.x ())) :
 Wp (aW step 0) fun w=>(∀i,i<n→P i)∧w=.x ()∨(¬∀i,i<n→P i)∧w=.r ():=by
 have key:∀m k,k+m=n→(∀j,j<k→P j)→Wp (aW step (k:Int)) fun w=>(∀i,i<n→P i)∧w=.x ()∨(¬∀i,i<n→P i)∧w=.r ():=by
  intro m
  induction m with
  | zero=>
   intro k hk hp;have:k=n:=by omega
   subst this;rw[eZ,he hp,ζb];exact(ai _).2 (.inl ⟨hp,rfl⟩)
  | succ m ih=>
   intro k hk hp;rw[eZ,dx];refine(h k (by omega) hp).mono ?_
   rintro w (⟨h1,rfl⟩|⟨h1,rfl⟩)
   ·exact ih (k+1) (by omega) fun j hj=>by
     rcases Nat.lt_or_eq_of_le (Nat.lt_succ_iff.1 hj)with hj|rfl
     ·exact hp j hj
     ·exact h1
   ·exact(ai _).2 (.inr ⟨fun k2=>h1 (k2 k (by omega)),rfl⟩)
 exact key n 0 (by omega) fun j hj=>absurd hj (by omega)
theorem nZ {step:Int→Option (Fw Int Unit Unit)} {n:Nat} {P:Nat→Prop} (h:∀i,i<n→(∀j,j<i→P j)→Wp (step (i:Int)) fun w=>P i∧w=.n ((i+1:Nat):Int)∨¬P i∧w=.r ()) (he:(∀j,j<n→P j)→step (n:Int)=some (.x ())) :
 bl ((aW step 0).bind (Fw.elim (fun _=>some true) (fun _=>some false))) (∀i,i<n→P i):=by
 rw[bl,dx];refine(Di h he).mono ?_;rintro w (⟨h1,rfl⟩|⟨h1,rfl⟩)
 ·exact fm ⟨fun _=>h1,fun _=>rfl⟩
 ·exact fm ⟨fun e=>(nomatch e),fun h2=>absurd h2 h1⟩
theorem sw {γ:Type} {step:Int→Option (Fw Int Unit Unit)} {n:Nat} {P:Nat→Prop} {fx:Unit→Option γ} {fr:Unit→Option γ} {R:γ→Prop} (h:∀i,i<n→(∀j,j<i→P j)→Wp (step (i:Int)) fun w=>P i∧w=.n ((i+1:Nat):Int)∨¬P i∧w=.r ()) (he:(∀j,j<n→P j)→step (n:Int)=some (.x ()))
 (hx:(∀i,i<n→P i)→Wp (fx ()) R) (hr:(¬∀i,i<n→P i)→Wp (fr ()) R):Wp ((aW step 0).bind (Fw.elim fx fr)) R:=by
 rw[dx];refine(Di h he).mono ?_;rintro w (⟨h1,rfl⟩|⟨h1,rfl⟩)
 ·exact hx h1
 ·exact hr h1
theorem uI {m:Option Bool} {P:Prop} {n:Int} {k:Nat} (h:bl m P) (hn:n=((k+1:Nat):Int)):Wp (m.bind fun x=>au x (some (.n n)) (some (.r ()))) fun w:Fw Int Unit Unit=>P∧w=.n ((k+1:Nat):Int)∨¬P∧w=.r ():=by
 obtain⟨b,hb,h⟩:=h;rw[hb,ζb]
 cases b with
 | true=>exact(ai _).2 (.inl ⟨h.1 rfl,by rw[hn]⟩)
 | false=>exact(ai _).2 (.inr ⟨fun q=>(nomatch h.2 q),rfl⟩)
theorem Fe {b:Bool} {P:Prop} {n:Int} {k:Nat} (h:b=true↔P) (hn:n=((k+1:Nat):Int)):Wp (au b (some (.n n)) (some (.r ()))) fun w:Fw Int Unit Unit=>P∧w=.n ((k+1:Nat):Int)∨¬P∧w=.r ():=by
 cases b with
 | true=>exact(ai _).2 (.inl ⟨h.1 rfl,by rw[hn]⟩)
 | false=>exact(ai _).2 (.inr ⟨fun q=>(nomatch h.2 q),rfl⟩)
theorem HX {b:Bool} {P:Prop} {n:Int} {k:Nat} (h:b=true↔¬P) (hn:n=((k+1:Nat):Int)):Wp (au b (some (.r ())) (some (.n n))) fun w:Fw Int Unit Unit=>P∧w=.n ((k+1:Nat):Int)∨¬P∧w=.r ():=by
 cases b with
 | true=>exact(ai _).2 (.inr ⟨h.1 rfl,rfl⟩)
 | false=>exact(ai _).2 (.inl ⟨Classical.byContradiction fun q=>(nomatch h.2 q),by rw[hn]⟩)
def eH (a b:List Int):Prop:=a.length=b.length∧∀(p:Nat) (x y:Int),a[p]? = some x→b[p]? = some y→x≤y
theorem TX {a b:List Int} (hn:a.length=b.length):(∀i,i<a.length→∀x y,a[i]? = some x→b[i]? = some y→x≤y)↔eH a b:=
 ⟨fun h=>⟨hn,fun p x y hx hy=>h p (ζe.1 hx).1 x y hx hy⟩,fun h i _ x y hx hy=>h.2 i x y hx hy⟩
theorem E7 {a b:Sl Int} (hl:a.l.length<1073741824) {step:Int→Option (Fw Int Unit Unit)}
 (hs:∀i,step i=au (decide (i<len a)) ((idx a i).bind fun x_1=>(idx b i).bind fun x_2=>au (decide (x_1>x_2)) (some (.r ())) (some (.n (IntKind.wrap .i64 (i+1))))) (some (.x ()))) :
 bl (au ((len a)==(len b)) ((aW step 0).bind (Fw.elim (fun _=>some true) (fun _=>some false))) (some false)) (eH a.l b.l):=by
 by_cases hn:a.l.length=b.l.length
 ·rw[show ((len a)==(len b))=true from by simp[len,hn],aY]
  refine(nZ (n:=a.l.length) (P:=fun i=>∀x y,a.l[i]? = some x→b.l[i]? = some y→x≤y) ?_ ?_).iff (TX hn)
  ·intro i hi _;have hb:i<b.l.length:=by omega
   rw[hs,nD hi,aY,aO hi,ζb,aO hb,ζb];refine HX ?_ (bR i (by omega))
   rw[decide_eq_true_eq];constructor
   ·intro h k;have:=k _ _ (ζd hi) (ζd hb);omega
   ·intro h;refine Classical.byContradiction fun h2=>h fun x y hx hy=>?_
    rw[ζd hi]at hx;rw[ζd hb]at hy;cases hx;cases hy;omega
  ·intro _;rw[hs,oI,bG]
 ·rw[show ((len a)==(len b))=false from by simp[len];omega,bG]
  exact fm ⟨fun e=>(nomatch e),fun h=>absurd h.1 hn⟩
theorem wh {a b:Sl Int} (hl:a.l.length<1073741824):bl (cI a b) (eH a.l b.l):=E7 hl fun i=>rfl
theorem A1 {a b:Sl Int} (hl:a.l.length<1073741824):bl (cU a b) (eH a.l b.l):=E7 hl fun i=>rfl
theorem WB {a b:Sl Int} (hl:a.l.length<1073741824):bl (dz a b) (a.l=b.l):=by
 by_cases hn:a.l.length=b.l.length
 ·unfold dz;rw[show ((len a)==(len b))=true from by simp[len,hn],aY]
  unfold dz.W1;refine(nZ (n:=a.l.length) (P:=fun i=>a.l[i]? = b.l[i]?) ?_ ?_).iff ?_
  ·intro i hi _;have hb:i<b.l.length:=by omega
   unfold dz.aD;rw[nD hi,aY,aO hi,ζb,aO hb,ζb];refine Fe ?_ (bR i (by omega))
   rw[ζd hi,ζd hb];simp
  ·intro _;unfold dz.aD;rw[oI,bG]
  ·constructor
   ·intro h;refine List.ext_getElem? fun i=>?_
    by_cases hi:i<a.l.length
    ·exact h i hi
    ·rw[List.getElem?_eq_none (by omega),List.getElem?_eq_none (by omega)]
   ·intro h i _;rw[h]
 ·unfold dz;rw[show ((len a)==(len b))=false from by simp[len];omega,bG]
  exact fm ⟨fun e=>(nomatch e),fun h=>absurd (by rw[h]) hn⟩
theorem WT {a b:Sl Int} (hl:a.l.length<1073741824):bl (c_ a b) (a.l=b.l):=by
 rw[LH hl];exact fm (by simp)
section
variable {t:Trace} {A:bq 200 aH}
theorem Cn (hS:Small t) (hv:bZ t=some true) (hV:VT t) (hM:dS t (aM t) A) (c:Sl Int):bl (gx t c) (Cons t A c.l):=by
 obtain⟨r,hr,h⟩:=Kr hS hv hV hM c;unfold gx;rw[hr,ζb];exact fm (by rw[beq_iff_eq,h];exact Iff.rfl)
theorem Cj (hS:Small t) (hv:fB t=some true) (hV:VT t) (hM:dS t (aM t) A) (c:Sl Int):bl (dh t c) (Cons t A c.l):=by
 unfold dh qy;rw[hv,ζb,aY,ζb,ζb]
 by_cases hcl:c.l.length=t.procs.l.length
 ·rw[show (len c==len t.procs)=true from by simp[len,hcl],aY]
  have hr:bl (iC t c) (jX t c.l):=C7 hS hcl fun i=>rfl
  refine bl.and (P:=jX t c.l) (Q:=iN t A c.l) (n:=dy t c) (bl.some hr) (fun hR=>?_) (f:=fun x_5=>(au x_5 ((dy t c).bind fun x_6=>some x_6) (some false):Option Bool).bind fun x_7=>some x_7) (fun b=>by cases b <;> simp[au])
  exact Ax hS hV hM hR
 ·rw[show (len c==len t.procs)=false from by simp[len];omega]
  exact fm ⟨fun e=>(nomatch e),fun h=>absurd h.1.1 hcl⟩
end
end Go.VE
namespace Go.VE
def nth (l:List Int) (p:Nat):Int:=(l[p]?).getD 0
def lJ (t:Trace) (p:Nat):Nat:=((t.procs.l[p]?).map fun P=>P.events.l.length).getD 0
def sE (s:Slice) (p:Nat):Nat:=((s.j.l[p]?).map fun r=>r.l.length).getD 0
def el (s:Slice) (p i:Nat):List Int:=match s.j.l[p]? with
 | some r=>match r.l[i]? with
  | some c=>c.l
  | none=>[]
 | none=>[]
theorem iF {l:List Int} {p:Nat} (h:p<l.length):nth l p=l[p]:=by unfold nth;rw[ζd h];rfl
theorem mZ {t:Trace} {p:Nat} (h:p<t.procs.l.length):lJ t p=t.procs.l[p].events.l.length:=by unfold lJ;rw[ζd h];rfl
theorem oa {s:Slice} {p:Nat} (h:p<s.j.l.length):sE s p=s.j.l[p].l.length:=by unfold sE;rw[ζd h];rfl
def kO (t:Trace) (A:bq 200 aH) (s:Slice) (p i:Nat):Prop:=
 (nth s.last.l p≤(i:Int)∧(el s p i).length=0)∨((i:Int)<nth s.last.l p∧(((i:Int)<nth s.first.l p∧el s p i=s.first.l)∨(nth s.first.l p≤(i:Int)∧Cons t A (el s p i)∧(i:Int)<nth (el s p i) p∧eH s.first.l (el s p i)∧eH (el s p i) s.last.l)))
def nR (s:Slice) (c:List Int):Prop:=∀p,p<c.length→∀i:Nat,(i:Int)<nth c p→eH (el s p i) c
def uE (t:Trace) (A:bq 200 aH) (s:Slice):Prop:=((((Cons t A s.first.l∧Cons t A s.last.l)∧eH s.first.l s.last.l)∧s.j.l.length=t.procs.l.length)∧∀p,p<t.procs.l.length→sE s p=lJ t p)
def s8 (t:Trace) (A:bq 200 aH) (s:Slice):Prop:=
 (uE t A s∧∀p,p<t.procs.l.length→∀i,i<lJ t p→kO t A s p i)∧∀p,p<t.procs.l.length→∀i:Nat,(i:Int)<nth s.last.l p→nR s (el s p i)
def Dv (s:Slice):Prop:=(s.first.l.length=0∧s.last.l.length=0)∧s.j.l.length=0
def jo (t:Trace) (A:bq 200 aH) (s:Slice):Prop:=s.empty=true∧Dv s∨s.empty=false∧s8 t A s
def kK (s:Slice) (c:List Int):Prop:=((s.empty=false∧eH s.first.l c)∧eH c s.last.l)∧nR s c
structure kn (s:Slice):Prop where
 f:s.first.l.length≤60
 l:s.last.l.length≤60
 j:s.j.l.length≤60
 r:∀r∈s.j.l,r.l.length≤60∧∀c∈r.l,c.l.length≤60
section
variable {t:Trace} {A:bq 200 aH} {s:Slice}
theorem ir {c:List Int} (h:Cons t A c) {p:Nat} (hp:p<t.procs.l.length):0≤nth c p∧nth c p≤lJ t p:=by
 have hc:p<c.length:=by rw[h.1.1];exact hp
 rw[iF hc,mZ hp];exact h.1.2 p _ _ (ζd hc) (ζd hp)
theorem xz {p i:Nat} (hp:p<s.j.l.length) (hi:i<sE s p) (hL:kn s):∃c,iS s ⟨p,((i+1:Nat):Int)⟩=some c∧c.l=el s p i∧c.l.length≤60:=by
 rw[oa hp]at hi;have hr:=(hL.r _ (List.getElem_mem hp));refine⟨s.j.l[p].l[i],?_,?_,hr.2 _ (List.getElem_mem hi)⟩
 ·unfold iS;dsimp only;rw[aO hp,ζb,mm _ (by omega) (by omega),show ((i+1:Nat):Int)-1=(i:Int)from by omega,aO hi,ζb]
 ·unfold el;rw[ζd hp];dsimp only;rw[ζd hi]
theorem rS {c:Sl Int} {f:aa→Option Bool} {g:Nat→Nat→Prop} (hc:c.l.length<1073741824) (hb:∀p,p<c.l.length→nth c.l p<1073741824)
 (h:∀p,p<c.l.length→∀i:Nat,(i:Int)<nth c.l p→bl (f ⟨p,((i+1:Nat):Int)⟩) (g p i)):bl (cO c f) (∀p,p<c.l.length→∀i:Nat,(i:Int)<nth c.l p→g p i):=by
 unfold cO cO.W1;refine nZ (n:=c.l.length) ?_ ?_
 ·intro p hp _;unfold cO.aD;rw[nD hp,aY,aO hp,ζb];unfold cO.W2;have hn:=iF hp;have hb:=hb p hp;rw[hn]at hb
  by_cases h0:c.l[p]≤0
  ·refine sw (n:=0) (P:=fun _=>True) (fun i hi=>absurd hi (by omega)) (fun _=>?_) (fun _=>?_) (fun k=>absurd (fun i hi=>absurd hi (by omega)) k)
   ·unfold cO.bg;rw[show decide (((0:Nat):Int)<c.l[p])=false from by simp;omega,bG]
   ·exact(ai _).2 (.inl ⟨fun i hi=>by rw[hn]at hi;omega,by rw[bR p (by omega)]⟩)
  ·obtain⟨k,hk⟩:∃k:Nat,c.l[p]=(k:Int):=⟨c.l[p].toNat,by omega⟩
   have e:(∀i,i<k→g p i)↔∀i:Nat,(i:Int)<nth c.l p→g p i:=by
    rw[hn,hk];exact⟨fun h i hi=>h i (by omega),fun h i hi=>h i (by omega)⟩
   refine sw (n:=k) (P:=g p) (fun i hi _=>?_) (fun _=>?_) (fun q=>?_) (fun q=>?_)
   ·unfold cO.bg;rw[show decide ((i:Int)<c.l[p])=true from by simp;omega,aY,bR i (by omega)]
    exact uI (h p hp i (by rw[hn];omega)) rfl
   ·unfold cO.bg;rw[show decide ((k:Int)<c.l[p])=false from by simp;omega,bG]
   ·exact(ai _).2 (.inl ⟨e.1 q,by rw[bR p (by omega)]⟩)
   ·exact(ai _).2 (.inr ⟨fun q2=>q (e.2 q2),rfl⟩)
 ·intro _;unfold cO.aD;rw[oI,bG]
theorem yT {c:Sl Int} {p i:Nat} (hp:p<c.l.length):me ⟨p,((i+1:Nat):Int)⟩ c=some (decide ((i:Int)<nth c.l p)):=by
 unfold me;rw[aO hp,ζb,iF hp];exact congrArg some (decide_eq_decide.2 (by dsimp only;omega))
theorem Ec (hS:Small t) (hv:bZ t=some true) (hV:VT t) (hM:dS t (aM t) A) (hL:kn s) (hs:uE t A s) {p i:Nat} (hp:p<t.procs.l.length) (hi:i<lJ t p) :
 bl (qG t s ⟨p,((i+1:Nat):Int)⟩) (kO t A s p i):=by
 obtain⟨⟨⟨⟨h1,h2⟩,h3⟩,h4⟩,h5⟩:=hs;obtain⟨c,hc,hce,hcl⟩:=xz (s:=s) (p:=p) (i:=i) (by omega) (by rw[h5 p hp];exact hi) hL
 have hl:p<s.last.l.length:=by rw[h2.1.1];exact hp
 have hf:p<s.first.l.length:=by rw[h1.1.1];exact hp
 have hL1:=hL.f;have hL2:=hL.l;unfold qG;rw[hc,ζb,yT hl,ζb];unfold kO;rw[←hce]
 by_cases hlt:(i:Int)<nth s.last.l p
 ·rw[decide_eq_true hlt,aY,yT hf,ζb]
  by_cases hft:(i:Int)<nth s.first.l p
  ·rw[decide_eq_true hft,aY];refine((WT (a:=c) (b:=s.first) (by omega)).some).iff ?_
   exact⟨fun h=>.inr ⟨hlt,.inl ⟨hft,h⟩⟩,fun h=>by rcases h with h|⟨_,h|h⟩ <;> first|exact h.2|omega⟩
  ·rw[decide_eq_false hft,bG];have k1:=Cn hS hv hV hM c;have k2:=bl.and (Q:=(i:Int)<nth c.l p) k1 (n:=me ⟨p,((i+1:Nat):Int)⟩ c) (fun hC=>by rw[yT (by rw[hC.1.1];exact hp)];exact fm (by simp)) (f:=fun x_5=>(au x_5 ((me ⟨p,((i+1:Nat):Int)⟩ c).bind fun x_6=>some x_6) (some false):Option Bool)) (fun b=>rfl)
   have k3:=bl.and k2 (Q:=eH s.first.l c.l) (n:=cI s.first c) (fun _=>wh (by omega)) (f:=fun x_7=>(au x_7 ((cI s.first c).bind fun x_8=>some x_8) (some false):Option Bool)) (fun b=>rfl)
   have k4:=bl.and k3 (Q:=eH c.l s.last.l) (n:=cI c s.last) (fun _=>wh (by omega)) (f:=fun x_9=>(au x_9 ((cI c s.last).bind fun x_10=>some x_10) (some false):Option Bool)) (fun b=>rfl)
   have k5:=k4.some;simp only[Option.bind_assoc]at k5 ⊢;refine k5.iff ?_;exact⟨fun⟨⟨⟨a,b⟩,d⟩,e⟩=>.inr ⟨hlt,.inr ⟨by omega,a,b,d,e⟩⟩,fun h=>by rcases h with h|⟨_,h|⟨_,a,b,d,e⟩⟩ <;> first|exact⟨⟨⟨a,b⟩,d⟩,e⟩|omega⟩
 ·rw[decide_eq_false hlt,bG];refine fm ?_;rw[beq_iff_eq];simp only[len];exact⟨fun h=>.inl ⟨by omega,by omega⟩,fun h=>by rcases h with h|h <;> omega⟩
theorem Dm (hS:Small t) (hv:bZ t=some true) (hV:VT t) (hM:dS t (aM t) A) (hL:kn s):bl (fA t s) (uE t A s):=by
 have hL1:=hL.f;have hL2:=hL.l;have hL3:=hL.j;unfold fA;have k1:=Cn hS hv hV hM s.first
 have k2:=bl.Kd k1 (Q:=Cons t A s.last.l) (fun _=>Cn hS hv hV hM s.last) (f:=fun x_1=>(au x_1 ((gx t s.last).bind fun x_2=>some (!x_2)) (some true):Option Bool)) (fun b=>rfl)
 have k3:=bl.Mi k2 (Q:=eH s.first.l s.last.l) (fun _=>wh (a:=s.first) (b:=s.last) (by omega)) (f:=fun x_3=>(au x_3 (some true) ((cI s.first s.last).bind fun x_4=>some (!x_4)):Option Bool)) (fun b=>rfl)
 have k4:=bl.Ia k3 (Q:=s.j.l.length=t.procs.l.length) (b:=((len s.j)==(len t.procs))) (fun _=>by rw[beq_iff_eq];simp only[len];omega) (f:=fun x_5=>(au x_5 (some true) (some (!((len s.j)==(len t.procs)))):Option Bool)) (fun b=>rfl)
 simp only[Option.bind_assoc]at k4 ⊢;obtain⟨b,hb,h⟩:=k4;simp only[←Option.bind_assoc]at hb ⊢;rw[hb,ζb]
 cases b with
 | true=>exact fm ⟨fun e=>(nomatch e),fun q=>absurd q.1 (h.1 rfl)⟩
 | false=>
  have hh:((Cons t A s.first.l∧Cons t A s.last.l)∧eH s.first.l s.last.l)∧s.j.l.length=t.procs.l.length:=Classical.byContradiction fun q=>(nomatch h.2 q)
  rw[bG];unfold fA.W1;refine(nZ (n:=s.j.l.length) (P:=fun p=>sE s p=lJ t p) ?_ ?_).iff ?_
  ·intro p hp _;have hp2:p<t.procs.l.length:=by rw[←hh.2];exact hp
   unfold fA.aD;rw[nD hp,aY,aO hp,ζb,aO hp2,ζb];refine Fe ?_ (bR p (by omega))
   rw[beq_iff_eq,oa hp,mZ hp2];simp only[len];omega
  ·intro _;unfold fA.aD;rw[oI,bG]
  ·exact⟨fun q=>⟨hh,fun p hp=>q p (by rw[hh.2];exact hp)⟩,fun q p hp=>q.2 p (by rw[←hh.2];exact hp)⟩
theorem Lj (hS:Small t) (hV:VT t):∃c,eT t=some c∧c.l.length=t.procs.l.length∧∀p,p<t.procs.l.length→nth c.l p=lJ t p:=by
 have h8:=hV.few;unfold eT eT.W1;refine mC (P:=fun c:Sl Int=>c.l.length=t.procs.l.length∧∀p,p<t.procs.l.length→nth c.l p=lJ t p) t.procs.l.length (fun i (s:Sl Int×Int)=>s.2=(i:Int)∧s.1.l.length=i∧∀p,p<i→nth s.1.l p=lJ t p) ⟨rfl,rfl,fun p hp=>absurd hp (by omega)⟩ ?_ ?_
 ·rintro i ⟨o,_⟩ hi ⟨e,h1,h2⟩;simp only at e h1 h2;subst e;unfold eT.aD;rw[nD hi,aY,aO hi,ζb];obtain⟨r,hr,hrl⟩:=MJ (s:=o) (x:=len t.procs.l[i].events) (by omega)
  rw[hr,ζb,ai];refine⟨bR i (by omega),by rw[hrl];simp[h1],fun p hp=>?_⟩
  show nth r.l p=_;rw[hrl]
  by_cases e:p=i
  ·subst e;unfold nth;rw[List.getElem?_append_right (by omega),h1,Nat.sub_self,mZ hi];rfl
  ·unfold nth;rw[List.getElem?_append_left (by omega)]
   exact h2 p (by omega)
 ·rintro⟨o,_⟩ ⟨e,h1,h2⟩;simp only at e h1 h2;subst e;unfold eT.aD;rw[oI,bG,ai];exact(ai _).2 ⟨h1,h2⟩
theorem Ay (hS:uE t A s) (h:∀p,p<t.procs.l.length→∀i,i<lJ t p→kO t A s p i) {p i:Nat} (hp:p<t.procs.l.length) (hi:(i:Int)<nth s.last.l p):i<lJ t p∧Cons t A (el s p i):=by
 have h2:=ir hS.1.1.1.2 hp;have hie:i<lJ t p:=by omega
 refine⟨hie,?_⟩;rcases h p hp i hie with k|⟨_,k|k⟩
 ·omega
 ·rw[k.2];exact hS.1.1.1.1
 ·exact k.2.1
theorem Se (hS:Small t) (hv:bZ t=some true) (hV:VT t) (hM:dS t (aM t) A) (hL:kn s):bl (kW t s) (jo t A s):=by
 have h8:=hV.few;have hev:∀p,p<t.procs.l.length→lJ t p<1073741824:=fun p hp=>by rw[mZ hp];exact(hS.2 _ (List.getElem_mem hp)).1
 unfold kW;rw[hv,ζb,aY]
 cases he:s.empty with
 | true=>
  rw[aY];have k1:=bl.GS (m:=some (len s.first==0)) (P:=s.first.l.length=0) (fm (by rw[beq_iff_eq];simp only[len];omega)) (b:=(len s.last==0)) (Q:=s.last.l.length=0) (fun _=>by rw[beq_iff_eq];simp only[len];omega) (f:=fun x=>(au x (some (len s.last==0)) (some false):Option Bool)) (fun b=>rfl)
  have k2:=bl.GS k1 (b:=(len s.j==0)) (Q:=s.j.l.length=0) (fun _=>by rw[beq_iff_eq];simp only[len];omega) (f:=fun x=>(au x (some (len s.j==0)) (some false):Option Bool)) (fun b=>rfl)
  rw[ζb]at k2;have k:=(bl.some k2).iff (Q:=jo t A s) (by unfold jo Dv;rw[he];simp)
  rw[Option.bind_assoc]at k;exact k
 | false=>
  rw[bG];have k1:=Dm hS hv hV hM hL;obtain⟨c,hc,hc1,hc2⟩:=Lj hS hV;have k2:=bl.Kd k1 (Q:=∀p,p<t.procs.l.length→∀i,i<lJ t p→kO t A s p i) (n:=(eT t).bind fun x_5=>cO x_5 (fun z=>kg z t s)) (fun hs=>by
   rw[hc,ζb];refine(rS (g:=kO t A s) (by omega) (fun p hp=>by rw[hc2 p (by omega)];have:=hev p (by omega);omega) (fun p hp i hi=>?_)).iff ?_
   ·rw[hc2 p (by omega)]at hi
    exact(Ec hS hv hV hM hL hs (by omega) (by omega)).some
   ·rw[hc1];constructor
    ·intro h p hp i hi;exact h p hp i (by rw[hc2 p hp];omega)
    ·intro h p hp i hi;exact h p hp i (by rw[hc2 p hp]at hi;omega)) (f:=fun x_4=>(au x_4 ((eT t).bind fun x_5=>(cO x_5 (fun z=>kg z t s)).bind fun x_6=>some (!x_6)) (some true):Option Bool)) (fun b=>by simp only[Option.bind_assoc])
  obtain⟨b,hb,h⟩:=k2;rw[←Option.bind_assoc,hb,ζb];have hval:jo t A s↔s8 t A s:=by unfold jo;rw[he];simp
  cases b with
  | true=>exact fm ⟨fun e=>(nomatch e),fun q=>absurd (hval.1 q).1 (h.1 rfl)⟩
  | false=>
   have hh:uE t A s∧∀p,p<t.procs.l.length→∀i,i<lJ t p→kO t A s p i:=Classical.byContradiction fun q=>(nomatch h.2 q)
   have hl:s.last.l.length=t.procs.l.length:=hh.1.1.1.1.2.1.1;have hj:s.j.l.length=t.procs.l.length:=hh.1.1.2;rw[bG];refine((rS (g:=fun p i=>nR s (el s p i)) (by omega) (fun p hp=>?_) (fun p hp i hi=>?_)).some).iff ?_
   ·have:=ir hh.1.1.1.1.2 (p:=p) (by omega);have:=hev p (by omega);omega
   ·obtain⟨hie,hC⟩:=Ay hh.1 hh.2 (p:=p) (by omega) hi
    obtain⟨d,hd,hde,hdl⟩:=xz (s:=s) (p:=p) (i:=i) (by omega) (by rw[hh.1.2 p (by omega)];exact hie) hL
    unfold mw;rw[hd,ζb];refine(rS (g:=fun q k=>eH (el s q k) (el s p i)) (by omega) (fun q hq=>?_) (fun q hq k hk=>?_)).some |>.iff ?_
    ·rw[hde]at hq ⊢;have hq':q<t.procs.l.length:=by rw[←hC.1.1];exact hq
     have:=ir hC hq';have:=hev q hq';omega
    ·rw[hde]at hq hk;have hq':q<t.procs.l.length:=by rw[←hC.1.1];exact hq
     have:=ir hC hq';unfold jZ;obtain⟨y,hy,hye,hyl⟩:=xz (s:=s) (p:=q) (i:=k) (by omega) (by rw[hh.1.2 q hq'];omega) hL
     rw[hy,ζb,←hye,←hde];exact(wh (by omega)).some
    ·rw[hde];exact Iff.rfl
   ·rw[hval,hl];exact⟨fun q=>⟨hh,q⟩,fun q=>q.2⟩
theorem YW (hS:Small t) (hV:VT t) (hL:kn s) (hs:jo t A s) {c:Sl Int} (hc:Cons t A c.l):bl (tI s c) (kK s c.l):=by
 have h8:=hV.few;have hcl:=hc.1.1;have hL1:=hL.f;have hev:∀p,p<t.procs.l.length→lJ t p<1073741824:=fun p hp=>by rw[mZ hp];exact(hS.2 _ (List.getElem_mem hp)).1
 unfold tI;have k1:bl ((au s.empty (some false) ((cI s.first c).bind fun x_1=>some x_1):Option Bool)) (s.empty=false∧eH s.first.l c.l):=by
  cases he:s.empty with
  | true=>exact fm ⟨fun e=>(nomatch e),fun q=>(nomatch q.1)⟩
  | false=>exact((wh (by omega)).some).iff ⟨fun q=>⟨rfl,q⟩,fun q=>q.2⟩
 have k2:=bl.and k1 (Q:=eH c.l s.last.l) (n:=cI c s.last) (fun _=>wh (by omega)) (f:=fun x_2=>(au x_2 ((cI c s.last).bind fun x_3=>some x_3) (some false):Option Bool)) (fun b=>rfl)
 have k3:=bl.and k2 (Q:=nR s c.l) (n:=cO c (fun z=>ki z s c)) (fun hq=>by
  rcases hs with⟨he,_⟩|⟨he,hF⟩
  ·exact absurd hq.1.1 (by rw[he];decide)
  have hj:s.j.l.length=t.procs.l.length:=hF.1.1.1.2;refine rS (g:=fun p i=>eH (el s p i) c.l) (by omega) (fun p hp=>?_) (fun p hp i hi=>?_)
  ·have:=ir hc (p:=p) (by omega);have:=hev p (by omega);omega
  ·have:=ir hc (p:=p) (by omega)
   unfold ki;obtain⟨d,hd,hde,hdl⟩:=xz (s:=s) (p:=p) (i:=i) (by omega) (by rw[hF.1.1.2 p (by omega)];omega) hL
   rw[hd,ζb,←hde];exact(wh (by omega)).some) (f:=fun x_4=>(au x_4 ((cO c (fun z=>ki z s c)).bind fun x_5=>some x_5) (some false):Option Bool)) (fun b=>rfl)
 have k4:=k3.some;simp only[Option.bind_assoc]at k4 ⊢;exact k4
end
end Go.VE
namespace Go.VE
section
variable {t:Trace} {A:bq 200 aH} {s:Slice}
theorem u5 {p i:Nat} (hp:p<s.j.l.length) (hi:i<sE s p) (hL:kn s):∃r c,idx s.j (p:Int)=some r∧idx r (i:Int)=some c∧c.l=el s p i∧c.l.length≤60:=by
 rw[oa hp]at hi;have hr:=(hL.r _ (List.getElem_mem hp));refine⟨s.j.l[p],s.j.l[p].l[i],aO hp,aO hi,?_,hr.2 _ (List.getElem_mem hi)⟩;unfold el;rw[ζd hp];dsimp only;rw[ζd hi]
theorem JU (hS:Small t) (hv:fB t=some true) (hV:VT t) (hM:dS t (aM t) A) (hL:kn s) (h1:Cons t A s.first.l) (h2:Cons t A s.last.l) {p i:Nat} (hp:p<t.procs.l.length) (hj:p<s.j.l.length) (hi:i<sE s p) :
 bl (mj t s p i) (kO t A s p i):=by
 obtain⟨r,c,hr,hc,hce,hcl⟩:=u5 hj hi hL;have hl:p<s.last.l.length:=by rw[h2.1.1];exact hp
 have hf:p<s.first.l.length:=by rw[h1.1.1];exact hp
 have hL1:=hL.f;have hL2:=hL.l;unfold mj;rw[hr,ζb,hc,ζb,aO hl,ζb,←iF hl];unfold kO;rw[←hce]
 by_cases hlt:(i:Int)<nth s.last.l p
 ·rw[show decide ((i:Int)≥nth s.last.l p)=false from by simp;omega,bG,aO hf,ζb,←iF hf]
  by_cases hft:(i:Int)<nth s.first.l p
  ·rw[decide_eq_true hft,aY];refine((WB (a:=c) (b:=s.first) (by omega)).some).iff ?_
   exact⟨fun h=>.inr ⟨hlt,.inl ⟨hft,h⟩⟩,fun h=>by rcases h with h|⟨_,h|h⟩ <;> first|exact h.2|omega⟩
  ·rw[decide_eq_false hft,bG];have k1:=Cj hS hv hV hM c;have k2:=bl.and k1 (Q:=(i:Int)<nth c.l p) (n:=(idx c p).bind fun x_7=>some (decide (x_7>(i:Int)))) (fun hC=>by
    have hpc:p<c.l.length:=by rw[hC.1.1];exact hp
    rw[aO hpc,ζb,←iF hpc];exact fm (by simp)) (f:=fun x_6=>(au x_6 ((idx c p).bind fun x_7=>some (decide (x_7>(i:Int)))) (some false):Option Bool)) (fun b=>by simp only[Option.bind_assoc,ζb])
   have k3:=bl.and k2 (Q:=eH s.first.l c.l) (n:=cU s.first c) (fun _=>A1 (by omega)) (f:=fun x_7=>(au x_7 ((cU s.first c).bind fun x_8=>some x_8) (some false):Option Bool)) (fun b=>rfl)
   have k4:=bl.and k3 (Q:=eH c.l s.last.l) (n:=cU c s.last) (fun _=>A1 (by omega)) (f:=fun x_9=>(au x_9 ((cU c s.last).bind fun x_10=>some x_10) (some false):Option Bool)) (fun b=>rfl)
   have k5:=k4.some;simp only[Option.bind_assoc]at k5 ⊢;refine k5.iff ?_;exact⟨fun⟨⟨⟨a,b⟩,d⟩,e⟩=>.inr ⟨hlt,.inr ⟨by omega,a,b,d,e⟩⟩,fun h=>by rcases h with h|⟨_,h|⟨_,a,b,d,e⟩⟩ <;> first|exact⟨⟨⟨a,b⟩,d⟩,e⟩|omega⟩
 ·rw[show decide ((i:Int)≥nth s.last.l p)=true from by simp;omega,aY]
  refine fm ?_;rw[beq_iff_eq];simp only[len];exact⟨fun h=>.inl ⟨by omega,by omega⟩,fun h=>by rcases h with h|h <;> omega⟩
theorem B1 {γ:Type} {step:Int→Option (Fw Int Unit Unit)} {n:Int} {P:Nat→Prop} {fx:Unit→Option γ} {fr:Unit→Option γ} {R:γ→Prop} (h:∀i:Nat,(i:Int)<n→(∀j,j<i→P j)→Wp (step (i:Int)) fun w=>P i∧w=.n ((i+1:Nat):Int)∨¬P i∧w=.r ()) (he:∀i:Nat,n≤(i:Int)→step (i:Int)=some (.x ()))
 (hx:(∀i:Nat,(i:Int)<n→P i)→Wp (fx ()) R) (hr:(¬∀i:Nat,(i:Int)<n→P i)→Wp (fr ()) R):Wp ((aW step 0).bind (Fw.elim fx fr)) R:=by
 have e:(∀i,i<n.toNat→P i)↔∀i:Nat,(i:Int)<n→P i:=⟨fun h i hi=>h i (by omega),fun h i hi=>h i (by omega)⟩
 exact sw (n:=n.toNat) (P:=P) (fun i hi hp=>h i (by omega) hp) (fun _=>he _ (by omega)) (fun q=>hx (e.1 q)) (fun q=>hr fun k=>q (e.2 k))
theorem vE (hL:kn s) {c:Sl Int} (hc:c.l.length≤60) (hb:∀p,p<c.l.length→nth c.l p<1073741824) (h:∀p,p<c.l.length→p<s.j.l.length∧∀i:Nat,(i:Int)<nth c.l p→i<sE s p):bl (cF s c) (nR s c.l):=by
 unfold cF cF.W1;refine nZ (n:=c.l.length) (P:=fun p=>∀i:Nat,(i:Int)<nth c.l p→eH (el s p i) c.l) ?_ ?_
 ·intro p hp _;have hn:=iF hp;have hb:=hb p hp;obtain⟨hj,hr⟩:=h p hp;unfold cF.aD;rw[nD hp,aY];unfold cF.W2;refine B1 (n:=nth c.l p) (P:=fun i=>eH (el s p i) c.l) (fun i hi _=>?_) (fun i hi=>?_) (fun q=>?_) (fun q=>?_)
  ·unfold cF.bg;obtain⟨r,d,h1,h2,h3,h4⟩:=u5 hj (hr i hi) hL;rw[aO hp,ζb,←hn,decide_eq_true hi,aY,h1,ζb,h2,ζb,←h3];exact uI (A1 (by omega)) (bR i (by omega))
  ·unfold cF.bg;rw[aO hp,ζb,←hn,decide_eq_false (by omega),bG]
  ·exact(ai _).2 (.inl ⟨q,by rw[bR p (by omega)]⟩)
  ·exact(ai _).2 (.inr ⟨q,rfl⟩)
 ·intro _;unfold cF.aD;rw[oI,bG]
theorem TV (hS:Small t) (hv:fB t=some true) (hV:VT t) (hM:dS t (aM t) A) (hL:kn s):bl (bY t s) (jo t A s):=by
 have h8:=hV.few;have hL1:=hL.f;have hL2:=hL.l;have hL3:=hL.j;have hev:∀p,p<t.procs.l.length→lJ t p<1073741824:=fun p hp=>by rw[mZ hp];exact(hS.2 _ (List.getElem_mem hp)).1
 unfold bY;rw[hv,ζb,aY]
 cases he:s.empty with
 | true=>
  rw[aY];have k1:=bl.GS (m:=some (len s.first==0)) (P:=s.first.l.length=0) (fm (by rw[beq_iff_eq];simp only[len];omega)) (b:=(len s.last==0)) (Q:=s.last.l.length=0) (fun _=>by rw[beq_iff_eq];simp only[len];omega) (f:=fun x=>(au x (some (len s.last==0)) (some false):Option Bool)) (fun b=>rfl)
  have k2:=bl.GS k1 (b:=(len s.j==0)) (Q:=s.j.l.length=0) (fun _=>by rw[beq_iff_eq];simp only[len];omega) (f:=fun x=>(au x (some (len s.j==0)) (some false):Option Bool)) (fun b=>rfl)
  rw[ζb]at k2;have k:=(bl.some k2).iff (Q:=jo t A s) (by unfold jo Dv;rw[he];simp)
  rw[Option.bind_assoc]at k;exact k
 | false=>
  rw[bG];have hval:jo t A s↔s8 t A s:=by unfold jo;rw[he];simp
  have k1:=Cj hS hv hV hM s.first
  have k2:=bl.Kd k1 (Q:=Cons t A s.last.l) (fun _=>Cj hS hv hV hM s.last) (f:=fun x_1=>(au x_1 ((dh t s.last).bind fun x_2=>some (!x_2)) (some true):Option Bool)) (fun b=>rfl)
  have k3:=bl.Mi k2 (Q:=eH s.first.l s.last.l) (fun _=>A1 (a:=s.first) (b:=s.last) (by omega)) (f:=fun x_3=>(au x_3 (some true) ((cU s.first s.last).bind fun x_4=>some (!x_4)):Option Bool)) (fun b=>rfl)
  have k4:=bl.Ia k3 (Q:=s.j.l.length=t.procs.l.length) (b:=((len s.j)==(len t.procs))) (fun _=>by rw[beq_iff_eq];simp only[len];omega) (f:=fun x_5=>(au x_5 (some true) (some (!((len s.j)==(len t.procs)))):Option Bool)) (fun b=>rfl)
  simp only[Option.bind_assoc]at k4 ⊢;obtain⟨b,hb,h⟩:=k4;simp only[←Option.bind_assoc]at hb ⊢;rw[hb,ζb]
  cases b with
  | true=>exact fm ⟨fun e=>(nomatch e),fun q=>absurd (hval.1 q).1.1.1 (h.1 rfl)⟩
  | false=>
   have hh:((Cons t A s.first.l∧Cons t A s.last.l)∧eH s.first.l s.last.l)∧s.j.l.length=t.procs.l.length:=Classical.byContradiction fun q=>(nomatch h.2 q)
   have hl:s.last.l.length=t.procs.l.length:=hh.1.1.2.1.1;rw[bG];unfold bY.W1;refine sw (n:=s.j.l.length) (P:=fun p=>sE s p=lJ t p∧∀i,i<lJ t p→kO t A s p i) (R:=fun b=>b=true↔jo t A s) ?_ ?_ ?_ ?_
   ·intro p hp _;have hp2:p<t.procs.l.length:=by rw[←hh.2];exact hp
    unfold bY.aD;rw[nD hp,aY,aO hp,ζb,aO hp2,ζb]
    by_cases hq:sE s p=lJ t p
    ·rw[show (len s.j.l[p]==len t.procs.l[p].events)=true from by rw[beq_iff_eq];simp only[len];rw[oa hp,mZ hp2]at hq;omega,aY]
     unfold bY.W2;have hrow:=hL.r _ (List.getElem_mem hp);refine sw (n:=sE s p) (P:=kO t A s p) ?_ ?_ ?_ ?_
     ·intro i hi _;unfold bY.bg;rw[aO hp,ζb,show decide ((i:Int)<len s.j.l[p])=true from nD (by rw[←oa hp];exact hi),aY]
      exact uI (JU hS hv hV hM hL hh.1.1.1 hh.1.1.2 hp2 hp hi) (bR i (by rw[oa hp]at hi;omega))
     ·intro _;unfold bY.bg;rw[aO hp,ζb,oa hp,oI,bG]
     ·intro q;exact(ai _).2 (.inl ⟨⟨hq,fun i hi=>q i (by rw[hq];exact hi)⟩,by rw[bR p (by omega)]⟩)
     ·intro q;exact(ai _).2 (.inr ⟨fun k=>q fun i hi=>k.2 i (by rw[←hq];exact hi),rfl⟩)
    ·rw[show (len s.j.l[p]==len t.procs.l[p].events)=false from by rw[beq_eq_false_iff_ne];simp only[len];rw[oa hp,mZ hp2]at hq;omega,bG]
     exact(ai _).2 (.inr ⟨fun k=>hq k.1,rfl⟩)
   ·intro _;unfold bY.aD;rw[oI,bG]
   ·intro q;have hsh:uE t A s:=⟨hh,fun p hp=>(q p (by rw[hh.2];exact hp)).1⟩
    have hri:∀p,p<t.procs.l.length→∀i,i<lJ t p→kO t A s p i:=fun p hp=>(q p (by rw[hh.2];exact hp)).2
    unfold bY.W3;refine(nZ (n:=s.j.l.length) (P:=fun p=>∀i:Nat,(i:Int)<nth s.last.l p→nR s (el s p i)) ?_ ?_).iff ?_
    ·intro p hp _;have hp2:p<t.procs.l.length:=by rw[←hh.2];exact hp
     have hpl:p<s.last.l.length:=by rw[hl];exact hp2
     have hle:=ir hh.1.1.2 hp2;have hee:=hev p hp2;unfold bY.dw;rw[nD hp,aY];unfold bY.W4;refine B1 (n:=nth s.last.l p) (P:=fun i=>nR s (el s p i)) (fun i hi _=>?_) (fun i hi=>?_) (fun q=>?_) (fun q=>?_)
     ·unfold bY.r_;obtain⟨hie,hC⟩:=Ay hsh hri hp2 hi;obtain⟨r,d,g1,g2,g3,g4⟩:=u5 (s:=s) (p:=p) (i:=i) hp (by rw[hsh.2 p hp2];exact hie) hL
      rw[aO hpl,ζb,←iF hpl,decide_eq_true hi,aY,g1,ζb,g2,ζb];rw[←g3]at hC;refine uI ?_ (bR i (by omega))
      rw[←g3];refine vE hL g4 (fun k hk=>?_) (fun k hk=>?_)
      ·have hk':k<t.procs.l.length:=by rw[←hC.1.1];exact hk
       have:=ir hC hk';have:=hev k hk';omega
      ·have hk':k<t.procs.l.length:=by rw[←hC.1.1];exact hk
       have:=ir hC hk';exact⟨by rw[hh.2];exact hk',fun i hi=>by rw[hsh.2 k hk'];omega⟩
     ·unfold bY.r_;rw[aO hpl,ζb,←iF hpl,decide_eq_false (by omega),bG]
     ·exact(ai _).2 (.inl ⟨q,by rw[bR p (by omega)]⟩)
     ·exact(ai _).2 (.inr ⟨q,rfl⟩)
    ·intro _;unfold bY.dw;rw[oI,bG]
    ·rw[hval,hh.2];exact⟨fun k=>⟨⟨hsh,hri⟩,k⟩,fun k=>k.2⟩
   ·intro q;refine(ai _).2 ⟨fun e=>(nomatch e),fun k=>absurd (fun p hp=>?_) q⟩
    have hp2:p<t.procs.l.length:=by rw[←hh.2];exact hp
    exact⟨(hval.1 k).1.1.2 p hp2,(hval.1 k).1.2 p hp2⟩
theorem TC (hS:Small t) (hv:fB t=some true) (hV:VT t) (hM:dS t (aM t) A) (hL:kn s) (hs:jo t A s) (c:Sl Int) (hc60:c.l.length≤60):bl (oP t s c) (Cons t A c.l∧kK s c.l):=by
 have h8:=hV.few;have hL1:=hL.f;have hev:∀p,p<t.procs.l.length→lJ t p<1073741824:=fun p hp=>by rw[mZ hp];exact(hS.2 _ (List.getElem_mem hp)).1
 unfold oP;have k1:bl ((au s.empty (some false) ((dh t c).bind fun x_1=>some x_1):Option Bool)) (s.empty=false∧Cons t A c.l):=by
  cases he:s.empty with
  | true=>exact fm ⟨fun e=>(nomatch e),fun q=>(nomatch q.1)⟩
  | false=>exact((Cj hS hv hV hM c).some).iff ⟨fun q=>⟨rfl,q⟩,fun q=>q.2⟩
 have k2:=bl.and k1 (Q:=eH s.first.l c.l) (n:=cU s.first c) (fun _=>A1 (by omega)) (f:=fun x_2=>(au x_2 ((cU s.first c).bind fun x_3=>some x_3) (some false):Option Bool)) (fun b=>rfl)
 have k3:=bl.and k2 (Q:=eH c.l s.last.l) (n:=cU c s.last) (fun hq=>A1 (by omega)) (f:=fun x_4=>(au x_4 ((cU c s.last).bind fun x_5=>some x_5) (some false):Option Bool)) (fun b=>rfl)
 have k4:=bl.and k3 (Q:=nR s c.l) (n:=cF s c) (fun hq=>by
  have hc:=hq.1.1.2;have he:=hq.1.1.1;rcases hs with⟨he',_⟩|⟨_,hF⟩
  ·rw[he]at he';cases he'
  have hcl:=hc.1.1;refine vE hL hc60 (fun p hp=>?_) (fun p hp=>⟨?_,fun i hi=>?_⟩)
  ·have:=ir hc (p:=p) (by omega);have:=hev p (by omega);omega
  ·rw[hF.1.1.1.2];omega
  ·have:=ir hc (p:=p) (by omega)
   rw[hF.1.1.2 p (by omega)];omega) (f:=fun x_6=>(au x_6 ((cF s c).bind fun x_7=>some x_7) (some false):Option Bool)) (fun b=>rfl)
 have k5:=k4.some;simp only[Option.bind_assoc]at k5 ⊢;refine k5.iff ?_;unfold kK;exact⟨fun⟨⟨⟨⟨a,b⟩,d⟩,e⟩,f⟩=>⟨b,⟨⟨a,d⟩,e⟩,f⟩,fun⟨b,⟨⟨a,d⟩,e⟩,f⟩=>⟨⟨⟨⟨a,b⟩,d⟩,e⟩,f⟩⟩
end
end Go.VE
namespace Go.VE
theorem Cb {s:Sl (Sl (Sl Int))} {p:Sl (Sl Int)→Option Bool} {f:Sl (Sl Int)→Bool} (hp:∀x∈s.l,p x=some (f x)) (hl:s.l.length<1073741824):gC s p=some (s.l.any f):=by
 have h:dR s p=some (place f s.l):=n_ hp (by omega) (fun i=>rfl)
 unfold gC;rw[h,ζb,ou]
theorem NL {t:Trace} (hS:Small t) (m:Int):∃b,gK t m=some b:=by
 refine lQ.get ?_;unfold gK gK.W1;refine mC t.procs.l.length (fun i q=>q.2=(i:Int)) rfl ?_ ?_
 ·rintro n ⟨c,_⟩ hlt e;simp only at e;subst e;have h1:=hS.1;unfold gK.aD;rw[nD hlt,aY,aO hlt,ζb,fu,ζb,fu,ζb];rw[vI (f:=fun z=>(nu z).getD false) (fun z _=>lQ.ok ((ai _).2 trivial)) (hS.2 _ (List.getElem_mem hlt)).1]
  rw[tS (f:=fun z=>(ny z).getD false) (fun z _=>lQ.ok ((ai _).2 trivial)) (hS.2 _ (List.getElem_mem hlt)).2.1]
  simp only[ζb,fu];rw[aU];exact⟨fun _=>(ai _).2 ((ai _).2 trivial),fun _=>(ai _).2 (bR n (by omega))⟩
 ·rintro⟨c,_⟩ e;simp only at e;subst e;unfold gK.aD;rw[oI,bG,ai];exact(ai _).2 trivial
structure JR (s:Slice):Prop where
 j:s.j.l.length<1073741824
 r:∀r∈s.j.l,r.l.length<1073741824
theorem Kn {s:Slice} (hF:JR s):∃b,o9 s=some b∧(b=true→kn s):=by
 have hsh:∀r∈s.j.l,∃b,oM r=some b∧(b=true→r.l.length≤60∧∀c∈r.l,c.l.length≤60):=by
  intro r hr;unfold oM;rw[pe (p:=fun z=>lF z) (f:=fun c=>decide ((len c)>12)) (fun x _=>rfl) (hF.r r hr),ζb]
  simp only[fS,ζb];refine⟨_,rfl,fun h=>?_⟩
  simp only[ζh,decide_eq_true_eq,Bool.not_eq_true',List.any_eq_false,len]at h;refine⟨by omega,fun c hc=>?_⟩
  have:=h.2 c hc;have:=h.2 c hc;omega
 have hd:∀r∈s.j.l,gR r=some ((gR r).getD false):=fun r hr=>by
  obtain⟨b,hb,_⟩:=hsh r hr;unfold gR;rw[hb];rfl
 unfold o9;rw[Cb hd hF.j,ζb];simp only[fS,ζb];refine⟨_,rfl,fun h=>?_⟩
 simp only[ζh,decide_eq_true_eq,Bool.not_eq_true',List.any_eq_false,len]at h;refine⟨by omega,by omega,by omega,fun r hr=>?_⟩
 obtain⟨b,hb,h2⟩:=hsh r hr;have h3:=h.2 r hr;unfold gR at h3;rw[hb]at h3;refine h2 ?_
 cases b with
 | true=>rfl
 | false=>exact absurd rfl h3
section
variable {t:Trace} {s:Slice}
theorem WJ (hv:bZ t=some false):kW t s=some false:=by unfold kW;rw[hv];rfl
theorem Hz (hv:fB t=some false):bY t s=some false:=by unfold bY;rw[hv];rfl
def Zx (t:Trace) (A:bq 200 aH) (a b:Slice):Prop:=(Cons t A a.first.l∧kK b a.first.l)∧∀p,p<t.procs.l.length→∀i:Nat,(i:Int)<nth a.last.l p→Cons t A (el a p i)∧kK b (el a p i)
end
end Go.VE
namespace Go.VE
section
variable {t:Trace} {A:bq 200 aH} {s:Slice}
def mO (g:Int→Int→Int) (a b c:List Int):Prop:=c.length=a.length∧∀(p:Nat) (x y:Int),a[p]? = some x→b[p]? = some y→c[p]? = some (g x y)
theorem GJ (hS:Small t) (hv:bZ t=some true) (hV:VT t) (hM:dS t (aM t) A) {c d:Sl Int} (hC:Cons t A c.l) (hD:Cons t A d.l) :
 a_ t (Sl.row [c,d]:Sl (Sl Int)) (Sl.nil:Sl Int)=some 0:=by
 refine Wp.eq ?_;have hcl:=hC.1.1;have hdl:=hD.1.1;unfold a_ qZ;rw[hv,ζb,aY,pe (f:=fun z=>(dB z t).getD false) (fun z _=>lQ.ok ((ai _).2 trivial)) (by simp[Sl.l]),ζb,ζb,ζb]
 have hany:(!((Sl.row [c,d]:Sl (Sl Int)).l.any fun z=>(dB z t).getD false))=true:=by
  have e:∀z:Sl Int,z.l.length=t.procs.l.length→(dB z t).getD false=false:=fun z hz=>by simp[dB,len,hz]
  show (!((dB c t).getD false||((dB d t).getD false||false)))=true;rw[e c hcl,e d hdl];rfl
 rw[hany,aY];have hx:∀n:Nat,n<2→∃z:Sl Int,idx (Sl.row [c,d]:Sl (Sl Int)) (n:Int)=some z∧Cons t A z.l:=fun n hn=>by
  rcases (show n=0∨n=1 by omega)with rfl|rfl
  ·exact⟨c,rfl,hC⟩
  ·exact⟨d,rfl,hD⟩
 unfold a_.W1;refine mC 2 (fun n s=>s=(n:Int)) rfl ?_ ?_
 ·rintro n _ hn rfl;obtain⟨z,hz,hZ⟩:=hx n hn;unfold a_.aD;rw[show decide ((n:Int)<len (Sl.row [c,d]:Sl (Sl Int)))=true from by simp[len,Sl.l];omega,aY,hz,ζb,dx]
  refine(uZ hS hZ.1.1).mono fun b hb=>?_
  rw[hb.2 hZ.1,aY];exact(ai _).2 (bR n (by omega))
 ·rintro _ rfl;unfold a_.aD;rw[show decide (((2:Nat):Int)<len (Sl.row [c,d]:Sl (Sl Int)))=false from rfl,bG,ai];show Wp (a_.W2 (Sl.row [c,d]) Sl.nil 0 0 t) _;unfold a_.W2;refine mC 0 (fun n s=>s=(n:Int)) rfl (fun i _ hi=>absurd hi (by omega)) ?_
  rintro _ rfl;unfold a_.bg;rw[show decide (((0:Nat):Int)<0)=false from rfl,bG,ai];show Wp (a_.W3 (Sl.row [c,d]) 2 0 t) _;unfold a_.W3;refine mC 2 (fun n s=>s=(n:Int)) rfl ?_ ?_
  ·rintro n _ hn rfl;obtain⟨z,hz,hZ⟩:=hx n hn;unfold a_.dw;rw[show decide ((n:Int)<2)=true from by simp;omega,aY,hz,ζb]
   unfold oZ;rw[dx,dx];refine(u_ hS hv hV hM hZ.1).mono fun r hr=>?_
   rw[ai,hr.2 hZ.2];exact(ai _).2 (bR n (by omega))
  ·rintro _ rfl;unfold a_.dw;rw[show decide (((2:Nat):Int)<2)=false from rfl,bG,ai];exact(ai _).2 rfl
theorem Ah (hS:Small t) (hv:bZ t=some true) (hV:VT t) (hM:dS t (aM t) A) {a b:Sl Int} (ha:Cons t A a.l) (hb:Cons t A b.l) (g:Int→Int→Int) :
 ∃r,eP t a b (fun z=>some (g z.1 z.2))=some (r,0)∧mO g a.l b.l r.l:=by
 have h8:=hV.few;have hal:=ha.1.1;have hbl:=hb.1.1;have key:Wp (eP t a b (fun z=>some (g z.1 z.2))) fun w=>w.2=0∧mO g a.l b.l w.1.l:=by
  unfold eP;have hmk:sV (len a) (0:Int)=some (Sl.row (List.replicate a.l.length 0)):=by
   unfold sV;rw[if_pos ⟨by simp[len],by simp[len];omega⟩];simp[len]
  rw[GJ hS hv hV hM ha hb,ζb,show ((0:Int)==0)=true from rfl,aY,hmk,ζb];unfold eP.W1;refine mC a.l.length (fun i (q:Sl Int×Int)=>q.2=(i:Int)∧q.1.l.length=a.l.length∧∀(p:Nat) (x y:Int),p<i→a.l[p]? = some x→b.l[p]? = some y→q.1.l[p]? = some (g x y)) ⟨rfl,by simp[Sl.l],fun p x y hp=>absurd hp (by omega)⟩ ?_ ?_
  ·rintro i ⟨o,_⟩ hi ⟨e,h1,h2⟩;simp only at e h1 h2;subst e;have hib:i<b.l.length:=by omega
   unfold eP.aD;rw[nD hi,aY,aO hi,ζb,aO hib,ζb,ζb,RJ (show i<o.l.length by omega),ζb]
   obtain⟨r,hr,hrl⟩:=put_eq (s:=o) (p:=i) (x:=g a.l[i] b.l[i]) (by omega)
   rw[hr,ζb,ai];refine⟨bR i (by omega),by rw[hrl];simpa using h1,fun p x y hp hx hy=>?_⟩
   show r.l[p]? = _;rw[hrl]
   by_cases e:p=i
   ·subst e;rw[List.getElem?_set_self (by omega)]
    rw[ζd hi]at hx;rw[ζd hib]at hy;cases hx;cases hy;rfl
   ·rw[List.getElem?_set_ne (fun h=>e h.symm)]
    exact h2 p x y (by omega) hx hy
  ·rintro⟨o,_⟩ ⟨e,h1,h2⟩;simp only at e h1 h2;subst e;unfold eP.aD;rw[oI,bG,ai];exact(ai _).2 ⟨rfl,h1,fun p x y hx hy=>h2 p x y (ζe.1 hx).1 hx hy⟩
 obtain⟨⟨r,e⟩,hr,rfl,hz⟩:=key;exact⟨r,hr,hz⟩
def u7 (x y:Int):Int:=if y>x then y else x
def vq (x y:Int):Int:=if y<x then y else x
theorem join_eq (hS:Small t) (hv:bZ t=some true) (hV:VT t) (hM:dS t (aM t) A) {a b:Sl Int} (ha:Cons t A a.l) (hb:Cons t A b.l) :
 ∃r,uX t a b=some (r,0)∧mO u7 a.l b.l r.l:=by
 obtain⟨r,hr,hz⟩:=Ah hS hv hV hM ha hb u7;refine⟨r,?_,hz⟩;unfold uX;have e:(fun z:Int×Int=>qz z.1 z.2)=fun z=>some (u7 z.1 z.2):=rfl
 rw[e,hr];rfl
theorem M7 (hS:Small t) (hv:bZ t=some true) (hV:VT t) (hM:dS t (aM t) A) {a b:Sl Int} (ha:Cons t A a.l) (hb:Cons t A b.l) :
 ∃r,u6 t a b=some (r,0)∧mO vq a.l b.l r.l:=by
 obtain⟨r,hr,hz⟩:=Ah hS hv hV hM ha hb vq;refine⟨r,?_,hz⟩;unfold u6;have e:(fun z:Int×Int=>qp z.1 z.2)=fun z=>some (vq z.1 z.2):=rfl
 rw[e,hr];rfl
theorem mO.at_ {g:Int→Int→Int} {a b c:List Int} (h:mO g a b c) (hab:a.length=b.length) {p:Nat} {z:Int} (hz:c[p]? = some z):∃x y,a[p]? = some x∧b[p]? = some y∧z=g x y:=by
 have hp:p<a.length:=by rw[←h.1];exact(ζe.1 hz).1
 refine⟨a[p],b[p]'(by omega),ζd hp,ζd (by omega),?_⟩
 have:=h.2 p _ _ (ζd hp) (ζd (show p<b.length by omega))
 rw[hz]at this;cases this;rfl
theorem om (x y:Int):(u7 x y=x∧y≤x)∨(u7 x y=y∧x≤y):=by unfold u7;split <;> omega
theorem nT (x y:Int):(vq x y=x∧x≤y)∨(vq x y=y∧y≤x):=by unfold vq;split <;> omega
theorem join_cons {a b c:List Int} (ha:Cons t A a) (hb:Cons t A b) (h:mO u7 a b c):Cons t A c:=by
 have hl:a.length=b.length:=ha.1.1.trans hb.1.1.symm;refine⟨⟨h.1.trans ha.1.1,fun p z P hz hP=>?_⟩,fun p k e z he hz hk hkind=>?_⟩
 ·obtain⟨x,y,hx,hy,rfl⟩:=h.at_ hl hz;have h1:=ha.1.2 p x P hx hP;have h2:=hb.1.2 p y P hy hP;rcases om x y with⟨e,_⟩|⟨e,_⟩ <;> rw[e] <;> assumption
 ·obtain⟨x,y,hx,hy,rfl⟩:=h.at_ hl hz;rcases om x y with⟨e',_⟩|⟨e',_⟩ <;> rw[e']at hk
  ·obtain⟨u,hu,hle⟩:=ha.2 p k e x he hx hk hkind;have hq:=(ζe.1 hu).1;have hv:=ζd (show (ag A e.message).from_.proc.toNat<b.length by omega)
   exact⟨_,h.2 _ _ _ hu hv,by rcases om u b[(ag A e.message).from_.proc.toNat]with⟨e2,_⟩|⟨e2,_⟩ <;> rw[e2] <;> omega⟩
  ·obtain⟨u,hu,hle⟩:=hb.2 p k e y he hy hk hkind;have hq:=(ζe.1 hu).1;have hv:=ζd (show (ag A e.message).from_.proc.toNat<a.length by omega)
   exact⟨_,h.2 _ _ _ hv hu,by rcases om a[(ag A e.message).from_.proc.toNat] u with⟨e2,_⟩|⟨e2,_⟩ <;> rw[e2] <;> omega⟩
theorem Ix {a b c:List Int} (ha:Cons t A a) (hb:Cons t A b) (h:mO vq a b c):Cons t A c:=by
 have hl:a.length=b.length:=ha.1.1.trans hb.1.1.symm;refine⟨⟨h.1.trans ha.1.1,fun p z P hz hP=>?_⟩,fun p k e z he hz hk hkind=>?_⟩
 ·obtain⟨x,y,hx,hy,rfl⟩:=h.at_ hl hz;have h1:=ha.1.2 p x P hx hP;have h2:=hb.1.2 p y P hy hP;rcases nT x y with⟨e,_⟩|⟨e,_⟩ <;> rw[e] <;> assumption
 ·obtain⟨x,y,hx,hy,rfl⟩:=h.at_ hl hz;have hkx:(k:Int)<x:=by rcases nT x y with⟨e',_⟩|⟨e',_⟩ <;> omega
  have hky:(k:Int)<y:=by rcases nT x y with⟨e',_⟩|⟨e',_⟩ <;> omega
  obtain⟨u,hu,hle⟩:=ha.2 p k e x he hx hkx hkind;obtain⟨v,hv,hle2⟩:=hb.2 p k e y he hy hky hkind;exact⟨_,h.2 _ _ _ hu hv,by rcases nT u v with⟨e2,_⟩|⟨e2,_⟩ <;> rw[e2] <;> omega⟩
theorem eH.trans {a b c:List Int} (h:eH a b) (k:eH b c):eH a c:=by
 refine⟨h.1.trans k.1,fun p x z hx hz=>?_⟩
 have hp:p<b.length:=by rw[←h.1];exact(ζe.1 hx).1
 have e:=ζd hp;exact Int.le_trans (h.2 p x _ hx e) (k.2 p _ z e hz)
theorem eH.refl (a:List Int):eH a a:=⟨rfl,fun p x y hx hy=>by rw[hx]at hy;cases hy;exact Int.le_refl _⟩
theorem mO.le_max {a b c:List Int} (h:mO u7 a b c) (hl:a.length=b.length):eH a c∧eH b c∧∀d,eH a d→eH b d→eH c d:=by
 refine⟨⟨h.1.symm,fun p x z hx hz=>?_⟩,⟨hl.symm.trans h.1.symm,fun p y z hy hz=>?_⟩,fun d ha hb=>⟨h.1.trans ha.1,fun p z w hz hw=>?_⟩⟩
 ·obtain⟨x',y,hx',hy,rfl⟩:=h.at_ hl hz;rw[hx]at hx';cases hx';rcases om x y with⟨e2,_⟩|⟨e2,_⟩ <;> rw[e2] <;> omega
 ·obtain⟨x,y',hx,hy',rfl⟩:=h.at_ hl hz;rw[hy]at hy';cases hy';rcases om x y with⟨e2,_⟩|⟨e2,_⟩ <;> rw[e2] <;> omega
 ·obtain⟨x,y,hx,hy,rfl⟩:=h.at_ hl hz;have h1:=ha.2 p x w hx hw;have h2:=hb.2 p y w hy hw;rcases om x y with⟨e2,_⟩|⟨e2,_⟩ <;> rw[e2] <;> assumption
theorem mO.le_min {a b c:List Int} (h:mO vq a b c) (hl:a.length=b.length):eH c a∧eH c b∧∀d,eH d a→eH d b→eH d c:=by
 refine⟨⟨h.1,fun p z x hz hx=>?_⟩,⟨h.1.trans hl,fun p z y hz hy=>?_⟩,fun d ha hb=>⟨ha.1.trans h.1.symm,fun p w z hw hz=>?_⟩⟩
 ·obtain⟨x',y,hx',hy,rfl⟩:=h.at_ hl hz;rw[hx]at hx';cases hx';rcases nT x y with⟨e2,_⟩|⟨e2,_⟩ <;> rw[e2] <;> omega
 ·obtain⟨x,y',hx,hy',rfl⟩:=h.at_ hl hz;rw[hy]at hy';cases hy';rcases nT x y with⟨e2,_⟩|⟨e2,_⟩ <;> rw[e2] <;> omega
 ·obtain⟨x,y,hx,hy,rfl⟩:=h.at_ hl hz;have h1:=ha.2 p w x hw hx;have h2:=hb.2 p w y hw hy;rcases nT x y with⟨e2,_⟩|⟨e2,_⟩ <;> rw[e2] <;> assumption
theorem eH.nth {a b:List Int} (h:eH a b) {p:Nat} (hp:p<a.length):nth a p≤nth b p:=by
 rw[iF hp,iF (by rw[←h.1];exact hp)]
 exact h.2 p _ _ (ζd hp) (ζd (by rw[←h.1];exact hp))
theorem mO.nth {g:Int→Int→Int} {a b c:List Int} (h:mO g a b c) (hl:a.length=b.length) {p:Nat} (hp:p<a.length):Go.VE.nth c p=g (Go.VE.nth a p) (Go.VE.nth b p):=by
 rw[iF hp,iF (show p<b.length by omega)]
 have:=h.2 p _ _ (ζd hp) (ζd (show p<b.length by omega))
 unfold Go.VE.nth;rw[this];rfl
theorem JH {a b c:List Int} (ha:kK s a) (hb:kK s b) (hl:a.length=b.length) (h:mO u7 a b c):kK s c:=by
 obtain⟨k1,k2,k3⟩:=h.le_max hl;refine⟨⟨⟨ha.1.1.1,ha.1.1.2.trans k1⟩,k3 _ ha.1.2 hb.1.2⟩,fun p hp i hi=>?_⟩
 have hpa:p<a.length:=by rw[←h.1];exact hp
 rw[h.nth hl hpa]at hi;rcases om (nth a p) (nth b p)with⟨e,_⟩|⟨e,_⟩ <;> rw[e]at hi
 ·exact(ha.2 p hpa i hi).trans k1
 ·exact(hb.2 p (by omega) i hi).trans k2
theorem Lr {a b c:List Int} (ha:kK s a) (hb:kK s b) (hl:a.length=b.length) (h:mO vq a b c):kK s c:=by
 obtain⟨k1,k2,k3⟩:=h.le_min hl;refine⟨⟨⟨ha.1.1.1,k3 _ ha.1.1.2 hb.1.1.2⟩,k1.trans ha.1.2⟩,fun p hp i hi=>?_⟩
 have hpa:p<a.length:=by rw[←h.1];exact hp
 rw[h.nth hl hpa]at hi;have h1:(i:Int)<nth a p∧(i:Int)<nth b p:=by rcases nT (nth a p) (nth b p)with⟨e,_⟩|⟨e,_⟩ <;> omega
 exact k3 _ (ha.2 p hpa i h1.1) (hb.2 p (by omega) i h1.2)
end
end Go.VE
namespace Go.VE
section
variable {t:Trace} {A:bq 200 aH} {s:Slice}
theorem Bi (hE:s8 t A s) (he:s.empty=false):kK s s.first.l:=by
 obtain⟨⟨⟨⟨⟨h1,h2⟩,h3⟩,h4⟩,h5⟩,h6⟩:=hE.1;refine⟨⟨⟨he,eH.refl _⟩,h3⟩,fun p hp i hi=>?_⟩
 have hpt:p<t.procs.l.length:=by rw[←h1.1.1];exact hp
 have k1:=eH.nth h3 hp;have k2:=ir h1 hpt;rcases h6 p hpt i (by omega)with k|⟨_,k|k⟩
 ·omega
 ·rw[k.2];exact eH.refl _
 ·omega
theorem KJ (hE:s8 t A s) (he:s.empty=false):kK s s.last.l:=by
 obtain⟨⟨⟨⟨⟨h1,h2⟩,h3⟩,h4⟩,h5⟩,h6⟩:=hE.1;refine⟨⟨⟨he,h3⟩,eH.refl _⟩,fun p hp i hi=>?_⟩
 have hpt:p<t.procs.l.length:=by rw[←h2.1.1];exact hp
 have k2:=ir h2 hpt;rcases h6 p hpt i (by omega)with k|⟨_,k|k⟩
 ·omega
 ·rw[k.2];exact h3
 ·exact k.2.2.2.2
theorem Ub (hE:s8 t A s) (he:s.empty=false) {p i:Nat} (hp:p<t.procs.l.length) (hi:(i:Int)<nth s.last.l p):kK s (el s p i)∧(i:Int)<nth (el s p i) p∧Cons t A (el s p i):=by
 obtain⟨⟨⟨⟨⟨h1,h2⟩,h3⟩,h4⟩,h5⟩,h6⟩:=hE.1;have k2:=ir h2 hp;rcases h6 p hp i (by omega)with k|⟨_,k|k⟩
 ·omega
 ·rw[k.2];exact⟨Bi hE he,k.1,h1⟩
 ·exact⟨⟨⟨⟨he,k.2.2.2.1⟩,k.2.2.2.2⟩,hE.2 p hp i hi⟩,k.2.2.1,k.2.1⟩
theorem D6 (hS:Small t) (hv:bZ t=some true) (hV:VT t) (hM:dS t (aM t) A) (hL:kn s) (hE:jo t A s) {c:Sl Int} (hC:Cons t A c.l) (hH:kK s c.l):jc t s c=some true:=by
 obtain⟨x,e1,h1⟩:=Se hS hv hV hM hL;obtain⟨y,e2,h2⟩:=Cn hS hv hV hM c;obtain⟨z,e3,h3⟩:=YW hS hV hL hE hC;unfold jc;rw[e1,ζb,h1.2 hE,aY,e2,ζb,ζb,h2.2 hC,aY,e3,ζb,h3.2 hH];rfl
theorem zb {a b:Sl Int} (hl:a.l.length<1073741824) (h:eH a.l b.l):cI a b=some true:=by
 obtain⟨x,e,k⟩:=wh (b:=b) hl;rw[e,k.2 h]
theorem KP (hS:Small t) (hv:bZ t=some true) (hV:VT t) (hM:dS t (aM t) A) (hL:kn s) (hE:jo t A s) (hF:s8 t A s) (he:s.empty=false) {a b j:Sl Int} (ha:kK s a.l) (hb:kK s b.l) (hj:kK s j.l)
 (hal:a.l.length=t.procs.l.length) (hbl:b.l.length=t.procs.l.length) (hjC:Cons t A j.l):bS.W1 a b j (len j) 0 t s=some true:=by
 refine Wp.eq ?_;have h8:=hV.few;have hjl:=hjC.1.1;unfold bS.W1;refine mC j.l.length (fun p (q:Int)=>q=(p:Int)) rfl ?_ ?_
 ·rintro p _ hp rfl;have hpt:p<t.procs.l.length:=by omega
  have hev:=ir hjC hpt;have hevs:lJ t p<1073741824:=by rw[mZ hpt];exact(hS.2 _ (List.getElem_mem hpt)).1
  rw[iF hp]at hev;unfold bS.aD;rw[nD hp,aY,aO hp,ζb];unfold bS.W2;refine mC (j.l[p]).toNat (fun i (q:Int)=>q=(i:Int)) rfl ?_ ?_
  ·rintro i _ hi rfl;have hij:(i:Int)<j.l[p]:=by omega
   have hlast:(i:Int)<nth s.last.l p:=by
    have:=eH.nth hj.1.2 hp;rw[iF hp]at this;omega
   obtain⟨hx,hxi,hxC⟩:=Ub hF he hpt hlast;obtain⟨r,c,hr,hc,hcl,hcn⟩:=u5 (s:=s) (p:=p) (i:=i) (by rw[hF.1.1.1.2];exact hpt) (by rw[hF.1.1.2 p hpt];omega) hL
   rw[←hcl]at hx hxi hxC;have hpc:p<c.l.length:=by rw[hxC.1.1];exact hpt
   have hq:∀z:Sl Int,kK s z.l→z.l.length=t.procs.l.length→((idx z (p:Int)).bind fun x_40=>(au (decide (x_40>(i:Int))) ((cI c z).bind fun x_41=>some (!x_41)) (some false):Option Bool).bind fun x_42=>some x_42)=some false:=by
    intro z hz hzl;have hpz:p<z.l.length:=by omega
    rw[aO hpz,ζb]
    by_cases hg:z.l[p]>(i:Int)
    ·have hle:eH c.l z.l:=by rw[hcl];exact hz.2 p hpz i (by rw[iF hpz];omega)
     rw[decide_eq_true hg,aY,zb (by omega) hle];rfl
    ·rw[decide_eq_false hg];rfl
   unfold bS.bg;rw[decide_eq_true hij,aY,hr,ζb,hc,ζb,D6 hS hv hV hM hL hE hxC hx,ζb,aY,aO hpc,ζb,ζb,
    decide_eq_false (show ¬c.l[p]≤(i:Int)from by rw[iF hpc]at hxi;omega),bG,hq a ha hal,ζb,bG,hq b hb hbl,ζb,bG]
   exact(ai _).2 (bR i (by omega))
  ·rintro _ rfl;unfold bS.bg;rw[decide_eq_false (show ¬(((j.l[p]).toNat:Nat):Int)<j.l[p]from by omega),bG]
   exact(ai _).2 ((ai _).2 (bR p (by omega)))
 ·rintro _ rfl;unfold bS.aD;rw[oI,bG];exact(ai _).2 ((ai _).2 rfl)
theorem F9 (hS:Small t) (hN:(aM t).length<1073741824) (hF:JR s) (a b:Sl Int):bS t s a b=some true:=by
 obtain⟨w,hw⟩:=NL hS 40;obtain⟨d,hd,hL⟩:=Kn hF;obtain⟨v,hv,hrv,hV⟩:=Iy hS hN;unfold bS oQ;rw[hw,hd];simp only[ζb,aY,fu]
 cases h:((((!w)||(!d))||decide ((len a)>20))||decide ((len b)>20))with
 | true=>rfl
 | false=>
  simp only[Bool.or_eq_false_iff,Bool.not_eq_false',decide_eq_false_iff_not,len]at h;have hL:=hL h.1.1.2;rw[bG]
  cases v with
  | false=>rw[Hz hrv];rfl
  | true=>
   have hV:=hV rfl;obtain⟨A,i,hA,hM⟩:=hV.msgs;obtain⟨x,h1,hx⟩:=TV hS hrv hV hM hL;rw[h1,ζb,ζb]
   cases x with
   | false=>rfl
   | true=>
    have hE:=hx.1 rfl;rw[show (!true)=false from rfl,bG];obtain⟨y,g1,hy⟩:=TC hS hrv hV hM hL hE a (by omega)
    rw[g1,ζb,ζb]
    cases y with
    | false=>rfl
    | true=>
     obtain⟨haC,haH⟩:=hy.1 rfl;rw[show (!true)=false from rfl,bG];obtain⟨z,g2,hz⟩:=TC hS hrv hV hM hL hE b (by omega)
     rw[g2,ζb,ζb]
     cases z with
     | false=>rfl
     | true=>
      obtain⟨hbC,hbH⟩:=hz.1 rfl;rw[show (!true)=false from rfl,bG];have he:=haH.1.1.1;have hFm:s8 t A s:=by
       rcases hE with⟨e,_⟩|⟨_,k⟩
       ·rw[he]at e;cases e
       ·exact k
      have hl:a.l.length=b.l.length:=haC.1.1.trans hbC.1.1.symm;obtain⟨j,hj,hjz⟩:=join_eq hS hv hV hM haC hbC;obtain⟨m,hm,hmz⟩:=M7 hS hv hV hM haC hbC;have hjH:=JH haH hbH hl hjz;have hmH:=Lr haH hbH hl hmz;have hjC:=join_cons haC hbC hjz;have hmC:=Ix haC hbC hmz;have h8:=hV.few;have hfl:=hFm.1.1.1.1.1.1.1.1;have hml:=hmC.1.1;have hjl:=hjC.1.1;rw[hj,ζb,hm,ζb];have T:=fun {c:Sl Int}=>D6 (c:=c) hS hv hV hM hL hE
      simp only[T haC haH,T hbC hbH,T hjC hjH,T hmC hmH,T hFm.1.1.1.1.1.1 (Bi hFm he),T hFm.1.1.1.1.1.2 (KJ hFm he),zb (show s.first.l.length<1073741824 by omega) hmH.1.1.2,zb (show j.l.length<1073741824 by omega) hjH.1.2,
       ζb,beq_self_eq_true,aY,bG,Bool.not_true]
      exact KP hS hv hV hM hL hE hFm he haH hbH hjH haC.1.1 hbC.1.1 hjC
end
end Go.VE
namespace Go.VE
theorem vS {α:Type} [bu α] {x:α}:∀{l:List α},x∈l→bu.wt x≤(l.map bu.wt).sum
 | y::l,h=>by
  simp only[List.map_cons,List.sum_cons];rcases List.mem_cons.1 h with rfl|h
  ·omega
  ·have:=vS h;omega
theorem qR {α:Type} [bu α] (h:∀x:α,1≤bu.wt x):∀(l:List α),l.length≤(l.map bu.wt).sum
 | []=>Nat.le_refl _
 | y::l=>by
  simp only[List.map_cons,List.sum_cons,List.length_cons];have:=qR h l;have:=h y;omega
theorem uT {α:Type} [bu α] (s:Sl α):bu.wt s=(s.l.map bu.wt).sum+1:=rfl
theorem yE (p:Int):∀(es:List Event) (j:Int),(fN p j es).length=es.length
 | [],_=>rfl
 | _::es,j=>by simp only[fN,List.length_cons,yE p es]
theorem DE:∀(ps:List bt) (i:Int),(dO i ps).length≤(ps.map bu.wt).sum
 | [],_=>Nat.le_refl _
 | p::ps,i=>by
  simp only[dO,ζi,yE,List.map_cons,List.sum_cons];have h1:=DE ps (i+1);have h2:=qR (α:=Event) (fun x=>Nat.le_add_left ..) p.events.l
  have h3:bu.wt p=bu.wt p.name+bu.wt p.vars+bu.wt p.events+1:=rfl;have h4:=uT p.events;omega
theorem Kj {t:Trace} (h:bu.wt t≤1048576):Small t∧(aM t).length<1073741824:=by
 have h0:bu.wt t=bu.wt t.procs+1:=rfl;have h1:=uT t.procs;have h2:=qR (α:=bt) (fun x=>Nat.le_add_left ..) t.procs.l
 have h3:=DE t.procs.l 0;refine⟨⟨by omega,fun p hp=>?_⟩,by show (dO 0 t.procs.l).length<_;omega⟩
 have h4:=vS hp;have h5:bu.wt p=bu.wt p.name+bu.wt p.vars+bu.wt p.events+1:=rfl;have h6:=uT p.events;have h7:=uT p.vars;have h8:=qR (α:=Event) (fun x=>Nat.le_add_left ..) p.events.l
 have h9:=qR (α:=Var) (fun x=>Nat.le_add_left ..) p.vars.l
 have h10:bu.wt p.name=p.name.size+1:=rfl;refine⟨by omega,by omega,by omega,fun v hv=>?_,fun e he=>?_⟩
 ·have k1:=vS hv;have k2:bu.wt v=bu.wt v.name+bu.wt v.init_+1:=rfl;have k3:bu.wt v.name=v.name.size+1:=rfl;omega
 ·have k1:=vS he;have k2:bu.wt e=bu.wt e.kind+bu.wt e.peer+bu.wt e.message+bu.wt e.time+bu.wt e.assign+1:=rfl;have k3:=uT e.assign;have k4:=qR (α:=Assign) (fun x=>Nat.le_add_left ..) e.assign.l
  omega
theorem fits {s:Slice} (h:bu.wt s≤1048576):JR s:=by
 have h0:bu.wt s=bu.wt s.empty+bu.wt s.first+bu.wt s.last+bu.wt s.j+1:=rfl
 have h1:=uT s.j;have h2:=qR (α:=Sl (Sl Int)) (fun x=>Nat.le_add_left ..) s.j.l
 refine⟨by omega,fun r hr=>?_⟩
 have h3:=vS hr;have h4:=uT r;have h5:=qR (α:=Sl Int) (fun x=>Nat.le_add_left ..) r.l
 omega
end Go.VE
namespace Go.Proofs.YtjbnbbbiijdbpaaGreatDoor
open Go.ChangeShapes Go.WideShapes Go.ChangeAt Go.RowKit Go.VE
theorem own:ownKnob Tryz.prog.godebug=none:=by kernel_rfl
theorem kids:Kids Tryz.prog (·<Tryz.prog.types.size):=kids_rows (by kernel_rfl) (by kernel_rfl)
theorem full:∀t e,t<Tryz.prog.types.size→Tryz.prog.underlying t=some (.slice e)→0<Tryz.prog.cellsOf e:=slices_full_of Tryz.prog (by kernel_rfl)
theorem uw {H:Type}:∀l:List (DataW H),Rows.uptoBulkAll l=(l.map Rows.uptoBulk).sum
 | []=>by simp[Rows.uptoBulkAll]
 | d::r=>by simp[Rows.uptoBulkAll,uw r]
theorem Ac {H:Type}:sC (H:=H) Rows.uptoBulk where
 lit l:=by cases l <;> simp[Rows.uptoBulk]
 str s:=by simp[Rows.uptoBulk]
 nil:=by simp[Rows.uptoBulk]
 slice es sp:=by rw[Rows.uptoBulk,uw,uw];omega
 agg ps:=by rw[Rows.uptoBulk,uw];exact Nat.le_refl _
theorem G4:Tryz.prog.globalNamed "antecede/predtype.parts" = some 0:=by kernel_rfl
theorem K3:(Tryz.prog.globals[0]?).map (·.type)=some 223:=by kernel_rfl
theorem table {W:World} (h:laidMetH Tryz.prog Rows.sliceLatticeUptoRow.laid W):Lib.TabIs Tryz.prog W "antecede/predtype.parts" .i64 Cu:=
 Lib.tabIs_of_head (rest:=[]) G4 K3 Tryz.underlying223 Tryz.underlying3 (by kernel_rfl) (by kernel_rfl) h
theorem W9 {W:World} (h:laidMetH Tryz.prog Rows.sliceLatticeUptoRow.laid W):qw (snap W):=fun g cs hg=>by
 change (if Nat.beq g 0 then some (Cu.map (V.int .i64))else none)=some cs at hg;split at hg
 ·rename_i hb;cases hg;have:g=0:=Nat.eq_of_beq_eq_true hb;subst this;exact K8 (fun i hi=>(table h).cell G4 i hi) (by decide)
 ·cases hg
set_option maxRecDepth 100000 in
theorem Eb (H:Type) (enc:TypeId×Value→H) (W:World) (base:Nat) (args:Array Value) (ds gs:List (DataW H)) (before:List MemPlace)
 (hval:∀(j:Nat) t v,Tryz.f6.params[j]? = some t→args[j]? = some v→Value.okWide Tryz.prog W .any base t v)
 (hW:DataW.Whole enc Tryz.prog Tryz.f6.params.toList Rows.sliceLatticeSpec.vars false W args.toList ds gs before) (hk:Rows.uptoSmall H (ds++gs)=true) (hL:laidMetH Tryz.prog Rows.sliceLatticeUptoRow.laid W) :
 Calls Tryz.prog 6 args W fun e W'=>∃v,e=.returned v∧Rows.sliceLatticeSpec.post enc Tryz.prog Tryz.f6 false true false false W args v W':=by
 have hW':=hW;obtain⟨p,q,hA0,hV,rfl,hfz,hnd⟩:=hW;have hA:DataW.TrodAll enc Tryz.prog W 0 (fun _=>true) true Tryz.f6.params.toList args.toList ds p:=hA0
 rw[Tryz.params6]at hA hval;obtain⟨v0,vs0,d0,ds0,p0,q0,hargs,rfl,rfl,h0,r0⟩:=trodAll_cons hA;obtain⟨v1,vs1,d1,ds1,p1,q1,rfl,rfl,rfl,h1,r1⟩:=trodAll_cons r0;obtain⟨v2,vs2,d2,ds2,p2,q2,rfl,rfl,rfl,h2,r2⟩:=trodAll_cons r1;obtain⟨v3,vs3,d3,ds3,p3,q3,rfl,rfl,rfl,h3,r3⟩:=trodAll_cons r2;obtain⟨rfl,rfl,rfl⟩:=trodAll_nil r3;obtain rfl:args=#[v0,v1,v2,v3]:=by cases args;simp_all
 obtain⟨rfl,rfl⟩:=trodVars_none hV;obtain⟨a0,w0,k0,b0⟩:=Reads.Cq (t:=24) (α:=VE.Trace) hval 0 rfl rfl h0;obtain⟨a1,w1,k1,b1⟩:=Reads.Cq (t:=28) (α:=VE.Slice) hval 1 rfl rfl h1;obtain⟨a2,w2,k2,b2⟩:=Reads.Cq (t:=25) (α:=Sl Int) hval 2 rfl rfl h2;obtain⟨a3,w3,k3,b3⟩:=Reads.Cq (t:=25) (α:=Sl Int) hval 3 rfl rfl h3;have hb:bu.wt a0+bu.wt a1+bu.wt a2+bu.wt a3≤1048576:=by
  have c0:=b0 Rows.uptoBulk Ac;have c1:=b1 Rows.uptoBulk Ac;have c2:=b2 Rows.uptoBulk Ac;have c3:=b3 Rows.uptoBulk Ac;have h7:Rows.uptoBulkAll ([d0,d1,d2,d3]++[])≤1048576:=of_decide_eq_true hk;rw[uw]at h7;simp only[List.append_nil,List.map_cons,List.map_nil,List.sum_cons,List.sum_nil]at h7;omega
 obtain⟨hS,hN⟩:=Kj (t:=a0) (by omega)
 have hc:jJ cL 6 [VE.enc a0,VE.enc a1,VE.enc a2,VE.enc a3]=some [.bool true]:=by
  have hl:(bS a0 a1 a2 a3).bind (fun r:Bool=>some [V.bool r])=some [.bool true]:=by rw[F9 hS hN (fits (s:=a1) (by omega)) a2 a3];rfl
  exact(uo a0 a1 a2 a3).F.h () _ hl
 have:=GY (P:=Tryz.prog) Mc Fy calls (f:=6) (xs:=[VE.enc a0,VE.enc a1,VE.enc a2,VE.enc a3]) (by simp[V.bH,V.good,kG]) hc (w:=W) (args:=#[v0,v1,v2,v3]) (W9 hL) (bB.cons w0 (bB.cons w1 (bB.cons w2 (bB.cons w3 .nil))))
 refine this.mono fun e W' ⟨he,hg⟩=>?_
 subst he;exact⟨_,rfl,Ja kids full (by rw[Tryz.params6];decide) rfl rfl rfl Tryz.underlying4 hW' hg⟩
noncomputable def wF (os:Os):World:=
 { World.holding Tryz.prog os ⟨#[],#[],[]⟩with heap:=(World.holding Tryz.prog os ⟨#[],#[],[]⟩).heap.modify 0 fun
  | .cells _ t frozen=>.cells (Cu.map (Value.int .i64)).toArray t frozen
  | o=>o }
theorem KW (os:Os):laidMet Tryz.prog Rows.sliceLatticeUptoRow.laid ((wF os).forCall (fun _ _=>0) ⟨#[],#[.agg #[.slice none 0 0],.agg #[.bool false,.slice none 0 0,.slice none 0 0,.slice none 0 0],.slice none 0 0,.slice none 0 0],[]⟩).memory:=
 laidMet_of_run' 8 (by kernel_rfl) (by kernel_rfl)
theorem Ls (os:Os) {H:Type} (enc:TypeId×Value→H):∃places,DataW.whole enc Tryz.prog ((wF os).forCall (fun _ _=>0) ⟨#[],#[.agg #[.slice none 0 0],.agg #[.bool false,.slice none 0 0,.slice none 0 0,.slice none 0 0],.slice none 0 0,.slice none 0 0],[]⟩).memory Tryz.f6.params.toList Rows.sliceLatticeSpec.vars false (#[.agg #[.slice none 0 0],.agg #[.bool false,.slice none 0 0,.slice none 0 0,.slice none 0 0],.slice none 0 0,.slice none 0 0]:Array Value).toList 8=some ([.agg [.nil],.agg [.lit (.bool false),.nil,.nil,.nil],.nil,.nil],[],places):=
 ⟨[],by kernel_rfl⟩
set_option maxRecDepth 100000 in
theorem I5 (os:Os) (started:os.Started) (H:Type) (enc:TypeId×Value→H) (F:Stop.Interp) :
 ReturnsInHanded {} Tryz.checked os 6 .any ((Rows.OpenSpec.upto Rows.sliceLatticeSpec).preRow enc Tryz.prog Tryz.f6 Rows.sliceLatticeUptoRow.domain false Rows.sliceLatticeUptoRow.laid) (((Rows.OpenSpec.upto Rows.sliceLatticeSpec).at F).post enc Tryz.prog Tryz.f6 false true false false):=by
 obtain⟨places,hx⟩:=Ls os enc;refine returnsInHanded_of_row (C:=Tryz.checked) (s:=Rows.OpenSpec.upto Rows.sliceLatticeSpec) own started (by kernel_rfl) Tryz.func6
  (witness_row_at (enc:=enc) (C:=Tryz.checked) false (wF os) #[.agg #[.slice none 0 0],.agg #[.bool false,.slice none 0 0,.slice none 0 0,.slice none 0 0],.slice none 0 0,.slice none 0 0] rfl (by kernel_rfl) (by kernel_rfl) (by kernel_rfl)
   (OpenSpec.preRow_of_cond 8 hx (by kernel_rfl) (fun k hk=>by cases hk;kernel_rfl) (by kernel_rfl) (KW os))) ?_
 intro W base args ds gs before hval hW _ hcond _ hL _ _;exact Eb H enc W base args ds gs before hval hW (hcond _ rfl) hL
theorem Pn:Rows.SliceLatticeUptoSaid:=
 OpenClaim.holds_of_cond 6 Tryz.f6 rfl rfl rfl rfl rfl rfl rfl ⟨rfl,rfl,rfl,rfl,rfl⟩ rfl rfl rfl rfl rfl (by kernel_rfl) Tryz.func6 (by kernel_rfl)
  (of_decide_eq_true (by kernel_rfl)) (by unfold Func.isWrapper;first|(rw[if_pos (by decide +kernel)];kernel_rfl)|(rw[if_neg (by decide +kernel)];exact⟨rfl,rfl⟩))
  (fun os started H enc _ F=>by rw[OpenClaim.pre_eq_preRow];exact I5 os started H enc F)
theorem Ku (f:FuncId) (fn:Func) (hf:Tryz.pinned.checked.prog.funcNamed "antecede/antecedelaw34.SliceLattice" = some f) (hfn:Tryz.pinned.checked.prog.funcs[f]? = some fn) :
 false=Tryz.pinned.checked.prog.looks []∧∀(j:Nat) t,fn.params[j]? = some t→Tryz.pinned.checked.prog.wantsStandIn t=false:=by
 obtain rfl:f=6:=Option.some.inj ((show Tryz.prog.funcNamed "antecede/antecedelaw34.SliceLattice" = some 6 by kernel_rfl).symm.trans hf) |>.symm
 obtain rfl:fn=Tryz.f6:=(Option.some.inj (Tryz.func6.symm.trans hfn)).symm;refine⟨by kernel_rfl,fun j t ht=>?_⟩
 rw[Tryz.params6]at ht;have hm:t∈[24,28,25,25]:=by simpa using Array.mem_of_getElem? ht
 have hall:([24,28,25,25].all fun u => !Tryz.prog.wantsStandIn u)=true:=by kernel_rfl
 exact(show Tryz.prog.wantsStandIn t=false by simpa using List.all_eq_true.1 hall t hm)
theorem sliceLatticeProved:Rows.SliceLatticeUptoCardSaid:=
 Claim7.holds_tied_plain_at .later [] _ _ _ _ Pn (fun _ h=>by cases h) (by kernel_rfl) (fun _ h=>by cases h) sliceLatticeUpto_row_tie rfl ⟨rfl,rfl⟩ (by kernel_rfl) rfl Ku (by kernel_rfl)
#print axioms sliceLatticeProved
end Go.Proofs.YtjbnbbbiijdbpaaGreatDoor
