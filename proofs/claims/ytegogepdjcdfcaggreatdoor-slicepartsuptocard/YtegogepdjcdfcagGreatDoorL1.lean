/-
 The law in plain Lean, and the join.
-/
import Derived.Test.YtegogepdjcdfcagGreatDoorK1
import Derived.Test.YtegogepdjcdfcagGreatDoorG1
set_option linter.all false
namespace Go.VE
theorem Zf{p:Prop}(h:p:=by kernel_rfl):p:=h
instance:cm Assign where
 wt x:=cm.wt x.var+cm.wt x.value+1
 ok x:=cm.ok x.var/\cm.ok x.value/\True
instance:cm Event where
 wt x:=cm.wt x.kind+cm.wt x.peer+cm.wt x.message+cm.wt x.time+cm.wt x.assign+1
 ok x:=cm.ok x.kind/\cm.ok x.peer/\cm.ok x.message/\cm.ok x.time/\cm.ok x.assign/\True
instance:cm Var where
 wt x:=cm.wt x.name+cm.wt x.init_+1
 ok x:=cm.ok x.name/\cm.ok x.init_/\True
instance:cm cr where
 wt x:=cm.wt x.name+cm.wt x.vars+cm.wt x.events+1
 ok x:=cm.ok x.name/\cm.ok x.vars/\cm.ok x.events/\True
instance:cm Trace where
 wt x:=cm.wt x.procs+1
 ok x:=cm.ok x.procs/\True
instance:cm Slice where
 wt x:=cm.wt x.empty+cm.wt x.first+cm.wt x.last+cm.wt x.j+1
 ok x:=cm.ok x.empty/\cm.ok x.first/\cm.ok x.last/\cm.ok x.j/\True
mutual
def Pred.UA:Pred->Nat
 | ⟨f0,f1,u,B,D,f5⟩=>cm.wt f0+cm.wt f1+cm.wt u+cm.wt B+cm.wt D+Pred.Vc f5+1
def Pred.Vc:Sl Pred->Nat
 | .nil=>1
 | .emp=>1
 | .row l=>Pred.Tf l+1
 | .part l=>Pred.Tf l+1
def Pred.Tf:a_ Pred->Nat
 | []=>0
 | x::r=>Pred.UA x+Pred.Tf r
end
mutual
def Pred.UD:Pred->Prop
 | ⟨f0,f1,u,B,D,f5⟩=>cm.ok f0/\cm.ok f1/\cm.ok u/\cm.ok B/\cm.ok D/\Pred.Vi f5/\True
def Pred.Vi:Sl Pred->Prop
 | .nil=>True
 | .emp=>False
 | .row l=>Pred.RU l
 | .part l=>Pred.RU l
def Pred.RU:a_ Pred->Prop
 | []=>True
 | x::r=>Pred.UD x/\Pred.RU r
end
instance:cm Pred where
 wt:=Pred.UA
 ok:=Pred.UD
end Go.VE
namespace Go.VE.YtegogepdjcdfcagGreatDoor
open Go.Proofs Go.Proofs.YtegogepdjcdfcagGreatDoor
instance VW:Reads Tryz.prog 9 ByteArray:=Reads.str Tryz.underlying9 Zf
instance VX:Reads Tryz.prog 3 Int:=Reads.int Tryz.underlying3 Zf
instance VG:Reads Tryz.prog 65 Var:=by
 refine Reads.st Tryz.underlying65 Zf rfl ?_
 intro H enc w base spare held u cs l J h;simp only[List.mapM_cons,List.mapM_nil,Option.pure_def,Option.bind_eq_bind,ζg,ζa]at h;obtain⟨z,L,O,⟨B,h1,Q,rfl,rfl⟩,rfl⟩:=h;obtain⟨a0,C,k0,S⟩:=Reads.rd (P:=Tryz.prog) (t:=9) (α:=ByteArray) (d:=z.1) (ps:=z.2) L;rw[show Tryz.prog.cellsOf 9=1 from by kernel_rfl]at C
 obtain⟨D,G,k1,T⟩:=Reads.rd (P:=Tryz.prog) (t:=3) (α:=Int) (d:=B.1) (ps:=B.2) h1;rw[show Tryz.prog.cellsOf 3=1 from by kernel_rfl]at G
 refine⟨⟨a0,D⟩,fK.fin (n:=2) (fK.seg (o:=1) (n:=1) (fK.seg (o:=0) (n:=1) (show fK (snap w) [] (cs.take 0)from by simpa using fK.nil) C) G) J,⟨k0,k1,trivial⟩,λb I=>?_⟩
 have U:=S b I;have W:=T b I;show cm.wt a0+cm.wt D+1<=_;simp only[List.map_cons,List.map_nil,List.sum_cons,List.sum_nil];omega
instance VP:Reads Tryz.prog 40 (Sl Var):=Reads.sl (e:=65) Tryz.underlying40 Zf (by decide)
instance VD:Reads Tryz.prog 129 Assign:=by
 refine Reads.st Tryz.underlying129 Zf rfl ?_
 intro H enc w base spare held u cs l J h;simp only[List.mapM_cons,List.mapM_nil,Option.pure_def,Option.bind_eq_bind,ζg,ζa]at h;obtain⟨z,L,O,⟨B,h1,Q,rfl,rfl⟩,rfl⟩:=h;obtain⟨a0,C,k0,S⟩:=Reads.rd (P:=Tryz.prog) (t:=3) (α:=Int) (d:=z.1) (ps:=z.2) L;rw[show Tryz.prog.cellsOf 3=1 from by kernel_rfl]at C
 obtain⟨D,G,k1,T⟩:=Reads.rd (P:=Tryz.prog) (t:=3) (α:=Int) (d:=B.1) (ps:=B.2) h1;rw[show Tryz.prog.cellsOf 3=1 from by kernel_rfl]at G
 refine⟨⟨a0,D⟩,fK.fin (n:=2) (fK.seg (o:=1) (n:=1) (fK.seg (o:=0) (n:=1) (show fK (snap w) [] (cs.take 0)from by simpa using fK.nil) C) G) J,⟨k0,k1,trivial⟩,λb I=>?_⟩
 have U:=S b I;have W:=T b I;show cm.wt a0+cm.wt D+1<=_;simp only[List.map_cons,List.map_nil,List.sum_cons,List.sum_nil];omega
instance VL:Reads Tryz.prog 51 (Sl Assign):=Reads.sl (e:=129) Tryz.underlying51 Zf (by decide)
instance VM:Reads Tryz.prog 53 Event:=by
 refine Reads.st Tryz.underlying53 Zf rfl ?_
 intro H enc w base spare held z cs l X h;simp only[List.mapM_cons,List.mapM_nil,Option.pure_def,Option.bind_eq_bind,ζg,ζa]at h;obtain⟨B,Y,Z,⟨C,h1,aa,⟨x2,h2,ab,⟨D,h3,ad,⟨G,h4,ae,rfl,rfl⟩,rfl⟩,rfl⟩,rfl⟩,rfl⟩:=h;obtain⟨a0,I,k0,b0⟩:=Reads.rd (P:=Tryz.prog) (t:=3) (α:=Int) (d:=B.1) (ps:=B.2) Y;rw[show Tryz.prog.cellsOf 3=1 from by kernel_rfl]at I
 obtain⟨J,L,k1,b1⟩:=Reads.rd (P:=Tryz.prog) (t:=3) (α:=Int) (d:=C.1) (ps:=C.2) h1;rw[show Tryz.prog.cellsOf 3=1 from by kernel_rfl]at L
 obtain⟨O,Q,k2,b2⟩:=Reads.rd (P:=Tryz.prog) (t:=3) (α:=Int) (d:=x2.1) (ps:=x2.2) h2;rw[show Tryz.prog.cellsOf 3=1 from by kernel_rfl]at Q
 obtain⟨S,T,k3,b3⟩:=Reads.rd (P:=Tryz.prog) (t:=3) (α:=Int) (d:=D.1) (ps:=D.2) h3;rw[show Tryz.prog.cellsOf 3=1 from by kernel_rfl]at T
 obtain⟨U,W,k4,b4⟩:=Reads.rd (P:=Tryz.prog) (t:=51) (α:=(Sl Assign)) (d:=G.1) (ps:=G.2) h4;rw[show Tryz.prog.cellsOf 51=1 from by kernel_rfl]at W
 refine⟨⟨a0,J,O,S,U⟩,fK.fin (n:=5) (fK.seg (o:=4) (n:=1) (fK.seg (o:=3) (n:=1) (fK.seg (o:=2) (n:=1) (fK.seg (o:=1) (n:=1) (fK.seg (o:=0) (n:=1) (show fK (snap w) [] (cs.take 0)from by simpa using fK.nil) I) L) Q) T) W) X,⟨k0,k1,k2,k3,k4,trivial⟩,λb u=>?_⟩
 have w0:=b0 b u;have w1:=b1 b u;have w2:=b2 b u;have w3:=b3 b u;have w4:=b4 b u;show cm.wt a0+cm.wt J+cm.wt O+cm.wt S+cm.wt U+1<=_;simp only[List.map_cons,List.map_nil,List.sum_cons,List.sum_nil];omega
instance VN:Reads Tryz.prog 41 (Sl Event):=Reads.sl (e:=53) Tryz.underlying41 Zf (by decide)
instance VQ:Reads Tryz.prog 43 cr:=by
 refine Reads.st Tryz.underlying43 Zf rfl ?_
 intro H enc w base spare held z cs l O h;simp only[List.mapM_cons,List.mapM_nil,Option.pure_def,Option.bind_eq_bind,ζg,ζa]at h;obtain⟨B,Q,S,⟨C,h1,T,⟨x2,U,W,rfl,rfl⟩,rfl⟩,rfl⟩:=h;obtain⟨a0,D,k0,X⟩:=Reads.rd (P:=Tryz.prog) (t:=9) (α:=ByteArray) (d:=B.1) (ps:=B.2) Q;rw[show Tryz.prog.cellsOf 9=1 from by kernel_rfl]at D
 obtain⟨G,I,k1,Y⟩:=Reads.rd (P:=Tryz.prog) (t:=40) (α:=(Sl Var)) (d:=C.1) (ps:=C.2) h1;rw[show Tryz.prog.cellsOf 40=1 from by kernel_rfl]at I
 obtain⟨J,L,k2,Z⟩:=Reads.rd (P:=Tryz.prog) (t:=41) (α:=(Sl Event)) (d:=x2.1) (ps:=x2.2) U;rw[show Tryz.prog.cellsOf 41=1 from by kernel_rfl]at L
 refine⟨⟨a0,G,J⟩,fK.fin (n:=3) (fK.seg (o:=2) (n:=1) (fK.seg (o:=1) (n:=1) (fK.seg (o:=0) (n:=1) (show fK (snap w) [] (cs.take 0)from by simpa using fK.nil) D) I) L) O,⟨k0,k1,k2,trivial⟩,λb u=>?_⟩
 have w0:=X b u;have w1:=Y b u;have w2:=Z b u;show cm.wt a0+cm.wt G+cm.wt J+1<=_;simp only[List.map_cons,List.map_nil,List.sum_cons,List.sum_nil];omega
instance VJ:Reads Tryz.prog 22 (Sl cr):=Reads.sl (e:=43) Tryz.underlying22 Zf (by decide)
instance VR:Reads Tryz.prog 24 Trace:=by
 refine Reads.st Tryz.underlying24 Zf rfl ?_
 intro H enc w base spare held u cs l C h;simp only[List.mapM_cons,List.mapM_nil,Option.pure_def,Option.bind_eq_bind,ζg,ζa]at h;obtain⟨z,D,G,rfl,rfl⟩:=h;obtain⟨a0,B,k0,I⟩:=Reads.rd (P:=Tryz.prog) (t:=22) (α:=(Sl cr)) (d:=z.1) (ps:=z.2) D;rw[show Tryz.prog.cellsOf 22=1 from by kernel_rfl]at B
 refine⟨⟨a0⟩,fK.fin (n:=1) (fK.seg (o:=0) (n:=1) (show fK (snap w) [] (cs.take 0)from by simpa using fK.nil) B) C,⟨k0,trivial⟩,λb J=>?_⟩
 have L:=I b J;show cm.wt a0+1<=_;simp only[List.map_cons,List.map_nil,List.sum_cons,List.sum_nil];omega
instance VK:Reads Tryz.prog 29 (Sl Int):=Reads.sl (e:=3) Tryz.underlying29 Zf (by decide)
instance VS:Reads Tryz.prog 25 (Sl (Sl Int)):=Reads.sl (e:=29) Tryz.underlying25 Zf (by decide)
end Go.VE.YtegogepdjcdfcagGreatDoor
namespace Go.VE
end Go.VE
namespace Go.VE
abbrev Dt {α:Type} (m:bf α):Prop:=Wp m λ_=>True
theorem Dt.get {α:Type} {m:bf α} (h:Dt m):∃a,m=some a:=let ⟨a,e,_⟩:=h;⟨a,e⟩
theorem Dt.ok {m:bf Bool} (h:Dt m):m=some (m.getD false):=by obtain⟨a,e,_⟩:=h;rw[e];rfl
def Small (t:Trace):Prop:=t.procs.l.length<1073741824/\∀p∈t.procs.l,p.events.l.length<1073741824/\p.vars.l.length<1073741824/\p.name.size<1073741824/\(∀v∈p.vars.l,v.name.size<1073741824)/\∀e∈p.events.l,e.assign.l.length<1073741824
section
theorem Ji {s:Sl Event} {p:Event->bf Bool} {f:Event->Bool} (hp:∀x∈s.l,p x=some (f x)) (u:s.l.length<1073741824):fe s p=some (place f s.l):=
 tf hp Za (λi=>rfl)
theorem KP {s:Sl cr} {p:cr->bf Bool} {f:cr->Bool} (hp:∀x∈s.l,p x=some (f x)) (u:s.l.length<1073741824):fD s p=some (place f s.l):=
 tf hp Za (λi=>rfl)
theorem MW {s:Sl Var} {p:Var->bf Bool} {f:Var->Bool} (hp:∀x∈s.l,p x=some (f x)) (u:s.l.length<1073741824):fT s p=some (place f s.l):=
 tf hp Za (λi=>rfl)
theorem HI {s:Sl Assign} {p:Assign->bf Bool} {f:Assign->Bool} (hp:∀x∈s.l,p x=some (f x)) (u:s.l.length<1073741824):eR s p=some (place f s.l):=
 tf hp Za (λi=>rfl)
theorem xF {s:Sl Event} {p:Event->bf Bool} {f:Event->Bool} (hp:∀x∈s.l,p x=some (f x)) (u:s.l.length<1073741824):gp s p=some (s.l.any f):=by
 unfold gp;rw[Ji hp u,ζb,sY]
theorem Gg {s:Sl cr} {p:cr->bf Bool} {f:cr->Bool} (hp:∀x∈s.l,p x=some (f x)) (u:s.l.length<1073741824):gH s p=some (s.l.any f):=by
 unfold gH;rw[KP hp u,ζb,sY]
theorem Ac {s:Sl Var} {p:Var->bf Bool} {f:Var->Bool} (hp:∀x∈s.l,p x=some (f x)) (u:s.l.length<1073741824):fS s p=some (s.l.any f):=by
 unfold fS;rw[MW hp u,ζb,sY]
theorem CC {s:Sl Assign} {p:Assign->bf Bool} {f:Assign->Bool} (hp:∀x∈s.l,p x=some (f x)) (u:s.l.length<1073741824):fW s p=some (s.l.any f):=by
 unfold fW;rw[HI hp u,ζb,sY]
theorem nN (x u B:Int):lW x u B=some (decide (u<=x)&&decide (x<=B)):=by
 unfold lW;rw[mQ];rfl
theorem Jf {s:ByteArray} {i:Nat} (h:i<s.size):∃x,jV s (i:Int)=some x:=by
 unfold jV;rw[if_pos Za]
 exact⟨_,by rw[show (s[(i:Int).toNat]?)=some s[i]from by simp[h]];rfl⟩
def jO (n:Nat) (p:Int) (e:Event):Prop:=e.kind=1\/((e.kind=2\/e.kind=3)/\0<=e.peer/\e.peer<n/\e.peer≠p/\0<=e.message/\e.message<=199)
end
def jS (t:Trace) (p k:Nat) (e:Event):Prop:=∃P,t.procs.l[p]? = some P/\P.events.l[k]? = some e
theorem sH {p:Int} {x:bg×Event}:∀{es:a_ Event} {j:Int},x∈gU p j es↔∃k:Nat,es[k]? = some x.2/\x.1=⟨p,j+k+1⟩
 | [],j=>by simp[gU]
 | e::es,j=>by
  simp[gU,sH ];constructor
  .rintro (rfl|⟨k,h1,u⟩)
   .exact⟨0,rfl,by simp⟩
   exact⟨k+1,by grind,by grind⟩
  grind
theorem tO {x:bg×Event}:∀{ps:a_ cr} {i:Int},x∈eX i ps↔∃(a k:Nat) (P:cr),ps[a]? = some P/\P.events.l[k]? = some x.2/\x.1=⟨i+a,k+1⟩
 | [],i=>by simp[eX]
 | p::ps,i=>by
  simp only[eX,List.mem_append,sH,tO ];constructor
  .rintro (⟨k,h1,u⟩|⟨a,k,P,h1,u,B⟩)
   .exact⟨0,k,p,rfl,h1,by grind⟩
   exact⟨a+1,k,P,by simp_all,u,by grind⟩
  grind
abbrev bT (t:Trace):a_ (bg×Event):=eX 0 t.procs.l
theorem dY {t:Trace} {x:bg×Event}:x∈bT t↔∃p k:Nat,jS t p k x.2/\x.1=⟨p,k+1⟩:=by
 rw[tO];constructor
 .rintro⟨a,k,P,h1,u,w⟩;exact⟨a,k,⟨P,h1,u⟩,by grind⟩
 rintro⟨a,k,⟨P,h1,u⟩,w⟩;grind
theorem A6 {t:Trace} {x y:bg×Event} (u:x∈bT t) (B:y∈bT t) (h:x.1=y.1):x=y:=by
 obtain⟨p,k,⟨P,w,hk⟩,e1⟩:=dY.1 u;obtain⟨q,j,⟨Q,z,C⟩,e2⟩:=dY.1 B
 grind
theorem t_ {t:Trace} (u:Small t):iC t=some (bT t):=by
 unfold iC;rw[if_pos];simp[EL];exact⟨by have:=u.1;omega,λp w=>by have:=(u.2 p w).1;omega⟩
def rB (t:Trace) (p m to:Int):Bool:=match t.procs.l[p.toNat]? with
 | some P=>P.events.l.any λe=>e.kind==2&&e.message==m&&e.peer==to
 | none=>false
theorem NH {t:Trace} (B:Small t) {p:Int} (D:0<=p) (h1:p<t.procs.l.length) (m to:Int):sK t p m to=some (rB t p m to):=by
 unfold sK;have u:p.toNat<t.procs.l.length:=by omega
 have w:=List.getElem_mem u;rw[RG D,ζd u,ζb,xF (f:=λe=>e.kind==2&&e.message==m&&e.peer==to) (λe _=>by
  unfold oT;simp[mQ]) (B.2 _ w).1,ζb]
 unfold rB
 grind
theorem Bz {t:Trace} {p:Nat} {m to:Int}:rB t p m to=true↔∃k e,jS t p k e/\e.kind=2/\e.message=m/\e.peer=to:=by
 unfold rB jS;rw[show (p:Int).toNat=p from rfl]
 cases w:t.procs.l[p]? with
 | none=>simp
 | some P=>
  simp;constructor
  .rintro⟨e,u,h⟩;obtain⟨k,hk⟩:=List.getElem?_of_mem u
   grind
  grind
def ag (A:bU 200 br) (m:Int):br:=(A.at m).getD default
theorem Jz (A:bU 200 br) {m:Int} (u:0<=m) (h1:m<=199):A.at m=some (ag A m):=by
 have:m.toNat<A.l.length:=by rw[A.len];omega
 unfold ag bU.at
 grind
theorem pJ (A:bU 200 br) {m m':Int} (x:br) (u:0<=m) (h1:m<=199) (B:0<=m'):ag (A.set m x) m'=if m'=m then x else ag A m':=by
 have:m.toNat<A.l.length:=by rw[A.len];omega
 unfold ag bU.at bU.set
 grind
theorem Ly {m:Int} (u:0<=m) (h1:m<=199):ag (bU.LN 200 (⟨⟨0,0⟩,⟨0,0⟩⟩:br)) m=⟨⟨0,0⟩,⟨0,0⟩⟩:=by
 unfold ag bU.at bU.LN
 grind
structure gE (t:Trace) (its:List (bg×Event)) (A:bU 200 br):Prop where
 snd:∀x∈its,x.2.kind=2->(ag A x.2.message).from_=x.1
 rcv:∀x∈its,x.2.kind=3->(ag A x.2.message).to_=x.1/\rB t x.2.peer x.2.message x.1.proc=true
 fr:∀m,0<=m->m<=199->(ag A m).from_.index=0\/∃e,((ag A m).from_,e)∈its/\e.kind=2/\e.message=m
 to:∀m,0<=m->m<=199->(ag A m).to_.index=0\/∃e,((ag A m).to_,e)∈its/\e.kind=3/\e.message=m
def IV (a b:bg×Event):Prop:=a.1.proc<b.1.proc\/a.1.proc=b.1.proc/\a.1.index<b.1.index
theorem Mc {p:Int}:∀{es:a_ Event} {j:Int},(gU p j es).Pairwise IV
 | [],_=>List.Pairwise.nil
 | e::es,j=>by
  simp only[gU,List.pairwise_cons];refine⟨λb u=>?_,Mc⟩
  obtain⟨k,_,B⟩:=sH.1 u;refine .inr ⟨by rw[B],?_⟩
  grind
theorem Fy:∀{ps:a_ cr} {i:Int},(eX i ps).Pairwise IV
 | [],_=>List.Pairwise.nil
 | P::ps,i=>by
  simp only[eX,List.pairwise_append];refine⟨Mc,Fy,λa u b B=>.inl ?_⟩
  obtain⟨k,_,D⟩:=sH.1 u;obtain⟨c,j,P,_,_,t⟩:=tO.1 B
  grind
theorem EZ {t:Trace} {k:Nat} {x y:bg×Event} (u:(bT t)[k]? = some x) (B:y∈(bT t).take k):y.1≠x.1:=by
 obtain⟨h1,w⟩:=ζe.1 u;have z:((bT t).take k++(bT t).drop k).Pairwise IV:=by rw[List.take_append_drop];exact Fy
 have:=(List.pairwise_append.1 z).2.2 y B x (by rw[List.drop_eq_getElem_cons h1,w];grind)
 unfold IV at this
 grind
structure wz (t:Trace):Prop where
 snd:∀x∈bT t,∀y∈bT t,x.2.kind=2->y.2.kind=2->x.2.message=y.2.message->x.1=y.1
 rcv:∀x∈bT t,∀y∈bT t,x.2.kind=3->y.2.kind=3->x.2.message=y.2.message->x.1=y.1
 has:∀x∈bT t,x.2.kind=3->rB t x.2.peer x.2.message x.1.proc=true
theorem gE.Md {t:Trace} {A:bU 200 br} (h:gE t (bT t) A):wz t:=
 ⟨λx w y z k2 u B=>by rw[<-h.snd x w k2,<-h.snd y z u,B],λx w y z k2 u B=>by rw[<-(h.rcv x w k2).1,<-(h.rcv y z u).1,B],λx w k=>(h.rcv x w k).2⟩
theorem Cc {t:Trace} (hS:Small t) (hF:∀x∈bT t,jO t.procs.l.length x.1.proc x.2):Wp (dW t) λr=>(r.2.2=0->∃A,r.1=some A/\gE t (bT t) A)/\(wz t->r.2.2=0):=by
 unfold dW jq;rw[ζb];unfold dW.E1;rw[t_ hS,ζb];refine zx (λk A=>gE t ((bT t).take k) A) ⟨by simp,by simp,λm L h1=>.inl (by rw[Ly L h1]),λm L h1=>.inl (by rw[Ly L h1])⟩ ?_ ?_
 .intro k x A hx B;have G  := List.mem_of_getElem? hx;have T:(bT t).take (k+1)=(bT t).take k++[x]:=by rw[List.take_add_one,hx];rfl
  obtain⟨p,j,aa,ab⟩:=dY.1 G;have hf:=hF x G;unfold dW.sA;rw[ck];constructor
  .intro hk;have O:x.2.kind=2:=by grind
   have u:0<=x.2.message/\x.2.message<=199:=by
    rcases hf with h|⟨_,_,_,_,h⟩
    .omega
    simp_all
   rw[Jz A u.1 u.2,ζb,ck];refine⟨λhg=>(bk _).2 ((bk _).2 ⟨λh=>(by cases h),λY=>?_⟩),λL=>?_⟩
   .rcases B.fr _ u.1 u.2 with Z|⟨e,Q,U,W⟩
    .grind
    exact absurd (Y.snd _ (List.mem_of_mem_take Q) x G U O W) (EZ hx Q)
   rw[ζb,bk,T];have X:∀y∈(bT t).take k,y.2.kind=2->y.2.message≠x.2.message:=λy hy w Q=>by
    have:=B.snd y hy w;rw[Q]at this;obtain⟨p',j',_,S⟩:=dY.1 (List.mem_of_mem_take hy)
    grind
   have nn:∀y∈(bT t).take k,y.2.kind=2\/y.2.kind=3->0<=y.2.message:=λy hy w=>by
    rcases hF y (List.mem_of_mem_take hy)with h|⟨_,_,_,_,h,_⟩
    .omega
    simp_all
   refine⟨λy hy w=>?_,λy hy z=>?_,λm C I=>?_,λm C I=>?_⟩
   .rcases List.mem_append.1 hy with hy|hy
    .rw[pJ A _ u.1 u.2 (nn y hy (.inl w)),if_neg (X y hy w)];exact B.snd y hy w
    simp at hy;subst hy;rw[pJ A _ u.1 u.2 u.1,if_pos rfl]
   .rcases List.mem_append.1 hy with hy|hy
    .rw[pJ A _ u.1 u.2 (nn y hy (.inr z))];have:=B.rcv y hy z
     grind
    grind
   .rw[pJ A _ u.1 u.2 C];split
    next e=>exact .inr ⟨x.2,by simp,O,e.symm⟩
    exact(B.fr m C I).imp (λh=>h) λ⟨e,h1,D⟩=>⟨e,List.mem_append_left _ h1,D⟩
   rw[pJ A _ u.1 u.2 C];have:=(B.to m C I).imp (λh=>h) λ⟨e,h1,D⟩=>(⟨e,List.mem_append_left [x] h1,D⟩:∃e,((ag A m).to_,e)∈(bT t).take k++[x]/\e.kind=3/\e.message=m)
   split
   next e=>subst e;omega
   omega
  intro hk;have O  := by simpa using hk
  rw[ck];constructor
  .intro hk;have J  := by simpa using hk
   have u:0<=x.2.message/\x.2.message<=199/\0<=x.2.peer/\x.2.peer<t.procs.l.length:=by
    rcases hf with h|⟨_,h1,D,_,h3,h4⟩
    .omega
    exact⟨h3,h4,h1,D⟩
   rw[Jz A u.1 u.2.1,ζb,ck];refine⟨λhg=>(bk _).2 ((bk _).2 ⟨λh=>(by cases h),λY=>?_⟩),λL=>?_⟩
   .rcases B.to _ u.1 u.2.1 with Z|⟨e,Q,U,W⟩
    .simp[Z]at hg
    exact absurd (Y.rcv _ (List.mem_of_mem_take Q) x G U J W) (EZ hx Q)
   have L:¬(ag A x.2.message).to_.index>0:=by simpa using L
   rw[NH hS u.2.2.1 u.2.2.2,ζb,ck];refine⟨λhs=>?_,λhs=>(bk _).2 ((bk _).2 ⟨λh=>(by cases h),λY=>by rw[Y.has x G J]at hs;cases hs⟩)⟩
   rw[ζb,bk,T];have X:∀y∈(bT t).take k,y.2.kind=3->y.2.message≠x.2.message:=λy hy w Q=>by
    have:=(B.rcv y hy w).1;rw[Q]at this;rw[this]at L;obtain⟨p',j',_,S⟩:=dY.1 (List.mem_of_mem_take hy);rw[S]at L;exact L (by show (j':Int)+1>0;omega)
   have nn:∀y∈(bT t).take k,y.2.kind=2\/y.2.kind=3->0<=y.2.message:=λy hy w=>by
    rcases hF y (List.mem_of_mem_take hy)with h|⟨_,_,_,_,h,_⟩
    .omega
    exact h
   refine⟨λy hy w=>?_,λy hy z=>?_,λm C I=>?_,λm C I=>?_⟩
   .rcases List.mem_append.1 hy with hy|hy
    .rw[pJ A _ u.1 u.2.1 (nn y hy (.inl w))];have:=B.snd y hy w;split
     next e=>rw[e]at this;exact this
     exact this
    simp at hy;subst hy;omega
   .rcases List.mem_append.1 hy with hy|hy
    .rw[pJ A _ u.1 u.2.1 (nn y hy (.inr z)),if_neg (X y hy z)];exact B.rcv y hy z
    simp at hy;subst hy;rw[pJ A _ u.1 u.2.1 u.1,if_pos rfl];exact⟨rfl,hs⟩
   .rw[pJ A _ u.1 u.2.1 C];have:=(B.fr m C I).imp (λh=>h) λ⟨e,h1,D⟩=>(⟨e,List.mem_append_left [x] h1,D⟩:∃e,((ag A m).from_,e)∈(bT t).take k++[x]/\e.kind=2/\e.message=m)
    split
    next e=>subst e;exact this
    exact this
   rw[pJ A _ u.1 u.2.1 C];split
   next e=>exact .inr ⟨x.2,by simp,J,e.symm⟩
   exact(B.to m C I).imp (λh=>h) λ⟨e,h1,D⟩=>⟨e,List.mem_append_left _ h1,D⟩
  intro hk;have J  := by simpa using hk
  rw[bk,T];refine⟨λy hy w=>?_,λy hy z=>?_,λm C I=>?_,λm C I=>?_⟩
  .rcases List.mem_append.1 hy with hy|hy
   .exact B.snd y hy w
   simp at hy;subst hy;exact absurd w O
  .rcases List.mem_append.1 hy with hy|hy
   .exact B.rcv y hy z
   simp at hy;subst hy;exact absurd z J
  .exact(B.fr m C I).imp (λh=>h) λ⟨e,h1,D⟩=>⟨e,List.mem_append_left _ h1,D⟩
  exact(B.to m C I).imp (λh=>h) λ⟨e,h1,D⟩=>⟨e,List.mem_append_left _ h1,D⟩
 intro A hA;rw[List.take_length]at hA;exact(bk _).2 ⟨λ_=>⟨A,rfl,hA⟩,λ_=>rfl⟩
def ig (f:Nat->Bool) (k n:Nat):Bool:=(List.range' k (n-k)).any f
theorem Dp {f:Nat->Bool} {k n:Nat} (h:k<n):ig f k n=(f k||ig f (k+1) n):=by
 unfold ig;rw[show n-k=(n-(k+1))+1 from by omega,List.range'_succ];rfl
theorem NU {f:Nat->Bool} {k n:Nat} (h:n<=k):ig f k n=false:=by
 unfold ig;rw[show n-k=0 from by omega];rfl
theorem MO {f:Nat->Bool} {k n:Nat}:ig f k n=true↔∃i,k<=i/\i<n/\f i=true:=by
 unfold ig;rw[List.any_eq_true];constructor
 .rintro⟨i,u,t⟩;rw[List.mem_range'_1]at u;exact⟨i,u.1,by omega,t⟩
 rintro⟨i,h1,w,t⟩;exact⟨i,by rw[List.mem_range'_1];omega,t⟩
theorem C7 {step:Int->bf (Fw Int Unit Unit)} {n:Nat} (f:Nat->Bool) (B:n<9223372036854775807) (h1:∀i:Nat,i<n->step i=some (if f i then .r ()else .n (IntKind.wrap .i64 ((i:Int)+1)))) (u:step (n:Int)=some (.x ())) :
 ∀m k:Nat,k+m=n->bM step (k:Int)=some (if ig f k n then .r ()else .x ()):=by
 intro m
 induction m with
 | zero=>
  intro k hk;have:k=n:=by omega
  subst this;rw[gm,u,NU (Nat.le_refl _)];rfl
 | succ m t=>
  intro k hk;rw[gm,h1 k Za,Dp Za]
  cases w:f k with
  | true=>rfl
  | false=>
   simp only[Bool.false_eq_true,if_false,ζb,Bool.false_or];rw[cW k Za]
   exact t (k+1) Za
def mV (g:Nat->Int) (k n:Nat):Int:=match (List.range' k (n-k)).find? λi => !(g i==0)with
 | some i=>g i
 | none=>0
theorem DA {g:Nat->Int} {k n:Nat} (h:k<n):mV g k n=if g k=0 then mV g (k+1) n else g k:=by
 unfold mV;rw[show n-k=(n-(k+1))+1 from by omega,List.range'_succ,List.find?_cons]
 by_cases t:g k=0
 .simp[t]
 rw[if_neg t,show (!(g k==0))=true from by simp[t]]
theorem Fx {g:Nat->Int} {k n:Nat} (h:n<=k):mV g k n=0:=by
 unfold mV;rw[show n-k=0 from by omega];rfl
theorem Ur {g:Nat->Int} {n:Nat}:∀{m k:Nat},k+m=n->(mV g k n=0↔∀i,k<=i->i<n->g i=0):=by
 intro m
 induction m with
 | zero=>intro k hk;rw[Fx Za];exact⟨λ_ i h1 t=>by omega,λ_=>rfl⟩
 | succ m w=>
  intro k hk;rw[DA Za]
  split
  .rename_i u;rw[w (show k+1+m=n by omega)]
   constructor
   .intro h i h1 t
    by_cases e:i=k
    .subst e;exact u
    exact h i Za t
   intro h i h1 t;exact h i Za t
  rename_i u;exact⟨λh=>absurd h u,λh=>absurd (h k (Nat.le_refl _) Za) u⟩
theorem QU {step:Int->bf (Fw Int Unit Int)} {n:Nat} (g:Nat->Int) (B:n<9223372036854775807) (h1:∀i:Nat,i<n->step i=some (if g i=0 then .n (IntKind.wrap .i64 ((i:Int)+1))else .r (g i))) (u:step (n:Int)=some (.x ())) :
 ∀m k:Nat,k+m=n->bM step (k:Int)=some (if mV g k n=0 then .x ()else .r (mV g k n)):=by
 intro m
 induction m with
 | zero=>
  intro k hk;have:k=n:=by omega
  subst this;rw[gm,u,Fx (Nat.le_refl _)];rfl
 | succ m w=>
  intro k hk;rw[gm,h1 k Za,DA Za]
  by_cases t:g k=0
  .simp only[t,if_true,ζb];rw[cW k Za]
   exact w (k+1) Za
  simp only[t,if_false,ζb]
theorem xe {step:Int->bf (Fw Int Unit Int)} {n:Nat} (g:Nat->Int) (u:n<9223372036854775807) (h1:∀i:Nat,i<n->step i=some (if g i=0 then .n (IntKind.wrap .i64 ((i:Int)+1))else .r (g i))) (B:step (n:Int)=some (.x ())):bM step 0=some (if mV g 0 n=0 then .x ()else .r (mV g 0 n)):=QU g u h1 B n 0 Za
theorem AD {step:Int->bf (Fw Int Unit Unit)} {n:Nat} (f:Nat->Bool) (u:n<9223372036854775807) (h1:∀i:Nat,i<n->step i=some (if f i then .r ()else .n (IntKind.wrap .i64 ((i:Int)+1)))) (B:step (n:Int)=some (.x ())):bM step 0=some (if ig f 0 n then .r ()else .x ()):=C7 f u h1 B n 0 Za
def vS (c:Int):Bool:=decide (c>=65)&&decide (c<=90)||decide (c>=97)&&decide (c<=122)
def AW (c:Int):Bool:=decide (c>=48)&&decide (c<=57)
theorem By (c:Int):oD c=some (vS c):=by
 unfold oD vS;simp only[mQ,jg,ζb];rw[Bool.or_comm]
theorem Cz (c:Int):nJ c=some (vS c):=by
 unfold nJ vS;simp only[mQ,jg,ζb]
theorem Lq (c:Int):sM c=some (AW c):=by
 unfold sM AW;simp only[mQ,ζb]
theorem KF (c:Int):rm c=some (AW c):=by
 unfold rm AW;simp only[mQ,ζb]
def u7 (s:ByteArray) (i:Nat):Int:=(jV s (i:Int)).getD 0
theorem Bp {s:ByteArray} {i:Nat} (h:i<s.size):jV s (i:Int)=some (u7 s i):=by
 obtain⟨x,t⟩:=Jf h;unfold u7;rw[t];rfl
def rz (s:ByteArray) (i:Nat):Bool := !vS (u7 s i) && !AW (u7 s i) && !(u7 s i==95)
def ku (s:ByteArray):Bool:=decide (1<=s.size)&&decide (s.size<=16)&&vS (u7 s 0) && !ig (rz s) 0 s.size
theorem IY {s:ByteArray} {i:Nat} (h:i<s.size):fF.bA s (s.size:Int) i=some (if rz s i then .r ()else .n (IntKind.wrap .i64 ((i:Int)+1))):=by
 unfold fF.bA rz;rw[show decide ((i:Int)<(s.size:Int))=true from by simpa using h,bY,Bp h]
 simp only[ζb,By,Lq];cases vS (u7 s i) <;> cases AW (u7 s i) <;> cases (u7 s i==95) <;> rfl
theorem I8 {s:ByteArray} {i:Nat} (h:i<s.size):gb.bA s i=some (if rz s i then .r ()else .n (IntKind.wrap .i64 ((i:Int)+1))):=by
 unfold gb.bA rz;rw[show decide ((i:Int)<((ByteArray.size s:Nat):Int))=true from by simpa using h,bY,Bp h]
 simp only[ζb,Cz,KF];cases vS (u7 s i) <;> cases AW (u7 s i) <;> cases (u7 s i==95) <;> rfl
theorem toList_empty {s:ByteArray}:(ByteArray.toList s==ByteArray.toList ByteArray.empty)=decide (s.size=0):=by
 rw[Bool.eq_iff_iff,beq_iff_eq,decide_eq_true_eq];constructor
 .intro h;have h1:(ByteArray.toList s).length=s.size:=by rw[Go.ByteArray.toList_eq];simp
  rw[<-h1,h];rw[Go.ByteArray.toList_eq];rfl
 intro h;have:s=ByteArray.empty:=by
  apply ByteArray.ext;exact Array.eq_empty_of_size_eq_zero h
 rw[this]
theorem D1 {s:ByteArray} (B:s.size<1073741824):fF s=some (ku s):=by
 unfold fF;rw[toList_empty];simp only[jg,ζb]
 by_cases u:s.size=0
 .simp[u,ku,bt]
 by_cases t:s.size<=16
 .have hc:(decide (s.size=0)||decide (((ByteArray.size s:Nat):Int)>16))=false:=by simp[u];omega
  rw[hc,b8,show (0:Int)=((0:Nat):Int)from rfl,Bp (show 0<s.size by omega)]
  simp only[ζb,By]
  cases w:vS (u7 s 0)with
  | false=>simp[ku,w,bt]
  | true=>
   simp only[Bool.not_true,b8];unfold fF.W1;rw[C7 (n:=s.size) (rz s) Za (λi z=>IY z) (by unfold fF.bA;simp[bt]) s.size 0 Za]
   have:ku s = !ig (rz s) 0 s.size:=by simp[ku,w,t];omega
   rw[this];cases ig (rz s) 0 s.size <;> rfl
 have hc:(decide (s.size=0)||decide (((ByteArray.size s:Nat):Int)>16))=true:=by simp;omega
 rw[hc,bY];simp[ku,t,bt]
theorem FY {s:ByteArray} (D:s.size<1073741824):gb s=some (ku s):=by
 unfold gb;simp only[jg,ζb]
 by_cases z:s.size=0
 .simp[z,ku,bt]
 by_cases t:s.size<=16
 .have hc:(decide (((ByteArray.size s:Nat):Int)<1)||decide (((ByteArray.size s:Nat):Int)>16))=false:=by simp;omega
  rw[hc,b8,show (0:Int)=((0:Nat):Int)from rfl,Bp (show 0<s.size by omega)]
  simp only[ζb,Cz]
  cases u:vS (u7 s 0)with
  | false=>simp[ku,u,bt]
  | true=>
   simp only[Bool.not_true,b8];unfold gb.W1;rw[show (1:Int)=((1:Nat):Int)from rfl,C7 (n:=s.size) (rz s) Za (λi B=>I8 B) (by unfold gb.bA;simp[bt]) (s.size-1) 1 Za]
   have w:rz s 0=false:=by simp[rz,u]
   have:ku s = !ig (rz s) 1 s.size:=by
    have h1:=Dp (f:=rz s) (show 0<s.size by omega)
    rw[w]at h1;simp[ku,u,t,h1];omega
   rw[this];cases ig (rz s) 1 s.size <;> rfl
 have hc:(decide (((ByteArray.size s:Nat):Int)<1)||decide (((ByteArray.size s:Nat):Int)>16))=true:=by simp;omega
 rw[hc,bY];simp[ku,t,bt]
def fO {α:Type} (l:a_ α) (f:α->Bool) (i:Nat):Bool:=match l[i]? with|some y=>f y|none=>false
theorem yN {α:Type} {l:a_ α} {f:α->Bool} {i:Nat} (h:i<l.length):fO l f i=f l[i]:=by unfold fO;rw[ζd h]
theorem A4 {α:Type} {l:a_ α} {f:α->Bool} {p:Nat}:(l.take p).any f=ig (fO l f) 0 p:=by
 rw[Bool.eq_iff_iff,List.any_eq_true,MO];constructor
 .rintro⟨x,w,t⟩;obtain⟨i,u⟩:=List.getElem?_of_mem w;have z:=(ζe.1 u).1;rw[List.length_take]at z;rw[List.getElem?_take,if_pos Za]at u
  exact⟨i,Nat.zero_le _,by omega,by unfold fO;rw[u];exact t⟩
 rintro⟨i,_,u,t⟩;unfold fO at t;split at t
 next y B=>exact⟨y,List.mem_of_getElem? (i:=i) (by rw[List.getElem?_take,if_pos u];exact B),t⟩
 cases t
def pY (a b:ByteArray):Bool:=ByteArray.toList a==ByteArray.toList b
def RE:Bool->Bool->Bool->Int
 | true,false,true=>0
 | true,false,false=>2
 | _,_,_=>13
def sX (P:cr) (i:Nat):Int:=match P.vars.l[i]? with
 | some v=>RE (ku v.name) (ig (fO P.vars.l λw=>pY w.name v.name) 0 i) (decide (v.init_>=-1073741824)&&decide (v.init_<=1073741824))
 | none=>0
def qH (t:Trace) (p:Nat):Int:=match t.procs.l[p]? with
 | some P=>if ku P.name && !ig (fO t.procs.l λy=>pY y.name P.name) 0 p then
  (if P.vars.l.length>8 then 5 else if mV (sX P) 0 P.vars.l.length=0 then(if P.events.l.length>64 then 5 else 0)else mV (sX P) 0 P.vars.l.length)else 13
 | none=>0
theorem Eh {P:cr} {i:Nat} (h:i<P.vars.l.length):sX P i=RE (ku P.vars.l[i].name) (ig (fO P.vars.l λw=>pY w.name P.vars.l[i].name) 0 i) (decide (P.vars.l[i].init_>=-1073741824)&&decide (P.vars.l[i].init_<=1073741824)):=by
 unfold sX;rw[ζd h]
theorem Dq (n:Int):oh n=some (decide (n>=-1073741824)&&decide (n<=1073741824)):=by
 unfold oh;rw[mQ];rfl
theorem M0 {t:Trace} (T:Small t) {p:Nat} (hp:p<t.procs.l.length):dX t p=some (qH t p):=by
 have X:=T.2 _ (List.getElem_mem hp);have h1:=T.1;unfold dX qH;rw[bO hp,ζb,ζd hp];generalize Y:t.procs.l[p]=P at *;obtain⟨U,Z,Q,u,_⟩:=X;rw[D1 Q,ζb];obtain⟨x,hx,D⟩:=u_ t.procs p Za
 have G:gH x (λz=>iS z P)=some (ig (fO t.procs.l λy=>pY y.name P.name) 0 p):=by
  rw[Gg (p:=λz=>iS z P) (f:=λy=>pY y.name P.name) (λy _=>rfl) (by rw[D,List.length_take];omega),D,A4]
 rw[hx,ζb,G,ζb];dsimp only
 cases hn:ku P.name with
 | false=>simp[bt]
 | true=>
  rw[bY,ζb,Bool.true_and]
  cases hd:ig (fO t.procs.l λy=>pY y.name P.name) 0 p with
  | true=>simp[bt]
  | false=>
   rw[b8];simp only[Bool.not_false,if_true]
   by_cases W:P.vars.l.length>8
   .rw[show decide (len P.vars>8)=true from by simp[len];omega,bY,if_pos W]
   rw[show decide (len P.vars>8)=false from by simp[len];omega,b8,if_neg W]
   unfold dX.W1;rw[xe (n:=P.vars.l.length) (sX P) Za (λi L=>?_) (by unfold dX.bA;simp[bt,len])]
   .by_cases O:mV (sX P) 0 P.vars.l.length=0
    .rw[if_pos O,if_pos O];show bt (decide (len P.events>64)) (some 5) (some 0)=_;rw[sB];simp only[len,decide_eq_true_eq]
     by_cases I:P.events.l.length>64
     .rw[if_pos I,if_pos Za]
     rw[if_neg I,if_neg Za]
    rw[if_neg O,if_neg O];rfl
   unfold dX.bA;rw[Eh L,show decide ((i:Int)<len P.vars)=true from by simp[len];exact L,bY,bO L,ζb]
   have hv:=u _ (List.getElem_mem L);obtain⟨y,hy,J⟩:=u_ P.vars i Za
   have S:fS y (λz=>iR z P.vars.l[i])=some (ig (fO P.vars.l λw=>pY w.name P.vars.l[i].name) 0 i):=by
    rw[Ac (p:=λz=>iR z P.vars.l[i]) (f:=λw=>pY w.name P.vars.l[i].name) (λw _=>rfl) (by rw[J,List.length_take];omega),J,A4]
   rw[D1 hv,ζb,hy,ζb,S,ζb,nN];have hr:(decide (-1073741824<=P.vars.l[i].init_)&&decide (P.vars.l[i].init_<=1073741824))=(decide (P.vars.l[i].init_>=-1073741824)&&decide (P.vars.l[i].init_<=1073741824)):=rfl;rw[hr];generalize ku P.vars.l[i].name=A;generalize ig (fO P.vars.l λw=>pY w.name P.vars.l[i].name) 0 i=B
   generalize (decide (P.vars.l[i].init_>=-1073741824)&&decide (P.vars.l[i].init_<=1073741824))=C;cases A <;> cases B <;> cases C <;> rfl
theorem NK {t:Trace} (O:Small t) {p:Nat} (hp:p<t.procs.l.length):dK t p=some (qH t p):=by
 have T:=O.2 _ (List.getElem_mem hp);have h1:=O.1;unfold dK qH;rw[bO hp,ζb,ζd hp];generalize U:t.procs.l[p]=P at *;obtain⟨Q,W,L,z,_⟩:=T;rw[FY L,ζb];dsimp only
 cases Z:ku P.name with
 | false=>simp[bt]
 | true=>
  rw[bY,Bool.true_and];unfold dK.W1;rw[AD (n:=p) (fO t.procs.l λy=>pY y.name P.name) Za (λi u=>?_) (by unfold dK.bA;simp[bt])]
  .cases hd:ig (fO t.procs.l λy=>pY y.name P.name) 0 p with
   | true=>rfl
   | false=>
    simp only[Bool.not_false,if_true];show bt (decide (len P.vars>8)) (some 5) (dK.W2 0 P)=_
    by_cases S:P.vars.l.length>8
    .rw[show decide (len P.vars>8)=true from by simp[len];omega,bY,if_pos S]
    rw[show decide (len P.vars>8)=false from by simp[len];omega,b8,if_neg S]
    unfold dK.W2;rw[xe (n:=P.vars.l.length) (sX P) Za (λi u=>?_) (by unfold dK.b7;simp[bt,len])]
    .by_cases J:mV (sX P) 0 P.vars.l.length=0
     .rw[if_pos J,if_pos J];show bt (decide (len P.events>64)) (some 5) (some 0)=_;rw[sB];simp only[len,decide_eq_true_eq]
      by_cases D:P.events.l.length>64
      .rw[if_pos D,if_pos Za]
      rw[if_neg D,if_neg Za]
     rw[if_neg J,if_neg J];rfl
    unfold dK.b7;rw[Eh u,show decide ((i:Int)<len P.vars)=true from by simp[len];exact u,bY,bO u,ζb]
    rw[FY (z _ (List.getElem_mem u)),ζb];have X:dK.W3 i 0 P=if ig (fO P.vars.l λw=>pY w.name P.vars.l[i].name) 0 i then some (.r 13)else(if decide (P.vars.l[i].init_>=-1073741824)&&decide (P.vars.l[i].init_<=1073741824)then some (.n (IntKind.wrap .i64 ((i:Int)+1)))else some (.r 2)):=by
     unfold dK.W3;rw[AD (n:=i) (fO P.vars.l λw=>pY w.name P.vars.l[i].name) Za (λj Y=>?_) (by unfold dK.eG;simp[bt])]
     .cases ig (fO P.vars.l λw=>pY w.name P.vars.l[i].name) 0 i with
      | true=>rfl
      | false=>
       show (idx P.vars (i:Int)).bind _=_;rw[bO u,ζb,Dq,ζb];cases (decide (P.vars.l[i].init_>=-1073741824)&&decide (P.vars.l[i].init_<=1073741824)) <;> rfl
     unfold dK.eG;have G:j<P.vars.l.length:=by omega
     rw[show decide ((j:Int)<(i:Int))=true from by simpa using Y,bY,bO G,ζb,bO u,ζb,yN G,sB];rfl
    rw[X];generalize ku P.vars.l[i].name=A;generalize ig (fO P.vars.l λw=>pY w.name P.vars.l[i].name) 0 i=B
    generalize (decide (P.vars.l[i].init_>=-1073741824)&&decide (P.vars.l[i].init_<=1073741824))=C;cases A <;> cases B <;> cases C <;> rfl
  unfold dK.bA;have I:i<t.procs.l.length:=by omega
  rw[show decide ((i:Int)<(p:Int))=true from by simpa using u,bY,bO I,ζb,yN I,sB];rfl
def ES (n:Nat) (p:Int) (e:Event):Bool:=if e.kind==1 then e.peer==0&&e.message==0 else(e.kind==2||e.kind==3)&&(decide (0<=e.peer)&&decide (e.peer<n)) && !(e.peer==p)&&(decide (0<=e.message)&&decide (e.message<=199))
theorem K3 {t:Trace} (D:Small t) (p:Int) (e:Event):gL t p e=some (ES t.procs.l.length p e):=by
 have h1:=D.1;have w:IntKind.wrap .i64 (len t.procs-1)=len t.procs-1:=qQ _ (by simp[len];omega) (by simp[len];omega)
 have u:∀b:Bool,gL.J1 p b t e=some (b&&(decide (0<=e.peer)&&decide (e.peer<t.procs.l.length)) && !(e.peer==p)&&(decide (0<=e.message)&&decide (e.message<=199))):=by
  intro b;unfold gL.J1;simp only[nN,w,ζb];have:decide (e.peer<=len t.procs-1)=decide (e.peer<t.procs.l.length):=by congr 1;apply propext;simp[len];omega
  rw[this];generalize (decide (0<=e.peer)&&decide (e.peer<(t.procs.l.length:Int)))=A;generalize (e.peer==p)=B;generalize (decide (0<=e.message)&&decide (e.message<=199))=C;cases b <;> cases A <;> cases B <;> cases C <;> rfl
 unfold gL ES;rw[u,u]
 cases h1:e.kind==1 with
 | true=>
  rw[bY];cases e.peer==0 <;> cases e.message==0 <;> rfl
 | false=>
  rw[b8];simp only[Bool.false_eq_true,if_false];cases z:e.kind==2 <;> simp[bt]
def BO (P:cr) (k:Nat) (e:Event):Bool:=match k with|0=>false|j+1=>fO P.events.l (λx=>decide (e.time<x.time)) j
def sO (P:cr) (k:Nat) (e:Event):Bool:=decide (e.time<0)||decide (e.time>1099511627776)||BO P k e
def R4:Bool->Bool->Bool->Int
 | true,true,false=>0
 | true,true,true=>8
 | _,_,_=>2
def pK (P:cr) (e:Event) (i:Nat):Int:=match e.assign.l[i]? with
 | some a=>R4 (decide (0<=a.var)&&decide (a.var<P.vars.l.length)) (decide (a.value>=-1073741824)&&decide (a.value<=1073741824)) (ig (fO e.assign.l λb=>b.var==a.var) 0 i)
 | none=>0
theorem Ea {P:cr} {e:Event} {i:Nat} (h:i<e.assign.l.length):pK P e i=R4 (decide (0<=e.assign.l[i].var)&&decide (e.assign.l[i].var<P.vars.l.length)) (decide (e.assign.l[i].value>=-1073741824)&&decide (e.assign.l[i].value<=1073741824)) (ig (fO e.assign.l λb=>b.var==e.assign.l[i].var) 0 i):=by
 unfold pK;rw[ζd h]
def n9 (n:Nat) (P:cr) (p k:Nat) (e:Event):Int:=if ES n p e then(if sO P k e then 11 else if e.assign.l.length>8 then 5 else mV (pK P e) 0 e.assign.l.length)else 3
theorem Kp {P:cr} {e:Event} (hv:P.vars.l.length<1073741824) (O:e.assign.l.length<1073741824):di.W2 e.assign (len e.assign) 0 e P=some (mV (pK P e) 0 e.assign.l.length):=by
 have I:IntKind.wrap .i64 (len P.vars-1)=len P.vars-1:=qQ _ (by simp[len];omega) (by simp[len];omega)
 unfold di.W2;rw[xe (n:=e.assign.l.length) (pK P e) Za (λi u=>?_) (by unfold di.b7;simp[bt,len])]
 .by_cases D:mV (pK P e) 0 e.assign.l.length=0
  .rw[if_pos D,D];rfl
  rw[if_neg D];rfl
 unfold di.b7;obtain⟨y,J,t⟩:=u_ e.assign i Za
 have G:fW y (λz=>jC z e.assign.l[i])=some (ig (fO e.assign.l λb=>b.var==e.assign.l[i].var) 0 i):=by
  rw[CC (p:=λz=>jC z e.assign.l[i]) (f:=λb=>b.var==e.assign.l[i].var) (λw _=>rfl) (by rw[t,List.length_take];omega),t,A4]
 rw[Ea u,show decide ((i:Int)<len e.assign)=true from by simp[len];exact u,bY,bO u,ζb,nN,nN,I,J,ζb,ζb,ζb,G,ζb]
 have h1:(decide (0<=e.assign.l[i].var)&&decide (e.assign.l[i].var<=len P.vars-1))=(decide (0<=e.assign.l[i].var)&&decide (e.assign.l[i].var<P.vars.l.length)):=by
  congr 2;apply propext;simp[len];omega
 have L:(decide (-1073741824<=e.assign.l[i].value)&&decide (e.assign.l[i].value<=1073741824))=(decide (e.assign.l[i].value>=-1073741824)&&decide (e.assign.l[i].value<=1073741824)):=rfl;rw[h1,L];generalize (decide (0<=e.assign.l[i].var)&&decide (e.assign.l[i].var<(P.vars.l.length:Int)))=A;generalize (decide (e.assign.l[i].value>=-1073741824)&&decide (e.assign.l[i].value<=1073741824))=B;generalize ig (fO e.assign.l λb=>b.var==e.assign.l[i].var) 0 i=C
 cases A <;> cases B <;> cases C <;> rfl
theorem La {t:Trace} (D:Small t) {p k:Nat} {P:cr} {e:Event} (G:t.procs.l[p]? = some P) (O:P.events.l[k]? = some e):di t ⟨p,k+1⟩ e=some (n9 t.procs.l.length P p k e):=by
 obtain⟨Q,w⟩:=ζe.1 G;obtain⟨hk,z⟩:=ζe.1 O;obtain⟨I,B,_,_,C⟩:=D.2 P (w▸List.getElem_mem Q);have S:=C e (z▸List.getElem_mem hk);have J:∀last:Int,((decide (0<=e.time)&&decide (e.time<=1099511627776)) && !decide (e.time<last))=(!sO P k e) ->
  di.J1 last t ⟨p,k+1⟩ e P=some (n9 t.procs.l.length P p k e):=by
  intro last T;unfold di.J1 n9;rw[K3 D,ζb,nN,ζb,Kp B S];dsimp only
  cases ES t.procs.l.length p e with
  | false=>rfl
  | true=>
   rw[bY,if_pos rfl];have:(bt (decide (0<=e.time)&&decide (e.time<=1099511627776)) (some (decide (e.time<last))) (some true):bf Bool)=some (sO P k e):=by
    have U:(!((decide (0<=e.time)&&decide (e.time<=1099511627776)) && !decide (e.time<last)))=sO P k e:=by rw[T,Bool.not_not]
    rw[<-U];cases (decide (0<=e.time)&&decide (e.time<=1099511627776)) <;> cases decide (e.time<last) <;> rfl
   rw[this,ζb]
   cases sO P k e with
   | true=>rfl
   | false=>
    rw[b8];simp only[Bool.false_eq_true,if_false]
    by_cases L:e.assign.l.length>8
    .rw[show decide (len e.assign>8)=true from by simp[len];omega,bY,if_pos L]
    rw[show decide (len e.assign>8)=false from by simp[len];omega,b8,if_neg L]
 unfold di;dsimp only;rw[show idx t.procs (p:Int)=some P from by rw[nj];exact G,ζb]
 cases k with
 | zero=>
  rw[show decide (((0:Nat):Int)+1>1)=false from by decide,b8]
  refine J 0 ?_;simp only[sO,BO,Bool.or_false];rw[Bool.eq_iff_iff];simp only[ζh,Bool.not_eq_true',decide_eq_true_eq,decide_eq_false_iff_not,Bool.or_eq_false_iff];omega
 | succ j=>
  rw[show decide ((((j+1:Nat)):Int)+1>1)=true from by simp;omega,bY]
  have u:j<P.events.l.length:=by omega
  have W:IntKind.wrap .i64 ((((j+1:Nat)):Int)+1-2)=((j:Nat):Int):=by rw[qQ _ Za Za];omega
  rw[W,bO u,ζb];refine J _ ?_;simp only[sO,BO,yN u];rw[Bool.eq_iff_iff];simp only[ζh,Bool.not_eq_true',decide_eq_true_eq,decide_eq_false_iff_not,Bool.or_eq_false_iff];omega
theorem Jv {t:Trace} {p:Nat} {P:cr} {e:Event} (D:t.procs.l[p]? = some P) (J:e.assign.l.length<1073741824):dL.W2 p 0 t e=some (mV (pK P e) 0 e.assign.l.length):=by
 unfold dL.W2;rw[xe (n:=e.assign.l.length) (pK P e) Za (λi w=>?_) (by unfold dL.b7;simp[bt,len])]
 .by_cases z:mV (pK P e) 0 e.assign.l.length=0
  .rw[if_pos z,z];rfl
  rw[if_neg z];rfl
 unfold dL.b7;have G:dL.W3 p i 0 t e e.assign.l[i]=if ig (fO e.assign.l λb=>b.var==e.assign.l[i].var) 0 i then some (.r 8)else some (.n (IntKind.wrap .i64 ((i:Int)+1))):=by
  unfold dL.W3;rw[AD (n:=i) (fO e.assign.l λb=>b.var==e.assign.l[i].var) Za (λj I=>?_) (by unfold dL.eG;simp[bt])]
  .cases ig (fO e.assign.l λb=>b.var==e.assign.l[i].var) 0 i <;> rfl
  unfold dL.eG;have u:j<e.assign.l.length:=by omega
  rw[show decide ((j:Int)<(i:Int))=true from by simpa using I,bY,bO u,ζb,yN u,sB]
 rw[Ea w,show decide ((i:Int)<len e.assign)=true from by simp[len];exact w,bY,bO w,ζb,G,Dq,ζb,show idx t.procs (p:Int)=some P from by rw[nj];exact D,ζb]
 have h1:(bt (decide (e.assign.l[i].var<0)) (some true) (some (decide (e.assign.l[i].var>=len P.vars))):bf Bool)=some (!(decide (0<=e.assign.l[i].var)&&decide (e.assign.l[i].var<P.vars.l.length))):=by
  rw[jg];congr 1;rw[Bool.eq_iff_iff];simp only[Bool.or_eq_true,Bool.not_eq_true',decide_eq_true_eq,Bool.and_eq_false_iff,decide_eq_false_iff_not,len];omega
 rw[h1,ζb];generalize (decide (0<=e.assign.l[i].var)&&decide (e.assign.l[i].var<(P.vars.l.length:Int)))=A;generalize (decide (e.assign.l[i].value>=-1073741824)&&decide (e.assign.l[i].value<=1073741824))=B;generalize ig (fO e.assign.l λb=>b.var==e.assign.l[i].var) 0 i=C
 cases A <;> cases B <;> cases C <;> rfl
theorem Od {t:Trace} (T:Small t) {p k:Nat} {P:cr} {e:Event} (J:t.procs.l[p]? = some P) (O:P.events.l[k]? = some e):dL t p k=some (n9 t.procs.l.length P p k e):=by
 obtain⟨U,w⟩:=ζe.1 J;obtain⟨hk,z⟩:=ζe.1 O;obtain⟨Q,W,_,_,I⟩:=T.2 P (w▸List.getElem_mem U);have X:=I e (z▸List.getElem_mem hk);have Y:dL.J1 p k t e=some (if sO P k e then 11 else if e.assign.l.length>8 then 5 else mV (pK P e) 0 e.assign.l.length):=by
  unfold dL.J1;rw[jg,ζb,Jv J X,show idx t.procs (p:Int)=some P from by rw[nj];exact J,ζb]
  have h1:(bt (decide ((k:Int)>0)) ((idx P.events (IntKind.wrap .i64 ((k:Int)-1))).bind λL=>some (decide (e.time<L.time))) (some false):bf Bool)=some (BO P k e):=by
   cases k with
   | zero=>rfl
   | succ j=>
    have u:j<P.events.l.length:=by omega
    rw[show decide ((((j+1:Nat)):Int)>0)=true from by simp only[decide_eq_true_eq];omega,bY,show IntKind.wrap .i64 ((((j+1:Nat)):Int)-1)=((j:Nat):Int)from by rw[qQ _ Za Za];omega,bO u,ζb]
    simp only[BO,yN u]
  rw[h1,ζb,jg,ζb];show bt (sO P k e) _ _=_
  cases sO P k e with
  | true=>rfl
  | false=>
   rw[b8];simp only[Bool.false_eq_true,if_false]
   by_cases S:e.assign.l.length>8
   .rw[show decide (len e.assign>8)=true from by simp[len];omega,bY,if_pos S]
   rw[show decide (len e.assign>8)=false from by simp[len];omega,b8,if_neg S]
 unfold dL n9;rw[show idx t.procs (p:Int)=some P from by rw[nj];exact J,ζb,show idx P.events (k:Int)=some e from by rw[nj];exact O,ζb,Y]
 unfold ES
 cases h1:e.kind==1 with
 | true=>
  rw[bY];simp only[if_true];cases e.peer==0 <;> cases e.message==0 <;> rfl
 | false=>
  rw[b8];simp only[Bool.false_eq_true,if_false];have h2:(bt (e.kind==2) (some false) (some (!(e.kind==3))):bf Bool)=some (!(e.kind==2||e.kind==3)):=by cases e.kind==2 <;> rfl
  rw[h2,ζb,jg,ζb,jg,ζb,jg,ζb,jg,ζb,jg,ζb];have h3:(((((!(e.kind==2||e.kind==3))||decide (e.peer<0))||decide (e.peer>=len t.procs))||(e.peer==p))||decide (e.message<0)||decide (e.message>199)) = !((e.kind==2||e.kind==3)&&(decide (0<=e.peer)&&decide (e.peer<t.procs.l.length)) && !(e.peer==p)&&(decide (0<=e.message)&&decide (e.message<=199))):=by
   generalize (e.kind==2||e.kind==3)=A;have a1:decide (e.peer<0) = !decide (0<=e.peer):=by rw[Bool.eq_iff_iff];simp
   have a2:decide (e.peer>=len t.procs) = !decide (e.peer<t.procs.l.length):=by rw[Bool.eq_iff_iff];simp[len]
   have a3:decide (e.message<0) = !decide (0<=e.message):=by rw[Bool.eq_iff_iff];simp
   have a4:decide (e.message>199) = !decide (e.message<=199):=by rw[Bool.eq_iff_iff];simp
   rw[a1,a2,a3,a4];generalize decide (0<=e.peer)=B;generalize decide (e.peer<(t.procs.l.length:Int))=C;generalize (e.peer==(p:Int))=D;generalize decide (0<=e.message)=F;generalize decide (e.message<=199)=G;cases A <;> cases B <;> cases C <;> cases D <;> cases F <;> cases G <;> rfl
  rw[h3];generalize ((e.kind==2||e.kind==3)&&(decide (0<=e.peer)&&decide (e.peer<(t.procs.l.length:Int))) && !(e.peer==(p:Int))&&(decide (0<=e.message)&&decide (e.message<=199)))=Z;cases Z <;> rfl
theorem Ke {n:Nat} {p:Int} {e:Event} (h:ES n p e=true):jO n p e:=by
 unfold ES at h;split at h
 next h1=>left;simpa using h1
 right;simp only[ζh,Bool.or_eq_true,beq_iff_eq,decide_eq_true_eq,Bool.not_eq_true',beq_eq_false_iff_ne,ne_eq]at h;obtain⟨⟨⟨h1,t⟩,w⟩,u⟩:=h;exact⟨h1,t.1,t.2,w,u.1,u.2⟩
theorem GX {n:Nat} {P:cr} {p k:Nat} {e:Event} (h:n9 n P p k e=0):jO n p e:=by
 unfold n9 at h;split at h
 next h1=>exact Ke h1
 cases h
theorem AH {α:Type} [DecidableEq α]:∀{l r:a_ α},l.Nodup->(∀x∈l,x∈r)->l.length<=r.length
 | [],_,_,_=>Nat.zero_le _
 | x::l,r,B,D=>by
  have u:=List.nodup_cons.1 B;have:=AH  (r:=r.erase x) u.2 λy t=>(List.mem_erase_of_ne Zd).2 (D y (List.mem_cons_of_mem _ t))
  grind
section
variable {κ:Type} [DecidableEq κ]
theorem Cn {ν:Type} {k:κ}:∀{m:Mo κ ν},k∉m.map (·.1)->sW k m=none
 | [],_=>rfl
 | (a,v)::r,h=>by
  simp only[List.map_cons,List.mem_cons,not_or]at h;unfold sW;rw[if_neg h.1];exact Cn h.2
theorem DB {ν:Type} {k:κ}:∀{m:Mo κ ν},k∈m.map (·.1)->∃v,sW k m=some v/\(k,v)∈m
 | [],h=>by simp_all
 | (a,v)::r,h=>by
  unfold sW
  by_cases e:k=a
  .grind
  obtain⟨w,h1,u⟩:=DB  (by simpa [e]using h)
  grind
theorem qj {ν:Type} {k:κ} {v:ν}:∀{m:Mo κ ν},k∉m.map (·.1)->qg m k v=m++[(k,v)]
 | [],_=>rfl
 | (a,w)::r,h=>by
  simp only[List.map_cons,List.mem_cons,not_or]at h;show (if k=a then _ else _)=_;rw[if_neg h.1,qj h.2];rfl
end
def Vd (t:Trace) (y:bg):Prop:=∃e,(y,e)∈bT t
theorem Vd.at_ {t:Trace} {y:bg} (h:Vd t y):∃(p k:Nat) (e:Event),jS t p k e/\y=⟨p,k+1⟩/\(y,e)∈bT t:=by
 obtain⟨e,u⟩:=h
 grind[dY]
def EX (t:Trace) (y z:bg):Prop:=∃e f,(y,e)∈bT t/\(z,f)∈bT t/\e.kind=2/\f.kind=3/\e.message=f.message
def Edge (t:Trace) (y z:bg):Prop:=Vd t y/\Vd t z/\(z=⟨y.proc,y.index+1⟩\/EX t y z)
abbrev Way (t:Trace):bg->bg->Prop:=Relation.TransGen (Edge t)
def Iq (t:Trace):Prop:=∃x,Way t x x
theorem Way.l {t:Trace} {x y:bg} (h:Way t x y):Vd t x:=by
 induction h with
 | single h=>exact h.1
 | tail _ _ u=>omega
theorem Way.r {t:Trace} {x y:bg} (h:Way t x y):Vd t y:=by
 cases h with
 | single h=>exact h.2.1
 | tail _ h=>exact h.2.1
theorem No {t:Trace} (hS:Small t) (hF:∀x∈bT t,jO t.procs.l.length x.1.proc x.2) {A:bU 200 br} (hA:gE t (bT t) A) {y:bg} (J:Vd t y) :
 Wp (iy t A y) λs=>s.l.length<=2/\∀z,z∈s.l↔Edge t y z:=by
 obtain⟨p,k,e,O,C,u⟩:=J.at_;obtain⟨P,S,hk⟩:=O;have T:P∈t.procs.l:=List.mem_of_getElem? S;have h1:=(hS.2 P T).1;have Z:k<P.events.l.length:=(ζe.1 hk).1;have D:y.proc=p:=by rw[C]
 have U:y.index=k+1:=by rw[C]
 have j:∀s:Sl bg,s.l.length<=1->(∀z,z∈s.l↔Vd t z/\z=⟨y.proc,y.index+1⟩)->Wp (iy.J1 A s P.events y) λs=>s.l.length<=2/\∀z,z∈s.l↔Edge t y z:=by
  intro s hs w;have no:¬(∃z,EX t y z)->s.l.length<=2/\∀z,z∈s.l↔Edge t y z:=λhn=>⟨by omega,λz=>(w z).trans ⟨λh=>⟨J,h.1,.inl h.2⟩,λh=>⟨h.2.1,h.2.2.elim id λh=>(hn ⟨z,h⟩).elim⟩⟩⟩
  unfold iy.J1;have W:IntKind.wrap .i64 (y.index-1)=((k:Nat):Int):=by rw[U,qQ _ Za Za];omega
  rw[W,nj,hk,ζb,gA,ck];constructor
  .intro B;have B:e.kind=2:=by grind
   have I:0<=e.message/\e.message<=199:=by
    rcases hF _ u with h|⟨_,_,_,_,h⟩
    all_goals grind
   have to_:∀z,EX t y z->(ag A e.message).to_=z:=λz ⟨X,f,Y,L,a3,a4,a5⟩=>by
    cases A6 Y u rfl;rw[a5];exact(hA.rcv _ L a4).1
   rw[Jz A I.1 I.2,ζb,bk,ck];refine⟨λh=>?_,λh=>(bk _).2 (no λ⟨z,w⟩=>?_)⟩
   .have h:(ag A e.message).to_.index>0:=by grind
    rw[ζb];unfold eA;rw[if_pos Za,ζb,bk]
    refine⟨by show (s.l++[(ag A e.message).to_]).length<=2;grind,λz=>?_⟩
    have G:EX t y (ag A e.message).to_:=by
     rcases hA.to e.message I.1 I.2 with h0|⟨X,h1,h2,h3⟩
     .omega
     exact⟨e,X,u,h1,B,h2,h3.symm⟩
    show z∈s.l++[(ag A e.message).to_]↔_;rw[List.mem_append,List.mem_singleton,w];constructor
    .rintro (h|rfl)
     .exact⟨J,h.1,.inl h.2⟩
     exact⟨J,let ⟨_,f,_,L,_⟩:=G;⟨f,L⟩,.inr G⟩
    rintro⟨_,h1,h2|h2⟩
    all_goals grind
   rw[to_ z w]at h;obtain⟨_,f,_,L,_⟩:=w
   grind[dY]
  intro B;rw[bk,ck];refine⟨λh=>(by cases h),λ_=>(bk _).2 (no λ⟨z,X,f,Y,_,a3,_⟩=>?_)⟩
  cases A6 Y u rfl
  grind
 unfold iy;rw[D,nj,S,ζb,ck];rw[D]at j;constructor
 .intro h;have h:y.index<len P.events:=by grind
  have B:k+1<P.events.l.length:=by grind
  refine j _ (by simp[Sl.l]) λz=>?_
  have W:IntKind.wrap .i64 (y.index+1)=y.index+1:=qQ _ Za Za
  simp only[Sl.l,List.mem_singleton,W];refine⟨λw=>⟨⟨P.events.l[k+1],dY.2 ⟨p,k+1,⟨P,S,ζd B⟩,?_⟩⟩,w⟩,λw=>w.2⟩
  grind
 intro h;have h:¬y.index<len P.events:=by grind
 refine j _ (by simp[Sl.l]) λz=>⟨λw=>by grind[Sl.l],λ⟨w,he⟩=>?_⟩
 obtain⟨q,i,f,⟨Q,hQ,hi⟩,aa,_⟩:=w.at_
 grind
structure FN (t:Trace) (x:bg) (rest:Sl bg) (m:Mo bg Bool) (U:bg->Prop):Prop where
 rst:∀y∈rest.l,y=x\/Way t x y
 keys:(m.map (·.1)).Nodup
 seen:∀y∈m,Way t x y.1/\y.1≠x/\y.2=true
 le:rest.l.length<=m.length+1
 done:∀y,y=x\/y∈m.map (·.1)->y∈rest.l\/U y\/∀z,Edge t y z->z∈m.map (·.1)
theorem FN.count {t:Trace} {x:bg} {rest:Sl bg} {m:Mo bg Bool} {U:bg->Prop} (h:FN t x rest m U):m.length<=(bT t).length:=by
 have:=AH (r:=(bT t).map (·.1)) h.keys λx u=>by
  obtain⟨y,w,rfl⟩:=List.mem_map.1 u;obtain⟨e,z⟩:=(h.seen y w).1.r
  grind
 grind
theorem K0 {t:Trace} (hS:Small t) (hN:(bT t).length<1073741824) (hF:∀x∈bT t,jO t.procs.l.length x.1.proc x.2) {A:bU 200 br} (hA:gE t (bT t) A):Wp (gI t A) λr=>(r.2=true↔Iq t):=by
 unfold gI jq;rw[ζb];unfold gI.E1;rw[t_ hS,ζb];refine zx (λk _=>∀x∈(bT t).take k,¬Way t x.1 x.1) Zc ?_ λ_ h=>(bk _).2 ⟨λh=>(by cases h),λ⟨x,hx⟩=>?_⟩
 .intro i x _ hx ar;have ah:x∈bT t:=List.mem_of_getElem? hx;refine Wp.mono (P:=λw=>match w with|.n s=>¬Way t x.1 x.1|.x e=>False|.r e=>Iq t) ?_ λw hw=>by
   cases w with
   | n s=>
    intro y hy;rw[List.take_add_one,hx]at hy
    grind
   | x e=>grind
   | r b=>exact(bk _).2 ⟨λ_=>hw,λ_=>rfl⟩
  refine d_ (λq:Sl bg×Mo bg Bool=>FN t x.1 q.1 q.2 λ_=>False) (λq=>2*((bT t).length-q.2.length)+q.1.l.length) ⟨λy hy=>.inl (by simpa [Sl.l]using hy),by simp,by simp,by simp[Sl.l],λy hy=>.inl ?_⟩ ?_
  .simpa [Sl.l]using hy
  rintro⟨rest,m⟩ L;unfold gI.b7;rw[ck];refine⟨λh=>?_,λh=>(bk _).2 ((bk _).2 λhw=>?_)⟩
  .have G:0<rest.l.length:=by
    grind
   have hc:=L.count;have av:=L.le;have hw:IntKind.wrap .i64 ((len rest)-1)=(rest.l.length-1:Nat):=by
    rw[qQ _ Zd Zd];grind
   have I:rest.l.length-1<rest.l.length:=by omega
   rw[hw];have h1:Sl.jH rest (rest.l.length-1:Nat)=some (rest.l.length-1):=by
    unfold Sl.jH;grind
   have h2:Sl.get rest (rest.l.length-1)=some rest.l[rest.l.length-1]:=by unfold Sl.get;grind
   obtain⟨cut,h3,h4⟩:∃x,ki rest none (some ((rest.l.length-1:Nat):Int))=some x/\x.l=rest.l.take (rest.l.length-1):=by
    cases rest with
    | nil=>simp[Sl.l]at G
    | emp=>simp[Sl.l]at G
    | row l=>
     simp only[Sl.l]at G ⊢;unfold ki dD;simp_all
    | part l=>
     simp[Sl.l]at G ⊢;unfold ki dD;simp_all
   rw[h1,ζb,h2,ζb,h3,ζb,gA];generalize ai:rest.l[rest.l.length-1]=y;have aj:y∈rest.l:=ai▸List.getElem_mem I;have O:∀z,z∈rest.l->z∈cut.l\/z=y:=λz hz=>by
    have:rest.l.take (rest.l.length-1)++rest.l.drop (rest.l.length-1)=rest.l:=List.take_append_drop ..;rw[<-this]at hz;rcases List.mem_append.1 hz with hz|hz
    .grind
    rw[List.drop_eq_getElem_cons I,List.drop_of_length_le Za]at hz
    grind
   have aa  := L.rst _ aj;have ak  := aa.elim (λe=>⟨x.2,e▸ah⟩) Way.r
   refine(No hS hF hA ak).mono λs hs=>?_
   refine d_ (λq:Sl bg×Int×Mo bg Bool=>∃n:Nat,q.2.1=n/\n<=s.l.length/\FN t x.1 q.1 q.2.2 (λu=>u=y)/\(∀z∈s.l.take n,z∈q.2.2.map (·.1))/\2*((bT t).length-q.2.2.length)+q.1.l.length<2*((bT t).length-m.length)+rest.l.length) (λq=>s.l.length-q.2.1.toNat)
    ⟨0,rfl,Nat.zero_le _,⟨λz hz=>L.rst z Zd,L.keys,L.seen,by grind,λu hu=>?_⟩,by simp,by grind⟩ ?_
   .rcases L.done u hu with h|h|h
    .exact(O u h).imp_right .inl
    .exact h.elim
    exact .inr (.inr h)
   rintro⟨C,i2,W⟩ ⟨n,rfl,hn,B,J,hμ⟩;simp only at B hμ J;unfold gI.eG;rw[ck];constructor
   .intro h;have X:n<s.l.length:=by simpa [len]using h
    have ab:=(hs.2 s.l[n]).1 (List.getElem_mem X);have Q:Way t x.1 s.l[n]:=aa.elim (λe=>.single (e▸ab)) λh=>.tail h ab
    rw[bO X,ζb,ck];refine⟨λZ=>(bk _).2 ((bk _).2 ((bk _).2 ⟨x.1,?_⟩)),λS=>?_⟩
    .have:s.l[n]=x.1:=by
      unfold Iw at Z
      revert Z;cases s.l[n];cases x.1;intro Z;simpa using Z
     rw[this]at Q;exact Q
    have S:s.l[n]≠x.1:=λe=>by rw[e]at S;simp[Iw]at S
    have T:=cW n Za
    have ad:s.l.take (n+1)=s.l.take n++[s.l[n]]:=by rw[List.take_add_one,ζd X];rfl
    rw[ck];refine⟨λhg=>(bk _).2 ⟨⟨n+1,T,by omega,B,λz hz=>?_,hμ⟩,by show _-(IntKind.wrap .i64 ((n:Int)+1)).toNat<_;rw[T];simp;omega⟩,λY=>?_⟩
    .rw[ad]at hz;rcases List.mem_append.1 hz with hz|hz
     .exact J z hz
     simp[List.mem_singleton]at hz;subst hz;apply Classical.byContradiction;intro hk;unfold CL at hg;rw[Cn hk]at hg;cases hg
    have aw:=B.count;have au:=B.le;unfold eA;rw[if_pos (show C.l.length+1<=2147483648 from by omega),ζb,bk]
    have D:s.l[n]∉W.map (·.1):=λal=>by
     obtain⟨v,hv,am⟩:=DB al;have:=(B.seen _ am).2.2;simp only at this;subst this;unfold CL at Y;rw[hv]at Y;cases Y
    have U:∀z,z∈(qg W s.l[n] true).map (·.1)↔z∈W.map (·.1)\/z=s.l[n]:=λz=>by
     rw[qj D,List.map_append,List.mem_append];simp
    have ae:FN t x.1 (.row (C.l++[s.l[n]])) (qg W s.l[n] true) (λu=>u=y):=by
     refine⟨λy hy=>?_,?_,λy hy=>?_,?_,λu hu=>?_⟩
     .simp[Sl.l,List.mem_singleton]at hy;rcases hy with hy|rfl
      .exact B.rst y hy
      exact .inr Q
     .rw[qj D,List.map_append,List.nodup_append];refine⟨B.keys,by simp,λa ha b hb=>?_⟩
      simp[List.mem_singleton]at hb;subst hb;exact λe=>D (e▸ha)
     .rw[qj D]at hy;rcases List.mem_append.1 hy with hy|hy
      .exact B.seen y hy
      simp[List.mem_singleton]at hy;subst hy;exact⟨Q,S,rfl⟩
     .rw[qj D];show (C.l++[s.l[n]]).length<=_;rw[ζi,ζi,List.length_singleton,List.length_singleton];omega
     simp only[Sl.l,List.mem_append,List.mem_singleton];have af:u=x.1\/u∈W.map (·.1)->(u∈C.l\/u=s.l[n])\/u=y\/∀z,Edge t u z->z∈(qg W s.l[n] true).map (·.1):=λhu=>by
      rcases B.done u hu with h|h|h
      .exact .inl (.inl h)
      .exact .inr (.inl h)
      exact .inr (.inr λz hz=>(U z).2 (.inl (h z hz)))
     rcases hu with hu|hu
     .exact af (.inl hu)
     rcases (U u).1 hu with hu|hu
     .exact af (.inr hu)
     exact .inl (.inr hu)
    have an:=ae.count;refine⟨⟨n+1,T,by omega,ae,λz hz=>?_,?_⟩,by show _-(IntKind.wrap .i64 ((n)+1)).toNat<_;rw[T];simp;omega⟩
    .rw[ad]at hz;rcases List.mem_append.1 hz with hz|hz
     .exact(U z).2 (.inl (J z hz))
     exact(U z).2 (.inr (by simpa using hz))
    rw[qj D,ζi,List.length_singleton]at an;show 2*((bT t).length-(qg W s.l[n] true).length)+(C.l++[s.l[n]]).length<_;rw[qj D,ζi,ζi,List.length_singleton,List.length_singleton];omega
   intro h;have ao:s.l.length<=n:=by simpa [len]using h
   rw[List.take_of_length_le ao]at J;refine(bk _).2 ((bk _).2 ⟨⟨B.rst,B.keys,B.seen,B.le,λu hu=>?_⟩,hμ⟩)
   rcases B.done u hu with h|h|h
   .exact .inl h
   .subst h;exact .inr (.inr λz hz=>J z ((hs.2 z).2 hz))
   exact .inr (.inr h)
  have ap:rest.l=[]:=by
   have:¬len rest>0:=by simpa using h
   simp[len]at this;exact this
  have hd:∀y,y=x.1\/y∈m.map (·.1)->∀z,Edge t y z->z∈m.map (·.1):=λy hy=>by
   rcases L.done y hy with h|h|h
   .simp only[ap]at h;cases h
   .exact h.elim
   exact h
  have key:∀z,Way t x.1 z->z∈m.map (·.1):=λz hz=>by
   induction hz with
   | single h=>exact hd _ (.inl rfl) _ h
   | tail _ h ih=>exact hd _ (.inr ih) _ h
  obtain⟨y,hy,aq⟩:=List.mem_map.1 (key _ hw);exact(L.seen y hy).2.1 aq
 obtain⟨e,Z⟩:=hx.l;rw[List.take_length]at h;exact absurd hx (h _ Z)
structure Ok (t:Trace):Prop where
 one:1<=t.procs.l.length
 few:t.procs.l.length<=8
 heads:∀p,p<t.procs.l.length->qH t p=0
 eZ:∀(p k:Nat) P e,t.procs.l[p]? = some P->P.events.l[k]? = some e->n9 t.procs.l.length P p k e=0
 Md:wz t
 acyc:¬Iq t
theorem DO {t:Trace} (h:∀(p k:Nat) P e,t.procs.l[p]? = some P->P.events.l[k]? = some e->n9 t.procs.l.length P p k e=0):∀x∈bT t,jO t.procs.l.length x.1.proc x.2:=λx w=>by
 obtain⟨p,k,⟨P,z,B⟩,u⟩:=dY.1 w;rw[u];exact GX (h p k P _ z B)
structure VT (t:Trace):Prop where
 formed:∀x∈bT t,jO t.procs.l.length x.1.proc x.2
 msgs:∃A i,dW t=some (some A,i,0)/\gE t (bT t) A
 few:t.procs.l.length<=8
 ok:Ok t
theorem NO {t:Trace} (B:Small t) (Y:(bT t).length<1073741824):Wp (ga t) λr=>(r.2=0->VT t)/\(Ok t->r.2=0):=by
 unfold ga;rw[nN,ζb,ck];refine⟨λI=>?_,λI=>(bk _).2 ⟨λh=>Za,λh=>?_⟩⟩
 rotate_left
 .have h1:=h.one;have G:=h.few
  grind
 have G:1<=t.procs.l.length/\t.procs.l.length<=8:=by
  grind
 unfold ga.W1;refine d_ (λi:Int=>∃n:Nat,i=n/\n<=t.procs.l.length/\∀p,p<n->qH t p=0) (λi:Int=>t.procs.l.length-i.toNat) ⟨0,rfl,Nat.zero_le _,λp J=>absurd J Za⟩ ?_
 rintro i ⟨n,rfl,hn,Z⟩;unfold ga.bA;rw[ck];constructor
 .intro h;have w:n<t.procs.l.length:=by grind
  rw[M0 B w,ζb,ck];refine⟨λu=>(bk _).2 ⟨⟨n+1,cW n Za,by omega,λp J=>?_⟩,by rw[cW n Za];simp;omega⟩,λu=>(bk _).2 ((bk _).2 ⟨λh=>?_,λh=>?_⟩)⟩
  .grind
  .grind
  simp[h.heads n w]at u
 intro h;have aa:t.procs.l.length<=n:=by grind
 rw[bk];unfold jq;rw[ζb];unfold ga.E2;rw[t_ B,ζb];refine zx (λi _=>∀(p k:Nat) P e,t.procs.l[p]? = some P->P.events.l[k]? = some e->(⟨p,k+1⟩,e)∈(bT t).take i->n9 t.procs.l.length P p k e=0) Zc ?_ ?_
 .intro i x _ W z;have L  := List.mem_of_getElem? W;obtain⟨p,j,⟨P,C,D⟩,O⟩:=dY.1 L;unfold ga.Ie;rw[O,La B C D,ζb,ck];refine⟨λu=>(bk _).2 λp' k' P' e' ab ad hm=>?_,λu=>(bk _).2 ((bk _).2 ⟨λh=>?_,λh=>?_⟩)⟩
  .rw[List.take_add_one,W]at hm
   grind
  .grind
  simp[h.eZ p j P _ C D]at u
 intro _ z;have z:∀(p k:Nat) P e,t.procs.l[p]? = some P->P.events.l[k]? = some e->n9 t.procs.l.length P p k e=0:=λp k P e C D=>z p k P e C D (by rw[List.take_length];exact dY.2 ⟨p,k,⟨P,C,D⟩,rfl⟩)
 have Q:=DO z;obtain⟨r,hr,hq,S⟩:=Cc B Q;rw[hr,ζb,ck];refine⟨λu=>?_,λu=>(bk _).2 ⟨λh=>?_,λh=>S h.Md⟩⟩
 .have u  := by simpa using u
  obtain⟨A,hA,T⟩:=hq u;rw[hA,ζb];obtain⟨c,hc,U⟩:=K0 B Y Q T;rw[hc,ζb,ck];refine⟨λX=>(bk _).2 ⟨λh=>Za,λh=>absurd (U.1 X) h.acyc⟩,λX=>(bk _).2 ⟨λ_=>?_,λ_=>rfl⟩⟩
  exact⟨Q,⟨A,r.2.1,by grind,T⟩,G.2,G.1,G.2,λp J=>Z p Za,z,T.Md,λhc=>by grind⟩
 simp_all
theorem Of {t:Trace} (u:Small t) (B:(bT t).length<1073741824):Wp (dG t) λb=>(b=true->VT t)/\(Ok t->b=true):=by
 unfold dG;rw[gA];exact(NO u B).mono λr hr=>(bk _).2 ⟨λh=>hr.1 Zd,λh=>by grind⟩
end Go.VE
namespace Go.VE
theorem L4 {t:Trace} (G:Small t) (hv:dG t=some true) {A:bU 200 br} (B:gE t (bT t) A) {x:bg×Event} (D:x∈bT t) (hk:x.2.kind=2):ru t x.2.message=some (x.1,true):=by
 refine Wp.eq ?_;unfold ru kA;rw[hv,ζb,bY];unfold jq;rw[ζb];unfold kA.E1;rw[t_ G,ζb,gA];refine zx (λk _=>∀y∈(bT t).take k,¬(y.2.kind=2/\y.2.message=x.2.message)) Zc ?_ ?_
 .intro k y _ C u;have w:y∈bT t:=List.mem_of_getElem? C;unfold kA.sA;rw[mQ,ζb,ck];constructor
  .intro hc;have hc:y.2.kind=2/\y.2.message=x.2.message:=by simpa using hc
   refine(bk _).2 ((bk _).2 ((bk _).2 ?_));have h1:=B.snd y w hc.1;have I:=B.snd x D hk;rw[hc.2,I]at h1;rw[h1]
  intro hc;have hc:¬(y.2.kind=2/\y.2.message=x.2.message):=by
   intro h;rw[h.1,h.2]at hc;simp at hc
  rw[bk];intro z hz;rw[List.take_add_one,C]at hz;rcases List.mem_append.1 hz with hz|hz
  .exact u z hz
  simp at hz;subst hz;exact hc
 intro _ u;rw[List.take_length]at u;exact absurd ⟨hk,rfl⟩ (u x D)
def jI (t:Trace) (c:a_ Int):Prop:=c.length=t.procs.l.length/\∀(p:Nat) (a:Int) (P:cr),c[p]? = some a->t.procs.l[p]? = some P->0<=a/\a<=P.events.l.length
def kJ (t:Trace) (A:bU 200 br) (c:a_ Int):Prop:=∀(p k:Nat) (e:Event) (a:Int),jS t p k e->c[p]? = some a->(k:Int)<a->e.kind=3->∃b,c[(ag A e.message).from_.proc.toNat]? = some b/\(ag A e.message).from_.index<=b
theorem su {t:Trace} (J:VT t) {A:bU 200 br} (D:gE t (bT t) A) {p k:Nat} {e:Event} (O:jS t p k e) (hk:e.kind=3) :
 ∃(q j:Nat) (y:Event),jS t q j y/\y.kind=2/\y.message=e.message/\y.peer=p/\e.peer=q/\(ag A e.message).from_=⟨q,j+1⟩:=by
 have u:((⟨p,k+1⟩:bg),e)∈bT t:=dY.2 ⟨p,k,O,rfl⟩;have z:=(D.rcv _ u hk).2;have C:=J.formed _ u;simp only at z C;have B:0<=e.peer:=by
  rcases C with h|⟨_,h,_⟩
  .omega
  exact h
 obtain⟨q,G⟩:∃q:Nat,e.peer=q:=⟨e.peer.toNat,by omega⟩
 rw[G]at z;obtain⟨j,y,w,h1,I,L⟩:=Bz.1 z;have:=D.snd (⟨q,j+1⟩,y) (dY.2 ⟨q,j,w,rfl⟩) h1;simp only at this;rw[I]at this;exact⟨q,j,y,w,h1,I,L,G,this⟩
def UL (t:Trace) (A:bU 200 br) (c:a_ Int) (s u:bg):Prop:=∃(p k:Nat) (e:Event) (a:Int) (q j:Nat) (y:Event) (b:Int),jS t p k e/\c[p]? = some a/\(k:Int)<a/\e.kind=3/\(ag A e.message).from_=s/\s=⟨q,j+1⟩/\jS t q j y/\c[q]? = some b/\b<(j:Int)+1/\u=⟨p,k+1⟩
theorem H8 {t:Trace} (hS:Small t) (hv:dG t=some true) (hV:VT t) {A:bU 200 br} (hM:gE t (bT t) A) {c:Sl Int} (hR:jI t c.l):Wp (fN t c) λr=>(r.2.2=false->kJ t A c.l)/\(r.2.2=true->UL t A c.l r.1 r.2.1):=by
 have ah:=hV.few;unfold fN fN.W1;refine d_ (λs:Int=>∃n:Nat,s=n/\n<=c.l.length/\∀(p k:Nat) (e:Event) (a:Int),p<n->jS t p k e->c.l[p]? = some a->(k:Int)<a->e.kind=3->∃b,c.l[(ag A e.message).from_.proc.toNat]? = some b/\(ag A e.message).from_.index<=b) (λs:Int=>c.l.length-s.toNat) ⟨0,rfl,Nat.zero_le _,λp k e a h=>absurd h Za⟩ ?_
 rintro s ⟨n,rfl,hn,hI⟩;have ai:=hR.1;unfold fN.bA;rw[ck];constructor
 .intro h;have C:n<c.l.length:=by simpa [len]using h
  have B:n<t.procs.l.length:=by omega
  have hP:=(hS.2 _ (List.getElem_mem B)).1;obtain⟨r1,r2⟩:=hR.2 n _ _ (ζd C) (ζd B);rw[bO C,ζb,bO B,ζb];obtain⟨y,hy,T⟩:=u_ t.procs.l[n].events c.l[n].toNat Za
  rw[show ((c.l[n].toNat:Nat):Int)=c.l[n]from by omega]at hy
  rw[hy,ζb];unfold fN.W2;refine d_ (λs:Int=>∃m:Nat,s=m/\m<=y.l.length/\∀(k:Nat) (e:Event),k<m->jS t n k e->e.kind=3->∃b,c.l[(ag A e.message).from_.proc.toNat]? = some b/\(ag A e.message).from_.index<=b) (λs:Int=>y.l.length-s.toNat) ⟨0,rfl,Nat.zero_le _,λk e h=>absurd h Za⟩ ?_
  rintro s ⟨m,rfl,hm,hJ⟩;have af:y.l.length=c.l[n].toNat:=by rw[T,List.length_take];omega
  unfold fN.b7;rw[ck];constructor
  .intro h;have I:m<y.l.length:=by simpa [len]using h
   have D:=cW m Za
   have U:y.l.length-(IntKind.wrap .i64 ((m:Int)+1)).toNat<y.l.length-((m:Int)).toNat:=by rw[D];simp;omega
   have hg:y.l[m]? = t.procs.l[n].events.l[m]? := by rw[T,List.getElem?_take,if_pos (show m<c.l[n].toNat from by omega)]
   have u:jS t n m y.l[m]:=⟨_,ζd B,by rw[<-hg];exact ζd I⟩
   rw[bO I,ζb];generalize y.l[m]=e at u;rw[ck];constructor
   .intro hk;have hk:e.kind=3:=by simpa using hk
    obtain⟨q,j,z,hz,z1,z2,z3,z4,z5⟩:=su hV hM u hk;have J:=L4 hS hv hM (x:=(⟨q,j+1⟩,z)) (dY.2 ⟨q,j,hz,rfl⟩) z1;simp only at J;rw[z2]at J;have ab:=hz;obtain⟨Q,hQ,_⟩:=hz;have L:q<c.l.length:=by have:=(ζe.1 hQ).1;omega
    rw[J,ζb];simp only;rw[bO L,ζb,ck];constructor
    .intro W;have W:(j:Int)+1>c.l[q]:=by simpa using W
     exact(bk _).2 ((bk _).2 ((bk _).2 ⟨λh=>(by cases h),λ_=>⟨n,m,e,c.l[n],q,j,z,c.l[q],u,ζd C,by omega,hk,z5,rfl,ab,ζd L,by omega,by simp[D]⟩⟩))
    intro X;have X:¬((j:Int)+1>c.l[q]):=by simpa using X
    refine(bk _).2 ⟨⟨m+1,D,by omega,λk Y ad w G=>?_⟩,U⟩
    by_cases ek:k=m
    .subst ek;have:Y=e:=by
      obtain⟨P1,a1,a2⟩:=u;obtain⟨P2,Z,b2⟩:=w;rw[a1]at Z;cases Z;rw[a2]at b2;cases b2;rfl
     subst this;rw[z5];exact⟨c.l[q],by simp only[Int.toNat_natCast];exact ζd L,by simp only;omega⟩
    exact hJ k Y Za w G
   intro hk;have hk:¬e.kind=3:=by simpa using hk
   refine(bk _).2 ⟨⟨m+1,D,by omega,λk Y ad w G=>?_⟩,U⟩
   by_cases ek:k=m
   .subst ek;have:Y=e:=by
     obtain⟨P1,a1,a2⟩:=u;obtain⟨P2,Z,b2⟩:=w;rw[a1]at Z;cases Z;rw[a2]at b2;cases b2;rfl
    subst this;exact absurd G hk
   exact hJ k Y Za w G
  intro h;have ae:y.l.length<=m:=by simpa [len]using h
  have aa:=cW n Za
  refine(bk _).2 ((bk _).2 ⟨⟨n+1,aa,by omega,λp k e a hp u S O he=>?_⟩,by show _-(IntKind.wrap .i64 ((n:Int)+1)).toNat<_;rw[aa];simp;omega⟩)
  by_cases ep:p=n
  .subst ep;rw[ζd C]at S;cases S;exact hJ k e Za u he
  exact hI p k e a Za u S O he
 intro h;have ae:c.l.length<=n:=by simpa [len]using h
 refine(bk _).2 ((bk _).2 ⟨λ_ p k e a u S O he=>hI p k e a (by have:=(ζe.1 S).1;omega) u S O he,λh=>(by cases h)⟩)
theorem Jh {t:Trace} (u:Small t) (hv:dG t=some true) (B:VT t) {A:bU 200 br} (D:gE t (bT t) A) {c:Sl Int} (G:jI t c.l):Wp (fN t c) λr=>(r.2.2=false↔kJ t A c.l):=by
 refine(H8 u hv B D G).mono λr hr=>⟨hr.1,λw=>?_⟩
 cases h:r.2.2 with
 | false=>rfl
 | true=>
  obtain⟨p,k,e,a,q,j,y,b,h1,z,C,I,J,L,_,O,Q,-⟩:=hr.2 h;obtain⟨S,g1,g2⟩:=w p k e a h1 z C I;rw[J,L]at g1 g2;simp only[Int.toNat_natCast]at g1 g2;rw[O]at g1;cases g1;omega
theorem kS {s:Sl (Sl Int)} {p:Sl Int->bf Bool} {f:Sl Int->Bool} (hp:∀x∈s.l,p x=some (f x)) (u:s.l.length<1073741824):c6 s p=some (s.l.any f):=by
 have h:fH s p=some (place f s.l):=tf hp Za (λi=>rfl)
 unfold c6;rw[h,ζb,sY]
theorem BJ {t:Trace} (J:Small t) {c:Sl Int} (D:c.l.length=t.procs.l.length):Wp (iA t c) λb=>(b=true↔jI t c.l):=by
 have h1:=J.1;unfold iA iA.W1;refine d_ (λs:Int=>∃n:Nat,s=n/\n<=c.l.length/\∀(p:Nat) (a:Int) (P:cr),p<n->c.l[p]? = some a->t.procs.l[p]? = some P->0<=a/\a<=P.events.l.length) (λs:Int=>c.l.length-s.toNat) ⟨0,rfl,Nat.zero_le _,λp a P h=>absurd h Za⟩ ?_
 rintro s ⟨n,rfl,Q,G⟩;unfold iA.bA;rw[ck];constructor
 .intro h;have w:n<c.l.length:=by simpa [len]using h
  have u:n<t.procs.l.length:=by omega
  have I:=cW n Za
  rw[bO w,ζb,bO u,ζb,jg,ζb,ck];constructor
  .intro z;have z:c.l[n]<0\/c.l[n]>t.procs.l[n].events.l.length:=by simpa [len]using z
   refine(bk _).2 ((bk _).2 ⟨λh=>(by cases h),λL=>?_⟩)
   have:=L.2 n _ _ (ζd w) (ζd u);omega
  intro z;have z:0<=c.l[n]/\c.l[n]<=t.procs.l[n].events.l.length:=by simpa [len]using z
  refine(bk _).2 ⟨⟨n+1,I,by omega,λp a P S B C=>?_⟩,by rw[I];simp;omega⟩
  by_cases e:p=n
  .subst e;rw[ζd w]at B;cases B;rw[ζd u]at C;cases C;exact z
  exact G p a P Za B C
 intro h;have O:c.l.length<=n:=by simpa [len]using h
 refine(bk _).2 ((bk _).2 ⟨λ_=>⟨D,λp a P B C=>G p a P (by have:=(ζe.1 B).1;omega) B C⟩,λ_=>rfl⟩)
def Code (t:Trace) (A:bU 200 br) (c:a_ Int) (r:Int):Prop:=c.length≠t.procs.l.length/\r=1\/c.length=t.procs.l.length/\¬jI t c/\r=2\/jI t c/\¬kJ t A c/\r=18\/jI t c/\kJ t A c/\r=0
theorem Ta {t:Trace} (J:Small t) (hv:dG t=some true) (O:VT t) {A:bU 200 br} (T:gE t (bT t) A) (c:Sl Int) :
 Wp (eY t (Sl.row [c]:Sl (Sl Int)) (Sl.nil:Sl Int)) λr=>Code t A c.l r:=by
 unfold eY tC;rw[hv,ζb,bY,kS (f:=λz=>(jr z t).getD false) (λz _=>Dt.ok ((bk _).2 trivial)) (by simp[Sl.l]),ζb,ζb,ζb]
 have w:(!((Sl.row [c]:Sl (Sl Int)).l.any λz=>(jr z t).getD false))=(len c==len t.procs):=by
  simp[Sl.l,jr]
 rw[w,ck];constructor
 .intro h;have B:c.l.length=t.procs.l.length:=by
   have:(c.l.length:Int)=t.procs.l.length:=by simpa [len]using h
   omega
  unfold eY.W1;refine d_ (λs:Int=>s=0\/s=1/\jI t c.l) (λs:Int=>1-s.toNat) (.inl rfl) ?_
  intro s D;unfold eY.bA;rcases D with rfl|⟨rfl,G⟩
  .rw[show decide ((0:Int)<len (Sl.row [c]:Sl (Sl Int)))=true from rfl,bY,show idx (Sl.row [c]:Sl (Sl Int)) 0=some c from rfl,ζb,gA];refine(BJ J B).mono λb u=>?_
   rw[ck];exact⟨λI=>(bk _).2 ⟨.inr ⟨rfl,u.1 I⟩,by decide⟩,λC=>(bk _).2 ((bk _).2 (.inr (.inl ⟨B,λh=>(by rw[u.2 h]at C;cases C),rfl⟩)))⟩
  rw[show decide ((1:Int)<len (Sl.row [c]:Sl (Sl Int)))=false from rfl,b8,bk];show Wp (eY.W2 (Sl.row [c]) Sl.nil 0 0 t) _;unfold eY.W2;refine d_ (λs:Int=>s=0) (λ_=>0) rfl ?_
  rintro s rfl;unfold eY.b7;rw[show decide ((0:Int)<0)=false from rfl,b8,bk];show Wp (eY.W3 (Sl.row [c]) 1 0 t) _;unfold eY.W3;refine d_ (λs:Int=>s=0\/s=1/\kJ t A c.l) (λs:Int=>1-s.toNat) (.inl rfl) ?_
  intro s D;unfold eY.eG;rcases D with rfl|⟨rfl,L⟩
  .rw[show decide ((0:Int)<1)=true from rfl,bY,show idx (Sl.row [c]:Sl (Sl Int)) 0=some c from rfl,ζb];unfold wN;rw[gA,gA];refine(Jh J hv O T G).mono λr hr=>?_
   rw[bk,ck];exact⟨λu=>(bk _).2 ⟨.inr ⟨rfl,hr.1 (by simpa using u)⟩,by decide⟩,λu=>(bk _).2 ((bk _).2 (.inr (.inr (.inl ⟨G,λh=>(by have:=hr.2 h;simp[this]at u),rfl⟩))))⟩
  rw[show decide ((1:Int)<1)=false from rfl,b8,bk];exact(bk _).2 (.inr (.inr (.inr ⟨G,L,rfl⟩)))
 intro h;exact(bk _).2 (.inl ⟨λe=>(by simp[len,e]at h),rfl⟩)
theorem Code.zero {t:Trace} {A:bU 200 br} {c:a_ Int} {r:Int} (h:Code t A c r):r=0↔jI t c/\kJ t A c:=by
 rcases h with⟨h,rfl⟩|⟨_,h,rfl⟩|⟨_,h,rfl⟩|⟨h1,w,rfl⟩
 .exact⟨λh=>(by cases h),λu=>absurd u.1.1 h⟩
 .exact⟨λh=>(by cases h),λu=>absurd u.1 h⟩
 .exact⟨λh=>(by cases h),λu=>absurd u.2 h⟩
 exact⟨λ_=>⟨h1,w⟩,λ_=>rfl⟩
theorem NM {t:Trace} (u:Small t) (hv:dG t=some true) (B:VT t) {A:bU 200 br} (D:gE t (bT t) A) (c:Sl Int) :
 Wp (eY t (Sl.row [c]:Sl (Sl Int)) (Sl.nil:Sl Int)) λr=>(r=0↔jI t c.l/\kJ t A c.l):=(Ta u hv B D c).mono λ_ h=>h.zero
def Cons (t:Trace) (A:bU 200 br) (c:a_ Int):Prop:=jI t c/\kJ t A c
def places {α:Type} (f:α->Bool) (l:a_ α):a_ Nat:=(List.range l.length).filter λk=>match l[k]? with|some x=>f x|none=>false
end Go.VE
namespace Go.VE
def qT (kind m:Int) (x:bg×Event):Bool:=x.2.kind==kind&&x.2.message==m
def kZ (t:Trace) (kind m:Int):bg:=match (bT t).find? (qT kind m)with
 | some x=>x.1
 | none=>⟨0,0⟩
theorem JK {t:Trace} {kind m:Int} {p:Nat} {P:cr} (B:p<9223372036854775806) (D:t.procs.l[p]? = some P) (J:P.events.l.length<1073741824):∀(q i:Nat),i+q=P.events.l.length ->
 bM (λq:Int=>dw.b7 kind m p t ⟨0,0⟩ q) (i:Int)=some (match (gU p i (P.events.l.drop i)).find? (qT kind m)with|some x=>.r x.1|none=>.x ()):=by
 have u:idx t.procs (p:Int)=some P:=by rw[nj];exact D
 intro q
 induction q with
 | zero=>
  intro i z;rw[gm];unfold dw.b7;rw[u,ζb,show decide ((i:Int)<len P.events)=false from by simp[len];omega,b8,List.drop_of_length_le Za]
  rfl
 | succ q C=>
  intro i z;have w:i<P.events.l.length:=by omega
  rw[gm];have G:dw.b7 kind m p t ⟨0,0⟩ i=some (if qT kind m (⟨p,(i:Int)+1⟩,P.events.l[i])then .r ⟨p,(i:Int)+1⟩else .n ((i+1:Nat):Int)):=by
   unfold dw.b7;rw[u,ζb,show decide ((i:Int)<len P.events)=true from by simp[len];omega,bY,ζb,bO w,ζb,mQ,ζb,cW i Za,sB]
   rfl
  rw[G,ζb,List.drop_eq_getElem_cons w];simp only[gU,List.find?_cons]
  cases I:qT kind m (⟨p,(i:Int)+1⟩,P.events.l[i])with
  | true=>rfl
  | false=>
   simp only[Bool.false_eq_true,if_false];exact C (i+1) Za
theorem JM {t:Trace} (B:Small t) {kind m:Int}:∀(q p:Nat),p+q=t.procs.l.length ->
 bM (λq:Int=>dw.bA kind m t ⟨0,0⟩ q) (p:Int)=some (match (eX p (t.procs.l.drop p)).find? (qT kind m)with|some x=>.r x.1|none=>.x ()):=by
 have h1:=B.1;intro q
 induction q with
 | zero=>
  intro p w;rw[gm];unfold dw.bA;rw[show decide ((p:Int)<len t.procs)=false from by simp[len];omega,b8,List.drop_of_length_le Za]
  rfl
 | succ q z=>
  intro p w;have u:p<t.procs.l.length:=by omega
  have C:bM (λq:Int=>dw.b7 kind m p t ⟨0,0⟩ q) 0=some (match (gU p 0 t.procs.l[p].events.l).find? (qT kind m)with|some x=>.r x.1|none=>.x ()):=JK (t:=t) (kind:=kind) (m:=m) Za (ζd u) (B.2 _ (List.getElem_mem u)).1 (t.procs.l[p].events.l.length) 0 Za
  rw[gm];unfold dw.bA;rw[show decide ((p:Int)<len t.procs)=true from by simp[len];omega,bY]
  unfold dw.W2;rw[C,List.drop_eq_getElem_cons u];simp only[eX,List.find?_append]
  cases D:(gU p 0 t.procs.l[p].events.l).find? (qT kind m)with
  | some x=>rfl
  | none=>
   simp only[ζb,Fw.elim,Option.none_or];rw[cW p Za]
   exact z (p+1) Za
theorem find_eq {t:Trace} (u:Small t) (kind m:Int):dw t kind m=some (kZ t kind m):=by
 unfold dw dw.W1;have w:bM (λq:Int=>dw.bA kind m t ⟨0,0⟩ q) 0=some (match (bT t).find? (qT kind m)with|some x=>.r x.1|none=>.x ()):=JM u (kind:=kind) (m:=m) t.procs.l.length 0 Za
 rw[w];unfold kZ;cases (bT t).find? (qT kind m) <;> rfl
theorem B7 {t:Trace} {kind m:Int} {x:bg×Event} (h:(bT t).find? (qT kind m)=some x):x∈bT t/\x.2.kind=kind/\x.2.message=m/\kZ t kind m=x.1:=by
 have h1:=List.find?_some h;simp only[qT,ζh,beq_iff_eq]at h1;exact⟨List.mem_of_find?_eq_some h,h1.1,h1.2,by unfold kZ;rw[h]⟩
theorem GW {t:Trace} {kind m:Int} {x:bg×Event} (B:x∈bT t) (hk:x.2.kind=kind) (D:x.2.message=m):∃y,(bT t).find? (qT kind m)=some y:=by
 cases u:(bT t).find? (qT kind m)with
 | some y=>exact⟨y,rfl⟩
 | none=>
  rw[List.find?_eq_none]at u;exact absurd (u x B) (by simp[qT,hk,D])
theorem Pd {t:Trace} {p k:Nat} {e:Event} (h:jS t p k e) (hk:k<9223372036854775807):s_ t ⟨p,k+1⟩=some e:=by
 obtain⟨P,u,w⟩:=h;unfold s_;dsimp only;rw[show idx t.procs (p:Int)=some P from by rw[nj];exact u,ζb,show IntKind.wrap .i64 ((k:Int)+1-1)=(k:Int)from by rw[qQ _ Za Za];omega,show idx P.events (k:Int)=some e from by rw[nj];exact w]
 rfl
def tZ (t:Trace) (x:bg×Event):Int:=if x.2.kind=1 then 0 else if kZ t x.2.kind x.2.message=x.1 then(if x.2.kind=3 then(if rB t x.2.peer x.2.message x.1.proc then 0 else 7)else 0)else 8
theorem LK {t:Trace} (D:Small t) {p k:Nat} {e:Event} (h:jS t p k e) (Y:jO t.procs.l.length p e):gM t ⟨p,k+1⟩=some (tZ t (⟨p,k+1⟩,e)):=by
 have hk:k<1073741824:=by
  obtain⟨P,X,Z⟩:=h;have:=(D.2 P (List.mem_of_getElem? X)).1;have:=(ζe.1 Z).1;omega
 unfold gM tZ;rw[Pd h Za,ζb]
 dsimp only
 by_cases h1:e.kind=1
 .rw[show (e.kind==1)=true from by simp[h1],bY,if_pos h1]
 rw[show (e.kind==1)=false from by simp[h1],b8,if_neg h1,find_eq D,ζb]
 have G:Iw (kZ t e.kind e.message) ⟨p,(k:Int)+1⟩=decide (kZ t e.kind e.message=⟨p,(k:Int)+1⟩):=by
  unfold Iw;rw[Bool.eq_iff_iff];cases kZ t e.kind e.message;simp
 rw[G]
 by_cases w:kZ t e.kind e.message=⟨p,(k:Int)+1⟩
 .rw[if_pos w,show decide (kZ t e.kind e.message=⟨p,(k:Int)+1⟩)=true from by simpa using w,bY]
  by_cases B:e.kind=3
  .rw[if_pos B,show (e.kind==3)=true from by simp[B],bY]
   have I:0<=e.peer/\e.peer<t.procs.l.length:=by
    rcases Y with h|⟨_,h1,w,_⟩
    .exact absurd h h1
    exact⟨h1,w⟩
   have S:e.peer.toNat<t.procs.l.length:=by omega
   have T:=ζd S;have aa:=(D.2 _ (List.getElem_mem S)).1;generalize ab:t.procs.l[e.peer.toNat]=Q at *;have J:idx t.procs e.peer=some Q:=by rw[RG I.1];exact T
   have L:rB t e.peer e.message p=Q.events.l.any λs=>s.kind==2&&s.message==e.message&&s.peer==p:=by
    unfold rB;rw[T]
   unfold gM.W1;refine Wp.eq (d_ (λz:Bool×Int=>∃m:Nat,z.2=m/\m<=Q.events.l.length/\z.1=(Q.events.l.take m).any λs=>s.kind==2&&s.message==e.message&&s.peer==p) (λz=>Q.events.l.length-z.2.toNat) ⟨0,rfl,Nat.zero_le _,rfl⟩ ?_)
   rintro⟨s,i⟩ ⟨m,U,hm,C⟩;simp only at U C;subst U;unfold gM.bA;dsimp only;rw[J,ζb,ck];constructor
   .intro O;have u:m<Q.events.l.length:=by simpa [len]using O
    have W:=cW m Za
    rw[ζb,bO u,ζb,mQ,ζb,mQ,ζb,jg,ζb,bk];refine⟨⟨m+1,W,by omega,?_⟩,by show _-(IntKind.wrap .i64 ((m:Int)+1)).toNat<_;rw[W];simp;omega⟩
    show (s||_)=_;rw[List.take_add_one,ζd u,List.any_append,C];simp
   intro O;have u:Q.events.l.length<=m:=by simpa [len]using O
   rw[List.take_of_length_le u]at C;refine(bk _).2 ?_;rw[L,<-C];cases s
   .exact(bk _).2 rfl
   exact(bk _).2 rfl
  rw[if_neg B,show (e.kind==3)=false from by simp[B],b8]
 rw[if_neg w,show decide (kZ t e.kind e.message=⟨p,(k:Int)+1⟩)=false from by simpa using w,b8]
theorem JF {t:Trace} (J:∀x∈bT t,jO t.procs.l.length x.1.proc x.2):(∀x∈bT t,tZ t x=0)↔wz t:=by
 constructor
 .intro h;have key:∀x∈bT t,x.2.kind≠1->kZ t x.2.kind x.2.message=x.1:=λx u hk=>by
   have:=h x u;unfold tZ at this;rw[if_neg hk]at this;split at this
   .assumption
   cases this
  refine⟨λx u y w z B C=>?_,λx u y w z B C=>?_,λx u z=>?_⟩
  .rw[<-key x u Za,<-key y w Za,z,B,C]
  .rw[<-key x u Za,<-key y w Za,z,B,C]
  have:=h x u;unfold tZ at this;rw[if_neg Za,if_pos (key x u Za),if_pos z]at this
  split at this
  .assumption
  cases this
 intro h x u;unfold tZ
 by_cases k1:x.2.kind=1
 .rw[if_pos k1]
 rw[if_neg k1];obtain⟨y,w⟩:=GW u rfl rfl;obtain⟨D,G,y3,y4⟩:=B7 w;have hk:x.2.kind=2\/x.2.kind=3:=by
  rcases J x u with h|⟨h,_⟩
  .exact absurd h k1
  exact h
 have I:kZ t x.2.kind x.2.message=x.1:=by
  rw[y4];rcases hk with hk|hk
  .exact h.snd y D x u (by rw[G,hk]) hk y3
  exact h.rcv y D x u (by rw[G,hk]) hk y3
 rw[if_pos I]
 by_cases k3:x.2.kind=3
 .rw[if_pos k3,if_pos (h.has x u k3)]
 rw[if_neg k3]
theorem zg {t:Trace} (B:∀x∈bT t,jO t.procs.l.length x.1.proc x.2) (D:wz t) {z:bg} {f:Event} (u:(z,f)∈bT t) (hk:f.kind=3):∃e,(kZ t 2 f.message,e)∈bT t/\e.kind=2/\e.message=f.message:=by
 have h:=D.has _ u hk;have I:0<=f.peer:=by
  rcases B _ u with h|⟨_,h,_⟩
  .grind
  omega
 rw[show f.peer=(f.peer.toNat:Nat)from by omega,Bz]at h
 obtain⟨k,e,w,h1,C,_⟩:=h;obtain⟨y,G⟩:=GW (dY.2 ⟨_,k,w,rfl⟩:(⟨(f.peer.toNat:Nat),k+1⟩,e)∈bT t) h1 C;obtain⟨J,L,y3,y4⟩:=B7 G
 grind
theorem EX.find {t:Trace} (D:∀x∈bT t,jO t.procs.l.length x.1.proc x.2) (u:wz t) {y z:bg} {f:Event} (h:EX t y z) (B:(z,f)∈bT t):f.kind=3/\kZ t 2 f.message=y:=by
 obtain⟨e,L,h1,C,G,w,O⟩:=h;cases A6 C B rfl;obtain⟨Q,I,J,S⟩:=zg D u B w;exact⟨w,u.snd _ I _ h1 J G (by simp_all)⟩
theorem Aj {t:Trace} (O:Small t) (J:∀x∈bT t,jO t.procs.l.length x.1.proc x.2) (B:wz t) {z:bg} (D:Vd t z) :
 Wp (dg t z) λs=>s.l.length<=2/\∀y,y∈s.l↔Edge t y z:=by
 obtain⟨p,k,f,w,rfl,u⟩:=D.at_;have hk:k<1073741824:=by
  obtain⟨P,B,I⟩:=w;have:=(O.2 P (List.mem_of_getElem? B)).1
  grind
 have j:∀s:Sl bg,s.l.length<=1->(∀y,y∈s.l↔Vd t y/\(⟨p,k+1⟩:bg)=⟨y.proc,y.index+1⟩)->Wp (dg.J1 s t ⟨p,k+1⟩) λs=>s.l.length<=2/\∀y,y∈s.l↔Edge t y ⟨p,k+1⟩:=by
  intro s W C;unfold dg.J1;rw[Pd w Za,ζb,ck]
  constructor
  .intro G;have G:f.kind=3:=by grind
   rw[find_eq O,ζb];unfold eA;rw[if_pos Za,ζb,bk]
   refine⟨by show (s.l++[_]).length<=2;grind,λy=>?_⟩
   show y∈s.l++[kZ t 2 f.message]↔_;rw[List.mem_append,List.mem_singleton,C];obtain⟨e,Q,S,T⟩:=zg J B u G;constructor
   .rintro (h|rfl)
    .exact⟨h.1,D,.inl h.2⟩
    exact⟨⟨e,Q⟩,D,.inr ⟨e,f,Q,u,S,G,T⟩⟩
   rintro⟨h1,_,h2|h2⟩
   .grind
   exact .inr (h2.find J B u).2.symm
  intro G;refine(bk _).2 ⟨by omega,λy=>(C y).trans ⟨λh=>⟨h.1,D,.inl h.2⟩,λ⟨h1,_,h2⟩=>⟨h1,h2.elim id λh2=>?_⟩⟩⟩
  have:=(h2.find J B u).1
  grind
 unfold dg;rw[ck];constructor
 .intro h;have h:k+1>1:=by grind
  refine j _ (by simp[Sl.l]) λy=>?_
  have U:IntKind.wrap .i64 (k+1-1)=k:=by rw[qQ _ Za Za];omega
  simp only[Sl.l,List.mem_singleton,U,bg.mk.injEq];constructor
  .rintro rfl;obtain⟨P,B,I⟩:=w;have:=(ζe.1 I).1;exact⟨⟨P.events.l[k-1],dY.2 ⟨p,k-1,⟨P,B,ζd Za⟩,by simp;omega⟩⟩,rfl,rfl⟩
  simp_all
 intro h;refine j _ (by simp[Sl.l]) λy=>⟨λL=>by simp[Sl.l]at L,λ⟨L,I⟩=>?_⟩
 obtain⟨q,i,f,_,rfl,_⟩:=L.at_
 grind
theorem S5 {α:Type} {r:α->α->Prop} {x:α} (h:Acc r x):¬Relation.TransGen r x x:=by
 induction h with
 | intro x _ t=>
  intro h
  cases h with
  | single h=>exact t x h (.single h)
  | tail h1 u=>exact t _ u (Relation.TransGen.trans (.single u) h1)
theorem H6:∀{d:a_ Nat} {i k:Nat},d[i]? = some k->(d.set i (k+1)).sum=d.sum+1
 | [],_,_,h=>by simp_all
 | x::d,0,k,h=>by grind
 | x::d,i+1,k,h=>by
  have:=H6 (d:=d) (i:=i) (k:=k) Zd
  grind
theorem L_:∀{d l:a_ Nat},d.length=l.length->(∀(i a b:Nat),d[i]? = some a->l[i]? = some b->a<=b)->d.sum<=l.sum
 | [],_,_,_=>by simp
 | x::d,[],h,_=>by simp_all
 | x::d,y::l,h,u=>by
  have h1:=u 0 x y rfl rfl;have t:=L_ (d:=d) (l:=l) Zd λi a b w z=>u (i+1) a b Zd Zd
  simp;omega
def nI (d:a_ Nat):a_ Int:=d.map Int.ofNat
def sI (s:Sl Int):Nat:=(s.l.map Int.toNat).sum
theorem EC (d:a_ Nat):sI (.row (nI d))=d.sum:=by
 unfold sI nI;rw[show (Sl.row (d.map Int.ofNat)).l=d.map Int.ofNat from rfl,List.map_map,show (Int.toNat ∘ Int.ofNat)=id from rfl,List.map_id]
theorem L9 (d:a_ Nat):(nI d).length=d.length:=by simp[nI]
structure Kh (t:Trace) (d:List Nat):Prop where
 len:d.length=t.procs.l.length
 le:∀(p k:Nat) P,d[p]? = some k->t.procs.l[p]? = some P->k<=P.events.l.length
 acc:∀(p k j:Nat),d[p]? = some k->j<k->Acc (Edge t) ⟨p,j+1⟩
def nV (t:Trace):Nat:=(t.procs.l.map λP=>P.events.l.length).sum
theorem Kh.sum {t:Trace} {d:a_ Nat} (h:Kh t d):d.sum<=nV t:=L_ (by simp[h.len]) λi a b z u=>by
 cases w:t.procs.l[i]? with
 | none=>grind
 | some P=>simp[w]at u;rw[<-u];exact h.le i a P z w
theorem BB {d:a_ Nat} {p:Nat} (h:p<d.length):Sl.jH (.row (nI d)) (p:Int)=some p:=by
 unfold Sl.jH;rw[if_pos ⟨by omega,by simpa [Sl.l,L9]using h⟩];rfl
theorem x8 {d:a_ Nat} {p k:Nat} (h:d[p]? = some k):Sl.get (.row (nI d)) p=some (k:Int):=by
 unfold Sl.get nI;rw[show (Sl.row (d.map Int.ofNat)).l=d.map Int.ofNat from rfl,List.getElem?_map,h];rfl
def Mv (t:Trace) (u:a_ Nat) (s:Sl Int) (b:Bool) (d:a_ Nat):Prop:=s=.row (nI d)/\Kh t d/\u.sum<=d.sum/\(b=true->u.sum<d.sum)
def KQ (t:Trace) (B:a_ Nat) (p:Nat) (w:Fw (Sl Int×Bool×Int) (Sl Int×Bool) Empty):Prop:=∃u z C,w=.n (u,z,((p+1:Nat):Int))/\Mv t B u z C
theorem Qd {t:Trace} (hS:Small t) (hF:∀x∈bT t,jO t.procs.l.length x.1.proc x.2) (hP:wz t) {D d1:a_ Nat} {s:Sl Int} {b:Bool} {p:Nat} (hp:p<t.procs.l.length) (hM:Mv t D s b d1) :
 Wp (dP.W3 s b p t) (KQ t D p):=by
 have Z:=bO hp;have hn:=hS.1;have ah:=(hS.2 _ (List.getElem_mem hp)).1;have C:=ζd hp;generalize t.procs.l[p]=P at *;refine d_ (λq:Sl Int×Bool=>∃d,Mv t D q.1 q.2 d) (λq=>nV t-sI q.1) ⟨d1,hM⟩ ?_
 rintro⟨s,b⟩ ⟨d,rfl,u,hd,hb⟩;have w:p<d.length:=by rw[u.len];omega
 have hg:=ζd w;generalize d[p]=k at hg;have ai:=u.le p k P hg C;have stop:∀{X:Empty->Prop},Wp (some (Fw.x (Sl.row (nI d),b))) (Pp (λq:Sl Int×Bool=>∃d,Mv t D q.1 q.2 d) (λq=>nV t-sI q.1) (λe=>Wp (some (Fw.n (e.1,e.2,IntKind.wrap .i64 (p+1)))) (KQ t D p)) X (Sl.row (nI d),b)):=by
  refine(bk _).2 ((bk _).2 ⟨_,_,d,?_,rfl,u,hd,hb⟩);rw[cW p Za]
 unfold dP.eG;rw[BB w,ζb,x8 hg,ζb,Z,ζb,ck];refine⟨λh=>?_,λ_=>stop⟩
 have G:k<P.events.l.length:=by grind
 have aa:jS t p k P.events.l[k]:=⟨P,C,ζd G⟩;have z:(⟨p,k+1⟩,P.events.l[k])∈bT t:=dY.2 ⟨p,k,aa,rfl⟩;have go:(P.events.l[k].kind=3->∀q j:Nat,kZ t 2 P.events.l[k].message=⟨q,j+1⟩->∃Y,d[q]? = some Y/\j<Y)->∀{px:Sl Int×Bool->Prop} {X:Empty->Prop},Wp (dP.J4 (.row (nI d)) p t) (Pp (λq:Sl Int×Bool=>∃d,Mv t D q.1 q.2 d) (λq=>nV t-sI q.1) px X (Sl.row (nI d),b)):=by
  intro hq px X;unfold dP.J4;rw[BB w,ζb,x8 hg,ζb,ζb];unfold Sl.put;rw[if_pos (by simpa [Sl.l,L9]using w),ζb,bk]
  have I:(nI d).set p (IntKind.wrap .i64 ((k:Int)+1))=nI (d.set p (k+1)):=by
   rw[cW k Za];unfold nI;simp_all
  have J:=H6 hg;have L:Kh t (d.set p (k+1)):=by
   refine⟨by simp[u.len],λq i Q B hQ=>?_,λq i j B hj=>?_⟩
   .rw[List.getElem?_set]at B;split at B
    .grind
    exact u.le q i Q B hQ
   rw[List.getElem?_set]at B;split at B
   .rename_i e;subst e;cases B
    by_cases ab:j<k
    .exact u.acc p k j hg ab
    have:j=k:=by omega
    subst this;refine Acc.intro _ λy hy=>?_
    obtain⟨O,_,he|he⟩:=hy
    .obtain⟨q,i,f,_,rfl,_⟩:=O.at_;simp[bg.mk.injEq]at he;have e1:q=p:=by omega
     subst e1;exact u.acc q j i hg Za
    obtain⟨S,hf⟩:=he.find hF hP z;obtain⟨q,i,f,_,rfl,_⟩:=O.at_;obtain⟨Y,ad,ae⟩:=hq S q i hf;exact u.acc q Y i ad ae
   exact u.acc q i j B hj
  have aj:=L.sum;refine⟨⟨_,by grind,L,by grind,λ_=>by grind⟩,?_⟩
  show nV t-sI (.row ((nI d).set p (IntKind.wrap .i64 ((k:Int)+1))))<nV t-sI (.row (nI d));rw[I,EC,EC,J]
  grind
 dsimp only;rw[ζb,ζb,x8 hg,ζb,bO G,ζb,ck];refine⟨λS=>?_,λS=>go λh=>by grind⟩
 have S:P.events.l[k].kind=3:=by grind
 obtain⟨e,a1,a2,a3⟩:=zg hF hP z S;obtain⟨q,j,T,U⟩:=dY.1 a1;simp only at U;have W:q<d.length:=by
  obtain⟨Q,hQ,_⟩:=T;rw[u.len];grind
 have af:=ζd W;rw[find_eq hS,ζb,U,BB W,ζb,x8 af,ζb,ck];refine⟨λ_=>stop,λh=>go λ_ q' j' hh=>?_⟩
 grind
theorem Jp {t:Trace} (J:Small t) (T:∀x∈bT t,jO t.procs.l.length x.1.proc x.2) (B:wz t):Wp (dP t) λb=>b=true->¬Iq t:=by
 have hn:=J.1;unfold dP iX;rw[if_pos Zd,ζb]
 have S:(Sl.row (List.replicate (len t.procs).toNat 0))=.row (nI (List.replicate t.procs.l.length 0)):=by simp[nI]
 rw[S];refine d_ (λs:Sl Int=>∃d,s=.row (nI d)/\Kh t d) (λs=>nV t-sI s) ⟨_,rfl,by simp,λp k P h _=>by grind,λp k j h hj=>by grind⟩ ?_
 rintro s ⟨D,rfl,U⟩;refine d_ (λq:Sl Int×Bool×Int=>∃(n:Nat) (d:a_ Nat),q.2.2=n/\n<=t.procs.l.length/\Mv t D q.1 q.2.1 d) (λq=>t.procs.l.length-q.2.2.toNat) ⟨0,D,rfl,Nat.zero_le _,rfl,U,Nat.le_refl _,by simp⟩ ?_
 rintro⟨s,b,i⟩ ⟨n,d,W,X,L⟩;subst W;unfold dP.b7;rw[ck];constructor
 .intro h;have u:n<t.procs.l.length:=by grind
  refine(Qd J T B u L).mono ?_;rintro w ⟨s',b',Y,rfl,G⟩;exact⟨⟨n+1,Y,rfl,by omega,G⟩,by simp;omega⟩
 intro _;obtain⟨rfl,z,Z,I⟩:=L;rw[bk];show Wp (bt b _ _) _;rw[ck];refine⟨λhb=>(bk _).2 ⟨⟨d,rfl,z⟩,?_⟩,λ_=>(bk _).2 ?_⟩
 .show nV t-sI (.row (nI d))<nV t-sI (.row (nI D));rw[EC,EC];have:=I hb;have:=z.sum;omega
 refine d_ (λi:Int=>∃n:Nat,i=n/\n<=t.procs.l.length/\∀p,p<n->∀P,t.procs.l[p]? = some P->d[p]? = some P.events.l.length) (λi:Int=>t.procs.l.length-i.toNat) ⟨0,rfl,Nat.zero_le _,λp O=>absurd O Za⟩ ?_
 rintro i ⟨n,rfl,aa,hh⟩;unfold dP.wj;rw[ck];constructor
 .intro h;have u:n<t.procs.l.length:=by grind
  have C:n<d.length:=by rw[z.len];omega
  have hg:=ζd C;rw[BB C,ζb,x8 hg,ζb,bO u,ζb,ck];refine⟨λ_=>(bk _).2 ((bk _).2 λh=>by cases h),λh=>(bk _).2 ⟨⟨n+1,cW n Za,by omega,λp O P B=>?_⟩,by rw[cW n Za];simp;omega⟩⟩
  by_cases e:p=n
  .subst e;rw[ζd u]at B;have:=z.le p _ _ hg (ζd u)
   grind
  grind
 intro h;have ab:t.procs.l.length<=n:=by grind
 refine(bk _).2 ((bk _).2 λ_ ⟨x,Q⟩=>?_)
 obtain⟨p,k,e,⟨P,B,he⟩,rfl,_⟩:=Q.l.at_;have ad:=(ζe.1 B).1;exact S5 (z.acc p _ k (hh p Za P B) (ζe.1 he).1) Q
def pe (out:a_ (a_ Bool)) (y:bg):Bool:=match out[y.proc.toNat]? with
 | some row=>row[y.index.toNat]?.getD false
 | none=>false
theorem y8 {t:Trace} {out:a_ (a_ Bool)} {p k:Nat} {row:a_ Bool} (hr:out[p]? = some row) (hk:k+1<row.length) {z:bg} (B:Vd t z) :
 pe (out.set p (row.set (k+1) true)) z=(decide (z=⟨p,k+1⟩)||pe out z):=by
 obtain⟨q,j,e,_,rfl,_⟩:=B.at_;have C:=(ζe.1 hr).1;unfold pe;have e1:(⟨(q:Int),(j:Int)+1⟩:bg).proc.toNat=q:=rfl;have e2:(⟨(q:Int),(j:Int)+1⟩:bg).index.toNat=j+1:=by show ((j:Int)+1).toNat=j+1;omega
 rw[e1,e2,List.getElem?_set]
 by_cases u:p=q
 .subst u;rw[if_pos rfl,if_pos C,hr];dsimp only;rw[List.getElem?_set]
  by_cases w:k=j
  .subst w;simp[hk]
  rw[if_neg Za,show decide ((⟨(p:Int),(j:Int)+1⟩:bg)=⟨p,k+1⟩)=false from by simp;omega,Bool.false_or]
 rw[if_neg u,show decide ((⟨(q:Int),(j:Int)+1⟩:bg)=⟨p,k+1⟩)=false from by simp;omega,Bool.false_or]
theorem yh {α:Type} {f g:α->Bool}:∀{l:a_ α},(∀z∈l,f z=true->g z=true)->(∃z∈l,f z=false/\g z=true)->l.countP f<l.countP g
 | [],_,⟨z,hz,_⟩=>by simp at hz
 | a::l,h,⟨z,hz,B,hg⟩=>by
  simp only[List.countP_cons];have D:=List.countP_mono_left (l:=l) (p:=f) (q:=g) λx t=>h x (List.mem_cons_of_mem _ t)
  rcases List.mem_cons.1 hz with rfl|hz
  .simp[B,hg];omega
  have:=yh (l:=l) (λx t=>h x (List.mem_cons_of_mem _ t)) ⟨z,hz,B,hg⟩
  have h1:=h a (List.mem_cons_self ..)
  cases u:f a with
  | true=>simp[h1 u];omega
  | false=>simp;split <;> omega
def cnt (t:Trace) (out:a_ (a_ Bool)):Nat:=(bT t).countP λz=>pe out z.1
structure Uq (t:Trace) (x:bg) (out:List (List Bool)) (rest:List bg):Prop where
 tE:∀(p:Nat) P,t.procs.l[p]? = some P->∃row,out[p]? = some row/\row.length=P.events.l.length+1
 len:out.length=t.procs.l.length
 que:∀y∈rest,Way t y x
 snd:∀y,Vd t y->pe out y=true->Way t y x
 cls:∀z,z=x\/Vd t z/\pe out z=true->∀y,Edge t y z->pe out y=true\/y∈rest
 le:rest.length<=2*cnt t out+2
def nested (out:a_ (a_ Bool)):Sl (Sl Bool):=if out=[]then .nil else .row (out.map .row)
def kP (t:Trace):a_ (a_ Bool):=t.procs.l.map λP=>List.replicate (P.events.l.length+1) false
theorem A9 (out:a_ (a_ Bool)):(nested out).l=out.map .row:=by
 unfold nested;split
 next h=>rw[h];rfl
 rfl
def EW (s:Sl (Sl Bool)):a_ (a_ Bool):=s.l.map Sl.l
theorem Pr (out:a_ (a_ Bool)):EW (nested out)=out:=by
 unfold EW;rw[A9,List.map_map];exact List.map_id' _
theorem Cq {out:a_ (a_ Bool)} {p:Nat} {row:a_ Bool} (h:out[p]? = some row):(idx (nested out) (p:Int)).bind Sl.whole=some (.row row):=by
 rw[nj,A9,List.getElem?_map,h];rfl
theorem BP {out:a_ (a_ Bool)} {p:Nat} {row u:a_ Bool} (h:out[p]? = some row):jk (nested out) (p:Int) (.row u)=nested (out.set p u):=by
 have t:out≠[]:=by rintro rfl;cases h
 unfold nested;rw[if_neg t,if_neg (by simpa using t)];simp[jk,List.map_set]
theorem JE {out:a_ (a_ Bool)} {r:a_ Bool} (h:out.length<2147483648):eA (nested out) (.row r)=some (nested (out++[r])):=by
 unfold eA;rw[A9,if_pos (by simp;omega)]
 simp[nested]
theorem UJ {α:Type} {s:Sl α} {y:α} {r:a_ α} (h:s.l=y::r):∃c,ki s (some 1) none=some c/\c.l=r:=by
 have t:∀l:a_ α,l=y::r->dD l.length (some 1) none=some (1,l.length):=λl u=>by
  unfold dD;simp only[Option.getD_some,Option.getD_none];rw[if_pos (by subst u;simp;omega)];rfl
 cases s with
 | nil=>cases h
 | emp=>cases h
 | row l=>exact⟨_,by simp only[ki,t l h];rfl,by show (l.take l.length).drop 1=r;rw[List.take_length,show l=y::r from h];rfl⟩
 | part l=>exact⟨_,by simp only[ki,t l h];rfl,by show (l.take l.length).drop 1=r;rw[List.take_length,show l=y::r from h];rfl⟩
theorem CE {t:Trace} {y:bg} {s:Sl bg} (h:dg t y=some s):s.whole=some s:=by
 have B:∀o z,Sl.whole o=some o->dg.J1 o t y=some z->z.whole=some z:=λo z D u=>by
  unfold dg.J1 at u;obtain⟨e,_,u⟩:=ζg.1 u
  cases C:e.kind==3 with
  | true=>
   rw[C]at u;obtain⟨f,_,u⟩:=ζg.1 u;obtain⟨q,w,u⟩:=ζg.1 u;cases u;unfold eA at w;split at w <;> cases w;rfl
  | false=>rw[C]at u;cases u;exact D
 unfold dg at h
 cases hc:decide (y.index>1)with
 | true=>rw[hc]at h;exact B _ s rfl h
 | false=>rw[hc]at h;exact B _ s rfl h
theorem DI {t:Trace} {y:bg} {P:Sl bg->Prop} (h:Wp (dg t y) P):Wp ((dg t y).bind Sl.whole) P:=by
 obtain⟨s,h1,u⟩:=h;exact⟨s,by rw[h1];exact CE h1,u⟩
theorem NI {α:Type} {s:Sl α} {p:Nat} (h:p<s.l.length):Sl.jH s (p:Int)=some p:=by
 unfold Sl.jH;rw[if_pos ⟨by omega,by simpa using h⟩];rfl
theorem Ar {t:Trace} {y:bg}:pe (kP t) y=false:=by
 unfold pe kP;split
 .rename_i row h;rw[List.getElem?_map]at h
  cases u:t.procs.l[y.proc.toNat]? with
  | none=>simp[u]at h
  | some P=>
   simp[u]at h;subst h;rw[List.getElem?_replicate];split <;> rfl
 rfl
theorem Q6 {t:Trace} (hS:Small t) (hN:(bT t).length<1073741824) (hF:∀x∈bT t,jO t.procs.l.length x.1.proc x.2) (hP:wz t) {x:bg} (hx:Vd t x) :
 Wp (fh t x) λs=>∃out,s=nested out/\Uq t x out []/\∀y,Vd t y->(pe out y=true↔Way t y x):=by
 have hn:=hS.1;have an:(kP t).length=t.procs.l.length:=by simp[kP]
 unfold fh fh.W1;refine d_ (λq:Sl (Sl Bool)×Int=>∃n:Nat,q.2=(n:Int)/\n<=t.procs.l.length/\q.1=nested ((kP t).take n)) (λq=>t.procs.l.length-q.2.toNat) ⟨0,rfl,Nat.zero_le _,rfl⟩ ?_
 rintro⟨_,_⟩ ⟨n,rfl,ao,rfl⟩;unfold fh.bA;dsimp only;rw[ck];refine⟨λh=>?_,λh=>?_⟩
 .have C:n<t.procs.l.length:=by simpa [len]using h
  have ap:=(hS.2 _ (List.getElem_mem C)).1;have hi:(kP t)[n]' Za=List.replicate (t.procs.l[n].events.l.length+1) false:=by simp[kP]
  rw[bO C,ζb,show IntKind.wrap .i64 (len t.procs.l[n].events+1)=((t.procs.l[n].events.l.length+1:Nat):Int)from cW _ Za,show iX (((t.procs.l[n].events.l.length+1:Nat)):Int) false=some (.row (List.replicate (t.procs.l[n].events.l.length+1) false))from by unfold iX;rw[if_pos Za];simp,ζb]
  show Wp (((some _:bf (Sl Bool)).bind _)) _;rw[ζb,JE (by simp;omega),ζb,bk]
  refine⟨⟨n+1,cW n Za,C,?_⟩,?_⟩
  .rw[List.take_succ_eq_append_getElem Za,hi]
  show t.procs.l.length-(IntKind.wrap .i64 ((n:Int)+1)).toNat<t.procs.l.length-((n:Int)).toNat;rw[cW n Za];omega
 have U:t.procs.l.length<=n:=by simpa [len]using h
 rw[bk,List.take_of_length_le Za]
 show Wp _ _;rw[gA];refine(DI (Aj hS hF hP hx)).mono λs hs=>?_
 unfold fh.W2;refine d_ (λq:Sl (Sl Bool)×Sl bg=>∃out,q.1=nested out/\Uq t x out q.2.l) (λq=>2*((bT t).length-cnt t (EW q.1))+q.2.l.length) ⟨kP t,rfl,λp P hP=>⟨List.replicate (P.events.l.length+1) false,by simp[kP,hP],by simp⟩,by simp[kP],λy I=>.single ((hs.2 y).1 I),λy _ h=>(by rw[Ar]at h;cases h),λz hz y I=>?_,by have:=hs.1;show s.l.length<=2*cnt t (kP t)+2;omega⟩ ?_
 .rcases hz with rfl|⟨_,h⟩
  .exact .inr ((hs.2 y).2 I)
  rw[Ar]at h;cases h
 rintro⟨_,todo⟩ ⟨out,rfl,u⟩;simp only at u;unfold fh.b7
 cases D:todo.l with
 | nil=>
  rw[D]at u;rw[show decide (len todo>0)=false from by simp[len,D],b8,bk]
  refine(bk _).2 ⟨out,rfl,u,λy I=>⟨u.snd y I,λO=>?_⟩⟩
  have key:∀w,Way t y w->w=x\/Vd t w/\pe out w=true->pe out y=true:=λw O=>by
   induction O with
   | single h=>exact λO=>(u.cls _ O _ h).elim id λh=>by cases h
   | tail aq W ih=>exact λO=>ih (.inr ⟨W.1,(u.cls _ O _ W).elim id λh=>by cases h⟩)
  exact key x O (.inl rfl)
 | cons y rest=>
  rw[D]at u;have S:=u.que y (List.mem_cons_self ..);have T:=S.l;obtain⟨p,k,e,ae,rfl,X⟩:=T.at_;obtain⟨P,Y,hk⟩:=ae;have ar:=(ζe.1 hk).1;obtain⟨row,hr,af⟩:=u.tE p P Y;have B:k+1<row.length:=by omega
  have e2:((k:Int)+1)=((k+1:Nat):Int):=by omega
  obtain⟨c,ah,J⟩:=UJ D;have Z:out.set p row=out:=by
   obtain⟨hp,ai⟩:=ζe.1 hr;rw[<-ai];exact List.set_getElem_self hp
  rw[show decide (len todo>0)=true from by simp[len,D],bY,show Sl.jH todo 0=some 0 from by unfold Sl.jH;rw[if_pos (by simp[D])];rfl,ζb,show Sl.get todo 0=some ⟨(p:Int),(k:Int)+1⟩from by unfold Sl.get;rw[D];rfl,ζb,ah,ζb]
  dsimp only;rw[Cq hr,ζb,e2,show Sl.jH (.row row) ((k+1:Nat):Int)=some (k+1)from NI B,ζb,show Sl.get (.row row) (k+1)=some row[k+1]from ζd B,ζb,show Sl.whole (.row row)=some (.row row)from rfl,ζb,BP hr,Z,ck];have aa:pe out ⟨p,k+1⟩=row[k+1]:=by
   unfold pe;rw[show ((⟨(p:Int),(k:Int)+1⟩:bg).proc).toNat=p from rfl,hr];dsimp only;rw[show ((k:Int)+1).toNat=k+1 from by omega,ζd B];rfl
  constructor
  .intro hb;rw[bk];refine⟨⟨out,rfl,u.tE,u.len,λy I=>u.que y (List.mem_cons_of_mem _ (J▸I)),u.snd,λz hz y I=>?_,by have:=u.le;simp only[List.length_cons]at this;rw[J];omega⟩,?_⟩
   .rw[J];rcases u.cls z hz y I with h|h
    .exact .inl h
    rcases List.mem_cons.1 h with rfl|h
    .exact .inl (by rw[aa];exact hb)
    exact .inr h
   show 2*((bT t).length-cnt t (EW (nested out)))+c.l.length<2*((bT t).length-cnt t (EW (nested out)))+todo.l.length;rw[J,D,List.length_cons];omega
  intro hb;obtain⟨L,aj,ak⟩:∃r,Sl.put (.row row) (k+1) true=some (.row r)/\r=row.set (k+1) true:=⟨_,by unfold Sl.put;rw[if_pos (show k+1<(Sl.row row).l.length from B)],rfl⟩
  rw[Cq hr,ζb,show Sl.jH (.row row) ((k+1:Nat):Int)=some (k+1)from NI B,ζb,aj,ζb,show Sl.whole (.row L)=some (.row L)from rfl,ζb,BP hr,ak,gA,<-e2];refine(DI (Aj hS hF hP T)).mono λmore hm=>?_
  have al:=u.le;simp only[List.length_cons]at al;have au:cnt t out<=(bT t).length:=List.countP_le_length;have av:=hm.1;have C:cnt t out<cnt t (out.set p (row.set (k+1) true)):=yh (λz hz h=>by rw[y8 hr B ⟨_,hz⟩,h,Bool.or_true]) ⟨_,X,by rw[aa,hb],by rw[y8 hr B T];simp⟩
  have am:cnt t (out.set p (row.set (k+1) true))<=(bT t).length:=List.countP_le_length;unfold fh.W3;refine d_ (λq:Sl bg×Int=>∃n:Nat,q.2=(n:Int)/\n<=more.l.length/\q.1.l=rest++more.l.take n) (λq=>more.l.length-q.2.toNat) ⟨0,rfl,Nat.zero_le _,by simp[J]⟩ ?_
  rintro⟨td,_⟩ ⟨n,rfl,hn,G⟩;simp only at G;unfold fh.eG;rw[ck];refine⟨λh=>?_,λh=>?_⟩
  .have C:n<more.l.length:=by simpa [len]using h
   obtain⟨aw,w1,w2⟩:∃r,eA td more.l[n]=some r/\r.l=td.l++[more.l[n]]:=⟨_,by unfold eA;rw[if_pos (by rw[G];simp;omega)],rfl⟩
   rw[NI C,ζb,show Sl.get more n=some more.l[n]from ζd C,ζb,w1,ζb,bk];exact⟨⟨n+1,cW n Za,C,by rw[w2,G,List.take_succ_eq_append_getElem C,List.append_assoc]⟩,by rw[cW n Za];simp;omega⟩
  have U:more.l.length<=n:=by simpa [len]using h
  rw[List.take_of_length_le U]at G;rw[bk];refine(bk _).2 ⟨⟨_,rfl,λq Q hQ=>?_,by show (out.set _ _).length=_;rw[List.length_set];exact u.len,λz hz=>?_,λz hz h=>?_,λz hz y I=>?_,by rw[G,ζi];show _<=2*cnt t (out.set p (row.set (k+1) true))+2;omega⟩,?_⟩
  .show ∃r,(out.set p (row.set (k+1) true))[q]? = some r/\_;rw[List.getElem?_set];split
   next e=>subst e;rw[if_pos (ζe.1 hr).1];rw[Y]at hQ;cases hQ;exact⟨_,rfl,by simp[af]⟩
   exact u.tE q Q hQ
  .rw[G]at hz;rcases List.mem_append.1 hz with hz|hz
   .exact u.que z (List.mem_cons_of_mem _ hz)
   exact .trans (.single ((hm.2 z).1 hz)) S
  .show Way t z x;have h:pe (out.set p (row.set (k+1) true)) z=true:=h;rw[y8 hr B hz]at h;simp only[Bool.or_eq_true,decide_eq_true_eq]at h;rcases h with rfl|h
   .exact S
   exact u.snd z hz h
  .rw[G];show pe (out.set p (row.set (k+1) true)) y=true\/y∈rest++more.l;rw[y8 hr B I.1];have ab:z=x\/Vd t z/\pe out z=true->(decide (y=⟨p,k+1⟩)||pe out y)=true\/y∈rest++more.l:=λhz=>by
    rcases u.cls z hz y I with h|h
    .exact .inl (by rw[show pe out y=true from h,Bool.or_true])
    rcases List.mem_cons.1 h with rfl|h
    .exact .inl Zc
    exact .inr (List.mem_append_left _ h)
   rcases hz with hz|⟨ad,hz⟩
   .exact ab (.inl hz)
   have hz:pe (out.set p (row.set (k+1) true)) z=true:=hz;rw[y8 hr B ad]at hz;simp only[Bool.or_eq_true,decide_eq_true_eq]at hz;rcases hz with rfl|hz
   .exact .inr (List.mem_append_right _ ((hm.2 y).2 I))
   exact ab (.inr ⟨ad,hz⟩)
  show 2*((bT t).length-cnt t (EW (nested (out.set p (row.set (k+1) true)))))+td.l.length<2*((bT t).length-cnt t (EW (nested out)))+todo.l.length;rw[Pr,Pr,G,D,ζi,List.length_cons];omega
theorem Ua {t:Trace} (G:Small t) (hN:(bT t).length<1073741824) (hF:∀x∈bT t,jO t.procs.l.length x.1.proc x.2) (J:wz t):Wp (cR.W6 0 t ⟨0,0⟩) λr=>(r.2=0↔¬Iq t):=by
 have hn:=G.1;unfold cR.W6;refine d_ (λi:Int=>∃n:Nat,i=n/\n<=t.procs.l.length/\∀(p k:Nat) e,p<n->jS t p k e->¬Way t ⟨p,k+1⟩ ⟨p,k+1⟩) (λi:Int=>t.procs.l.length-i.toNat) ⟨0,rfl,Nat.zero_le _,λp k e U=>absurd U Za⟩ ?_
 rintro i ⟨n,rfl,Z,W⟩;unfold cR.IB;rw[ck];constructor
 .intro h;have w:n<t.procs.l.length:=by simpa [len]using h
  have I:=bO w;have z:=ζd w;have aa:=(G.2 _ (List.getElem_mem w)).1;generalize t.procs.l[n]=P at *;unfold cR.W7;refine d_ (λi:Int=>∃m:Nat,i=m/\m<=P.events.l.length/\∀k,k<m->¬Way t ⟨n,k+1⟩ ⟨n,k+1⟩) (λi:Int=>P.events.l.length-i.toNat) ⟨0,rfl,Nat.zero_le _,λk hk=>absurd hk Za⟩ ?_
  rintro i ⟨m,rfl,hm,hk⟩;unfold cR.HT;rw[I,ζb,ck];constructor
  .intro h;have L:m<P.events.l.length:=by simpa [len]using h
   have O:=cW m Za
   have hv:Vd t ⟨n,m+1⟩:=⟨P.events.l[m],dY.2 ⟨n,m,⟨P,z,ζd L⟩,rfl⟩⟩;rw[O,show (((m+1:Nat)):Int)=(m:Int)+1 from by simp,gA]
   refine(Q6 G hN hF J hv).mono ?_;rintro s ⟨out,rfl,hI,B⟩;obtain⟨row,hr,ab⟩:=hI.tE n P z;have S:out≠[]:=by rintro rfl;cases hr
   have C:m+1<row.length:=by omega
   have h1:idx (nested out) (n:Int)=some (.row row):=by
    unfold nested;rw[if_neg S,nj];show (out.map Sl.row)[n]? = _;rw[List.getElem?_map,hr];rfl
   have h2:idx (Sl.row row) ((m:Int)+1)=some row[m+1]:=by
    rw[show (m:Int)+1=((m+1:Nat):Int)from by simp]
    exact bO (s:=Sl.row row) C
   rw[h1,ζb,h2,ζb,ck];have hb:row[m+1]=pe out ⟨n,m+1⟩:=by
    unfold pe;rw[show ((⟨(n:Int),(m:Int)+1⟩:bg).proc).toNat=n from rfl,hr];dsimp only;rw[show ((m:Int)+1).toNat=m+1 from by omega,ζd C];rfl
   rw[hb];refine⟨λD=>(bk _).2 ((bk _).2 ((bk _).2 ⟨λh=>(by cases h),λh=>absurd ⟨_,(B _ hv).1 D⟩ h⟩)),λD=>(bk _).2 ⟨⟨m+1,by simp,by omega,λk ad=>?_⟩,by simp;omega⟩⟩
   by_cases e:k=m
   .subst e;exact λO=>by rw[(B _ hv).2 O]at D;cases D
   exact hk k Za
  intro h;have T:P.events.l.length<=m:=by simpa [len]using h
  refine(bk _).2 ((bk _).2 ⟨⟨n+1,cW n Za,by omega,λp k e U u=>?_⟩,by rw[cW n Za];simp;omega⟩)
  by_cases e:p=n
  .subst e;obtain⟨Q,X,he⟩:=u;rw[z]at X;cases X;have:=(ζe.1 he).1;exact hk k Za
  exact W p k _ Za u
 intro h;have T:t.procs.l.length<=n:=by simpa [len]using h
 refine(bk _).2 ((bk _).2 ⟨λ_ ⟨x,Y⟩=>?_,λ_=>rfl⟩)
 obtain⟨p,k,e,u,rfl,_⟩:=Y.l.at_;obtain⟨P,J,_⟩:=id u;exact W p k e (by have:=(ζe.1 J).1;omega) u Y
theorem G7 {t:Trace} (B:∀x∈bT t,jO t.procs.l.length x.1.proc x.2):(∀(p k:Nat) e,jS t p k e->tZ t (⟨p,k+1⟩,e)=0)↔wz t:=
 Iff.trans ⟨λh x w=>by obtain⟨p,k,h1,u⟩:=dY.1 w;obtain⟨a,e⟩:=x;simp only at h1 u;rw[u];exact h p k e h1,λh p k e z=>h _ (dY.2 ⟨p,k,z,rfl⟩)⟩ (JF B)
theorem K9 {t:Trace} (O:Small t) (hN:(bT t).length<1073741824):Wp (cR t) λr=>(r.2=0↔Ok t):=by
 have hn:=O.1;unfold cR;rw[jg,ζb,ck];refine⟨λT=>(bk _).2 ⟨λh=>(by cases h),λh=>?_⟩,λT=>?_⟩
 .have h1:=h.one;have h8:=h.few;simp only[Bool.or_eq_true,decide_eq_true_eq,len]at T;omega
 have h8:1<=t.procs.l.length/\t.procs.l.length<=8:=by
  simp only[Bool.or_eq_false_iff,decide_eq_false_iff_not,len]at T;omega
 unfold cR.W1;refine d_ (λi:Int=>∃n:Nat,i=n/\n<=t.procs.l.length/\∀p,p<n->qH t p=0) (λi:Int=>t.procs.l.length-i.toNat) ⟨0,rfl,Nat.zero_le _,λp I=>absurd I Za⟩ ?_
 rintro i ⟨n,rfl,af,hh⟩;unfold cR.bA;rw[ck];constructor
 .intro h;have w:n<t.procs.l.length:=by simpa [len]using h
  rw[NK O w,ζb,ck];refine⟨λC=>(bk _).2 ⟨⟨n+1,cW n Za,by omega,λp I=>?_⟩,by rw[cW n Za];simp;omega⟩,λC=>(bk _).2 ((bk _).2 ⟨λh=>?_,λh=>?_⟩)⟩
  .by_cases e:p=n
   .subst e;simpa using C
   exact hh p Za
  .simp only at h;simp[h]at C
  simp[h.heads n w]at C
 intro h;have ah:t.procs.l.length<=n:=by simpa [len]using h
 rw[bk];unfold cR.W2;refine d_ (λi:Int=>∃n:Nat,i=n/\n<=t.procs.l.length/\∀(p k:Nat) P e,p<n->t.procs.l[p]? = some P->P.events.l[k]? = some e->n9 t.procs.l.length P p k e=0) (λi:Int=>t.procs.l.length-i.toNat) ⟨0,rfl,Nat.zero_le _,λp k P e I=>absurd I Za⟩ ?_
 rintro i ⟨J,rfl,ae,Y⟩;unfold cR.b7;rw[ck];constructor
 .intro h;have w:J<t.procs.l.length:=by simpa [len]using h
  have G:=bO w;have B:=ζd w;have U:=(O.2 _ (List.getElem_mem w)).1;generalize t.procs.l[J]=P at G B U;unfold cR.W3;refine d_ (λi:Int=>∃m:Nat,i=m/\m<=P.events.l.length/\∀(k:Nat) e,k<m->P.events.l[k]? = some e->n9 t.procs.l.length P J k e=0) (λi:Int=>P.events.l.length-i.toNat) ⟨0,rfl,Nat.zero_le _,λk e hk=>absurd hk Za⟩ ?_
  rintro i ⟨m,rfl,hm,hk⟩;unfold cR.eG;rw[G,ζb,ck];constructor
  .intro h;have W:m<P.events.l.length:=by simpa [len]using h
   have D:=ζd W;have hw:=cW m Za
   rw[Od O B D,ζb,ck];refine⟨λC=>(bk _).2 ⟨⟨m+1,hw,by omega,λk e ad u=>?_⟩,by rw[hw];simp;omega⟩,λC=>(bk _).2 ((bk _).2 ((bk _).2 ⟨λh=>?_,λh=>?_⟩))⟩
   .by_cases ek:k=m
    .subst ek;rw[D]at u;cases u;simpa using C
    exact hk k e Za u
   .simp only at h;simp[h]at C
   simp[h.eZ J m P _ B D]at C
  intro h;have L:P.events.l.length<=m:=by simpa [len]using h
  refine(bk _).2 ((bk _).2 ⟨⟨J+1,cW J Za,by omega,λp k Q e I X u=>?_⟩,by rw[cW J Za];simp;omega⟩)
  by_cases ep:p=J
  .subst ep;rw[B]at X;cases X;exact hk k e (by have:=(ζe.1 u).1;omega) u
  exact Y p k Q e Za X u
 intro h;have L:t.procs.l.length<=J:=by simpa [len]using h
 have Y:∀(p k:Nat) P e,t.procs.l[p]? = some P->P.events.l[k]? = some e->n9 t.procs.l.length P p k e=0:=λp k P e S hk=>Y p k P e (by have:=(ζe.1 S).1;omega) S hk
 have Z:=DO Y;rw[bk];unfold cR.W4;refine d_ (λi:Int=>∃n:Nat,i=n/\n<=t.procs.l.length/\∀(p k:Nat) e,p<n->jS t p k e->tZ t (⟨p,k+1⟩,e)=0) (λi:Int=>t.procs.l.length-i.toNat) ⟨0,rfl,Nat.zero_le _,λp k e I=>absurd I Za⟩ ?_
 rintro i ⟨q,rfl,hq,aa⟩;unfold cR.uy;rw[ck];constructor
 .intro h;have w:q<t.procs.l.length:=by simpa [len]using h
  have G:=bO w;have B:=ζd w;have U:=(O.2 _ (List.getElem_mem w)).1;generalize t.procs.l[q]=P at G B U;unfold cR.W5;refine d_ (λi:Int=>∃m:Nat,i=m/\m<=P.events.l.length/\∀(k:Nat) e,k<m->P.events.l[k]? = some e->tZ t (⟨q,k+1⟩,e)=0) (λi:Int=>P.events.l.length-i.toNat) ⟨0,rfl,Nat.zero_le _,λk e hk=>absurd hk Za⟩ ?_
  rintro i ⟨m,rfl,hm,hk⟩;unfold cR.wj;rw[G,ζb,ck];constructor
  .intro h;have W:m<P.events.l.length:=by simpa [len]using h
   have D:=ζd W;have hw:=cW m Za
   have z:jS t q m P.events.l[m]:=⟨P,B,D⟩;rw[hw,show (((m+1:Nat)):Int)=(m:Int)+1 from by simp,LK O z (Z (⟨q,m+1⟩,P.events.l[m]) (dY.2 ⟨q,m,z,rfl⟩)),ζb,ck]
   refine⟨λC=>(bk _).2 ⟨⟨m+1,by simp,by omega,λk e ad u=>?_⟩,by simp;omega⟩,λC=>(bk _).2 ((bk _).2 ((bk _).2 ⟨λh=>?_,λh=>?_⟩))⟩
   .by_cases ek:k=m
    .subst ek;rw[D]at u;cases u;simpa using C
    exact hk k e Za u
   .simp only at h;simp[h]at C
   simp[(G7 Z).2 h.Md q m _ z]at C
  intro h;have L:P.events.l.length<=m:=by simpa [len]using h
  refine(bk _).2 ((bk _).2 ⟨⟨q+1,cW q Za,by omega,λp k e I z=>?_⟩,by rw[cW q Za];simp;omega⟩)
  by_cases ep:p=q
  .subst ep;obtain⟨Q,X,u⟩:=z;rw[B]at X;cases X;exact hk k e (by have:=(ζe.1 u).1;omega) u
  exact aa p k e Za z
 intro h;have ai:t.procs.l.length<=q:=by simpa [len]using h
 have S:wz t:=(G7 Z).1 λp k e z=>aa p k e (by obtain⟨P,S,_⟩:=z;have:=(ζe.1 S).1;omega) z
 have ab:¬Iq t↔Ok t:=⟨λh=>⟨h8.1,h8.2,λp I=>hh p Za,Y,S,h⟩,λh=>h.acyc⟩
 rw[bk,gA];refine(Jp O Z S).mono λb hb=>?_
 rw[ck];exact⟨λh=>(bk _).2 ⟨λ_=>ab.1 (hb h),λ_=>rfl⟩,λ_=>(Ua O hN Z S).mono λr hr=>hr.trans ab⟩
theorem Mh {t:Trace} (u:Small t) (B:(bT t).length<1073741824):∃b,dG t=some b/\mO t=some b/\(b=true->VT t):=by
 obtain⟨b,w,h1,z⟩:=Of u B;refine⟨b,w,?_,h1⟩;unfold mO;obtain⟨r,hr,C⟩:=K9 u B;rw[hr,ζb]
 congr 1
 rw[Bool.eq_iff_iff,beq_iff_eq,C];exact⟨z,λh=>(h1 h).ok⟩
theorem Mr {t:Trace} (U:Small t) {c:Sl Int} (D:c.l.length=t.procs.l.length) {step:Int->bf (Fw Int Unit Unit)}
 (W:∀i,step i=bt (decide (i<(len c))) ((idx c i).bind λG=>(bt (decide (G<0)) (some true) ((idx c i).bind λJ=>(idx t.procs i).bind λO=>some (decide (J>(len O.events)))):bf Bool).bind λT=>bt T (some (.r ())) (some (.n (IntKind.wrap .i64 (i+1))))) (some (.x ()))) :
 Wp ((bM step 0).bind (Fw.elim (λ_=>some true) (λ_=>some false))) λb=>(b=true↔jI t c.l):=by
 have h1:=U.1;refine d_ (λs:Int=>∃n:Nat,s=n/\n<=c.l.length/\∀(p:Nat) (a:Int) (P:cr),p<n->c.l[p]? = some a->t.procs.l[p]? = some P->0<=a/\a<=P.events.l.length) (λs:Int=>c.l.length-s.toNat) ⟨0,rfl,Nat.zero_le _,λp a P h=>absurd h Za⟩ ?_
 rintro s ⟨n,rfl,X,I⟩;rw[W,ck];constructor
 .intro h;have w:n<c.l.length:=by simpa [len]using h
  have u:n<t.procs.l.length:=by omega
  have L:=cW n Za
  rw[bO w,ζb,ζb,bO u,ζb,jg,ζb,ck];constructor
  .intro z;have z:c.l[n]<0\/c.l[n]>t.procs.l[n].events.l.length:=by simpa [len]using z
   refine(bk _).2 ((bk _).2 ⟨λh=>(by cases h),λQ=>?_⟩)
   have:=Q.2 n _ _ (ζd w) (ζd u);omega
  intro z;have z:0<=c.l[n]/\c.l[n]<=t.procs.l[n].events.l.length:=by simpa [len]using z
  refine(bk _).2 ⟨⟨n+1,L,by omega,λp a P Y B C=>?_⟩,by rw[L];simp;omega⟩
  by_cases e:p=n
  .subst e;rw[ζd w]at B;cases B;rw[ζd u]at C;cases C;exact z
  exact I p a P Za B C
 intro h;have S:c.l.length<=n:=by simpa [len]using h
 refine(bk _).2 ((bk _).2 ⟨λ_=>⟨D,λp a P B C=>I p a P (by have:=(ζe.1 B).1;omega) B C⟩,λ_=>rfl⟩)
theorem yF {t:Trace} (B:VT t) {A:bU 200 br} (D:gE t (bT t) A) {p k:Nat} {e:Event} (u:jS t p k e) (hk:e.kind=3):kZ t 2 e.message=(ag A e.message).from_:=by
 obtain⟨y,h1,w,z⟩:=zg B.formed B.ok.Md (dY.2 ⟨p,k,u,rfl⟩:((⟨p,k+1⟩:bg),e)∈bT t) hk;have:=D.snd _ h1 w;simp only[z]at this;exact this.symm
end Go.VE
namespace Go.VE
theorem JY {t:Trace} (hS:Small t) (hV:VT t) {A:bU 200 br} (hM:gE t (bT t) A) {c:Sl Int} (hR:jI t c.l):Wp (eC t c) λb=>(b=true↔kJ t A c.l):=by
 have ai:=hV.few;have aj:=hR.1;unfold eC eC.W1;refine d_ (λs:Int=>∃n:Nat,s=n/\n<=c.l.length/\∀(p k:Nat) (e:Event) (a:Int),p<n->jS t p k e->c.l[p]? = some a->(k:Int)<a->e.kind=3->∃b,c.l[(ag A e.message).from_.proc.toNat]? = some b/\(ag A e.message).from_.index<=b) (λs:Int=>c.l.length-s.toNat) ⟨0,rfl,Nat.zero_le _,λp k e a h=>absurd h Za⟩ ?_
 rintro s ⟨n,rfl,hn,hI⟩;unfold eC.bA;rw[ck];constructor
 .intro h;have U:n<c.l.length:=by simpa [len]using h
  have I:n<t.procs.l.length:=by omega
  have ak:=(hS.2 _ (List.getElem_mem I)).1;have B:=ζd I;have J:=ζd U;obtain⟨r1,r2⟩:=hR.2 n _ _ J B;have ad:=bO U;generalize c.l[n]=a at *;generalize al:t.procs.l[n]=P at *;unfold eC.W2;refine d_ (λs:Int=>∃m:Nat,s=m/\(m:Int)<=a/\∀(k:Nat) (e:Event),k<m->jS t n k e->e.kind=3->∃b,c.l[(ag A e.message).from_.proc.toNat]? = some b/\(ag A e.message).from_.index<=b) (λs:Int=>a.toNat-s.toNat) ⟨0,rfl,by simpa using r1,λk e h=>absurd h Za⟩ ?_
  rintro s ⟨m,rfl,hm,hJ⟩;unfold eC.b7;rw[ad,ζb,ck];constructor
  .intro h;have ae:(m:Int)<a:=by simpa using h
   have L:m<P.events.l.length:=by omega
   have O:=cW m Za
   have W:a.toNat-(IntKind.wrap .i64 ((m:Int)+1)).toNat<a.toNat-((m:Int)).toNat:=by rw[O];simp;omega
   have u:jS t n m P.events.l[m]:=⟨P,B,ζd L⟩;have X:idx t.procs (n:Int)=some P:=by rw[nj];exact B
   have same:∀k e,jS t n k e->k=m->e=P.events.l[m]:=λk e ⟨Q,hQ,he⟩ hk=>by
    subst hk;rw[B]at hQ;cases hQ;rw[ζd L]at he;cases he;rfl
   unfold nK;rw[X,ζb,bO L,ζb,gA,ck];constructor
   .intro hk;have hk:P.events.l[m].kind=3:=by simpa using hk
    obtain⟨q,j,z,hz,z1,z2,z3,z4,z5⟩:=su hV hM u hk;obtain⟨Q,hQ,_⟩:=hz;have S:q<c.l.length:=by have:=(ζe.1 hQ).1;omega
    rw[find_eq hS,yF hV hM u hk,ζb,z5];simp only;rw[bO S,ζb,bk,ck];constructor
    .intro Y;have Y:(j:Int)+1<=c.l[q]:=by simpa using Y
     refine(bk _).2 ⟨⟨m+1,O,by omega,λk Z af w C=>?_⟩,W⟩
     by_cases ek:k=m
     .cases same k Z w ek;rw[z5];exact⟨c.l[q],by simp only[Int.toNat_natCast];exact ζd S,by simp only;omega⟩
     exact hJ k Z Za w C
    intro aa;have aa:¬((j:Int)+1<=c.l[q]):=by simpa using aa
    refine(bk _).2 ((bk _).2 ((bk _).2 ⟨λh=>(by cases h),λhC=>?_⟩))
    obtain⟨b,D,ab⟩:=hC n m _ a u J ae hk;rw[z5]at D ab;simp only[Int.toNat_natCast]at D ab;rw[ζd S]at D;cases D;omega
   intro hk;rw[bk,bY];refine(bk _).2 ⟨⟨m+1,O,by omega,λk Z af w C=>?_⟩,W⟩
   by_cases ek:k=m
   .cases same k Z w ek;simp[C]at hk
   exact hJ k Z Za w C
  intro h;have ah:¬(m:Int)<a:=by simpa using h
  refine(bk _).2 ((bk _).2 ⟨⟨n+1,cW n Za,by omega,λp k e a' hp u T hk G=>?_⟩,by rw[cW n Za];simp;omega⟩)
  by_cases ep:p=n
  .subst ep;rw[J]at T;cases T;exact hJ k e Za u G
  exact hI p k e a' Za u T hk G
 intro h;have ah:c.l.length<=n:=by simpa [len]using h
 refine(bk _).2 ((bk _).2 ⟨λ_ p k e a u ha hk G=>hI p k e a (by have:=(ζe.1 ha).1;omega) u ha hk G,λ_=>rfl⟩)
theorem Code.one {t:Trace} {A:bU 200 br} {c:a_ Int} {r s:Int} (h:Code t A c r) (g:Code t A c s):r=s:=by
 rcases h with⟨h,rfl⟩|⟨h1,u,rfl⟩|⟨h1,u,rfl⟩|⟨h1,u,rfl⟩ <;> rcases g with⟨g,rfl⟩|⟨g1,g2,rfl⟩|⟨g1,g2,rfl⟩|⟨g1,g2,rfl⟩ <;> first|rfl|contradiction|exact absurd ‹jI t c›.1 ‹_›
theorem jK {σ ε ρ γ:Type} {step:σ->bf (Fw σ ε ρ)} {u:ε->bf γ} {fr:ρ->bf γ} {P:γ->Prop} (n:Nat) (I:Nat->σ->Prop) {s:σ} (D:I 0 s)
 (h:∀i s,i<n->I i s->Wp (step s) λw=>match w with|.n B=>I (i+1) B|.x e=>Wp (u e) P|.r b=>Wp (fr b) P)
 (G:∀s,I n s->Wp (step s) λw=>match w with|.n _=>False|.x e=>Wp (u e) P|.r b=>Wp (fr b) P):Wp ((bM step s).bind (Fw.elim u fr)) P:=by
 have key:∀m i s,i+m=n->I i s->Wp ((bM step s).bind (Fw.elim u fr)) P:=by
  intro m
  induction m with
  | zero=>
   intro i s C z;obtain⟨w,t,hr⟩:=G s Zd
   rw[gm,t]
   cases w with
   | n B=>grind
   | x e=>exact hr
   | r b=>exact hr
  | succ m J=>
   intro i s C z;obtain⟨w,t,hr⟩:=h i s Za z
   rw[gm,t]
   cases w with
   | n B=>grind
   | x e=>exact hr
   | r b=>exact hr
 exact key n 0 s (Nat.zero_add n) D
theorem qc:∀{c:a_ Int} {p:Nat} {a b:Int},c[p]? = some a->(c.set p b).sum=c.sum-a+b
 | [],_,_,_,h=>by simp_all
 | x::c,0,a,b,h=>by grind
 | x::c,p+1,a,b,h=>by
  have:=qc   (b:=b) (by simpa using h)
  grind
theorem wO:∀{c:a_ Int},(∀(p:Nat) a,c[p]? = some a->0<=a)->0<=c.sum
 | [],_=>by simp
 | x::c,h=>by
  have h1:=h 0 x rfl;have t:=wO (c:=c) λp a u=>h (p+1) a Zd
  grind
theorem H7:∀{c:a_ Int} {l:a_ Nat},c.length=l.length->(∀(i:Nat) a b,c[i]? = some a->l[i]? = some b->a<=(b:Nat))->c.sum<=(l.sum:Nat)
 | [],[],_,_=>by simp
 | x::c,y::l,u,h=>by
  have h1:=h 0 x y rfl rfl;have t:=H7 (c:=c) (l:=l) Zd λi a b w z=>h (i+1) a b Zd Zd
  grind
section
variable {t:Trace} {A:bU 200 br} {c:a_ Int}
theorem jI.pos (h:jI t c) (p:Nat) (a:Int) (u:c[p]? = some a):0<=a:=
 (h.2 p a _ u (ζd (by have:=(ζe.1 u).1;rw[<-h.1];simp_all))).1
theorem jI.at_ (h:jI t c) {p:Nat} (hp:p<t.procs.l.length):∃a,c[p]? = some a:=⟨_,ζd (by rw[h.1];omega)⟩
theorem jI.sum (h:jI t c):0<=c.sum/\c.sum<=(nV t:Nat):=
 ⟨wO h.pos,H7 (by simp[h.1]) λi a b z u=>by
  cases w:t.procs.l[i]? with
  | none=>grind
  | some P=>simp[w]at u;rw[<-u];exact(h.2 i a P z w).2⟩
theorem jI.set (h:jI t c) {p:Nat} {b:Int} {P:cr} (B:t.procs.l[p]? = some P) (D:0<=b) (h1:b<=P.events.l.length):jI t (c.set p b):=by
 refine⟨by simp[h.1],λq a Q u w=>?_⟩
 rw[List.getElem?_set]at u;split at u
 .grind
 exact h.2 q a Q u w
def UU (t:Trace) (A:bU 200 br) (c:a_ Int) (p:Nat):Prop:=∃P e a,t.procs.l[p]? = some P/\c[p]? = some a/\P.events.l[a.toNat]? = some e/\(e.kind=3->∃b,c[(ag A e.message).from_.proc.toNat]? = some b/\(ag A e.message).from_.index<=b)
theorem jS.one {p k:Nat} {e f:Event} (h:jS t p k e) (g:jS t p k f):e=f:=by
 obtain⟨P,u,w⟩:=h;obtain⟨Q,z,B⟩:=g
 grind
theorem kJ.le (h:kJ t A c) {p:Nat} {a b:Int} (G:c[p]? = some a) (J:a<=b) (O:∀(k:Nat) e,jS t p k e->a<=k->(k:Int)<b->e.kind=3->∃B,(c.set p b)[(ag A e.message).from_.proc.toNat]? = some B/\(ag A e.message).from_.index<=B):kJ t A (c.set p b):=by
 have L:=(ζe.1 G).1;have up:∀(q:Nat) x,c[q]? = some x->∃y,(c.set p b)[q]? = some y/\x<=y:=λq x u=>by
  rw[List.getElem?_set]
  grind
 intro q k e x w u hk I;rw[List.getElem?_set]at u;have C:∀x,c[q]? = some x->k<x->∃B,(c.set p b)[(ag A e.message).from_.proc.toNat]? = some B/\(ag A e.message).from_.index<=B:=λx u hk=>by
  obtain⟨y,Q,S⟩:=h q k e x w u hk I;obtain⟨z,T,U⟩:=up _ y Q;exact⟨z,T,by omega⟩
 split at u
 .rename_i W;subst W;simp[L]at u;subst u
  by_cases D:k<a
  .exact C a G D
  exact O k e w Za hk I
 grind
theorem Gc (B:VT t) (G:gE t (bT t) A) {p k:Nat} {e:Event} (u:jS t p k e) (D:e.kind=3):∃q j:Nat,(ag A e.message).from_=⟨q,j+1⟩/\q≠p/\EX t ⟨q,j+1⟩ ⟨p,k+1⟩/\∃y,jS t q j y:=by
 obtain⟨q,j,y,w,C,I,y3,y4,y5⟩:=su B G u D;have z:(⟨p,k+1⟩,e)∈bT t:=dY.2 ⟨p,k,u,rfl⟩;refine⟨q,j,y5,?_,⟨y,e,dY.2 ⟨q,j,w,rfl⟩,z,C,D,I⟩,y,w⟩;rcases B.formed _ z with h|⟨_,_,_,h,_⟩
 .grind
 grind
theorem Cons.up (O:VT t) (T:gE t (bT t) A) (G:Cons t A c) {p:Nat} {a:Int} {P:cr} (B:t.procs.l[p]? = some P) (D:c[p]? = some a) (Y:a<P.events.l.length):UU t A c p↔Cons t A (c.set p (a+1)):=by
 have Z:=G.1.pos p a D;have hp:=(ζe.1 D).1;constructor
 .rintro⟨Q,e,x,I,J,S,w⟩;rw[B]at I;cases I;rw[D]at J;cases J;refine⟨G.1.set B Za Za,G.2.le D Za λk f z U W hf=>?_⟩
  have C:k=a.toNat:=by omega
  subst C;cases z.one ⟨P,B,S⟩
  grind
 intro h;have u:a.toNat<P.events.l.length:=by omega
 refine⟨P,P.events.l[a.toNat],a,B,D,ζd u,λw=>?_⟩
 obtain⟨b,L,X⟩:=h.2 p a.toNat _ (a+1) ⟨P,B,ζd u⟩ (by simp_all) Za w
 rw[List.getElem?_set]at L;split at L
 .obtain⟨q,j,f1,f2,_⟩:=Gc O T ⟨P,B,ζd u⟩ w
  grind
 grind
noncomputable def FO (t:Trace) (x:bg):Nat:=by
 classical
 exact(bT t).countP λz=>decide (Way t z.1 x)
theorem It (B:VT t) {x y:bg} (h:Way t x y):FO t x<FO t y:=by
 classical
 refine yh (λz _ u=>?_) ?_
 .have u:Way t z.1 x:=by grind
  simpa using u.trans h
 obtain⟨e,w⟩:=h.l;exact⟨(x,e),w,by simpa using λk=>B.ok.acyc ⟨x,k⟩,by grind⟩
theorem PS (x:bg):FO t x<=(bT t).length:=by
 classical
 unfold FO;grind
theorem Vd.of {p k:Nat} {e:Event} (h:jS t p k e):Vd t ⟨p,k+1⟩:=⟨e,dY.2 ⟨p,k,h,rfl⟩⟩
theorem FZ {p:Nat} {P:cr} (u:t.procs.l[p]? = some P):∀(d k:Nat),k+d+1<P.events.l.length->Way t ⟨p,k+1⟩ ⟨p,((k+d+1:Nat):Int)+1⟩
 | 0,k,h=>.single ⟨Vd.of ⟨P,u,ζd Za⟩,Vd.of ⟨P,u,ζd h⟩,.inl Zc⟩
 | d+1,k,h=>(FZ u d k Za).tail ⟨Vd.of ⟨P,u,ζd (show k+d+1<_ by omega)⟩,Vd.of ⟨P,u,ζd h⟩,.inl (by simp;omega)⟩
theorem RB {q k:Nat} {b:Int} {Q:cr} {x:bg} (u:t.procs.l[q]? = some Q) (h:Way t x ⟨q,k+1⟩) (h1:(k:Int)<b) (B:b<=Q.events.l.length):Way t x ⟨q,b⟩:=by
 by_cases e:b=k+1
 .grind
 have:=FZ u (b.toNat-k-2) k Za
 rw[show ((k+(b.toNat-k-2)+1:Nat)+1)=b from by omega]at this
 exact h.trans this
theorem Cons.Ii (hV:VT t) (hM:gE t (bT t) A) (B:Cons t A c) {p:Nat} {a:Int} (G:c[p]? = some a) (h0:0<a):Cons t A (c.set p (a-1))\/∃(q:Nat) (b:Int),c[q]? = some b/\0<b/\Way t ⟨p,a⟩ ⟨q,b⟩:=by
 have Z:=(ζe.1 G).1;have O:=ζd (show p<t.procs.l.length by rw[<-B.1.1];omega)
 have hr:=B.1.2 p a _ G O;refine Classical.byContradiction λC=>C (.inl ⟨B.1.set O Za Za,λq k e x u J hk S=>?_⟩)
 obtain⟨z,w,aa⟩:∃z,c[q]? = some z/\x<=z:=by
  rw[List.getElem?_set]at J;split at J
  next e2=>subst e2;simp[Z]at J;exact⟨a,G,by omega⟩
  grind
 obtain⟨y,I,D⟩:=B.2 q k e z u w Za S
 obtain⟨r,j,f1,f2,f3,_⟩:=Gc hV hM u S;rw[f1]at I D ⊢;simp only[Int.toNat_natCast]at I D ⊢
 by_cases e2:p=r
 .subst e2;rw[G]at I;cases I;refine⟨a-1,by simp_all,?_⟩
  refine Classical.byContradiction λhj=>C (.inr ⟨q,z,w,by omega,?_⟩)
  have:a=j+1:=by omega
  subst this;obtain⟨Q,T,_⟩:=u;have L:=B.1.2 q z Q w T;obtain⟨U,W,X,Y,m3⟩:=f3;exact RB T (.single ⟨⟨U,X⟩,⟨W,Y⟩,.inr ⟨U,W,X,Y,m3⟩⟩) Za L.2
 simp_all
theorem Cons.Ud (u:VT t) (D:gE t (bT t) A) (G:Cons t A c):∀(n p:Nat) (a:Int),c[p]? = some a->0<a->(bT t).length-FO t ⟨p,a⟩<=n->∃(q:Nat) (b:Int),c[q]? = some b/\0<b/\Cons t A (c.set q (b-1)):=by
 intro n
 induction n with
 | zero=>
  intro p a w z I;rcases G.Ii u D w z with h|⟨q,b,_,_,B⟩
  .grind
  have:=It u B;have:=PS (t:=t) ⟨q,b⟩;omega
 | succ n J=>
  intro p a w z I;rcases G.Ii u D w z with h|⟨q,b,L,C,B⟩
  .grind
  have:=It u B;exact J q b L C Za
theorem Cons.down (B:VT t) (D:gE t (bT t) A) (u:Cons t A c) (G:0<c.sum):∃(q:Nat) (b:Int),c[q]? = some b/\0<b/\Cons t A (c.set q (b-1)):=by
 obtain⟨p,a,w,C⟩:∃(p:Nat) (a:Int),c[p]? = some a/\0<a:=by
  refine Classical.byContradiction λz=>?_
  have J:∀a∈c,a=0:=λa w=>by
   obtain⟨p,I⟩:=List.mem_iff_getElem?.1 w;have:=u.1.pos p a I
   grind
  have:c.sum=0:=by
   clear u G z
   induction c with
   | nil=>rfl
   | cons x c L=>simp_all
  omega
 exact u.Ud B D _ p a w C (Nat.le_refl _)
theorem Cons.DJ (D:VT t) (G:gE t (bT t) A):∀(d:Nat) {c:a_ Int} {k:Nat},Cons t A c->c.sum=((k+d:Nat):Int)->∃c',Cons t A c'/\c'.sum=(k:Int)
 | 0,c,k,u,J=>⟨c,u,by grind⟩
 | d+1,c,k,u,J=>by
  obtain⟨q,b,O,T,B⟩:=u.down D G Za
  exact Cons.DJ D G d B (by rw[qc O];omega)
end
theorem nT {α:Type} {s:Sl α} {n:Nat} (h:n<s.l.length):decide ((n:Int)<len s)=true:=by simp[len];omega
theorem nW {α:Type} {s:Sl α}:decide ((s.l.length:Int)<len s)=false:=by simp[len]
theorem zy {α:Type} {s x:Sl α} (h:s.l.length+x.l.length<=2147483648):∃r,lY s x=some r/\r.l=s.l++x.l:=by
 unfold lY
 by_cases e:x.l=[]
 .rw[if_pos e];exact⟨s,rfl,by rw[e,List.append_nil]⟩
 rw[if_neg e,if_pos h];exact⟨_,rfl,rfl⟩
theorem oP {α:Type} {s:Sl α} {x:α} (h:s.l.length<2147483648):∃r,eA s x=some r/\r.l=s.l++[x]:=by
 unfold eA;rw[if_pos Za];exact⟨_,rfl,rfl⟩
theorem tD {α:Type} {s:Sl α} {p:Nat} (h:p<s.l.length):Sl.jH s (p:Int)=some p:=by
 unfold Sl.jH;rw[if_pos ⟨by omega,by simpa using h⟩];rfl
theorem put_eq {α:Type} {s:Sl α} {p:Nat} {x:α} (h:p<s.l.length):∃r,Sl.put s p x=some r/\r.l=s.l.set p x:=by
 unfold Sl.put;rw[if_pos h];exact⟨_,rfl,by cases s <;> first|rfl|(simp[Sl.l]at h)⟩
section
variable {t:Trace} {A:bU 200 br}
end
def ins (s:Sl (Sl Int)):a_ (a_ Int):=s.l.map Sl.l
def Da (t:Trace) (A:bU 200 br) (c d:a_ Int):Prop:=∃(p:Nat) (a:Int),c[p]? = some a/\d=c.set p (a+1)/\Cons t A d
section
variable {t:Trace} {A:bU 200 br}
theorem lg {s:Sl (Sl Int)} {d:a_ Int}:d∈ins s↔∃x∈s.l,x.l=d:=by unfold ins;exact List.mem_map
def Pc (t:Trace) (A:bU 200 br) (k:Nat) (s:Sl (Sl Int)):Prop:=∀d,d∈ins s↔Cons t A d/\d.sum=(k:Int)
theorem Da.iff (D:VT t) (G:gE t (bT t) A) {k:Nat} {d:a_ Int}:(∃c,(Cons t A c/\c.sum=(k:Int))/\Da t A c d)↔Cons t A d/\d.sum=((k+1:Nat):Int):=by
 constructor
 .rintro⟨c,⟨z,C⟩,p,a,I,rfl,u⟩;exact⟨u,by rw[qc I];omega⟩
 rintro⟨u,C⟩;obtain⟨q,b,w,J,z⟩:=u.down D G Za
 have B:=(ζe.1 w).1;refine⟨_,⟨z,by rw[qc w];omega⟩,q,b-1,by simp[B],?_,u⟩
 rw[List.set_set,show b-1+1=b from by omega]
 refine List.ext_getElem? λi=>?_
 rw[List.getElem?_set];split
 next e=>subst e;simp[B,w];exact(ζe.1 w).2.symm▸rfl
 rfl
theorem BX:Cons t A (List.replicate t.procs.l.length 0):=by
 have w:∀(p:Nat) a,(List.replicate t.procs.l.length (0:Int))[p]? = some a->a=0:=λp a h=>by
  rw[List.getElem?_replicate]at h;split at h <;> cases h;rfl
 exact⟨⟨by simp,λp a P u _=>by rw[w p a u];omega⟩,λp k e a _ u hk=>by rw[w p a u]at hk;omega⟩
theorem Pc.none (B:VT t) (D:gE t (bT t) A) {k:Nat} {s:Sl (Sl Int)} (h:Pc t A k s) (J:s.l.length=0) {d:a_ Int} (u:Cons t A d):d.sum<(k:Int):=by
 refine Classical.byContradiction λw=>?_
 have I:=wO u.1.pos;obtain⟨c,z,C⟩:=Cons.DJ B D (d.sum.toNat-k) (k:=k) u Za
 have:=(h c).2 ⟨z,C⟩;obtain⟨x,G,_⟩:=lg.1 this;have:=List.length_pos_of_mem G;omega
theorem Pc.last {s:Sl (Sl Int)} (h:Pc t A (nV t+1) s):s.l.length=0:=by
 refine Classical.byContradiction λu=>?_
 have w:=List.getElem_mem (show 0<s.l.length by omega)
 have:=(h s.l[0].l).1 (lg.2 ⟨_,w,rfl⟩);have:=this.1.1.sum;omega
end
def nh:a_ Int->a_ Int->Int
 | [],[]=>0
 | [],_::_=>-1
 | _::_,[]=>1
 | x::a,y::b=>if x<y then -1 else if x>y then 1 else nh a b
theorem D_:∀a,nh a a=0
 | []=>rfl
 | x::a=>by simp[nh,D_ a]
theorem HS:∀a b c,nh a b<0->nh b c<0->nh a c<0
 | [],[],_,h,_=>by simp[nh]at h
 | [],_::_,[],_,h=>by simp[nh]at h
 | [],_::_,_::_,_,_=>by simp[nh]
 | _::_,[],_,h,_=>by simp[nh]at h
 | _::_,_::_,[],_,h=>by simp[nh]at h
 | x::a,y::b,z::c,h1,u=>by
  have B:=HS a b c;simp only[nh]at h1 u ⊢;split at h1
  .split at u
   .rw[if_pos Za];omega
   split at u
   .omega
   rw[if_pos Za];omega
  split at h1
  .omega
  split at u
  .rw[if_pos Za];omega
  split at u
  .omega
  rw[if_neg Za,if_neg Za];exact B h1 u
theorem HR:∀a b,¬nh a b<0->¬nh b a<0->a=b
 | [],[],_,_=>rfl
 | [],_::_,h,_=>by simp[nh]at h
 | _::_,[],_,h=>by simp[nh]at h
 | x::a,y::b,h1,u=>by
  have B:=HR a b;simp only[nh]at h1 u;split at h1
  .omega
  split at u
  .omega
  rw[B (by first|assumption|(split at h1 <;> first|assumption|omega)) (by first|assumption|(split at u <;> first|assumption|omega)),show x=y from by omega]
end Go.VE
namespace Go.VE
end Go.VE
namespace Go.VE
section
variable {t:Trace} {A:bU 200 br}
end
end Go.VE
namespace Go.VE
theorem N6 {c:Sl Int} (B:c.l.length<=1073741824) (u:0<c.l.length):∃d,(gD c).bind Sl.whole=some d/\d.l=c.l:=by
 unfold gD;have key:((lY (Sl.row []:Sl Int) c).bind λx=>some x).bind Sl.whole=some (.row ([]++c.l)):=by
  unfold lY;rw[if_neg (λh=>by rw[h]at u;simp at u),if_pos (show (Sl.row ([]:a_ Int)).l.length+c.l.length<=2147483648 from show 0+c.l.length<=_ by omega)];rfl
 cases c with
 | nil=>simp[Sl.l]at u
 | emp=>simp[Sl.l]at u
 | part l=>exact⟨_,key,rfl⟩
 | row l=>exact⟨_,key,rfl⟩
section
variable {t:Trace} {A:bU 200 br}
end
def tT (c d:a_ Int):Prop:=∀(p:Nat) (a b:Int),c[p]? = some a->d[p]? = some b->a<=b
theorem Ms {α:Type} {m:bf (Sl α)} {d:Sl α} (h:m.bind Sl.whole=some d):d.whole=some d:=by
 cases m with
 | none=>cases h
 | some s=>cases s <;> first|(cases h;rfl)|cases h
theorem Og {α:Type} {s:Sl α} (h:s.whole=some s) (l:a_ α):(s.re l).whole=some (s.re l):=by
 cases s <;> first|rfl|cases h
section
variable {t:Trace} {A:bU 200 br}
theorem Qw (hS:Small t) (hv:dG t=some true) (Y:VT t) (hM:gE t (bT t) A) {c:Sl Int} (hR:jI t c.l) :
 Wp (iB t c (λs (z:bg×bg)=>s.setAt z.1.proc z.1.index)) λr=>r.2=0/\Cons t A r.1.l/\tT c.l r.1.l/\(∀d,Cons t A d->tT c.l d->tT r.1.l d)/\r.1.whole=some r.1:=by
 have ab:=Y.few;have aa:=Y.ok.one;have D:=hR.1;unfold iB tC;rw[hv,ζb,bY,kS (f:=λz=>(jr z t).getD false) (λz _=>Dt.ok ((bk _).2 trivial)) (by simp[Sl.l]),ζb,ζb,ζb]
 have G:(!((Sl.row [c]:Sl (Sl Int)).l.any λz=>(jr z t).getD false))=true:=by
  simp[Sl.l,jr,len,D] <;> exact congrArg Int.ofNat D
 rw[G,bY,gA];refine(BJ hS D).mono λb S=>?_
 rw[S.2 hR,bY];obtain⟨d0,h1,Z⟩:=N6 (c:=c) Za Za
 rw[h1,ζb];unfold iB.W1;refine d_ (λs:Sl Int=>jI t s.l/\tT c.l s.l/\(∀d,Cons t A d->tT c.l d->tT s.l d)/\s.whole=some s) (λs:Sl Int=>((nV t:Int)-s.l.sum).toNat) ⟨by rw[Z];exact hR,λp a b ha S=>by rw[Z,ha]at S;cases S;exact Int.le_refl _,λd _ h=>by rw[Z];exact h,Ms h1⟩ ?_
 rintro s ⟨i1,i2,i3,i4⟩;unfold iB.bA;rw[gA];refine(H8 hS hv Y hM i1).mono λr hr=>?_
 rw[ck];constructor
 .intro ht;obtain⟨p,k,e,a,q,j,y,b,g1,g2,g3,g4,g5,g6,g7,T,g9,-⟩:=hr.2 ht;have B:=(ζe.1 T).1;have I:Sl.setAt s r.1.proc r.1.index=some (s.re (s.l.set q ((j:Int)+1))):=by
   unfold Sl.setAt;rw[g6,if_pos ⟨by simp,by simpa using B⟩];rfl
  have C:(s.re (s.l.set q ((j:Int)+1))).l=s.l.set q ((j:Int)+1):=by cases s <;> first|rfl|(simp[Sl.l]at B)
  simp only;rw[I,ζb,bk];obtain⟨Q,hQ,hy⟩:=g7;have ad:=(ζe.1 hy).1;have J:=i1.set hQ (b:=(j:Int)+1) Za Za
  refine⟨⟨by rw[C];exact J,?_,?_,Og i4 _⟩,?_⟩
  .rw[C];intro p' U b' u w;rw[List.getElem?_set]at w;split at w
   next e2=>subst e2;simp[B]at w;have:=i2 q U b u T;omega
   exact i2 p' U b' u w
  .rw[C];intro d W L p' U b' u w;rw[List.getElem?_set]at u;split at u
   .rename_i e2;subst e2;simp[B]at u;obtain⟨x,hx⟩:=W.1.at_ (show p<t.procs.l.length by have:=(ζe.1 g2).1;rw[<-i1.1];exact this)
    have:=i3 d W L p a x g2 hx;obtain⟨z,X,O⟩:=W.2 p k e x g1 hx Za g4
    rw[g5,g6]at X O;simp only[Int.toNat_natCast]at X O;rw[w]at X;cases X;omega
   exact i3 d W L p' U b' u w
  show ((nV t:Int)-(s.re (s.l.set q ((j:Int)+1))).l.sum).toNat<((nV t:Int)-s.l.sum).toNat;have h3:=J.sum;rw[qc T]at h3;rw[C,qc T];omega
 intro hf;exact(bk _).2 ((bk _).2 ⟨rfl,⟨i1,hr.1 hf⟩,i2,i3,i4⟩)
theorem KW (B:Small t) (hv:dG t=some true) (D:VT t) (G:gE t (bT t) A) {c:Sl Int} (J:jI t c.l) :
 Wp (ta t c) λr=>r.2=0/\Cons t A r.1.l/\tT c.l r.1.l/\(∀d,Cons t A d->tT c.l d->tT r.1.l d)/\r.1.whole=some r.1:=by
 obtain⟨r,h,u⟩:=Qw B hv D G J;refine⟨r,?_,u⟩;unfold ta;rw[h]
 first|rfl|(simp[u.2.2.2.2,Sw];done)
theorem Ol (u:Small t) (hv:dG t=some true) (B:VT t) (D:gE t (bT t) A) {c:Sl Int} (G:jI t c.l) :
 Wp (ta t c) λr=>r.2=0/\Cons t A r.1.l/\tT c.l r.1.l/\∀d,Cons t A d->tT c.l d->tT r.1.l d:=
 (KW u hv B D G).mono λ_ h=>⟨h.1,h.2.1,h.2.2.1,h.2.2.2.1⟩
theorem y9 (B:VT t) {p:Nat} {P:cr} (u:t.procs.l[p]? = some P):P.events.l.length<=64:=by
 have h:=B.ok.heads p (ζe.1 u).1;unfold qH at h;rw[u]at h;simp only at h;split at h
 .split at h
  .cases h
  split at h
  .split at h
   .cases h
   omega
  rename_i w;exact absurd h w
 cases h
theorem Ip (u:VT t):nV t<=512:=by
 have key:∀l:a_ cr,(∀P∈l,P.events.l.length<=64)->(l.map λP=>P.events.l.length).sum<=64*l.length:=by
  intro l
  induction l with
  | nil=>intro _;simp
  | cons P l w=>
   intro h;have h1:=h P (List.mem_cons_self ..);have D:=w λQ z=>h Q (List.mem_cons_of_mem _ z)
   simp only[List.map_cons,List.sum_cons,List.length_cons];omega
 have:=key t.procs.l λP B=>by
  obtain⟨p,C⟩:=List.mem_iff_getElem?.1 B;exact y9 u C
 have:=u.few;unfold nV;omega
theorem QW (u:VT t):nV t<1073741824:=by have:=Ip u;omega
end
abbrev fZ (m:bf Bool) (P:Prop):Prop:=Wp m λb=>(b=true↔P)
theorem fZ.eq {m:bf Bool} {P:Prop} (h:fZ m P):∃b,m=some b/\(b=true↔P):=h
theorem fZ.iff {m:bf Bool} {P Q:Prop} (h:fZ m P) (e:P↔Q):fZ m Q:=h.mono λb t=>t.trans e
theorem vm {b:Bool} {P:Prop} (h:b=true↔P):fZ (some b) P:=(bk _).2 h
theorem fZ.some {m:bf Bool} {P:Prop} (h:fZ m P):fZ (m.bind λx=>Option.some x) P:=by
 obtain⟨b,t,h⟩:=h;rw[t];exact vm h
theorem fZ.same {m n:bf Bool} {P:Prop} (h:fZ m P) (k:fZ n P):∃b,m=Option.some b/\n=Option.some b/\(b=true↔P):=by
 obtain⟨b,t,h⟩:=h;obtain⟨d,hd,k⟩:=k;have:b=d:=by rw[Bool.eq_iff_iff,h,k]
 subst this;exact⟨b,t,hd,h⟩
theorem fZ.and {m n:bf Bool} {P Q:Prop} (h:fZ m P) (k:P->fZ n Q) {f:Bool->bf Bool} (u:∀b,f b=bt b (n.bind λx=>Option.some x) (Option.some false)):fZ (m.bind f) (P/\Q):=by
 obtain⟨b,t,h⟩:=h;rw[t,ζb,u]
 cases b with
 | true=>exact((k (h.1 rfl)).some).iff ⟨λq=>⟨h.1 rfl,q⟩,λq=>q.2⟩
 | false=>exact vm ⟨λe=>(nomatch e),λq=>(h.2 q.1).symm▸rfl⟩
theorem Nw {step:Int->bf (Fw Int Unit Unit)} {n:Nat} {P:Nat->Prop} (h:∀i,i<n->(∀j,j<i->P j)->Wp (step (i:Int)) λw=>P i/\w=.n ((i+1:Nat):Int)\/¬P i/\w=.r ()) (B:(∀j,j<n->P j)->step (n:Int)=some (.x ())) :
 Wp (bM step 0) λw=>(∀i,i<n->P i)/\w=.x ()\/(¬∀i,i<n->P i)/\w=.r ():=by
 have key:∀m k,k+m=n->(∀j,j<k->P j)->Wp (bM step (k:Int)) λw=>(∀i,i<n->P i)/\w=.x ()\/(¬∀i,i<n->P i)/\w=.r ():=by
  intro m
  induction m with
  | zero=>
   intro k hk t;have:k=n:=by omega
   subst this;rw[gm,B t,ζb];exact(bk _).2 (.inl ⟨t,rfl⟩)
  | succ m z=>
   intro k hk t;rw[gm,gA];refine(h k Za t).mono ?_
   rintro w (⟨h1,rfl⟩|⟨h1,rfl⟩)
   .exact z (k+1) Za λj u=>by
     rcases Nat.lt_or_eq_of_le (Nat.lt_succ_iff.1 u)with u|rfl
     .exact t j u
     exact h1
   exact(bk _).2 (.inr ⟨λk2=>h1 (k2 k Za),rfl⟩)
 exact key n 0 Za λj u=>absurd u Za
theorem yQ {step:Int->bf (Fw Int Unit Unit)} {n:Nat} {P:Nat->Prop} (h:∀i,i<n->(∀j,j<i->P j)->Wp (step (i:Int)) λw=>P i/\w=.n ((i+1:Nat):Int)\/¬P i/\w=.r ()) (u:(∀j,j<n->P j)->step (n:Int)=some (.x ())) :
 fZ ((bM step 0).bind (Fw.elim (λ_=>some true) (λ_=>some false))) (∀i,i<n->P i):=by
 rw[fZ,gA];refine(Nw h u).mono ?_;rintro w (⟨h1,rfl⟩|⟨h1,rfl⟩)
 .exact vm ⟨λ_=>h1,λ_=>rfl⟩
 exact vm ⟨λe=>(nomatch e),λt=>absurd t h1⟩
theorem E4 {m:bf Bool} {P:Prop} {n:Int} {k:Nat} (h:fZ m P) (u:n=((k+1:Nat):Int)):Wp (m.bind λx=>bt x (some (.n n)) (some (.r ()))) λw:Fw Int Unit Unit=>P/\w=.n ((k+1:Nat):Int)\/¬P/\w=.r ():=by
 obtain⟨b,t,h⟩:=h;rw[t,ζb]
 cases b with
 | true=>exact(bk _).2 (.inl ⟨h.1 rfl,by rw[u]⟩)
 | false=>exact(bk _).2 (.inr ⟨λq=>(nomatch h.2 q),rfl⟩)
theorem Pw {b:Bool} {P:Prop} {n:Int} {k:Nat} (h:b=true↔P) (u:n=((k+1:Nat):Int)):Wp (bt b (some (.n n)) (some (.r ()))) λw:Fw Int Unit Unit=>P/\w=.n ((k+1:Nat):Int)\/¬P/\w=.r ():=by
 cases b with
 | true=>exact(bk _).2 (.inl ⟨h.1 rfl,by rw[u]⟩)
 | false=>exact(bk _).2 (.inr ⟨λq=>(nomatch h.2 q),rfl⟩)
def dx (a b:a_ Int):Prop:=a.length=b.length/\∀(p:Nat) (x y:Int),a[p]? = some x->b[p]? = some y->x<=y
theorem EK {a b:Sl Int} (B:a.l.length<1073741824):fZ (dM a b) (a.l=b.l):=by
 by_cases u:a.l.length=b.l.length
 .unfold dM;rw[show ((len a)==(len b))=true from by simp[len,u],bY]
  unfold dM.W1;refine(yQ (n:=a.l.length) (P:=λi=>a.l[i]? = b.l[i]?) ?_ ?_).iff ?_
  .intro i t _;have w:i<b.l.length:=by omega
   unfold dM.bA;rw[nT t,bY,bO t,ζb,bO w,ζb];refine Pw ?_ (cW i Za)
   rw[ζd t,ζd w];simp
  .intro _;unfold dM.bA;rw[nW,b8]
  constructor
  .intro h;refine List.ext_getElem? λi=>?_
   by_cases t:i<a.l.length
   .exact h i t
   rw[List.getElem?_eq_none Za,List.getElem?_eq_none Za]
  intro h i _;rw[h]
 unfold dM;rw[show ((len a)==(len b))=false from by simp[len];omega,b8]
 exact vm ⟨λe=>(nomatch e),λh=>absurd (by rw[h]) u⟩
section
variable {t:Trace} {A:bU 200 br}
theorem Pk (u:Small t) (hv:dG t=some true) (B:VT t) (D:gE t (bT t) A) (c:Sl Int):fZ (o7 t c) (Cons t A c.l):=by
 obtain⟨r,hr,h⟩:=NM u hv B D c;unfold o7;rw[hr,ζb];exact vm (by rw[beq_iff_eq,h];exact Iff.rfl)
theorem T6 (D:Small t) (hv:mO t=some true) (G:VT t) (J:gE t (bT t) A) (c:Sl Int):fZ (me t c) (Cons t A c.l):=by
 unfold me vJ;rw[hv,ζb,bY,ζb,ζb]
 by_cases u:c.l.length=t.procs.l.length
 .rw[show (len c==len t.procs)=true from by simp[len,u],bY]
  have hr:fZ (kW t c) (jI t c.l):=Mr D u λi=>rfl
  refine fZ.and (P:=jI t c.l) (Q:=kJ t A c.l) (n:=eC t c) (fZ.some hr) (λC=>?_) (f:=λw=>(bt w ((eC t c).bind λz=>some z) (some false):bf Bool).bind λB=>some B) (λb=>by cases b <;> simp[bt])
  exact JY D G J C
 rw[show (len c==len t.procs)=false from by simp[len];omega]
 exact vm ⟨λe=>(nomatch e),λh=>absurd h.1.1 u⟩
end
def nth (l:a_ Int) (p:Nat):Int:=(l[p]?).getD 0
def fG (t:Trace) (p:Nat):Nat:=((t.procs.l[p]?).map λP=>P.events.l.length).getD 0
theorem lI {l:a_ Int} {p:Nat} (h:p<l.length):nth l p=l[p]:=by unfold nth;rw[ζd h];rfl
theorem kj {t:Trace} {p:Nat} (h:p<t.procs.l.length):fG t p=t.procs.l[p].events.l.length:=by unfold fG;rw[ζd h];rfl
section
variable {t:Trace} {A:bU 200 br}
def k9 (g:Int->Int->Int) (a b c:a_ Int):Prop:=c.length=a.length/\∀(p:Nat) (x y:Int),a[p]? = some x->b[p]? = some y->c[p]? = some (g x y)
def kU (x y:Int):Int:=if y>x then y else x
def j8 (x y:Int):Int:=if y<x then y else x
theorem k9.of (g:Int->Int->Int) {a b:a_ Int} (h:a.length=b.length):k9 g a b (List.zipWith g a b):=
 ⟨by simp[h],λp x y t u=>by rw[List.getElem?_zipWith,t,u]⟩
theorem k9.at_ {g:Int->Int->Int} {a b c:a_ Int} (h:k9 g a b c) (B:a.length=b.length) {p:Nat} {z:Int} (u:c[p]? = some z):∃x y,a[p]? = some x/\b[p]? = some y/\z=g x y:=by
 have t:p<a.length:=by rw[<-h.1];exact(ζe.1 u).1
 refine⟨a[p],b[p]' Za,ζd t,ζd Za,?_⟩
 have:=h.2 p _ _ (ζd t) (ζd (show p<b.length by omega))
 rw[u]at this;cases this;rfl
theorem oL (x y:Int):(kU x y=x/\y<=x)\/(kU x y=y/\x<=y):=by unfold kU;split <;> omega
theorem qo (x y:Int):(j8 x y=x/\x<=y)\/(j8 x y=y/\y<=x):=by unfold j8;split <;> omega
theorem join_cons {a b c:a_ Int} (B:Cons t A a) (D:Cons t A b) (h:k9 kU a b c):Cons t A c:=by
 have L:a.length=b.length:=B.1.1.trans D.1.1.symm;refine⟨⟨h.1.trans B.1.1,λp z P C O=>?_⟩,λp k e z Q C hk w=>?_⟩
 .obtain⟨x,y,G,I,rfl⟩:=h.at_ L C;have h1:=B.1.2 p x P G O;have U:=D.1.2 p y P I O;rcases oL x y with⟨e,_⟩|⟨e,_⟩ <;> rw[e] <;> assumption
 obtain⟨x,y,G,I,rfl⟩:=h.at_ L C;rcases oL x y with⟨S,_⟩|⟨S,_⟩ <;> rw[S]at hk
 .obtain⟨u,hu,J⟩:=B.2 p k e x Q G hk w;have T:=(ζe.1 hu).1;have hv:=ζd (show (ag A e.message).from_.proc.toNat<b.length by omega)
  exact⟨_,h.2 _ _ _ hu hv,by rcases oL u b[(ag A e.message).from_.proc.toNat]with⟨e2,_⟩|⟨e2,_⟩ <;> rw[e2] <;> omega⟩
 obtain⟨u,hu,J⟩:=D.2 p k e y Q I hk w;have T:=(ζe.1 hu).1;have hv:=ζd (show (ag A e.message).from_.proc.toNat<a.length by omega)
 exact⟨_,h.2 _ _ _ hv hu,by rcases oL a[(ag A e.message).from_.proc.toNat] u with⟨e2,_⟩|⟨e2,_⟩ <;> rw[e2] <;> omega⟩
theorem Mj {a b c:a_ Int} (B:Cons t A a) (D:Cons t A b) (h:k9 j8 a b c):Cons t A c:=by
 have Q:a.length=b.length:=B.1.1.trans D.1.1.symm;refine⟨⟨h.1.trans B.1.1,λp z P C S=>?_⟩,λp k e z T C hk w=>?_⟩
 .obtain⟨x,y,G,I,rfl⟩:=h.at_ Q C;have h1:=B.1.2 p x P G S;have X:=D.1.2 p y P I S;rcases qo x y with⟨e,_⟩|⟨e,_⟩ <;> rw[e] <;> assumption
 obtain⟨x,y,G,I,rfl⟩:=h.at_ Q C;have J:(k:Int)<x:=by rcases qo x y with⟨L,_⟩|⟨L,_⟩ <;> omega
 have O:(k:Int)<y:=by rcases qo x y with⟨L,_⟩|⟨L,_⟩ <;> omega
 obtain⟨u,hu,W⟩:=B.2 p k e x T G J w;obtain⟨v,hv,U⟩:=D.2 p k e y T I O w;exact⟨_,h.2 _ _ _ hu hv,by rcases qo u v with⟨e2,_⟩|⟨e2,_⟩ <;> rw[e2] <;> omega⟩
theorem dx.trans {a b c:a_ Int} (h:dx a b) (k:dx b c):dx a c:=by
 refine⟨h.1.trans k.1,λp x z t u=>?_⟩
 have w:p<b.length:=by rw[<-h.1];exact(ζe.1 t).1
 have e:=ζd w;exact Int.le_trans (h.2 p x _ t e) (k.2 p _ z e u)
theorem dx.refl (a:a_ Int):dx a a:=⟨rfl,λp x y u t=>by rw[u]at t;cases t;exact Int.le_refl _⟩
theorem k9.le_max {a b c:a_ Int} (h:k9 kU a b c) (D:a.length=b.length):dx a c/\dx b c/\∀d,dx a d->dx b d->dx c d:=by
 refine⟨⟨h.1.symm,λp x z C t=>?_⟩,⟨D.symm.trans h.1.symm,λp y z G t=>?_⟩,λd I L=>⟨h.1.trans I.1,λp z w t J=>?_⟩⟩
 .obtain⟨O,y,u,G,rfl⟩:=h.at_ D t;rw[C]at u;cases u;rcases oL x y with⟨e2,_⟩|⟨e2,_⟩ <;> rw[e2] <;> omega
 .obtain⟨x,Q,C,B,rfl⟩:=h.at_ D t;rw[G]at B;cases B;rcases oL x y with⟨e2,_⟩|⟨e2,_⟩ <;> rw[e2] <;> omega
 obtain⟨x,y,C,G,rfl⟩:=h.at_ D t;have h1:=I.2 p x w C J;have S:=L.2 p y w G J;rcases oL x y with⟨e2,_⟩|⟨e2,_⟩ <;> rw[e2] <;> assumption
theorem k9.le_min {a b c:a_ Int} (h:k9 j8 a b c) (D:a.length=b.length):dx c a/\dx c b/\∀d,dx d a->dx d b->dx d c:=by
 refine⟨⟨h.1,λp z x t C=>?_⟩,⟨h.1.trans D,λp z y t G=>?_⟩,λd I L=>⟨I.1.trans h.1.symm,λp w z J t=>?_⟩⟩
 .obtain⟨O,y,u,G,rfl⟩:=h.at_ D t;rw[C]at u;cases u;rcases qo x y with⟨e2,_⟩|⟨e2,_⟩ <;> rw[e2] <;> omega
 .obtain⟨x,Q,C,B,rfl⟩:=h.at_ D t;rw[G]at B;cases B;rcases qo x y with⟨e2,_⟩|⟨e2,_⟩ <;> rw[e2] <;> omega
 obtain⟨x,y,C,G,rfl⟩:=h.at_ D t;have h1:=I.2 p w x J C;have S:=L.2 p w y J G;rcases qo x y with⟨e2,_⟩|⟨e2,_⟩ <;> rw[e2] <;> assumption
theorem dx.nth {a b:a_ Int} (h:dx a b) {p:Nat} (hp:p<a.length):nth a p<=nth b p:=by
 rw[lI hp,lI (by rw[<-h.1];exact hp)]
 exact h.2 p _ _ (ζd hp) (ζd (by rw[<-h.1];exact hp))
theorem k9.nth {g:Int->Int->Int} {a b c:a_ Int} (h:k9 g a b c) (u:a.length=b.length) {p:Nat} (hp:p<a.length):Go.VE.nth c p=g (Go.VE.nth a p) (Go.VE.nth b p):=by
 rw[lI hp,lI (show p<b.length by omega)]
 have:=h.2 p _ _ (ζd hp) (ζd (show p<b.length by omega))
 unfold Go.VE.nth;rw[this];rfl
end
def CG (s:Slice) (p:Nat):Nat:=((s.j.l[p]?).map λr=>r.l.length).getD 0
def el (s:Slice) (p i:Nat):a_ Int:=match s.j.l[p]? with
 | some r=>match r.l[i]? with
  | some c=>c.l
  | none=>[]
 | none=>[]
theorem zH {s:Slice} {p:Nat} (h:p<s.j.l.length):CG s p=s.j.l[p].l.length:=by unfold CG;rw[ζd h];rfl
def SX (t:Trace) (A:bU 200 br) (s:Slice) (p i:Nat):Prop:=
 (nth s.last.l p<=(i:Int)/\(el s p i).length=0)\/((i:Int)<nth s.last.l p/\(((i:Int)<nth s.first.l p/\el s p i=s.first.l)\/(nth s.first.l p<=(i:Int)/\Cons t A (el s p i)/\(i:Int)<nth (el s p i) p/\dx s.first.l (el s p i)/\dx (el s p i) s.last.l)))
def IM (s:Slice) (c:a_ Int):Prop:=∀p,p<c.length->∀i:Nat,(i:Int)<nth c p->dx (el s p i) c
def SM (t:Trace) (A:bU 200 br) (s:Slice):Prop:=((((Cons t A s.first.l/\Cons t A s.last.l)/\dx s.first.l s.last.l)/\s.j.l.length=t.procs.l.length)/\∀p,p<t.procs.l.length->CG s p=fG t p)
def wY (t:Trace) (A:bU 200 br) (s:Slice):Prop:=
 (SM t A s/\∀p,p<t.procs.l.length->∀i,i<fG t p->SX t A s p i)/\∀p,p<t.procs.l.length->∀i:Nat,(i:Int)<nth s.last.l p->IM s (el s p i)
def GU (s:Slice) (c:a_ Int):Prop:=((s.empty=false/\dx s.first.l c)/\dx c s.last.l)/\IM s c
structure Vn (s:Slice):Prop where
 f:s.first.l.length<=60
 l:s.last.l.length<=60
 j:s.j.l.length<=60
 r:∀r∈s.j.l,r.l.length<=60/\∀c∈r.l,c.l.length<=60
section
variable {t:Trace} {A:bU 200 br} {s:Slice}
theorem gO {c:a_ Int} (h:Cons t A c) {p:Nat} (hp:p<t.procs.l.length):0<=nth c p/\nth c p<=fG t p:=by
 have hc:p<c.length:=by rw[h.1.1];exact hp
 rw[lI hc,kj hp];exact h.1.2 p _ _ (ζd hc) (ζd hp)
theorem MN {σ:Type} {f:bg->σ->bf (Bool×σ)} {c:Sl Int} {Q:Bool×σ->Prop} (I:Nat->Nat->σ->Prop) {s:σ} (hc:c.l.length<1073741824) (B:∀p,p<c.l.length->nth c.l p<1073741824) (D:I 0 0 s)
 (step:∀p (i:Nat) s,p<c.l.length->(i:Int)<nth c.l p->I p i s->Wp (f ⟨p,((i+1:Nat):Int)⟩ s) λy=>(y.1=true->I p (i+1) y.2)/\(y.1=false->Q (false,y.2)))
 (next:∀p (i:Nat) s,p<c.l.length->nth c.l p<=(i:Int)->I p i s->I (p+1) 0 s) (fin:∀s,I c.l.length 0 s->Q (true,s)):Wp (sU c f s) Q:=by
 unfold sU;refine jK c.l.length (λp (q:Int×σ)=>q.1=(p:Int)/\I p 0 q.2) ⟨rfl,D⟩ ?_ ?_
 .rintro p ⟨_,s⟩ u ⟨e,t⟩;simp only at e t;subst e;have w:=lI u;have B:=B p u;rw[w]at B;unfold uP;rw[nT u,bY,bO u,ζb];refine jK c.l[p].toNat (λi (q:Int×σ)=>q.1=(i:Int)/\I p i q.2) ⟨rfl,t⟩ ?_ ?_
  .rintro i ⟨_,s⟩ G ⟨e,t⟩;simp only at e t;subst e;unfold uR;obtain⟨y,z,h1,C⟩:=step p i s u (by rw[w];omega) t
   rw[show decide ((i:Int)<c.l[p])=true from decide_eq_true Za,bY,cW i Za,z,ζb,ck]
   exact⟨λe=>(bk _).2 ⟨rfl,h1 e⟩,λe=>(bk _).2 ((bk _).2 ((bk _).2 (C e)))⟩
  rintro⟨_,s⟩ ⟨e,t⟩;simp only at e t;subst e;unfold uR;rw[show decide (((c.l[p].toNat:Nat):Int)<c.l[p])=false from decide_eq_false Za,b8,bk]
  exact(bk _).2 ⟨cW p Za,next p _ s u (by rw[w];omega) t⟩
 rintro⟨_,s⟩ ⟨e,t⟩;simp only at e t;subst e;unfold uP;rw[nW,b8,bk];exact(bk _).2 (fin s t)
theorem M3 (G:Small t) (D:VT t):∃c,iz t=some c/\c.l.length=t.procs.l.length/\∀p,p<t.procs.l.length->nth c.l p=fG t p:=by
 have C:=D.few;unfold iz iz.W1;refine jK (P:=λc:Sl Int=>c.l.length=t.procs.l.length/\∀p,p<t.procs.l.length->nth c.l p=fG t p) t.procs.l.length (λi (s:Sl Int×Int)=>s.2=(i:Int)/\s.1.l.length=i/\∀p,p<i->nth s.1.l p=fG t p) ⟨rfl,rfl,λp B=>absurd B Za⟩ ?_ ?_
 .rintro i ⟨o,_⟩ z ⟨e,h1,u⟩;simp only at e h1 u;subst e;unfold iz.bA;rw[nT z,bY,bO z,ζb];obtain⟨r,hr,w⟩:=oP (s:=o) (x:=len t.procs.l[i].events) Za
  rw[hr,ζb,bk];refine⟨cW i Za,by rw[w];simp[h1],λp B=>?_⟩
  show nth r.l p=_;rw[w]
  by_cases e:p=i
  .subst e;unfold nth;rw[List.getElem?_append_right Za,h1,Nat.sub_self,kj z];rfl
  unfold nth;rw[List.getElem?_append_left Za]
  exact u p Za
 rintro⟨o,_⟩ ⟨e,h1,u⟩;simp only at e h1 u;subst e;unfold iz.bA;rw[nW,b8,bk];exact(bk _).2 ⟨h1,u⟩
end
section
variable {t:Trace} {s:Slice}
end
section
variable {t:Trace} {A:bU 200 br} {s:Slice}
theorem LM (B:wY t A s) (D:s.empty=false):GU s s.first.l:=by
 obtain⟨⟨⟨⟨⟨h1,G⟩,w⟩,I⟩,J⟩,C⟩:=B.1;refine⟨⟨⟨D,dx.refl _⟩,w⟩,λp z i L=>?_⟩
 have u:p<t.procs.l.length:=by rw[<-h1.1.1];exact z
 have k1:=dx.nth w z;have k2:=gO h1 u;rcases C p u i Za with k|⟨_,k|k⟩
 .omega
 .rw[k.2];exact dx.refl _
 omega
theorem UM (B:wY t A s) (D:s.empty=false):GU s s.last.l:=by
 obtain⟨⟨⟨⟨⟨h1,w⟩,z⟩,I⟩,J⟩,C⟩:=B.1;refine⟨⟨⟨D,z⟩,dx.refl _⟩,λp G i L=>?_⟩
 have u:p<t.procs.l.length:=by rw[<-w.1.1];exact G
 have k2:=gO w u;rcases C p u i Za with k|⟨_,k|k⟩
 .omega
 .rw[k.2];exact z
 exact k.2.2.2.2
theorem Vs (u:wY t A s) (B:s.empty=false) {p i:Nat} (hp:p<t.procs.l.length) (D:(i:Int)<nth s.last.l p):GU s (el s p i)/\(i:Int)<nth (el s p i) p/\Cons t A (el s p i):=by
 obtain⟨⟨⟨⟨⟨h1,w⟩,C⟩,G⟩,I⟩,z⟩:=u.1;have k2:=gO w hp;rcases z p hp i Za with k|⟨_,k|k⟩
 .omega
 .rw[k.2];exact⟨LM u B,k.1,h1⟩
 exact⟨⟨⟨⟨B,k.2.2.2.1⟩,k.2.2.2.2⟩,u.2 p hp i D⟩,k.2.2.1,k.2.1⟩
end
theorem mR {a b:a_ Int}:dx a b↔a.length=b.length/\∀p,p<a.length->nth a p<=nth b p:=by
 constructor
 .intro h;exact⟨h.1,λp u=>h.nth u⟩
 rintro⟨h,k⟩;refine⟨h,λp x y t w=>?_⟩
 have:=k p (ζe.1 t).1;unfold nth at this;rw[t,w]at this;exact this
theorem dx.anti {a b:a_ Int} (h:dx a b) (k:dx b a):a=b:=by
 refine List.ext_getElem h.1 λp t u=>?_
 have h1:=h.nth t;have w:=k.nth u;rw[lI t,lI u]at h1 w;omega
section
variable {t:Trace} {A:bU 200 br} {U:a_ Int->Prop} {b:Slice}
structure xG (t:Trace) (A:bU 200 br) (U:List Int->Prop) (b:Slice):Prop where
 e:b.empty=false
 f:U b.first.l
 mn:∀u,U u->dx b.first.l u
 j:b.j.l.length=t.procs.l.length
 rows:∀p,p<t.procs.l.length->CG b p=fG t p
 elm:∀p,p<t.procs.l.length->∀i,i<fG t p->(el b p i=[]/\∀u,U u->nth u p<=(i:Int))\/(U (el b p i)/\(i:Int)<nth (el b p i) p/\∀u,U u->(i:Int)<nth u p->dx (el b p i) u)
 lc:Cons t A b.last.l
 lf:dx b.first.l b.last.l
 le:∀p,p<t.procs.l.length->∀i,i<fG t p->U (el b p i)->dx (el b p i) b.last.l
 la:∀p,p<t.procs.l.length->∃v,U v/\nth b.last.l p=nth v p
theorem xG.up (h:xG t A U b) (B:∀u,U u->Cons t A u) {u:a_ Int} (hu:U u):dx u b.last.l:=by
 have z:=B _ hu;refine mR.2 ⟨z.1.1.trans h.lc.1.1.symm,λp D=>?_⟩
 have w:p<t.procs.l.length:=by rw[<-z.1.1];exact D
 have h1:=gO z w;have G:=gO h.lc w;refine Classical.byContradiction λI=>?_
 have C:(nth u p-1).toNat<fG t p:=by omega
 rcases h.elm p w _ C with⟨_,k⟩|⟨k1,k2,k3⟩
 .have:=k u hu;omega
 have J:=(h.le p w _ C k1).nth (p:=p) (by rw[(B _ k1).1.1];exact w)
 omega
theorem xG.De (h:xG t A U b) {p i:Nat} (hp:p<t.procs.l.length) (B:(i:Int)<nth b.last.l p):i<fG t p/\U (el b p i)/\(i:Int)<nth (el b p i) p/\∀u,U u->(i:Int)<nth u p->dx (el b p i) u:=by
 have C:=gO h.lc hp;have w:i<fG t p:=by omega
 obtain⟨v,hv,z⟩:=h.la p hp;rcases h.elm p hp i w with⟨_,k⟩|k
 .have:=k v hv;omega
 exact⟨w,k⟩
theorem xG.form (h:xG t A U b) (D:∀u,U u->Cons t A u):wY t A b:=by
 have J:=D _ h.f;refine⟨⟨⟨⟨⟨⟨J,h.lc⟩,h.lf⟩,h.j⟩,h.rows⟩,λp w i z=>?_⟩,λp w i z q L k hk=>?_⟩
 .by_cases C:(i:Int)<nth b.last.l p
  .obtain⟨_,k1,k2,k3⟩:=h.De w C;refine .inr ⟨C,?_⟩
   by_cases G:(i:Int)<nth b.first.l p
   .exact .inl ⟨G,(k3 _ h.f G).anti (h.mn _ k1)⟩
   exact .inr ⟨by omega,D _ k1,k2,h.mn _ k1,h.le p w i z k1⟩
  refine .inl ⟨by omega,?_⟩
  rcases h.elm p w i z with⟨k,_⟩|⟨k1,k2,_⟩
  .rw[k];rfl
  have:=(h.le p w i z k1).nth (p:=p) (by rw[(D _ k1).1.1];exact w)
  omega
 obtain⟨_,k1,k2,k3⟩:=h.De w z;have I:=D _ k1;have B:q<t.procs.l.length:=by rw[<-I.1.1];exact L
 have:=gO I B;rcases h.elm q B k Za with⟨_,m⟩|⟨_,_,m⟩
 .have:=m _ k1;omega
 exact m _ k1 hk
theorem cover (T:∀u,U u->Cons t A u) (W:∀u v w,U u->U v->k9 kU u v w->U w) {c J:a_ Int} (hl:c.length=t.procs.l.length) (Y:U J) (O:dx J c)
 (h:∀p,p<t.procs.l.length->0<nth c p->∃u,U u/\dx u c/\nth c p<=nth u p):U c:=by
 have key:∀k,k<=t.procs.l.length->∃u,U u/\dx u c/\∀p,p<k->nth c p<=nth u p:=by
  intro k
  induction k with
  | zero=>exact λ_=>⟨J,Y,O,λp D=>absurd D Za⟩
  | succ k L=>
   intro hk;obtain⟨u,h1,B,G⟩:=L Za
   by_cases D:0<nth c k
   .obtain⟨v,g1,g2,g3⟩:=h k Za D
    have z:u.length=v.length:=B.1.trans g2.1.symm;have I:=k9.of kU z;obtain⟨Q,S,X⟩:=I.le_max z;refine⟨_,W u v _ h1 g1 I,X c B g2,λp C=>?_⟩
    rcases Nat.lt_or_eq_of_le (Nat.lt_succ_iff.1 C)with q|rfl
    .exact Int.le_trans (G p q) (Q.nth (by rw[B.1];omega))
    exact Int.le_trans g3 (S.nth (by rw[g2.1];omega))
   refine⟨u,h1,B,λp C=>?_⟩
   rcases Nat.lt_or_eq_of_le (Nat.lt_succ_iff.1 C)with q|rfl
   .exact G p q
   have:=gO (T u h1) (p:=p) Za;omega
 obtain⟨u,h1,B,G⟩:=key _ (Nat.le_refl _);have:u=c:=B.anti (mR.2 ⟨B.1.symm,λp D=>G p Za⟩)
 exact this▸h1
theorem xG.has (h:xG t A U b) (G:∀u,U u->Cons t A u) (J:∀u v w,U u->U v->k9 kU u v w->U w) {c:a_ Int} (D:Cons t A c):GU b c↔U c:=by
 constructor
 .rintro⟨⟨⟨_,h1⟩,I⟩,L⟩;refine cover G J D.1.1 h.f h1 λp C O=>?_
  have z:p<c.length:=by rw[D.1.1];exact C
  have S:=I.nth z;obtain⟨_,k1,k2,_⟩:=h.De C (i:=(nth c p-1).toNat) Za
  exact⟨_,k1,L p z _ Za,by omega⟩
 intro hc;refine⟨⟨⟨h.e,h.mn _ hc⟩,h.up G hc⟩,λp C i Q=>?_⟩
 have B:p<t.procs.l.length:=by rw[<-D.1.1];exact C
 have:=gO D B;rcases h.elm p B i Za with⟨_,k⟩|⟨_,_,k⟩
 .have:=k _ hc;omega
 exact k _ hc Q
end
end Go.VE
namespace Go.VE
theorem ER {t:Trace} (B:VT t) {A:bU 200 br} (D:gE t (bT t) A):Cons t A (t.procs.l.map λP=>(P.events.l.length:Int)):=by
 refine⟨⟨by simp,λp a P u z=>?_⟩,λp k e a w u hk C=>?_⟩
 .rw[List.getElem?_map,z]at u;cases u;constructor <;> simp
 obtain⟨q,j,y,G,_,_,_,_,I⟩:=su B D w C;obtain⟨Q,J,L⟩:=G;have O:=(ζe.1 L).1;rw[I];refine⟨(Q.events.l.length:Int),?_,by simp only;omega⟩
 simp only[Int.toNat_natCast,List.getElem?_map,J,Option.map_some]
theorem Qe {c:a_ Int} {q p:Nat} {v:Int} (hp:p<c.length):nth (c.set q v) p=if p=q then v else nth c p:=by
 unfold nth
 by_cases e:p=q
 .subst e;rw[if_pos rfl,List.getElem?_set_self hp];rfl
 rw[if_neg e,List.getElem?_set_ne (Ne.symm e)]
theorem PK {c:a_ Int} {p:Nat} (hp:p<c.length):c[p]? = some (nth c p):=by rw[lI hp,ζd hp]
section
variable {t:Trace} {A:bU 200 br} {s:Slice}
theorem Da.to {c d:a_ Int} (u:Cons t A c) (h:Da t A c d):∃p,p<t.procs.l.length/\d=c.set p (nth c p+1)/\Cons t A d:=by
 obtain⟨p,a,h1,w,z⟩:=h;have B:=(ζe.1 h1).1;have:nth c p=a:=by unfold nth;rw[h1];rfl
 exact⟨p,by rw[<-u.1.1];exact B,by rw[this];exact w,z⟩
theorem Da.le {c d:a_ Int} (u:Cons t A c) (h:Da t A c d):dx c d:=by
 obtain⟨p,z,rfl,_⟩:=h.to u;refine mR.2 ⟨by rw[List.length_set],λq w=>?_⟩
 rw[Qe w];split
 next e=>subst e;omega
 omega
def mU (t:Trace):a_ Int:=t.procs.l.map λP=>(P.events.l.length:Int)
theorem zn {p:Nat} (hp:p<t.procs.l.length):nth (mU t) p=fG t p:=by unfold nth mU;rw[List.getElem?_map,ζd hp,kj hp];rfl
theorem A2 {c:a_ Int} (B:Cons t A c):dx c (mU t):=
 mR.2 ⟨by rw[B.1.1];simp[mU],λp w=>by
  have u:p<t.procs.l.length:=by rw[<-B.1.1];exact w
  rw[zn u];exact(gO B u).2⟩
theorem P0:∀{a b:a_ Int},dx a b->a.sum<=b.sum/\(a.sum=b.sum->a=b)
 | [],[],_=>⟨Int.le_refl _,λ_=>rfl⟩
 | [],_::_,h=>nomatch h.1
 | _::_,[],h=>nomatch h.1
 | x::a,y::b,h=>by
  have B:=h.2 0 x y rfl rfl;obtain⟨h1,t⟩:=P0 (a:=a) (b:=b) ⟨by simpa using h.1,λp u v hu hv=>h.2 (p+1) u v hu hv⟩
  simp only[List.sum_cons];refine⟨by omega,λe=>?_⟩
  have:x=y:=by omega
  rw[this,t Za]
end
theorem P7 {a b:a_ Int} (u:a.length=b.length) (h:∀p,p<a.length->nth a p=nth b p):a=b:=by
 refine List.ext_getElem u λp t w=>?_
 have:=h p t;rw[lI t,lI w]at this;exact this
theorem CZ {g:Int->Int->Int} {a b:a_ Int} (u:a.length=b.length) {p:Nat} (hp:p<a.length):nth (List.zipWith g a b) p=g (nth a p) (nth b p):=(k9.of g u).nth u hp
section
variable {t:Trace} {A:bU 200 br} {s:Slice}
theorem zN {c d:a_ Int} (u:c.length=d.length):dx c d↔tT c d:=⟨λh=>h.2,λh=>⟨u,h⟩⟩
theorem Iu {c:a_ Int} (B:c.length=t.procs.l.length):jI t c↔∀p,p<t.procs.l.length->0<=nth c p/\nth c p<=fG t p:=by
 constructor
 .intro h p u;have hc:=PK (c:=c) (p:=p) Za
  have:=h.2 p _ _ hc (ζd u);rw[kj u];exact this
 intro h;refine⟨B,λp a P z w=>?_⟩
 have u:=(ζe.1 w).1;have h1:=h p u;have e:nth c p=a:=by unfold nth;rw[z];rfl
 rw[kj u,e]at h1;rw[(ζe.1 w).2]at h1;exact h1
end
section
variable {t:Trace} {A:bU 200 br} {U:a_ Int->Prop}
def Vv (U:a_ Int->Prop) (p i:Nat) (e:a_ Int):Prop:=(e=[]/\∀u,U u->nth u p<=(i:Int))\/(U e/\(i:Int)<nth e p/\∀u,U u->(i:Int)<nth u p->dx e u)
def Ox (U:a_ Int->Prop) (p:Nat) (l:Sl (Sl Int)) (n:Nat) (last:a_ Int):Prop:=l.l.length=n/\∀(i:Nat) (e:Sl Int),l.l[i]? = some e->Vv U p i e.l/\(U e.l->dx e.l last)
def Kr (t:Trace) (A:bU 200 br) (U:a_ Int->Prop) (f last:a_ Int):Prop:=Cons t A last/\dx f last/\∀q,q<t.procs.l.length->∃v,U v/\nth last q=nth v q
theorem Ox.up {p n:Nat} {l:Sl (Sl Int)} {a b:a_ Int} (h:Ox U p l n a) (u:dx a b):Ox U p l n b:=⟨h.1,λi e t=>⟨(h.2 i e t).1,λhu=>((h.2 i e t).2 hu).trans u⟩⟩
def VI (t:Trace) (U:a_ Int->Prop) (p1:Sl Int->bf (Sl Int×Bool)):Prop:=∀c:Sl Int,jI t c.l->(∃d,p1 c=some (d,true)/\U d.l/\dx c.l d.l/\∀u,U u->dx c.l u->dx d.l u)\/(p1 c=some (Sl.nil,false)/\∀u,U u->¬dx c.l u)
theorem Kr.join {f last d:a_ Int} (B:∀u,U u->Cons t A u) (h:Kr t A U f last) (hd:U d):Kr t A U f (List.zipWith kU last d)/\dx last (List.zipWith kU last d)/\dx d (List.zipWith kU last d):=by
 obtain⟨h1,D,G⟩:=h;have w:last.length=d.length:=h1.1.1.trans (B d hd).1.1.symm;obtain⟨z,I,_⟩:=(k9.of kU w).le_max w;refine⟨⟨join_cons h1 (B d hd) (k9.of kU w),D.trans z,λq C=>?_⟩,z,I⟩
 rw[CZ w (by rw[h1.1.1];exact C)]
 rcases oL (nth last q) (nth d q)with⟨e,_⟩|⟨e,_⟩
 .rw[e];exact G q C
 exact⟨d,hd,e⟩
theorem zero_le {u:a_ Int} (hu:Cons t A u):dx (List.replicate t.procs.l.length 0) u:=mR.2 ⟨by rw[hu.1.1];exact List.length_replicate,λp z=>by
 have w:p<t.procs.l.length:=by simpa using z
 have:=(gO hu w).1;unfold nth at this ⊢;rw[List.getElem?_replicate,if_pos w];exact this⟩
end
section
variable {t:Trace} {A:bU 200 br} {L:a_ Slice}
def Ug (t:Trace) (A:bU 200 br) (L:a_ Slice) (u:a_ Int):Prop:=Cons t A u/\∀s∈L,GU s u
structure Inv (t:Trace) (A:bU 200 br) (L:List Slice) (ci c:List Int):Prop where
 r:jI t c
 le:dx ci c
 mn:∀u,Ug t A L u->dx ci u->dx c u
end
theorem HV {g:Int->Int->Int} {a b:Sl Int} (D:a.l.length=b.l.length) (B:a.l.length<1073741824) {step:Sl Int×Int->bf (Fw (Sl Int×Int) (Sl Int) Empty)}
 (u:∀q,step q=bt (decide (q.2<len a)) ((idx a q.2).bind λx=>(idx b q.2).bind λy=>(eA q.1 (g x y)).bind λo=>some (.n (o,IntKind.wrap .i64 (q.2+1)))) (some (.x q.1))) :
 ∃r,(bM step (Sl.nil,0)).bind (Fw.elim (λe=>some e) (λe=>Empty.elim e))=some r/\r.l=List.zipWith g a.l b.l:=by
 have key:Wp ((bM step (Sl.nil,0)).bind (Fw.elim (λe=>some e) (λe=>Empty.elim e))) λr=>r.l=List.zipWith g a.l b.l:=by
  refine jK a.l.length (λi (q:Sl Int×Int)=>q.2=(i:Int)/\q.1.l=(List.zipWith g a.l b.l).take i) ⟨rfl,by simp[Sl.l]⟩ ?_ ?_
  .rintro i ⟨o,_⟩ w ⟨e,h1⟩;simp only at e h1;subst e;have t:i<b.l.length:=by omega
   rw[u];simp only;rw[nT w,bY,bO w,ζb,bO t,ζb];obtain⟨r,hr,e⟩:=oP (s:=o) (x:=g a.l[i] b.l[i]) (by rw[h1];simp;omega)
   have z:i<(List.zipWith g a.l b.l).length:=by simp;omega
   rw[hr,ζb,bk];exact⟨cW i Za,by rw[e,h1,List.take_succ_eq_append_getElem z,List.getElem_zipWith]⟩
  rintro⟨o,_⟩ ⟨e,h1⟩;simp only at e h1;subst e;rw[u];simp only;rw[nW,b8,bk];exact(bk _).2 (by rw[h1,List.take_of_length_le (by simp;omega)])
 obtain⟨r,h1,C⟩:=key;exact⟨r,h1,C⟩
theorem Ia {a b:Sl Int} (B:a.l.length=b.l.length) (u:a.l.length<1073741824):∃r,kH a b=some r/\r.l=List.zipWith j8 a.l b.l:=HV B u λ_=>rfl
theorem QH {a b:Sl Int} (B:a.l.length=b.l.length) (u:a.l.length<1073741824):∃r,lZ a b=some r/\r.l=List.zipWith kU a.l b.l:=HV B u λ_=>rfl
theorem LW {a b:Sl (Sl Int)} (D:a.l.length<1073741824) (B:∀x∈a.l,x.l.length<1073741824):fZ (eD a b) (ins a=ins b):=by
 unfold eD;have la:(ins a).length=a.l.length:=by unfold ins;simp
 have w:(ins b).length=b.l.length:=by unfold ins;simp
 by_cases h:a.l.length=b.l.length
 .rw[show (len a==len b)=true from by simp[len,h],bY]
  unfold eD.W1;refine(yQ (n:=a.l.length) (P:=λi=>(ins a)[i]? = (ins b)[i]?) (λi t _=>?_) (λ_=>?_)).iff ⟨λk=>List.ext_getElem? λi=>?_,λk i _=>by rw[k]⟩
  .have u:i<b.l.length:=by omega
   unfold eD.bA;rw[nT t,bY,bO t,ζb,bO u,ζb];refine E4 ((EK (B _ (List.getElem_mem t))).iff ?_) (cW i Za)
   unfold ins;rw[List.getElem?_map,List.getElem?_map,ζd t,ζd u];simp
  .unfold eD.bA;rw[nW,b8]
  by_cases t:i<a.l.length
  .exact k i t
  rw[List.getElem?_eq_none Za,List.getElem?_eq_none Za]
 rw[show (len a==len b)=false from by simp[len];omega,b8]
 refine vm ⟨λk=>by simp at k,λk=>?_⟩
 rw[<-la,<-w,k]at h;exact absurd rfl h
section
variable {t:Trace} {A:bU 200 br}
def jl (n:Nat) (V:a_ Int->Prop) (x:a_ Int):Prop:=x.length=n/\(∀v,V v->dx x v)/\∀y:a_ Int,y.length=n->(∀v,V v->dx y v)->dx y x
def mz (n:Nat) (V:a_ Int->Prop) (x:a_ Int):Prop:=x.length=n/\(∀v,V v->dx v x)/\∀y:a_ Int,y.length=n->(∀v,V v->dx v y)->dx x y
def fU (l:Sl (Sl Int)) (k:Nat) (v:a_ Int):Prop:=∃j,j<k/\∃x:Sl Int,l.l[j]? = some x/\x.l=v
theorem fU.succ {l:Sl (Sl Int)} {k:Nat} (hk:k<l.l.length) {v:a_ Int}:fU l (k+1) v↔fU l k v\/v=l.l[k].l:=by
 constructor
 .rintro⟨j,u,x,t,rfl⟩;rcases Nat.lt_or_eq_of_le (Nat.lt_succ_iff.1 u)with h|rfl
  .exact .inl ⟨j,h,x,t,rfl⟩
  rw[ζd hk]at t;cases t;exact .inr rfl
 rintro (⟨j,u,x,t,rfl⟩|rfl)
 .exact⟨j,by omega,x,t,rfl⟩
 exact⟨k,by omega,_,ζd hk,rfl⟩
theorem jl.meet {n:Nat} {V:a_ Int->Prop} {x c:a_ Int} (h:jl n V x) (hc:c.length=n):jl n (λv=>V v\/v=c) (List.zipWith j8 x c):=by
 have u:x.length=c.length:=h.1.trans hc.symm;obtain⟨w,z,B⟩:=(k9.of j8 u).le_min u;refine⟨by rw[List.length_zipWith,u,Nat.min_self];exact hc,λv hv=>?_,λy C t=>B y (h.2.2 y C λv hv=>t v (.inl hv)) (t c (.inr rfl))⟩
 rcases hv with hv|rfl
 .exact w.trans (h.2.1 v hv)
 exact z
theorem mz.join {n:Nat} {V:a_ Int->Prop} {x c:a_ Int} (h:mz n V x) (hc:c.length=n):mz n (λv=>V v\/v=c) (List.zipWith kU x c):=by
 have u:x.length=c.length:=h.1.trans hc.symm;obtain⟨w,z,B⟩:=(k9.of kU u).le_max u;refine⟨by rw[List.length_zipWith,u,Nat.min_self];exact hc,λv hv=>?_,λy C t=>B y (h.2.2 y C λv hv=>t v (.inl hv)) (t c (.inr rfl))⟩
 rcases hv with hv|rfl
 .exact(h.2.1 v hv).trans w
 exact z
theorem jl.iff {n:Nat} {V W:a_ Int->Prop} {x:a_ Int} (h:jl n V x) (e:∀v,V v↔W v):jl n W x:=⟨h.1,λv hv=>h.2.1 v ((e v).2 hv),λy t k=>h.2.2 y t λv hv=>k v ((e v).1 hv)⟩
theorem mz.iff {n:Nat} {V W:a_ Int->Prop} {x:a_ Int} (h:mz n V x) (e:∀v,V v↔W v):mz n W x:=⟨h.1,λv hv=>h.2.1 v ((e v).2 hv),λy t k=>h.2.2 y t λv hv=>k v ((e v).1 hv)⟩
theorem jl.one {n:Nat} {c:a_ Int} (hc:c.length=n):jl n (λv=>v=c) c:=⟨hc,λv hv=>hv▸dx.refl _,λy _ h=>h c rfl⟩
theorem mz.one {n:Nat} {c:a_ Int} (hc:c.length=n):mz n (λv=>v=c) c:=⟨hc,λv hv=>hv▸dx.refl _,λy _ h=>h c rfl⟩
def H9 (n:Nat) (V:a_ Int->Prop) (p i:Nat) (e:a_ Int):Prop:=(e=[]/\∀v,V v->nth v p<=(i:Int))\/((∃v,V v/\(i:Int)<nth v p)/\jl n (λv=>V v/\(i:Int)<nth v p) e)
structure lM (t:Trace) (V:List Int->Prop) (b:Slice):Prop where
 e:b.empty=false
 f:jl t.procs.l.length V b.first.l
 l:mz t.procs.l.length V b.last.l
 j:b.j.l.length=t.procs.l.length
 r:∀p r,b.j.l[p]? = some r->r.l.length=fG t p/\∀(i:Nat) (c:Sl Int),r.l[i]? = some c->H9 t.procs.l.length V p i c.l
theorem OC (hS:Small t) (hV:VT t) {u:Sl (Sl Int)} (hC:∀x∈u.l,Cons t A x.l) (aq:u.l.length<1073741824) (ae:u.l≠[]) :
 ∃b,cV t u=some b/\lM t (λv=>∃x∈u.l,x.l=v) b:=by
 have ar:=hV.few;have ao:=hV.ok.one;have C:0<u.l.length:=List.length_pos_iff.2 ae;have af:∀p,p<t.procs.l.length->fG t p<1073741824:=λp I=>by rw[kj I];exact(hS.2 _ (List.getElem_mem I)).1
 have z:∀k (hk:k<u.l.length),u.l[k].l.length=t.procs.l.length:=λk hk=>(hC _ (List.getElem_mem hk)).1.1
 suffices h:Wp (cV t u) λb=>lM t (fU u u.l.length) b by
  obtain⟨b,hb,h⟩:=h;have e:∀v,fU u u.l.length v↔∃x∈u.l,x.l=v:=λv=>by
   constructor
   .rintro⟨j,_,x,hx,rfl⟩;exact⟨x,List.mem_of_getElem? hx,rfl⟩
   rintro⟨x,hx,rfl⟩;obtain⟨j,T⟩:=List.mem_iff_getElem?.1 hx;exact⟨j,(ζe.1 T).1,x,T,rfl⟩
  refine⟨b,hb,h.e,h.f.iff e,h.l.iff e,h.j,λp r hr=>⟨(h.r p r hr).1,λi c hc=>?_⟩⟩
  rcases (h.r p r hr).2 i c hc with⟨k1,k2⟩|⟨⟨v,k1,k2⟩,k3⟩
  .exact .inl ⟨k1,λv hv=>k2 v ((e v).2 hv)⟩
  exact .inr ⟨⟨v,(e v).1 k1,k2⟩,k3.iff λv=>and_congr_left λ_=>e v⟩
 unfold cV;rw[show ((len u)==0)=false by simp[len];omega,b8]
 have h0:idx u 0=some u.l[0]:=bO (i:=0) C;obtain⟨x2,e2,f2⟩:=zy (s:=(Sl.emp:Sl Int)) (x:=u.l[0]) (by have:=z 0 C;show ([]:a_ Int).length+_<=_;rw[this,List.length_nil];omega)
 obtain⟨x4,e4,f4⟩:=zy (s:=(Sl.row []:Sl Int)) (x:=u.l[0]) (by have:=z 0 C;show ([]:a_ Int).length+_<=_;rw[this,List.length_nil];omega)
 have g2:x2.l=u.l[0].l:=by rw[f2];rfl
 have g4:x4.l=u.l[0].l:=by rw[f4];rfl
 rw[h0,ζb,e2,ζb,ζb,e4,ζb];unfold cV.W1;have J:∀v,fU u (0+1) v↔v=u.l[0].l:=λv=>by
  rw[fU.succ C];exact⟨λh=>h.resolve_left λ⟨j,T,_⟩=>absurd T Za,.inr⟩
 refine jK (u.l.length-1) (λi (q:Int×Slice×Slice)=>q.1=((i+1:Nat):Int)/\q.2.2.empty=false/\jl t.procs.l.length (fU u (i+1)) q.2.2.first.l/\mz t.procs.l.length (fU u (i+1)) q.2.2.last.l) ⟨rfl,rfl,(by rw[g2];exact(jl.one (z 0 C)).iff λv=>(J v).symm),(by rw[g4];exact(mz.one (z 0 C)).iff λv=>(J v).symm)⟩ ?_ ?_
 .rintro i ⟨k,vb,Y⟩ hi ⟨rfl,i1,i2,i3⟩;simp only at i1 i2 i3;unfold cV.bA;simp only;have hk:i+1<u.l.length:=by omega
  obtain⟨m,hm,ah⟩:=Ia (a:=Y.first) (b:=u.l[i+1]) (by rw[i2.1,z _ hk]) (by rw[i2.1];omega)
  obtain⟨n,hn,ai⟩:=QH (a:=Y.last) (b:=u.l[i+1]) (by rw[i3.1,z _ hk]) (by rw[i3.1];omega)
  rw[nT hk,bY,bO hk,ζb,hm,ζb,ζb,hn,ζb,bk];exact⟨cW (i+1) Za,i1,by rw[ah];exact(i2.meet (z _ hk)).iff λv=>(fU.succ hk).symm,by rw[ai];exact(i3.join (z _ hk)).iff λv=>(fU.succ hk).symm⟩
 rintro⟨k,vb,Y⟩ ⟨rfl,i1,i2,i3⟩;simp only at i1 i2 i3;unfold cV.bA;simp only;rw[show u.l.length-1+1=u.l.length by omega]at i2 i3 ⊢
 rw[nW,b8,bk];show Wp (cV.W2 u 0 t _ _) _;unfold cV.W2;refine jK t.procs.l.length (λp (q:Int×Trace×Slice×Slice)=>q.1=(p:Int)/\q.2.1=t/\q.2.2.2.empty=false/\q.2.2.2.first=Y.first/\q.2.2.2.last=Y.last/\q.2.2.2.j.l.length=p/\∀L r,q.2.2.2.j.l[L]? = some r->r.l.length=fG t L/\∀(i:Nat) (c:Sl Int),r.l[i]? = some c->H9 t.procs.l.length (fU u u.l.length) L i c.l) ⟨rfl,rfl,i1,rfl,rfl,rfl,λL r h=>by simp[Sl.l]at h⟩ ?_ ?_
 .rintro p ⟨v,tt,aj,Z⟩ I ⟨rfl,B,j1,j2,j3,U,j5⟩;simp only at B j1 j2 j3 U j5;have B:=B.symm;subst B;unfold cV.b7;simp only;have ap:=af p I;have aa:t.procs.l[p].events.l.length=fG t p:=(kj I).symm;rw[nT I,bY];unfold cV.W3;refine jK (fG t p) (λi (q:Sl (Sl Int)×Int×Trace×Slice×Slice)=>q.2.1=(i:Int)/\q.2.2.1=t/\q.2.2.2.2=Z/\q.1.l.length=i/\∀(O:Nat) (c:Sl Int),q.1.l[O]? = some c->H9 t.procs.l.length (fU u u.l.length) p O c.l) ⟨rfl,rfl,rfl,rfl,λO c h=>by simp[Sl.l]at h⟩ ?_ ?_
  .rintro i ⟨W,v,t3,ak,s3⟩ hi ⟨rfl,B,es,k1,k2⟩;simp only at B es k1 k2;have B:=B.symm;have es:=es.symm;subst B;subst es;unfold cV.eG;simp only;rw[bO I,ζb,show decide ((i:Int)<len t.procs.l[p].events)=true by simp[len,aa];omega,bY]
   unfold cV.W4;refine jK u.l.length (λk (q:Int×Sl Int×Int×Trace×Slice)=>q.1=(i:Int)/\q.2.2.1=(k:Int)/\q.2.2.2.1=t/\H9 t.procs.l.length (fU u k) p i q.2.1.l) ⟨rfl,rfl,rfl,.inl ⟨rfl,λv ⟨j,T,_⟩=>absurd T Za⟩⟩ ?_ ?_
   .rintro k ⟨v,c,v2,t4,al⟩ hk ⟨rfl,rfl,B,X⟩;simp only at B X;have B:=B.symm;subst B;unfold cV.uy;simp only;have D:=z k hk;have ab:p<u.l[k].l.length:=by rw[D];exact I
    rw[nT hk,bY,bO hk,ζb,bO ab,ζb,<-lI ab]
    by_cases Q:nth u.l[k].l p<=(i:Int)
    .rw[decide_eq_true Q,bY,bk];refine⟨rfl,cW k Za,rfl,?_⟩
     simp only;rcases X with⟨a,b⟩|⟨⟨w,a,a2⟩,b⟩
     .refine .inl ⟨a,λv hv=>?_⟩
      rcases (fU.succ hk).1 hv with h|rfl
      .exact b v h
      exact Q
     refine .inr ⟨⟨w,(fU.succ hk).2 (.inl a),a2⟩,b.iff λv=>⟨λh=>⟨(fU.succ hk).2 (.inl h.1),h.2⟩,λh=>?_⟩⟩
     rcases (fU.succ hk).1 h.1 with h'|rfl
     .exact⟨h',h.2⟩
     exact absurd h.2 Za
    rw[decide_eq_false Q,b8];rcases X with⟨a,b⟩|⟨⟨w,a,a2⟩,b⟩
    .obtain⟨y,hy,S⟩:=zy (s:=(Sl.row []:Sl Int)) (x:=u.l[k]) (by show ([]:a_ Int).length+_<=_;rw[D,List.length_nil];omega)
     have ad:y.l=u.l[k].l:=by rw[S];rfl
     rw[show ((len c)==0)=true by simp[len,a],bY,ζb,hy,ζb,bk]
     refine⟨rfl,cW k Za,rfl,.inr ⟨⟨u.l[k].l,(fU.succ hk).2 (.inr rfl),by omega⟩,?_⟩⟩
     simp only[ad];refine(jl.one D).iff λv=>⟨λh=>⟨(fU.succ hk).2 (.inr h),by rw[h];omega⟩,λh=>?_⟩
     rcases (fU.succ hk).1 h.1 with h'|h'
     .have:=b v h';have:=h.2;omega
     exact h'
    obtain⟨y,hy,S⟩:=Ia (a:=c) (b:=u.l[k]) (by rw[b.1,D]) (by rw[b.1];omega)
    rw[show ((len c)==0)=false by simp[len];intro h;rw[h]at b;have:=b.1;simp at this;omega,b8,ζb,hy,ζb,bk]
    refine⟨rfl,cW k Za,rfl,.inr ⟨⟨w,(fU.succ hk).2 (.inl a),a2⟩,?_⟩⟩
    simp only[S];refine(b.meet D).iff λv=>⟨λh=>?_,λh=>?_⟩
    .rcases h with h|rfl
     .exact⟨(fU.succ hk).2 (.inl h.1),h.2⟩
     exact⟨(fU.succ hk).2 (.inr rfl),by omega⟩
    rcases (fU.succ hk).1 h.1 with h'|h'
    .exact .inl ⟨h',h.2⟩
    exact .inr h'
   rintro⟨v,c,v2,t4,al⟩ ⟨rfl,rfl,B,X⟩;simp only at B X;have B:=B.symm;subst B;unfold cV.uy;simp only;rw[nW,b8,bk];obtain⟨o',ho,G⟩:=oP (s:=W) (x:=c) Za
   show Wp ((eA W c).bind _) _;rw[ho,ζb,bk];refine⟨cW i Za,rfl,rfl,by rw[G];simp[k1],λO d hd=>?_⟩
   rw[G]at hd
   by_cases am:O<W.l.length
   .rw[List.getElem?_append_left am]at hd;exact k2 O d hd
   have:O=i:=by
    have:=(ζe.1 hd).1;simp at this;omega
   subst this;rw[<-k1,List.getElem?_concat_length]at hd;cases hd;rw[k1]at *;exact X
  rintro⟨W,v,t3,ak,s3⟩ ⟨rfl,B,es,k1,k2⟩;simp only at B es k1 k2;have B:=B.symm;have es:=es.symm;subst B;subst es;unfold cV.eG;simp only;rw[bO I,ζb,show decide (((fG t p:Nat):Int)<len t.procs.l[p].events)=false by simp[len,aa],b8,bk]
  obtain⟨o',ho,G⟩:=oP (s:=Z.j) (x:=W) Za
  show Wp ((eA Z.j W).bind _) _;rw[ho,ζb,bk];refine⟨cW p Za,rfl,j1,j2,j3,by rw[G];simp[U],λL r hr=>?_⟩
  rw[G]at hr
  by_cases an:L<Z.j.l.length
  .rw[List.getElem?_append_left an]at hr;exact j5 L r hr
  have:L=p:=by
   have:=(ζe.1 hr).1;simp at this;omega
  subst this;rw[<-U,List.getElem?_concat_length]at hr;cases hr;exact⟨k1,k2⟩
 rintro⟨v,tt,aj,Z⟩ ⟨rfl,B,j1,j2,j3,U,j5⟩;simp only at B j1 j2 j3 U j5;have B:=B.symm;subst B;unfold cV.b7;simp only;rw[nW,b8,bk];refine(bk _).2 ⟨j1,by rw[j2];exact i2,by rw[j3];exact i3,U,j5⟩
end
def JQ (c:a_ Int):a_ Int:=c.sum::c
def jY (x y:a_ Int):Prop:=nh (JQ x) (JQ y)<0
instance (x y:a_ Int):Decidable (jY x y):=by unfold jY;exact inferInstance
theorem jY.OM (x:a_ Int):¬jY x x:=by unfold jY;rw[D_];omega
theorem jY.tr {x y z:a_ Int} (h:jY x y) (k:jY y z):jY x z:=HS _ _ _ h k
theorem jY.tot {x y:a_ Int} (h:¬jY x y) (k:¬jY y x):x=y:=by
 have:=HR _ _ h k;unfold JQ at this;exact(List.cons.inj this).2
theorem jY.sum {x y:a_ Int} (h:x.sum<y.sum):jY x y:=by unfold jY JQ;simp[nh,h]
theorem Bf:∀{l r:a_ (a_ Int)},l.Pairwise jY->r.Pairwise jY->(∀x,x∈l↔x∈r)->l=r
 | [],[],_,_,_=>rfl
 | [],y::r,_,_,h=>by have:=(h y).2 Zc;simp at this
 | x::l,[],_,_,h=>by have:=(h x).1 Zc;simp at this
 | x::l,y::r,B,hr,h=>by
  have e:x=y:=by
   rcases List.mem_cons.1 ((h x).1 Zc)with e|e
   .exact e
   rcases List.mem_cons.1 ((h y).2 Zc)with k|k
   .exact k.symm
   exact absurd (((List.pairwise_cons.1 hr).1 x e).tr ((List.pairwise_cons.1 B).1 y k)) (jY.OM y)
  subst e
  congr 1
  have t:=List.pairwise_cons.1 B;have u:=List.pairwise_cons.1 hr;refine Bf t.2 u.2 λz=>⟨λw=>?_,λw=>?_⟩
  .rcases List.mem_cons.1 ((h z).1 (List.mem_cons_of_mem _ w))with e|e
   .exact absurd (e▸t.1 z w) (jY.OM x)
   exact e
  rcases List.mem_cons.1 ((h z).2 (List.mem_cons_of_mem _ w))with e|e
  .exact absurd (e▸u.1 z w) (jY.OM x)
  exact e
theorem jY.nodup {L:a_ (a_ Int)} (h:L.Pairwise jY):L.Nodup:=h.imp λ{x y} (h:jY x y) (e:x=y)=>jY.OM y (by rw[e]at h;exact h)
section
variable {t:Trace} {A:bU 200 br} {s:Slice}
def wB (x y:Int):Int:=if y>x then y else x
def sE (a b:a_ Int):a_ Int:=List.zipWith wB a b
def D2 (s:Slice) (c:a_ Int) (p:Nat):a_ Int:=sE c (el s p (nth c p).toNat)
inductive BZ (n:Nat) (s:Slice):List Int->Prop
 | first:BZ n s s.first.l
 | step (c:List Int) (p:Nat) (h:BZ n s c) (hp:p<n) (hl:nth c p<nth s.last.l p):BZ n s (D2 s c p)
theorem u9 {a b:a_ Int} (h:a.length=b.length):(sE a b).length=a.length:=by unfold sE;simp[h]
theorem qi {a b:a_ Int} (p:Nat):(sE a b)[p]? = match a[p]?,b[p]? with|some x,some y=>some (wB x y)|_,_=>none:=by
 unfold sE;rw[List.getElem?_zipWith];cases a[p]? <;> cases b[p]? <;> rfl
theorem uB (x y:Int):x<=wB x y/\y<=wB x y/\(wB x y=x\/wB x y=y):=by unfold wB;split <;> omega
theorem OX:∀{a b:a_ Int},a.length=b.length->(∀(p:Nat) (x y:Int),a[p]? = some x->b[p]? = some y->x<=y)->a.sum<=b.sum
 | [],[],_,_=>Int.le_refl _
 | x::a,y::b,B,h=>by
  have D:=h 0 x y rfl rfl;have:=OX (a:=a) (b:=b) (by simpa using B) λp u v hu hv=>h (p+1) u v (by simpa using hu) (by simpa using hv)
  simp only[List.sum_cons];omega
theorem Pb:∀{a b:a_ Int},a.length=b.length->(∀(p:Nat) (x y:Int),a[p]? = some x->b[p]? = some y->x<=y)->(∃(p:Nat) (x y:Int),a[p]? = some x/\b[p]? = some y/\x<y)->a.sum<b.sum
 | [],[],_,_,⟨p,x,y,h,_⟩=>by simp at h
 | x::a,y::b,D,h,⟨p,u,v,hu,hv,B⟩=>by
  have G:=h 0 x y rfl rfl;have t:=λp u v hu hv=>h (p+1) u v (by simpa using hu) (by simpa using hv)
  have h1:=OX (a:=a) (b:=b) (by simpa using D) t
  simp only[List.sum_cons]
  cases p with
  | zero=>simp at hu hv;subst hu;subst hv;omega
  | succ p=>
   have:=Pb (a:=a) (b:=b) (by simpa using D) t ⟨p,u,v,by simpa using hu,by simpa using hv,B⟩
   omega
theorem J6 {a b:a_ Int} (J:Cons t A a) (O:Cons t A b):Cons t A (sE a b):=by
 have S:a.length=b.length:=J.1.1.trans O.1.1.symm;have C:∀{p:Nat} {z:Int},(sE a b)[p]? = some z->∃x y,a[p]? = some x/\b[p]? = some y/\z=wB x y:=λ{p z} h=>by
  rw[qi]at h;split at h
  next x y D G=>cases h;exact⟨x,y,D,G,rfl⟩
  cases h
 refine⟨⟨(u9 S).trans J.1.1,λp z P I L=>?_⟩,λp k e z Q I hk w=>?_⟩
 .obtain⟨x,y,D,G,rfl⟩:=C I;have h1:=J.1.2 p x P D L;have U:=O.1.2 p y P G L;rcases (uB x y).2.2 with e|e <;> rw[e] <;> assumption
 obtain⟨x,y,D,G,rfl⟩:=C I;rcases (uB x y).2.2 with e'|e' <;> rw[e']at hk
 .obtain⟨u,hu,B⟩:=J.2 p k e x Q D hk w;have T:=(ζe.1 hu).1;have hv:=ζd (show (ag A e.message).from_.proc.toNat<b.length by omega)
  exact⟨wB u b[(ag A e.message).from_.proc.toNat],by rw[qi,hu,hv],Int.le_trans B (uB _ _).1⟩
 obtain⟨u,hu,B⟩:=O.2 p k e y Q G hk w;have T:=(ζe.1 hu).1;have hv:=ζd (show (ag A e.message).from_.proc.toNat<a.length by omega)
 exact⟨wB a[(ag A e.message).from_.proc.toNat] u,by rw[qi,hu,hv],Int.le_trans B (uB _ _).2.1⟩
theorem T4 (u:wY t A s) {p i:Nat} (hp:p<t.procs.l.length) (D:(i:Int)<nth s.last.l p):Cons t A (el s p i)/\(i:Int)<nth (el s p i) p/\dx (el s p i) s.last.l:=by
 obtain⟨⟨⟨⟨⟨h1,w⟩,z⟩,C⟩,G⟩,B⟩:=u.1;have k2:=gO w hp;rcases B p hp i Za with k|⟨_,k|k⟩
 .omega
 .rw[k.2];exact⟨h1,k.1,z⟩
 exact⟨k.2.1,k.2.2.1,k.2.2.2.2⟩
theorem RM (T:wY t A s) {c:a_ Int} (G:Cons t A c) (O:dx c s.last.l) {p:Nat} (hp:p<t.procs.l.length) (U:nth c p<nth s.last.l p) :
 (Cons t A (D2 s c p)/\dx (D2 s c p) s.last.l)/\c.sum<(D2 s c p).sum:=by
 have W:=gO G hp;have X:(((nth c p).toNat:Nat):Int)=nth c p:=by omega
 obtain⟨e1,e2,e3⟩:=T4 T hp (i:=(nth c p).toNat) Za
 have B:c.length=(el s p (nth c p).toNat).length:=G.1.1.trans e1.1.1.symm;have S:=J6 G e1;refine⟨⟨S,⟨(u9 B).trans O.1,λq z w u L=>?_⟩⟩,?_⟩
 .unfold D2 at u;rw[qi]at u;split at u
  next x y I Q=>cases u;have k1:=O.2 q x w I L;have k2:=e3.2 q y w Q L;rcases (uB x y).2.2 with e|e <;> rw[e] <;> assumption
  cases u
 unfold D2;refine Pb (u9 B).symm (λq x z I u=>?_) ?_
 .rw[qi,I]at u;split at u
  next Y y J Q=>cases J;cases u;exact(uB _ _).1
  cases u
 have C:p<c.length:=by rw[G.1.1];exact hp
 have D:p<(el s p (nth c p).toNat).length:=by omega
 rw[lI D]at e2;have hv:nth c p=c[p]:=lI C;refine⟨p,c[p],wB c[p] ((el s p (nth c p).toNat)[p]),ζd C,by rw[qi,ζd C,ζd D],?_⟩
 have:=(uB c[p] ((el s p (nth c p).toNat)[p])).2.1;omega
theorem U4 (u:wY t A s) {c:a_ Int} (h:BZ t.procs.l.length s c):Cons t A c/\dx c s.last.l:=by
 induction h with
 | first=>exact⟨u.1.1.1.1.1.1,u.1.1.1.1.2⟩
 | step c p h z B w=>exact(RM u w.1 w.2 z B).1
theorem ND {a b:Sl Int} (D:a.l.length=b.l.length) (G:a.l.length<1073741824):∃r,rA a b=some r/\r.l=sE a.l b.l:=by
 have key:Wp (rA a b) λr=>r.l=sE a.l b.l:=by
  unfold rA dQ;have B:iX (len a) (0:Int)=some (Sl.row (List.replicate a.l.length 0)):=by
   unfold iX;rw[if_pos ⟨by simp[len],by simp[len];omega⟩];simp[len]
  rw[B,ζb,gA];unfold dQ.W1;refine jK a.l.length (λi (q:Sl Int×Int)=>q.2=(i:Int)/\q.1.l.length=a.l.length/\∀p,p<i->q.1.l[p]? = (sE a.l b.l)[p]?) ⟨rfl,by simp[Sl.l],λp t=>absurd t Za⟩ ?_ ?_
  .rintro i ⟨o,_⟩ C ⟨e,h1,u⟩;simp only at e h1 u;subst e;have w:i<b.l.length:=by omega
   unfold dQ.bA;have t:pO a.l[i] b.l[i]=some (wB a.l[i] b.l[i]):=rfl;rw[nT C,bY,bO C,ζb,bO w,ζb];dsimp only;rw[t,ζb,tD (show i<o.l.length by omega),ζb]
   obtain⟨r,hr,z⟩:=put_eq (s:=o) (p:=i) (x:=wB a.l[i] b.l[i]) Za
   rw[hr,ζb,bk];refine⟨cW i Za,by rw[z];simpa using h1,λp t=>?_⟩
   show r.l[p]? = _;rw[z]
   by_cases e:p=i
   .subst e;rw[List.getElem?_set_self Za,qi,ζd C,ζd w]
   rw[List.getElem?_set_ne (λh=>e h.symm)]
   exact u p Za
  rintro⟨o,_⟩ ⟨e,h1,u⟩;simp only at e h1 u;subst e;unfold dQ.bA;rw[nW,b8,bk];refine(bk _).2 ((bk _).2 ?_);refine List.ext_getElem? λp=>?_
  by_cases t:p<a.l.length
  .exact u p t
  rw[List.getElem?_eq_none (show o.l.length<=p by omega),List.getElem?_eq_none (by rw[u9 D];omega)]
 obtain⟨r,hr,h⟩:=key;exact⟨r,hr,h⟩
end
end Go.VE
namespace Go.VE
section
variable {t:Trace} {A:bU 200 br} {s:Slice}
structure RI (n:Nat) (s:Slice) (L:List (List Int)) (i:Nat):Prop where
 srt:L.Pairwise jY
 rch:∀c∈L,BZ n s c
 fst:s.first.l∈L
 le:L.length<=300
 cl:∀(j:Nat) c,j<i->L[j]? = some c->∀p,p<n->nth c p<nth s.last.l p->D2 s c p∈L
theorem RI.put {n:Nat} {L:a_ (a_ Int)} {i j:Nat} {J c:a_ Int} (h:RI n s L i) (O:L[i]? = some J) (hc:c∉L) (hr:BZ n s c) (D:i<j) (U:j<=L.length) (h1:∀x,L[j-1]? = some x->¬jY c x) (T:∀(m:Nat) x,j<=m->L[m]? = some x->jY c x) (W:L.length<300) :
 RI n s (L.take j++[c]++L.drop j) i/\(L.take j++[c]++L.drop j)[i]? = some J/\∀x,x∈L.take j++[c]++L.drop j↔x=c\/x∈L:=by
 have B:∀x,x∈L.take j++[c]++L.drop j↔x=c\/x∈L:=λx=>by
  conv=>rhs;rw[<-List.take_append_drop j L]
  simp only[List.mem_append,List.mem_singleton];constructor
  .rintro ((h|h)|h) <;> simp[h]
  rintro (h|h|h) <;> simp[h]
 have z:∀k,k<j->(L.take j++[c]++L.drop j)[k]? = L[k]? := λk hk=>by
  rw[List.append_assoc,List.getElem?_append_left (by rw[List.length_take];omega),List.getElem?_take_of_lt hk]
 refine⟨⟨?_,λx hx=>?_,(B _).2 (.inr h.fst),by simp;omega,λk x hk hx p Q G=>(B _).2 (.inr (h.cl k x hk (by rw[<-z k Za];exact hx) p Q G))⟩,by rw[z i D];exact O,B⟩
 .have I:j-1<L.length:=by omega
  have u:jY L[j-1] c:=by
   have k1:=h1 _ (ζd I)
   by_cases k:jY L[j-1] c
   .exact k
   exact absurd (jY.tot k k1▸List.getElem_mem I) hc
  have w:∀x∈L.take j,jY x c:=λx hx=>by
   obtain⟨k,hk,e⟩:=List.mem_iff_getElem.1 hx;rw[List.length_take]at hk;rw[List.getElem_take]at e
   by_cases e2:k=j-1
   .subst e2;rw[<-e];exact u
   rw[<-e];exact(List.pairwise_iff_getElem.1 h.srt k (j-1) Za I Za).tr u
  have t:∀x∈L.drop j,jY c x:=λx hx=>by
   obtain⟨k,hk,e⟩:=List.mem_iff_getElem.1 hx;rw[List.length_drop]at hk;rw[List.getElem_drop]at e;exact T (j+k) x Za (by rw[ζd Za,e])
  refine List.pairwise_append.2 ⟨List.pairwise_append.2 ⟨h.srt.sublist (List.take_sublist _ _),List.pairwise_singleton _ _,λx hx y C=>?_⟩,h.srt.sublist (List.drop_sublist _ _),λx hx y C=>?_⟩
  .rw[List.mem_singleton.1 C];exact w x hx
  rcases List.mem_append.1 hx with hx|hx
  .exact(w x hx).tr (t y C)
  rw[List.mem_singleton.1 hx];exact t y C
 rcases (B x).1 hx with e|e
 .rw[e];exact hr
 exact h.rch x e
def Vh (n:Nat) (s:Slice) (r:a_ (a_ Int)):Prop:=r.Pairwise jY/\(∀c,c∈r↔BZ n s c)/\r.length<=5000
end
theorem MT {c:Sl Int} (B:c.l.length<=1073741824) (u:0<c.l.length):∃d,(gD c).bind Sl.whole=some d/\d.l=c.l:=by
 unfold gD;have key:((lY (Sl.row []:Sl Int) c).bind λx=>some x).bind Sl.whole=some (.row ([]++c.l)):=by
  unfold lY;rw[if_neg (λh=>by rw[h]at u;simp at u),if_pos (show (Sl.row ([]:a_ Int)).l.length+c.l.length<=2147483648 from show 0+c.l.length<=_ by omega)];rfl
 cases c with
 | nil=>simp[Sl.l]at u
 | emp=>simp[Sl.l]at u
 | part l=>exact⟨_,key,rfl⟩
 | row l=>exact⟨_,key,rfl⟩
section
variable {t:Trace} {A:bU 200 br} {s:Slice}
structure PI (n:Nat) (s:Slice) (L:List (List Int)) (i:Nat):Prop where
 nd:L.Nodup
 rch:∀c∈L,BZ n s c
 fst:s.first.l∈L
 cl:∀(j:Nat) c,j<i->L[j]? = some c->∀p,p<n->nth c p<nth s.last.l p->D2 s c p∈L
theorem PI.add {n:Nat} {L:a_ (a_ Int)} {i:Nat} {c:a_ Int} (h:PI n s L i) (hc:c∉L) (hr:BZ n s c) (D:i<=L.length):PI n s (L++[c]) i:=by
 refine⟨List.nodup_append.2 ⟨h.nd,by simp,λa u b w e=>?_⟩,λx t=>?_,List.mem_append_left _ h.fst,λj x z t p B C=>List.mem_append_left _ (h.cl j x z ?_ p B C)⟩
 .rw[List.mem_singleton.1 w]at e;exact hc (e▸u)
 .rcases List.mem_append.1 t with h2|h2
  .exact h.rch x h2
  rw[List.mem_singleton.1 h2];exact hr
 rw[List.getElem?_append_left Za]at t;exact t
end
theorem Oo {α:Type} {m:bf (Sl α)} {d:Sl α} (h:m.bind Sl.whole=some d):m=some d:=by
 obtain⟨x,h1,t⟩:=ζg.1 h;cases x <;> first|(cases t;exact h1)|(cases t)
theorem E5 {a b:Sl Int} (O:a.l.length=b.l.length) (J:a.l.length<1073741824):rC a b=some (.row (List.zipWith j8 a.l b.l)):=by
 have key:Wp (dQ a b λz=>nD z.1 z.2) λr=>r=.row (List.zipWith j8 a.l b.l):=by
  unfold dQ;have C:iX (len a) (0:Int)=some (Sl.row (List.replicate a.l.length 0)):=by
   unfold iX;rw[if_pos ⟨by simp[len],by simp[len];omega⟩];simp[len]
  rw[C,ζb];unfold dQ.W1;refine jK a.l.length (λi (q:Sl Int×Int)=>q.2=(i:Int)/\∃l:a_ Int,q.1=.row l/\l.length=a.l.length/\∀p,p<i->l[p]? = (List.zipWith j8 a.l b.l)[p]?) ⟨rfl,_,rfl,by simp,λp t=>absurd t Za⟩ ?_ ?_
  .rintro i ⟨o,_⟩ D ⟨e,l,e2,h1,G⟩;simp only at e e2;subst e;subst e2;have u:i<b.l.length:=by omega
   unfold dQ.bA;have t:nD a.l[i] b.l[i]=some (j8 a.l[i] b.l[i]):=rfl;have w:i<(Sl.row l).l.length:=by show i<l.length;omega
   have B:Sl.put (Sl.row l) i (j8 a.l[i] b.l[i])=some (.row (l.set i (j8 a.l[i] b.l[i]))):=by unfold Sl.put;rw[if_pos w]
   rw[nT D,bY,bO D,ζb,bO u,ζb];dsimp only;rw[t,ζb,tD w,ζb,B,ζb,bk];refine⟨cW i Za,_,rfl,by rw[List.length_set];exact h1,λp t=>?_⟩
   by_cases e:p=i
   .subst e;rw[List.getElem?_set_self Za,List.getElem?_zipWith,ζd D,ζd u]
   rw[List.getElem?_set_ne (λh=>e h.symm)]
   exact G p Za
  rintro⟨o,_⟩ ⟨e,l,e2,h1,G⟩;simp only at e e2;subst e;subst e2;unfold dQ.bA;rw[nW,b8,bk];refine(bk _).2 (congrArg Sl.row (List.ext_getElem? λp=>?_))
  by_cases t:p<a.l.length
  .exact G p t
  rw[List.getElem?_eq_none Za,List.getElem?_eq_none (by rw[List.length_zipWith];omega)]
 unfold rC;obtain⟨r,hr,rfl⟩:=key;rw[hr];rfl
section
variable {t:Trace} {A:bU 200 br}
def Ai (n:Nat) (V:a_ Int->Prop) (p i:Nat) (c:Sl Int):Prop:=(c=.nil/\∀v,V v->nth v p<=(i:Int))\/((∃v,V v/\(i:Int)<nth v p)/\jl n (λv=>V v/\(i:Int)<nth v p) c.l/\Sl.isNil c=some false)
theorem Ai.Vz {n:Nat} {V:a_ Int->Prop} {p i:Nat} {c:Sl Int} (h:Ai n V p i c):H9 n V p i c.l:=by
 rcases h with⟨rfl,h⟩|⟨h1,t,-⟩
 .exact .inl ⟨rfl,h⟩
 exact .inr ⟨h1,t⟩
theorem Ai.skip {n:Nat} {l:Sl (Sl Int)} {k p i:Nat} (hk:k<l.l.length) {e:Sl Int} (u:nth l.l[k].l p<=(i:Int)) (h:Ai n (fU l k) p i e):Ai n (fU l (k+1)) p i e:=by
 rcases h with⟨a,b⟩|⟨⟨w,a,t⟩,b,z⟩
 .refine .inl ⟨a,λv hv=>?_⟩
  rcases (fU.succ hk).1 hv with h|rfl
  .exact b v h
  exact u
 refine .inr ⟨⟨w,(fU.succ hk).2 (.inl a),t⟩,b.iff λv=>⟨λh=>⟨(fU.succ hk).2 (.inl h.1),h.2⟩,λh=>?_⟩,z⟩
 rcases (fU.succ hk).1 h.1 with B|rfl
 .exact⟨B,h.2⟩
 exact absurd h.2 Za
theorem Ai.add {n:Nat} {l:Sl (Sl Int)} {k p i:Nat} (hk:k<l.l.length) {e:Sl Int} (B:l.l[k].l.length=n) (u:(i:Int)<nth l.l[k].l p) (h:Ai n (fU l k) p i e) :
 ∃b,Sl.isNil e=some b/\Ai n (fU l (k+1)) p i (.row (List.zipWith j8 (if b then l.l[k].l else e.l) l.l[k].l))/\(if b then l.l[k].l else e.l).length=n:=by
 rcases h with⟨rfl,b⟩|⟨⟨w,a,t⟩,b,z⟩
 .refine⟨true,rfl,.inr ⟨⟨_,(fU.succ hk).2 (.inr rfl),u⟩,?_,rfl⟩,B⟩;refine((jl.one B).meet B).iff λv=>⟨λh=>?_,λh=>?_⟩
  .have h:v=l.l[k].l:=h.elim id id;exact⟨(fU.succ hk).2 (.inr h),by rw[h];exact u⟩
  rcases (fU.succ hk).1 h.1 with h'|h'
  .have:=b v h';have:=h.2;omega
  exact .inl h'
 refine⟨false,z,.inr ⟨⟨w,(fU.succ hk).2 (.inl a),t⟩,?_,rfl⟩,b.1⟩;refine(b.meet B).iff λv=>⟨λh=>?_,λh=>?_⟩
 .rcases h with h|rfl
  .exact⟨(fU.succ hk).2 (.inl h.1),h.2⟩
  exact⟨(fU.succ hk).2 (.inr rfl),u⟩
 rcases (fU.succ hk).1 h.1 with h'|h'
 .exact .inl ⟨h',h.2⟩
 exact .inr h'
structure AQ (t:Trace) (l:Sl (Sl Int)) (k p i:Nat) (j:Sl (Sl (Sl Int))):Prop where
 n:j.l.length=t.procs.l.length
 r:∀q r,j.l[q]? = some r->∃rl,r=.row rl/\rl.length=fG t q/\∀(m:Nat) (c:Sl Int),rl[m]? = some c->if q<p\/q=p/\m<i then Ai t.procs.l.length (fU l (k+1)) q m c else Ai t.procs.l.length (fU l k) q m c
theorem A3 (s:Sl (Sl (Sl Int))) (i:Nat) (x:Sl (Sl Int)):(jk s (i:Int) x).l=s.l.set i x:=(C2 s i x).1
theorem S8 (W:Small t) {l:Sl (Sl Int)} {k p i:Nat} (hk:k<l.l.length) (hC:Cons t A l.l[k].l) (hp:p<t.procs.l.length) (hi:(i:Int)<nth l.l[k].l p) {s:Slice} (U:AQ t l k p i s.j) :
 Wp (eW ⟨p,((i+1:Nat):Int)⟩ s l.l[k]) λy=>y.1=true/\y.2.empty=s.empty/\y.2.first=s.first/\y.2.last=s.last/\AQ t l k p (i+1) y.2.j:=by
 have ab:=W;have D:l.l[k].l.length=t.procs.l.length:=hC.1.1;have ad:i<fG t p:=by have:=(gO hC hp).2;omega
 have ae:fG t p<1073741824:=by rw[kj hp];exact(W.2 _ (List.getElem_mem hp)).1
 have B:p<s.j.l.length:=by rw[U.n];exact hp
 obtain⟨u,hr,X,J⟩:=U.r p _ (ζd B);have w:i<u.length:=by omega
 have hE:=J i _ (ζd w);rw[if_neg Za]at hE
 obtain⟨b,hb,L,O⟩:=hE.add hk D hi;have hw:IntKind.wrap .i64 (((i+1:Nat):Int)-1)=(i:Int):=by rw[qQ _ Za Za];omega
 have Y:(idx s.j (p:Int)).bind Sl.whole=some (.row u):=by rw[bO B,ζb,hr];rfl
 have G:(jk s.j (p:Int) (.row u)).l=s.j.l:=by
  rw[A3,<-hr,List.set_getElem_self]
 have Z:(idx (jk s.j (p:Int) (.row u)) (p:Int)).bind Sl.whole=some (.row u):=by
  rw[nj,G,ζd B,hr];rfl
 have C:Sl.jH (Sl.row u) (i:Int)=some i:=tD (show i<(Sl.row u).l.length from w);have Q:Sl.get (Sl.row u) i=some u[i]:=by show u[i]? = _;rw[ζd w]
 have fin:∀z:Sl Int,z.l=(if b then l.l[k].l else u[i].l)->Wp (eW.J1 l.l[k] z ⟨p,((i+1:Nat):Int)⟩ ⟨s.empty,s.first,s.last,jk s.j (p:Int) (.row u)⟩) λy=>y.1=true/\y.2.empty=s.empty/\y.2.first=s.first/\y.2.last=s.last/\AQ t l k p (i+1) y.2.j:=λz ho=>by
  have S:z.l.length=l.l[k].l.length:=by rw[ho,O,D]
  have hm:=E5 (a:=z) (b:=l.l[k]) S (by rw[S,D];exact W.1)
  rw[ho]at hm;generalize List.zipWith j8 (if b then l.l[k].l else u[i].l) l.l[k].l=m at hm L;have T:Sl.put (Sl.row u) i (Sl.row m:Sl Int)=some (.row (u.set i (.row m))):=by unfold Sl.put;rw[if_pos (show i<(Sl.row u).l.length from w)]
  unfold eW.J1;dsimp only;rw[Z,ζb,hm,ζb,hw,C,ζb,T,ζb];show Wp (Option.some _) _;rw[bk];refine⟨rfl,rfl,rfl,rfl,?_,λq r I=>?_⟩
  .show (jk _ _ _).l.length=_;rw[A3,List.length_set,G];exact U.n
  change (jk _ _ _).l[q]? = some r at I;rw[A3,G]at I
  by_cases e:q=p
  .subst e;rw[List.getElem?_set_self B]at I;cases I;refine⟨_,rfl,by rw[List.length_set];exact X,λm' c hc=>?_⟩
   by_cases e2:m'=i
   .subst e2;rw[List.getElem?_set_self w]at hc;cases hc;rw[if_pos (.inr ⟨rfl,by omega⟩)];exact L
   rw[List.getElem?_set_ne (Ne.symm e2)]at hc;have:=J m' c hc
   by_cases e3:q<q\/q=q/\m'<i
   .rw[if_pos e3]at this;rw[if_pos Za];exact this
   rw[if_neg e3]at this;rw[if_neg Za];exact this
  rw[List.getElem?_set_ne (Ne.symm e)]at I;obtain⟨aa,g1,g2,g3⟩:=U.r q r I;refine⟨aa,g1,g2,λm' c hc=>?_⟩
  have:=g3 m' c hc
  by_cases e3:q<p\/q=p/\m'<i
  .rw[if_pos e3]at this;rw[if_pos Za];exact this
  rw[if_neg e3]at this;rw[if_neg Za];exact this
 unfold eW q_;dsimp only;rw[Y,ζb,hw,C,ζb,Q,ζb];show Wp ((Sl.isNil u[i]).bind _) _;rw[hb,ζb]
 cases b with
 | true=>rw[bY];exact fin _ rfl
 | false=>rw[b8];exact fin _ rfl
theorem P4 (hS:Small t) (hv:dG t=some true) (hV:VT t) (hM:gE t (bT t) A) {l:Sl (Sl Int)} (hC:∀x∈l.l,Cons t A x.l) (h5:l.l.length<=5000) (ae:l.l≠[]) :
 Wp (dH t l) λq=>q.2=0/\lM t (λv=>∃x∈l.l,x.l=v) q.1:=by
 have am:=hV.few;have ak:=hV.ok.one;have w:0<l.l.length:=List.length_pos_iff.2 ae;have W:∀p,p<t.procs.l.length->fG t p<1073741824:=λp B=>by rw[kj B];exact(hS.2 _ (List.getElem_mem B)).1
 have X:∀k (hk:k<l.l.length),Cons t A l.l[k].l:=λk hk=>hC _ (List.getElem_mem hk)
 have C:∀k (hk:k<l.l.length),l.l[k].l.length=t.procs.l.length:=λk hk=>(X k hk).1.1
 suffices h:Wp (dH t l) λq=>q.2=0/\lM t (fU l l.l.length) q.1 by
  obtain⟨b,hb,af,h⟩:=h;have e:∀v,fU l l.l.length v↔∃x∈l.l,x.l=v:=λv=>by
   constructor
   .rintro⟨j,_,x,G,rfl⟩;exact⟨x,List.mem_of_getElem? G,rfl⟩
   rintro⟨x,G,rfl⟩;obtain⟨j,U⟩:=List.mem_iff_getElem?.1 G;exact⟨j,(ζe.1 U).1,x,U,rfl⟩
  refine⟨b,hb,af,h.e,h.f.iff e,h.l.iff e,h.j,λp r hr=>⟨(h.r p r hr).1,λi c hc=>?_⟩⟩
  rcases (h.r p r hr).2 i c hc with⟨k1,k2⟩|⟨⟨v,k1,k2⟩,k3⟩
  .exact .inl ⟨k1,λv hv=>k2 v ((e v).2 hv)⟩
  exact .inr ⟨⟨v,(e v).1 k1,k2⟩,k3.iff λv=>and_congr_left λ_=>e v⟩
 have h0:idx l 0=some l.l[0]:=bO (i:=0) w;have Y:=C 0 w;obtain⟨d,hd,Z⟩:=MT (c:=l.l[0]) Za Za
 have hd:=Oo hd;have aa:c6 l (λz=>jy z t)=some false:=by
  rw[kS (f:=λ_=>false) (λx G=>by
   obtain⟨z,hz,ah⟩:=fZ.eq (Pk hS hv hV hM x);unfold jy;rw[hz,ah.2 (hC x G)];rfl) Za]
  exact congrArg some (List.any_eq_false.2 λx _=>by simp)
 unfold dH;rw[hv,ζb,bY,show decide ((len l)>5000)=false from decide_eq_false (by simp[len];omega),b8,aa,ζb,b8,show ((len l)==0)=false from by simp[len];omega,b8,h0,ζb,hd,ζb,ζb,hd,ζb]
 unfold dH.W1;refine jK t.procs.l.length (λp (q:Int×Slice×Slice)=>q.1=(p:Int)/\q.2.2.empty=false/\q.2.2.first=d/\q.2.2.last=d/\q.2.2.j.l.length=p/\∀D r,q.2.2.j.l[D]? = some r->r=(Sl.row (List.replicate (fG t D) Sl.nil):Sl (Sl Int))) ⟨rfl,rfl,rfl,rfl,rfl,λD r h=>by simp[Sl.l]at h⟩ ?_ ?_
 .rintro p ⟨_,vb,s⟩ B ⟨e,i1,i2,i3,i4,i5⟩;simp only at e i1 i2 i3 i4 i5;subst e;have al:=W p B;have ai:t.procs.l[p].events.l.length=fG t p:=(kj B).symm;have aj:iX (len t.procs.l[p].events) (Sl.nil:Sl Int)=some (.row (List.replicate (fG t p) .nil)):=by
   unfold iX;rw[if_pos ⟨by simp[len],by simp[len];omega⟩];simp[len,ai]
  obtain⟨j',U,ab⟩:=oP (s:=s.j) (x:=(.row (List.replicate (fG t p) .nil):Sl (Sl Int))) Za
  unfold dH.bA;rw[nT B,bY,bO B,ζb,aj,ζb];show Wp ((eA s.j _).bind _) _;rw[U,ζb,bk];refine⟨cW p Za,i1,i2,i3,by show j'.l.length=_;rw[ab];simp[i4],λD r hr=>?_⟩
  change j'.l[D]? = some r at hr;rw[ab]at hr
  by_cases h:D<s.j.l.length
  .rw[List.getElem?_append_left h]at hr;exact i5 D r hr
  have:D=p:=by
   have:=(ζe.1 hr).1;simp at this;omega
  subst this;rw[<-i4,List.getElem?_concat_length]at hr;cases hr;rw[i4]
 rintro⟨_,vb,s⟩ ⟨e,i1,i2,i3,i4,i5⟩;simp only at e i1 i2 i3 i4 i5;subst e;unfold dH.bA;rw[nW,b8,bk];show Wp (dH.W2 l (len l) 0 _ s) _;unfold dH.W2;have nf:∀v,¬fU l 0 v:=λv ⟨j,U,_⟩=>absurd U Za
 have I:AQ t l 0 0 0 s.j:=⟨i4,λq r hr=>⟨_,i5 q r hr,by simp,λm c hc=>by
  rw[if_neg Za]
  rw[List.getElem?_replicate]at hc;split at hc
  .cases hc;exact .inl ⟨rfl,λv hv=>absurd hv (nf v)⟩
  cases hc⟩⟩
 refine jK l.l.length (λk (q:Int×Slice×Slice)=>q.1=(k:Int)/\q.2.2.empty=false/\jl t.procs.l.length (λv=>v=l.l[0].l\/fU l k v) q.2.2.first.l/\mz t.procs.l.length (λv=>v=l.l[0].l\/fU l k v) q.2.2.last.l/\AQ t l k 0 0 q.2.2.j)
  ⟨rfl,i1,(by simp only[i2,Z];exact(jl.one Y).iff λv=>⟨.inl,λh=>h.resolve_right (nf v)⟩),(by simp only[i3,Z];exact(mz.one Y).iff λv=>⟨.inl,λh=>h.resolve_right (nf v)⟩),I⟩ ?_ ?_
 .rintro k ⟨_,vb,s⟩ hk ⟨e,k1,k2,k3,k4⟩;simp only at e k1 k2 k3 k4;subst e;have u:=C k hk;have hm:=E5 (a:=s.first) (b:=l.l[k]) (by rw[k2.1,u]) (by rw[k2.1];omega)
  obtain⟨x,G,J⟩:=ND (a:=s.last) (b:=l.l[k]) (by rw[k3.1,u]) (by rw[k3.1];omega)
  have J:x.l=List.zipWith kU s.last.l l.l[k].l:=J;have ad:=X k hk;obtain⟨y,hy,y1,y2,y3,y4,y5⟩:=MN (c:=l.l[k]) (f:=λx s=>eW x s l.l[k]) (s:=(⟨s.empty,.row (List.zipWith j8 s.first.l l.l[k].l),x,s.j⟩:Slice))
   (Q:=λy=>y.1=true/\y.2.empty=false/\y.2.first=.row (List.zipWith j8 s.first.l l.l[k].l)/\y.2.last=x/\AQ t l (k+1) 0 0 y.2.j)
   (λp i L=>L.empty=false/\L.first=.row (List.zipWith j8 s.first.l l.l[k].l)/\L.last=x/\AQ t l k p i L.j) Za
   (λp B=>by have:=(gO ad (u▸B)).2;have:=W p (u▸B);omega) ⟨k1,rfl,rfl,k4⟩
   (λp i L B hi ⟨g1,g2,g3,g4⟩=>(S8 hS hk ad (u▸B) hi g4).mono λy ⟨O,S,T,w4,w5⟩=>⟨λ_=>⟨S.trans g1,T.trans g2,w4.trans g3,w5⟩,λh=>by rw[O]at h;cases h⟩)
   (λp i L B an ⟨g1,g2,g3,g4⟩=>⟨g1,g2,g3,g4.n,λq r hr=>by
    obtain⟨rl,O,S,T⟩:=g4.r q r hr;refine⟨rl,O,S,λm c hc=>?_⟩
    have:=T m c hc
    by_cases e:q<p\/q=p/\m<i
    .rw[if_pos e]at this;rw[if_pos Za];exact this
    rw[if_neg e]at this
    by_cases e2:q=p
    .subst e2;rw[if_pos Za];exact this.skip hk Za
    rw[if_neg Za];exact this⟩)
   (λL ⟨g1,g2,g3,g4⟩=>⟨rfl,g1,g2,g3,g4.n,λq r hr=>by
    obtain⟨rl,O,S,T⟩:=g4.r q r hr;refine⟨rl,O,S,λm c hc=>?_⟩
    have hq:q<t.procs.l.length:=by rw[<-g4.n];exact(ζe.1 hr).1
    have:=T m c hc;rw[if_pos (.inl (by rw[u];exact hq))]at this
    rw[if_neg Za];exact this⟩)
  unfold dH.b7;rw[nT hk,bY,bO hk,ζb,hm,ζb,G,ζb,hy,ζb,bk];have sc:∀v,(v=l.l[0].l\/fU l k v)\/v=l.l[k].l↔v=l.l[0].l\/fU l (k+1) v:=λv=>by rw[fU.succ hk,or_assoc]
  exact⟨cW k Za,y2,by show jl _ _ y.2.first.l;rw[y3];exact(k2.meet u).iff sc,by show mz _ _ y.2.last.l;rw[y4,J];exact(k3.join u).iff sc,y5⟩
 rintro⟨_,vb,s⟩ ⟨e,k1,k2,k3,k4⟩;simp only at e k1 k2 k3 k4;subst e;unfold dH.b7;rw[nW,b8,bk];have hz:∀v,v=l.l[0].l\/fU l l.l.length v↔fU l l.l.length v:=λv=>⟨λh=>h.elim (λe=>⟨0,w,_,ζd w,e.symm⟩) id,.inr⟩
 refine(bk _).2 ⟨rfl,k1,k2.iff hz,k3.iff hz,k4.n,λp r hr=>?_⟩
 obtain⟨rl,O,S,T⟩:=k4.r p r hr;subst O;refine⟨S,λi c hc=>?_⟩
 have:=T i c hc;rw[if_neg Za]at this
 exact this.Vz
end
theorem HY (s:Sl (Sl Int)):(ins s).length=s.l.length:=by unfold ins;simp
theorem Ra (s:Sl (Sl Int)) (i:Nat):(ins s)[i]? = (s.l[i]?).map Sl.l:=by grind[ins]
theorem KS {s:Sl (Sl Int)} {i:Nat} (h:i<s.l.length):(ins s)[i]? = some s.l[i].l:=by rw[Ra,ζd h];rfl
section
variable {t:Trace} {A:bU 200 br}
structure wk (t:Trace) (A:bU 200 br) (L:List (List Int)):Prop where
 srt:L.Pairwise jY
 mem:∀d,d∈L↔Cons t A d
def Qv (t:Trace) (A:bU 200 br):Prop:=∃L:a_ (a_ Int),L.Nodup/\(∀d∈L,Cons t A d)/\5000<L.length
theorem wk.one {L R:a_ (a_ Int)} (h:wk t A L) (k:wk t A R):L=R:=Bf h.srt k.srt λx=>(h.mem x).trans (k.mem x).symm
theorem wk.not {L:a_ (a_ Int)} (h:wk t A L) (B:L.length<=5000) (k:Qv t A):False:=by
 obtain⟨R,nd,w,u⟩:=k;have:=AH nd λx z=>(h.mem x).2 (w x z)
 omega
end
end Go.VE
