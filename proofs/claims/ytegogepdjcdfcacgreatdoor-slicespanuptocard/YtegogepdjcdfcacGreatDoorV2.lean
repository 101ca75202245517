/-
 The engine: operations of the loaded code on values without a heap; a run of it is a run of the program.
-/
import Derived.Shelf.SlSortCmp.Kit1
import Derived.Sort.AssemblyPlain
import Derived.RangeFuncLeaves
import Derived.Laws.StructEq
import Derived.ChangeKeysEq
import Derived.Test.YtegogepdjcdfcacGreatDoorV1
set_option linter.all false
namespace Go.VE
variable [bO]
theorem tO {f g:V->bf V} (h:∀x y,f x=some y->g x=some y):∀{l:a_ V} {r:a_ V},iy f l=some r->iy g l=some r
 | [],_,hr=>hr
 | x::l,r,hr=>by
  simp only[iy]at hr ⊢;split at hr
  next y s h1 u=>rw[h _ _ h1,tO h u];exact hr
  cases hr
theorem Hv {f g:V->bf V} (h:∀x y,f x=some y->g x=some y):∀{l:a_ (a_ V)} {r:a_ (a_ V)},kY f l=some r->kY g l=some r
 | [],_,hr=>hr
 | x::l,r,hr=>by
  simp only[kY]at hr ⊢;split at hr
  next y s h1 u=>rw[tO h h1,Hv h u];exact hr
  cases hr
theorem Gu {f g:V->bf V} (h:∀x y,f x=some y->g x=some y):∀{l:a_ (V×V)} {r:a_ (V×V)},kU f l=some r->kU g l=some r
 | [],_,hr=>hr
 | (k,x)::l,r,hr=>by
  simp only[kU]at hr ⊢;split at hr
  next y s u h1 B D=>rw[h _ _ h1,h _ _ B,Gu h D];exact hr
  cases hr
theorem Jn {H:bn}:∀(n:Nat) (x y:V),borrow n H x=some y->borrow (n+1) H x=some y:=by
 intro n
 induction n with
 | zero=>
  grind[borrow,kM]
 | succ n t=>
  intro x y h;unfold borrow at h ⊢;split
  .grind
  rename_i hc;rw[if_neg hc]at h
  cases x with
  | hsl id es off len=>
   simp only at h ⊢;split at h
   .split at h
    next q=>rw[if_pos q];obtain⟨r,h1,u⟩:=ζf.1 h;rw[Hv t h1];grind
    cases h
   cases h
  | hptr id el off=>
   simp only at h ⊢;split at h
   .split at h
    .split at h
     next q=>rw[if_pos q];obtain⟨r,h1,u⟩:=ζf.1 h;rw[tO t h1];grind
     cases h
    cases h
   cases h
  | hmap id=>
   simp only at h ⊢;split at h
   .obtain⟨r,h1,u⟩:=ζf.1 h;rw[Gu t h1];grind
   cases h
  | clo f a b=>
   grind[tO]
  | agg cs=>
   simp only at h ⊢;obtain⟨r,h1,u⟩:=ζf.1 h;rw[tO t h1];grind
  | tup cs=>
   simp only at h ⊢;obtain⟨r,h1,u⟩:=ζf.1 h;rw[tO t h1];grind
  | _=>cases h
theorem rL {H:bn} {n m:Nat} (h:n<=m) {x y:V} (u:borrow n H x=some y):borrow m H x=some y:=by
 induction h with
 | refl=>exact u
 | step _ t=>grind[Jn]
theorem rV {H:bn} {n m:Nat} (h:n<=m) {l r:a_ V} (u:borrows n H l=some r):borrows m H l=some r:=tO (λ_ _=>rL h) u
theorem BN {f g:V->a_ Nat}:∀{l:a_ V},(∀x∈l,f x=g x)->cN f l=cN g l
 | [],_=>rfl
 | x::l,h=>by simp only[cN];rw[h x (List.mem_cons_self ..),BN λy u=>h y (List.mem_cons_of_mem _ u)]
theorem rj {f:V->bf V}:∀{l r:a_ V},iy f l=some r->∀x∈l,∃y,f x=some y
 | [],_,_,x,hx=>by cases hx
 | a::l,r,h,x,hx=>by
  simp only[iy]at h;split at h
  .rename_i y s h1 u;rcases List.mem_cons.1 hx with rfl|hx
   .grind
   exact rj u x hx
  cases h
theorem EK {f:V->bf V}:∀{l r:a_ (a_ V)},kY f l=some r->∀c∈l,∀x∈c,∃y,f x=some y
 | [],_,_,x,u=>by cases u
 | a::l,r,h,c,hc=>by
  simp only[kY]at h;split at h
  .rename_i y s h1 B;rcases List.mem_cons.1 hc with rfl|hc
   .exact rj h1
   exact EK B c hc
  cases h
theorem Ag {f:V->bf V}:∀{l r:a_ (V×V)},kU f l=some r->∀c∈l,(∃y,f c.1=some y)/\∃y,f c.2=some y
 | [],_,_,x,B=>by cases B
 | (k,a)::l,r,h,c,hc=>by
  simp only[kU]at h;split at h
  .rename_i y s u h1 G D;rcases List.mem_cons.1 hc with rfl|hc
   .grind
   exact Ag D c hc
  cases h
theorem LU {H:bn}:∀(n:Nat) (x y:V),borrow n H x=some y->b7 (n+1) H x=b7 n H x:=by
 intro n
 induction n with
 | zero=>
  simp_all[borrow,b7]
 | succ n z=>
  intro x y h;have t:∀l:a_ V,(∀x∈l,∃y,borrow n H x=some y)->cN (b7 (n+1) H) l=cN (b7 n H) l:=λl B=>BN λx w=>by
   grind
  unfold borrow at h;rw[b7.eq_def (n+1+1),b7.eq_def (n+1)];simp only;split
  .rfl
  rename_i hc;rw[if_neg hc]at h
  cases x with
  | hsl id es off len=>
   grind[ζf,List.mem_flatten,EK]
  | hptr id el off=>
   grind[ζf,rj]
  | hmap id=>
   simp only at h ⊢;split at h
   .rename_i u hk;obtain⟨r,h1,C⟩:=ζf.1 h
    skip
    rw[t (u.map (·.1)) λx w=>by obtain⟨c,hc,rfl⟩:=List.mem_map.1 w;grind[Ag],
     t (u.map (·.2)) λx w=>by obtain⟨c,hc,rfl⟩:=List.mem_map.1 w;grind[Ag]]
   cases h
  | clo f a b=>
   grind[rj]
  | agg cs=>
   grind[ζf,rj]
  | tup cs=>
   grind[ζf,rj]
  | _=>rfl
theorem OL {H:bn} {n m:Nat} (h:n<=m) {x y:V} (u:borrow n H x=some y):b7 m H x=b7 n H x:=by
 induction h with
 | refl=>rfl
 | step h t=>rw[LU _ _ _ (rL h u),t]
theorem yj {H:bn} {n m:Nat} (h:n<=m) {l r:a_ V} (u:borrows n H l=some r):cN (b7 m H) l=cN (b7 n H) l:=
 BN λx t=>by obtain⟨y,w⟩:=rj u x t;grind[OL]
theorem nP {f g h:V->bf V} (k:∀x y z,f x=some y->g x=some z->h x=some z):∀{l r s:a_ V},iy f l=some r->iy g l=some s->iy h l=some s
 | [],_,_,_,u=>u
 | x::l,r,s,hr,u=>by
  simp only[iy]at hr u ⊢;split at hr
  .rename_i h1 B;split at u
   next D G=>rw[k _ _ _ h1 D,nP k B G];exact u
   cases u
  cases hr
theorem DA {f g h:V->bf V} (k:∀x y z,f x=some y->g x=some z->h x=some z):∀{l r s:a_ (a_ V)},kY f l=some r->kY g l=some s->kY h l=some s
 | [],_,_,_,u=>u
 | x::l,r,s,hr,u=>by
  simp only[kY]at hr u ⊢;split at hr
  .rename_i h1 B;split at u
   next D G=>rw[nP k h1 D,DA k B G];exact u
   cases u
  cases hr
theorem CC {f g h:V->bf V} (k:∀x y z,f x=some y->g x=some z->h x=some z):∀{l r s:a_ (V×V)},kU f l=some r->kU g l=some s->kU h l=some s
 | [],_,_,_,u=>u
 | (a,x)::l,r,s,hr,u=>by
  simp only[kU]at hr u ⊢;split at hr
  .rename_i h1 B D;split at u
   next G J O=>rw[k _ _ _ h1 G,k _ _ _ B J,CC k D O];exact u
   cases u
  cases hr
theorem Jm {H H2:bn}:∀(n m:Nat) (x y z:V),borrow n H x=some y->borrow m H2 x=some z->(∀id:Nat,(H2[id]?).isSome=true->H2[id]? = H[id]?)->borrow n H2 x=some z:=by
 intro n
 induction n with
 | zero=>
  grind[borrow,kM]
 | succ n D=>
  intro m x y z h k u
  by_cases hc:x.closed=true
  .rw[kM _ _ hc]at k ⊢;exact k
  cases m with
  | zero=>grind[borrow]
  | succ m=>
   have t:∀x y z,borrow n H x=some y->borrow m H2 x=some z->borrow n H2 x=some z:=λx y z a b=>D m x y z a b u
   unfold borrow at h k ⊢;rw[if_neg hc]at h k ⊢;have row:∀id q,(H2[id]?).bind Ob.rows=some q->(H[id]?).bind Ob.rows=some q:=λid q w=>by
    rw[<-u id (by cases B:H2[id]? with|none=>rw[B]at w;cases w|some _=>rfl)];exact w
   cases x with
   | hsl id es off len=>
    simp only at h k ⊢;split at k
    .rename_i hr;rw[row _ _ hr]at h;simp only at h;split at k
     next q=>rw[if_pos q]at h ⊢;obtain⟨r,h1,_⟩:=ζf.1 h;obtain⟨s,k1,k2⟩:=ζf.1 k;rw[DA t h1 k1];grind
     cases k
    cases k
   | hptr id el off=>
    simp only at h k ⊢;split at k
    .rename_i hr;rw[row _ _ hr]at h;simp only at h;split at k
     .rename_i C;rw[C]at h;simp only at h;split at k
      next q=>rw[if_pos q]at h ⊢;obtain⟨r,h1,_⟩:=ζf.1 h;obtain⟨s,k1,k2⟩:=ζf.1 k;rw[nP t h1 k1];grind
      cases k
     cases k
    cases k
   | hmap id=>
    simp only at h k ⊢;split at k
    .rename_i hr;rw[<-u id (by rw[hr];rfl),hr]at h
     simp only at h;obtain⟨r,h1,_⟩:=ζf.1 h;obtain⟨s,k1,k2⟩:=ζf.1 k;rw[CC t h1 k1];grind
    cases k
   | clo f a b=>
    simp only at h k ⊢;split at h
    .rename_i h1 B;split at k
     next k1 k2=>rw[nP t h1 k1,nP t B k2];exact k
     cases k
    cases h
   | agg cs=>
    simp only at h k ⊢;obtain⟨r,h1,_⟩:=ζf.1 h;obtain⟨s,k1,k2⟩:=ζf.1 k;rw[nP t h1 k1];grind
   | tup cs=>
    simp only at h k ⊢;obtain⟨r,h1,_⟩:=ζf.1 h;obtain⟨s,k1,k2⟩:=ζf.1 k;rw[nP t h1 k1];grind
   | _=>cases h
end Go.VE
namespace Go.VE
variable [bO]
open Go.Proofs Go.Sort
structure AZ (P:Program) (f:FuncId):Prop where
 ok:yu P f
 zero:∀(p:Option Addr) (cap:Nat) (fv:Value) (w:World),Calls P f #[.slice p 0 cap,fv] w λe w'=>e=.returned (.tuple #[])/\w'=w
 all:∀{α:Type} [Inhabited α] (enc:α->Value) (_:OneCell enc) (cf:α->α->Int) (_:SWO (ltOf cf)) (g:Nat) (cb:Array Value) (blk off cap:Nat) (d:Array α) (w:World)
  (_:∀args w,(callFunc g args).run P w=.ok (.enter g args) w) (_:CmpLays1 P g cb enc cf blk off d.size w) (_:Holds enc w blk off d) (_:blk<w.heap.size) (_:d.size<4611686018427387904),
  Calls P f #[.slice (some ⟨blk,off,none⟩) d.size cap,.func (.func g) #[] cb] w λe w'=>
   e=.returned (.tuple #[])/\∃n os,w'=sortWorld enc w blk off n (pdq (ltOf cf) d 0 d.size (Lib.bitLen d.size) true true) os
theorem JV {α:Type} [Inhabited α] (lt:α->α->Bool):∀(k i:Nat) (d:Array α),Ie lt k i d=insOuter lt 0 (i+k) i d
 | 0,i,d=>by rw[insOuter];simp[Ie]
 | k+1,i,d=>by
  rw[insOuter,Ie,JV lt k]
  grind
theorem BJ (n:Nat) (lt:Fin (n+1)->Fin (n+1)->Bool):pT n lt=pdq lt (List.finRange (n+1)).toArray 0 (n+1) (Lib.bitLen (n+1)) true true:=by
 unfold pT;split
 .rw[pdq,if_pos Za,insertionSort,JV,Nat.add_comm 1 n]
 rfl
theorem p9 {n:Nat} {t:Fin (n+1)->Fin (n+1)->bf Int} (h:AQ t=true):(∀i j,∃c,t i j=some c)/\SWO (oL t):=by
 have u:∀(p:Fin (n+1)->Bool),(List.finRange (n+1)).all p=true->∀i,p i=true:=λp h i=>List.all_eq_true.1 h i (List.mem_finRange i)
 have h1:=λi=>u _ h i
 simp only[ζh,Bool.not_eq_true']at h1;have w:=λi j=>u _ (h1 i).2 j
 simp only[ζh]at w;have z:=λi j k=>u _ (w i j).2 k
 refine⟨λi j=>Option.isSome_iff_exists.1 (w i j).1,λi=>(h1 i).1,λi j k a b=>?_,λi j k a b=>?_⟩
 .have:=z i j k;grind
 grind
section
variable {P:Program} {I I':ck} {μ μ':Mu} {H H':bn} {w w':World}
theorem Fi (w:World) (os:Array Obj) (b:Nat) (h:b<w.heap.size):(grow w os).heap[b]? = w.heap[b]? := by
 unfold grow;grind
theorem Calls.fr {f:FuncId} {args:Array Value} {R:Ending->World->Prop} (h:Calls P f args w R):CallsIn (fr none) 0 P f args w R:=callsIn_wide.2 h
theorem CallsIn.un {f:FuncId} {args:Array Value} {R:Ending->World->Prop} (h:CallsIn (fr none) 0 P f args w R):Calls P f args w R:=callsIn_wide.1 h
theorem OT {p:Pl} {c:Array Value} {xs:a_ (a_ V)} (B:p.es=1) (D:c.size=p.sz) (hr:p.o+xs.length<=c.size)
 (h:∀(i:Nat) x,xs[i]? = some x->∃v u,x=[v]/\V.one v=true/\c[p.o+i]? = some u/\bE I μ v u):fU I μ p c 1 xs:=by
 have hu:∀x∈xs,x.length=1:=λx t=>by
  obtain⟨i,z⟩:=List.getElem?_of_mem t
  grind
 have C:xs.flatten.length=xs.length:=by rw[fu hu,Nat.mul_one]
 refine⟨B,D,hu,λx t y G=>?_,by omega,⟨?_,λj a b h1 J=>?_⟩⟩
 .obtain⟨i,z⟩:=List.getElem?_of_mem t
  grind
 .grind
 have w:j<xs.length:=by have:=(ζe.1 h1).1;omega
 obtain⟨v,u,e,_,L,O⟩:=h j xs[j] (by simp[w])
 have:=we  hu (i:=j) (j:=0) (x:=xs[j])  (by simp[w]) (by rw[e];rfl)
 simp_all
theorem vJ {p:Pl} {c:Array Value} {xs:a_ (a_ V)} (r:fU I μ p c 1 xs) (i:Nat) {x:a_ V} (h:xs[i]? = some x):∃v u,x=[v]/\V.one v=true/\c[p.o+i]? = some u/\bE I μ v u:=by
 have t:=List.mem_of_getElem? h;obtain⟨v,rfl⟩:=List.length_eq_one_iff.1 (r.oK x t);have z:=(ζe.1 h).1;have w  := by have:=r.room;omega
 refine⟨v,c[p.o+i],rfl,r.one _ t v Zc,by simp_all,?_⟩
 exact r.idx  (j:=0) h rfl (by simp_all)
theorem RU {α:Type} [Inhabited α] (enc:α->Value) (blk o m:Nat) (u:Array α) (os:Array Obj) {b:Nat} (D:b<w.heap.size) (B:b≠blk):(sortWorld enc w blk o m u os).heap[b]? = w.heap[b]? := by
 unfold sortWorld;rw[Fi _ _ _ (by simp_all)]
 simp[putRow,mapBlock,Sort.ahead,Array.getElem?_modify,if_neg (Ne.symm B)]
theorem Jl {α:Type} [Inhabited α] (enc:α->Value) {blk:Nat} (o m:Nat) (u:Array α) {c:Array Value} {el:TypeId} (h:w.heap[blk]? = some (.cells c el)) :
 putRow enc (Sort.ahead w m) blk o u=fA (Sort.ahead w m) blk (.cells (Sort.putCells enc o u c) el):=by
 unfold putRow mapBlock fA Sort.ahead
 congr 1
 obtain⟨z,e⟩:=Array.getElem?_eq_some_iff.1 h;apply Array.ext
 .simp
 intro i h1 B
 by_cases t:i=blk
 .subst t;simp[Array.getElem_modify,e,onCells]
 grind
theorem Step.grown (st:Step I (λ_=>none) [] w I' μ' H' w'):∃q os,w'=grow (w.drewN q) os:=by
 refine⟨w'.drawn-w.drawn,w'.heap.extract w.heap.size w'.heap.size,?_⟩;have u:w'.heap=w.heap++w'.heap.extract w.heap.size w'.heap.size:=by
  apply Array.ext_getElem?;intro i
  by_cases t:i<w.heap.size
  .rw[Array.getElem?_append_left t];exact st.frame i t (by rintro⟨id,p,ob,h,_⟩;simp at h)
  rw[Array.getElem?_append_right Za]
  simp[Array.getElem?_extract]
  by_cases C:i<w'.heap.size
  .rw[if_pos Za];congr 1;omega
  rw[if_neg Za,Array.getElem?_eq_none Za]
 have h1:=st.os;have z:=st.out.out;have B:=st.out.tape;have D:=st.out.dr;unfold grow World.drewN;cases w';simp only at *;subst h1 z B;simp[World.mk.injEq];exact⟨u,by omega⟩
theorem Lu {call u:dz} {g:FuncId} {D B:a_ V} {n:Nat} (h:∀args y,b8 call g args []=some y->b8 u g args []=some y) {i j:Fin (n+1)} {z:Int} (G:iG call g D B n i j=some z):iG u g D B n i j=some z:=by
 unfold iG at G ⊢
 grind
theorem Cj {keep:FuncId->Bool} {call u:dz} (D:call.lv<=u.lv) (h:∀g args y,keep g=false->b8 call g args []=some y->b8 u g args []=some y) {args:a_ V} {r:V×bn} (hr:qf keep call args H=some r):qf keep u args H=some r:=by
 unfold qf at hr ⊢;split at hr
 .split at hr
  .omega
  .omega
  .split at hr
   .omega
   .split at hr
    .rename_i n g cb _ L Q G;split at hr
     .rename_i t;split at hr
      .rename_i I w C B;rw[rV D C,rV D B];split at hr
       .rename_i O;have e:iG u g I w n=iG call g I w n:=by
         funext i j
         obtain⟨z,J⟩:=(p9 O).1 i j;rw[J];exact Lu (λa y=>h g a y t.2.2.2.2) J
        grind
       simp_all
      simp_all
     simp_all
    simp_all
   simp_all
  simp_all
 simp_all
set_option maxHeartbeats 1000000 in
theorem SM {call:dz} (hc:kz P call) {f:FuncId} (hs:AZ P f) {args:a_ V} {r:V} {keep:FuncId->Bool} (h:qf keep call args H=some (r,H')) (s:cR I μ H w) {vs:a_ Value} (hv:cA I μ args vs) :
 CallsIn (fr none) 0 P f vs.toArray w (xT I μ H w r H'):=by
 unfold qf at h;split at h
 .rename_i sv cv;obtain⟨v1,r1,rfl,ab,aC⟩:=hv.cons_inv;obtain⟨v2,r2,rfl,aD,aE⟩:=aC.cons_inv;obtain rfl:=aE.vw;have S:∀p cap,v1=.slice p 0 cap->CallsIn (fr none) 0 P f [v1,v2].toArray w (xT I μ H w .undef H):=by
   rintro p cap rfl;refine Calls.fr ((hs.zero p cap v2 w).mono ?_);rintro e w' ⟨rfl,rfl⟩;exact⟨_,I,μ,rfl,bE.undef _ _,s,Step.refl _ _ _ _⟩
  split at h
  .cases h;exact S none 0 ab.lp
  .cases h;obtain⟨a,e⟩:=ab.rB;exact S a 0 e
  .rename_i id es off len;split at h
   .cases h;rcases ab.lB with⟨p,cap,_,_,_,_,e⟩|⟨_,a,e⟩
    .exact S _ cap e
    exact S _ 0 e
   .rename_i n g cb;split at h
    .rename_i aS O J;split at h
     .rename_i ak;obtain⟨rfl,rfl,aQ,hn,_⟩:=ak;split at h
      .rename_i Y C aF ap;split at h
       .rename_i aq;cases h;obtain⟨p,c,el,hp,hI,G,Q⟩:=s.obs id _ J;rcases ab.lB with⟨q,cap,hq,aT,aR,aG,rfl⟩|⟨h0,_⟩
        .rw[hp]at hq;cases hq;obtain⟨va,vb,rfl,hva,ar⟩:=aD.jU;have au:va=#[]:=by have:=hva.vw;simpa using this
         subst au;have al:=(ζe.1 J).1;obtain⟨sk,_⟩:=s.kill J;generalize hT:cN (b7 call.lv (H.set id .dead)) (((O.drop off).take (n+1)).flatten++cb)=T;have aH:plus I μ (H.set id .dead) w T p.b=none:=by
          cases t:plus I μ (H.set id .dead) w T p.b with
          | none=>rfl
          | some x=>
           exfalso;rcases yg (by rw[t];rfl)with h|⟨av,p',ob,_,g1,g2,g3,g4⟩
           .rw[hI]at h;cases h
           have aw:av≠id:=by
            rintro rfl;rw[List.getElem?_set_self al]at g1;cases g1;simp[Ob.live]at g2
           rw[List.getElem?_set_ne (Ne.symm aw)]at g1;exact aw (s.inj av id ob (.row 1 O) p' p g1 J g2 rfl g3 hp g4)
         let enc:Fin (n+1)->Value:=λi=>(c[p.o+off*1+i.1]?).getD undef
         have Z:∀i:Fin (n+1),∃v,O[off+i.1]? = some [v]/\V.one v=true/\bE I μ v (enc i)/\c[p.o+off*1+i.1]? = some (enc i):=λi=>by
          obtain⟨v,u,e1,e2,e3,e4⟩:=vJ Q (off+i.1) (x:=O[off+i.1]' Za) Zc
          have e5:c[p.o+off*1+i.1]? = some u:=by rw[<-e3];congr 1;omega
          have e6:enc i=u:=by show (c[p.o+off*1+i.1]?).getD undef=u;rw[e5];rfl
          exact⟨v,by rw[<-e1];simp,e2,by rw[e6];exact e4,by rw[e5,e6]⟩
         have h1:OneCell enc:=λi=>by obtain⟨v,_,e2,e3,_⟩:=Z i;exact e3.one e2
         obtain⟨ax,ad⟩:=p9 aq;obtain⟨aU,aI⟩:=iB aF;obtain⟨aJ,aK⟩:=iB ap;have ay:∀x∈(O.drop off).take (n+1),x.length=1:=λx t=>Q.oK x (List.mem_of_mem_drop (List.mem_of_mem_take t))
         have U:∀(i:Fin (n+1)) u,Y[i.1]? = some u->dW (plus I μ (H.set id .dead) w T) u (enc i):=λi u hu=>by
          obtain⟨x,t,am⟩:=aI i.1 u hu;obtain⟨v,e1,_,e3,_⟩:=Z i;have e4:((O.drop off).take (n+1))[i.1]? = some [v]:=by
           rw[List.getElem?_take,if_pos i.2,List.getElem?_drop];exact e1
          have e5:=we (es:=1) ay (i:=i.1) (j:=0) e4 rfl;have e5:((O.drop off).take (n+1)).flatten[i.1]? = some v:=by simpa using e5
          rw[e5]at t;cases t;refine(uM sk T call.lv _ u _ am (λk hk=>?_) e3).1
          rw[<-hT];exact jN (List.mem_append_left _ (List.mem_of_getElem? e5)) hk
         have aa:cA (plus I μ (H.set id .dead) w T) (λ_=>none) C vb.toList:=by
          refine⟨aJ.trans ar.1,λj a b k1 k2=>?_⟩
          obtain⟨x,t,am⟩:=aK j a k1;refine .c _ _ (uM sk T call.lv x a b am (λk hk=>?_) (ar.2 j x b t k2)).1
          rw[<-hT];exact jN (List.mem_append_right _ (List.mem_of_getElem? t)) hk
         have ae:=(Array.getElem?_eq_some_iff.1 G).1
         let d:Array (Fin (n+1)):=(List.finRange (n+1)).toArray
         have an:d.size=n+1:=by simp[d]
         have hd:∀j:Fin (n+1),d[j.1]! = j:=λj=>by simp[d,getElem!_pos]
         have hg:∀i j:Fin (n+1),∃z,iG call g Y C n i j=some z/\∃a b,Y[i.1]? = some a/\Y[j.1]? = some b/\b8 call g (a::b::C) []=some (.int .i64 z):=λi j=>by
          obtain⟨z,hz⟩:=ax i j;have W:=hz;unfold iG at W;split at W
          .rename_i a b ha X;split at W
           next z' B=>cases W;exact⟨z,hz,a,b,ha,X,B⟩
           cases W
          cases W
         have aL:yu P g:=by
          obtain⟨z,_,a,b,ha,X,B⟩:=hg 0 0;have s0:cR (plus I μ (H.set id .dead) w T) (λ_=>none) [] w:=⟨λ_ _=>rfl,tG sk T,by simp,by simp,sk.gl.mono (ov _ _ _ _ _)⟩
          exact(Dt hc B s0 (.cons (.c _ _ (U 0 a ha)) (.cons (.c _ _ (U 0 b X)) aa))).1
         have key:=hs.all enc h1 (λi j=>(iG call g Y C n i j).getD 0) ad g vb p.b (p.o+off*1) cap d w (λargs w=>xd aL args) (by
          intro m os D aV i j;obtain⟨z,hz,a,b,ha,X,B⟩:=hg i j;have s0:cR (plus I μ (H.set id .dead) w T) (λ_=>none) [] (sortWorld enc w p.b (p.o+off*1) m D os):=
           ⟨λ_ _=>rfl,λb x X=>IC.rJ (tG sk T b x X) (RU enc p.b _ m D os (IC.vj (tG sk T b x X)) (by rintro rfl;rw[aH]at X;cases X)),by simp,by simp,sk.gl.mono (ov _ _ _ _ _)⟩
          have:=CallsIn.un (Dt hc B s0 (vs:=enc i::enc j::vb.toList) (.cons (.c _ _ (U i a ha)) (.cons (.c _ _ (U j b X)) aa))).2;rw[show (enc i::enc j::vb.toList).toArray=#[enc i,enc j]++vb by apply Array.ext';simp]at this
          refine this.mono ?_;rintro e w' ⟨u,I1,μ1,rfl,hu,s1,st⟩;exact⟨by rw[hu.eX];show _=Ending.returned (.int .i64 ((iG call g Y C n i j).getD 0));rw[hz];rfl,st.grown⟩) (by
          intro j hj;have aA:j<n+1:=by omega
          obtain⟨v,_,_,_,e4⟩:=Z ⟨j,aA⟩;rw[hd ⟨j,aA⟩];exact⟨by rw[pU G];exact e4,by simp[World.frozen?,G]⟩) ae Za
         rw[an]at key;refine Calls.fr (key.mono ?_);rintro e w' ⟨rfl,m,os,rfl⟩;have aM:ltOf (λi j=>(iG call g Y C n i j).getD 0)=oL (iG call g Y C n):=rfl
         rw[aM,BJ];have af:=pdq_sorts (oL (iG call g Y C n)) ad d 0 d.size (Lib.bitLen d.size) true true (Nat.zero_le _) (Nat.le_refl _) (Or.inl rfl);rw[an]at af;have L:=af.1.1;change xT I μ H w .undef (H.set id (.row 1 (qI O off n (pdq (oL (iG call g Y C n)) d 0 (n+1) (Lib.bitLen (n+1)) true true).toList))) _ _;generalize pdq (oL (iG call g Y C n)) d 0 (n+1) (Lib.bitLen (n+1)) true true=D at L;rw[an]at L;unfold sortWorld;rw[Jl enc _ m D G];have s1:cR I μ H (Sort.ahead w m):=s.oD rfl;have aN:Step I μ H w I μ H (Sort.ahead w m):=Step.oD rfl rfl ⟨rfl,rfl,Nat.le_add_right _ _⟩;have ah:(Sort.putCells enc (p.o+off*1) D c).size=c.size:=by simp[Sort.putCells]
         have ai:∀i:Nat,(i<p.o+off*1\/p.o+off*1+(n+1)<=i)->(Sort.putCells enc (p.o+off*1) D c)[i]? = c[i]? := λi hi=>by
          simp only[Sort.putCells,Array.getElem?_mapIdx];rw[L]
          cases c[i]? with
          | none=>rfl
          | some y=>simp only[Option.map_some];rw[if_neg Za]
         have ao:∀i:Fin (n+1),(Sort.putCells enc (p.o+off*1) D c)[p.o+off*1+i.1]? = some (enc D[i.1]!):=λi=>by
          obtain⟨v,_,_,_,e4⟩:=Z i;simp only[Sort.putCells,Array.getElem?_mapIdx,e4,Option.map_some];rw[if_pos ⟨by omega,by rw[L];omega⟩]
          congr 3;omega
         have aB:=Q.room;have aO:(qI O off n D.toList).length=O.length:=by simp[qI,L];omega
         obtain⟨s2,st2⟩:=s1.write (o:=.cells (Sort.putCells enc (p.o+off*1) D c) el) (ob':=.row 1 (qI O off n D.toList)) J rfl hp
          ⟨p,_,el,hp,hI,gD _ ae,OT Q.es_eq (by rw[ah];exact Q.sz) (by rw[aO,ah];omega) λi x t=>by
           unfold qI at t
           by_cases c1:i<off
           .rw[List.append_assoc,List.getElem?_append_left (by simp;omega),List.getElem?_take,if_pos c1]at t
            obtain⟨v,u,e1,e2,e3,e4⟩:=vJ Q i t;exact⟨v,u,e1,e2,by rw[ai _ Za];exact e3,e4⟩
           by_cases c2:i<off+(n+1)
           .rw[List.getElem?_append_left (by simp[L];omega),List.getElem?_append_right (by simp;omega)]at t
            have aj:i-off<D.size:=by omega
            have e0:(O.take off).length=off:=by simp;omega
            simp only[e0,List.getElem?_map,Array.getElem?_toList]at t;rw[Array.getElem?_eq_getElem aj]at t;simp only[Option.map_some,ζa]at t;obtain⟨v,e1,e2,e3,e4⟩:=Z D[i-off];rw[e1]at t;simp only[Option.getD_some]at t;refine⟨v,enc D[i-off],t.symm,e2,?_,e3⟩;have:=ao ⟨i-off,by omega⟩
            simp only[getElem!_pos D (i-off) aj]at this;rw[<-this];congr 1;omega
           rw[List.getElem?_append_right (by simp[L];omega),List.getElem?_drop]at t
           have e0:off+(n+1)+(i-((O.take off)++D.toList.map (λi=>(O[off+i.1]?).getD [])).length)=i:=by simp[L];omega
           rw[e0]at t;obtain⟨v,u,e1,e2,e3,e4⟩:=vJ Q i t;exact⟨v,u,e1,e2,by rw[ai _ Za];exact e3,e4⟩⟩
         have hk:∀b,b<(fA (Sort.ahead w m) p.b (.cells (Sort.putCells enc (p.o+off*1) D c) el)).heap.size->(grow (fA (Sort.ahead w m) p.b (.cells (Sort.putCells enc (p.o+off*1) D c) el)) os).heap[b]? = (fA (Sort.ahead w m) p.b (.cells (Sort.putCells enc (p.o+off*1) D c) el)).heap[b]? := λb X=>Fi _ _ _ X
         have aP:=Step.kept (I:=I) (μ:=μ) (H:=H.set id (.row 1 (qI O off n D.toList))) hk (by simp[grow]) rfl ⟨rfl,rfl,Nat.le_refl _⟩ (λa ha h=>by unfold World.frozen? at h ⊢;rw[hk _ ha];exact h)
         exact⟨_,I,μ,rfl,bE.undef _ _,s2.kept hk,Step.trans s1 aN (Step.trans s2 st2 aP)⟩
        cases h0
       cases h
      cases h
     cases h
    cases h
   cases h
  cases h
 cases h
end
def vW (P:Program) (f:FuncId) (args:a_ V) (y:V):Prop:=yu P f/\∀I μ H w t,cR I μ H w->cA I μ args t->CallsIn (fr none) 0 P f t.toArray w (xT I μ H w y H)
theorem Nb {P:Program} {call:dz} (hc:kz P call) {f:FuncId} {b:Bool} {H':bn} (h:call (.fn f) [] []=some (.bool b,H')):vW P f [] (.bool b):=by
 have t:∀H,b8 call f [] H=some (.bool b):=by
  intro H;unfold b8;rw[show borrows call.lv H []=some []from rfl];simp only[h,kM _ H' (show (V.bool b).closed=true from rfl)];rfl
 refine⟨?_,λI μ H w u s hv=>(Dt hc (t H) s hv).2⟩
 obtain⟨h1,_⟩:=hc.fn _ _ _ _ _ h;omega
structure UT (P:Program) (E:Env):Prop where
 sort:∀f,E.sort f=true->AZ P f
 known:∀f args y,E.known f args=some y->vW P f args y
end Go.VE
namespace Go.VE
variable [bO]
section
variable {P:Program} {E:Env} {I I':ck} {μ μ':Mu} {H H':bn} {n B:Nat} {F F':Frame} {a:Act} {w w':World}
theorem Jy:∀(F:Frame) (t:Nat),F.length<=t->get F t=.undef
 | [],_,_=>rfl
 | _::_,0,h=>by simp_all
 | _::r,i+1,h=>Jy r i Zd
theorem Hf:∀(F:Frame) (t:Nat) (x:V),F[t]? = some x->get F t=x
 | [],_,_,h=>by simp_all
 | _::_,0,_,h=>by simpa [get]using h
 | _::r,i+1,x,h=>Hf r i x Zd
theorem Lh (hg:tZ I) {args:a_ V} {vs:a_ Value} {nt:Nat} (h:cA I μ args vs) (B:args.length<=nt) :
 dP I μ nt args (vs.toArray++Array.replicate (nt-vs.toArray.size) undef):=by
 have u  := h.1;refine⟨by simp_all,λt=>?_,hg⟩
 by_cases C:t<args.length
 .have h1:args[t]? = some args[t]:=by simp_all
  have w:t<vs.length:=by omega
  have z:vs[t]? = some vs[t]:=by simp_all
  rw[Hf _ _ _ h1];have:(vs.toArray++Array.replicate (nt-vs.toArray.size) undef).getD t undef=vs[t]:=by
   rw[Array.getD_eq_getD_getElem?,Array.getElem?_append_left Zd]
   simp_all
  rw[this];exact h.2 t _ _ h1 z
 rw[Jy _ _ Za]
 have:(vs.toArray++Array.replicate (nt-vs.toArray.size) undef).getD t undef=undef:=by
  rw[Array.getD_eq_getD_getElem?,Array.getElem?_append_right (by simp_all),Array.getElem?_replicate]
  grind
 rw[this];exact bE.undef _ _
theorem Qz (r:dP I μ n F a.tmps) {t:Nat} {x:V} {v:Value} (u:t<n) (h:bE I μ x v):dP I μ n (set F t x) (a.tmps.setIfInBounds t v):=by
 have:=dP.put  (dst:=some t) r h (F':=set F t x) (by simp[jt,u])
 simpa [Act.put]using this
theorem Be:∀(ps:a_ Nat) (xs:a_ V) (vs:a_ Value) (F:Frame) (tmps:Array Value),dP I μ n F tmps->cA I μ xs vs->ps.all (·<n)=true ->
 dP I μ n (yd ps xs F) ((ps.zip vs).foldl (λtmps (t,a)=>tmps.setIfInBounds t a) tmps)
 | [],_,_,F,tmps,r,_,_=>by simpa [yd]using r
 | t::ps,[],[],F,tmps,r,_,_=>by simpa [yd]using r
 | t::ps,[],v::vs,F,tmps,r,h,_=>by have:=h.1;grind
 | t::ps,x::xs,[],F,tmps,r,h,_=>by have:=h.1;grind
 | t::ps,x::xs,v::vs,F,tmps,r,h,u=>by
  simp only[List.all_cons,ζh,decide_eq_true_eq]at u;have w  := h.2 0 x v rfl rfl;have z:cA I μ xs vs:=⟨by have:=h.1;grind,λj a b h1 B=>h.2 (j+1) a b Zd Zd⟩
  exact Be ps xs vs _ _ (Qz (a:={ tmps:=tmps,defers:=[] }) r u.1 w) z u.2
theorem Gz {α β:Type} (g:α->Sem β):∀(l:a_ α) (w:World) (u:a_ β),u.length=l.length->(∀(j:Nat) x y,l[j]? = some x->u[j]? = some y->(g x).run P w=.ok y w)->(l.mapM g).run P w=.ok u w
 | [],w,[],_,_=>by simp
 | [],w,_::_,h,_=>by simp_all
 | _::_,w,[],h,_=>by simp_all
 | x::l,w,y::u,h,hg=>by
  have B:=hg 0 x y rfl rfl;have t:=Gz g l w u Zd (λj a b h1 z=>hg (j+1) a b Zd Zd)
  simp_all
def KG (tmps:Array Value):ResultVar->Sem Value
 | .tmp t=>pure (tmps.getD t undef)
 | .cell a t=>do loadVar t (<-asAddr (tmps.getD a undef))
theorem Lv (fn:Func) (tmps:Array Value):results fn tmps=(fn.results.mapM (KG tmps) >>= λvs=>pure (if h:vs.size=1 then vs[0]else .tuple vs)):=by
 congr 1
theorem Ko (W:dU P E) {fn:Func} {tmps:Array Value} (r:dP I μ n F tmps) (s:cR I μ H w) {vs:a_ V} (h:iY E F H fn.results.toList=some vs) :
 ∃u,(results fn tmps).run P w=.ok u w/\bE I μ (result vs) u:=by
 have key:∀(l:a_ ResultVar) (vs:a_ V),iY E F H l=some vs->∃z:a_ Value,z.length=l.length/\cA I μ vs z /\
  ∀(j:Nat) x y,l[j]? = some x->z[j]? = some y->(KG tmps x).run P w=.ok y w:=by
  intro l
  induction l with
  | nil=>intro vs h;simp[iY]at h;subst h;exact⟨[],rfl,.nil,by simp⟩
  | cons x l U=>
   intro vs h
   cases x with
   | tmp t=>
    simp only[iY,ζf]at h;obtain⟨D,h,rfl⟩:=h;obtain⟨z,h1,C,Q⟩:=U D h;refine⟨tmps.getD t undef::z,by simp_all,.cons (r.2 t) C,?_⟩
    intro j x y J L
    cases j with
    | zero=>simp at J L;subst J;subst L;simp[KG]
    | succ j=>grind
   | cell p t=>
    simp only[iY]at h;split at h
    .rename_i d D hd S;simp only[ζf]at h;obtain⟨v,hv,rfl⟩:=h;obtain⟨z,h1,C,Q⟩:=U D S;obtain⟨u,_,hu,X,T,G⟩:=Cn W s hd (r.2 p) hv;refine⟨u::z,by simp_all,.cons hu C,?_⟩
     intro j x y J L
     cases j with
     | zero=>
      simp only[List.getElem?_cons_zero,ζa]at J L;subst J;subst L;have e:(do loadVar t (<-asAddr (tmps.getD p undef))).run P w=(loadVar t X).run P w:=by rw[Sem.run_bind,T];rfl
      exact e.trans G
     | succ j=>grind
    grind
 obtain⟨z,h1,C,Q⟩:=key _ _ h;have Z:=Gz  _ fn.results.toList w z h1 Q;have Y:(fn.results.mapM (KG tmps)).run P w=.ok z.toArray w:=by
  rw[Array.mapM_eq_mapM_toList];simp_all
 have O:z.length=vs.length:=C.1.symm;rw[Lv,Sem.run_bind,Y]
 by_cases B:z.length=1
 .obtain⟨u,rfl⟩:=List.length_eq_one_iff.1 B;obtain⟨v,rfl⟩:=List.length_eq_one_iff.1 (O▸B);exact⟨u,by simp,by simpa [result]using C.2 0 v u rfl rfl⟩
 refine⟨.tuple z.toArray,by simp_all,?_⟩
 have hr:result vs=.tup vs:=by
  match vs,O with
  | [],_=>rfl
  | [_],h=>exact absurd h B
  | _::_::_,_=>rfl
 rw[hr];exact .tup _ _ (by simpa using C.1) (by simpa using C.2)
theorem N9 (G:dU P E) {fn:Func} {tmps:Array Value} {vs:a_ V} (h:iY E F H' fn.results.toList=some vs) (T:w.heap.size<=B):∀(ds:a_ Deferred) (w':World),
 dP I' μ' n F tmps->cR I' μ' H' w'->Step I μ H w I' μ' H' w'->jM B ds w' ->
 LeavesInM (fr none) 0 P fn tmps (xT I μ H w (result vs) H') ds .returning w':=by
 intro ds
 induction ds with
 | nil=>
  intro w' r s st m;obtain⟨u,hu,hv⟩:=Ko G r s h;exact⟨u,hu,u,I',μ',rfl,hv,s,st⟩
 | cons d ds J=>
  intro w' r s st m;obtain⟨q,h1,Q,C⟩:=m.all d Zc
  refine⟨by simp,.inl ⟨q,_,h1,run_takeDeferred C,?_⟩⟩
  have t:=uL s C;have L:=Tk s C Zc Zc
  have m':jM B ds w':=⟨λd hd=>m.all d (List.mem_cons_of_mem _ hd),(List.pairwise_cons.1 m.apart).2⟩
  refine J (fA w' q (.deferred none)) r (s.A2 _ L t) (st.after _ Za) ⟨λD z=>?_,m'.apart⟩
  obtain⟨O,g1,g2,g3⟩:=m'.all D z;refine⟨O,g1,g2,?_⟩;rw[eU _ ?_];exact g3;rintro rfl;exact(List.pairwise_cons.1 m.apart).1 D z _ h1 g1
theorem DW (o:Out):(mc o).isNone=(o==.norm):=by
 cases o <;> simp[mc] <;> rfl
theorem EB (T:dU P E) (hm:P.follows .mixedOrders=true) (hS:UT P E):∀n,kz P (run E n):=by
 intro n
 induction n with
 | zero=>exact⟨λ_ _ _ _ _ h=>(by cases h),λ_ _ _ _ _ h=>(by cases h)⟩
 | succ n B=>
  constructor
  .intro f args H r H' h;rw[F8]at h;simp[iR]at h;split at h
   .rename_i G ab;obtain⟨fn,hf,hb,ad,S,J⟩:=T.ft f G ab;refine⟨⟨fn,hf,by simp_all,J⟩,?_⟩
    intro I μ w z s hv;split at h
    .rename_i t;have main:∀o F' H2 rs,exec E (run E n) n false G.ntmps G.body args H=some (o,F',H2)->(∀id,o≠.exit id)->iY E F' H2 G.results=some rs->CallsIn (fr none) 0 P f z.toArray w (xT I μ H w (result rs) H2):=by
      intro o F' H2 rs hx ak hr;refine callsIn_of_wp_marks hf hb trivial ?_;rw[ad];have r0:=Lh s.gl hv t;have:=yV  T hm B n none false rfl G.ntmps G.body I μ args H { tmps:=z.toArray++Array.replicate (G.ntmps-z.toArray.size) undef,defers:=[] } w o F' H2 hx r0 s ⟨by simp,.nil⟩ (Nat.le_refl _)
      refine wpIn_mono this ?_;rintro e a1 U ⟨rfl,⟨I1,μ1,r1,Q,u⟩,m1⟩;have hl:=N9  T  (by rw[S];omega) (Nat.le_refl _) a1.defers U r1 Q u m1
      cases o with
      | norm=>exact hl
      | ret=>exact hl
      | exit id=>grind
     split at h
     .simp_all
     .simp  at h
      grind
     grind
    grind
   split at h
   next hs=>exact⟨(hS.sort f hs).ok,λI μ w z s hv=>SM B (hS.sort f hs) h s hv⟩
   obtain⟨yy,he,h⟩:=ζf.1 h;cases h;exact⟨(hS.known f args _ he).1,λI μ w z s hv=>(hS.known f args _ he).2 I μ H w z s hv⟩
  intro id args H r H' h I μ w z p s hv hp;rw[F8]at h;simp only[iR]at h;split at h
  .rename_i rec W;split at h
   .split at h
    .rename_i t;split at h
     .rename_i F2 H2 ae;split at h
      .rename_i r2 X;split at h
       .rename_i Y;split at h
        .rename_i o F4 H4 af;split at h
         .rename_i r4 Z;obtain⟨rfl,rfl⟩:=h;obtain⟨q,l,g1,g2,g3,g4⟩:=AV s W;rw[hp]at g1;cases g1;have ah:l.params.size=rec.params.length:=by have:=congrArg List.length g4.params;grind
          have ai:z.toArray.size=l.params.size:=by
           rw[ah,<-t.1];simpa using hv.1.symm
          refine⟨p.b,l.fn,_,l.assign,l.body,run_yield g3 ai,?_⟩;refine roundIn_of_wpIn trivial ?_;have L:(l.params.zip z.toArray).foldl (λtmps x=>tmps.setIfInBounds x.1 x.2) l.tmps=(rec.params.zip z).foldl (λtmps x=>tmps.setIfInBounds x.1 x.2) l.tmps:=by
           rw[<-Array.foldl_toList,Array.toList_zip,g4.params]
          have r0:=Be rec.params args z rec.frame l.tmps g4.frame hv t.2;rw[<-L]at r0;have U:=yV  T hm B n (some p.b) true rfl rec.nt rec.assign I μ _ H { tmps:=_,defers:=[] } w _ _ _ ae r0 s ⟨by simp,.nil⟩ (Nat.le_refl _)
          rw[g4.assign,g4.body];refine wpIn_mono U ?_;rintro e a1 U ⟨rfl,⟨I1,μ1,r1,Q,u⟩,m1⟩;obtain⟨q,l2,k1,k2,k3,k4⟩:=AV Q X;rw[u.mu _ _ hp]at k1;cases k1;have C:l2.state=.ready:=by
           have:=k4.st;rw[Y]at this;cases hl:l2.state <;> rw[hl]at this <;> simp[Bk.is]at this
          refine⟨_,run_beginRound k3 C,?_⟩;have D  := u.mu _ _ hp;obtain⟨s2,st2⟩:=Q.write  (ob':=.loop { r2 with st:=.busy }) X rfl D
           ⟨p,{ l2 with state:=.busy },D,k2,gD _ (Array.getElem?_eq_some_iff.1 k3).1,⟨trivial,k4.pend,k4.pendOk,k4.frame,k4.params,k4.assign,k4.body⟩⟩
          have m2  := m1.step Q st2;have w2:=yV  T hm B n (some p.b) true rfl rec.nt rec.body I1 μ1 F2 _ a1 (fA U p.b (.loop { l2 with state:=.busy })) o F4 H4 af r1 s2 m2 (by rw[rI];exact u.size)
          refine wpIn_mono w2 ?_;rintro e a3 w3 ⟨rfl,⟨I3,μ3,r3,s3,O⟩,m3⟩;obtain⟨q,l4,j1,j2,j3,j4⟩:=AV s3 Z;rw[O.mu _ _ D]at j1;cases j1;have aa  := O.mu _ _ D;have fin:∃v w',(Instr.endRound p.b (mc o)).run P w3=.ok v w'/\xT I μ H w (.bool (o==.norm)) (H4.set id (.loop { r4 with st:=(if o==.norm then .ready else .done),pend:=(if o==.norm then none else some o) })) (.returned v) w':=by
           refine⟨_,_,run_endRound (mc o) j3,?_⟩;obtain⟨s4,aj⟩:=s3.write  (ob':=.loop { r4 with st:=(if o==.norm then .ready else .done),pend:=(if o==.norm then none else some o) }) Z rfl aa
            ⟨p,{ l4 with state:=if(mc o).isNone then .ready else .done,pending:=mc o },aa,j2,gD _ (Array.getElem?_eq_some_iff.1 j3).1,⟨by cases o <;> exact trivial,by cases o <;> rfl,by cases o <;> simp,j4.frame,j4.params,j4.assign,j4.body⟩⟩
           refine⟨_,I3,μ3,rfl,?_,s4,Step.trans Q u (Step.trans s2 st2 (Step.trans s3 O aj))⟩;rw[DW];exact .c _ _ (.bool _)
          cases o with
          | norm=>exact fin
          | ret=>exact fin
          | exit id=>exact fin
         grind
        grind
       grind
      grind
     grind
    grind
   grind
  grind
end
end Go.VE
namespace Go.VE
variable [bO]
variable {P:Program}
theorem nU.C0 {t:TypeId} {d:TD} (h:tF P t=some d):nU P t d:=
 dU.ty (E:={ tt:=tF P,ft:=λ_=>none,keep:=λ_=>false,own:=λ_=>false,eqN:=λ_=>none,sort:=λ_=>false }) ⟨λ_ _ h=>h,by simp,by simp⟩ h
theorem qQ {i:TypeId} {cs:Array Value} {o:Nat} {v:Value} {w:World} (u:tF P i=some ⟨1,8,[.int .i64 0],.int .i64⟩) (h:cs[o]? = some v):(part i cs o).run P w=.ok v w:=by
 unfold part;simp[Sem.run_bind,(nU.C0 u).C5,Result.andThen,TD.agg,h]
theorem tf {a:a_ Int} (h:a.length=2):∃x y,a=[x,y]:=by
 match a,h with
 | [x,y],_=>exact⟨x,y,rfl⟩
theorem Ai (d:Nat) (e:Bool) {i:TypeId} (x:Int) {w:World} (u:P.underlying i=some (.int .i64)):(Instr.checkKey e (d+1) i (.int .i64 x)).run P w=.ok () w:=by
 simp only[Instr.checkKey,Sem.run_bind,dx u,Result.andThen_ok,Sem.run_pure]
theorem GU (d:Nat) (e:Bool) {t i:TypeId} {f g:Field} (x y:Int) {w:World} (hu:P.underlying t=some (.struct #[f,g])) (D:f.type=i) (hg:g.type=i) (of:f.offset=0) (G:g.offset=1) (nf:f.name ≠ "_") (J:g.name ≠ "_")
 (B:tF P i=some ⟨1,8,[.int .i64 0],.int .i64⟩) (u:P.underlying i=some (.int .i64)):(Instr.checkKey e (d+1+1) t (.agg (ic [x,y]))).run P w=.ok () w:=by
 have z:∀w,(part i (ic [x,y]) 0).run P w=.ok (.int .i64 x) w:=λw=>qQ B rfl
 have p1:∀w,(part i (ic [x,y]) 1).run P w=.ok (.int .i64 y) w:=λw=>qQ B rfl
 have q:∀(x:Int) w,(Instr.checkKey e (d+1) i (.int .i64 x)).run P w=.ok () w:=λx w=>Ai d e x u
 unfold Instr.checkKey;simp only[Sem.run_bind,dx hu,Result.andThen_ok];rw[<-Array.forIn_toList];simp only[List.forIn_cons,List.forIn_nil,Sem.run_bind,D,hg,of,G,nf,J,ne_eq,not_false_eq_true,if_true,z,p1,q,Result.andThen_ok,Sem.run_pure]
theorem s6.two {t i:TypeId} {f g:Field} (hu:P.underlying t=some (.struct #[f,g])) (U:f.type=i) (hg:g.type=i) (of:f.offset=0) (W:g.offset=1) (nf:f.name ≠ "_") (Y:g.name ≠ "_")
 (T:tF P i=some ⟨1,8,[.int .i64 0],.int .i64⟩) (G:P.underlying i=some (.int .i64)) (hs:P.stoodInHeld t=false) (hq:P.eqGuardType P.depth t=false):s6 P t 2:=by
 have I:P.fieldsOf t=#[f,g]:=by unfold Program.fieldsOf;rw[hu]
 have B:∀(w:World) (x y z u:Int),(Op.equal t (.agg (ic [x,y])) (.agg (ic [z,u]))).run P w=.ok ([x,y]==[z,u]) w:=by
  intro w x y z u;show (Op.equalIn (9999+1) t _ _).run P w=_;rw[run_equalIn_struct w 9999 t _ _ (by rw[I];exact hu) hs,I]
  have Q:∀(x y:Int) w,(part i (ic [x,y]) 0).run P w=.ok (.int .i64 x) w:=λx y w=>qQ T rfl
  have p1:∀(x y:Int) w,(part i (ic [x,y]) 1).run P w=.ok (.int .i64 y) w:=λx y w=>qQ T rfl
  have q:∀(x y:Int) w,(Op.equalIn 9999 i (.int .i64 x) (.int .i64 y)).run P w=.ok (x==y) w:=λx y w=>A9 9998 x y G
  simp only[Op.eqFields,U,hg,of,W,nf,Y,ne_eq,not_false_eq_true,if_true,Sem.run_bind,Q,q,Result.andThen_ok]
  by_cases C:x=z
  .by_cases J:y=u
   .subst C;subst J;simp[Sem.run_bind,p1,q,Result.andThen]
   subst C;have:(y==u)=false:=by simpa using J
   simp[Sem.run_bind,p1,q,Result.andThen,this]
  have:(x==z)=false:=by simpa using C
  simp[this]
 have L:∀(op:BinOp) (p q:Operand) (w:World) (u v:Array Value),(eqGuard op t p q (.agg u) (.agg v)).run P w=.ok () w:=by
  intro op p q w u v;unfold eqGuard;cases op <;> simp[Sem.run_bind,run_program,Result.andThen,hq]
 refine⟨?_,?_,?_,?_,⟨_,hu,.inr ⟨_,rfl⟩⟩⟩
 .intro w p q a b D O;obtain⟨x,y,rfl⟩:=tf D;obtain⟨z,u,rfl⟩:=tf O;rw[Sem.run_bind,L,Result.andThen_ok];show (do pure (Value.bool (<-Op.equal t (.agg (ic [x,y])) (.agg (ic [z,u])))):Sem Value).run P w=_
  rw[Sem.run_bind,B];rfl
 .intro w p q a b D O;obtain⟨x,y,rfl⟩:=tf D;obtain⟨z,u,rfl⟩:=tf O;rw[Sem.run_bind,L,Result.andThen_ok];show (do pure (Value.bool (!(<-Op.equal t (.agg (ic [x,y])) (.agg (ic [z,u]))))):Sem Value).run P w=_
  rw[Sem.run_bind,B];rfl
 .intro w a b D O;obtain⟨x,y,rfl⟩:=tf D;obtain⟨z,u,rfl⟩:=tf O;exact B w x y z u
 intro w e a D;obtain⟨x,y,rfl⟩:=tf D;exact GU 9998 e x y hu U hg of W nf Y T G
def lk {α:Type}:a_ (Nat×α)->Nat->bf α
 | [],_=>none
 | (k,v)::r,n=>bif Nat.beq k n then some v else lk r n
theorem Od {α:Type}:∀{l:a_ (Nat×α)} {n:Nat} {v:α},lk l n=some v->(n,v)∈l
 | [],_,_,h=>by simp[lk]at h
 | (k,x)::r,n,v,h=>by
  simp only[lk]at h
  cases hk:Nat.beq k n with
  | true=>
   rw[hk]at h;simp only[cond_true,ζa]at h;have:=Nat.eq_of_beq_eq_true hk;subst this;subst h;simp
  | false=>rw[hk]at h;exact List.mem_cons_of_mem _ (Od h)
end Go.VE
namespace Go.VE
variable [bO]
inductive KT where|bool|str|slice|ptr|map|int|other
 deriving DecidableEq
def TK.tag:TK->KT
 | .bool=>.bool
 | .int _=>.int
 | .str=>.str
 | .ptr _=>.ptr
 | .slice _=>.slice
 | .map ..=>.map
 | _=>.other
def oE (k:KT) (x y:V):bf Bool:=
 match k,x,y with
 | .slice,.bN,.bN=>some true
 | .slice,.fsl ..,.bN=>some false
 | .slice,.hsl ..,.bN=>some false
 | .ptr,.gN,.gN=>some true
 | .ptr,.fptr _,.gN=>some false
 | .ptr,.hptr ..,.gN=>some false
 | .map,.gi,.gi=>some true
 | .map,.fmap _,.gi=>some false
 | .map,.hmap _,.gi=>some false
 | _,_,_=>none
def nK (k:bf KT) (e:bf Nat) (op:BinOp) (x y:V):bf V:=
 match x,y with
 | .int k a,.int u b=>
  match op with
  | .shl=>if b<0 then none else some (.int k (k.wrap (a*2 ^ (min b.toNat k.bits))))
  | .shr=>if b<0 then none else some (.int k (a.fdiv (2 ^ (min b.toNat k.bits))))
  | _=>if k=u then
   match op with
   | .add=>some (.int k (k.wrap (a+b)))
   | .sub=>some (.int k (k.wrap (a-b)))
   | .mul=>some (.int k (k.wrap (a*b)))
   | .quo=>if b=0 then none else some (.int k (k.wrap (a.tdiv b)))
   | .rem=>if b=0 then none else some (.int k (a.tmod b))
   | .and=>some (.int k (k.wrap (BitVec.ofInt k.bits a &&& BitVec.ofInt k.bits b).toNat))
   | .or=>some (.int k (k.wrap (BitVec.ofInt k.bits a ||| BitVec.ofInt k.bits b).toNat))
   | .xor=>some (.int k (k.wrap (BitVec.ofInt k.bits a ^^^ BitVec.ofInt k.bits b).toNat))
   | .andNot=>some (.int k (k.wrap (BitVec.ofInt k.bits a &&& ~~~ BitVec.ofInt k.bits b).toNat))
   | op=>(su op a b).map .bool
   else none
 | .str a,.str b=>
  match op with
  | .add=>if((a.size+b.size:Nat):Int)>IntKind.i64.max then none else some (.str (a++b))
  | .eql=>some (.bool (a.toList==b.toList))
  | .neq=>some (.bool !(a.toList==b.toList))
  | .lss=>some (.bool (Op.bytesLess a.toList b.toList))
  | .leq=>some (.bool (Op.bytesLess a.toList b.toList||a.toList==b.toList))
  | .gtr=>some (.bool !(Op.bytesLess a.toList b.toList||a.toList==b.toList))
  | .geq=>some (.bool !(Op.bytesLess a.toList b.toList))
  | _=>none
 | .bool a,.bool b=>
  match k,op with
  | some .bool,.eql=>some (.bool (a==b))
  | some .bool,.neq=>some (.bool !(a==b))
  | _,_=>none
 | .agg a,.agg b=>
  match e,op with
  | some n,.eql=>if a.length=n then(kg a b).map .bool else none
  | some n,.neq=>if a.length=n then(kg a b).map (λt=>.bool !t)else none
  | _,_=>none
 | x,y=>
  match k,op with
  | some k,.eql=>(oE k x y).map .bool
  | some k,.neq=>(oE k x y).map λt=>.bool !t
  | _,_=>none
theorem La (k:TK) (x y:V):uE k x y=oE k.tag x y:=by
 cases k <;> cases y <;> (try rfl) <;> cases x <;> rfl
theorem SS (E:Env) (op:BinOp) (t:TypeId) (x y:V):Ic E op t x y=nK ((E.kindOf t).map TK.tag) (E.eqN t) op x y:=by
 unfold Ic;split
 .rfl
 .rfl
 .cases hk:E.kindOf t with
  | none=>rfl
  | some k=>cases k <;> cases op <;> rfl
 .rfl
 rename_i h1 u w z
 cases hk:E.kindOf t with
 | none=>rw[nK.eq_29 _ _ _ _ _ h1 u w z Zc Zc]
 | some k=>
  simp only[La];cases op <;> first
   | exact(nK.eq_27 _ _ _ _ h1 u w z).symm
   | exact(nK.eq_28 _ _ _ _ h1 u w z).symm
   | (rw[nK.eq_29 _ _ _ _ _ h1 u w z Zc Zc])
inductive u_ where
 | id|pick|nilc
 | bin (k:Option KT) (e:Option Nat) (op:BinOp)
 | not|neg
 | conv (k:IntKind)
 | fieldAddr (off:Nat)
 | field (off size:Nat) (agg:Bool)
 | idxS (size:Nat)
 | idxA (len size:Nat)
 | idxStr
 | idxArr (len size:Nat) (agg:Bool)
 | sliceStr (lo hi:Bool)
 | slice (size:Nat) (lo hi:Bool)
 | slice00
 | build (zero:List V) (pl:List (Nat×Nat))
 | clo (name:Nat) (k:Nat)
 | ext (i:Nat)
 | lenStr|lenSl|capSl|max|min|bad|max4
 | makeC (size:Nat) (zero:List V)
 | buildC (size len:Nat) (zero:List V) (idx:List Nat)
 | emptyC
def KL:V->bf V
 | .hptr id el off=>some (.hptr id el off)
 | .fptr cs=>some (.fptr cs)
 | .clo f a b=>some (.clo f a b)
 | _=>none
def qa (off:Nat):V->bf V
 | .fptr cs=>if off<=cs.length then some (.fptr (cs.drop off))else none
 | .hptr id el o=>some (.hptr id el (o+off))
 | _=>none
def kS (size:Nat) (s:V) (n:Int):bf V:=
 if n<0 then none else match s with
 | .fsl es t=>if es=size then(t[n.toNat]?).map .fptr else none
 | .hsl id es off len=>if es=size/\n.toNat<len then some (.hptr id (off+n.toNat) 0)else none
 | _=>none
def wJ (len size:Nat) (p:V) (n:Int):bf V:=
 if 0<=n/\n<len then match p with
  | .fptr cs=>if n.toNat*size<=cs.length then some (.fptr (cs.drop (n.toNat*size)))else none
  | .hptr id el o=>some (.hptr id el (o+n.toNat*size))
  | _=>none
 else none
def mO:Bool->Bool->a_ V->bf (bf Int×bf Int)
 | false,false,[]=>some (none,none)
 | true,false,[.int _ l]=>some (some l,none)
 | false,true,[.int _ h]=>some (none,some h)
 | true,true,[.int _ l,.int _ h]=>some (some l,some h)
 | _,_,_=>none
def ir (size:Nat) (v:V) (l h:bf Int):bf V:=
 match v with
 | .fsl es t=>if es=size then(dH t.length l h).map λ(l,h)=>.fsl es ((t.take h).drop l)else none
 | .hsl id es off len=>if es=size then(dH len l h).map λ(l,h)=>.hsl id es (off+l) (h-l)else none
 | .c_=>(dH 0 l h).map λ_=>.c_
 | .bN=>(dH 0 l h).map λ_=>.bN
 | _=>none
def KH:V->Bool
 | .fsl ..|.hsl ..|.c_|.bN=>true
 | _=>false
def kf (cells:a_ V):a_ (Nat×Nat)->a_ V->bf (a_ V)
 | [],[]=>some cells
 | (off,size)::pl,v::vs=>
  if v.cells.length≠size||off+v.cells.length>cells.length then none
  else kf (cells.take off++v.cells++cells.drop (off+v.cells.length)) pl vs
 | _,_=>none
def qu:V->bf V
 | .fsl _ xs=>some (.int .i64 xs.length)
 | .hsl _ _ _ len=>some (.int .i64 len)
 | .c_=>some (.int .i64 0)
 | .bN=>some (.int .i64 0)
 | _=>none
def Qx:V->bf V
 | .bN|.c_=>some (.int .i64 0)
 | _=>none
def bS (N:Nat->FuncId):u_->a_ V->bf V
 | .id,[x]=>some x
 | .pick,[.bool t,a,b]=>some (if t then a else b)
 | .nilc,[x]=>KL x
 | .bin k e op,[x,y]=>nK k e op x y
 | .not,[.bool b]=>some (.bool !b)
 | .neg,[.int k n]=>some (.int k (k.wrap (0-n)))
 | .conv k,[.int _ n]=>some (.int k (k.wrap n))
 | .fieldAddr off,[p]=>qa off p
 | .field off size agg,[.agg cs]=>(cut cs off size).bind (mk agg)
 | .idxS size,[s,.int _ n]=>kS size s n
 | .idxA len size,[p,.int _ n]=>wJ len size p n
 | .idxStr,[.str s,.int _ n]=>if 0<=n then(s[n.toNat]?).map (λb=>.int .u8 b.toNat)else none
 | .idxArr len size agg,[.agg cs,.int _ n]=>if 0<=n/\n<len then(cut cs (n.toNat*size) size).bind (mk agg)else none
 | .sliceStr B D,.str s::G=>(mO B D G).bind λ(l,h)=>(dH s.size l h).map λ(l,h)=>.str (s.extract l h)
 | .slice size B D,v::G=>(mO B D G).bind λ(l,h)=>ir size v l h
 | .slice00,[v,.int _ h,.int _ m]=>if KH v&&h==0&&m==0 then some .c_ else none
 | .build zero pl,vs=>(kf zero pl vs).map .agg
 | .clo name k,vs=>some (.clo (N name) (vs.take k) (vs.drop k))
 | .ext i,[.tup vs]=>vs[i]?
 | .lenStr,[.str s]=>some (.int .i64 s.size)
 | .lenSl,[v]=>qu v
 | .capSl,[v]=>Qx v
 | .max,[.int k a,.int u b]=>if k=u then some (.int k (if b>a then b else a))else none
 | .max4,[.int k a,.int k1 b,.int k2 c,.int k3 d]=>if k=k1/\k=k2/\k=k3 then some (.int k (BI (BI (BI a b) c) d))else none
 | .min,[.int k a,.int u b]=>if k=u then some (.int k (if b<a then b else a))else none
 | .makeC size zero,[.int k n,.int u m]=>if k=.i64/\u=.i64/\0<=n/\n=m/\m<=2147483648/\zero.all V.scalar=true then some (.fsl size (List.replicate n.toNat zero))else none
 | .buildC size len zero idx,vs=>if V.cF vs=true/\idx.length=vs.length then match eV size (List.replicate len zero) (idx.zip vs)with
  | some xs=>if xs.isEmpty=false/\(xs.all λx=>x.all V.scalar)=true then some (.fsl size xs)else none
  | none=>none
  else none
 | .emptyC,[]=>some .c_
 | _,_=>none
inductive wZ where|int (k:IntKind)|str|ints (n:Nat)
def Cw (E:Env) (t:TypeId):bf wZ:=
 match E.kindOf t with
 | some (.int k)=>some (.int k)
 | some .str=>some .str
 | some _=>(E.eqN t).map .ints
 | none=>none
def oZ:wZ->V->Bool
 | .int k,.int u _=>k==u
 | .str,.str _=>true
 | .ints n,.agg cs=>cs.length==n&&(gZ cs).isSome
 | _,_=>false
inductive Jr where
 | load (size:Nat) (agg:Bool)
 | loadF (size:Nat) (agg:Bool)
 | lookup (kk:wZ) (zero:V) (ok:Bool)
def eP (H:bn):Jr->a_ V->bf V
 | .load size agg,[p]=>(dX H p size).bind (mk agg)
 | .lookup kk z ok,[m,k]=>match mj H m with
  | some u=>if oZ kk k then match ij k u 0 with
   | some (some (_,v))=>some (if ok then .tup [v,.bool true]else v)
   | some none=>some (if ok then .tup [z,.bool false]else z)
   | none=>none
   else none
  | none=>none
 | _,_=>none
inductive Mi where
 | alloc (size:Nat) (zero:List V)
 | box
 | makeSl (size:Nat) (zero:List V)
 | buildSl (size len:Nat) (zero:List V) (idx:List Nat)
 | makeMap
def kT:Mi->a_ V->bf (Ob×Mk)
 | .alloc size zero,[]=>some (.row size [zero],.ptr)
 | .box,[v]=>if v.cells.all V.one then some (.row v.cells.length [v.cells],.ptr)else none
 | .makeSl size zero,[.int k n,.int u m]=>if k=.i64/\u=.i64/\0<=n/\n<=m/\m<=2147483648 then some (.row size (List.replicate m.toNat zero),.sl size n.toNat)else none
 | .buildSl size len zero idx,vs=>if idx.length=vs.length then(eV size (List.replicate len zero) (idx.zip vs)).map λxs=>(.row size xs,.sl size len)else none
 | .makeMap,[]=>some (.map [],.map)
 | _,_=>none
inductive Ke where
 | store (size:Nat)
 | storeF (size:Nat)
 | mapUp (kk:wZ)
 | append (size:Nat)
 | appMk (size bytes:Nat) (zero:List V)
 | clear (size:Nat) (zero:List V)
def eO (H:bn):Ke->a_ V->bf (V×bn)
 | .store size,[.hptr id el off,v]=>match H[id]? with
  | some (.row es xs)=>match xs[el]? with
   | some cs=>if v.cells.length=size/\off+size<=cs.length/\v.cells.all V.one=true then
    some (.undef,H.set id (.row es (xs.set el (cs.take off++v.cells++cs.drop (off+v.cells.length)))))else none
   | none=>none
  | _=>none
 | .mapUp kk,[.hmap id,k,v]=>match H[id]? with
  | some (.map u)=>if oZ kk k then(oT k v u).map λu=>(.undef,H.set id (.map u))else none
  | _=>none
 | .append size,[s,x]=>match dG H size s,dG H size x with
  | some _,some []=>some (s,H)
  | some xs,some ys=>if xs.length+ys.length<=2147483648 then(gq H s).map λH1=>(.hsl H.length size 0 (xs.length+ys.length),H1++[.row size (xs++ys)])else none
  | _,_=>none
 | .appMk size bytes zero,[s,x]=>mkApp H size bytes zero s x
 | .clear size zero,[v]=>Dv H size zero v
 | .storeF size,.hptr id el off::v::l=>if l.all (nF id)=true then match H[id]? with
  | some (.row es xs)=>match xs[el]? with
   | some cs=>if v.cells.length=size/\off+size<=cs.length/\v.cells.all V.one=true then
    some (.undef,H.set id (.row es (xs.set el (cs.take off++v.cells++cs.drop (off+v.cells.length)))))else none
   | none=>none
  | _=>none
  else none
 | _,_=>none
inductive K where
 | p (p:u_)
 | r (r:Jr)
 | a (a:Mi)
 | l (l:Ke)
 | c
 | e (size:Nat)
 | b
def Wv (E:Env) (t:TypeId):bf KT:=(E.kindOf t).map TK.tag
def resolve (E:Env) (nm:FuncId->bf Nat):Op->bf (K×a_ Operand)
 | .move x|.assign x=>some (.p .id,[x])
 | .pick c a b=>some (.p .pick,[c,a,b])
 | .nilCheck x=>some (.p .nilc,[x])
 | .binOp op t x y _=>some (.p (.bin (Wv E t) (E.eqN t) op),[x,y])
 | .unOp .not _ x=>some (.p .not,[x])
 | .unOp .neg _ x=>some (.p .neg,[x])
 | .convert s d x=>match E.tt s,E.tt d with
  | some _,some J=>match J.kind with
   | .int k=>some (.p (.conv k),[x])
   | .str=>match E.kindOf s with
    | some (.slice e)=>match E.kindOf e with
     | some (.int .u8)=>some (.b,[x])
     | _=>none
    | _=>none
   | _=>none
  | _,_=>none
 | .fieldAddr s x f=>match E.kindOf s with
  | some (.struct fs)=>match fs[f]? with
   | some (off,t)=>match E.tt t with
    | some d=>if d.size=0 then none else some (.p (.fieldAddr off),[x])
    | none=>none
   | none=>none
  | _=>none
 | .field s x f=>match E.kindOf s with
  | some (.struct fs)=>match fs[f]? with
   | some (off,t)=>match E.tt t with
    | some d=>some (.p (.field off d.size d.agg),[x])
    | none=>none
   | none=>none
  | _=>none
 | .indexAddr t x i=>match E.kindOf t with
  | some (.slice e)=>(E.tt e).map λd=>(.p (.idxS d.size),[x,i])
  | some (.array len e)=>(E.tt e).map λd=>(.p (.idxA len d.size),[x,i])
  | _=>none
 | .index t x i=>match E.kindOf t with
  | some .str=>some (.p .idxStr,[x,i])
  | some (.array len e)=>(E.tt e).map λd=>(.p (.idxArr len d.size d.agg),[x,i])
  | _=>none
 | .slice t x u B O=>match E.kindOf t,O with
  | some .str,none=>some (.p (.sliceStr u.isSome B.isSome),x::(u.toList++B.toList))
  | some (.slice e),none=>(E.tt e).map λd=>(.p (.slice d.size u.isSome B.isSome),x::(u.toList++B.toList))
  | some (.slice e),some m=>match E.tt e,u,B with
   | some _,none,some h=>some (.p .slice00,[x,h,m])
   | _,_,_=>none
  | _,_=>none
 | .build t ps=>match E.tt t with
  | some d=>match d.kind with
   | .struct fs=>match mK E fs with
    | some pl=>(ps.toList.mapM λ(q:Nat×Operand)=>pl[q.1]?).map λq=>(K.p (.build d.zero q),ps.toList.map λ(q:Nat×Operand)=>q.2)
    | none=>none
   | .array _ e=>(E.tt e).map λG=>(K.p (.build d.zero (ps.toList.map λ(q:Nat×Operand)=>(q.1*G.size,G.size))),ps.toList.map λ(q:Nat×Operand)=>q.2)
   | _=>none
  | none=>none
 | .makeFunc (.func f) a b=>(nm f).map λs=>(.p (.clo s a.toList.length),a.toList++b.toList)
 | .extract x i=>some (.p (.ext i),[x])
 | .load t a=>(E.tt t).map λd=>(.r (.load d.size d.agg),[a])
 | .lookup t m k ok=>match E.kindOf t with
  | some (.map D T)=>match E.tt T,Cw E D with
   | some d,some kk=>(mk d.agg d.zero).map λz=>(.r (.lookup kk z ok),[m,k])
   | _,_=>none
  | _=>none
 | .alloc t=>(E.tt t).map λd=>(.a (.alloc d.size d.zero),[])
 | .box _ x=>some (.a .box,[x])
 | .makeSlice t l c=>match E.kindOf t with
  | some (.slice e)=>match E.tt e with
   | some d=>if d.bytes<=4096 then some (.a (.makeSl d.size d.zero),[l,c])else none
   | none=>none
  | _=>none
 | .buildSlice t len ps=>match E.kindOf t with
  | some (.slice e)=>match E.tt e with
   | some d=>if len*d.size<=16777216 then some (.a (.buildSl d.size len d.zero (ps.toList.map (·.1))),ps.toList.map (·.2))else none
   | none=>none
  | _=>none
 | .makeMap _ none=>some (.a .makeMap,[])
 | .store t a x=>(E.tt t).map λd=>(.l (.store d.size),[a,x])
 | .mapUpdate t m k x|.insert t m k x=>match E.kindOf t with
  | some (.map D _)=>(Cw E D).map λkk=>(.l (.mapUp kk),[m,k,x])
  | _=>none
 | .call { callee:=.builtin .append,args,argTypes }=>match argTypes.toList,args.toList with
  | [t,U],[s,x]=>match E.kindOf t,E.kindOf U with
   | some (.slice e),some (.slice _)=>match E.tt e with
    | some d=>if d.bytes<=4096/\0<d.bytes then some (.l (.append d.size),[s,x])else none
    | none=>none
   | some (.slice e),some (.int _)=>(E.tt e).map λd=>(.l (.appMk d.size d.bytes d.zero),[s,x])
   | _,_=>none
  | _,_=>none
 | .call { callee:=.builtin .len,args,argTypes }=>match argTypes[0]?,args.toList with
  | some t,[x]=>match E.kindOf t with
   | some .str=>some (.p .lenStr,[x])
   | some (.slice _)=>some (.p .lenSl,[x])
   | _=>none
  | _,_=>none
 | .call { callee:=.builtin .cap,args,argTypes }=>match argTypes[0]?,args.toList with
  | some t,[x]=>match E.kindOf t with
   | some (.slice _)=>some (.p .capSl,[x])
   | _=>none
  | _,_=>none
 | .call { callee:=.builtin .clear,args,argTypes }=>match argTypes[0]?,args.toList with
  | some t,[x]=>match E.kindOf t with
   | some (.slice e)=>(E.tt e).map λd=>(.l (.clear d.size d.zero),[x])
   | _=>none
  | _,_=>none
 | .panic _=>some (.p .bad,[])
 | .makeInterface ..=>some (.p .bad,[])
 | .call { callee:=.builtin .max,args,.. }=>match args.toList with
  | [x,y]=>some (.p .max,[x,y])
  | [x,y,z,t]=>some (.p .max4,[x,y,z,t])
  | _=>none
 | .call { callee:=.builtin .min,args,.. }=>match args.toList with
  | [x,y]=>some (.p .min,[x,y])
  | _=>none
 | .call { callee:=.value f,args,.. }=>some (.c,f::args.toList)
 | _=>none
section
variable {E:Env} {nm:FuncId->bf Nat} {N:Nat->FuncId} {F:Frame}
theorem nR {x:Operand} {vs:a_ V} (h:fq F [x]=some vs):∃a,ev F x=some a/\vs=[a]:=by
 simp[fq]at h
 grind
theorem iA {x:Operand} {l:a_ Operand} {vs:a_ V} (h:fq F (x::l)=some vs):∃a az,ev F x=some a/\fq F l=some az/\vs=a::az:=by
 simp[fq]at h
 grind
theorem pS {vs:a_ V} (h:fq F []=some vs):vs=[]:=by simp[fq]at h;grind
theorem sH {x y:Operand} {vs:a_ V} (h:fq F [x,y]=some vs):∃a b,ev F x=some a/\ev F y=some b/\vs=[a,b]:=by
 obtain⟨a,az,u,t,rfl⟩:=iA h;obtain⟨b,w,rfl⟩:=nR t
 grind
theorem HU {x y z:Operand} {vs:a_ V} (h:fq F [x,y,z]=some vs):∃a b c,ev F x=some a/\ev F y=some b/\ev F z=some c/\vs=[a,b,c]:=by
 obtain⟨a,az,u,t,rfl⟩:=iA h;obtain⟨b,c,w,hc,rfl⟩:=sH t
 grind
theorem Lt {l m:a_ Operand} {vs:a_ V} (h:fq F (l++m)=some vs):∃az u,fq F l=some az/\fq F m=some u/\vs=az++u:=by
 induction l generalizing vs with
 | nil=>exact⟨[],vs,rfl,h,rfl⟩
 | cons x l t=>
  obtain⟨a,az,w,z,rfl⟩:=iA h;obtain⟨b,c,B,hc,rfl⟩:=t z;refine⟨a::b,c,?_,hc,rfl⟩;simp[fq,w,B]
theorem L5 {l:a_ Operand} {vs:a_ V} (h:fq F l=some vs):vs.length=l.length:=by
 induction l generalizing vs with
 | nil=>rw[pS h];rfl
 | cons x l t=>obtain⟨a,az,_,u,rfl⟩:=iA h;grind
def AL (E:Env) (N:Nat->FuncId) (F:Frame) (op:Op) (vs:a_ V):K->Prop
 | .p p=>cB op=.pure/\∀v,bS N p vs=some v->bH E F op=some v
 | .r r=>cB op=.read/\∀H v,eP H r vs=some v->dI E F H op=some v
 | .a a=>cB op=.alloc/\∀x,kT a vs=some x->eC E F op=some x
 | .l l=>cB op=.loud/\∀H x,eO H l vs=some x->cr E F H op=some x
 | .e _=>False
 | .b=>cB op=.pure/\∃x,vs=[x]/\∀H ys l,dG H 1 x=some ys->pK ys=some l->bH E F op=none/\evalConv E F H op=some (.str (K7 l))
 | .c=>cB op=.call/\∃f az,vs=f::az/\jL F op=(match f with|.clo g a b=>some (.fn g,a++az++b)|.yld id=>some (.yld id,az)|_=>none)
theorem HA (place:Nat->bf (Nat×Nat)):∀(ps:a_ (Nat×Operand)) (q:a_ (Nat×Nat)) (vs:a_ V) (cells cs:a_ V),(ps.mapM λ(x:Nat×Operand)=>place x.1)=some q ->
 fq F (ps.map λ(x:Nat×Operand)=>x.2)=some vs->kf cells q vs=some cs->∃u,lN F ps=some u/\ua place cells u=some cs:=by
 intro ps
 induction ps with
 | nil=>
  intro q vs cells cs t hv h;simp  at t;subst t;have:=pS (by simpa using hv);subst this
  simp[kf]at h;subst h;exact⟨[],rfl,rfl⟩
 | cons p ps C=>
  intro q vs cells cs t hv h;obtain⟨i,x⟩:=p;simp only[List.mapM_cons,Option.pure_def,Option.bind_eq_bind,ζg,ζa]at t;obtain⟨pl,w,D,z,rfl⟩:=t;obtain⟨a,az,G,B,rfl⟩:=iA (by simpa using hv)
  simp only[kf]at h;split at h
  .simp_all
  obtain⟨u,h1,I⟩:=C D az _ cs z B h;refine⟨(i,a)::u,by simp[lN,G,h1],?_⟩
  simp[ua,w]
  grind
theorem MV:∀(ps:a_ (Nat×Operand)) (vs:a_ V),fq F (ps.map λ(x:Nat×Operand)=>x.2)=some vs->lN F ps=some ((ps.map λ(x:Nat×Operand)=>x.1).zip vs):=by
 intro ps
 induction ps with
 | nil=>simp[lN]
 | cons p ps u=>
  intro vs hv;obtain⟨a,az,w,t,rfl⟩:=iA (by simpa using hv)
  simp[lN,w,u az t]
theorem HR {D B:bf Operand} {vs:a_ V} {l h:bf Int} (hv:fq F (D.toList++B.toList)=some vs) (u:mO D.isSome B.isSome vs=some (l,h)):jB F D=some l/\jB F B=some h:=by
 cases D with
 | none=>
  cases B with
  | none=>
   have:=pS (by simpa using hv);subst this;obtain⟨rfl,rfl⟩:=u;exact⟨rfl,rfl⟩
  | some y=>
   obtain⟨b,t,rfl⟩:=nR (by simpa using hv)
   cases b <;> simp[mO]at u;obtain⟨rfl,rfl⟩:=u;simp[jB,t]
 | some x=>
  cases B with
  | none=>
   obtain⟨b,t,rfl⟩:=nR (by simpa using hv)
   cases b <;> simp[mO]at u;obtain⟨rfl,rfl⟩:=u;simp[jB,t]
  | some y=>
   obtain⟨a,b,w,t,rfl⟩:=sH (by simpa using hv)
   cases a <;> cases b <;> simp[mO]at u;obtain⟨rfl,rfl⟩:=u;simp[jB,w,t]
theorem zO {t:TypeId} {kk:wZ} {k:V} (h:Cw E t=some kk) (hk:oZ kk k=true):wB E t k=true:=by
 unfold Cw at h;unfold wB
 cases u:E.kindOf t with
 | none=>grind
 | some tk=>
  rw[u]at h;have gen:(E.eqN t).map wZ.ints=some kk->∃n cs,E.eqN t=some n/\k=.agg cs/\(cs.length==n&&(gZ cs).isSome)=true:=by
   intro h;simp  at h;obtain⟨n,w,rfl⟩:=h;cases k <;> simp[oZ]at hk <;> first|grind|grind
  cases tk with
  | int z=>
   simp  at h;subst h;cases k <;> simp[oZ]at hk
   grind
  | str=>
   simp  at h;subst h;cases k <;> simp[oZ]at hk;rfl
  | _=>
   obtain⟨n,cs,h1,rfl,B⟩:=gen h;simp_all
theorem iU (hN:∀f s,nm f=some s->N s=f) {op:Op} {k:K} {os:a_ Operand} {vs:a_ V} (h:resolve E nm op=some (k,os)) (hv:fq F os=some vs):AL E N F op vs k:=by
 cases op with
 | move x=>
  obtain⟨rfl,rfl⟩:=h;obtain⟨a,B,rfl⟩:=nR hv;exact⟨rfl,λv w=>by simpa [bS,bH,B]using w⟩
 | assign x=>
  obtain⟨rfl,rfl⟩:=h;obtain⟨a,B,rfl⟩:=nR hv;exact⟨rfl,λv w=>by simpa [bS,bH,B]using w⟩
 | pick c a b=>
  simp[resolve]at h;obtain⟨rfl,rfl⟩:=h;obtain⟨x,y,z,hx,hy,U,rfl⟩:=HU hv;refine⟨rfl,λv w=>?_⟩
  cases x <;> simp[bS]at w;rename_i t;subst w;cases t <;> simp[bH,hx,hy,U]
 | nilCheck x=>
  simp[resolve]at h;obtain⟨rfl,rfl⟩:=h;obtain⟨a,B,rfl⟩:=nR hv;refine⟨rfl,λv w=>?_⟩
  cases a <;> simp[bS,KL]at w <;> subst w <;> simp[bH,B]
 | binOp ai t x y yt=>
  simp only[resolve,ζa,ζc]at h;obtain⟨rfl,rfl⟩:=h;obtain⟨a,b,B,G,rfl⟩:=sH hv;exact⟨rfl,λv w=>by simp only[bH,B,G,SS];exact w⟩
 | unOp u t x=>
  cases u with
  | not=>
   simp only[resolve,ζa,ζc]at h;obtain⟨rfl,rfl⟩:=h;obtain⟨a,B,rfl⟩:=nR hv;refine⟨rfl,λv w=>?_⟩
   cases a <;> simp[bS]at w;subst w;simp[bH,B]
  | neg=>
   simp only[resolve,ζa,ζc]at h;obtain⟨rfl,rfl⟩:=h;obtain⟨a,B,rfl⟩:=nR hv;refine⟨rfl,λv w=>?_⟩
   cases a <;> simp[bS]at w;subst w;simp[bH,B]
  | _=>simp[resolve]at h
 | convert s d x=>
  simp only[resolve]at h;split at h
  .rename_i sd td hs hd;split at h
   .rename_i k hk;simp only[ζa,ζc]at h;obtain⟨rfl,rfl⟩:=h;obtain⟨a,B,rfl⟩:=nR hv;refine⟨rfl,λv w=>?_⟩
    cases a <;> simp[bS]at w;subst w;simp[bH,B,hs,hd,hk]
   .rename_i hk;split at h
    .rename_i e he;split at h
     .rename_i hu;simp only[ζa,ζc]at h;obtain⟨rfl,rfl⟩:=h;obtain⟨a,B,rfl⟩:=nR hv;refine⟨rfl,a,rfl,λH ys l h1 J=>?_⟩
      have ab:E.kindOf d=some .str:=by unfold Env.kindOf;rw[hd,Option.map_some,hk]
      refine⟨?_,by simp only[evalConv,he,ab,B,hu,h1,J,ζb,Option.map_some]⟩
      simp only[bH,hs,hd,B];cases a <;> first|rfl|(simp only[dG]at h1;cases h1)
     simp at h
    simp at h
   simp at h
  simp at h
 | fieldAddr s x f=>
  simp only[resolve]at h;split at h
  .rename_i fs hk;split at h
   .rename_i off t W;split at h
    .rename_i d hd;split at h
     .simp at h
     rename_i U;simp only[ζa,ζc]at h;obtain⟨rfl,rfl⟩:=h;obtain⟨a,B,rfl⟩:=nR hv;refine⟨rfl,λv w=>?_⟩
     simp only[bH,B,hk,W,hd,if_neg U];simp only[bS,qa]at w;cases a <;> simp at w ⊢ <;> exact w
    simp at h
   simp at h
  simp at h
 | field s x f=>
  simp only[resolve]at h;split at h
  .rename_i fs hk;split at h
   .rename_i off t W;split at h
    .rename_i d hd;simp only[ζa,ζc]at h;obtain⟨rfl,rfl⟩:=h;obtain⟨a,B,rfl⟩:=nR hv;refine⟨rfl,λv w=>?_⟩
     cases a <;> simp only[bS]at w <;> first|(simp only[bH,B,hk,W,hd];exact w)|simp at w
    simp at h
   simp at h
  simp at h
 | indexAddr t x i=>
  simp only[resolve]at h;split at h
  .rename_i e hk;simp only[ζf,ζc]at h;obtain⟨d,hd,rfl,rfl⟩:=h;obtain⟨a,b,B,G,rfl⟩:=sH hv;refine⟨rfl,λv w=>?_⟩
   cases b <;> simp only[bS]at w <;> first|simp at w;done|skip
   simp only[bH,B,G,hk,hd];unfold kS at w;exact w
  .rename_i len e hk;simp only[ζf,ζc]at h;obtain⟨d,hd,rfl,rfl⟩:=h;obtain⟨a,b,B,G,rfl⟩:=sH hv;refine⟨rfl,λv w=>?_⟩
   cases b <;> simp only[bS]at w <;> first|simp at w;done|skip
   simp only[bH,B,G,hk,hd];unfold wJ at w;exact w
  simp at h
 | index t x i=>
  simp only[resolve]at h;split at h
  .rename_i hk;simp only[ζa,ζc]at h;obtain⟨rfl,rfl⟩:=h;obtain⟨a,b,B,G,rfl⟩:=sH hv;refine⟨rfl,λv w=>?_⟩
   cases a <;> cases b <;> simp only[bS]at w <;> first|simp at w;done|skip
   simp only[bH,B,G,hk];exact w
  .rename_i len e hk;simp only[ζf,ζc]at h;obtain⟨d,hd,rfl,rfl⟩:=h;obtain⟨a,b,B,G,rfl⟩:=sH hv;refine⟨rfl,λv w=>?_⟩
   cases a <;> cases b <;> simp only[bS]at w <;> first|simp at w;done|skip
   simp only[bH,B,G,hk,hd];exact w
  simp at h
 | slice t x lo hi mx=>
  simp only[resolve]at h;split at h
  .rename_i hk;simp only[ζa,ζc]at h;obtain⟨rfl,rfl⟩:=h;obtain⟨a,bs,B,G,rfl⟩:=iA hv;refine⟨rfl,λv w=>?_⟩
   cases a <;> simp only[bS]at w <;> first|simp at w;done|skip
   obtain⟨⟨l,h⟩,X,w⟩:=ζg.1 w;obtain⟨h1,J⟩:=HR G X;have hm:jB F none=some none:=rfl;simp only[bH,B,hk,h1,J,hm];exact w
  .rename_i e hk;simp only[ζf,ζc]at h;obtain⟨d,hd,rfl,rfl⟩:=h;obtain⟨a,bs,B,G,rfl⟩:=iA hv;refine⟨rfl,λv w=>?_⟩
   simp only[bS]at w;obtain⟨⟨l,h⟩,X,w⟩:=ζg.1 w;obtain⟨h1,J⟩:=HR G X;have hm:jB F none=some none:=rfl;simp only[bH,B,hk,h1,J,hm,hd];cases a <;> exact w
  .rename_i e m hk;split at h
   .rename_i d hh hd;simp only[ζa,ζc]at h;obtain⟨rfl,rfl⟩:=h;obtain⟨a,b,c,B,G,hc,rfl⟩:=HU hv;refine⟨rfl,λv w=>?_⟩
    cases b <;> cases c <;> simp only[bS]at w <;> first|simp at w;done|skip
    rename_i k1 n1 k2 n2;split at w
    .rename_i T;simp only[ζh,beq_iff_eq]at T;obtain⟨⟨h1,rfl⟩,rfl⟩:=T;have m1:jB F none=some none:=rfl;have m2:jB F (some hh)=some (some 0):=by simp[jB,G]
     have m3:jB F (some m)=some (some 0):=by simp[jB,hc]
     simp only[bH,B,hk,m1,m2,m3,hd];cases a <;> simp[KH]at h1 <;> exact w
    simp at w
   simp at h
  simp at h
 | build t ps=>
  simp only[resolve]at h;split at h
  .rename_i d hd;split at h
   .rename_i fs hk;split at h
    .rename_i pl ad;simp only[ζf,ζc]at h;obtain⟨q,hq,rfl,rfl⟩:=h;refine⟨rfl,λv w=>?_⟩
     simp only[bS,ζf]at w;obtain⟨cs,Y,rfl⟩:=w;obtain⟨ws,w1,w2⟩:=HA (λi=>pl[i]?) _ q vs _ cs hq hv Y
     simp only[bH,hd,w1,hk,ad,w2,Option.map_some]
    simp at h
   .rename_i len e hk;simp only[ζf,ζc]at h;obtain⟨de,ae,rfl,rfl⟩:=h;refine⟨rfl,λv w=>?_⟩
    simp only[bS,ζf]at w;obtain⟨cs,Y,rfl⟩:=w;obtain⟨ws,w1,w2⟩:=HA (λi=>some (i*de.size,de.size)) ps.toList (ps.toList.map λq=>(q.1*de.size,de.size)) vs _ cs (by
     generalize ps.toList=l
     induction l with
     | nil=>rfl
     | cons x l ih=>simp[List.mapM_cons,ih]) hv Y
    simp only[bH,hd,w1,hk,ae,w2,Option.map_some]
   simp at h
  simp at h
 | makeFunc f a b=>
  cases f with
  | func f=>
   simp only[resolve,ζf,ζc]at h;obtain⟨s,hs,rfl,rfl⟩:=h;obtain⟨az,bs,B,G,rfl⟩:=Lt hv;refine⟨rfl,λv w=>?_⟩
   simp only[bS,ζa]at w;subst w;simp only[bH,B,G,hN f s hs];rw[<-L5 B];simp
  | _=>simp[resolve]at h
 | extract x i=>
  simp only[resolve,ζa,ζc]at h;obtain⟨rfl,rfl⟩:=h;obtain⟨a,B,rfl⟩:=nR hv;refine⟨rfl,λv w=>?_⟩
  cases a <;> simp only[bS]at w <;> first|simp at w;done|skip
  simp only[bH,B];exact w
 | load t x=>
  simp only[resolve,ζf,ζc]at h;obtain⟨d,hd,rfl,rfl⟩:=h;obtain⟨a,B,rfl⟩:=nR hv;exact⟨rfl,λH v w=>by simp only[dI,hd,B];exact w⟩
 | lookup t m k ok=>
  simp only[resolve]at h;split at h
  .rename_i kt et hk;split at h
   .rename_i d kk hd L;simp only[ζf,ζc]at h;obtain⟨z,U,rfl,rfl⟩:=h;obtain⟨a,b,B,G,rfl⟩:=sH hv;refine⟨rfl,λH v w=>?_⟩
    simp only[eP]at w;split at w
    .rename_i aa O;split at w
     .rename_i Q;simp only[dI,hk,B,G,hd,O,zO L Q,if_true,U];split at w
      next W=>rw[W];exact w
      next W=>rw[W];exact w
      simp at w
     simp at w
    simp at w
   simp at h
  simp at h
 | alloc t=>
  simp only[resolve,ζf,ζc]at h;obtain⟨d,hd,rfl,rfl⟩:=h;have:=pS hv;subst this;exact⟨rfl,λx w=>by simpa [kT,eC,hd]using w⟩
 | box t x=>
  simp only[resolve,ζa,ζc]at h;obtain⟨rfl,rfl⟩:=h;obtain⟨a,B,rfl⟩:=nR hv;exact⟨rfl,λx w=>by simp only[eC,B];exact w⟩
 | makeSlice t l c=>
  simp only[resolve]at h;split at h
  .rename_i e hk;split at h
   .rename_i d hd;split at h
    .rename_i S;simp only[ζa,ζc]at h;obtain⟨rfl,rfl⟩:=h;obtain⟨a,b,B,G,rfl⟩:=sH hv;refine⟨rfl,λx w=>?_⟩
     cases a <;> cases b <;> simp only[kT]at w <;> first|simp at w;done|skip
     rename_i k1 n1 k2 n2;split at w
     next hc=>simp only[eC,hk,B,G,hd];rw[if_pos ⟨hc.1,hc.2.1,hc.2.2.1,hc.2.2.2.1,hc.2.2.2.2,S⟩];exact w
     simp at w
    simp at h
   simp at h
  simp at h
 | buildSlice t len ps=>
  simp only[resolve]at h;split at h
  .rename_i e hk;split at h
   .rename_i d hd;split at h
    .rename_i S;simp only[ζa,ζc]at h;obtain⟨rfl,rfl⟩:=h;refine⟨rfl,λx w=>?_⟩
     have U:=MV _ _ hv;simp only[kT]at w;split at w
     .simp only[eC,hk,U,hd,if_pos S];exact w
     simp at w
    simp at h
   simp at h
  simp at h
 | makeMap t r=>
  cases r with
  | none=>
   simp only[resolve,ζa,ζc]at h;obtain⟨rfl,rfl⟩:=h;have:=pS hv;subst this;exact⟨rfl,λx w=>by simpa [kT,eC]using w⟩
  | some r=>simp[resolve]at h
 | store t p x=>
  simp only[resolve,ζf,ζc]at h;obtain⟨d,hd,rfl,rfl⟩:=h;obtain⟨a,b,B,G,rfl⟩:=sH hv;refine⟨rfl,λH v w=>?_⟩
  cases a <;> simp only[eO]at w <;> first|simp at w;done|skip
  simp only[cr,hd,B,G];exact w
 | mapUpdate t m k x=>
  simp only[resolve]at h;split at h
  .rename_i kt et hk;simp only[ζf,ζc]at h;obtain⟨kk,L,rfl,rfl⟩:=h;obtain⟨a,b,c,B,G,hc,rfl⟩:=HU hv;refine⟨rfl,λH v w=>?_⟩
   cases a <;> simp only[eO]at w <;> first|simp at w;done|skip
   simp only[cr,hk,B,G,hc];split at w
   .rename_i aa O;split at w
    next Q=>rw[O];simp only[zO L Q,if_true];exact w
    simp at w
   simp at w
  simp at h
 | insert t m k x=>
  simp only[resolve]at h;split at h
  .rename_i kt et hk;simp only[ζf,ζc]at h;obtain⟨kk,L,rfl,rfl⟩:=h;obtain⟨a,b,c,B,G,hc,rfl⟩:=HU hv;refine⟨rfl,λH v w=>?_⟩
   cases a <;> simp only[eO]at w <;> first|simp at w;done|skip
   simp only[cr,hk,B,G,hc];split at w
   .rename_i aa O;split at w
    next Q=>rw[O];simp only[zO L Q,if_true];exact w
    simp at w
   simp at w
  simp at h
 | call c=>
  obtain⟨callee,args,aj⟩:=c
  cases callee with
  | value f=>
   simp only[resolve,ζa,ζc]at h;obtain⟨rfl,rfl⟩:=h;obtain⟨a,az,B,has,rfl⟩:=iA hv;refine⟨rfl,a,az,rfl,?_⟩;simp only[jL,B,has];cases a <;> rfl
  | builtin b=>
   cases b with
   | append=>
    simp only[resolve]at h;split at h
    .rename_i t t' s x I C;split at h
     .rename_i e e' hk Z;split at h
      .rename_i d hd;split at h
       .rename_i S;simp only[ζa,ζc]at h;obtain⟨rfl,rfl⟩:=h;obtain⟨a,b,B,G,rfl⟩:=sH hv;refine⟨rfl,λH v w=>?_⟩
        have D:fq F args.toList=some [a,b]:=by rw[C];exact hv
        simp only[cr,I,D,hk,Z,hd];simp only[eO]at w;split at w
        next h1 J=>rw[h1,J];exact w
        .rename_i xs ys af h1 J;rw[h1,J];split at w
         .rename_i ah;simp only[if_pos (show xs.length+ys.length<=2147483648/\d.bytes<=4096/\0<d.bytes from⟨ah,S⟩)]
          cases ys with
          | nil=>exact absurd rfl af
          | cons y ys=>exact w
         simp at w
        simp at w
       simp at h
      simp at h
     .rename_i e kk hk Z;simp only[ζf,ζc]at h;obtain⟨d,hd,rfl,rfl⟩:=h;obtain⟨a,b,B,G,rfl⟩:=sH hv;refine⟨rfl,λH v w=>?_⟩
      have D:fq F args.toList=some [a,b]:=by rw[C];exact hv
      simp only[cr,I,D,hk,Z,hd];exact w
     simp at h
    simp at h
   | cap=>
    simp only[resolve]at h;split at h
    .rename_i t x I C;split at h
     .rename_i e hk;simp only[ζa,ζc]at h;obtain⟨rfl,rfl⟩:=h;obtain⟨a,B,rfl⟩:=nR hv;have D:fq F args.toList=some [a]:=by rw[C];exact hv
      refine⟨rfl,λx w=>?_⟩
      simp only[bH,I,D,hk];simp only[bS]at w;cases a <;> simp only[Qx]at w <;> first|(simp at w;done)|exact w
     simp at h
    simp at h
   | clear=>
    simp only[resolve]at h;split at h
    .rename_i t x I C;split at h
     .rename_i e hk;simp only[ζf,ζc]at h;obtain⟨d,hd,rfl,rfl⟩:=h;obtain⟨a,B,rfl⟩:=nR hv;have D:fq F args.toList=some [a]:=by rw[C];exact hv
      refine⟨rfl,λH v w=>?_⟩
      simp only[cr,I,D,hk,hd];exact w
     simp at h
    simp at h
   | len=>
    simp only[resolve]at h;split at h
    .rename_i t x I C;split at h
     .rename_i hk;simp only[ζa,ζc]at h;obtain⟨rfl,rfl⟩:=h;obtain⟨a,B,rfl⟩:=nR hv;have D:fq F args.toList=some [a]:=by rw[C];exact hv
      refine⟨rfl,λv w=>?_⟩
      cases a <;> simp only[bS]at w <;> first|simp at w;done|skip
      simp only[bH,D,I,hk];exact w
     .rename_i e hk;simp only[ζa,ζc]at h;obtain⟨rfl,rfl⟩:=h;obtain⟨a,B,rfl⟩:=nR hv;have D:fq F args.toList=some [a]:=by rw[C];exact hv
      refine⟨rfl,λv w=>?_⟩
      simp only[bH,D,I,hk];simp only[bS,qu]at w;cases a <;> simp at w ⊢ <;> exact w
     simp at h
    simp at h
   | max=>
    simp only[resolve]at h;split at h
    .rename_i x y C;simp only[ζa,ζc]at h;obtain⟨rfl,rfl⟩:=h;obtain⟨a,b,B,G,rfl⟩:=sH hv;have D:fq F args.toList=some [a,b]:=by rw[C];exact hv
     refine⟨rfl,λv w=>?_⟩
     cases a <;> cases b <;> simp only[bS]at w <;> first|simp at w;done|skip
     simp only[bH,D];exact w
    .rename_i x y z t C;simp only[ζa,ζc]at h;obtain⟨rfl,rfl⟩:=h;obtain⟨a,ak,B,J,rfl⟩:=iA hv;obtain⟨b,c,d,G,hc,hd,rfl⟩:=HU J;have D:fq F args.toList=some [a,b,c,d]:=by rw[C];exact hv
     refine⟨rfl,λv w=>?_⟩
     cases a <;> cases b <;> simp only[bS]at w <;> first|simp at w;done|skip
     cases c <;> cases d <;> simp only[bS]at w <;> first|simp at w;done|skip
     simp only[bH,D];exact w
    simp at h
   | min=>
    simp only[resolve]at h;split at h
    .rename_i x y C;simp only[ζa,ζc]at h;obtain⟨rfl,rfl⟩:=h;obtain⟨a,b,B,G,rfl⟩:=sH hv;have D:fq F args.toList=some [a,b]:=by rw[C];exact hv
     refine⟨rfl,λv w=>?_⟩
     cases a <;> cases b <;> simp only[bS]at w <;> first|simp at w;done|skip
     simp only[bH,D];exact w
    simp at h
   | _=>simp[resolve]at h
  | _=>simp[resolve]at h
 | panic x=>
  simp only[resolve,ζa,ζc]at h;obtain⟨rfl,rfl⟩:=h;have:=pS hv;subst this;exact⟨rfl,λx w=>by simp[bS]at w⟩
 | makeInterface t x=>
  simp only[resolve,ζa,ζc]at h;obtain⟨rfl,rfl⟩:=h;have:=pS hv;subst this;exact⟨rfl,λx w=>by simp[bS]at w⟩
 | _=>simp[resolve]at h
end
structure zD (c c':dz):Prop where
 lv:c.lv<=c'.lv
 go:∀x a H r,c x a H=some r->c' x a H=some r
section
variable {E:Env} {c c':dz} {n:Nat} {ops:a_ Oper} {F F':Frame} {H H':bn}
theorem G_ {f:FuncId} {args:a_ V} {y:V} (u:b8 c f args H=some y):∃az,borrows c.lv H args=some az:=by
 unfold b8 at u;split at u
 next az h=>exact⟨az,h⟩
 cases u
theorem CW (B:c.lv<=c'.lv) {f:FuncId} (h:∀a H r,c (.fn f) a H=some r->c' (.fn f) a H=some r) {args:a_ V} {y:V} (u:b8 c f args H=some y):b8 c' f args H=some y:=by
 unfold b8 at u ⊢;split at u
 .rename_i az t;rw[rV B t];split at u
  .rename_i hc;simp only;rw[h _ _ _ hc];split at u
   next w=>simp only;rw[rL B w];exact u
   cases u
  simp at u
 simp at u
theorem nE (h:zD c c') {f:FuncId} {args:a_ V} {y:V} (u:b8 c f args H=some y):b8 c' f args H=some y:=CW h.lv (λ_ _ _=>h.go _ _ _ _) u
theorem l_ (u:c.lv<=c'.lv) {f:FuncId} {args:a_ V} {y:V} (B:b8 c f args H=some y):cN (b7 c'.lv H) args=cN (b7 c.lv H) args:=by
 obtain⟨az,h⟩:=G_ B;exact yj u h
theorem Cy (B:c.lv<=c'.lv) {f:FuncId} (h:∀a H r,c (.fn f) a H=some r->c' (.fn f) a H=some r) {args:a_ V} {r:V×bn} (u:nH c f args H=some r):nH c' f args H=some r:=by
 unfold nH at u ⊢;split at u
 .rename_i az t;rw[rV B t];split at u
  next hc=>simp only;rw[h _ _ _ hc];exact u
  simp at u
 simp at u
theorem Gf (h:zD c c') {f:FuncId} {args:a_ V} {r:V×bn} (u:nH c f args H=some r):nH c' f args H=some r:=Cy h.lv (λ_ _ _=>h.go _ _ _ _) u
theorem zP (h:zD c c') {f:FuncId} {args:a_ V} {r:V×bn} (u:gP E c f args H=some r):gP E c' f args H=some r:=by
 unfold gP at u ⊢;split
 next t=>rw[if_pos t]at u;exact Gf h u
 rename_i t;rw[if_neg t]at u;exact h.go _ _ _ _ u
theorem zn (J:c.lv<=c'.lv) {f:FuncId} {args:a_ V} {y G:V} {b:Nat} (h1:b8 c f args (H.take b)=none) (B:b8 c f args H=some y) (D:b8 c' f args (H.take b)=some G):False:=by
 unfold b8 at h1 B D;split at D
 .rename_i az has;split at B
  .rename_i C t;have e:=nP (λx y z k1 k2=>Jm (H2:=H.take b) c.lv c'.lv x y z k1 k2 λid u=>by
    rw[List.getElem?_take]at u ⊢;split at u
    next w=>rw[if_pos w]
    cases u) t has
   have I:borrows c.lv H args=some az:=sq (Bf c.lv) e;rw[I]at t;cases t;rw[show borrows c.lv (H.take b) args=some az from e]at h1;simp only at h1;rw[h1]at B;simp at B
  simp at B
 simp at D
theorem N2 (h:zD c c') {place:bf (Nat×Nat)} {op:Op} {r:V×bn} (u:cK E c ops place F H op=some r):cK E c' ops place F H op=some r:=by
 unfold cK at u ⊢;split at u
 .exact u
 .exact u
 .exact u
 .exact u
 split at u
 .rename_i f args B;split at u
  rotate_left
  .cases u
  rename_i C;rw[if_pos C];unfold dJ at u ⊢;split at u
  .rename_i hk;rw[if_pos hk];split at u
   .exact zP h u
   skip
   split at u
   next z=>rw[if_pos z];exact zP h u
   simp at u
  rename_i hk;rw[if_neg hk];split at u
  .skip
   split at u
   next y t=>rw[nE h t,l_ h.lv t];exact u
   simp at u
  rename_i b i
  skip
  split at u
  next y t=>rw[nE h t,l_ h.lv t];exact u
  rename_i w;split at u
  .rename_i z;split at u
   .rename_i y t
    cases D:b8 c' f args (List.take b H)with
    | some G=>exact(zn h.lv w t D).elim
    | none=>simp only[if_pos z,nE h t,l_ h.lv t];exact u
   simp at u
  simp at u
 .rename_i id args B;split at u
  .exact h.go _ _ _ _ u
  skip
  split at u
  next z=>rw[if_pos z];exact h.go _ _ _ _ u
  simp at u
 simp at u
theorem Dg (h:zD c c') {place:bf (Nat×Nat)} {o:Oper} {r:Frame×bn} (u:fZ E c n ops place o F H=some r):fZ E c' n ops place o F H=some r:=by
 unfold fZ at u ⊢;split at u
 .rename_i t;rw[if_pos t];split at u
  next v H1 hd=>rw[N2 h hd];exact u
  simp at u
 rename_i t;rw[if_neg t];exact u
theorem Bl (h:zD c c') {r:Frame×bn}:∀(l:a_ Oper) {F:Frame} {H:bn},lQ E c n ops l F H=some r->lQ E c' n ops l F H=some r
 | [],_,_,u=>u
 | o::l,F,H,u=>by
  simp only[lQ]at u ⊢;split at u
  next F1 H1 B=>rw[Dg h B];exact Bl h l u
  simp at u
theorem Bn (h:zD c c') {base:Nat} {r:Frame×bn}:∀(l:a_ Nat) {F:Frame} {H:bn},jE E c n ops base l F H=some r->jE E c' n ops base l F H=some r
 | [],_,_,u=>u
 | i::l,F,H,u=>by
  simp only[jE]at u ⊢;split at u
  .split at u
   next F1 H1 B=>rw[Dg h B];exact Bn h l u
   simp at u
  simp at u
theorem DV (h:zD c c') {u:Bool} {r:Frame×bn} (B:jf E c n ops u F H=some r):jf E c' n ops u F H=some r:=by
 unfold jf at B ⊢;split
 .rename_i hd;rw[if_pos hd]at B;split at B
  next t=>rw[if_pos t];exact Bn h _ B
  simp at B
 rename_i hd;rw[if_neg hd]at B;exact Bl h _ B
theorem yK {s J:Frame->bn->bf (Out×Frame×bn)} (h:∀F H r,s F H=some r->J F H=some r):∀(k B:Nat),k<=B->∀{F H r},j_ s k F H=some r->j_ J B F H=some r
 | 0,_,_,F,H,r,u=>by simp[j_]at u
 | k+1,0,hk,F,H,r,u=>by omega
 | k+1,B+1,hk,F,H,r,u=>by
  simp only[j_]at u ⊢;split at u
  next F1 H1 O=>rw[h _ _ _ O];exact yK h k B Za u
  rename_i D;rw[h _ _ _ u];split
  next F1 H1 G=>cases G;exact absurd u (D _ _)
  rfl
theorem Ar (h:zD c c') {lf B:Nat} (O:lf<=B) (ro:Bool) (nt:Nat):∀(code:Code) {F:Frame} {H:bn} {r:Out×Frame×bn},exec E c lf ro nt code F H=some r->exec E c' B ro nt code F H=some r:=by
 intro code
 induction code with
 | skip=>intro F H r u;exact u
 | label l=>intro F H r u;exact u
 | region id ops L=>
  intro F H r u;simp only[exec,ζf]at u ⊢;obtain⟨x,Q,rfl⟩:=u;exact⟨x,DV h Q,rfl⟩
 | seq a b z C=>
  intro F H r u;simp only[exec]at u ⊢;split at u
  next F1 H1 h1=>rw[z h1];exact C u
  rename_i D;rw[z u];split
  next G=>cases G;exact absurd u (D _ _)
  rfl
 | cond x a b z C=>
  intro F H r u;simp only[exec]at u ⊢;split at u
  .rename_i t U;split at u
   next I=>subst I;simp only[if_true];exact z u
   rename_i I;rw[if_neg I];exact C u
  simp at u
 | block id a J=>
  intro F H r u;simp only[exec]at u ⊢;split at u
  next S F1 H1 h1=>rw[J h1];exact u
  rename_i D;rw[J u];split
  next G=>cases G;exact absurd u (D _ _ _)
  rfl
 | loop a J=>
  intro F H r u;simp only[exec]at u ⊢;exact yK (λF H r hr=>J hr) lf B O u
 | rangeFunc g W X Y _ _=>
  intro F H r u;simp only[exec]at u ⊢;split at u
  .split at u
   next T H1 hc=>rw[h.go _ _ _ _ hc];exact u
   simp at u
  simp at u
 | exit id=>intro F H r u;exact u
 | ret=>intro F H r u;exact u
 | scope a _=>intro F H r u;simp[exec]at u
 | goto l=>intro F H r u;simp[exec]at u
 | refuse w=>intro F H r u;simp[exec]at u
theorem Hp (E:Env):∀n,zD (run E n) (run E (n+1)):=by
 intro n
 induction n with
 | zero=>exact⟨Nat.le_succ _,λx a H r h=>(by cases h)⟩
 | succ n t=>
  refine⟨Nat.le_succ _,λx a H r h=>?_⟩
  rw[F8]at h ⊢
  cases x with
  | fn f=>
   rw[iR]at h ⊢;split at h
   .rename_i T L;split at h
    .rename_i z;rw[if_pos z];split at h
     .simp at h
     .rename_i o F1 H1 B O;rw[Ar t (Nat.le_succ n) _ _ _ O]
      cases o with
      | exit id=>exact(B id rfl).elim
      | norm=>exact h
      | ret=>exact h
     simp at h
    simp at h
   split at h
   next C=>rw[if_pos C];exact Cj t.lv (λg args y _ Q=>nE t Q) h
   rename_i C;rw[if_neg C];exact h
  | yld id=>
   rw[iR]at h ⊢;split at h
   .rename_i rec J;split at h
    .rename_i S;split at h
     .rename_i u;split at h
      .rename_i U H2 D;split at h
       .rename_i r2 G;split at h
        .rename_i w;split at h
         next o W X I=>simp only[if_pos u,Ar t (Nat.le_succ n) _ _ _ D,G,w,Ar t (Nat.le_succ n) _ _ _ I];exact h
         simp at h
        simp at h
       simp at h
      simp at h
     simp at h
    simp at h
   simp at h
theorem qw (E:Env) {n m:Nat} (h:n<=m):zD (run E n) (run E m):=by
 induction h with
 | refl=>exact⟨Nat.le_refl _,λ_ _ _ _ h=>h⟩
 | step _ t=>exact⟨Nat.le_trans t.lv (Hp E _).lv,λx a H r h=>(Hp E _).go x a H r (t.go x a H r h)⟩
theorem og (E:Env):∀n,(run E n).lv=n
 | 0=>rfl
 | _+1=>rfl
end
def LY (P:Program) (f:FuncId):bf FI:=(P.funcs[f]?).bind λfn=>fn.body.map λb=>⟨fn.ntmps,fn.results.toList,b⟩
def Az (P:Program):Bool:=P.funcs.toList.all λfn => !(fn.name == "runtime.NumGoroutine")
theorem TF {P:Program} (h:Az P=true) {f:FuncId} {fi:FI} (u:LY P f=some fi):∃fn,P.funcs[f]? = some fn/\fn.body=some fi.body/\fn.ntmps=fi.ntmps/\fn.results.toList=fi.results/\(fn.name == "runtime.NumGoroutine")=false:=by
 unfold LY at u;obtain⟨fn,h1,w⟩:=ζg.1 u;obtain⟨b,z,rfl⟩:=ζf.1 w;refine⟨fn,h1,z,rfl,rfl,?_⟩;unfold Az at h;rw[List.all_eq_true]at h;have B:=h fn (by
  obtain⟨t,rfl⟩:=Array.getElem?_eq_some_iff.1 h1;exact Array.mem_toList_iff.2 (Array.getElem_mem t))
 simpa using B
def DD (P:Program) (shut keep own:a_ Nat) (two:a_ (Nat×Nat)) (srt:FuncId->Bool) (known:FuncId->a_ V->bf V) (soft:a_ Nat:=[]):Env where
 tt:=tF P
 ft f:=if shut.contains f then none else LY P f
 keep:=keep.contains
 own:=own.contains
 eqN t:=lk two t
 sort:=srt
 known:=known
 soft:=soft.contains
theorem GH {P:Program} {shut keep own:a_ Nat} {two:a_ (Nat×Nat)} {srt:FuncId->Bool} {known:FuncId->a_ V->bf V} {soft:a_ Nat} (h:Az P=true) (B:∀p∈two,s6 P p.1 p.2):dU P (DD P shut keep own two srt known soft) where
 tt t d h:=h
 ft f w u:=by
  change (if shut.contains f then none else LY P f)=some w at u;split at u
  .cases u
  exact TF h u
 eqN t n z:=B (t,n) (Od z)
def p8:a_ (a_ V)->bf (a_ Int)
 | []=>some []
 | [.int .i64 n]::r=>(p8 r).map (n::·)
 | _=>none
def vn (n:Nat) (l:a_ Int):a_ Int:=l.take n++List.replicate (n-l.length) 0
def yU (n:Nat) (l:a_ Int):a_ V:=(vn n l).map (V.int .i64)
def uX (n:Nat):a_ V->bf V
 | [.bN]=>some (.agg (yU n []))
 | [.c_]=>some (.agg (yU n []))
 | [.fsl 1 xs]=>(p8 xs).map λl=>.agg (yU n l)
 | _=>none
theorem Bd:∀{xs:a_ (a_ V)} {l:a_ Int},p8 xs=some l->l.length=xs.length/\∀(i:Nat) (k:Int),l[i]? = some k->xs[i]? = some [V.int .i64 k]
 | [],l,h=>by cases h;grind
 | x::xs,l,h=>by
  unfold p8 at h;split at h
  .grind
  .rename_i n r u;obtain⟨rfl,rfl⟩:=u;obtain⟨t,h1,rfl⟩:=ζf.1 h;obtain⟨w,z⟩:=Bd h1
   grind
  simp_all
structure Uk (w:World) (v:Value) (l:List Int):Prop where
 at_:∃a cap,v=.slice a l.length cap/\(a=none->l=[])/\∀ad,a=some ad->l=[]\/∃c el fr,ad.spot=none/\w.heap[ad.block]? = some (.cells c el fr)/\ad.off+l.length<=c.size/\(c.toList.drop ad.off).take l.length=l.map (Value.int .i64)
section
variable {P:Program} {I:ck} {μ:Mu} {H:bn} {w:World} {n:Nat}
theorem Vo (s:cR I μ H w) {x:V} {v:Value} {y:V} (hv:bE I μ x v) (u:uX n [x]=some y):∃l,Uk w v l/\y=.agg (yU n l):=by
 have hc  := by
  cases hv with
  | c _ _ h=>omega
  | _=>simp[uX]at u
 unfold uX at u;split at u
 next t=>obtain⟨rfl,_⟩:=t;cases hc;cases u;exact⟨[],⟨⟨none,0,rfl,λ_=>rfl,λz h=>by cases h⟩⟩,rfl⟩
 next t=>obtain⟨rfl,_⟩:=t;cases hc;cases u;exact⟨[],⟨⟨_,0,rfl,λ_=>rfl,λz h=>.inl rfl⟩⟩,rfl⟩
 .rename_i U t;obtain⟨rfl,_⟩:=t;obtain⟨l,J,rfl⟩:=ζf.1 u;obtain⟨h1,L⟩:=Bd J;refine⟨l,?_,rfl⟩
  cases hc with
  | fsl0 _ a cap=>
   have  := List.length_eq_zero_iff.1 h1;subst this;exact⟨⟨_,cap,rfl,λ_=>rfl,λz h=>.inl rfl⟩⟩
  | fsl _ _ b o cap c O G hu W X hr=>
   refine⟨⟨_,cap,(by rw[h1]),(λh=>by cases h),λz B=>.inr ?_⟩⟩
   cases B;obtain⟨el,fr,Q⟩:=s.imm b _ O;refine⟨c,el,fr,rfl,Q,by grind,?_⟩
   refine List.ext_getElem? λi=>?_
   rw[List.getElem?_take,List.getElem?_map]
   by_cases S:i<l.length
   .have T:=L i _ (ζd S);have C:o+i<c.size:=by grind
    have D:c[o+i*1+0]? = some c[o+i]:=by simp[C]
    have:=hr i 0 _ _ _ T rfl D;have e:c[o+i]=.int .i64 l[i]:=by
     generalize c[o+i]=q at this ⊢;cases this;rfl
    grind
   grind
 simp_all
theorem OY {v:Value} {l:a_ Int} (h:Uk w v l) {w':World} (hk:∀b,b<w.heap.size->w'.heap[b]? = w.heap[b]?) (n:Nat) :
 (Builtin.lenOf v).run P w'=.ok l.length w'/\(Builtin.firstCells 1 (Nat.min l.length n) v).run P w'=.ok ((l.take n).map (Value.int .i64)).toArray w':=by
 obtain⟨a,cap,rfl,C,h1⟩:=h.at_;refine⟨by simp[Builtin.lenOf],?_⟩
 cases a with
 | none=>rw[C rfl];simp[Builtin.firstCells]
 | some z=>
  rcases h1 z rfl with rfl|⟨c,el,fr,B,hc,u,hd⟩
  .simp[Builtin.firstCells,loadCells,loadCellsFrom]
  obtain⟨b,o,G⟩:=z;simp only at B hc u hd;subst B;have D  := (Array.getElem?_eq_some_iff.1 hc).1;have t  := pU (by rw[hk b D];omega)
  have I:Nat.min l.length n<=l.length:=Nat.min_le_left _ _;simp[Builtin.firstCells];rw[vG t (.inl Za)]
  have:(c.toList.drop o).take (Nat.min l.length n)=((c.toList.drop o).take l.length).take n:=by
   rw[List.take_take];congr 1;exact Nat.min_comm _ _
  simp_all
variable {f A S e:Nat} {fn:Func} {bytes i1 i2 i3 i4 t1 t2 t6 t7:Nat} {p1 p2 p3 p4 p5 p6 p7:String} {e1 e2 e3 e4 e5 e6 e7:Array Edge}
theorem xS {o:Oper} {a:Act} {w w':World} {K:Act->World->Prop} {Q:Exit->Act->World->Prop} {v:Value} (u:∀c,o.op≠.defer c)
 (h:(execOp a.eval o).run P w=.ok (.value v) w') (B:K (a.put o.dst v) w'):o.wpIn (fr none) 0 P a w K Q:=by
 refine⟨λ_ _=>trivial,?_⟩
 show o.uponIn (fr none) 0 P a K Q ((o.semAt none a.eval).run P w);rw[Oper.semAt_eq none a.eval o u,h,Oper.uponIn_value];omega
theorem VJ {o:Oper} {a:Act} {w w':World} {K:Act->World->Prop} {Q:Exit->Act->World->Prop} (u:∀c,o.op≠.defer c)
 (h:(execOp a.eval o).run P w=.ok .skip w') (B:K (a.put o.dst undef) w'):o.wpIn (fr none) 0 P a w K Q:=by
 refine⟨λ_ _=>trivial,?_⟩
 show o.uponIn (fr none) 0 P a K Q ((o.semAt none a.eval).run P w);rw[Oper.semAt_eq none a.eval o u,h,Oper.uponIn_skip];omega
theorem UZ {o:Oper} {id:Nat} {a:Act} {w:World} {Q:Exit->Act->World->Prop} (hg:o.guard=none) (h:o.wpIn (fr none) 0 P a w (Q .normal) Q):(Code.region id #[o] false).wpIn (fr none) 0 P Q a w:=by
 refine wpIn_region ?_;simpa [wpOpsIn,Region.wanted,hg]using h
theorem XC {o o2:Oper} {id:Nat} {a:Act} {w:World} {Q:Exit->Act->World->Prop} (hg:o.guard=none) (u:o2.guard=none) (h:o.wpIn (fr none) 0 P a w (λa w=>o2.wpIn (fr none) 0 P a w (Q .normal) Q) Q):(Code.region id #[o,o2] false).wpIn (fr none) 0 P Q a w:=by
 refine wpIn_region ?_;show wpOpsIn _ _ _ _ _ [0,1] _ _;simpa [wpOpsIn,Region.wanted,hg,u]using h
theorem XB {o o2 o3:Oper} {id:Nat} {a:Act} {w:World} {Q:Exit->Act->World->Prop} (hg:o.guard=none) (u:o2.guard=none) (B:o3.guard=none)
 (h:o.wpIn (fr none) 0 P a w (λa w=>o2.wpIn (fr none) 0 P a w (λa w=>o3.wpIn (fr none) 0 P a w (Q .normal) Q) Q) Q):(Code.region id #[o,o2,o3] false).wpIn (fr none) 0 P Q a w:=by
 refine wpIn_region ?_;show wpOpsIn _ _ _ _ _ [0,1,2] _ _;simpa [wpOpsIn,Region.wanted,hg,u,B]using h
theorem Tr (hf:P.funcs[f]? = some fn)
 (hb:fn.body=some (.seq (.region i1 #[⟨some 2,.alloc A,t1,p1,e1,none⟩] false) (.seq (.region i2 #[⟨some 3,.alloc A,t2,p2,e2,none⟩] false)
  (.seq (.region i3 #[⟨some 4,.slice A (.tmp 3) none none none,S,p3,e3,none⟩,⟨some 5,.move (.tmp 0),S,p4,e4,none⟩,⟨some 6,.call { callee:=.builtin .copy,args:=#[.tmp 4,.tmp 5],argTypes:=#[S,S] },t6,p5,e5,none⟩] false)
  (.seq (.region i4 #[⟨some 7,.load A (.tmp 3),A,p6,e6,none⟩,⟨none,.store A (.tmp 2) (.tmp 7),t7,p7,e7,none⟩] false) .ret)))))
 (aA:fn.ntmps=8) (hr:fn.results=#[.cell 2 A]) (af:(fn.name == "runtime.NumGoroutine")=false)
 (hA:P.underlying A=some (.array n e)) (hS:P.underlying S=some (.slice e)) (he:tF P e=some ⟨1,8,[.int .i64 0],.int .i64⟩) (aB:tF P A=some ⟨n,bytes,List.replicate n (.int .i64 0),.array n e⟩) :
 ∀args y,uX n args=some y->vW P f args y:=by
 intro args y hy;refine⟨⟨fn,hf,by simp[hb],af⟩,λI μ H w vs s hv=>?_⟩
 obtain⟨x,rfl⟩:∃x,args=[x]:=by
  match args,hy with
  | [],h=>simp[uX]at h
  | [x],_=>exact⟨x,rfl⟩
  | _::_::_,h=>simp[uX]at h
 obtain⟨v,rfl⟩:=List.length_eq_one_iff.1 (hv.1.symm);obtain⟨l,al,rfl⟩:=Vo s (hv.2 0 x v rfl rfl) hy;have tA:=nU.C0 aB;have te:=nU.C0 he;obtain⟨z,hz,am,aK,aL⟩:=tA.zX;have Q:z.cells.size=n:=by have:=(am (λ_=>none) (λ_=>none)).1;simp at this;omega
 have key:∀u,bE (λ_=>none) (λ_=>none) (.int .i64 0) u->u=.int .i64 0:=λu h=>by cases h with|c _ _ h=>cases h;rfl
 have aC:z.cells.toList=List.replicate n (.int .i64 0):=by
  refine List.ext_getElem? λi=>?_
  by_cases hi:i<n
  .have h2:=(am (λ_=>none) (λ_=>none)).2 i (.int .i64 0) (z.cells[i]' Za) (by simp[hi]) Zc
   rw[List.getElem?_replicate,if_pos hi];have  := key _ h2;simp[this,Q,hi]
  rw[List.getElem?_eq_none (by simp;omega),List.getElem?_eq_none (by simp;omega)]
 have C:∀w,(Instr.alloc A true (.tuple #[])).run P w=.ok (.pointer (some ⟨w.heap.size,0,none⟩)) (w.alloc (.cells z.cells A)):=by
  intro w;unfold Instr.alloc;simp[Sem.run_bind,hz,Result.andThen_ok,Ec,Sem.run_pure]
 have ab:(w.alloc (.cells z.cells A)).heap.size=w.heap.size+1:=by simp
 generalize J:(w.alloc (.cells z.cells A)).alloc (.cells z.cells A)=B;have an:B.heap.size=w.heap.size+2:=by subst J;simp
 have ao:∀b,b<w.heap.size->B.heap[b]? = w.heap[b]? := by
  intro b hb;subst J;rw[jO _ _ Za,jO _ _ hb]
 have aD:B.heap[w.heap.size]? = some (.cells z.cells A):=by subst J;rw[jO _ _ Za,kB]
 have aE:B.heap[w.heap.size+1]? = some (.cells z.cells A):=by subst J;rw[<-ab,kB]
 have ah:B.os=w.os/\B.output=w.output/\B.tape=w.tape/\B.drawn=w.drawn:=by subst J;exact⟨rfl,rfl,rfl,rfl⟩
 have aF:∀a,(Instr.sliceAt A (.pointer (some a)) none none none).run P B=.ok (.slice (some (if n=0 then a else a.add 0)) n n) B:=by
  intro a;unfold Instr.sliceAt;simp[VE.dx hA,Instr.sureAddr,Instr.sliceBounds,te.gW]
 have aG:(if n=0 then ⟨w.heap.size+1,0,none⟩else(⟨w.heap.size+1,0,none⟩:Addr).add 0)=⟨w.heap.size+1,0,none⟩:=by split <;> rfl
 obtain⟨ap,U⟩:=OY (P:=P) al ao n;have aq:∀(vs:a_ Value) c,(∀v∈vs,∃k,v=.int c k)->∀v∈vs,v.oneCell'=true:=λvs c h v hv=>by obtain⟨k,rfl⟩:=h v hv;rfl
 obtain⟨W,ad,ar⟩:=oc  (o:=0) ((l.take n).map (Value.int .i64)) 0 B z.cells aE (aq _ .i64 (by intro v hv;obtain⟨k,_,rfl⟩:=List.mem_map.1 hv;exact⟨k,rfl⟩)) (by simp[Q];omega)
 generalize L:fA B (w.heap.size+1) (.cells W A)=D at ad;have ai:(Builtin.copy_ #[S,S] t6 #[.slice (some ⟨w.heap.size+1,0,none⟩) n n,v]).run P B=.ok (goInt (Nat.min l.length n)) D:=by
  unfold Builtin.copy_;simp[VE.dx hS,te.gW,ap,U];rw[<-List.map_take,ad];rfl
 have au:∀ρ:Operand->Value,ρ (.tmp 4)=.slice (some ⟨w.heap.size+1,0,none⟩) n n->ρ (.tmp 5)=v ->
  (execOp ρ ⟨some 6,.call { callee:=.builtin .copy,args:=#[.tmp 4,.tmp 5],argTypes:=#[S,S] },t6,p5,e5,none⟩).run P B=.ok (.value (goInt (Nat.min l.length n))) D:=by
  intro ρ h4 h5;simp only[execOp,Go.resolve,Sem.run_bind,Sem.run_pure,Result.andThen_ok,invoke,builtin];have:#[Operand.tmp 4,Operand.tmp 5].map ρ=#[.slice (some ⟨w.heap.size+1,0,none⟩) n n,v]:=by simp[h4,h5]
  rw[this,ai];rfl
 have T:W.toList=(vn n l).map (Value.int .i64):=by
  rw[ar];simp[vn,aC];omega
 have t:W.size=n:=by have:=congrArg List.length ar;simp[Q]at this;omega
 have av:D.heap[w.heap.size+1]? = some (.cells W A):=by subst L;exact gD _ Za
 have aw:D.heap[w.heap.size]? = some (.cells z.cells A):=by subst L;rw[eU _ Za];exact aD
 have aj:(Instr.loadAt A (.pointer (some ⟨w.heap.size+1,0,none⟩))).run P D=.ok (.agg W) D:=by
  unfold Instr.loadAt loadVar;have:=vG (P:=P)   (o:=0) (m:=n)  (pU av) (.inl Za)
  have e:((W.toList.drop 0).take n).toArray=W:=by rw[List.drop_zero,List.take_of_length_le (by simp[t])]
  rw[e]at this;have ha:(isAgg A).run P D=.ok true D:=tA.C5;simp[Instr.sureAddr,ha,tA.gW,this]
 obtain⟨O,ae,aH⟩:=oc (P:=P) (o:=0) W.toList 0 D z.cells aw (aq _ .i64 (by rw[T];intro v hv;obtain⟨k,_,rfl⟩:=List.mem_map.1 hv;exact⟨k,rfl⟩)) (by simp[Q,t])
 have ax:O=W:=by
  apply Array.toList_inj.1;rw[aH];simp[t,Q]
 subst ax;generalize X:fA D w.heap.size (.cells O A)=G at ae;have Y:(Instr.storeAt A (.pointer (some ⟨w.heap.size,0,none⟩)) (.agg O)).run P D=.ok () G:=by
  unfold Instr.storeAt storeVar;simp[Instr.sureAddr,tA.gW,Value.cells,t,ae]
 have ay:G.heap[w.heap.size]? = some (.cells O A):=by subst X;exact gD _ (by subst L;simp[rI];omega)
 refine callsIn_of_wp_marks hf hb trivial ?_;rw[aA];have e0:[v].toArray++Array.replicate (8-[v].toArray.size) undef=#[v,undef,undef,undef,undef,undef,undef,undef]:=rfl;refine wpIn_seq (UZ rfl (xS Zc (eD (C w)) ?_))
 refine wpIn_seq (UZ rfl (xS Zc (eD (C _)) ?_))
 rw[J,ab];show Code.wpIn _ _ _ _ _ { tmps:=#[v,undef,.pointer (some ⟨w.heap.size,0,none⟩),.pointer (some ⟨w.heap.size+1,0,none⟩),undef,undef,undef,undef],defers:=[] } B;refine wpIn_seq (XB rfl rfl rfl (xS Zc (eD (aF _)) ?_))
 rw[aG];refine xS Zc  rfl ?_
 refine xS Zc (au _ rfl rfl) ?_
 refine wpIn_seq (XC rfl rfl (xS Zc (eD aj) ?_))
 show Oper.wpIn _ _ _ _ { tmps:=#[v,undef,.pointer (some ⟨w.heap.size,0,none⟩),.pointer (some ⟨w.heap.size+1,0,none⟩),.slice (some ⟨w.heap.size+1,0,none⟩) n n,v,goInt (Nat.min l.length n),.agg O],defers:=[] } D _ _;refine VJ Zc (w':=G) ?_ ?_
 .show (do Instr.storeAt A (.pointer (some ⟨w.heap.size,0,none⟩)) (.agg O);pure Next.skip).run P D=_
  simp[Y]
 show Code.wpIn _ _ _ _ _ { tmps:=#[v,undef,.pointer (some ⟨w.heap.size,0,none⟩),.pointer (some ⟨w.heap.size+1,0,none⟩),.slice (some ⟨w.heap.size+1,0,none⟩) n n,v,goInt (Nat.min l.length n),.agg O],defers:=[] } G;refine wpIn_ret ?_;have aI:∀b,b<w.heap.size->D.heap[b]? = w.heap[b]? := by
  intro b hb;subst L;rw[eU _ Za,ao b hb]
 have ak:∀b,b<w.heap.size->G.heap[b]? = w.heap[b]? := by
  intro b hb;subst X;rw[eU _ Za,aI b hb]
 have aJ:w.heap.size<=G.heap.size:=by subst X;subst L;simp[rI,an]
 have Z:G.os=w.os/\G.output=w.output/\G.tape=w.tape/\G.drawn=w.drawn:=by subst X;subst L;exact ah
 have aa:(loadVar A ⟨w.heap.size,0,none⟩).run P G=.ok (.agg O) G:=by
  unfold loadVar;have:=vG (P:=P)   (o:=0) (m:=n)  (pU ay) (.inl Za)
  have e:((O.toList.drop 0).take n).toArray=O:=by rw[List.drop_zero,List.take_of_length_le (by simp[t])]
  rw[e]at this;have ha:(isAgg A).run P G=.ok true G:=tA.C5;simp[ha,tA.gW,this]
 refine⟨.agg O,?_,.agg O,I,μ,rfl,.c _ _ (.agg _ _ ?_ ?_),s.kept ak,Step.kept ak aJ Z.1 ⟨Z.2.1,Z.2.2.1,by rw[Z.2.2.2];exact Nat.le_refl _⟩ ?_⟩
 .simp[results,hr,asAddr,aa]
 .have:=congrArg List.length T;simpa [yU]using this.symm
 .intro j x y hx hy;have h1:O.toList[j]? = some y:=by simpa using hy
  rw[T]at h1;simp only[yU,List.getElem?_map]at hx h1
  cases hp:(vn n l)[j]? with
  | none=>rw[hp]at hx;cases hx
  | some k=>rw[hp]at hx h1;cases hx;cases h1;exact .int _ _
 intro a ha h;unfold World.frozen? at h ⊢;rw[ak _ ha];exact h
end
end Go.VE
namespace Go.VE
variable [bO]
variable {P:Program}
theorem Hu (a:a_ Int) (j:Nat):(ic a)[j]? = (a[j]?).map (Value.int .i64):=by simp[ic]
theorem EC {i:TypeId} {a b:a_ Int} {n:Nat} (G:a.length=n) (J:b.length=n) (B:tF P i=some ⟨1,8,[.int .i64 0],.int .i64⟩) (u:P.underlying i=some (.int .i64)) (d:Nat) (w:World) :
 ∀(m k:Nat),k+m=n->(Op.eqItems (d+1) i 1 (ic a) (ic b) (List.range' k m)).run P w=.ok (a.drop k==b.drop k) w
 | 0,k,h=>by
  have h1:a.drop k=[]:=List.drop_eq_nil_of_le Za
  have I:b.drop k=[]:=List.drop_eq_nil_of_le Za
  simp[Op.eqItems,h1,I]
 | m+1,k,h=>by
  have t:k<a.length:=by omega
  have z:k<b.length:=by omega
  have pa:(part i (ic a) (k*1)).run P w=.ok (.int .i64 a[k]) w:=qQ B (by rw[Hu,Nat.mul_one];simp[t])
  have L:(part i (ic b) (k*1)).run P w=.ok (.int .i64 b[k]) w:=qQ B (by rw[Hu,Nat.mul_one];simp[z])
  have q:(Op.equalIn (d+1) i (.int .i64 a[k]) (.int .i64 b[k])).run P w=.ok (a[k]==b[k]) w:=A9 d _ _ u;have O:=EC G J B u d w m (k+1) Za
  have C:=List.drop_eq_getElem_cons t;have D:=List.drop_eq_getElem_cons z;simp only[List.range'_succ,Op.eqItems,Sem.run_bind,pa,L,q,Result.andThen_ok]
  by_cases e:a[k]=b[k]
  .rw[C,D,List.cons_beq_cons,e];simp only[beq_self_eq_true,Bool.not_true,Bool.true_and,if_false,Bool.false_eq_true];exact O
  have:(a[k]==b[k])=false:=by simpa using e
  rw[C,D,List.cons_beq_cons,this];simp only[Bool.not_false,if_true,Bool.false_and,Sem.run_pure]
theorem Io {i:TypeId} {a:a_ Int} {n:Nat} (e:Bool) (G:a.length=n) (B:tF P i=some ⟨1,8,[.int .i64 0],.int .i64⟩) (u:P.underlying i=some (.int .i64)) (d:Nat) (w:World) :
 ∀(m k:Nat),k+m=n->(forIn (List.range' k m) PUnit.unit (λj (_:PUnit)=>do
  let s <-sizeOf i
  let v <-part i (ic a) (j*s)
  Instr.checkKey e (d+1) i v
  pure (ForInStep.yield PUnit.unit)):Sem PUnit).run P w=.ok PUnit.unit w
 | 0,k,h=>by simp
 | m+1,k,h=>by
  have D:k<a.length:=by omega
  have pa:(part i (ic a) (k*1)).run P w=.ok (.int .i64 a[k]) w:=qQ B (by rw[Hu,Nat.mul_one];simp[D])
  have z:(sizeOf i).run P w=.ok 1 w:=(nU.C0 B).gW;have q:(Instr.checkKey e (d+1) i (.int .i64 a[k])).run P w=.ok () w:=Ai d e _ u;have t:=Io e G B u d w m (k+1) Za
  simp only[List.range'_succ,List.forIn_cons,Sem.run_bind,z,pa,q,Result.andThen_ok,Sem.run_pure]at t ⊢;exact t
theorem s6.arr {t i:TypeId} {n:Nat} (hu:P.underlying t=some (.array n i)) (O:tF P i=some ⟨1,8,[.int .i64 0],.int .i64⟩) (J:P.underlying i=some (.int .i64)) (T:P.eqGuardType P.depth t=false):s6 P t n:=by
 obtain⟨S,z,B,Q,_⟩:=(nU.C0 O).info;have C:P.cellsOf i=1:=by unfold Program.cellsOf;simp[B,Q]
 have D:∀(w:World) (a b:a_ Int),a.length=n->b.length=n->(Op.equal t (.agg (ic a)) (.agg (ic b))).run P w=.ok (a==b) w:=by
  intro w a b G I;show (Op.equalIn (9999+1) t _ _).run P w=_;rw[run_equalIn_array w 9999 _ _ hu B,C,List.range_eq_range'];simpa using EC G I O J 9998 w n 0 Za
 have L:∀(op:BinOp) (p q:Operand) (w:World) (u v:Array Value),(eqGuard op t p q (.agg u) (.agg v)).run P w=.ok () w:=by
  intro op p q w u v;unfold eqGuard;cases op <;> simp[Sem.run_bind,run_program,Result.andThen,T]
 refine⟨?_,?_,D,?_,⟨_,hu,.inl ⟨_,_,rfl⟩⟩⟩
 .intro w p q a b G I;rw[Sem.run_bind,L,Result.andThen_ok];show (do pure (Value.bool (<-Op.equal t (.agg (ic a)) (.agg (ic b)))):Sem Value).run P w=_
  rw[Sem.run_bind,D _ _ _ G I];rfl
 .intro w p q a b G I;rw[Sem.run_bind,L,Result.andThen_ok];show (do pure (Value.bool (!(<-Op.equal t (.agg (ic a)) (.agg (ic b))))):Sem Value).run P w=_
  rw[Sem.run_bind,D _ _ _ G I];rfl
 intro w e a G;show (Instr.checkKey e (9999+1) t _).run P w=_;unfold Instr.checkKey;simp only[Sem.run_bind,dx hu,Result.andThen_ok];have:=Io e G O J 9998 w n 0 Za
 simp only[Std.Legacy.Range.forIn_eq_forIn_range',Std.Legacy.Range.size,Nat.sub_zero,Nat.add_one_sub_one,Nat.div_one];rw[show (9998+1:Nat)=9999 from rfl]at this;rw[this];rfl
end Go.VE
namespace Go.VE
variable [bO]
variable {P:Program}
end Go.VE
namespace Go.VE
variable [bO]
structure CR (E:Env) (c c':dz):Prop where
 lv:c.lv<=c'.lv
 RB:∀f args H y,E.keep f=false->b8 c f args H=some y->b8 c' f args H=some y
 dir:∀f args H r,E.keep f=true->c (.fn f) args H=some r->c' (.fn f) args H=some r
 yld:∀id args H r,c (.yld id) args H=some r->c' (.yld id) args H=some r
 rng:∀f args H r,H≠[]->c (.fn f) args H=some r->c' (.fn f) args H=some r
section
variable {E:Env} {c c':dz} {n:Nat} {ops:a_ Oper} {F F':Frame} {H H':bn}
theorem I4 (h:CR E c c') {f:FuncId} {args:a_ V} {r:V×bn} (hk:E.keep f=true) (u:nH c f args H=some r):nH c' f args H=some r:=Cy h.lv (λ_ _ _=>h.dir _ _ _ _ hk) u
theorem Bp (h:CR E c c') {f:FuncId} {args:a_ V} {r:V×bn} (hk:E.keep f=true) (u:gP E c f args H=some r):gP E c' f args H=some r:=by
 unfold gP at u ⊢;split
 next t=>rw[if_pos t]at u;exact I4 h hk u
 rename_i t;rw[if_neg t]at u;exact h.dir _ _ _ _ hk u
theorem Bm {place:bf (Nat×Nat)} {f:FuncId} (h:jA E ops place f=true):E.keep f=true:=by
 unfold jA at h;grind
theorem CR.any (h:CR E c c') {f:FuncId} {args:a_ V} {H:bn} {y:V} (u:b8 c f args H=some y):b8 c' f args H=some y:=by
 cases hk:E.keep f with
 | false=>exact h.RB _ _ _ _ hk u
 | true=>exact CW h.lv (λ_ _ _=>h.dir _ _ _ _ hk) u
theorem QJ (h:CR E c c') {place:bf (Nat×Nat)} {op:Op} {r:V×bn} (u:cK E c ops place F H op=some r):cK E c' ops place F H op=some r:=by
 unfold cK at u ⊢;split at u
 .omega
 .omega
 .omega
 .omega
 split at u
 .rename_i f args C;split at u
  rotate_left
  .cases u
  rename_i B;rw[if_pos B];unfold dJ at u ⊢;split at u
  .rename_i hk;rw[if_pos hk];split at u
   .exact Bp h (Bm hk) u
   split at u
   next z=>rw[if_pos z];exact Bp h (Bm hk) u
   grind
  rename_i hk;rw[if_neg hk];split at u
  .split at u
   next y t=>rw[h.any t,l_ h.lv t];exact u
   grind
  rename_i b i;split at u
  next y t=>rw[h.any t,l_ h.lv t];exact u
  rename_i w;split at u
  .rename_i z;split at u
   .rename_i y t
    cases D:b8 c' f args (List.take b H)with
    | some G=>exact(zn h.lv w t D).elim
    | none=>simp only[if_pos z,h.any t,l_ h.lv t];exact u
   grind
  grind
 .split at u
  .exact h.yld _ _ _ _ u
  split at u
  next z=>rw[if_pos z];exact h.yld _ _ _ _ u
  grind
 grind
theorem Fz (h:CR E c c') {place:bf (Nat×Nat)} {o:Oper} {r:Frame×bn} (u:fZ E c n ops place o F H=some r):fZ E c' n ops place o F H=some r:=by
 unfold fZ at u ⊢;split at u
 .rename_i t;rw[if_pos t];split at u
  next v H1 hd=>rw[QJ h hd];omega
  grind
 grind
theorem C3 (h:CR E c c') {r:Frame×bn}:∀(l:a_ Oper) {F:Frame} {H:bn},lQ E c n ops l F H=some r->lQ E c' n ops l F H=some r
 | [],_,_,u=>u
 | o::l,F,H,u=>by
  simp[lQ]at u ⊢;split at u
  next F1 H1 B=>rw[Fz h B];exact C3 h l u
  grind
theorem C2 (h:CR E c c') {base:Nat} {r:Frame×bn}:∀(l:a_ Nat) {F:Frame} {H:bn},jE E c n ops base l F H=some r->jE E c' n ops base l F H=some r
 | [],_,_,u=>u
 | i::l,F,H,u=>by
  simp[jE]at u ⊢;split at u
  .split at u
   next F1 H1 B=>rw[Fz h B];exact C2 h l u
   grind
  grind
theorem FP (h:CR E c c') {u:Bool} {r:Frame×bn} (B:jf E c n ops u F H=some r):jf E c' n ops u F H=some r:=by
 unfold jf at B ⊢;split
 .rename_i hd;rw[if_pos hd]at B;split at B
  next t=>rw[if_pos t];exact C2 h _ B
  grind
 rename_i hd;rw[if_neg hd]at B;exact C3 h _ B
theorem BR (h:CR E c c') {lf u:Nat} (G:lf<=u) (ro:Bool) (nt:Nat):∀(code:Code) {F:Frame} {H:bn} {r:Out×Frame×bn},exec E c lf ro nt code F H=some r->exec E c' u ro nt code F H=some r:=by
 intro code
 induction code with
 | skip=>intro F H r t;exact t
 | label l=>intro F H r t;exact t
 | region id ops C=>
  intro F H r t;simp only[exec,ζf]at t ⊢;obtain⟨x,I,rfl⟩:=t;exact⟨x,FP h I,rfl⟩
 | seq a b z B=>
  intro F H r t;simp[exec]at t ⊢
  grind
 | cond x a b z B=>
  intro F H r t;simp[exec]at t ⊢
  grind
 | block id a D=>
  intro F H r t;simp[exec]at t ⊢
  grind
 | loop a D=>
  intro F H r t;exact yK (λF H r hr=>D hr) lf u G t
 | rangeFunc g L O Q _ _=>
  intro F H r t;simp[exec]at t ⊢;split at t
  .split at t
   next J H1 hc=>rw[h.rng _ _ _ _ Zc hc];omega
   grind
  grind
 | exit id=>intro F H r t;exact t
 | ret=>intro F H r t;exact t
 | scope a _=>intro F H r t;simp[exec]at t
 | goto l=>intro F H r t;simp[exec]at t
 | refuse w=>intro F H r t;simp[exec]at t
theorem zl (h:CR E c c') {n m:Nat} (B:n<=m) {x:Callee} {a:a_ V} {r:V×bn} (u:iR E c n x a H=some r):iR E c' m x a H=some r:=by
 cases x with
 | fn f=>
  rw[iR]at u ⊢;split at u
  .split at u
   .rename_i G;split at u
    .simp_all
    .rename_i o F1 H1 I J;rw[BR h B _ _ _ J]
     grind
    grind
   grind
  split at u
  next L=>rw[if_pos L];exact Cj h.lv (λg args y hk O=>h.RB _ _ _ _ hk O) u
  grind
 | yld id=>
  rw[iR]at u ⊢;split at u
  .split at u
   .split at u
    .rename_i t;split at u
     .rename_i Q H2 z;split at u
      .rename_i r2 C;split at u
       .rename_i w;split at u
        next o S T D=>simp only[if_pos t,BR h B _ _ _ z,C,w,BR h B _ _ _ D];omega
        grind
       grind
      grind
     grind
    grind
   grind
  grind
mutual
def V.same:Nat->V->V->Bool
 | 0,_,_=>false
 | _+1,.bool a,.bool b=>a==b
 | _+1,.int k a,.int l b=>decide (k=l)&&decide (a=b)
 | _+1,.str a,.str b=>decide (a.data.toList=b.data.toList)
 | _+1,.bN,.bN=>true
 | _+1,.c_,.c_=>true
 | _+1,.gN,.gN=>true
 | _+1,.gi,.gi=>true
 | _+1,.rK,.rK=>true
 | n+1,.agg a,.agg b=>V.qK n a b
 | n+1,.tup a,.tup b=>V.qK n a b
 | n+1,.fptr a,.fptr b=>V.qK n a b
 | n+1,.fsl e a,.fsl u b=>Nat.beq e u&&V.zq n a b
 | n+1,.clo f a b,.clo B a' D=>Nat.beq f B&&V.qK n a a'&&V.qK n b D
 | _+1,_,_=>false
def V.qK:Nat->a_ V->a_ V->Bool
 | 0,_,_=>false
 | _+1,[],[]=>true
 | n+1,a::r,b::s=>V.same n a b&&V.qK n r s
 | _+1,_,_=>false
def V.zq:Nat->a_ (a_ V)->a_ (a_ V)->Bool
 | 0,_,_=>false
 | _+1,[],[]=>true
 | n+1,a::r,b::s=>V.qK n a b&&V.zq n r s
 | _+1,_,_=>false
end
theorem Sa:∀n,(∀a b,V.same n a b=true->a=b)/\(∀a b,V.qK n a b=true->a=b)/\(∀a b,V.zq n a b=true->a=b):=by
 intro n
 induction n with
 | zero=>exact⟨λa b h=>by simp[V.same]at h,λa b h=>by simp[V.qK]at h,λa b h=>by simp[V.zq]at h⟩
 | succ n t=>
  obtain⟨i1,i2,i3⟩:=t;refine⟨λa b h=>?_,λa b h=>?_,λa b h=>?_⟩
  .cases a <;> cases b <;> simp only[V.same,ζh,decide_eq_true_eq,Bool.false_eq_true]at h <;> first|rfl|grind|skip
   all_goals first
    | grind
    | grind
    | grind
    | (rw[Nat.eq_of_beq_eq_true h.1,i3 _ _ h.2])
    | (rw[Nat.eq_of_beq_eq_true h.1.1,i2 _ _ h.1.2,i2 _ _ h.2])
    | (congr 1;exact ByteArray.ext (Array.ext' h))
  .cases a <;> cases b <;> simp[V.qK]at h <;> first|rfl|grind|grind
  cases a <;> cases b <;> simp[V.zq]at h <;> first|rfl|grind|grind
structure jk where
 f:FuncId
 az:List V
 y:V
def yA:a_ jk->FuncId->a_ V->bf V
 | [],_,_=>none
 | k::r,f,az=>bif Nat.beq k.f f&&V.qK 1000 k.az az then some k.y else yA r f az
theorem BT:∀{l:a_ jk} {f:FuncId} {az:a_ V} {y:V},yA l f az=some y->∃k∈l,k.f=f/\k.az=az/\k.y=y
 | [],_,_,_,h=>by simp[yA]at h
 | k::r,f,az,y,h=>by
  unfold yA at h
  cases u:Nat.beq k.f f&&V.qK 1000 k.az az with
  | true=>
   simp only[ζh]at u;exact⟨k,List.mem_cons_self ..,Nat.eq_of_beq_eq_true u.1,(Sa 1000).2.1 _ _ u.2,by grind⟩
  | false=>
   rw[u]at h;obtain⟨q,h1,B⟩:=BT h
   grind
def FX (E:Env) (l:a_ jk) (c:dz) (n:Nat):Callee->a_ V->bn->bf (V×bn)
 | .fn f,az,[]=>match yA l f az with
  | some y=>some (y,[])
  | none=>iR E c n (.fn f) az []
 | x,az,H=>iR E c n x az H
def runM (E:Env) (l:a_ jk):Nat->dz
 | 0=>⟨0,λ_ _ _=>none⟩
 | n+1=>⟨n+1,FX E l (runM E l n) n⟩
theorem TB (E:Env) (l:a_ jk):∀n,(runM E l n).lv=n
 | 0=>rfl
 | _+1=>rfl
theorem NS {l:a_ jk} {n:Nat} {x:Callee} {a:a_ V} {H:bn}:runM E l (n+1) x a H=FX E l (runM E l n) n x a H:=rfl
def vE (E:Env) (n:Nat) (k:jk):Prop:=∃r H1,run E n (.fn k.f) k.az []=some (r,H1)/\borrow n H1 r=some k.y
structure ni (E:Env) (k:jk):Prop where
 keep:E.keep k.f=false
 cl:k.y.closed=true
 at_:∃n,vE E n k
theorem vE.le {n m:Nat} {k:jk} (h:vE E n k) (u:n<=m):vE E m k:=by
 obtain⟨r,H1,h1,t⟩:=h;exact⟨r,H1,(qw E u).go _ _ _ _ h1,rL u t⟩
theorem zk:∀{l:a_ jk},(∀k∈l,ni E k)->∃N,∀k∈l,vE E N k
 | [],_=>⟨0,by simp⟩
 | k::r,h=>by
  obtain⟨N,u⟩:=zk (λq hq=>h q (List.mem_cons_of_mem _ hq))
  obtain⟨n,t⟩:=(h k (List.mem_cons_self ..)).at_;refine⟨max N n,λq hq=>?_⟩
  rcases List.mem_cons.1 hq with rfl|hq
  .exact t.le (Nat.le_max_right ..)
  exact(u q hq).le (Nat.le_max_left ..)
theorem Aq {l:a_ jk} {x:Callee} {az:a_ V} (h:H≠[]\/(∃id,x=.yld id)\/∃f,x=.fn f/\yA l f az=none):runM E l (n+1) x az H=iR E (runM E l n) n x az H:=by
 rcases h with h|⟨id,rfl⟩|⟨f,rfl,h⟩
 .cases x with
  | yld id=>rfl
  | fn f=>
   cases H with
   | nil=>exact absurd rfl h
   | cons a r=>rfl
 .rfl
 cases H with
 | nil=>rw[NS,FX,h]
 | cons a r=>rfl
theorem JC {l:a_ jk} {N:Nat} (B:∀k∈l,ni E k) (D:∀k∈l,vE E N k):∀n,CR E (runM E l n) (run E (N+n)):=by
 intro n
 induction n with
 | zero=>
  refine⟨Nat.zero_le _,λf args H y _ h=>?_,λf args H r _ h=>(by cases h),λid args H r h=>(by cases h),λf args H r _ h=>(by cases h)⟩
  unfold b8 at h;split at h
  .cases h
  cases h
 | succ n G=>
  have up:∀{x:Callee} {az:a_ V} {H:bn} {r:V×bn},iR E (runM E l n) n x az H=some r->run E (N+(n+1)) x az H=some r:=λh=>by
   rw[show N+(n+1)=(N+n)+1 from rfl,F8];exact zl G (Nat.le_add_left ..) h
  have u:(runM E l (n+1)).lv<=(run E (N+(n+1))).lv:=by rw[TB,og];exact Nat.le_add_left ..
  refine⟨u,λf args H y hk h=>?_,λf args H r hk h=>?_,λid args H r h=>?_,λf args H r z h=>?_⟩
  .unfold b8 at h ⊢;split at h
   .rename_i az has;rw[rV u has];split at h
    .rename_i r H1 hc
     cases w:yA l f az with
     | none=>
      rw[Aq (.inr (.inr ⟨f,rfl,w⟩))]at hc;simp only;rw[up hc];split at h
      next O I=>simp only;rw[rL u I];exact h
      cases h
     | some Q=>
      rw[NS,FX,w]at hc;obtain⟨rfl,rfl⟩:=hc;obtain⟨k,t,rfl,rfl,rfl⟩:=BT w;have ok:=B k t;obtain⟨r1,H2,h1,J⟩:=(D k t).le (Nat.le_add_right N (n+1));rw[kM _ _ ok.cl]at h;simp only[h1,og,J];exact h
    cases h
   cases h
  .by_cases w:H≠[]\/(∃id,(Callee.fn f)=.yld id)\/∃C,Callee.fn f=.fn C/\yA l C args=none
   .rw[Aq w]at h;exact up h
   cases L:yA l f args with
   | none=>grind
   | some y=>
    obtain⟨k,t,rfl,_,_⟩:=BT L;rw[(B k t).keep]at hk;cases hk
  .exact up h
  rw[Aq (.inl z)]at h;exact up h
def VR (E:Env) (l:a_ jk) (n:Nat) (k:jk):bf V:=
 match iR E (runM E l n) n (.fn k.f) k.az []with
 | some (r,H1)=>borrow n H1 r
 | none=>none
theorem tH {l:a_ jk} (u:∀k∈l,ni E k) {k:jk} (h:(VR E l n k,k.y.closed,E.keep k.f)=(some k.y,true,false)):ni E k:=by
 simp  at h;obtain⟨N,t⟩:=zk u;refine⟨h.2.2,h.2.1,N+n+1,?_⟩;have h1:=h.1;unfold VR at h1;split at h1
 .rename_i r H1 w;refine⟨r,H1,?_,rL Za h1⟩
  exact zl (JC u t n) (Nat.le_add_left ..) w
 grind
def Rz (E:Env) (l:a_ jk) (n:Nat) (f:FuncId) (az:a_ V):Bool:=
 match iR E (runM E l n) n (.fn f) az []with
 | some (.bool b,_)=>b
 | _=>false
theorem KP {l:a_ jk} (u:∀k∈l,ni E k) {f:FuncId} {az:a_ V} (h:Rz E l n f az=true):∃n H1,run E n (.fn f) az []=some (.bool true,H1):=by
 obtain⟨N,t⟩:=zk u;unfold Rz at h;split at h
 next b H1 w=>subst h;exact⟨N+n+1,H1,(zl (JC u t n) (Nat.le_add_left ..) w)⟩
 simp_all
end
end Go.VE
