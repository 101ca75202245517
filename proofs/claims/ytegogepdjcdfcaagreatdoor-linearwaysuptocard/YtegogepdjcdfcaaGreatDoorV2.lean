/- Engine, runs. -/
import Derived.Shelf.SlSortCmp.Kit1
import Derived.Sort.AssemblyPlain
import Derived.RangeFuncLeaves
import Derived.Laws.StructEq
import Derived.ChangeKeysEq
import Derived.Test.YtegogepdjcdfcaaGreatDoorV1
set_option linter.all false
open Option renaming some→M,some→_j,none→J,none→_p,bind→H,bind→_n
open Bool renaming true→U,true→_m,false→O,false→_o
open Decidable renaming decide→_r
open List renaming length→W,length→_l
open Go.IntKind renaming i64→N,i64→_q
open List renaming finRange→V!,getElem?_take→D?,mem_cons_of_mem→B?,mem_cons_self→F!,range'→G'
open Nat renaming le_add_left→C!,le_refl→y?,le_succ→b5,mul_one→J'
open Option renaming map_some→A?
open Go.Sem renaming run_bind→z?,run_pure→N?
open Go.Result renaming andThen→m4,andThen_ok→x?
open Go.Instr renaming checkKey→B!
open Go.Op renaming bytesLess→T!,equal→O!,equalIn→J!
open BitVec renaming ofInt→c5
open List(mem_cons mem_map)
open Nat(beq)
open Array(ext' replicate)
open Nat(le)
open Nat(le)
open Nat(le)
open Nat(le)
open Go.Op(eqItems)
open Nat(le)
namespace Go.VE
variable[bZ]
theorem wP{f g:V->aY V}(h:∀x y,f x=M y->g x=M y):∀{l:So}{r:So},jI f l=M r->jI g l=M r
 |[],_,hr=>hr|x::l,r,hr=>by simp only[jI]at hr⊢;split at hr;(next y s a B=>rw[h _ _ a,wP h B];exact hr);cases hr
def Mz{f g:V->aY V}(h:∀x y,f x=M y->g x=M y):∀{l:S'}{r:S'},nP f l=M r->nP g l=M r
 |[],_,hr=>hr|x::l,r,hr=>by simp only[nP]at hr⊢;split at hr;(next y s a B=>rw[wP h a,Mz h B];exact hr);cases hr
def LI{f g:V->aY V}(h:∀x y,f x=M y->g x=M y):∀{l:aX (V×V)}{r:aX (V×V)},nT f l=M r->nT g l=M r
 |[],_,hr=>hr|(k,x)::l,r,hr=>by simp only[nT]at hr⊢;split at hr;(next y s u a B D=>rw[h _ _ a,h _ _ B,LI h D];exact hr);cases hr
theorem NL{H:bl}:∀(n:Nat)(x y:V),borrow n H x=M y->borrow (n+1) H x=M y:=by intro n;induction n with|zero=>grind[borrow,kT]|succ n u=>intro x y h;unfold borrow at h⊢;split;grind;rename_i d;rw[M' d]at h;cases x with|hsl id es off len=>simp only at h⊢;split at h;split at h;(next q=>rw[L' q];have⟨r,c,w⟩:=ζf.1 h;rw[Mz u c];grind);cases h;cases h|hptr id el off=>simp only at h⊢;split at h;split at h;split at h;(next q=>rw[L' q];have⟨r,c,w⟩:=ζf.1 h;rw[wP u c];grind);cases h;cases h;cases h|hmap id=>simp only at h⊢;split at h;have⟨r,c,w⟩:=ζf.1 h;rw[LI u c];grind;cases h|clo f a b=>grind[wP]|agg cs=>simp only at h⊢;have⟨r,c,w⟩:=ζf.1 h;rw[wP u c];grind|tup cs=>simp only at h⊢;have⟨r,c,w⟩:=ζf.1 h;rw[wP u c];grind|_=>cases h
def u7{H:bl}{n m:Nat}(h:n<=m){x y:V}(B:borrow n H x=M y):borrow m H x=M y:=by induction h with|refl=>exact B|step _ u=>grind[NL]
def vI{H:bl}{n m:Nat}(h:n<=m){l r:So}(B:borrows n H l=M r):borrows m H l=M r:=wP (λ_ _=>u7 h) B
def Fx{f g:V->ST}:∀{l:So},(∀x∈l,f x=g x)->c_ f l=c_ g l
 |[],_=>rfl|x::l,h=>by simp only[c_];rw[h x (F! ..),Fx λy B=>h y (B? _ B)]
theorem uz{f:V->aY V}:∀{l r:So},jI f l=M r->∀x∈l,∃y,f x=M y
 |[],_,_,x,b=>by cases b|a::l,r,h,x,b=>by simp only[jI]at h;split at h;rename_i y s c B;rcases mem_cons.1 b with rfl|b;grind;exact uz B x b;cases h
theorem Jv{f:V->aY V}:∀{l r:S'},nP f l=M r->∀c∈l,∀x∈c,∃y,f x=M y
 |[],_,_,x,B=>by cases B|a::l,r,h,c,b=>by simp only[nP]at h;split at h;rename_i y s d D;rcases mem_cons.1 b with rfl|b;exact uz d;exact Jv D c b;cases h
theorem Dc{f:V->aY V}:∀{l r:aX (V×V)},nT f l=M r->∀c∈l,(∃y,f c.1=M y)/\∃y,f c.2=M y
 |[],_,_,x,B=>by cases B|(k,a)::l,r,h,c,b=>by simp only[nT]at h;split at h;rename_i y s u d G D;rcases mem_cons.1 b with rfl|b;grind;exact Dc D c b;cases h
def P4{H:bl}:∀(n:Nat)(x y:V),borrow n H x=M y->cA (n+1) H x=cA n H x:=by
 intro n
 induction n with
 |zero=>simp_all[borrow,cA]|succ n B=>
  intro x y h;have u:∀l:So,(∀x∈l,∃y,borrow n H x=M y)->c_ (cA (n+1) H) l=c_ (cA n H) l:=λl C=>Fx λx z=>by grind
  unfold borrow at h;rw[cA.eq_def (n+1+1),cA.eq_def (n+1)];simp only;split;rfl;rename_i d;rw[M' d]at h
  cases x with
  |hsl id es off len=>grind[ζf,List.mem_flatten,Jv]|hptr id el off=>grind[ζf,uz]|hmap id=>
   simp only at h⊢;split at h;rename_i w e;have⟨r,g,D⟩:=ζf.1 h;skip;rw[u (w.map (·.1)) λx z=>by obtain⟨c,d,rfl⟩:=mem_map.1 z;grind[Dc],
    u (w.map (·.2)) λx z=>by obtain⟨c,d,rfl⟩:=mem_map.1 z;grind[Dc]]
   cases h
  |clo f a b=>grind[uz]|agg cs=>grind[ζf,uz]|tup cs=>grind[ζf,uz]|_=>rfl
theorem V6{H:bl}{n m:Nat}(h:n<=m){x y:V}(B:borrow n H x=M y):cA m H x=cA n H x:=by induction h with|refl=>rfl|step h u=>rw[P4 _ _ _ (u7 h B),u]
def BU{H:bl}{n m:Nat}(h:n<=m){l r:So}(B:borrows n H l=M r):c_ (cA m H) l=c_ (cA n H) l:=Fx λx u=>by have⟨y,w⟩:=uz B x u;grind[V6]
def qS{f g h:V->aY V}(k:∀x y z,f x=M y->g x=M z->h x=M z):∀{l r s:So},jI f l=M r->jI g l=M s->jI h l=M s
 |[],_,_,_,B=>B|x::l,r,s,hr,B=>by simp only[jI]at hr B⊢;split at hr;rename_i a D;split at B;(next G d=>rw[k _ _ _ a G,qS k D d];exact B);cases B;cases hr
def Gt{f g h:V->aY V}(k:∀x y z,f x=M y->g x=M z->h x=M z):∀{l r s:S'},nP f l=M r->nP g l=M s->nP h l=M s
 |[],_,_,_,B=>B|x::l,r,s,hr,B=>by simp only[nP]at hr B⊢;split at hr;rename_i a D;split at B;(next G d=>rw[qS k a G,Gt k D d];exact B);cases B;cases hr
def FB{f g h:V->aY V}(k:∀x y z,f x=M y->g x=M z->h x=M z):∀{l r s:aX (V×V)},nT f l=M r->nT g l=M s->nT h l=M s
 |[],_,_,_,B=>B|(a,x)::l,r,s,hr,B=>by simp only[nT]at hr B⊢;split at hr;rename_i b D G;split at B;(next d T i=>rw[k _ _ _ b d,k _ _ _ D T,FB k G i];exact B);cases B;cases hr
def NP{H H2:bl}:∀(n m:Nat)(x y z:V),borrow n H x=M y->borrow m H2 x=M z->(∀id:Nat,(H2[id]?).isSome=U->H2[id]?=H[id]?)->borrow n H2 x=M z:=by intro n;induction n with|zero=>grind[borrow,kT]|succ n G=>intro m x y z h k w;by_cases e:x.closed=U;rw[kT _ _ e]at k⊢;exact k;cases m with|zero=>grind[borrow]|succ m=>have u:∀x y z,borrow n H x=M y->borrow m H2 x=M z->borrow n H2 x=M z:=λx y z a b=>G m x y z a b w;unfold borrow at h k⊢;rw[M' e]at h k⊢;have row:∀id q,_n (H2[id]?) Ob.rows=M q->_n (H[id]?) Ob.rows=M q:=λid q B=>(by rw[<-w id (by cases C:H2[id]?with|none=>rw[C]at B;cases B|some _=>rfl)];exact B);cases x with|hsl id es off len=>simp only at h k⊢;split at k;rename_i d;rw[row _ _ d]at h;simp only at h;split at k;(next q=>rw[L' q]at h⊢;have⟨r,c,_⟩:=ζf.1 h;have⟨s,k1,k2⟩:=ζf.1 k;rw[Gt u c k1];grind);cases k;cases k|hptr id el off=>simp only at h k⊢;split at k;rename_i d;rw[row _ _ d]at h;simp only at h;split at k;rename_i D;rw[D]at h;simp only at h;split at k;(next q=>rw[L' q]at h⊢;have⟨r,c,_⟩:=ζf.1 h;have⟨s,k1,k2⟩:=ζf.1 k;rw[qS u c k1];grind);cases k;cases k;cases k|hmap id=>simp only at h k⊢;split at k;rename_i d;rw[<-w id (by rw[d];rfl),d]at h;simp only at h;have⟨r,c,_⟩:=ζf.1 h;have⟨s,k1,k2⟩:=ζf.1 k;rw[FB u c k1];grind;cases k|clo f a b=>simp only at h k⊢;split at h;rename_i c C;split at k;(next k1 k2=>rw[qS u c k1,qS u C k2];exact k);cases k;cases h|agg cs=>simp only at h k⊢;have⟨r,c,_⟩:=ζf.1 h;have⟨s,k1,k2⟩:=ζf.1 k;rw[qS u c k1];grind|tup cs=>simp only at h k⊢;have⟨r,c,_⟩:=ζf.1 h;have⟨s,k1,k2⟩:=ζf.1 k;rw[qS u c k1];grind|_=>cases h
end Go.VE
namespace Go.VE
variable[bZ]
open Go.Proofs Go.Sort
structure DA(P:Program)(f:FuncId):Prop where
 ok:Bk P f
 zero:∀(p:Option Addr)(cap:Nat)(fv:Value)(w:World),Calls P f #[.slice p 0 cap,fv] w λe w'=>e=.returned (.tuple #[])/\w'=w
 all:∀{α:Type}[Inhabited α](enc:α->Value)(_:OneCell enc)(cf:α->α->Int)(_:SWO (ltOf cf))(g:Nat)(cb:Array Value)(blk off cap:Nat)(d:Array α)(w:World)
  (_:∀args w,(callFunc g args).run P w=.ok (.enter g args) w)(_:CmpLays1 P g cb enc cf blk off d.size w)(_:Holds enc w blk off d)(_:blk<w.heap.size)(_:d.size<4611686018427387904),
  Calls P f #[.slice (some ⟨blk,off,none⟩) d.size cap,.func (.func g) #[] cb] w λe w'=>e=.returned (.tuple #[])/\∃n os,w'=sortWorld enc w blk off n (pdq (ltOf cf) d 0 d.size (Lib.bitLen d.size) true true) os
def OT{α:Type}[Inhabited α](lt:α->α->X'):∀(k i:Nat)(d:Array α),K5 lt k i d=insOuter lt 0 (i+k) i d
 |0,i,d=>by rw[insOuter];simp[K5]|k+1,i,d=>by rw[insOuter,K5,OT lt k];grind
def EZ(n:Nat)(lt:Fin (n+1)->Fin (n+1)->X'):tD n lt=pdq lt (V! (n+1)).toArray 0 (n+1) (Lib.bitLen (n+1)) U U:=by unfold tD;split;rw[pdq,L' c?,insertionSort,OT,Nat.add_comm 1 n];rfl
def s7{n:Nat}{t:Fin (n+1)->Fin (n+1)->PH}(h:DL t=U):(∀i j,∃c,t i j=M c)/\SWO (sw t):=by have u:∀(p:Fin (n+1)->X'),(V! (n+1)).all p=U->∀i,p i=U:=λp h i=>List.all_eq_true.1 h i (List.mem_finRange i);have d:=λi=>u _ h i;simp only[ζh,Bool.not_eq_true']at d;have w:=λi j=>u _ (d i).2 j;simp only[ζh]at w;have z:=λi j k=>u _ (w i j).2 k;refine⟨λi j=>Option.isSome_iff_exists.1 (w i j).1,λi=>(d i).1,λi j k a b=>?_,λi j k a b=>?_⟩;have:=z i j k;grind;grind
section
variable{P:Program}{I I':cG}{μ μ':Mu}{H H':bl}{w w':World}
def Jy(w:World)(os:Array Obj)(b:Nat)(h:b<w.heap.size):(grow w os).heap[b]?=w.heap[b]?:=by unfold grow;grind
theorem Calls.fr{f:Y'}{args:Array V'}{R:Ending->World->Prop}(h:Calls P f args w R):CallsIn (fr J) 0 P f args w R:=callsIn_wide.2 h
def CallsIn.un{f:Y'}{args:Array V'}{R:Ending->World->Prop}(h:CallsIn (fr J) 0 P f args w R):Calls P f args w R:=callsIn_wide.1 h
def WW{p:Pl}{c:Array V'}{xs:S'}(B:p.es=1)(D:c.size=p.sz)(k:p.o+W xs<=c.size)
 (h:∀(i:Nat)x,xs[i]?=M x->∃v u,x=[v]/\V.one v=U/\c[p.o+i]?=M u/\bM I μ v u):iJ I μ p c 1 xs:=by
 have d:∀x∈xs,W x=1:=λx w=>by have⟨i,f⟩:=List.getElem?_of_mem w;grind
 have C:W xs.flatten=W xs:=by rw[gX d,J']
 refine⟨B,D,d,λx w y G=>?_,c?,⟨?_,λj a b g m=>?_⟩⟩
 .have⟨i,f⟩:=List.getElem?_of_mem w
  grind
 .grind
 have z:j<W xs:=by have:=(ζe.1 g).1;omega
 have⟨v,u,e,_,L,o⟩:=h j xs[j] (by simp[z])
 have:=zA d (i:=j) (j:=0) (x:=xs[j]) (by simp[z]) (by rw[e];rfl)
 simp_all
def zq{p:Pl}{c:Array V'}{xs:S'}(r:iJ I μ p c 1 xs)(i:Nat){x:So}(h:xs[i]?=M x):∃v u,x=[v]/\V.one v=U/\c[p.o+i]?=M u/\bM I μ v u:=by
 have w:=List.mem_of_getElem? h;obtain⟨v,rfl⟩:=List.length_eq_one_iff.1 (r.sq x w);have a:=(ζe.1 h).1;have z:=by have:=r.room;omega
 refine⟨v,c[p.o+i],Y,r.one _ w v f?,p?,?_⟩;exact r.idx (j:=0) h Y p?
def Zq{α:Type}[Inhabited α](enc:α->V')(a o m:Nat)(B:Array α)(os:Array Obj){b:Nat}(G:b<w.heap.size)(D:b≠a):(sortWorld enc w a o m B os).heap[b]?=w.heap[b]?:=by unfold sortWorld;rw[Jy _ _ _ p?];simp[putRow,mapBlock,Sort.ahead,Array.getElem?_modify,M' (Ne.symm D)]
def NU{α:Type}[Inhabited α](enc:α->V'){a:Nat}(o m:Nat)(B:Array α){c:Array V'}{el:W'}(h:w.heap[a]?=M (.cells c el)):
 putRow enc (Sort.ahead w m) a o B=iF (Sort.ahead w m) a (.cells (Sort.putCells enc o B c) el):=by
 unfold putRow mapBlock iF Sort.ahead
 congr 1
 have⟨u,e⟩:=Array.getElem?_eq_some_iff.1 h;apply Array.ext
 .simp
 intro i d z
 by_cases b:i=a
 .subst b;simp[Array.getElem_modify,e,onCells]
 grind
def Step.grown(st:Step I (λ_=>J) [] w I' μ' H' w'):∃q os,w'=grow (w.drewN q) os:=by
 refine⟨w'.drawn-w.drawn,w'.heap.extract w.heap.size w'.heap.size,?_⟩;have u:w'.heap=w.heap++w'.heap.extract w.heap.size w'.heap.size:=by apply Array.ext_getElem?;intro i;by_cases a:i<w.heap.size;rw[Array.getElem?_append_left a];exact st.frame i a (by rintro⟨id,p,ob,h,_⟩;simp at h);rw[Array.getElem?_append_right c?];simp[Array.getElem?_extract];by_cases C:i<w'.heap.size;rw[L' c?];congr 1;omega;rw[M' c?,Array.getElem?_eq_none c?]
 have b:=st.os;have z:=st.out.out;have B:=st.out.tape;have D:=st.out.dr;unfold grow World.drewN;cases w';simp only at *;subst b z B;simp[World.mk.injEq];exact⟨u,c?⟩
def Ql{call B:dR}{g:Y'}{G D:So}{n:Nat}(h:∀args y,cq call g args []=M y->cq B g args []=M y){i j:Fin (n+1)}{z:Int}(d:kz call g G D n i j=M z):kz B g G D n i j=M z:=by unfold kz at d⊢;grind
def FP{keep:Y'->X'}{call B:dR}(G:call.lv<=B.lv)(h:∀g args y,keep g=O->cq call g args []=M y->cq B g args []=M y){args:So}{r:V×bl}(b:tC keep call args H=M r):tC keep B args H=M r:=by
 unfold tC at b⊢;split at b;split at b;omega;omega;split at b;omega;split at b;rename_i n g cb _ m S I;split at b;rename_i u;split at b;rename_i d w D C;rw[vI G D,vI G C];split at b;rename_i Q;have e:kz B g d w n=kz call g d w n:=by funext i j;have⟨z,L⟩:=(s7 Q).1 i j;rw[L];exact Ql (λa y=>h g a y u.2.2.2.2) L
 grind;simp_all;simp_all;simp_all;simp_all;simp_all;simp_all;simp_all
set_option maxHeartbeats 1000000 in
def YG{call:dR}(hc:mI P call){f:Y'}(hs:DA P f){args:So}{r:V}{keep:Y'->X'}(h:tC keep call args H=M (r,H'))(s:di I μ H w){vs:aX V'}(hv:cN I μ args vs):
 CallsIn (fr J) 0 P f vs.toArray w (Bf I μ H w r H'):=by
 unfold tC at h;split at h
 .rename_i sv cv;obtain⟨v1,r1,rfl,a__,aD⟩:=hv.cons_inv;obtain⟨v2,r2,rfl,aE,aF⟩:=aD.cons_inv;obtain rfl:=aF.zd;have c__:∀p l,v1=.slice p 0 l->CallsIn (fr J) 0 P f [v1,v2].toArray w (Bf I μ H w .undef H):=by
   rintro p l rfl;refine Calls.fr ((hs.zero p l v2 w).mono ?_);rintro e w' ⟨rfl,rfl⟩;exact⟨_,I,μ,rfl,bM.undef _ _,s,Step.refl _ _ _ _⟩
  split at h
  .cases h;exact c__ J 0 a__.oq
  .cases h;obtain⟨a,e⟩:=a__.uP;exact c__ a 0 e
  .rename_i id es off len;split at h
   .cases h;rcases a__.ou with⟨p,l,_,_,_,_,e⟩|⟨_,a,e⟩
    .exact c__ _ l e
    exact c__ _ 0 e
   .rename_i n g cb;split at h
    .rename_i aT Q L;split at h
     .rename_i al;obtain⟨rfl,rfl,aR,hn,_⟩:=al;split at h
      .rename_i Z D aG aq;split at h
       .rename_i ar;cases h;obtain⟨p,c,el,hp,hI,b__,S⟩:=s.obs id _ L;rcases a__.ou with⟨q,l,hq,aU,aS,aH,rfl⟩|⟨h0,_⟩
        .rw[hp]at hq;cases hq;obtain⟨va,F,rfl,R,au⟩:=aE.mc;have av:va=#[]:=by have:=R.zd;simpa using this
         subst av;have am:=(ζe.1 L).1;obtain⟨t,_⟩:=s.kill L;generalize hT:c_ (cA call.lv (H.set id .dead)) (((Q.drop off).take (n+1)).flatten++cb)=T;have aI:plus I μ (H.set id .dead) w T p.b=J:=by cases B:plus I μ (H.set id .dead) w T p.b with|none=>rfl|some x=>exfalso;rcases Bs (by rw[B];rfl)with h|⟨aw,p',ob,_,g1,g2,g3,g4⟩;rw[hI]at h;cases h;have ax:aw≠id:=(by rintro rfl;rw[List.getElem?_set_self am]at g1;cases g1;simp[Ob.live]at g2);rw[List.getElem?_set_ne (Ne.symm ax)]at g1;exact ax (s.inj aw id ob (.row 1 Q) p' p g1 L g2 rfl g3 hp g4)
         let enc:Fin (n+1)->V':=λi=>(c[p.o+off*1+i.1]?).getD undef
         have K:∀i:Fin (n+1),∃v,Q[off+i.1]?=M [v]/\V.one v=U/\bM I μ v (enc i)/\c[p.o+off*1+i.1]?=M (enc i):=λi=>by obtain⟨v,u,e1,e2,e3,e4⟩:=zq S (off+i.1) (x:=Q[off+i.1]' c?) f?;have e5:c[p.o+off*1+i.1]?=M u:=(by rw[<-e3];congr 1;omega);have e6:enc i=u:=(by show(c[p.o+off*1+i.1]?).getD undef=u;rw[e5];rfl);exact⟨v,by rw[<-e1];simp,e2,by rw[e6];exact e4,by rw[e5,e6]⟩
         have h1:OneCell enc:=λi=>by obtain⟨v,_,e2,e3,_⟩:=K i;exact e3.one e2
         obtain⟨ay,ae⟩:=s7 ar;obtain⟨aV,aJ⟩:=kn aG;obtain⟨aK,aL⟩:=kn aq;have aA:∀x∈(Q.drop off).take (n+1),x.length=1:=λx B=>S.sq x (List.mem_of_mem_drop (List.mem_of_mem_take B))
         have W:∀(i:Fin (n+1))u,Z[i.1]?=M u->e_ (plus I μ (H.set id .dead) w T) u (enc i):=λi u hu=>by obtain⟨x,B,an⟩:=aJ i.1 u hu;obtain⟨v,e1,_,e3,_⟩:=K i;have e4:((Q.drop off).take (n+1))[i.1]?=M [v]:=(by rw[D?,L' i.2,List.getElem?_drop];exact e1);have e5:=zA (es:=1) aA (i:=i.1) (j:=0) e4 rfl;have e5:((Q.drop off).take (n+1)).flatten[i.1]?=M v:=(by simpa using e5);rw[e5]at B;cases B;refine(xT t T call.lv _ u _ an (λk A=>?_) e3).1;rw[<-hT];exact me (List.mem_append_left _ (List.mem_of_getElem? e5)) A
         have ab:cN (plus I μ (H.set id .dead) w T) (λ_=>J) D F.toList:=by refine⟨aK.trans au.1,λj a b k1 k2=>?_⟩;obtain⟨x,B,an⟩:=aL j a k1;refine .c _ _ (xT t T call.lv x a b an (λk A=>?_) (au.2 j x b B k2)).1;rw[<-hT];exact me (List.mem_append_right _ (List.mem_of_getElem? B)) A
         have af:=(Array.getElem?_eq_some_iff.1 b__).1
         let d:Array (Fin (n+1)):=(V! (n+1)).toArray
         have ao:d.size=n+1:=by simp[d]
         have hd:∀j:Fin (n+1),d[j.1]! =j:=λj=>by simp[d,getElem!_pos]
         have hg:∀i j:Fin (n+1),∃z,kz call g Z D n i j=M z/\∃a b,Z[i.1]?=M a/\Z[j.1]?=M b/\cq call g (a::b::D) []=M (.int _q z):=λi j=>by obtain⟨z,N⟩:=ay i j;have X:=N;unfold kz at X;split at X;rename_i a b E Y;split at X;(next z' C=>cases X;exact⟨z,N,a,b,E,Y,C⟩);cases X;cases X
         have aM:Bk P g:=by obtain⟨z,_,a,b,E,Y,C⟩:=hg 0 0;have s0:di (plus I μ (H.set id .dead) w T) (λ_=>J) [] w:=⟨λ_ _=>rfl,v8 t T,f?,f?,t.gl.mono (rH _ _ _ _ _)⟩;exact(GV hc C s0 (.cons (.c _ _ (W 0 a E)) (.cons (.c _ _ (W 0 b Y)) ab))).1
         have key:=hs.all enc h1 (λi j=>(kz call g Z D n i j).getD 0) ae g F p.b (p.o+off*1) l d w (λargs w=>AK aM args) (by
          intro m os G aW i j;obtain⟨z,N,a,b,E,Y,C⟩:=hg i j;have s0:di (plus I μ (H.set id .dead) w T) (λ_=>J) [] (sortWorld enc w p.b (p.o+off*1) m G os):=⟨λ_ _=>rfl,λb x Y=>IC.u9 (v8 t T b x Y) (Zq enc p.b _ m G os (IC.yW (v8 t T b x Y)) (by rintro rfl;rw[aI]at Y;cases Y)),f?,f?,t.gl.mono (rH _ _ _ _ _)⟩
          have:=CallsIn.un (GV hc C s0 (vs:=enc i::enc j::F.toList) (.cons (.c _ _ (W i a E)) (.cons (.c _ _ (W j b Y)) ab))).2;rw[show(enc i::enc j::F.toList).toArray=#[enc i,enc j]++F by apply ext';simp]at this
          refine this.mono ?_;rintro e w' ⟨u,I1,μ1,rfl,hu,s1,st⟩;exact⟨by rw[hu.gE];show _=Ending.returned (.int _q ((kz call g Z D n i j).getD 0));rw[N];rfl,st.grown⟩) (by
          intro j hj;have aB:j<n+1:=c?
          obtain⟨v,_,_,_,e4⟩:=K ⟨j,aB⟩;rw[hd ⟨j,aB⟩];exact⟨by rw[y8 b__];exact e4,by simp[World.frozen?,b__]⟩) af c?
         rw[ao]at key;refine Calls.fr (key.mono ?_);rintro e w' ⟨rfl,m,os,rfl⟩;have aN:ltOf (λi j=>(kz call g Z D n i j).getD 0)=sw (kz call g Z D n):=rfl
         rw[aN,EZ];have ah:=pdq_sorts (sw (kz call g Z D n)) ae d 0 d.size (Lib.bitLen d.size) U U (Nat.zero_le _) (y? _) (Or.inl rfl);rw[ao]at ah;have d__:=ah.1.1;change Bf I μ H w .undef (H.set id (.row 1 (tX Q off n (pdq (sw (kz call g Z D n)) d 0 (n+1) (Lib.bitLen (n+1)) U U).toList))) _ _;generalize pdq (sw (kz call g Z D n)) d 0 (n+1) (Lib.bitLen (n+1)) U U=G at d__;rw[ao]at d__;unfold sortWorld;rw[NU enc _ m G b__];have s1:di I μ H (Sort.ahead w m):=s.rO rfl;have aO:Step I μ H w I μ H (Sort.ahead w m):=Step.rO rfl rfl ⟨rfl,rfl,Nat.le_add_right _ _⟩;have ai:(Sort.putCells enc (p.o+off*1) G c).size=c.size:=by simp[Sort.putCells]
         have aj:∀i:Nat,(i<p.o+off*1\/p.o+off*1+(n+1)<=i)->(Sort.putCells enc (p.o+off*1) G c)[i]?=c[i]?:=λi hi=>by simp only[Sort.putCells,Array.getElem?_mapIdx];rw[d__];cases c[i]?with|none=>rfl|some y=>simp only[A?];rw[M' c?]
         have ap:∀i:Fin (n+1),(Sort.putCells enc (p.o+off*1) G c)[p.o+off*1+i.1]?=M (enc G[i.1]!):=λi=>by obtain⟨v,_,_,_,e4⟩:=K i;simp only[Sort.putCells,Array.getElem?_mapIdx,e4,A?];rw[L' ⟨c?,by rw[d__];omega⟩];congr 3;omega
         have aC:=S.room;have aP:(tX Q off n G.toList).length=Q.length:=by simp[tX,d__];omega
         obtain⟨s2,st2⟩:=s1.write (o:=.cells (Sort.putCells enc (p.o+off*1) G c) el) (l?:=.row 1 (tX Q off n G.toList)) L rfl hp
          ⟨p,_,el,hp,hI,kB _ af,WW S.es_eq (by rw[ai];exact S.sz) (by rw[aP,ai];omega) λi x B=>by
           unfold tX at B
           by_cases c1:i<off
           .rw[List.append_assoc,List.getElem?_append_left (by simp;omega),D?,L' c1]at B
            obtain⟨v,u,e1,e2,e3,e4⟩:=zq S i B;exact⟨v,u,e1,e2,by rw[aj _ c?];exact e3,e4⟩
           by_cases c2:i<off+(n+1)
           .rw[List.getElem?_append_left (by simp[d__];omega),List.getElem?_append_right (by simp;omega)]at B
            have ak:i-off<G.size:=c?
            have e0:(Q.take off).length=off:=by simp;omega
            simp only[e0,List.getElem?_map,Array.getElem?_toList]at B;rw[Array.getElem?_eq_getElem ak]at B;simp only[A?,ζa]at B;obtain⟨v,e1,e2,e3,e4⟩:=K G[i-off];rw[e1]at B;simp only[Option.getD_some]at B;refine⟨v,enc G[i-off],B.symm,e2,?_,e3⟩;have:=ap ⟨i-off,c?⟩
            simp only[getElem!_pos G (i-off) ak]at this;rw[<-this];congr 1;omega
           rw[List.getElem?_append_right (by simp[d__];omega),List.getElem?_drop]at B
           have e0:off+(n+1)+(i-((Q.take off)++G.toList.map (λi=>(Q[off+i.1]?).getD [])).length)=i:=by simp[d__];omega
           rw[e0]at B;obtain⟨v,u,e1,e2,e3,e4⟩:=zq S i B;exact⟨v,u,e1,e2,by rw[aj _ c?];exact e3,e4⟩⟩
         have A:∀b,b<(iF (Sort.ahead w m) p.b (.cells (Sort.putCells enc (p.o+off*1) G c) el)).heap.size->(grow (iF (Sort.ahead w m) p.b (.cells (Sort.putCells enc (p.o+off*1) G c) el)) os).heap[b]?=(iF (Sort.ahead w m) p.b (.cells (Sort.putCells enc (p.o+off*1) G c) el)).heap[b]?:=λb Y=>Jy _ _ _ Y
         have aQ:=Step.kept (I:=I) (μ:=μ) (H:=H.set id (.row 1 (tX Q off n G.toList))) A (by simp[grow]) rfl ⟨rfl,rfl,y? _⟩ (λa E h=>by unfold World.frozen? at h⊢;rw[A _ E];exact h)
         exact⟨_,I,μ,rfl,bM.undef _ _,s2.kept A,Step.trans s1 aO (Step.trans s2 st2 aQ)⟩
        cases h0
       cases h
      cases h
     cases h
    cases h
   cases h
  cases h
 cases h
end
def Fy(P:Program)(f:Y')(args:So)(y:V):Prop:=Bk P f/\∀I μ H w u,di I μ H w->cN I μ args u->CallsIn (fr J) 0 P f u.toArray w (Bf I μ H w y H)
def To{P:Program}{call:dR}(a:mI P call){f:Y'}{b:X'}{H':bl}(h:call (.fn f) [] []=M (.bool b,H')):Fy P f [] (.bool b):=by
 have c:∀H,cq call f [] H=M (.bool b):=by intro H;unfold cq;rw[show borrows call.lv H []=M []from Y];simp only[h,kT _ H' (show(V.bool b).closed=U from Y)];rfl
 refine⟨?_,λI μ H w u s d=>(GV a (c H) s d).2⟩;have⟨e,_⟩:=a.fn _ _ _ _ _ h;omega
structure acw(P:Program)(E:Env):Prop where
 sort:∀f,E.sort f=true->DA P f
 known:∀f args y,E.known f args=some y->Fy P f args y
end Go.VE
namespace Go.VE
variable[bZ]
section
variable{P:Program}{E:Env}{I I':cG}{μ μ':Mu}{H H':bl}{n B:Nat}{F F':WP}{a:Act}{w w':World}
def Pd:∀(F:WP)(t:Nat),W F<=t->get F t=.undef
 |[],_,_=>rfl|_::_,0,h=>p?|_::r,i+1,h=>Pd r i h?
def MV:∀(F:WP)(t:Nat)(x:V),F[t]?=M x->get F t=x
 |[],_,_,h=>p?|_::_,0,_,h=>by simpa[get]using h|_::r,i+1,x,h=>MV r i x h?
def QD(b:xo I){args:So}{vs:aX V'}{a:Nat}(h:cN I μ args vs)(B:W args<=a):
 eU I μ a args (vs.toArray++replicate (a-vs.toArray.size) undef):=by
 have u:=h.1;refine⟨p?,λt=>?_,b⟩
 by_cases C:t<(W args)
 .have h1:args[t]?=M args[t]:=by simp_all
  have w:t<W vs:=c?
  have z:vs[t]?=M vs[t]:=p?
  rw[MV _ _ _ h1];have:(vs.toArray++replicate (a-vs.toArray.size) undef).getD t undef=vs[t]:=by rw[Array.getD_eq_getD_getElem?,Array.getElem?_append_left h?];simp_all
  rw[this];exact h.2 t _ _ h1 z
 rw[Pd _ _ c?]
 have:(vs.toArray++replicate (a-vs.toArray.size) undef).getD t undef=undef:=by rw[Array.getD_eq_getD_getElem?,Array.getElem?_append_right p?,Array.getElem?_replicate];grind
 rw[this];exact bM.undef _ _
def UU(r:eU I μ n F a.tmps){t:Nat}{x:V}{v:V'}(B:t<n)(h:bM I μ x v):eU I μ n (set F t x) (a.tmps.setIfInBounds t v):=by have:=eU.put (dst:=M t) r h (F':=set F t x) (by simp[lQ,B]);simpa[Act.put]using this
def Eh:∀(ps:ST)(xs:So)(vs:aX V')(F:WP)(tmps:Array V'),eU I μ n F tmps->cN I μ xs vs->ps.all (·<n)=U->
 eU I μ n (A6 ps xs F) ((ps.zip vs).foldl (λtmps(t,a)=>tmps.setIfInBounds t a) tmps)
 |[],_,_,F,tmps,r,_,_=>by simpa[A6]using r|t::ps,[],[],F,tmps,r,_,_=>by simpa[A6]using r|t::ps,[],v::vs,F,tmps,r,h,_=>by have:=h.1;grind|t::ps,x::xs,[],F,tmps,r,h,_=>by have:=h.1;grind|t::ps,x::xs,v::vs,F,tmps,r,h,u=>by simp only[List.all_cons,ζh,_g]at u;have w:=h.2 0 x v Y Y;have z:cN I μ xs vs:=⟨by have:=h.1;grind,λj a b c B=>h.2 (j+1) a b h? h?⟩;exact Eh ps xs vs _ _ (UU (a:={tmps:=tmps,defers:=[]}) r u.1 w) z u.2
def LC{α β:Type}(g:α->Sem β):∀(l:aX α)(w:World)(B:aX β),W B=W l->(∀(j:Nat)x y,l[j]?=M x->B[j]?=M y->(g x).run P w=.ok y w)->(l.mapM g).run P w=.ok B w
 |[],w,[],_,_=>f?|[],w,_::_,h,_=>p?|_::_,w,[],h,_=>p?|x::l,w,y::B,h,hg=>by have D:=hg 0 x y Y Y;have u:=LC g l w B h? (λj a b c z=>hg (j+1) a b h? h?);simp_all
def Rg(tmps:Array V'):ResultVar->Sem V'
 |.tmp t=>pure (tmps.getD t undef)|.cell a t=>do loadVar t (<-asAddr (tmps.getD a undef))
def P5(fn:Func)(tmps:Array V'):results fn tmps=(fn.results.mapM (Rg tmps) >>= λvs=>pure (if h:vs.size=1 then vs[0]else .tuple vs)):=by congr 1
def Q9(q:eX P E){fn:Func}{tmps:Array V'}(r:eU I μ n F tmps)(s:di I μ H w){vs:So}(h:jm E F H fn.results.toList=M vs):
 ∃u,(results fn tmps).run P w=.ok u w/\bM I μ (result vs) u:=by
 have key:∀(l:aX ResultVar)(vs:So),jm E F H l=M vs->∃z:aX V',W z=W l/\cN I μ vs z/\
  ∀(j:Nat)x y,l[j]?=M x->z[j]?=M y->(Rg tmps x).run P w=.ok y w:=by
  intro l
  induction l with
  |nil=>intro vs h;simp[jm]at h;subst h;exact⟨[],rfl,.nil,f?⟩|cons x l i=>
   intro vs h
   cases x with
   |tmp t=>
    simp only[jm,ζf]at h;obtain⟨D,h,rfl⟩:=h;have⟨z,a,C,Q⟩:=i D h;refine⟨tmps.getD t undef::z,p?,.cons (r.2 t) C,?_⟩
    intro j x y g L
    cases j with
    |zero=>simp at g L;subst g;subst L;simp[Rg]|succ j=>grind
   |cell p t=>
    simp only[jm]at h;split at h
    .rename_i d D hd S;simp only[ζf]at h;obtain⟨v,b,rfl⟩:=h;have⟨z,a,C,Q⟩:=i D S;have⟨u,_,c,X,T,G⟩:=Gu q s hd (r.2 p) b;refine⟨u::z,p?,.cons c C,?_⟩
     intro j x y g L
     cases j with
     |zero=>
      simp only[List.getElem?_cons_zero,ζa]at g L;subst g;subst L;have e:(do loadVar t (<-asAddr (tmps.getD p undef))).run P w=(loadVar t X).run P w:=by rw[z?,T];rfl
      exact e.trans G
     |succ j=>grind
    grind
 have⟨z,a,C,Q⟩:=key _ _ h;have Z:=LC _ fn.results.toList w z a Q;have o:(fn.results.mapM (Rg tmps)).run P w=.ok z.toArray w:=by rw[Array.mapM_eq_mapM_toList];simp_all
 have m:W z=W vs:=C.1.symm;rw[P5,z?,o]
 by_cases B:W z=1
 .obtain⟨u,rfl⟩:=List.length_eq_one_iff.1 B;obtain⟨v,rfl⟩:=List.length_eq_one_iff.1 (m▸B);exact⟨u,f?,by simpa[result]using C.2 0 v u Y Y⟩
 refine⟨.tuple z.toArray,p?,?_⟩
 have f:result vs=.tup vs:=by match vs,m with|[],_=>rfl|[_],h=>exact _e h B|_::_::_,_=>rfl
 rw[f];exact .tup _ _ (by simpa using C.1) (by simpa using C.2)
def TC(g:eX P E){fn:Func}{tmps:Array V'}{vs:So}(h:jm E F H' fn.results.toList=M vs)(T:w.heap.size<=B):∀(ds:aX Deferred)(w':World),
 eU I' μ' n F tmps->di I' μ' H' w'->Step I μ H w I' μ' H' w'->l_ B ds w'->
 LeavesInM (fr J) 0 P fn tmps (Bf I μ H w (result vs) H') ds .returning w':=by
 intro ds
 induction ds with
 |nil=>intro w' r s st m;have⟨u,b,c⟩:=Q9 g r s h;exact⟨u,b,u,I',μ',rfl,c,s,st⟩|cons d ds L=>
  intro w' r s st m;have⟨q,a,S,D⟩:=m.all d f?
  refine⟨f?,.inl ⟨q,_,a,run_takeDeferred D,?_⟩⟩
  have z:=xF s D;have i:=ZH s D f? f?
  have m':l_ B ds w':=⟨λd hd=>m.all d (B? _ hd),(List.pairwise_cons.1 m.apart).2⟩
  refine L (iF w' q (.deferred J)) r (s.Dy _ i z) (st.after _ c?) ⟨λG C=>?_,m'.apart⟩
  have⟨Q,g1,g2,g3⟩:=m'.all G C;refine⟨Q,g1,g2,?_⟩;rw[je _ ?_];exact g3;rintro rfl;exact(List.pairwise_cons.1 m.apart).1 G C _ a g1
def Hy(o:Out):(pe o).isNone=(o==.norm):=by cases o<;>simp[pe]<;>rfl
def Jg(T:eX P E)(j:P.follows .mixedOrders=U)(b:acw P E):∀n,mI P (run E n):=by
 intro n;induction n with|zero=>exact⟨λ_ _ _ _ _ h=>(by cases h),λ_ _ _ _ _ h=>(by cases h)⟩|succ n C=>
  constructor;intro f args H r H' h;rw[Kd]at h;simp[lI]at h;split at h;rename_i b__ V;obtain⟨fn,m,hb,ae,c__,L⟩:=T.ft f b__ V;refine⟨⟨fn,m,p?,L⟩,?_⟩;intro I μ w B s a;split at h;rename_i u;have t:∀o F' H2 rs,exec E (run E n) n O b__.ntmps b__.body args H=M (o,F',H2)->(∀id,o≠.exit id)->jm E F' H2 b__.results=M rs->CallsIn (fr J) 0 P f B.toArray w (Bf I μ H w (result rs) H2):=by intro o F' H2 rs hx al hr;refine callsIn_of_wp_marks m hb trivial ?_;rw[ae];have c:=QD s.gl a u;have:=B4 T j C n J O rfl b__.ntmps b__.body I μ args H {tmps:=B.toArray++replicate (b__.ntmps-B.toArray.size) undef,defers:=[]} w o F' H2 hx c s ⟨f?,.nil⟩ (y? _);refine wpIn_mono this ?_;rintro e a1 W ⟨rfl,⟨I1,y,r1,S,z⟩,m1⟩;have d:=TC T (by rw[c__];omega) (y? _) a1.defers W r1 S z m1;cases o with|norm=>exact d|ret=>exact d|exit id=>grind
  split at h;simp_all;simp at h;grind;grind;grind;split at h;next A=>exact⟨(b.sort f A).ok,λI μ w B s a=>YG C (b.sort f A) h s a⟩
  obtain⟨yy,F,h⟩:=ζf.1 h;cases h;exact⟨(b.known f args _ F).1,λI μ w B s a=>(b.known f args _ F).2 I μ H w B s a⟩;intro id args H r H' h I μ w B p s a hp;rw[Kd]at h;simp only[lI]at h;split at h
  .rename_i rec X;split at h
   .split at h
    .rename_i u;split at h
     .rename_i F2 H2 af;split at h
      .rename_i r2 Y;split at h
       .rename_i Z;split at h
        .rename_i o F4 H4 ah;split at h
         .rename_i r4 aa;obtain⟨rfl,rfl⟩:=h;obtain⟨q,l,g1,g2,g3,g4⟩:=DU s X;rw[hp]at g1;cases g1;have ai:l.params.size=rec.params.length:=by have:=_f List.length g4.params;grind
          have aj:B.toArray.size=l.params.size:=by rw[ai,<-u.1];simpa using a.1.symm
          refine⟨p.b,l.fn,_,l.assign,l.body,run_yield g3 aj,?_⟩;refine roundIn_of_wpIn trivial ?_;have d__:(l.params.zip B.toArray).foldl (λtmps x=>tmps.setIfInBounds x.1 x.2) l.tmps=(rec.params.zip B).foldl (λtmps x=>tmps.setIfInBounds x.1 x.2) l.tmps:=by rw[<-Array.foldl_toList,Array.toList_zip,g4.params]
          have c:=Eh rec.params args B rec.frame l.tmps g4.frame a u.2;rw[<-d__]at c;have W:=B4 T j C n (M p.b) U rfl rec.nt rec.assign I μ _ H {tmps:=_,defers:=[]} w _ _ _ af c s ⟨f?,.nil⟩ (y? _);rw[g4.assign,g4.body];refine wpIn_mono W ?_;rintro e a1 W ⟨rfl,⟨I1,y,r1,S,z⟩,m1⟩;obtain⟨q,g,k1,k2,k3,k4⟩:=DU S Y;rw[z.mu _ _ hp]at k1;cases k1;have D:g.state=.ready:=by have:=k4.st;rw[Z]at this;cases d:g.state<;>rw[d]at this<;>simp[Eu.is]at this
          refine⟨_,run_beginRound k3 D,?_⟩;have G:=z.mu _ _ hp;obtain⟨K,st2⟩:=S.write (l?:=.loop {r2 with st:=.busy}) Y rfl G
           ⟨p,{g with state:=.busy},G,k2,kB _ (Array.getElem?_eq_some_iff.1 k3).1,⟨trivial,k4.pend,k4.pendOk,k4.frame,k4.params,k4.assign,k4.body⟩⟩
          have m2:=m1.step S st2;have w2:=B4 T j C n (M p.b) U rfl rec.nt rec.body I1 y F2 _ a1 (iF W p.b (.loop {g with state:=.busy})) o F4 H4 ah r1 K m2 (by rw[zR];exact z.size);refine wpIn_mono w2 ?_;rintro e a3 w3 ⟨rfl,⟨I3,μ3,r3,k,Q⟩,m3⟩;obtain⟨q,l4,a__,j2,N,i⟩:=DU k aa;rw[Q.mu _ _ G]at a__;cases a__;have R:=Q.mu _ _ G;have fin:∃v w',(Instr.endRound p.b (pe o)).run P w3=.ok v w'/\Bf I μ H w (.bool (o==.norm)) (H4.set id (.loop {r4 with st:=(if o==.norm then .ready else .done),pend:=(if o==.norm then J else M o)})) (.returned v) w':=by
           refine⟨_,_,run_endRound (pe o) N,?_⟩;obtain⟨s4,ak⟩:=k.write (l?:=.loop {r4 with st:=(if o==.norm then .ready else .done),pend:=(if o==.norm then J else M o)}) aa rfl R
            ⟨p,{l4 with state:=if(pe o).isNone then .ready else .done,pending:=pe o},R,j2,kB _ (Array.getElem?_eq_some_iff.1 N).1,⟨by cases o<;>exact trivial,by cases o<;>rfl,by cases o<;>simp,i.frame,i.params,i.assign,i.body⟩⟩
           refine⟨_,I3,μ3,rfl,?_,s4,Step.trans S z (Step.trans K st2 (Step.trans k Q ak))⟩;rw[Hy];exact .c _ _ (.bool _)
          cases o with|norm=>exact fin|ret=>exact fin|exit id=>exact fin
         grind
        grind
       grind
      grind
     grind
    grind
   grind
  grind
end
end Go.VE
namespace Go.VE
variable[bZ]
variable{P:Program}
def sJ.P0{t:W'}{d:TD}(h:zm P t=M d):sJ P t d:=eX.ty (E:={tt:=zm P,ft:=λ_=>J,keep:=λ_=>O,own:=λ_=>O,eqN:=λ_=>J,sort:=λ_=>O}) ⟨λ_ _ h=>h,f?,f?⟩ h
def uy{i:W'}{cs:Array V'}{o:Nat}{v:V'}{w:World}(a:zm P i=M ⟨1,8,[.int _q 0],.int _q⟩)(h:cs[o]?=M v):(part i cs o).run P w=.ok v w:=by unfold part;simp[z?,(sJ.P0 a).Qz,m4,TD.agg,h]
def wR{a:SW}(h:W a=2):∃x y,a=[x,y]:=by match a,h with|[x,y],_=>exact⟨x,y,Y⟩
def CG(d:Nat)(e:X'){i:W'}(x:Int){w:World}(B:P.underlying i=M (.int _q)):(B! e (d+1) i (.int _q x)).run P w=.ok () w:=by simp only[B!,z?,dX B,x?,N?]
def MR(d:Nat)(e:X'){t i:W'}{f g:Field}(x y:Int){w:World}(hu:P.underlying t=M (.struct #[f,g]))(D:f.type=i)(hg:g.type=i)(of:f.offset=0)(G:g.offset=1)(nf:f.name≠ "_")(h:g.name≠ "_")
 (hi:zm P i=M ⟨1,8,[.int _q 0],.int _q⟩)(B:P.underlying i=M (.int _q)):(B! e (d+1+1) t (.agg (ic [x,y]))).run P w=.ok () w:=by
 have u:∀w,(part i (ic [x,y]) 0).run P w=.ok (.int _q x) w:=λw=>uy hi Y
 have p1:∀w,(part i (ic [x,y]) 1).run P w=.ok (.int _q y) w:=λw=>uy hi Y
 have q:∀(x:Int)w,(B! e (d+1) i (.int _q x)).run P w=.ok () w:=λx w=>CG d e x B
 unfold B!;simp only[z?,dX hu,x?];rw[<-Array.forIn_toList];simp only[List.forIn_cons,List.forIn_nil,z?,D,hg,of,G,nf,h,ne_eq,not_false_eq_true,N',u,p1,q,x?,N?]
def zG.two{t i:W'}{f g:Field}(hu:P.underlying t=M (.struct #[f,g]))(T:f.type=i)(hg:g.type=i)(of:f.offset=0)(h:g.offset=1)(nf:f.name≠ "_")(o:g.name≠ "_")
 (hi:zm P i=M ⟨1,8,[.int _q 0],.int _q⟩)(G:P.underlying i=M (.int _q))(m:P.stoodInHeld t=O)(hq:P.eqGuardType P.depth t=O):zG P t 2:=by
 have I:P.fieldsOf t=#[f,g]:=by unfold Program.fieldsOf;rw[hu]
 have B:∀(w:World)(x y z u:Int),(O! t (.agg (ic [x,y])) (.agg (ic [z,u]))).run P w=.ok ([x,y]==[z,u]) w:=by intro w x y z u;show(J! (9999+1) t _ _).run P w=_;rw[run_equalIn_struct w 9999 t _ _ (by rw[I];exact hu) m,I];have Q:∀(x y:Int)w,(part i (ic [x,y]) 0).run P w=.ok (.int _q x) w:=λx y w=>uy hi Y;have p1:∀(x y:Int)w,(part i (ic [x,y]) 1).run P w=.ok (.int _q y) w:=λx y w=>uy hi Y;have q:∀(x y:Int)w,(J! 9999 i (.int _q x) (.int _q y)).run P w=.ok (x==y) w:=λx y w=>El 9998 x y G;simp only[Op.eqFields,T,hg,of,h,nf,o,ne_eq,not_false_eq_true,N',z?,Q,q,x?];by_cases C:x=z;by_cases d:y=u;subst C;subst d;simp[z?,p1,q,m4];subst C;have:(y==u)=O:=(by simpa using d);simp[z?,p1,q,m4,this];have:(x==z)=O:=(by simpa using C);simp[this]
 have L:∀(op:BinOp)(p q:UV)(w:World)(u v:Array V'),(eqGuard op t p q (.agg u) (.agg v)).run P w=.ok () w:=by intro op p q w u v;unfold eqGuard;cases op<;>simp[z?,run_program,m4,hq]
 refine⟨?_,?_,?_,?_,⟨_,hu,.inr ⟨_,Y⟩⟩⟩
 .intro w p q a b D j;obtain⟨x,y,rfl⟩:=wR D;obtain⟨z,u,rfl⟩:=wR j;rw[z?,L,x?];show(do pure (Value.bool (<-O! t (.agg (ic [x,y])) (.agg (ic [z,u])))):Sem V').run P w=_
  rw[z?,B];rfl
 .intro w p q a b D j;obtain⟨x,y,rfl⟩:=wR D;obtain⟨z,u,rfl⟩:=wR j;rw[z?,L,x?];show(do pure (Value.bool (!(<-O! t (.agg (ic [x,y])) (.agg (ic [z,u]))))):Sem V').run P w=_
  rw[z?,B];rfl
 .intro w a b D j;obtain⟨x,y,rfl⟩:=wR D;obtain⟨z,u,rfl⟩:=wR j;exact B w x y z u
 intro w e a D;obtain⟨x,y,rfl⟩:=wR D;exact MR 9998 e x y hu T hg of h nf o hi G
def lk{α:Type}:aX (Nat×α)->Nat->aY α
 |[],_=>J|(k,v)::r,n=>bif beq k n then M v else lk r n
def SN{α:Type}:∀{l:aX (Nat×α)}{n:Nat}{v:α},lk l n=M v->(n,v)∈l
 |[],_,_,h=>by simp[lk]at h|(k,x)::r,n,v,h=>by simp only[lk]at h;cases a:beq k n with|true=>rw[a]at h;simp only[cond_true,ζa]at h;have:=Nat.eq_of_beq_eq_true a;subst this;subst h;simp|false=>rw[a]at h;exact B? _ (SN h)
end Go.VE
namespace Go.VE
variable[bZ]
inductive KT where|bool|str|slice|ptr|map|int|other
 deriving DecidableEq
def TK.tag:TK->KT
 |.bool=>.bool|.int _=>.int|.str=>.str|.ptr _=>.ptr|.slice _=>.slice|.map ..=>.map|_=>.other
def rG(k:KT)(x y:V):aY X':=
 match k,x,y with
 |.slice,.bN,.bN=>M U|.slice,.fsl ..,.bN=>M O|.slice,.hsl ..,.bN=>M O|.ptr,.jt,.jt=>M U|.ptr,.fptr _,.jt=>M O|.ptr,.hptr ..,.jt=>M O|.map,.iE,.iE=>M U|.map,.fmap _,.iE=>M O|.map,.hmap _,.iE=>M O|_,_,_=>J
def oT(k:aY KT)(e:aY Nat)(op:BinOp)(x y:V):aY V:=
 match x,y with
 |.int k a,.int u b=>
  match op with
  |.shl=>if b<0 then J else M (.int k (k.wrap (a*2 ^ (min b.toNat k.bits))))|.shr=>if b<0 then J else M (.int k (a.fdiv (2 ^ (min b.toNat k.bits))))|_=>if k=u then
   match op with
   |.add=>M (.int k (k.wrap (a+b)))|.sub=>M (.int k (k.wrap (a-b)))|.mul=>M (.int k (k.wrap (a*b)))|.quo=>if b=0 then J else M (.int k (k.wrap (a.tdiv b)))|.rem=>if b=0 then J else M (.int k (a.tmod b))|.and=>M (.int k (k.wrap (c5 k.bits a &&& c5 k.bits b).toNat))|.or=>M (.int k (k.wrap (c5 k.bits a ||| c5 k.bits b).toNat))|.xor=>M (.int k (k.wrap (c5 k.bits a ^^^ c5 k.bits b).toNat))|.andNot=>M (.int k (k.wrap (c5 k.bits a &&& ~~~ c5 k.bits b).toNat))|op=>(uD op a b).map .bool
   else J
 |.str a,.str b=>
  match op with
  |.add=>if((a.size+b.size:Nat):Int)>IntKind.i64.max then J else M (.str (a++b))|.eql=>M (.bool (a.toList==b.toList))|.neq=>M (.bool !(a.toList==b.toList))|.lss=>M (.bool (T! a.toList b.toList))|.leq=>M (.bool (T! a.toList b.toList||a.toList==b.toList))|.gtr=>M (.bool !(T! a.toList b.toList||a.toList==b.toList))|.geq=>M (.bool !(T! a.toList b.toList))|_=>J
 |.bool a,.bool b=>
  match k,op with
  |some .bool,.eql=>M (.bool (a==b))|some .bool,.neq=>M (.bool !(a==b))|_,_=>J
 |.agg a,.agg b=>
  match e,op with
  |some n,.eql=>if W a=n then(mV a b).map .bool else J|some n,.neq=>if W a=n then(mV a b).map (λt=>.bool !t)else J|_,_=>J
 |x,y=>
  match k,op with
  |some k,.eql=>(rG k x y).map .bool|some k,.neq=>(rG k x y).map λt=>.bool !t|_,_=>J
def Px(k:TK)(x y:V):xS k x y=rG k.tag x y:=by cases k<;>cases y<;>(try rfl)<;>cases x<;>rfl
def YC(E:Env)(op:BinOp)(t:W')(x y:V):My E op t x y=oT ((E.kindOf t).map TK.tag) (E.eqN t) op x y:=by
 unfold My;split;rfl;rfl;cases b:E.kindOf t with|none=>rfl|some k=>cases k<;>cases op<;>rfl
 rfl;rename_i a u w z
 cases b:E.kindOf t with
 |none=>rw[oT.eq_29 _ _ _ _ _ a u w z f? f?]|some k=>
  simp only[Px];cases op<;>first
   |exact(oT.eq_27 _ _ _ _ a u w z).symm|exact(oT.eq_28 _ _ _ _ a u w z).symm|(rw[oT.eq_29 _ _ _ _ _ a u w z f? f?])
inductive xN where
 |id|pick|nilc
 |bin(k:Option KT)(e:Option Nat)(op:BinOp)
 |not|neg
 |conv(k:IntKind)
 |fieldAddr(off:Nat)
 |field(off size:Nat)(agg:Bool)
 |idxS(size:Nat)
 |idxA(len size:Nat)
 |idxStr
 |idxArr(len size:Nat)(agg:Bool)
 |sliceStr(lo hi:Bool)
 |slice(size:Nat)(lo hi:Bool)
 |slice00
 |build(zero:List V)(pl:List (Nat×Nat))
 |clo(name:Nat)(k:Nat)
 |ext(i:Nat)
 |lenStr|lenSl|capSl|max|min|bad|max4
 |makeC(size:Nat)(zero:List V)
 |buildC(size len:Nat)(zero:List V)(idx:List Nat)
 |emptyC
def Q6:V->aY V
 |.hptr id el off=>M (.hptr id el off)|.fptr cs=>M (.fptr cs)|.clo f a b=>M (.clo f a b)|_=>J
def th(off:Nat):V->aY V
 |.fptr cs=>if off<=W cs then M (.fptr (cs.drop off))else J|.hptr id el o=>M (.hptr id el (o+off))|_=>J
def nL(size:Nat)(s:V)(n:Int):aY V:=
 if n<0 then J else match s with
 |.fsl es u=>if es=size then(u[n.toNat]?).map .fptr else J|.hsl id es off len=>if es=size/\n.toNat<len then M (.hptr id (off+n.toNat) 0)else J|_=>J
def Ad(len size:Nat)(p:V)(n:Int):aY V:=
 if 0<=n/\n<len then match p with
  |.fptr cs=>if n.toNat*size<=W cs then M (.fptr (cs.drop (n.toNat*size)))else J|.hptr id el o=>M (.hptr id el (o+n.toNat*size))|_=>J
 else J
def oS:X'->X'->So->aY (PH×PH)
 |false,O,[]=>M (J,J)|true,O,[.int _ l]=>M (M l,J)|false,U,[.int _ h]=>M (J,M h)|true,U,[.int _ l,.int _ h]=>M (M l,M h)|_,_,_=>J
def jF(size:Nat)(v:V)(l h:PH):aY V:=
 match v with
 |.fsl es u=>if es=size then(ec (W u) l h).map λ(l,h)=>.fsl es ((u.take h).drop l)else J|.hsl id es off len=>if es=size then(ec len l h).map λ(l,h)=>.hsl id es (off+l) (h-l)else J|.dH=>(ec 0 l h).map λ_=>.dH|.bN=>(ec 0 l h).map λ_=>.bN|_=>J
def PO:V->X'
 |.fsl ..|.hsl ..|.dH|.bN=>U|_=>O
def mF(cells:So):aX (Nat×Nat)->So->aY So
 |[],[]=>M cells|(off,size)::pl,v::vs=>
  if W v.cells≠size||off+W v.cells>W cells then J
  else mF (cells.take off++v.cells++cells.drop (off+W v.cells)) pl vs
 |_,_=>J
def qF:V->aY V
 |.fsl _ xs=>M (.int _q (W xs))|.hsl _ _ _ len=>M (.int _q len)|.dH=>M (.int _q 0)|.bN=>M (.int _q 0)|_=>J
def LK:V->aY V
 |.bN|.dH=>M (.int _q 0)|_=>J
def bT(N:Nat->Y'):xN->So->aY V
 |.id,[x]=>M x
 |.pick,[.bool t,a,b]=>M (if t then a else b)
 |.nilc,[x]=>Q6 x
 |.bin k e op,[x,y]=>oT k e op x y
 |.not,[.bool b]=>M (.bool !b)
 |.neg,[.int k n]=>M (.int k (k.wrap (0-n)))
 |.conv k,[.int _ n]=>M (.int k (k.wrap n))
 |.fieldAddr off,[p]=>th off p
 |.field off size agg,[.agg cs]=>_n (cut cs off size) (mk agg)
 |.idxS size,[s,.int _ n]=>nL size s n
 |.idxA len size,[p,.int _ n]=>Ad len size p n
 |.idxStr,[.str s,.int _ n]=>if 0<=n then(s[n.toNat]?).map (λb=>.int .u8 b.toNat)else J
 |.idxArr len size agg,[.agg cs,.int _ n]=>if 0<=n/\n<len then(cut cs (n.toNat*size) size).bind (mk agg)else J
 |.sliceStr lo hi,.str s::D=>_n (oS lo hi D) λ(l,h)=>(ec s.size l h).map λ(l,h)=>.str (s.extract l h)
 |.slice size lo hi,v::D=>_n (oS lo hi D) λ(l,h)=>jF size v l h
 |.slice00,[v,.int _ h,.int _ m]=>if PO v&&h==0&&m==0 then M .dH else J
 |.build zero pl,vs=>(mF zero pl vs).map .agg
 |.clo name k,vs=>M (.clo (N name) (vs.take k) (vs.drop k))
 |.ext i,[.tup vs]=>vs[i]?
 |.lenStr,[.str s]=>M (.int _q s.size)
 |.lenSl,[v]=>qF v
 |.capSl,[v]=>LK v
 |.max,[.int k a,.int B b]=>if k=B then M (.int k (if b>a then b else a))else J
 |.max4,[.int k a,.int k1 b,.int k2 c,.int k3 d]=>if k=k1/\k=k2/\k=k3 then M (.int k (Fs (Fs (Fs a b) c) d))else J
 |.min,[.int k a,.int B b]=>if k=B then M (.int k (if b<a then b else a))else J
 |.makeC size zero,[.int k n,.int B m]=>if k=_q/\B=_q/\0<=n/\n=m/\m<=2147483648/\zero.all V.scalar=U then M (.fsl size (List.replicate n.toNat zero))else J
 |.buildC size len zero idx,vs=>if V.c7 vs=U/\W idx=W vs then match gB size (List.replicate len zero) (idx.zip vs)with
  |some xs=>if xs.isEmpty=O/\(xs.all λx=>x.all V.scalar)=U then M (.fsl size xs)else J
  |none=>J
  else J
 |.emptyC,[]=>M .dH
 |_,_=>J
inductive Aw where|int (k:IntKind)|str|ints (n:Nat)
def Hi(E:Env)(t:W'):aY Aw:=
 match E.kindOf t with
 |some (.int k)=>M (.int k)|some .str=>M .str|some _=>(E.eqN t).map .ints|none=>J
def sC:Aw->V->X'
 |.int k,.int B _=>k==B|.str,.str _=>U|.ints n,.agg cs=>W cs==n&&(jH cs).isSome|_,_=>O
inductive OW where
 |load(size:Nat)(agg:Bool)|loadF(size:Nat)(agg:Bool)|lookup(kk:Aw)(zero:V)(ok:Bool)
def fS(H:bl):OW->So->aY V
 |.load size agg,[p]=>_n (fh H p size) (mk agg)|.lookup kk z ok,[m,k]=>match oJ H m with
  |some B=>if sC kk k then match jB k B 0 with
   |some (M (_,v))=>M (if ok then .tup [v,.bool U]else v)|some J=>M (if ok then .tup [z,.bool O]else z)|none=>J
   else J
  |none=>J
 |_,_=>J
inductive TY where
 |alloc(size:Nat)(zero:List V)|box|makeSl(size:Nat)(zero:List V)|buildSl(size len:Nat)(zero:List V)(idx:List Nat)|makeMap
def nW:TY->So->aY (Ob×Mk)
 |.alloc size zero,[]=>M (.row size [zero],.ptr)|.box,[v]=>if v.cells.all V.one then M (.row (W v.cells) [v.cells],.ptr)else J|.makeSl size zero,[.int k n,.int B m]=>if k=_q/\B=_q/\0<=n/\n<=m/\m<=2147483648 then M (.row size (List.replicate m.toNat zero),.sl size n.toNat)else J|.buildSl size len zero idx,vs=>if W idx=W vs then(gB size (List.replicate len zero) (idx.zip vs)).map λxs=>(.row size xs,.sl size len)else J|.makeMap,[]=>M (.map [],.map)|_,_=>J
inductive OC where
 |store(size:Nat)|storeF(size:Nat)|mapUp(kk:Aw)|append(size:Nat)|appMk(size bytes:Nat)(zero:List V)|clear(size:Nat)(zero:List V)
def fI(H:bl):OC->So->aY (V×bl)
 |.store size,[.hptr id el off,v]=>match H[id]?with
  |some (.row es xs)=>match xs[el]?with
   |some cs=>if W v.cells=size/\off+size<=W cs/\v.cells.all V.one=U then
    M (.undef,H.set id (.row es (xs.set el (cs.take off++v.cells++cs.drop (off+W v.cells)))))else J
   |none=>J
  |_=>J
 |.mapUp kk,[.hmap id,k,v]=>match H[id]?with
  |some (.map B)=>if sC kk k then(sZ k v B).map λB=>(.undef,H.set id (.map B))else J|_=>J
 |.append size,[s,x]=>match dO H size s,dO H size x with
  |some _,M []=>M (s,H)|some xs,M ys=>if W xs+W ys<=2147483648 then(iz H s).map λH1=>(.hsl (W H) size 0 (W xs+W ys),H1++[.row size (xs++ys)])else J|_,_=>J
 |.appMk size bytes zero,[s,x]=>mkApp H size bytes zero s x|.clear size zero,[v]=>FG H size zero v|.storeF size,.hptr id el off::v::l=>if l.all (qu id)=U then match H[id]?with
  |some (.row es xs)=>match xs[el]?with
   |some cs=>if W v.cells=size/\off+size<=W cs/\v.cells.all V.one=U then
    M (.undef,H.set id (.row es (xs.set el (cs.take off++v.cells++cs.drop (off+W v.cells)))))else J
   |none=>J
  |_=>J
  else J
 |_,_=>J
inductive K where
 |p(p:xN)|r(r:OW)|a(a:TY)|l(l:OC)|c|e(size:Nat)|b
def ac_(E:Env)(t:W'):aY KT:=(E.kindOf t).map TK.tag
def resolve(E:Env)(nm:Y'->aY Nat):Op->aY (K×aX UV)
 |.move x|.assign x=>M (.p .id,[x])
 |.pick c a b=>M (.p .pick,[c,a,b])
 |.nilCheck x=>M (.p .nilc,[x])
 |.binOp op t x y _=>M (.p (.bin (ac_ E t) (E.eqN t) op),[x,y])
 |.unOp .not _ x=>M (.p .not,[x])
 |.unOp .neg _ x=>M (.p .neg,[x])
 |.convert s d x=>match E.tt s,E.tt d with
  |some _,M G=>match G.kind with
   |.int k=>M (.p (.conv k),[x])
   |.str=>match E.kindOf s with
    |some (.slice e)=>match E.kindOf e with
     |some (.int .u8)=>M (.b,[x])
     |_=>J
    |_=>J
   |_=>J
  |_,_=>J
 |.fieldAddr s x f=>match E.kindOf s with
  |some (.struct fs)=>match fs[f]?with
   |some (off,t)=>match E.tt t with
    |some d=>if d.size=0 then J else M (.p (.fieldAddr off),[x])
    |none=>J
   |none=>J
  |_=>J
 |.field s x f=>match E.kindOf s with
  |some (.struct fs)=>match fs[f]?with
   |some (off,t)=>match E.tt t with
    |some d=>M (.p (.field off d.size d.agg),[x])
    |none=>J
   |none=>J
  |_=>J
 |.indexAddr t x i=>match E.kindOf t with
  |some (.slice e)=>(E.tt e).map λd=>(.p (.idxS d.size),[x,i])
  |some (.array len e)=>(E.tt e).map λd=>(.p (.idxA len d.size),[x,i])
  |_=>J
 |.index t x i=>match E.kindOf t with
  |some .str=>M (.p .idxStr,[x,i])
  |some (.array len e)=>(E.tt e).map λd=>(.p (.idxArr len d.size d.agg),[x,i])
  |_=>J
 |.slice t x lo hi g=>match E.kindOf t,g with
  |some .str,J=>M (.p (.sliceStr lo.isSome hi.isSome),x::(lo.toList++hi.toList))
  |some (.slice e),J=>(E.tt e).map λd=>(.p (.slice d.size lo.isSome hi.isSome),x::(lo.toList++hi.toList))
  |some (.slice e),M m=>match E.tt e,lo,hi with
   |some _,J,M h=>M (.p .slice00,[x,h,m])
   |_,_,_=>J
  |_,_=>J
 |.build t ps=>match E.tt t with
  |some d=>match d.kind with
   |.struct fs=>match p8 E fs with
    |some pl=>(ps.toList.mapM λ(q:Nat×UV)=>pl[q.1]?).map λq=>(K.p (.build d.zero q),ps.toList.map λ(q:Nat×UV)=>q.2)
    |none=>J
   |.array _ e=>(E.tt e).map λD=>(K.p (.build d.zero (ps.toList.map λ(q:Nat×UV)=>(q.1*D.size,D.size))),ps.toList.map λ(q:Nat×UV)=>q.2)
   |_=>J
  |none=>J
 |.makeFunc (.func f) a b=>(nm f).map λs=>(.p (.clo s (W a.toList)),a.toList++b.toList)
 |.extract x i=>M (.p (.ext i),[x])
 |.load t a=>(E.tt t).map λd=>(.r (.load d.size d.agg),[a])
 |.lookup t m k ok=>match E.kindOf t with
  |some (.map B T)=>match E.tt T,Hi E B with
   |some d,M kk=>(mk d.agg d.zero).map λz=>(.r (.lookup kk z ok),[m,k])
   |_,_=>J
  |_=>J
 |.alloc t=>(E.tt t).map λd=>(.a (.alloc d.size d.zero),[])
 |.box _ x=>M (.a .box,[x])
 |.makeSlice t l c=>match E.kindOf t with
  |some (.slice e)=>match E.tt e with
   |some d=>if d.bytes<=4096 then M (.a (.makeSl d.size d.zero),[l,c])else J
   |none=>J
  |_=>J
 |.buildSlice t len ps=>match E.kindOf t with
  |some (.slice e)=>match E.tt e with
   |some d=>if len*d.size<=16777216 then M (.a (.buildSl d.size len d.zero (ps.toList.map (·.1))),ps.toList.map (·.2))else J
   |none=>J
  |_=>J
 |.makeMap _ J=>M (.a .makeMap,[])
 |.store t a x=>(E.tt t).map λd=>(.l (.store d.size),[a,x])
 |.mapUpdate t m k x|.insert t m k x=>match E.kindOf t with
  |some (.map B _)=>(Hi E B).map λkk=>(.l (.mapUp kk),[m,k,x])
  |_=>J
 |.call {callee:=.builtin .append,args,argTypes}=>match argTypes.toList,args.toList with
  |[t,j],[s,x]=>match E.kindOf t,E.kindOf j with
   |some (.slice e),M (.slice _)=>match E.tt e with
    |some d=>if d.bytes<=4096/\0<d.bytes then M (.l (.append d.size),[s,x])else J
    |none=>J
   |some (.slice e),M (.int _)=>(E.tt e).map λd=>(.l (.appMk d.size d.bytes d.zero),[s,x])
   |_,_=>J
  |_,_=>J
 |.call {callee:=.builtin .len,args,argTypes}=>match argTypes[0]?,args.toList with
  |some t,[x]=>match E.kindOf t with
   |some .str=>M (.p .lenStr,[x])
   |some (.slice _)=>M (.p .lenSl,[x])
   |_=>J
  |_,_=>J
 |.call {callee:=.builtin .cap,args,argTypes}=>match argTypes[0]?,args.toList with
  |some t,[x]=>match E.kindOf t with
   |some (.slice _)=>M (.p .capSl,[x])
   |_=>J
  |_,_=>J
 |.call {callee:=.builtin .clear,args,argTypes}=>match argTypes[0]?,args.toList with
  |some t,[x]=>match E.kindOf t with
   |some (.slice e)=>(E.tt e).map λd=>(.l (.clear d.size d.zero),[x])
   |_=>J
  |_,_=>J
 |.panic _=>M (.p .bad,[])
 |.makeInterface ..=>M (.p .bad,[])
 |.call {callee:=.builtin .max,args,..}=>match args.toList with
  |[x,y]=>M (.p .max,[x,y])
  |[x,y,z,t]=>M (.p .max4,[x,y,z,t])
  |_=>J
 |.call {callee:=.builtin .min,args,..}=>match args.toList with
  |[x,y]=>M (.p .min,[x,y])
  |_=>J
 |.call {callee:=.value f,args,..}=>M (.c,f::args.toList)
 |_=>J
section
variable{E:Env}{nm:Y'->aY Nat}{N:Nat->Y'}{F:WP}
def qV{x:UV}{vs:So}(h:f_ F [x]=M vs):∃a,ev F x=M a/\vs=[a]:=by simp[f_]at h;grind
def ki{x:UV}{l:aX UV}{vs:So}(h:f_ F (x::l)=M vs):∃a az,ev F x=M a/\f_ F l=M az/\vs=a::az:=by simp[f_]at h;grind
def tE{vs:So}(h:f_ F []=M vs):vs=[]:=by simp[f_]at h;grind
def vJ{x y:UV}{vs:So}(h:f_ F [x,y]=M vs):∃a b,ev F x=M a/\ev F y=M b/\vs=[a,b]:=by obtain⟨a,az,w,u,rfl⟩:=ki h;obtain⟨b,z,rfl⟩:=qV u;grind
def Mm{x y z:UV}{vs:So}(h:f_ F [x,y,z]=M vs):∃a b c,ev F x=M a/\ev F y=M b/\ev F z=M c/\vs=[a,b,c]:=by obtain⟨a,az,w,u,rfl⟩:=ki h;obtain⟨b,c,B,d,rfl⟩:=vJ u;grind
def PJ{l m:aX UV}{vs:So}(h:f_ F (l++m)=M vs):∃az B,f_ F l=M az/\f_ F m=M B/\vs=az++B:=by induction l generalizing vs with|nil=>exact⟨[],vs,rfl,h,rfl⟩|cons x l u=>obtain⟨a,az,w,z,rfl⟩:=ki h;obtain⟨b,c,C,d,rfl⟩:=u z;refine⟨a::b,c,?_,d,Y⟩;simp[f_,w,C]
def PF{l:aX UV}{vs:So}(h:f_ F l=M vs):W vs=W l:=by induction l generalizing vs with|nil=>rw[tE h];rfl|cons x l u=>obtain⟨a,az,_,w,rfl⟩:=ki h;grind
def DC(E:Env)(N:Nat->Y')(F:WP)(op:Op)(vs:So):K->Prop
 |.p p=>cO op=.pure/\∀v,bT N p vs=M v->bP E F op=M v|.r r=>cO op=.read/\∀H v,fS H r vs=M v->eu E F H op=M v|.a a=>cO op=.alloc/\∀x,nW a vs=M x->fG E F op=M x|.l l=>cO op=.loud/\∀H x,fI H l vs=M x->cH E F H op=M x|.e _=>False|.b=>cO op=.pure/\∃x,vs=[x]/\∀H ys l,dO H 1 x=M ys->nK ys=M l->bP E F op=J/\evalConv E F H op=M (.str (oA l))|.c=>cO op=.call/\∃f az,vs=f::az/\lS F op=(match f with|.clo g a b=>M (.fn g,a++az++b)|.yld id=>M (.yld id,az)|_=>J)
def KI(place:Nat->aY (Nat×Nat)):∀(ps:aX (Nat×UV))(q:aX (Nat×Nat))(vs:So)(cells cs:So),(ps.mapM λ(x:Nat×UV)=>place x.1)=M q->
 f_ F (ps.map λ(x:Nat×UV)=>x.2)=M vs->mF cells q vs=M cs->∃B,ow F ps=M B/\xk place cells B=M cs:=by
 intro ps
 induction ps with
 |nil=>
  intro q vs cells cs u b h;simp at u;subst u;have:=tE (by simpa using b);subst this
  simp[mF]at h;subst h;exact⟨[],rfl,rfl⟩
 |cons p ps D=>
  intro q vs cells cs u b h;have⟨i,x⟩:=p;simp only[List.mapM_cons,Option.pure_def,Option.bind_eq_bind,ζg,ζa]at u;obtain⟨pl,w,G,z,rfl⟩:=u;obtain⟨a,az,I,C,rfl⟩:=ki (by simpa using b)
  simp only[mF]at h;split at h
  .simp_all
  have⟨B,c,d⟩:=D G az _ cs z C h;refine⟨(i,a)::B,by simp[ow,I,c],?_⟩
  simp[xk,w]
  grind
def RU:∀(ps:aX (Nat×UV))(vs:So),f_ F (ps.map λ(x:Nat×UV)=>x.2)=M vs->ow F ps=M ((ps.map λ(x:Nat×UV)=>x.1).zip vs):=by intro ps;induction ps with|nil=>simp[ow]|cons p ps w=>intro vs b;obtain⟨a,az,z,u,rfl⟩:=ki (by simpa using b);simp[ow,z,w az u]
def L7{d c:aY UV}{vs:So}{l h:PH}(e:f_ F (d.toList++c.toList)=M vs)(B:oS d.isSome c.isSome vs=M (l,h)):lZ F d=M l/\lZ F c=M h:=by
 cases d with
 |none=>cases c with|none=>have:=tE (by simpa using e);subst this;obtain⟨rfl,rfl⟩:=B;exact⟨rfl,rfl⟩|some y=>obtain⟨b,u,rfl⟩:=qV (by simpa using e);cases b<;>simp[oS]at B;obtain⟨rfl,rfl⟩:=B;simp[lZ,u]
 |some x=>cases c with|none=>obtain⟨b,u,rfl⟩:=qV (by simpa using e);cases b<;>simp[oS]at B;obtain⟨rfl,rfl⟩:=B;simp[lZ,u]|some y=>obtain⟨a,b,w,u,rfl⟩:=vJ (by simpa using e);cases a<;>cases b<;>simp[oS]at B;obtain⟨rfl,rfl⟩:=B;simp[lZ,w,u]
def Df{t:W'}{kk:Aw}{k:V}(h:Hi E t=M kk)(a:sC kk k=U):DX E t k=U:=by unfold Hi at h;unfold DX;cases u:E.kindOf t with|none=>grind|some tk=>rw[u]at h;have b:(E.eqN t).map Aw.ints=M kk->∃n cs,E.eqN t=M n/\k=.agg cs/\(W cs==n&&(jH cs).isSome)=U:=(by intro h;simp at h;obtain⟨n,w,rfl⟩:=h;cases k<;>simp[sC]at a<;>first|grind|grind);cases tk with|int z=>simp at h;subst h;cases k<;>simp[sC]at a;grind|str=>simp at h;subst h;cases k<;>simp[sC]at a;rfl|_=>obtain⟨n,cs,c,rfl,B⟩:=b h;simp_all
def kW(hN:∀f s,nm f=M s->N s=f){op:Op}{k:K}{os:aX UV}{vs:So}(h:resolve E nm op=M (k,os))(g:f_ F os=M vs):DC E N F op vs k:=by
 cases op with
 |move x=>obtain⟨rfl,rfl⟩:=h;obtain⟨a,B,rfl⟩:=qV g;exact⟨rfl,λv w=>by simpa[bT,bP,B]using w⟩|assign x=>obtain⟨rfl,rfl⟩:=h;obtain⟨a,B,rfl⟩:=qV g;exact⟨rfl,λv w=>by simpa[bT,bP,B]using w⟩|pick c a b=>simp[resolve]at h;obtain⟨rfl,rfl⟩:=h;obtain⟨x,y,z,hx,hy,c__,rfl⟩:=Mm g;refine⟨_k,λv w=>?_⟩;cases x<;>simp[bT]at w;rename_i t;subst w;cases t<;>simp[bP,hx,hy,c__]|nilCheck x=>simp[resolve]at h;obtain⟨rfl,rfl⟩:=h;obtain⟨a,B,rfl⟩:=qV g;refine⟨_k,λv w=>?_⟩;cases a<;>simp[bT,Q6]at w<;>subst w<;>simp[bP,B]|binOp ai t x y yt=>simp only[resolve,ζa,ζc]at h;obtain⟨rfl,rfl⟩:=h;obtain⟨a,b,B,G,rfl⟩:=vJ g;exact⟨rfl,λv w=>by simp only[bP,B,G,YC];exact w⟩|unOp u t x=>cases u with|not=>simp only[resolve,ζa,ζc]at h;obtain⟨rfl,rfl⟩:=h;obtain⟨a,B,rfl⟩:=qV g;refine⟨_k,λv w=>?_⟩;cases a<;>simp[bT]at w;subst w;simp[bP,B]|neg=>simp only[resolve,ζa,ζc]at h;obtain⟨rfl,rfl⟩:=h;obtain⟨a,B,rfl⟩:=qV g;refine⟨_k,λv w=>?_⟩;cases a<;>simp[bT]at w;subst w;simp[bP,B]|_=>simp[resolve]at h
 |convert s d x=>
  simp only[resolve]at h;split at h
  .rename_i sd td a__ hd;split at h;rename_i k j;simp only[ζa,ζc]at h;obtain⟨rfl,rfl⟩:=h;obtain⟨a,B,rfl⟩:=qV g;refine⟨_k,λv w=>?_⟩;cases a<;>simp[bT]at w;subst w;simp[bP,B,a__,hd,j]
   .rename_i j;split at h
    .rename_i e he;split at h
     .rename_i hu;simp only[ζa,ζc]at h;obtain⟨rfl,rfl⟩:=h;obtain⟨a,B,rfl⟩:=qV g;refine⟨_k,a,_k,λH ys l n b__=>?_⟩;have ab:E.kindOf d=M .str:=(by unfold Env.kindOf;rw[hd,A?,j]);refine⟨?_,by simp only[evalConv,he,ab,B,hu,n,b__,ζb,A?]⟩;simp only[bP,a__,hd,B];cases a<;>first|rfl|(simp only[dO]at n;cases n)
     simp at h
    simp at h
   simp at h
  simp at h
 |fieldAddr s x f=>simp only[resolve]at h;split at h;rename_i fs j;split at h;rename_i off t W;split at h;rename_i d hd;split at h;simp at h;rename_i c__;simp only[ζa,ζc]at h;obtain⟨rfl,rfl⟩:=h;obtain⟨a,B,rfl⟩:=qV g;refine⟨_k,λv w=>?_⟩;simp only[bP,B,j,W,hd,M' c__];simp only[bT,th]at w;cases a<;>simp at w⊢ <;>exact w;simp at h;simp at h;simp at h|field s x f=>
  simp only[resolve]at h;split at h
  .rename_i fs j;split at h
   .rename_i off t W;split at h
    .rename_i d hd;simp only[ζa,ζc]at h;obtain⟨rfl,rfl⟩:=h;obtain⟨a,B,rfl⟩:=qV g;refine⟨_k,λv w=>?_⟩;cases a<;>simp only[bT]at w<;>first|(simp only[bP,B,j,W,hd];exact w)|simp at w
    simp at h
   simp at h
  simp at h
 |indexAddr t x i=>
  simp only[resolve]at h;split at h
  .rename_i e j;simp only[ζf,ζc]at h;obtain⟨d,hd,rfl,rfl⟩:=h;obtain⟨a,b,B,G,rfl⟩:=vJ g;refine⟨_k,λv w=>?_⟩;(cases b<;>simp only[bT]at w<;>first|simp at w;done|skip);simp only[bP,B,G,j,hd];unfold nL at w;exact w
  .rename_i len e j;simp only[ζf,ζc]at h;obtain⟨d,hd,rfl,rfl⟩:=h;obtain⟨a,b,B,G,rfl⟩:=vJ g;refine⟨_k,λv w=>?_⟩;(cases b<;>simp only[bT]at w<;>first|simp at w;done|skip);simp only[bP,B,G,j,hd];unfold Ad at w;exact w
  simp at h
 |index t x i=>
  simp only[resolve]at h;split at h
  .rename_i j;simp only[ζa,ζc]at h;obtain⟨rfl,rfl⟩:=h;obtain⟨a,b,B,G,rfl⟩:=vJ g;refine⟨_k,λv w=>?_⟩;(cases a<;>cases b<;>simp only[bT]at w<;>first|simp at w;done|skip);simp only[bP,B,G,j];exact w
  .rename_i len e j;simp only[ζf,ζc]at h;obtain⟨d,hd,rfl,rfl⟩:=h;obtain⟨a,b,B,G,rfl⟩:=vJ g;refine⟨_k,λv w=>?_⟩;(cases a<;>cases b<;>simp only[bT]at w<;>first|simp at w;done|skip);simp only[bP,B,G,j,hd];exact w
  simp at h
 |slice t x lo hi mx=>
  simp only[resolve]at h;split at h
  .rename_i j;simp only[ζa,ζc]at h;obtain⟨rfl,rfl⟩:=h;obtain⟨a,bs,B,G,rfl⟩:=ki g;refine⟨_k,λv w=>?_⟩;(cases a<;>simp only[bT]at w<;>first|simp at w;done|skip);have⟨⟨l,h⟩,X,w⟩:=ζg.1 w;have⟨n,b__⟩:=L7 G X;have P:lZ F J=M J:=rfl;simp only[bP,B,j,n,b__,P];exact w
  rename_i e j;simp only[ζf,ζc]at h;obtain⟨d,hd,rfl,rfl⟩:=h;obtain⟨a,bs,B,G,rfl⟩:=ki g;refine⟨_k,λv w=>?_⟩;simp only[bT]at w;have⟨⟨l,h⟩,X,w⟩:=ζg.1 w;have⟨n,b__⟩:=L7 G X;have P:lZ F J=M J:=rfl;simp only[bP,B,j,n,b__,P,hd];cases a<;>exact w
  .rename_i e m j;split at h
   .rename_i d hh hd;simp only[ζa,ζc]at h;obtain⟨rfl,rfl⟩:=h;obtain⟨a,b,c,B,G,o,rfl⟩:=Mm g;refine⟨_k,λv w=>?_⟩;(cases b<;>cases c<;>simp only[bT]at w<;>first|simp at w;done|skip);rename_i k1 n1 k2 n2;split at w;rename_i T;simp only[ζh,_i]at T;obtain⟨⟨n,rfl⟩,rfl⟩:=T;have m1:lZ F J=M J:=rfl;have m2:lZ F (M hh)=M (M 0):=(by simp[lZ,G]);have m3:lZ F (M m)=M (M 0):=(by simp[lZ,o]);simp only[bP,B,j,m1,m2,m3,hd];cases a<;>simp[PO]at n<;>exact w;simp at w
   simp at h
  simp at h
 |build t ps=>
  simp only[resolve]at h;split at h;rename_i d hd;split at h;rename_i fs j;split at h;rename_i pl ad;simp only[ζf,ζc]at h;obtain⟨q,hq,rfl,rfl⟩:=h;refine⟨_k,λv w=>?_⟩;simp only[bT,ζf]at w;obtain⟨cs,Y,rfl⟩:=w;have⟨ws,R,w2⟩:=KI (λi=>pl[i]?) _ q vs _ cs hq g Y;simp only[bP,hd,R,j,ad,w2,A?];simp at h;rename_i len e j;simp only[ζf,ζc]at h;obtain⟨A,ae,rfl,rfl⟩:=h;refine⟨_k,λv w=>?_⟩;simp only[bT,ζf]at w;obtain⟨cs,Y,rfl⟩:=w;have⟨ws,R,w2⟩:=KI (λi=>M (i*A.size,A.size)) ps.toList (ps.toList.map λq=>(q.1*A.size,A.size)) vs _ cs (by
   generalize ps.toList=l
   induction l with
   |nil=>rfl|cons x l ih=>simp[List.mapM_cons,ih]) g Y
  simp only[bP,hd,R,j,ae,w2,A?];simp at h;simp at h
 |makeFunc f a b=>cases f with|func f=>simp only[resolve,ζf,ζc]at h;obtain⟨s,a__,rfl,rfl⟩:=h;obtain⟨az,bs,B,G,rfl⟩:=PJ g;refine⟨_k,λv w=>?_⟩;simp only[bT,ζa]at w;subst w;simp only[bP,B,G,hN f s a__];rw[<-PF B];simp|_=>simp[resolve]at h
 |extract x i=>simp only[resolve,ζa,ζc]at h;obtain⟨rfl,rfl⟩:=h;obtain⟨a,B,rfl⟩:=qV g;refine⟨_k,λv w=>?_⟩;(cases a<;>simp only[bT]at w<;>first|simp at w;done|skip);simp only[bP,B];exact w|load t x=>simp only[resolve,ζf,ζc]at h;obtain⟨d,hd,rfl,rfl⟩:=h;obtain⟨a,B,rfl⟩:=qV g;exact⟨rfl,λH v w=>by simp only[eu,hd,B];exact w⟩|lookup t m k ok=>simp only[resolve]at h;split at h;rename_i kt et j;split at h;rename_i d kk hd L;simp only[ζf,ζc]at h;obtain⟨z,c__,rfl,rfl⟩:=h;obtain⟨a,b,B,G,rfl⟩:=vJ g;refine⟨_k,λH v w=>?_⟩;simp only[fS]at w;split at w;rename_i aa d__;split at w;rename_i Q;simp only[eu,j,B,G,hd,d__,Df L Q,N',c__];split at w;(next W=>rw[W];exact w);(next W=>rw[W];exact w);simp at w;simp at w;simp at w;simp at h;simp at h|alloc t=>simp only[resolve,ζf,ζc]at h;obtain⟨d,hd,rfl,rfl⟩:=h;have:=tE g;subst this;exact⟨rfl,λx w=>by simpa[nW,fG,hd]using w⟩|box t x=>simp only[resolve,ζa,ζc]at h;obtain⟨rfl,rfl⟩:=h;obtain⟨a,B,rfl⟩:=qV g;exact⟨rfl,λx w=>by simp only[fG,B];exact w⟩|makeSlice t l c=>
  simp only[resolve]at h;split at h
  .rename_i e j;split at h
   .rename_i d hd;split at h
    .rename_i S;simp only[ζa,ζc]at h;obtain⟨rfl,rfl⟩:=h;obtain⟨a,b,B,G,rfl⟩:=vJ g;refine⟨_k,λx w=>?_⟩;(cases a<;>cases b<;>simp only[nW]at w<;>first|simp at w;done|skip);rename_i k1 n1 k2 n2;split at w;(next o=>simp only[fG,j,B,G,hd];rw[L' ⟨o.1,o.2.1,o.2.2.1,o.2.2.2.1,o.2.2.2.2,S⟩];exact w);simp at w
    simp at h
   simp at h
  simp at h
 |buildSlice t len ps=>simp only[resolve]at h;split at h;rename_i e j;split at h;rename_i d hd;split at h;rename_i S;simp only[ζa,ζc]at h;obtain⟨rfl,rfl⟩:=h;refine⟨_k,λx w=>?_⟩;have c__:=RU _ _ g;simp only[nW]at w;split at w;simp only[fG,j,c__,hd,L' S];exact w;simp at w;simp at h;simp at h;simp at h|makeMap t r=>cases r with|none=>simp only[resolve,ζa,ζc]at h;obtain⟨rfl,rfl⟩:=h;have:=tE g;subst this;exact⟨rfl,λx w=>by simpa[nW,fG]using w⟩|some r=>simp[resolve]at h
 |store t p x=>simp only[resolve,ζf,ζc]at h;obtain⟨d,hd,rfl,rfl⟩:=h;obtain⟨a,b,B,G,rfl⟩:=vJ g;refine⟨_k,λH v w=>?_⟩;(cases a<;>simp only[fI]at w<;>first|simp at w;done|skip);simp only[cH,hd,B,G];exact w|mapUpdate t m k x=>
  simp only[resolve]at h;split at h
  .rename_i kt et j;simp only[ζf,ζc]at h;obtain⟨kk,L,rfl,rfl⟩:=h;obtain⟨a,b,c,B,G,o,rfl⟩:=Mm g;refine⟨_k,λH v w=>?_⟩;(cases a<;>simp only[fI]at w<;>first|simp at w;done|skip);simp only[cH,j,B,G,o];split at w;rename_i aa d__;split at w;(next Q=>rw[d__];simp only[Df L Q,N'];exact w);simp at w;simp at w
  simp at h
 |insert t m k x=>
  simp only[resolve]at h;split at h
  .rename_i kt et j;simp only[ζf,ζc]at h;obtain⟨kk,L,rfl,rfl⟩:=h;obtain⟨a,b,c,B,G,o,rfl⟩:=Mm g;refine⟨_k,λH v w=>?_⟩;(cases a<;>simp only[fI]at w<;>first|simp at w;done|skip);simp only[cH,j,B,G,o];split at w;rename_i aa d__;split at w;(next Q=>rw[d__];simp only[Df L Q,N'];exact w);simp at w;simp at w
  simp at h
 |call c=>
  have⟨callee,args,aj⟩:=c
  cases callee with
  |value f=>simp only[resolve,ζa,ζc]at h;obtain⟨rfl,rfl⟩:=h;obtain⟨a,az,B,has,rfl⟩:=ki g;refine⟨_k,a,az,_k,?_⟩;simp only[lS,B,has];cases a<;>rfl|builtin b=>
   cases b with
   |append=>simp only[resolve]at h;split at h;rename_i t t' s x I C;split at h;rename_i e e' j Z;split at h;rename_i d hd;split at h;rename_i S;simp only[ζa,ζc]at h;obtain⟨rfl,rfl⟩:=h;obtain⟨a,b,B,G,rfl⟩:=vJ g;refine⟨_k,λH v w=>?_⟩;have D:f_ F args.toList=M [a,b]:=(by rw[C];exact g);simp only[cH,I,D,j,Z,hd];simp only[fI]at w;split at w;(next n b__=>rw[n,b__];exact w);rename_i xs ys af n b__;rw[n,b__];split at w;rename_i ah;simp only[L' (show _l xs+_l ys<=2147483648/\d.bytes<=4096/\0<d.bytes from⟨ah,S⟩)];(cases ys with|nil=>exact _e _k af|cons y ys=>exact w);simp at w;simp at w;simp at h;simp at h;rename_i e kk j Z;simp only[ζf,ζc]at h;obtain⟨d,hd,rfl,rfl⟩:=h;obtain⟨a,b,B,G,rfl⟩:=vJ g;refine⟨_k,λH v w=>?_⟩;have D:f_ F args.toList=M [a,b]:=(by rw[C];exact g);simp only[cH,I,D,j,Z,hd];exact w;simp at h;simp at h|cap=>
    simp only[resolve]at h;split at h
    .rename_i t x I C;split at h
     .rename_i e j;simp only[ζa,ζc]at h;obtain⟨rfl,rfl⟩:=h;obtain⟨a,B,rfl⟩:=qV g;have D:f_ F args.toList=M [a]:=(by rw[C];exact g);refine⟨_k,λx w=>?_⟩;simp only[bP,I,D,j];simp only[bT]at w;cases a<;>simp only[LK]at w<;>first|(simp at w;done)|exact w
     simp at h
    simp at h
   |clear=>simp only[resolve]at h;split at h;rename_i t x I C;split at h;rename_i e j;simp only[ζf,ζc]at h;obtain⟨d,hd,rfl,rfl⟩:=h;obtain⟨a,B,rfl⟩:=qV g;have D:f_ F args.toList=M [a]:=(by rw[C];exact g);refine⟨_k,λH v w=>?_⟩;simp only[cH,I,D,j,hd];exact w;simp at h;simp at h|len=>
    simp only[resolve]at h;split at h
    .rename_i t x I C;split at h
     .rename_i j;simp only[ζa,ζc]at h;obtain⟨rfl,rfl⟩:=h;obtain⟨a,B,rfl⟩:=qV g;have D:f_ F args.toList=M [a]:=(by rw[C];exact g);refine⟨_k,λv w=>?_⟩;(cases a<;>simp only[bT]at w<;>first|simp at w;done|skip);simp only[bP,D,I,j];exact w
     rename_i e j;simp only[ζa,ζc]at h;obtain⟨rfl,rfl⟩:=h;obtain⟨a,B,rfl⟩:=qV g;have D:f_ F args.toList=M [a]:=by rw[C];exact g
     refine⟨_k,λv w=>?_⟩;simp only[bP,D,I,j];simp only[bT,qF]at w;cases a<;>simp at w⊢ <;>exact w;simp at h
    simp at h
   |max=>
    simp only[resolve]at h;split at h
    .rename_i x y C;simp only[ζa,ζc]at h;obtain⟨rfl,rfl⟩:=h;obtain⟨a,b,B,G,rfl⟩:=vJ g;have D:f_ F args.toList=M [a,b]:=(by rw[C];exact g);refine⟨_k,λv w=>?_⟩;(cases a<;>cases b<;>simp only[bT]at w<;>first|simp at w;done|skip);simp only[bP,D];exact w
    .rename_i x y z t C;simp only[ζa,ζc]at h;obtain⟨rfl,rfl⟩:=h;obtain⟨a,ak,B,b__,rfl⟩:=ki g;obtain⟨b,c,d,G,o,hd,rfl⟩:=Mm b__;have D:f_ F args.toList=M [a,b,c,d]:=(by rw[C];exact g);refine⟨_k,λv w=>?_⟩;(cases a<;>cases b<;>simp only[bT]at w<;>first|simp at w;done|skip);(cases c<;>cases d<;>simp only[bT]at w<;>first|simp at w;done|skip);simp only[bP,D];exact w
    simp at h
   |min=>
    simp only[resolve]at h;split at h
    .rename_i x y C;simp only[ζa,ζc]at h;obtain⟨rfl,rfl⟩:=h;obtain⟨a,b,B,G,rfl⟩:=vJ g;have D:f_ F args.toList=M [a,b]:=(by rw[C];exact g);refine⟨_k,λv w=>?_⟩;(cases a<;>cases b<;>simp only[bT]at w<;>first|simp at w;done|skip);simp only[bP,D];exact w
    simp at h
   |_=>simp[resolve]at h
  |_=>simp[resolve]at h
 |panic x=>simp only[resolve,ζa,ζc]at h;obtain⟨rfl,rfl⟩:=h;have:=tE g;subst this;exact⟨rfl,λx w=>by simp[bT]at w⟩|makeInterface t x=>simp only[resolve,ζa,ζc]at h;obtain⟨rfl,rfl⟩:=h;have:=tE g;subst this;exact⟨rfl,λx w=>by simp[bT]at w⟩|_=>simp[resolve]at h
end
structure Dp(c c':dR):Prop where
 lv:c.lv<=c'.lv
 go:∀x a H r,c x a H=some r->c' x a H=some r
section
variable{E:Env}{c c':dR}{n:Nat}{ops:QP}{F F':WP}{H H':bl}
def Mp{f:Y'}{args:So}{y:V}(a:cq c f args H=M y):∃az,borrows c.lv H args=M az:=by
 unfold cq at a;split at a;next az h=>exact⟨az,h⟩
 cases a
def GM(B:c.lv<=c'.lv){f:Y'}(h:∀a H r,c (.fn f) a H=M r->c' (.fn f) a H=M r){args:So}{y:V}(b:cq c f args H=M y):cq c' f args H=M y:=by
 unfold cq at b⊢;split at b;rename_i az u;rw[vI B u];split at b;rename_i d;simp only;rw[h _ _ _ d];split at b;next w=>simp only;rw[u7 B w];exact b
 cases b;simp at b;simp at b
def qJ(h:Dp c c'){f:Y'}{args:So}{y:V}(a:cq c f args H=M y):cq c' f args H=M y:=GM h.lv (λ_ _ _=>h.go _ _ _ _) a
def o8(B:c.lv<=c'.lv){f:Y'}{args:So}{y:V}(a:cq c f args H=M y):c_ (cA c'.lv H) args=c_ (cA c.lv H) args:=by have⟨az,h⟩:=Mp a;exact BU B h
def Gv(B:c.lv<=c'.lv){f:Y'}(h:∀a H r,c (.fn f) a H=M r->c' (.fn f) a H=M r){args:So}{r:V×bl}(b:om c f args H=M r):om c' f args H=M r:=by
 unfold om at b⊢;split at b;rename_i az u;rw[vI B u];split at b;next d=>simp only;rw[h _ _ _ d];exact b
 simp at b;simp at b
def KS(h:Dp c c'){f:Y'}{args:So}{r:V×bl}(a:om c f args H=M r):om c' f args H=M r:=Gv h.lv (λ_ _ _=>h.go _ _ _ _) a
def CJ(h:Dp c c'){f:Y'}{args:So}{r:V×bl}(a:iH E c f args H=M r):iH E c' f args H=M r:=by
 unfold iH at a⊢;split;next u=>rw[L' u]at a;exact KS h a
 rename_i u;rw[M' u]at a;exact h.go _ _ _ _ a
def Dj(T:c.lv<=c'.lv){f:Y'}{args:So}{y G:V}{b:Nat}(a:cq c f args (H.take b)=J)(B:cq c f args H=M y)(D:cq c' f args (H.take b)=M G):False:=by
 unfold cq at a B D;split at D;rename_i az d;split at B;rename_i I u;have e:=qS (λx y z k1 k2=>NP (H2:=H.take b) c.lv c'.lv x y z k1 k2 λid w=>by
  rw[D?]at w⊢;split at w
  next C=>rw[L' C]
  cases w) u d
 have g:borrows c.lv H args=M az:=vB (Ec c.lv) e;rw[g]at u;cases u;rw[show borrows c.lv (H.take b) args=M az from e]at a;simp only at a;rw[a]at B;simp at B;simp at B;simp at D
def SU(h:Dp c c'){place:aY (Nat×Nat)}{op:Op}{r:V×bl}(a:cZ E c ops place F H op=M r):cZ E c' ops place F H op=M r:=by
 unfold cZ at a⊢;split at a;exact a;exact a;exact a;exact a;split at a
 .rename_i f args B;split at a;rotate_left;cases a;rename_i C;rw[L' C];unfold eE at a⊢;split at a;rename_i d;rw[L' d];split at a;exact CJ h a;skip;split at a;(next z=>rw[L' z];exact CJ h a);simp at a;rename_i d;rw[M' d];split at a;skip;split at a;(next y u=>rw[qJ h u,o8 h.lv u];exact a);simp at a;rename_i b i;skip;split at a;(next y u=>rw[qJ h u,o8 h.lv u];exact a);rename_i w;split at a;rename_i z;split at a;rename_i y u;(cases D:cq c' f args (List.take b H)with|some G=>exact(Dj h.lv w u D).elim|none=>simp only[L' z,qJ h u,o8 h.lv u];exact a);simp at a;simp at a
 rename_i id args B;split at a;exact h.go _ _ _ _ a;skip;split at a;next z=>rw[L' z];exact h.go _ _ _ _ a
 simp at a;simp at a
def G9(h:Dp c c'){place:aY (Nat×Nat)}{o:Oper}{r:WP×bl}(a:iM E c n ops place o F H=M r):iM E c' n ops place o F H=M r:=by
 unfold iM at a⊢;split at a;rename_i u;rw[L' u];split at a;next v H1 hd=>rw[SU h hd];exact a
 simp at a;rename_i u;rw[M' u];exact a
def Eo(h:Dp c c'){r:WP×bl}:∀(l:QP){F:WP}{H:bl},oy E c n ops l F H=M r->oy E c' n ops l F H=M r
 |[],_,_,hi=>hi|o::l,F,H,hi=>by simp only[oy]at hi⊢;split at hi;(next F1 H1 B=>rw[G9 h B];exact Eo h l hi);simp at hi
def Ed(h:Dp c c'){j?:Nat}{r:WP×bl}:∀(l:ST){F:WP}{H:bl},lV E c n ops j? l F H=M r->lV E c' n ops j? l F H=M r
 |[],_,_,hi=>hi|i::l,F,H,hi=>by simp only[lV]at hi⊢;split at hi;split at hi;(next F1 H1 B=>rw[G9 h B];exact Ed h l hi);simp at hi;simp at hi
def Hz(h:Dp c c'){B:X'}{r:WP×bl}(a:lF E c n ops B F H=M r):lF E c' n ops B F H=M r:=by
 unfold lF at a⊢;split;rename_i hd;rw[L' hd]at a;split at a;next u=>rw[L' u];exact Ed h _ a
 simp at a;rename_i hd;rw[M' hd]at a;exact Eo h _ a
def B1{s d:WP->bl->aY (Out×WP×bl)}(h:∀F H r,s F H=M r->d F H=M r):∀(k B:Nat),k<=B->∀{F H r},mG s k F H=M r->mG d B F H=M r
 |0,_,_,F,H,r,hi=>by simp[mG]at hi|k+1,0,hk,F,H,r,hi=>c?|k+1,B+1,hk,F,H,r,hi=>by simp only[mG]at hi⊢;split at hi;(next F1 H1 T=>rw[h _ _ _ T];exact B1 h k B c? hi);rename_i D;rw[h _ _ _ hi];split;(next F1 H1 G=>cases G;exact _e hi (D _ _));rfl
def Cu(h:Dp c c'){lf B:Nat}(T:lf<=B)(ro:X')(f:Nat):∀(code:Code){F:WP}{H:bl}{r:Out×WP×bl},exec E c lf ro f code F H=M r->exec E c' B ro f code F H=M r:=by intro code;induction code with|skip=>intro F H r d;exact d|label l=>intro F H r d;exact d|region id ops m=>intro F H r d;simp only[exec,ζf]at d⊢;obtain⟨x,L,rfl⟩:=d;exact⟨x,Hz h L,rfl⟩|seq a b u z=>intro F H r d;simp only[exec]at d⊢;split at d;(next F1 H1 e=>rw[u e];exact z d);rename_i C;rw[u d];split;(next D=>cases D;exact _e d (C _ _));rfl|cond x a b u z=>intro F H r d;simp only[exec]at d⊢;split at d;rename_i t S;split at d;(next G=>subst G;simp only[N'];exact u d);rename_i G;rw[M' G];exact z d;simp at d|block id a I=>intro F H r d;simp only[exec]at d⊢;split at d;(next q F1 H1 e=>rw[I e];exact d);rename_i C;rw[I d];split;(next D=>cases D;exact _e d (C _ _ _));rfl|loop a I=>intro F H r d;simp only[exec]at d⊢;exact B1 (λF H r i=>I i) lf B T d|rangeFunc g ps o y _ _=>intro F H r d;simp only[exec]at d⊢;split at d;split at d;(next Q H1 j=>rw[h.go _ _ _ _ j];exact d);simp at d;simp at d|exit id=>intro F H r d;exact d|ret=>intro F H r d;exact d|scope a _=>intro F H r d;simp[exec]at d|goto l=>intro F H r d;simp[exec]at d|refuse w=>intro F H r d;simp[exec]at d
def Lg(E:Env):∀n,Dp (run E n) (run E (n+1)):=by intro n;induction n with|zero=>exact⟨b5 _,λx a H r h=>(by cases h)⟩|succ n u=>refine⟨b5 _,λx a H r h=>?_⟩;rw[Kd]at h⊢;cases x with|fn f=>rw[lI]at h⊢;split at h;rename_i i j;split at h;rename_i B;rw[L' B];split at h;simp at h;rename_i o F1 H1 C Q;rw[Cu u (b5 n) _ _ _ Q];(cases o with|exit id=>exact(C id Y).elim|norm=>exact h|ret=>exact h);simp at h;simp at h;split at h;(next D=>rw[L' D];exact FP u.lv (λg args y _ S=>qJ u S) h);rename_i D;rw[M' D];exact h|yld id=>rw[lI]at h⊢;split at h;rename_i b L;split at h;rename_i T;split at h;rename_i w;split at h;rename_i q H2 G;split at h;rename_i r2 I;split at h;rename_i z;split at h;(next o X m d=>simp only[L' w,Cu u (b5 n) _ _ _ G,I,z,Cu u (b5 n) _ _ _ d];exact h);simp at h;simp at h;simp at h;simp at h;simp at h;simp at h;simp at h
def qy(E:Env){n m:Nat}(h:n<=m):Dp (run E n) (run E m):=by induction h with|refl=>exact⟨y? _,λ_ _ _ _ h=>h⟩|step _ u=>exact⟨Nat.le_trans u.lv (Lg E _).lv,λx a H r h=>(Lg E _).go x a H r (u.go x a H r h)⟩
theorem qG(E:Env):∀n,(run E n).lv=n
 |0=>rfl|_+1=>rfl
end
def P6(P:Program)(f:Y'):aY FI:=_n (P.funcs[f]?) λfn=>fn.body.map λb=>⟨fn.ntmps,fn.results.toList,b⟩
def DW(P:Program):X':=P.funcs.toList.all λfn=> !(fn.name== "runtime.NumGoroutine")
def YL{P:Program}(h:DW P=U){f:Y'}{fi:FI}(B:P6 P f=M fi):∃fn,P.funcs[f]?=M fn/\fn.body=M fi.body/\fn.ntmps=fi.ntmps/\fn.results.toList=fi.results/\(fn.name== "runtime.NumGoroutine")=O:=by unfold P6 at B;have⟨fn,h1,w⟩:=ζg.1 B;obtain⟨b,z,rfl⟩:=ζf.1 w;refine⟨fn,h1,z,Y,Y,?_⟩;unfold DW at h;rw[List.all_eq_true]at h;have C:=h fn (by obtain⟨u,rfl⟩:=Array.getElem?_eq_some_iff.1 h1;exact Array.mem_toList_iff.2 (Array.getElem_mem u));simpa using C
def GQ(P:Program)(shut keep own:ST)(two:aX (Nat×Nat))(a:Y'->X')(known:Y'->So->aY V)(soft:ST:=[]):Env where
 tt:=zm P
 ft f:=if shut.contains f then J else P6 P f
 keep:=keep.contains
 own:=own.contains
 eqN t:=lk two t
 sort:=a
 known:=known
 soft:=soft.contains
def Ls{P:Program}{shut keep own:ST}{two:aX (Nat×Nat)}{a:Y'->X'}{known:Y'->So->aY V}{soft:ST}(h:DW P=U)(B:∀p∈two,zG P p.1 p.2):eX P (GQ P shut keep own two a known soft)where
 tt t d h:=h
 ft f w u:=by change(if shut.contains f then J else P6 P f)=M w at u;split at u;cases u;exact YL h u
 eqN t n z:=B (t,n) (SN z)
section
variable{P:Program}{I:cG}{μ:Mu}{H:bl}{w:World}{n:Nat}
variable{f A S e:Nat}{fn:Func}{bytes i1 i2 i3 i4 t1 t2 t6 t7:Nat}{p1 p2 p3 p4 p5 p6 p7:String}{e1 e2 e3 e4 e5 e6 e7:Array Edge}
end
end Go.VE
namespace Go.VE
variable[bZ]
variable{P:Program}
def KA(a:SW)(j:Nat):(ic a)[j]?=(a[j]?).map (Value.int _q):=by simp[ic]
def IY{i:W'}{a b:SW}{n:Nat}(G:W a=n)(g:W b=n)(c:zm P i=M ⟨1,8,[.int _q 0],.int _q⟩)(B:P.underlying i=M (.int _q))(d:Nat)(w:World):
 ∀(m k:Nat),k+m=n->(eqItems (d+1) i 1 (ic a) (ic b) (G' k m)).run P w=.ok (a.drop k==b.drop k) w
 |0,k,h=>by have f:a.drop k=[]:=List.drop_eq_nil_of_le c?;have I:b.drop k=[]:=List.drop_eq_nil_of_le c?;simp[eqItems,f,I]|m+1,k,h=>by have u:k<W a:=c?;have z:k<W b:=c?;have pa:(part i (ic a) (k*1)).run P w=.ok (.int _q a[k]) w:=uy c (by rw[KA,J'];simp[u]);have L:(part i (ic b) (k*1)).run P w=.ok (.int _q b[k]) w:=uy c (by rw[KA,J'];simp[z]);have q:(J! (d+1) i (.int _q a[k]) (.int _q b[k])).run P w=.ok (a[k]==b[k]) w:=El d _ _ B;have j:=IY G g c B d w m (k+1) c?;have C:=List.drop_eq_getElem_cons u;have D:=List.drop_eq_getElem_cons z;simp only[List.range'_succ,eqItems,z?,pa,L,q,x?];by_cases e:a[k]=b[k];rw[C,D,List.cons_beq_cons,e];simp only[beq_self_eq_true,Bool.not_true,Bool.true_and,_a,Bool.false_eq_true];exact j;have:(a[k]==b[k])=O:=(by simpa using e);rw[C,D,List.cons_beq_cons,this];simp only[Bool.not_false,N',Bool.false_and,N?]
def Na{i:W'}{a:SW}{n:Nat}(e:X')(G:W a=n)(b:zm P i=M ⟨1,8,[.int _q 0],.int _q⟩)(B:P.underlying i=M (.int _q))(d:Nat)(w:World):
 ∀(m k:Nat),k+m=n->(forIn (G' k m) PUnit.unit (λj(_:PUnit)=>do
  let s<-sizeOf i
  let v<-part i (ic a) (j*s)
  B! e (d+1) i v
  pure (ForInStep.yield PUnit.unit)):Sem PUnit).run P w=.ok PUnit.unit w
 |0,k,h=>f?|m+1,k,h=>by have D:k<W a:=c?;have pa:(part i (ic a) (k*1)).run P w=.ok (.int _q a[k]) w:=uy b (by rw[KA,J'];simp[D]);have z:(sizeOf i).run P w=.ok 1 w:=(sJ.P0 b).mw;have q:(B! e (d+1) i (.int _q a[k])).run P w=.ok () w:=CG d e _ B;have u:=Na e G b B d w m (k+1) c?;simp only[List.range'_succ,List.forIn_cons,z?,z,pa,q,x?,N?]at u⊢;exact u
def zG.arr{t i:W'}{n:Nat}(c:P.underlying t=M (.array n i))(d:zm P i=M ⟨1,8,[.int _q 0],.int _q⟩)(g:P.underlying i=M (.int _q))(T:P.eqGuardType P.depth t=O):zG P t n:=by
 have⟨Q,z,B,h,_⟩:=(sJ.P0 d).info;have C:P.cellsOf i=1:=by unfold Program.cellsOf;simp[B,h]
 have D:∀(w:World)(a b:SW),W a=n->W b=n->(O! t (.agg (ic a)) (.agg (ic b))).run P w=.ok (a==b) w:=by intro w a b G I;show(J! (9999+1) t _ _).run P w=_;rw[run_equalIn_array w 9999 _ _ c B,C,List.range_eq_range'];simpa using IY G I d g 9998 w n 0 c?
 have L:∀(op:BinOp)(p q:UV)(w:World)(u v:Array V'),(eqGuard op t p q (.agg u) (.agg v)).run P w=.ok () w:=by intro op p q w u v;unfold eqGuard;cases op<;>simp[z?,run_program,m4,T]
 refine⟨?_,?_,D,?_,⟨_,c,.inl ⟨_,_,Y⟩⟩⟩;intro w p q a b G I;rw[z?,L,x?];show(do pure (Value.bool (<-O! t (.agg (ic a)) (.agg (ic b)))):Sem V').run P w=_;rw[z?,D _ _ _ G I];rfl;intro w p q a b G I;rw[z?,L,x?];show(do pure (Value.bool (!(<-O! t (.agg (ic a)) (.agg (ic b))))):Sem V').run P w=_;rw[z?,D _ _ _ G I];rfl;intro w e a G;show(B! e (9999+1) t _).run P w=_;unfold B!;simp only[z?,dX c,x?];have:=Na e G d g 9998 w n 0 c?;simp only[Std.Legacy.Range.forIn_eq_forIn_range',Std.Legacy.Range.size,Nat.sub_zero,Nat.add_one_sub_one,Nat.div_one];rw[show(9998+1:Nat)=9999 from Y]at this;rw[this];rfl
end Go.VE
namespace Go.VE
variable[bZ]
variable{P:Program}
end Go.VE
namespace Go.VE
variable[bZ]
structure CR(E:Env)(c c':dR):Prop where
 lv:c.lv<=c'.lv
 TX:∀f args H y,E.keep f=false->cq c f args H=some y->cq c' f args H=some y
 dir:∀f args H r,E.keep f=true->c (.fn f) args H=some r->c' (.fn f) args H=some r
 yld:∀id args H r,c (.yld id) args H=some r->c' (.yld id) args H=some r
 rng:∀f args H r,H≠[]->c (.fn f) args H=some r->c' (.fn f) args H=some r
section
variable{E:Env}{c c':dR}{n:Nat}{ops:QP}{F F':WP}{H H':bl}
def NH(h:CR E c c'){f:Y'}{args:So}{r:V×bl}(a:E.keep f=U)(b:om c f args H=M r):om c' f args H=M r:=Gv h.lv (λ_ _ _=>h.dir _ _ _ _ a) b
def EC(h:CR E c c'){f:Y'}{args:So}{r:V×bl}(b:E.keep f=U)(a:iH E c f args H=M r):iH E c' f args H=M r:=by
 unfold iH at a⊢;split;next u=>rw[L' u]at a;exact NH h b a
 rename_i u;rw[M' u]at a;exact h.dir _ _ _ _ b a
def Eg{place:aY (Nat×Nat)}{f:Y'}(h:mR E ops place f=U):E.keep f=U:=by unfold mR at h;grind
def CR.any(h:CR E c c'){f:Y'}{args:So}{H:bl}{y:V}(a:cq c f args H=M y):cq c' f args H=M y:=by cases b:E.keep f with|false=>exact h.TX _ _ _ _ b a|true=>exact GM h.lv (λ_ _ _=>h.dir _ _ _ _ b) a
def WH(h:CR E c c'){place:aY (Nat×Nat)}{op:Op}{r:V×bl}(a:cZ E c ops place F H op=M r):cZ E c' ops place F H op=M r:=by
 unfold cZ at a⊢;split at a;omega;omega;omega;omega;split at a
 .rename_i f args C;split at a;rotate_left;cases a;rename_i B;rw[L' B];unfold eE at a⊢;split at a;rename_i d;rw[L' d];split at a;exact EC h (Eg d) a;split at a;(next z=>rw[L' z];exact EC h (Eg d) a);grind;rename_i d;rw[M' d];split at a;split at a;(next y u=>rw[h.any u,o8 h.lv u];exact a);grind;rename_i b i;split at a;(next y u=>rw[h.any u,o8 h.lv u];exact a);rename_i w;split at a;rename_i z;split at a;rename_i y u;(cases D:cq c' f args (List.take b H)with|some G=>exact(Dj h.lv w u D).elim|none=>simp only[L' z,h.any u,o8 h.lv u];exact a);grind;grind
 split at a;exact h.yld _ _ _ _ a;split at a;next z=>rw[L' z];exact h.yld _ _ _ _ a
 grind;grind
def IP(h:CR E c c'){place:aY (Nat×Nat)}{o:Oper}{r:WP×bl}(a:iM E c n ops place o F H=M r):iM E c' n ops place o F H=M r:=by
 unfold iM at a⊢;split at a;rename_i u;rw[L' u];split at a;next v H1 hd=>rw[WH h hd];omega
 grind;grind
def GC(h:CR E c c'){r:WP×bl}:∀(l:QP){F:WP}{H:bl},oy E c n ops l F H=M r->oy E c' n ops l F H=M r
 |[],_,_,hi=>hi|o::l,F,H,hi=>by simp[oy]at hi⊢;split at hi;(next F1 H1 B=>rw[IP h B];exact GC h l hi);grind
def G5(h:CR E c c'){j?:Nat}{r:WP×bl}:∀(l:ST){F:WP}{H:bl},lV E c n ops j? l F H=M r->lV E c' n ops j? l F H=M r
 |[],_,_,hi=>hi|i::l,F,H,hi=>by simp[lV]at hi⊢;split at hi;split at hi;(next F1 H1 B=>rw[IP h B];exact G5 h l hi);grind;grind
def J9(h:CR E c c'){B:X'}{r:WP×bl}(a:lF E c n ops B F H=M r):lF E c' n ops B F H=M r:=by
 unfold lF at a⊢;split;rename_i hd;rw[L' hd]at a;split at a;next u=>rw[L' u];exact G5 h _ a
 grind;rename_i hd;rw[M' hd]at a;exact GC h _ a
def E9(h:CR E c c'){lf B:Nat}(G:lf<=B)(ro:X')(e:Nat):∀(code:Code){F:WP}{H:bl}{r:Out×WP×bl},exec E c lf ro e code F H=M r->exec E c' B ro e code F H=M r:=by intro code;induction code with|skip=>intro F H r d;exact d|label l=>intro F H r d;exact d|region id ops C=>intro F H r d;simp only[exec,ζf]at d⊢;obtain⟨x,I,rfl⟩:=d;exact⟨x,J9 h I,rfl⟩|seq a b u z=>intro F H r d;simp[exec]at d⊢;grind|cond x a b u z=>intro F H r d;simp[exec]at d⊢;grind|block id a D=>intro F H r d;simp[exec]at d⊢;grind|loop a D=>intro F H r d;exact B1 (λF H r f=>D f) lf B G d|rangeFunc g ps L m _ _=>intro F H r d;simp[exec]at d⊢;split at d;split at d;(next j H1 i=>rw[h.rng _ _ _ _ f? i];omega);grind;grind|exit id=>intro F H r d;exact d|ret=>intro F H r d;exact d|scope a _=>intro F H r d;simp[exec]at d|goto l=>intro F H r d;simp[exec]at d|refuse w=>intro F H r d;simp[exec]at d
def C2(h:CR E c c'){n m:Nat}(B:n<=m){x:Callee}{a:So}{r:V×bl}(b:lI E c n x a H=M r):lI E c' m x a H=M r:=by cases x with|fn f=>rw[lI]at b⊢;split at b;split at b;rename_i G;split at b;simp_all;rename_i o F1 H1 I i;rw[E9 h B _ _ _ i];grind;grind;grind;split at b;(next L=>rw[L' L];exact FP h.lv (λg args y d j=>h.TX _ _ _ _ d j) b);grind|yld id=>rw[lI]at b⊢;split at b;split at b;split at b;rename_i u;split at b;rename_i Q H2 z;split at b;rename_i r2 C;split at b;rename_i w;split at b;(next o S T D=>simp only[L' u,E9 h B _ _ _ z,C,w,E9 h B _ _ _ D];omega);grind;grind;grind;grind;grind;grind;grind
mutual
def V.same:Nat->V->V->X'
 |0,_,_=>O|_+1,.bool a,.bool b=>a==b|_+1,.int k a,.int l b=>_r (k=l)&&_r (a=b)|_+1,.str a,.str b=>_r (a.data.toList=b.data.toList)|_+1,.bN,.bN=>U|_+1,.dH,.dH=>U|_+1,.jt,.jt=>U|_+1,.iE,.iE=>U|_+1,.uO,.uO=>U|n+1,.agg a,.agg b=>V.rT n a b|n+1,.tup a,.tup b=>V.rT n a b|n+1,.fptr a,.fptr b=>V.rT n a b|n+1,.fsl e a,.fsl B b=>beq e B&&V.Cz n a b|n+1,.clo f a b,.clo D a' G=>beq f D&&V.rT n a a'&&V.rT n b G|_+1,_,_=>O
def V.rT:Nat->So->So->X'
 |0,_,_=>O|_+1,[],[]=>U|n+1,a::r,b::s=>V.same n a b&&V.rT n r s|_+1,_,_=>O
def V.Cz:Nat->S'->S'->X'
 |0,_,_=>O|_+1,[],[]=>U|n+1,a::r,b::s=>V.rT n a b&&V.Cz n r s|_+1,_,_=>O
end
def YR:∀n,(∀a b,V.same n a b=U->a=b)/\(∀a b,V.rT n a b=U->a=b)/\(∀a b,V.Cz n a b=U->a=b):=by
 intro n
 induction n with
 |zero=>exact⟨λa b h=>by simp[V.same]at h,λa b h=>by simp[V.rT]at h,λa b h=>by simp[V.Cz]at h⟩|succ n u=>
  have⟨i1,i2,i3⟩:=u;refine⟨λa b h=>?_,λa b h=>?_,λa b h=>?_⟩
  .cases a<;>cases b<;>simp only[V.same,ζh,_g,Bool.false_eq_true]at h<;>first|rfl|grind|skip
   all_goals first
    |grind|grind|grind|(rw[Nat.eq_of_beq_eq_true h.1,i3 _ _ h.2])|(rw[Nat.eq_of_beq_eq_true h.1.1,i2 _ _ h.1.2,i2 _ _ h.2])|(congr 1;exact ByteArray.ext (ext' h))
  .cases a<;>cases b<;>simp[V.rT]at h<;>first|rfl|grind|grind
  cases a<;>cases b<;>simp[V.Cz]at h<;>first|rfl|grind|grind
structure gA where
 f:FuncId
 az:List V
 y:V
def BS:aX gA->Y'->So->aY V
 |[],_,_=>J|k::r,f,az=>bif beq k.f f&&V.rT 1000 k.az az then M k.y else BS r f az
def EH:∀{l:aX gA}{f:Y'}{az:So}{y:V},BS l f az=M y->∃k∈l,k.f=f/\k.az=az/\k.y=y
 |[],_,_,_,h=>by simp[BS]at h|k::r,f,az,y,h=>by unfold BS at h;cases B:beq k.f f&&V.rT 1000 k.az az with|true=>simp only[ζh]at B;exact⟨k,F! ..,Nat.eq_of_beq_eq_true B.1,(YR 1000).2.1 _ _ B.2,h?⟩|false=>rw[B]at h;have⟨q,a,D⟩:=EH h;grind
def Kb(E:Env)(l:aX gA)(c:dR)(n:Nat):Callee->So->bl->aY (V×bl)
 |.fn f,az,[]=>match BS l f az with
  |some y=>M (y,[])|none=>lI E c n (.fn f) az []
 |x,az,H=>lI E c n x az H
def runM(E:Env)(l:aX gA):Nat->dR
 |0=>⟨0,λ_ _ _=>J⟩|n+1=>⟨n+1,Kb E l (runM E l n) n⟩
def Zi(E:Env)(l:aX gA):∀n,(runM E l n).lv=n
 |0=>rfl|_+1=>rfl
def TW{l:aX gA}{n:Nat}{x:Callee}{a:So}{H:bl}:runM E l (n+1) x a H=Kb E l (runM E l n) n x a H:=rfl
def zi(E:Env)(n:Nat)(k:gA):Prop:=∃r H1,run E n (.fn k.f) k.az []=M (r,H1)/\borrow n H1 r=M k.y
structure iC(E:Env)(k:gA):Prop where
 keep:E.keep k.f=false
 cl:k.y.closed=true
 at_:∃n,zi E n k
def zi.le{n m:Nat}{k:gA}(h:zi E n k)(B:n<=m):zi E m k:=by have⟨r,H1,a,u⟩:=h;exact⟨r,H1,(qy E B).go _ _ _ _ a,u7 B u⟩
def C5:∀{l:aX gA},(∀k∈l,iC E k)->∃N,∀k∈l,zi E N k
 |[],_=>⟨0,f?⟩|k::r,h=>by obtain⟨N,B⟩:=C5 (λq a=>h q (B? _ a));obtain⟨n,u⟩:=(h k (F! ..)).at_;refine⟨max N n,λq a=>?_⟩;rcases mem_cons.1 a with rfl|a;exact u.le (Nat.le_max_right ..);exact(B q a).le (Nat.le_max_left ..)
def Da{l:aX gA}{x:Callee}{az:So}(h:H≠[]\/(∃id,x=.yld id)\/∃f,x=.fn f/\BS l f az=J):runM E l (n+1) x az H=lI E (runM E l n) n x az H:=by
 rcases h with h|⟨id,rfl⟩|⟨f,rfl,h⟩;cases x with|yld id=>rfl|fn f=>cases H with|nil=>exact _e Y h|cons a r=>rfl
 rfl;cases H with|nil=>rw[TW,Kb,h]|cons a r=>rfl
def Pc{l:aX gA}{N:Nat}(D:∀k∈l,iC E k)(G:∀k∈l,zi E N k):∀n,CR E (runM E l n) (run E (N+n)):=by intro n;induction n with|zero=>refine⟨Nat.zero_le _,λf args H y _ h=>?_,λf args H r _ h=>(by cases h),λid args H r h=>(by cases h),λf args H r _ h=>(by cases h)⟩;unfold cq at h;split at h;cases h;cases h|succ n I=>have up:∀{x:Callee}{az:So}{H:bl}{r:V×bl},lI E (runM E l n) n x az H=M r->run E (N+(n+1)) x az H=M r:=λh=>(by rw[show N+(n+1)=(N+n)+1 from Y,Kd];exact C2 I (C! ..) h);have w:(runM E l (n+1)).lv<=(run E (N+(n+1))).lv:=(by rw[Zi,qG];exact C! ..);refine⟨w,λf args H y b h=>?_,λf args H r b h=>?_,λid args H r h=>?_,λf args H r B h=>?_⟩;unfold cq at h⊢;split at h;rename_i az c;rw[vI w c];split at h;rename_i r H1 a;(cases z:BS l f az with|none=>rw[Da (.inr (.inr ⟨f,Y,z⟩))]at a;simp only;rw[up a];split at h;(next Q g=>simp only;rw[u7 w g];exact h);cases h|some S=>rw[TW,Kb,z]at a;obtain⟨rfl,rfl⟩:=a;obtain⟨k,u,rfl,rfl,rfl⟩:=EH z;have ok:=D k u;have⟨r1,H2,d,L⟩:=(G k u).le (Nat.le_add_right N (n+1));rw[kT _ _ ok.cl]at h;simp only[d,qG,L];exact h);cases h;cases h;by_cases z:H≠[]\/(∃id,(Callee.fn f)=.yld id)\/∃C,Callee.fn f=.fn C/\BS l C args=J;rw[Da z]at h;exact up h;(cases i:BS l f args with|none=>grind|some y=>obtain⟨k,u,rfl,_,_⟩:=EH i;rw[(D k u).keep]at b;cases b);exact up h;rw[Da (.inl B)]at h;exact up h
def abE(E:Env)(l:aX gA)(n:Nat)(k:gA):aY V:=
 match lI E (runM E l n) n (.fn k.f) k.az []with
 |some (r,H1)=>borrow n H1 r|none=>J
def jo{l:aX gA}(B:∀k∈l,iC E k){k:gA}(h:(abE E l n k,k.y.closed,E.keep k.f)=(M k.y,U,O)):iC E k:=by simp at h;obtain⟨N,u⟩:=C5 B;refine⟨h.2.2,h.2.1,N+n+1,?_⟩;have a:=h.1;unfold abE at a;split at a;rename_i r H1 w;refine⟨r,H1,?_,u7 c? a⟩;exact C2 (Pc B u n) (C! ..) w;grind
def XX(E:Env)(l:aX gA)(n:Nat)(f:Y')(az:So):X':=
 match lI E (runM E l n) n (.fn f) az []with
 |some (.bool b,_)=>b|_=>O
def Rr{l:aX gA}(B:∀k∈l,iC E k){f:Y'}{az:So}(h:XX E l n f az=U):∃n H1,run E n (.fn f) az []=M (.bool U,H1):=by
 obtain⟨N,u⟩:=C5 B;unfold XX at h;split at h;next b H1 w=>subst h;exact⟨N+n+1,H1,(C2 (Pc B u n) (C! ..) w)⟩
 simp_all
end
end Go.VE
