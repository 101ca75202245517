/- Engine, runs. -/
import Derived.Shelf.SlSortCmp.Kit1
import Derived.Sort.AssemblyPlain
import Derived.RangeFuncLeaves
import Derived.Laws.StructEq
import Derived.ChangeKeysEq
import Derived.Test.YtddlogilhmloeadGreatDoorV1
set_option linter.all false
open Option renaming some→M,some→_h,none→G,none→_n,bind→H,bind→_l
open Bool renaming true→O,true→_k,false→U,false→_m
open Decidable renaming decide→_p
open List renaming length→W,length→_j
open Go.IntKind renaming i64→Z,i64→_o
open List renaming finRange→V!,forIn_cons→v6,getElem?_map→Q?,getElem?_take→I?,mem_cons_of_mem→C?,mem_cons_self→Q!,range'→C',replicate→w?
open Nat renaming le_add_left→x!,le_refl→z?,le_succ→b5,mul_one→H3
open Option renaming map_some→B?
open Go.Sem renaming run_bind→A?,run_pure→N?
open Go.Result renaming andThen→W!,andThen_ok→x?
open Go.Instr renaming checkKey→w!,sliceAt→i6,storeAt→G',sureAddr→f8
open Go.Op renaming bytesLess→U!,equal→N!,equalIn→H!
open BitVec renaming ofInt→c7
open Go.Builtin renaming firstCells→q!
open List(length length_eq_one_iff mem_cons mem_map)
open Nat(beq)
open Nat(le)
open Nat(le)
open Nat(le)
open Go.Instr(loadAt)
open Go.Op(eqItems)
open Nat(le)
open Go.Builtin(copy_ lenOf)
namespace Go.VE
variable[b8]
theorem wq{f g:V->aY V}(h:∀x y,f x=M y->g x=M y):∀{l:So}{r:So},jw f l=M r->jw g l=M r
 |[],_,hr=>hr|x::l,r,hr=>by simp only[jw]at hr⊢;split at hr;(next y s a B=>rw[h _ _ a,wq h B];exact hr);cases hr
def Kq{f g:V->aY V}(h:∀x y,f x=M y->g x=M y):∀{l:S'}{r:S'},nW f l=M r->nW g l=M r
 |[],_,hr=>hr|x::l,r,hr=>by simp only[nW]at hr⊢;split at hr;(next y s a B=>rw[wq h a,Kq h B];exact hr);cases hr
def Mx{f g:V->aY V}(h:∀x y,f x=M y->g x=M y):∀{l:aX (V×V)}{r:aX (V×V)},nQ f l=M r->nQ g l=M r
 |[],_,hr=>hr|(k,x)::l,r,hr=>by simp only[nQ]at hr⊢;split at hr;(next y s u a B D=>rw[h _ _ a,h _ _ B,Mx h D];exact hr);cases hr
theorem NJ{H:bl}:∀(n:Nat)(x y:V),borrow n H x=M y->borrow (n+1) H x=M y:=by intro n;induction n with|zero=>grind[borrow,kK]|succ n u=>intro x y h;unfold borrow at h⊢;split;grind;rename_i d;rw[K' d]at h;cases x with|hsl id es off len=>simp only at h⊢;split at h;split at h;(next q=>rw[J0 q];have⟨r,c,w⟩:=ζf.1 h;rw[Kq u c];grind);cases h;cases h|hptr id el off=>simp only at h⊢;split at h;split at h;split at h;(next q=>rw[J0 q];have⟨r,c,w⟩:=ζf.1 h;rw[wq u c];grind);cases h;cases h;cases h|hmap id=>simp only at h⊢;split at h;have⟨r,c,w⟩:=ζf.1 h;rw[Mx u c];grind;cases h|clo f a b=>grind[wq]|agg cs=>simp only at h⊢;have⟨r,c,w⟩:=ζf.1 h;rw[wq u c];grind|tup cs=>simp only at h⊢;have⟨r,c,w⟩:=ζf.1 h;rw[wq u c];grind|_=>cases h
def u9{H:bl}{n m:Nat}(h:n<=m){x y:V}(B:borrow n H x=M y):borrow m H x=M y:=by induction h with|refl=>exact B|step _ u=>grind[NJ]
def vE{H:bl}{n m:Nat}(h:n<=m){l r:So}(B:borrows n H l=M r):borrows m H l=M r:=wq (λ_ _=>u9 h) B
def EE{f g:V->ST}:∀{l:So},(∀x∈l,f x=g x)->dy f l=dy g l
 |[],_=>rfl|x::l,h=>by simp only[dy];rw[h x (Q! ..),EE λy B=>h y (C? _ B)]
theorem uK{f:V->aY V}:∀{l r:So},jw f l=M r->∀x∈l,∃y,f x=M y
 |[],_,_,x,b=>by cases b|a::l,r,h,x,b=>by simp only[jw]at h;split at h;rename_i y s c B;rcases mem_cons.1 b with rfl|b;grind;exact uK B x b;cases h
theorem ID{f:V->aY V}:∀{l r:S'},nW f l=M r->∀c∈l,∀x∈c,∃y,f x=M y
 |[],_,_,x,B=>by cases B|a::l,r,h,c,b=>by simp only[nW]at h;split at h;rename_i y s d D;rcases mem_cons.1 b with rfl|b;exact uK d;exact ID D c b;cases h
theorem De{f:V->aY V}:∀{l r:aX (V×V)},nQ f l=M r->∀c∈l,(∃y,f c.1=M y)/\∃y,f c.2=M y
 |[],_,_,x,B=>by cases B|(k,a)::l,r,h,c,b=>by simp only[nQ]at h;split at h;rename_i y s u d J D;rcases mem_cons.1 b with rfl|b;grind;exact De D c b;cases h
def O1{H:bl}:∀(n:Nat)(x y:V),borrow n H x=M y->cE (n+1) H x=cE n H x:=by
 intro n
 induction n with
 |zero=>simp_all[borrow,cE]|succ n B=>
  intro x y h;have u:∀l:So,(∀x∈l,∃y,borrow n H x=M y)->dy (cE (n+1) H) l=dy (cE n H) l:=λl C=>EE λx z=>by grind
  unfold borrow at h;rw[cE.eq_def (n+1+1),cE.eq_def (n+1)];simp only;split;rfl;rename_i d;rw[K' d]at h
  cases x with
  |hsl id es off len=>grind[ζf,List.mem_flatten,ID]|hptr id el off=>grind[ζf,uK]|hmap id=>
   simp only at h⊢;split at h;rename_i w e;have⟨r,g,D⟩:=ζf.1 h;skip;rw[u (w.map (·.1)) λx z=>by obtain⟨c,d,rfl⟩:=mem_map.1 z;grind[De],
    u (w.map (·.2)) λx z=>by obtain⟨c,d,rfl⟩:=mem_map.1 z;grind[De]]
   cases h
  |clo f a b=>grind[uK]|agg cs=>grind[ζf,uK]|tup cs=>grind[ζf,uK]|_=>rfl
theorem Vw{H:bl}{n m:Nat}(h:n<=m){x y:V}(B:borrow n H x=M y):cE m H x=cE n H x:=by induction h with|refl=>rfl|step h u=>rw[O1 _ _ _ (u9 h B),u]
def B0{H:bl}{n m:Nat}(h:n<=m){l r:So}(B:borrows n H l=M r):dy (cE m H) l=dy (cE n H) l:=EE λx u=>by have⟨y,w⟩:=uK B x u;grind[Vw]
def qy{f g h:V->aY V}(k:∀x y z,f x=M y->g x=M z->h x=M z):∀{l r s:So},jw f l=M r->jw g l=M s->jw h l=M s
 |[],_,_,_,B=>B|x::l,r,s,hr,B=>by simp only[jw]at hr B⊢;split at hr;rename_i a D;split at B;(next J T=>rw[k _ _ _ a J,qy k D T];exact B);cases B;cases hr
def FY{f g h:V->aY V}(k:∀x y z,f x=M y->g x=M z->h x=M z):∀{l r s:S'},nW f l=M r->nW g l=M s->nW h l=M s
 |[],_,_,_,B=>B|x::l,r,s,hr,B=>by simp only[nW]at hr B⊢;split at hr;rename_i a D;split at B;(next J T=>rw[qy k a J,FY k D T];exact B);cases B;cases hr
def Hr{f g h:V->aY V}(k:∀x y z,f x=M y->g x=M z->h x=M z):∀{l r s:aX (V×V)},nQ f l=M r->nQ g l=M s->nQ h l=M s
 |[],_,_,_,B=>B|(a,x)::l,r,s,hr,B=>by simp only[nQ]at hr B⊢;split at hr;rename_i b D J;split at B;(next T d i=>rw[k _ _ _ b T,k _ _ _ D d,Hr k J i];exact B);cases B;cases hr
def M_{H H2:bl}:∀(n m:Nat)(x y z:V),borrow n H x=M y->borrow m H2 x=M z->(∀id:Nat,(H2[id]?).isSome=O->H2[id]?=H[id]?)->borrow n H2 x=M z:=by intro n;induction n with|zero=>grind[borrow,kK]|succ n g=>intro m x y z h k w;by_cases e:x.closed=O;rw[kK _ _ e]at k⊢;exact k;cases m with|zero=>grind[borrow]|succ m=>have u:∀x y z,borrow n H x=M y->borrow m H2 x=M z->borrow n H2 x=M z:=λx y z a b=>g m x y z a b w;unfold borrow at h k⊢;rw[K' e]at h k⊢;have row:∀id q,_l (H2[id]?) Ob.rows=M q->_l (H[id]?) Ob.rows=M q:=λid q B=>(by rw[<-w id (by cases C:H2[id]?with|none=>rw[C]at B;cases B|some _=>rfl)];exact B);cases x with|hsl id es off len=>simp only at h k⊢;split at k;rename_i d;rw[row _ _ d]at h;simp only at h;split at k;(next q=>rw[J0 q]at h⊢;have⟨r,c,_⟩:=ζf.1 h;have⟨s,k1,k2⟩:=ζf.1 k;rw[FY u c k1];grind);cases k;cases k|hptr id el off=>simp only at h k⊢;split at k;rename_i d;rw[row _ _ d]at h;simp only at h;split at k;rename_i D;rw[D]at h;simp only at h;split at k;(next q=>rw[J0 q]at h⊢;have⟨r,c,_⟩:=ζf.1 h;have⟨s,k1,k2⟩:=ζf.1 k;rw[qy u c k1];grind);cases k;cases k;cases k|hmap id=>simp only at h k⊢;split at k;rename_i d;rw[<-w id (by rw[d];rfl),d]at h;simp only at h;have⟨r,c,_⟩:=ζf.1 h;have⟨s,k1,k2⟩:=ζf.1 k;rw[Hr u c k1];grind;cases k|clo f a b=>simp only at h k⊢;split at h;rename_i c C;split at k;(next k1 k2=>rw[qy u c k1,qy u C k2];exact k);cases k;cases h|agg cs=>simp only at h k⊢;have⟨r,c,_⟩:=ζf.1 h;have⟨s,k1,k2⟩:=ζf.1 k;rw[qy u c k1];grind|tup cs=>simp only at h k⊢;have⟨r,c,_⟩:=ζf.1 h;have⟨s,k1,k2⟩:=ζf.1 k;rw[qy u c k1];grind|_=>cases h
end Go.VE
namespace Go.VE
variable[b8]
open Go.Proofs Go.Sort
structure DD(P:Program)(f:FuncId):Prop where
 ok:Bw P f
 zero:∀(p:Option Addr)(cap:Nat)(fv:Value)(w:World),Calls P f #[.slice p 0 cap,fv] w λe w'=>e=.returned (.tuple #[])/\w'=w
 all:∀{α:Type}[Inhabited α](enc:α->Value)(_:OneCell enc)(cf:α->α->Int)(_:SWO (ltOf cf))(g:Nat)(cb:Array Value)(blk off cap:Nat)(d:Array α)(w:World)
  (_:∀args w,(callFunc g args).run P w=.ok (.enter g args) w)(_:CmpLays1 P g cb enc cf blk off d.size w)(_:Holds enc w blk off d)(_:blk<w.heap.size)(_:d.size<4611686018427387904),
  Calls P f #[.slice (some ⟨blk,off,none⟩) d.size cap,.func (.func g) #[] cb] w λe w'=>e=.returned (.tuple #[])/\∃n os,w'=sortWorld enc w blk off n (pdq (ltOf cf) d 0 d.size (Lib.bitLen d.size) true true) os
def OQ{α:Type}[Inhabited α](lt:α->α->X'):∀(k i:Nat)(d:Array α),MM lt k i d=insOuter lt 0 (i+k) i d
 |0,i,d=>by rw[insOuter];simp[MM]|k+1,i,d=>by rw[insOuter,MM,OQ lt k];grind
def EL(n:Nat)(lt:Fin (n+1)->Fin (n+1)->X'):tu n lt=pdq lt (V! (n+1)).toArray 0 (n+1) (Lib.bitLen (n+1)) O O:=by unfold tu;split;rw[pdq,J0 c?,insertionSort,OQ,Nat.add_comm 1 n];rfl
def s6{n:Nat}{t:Fin (n+1)->Fin (n+1)->Ps}(h:DB t=O):(∀i j,∃c,t i j=M c)/\SWO (rG t):=by have u:∀(p:Fin (n+1)->X'),(V! (n+1)).all p=O->∀i,p i=O:=λp h i=>List.all_eq_true.1 h i (List.mem_finRange i);have d:=λi=>u _ h i;simp only[ζh,Bool.not_eq_true']at d;have w:=λi j=>u _ (d i).2 j;simp only[ζh]at w;have z:=λi j k=>u _ (w i j).2 k;refine⟨λi j=>Option.isSome_iff_exists.1 (w i j).1,λi=>(d i).1,λi j k a b=>?_,λi j k a b=>?_⟩;have:=z i j k;grind;grind
section
variable{P:Program}{I I':cI}{μ μ':Mu}{H H':bl}{w w':World}
def IW(w:World)(os:Array Obj)(b:Nat)(h:b<w.heap.size):(grow w os).heap[b]?=w.heap[b]?:=by unfold grow;grind
theorem Calls.fr{f:Y'}{args:Array V'}{R:Ending->World->Prop}(h:Calls P f args w R):CallsIn (fr G) 0 P f args w R:=callsIn_wide.2 h
def CallsIn.un{f:Y'}{args:Array V'}{R:Ending->World->Prop}(h:CallsIn (fr G) 0 P f args w R):Calls P f args w R:=callsIn_wide.1 h
def VW{p:Pl}{c:Array V'}{xs:S'}(B:p.es=1)(D:c.size=p.sz)(g:p.o+W xs<=c.size)
 (h:∀(i:Nat)x,xs[i]?=M x->∃v u,x=[v]/\V.one v=O/\c[p.o+i]?=M u/\bN I μ v u):iA I μ p c 1 xs:=by
 have d:∀x∈xs,W x=1:=λx w=>by have⟨i,hi⟩:=List.getElem?_of_mem w;grind
 have C:W xs.flatten=W xs:=by rw[gQ d,H3]
 refine⟨B,D,d,λx w y m=>?_,c?,⟨?_,λj a b f J=>?_⟩⟩
 .have⟨i,hi⟩:=List.getElem?_of_mem w
  grind
 .grind
 have z:j<W xs:=by have:=(ζe.1 f).1;omega
 have⟨v,u,e,_,L,o⟩:=h j xs[j] (by simp[z])
 have:=zy d (i:=j) (j:=0) (x:=xs[j]) (by simp[z]) (by rw[e];rfl)
 simp_all
def zB{p:Pl}{c:Array V'}{xs:S'}(r:iA I μ p c 1 xs)(i:Nat){x:So}(h:xs[i]?=M x):∃v u,x=[v]/\V.one v=O/\c[p.o+i]?=M u/\bN I μ v u:=by
 have w:=List.mem_of_getElem? h;obtain⟨v,rfl⟩:=length_eq_one_iff.1 (r.rI x w);have hi:=(ζe.1 h).1;have z:=by have:=r.room;omega
 refine⟨v,c[p.o+i],Y,r.one _ w v f?,o?,?_⟩;exact r.idx (j:=0) h Y o?
def YC{α:Type}[Inhabited α](enc:α->V')(a o m:Nat)(B:Array α)(os:Array Obj){b:Nat}(J:b<w.heap.size)(D:b≠a):(sortWorld enc w a o m B os).heap[b]?=w.heap[b]?:=by unfold sortWorld;rw[IW _ _ _ o?];simp[putRow,mapBlock,Sort.ahead,Array.getElem?_modify,K' (Ne.symm D)]
def Ni{α:Type}[Inhabited α](enc:α->V'){a:Nat}(o m:Nat)(B:Array α){c:Array V'}{el:W'}(h:w.heap[a]?=M (.cells c el)):
 putRow enc (Sort.ahead w m) a o B=gP (Sort.ahead w m) a (.cells (Sort.putCells enc o B c) el):=by
 unfold putRow mapBlock gP Sort.ahead
 congr 1
 have⟨u,e⟩:=Array.getElem?_eq_some_iff.1 h;apply Array.ext
 .simp
 intro i b z
 by_cases hi:i=a
 .subst hi;simp[Array.getElem_modify,e,onCells]
 grind
def Step.grown(st:Step I (λ_=>G) [] w I' μ' H' w'):∃q os,w'=grow (w.drewN q) os:=by
 refine⟨w'.drawn-w.drawn,w'.heap.extract w.heap.size w'.heap.size,?_⟩;have u:w'.heap=w.heap++w'.heap.extract w.heap.size w'.heap.size:=by apply Array.ext_getElem?;intro i;by_cases hi:i<w.heap.size;rw[Array.getElem?_append_left hi];exact st.frame i hi (by rintro⟨id,p,ob,h,_⟩;simp at h);rw[Array.getElem?_append_right c?];simp[Array.getElem?_extract];by_cases C:i<w'.heap.size;rw[J0 c?];congr 1;omega;rw[K' c?,Array.getElem?_eq_none c?]
 have a:=st.os;have z:=st.out.out;have B:=st.out.tape;have D:=st.out.dr;unfold grow World.drewN;cases w';simp only at *;subst a z B;simp[World.mk.injEq];exact⟨u,c?⟩
def QE{call B:d_}{g:Y'}{J D:So}{n:Nat}(h:∀args y,cu call g args []=M y->cu B g args []=M y){i j:Fin (n+1)}{z:Int}(T:kj call g J D n i j=M z):kj B g J D n i j=M z:=by unfold kj at T⊢;grind
def FZ{keep:Y'->X'}{call B:d_}(J:call.lv<=B.lv)(h:∀g args y,keep g=U->cu call g args []=M y->cu B g args []=M y){args:So}{r:V×bl}(b:tq keep call args H=M r):tq keep B args H=M r:=by
 unfold tq at b⊢;split at b;split at b;omega;omega;split at b;omega;split at b;rename_i n g cb _ m S d;split at b;rename_i u;split at b;rename_i I w D C;rw[vE J D,vE J C];split at b;rename_i Q;have e:kj B g I w n=kj call g I w n:=by funext i j;have⟨z,L⟩:=(s6 Q).1 i j;rw[L];exact QE (λa y=>h g a y u.2.2.2.2) L
 grind;simp_all;simp_all;simp_all;simp_all;simp_all;simp_all;simp_all
set_option maxHeartbeats 1000000 in
def Yr{call:d_}(hc:mV P call){f:Y'}(hs:DD P f){args:So}{r:V}{keep:Y'->X'}(h:tq keep call args H=M (r,H'))(s:dA I μ H w){vs:aX V'}(hv:cW I μ args vs):
 CallsIn (fr G) 0 P f vs.toArray w (AX I μ H w r H'):=by
 unfold tq at h;split at h
 .rename_i sv cv;obtain⟨v1,r1,rfl,a__,aD⟩:=hv.cons_inv;obtain⟨v2,r2,rfl,aE,aF⟩:=aD.cons_inv;obtain rfl:=aF.zc;have d__:∀p l,v1=.slice p 0 l->CallsIn (fr G) 0 P f [v1,v2].toArray w (AX I μ H w .undef H):=by
   rintro p l rfl;refine Calls.fr ((hs.zero p l v2 w).mono ?_);rintro e w' ⟨rfl,rfl⟩;exact⟨_,I,μ,_i,bN.undef _ _,s,Step.refl _ _ _ _⟩
  split at h
  .cases h;exact d__ G 0 a__.om
  .cases h;have⟨a,e⟩:=a__.vk;exact d__ a 0 e
  .rename_i id es off len;split at h
   .cases h;rcases a__.oc with⟨p,l,_,_,_,_,e⟩|⟨_,a,e⟩
    .exact d__ _ l e
    exact d__ _ 0 e
   .rename_i n g cb;split at h
    .rename_i aT Q L;split at h
     .rename_i al;obtain⟨rfl,rfl,aR,hn,_⟩:=al;split at h
      .rename_i e__ D aG aq;split at h
       .rename_i ar;cases h;have⟨p,c,el,hp,hI,J,S⟩:=s.obs id _ L;rcases a__.oc with⟨q,l,hq,aU,aS,aH,rfl⟩|⟨h0,_⟩
        .rw[hp]at hq;cases hq;obtain⟨va,F,rfl,R,au⟩:=aE.l_;have av:va=#[]:=by have:=R.zc;simpa using this
         subst av;have am:=(ζe.1 L).1;have⟨t,_⟩:=s.kill L;generalize hT:dy (cE call.lv (H.set id .dead)) (((Q.drop off).take (n+1)).flatten++cb)=T;have aI:plus I μ (H.set id .dead) w T p.b=G:=by cases B:plus I μ (H.set id .dead) w T p.b with|none=>rfl|some x=>exfalso;rcases BD (by rw[B];rfl)with h|⟨aw,p',ob,_,g1,g2,g3,g4⟩;rw[hI]at h;cases h;have ax:aw≠id:=(by rintro rfl;rw[List.getElem?_set_self am]at g1;cases g1;simp[Ob.live]at g2);rw[List.getElem?_set_ne (Ne.symm ax)]at g1;exact ax (s.inj aw id ob (.row 1 Q) p' p g1 L g2 _i g3 hp g4)
         let enc:Fin (n+1)->V':=λi=>(c[p.o+off*1+i.1]?).getD undef
         have K:∀i:Fin (n+1),∃v,Q[off+i.1]?=M [v]/\V.one v=O/\bN I μ v (enc i)/\c[p.o+off*1+i.1]?=M (enc i):=λi=>by have⟨v,u,e1,e2,e3,e4⟩:=zB S (off+i.1) (x:=Q[off+i.1]' c?) f?;have e5:c[p.o+off*1+i.1]?=M u:=(by rw[<-e3];congr 1;omega);have e6:enc i=u:=(by show(c[p.o+off*1+i.1]?).getD undef=u;rw[e5];rfl);exact⟨v,by rw[<-e1];simp,e2,by rw[e6];exact e4,by rw[e5,e6]⟩
         have h1:OneCell enc:=λi=>by have⟨v,_,e2,e3,_⟩:=K i;exact e3.one e2
         have⟨ay,ae⟩:=s6 ar;have⟨aV,aJ⟩:=ki aG;have⟨aK,aL⟩:=ki aq;have aA:∀x∈(Q.drop off).take (n+1),_j x=1:=λx B=>S.rI x (List.mem_of_mem_drop (List.mem_of_mem_take B))
         have W:∀(i:Fin (n+1))u,e__[i.1]?=M u->fA (plus I μ (H.set id .dead) w T) u (enc i):=λi u hu=>by have⟨x,B,an⟩:=aJ i.1 u hu;have⟨v,e1,_,e3,_⟩:=K i;have e4:((Q.drop off).take (n+1))[i.1]?=M [v]:=(by rw[I?,J0 i.2,List.getElem?_drop];exact e1);have e5:=zy (es:=1) aA (i:=i.1) (j:=0) e4 _i;have e5:((Q.drop off).take (n+1)).flatten[i.1]?=M v:=(by simpa using e5);rw[e5]at B;cases B;refine(xM t T call.lv _ u _ an (λk A=>?_) e3).1;rw[<-hT];exact mm (List.mem_append_left _ (List.mem_of_getElem? e5)) A
         have ab:cW (plus I μ (H.set id .dead) w T) (λ_=>G) D F.toList:=by refine⟨aK.trans au.1,λj a b k1 k2=>?_⟩;have⟨x,B,an⟩:=aL j a k1;refine .c _ _ (xM t T call.lv x a b an (λk A=>?_) (au.2 j x b B k2)).1;rw[<-hT];exact mm (List.mem_append_right _ (List.mem_of_getElem? B)) A
         have af:=(Array.getElem?_eq_some_iff.1 J).1
         let d:Array (Fin (n+1)):=(V! (n+1)).toArray
         have ao:d.size=n+1:=by simp[d]
         have hd:∀j:Fin (n+1),d[j.1]! =j:=λj=>by simp[d,getElem!_pos]
         have hg:∀i j:Fin (n+1),∃z,kj call g e__ D n i j=M z/\∃a b,e__[i.1]?=M a/\e__[j.1]?=M b/\cu call g (a::b::D) []=M (.int Z z):=λi j=>by have⟨z,N⟩:=ay i j;have X:=N;unfold kj at X;split at X;rename_i a b E Y;split at X;(next z' C=>cases X;exact⟨z,N,a,b,E,Y,C⟩);cases X;cases X
         have aM:Bw P g:=by have⟨z,_,a,b,E,Y,C⟩:=hg 0 0;have s0:dA (plus I μ (H.set id .dead) w T) (λ_=>G) [] w:=⟨λ_ _=>rfl,wA t T,f?,f?,t.gl.mono (qX _ _ _ _ _)⟩;exact(FT hc C s0 (.cons (.c _ _ (W 0 a E)) (.cons (.c _ _ (W 0 b Y)) ab))).1
         have key:=hs.all enc h1 (λi j=>(kj call g e__ D n i j).getD 0) ae g F p.b (p.o+off*1) l d w (λargs w=>As aM args) (by
          intro m os b__ aW i j;have⟨z,N,a,b,E,Y,C⟩:=hg i j;have s0:dA (plus I μ (H.set id .dead) w T) (λ_=>G) [] (sortWorld enc w p.b (p.o+off*1) m b__ os):=⟨λ_ _=>rfl,λb x Y=>IC.uV (wA t T b x Y) (YC enc p.b _ m b__ os (IC.yI (wA t T b x Y)) (by rintro rfl;rw[aI]at Y;cases Y)),f?,f?,t.gl.mono (qX _ _ _ _ _)⟩
          have:=CallsIn.un (FT hc C s0 (vs:=enc i::enc j::F.toList) (.cons (.c _ _ (W i a E)) (.cons (.c _ _ (W j b Y)) ab))).2;rw[show(enc i::enc j::F.toList).toArray=#[enc i,enc j]++F by apply Array.ext';simp]at this
          refine this.mono ?_;rintro e w' ⟨u,I1,μ1,rfl,hu,s1,st⟩;exact⟨by rw[hu.gC];show _=Ending.returned (.int Z ((kj call g e__ D n i j).getD 0));rw[N];rfl,st.grown⟩) (by
          intro j hj;have aB:j<n+1:=c?
          have⟨v,_,_,_,e4⟩:=K ⟨j,aB⟩;rw[hd ⟨j,aB⟩];exact⟨by rw[th J];exact e4,by simp[World.frozen?,J]⟩) af c?
         rw[ao]at key;refine Calls.fr (key.mono ?_);rintro e w' ⟨rfl,m,os,rfl⟩;have aN:ltOf (λi j=>(kj call g e__ D n i j).getD 0)=rG (kj call g e__ D n):=rfl
         rw[aN,EL];have ah:=pdq_sorts (rG (kj call g e__ D n)) ae d 0 d.size (Lib.bitLen d.size) O O (Nat.zero_le _) (z? _) (Or.inl _i);rw[ao]at ah;have c__:=ah.1.1;change AX I μ H w .undef (H.set id (.row 1 (ug Q off n (pdq (rG (kj call g e__ D n)) d 0 (n+1) (Lib.bitLen (n+1)) O O).toList))) _ _;generalize pdq (rG (kj call g e__ D n)) d 0 (n+1) (Lib.bitLen (n+1)) O O=b__ at c__;rw[ao]at c__;unfold sortWorld;rw[Ni enc _ m b__ J];have s1:dA I μ H (Sort.ahead w m):=s.ri _i;have aO:Step I μ H w I μ H (Sort.ahead w m):=Step.ri _i _i ⟨_i,_i,Nat.le_add_right _ _⟩;have ai:(Sort.putCells enc (p.o+off*1) b__ c).size=c.size:=by simp[Sort.putCells]
         have aj:∀i:Nat,(i<p.o+off*1\/p.o+off*1+(n+1)<=i)->(Sort.putCells enc (p.o+off*1) b__ c)[i]?=c[i]?:=λi hi=>by simp only[Sort.putCells,Array.getElem?_mapIdx];rw[c__];cases c[i]?with|none=>rfl|some y=>simp only[B?];rw[K' c?]
         have ap:∀i:Fin (n+1),(Sort.putCells enc (p.o+off*1) b__ c)[p.o+off*1+i.1]?=M (enc b__[i.1]!):=λi=>by have⟨v,_,_,_,e4⟩:=K i;simp only[Sort.putCells,Array.getElem?_mapIdx,e4,B?];rw[J0 ⟨c?,by rw[c__];omega⟩];congr 3;omega
         have aC:=S.room;have aP:_j (ug Q off n b__.toList)=_j Q:=by simp[ug,c__];omega
         have⟨s2,st2⟩:=s1.write (o:=.cells (Sort.putCells enc (p.o+off*1) b__ c) el) (l?:=.row 1 (ug Q off n b__.toList)) L _i hp
          ⟨p,_,el,hp,hI,iV _ af,VW S.es_eq (by rw[ai];exact S.sz) (by rw[aP,ai];omega) λi x B=>by
           unfold ug at B
           by_cases c1:i<off
           .rw[List.append_assoc,List.getElem?_append_left (by simp;omega),I?,J0 c1]at B
            have⟨v,u,e1,e2,e3,e4⟩:=zB S i B;exact⟨v,u,e1,e2,by rw[aj _ c?];exact e3,e4⟩
           by_cases c2:i<off+(n+1)
           .rw[List.getElem?_append_left (by simp[c__];omega),List.getElem?_append_right (by simp;omega)]at B
            have ak:i-off<b__.size:=c?
            have e0:_j (Q.take off)=off:=by simp;omega
            simp only[e0,Q?,Array.getElem?_toList]at B;rw[Array.getElem?_eq_getElem ak]at B;simp only[B?,ζa]at B;have⟨v,e1,e2,e3,e4⟩:=K b__[i-off];rw[e1]at B;simp only[Option.getD_some]at B;refine⟨v,enc b__[i-off],B.symm,e2,?_,e3⟩;have:=ap ⟨i-off,c?⟩
            simp only[getElem!_pos b__ (i-off) ak]at this;rw[<-this];congr 1;omega
           rw[List.getElem?_append_right (by simp[c__];omega),List.getElem?_drop]at B
           have e0:off+(n+1)+(i-_j ((Q.take off)++b__.toList.map (λi=>(Q[off+i.1]?).getD [])))=i:=by simp[c__];omega
           rw[e0]at B;have⟨v,u,e1,e2,e3,e4⟩:=zB S i B;exact⟨v,u,e1,e2,by rw[aj _ c?];exact e3,e4⟩⟩
         have A:∀b,b<(gP (Sort.ahead w m) p.b (.cells (Sort.putCells enc (p.o+off*1) b__ c) el)).heap.size->(grow (gP (Sort.ahead w m) p.b (.cells (Sort.putCells enc (p.o+off*1) b__ c) el)) os).heap[b]?=(gP (Sort.ahead w m) p.b (.cells (Sort.putCells enc (p.o+off*1) b__ c) el)).heap[b]?:=λb Y=>IW _ _ _ Y
         have aQ:=Step.kept (I:=I) (μ:=μ) (H:=H.set id (.row 1 (ug Q off n b__.toList))) A (by simp[grow]) _i ⟨_i,_i,z? _⟩ (λa E h=>by unfold World.frozen? at h⊢;rw[A _ E];exact h)
         exact⟨_,I,μ,_i,bN.undef _ _,s2.kept A,Step.trans s1 aO (Step.trans s2 st2 aQ)⟩
        cases h0
       cases h
      cases h
     cases h
    cases h
   cases h
  cases h
 cases h
end
def zz(P:Program)(f:Y')(args:So)(y:V):Prop:=Bw P f/\∀I μ H w u,dA I μ H w->cW I μ args u->CallsIn (fr G) 0 P f u.toArray w (AX I μ H w y H)
def Rt{P:Program}{call:d_}(a:mV P call){f:Y'}{b:X'}{H':bl}(h:call (.fn f) [] []=M (.bool b,H')):zz P f [] (.bool b):=by
 have hi:∀H,cu call f [] H=M (.bool b):=by intro H;unfold cu;rw[show borrows call.lv H []=M []from Y];simp only[h,kK _ H' (show(V.bool b).closed=O from Y)];rfl
 refine⟨?_,λI μ H w u s c=>(FT a (hi H) s c).2⟩;have⟨d,_⟩:=a.fn _ _ _ _ _ h;omega
structure aaB(P:Program)(E:Env):Prop where
 sort:∀f,E.sort f=true->DD P f
 known:∀f args y,E.known f args=some y->zz P f args y
end Go.VE
namespace Go.VE
variable[b8]
section
variable{P:Program}{E:Env}{I I':cI}{μ μ':Mu}{H H':bl}{n B:Nat}{F F':WP}{a:Act}{w w':World}
def OY:∀(F:WP)(t:Nat),W F<=t->get F t=.undef
 |[],_,_=>rfl|_::_,0,h=>o?|_::r,i+1,h=>OY r i g?
def MF:∀(F:WP)(t:Nat)(x:V),F[t]?=M x->get F t=x
 |[],_,_,h=>o?|_::_,0,_,h=>by simpa[get]using h|_::r,i+1,x,h=>MF r i x g?
def P5(b:w6 I){args:So}{vs:aX V'}{a:Nat}(h:cW I μ args vs)(B:W args<=a):
 fe I μ a args (vs.toArray++Array.replicate (a-vs.toArray.size) undef):=by
 have u:=h.1;refine⟨o?,λt=>?_,b⟩
 by_cases C:t<(W args)
 .have h1:args[t]?=M args[t]:=by simp_all
  have w:t<W vs:=c?
  have z:vs[t]?=M vs[t]:=o?
  rw[MF _ _ _ h1];have:(vs.toArray++Array.replicate (a-vs.toArray.size) undef).getD t undef=vs[t]:=by rw[Array.getD_eq_getD_getElem?,Array.getElem?_append_left g?];simp_all
  rw[this];exact h.2 t _ _ h1 z
 rw[OY _ _ c?]
 have:(vs.toArray++Array.replicate (a-vs.toArray.size) undef).getD t undef=undef:=by rw[Array.getD_eq_getD_getElem?,Array.getElem?_append_right o?,Array.getElem?_replicate];grind
 rw[this];exact bN.undef _ _
def Vg(r:fe I μ n F a.tmps){t:Nat}{x:V}{v:V'}(B:t<n)(h:bN I μ x v):fe I μ n (set F t x) (a.tmps.setIfInBounds t v):=by have:=fe.put (dst:=M t) r h (F':=set F t x) (by simp[lQ,B]);simpa[Act.put]using this
def En:∀(ps:ST)(xs:So)(vs:aX V')(F:WP)(tmps:Array V'),fe I μ n F tmps->cW I μ xs vs->ps.all (·<n)=O->
 fe I μ n (Bc ps xs F) ((ps.zip vs).foldl (λtmps(t,a)=>tmps.setIfInBounds t a) tmps)
 |[],_,_,F,tmps,r,_,_=>by simpa[Bc]using r|t::ps,[],[],F,tmps,r,_,_=>by simpa[Bc]using r|t::ps,[],v::vs,F,tmps,r,h,_=>by have:=h.1;grind|t::ps,x::xs,[],F,tmps,r,h,_=>by have:=h.1;grind|t::ps,x::xs,v::vs,F,tmps,r,h,u=>by simp only[List.all_cons,ζh,_e]at u;have w:=h.2 0 x v Y Y;have z:cW I μ xs vs:=⟨by have:=h.1;grind,λj a b c B=>h.2 (j+1) a b g? g?⟩;exact En ps xs vs _ _ (Vg (a:={tmps:=tmps,defers:=[]}) r u.1 w) z u.2
def KE{α β:Type}(g:α->Sem β):∀(l:aX α)(w:World)(B:aX β),W B=W l->(∀(j:Nat)x y,l[j]?=M x->B[j]?=M y->(g x).run P w=.ok y w)->(l.mapM g).run P w=.ok B w
 |[],w,[],_,_=>f?|[],w,_::_,h,_=>o?|_::_,w,[],h,_=>o?|x::l,w,y::B,h,hg=>by have D:=hg 0 x y Y Y;have u:=KE g l w B g? (λj a b c z=>hg (j+1) a b g? g?);simp_all
def Pt(tmps:Array V'):ResultVar->Sem V'
 |.tmp t=>pure (tmps.getD t undef)|.cell a t=>do loadVar t (<-asAddr (tmps.getD a undef))
def Pc(fn:Func)(tmps:Array V'):results fn tmps=(fn.results.mapM (Pt tmps) >>= λvs=>pure (if h:vs.size=1 then vs[0]else .tuple vs)):=by congr 1
def Pe(W:fC P E){fn:Func}{tmps:Array V'}(r:fe I μ n F tmps)(s:dA I μ H w){vs:So}(h:jt E F H fn.results.toList=M vs):
 ∃u,(results fn tmps).run P w=.ok u w/\bN I μ (result vs) u:=by
 have key:∀(l:aX ResultVar)(vs:So),jt E F H l=M vs->∃z:aX V',_j z=_j l/\cW I μ vs z/\
  ∀(j:Nat)x y,l[j]?=M x->z[j]?=M y->(Pt tmps x).run P w=.ok y w:=by
  intro l
  induction l with
  |nil=>intro vs h;simp[jt]at h;subst h;exact⟨[],rfl,.nil,f?⟩|cons x l m=>
   intro vs h
   cases x with
   |tmp t=>
    simp only[jt,ζf]at h;obtain⟨D,h,rfl⟩:=h;have⟨z,a,C,Q⟩:=m D h;refine⟨tmps.getD t undef::z,o?,.cons (r.2 t) C,?_⟩
    intro j x y J L
    cases j with
    |zero=>simp at J L;subst J;subst L;simp[Pt]|succ j=>grind
   |cell p t=>
    simp only[jt]at h;split at h
    .rename_i d D hd S;simp only[ζf]at h;obtain⟨v,b,rfl⟩:=h;have⟨z,a,C,Q⟩:=m D S;have⟨u,_,c,X,T,g⟩:=Gb W s hd (r.2 p) b;refine⟨u::z,o?,.cons c C,?_⟩
     intro j x y J L
     cases j with
     |zero=>
      simp only[List.getElem?_cons_zero,ζa]at J L;subst J;subst L;have e:(do loadVar t (<-asAddr (tmps.getD p undef))).run P w=(loadVar t X).run P w:=by rw[A?,T];rfl
      exact e.trans g
     |succ j=>grind
    grind
 have⟨z,a,C,Q⟩:=key _ _ h;have o:=KE _ fn.results.toList w z a Q;have q:(fn.results.mapM (Pt tmps)).run P w=.ok z.toArray w:=by rw[Array.mapM_eq_mapM_toList];simp_all
 have i:_j z=_j vs:=C.1.symm;rw[Pc,A?,q]
 by_cases B:_j z=1
 .obtain⟨u,rfl⟩:=length_eq_one_iff.1 B;obtain⟨v,rfl⟩:=length_eq_one_iff.1 (i▸B);exact⟨u,f?,by simpa[result]using C.2 0 v u Y Y⟩
 refine⟨.tuple z.toArray,o?,?_⟩
 have f:result vs=.tup vs:=by match vs,i with|[],_=>rfl|[_],h=>exact _c h B|_::_::_,_=>rfl
 rw[f];exact .tup _ _ (by simpa using C.1) (by simpa using C.2)
def S0(J:fC P E){fn:Func}{tmps:Array V'}{vs:So}(h:jt E F H' fn.results.toList=M vs)(T:w.heap.size<=B):∀(ds:aX Deferred)(w':World),
 fe I' μ' n F tmps->dA I' μ' H' w'->Step I μ H w I' μ' H' w'->mb B ds w'->
 LeavesInM (fr G) 0 P fn tmps (AX I μ H w (result vs) H') ds .returning w':=by
 intro ds
 induction ds with
 |nil=>intro w' r s st m;have⟨u,b,c⟩:=Pe J r s h;exact⟨u,b,u,I',μ',rfl,c,s,st⟩|cons d ds L=>
  intro w' r s st m;have⟨q,a,S,D⟩:=m.all d f?
  refine⟨f?,.inl ⟨q,_,a,run_takeDeferred D,?_⟩⟩
  have z:=xN s D;have i:=Zo s D f? f?
  have m':mb B ds w':=⟨λd hd=>m.all d (C? _ hd),(List.pairwise_cons.1 m.apart).2⟩
  refine L (gP w' q (.deferred G)) r (s.DM _ i z) (st.after _ c?) ⟨λg C=>?_,m'.apart⟩
  have⟨Q,g1,g2,g3⟩:=m'.all g C;refine⟨Q,g1,g2,?_⟩;rw[gq _ ?_];exact g3;rintro rfl;exact(List.pairwise_cons.1 m.apart).1 g C _ a g1
def Hu(o:Out):(oP o).isNone=(o==.norm):=by cases o<;>simp[oP]<;>rfl
def JP(T:fC P E)(j:P.follows .mixedOrders=O)(b:aaB P E):∀n,mV P (run E n):=by
 intro n;induction n with|zero=>exact⟨λ_ _ _ _ _ h=>(by cases h),λ_ _ _ _ _ h=>(by cases h)⟩|succ n C=>
  constructor;intro f args H r H' h;rw[Kj]at h;simp[lz]at h;split at h;rename_i J V;have⟨fn,m,hb,ae,d__,L⟩:=T.ft f J V;refine⟨⟨fn,m,o?,L⟩,?_⟩;intro I μ w B s a;split at h;rename_i u;have t:∀o F' H2 rs,exec E (run E n) n U J.ntmps J.body args H=M (o,F',H2)->(∀id,o≠.exit id)->jt E F' H2 J.results=M rs->CallsIn (fr G) 0 P f B.toArray w (AX I μ H w (result rs) H2):=by intro o F' H2 rs hx al hr;refine callsIn_of_wp_marks m hb trivial ?_;rw[ae];have c:=P5 s.gl a u;have:=BP T j C n G U _i J.ntmps J.body I μ args H {tmps:=B.toArray++Array.replicate (J.ntmps-B.toArray.size) undef,defers:=[]} w o F' H2 hx c s ⟨f?,.nil⟩ (z? _);refine wpIn_mono this ?_;rintro e a1 W ⟨rfl,⟨I1,y,r1,S,z⟩,m1⟩;have d:=S0 T (by rw[d__];omega) (z? _) a1.defers W r1 S z m1;cases o with|norm=>exact d|ret=>exact d|exit id=>grind
  split at h;simp_all;simp at h;grind;grind;grind;split at h;next A=>exact⟨(b.sort f A).ok,λI μ w B s a=>Yr C (b.sort f A) h s a⟩
  have⟨yy,F,h⟩:=ζf.1 h;cases h;exact⟨(b.known f args _ F).1,λI μ w B s a=>(b.known f args _ F).2 I μ H w B s a⟩;intro id args H r H' h I μ w B p s a hp;rw[Kj]at h;simp only[lz]at h;split at h
  .rename_i rec X;split at h
   .split at h
    .rename_i u;split at h
     .rename_i F2 H2 af;split at h
      .rename_i r2 Y;split at h
       .rename_i e__;split at h
        .rename_i o F4 H4 ah;split at h
         .rename_i r4 aa;obtain⟨rfl,rfl⟩:=h;have⟨q,l,g1,g2,g3,g4⟩:=DZ s X;rw[hp]at g1;cases g1;have ai:l.params.size=_j rec.params:=by have:=_d length g4.params;grind
          have aj:B.toArray.size=l.params.size:=by rw[ai,<-u.1];simpa using a.1.symm
          refine⟨p.b,l.fn,_,l.assign,l.body,run_yield g3 aj,?_⟩;refine roundIn_of_wpIn trivial ?_;have c__:(l.params.zip B.toArray).foldl (λtmps x=>tmps.setIfInBounds x.1 x.2) l.tmps=(rec.params.zip B).foldl (λtmps x=>tmps.setIfInBounds x.1 x.2) l.tmps:=by rw[<-Array.foldl_toList,Array.toList_zip,g4.params]
          have c:=En rec.params args B rec.frame l.tmps g4.frame a u.2;rw[<-c__]at c;have W:=BP T j C n (M p.b) O _i rec.nt rec.assign I μ _ H {tmps:=_,defers:=[]} w _ _ _ af c s ⟨f?,.nil⟩ (z? _);rw[g4.assign,g4.body];refine wpIn_mono W ?_;rintro e a1 W ⟨rfl,⟨I1,y,r1,S,z⟩,m1⟩;have⟨q,g,k1,k2,k3,k4⟩:=DZ S Y;rw[z.mu _ _ hp]at k1;cases k1;have D:g.state=.ready:=by have:=k4.st;rw[e__]at this;cases d:g.state<;>rw[d]at this<;>simp[El.is]at this
          refine⟨_,run_beginRound k3 D,?_⟩;have b__:=z.mu _ _ hp;have⟨K,st2⟩:=S.write (l?:=.loop {r2 with st:=.busy}) Y _i b__
           ⟨p,{g with state:=.busy},b__,k2,iV _ (Array.getElem?_eq_some_iff.1 k3).1,⟨trivial,k4.pend,k4.pendOk,k4.frame,k4.params,k4.assign,k4.body⟩⟩
          have m2:=m1.step S st2;have w2:=BP T j C n (M p.b) O _i rec.nt rec.body I1 y F2 _ a1 (gP W p.b (.loop {g with state:=.busy})) o F4 H4 ah r1 K m2 (by rw[u5];exact z.size);refine wpIn_mono w2 ?_;rintro e a3 w3 ⟨rfl,⟨I3,μ3,r3,k,Q⟩,m3⟩;have⟨q,l4,a__,j2,N,i⟩:=DZ k aa;rw[Q.mu _ _ b__]at a__;cases a__;have R:=Q.mu _ _ b__;have fin:∃v w',(Instr.endRound p.b (oP o)).run P w3=.ok v w'/\AX I μ H w (.bool (o==.norm)) (H4.set id (.loop {r4 with st:=(if o==.norm then .ready else .done),pend:=(if o==.norm then G else M o)})) (.returned v) w':=by
           refine⟨_,_,run_endRound (oP o) N,?_⟩;have⟨s4,ak⟩:=k.write (l?:=.loop {r4 with st:=(if o==.norm then .ready else .done),pend:=(if o==.norm then G else M o)}) aa _i R
            ⟨p,{l4 with state:=if(oP o).isNone then .ready else .done,pending:=oP o},R,j2,iV _ (Array.getElem?_eq_some_iff.1 N).1,⟨by cases o<;>exact trivial,by cases o<;>rfl,by cases o<;>simp,i.frame,i.params,i.assign,i.body⟩⟩
           refine⟨_,I3,μ3,_i,?_,s4,Step.trans S z (Step.trans K st2 (Step.trans k Q ak))⟩;rw[Hu];exact .c _ _ (.bool _)
          cases o with|norm=>exact fin|ret=>exact fin|exit id=>exact fin
         grind
        grind
       grind
      grind
     grind
    grind
   grind
  grind
end
end Go.VE
namespace Go.VE
variable[b8]
variable{P:Program}
def qM.FX{t:W'}{d:TD}(h:uB P t=M d):qM P t d:=fC.ty (E:={tt:=uB P,ft:=λ_=>G,keep:=λ_=>U,own:=λ_=>U,eqN:=λ_=>G,sort:=λ_=>U}) ⟨λ_ _ h=>h,f?,f?⟩ h
def mD{i:W'}{cs:Array V'}{o:Nat}{v:V'}{w:World}(hi:uB P i=M ⟨1,8,[.int Z 0],.int Z⟩)(h:cs[o]?=M v):(part i cs o).run P w=.ok v w:=by unfold part;simp[A?,(qM.FX hi).Gw,W!,TD.agg,h]
def v_{a:SW}(h:W a=2):∃x y,a=[x,y]:=by match a,h with|[x,y],_=>exact⟨x,y,Y⟩
def zG(d:Nat)(e:X'){i:W'}(x:Int){w:World}(B:P.underlying i=M (.int Z)):(w! e (d+1) i (.int Z x)).run P w=.ok () w:=by simp only[w!,A?,dR B,x?,N?]
def Ly(d:Nat)(e:X'){t i:W'}{f g:Field}(x y:Int){w:World}(hu:P.underlying t=M (.struct #[f,g]))(D:f.type=i)(hg:g.type=i)(of:f.offset=0)(J:g.offset=1)(nf:f.name≠ "_")(T:g.name≠ "_")
 (hi:uB P i=M ⟨1,8,[.int Z 0],.int Z⟩)(B:P.underlying i=M (.int Z)):(w! e (d+1+1) t (.agg (ic [x,y]))).run P w=.ok () w:=by
 have u:∀w,(part i (ic [x,y]) 0).run P w=.ok (.int Z x) w:=λw=>mD hi Y
 have p1:∀w,(part i (ic [x,y]) 1).run P w=.ok (.int Z y) w:=λw=>mD hi Y
 have q:∀(x:Int)w,(w! e (d+1) i (.int Z x)).run P w=.ok () w:=λx w=>zG d e x B
 unfold w!;simp only[A?,dR hu,x?];rw[<-Array.forIn_toList];simp only[v6,List.forIn_nil,A?,D,hg,of,J,nf,T,ne_eq,not_false_eq_true,L',u,p1,q,x?,N?]
def rR.two{t i:W'}{f g:Field}(hu:P.underlying t=M (.struct #[f,g]))(T:f.type=i)(hg:g.type=i)(of:f.offset=0)(j:g.offset=1)(nf:f.name≠ "_")(o:g.name≠ "_")
 (hi:uB P i=M ⟨1,8,[.int Z 0],.int Z⟩)(J:P.underlying i=M (.int Z))(m:P.stoodInHeld t=U)(hq:P.eqGuardType P.depth t=U):rR P t 2:=by
 have d:P.fieldsOf t=#[f,g]:=by unfold Program.fieldsOf;rw[hu]
 have B:∀(w:World)(x y z u:Int),(N! t (.agg (ic [x,y])) (.agg (ic [z,u]))).run P w=.ok ([x,y]==[z,u]) w:=by intro w x y z u;show(H! (9999+1) t _ _).run P w=_;rw[run_equalIn_struct w 9999 t _ _ (by rw[d];exact hu) m,d];have Q:∀(x y:Int)w,(part i (ic [x,y]) 0).run P w=.ok (.int Z x) w:=λx y w=>mD hi Y;have p1:∀(x y:Int)w,(part i (ic [x,y]) 1).run P w=.ok (.int Z y) w:=λx y w=>mD hi Y;have q:∀(x y:Int)w,(H! 9999 i (.int Z x) (.int Z y)).run P w=.ok (x==y) w:=λx y w=>AL 9998 x y J;simp only[Op.eqFields,T,hg,of,j,nf,o,ne_eq,not_false_eq_true,L',A?,Q,q,x?];by_cases C:x=z;by_cases I:y=u;subst C;subst I;simp[A?,p1,q,W!];subst C;have:(y==u)=U:=(by simpa using I);simp[A?,p1,q,W!,this];have:(x==z)=U:=(by simpa using C);simp[this]
 have L:∀(op:BinOp)(p q:UV)(w:World)(u v:Array V'),(eqGuard op t p q (.agg u) (.agg v)).run P w=.ok () w:=by intro op p q w u v;unfold eqGuard;cases op<;>simp[A?,run_program,W!,hq]
 refine⟨?_,?_,?_,?_,⟨_,hu,.inr ⟨_,Y⟩⟩⟩
 .intro w p q a b D h;obtain⟨x,y,rfl⟩:=v_ D;obtain⟨z,u,rfl⟩:=v_ h;rw[A?,L,x?];show(do pure (Value.bool (<-N! t (.agg (ic [x,y])) (.agg (ic [z,u])))):Sem V').run P w=_
  rw[A?,B];rfl
 .intro w p q a b D h;obtain⟨x,y,rfl⟩:=v_ D;obtain⟨z,u,rfl⟩:=v_ h;rw[A?,L,x?];show(do pure (Value.bool (!(<-N! t (.agg (ic [x,y])) (.agg (ic [z,u]))))):Sem V').run P w=_
  rw[A?,B];rfl
 .intro w a b D h;obtain⟨x,y,rfl⟩:=v_ D;obtain⟨z,u,rfl⟩:=v_ h;exact B w x y z u
 intro w e a D;obtain⟨x,y,rfl⟩:=v_ D;exact Ly 9998 e x y hu T hg of j nf o hi J
def lk{α:Type}:aX (Nat×α)->Nat->aY α
 |[],_=>G|(k,v)::r,n=>bif beq k n then M v else lk r n
def Tg{α:Type}:∀{l:aX (Nat×α)}{n:Nat}{v:α},lk l n=M v->(n,v)∈l
 |[],_,_,h=>by simp[lk]at h|(k,x)::r,n,v,h=>by simp only[lk]at h;cases a:beq k n with|true=>rw[a]at h;simp only[cond_true,ζa]at h;have:=Nat.eq_of_beq_eq_true a;subst this;subst h;simp|false=>rw[a]at h;exact C? _ (Tg h)
end Go.VE
namespace Go.VE
variable[b8]
inductive KT where|bool|str|slice|ptr|map|int|other
 deriving DecidableEq
def TK.tag:TK->KT
 |.bool=>.bool|.int _=>.int|.str=>.str|.ptr _=>.ptr|.slice _=>.slice|.map ..=>.map|_=>.other
def qZ(k:KT)(x y:V):aY X':=
 match k,x,y with
 |.slice,.bG,.bG=>M O|.slice,.fsl ..,.bG=>M U|.slice,.hsl ..,.bG=>M U|.ptr,.jg,.jg=>M O|.ptr,.fptr _,.jg=>M U|.ptr,.hptr ..,.jg=>M U|.map,.ir,.ir=>M O|.map,.fmap _,.ir=>M U|.map,.hmap _,.ir=>M U|_,_,_=>G
def oJ(k:aY KT)(e:aY Nat)(op:BinOp)(x y:V):aY V:=
 match x,y with
 |.int k a,.int u b=>
  match op with
  |.shl=>if b<0 then G else M (.int k (k.wrap (a*2 ^ (min b.toNat k.bits))))|.shr=>if b<0 then G else M (.int k (a.fdiv (2 ^ (min b.toNat k.bits))))|_=>if k=u then
   match op with
   |.add=>M (.int k (k.wrap (a+b)))|.sub=>M (.int k (k.wrap (a-b)))|.mul=>M (.int k (k.wrap (a*b)))|.quo=>if b=0 then G else M (.int k (k.wrap (a.tdiv b)))|.rem=>if b=0 then G else M (.int k (a.tmod b))|.and=>M (.int k (k.wrap (c7 k.bits a &&& c7 k.bits b).toNat))|.or=>M (.int k (k.wrap (c7 k.bits a ||| c7 k.bits b).toNat))|.xor=>M (.int k (k.wrap (c7 k.bits a ^^^ c7 k.bits b).toNat))|.andNot=>M (.int k (k.wrap (c7 k.bits a &&& ~~~ c7 k.bits b).toNat))|op=>(uQ op a b).map .bool
   else G
 |.str a,.str b=>
  match op with
  |.add=>if((a.size+b.size:Nat):Int)>IntKind.i64.max then G else M (.str (a++b))|.eql=>M (.bool (a.toList==b.toList))|.neq=>M (.bool !(a.toList==b.toList))|.lss=>M (.bool (U! a.toList b.toList))|.leq=>M (.bool (U! a.toList b.toList||a.toList==b.toList))|.gtr=>M (.bool !(U! a.toList b.toList||a.toList==b.toList))|.geq=>M (.bool !(U! a.toList b.toList))|_=>G
 |.bool a,.bool b=>
  match k,op with
  |some .bool,.eql=>M (.bool (a==b))|some .bool,.neq=>M (.bool !(a==b))|_,_=>G
 |.agg a,.agg b=>
  match e,op with
  |some n,.eql=>if W a=n then(mR a b).map .bool else G|some n,.neq=>if W a=n then(mR a b).map (λt=>.bool !t)else G|_,_=>G
 |x,y=>
  match k,op with
  |some k,.eql=>(qZ k x y).map .bool|some k,.neq=>(qZ k x y).map λt=>.bool !t|_,_=>G
def Q3(k:TK)(x y:V):xR k x y=qZ k.tag x y:=by cases k<;>cases y<;>(try rfl)<;>cases x<;>rfl
def YZ(E:Env)(op:BinOp)(t:W')(x y:V):LR E op t x y=oJ ((E.kindOf t).map TK.tag) (E.eqN t) op x y:=by
 unfold LR;split;rfl;rfl;cases b:E.kindOf t with|none=>rfl|some k=>cases k<;>cases op<;>rfl
 rfl;rename_i a u w z
 cases b:E.kindOf t with
 |none=>rw[oJ.eq_29 _ _ _ _ _ a u w z f? f?]|some k=>
  simp only[Q3];cases op<;>first
   |exact(oJ.eq_27 _ _ _ _ a u w z).symm|exact(oJ.eq_28 _ _ _ _ a u w z).symm|(rw[oJ.eq_29 _ _ _ _ _ a u w z f? f?])
inductive xI where
 |id|pick|nilc
 |bin(k:Option KT)(e:Option Nat)(op:BinOp)
 |not|neg
 |conv(k:IntKind)
 |fieldAddr(off:Nat)
 |field(off size:Nat)(agg:Bool)
 |idxS(size:Nat)
 |idxA(len size:Nat)
 |idxStr
 |idxArr(len size:Nat)(agg:Bool)
 |sliceStr(lo hi:Bool)
 |slice(size:Nat)(lo hi:Bool)
 |slice00
 |build(zero:List V)(pl:List (Nat×Nat))
 |clo(name:Nat)(k:Nat)
 |ext(i:Nat)
 |lenStr|lenSl|capSl|max|min|bad|max4
 |makeC(size:Nat)(zero:List V)
 |buildC(size len:Nat)(zero:List V)(idx:List Nat)
 |emptyC
def P0:V->aY V
 |.hptr id el off=>M (.hptr id el off)|.fptr cs=>M (.fptr cs)|.clo f a b=>M (.clo f a b)|_=>G
def tD(off:Nat):V->aY V
 |.fptr cs=>if off<=W cs then M (.fptr (cs.drop off))else G|.hptr id el o=>M (.hptr id el (o+off))|_=>G
def nU(size:Nat)(s:V)(n:Int):aY V:=
 if n<0 then G else match s with
 |.fsl es u=>if es=size then(u[n.toNat]?).map .fptr else G|.hsl id es off len=>if es=size/\n.toNat<len then M (.hptr id (off+n.toNat) 0)else G|_=>G
def zS(len size:Nat)(p:V)(n:Int):aY V:=
 if 0<=n/\n<len then match p with
  |.fptr cs=>if n.toNat*size<=W cs then M (.fptr (cs.drop (n.toNat*size)))else G|.hptr id el o=>M (.hptr id el (o+n.toNat*size))|_=>G
 else G
def oK:X'->X'->So->aY (Ps×Ps)
 |false,U,[]=>M (G,G)|true,U,[.int _ l]=>M (M l,G)|false,O,[.int _ h]=>M (G,M h)|true,O,[.int _ l,.int _ h]=>M (M l,M h)|_,_,_=>G
def jy(size:Nat)(v:V)(l h:Ps):aY V:=
 match v with
 |.fsl es u=>if es=size then(eA (W u) l h).map λ(l,h)=>.fsl es ((u.take h).drop l)else G|.hsl id es off len=>if es=size then(eA len l h).map λ(l,h)=>.hsl id es (off+l) (h-l)else G|.dN=>(eA 0 l h).map λ_=>.dN|.bG=>(eA 0 l h).map λ_=>.bG|_=>G
def Qs:V->X'
 |.fsl ..|.hsl ..|.dN|.bG=>O|_=>U
def mK(cells:So):aX (Nat×Nat)->So->aY So
 |[],[]=>M cells|(off,size)::pl,v::vs=>
  if W v.cells≠size||off+W v.cells>W cells then G
  else mK (cells.take off++v.cells++cells.drop (off+W v.cells)) pl vs
 |_,_=>G
def qq:V->aY V
 |.fsl _ xs=>M (.int Z (W xs))|.hsl _ _ _ len=>M (.int Z len)|.dN=>M (.int Z 0)|.bG=>M (.int Z 0)|_=>G
def K6:V->aY V
 |.bG|.dN=>M (.int Z 0)|_=>G
def bV(N:Nat->Y'):xI->So->aY V
 |.id,[x]=>M x
 |.pick,[.bool t,a,b]=>M (if t then a else b)
 |.nilc,[x]=>P0 x
 |.bin k e op,[x,y]=>oJ k e op x y
 |.not,[.bool b]=>M (.bool !b)
 |.neg,[.int k n]=>M (.int k (k.wrap (0-n)))
 |.conv k,[.int _ n]=>M (.int k (k.wrap n))
 |.fieldAddr off,[p]=>tD off p
 |.field off size agg,[.agg cs]=>_l (cut cs off size) (mk agg)
 |.idxS size,[s,.int _ n]=>nU size s n
 |.idxA len size,[p,.int _ n]=>zS len size p n
 |.idxStr,[.str s,.int _ n]=>if 0<=n then(s[n.toNat]?).map (λb=>.int .u8 b.toNat)else G
 |.idxArr len size agg,[.agg cs,.int _ n]=>if 0<=n/\n<len then(cut cs (n.toNat*size) size).bind (mk agg)else G
 |.sliceStr lo hi,.str s::D=>_l (oK lo hi D) λ(l,h)=>(eA s.size l h).map λ(l,h)=>.str (s.extract l h)
 |.slice size lo hi,v::D=>_l (oK lo hi D) λ(l,h)=>jy size v l h
 |.slice00,[v,.int _ h,.int _ m]=>if Qs v&&h==0&&m==0 then M .dN else G
 |.build zero pl,vs=>(mK zero pl vs).map .agg
 |.clo name k,vs=>M (.clo (N name) (vs.take k) (vs.drop k))
 |.ext i,[.tup vs]=>vs[i]?
 |.lenStr,[.str s]=>M (.int Z s.size)
 |.lenSl,[v]=>qq v
 |.capSl,[v]=>K6 v
 |.max,[.int k a,.int B b]=>if k=B then M (.int k (if b>a then b else a))else G
 |.max4,[.int k a,.int k1 b,.int k2 c,.int k3 d]=>if k=k1/\k=k2/\k=k3 then M (.int k (EG (EG (EG a b) c) d))else G
 |.min,[.int k a,.int B b]=>if k=B then M (.int k (if b<a then b else a))else G
 |.makeC size zero,[.int k n,.int B m]=>if k=Z/\B=Z/\0<=n/\n=m/\m<=2147483648/\zero.all V.scalar=O then M (.fsl size (w? n.toNat zero))else G
 |.buildC size len zero idx,vs=>if V.c6 vs=O/\W idx=W vs then match gz size (w? len zero) (idx.zip vs)with
  |some xs=>if xs.isEmpty=U/\(xs.all λx=>x.all V.scalar)=O then M (.fsl size xs)else G
  |none=>G
  else G
 |.emptyC,[]=>M .dN
 |_,_=>G
inductive zm where|int (k:IntKind)|str|ints (n:Nat)
def FU(E:Env)(t:W'):aY zm:=
 match E.kindOf t with
 |some (.int k)=>M (.int k)|some .str=>M .str|some _=>(E.eqN t).map .ints|none=>G
def rZ:zm->V->X'
 |.int k,.int B _=>k==B|.str,.str _=>O|.ints n,.agg cs=>W cs==n&&(jE cs).isSome|_,_=>U
inductive OU where
 |load(size:Nat)(agg:Bool)|loadF(size:Nat)(agg:Bool)|lookup(kk:zm)(zero:V)(ok:Bool)
def fW(H:bl):OU->So->aY V
 |.load size agg,[p]=>_l (fD H p size) (mk agg)|.lookup kk z ok,[m,k]=>match oE H m with
  |some B=>if rZ kk k then match jd k B 0 with
   |some (M (_,v))=>M (if ok then .tup [v,.bool O]else v)|some G=>M (if ok then .tup [z,.bool U]else z)|none=>G
   else G
  |none=>G
 |_,_=>G
inductive RP where
 |alloc(size:Nat)(zero:List V)|box|makeSl(size:Nat)(zero:List V)|buildSl(size len:Nat)(zero:List V)(idx:List Nat)|makeMap
def nO:RP->So->aY (Ob×Mk)
 |.alloc size zero,[]=>M (.row size [zero],.ptr)|.box,[v]=>if v.cells.all V.one then M (.row (W v.cells) [v.cells],.ptr)else G|.makeSl size zero,[.int k n,.int B m]=>if k=Z/\B=Z/\0<=n/\n<=m/\m<=2147483648 then M (.row size (w? m.toNat zero),.sl size n.toNat)else G|.buildSl size len zero idx,vs=>if W idx=W vs then(gz size (w? len zero) (idx.zip vs)).map λxs=>(.row size xs,.sl size len)else G|.makeMap,[]=>M (.map [],.map)|_,_=>G
inductive Oj where
 |store(size:Nat)|storeF(size:Nat)|mapUp(kk:zm)|append(size:Nat)|appMk(size bytes:Nat)(zero:List V)|clear(size:Nat)(zero:List V)
def fR(H:bl):Oj->So->aY (V×bl)
 |.store size,[.hptr id el off,v]=>match H[id]?with
  |some (.row es xs)=>match xs[el]?with
   |some cs=>if W v.cells=size/\off+size<=W cs/\v.cells.all V.one=O then
    M (.undef,H.set id (.row es (xs.set el (cs.take off++v.cells++cs.drop (off+W v.cells)))))else G
   |none=>G
  |_=>G
 |.mapUp kk,[.hmap id,k,v]=>match H[id]?with
  |some (.map B)=>if rZ kk k then(sJ k v B).map λB=>(.undef,H.set id (.map B))else G|_=>G
 |.append size,[s,x]=>match dX H size s,dX H size x with
  |some _,M []=>M (s,H)|some xs,M ys=>if W xs+W ys<=2147483648 then(iE H s).map λH1=>(.hsl (W H) size 0 (W xs+W ys),H1++[.row size (xs++ys)])else G|_,_=>G
 |.appMk size bytes zero,[s,x]=>mkApp H size bytes zero s x|.clear size zero,[v]=>GV H size zero v|.storeF size,.hptr id el off::v::l=>if l.all (qt id)=O then match H[id]?with
  |some (.row es xs)=>match xs[el]?with
   |some cs=>if W v.cells=size/\off+size<=W cs/\v.cells.all V.one=O then
    M (.undef,H.set id (.row es (xs.set el (cs.take off++v.cells++cs.drop (off+W v.cells)))))else G
   |none=>G
  |_=>G
  else G
 |_,_=>G
inductive K where
 |p(p:xI)|r(r:OU)|a(a:RP)|l(l:Oj)|c|e(size:Nat)|b
def acJ(E:Env)(t:W'):aY KT:=(E.kindOf t).map TK.tag
def resolve(E:Env)(nm:Y'->aY Nat):Op->aY (K×aX UV)
 |.move x|.assign x=>M (.p .id,[x])
 |.pick c a b=>M (.p .pick,[c,a,b])
 |.nilCheck x=>M (.p .nilc,[x])
 |.binOp op t x y _=>M (.p (.bin (acJ E t) (E.eqN t) op),[x,y])
 |.unOp .not _ x=>M (.p .not,[x])
 |.unOp .neg _ x=>M (.p .neg,[x])
 |.convert s d x=>match E.tt s,E.tt d with
  |some _,M J=>match J.kind with
   |.int k=>M (.p (.conv k),[x])
   |.str=>match E.kindOf s with
    |some (.slice e)=>match E.kindOf e with
     |some (.int .u8)=>M (.b,[x])
     |_=>G
    |_=>G
   |_=>G
  |_,_=>G
 |.fieldAddr s x f=>match E.kindOf s with
  |some (.struct fs)=>match fs[f]?with
   |some (off,t)=>match E.tt t with
    |some d=>if d.size=0 then G else M (.p (.fieldAddr off),[x])
    |none=>G
   |none=>G
  |_=>G
 |.field s x f=>match E.kindOf s with
  |some (.struct fs)=>match fs[f]?with
   |some (off,t)=>match E.tt t with
    |some d=>M (.p (.field off d.size d.agg),[x])
    |none=>G
   |none=>G
  |_=>G
 |.indexAddr t x i=>match E.kindOf t with
  |some (.slice e)=>(E.tt e).map λd=>(.p (.idxS d.size),[x,i])
  |some (.array len e)=>(E.tt e).map λd=>(.p (.idxA len d.size),[x,i])
  |_=>G
 |.index t x i=>match E.kindOf t with
  |some .str=>M (.p .idxStr,[x,i])
  |some (.array len e)=>(E.tt e).map λd=>(.p (.idxArr len d.size d.agg),[x,i])
  |_=>G
 |.slice t x lo hi T=>match E.kindOf t,T with
  |some .str,G=>M (.p (.sliceStr lo.isSome hi.isSome),x::(lo.toList++hi.toList))
  |some (.slice e),G=>(E.tt e).map λd=>(.p (.slice d.size lo.isSome hi.isSome),x::(lo.toList++hi.toList))
  |some (.slice e),M m=>match E.tt e,lo,hi with
   |some _,G,M h=>M (.p .slice00,[x,h,m])
   |_,_,_=>G
  |_,_=>G
 |.build t ps=>match E.tt t with
  |some d=>match d.kind with
   |.struct fs=>match pP E fs with
    |some pl=>(ps.toList.mapM λ(q:Nat×UV)=>pl[q.1]?).map λq=>(K.p (.build d.zero q),ps.toList.map λ(q:Nat×UV)=>q.2)
    |none=>G
   |.array _ e=>(E.tt e).map λD=>(K.p (.build d.zero (ps.toList.map λ(q:Nat×UV)=>(q.1*D.size,D.size))),ps.toList.map λ(q:Nat×UV)=>q.2)
   |_=>G
  |none=>G
 |.makeFunc (.func f) a b=>(nm f).map λs=>(.p (.clo s (W a.toList)),a.toList++b.toList)
 |.extract x i=>M (.p (.ext i),[x])
 |.load t a=>(E.tt t).map λd=>(.r (.load d.size d.agg),[a])
 |.lookup t m k ok=>match E.kindOf t with
  |some (.map B g)=>match E.tt g,FU E B with
   |some d,M kk=>(mk d.agg d.zero).map λz=>(.r (.lookup kk z ok),[m,k])
   |_,_=>G
  |_=>G
 |.alloc t=>(E.tt t).map λd=>(.a (.alloc d.size d.zero),[])
 |.box _ x=>M (.a .box,[x])
 |.makeSlice t l c=>match E.kindOf t with
  |some (.slice e)=>match E.tt e with
   |some d=>if d.bytes<=4096 then M (.a (.makeSl d.size d.zero),[l,c])else G
   |none=>G
  |_=>G
 |.buildSlice t len ps=>match E.kindOf t with
  |some (.slice e)=>match E.tt e with
   |some d=>if len*d.size<=16777216 then M (.a (.buildSl d.size len d.zero (ps.toList.map (·.1))),ps.toList.map (·.2))else G
   |none=>G
  |_=>G
 |.makeMap _ G=>M (.a .makeMap,[])
 |.store t a x=>(E.tt t).map λd=>(.l (.store d.size),[a,x])
 |.mapUpdate t m k x|.insert t m k x=>match E.kindOf t with
  |some (.map B _)=>(FU E B).map λkk=>(.l (.mapUp kk),[m,k,x])
  |_=>G
 |.call {callee:=.builtin .append,args,argTypes}=>match argTypes.toList,args.toList with
  |[t,j],[s,x]=>match E.kindOf t,E.kindOf j with
   |some (.slice e),M (.slice _)=>match E.tt e with
    |some d=>if d.bytes<=4096/\0<d.bytes then M (.l (.append d.size),[s,x])else G
    |none=>G
   |some (.slice e),M (.int _)=>(E.tt e).map λd=>(.l (.appMk d.size d.bytes d.zero),[s,x])
   |_,_=>G
  |_,_=>G
 |.call {callee:=.builtin .len,args,argTypes}=>match argTypes[0]?,args.toList with
  |some t,[x]=>match E.kindOf t with
   |some .str=>M (.p .lenStr,[x])
   |some (.slice _)=>M (.p .lenSl,[x])
   |_=>G
  |_,_=>G
 |.call {callee:=.builtin .cap,args,argTypes}=>match argTypes[0]?,args.toList with
  |some t,[x]=>match E.kindOf t with
   |some (.slice _)=>M (.p .capSl,[x])
   |_=>G
  |_,_=>G
 |.call {callee:=.builtin .clear,args,argTypes}=>match argTypes[0]?,args.toList with
  |some t,[x]=>match E.kindOf t with
   |some (.slice e)=>(E.tt e).map λd=>(.l (.clear d.size d.zero),[x])
   |_=>G
  |_,_=>G
 |.panic _=>M (.p .bad,[])
 |.makeInterface ..=>M (.p .bad,[])
 |.call {callee:=.builtin .max,args,..}=>match args.toList with
  |[x,y]=>M (.p .max,[x,y])
  |[x,y,z,t]=>M (.p .max4,[x,y,z,t])
  |_=>G
 |.call {callee:=.builtin .min,args,..}=>match args.toList with
  |[x,y]=>M (.p .min,[x,y])
  |_=>G
 |.call {callee:=.value f,args,..}=>M (.c,f::args.toList)
 |_=>G
section
variable{E:Env}{nm:Y'->aY Nat}{N:Nat->Y'}{F:WP}
def qE{x:UV}{vs:So}(h:gm F [x]=M vs):∃a,ev F x=M a/\vs=[a]:=by simp[gm]at h;grind
def j7{x:UV}{l:aX UV}{vs:So}(h:gm F (x::l)=M vs):∃a az,ev F x=M a/\gm F l=M az/\vs=a::az:=by simp[gm]at h;grind
def tj{vs:So}(h:gm F []=M vs):vs=[]:=by simp[gm]at h;grind
def vr{x y:UV}{vs:So}(h:gm F [x,y]=M vs):∃a b,ev F x=M a/\ev F y=M b/\vs=[a,b]:=by obtain⟨a,az,w,u,rfl⟩:=j7 h;obtain⟨b,z,rfl⟩:=qE u;grind
def LK{x y z:UV}{vs:So}(h:gm F [x,y,z]=M vs):∃a b c,ev F x=M a/\ev F y=M b/\ev F z=M c/\vs=[a,b,c]:=by obtain⟨a,az,w,u,rfl⟩:=j7 h;obtain⟨b,c,B,d,rfl⟩:=vr u;grind
def QN{l m:aX UV}{vs:So}(h:gm F (l++m)=M vs):∃az B,gm F l=M az/\gm F m=M B/\vs=az++B:=by induction l generalizing vs with|nil=>exact⟨[],vs,rfl,h,rfl⟩|cons x l u=>obtain⟨a,az,w,z,rfl⟩:=j7 h;obtain⟨b,c,C,d,rfl⟩:=u z;refine⟨a::b,c,?_,d,Y⟩;simp[gm,w,C]
def Pp{l:aX UV}{vs:So}(h:gm F l=M vs):W vs=W l:=by induction l generalizing vs with|nil=>rw[tj h];rfl|cons x l u=>obtain⟨a,az,_,w,rfl⟩:=j7 h;grind
def DR(E:Env)(N:Nat->Y')(F:WP)(op:Op)(vs:So):K->Prop
 |.p p=>cV op=.pure/\∀v,bV N p vs=M v->bS E F op=M v|.r r=>cV op=.read/\∀H v,fW H r vs=M v->eH E F H op=M v|.a a=>cV op=.alloc/\∀x,nO a vs=M x->fP E F op=M x|.l l=>cV op=.loud/\∀H x,fR H l vs=M x->cQ E F H op=M x|.e _=>False|.b=>cV op=.pure/\∃x,vs=[x]/\∀H ys l,dX H 1 x=M ys->nM ys=M l->bS E F op=G/\evalConv E F H op=M (.str (lB l))|.c=>cV op=.call/\∃f az,vs=f::az/\lP F op=(match f with|.clo g a b=>M (.fn g,a++az++b)|.yld id=>M (.yld id,az)|_=>G)
def Ku(place:Nat->aY (Nat×Nat)):∀(ps:aX (Nat×UV))(q:aX (Nat×Nat))(vs:So)(cells cs:So),(ps.mapM λ(x:Nat×UV)=>place x.1)=M q->
 gm F (ps.map λ(x:Nat×UV)=>x.2)=M vs->mK cells q vs=M cs->∃B,oy F ps=M B/\wW place cells B=M cs:=by
 intro ps
 induction ps with
 |nil=>
  intro q vs cells cs u b h;simp at u;subst u;have:=tj (by simpa using b);subst this
  simp[mK]at h;subst h;exact⟨[],rfl,rfl⟩
 |cons p ps D=>
  intro q vs cells cs u b h;have⟨i,x⟩:=p;simp only[List.mapM_cons,Option.pure_def,Option.bind_eq_bind,ζg,ζa]at u;obtain⟨pl,w,d,z,rfl⟩:=u;obtain⟨a,az,I,C,rfl⟩:=j7 (by simpa using b)
  simp only[mK]at h;split at h
  .simp_all
  have⟨B,c,J⟩:=D d az _ cs z C h;refine⟨(i,a)::B,by simp[oy,I,c],?_⟩
  simp[wW,w]
  grind
def Sv:∀(ps:aX (Nat×UV))(vs:So),gm F (ps.map λ(x:Nat×UV)=>x.2)=M vs->oy F ps=M ((ps.map λ(x:Nat×UV)=>x.1).zip vs):=by intro ps;induction ps with|nil=>simp[oy]|cons p ps w=>intro vs b;obtain⟨a,az,z,u,rfl⟩:=j7 (by simpa using b);simp[oy,z,w az u]
def KZ{lo hi:aY UV}{vs:So}{l h:Ps}(c:gm F (lo.toList++hi.toList)=M vs)(B:oK lo.isSome hi.isSome vs=M (l,h)):lS F lo=M l/\lS F hi=M h:=by
 cases lo with
 |none=>cases hi with|none=>have:=tj (by simpa using c);subst this;obtain⟨rfl,rfl⟩:=B;exact⟨rfl,rfl⟩|some y=>obtain⟨b,u,rfl⟩:=qE (by simpa using c);cases b<;>simp[oK]at B;obtain⟨rfl,rfl⟩:=B;simp[lS,u]
 |some x=>cases hi with|none=>obtain⟨b,u,rfl⟩:=qE (by simpa using c);cases b<;>simp[oK]at B;obtain⟨rfl,rfl⟩:=B;simp[lS,u]|some y=>obtain⟨a,b,w,u,rfl⟩:=vr (by simpa using c);cases a<;>cases b<;>simp[oK]at B;obtain⟨rfl,rfl⟩:=B;simp[lS,w,u]
def Dp{t:W'}{kk:zm}{k:V}(h:FU E t=M kk)(a:rZ kk k=O):z_ E t k=O:=by unfold FU at h;unfold z_;cases u:E.kindOf t with|none=>grind|some tk=>rw[u]at h;have b:(E.eqN t).map zm.ints=M kk->∃n cs,E.eqN t=M n/\k=.agg cs/\(W cs==n&&(jE cs).isSome)=O:=(by intro h;simp at h;obtain⟨n,w,rfl⟩:=h;cases k<;>simp[rZ]at a<;>first|grind|grind);cases tk with|int z=>simp at h;subst h;cases k<;>simp[rZ]at a;grind|str=>simp at h;subst h;cases k<;>simp[rZ]at a;rfl|_=>obtain⟨n,cs,c,rfl,B⟩:=b h;simp_all
def kL(hN:∀f s,nm f=M s->N s=f){op:Op}{k:K}{os:aX UV}{vs:So}(h:resolve E nm op=M (k,os))(g:gm F os=M vs):DR E N F op vs k:=by
 cases op with
 |move x=>obtain⟨rfl,rfl⟩:=h;obtain⟨a,B,rfl⟩:=qE g;exact⟨rfl,λv w=>by simpa[bV,bS,B]using w⟩|assign x=>obtain⟨rfl,rfl⟩:=h;obtain⟨a,B,rfl⟩:=qE g;exact⟨rfl,λv w=>by simpa[bV,bS,B]using w⟩|pick c a b=>simp[resolve]at h;obtain⟨rfl,rfl⟩:=h;obtain⟨x,y,z,hx,hy,d__,rfl⟩:=LK g;refine⟨_i,λv w=>?_⟩;cases x<;>simp[bV]at w;rename_i t;subst w;cases t<;>simp[bS,hx,hy,d__]|nilCheck x=>simp[resolve]at h;obtain⟨rfl,rfl⟩:=h;obtain⟨a,B,rfl⟩:=qE g;refine⟨_i,λv w=>?_⟩;cases a<;>simp[bV,P0]at w<;>subst w<;>simp[bS,B]|binOp ai t x y yt=>simp only[resolve,ζa,ζc]at h;obtain⟨rfl,rfl⟩:=h;obtain⟨a,b,B,b__,rfl⟩:=vr g;exact⟨rfl,λv w=>by simp only[bS,B,b__,YZ];exact w⟩|unOp u t x=>cases u with|not=>simp only[resolve,ζa,ζc]at h;obtain⟨rfl,rfl⟩:=h;obtain⟨a,B,rfl⟩:=qE g;refine⟨_i,λv w=>?_⟩;cases a<;>simp[bV]at w;subst w;simp[bS,B]|neg=>simp only[resolve,ζa,ζc]at h;obtain⟨rfl,rfl⟩:=h;obtain⟨a,B,rfl⟩:=qE g;refine⟨_i,λv w=>?_⟩;cases a<;>simp[bV]at w;subst w;simp[bS,B]|_=>simp[resolve]at h
 |convert s d x=>
  simp only[resolve]at h;split at h
  .rename_i sd td a__ hd;split at h;rename_i k j;simp only[ζa,ζc]at h;obtain⟨rfl,rfl⟩:=h;obtain⟨a,B,rfl⟩:=qE g;refine⟨_i,λv w=>?_⟩;cases a<;>simp[bV]at w;subst w;simp[bS,B,a__,hd,j]
   .rename_i j;split at h
    .rename_i e he;split at h
     .rename_i hu;simp only[ζa,ζc]at h;obtain⟨rfl,rfl⟩:=h;obtain⟨a,B,rfl⟩:=qE g;refine⟨_i,a,_i,λH ys l n J=>?_⟩;have ab:E.kindOf d=M .str:=(by unfold Env.kindOf;rw[hd,B?,j]);refine⟨?_,by simp only[evalConv,he,ab,B,hu,n,J,ζb,B?]⟩;simp only[bS,a__,hd,B];cases a<;>first|rfl|(simp only[dX]at n;cases n)
     simp at h
    simp at h
   simp at h
  simp at h
 |fieldAddr s x f=>simp only[resolve]at h;split at h;rename_i fs j;split at h;rename_i off t W;split at h;rename_i d hd;split at h;simp at h;rename_i d__;simp only[ζa,ζc]at h;obtain⟨rfl,rfl⟩:=h;obtain⟨a,B,rfl⟩:=qE g;refine⟨_i,λv w=>?_⟩;simp only[bS,B,j,W,hd,K' d__];simp only[bV,tD]at w;cases a<;>simp at w⊢ <;>exact w;simp at h;simp at h;simp at h|field s x f=>
  simp only[resolve]at h;split at h
  .rename_i fs j;split at h
   .rename_i off t W;split at h
    .rename_i d hd;simp only[ζa,ζc]at h;obtain⟨rfl,rfl⟩:=h;obtain⟨a,B,rfl⟩:=qE g;refine⟨_i,λv w=>?_⟩;cases a<;>simp only[bV]at w<;>first|(simp only[bS,B,j,W,hd];exact w)|simp at w
    simp at h
   simp at h
  simp at h
 |indexAddr t x i=>
  simp only[resolve]at h;split at h
  .rename_i e j;simp only[ζf,ζc]at h;obtain⟨d,hd,rfl,rfl⟩:=h;obtain⟨a,b,B,b__,rfl⟩:=vr g;refine⟨_i,λv w=>?_⟩;(cases b<;>simp only[bV]at w<;>first|simp at w;done|skip);simp only[bS,B,b__,j,hd];unfold nU at w;exact w
  .rename_i len e j;simp only[ζf,ζc]at h;obtain⟨d,hd,rfl,rfl⟩:=h;obtain⟨a,b,B,b__,rfl⟩:=vr g;refine⟨_i,λv w=>?_⟩;(cases b<;>simp only[bV]at w<;>first|simp at w;done|skip);simp only[bS,B,b__,j,hd];unfold zS at w;exact w
  simp at h
 |index t x i=>
  simp only[resolve]at h;split at h
  .rename_i j;simp only[ζa,ζc]at h;obtain⟨rfl,rfl⟩:=h;obtain⟨a,b,B,b__,rfl⟩:=vr g;refine⟨_i,λv w=>?_⟩;(cases a<;>cases b<;>simp only[bV]at w<;>first|simp at w;done|skip);simp only[bS,B,b__,j];exact w
  .rename_i len e j;simp only[ζf,ζc]at h;obtain⟨d,hd,rfl,rfl⟩:=h;obtain⟨a,b,B,b__,rfl⟩:=vr g;refine⟨_i,λv w=>?_⟩;(cases a<;>cases b<;>simp only[bV]at w<;>first|simp at w;done|skip);simp only[bS,B,b__,j,hd];exact w
  simp at h
 |slice t x lo hi mx=>
  simp only[resolve]at h;split at h
  .rename_i j;simp only[ζa,ζc]at h;obtain⟨rfl,rfl⟩:=h;obtain⟨a,bs,B,b__,rfl⟩:=j7 g;refine⟨_i,λv w=>?_⟩;(cases a<;>simp only[bV]at w<;>first|simp at w;done|skip);have⟨⟨l,h⟩,X,w⟩:=ζg.1 w;have⟨n,J⟩:=KZ b__ X;have P:lS F G=M G:=rfl;simp only[bS,B,j,n,J,P];exact w
  rename_i e j;simp only[ζf,ζc]at h;obtain⟨d,hd,rfl,rfl⟩:=h;obtain⟨a,bs,B,b__,rfl⟩:=j7 g;refine⟨_i,λv w=>?_⟩;simp only[bV]at w;have⟨⟨l,h⟩,X,w⟩:=ζg.1 w;have⟨n,J⟩:=KZ b__ X;have P:lS F G=M G:=rfl;simp only[bS,B,j,n,J,P,hd];cases a<;>exact w
  .rename_i e m j;split at h
   .rename_i d hh hd;simp only[ζa,ζc]at h;obtain⟨rfl,rfl⟩:=h;obtain⟨a,b,c,B,b__,o,rfl⟩:=LK g;refine⟨_i,λv w=>?_⟩;(cases b<;>cases c<;>simp only[bV]at w<;>first|simp at w;done|skip);rename_i k1 n1 k2 n2;split at w;rename_i T;simp only[ζh,_g]at T;obtain⟨⟨n,rfl⟩,rfl⟩:=T;have m1:lS F G=M G:=rfl;have m2:lS F (M hh)=M (M 0):=(by simp[lS,b__]);have m3:lS F (M m)=M (M 0):=(by simp[lS,o]);simp only[bS,B,j,m1,m2,m3,hd];cases a<;>simp[Qs]at n<;>exact w;simp at w
   simp at h
  simp at h
 |build t ps=>
  simp only[resolve]at h;split at h;rename_i d hd;split at h;rename_i fs j;split at h;rename_i pl ad;simp only[ζf,ζc]at h;obtain⟨q,hq,rfl,rfl⟩:=h;refine⟨_i,λv w=>?_⟩;simp only[bV,ζf]at w;obtain⟨cs,Y,rfl⟩:=w;have⟨ws,R,w2⟩:=Ku (λi=>pl[i]?) _ q vs _ cs hq g Y;simp only[bS,hd,R,j,ad,w2,B?];simp at h;rename_i len e j;simp only[ζf,ζc]at h;obtain⟨A,ae,rfl,rfl⟩:=h;refine⟨_i,λv w=>?_⟩;simp only[bV,ζf]at w;obtain⟨cs,Y,rfl⟩:=w;have⟨ws,R,w2⟩:=Ku (λi=>M (i*A.size,A.size)) ps.toList (ps.toList.map λq=>(q.1*A.size,A.size)) vs _ cs (by
   generalize ps.toList=l
   induction l with
   |nil=>rfl|cons x l ih=>simp[List.mapM_cons,ih]) g Y
  simp only[bS,hd,R,j,ae,w2,B?];simp at h;simp at h
 |makeFunc f a b=>cases f with|func f=>simp only[resolve,ζf,ζc]at h;obtain⟨s,a__,rfl,rfl⟩:=h;obtain⟨az,bs,B,b__,rfl⟩:=QN g;refine⟨_i,λv w=>?_⟩;simp only[bV,ζa]at w;subst w;simp only[bS,B,b__,hN f s a__];rw[<-Pp B];simp|_=>simp[resolve]at h
 |extract x i=>simp only[resolve,ζa,ζc]at h;obtain⟨rfl,rfl⟩:=h;obtain⟨a,B,rfl⟩:=qE g;refine⟨_i,λv w=>?_⟩;(cases a<;>simp only[bV]at w<;>first|simp at w;done|skip);simp only[bS,B];exact w|load t x=>simp only[resolve,ζf,ζc]at h;obtain⟨d,hd,rfl,rfl⟩:=h;obtain⟨a,B,rfl⟩:=qE g;exact⟨rfl,λH v w=>by simp only[eH,hd,B];exact w⟩|lookup t m k ok=>simp only[resolve]at h;split at h;rename_i kt et j;split at h;rename_i d kk hd L;simp only[ζf,ζc]at h;obtain⟨z,d__,rfl,rfl⟩:=h;obtain⟨a,b,B,b__,rfl⟩:=vr g;refine⟨_i,λH v w=>?_⟩;simp only[fW]at w;split at w;rename_i aa c__;split at w;rename_i Q;simp only[eH,j,B,b__,hd,c__,Dp L Q,L',d__];split at w;(next W=>rw[W];exact w);(next W=>rw[W];exact w);simp at w;simp at w;simp at w;simp at h;simp at h|alloc t=>simp only[resolve,ζf,ζc]at h;obtain⟨d,hd,rfl,rfl⟩:=h;have:=tj g;subst this;exact⟨rfl,λx w=>by simpa[nO,fP,hd]using w⟩|box t x=>simp only[resolve,ζa,ζc]at h;obtain⟨rfl,rfl⟩:=h;obtain⟨a,B,rfl⟩:=qE g;exact⟨rfl,λx w=>by simp only[fP,B];exact w⟩|makeSlice t l c=>
  simp only[resolve]at h;split at h
  .rename_i e j;split at h
   .rename_i d hd;split at h
    .rename_i S;simp only[ζa,ζc]at h;obtain⟨rfl,rfl⟩:=h;obtain⟨a,b,B,b__,rfl⟩:=vr g;refine⟨_i,λx w=>?_⟩;(cases a<;>cases b<;>simp only[nO]at w<;>first|simp at w;done|skip);rename_i k1 n1 k2 n2;split at w;(next o=>simp only[fP,j,B,b__,hd];rw[J0 ⟨o.1,o.2.1,o.2.2.1,o.2.2.2.1,o.2.2.2.2,S⟩];exact w);simp at w
    simp at h
   simp at h
  simp at h
 |buildSlice t len ps=>simp only[resolve]at h;split at h;rename_i e j;split at h;rename_i d hd;split at h;rename_i S;simp only[ζa,ζc]at h;obtain⟨rfl,rfl⟩:=h;refine⟨_i,λx w=>?_⟩;have d__:=Sv _ _ g;simp only[nO]at w;split at w;simp only[fP,j,d__,hd,J0 S];exact w;simp at w;simp at h;simp at h;simp at h|makeMap t r=>cases r with|none=>simp only[resolve,ζa,ζc]at h;obtain⟨rfl,rfl⟩:=h;have:=tj g;subst this;exact⟨rfl,λx w=>by simpa[nO,fP]using w⟩|some r=>simp[resolve]at h
 |store t p x=>simp only[resolve,ζf,ζc]at h;obtain⟨d,hd,rfl,rfl⟩:=h;obtain⟨a,b,B,b__,rfl⟩:=vr g;refine⟨_i,λH v w=>?_⟩;(cases a<;>simp only[fR]at w<;>first|simp at w;done|skip);simp only[cQ,hd,B,b__];exact w|mapUpdate t m k x=>
  simp only[resolve]at h;split at h
  .rename_i kt et j;simp only[ζf,ζc]at h;obtain⟨kk,L,rfl,rfl⟩:=h;obtain⟨a,b,c,B,b__,o,rfl⟩:=LK g;refine⟨_i,λH v w=>?_⟩;(cases a<;>simp only[fR]at w<;>first|simp at w;done|skip);simp only[cQ,j,B,b__,o];split at w;rename_i aa c__;split at w;(next Q=>rw[c__];simp only[Dp L Q,L'];exact w);simp at w;simp at w
  simp at h
 |insert t m k x=>
  simp only[resolve]at h;split at h
  .rename_i kt et j;simp only[ζf,ζc]at h;obtain⟨kk,L,rfl,rfl⟩:=h;obtain⟨a,b,c,B,b__,o,rfl⟩:=LK g;refine⟨_i,λH v w=>?_⟩;(cases a<;>simp only[fR]at w<;>first|simp at w;done|skip);simp only[cQ,j,B,b__,o];split at w;rename_i aa c__;split at w;(next Q=>rw[c__];simp only[Dp L Q,L'];exact w);simp at w;simp at w
  simp at h
 |call c=>
  have⟨callee,args,aj⟩:=c
  cases callee with
  |value f=>simp only[resolve,ζa,ζc]at h;obtain⟨rfl,rfl⟩:=h;obtain⟨a,az,B,has,rfl⟩:=j7 g;refine⟨_i,a,az,_i,?_⟩;simp only[lP,B,has];cases a<;>rfl|builtin b=>
   cases b with
   |append=>simp only[resolve]at h;split at h;rename_i t t' s x I C;split at h;rename_i e e' j e__;split at h;rename_i d hd;split at h;rename_i S;simp only[ζa,ζc]at h;obtain⟨rfl,rfl⟩:=h;obtain⟨a,b,B,b__,rfl⟩:=vr g;refine⟨_i,λH v w=>?_⟩;have D:gm F args.toList=M [a,b]:=(by rw[C];exact g);simp only[cQ,I,D,j,e__,hd];simp only[fR]at w;split at w;(next n J=>rw[n,J];exact w);rename_i xs ys af n J;rw[n,J];split at w;rename_i ah;simp only[J0 (show _j xs+_j ys<=2147483648/\d.bytes<=4096/\0<d.bytes from⟨ah,S⟩)];(cases ys with|nil=>exact _c _i af|cons y ys=>exact w);simp at w;simp at w;simp at h;simp at h;rename_i e kk j e__;simp only[ζf,ζc]at h;obtain⟨d,hd,rfl,rfl⟩:=h;obtain⟨a,b,B,b__,rfl⟩:=vr g;refine⟨_i,λH v w=>?_⟩;have D:gm F args.toList=M [a,b]:=(by rw[C];exact g);simp only[cQ,I,D,j,e__,hd];exact w;simp at h;simp at h|cap=>
    simp only[resolve]at h;split at h
    .rename_i t x I C;split at h
     .rename_i e j;simp only[ζa,ζc]at h;obtain⟨rfl,rfl⟩:=h;obtain⟨a,B,rfl⟩:=qE g;have D:gm F args.toList=M [a]:=(by rw[C];exact g);refine⟨_i,λx w=>?_⟩;simp only[bS,I,D,j];simp only[bV]at w;cases a<;>simp only[K6]at w<;>first|(simp at w;done)|exact w
     simp at h
    simp at h
   |clear=>simp only[resolve]at h;split at h;rename_i t x I C;split at h;rename_i e j;simp only[ζf,ζc]at h;obtain⟨d,hd,rfl,rfl⟩:=h;obtain⟨a,B,rfl⟩:=qE g;have D:gm F args.toList=M [a]:=(by rw[C];exact g);refine⟨_i,λH v w=>?_⟩;simp only[cQ,I,D,j,hd];exact w;simp at h;simp at h|len=>
    simp only[resolve]at h;split at h
    .rename_i t x I C;split at h
     .rename_i j;simp only[ζa,ζc]at h;obtain⟨rfl,rfl⟩:=h;obtain⟨a,B,rfl⟩:=qE g;have D:gm F args.toList=M [a]:=(by rw[C];exact g);refine⟨_i,λv w=>?_⟩;(cases a<;>simp only[bV]at w<;>first|simp at w;done|skip);simp only[bS,D,I,j];exact w
     rename_i e j;simp only[ζa,ζc]at h;obtain⟨rfl,rfl⟩:=h;obtain⟨a,B,rfl⟩:=qE g;have D:gm F args.toList=M [a]:=by rw[C];exact g
     refine⟨_i,λv w=>?_⟩;simp only[bS,D,I,j];simp only[bV,qq]at w;cases a<;>simp at w⊢ <;>exact w;simp at h
    simp at h
   |max=>
    simp only[resolve]at h;split at h
    .rename_i x y C;simp only[ζa,ζc]at h;obtain⟨rfl,rfl⟩:=h;obtain⟨a,b,B,b__,rfl⟩:=vr g;have D:gm F args.toList=M [a,b]:=(by rw[C];exact g);refine⟨_i,λv w=>?_⟩;(cases a<;>cases b<;>simp only[bV]at w<;>first|simp at w;done|skip);simp only[bS,D];exact w
    .rename_i x y z t C;simp only[ζa,ζc]at h;obtain⟨rfl,rfl⟩:=h;obtain⟨a,ak,B,J,rfl⟩:=j7 g;obtain⟨b,c,d,b__,o,hd,rfl⟩:=LK J;have D:gm F args.toList=M [a,b,c,d]:=(by rw[C];exact g);refine⟨_i,λv w=>?_⟩;(cases a<;>cases b<;>simp only[bV]at w<;>first|simp at w;done|skip);(cases c<;>cases d<;>simp only[bV]at w<;>first|simp at w;done|skip);simp only[bS,D];exact w
    simp at h
   |min=>
    simp only[resolve]at h;split at h
    .rename_i x y C;simp only[ζa,ζc]at h;obtain⟨rfl,rfl⟩:=h;obtain⟨a,b,B,b__,rfl⟩:=vr g;have D:gm F args.toList=M [a,b]:=(by rw[C];exact g);refine⟨_i,λv w=>?_⟩;(cases a<;>cases b<;>simp only[bV]at w<;>first|simp at w;done|skip);simp only[bS,D];exact w
    simp at h
   |_=>simp[resolve]at h
  |_=>simp[resolve]at h
 |panic x=>simp only[resolve,ζa,ζc]at h;obtain⟨rfl,rfl⟩:=h;have:=tj g;subst this;exact⟨rfl,λx w=>by simp[bV]at w⟩|makeInterface t x=>simp only[resolve,ζa,ζc]at h;obtain⟨rfl,rfl⟩:=h;have:=tj g;subst this;exact⟨rfl,λx w=>by simp[bV]at w⟩|_=>simp[resolve]at h
end
structure CT(c c':d_):Prop where
 lv:c.lv<=c'.lv
 go:∀x a H r,c x a H=some r->c' x a H=some r
section
variable{E:Env}{c c':d_}{n:Nat}{ops:R0}{F F':WP}{H H':bl}
def MQ{f:Y'}{args:So}{y:V}(hi:cu c f args H=M y):∃az,borrows c.lv H args=M az:=by
 unfold cu at hi;split at hi;next az h=>exact⟨az,h⟩
 cases hi
def Gd(B:c.lv<=c'.lv){f:Y'}(h:∀a H r,c (.fn f) a H=M r->c' (.fn f) a H=M r){args:So}{y:V}(hi:cu c f args H=M y):cu c' f args H=M y:=by
 unfold cu at hi⊢;split at hi;rename_i az u;rw[vE B u];split at hi;rename_i b;simp only;rw[h _ _ _ b];split at hi;next w=>simp only;rw[u9 B w];exact hi
 cases hi;simp at hi;simp at hi
def qx(h:CT c c'){f:Y'}{args:So}{y:V}(hi:cu c f args H=M y):cu c' f args H=M y:=Gd h.lv (λ_ _ _=>h.go _ _ _ _) hi
def oM(B:c.lv<=c'.lv){f:Y'}{args:So}{y:V}(hi:cu c f args H=M y):dy (cE c'.lv H) args=dy (cE c.lv H) args:=by have⟨az,h⟩:=MQ hi;exact B0 B h
def GO(B:c.lv<=c'.lv){f:Y'}(h:∀a H r,c (.fn f) a H=M r->c' (.fn f) a H=M r){args:So}{r:V×bl}(hi:oq c f args H=M r):oq c' f args H=M r:=by
 unfold oq at hi⊢;split at hi;rename_i az u;rw[vE B u];split at hi;next b=>simp only;rw[h _ _ _ b];exact hi
 simp at hi;simp at hi
def MI(h:CT c c'){f:Y'}{args:So}{r:V×bl}(hi:oq c f args H=M r):oq c' f args H=M r:=GO h.lv (λ_ _ _=>h.go _ _ _ _) hi
def C0(h:CT c c'){f:Y'}{args:So}{r:V×bl}(hi:h_ E c f args H=M r):h_ E c' f args H=M r:=by
 unfold h_ at hi⊢;split;next u=>rw[J0 u]at hi;exact MI h hi
 rename_i u;rw[K' u]at hi;exact h.go _ _ _ _ hi
def Dl(T:c.lv<=c'.lv){f:Y'}{args:So}{y J:V}{b:Nat}(a:cu c f args (H.take b)=G)(B:cu c f args H=M y)(D:cu c' f args (H.take b)=M J):False:=by
 unfold cu at a B D;split at D;rename_i az d;split at B;rename_i g u;have e:=qy (λx y z k1 k2=>M_ (H2:=H.take b) c.lv c'.lv x y z k1 k2 λid w=>by
  rw[I?]at w⊢;split at w
  next C=>rw[J0 C]
  cases w) u d
 have I:borrows c.lv H args=M az:=vQ (Ew c.lv) e;rw[I]at u;cases u;rw[show borrows c.lv (H.take b) args=M az from e]at a;simp only at a;rw[a]at B;simp at B;simp at B;simp at D
def Rj(h:CT c c'){place:aY (Nat×Nat)}{op:Op}{r:V×bl}(hi:dn E c ops place F H op=M r):dn E c' ops place F H op=M r:=by
 unfold dn at hi⊢;split at hi;exact hi;exact hi;exact hi;exact hi;split at hi
 .rename_i f args B;split at hi;rotate_left;cases hi;rename_i C;rw[J0 C];unfold eP at hi⊢;split at hi;rename_i a;rw[J0 a];split at hi;exact C0 h hi;skip;split at hi;(next z=>rw[J0 z];exact C0 h hi);simp at hi;rename_i a;rw[K' a];split at hi;skip;split at hi;(next y u=>rw[qx h u,oM h.lv u];exact hi);simp at hi;rename_i b i;skip;split at hi;(next y u=>rw[qx h u,oM h.lv u];exact hi);rename_i w;split at hi;rename_i z;split at hi;rename_i y u;(cases D:cu c' f args (List.take b H)with|some d=>exact(Dl h.lv w u D).elim|none=>simp only[J0 z,qx h u,oM h.lv u];exact hi);simp at hi;simp at hi
 rename_i id args B;split at hi;exact h.go _ _ _ _ hi;skip;split at hi;next z=>rw[J0 z];exact h.go _ _ _ _ hi
 simp at hi;simp at hi
def FW(h:CT c c'){place:aY (Nat×Nat)}{o:Oper}{r:WP×bl}(hi:iI E c n ops place o F H=M r):iI E c' n ops place o F H=M r:=by
 unfold iI at hi⊢;split at hi;rename_i u;rw[J0 u];split at hi;next v H1 hd=>rw[Rj h hd];exact hi
 simp at hi;rename_i u;rw[K' u];exact hi
def Ej(h:CT c c'){r:WP×bl}:∀(l:R0){F:WP}{H:bl},ov E c n ops l F H=M r->ov E c' n ops l F H=M r
 |[],_,_,hi=>hi|o::l,F,H,hi=>by simp only[ov]at hi⊢;split at hi;(next F1 H1 B=>rw[FW h B];exact Ej h l hi);simp at hi
def Eu(h:CT c c'){j?:Nat}{r:WP×bl}:∀(l:ST){F:WP}{H:bl},lR E c n ops j? l F H=M r->lR E c' n ops j? l F H=M r
 |[],_,_,hi=>hi|i::l,F,H,hi=>by simp only[lR]at hi⊢;split at hi;split at hi;(next F1 H1 B=>rw[FW h B];exact Eu h l hi);simp at hi;simp at hi
def Io(h:CT c c'){B:X'}{r:WP×bl}(hi:kX E c n ops B F H=M r):kX E c' n ops B F H=M r:=by
 unfold kX at hi⊢;split;rename_i hd;rw[J0 hd]at hi;split at hi;next u=>rw[J0 u];exact Eu h _ hi
 simp at hi;rename_i hd;rw[K' hd]at hi;exact Ej h _ hi
def BZ{s T:WP->bl->aY (Out×WP×bl)}(h:∀F H r,s F H=M r->T F H=M r):∀(k B:Nat),k<=B->∀{F H r},mL s k F H=M r->mL T B F H=M r
 |0,_,_,F,H,r,hi=>by simp[mL]at hi|k+1,0,hk,F,H,r,hi=>c?|k+1,B+1,hk,F,H,r,hi=>by simp only[mL]at hi⊢;split at hi;(next F1 H1 d=>rw[h _ _ _ d];exact BZ h k B c? hi);rename_i D;rw[h _ _ _ hi];split;(next F1 H1 J=>cases J;exact _c hi (D _ _));rfl
def CG(h:CT c c'){lf B:Nat}(T:lf<=B)(ro:X')(e:Nat):∀(code:Code){F:WP}{H:bl}{r:Out×WP×bl},exec E c lf ro e code F H=M r->exec E c' B ro e code F H=M r:=by intro code;induction code with|skip=>intro F H r hi;exact hi|label l=>intro F H r hi;exact hi|region id ops J=>intro F H r hi;simp only[exec,ζf]at hi⊢;obtain⟨x,L,rfl⟩:=hi;exact⟨x,Io h L,rfl⟩|seq a b u z=>intro F H r hi;simp only[exec]at hi⊢;split at hi;(next F1 H1 d=>rw[u d];exact z hi);rename_i C;rw[u hi];split;(next D=>cases D;exact _c hi (C _ _));rfl|cond x a b u z=>intro F H r hi;simp only[exec]at hi⊢;split at hi;rename_i t S;split at hi;(next j=>subst j;simp only[L'];exact u hi);rename_i j;rw[K' j];exact z hi;simp at hi|block id a I=>intro F H r hi;simp only[exec]at hi⊢;split at hi;(next m F1 H1 d=>rw[I d];exact hi);rename_i C;rw[I hi];split;(next D=>cases D;exact _c hi (C _ _ _));rfl|loop a I=>intro F H r hi;simp only[exec]at hi⊢;exact BZ (λF H r f=>I f) lf B T hi|rangeFunc g ps o q _ _=>intro F H r hi;simp only[exec]at hi⊢;split at hi;split at hi;(next Q H1 i=>rw[h.go _ _ _ _ i];exact hi);simp at hi;simp at hi|exit id=>intro F H r hi;exact hi|ret=>intro F H r hi;exact hi|scope a _=>intro F H r hi;simp[exec]at hi|goto l=>intro F H r hi;simp[exec]at hi|refuse w=>intro F H r hi;simp[exec]at hi
def Ld(E:Env):∀n,CT (run E n) (run E (n+1)):=by intro n;induction n with|zero=>exact⟨b5 _,λx a H r h=>(by cases h)⟩|succ n u=>refine⟨b5 _,λx a H r h=>?_⟩;rw[Kj]at h⊢;cases x with|fn f=>rw[lz]at h⊢;split at h;rename_i j i;split at h;rename_i B;rw[J0 B];split at h;simp at h;rename_i o F1 H1 C Q;rw[CG u (b5 n) _ _ _ Q];(cases o with|exit id=>exact(C id Y).elim|norm=>exact h|ret=>exact h);simp at h;simp at h;split at h;(next D=>rw[J0 D];exact FZ u.lv (λg args y _ S=>qx u S) h);rename_i D;rw[K' D];exact h|yld id=>rw[lz]at h⊢;split at h;rename_i b L;split at h;rename_i T;split at h;rename_i w;split at h;rename_i q H2 d;split at h;rename_i r2 I;split at h;rename_i z;split at h;(next o X m J=>simp only[J0 w,CG u (b5 n) _ _ _ d,I,z,CG u (b5 n) _ _ _ J];exact h);simp at h;simp at h;simp at h;simp at h;simp at h;simp at h;simp at h
def qT(E:Env){n m:Nat}(h:n<=m):CT (run E n) (run E m):=by induction h with|refl=>exact⟨z? _,λ_ _ _ _ h=>h⟩|step _ u=>exact⟨Nat.le_trans u.lv (Ld E _).lv,λx a H r h=>(Ld E _).go x a H r (u.go x a H r h)⟩
theorem qg(E:Env):∀n,(run E n).lv=n
 |0=>rfl|_+1=>rfl
end
def Pz(P:Program)(f:Y'):aY FI:=_l (P.funcs[f]?) λfn=>fn.body.map λb=>⟨fn.ntmps,fn.results.toList,b⟩
def DX(P:Program):X':=P.funcs.toList.all λfn=> !(fn.name== "runtime.NumGoroutine")
def YV{P:Program}(h:DX P=O){f:Y'}{fi:FI}(B:Pz P f=M fi):∃fn,P.funcs[f]?=M fn/\fn.body=M fi.body/\fn.ntmps=fi.ntmps/\fn.results.toList=fi.results/\(fn.name== "runtime.NumGoroutine")=U:=by unfold Pz at B;have⟨fn,h1,w⟩:=ζg.1 B;obtain⟨b,z,rfl⟩:=ζf.1 w;refine⟨fn,h1,z,Y,Y,?_⟩;unfold DX at h;rw[List.all_eq_true]at h;have C:=h fn (by obtain⟨u,rfl⟩:=Array.getElem?_eq_some_iff.1 h1;exact Array.mem_toList_iff.2 (Array.getElem_mem u));simpa using C
def GQ(P:Program)(shut keep own:ST)(two:aX (Nat×Nat))(a:Y'->X')(known:Y'->So->aY V)(soft:ST:=[]):Env where
 tt:=uB P
 ft f:=if shut.contains f then G else Pz P f
 keep:=keep.contains
 own:=own.contains
 eqN t:=lk two t
 sort:=a
 known:=known
 soft:=soft.contains
def KC{P:Program}{shut keep own:ST}{two:aX (Nat×Nat)}{a:Y'->X'}{known:Y'->So->aY V}{soft:ST}(h:DX P=O)(B:∀p∈two,rR P p.1 p.2):fC P (GQ P shut keep own two a known soft)where
 tt t d h:=h
 ft f w u:=by change(if shut.contains f then G else Pz P f)=M w at u;split at u;cases u;exact YV h u
 eqN t n z:=B (t,n) (Tg z)
def sS:S'->aY SW
 |[]=>M []|[.int Z n]::r=>(sS r).map (n::·)|_=>G
def p9(n:Nat)(l:SW):SW:=l.take n++w? (n-W l) 0
def BC(n:Nat)(l:SW):So:=(p9 n l).map (V.int Z)
def yh(n:Nat):So->aY V
 |[.bG]=>M (.agg (BC n []))|[.dN]=>M (.agg (BC n []))|[.fsl 1 xs]=>(sS xs).map λl=>.agg (BC n l)|_=>G
def Eg:∀{xs:S'}{l:SW},sS xs=M l->W l=W xs/\∀(i:Nat)(k:Int),l[i]?=M k->xs[i]?=M [V.int Z k]
 |[],l,h=>by cases h;grind|x::xs,l,h=>by unfold sS at h;split at h;grind;rename_i n r B;obtain⟨rfl,rfl⟩:=B;obtain⟨u,a,rfl⟩:=ζf.1 h;have⟨w,z⟩:=Eg a;grind;simp_all
structure aaU(w:World)(v:Value)(l:List Int):Prop where
 at_:∃a cap,v=.slice a l.length cap/\(a=none->l=[])/\∀ad,a=some ad->l=[]\/∃c el fr,ad.spot=none/\w.heap[ad.block]?=some (.cells c el fr)/\ad.off+l.length<=c.size/\(c.toList.drop ad.off).take l.length=l.map (Value.int .i64)
section
variable{P:Program}{I:cI}{μ:Mu}{H:bl}{w:World}{n:Nat}
def abJ(s:dA I μ H w){x:V}{v:V'}{y:V}(g:bN I μ x v)(B:yh n [x]=M y):∃l,aaU w v l/\y=.agg (BC n l):=by
 have d:=by cases g with|c _ _ h=>omega|_=>simp[yh]at B
 unfold yh at B;split at B;next u=>obtain⟨rfl,_⟩:=u;cases d;cases B;exact⟨[],⟨⟨G,0,Y,λ_=>rfl,λz h=>by cases h⟩⟩,Y⟩
 next u=>obtain⟨rfl,_⟩:=u;cases d;cases B;exact⟨[],⟨⟨_,0,Y,λ_=>rfl,λz h=>.inl Y⟩⟩,Y⟩
 rename_i t u;obtain⟨rfl,_⟩:=u;obtain⟨l,L,rfl⟩:=ζf.1 B;have⟨f,m⟩:=Eg L;refine⟨l,?_,Y⟩;cases d with|fsl0 _ a cap=>have:=List.length_eq_zero_iff.1 f;subst this;exact⟨⟨_,cap,rfl,λ_=>rfl,λz h=>.inl rfl⟩⟩|fsl _ _ b o cap c Q J hu W X hr=>refine⟨⟨_,cap,(by rw[f]),(λh=>by cases h),λz C=>.inr ?_⟩⟩;cases C;have⟨el,fr,S⟩:=s.imm b _ Q;refine⟨c,el,fr,Y,S,g?,?_⟩;refine List.ext_getElem? λi=>?_;rw[I?,Q?];by_cases hi:i<_j l;have T:=m i _ (ζd hi);have D:o+i<c.size:=(by grind);have j:c[o+i*1+0]?=M c[o+i]:=(by simp[D]);have:=hr i 0 _ _ _ T Y j;have e:c[o+i]=.int Z l[i]:=(by generalize c[o+i]=q at this⊢;cases this;rfl);grind;grind
 simp_all
def UK{v:V'}{l:SW}(h:aaU w v l){w':World}(e:∀b,b<w.heap.size->w'.heap[b]?=w.heap[b]?)(n:Nat):
 (lenOf v).run P w'=.ok (W l) w'/\(q! 1 (Nat.min (W l) n) v).run P w'=.ok ((l.take n).map (Value.int Z)).toArray w':=by
 obtain⟨a,f,rfl,D,g⟩:=h.at_;refine⟨by simp[lenOf],?_⟩
 cases a with
 |none=>rw[D Y];simp[q!]|some B=>
  rcases g B rfl with rfl|⟨c,el,fr,C,d,z,hd⟩
  .simp[q!,loadCells,loadCellsFrom]
  have⟨b,o,I⟩:=B;simp only at C d z hd;subst C;have i:=(Array.getElem?_eq_some_iff.1 d).1;have u:=th (by rw[e b i];omega)
  have J:Nat.min (W l) n<=W l:=Nat.min_le_left _ _;simp[q!];rw[y_ u (.inl c?)]
  have:(c.toList.drop o).take (Nat.min (W l) n)=((c.toList.drop o).take (W l)).take n:=by rw[List.take_take];congr 1;exact Nat.min_comm _ _
  simp_all
variable{f A S e:Nat}{fn:Func}{bytes i1 i2 i3 i4 t1 t2 t6 t7:Nat}{p1 p2 p3 p4 p5 p6 p7:String}{e1 e2 e3 e4 e5 e6 e7:Array Edge}
def Bl{o:Oper}{a:Act}{w w':World}{K:Act->World->Prop}{Q:Exit->Act->World->Prop}{v:V'}(B:∀c,o.op≠.defer c)
 (h:(execOp a.eval o).run P w=.ok (.value v) w')(D:K (a.put o.dst v) w'):o.wpIn (fr G) 0 P a w K Q:=by
 refine⟨λ_ _=>trivial,?_⟩
 show o.uponIn (fr G) 0 P a K Q ((o.semAt G a.eval).run P w);rw[Oper.semAt_eq G a.eval o B,h,Oper.uponIn_value];omega
def abw{o:Oper}{a:Act}{w w':World}{K:Act->World->Prop}{Q:Exit->Act->World->Prop}(B:∀c,o.op≠.defer c)
 (h:(execOp a.eval o).run P w=.ok .skip w')(D:K (a.put o.dst undef) w'):o.wpIn (fr G) 0 P a w K Q:=by
 refine⟨λ_ _=>trivial,?_⟩
 show o.uponIn (fr G) 0 P a K Q ((o.semAt G a.eval).run P w);rw[Oper.semAt_eq G a.eval o B,h,Oper.uponIn_skip];omega
def aaq{o:Oper}{id:Nat}{a:Act}{w:World}{Q:Exit->Act->World->Prop}(b:o.guard=G)(h:o.wpIn (fr G) 0 P a w (Q .normal) Q):(Code.region id #[o] U).wpIn (fr G) 0 P Q a w:=by refine wpIn_region ?_;simpa[wpOpsIn,Region.wanted,b]using h
def adE{o o2:Oper}{id:Nat}{a:Act}{w:World}{Q:Exit->Act->World->Prop}(b:o.guard=G)(B:o2.guard=G)(h:o.wpIn (fr G) 0 P a w (λa w=>o2.wpIn (fr G) 0 P a w (Q .normal) Q) Q):(Code.region id #[o,o2] U).wpIn (fr G) 0 P Q a w:=by refine wpIn_region ?_;show wpOpsIn _ _ _ _ _ [0,1] _ _;simpa[wpOpsIn,Region.wanted,b,B]using h
def adM{o o2 o3:Oper}{id:Nat}{a:Act}{w:World}{Q:Exit->Act->World->Prop}(b:o.guard=G)(B:o2.guard=G)(D:o3.guard=G)
 (h:o.wpIn (fr G) 0 P a w (λa w=>o2.wpIn (fr G) 0 P a w (λa w=>o3.wpIn (fr G) 0 P a w (Q .normal) Q) Q) Q):(Code.region id #[o,o2,o3] U).wpIn (fr G) 0 P Q a w:=by
 refine wpIn_region ?_;show wpOpsIn _ _ _ _ _ [0,1,2] _ _;simpa[wpOpsIn,Region.wanted,b,B,D]using h
def Yj(hf:P.funcs[f]?=M fn)
 (hb:fn.body=M (.seq (.region i1 #[⟨M 2,.alloc A,t1,p1,e1,G⟩] U) (.seq (.region i2 #[⟨M 3,.alloc A,t2,p2,e2,G⟩] U)
  (.seq (.region i3 #[⟨M 4,.slice A (.tmp 3) G G G,S,p3,e3,G⟩,⟨M 5,.move (.tmp 0),S,p4,e4,G⟩,⟨M 6,.call {callee:=.builtin .copy,args:=#[.tmp 4,.tmp 5],argTypes:=#[S,S]},t6,p5,e5,G⟩] U)
  (.seq (.region i4 #[⟨M 7,.load A (.tmp 3),A,p6,e6,G⟩,⟨G,.store A (.tmp 2) (.tmp 7),t7,p7,e7,G⟩] U) .ret)))))
 (aB:fn.ntmps=8)(hr:fn.results=#[.cell 2 A])(ah:(fn.name== "runtime.NumGoroutine")=U)
 (hA:P.underlying A=M (.array n e))(hS:P.underlying S=M (.slice e))(he:uB P e=M ⟨1,8,[.int Z 0],.int Z⟩)(aC:uB P A=M ⟨n,bytes,w? n (.int Z 0),.array n e⟩):
 ∀args y,yh n args=M y->zz P f args y:=by
 intro args y hy;refine⟨⟨fn,hf,by simp[hb],ah⟩,λI μ H w vs s hv=>?_⟩
 obtain⟨x,rfl⟩:∃x,args=[x]:=by match args,hy with|[],h=>simp[yh]at h|[x],_=>exact⟨x,rfl⟩|_::_::_,h=>simp[yh]at h
 obtain⟨v,rfl⟩:=length_eq_one_iff.1 (hv.1.symm);obtain⟨l,am,rfl⟩:=abJ s (hv.2 0 x v rfl rfl) hy;have tA:=qM.FX aC;have te:=qM.FX he;obtain⟨z,hz,an,aL,aM⟩:=tA.Dv;have T:z.cells.size=n:=by have:=(an (λ_=>G) (λ_=>G)).1;simp at this;omega
 have key:∀u,bN (λ_=>G) (λ_=>G) (.int Z 0) u->u=.int Z 0:=λu h=>by cases h with|c _ _ h=>cases h;rfl
 have aD:z.cells.toList=w? n (.int Z 0):=by refine List.ext_getElem? λi=>?_;by_cases hi:i<n;have h2:=(an (λ_=>G) (λ_=>G)).2 i (.int Z 0) (z.cells[i]' c?) (by simp[hi]) f?;rw[List.getElem?_replicate,J0 hi];have:=key _ h2;simp[this,T,hi];rw[List.getElem?_eq_none (by simp;omega),List.getElem?_eq_none (by simp;omega)]
 have D:∀w,(Instr.alloc A O (.tuple #[])).run P w=.ok (.pointer (M ⟨w.heap.size,0,G⟩)) (w.alloc (.cells z.cells A)):=by intro w;unfold Instr.alloc;simp[A?,hz,x?,Ig,N?]
 have ad:(w.alloc (.cells z.cells A)).heap.size=w.heap.size+1:=f?
 generalize L:(w.alloc (.cells z.cells A)).alloc (.cells z.cells A)=C;have ao:C.heap.size=w.heap.size+2:=by subst L;simp
 have ap:∀b,b<w.heap.size->C.heap[b]?=w.heap[b]?:=by intro b hb;subst L;rw[mq _ _ c?,mq _ _ hb]
 have aE:C.heap[w.heap.size]?=M (.cells z.cells A):=by subst L;rw[mq _ _ c?,mW]
 have aF:C.heap[w.heap.size+1]?=M (.cells z.cells A):=by subst L;rw[<-ad,mW]
 have ai:C.os=w.os/\C.output=w.output/\C.tape=w.tape/\C.drawn=w.drawn:=by subst L;exact⟨rfl,rfl,rfl,rfl⟩
 have aG:∀a,(i6 A (.pointer (M a)) G G G).run P C=.ok (.slice (M (if n=0 then a else a.add 0)) n n) C:=by intro a;unfold i6;simp[VE.dR hA,f8,Instr.sliceBounds,te.jq]
 have aH:(if n=0 then⟨w.heap.size+1,0,G⟩else(⟨w.heap.size+1,0,G⟩:Addr).add 0)=⟨w.heap.size+1,0,G⟩:=by split<;>rfl
 obtain⟨aq,W⟩:=UK (P:=P) am ap n;have ar:∀(vs:aX V')c,(∀v∈vs,∃k,v=.int c k)->∀v∈vs,v.oneCell'=O:=λvs c h v hv=>by obtain⟨k,rfl⟩:=h v hv;rfl
 obtain⟨X,ae,au⟩:=qQ (o:=0) ((l.take n).map (Value.int Z)) 0 C z.cells aF (ar _ Z (by intro v hv;obtain⟨k,_,rfl⟩:=mem_map.1 hv;exact⟨k,rfl⟩)) (by simp[T];omega)
 generalize g:gP C (w.heap.size+1) (.cells X A)=d at ae;have aj:(copy_ #[S,S] t6 #[.slice (M ⟨w.heap.size+1,0,G⟩) n n,v]).run P C=.ok (goInt (Nat.min l.length n)) d:=by unfold copy_;simp[VE.dR hS,te.jq,aq,W];rw[<-List.map_take,ae];rfl
 have av:∀ρ:UV->V',ρ (.tmp 4)=.slice (M ⟨w.heap.size+1,0,G⟩) n n->ρ (.tmp 5)=v->
  (execOp ρ ⟨M 6,.call {callee:=.builtin .copy,args:=#[.tmp 4,.tmp 5],argTypes:=#[S,S]},t6,p5,e5,G⟩).run P C=.ok (.value (goInt (Nat.min l.length n))) d:=by
  intro ρ h4 h5;simp only[execOp,Go.resolve,A?,N?,x?,invoke,builtin];have:#[Operand.tmp 4,Operand.tmp 5].map ρ=#[.slice (M ⟨w.heap.size+1,0,G⟩) n n,v]:=by simp[h4,h5]
  rw[this,aj];rfl
 have q:X.toList=(p9 n l).map (Value.int Z):=by rw[au];simp[p9,aD];omega
 have B:X.size=n:=by have:=_d length au;simp[T]at this;omega
 have aw:d.heap[w.heap.size+1]?=M (.cells X A):=by subst g;exact iV _ c?
 have ax:d.heap[w.heap.size]?=M (.cells z.cells A):=by subst g;rw[gq _ c?];exact aE
 have ak:(loadAt A (.pointer (M ⟨w.heap.size+1,0,G⟩))).run P d=.ok (.agg X) d:=by unfold loadAt loadVar;have:=y_ (P:=P) (o:=0) (m:=n) (th aw) (.inl c?);have e:((X.toList.drop 0).take n).toArray=X:=(by rw[List.drop_zero,List.take_of_length_le (by simp[B])]);rw[e]at this;have ha:(isAgg A).run P d=.ok O d:=tA.Gw;simp[f8,ha,tA.jq,this]
 obtain⟨Q,af,aI⟩:=qQ (P:=P) (o:=0) X.toList 0 d z.cells ax (ar _ Z (by rw[q];intro v hv;obtain⟨k,_,rfl⟩:=mem_map.1 hv;exact⟨k,rfl⟩)) (by simp[T,B])
 have ay:Q=X:=by apply Array.toList_inj.1;rw[aI];simp[B,T]
 subst ay;generalize Y:gP d w.heap.size (.cells Q A)=J at af;have t:(G' A (.pointer (M ⟨w.heap.size,0,G⟩)) (.agg Q)).run P d=.ok () J:=by unfold G' storeVar;simp[f8,tA.jq,Value.cells,B,af]
 have aA:J.heap[w.heap.size]?=M (.cells Q A):=by subst Y;exact iV _ (by subst g;simp[u5];omega)
 refine callsIn_of_wp_marks hf hb trivial ?_;rw[aB];have e0:[v].toArray++Array.replicate (8-[v].toArray.size) undef=#[v,undef,undef,undef,undef,undef,undef,undef]:=rfl;refine wpIn_seq (aaq rfl (Bl f? (fQ (D w)) ?_))
 refine wpIn_seq (aaq rfl (Bl f? (fQ (D _)) ?_))
 rw[L,ad];show Code.wpIn _ _ _ _ _ {tmps:=#[v,undef,.pointer (M ⟨w.heap.size,0,G⟩),.pointer (M ⟨w.heap.size+1,0,G⟩),undef,undef,undef,undef],defers:=[]} C;refine wpIn_seq (adM rfl rfl rfl (Bl f? (fQ (aG _)) ?_))
 rw[aH];refine Bl f? rfl ?_
 refine Bl f? (av _ rfl rfl) ?_
 refine wpIn_seq (adE rfl rfl (Bl f? (fQ ak) ?_))
 show Oper.wpIn _ _ _ _ {tmps:=#[v,undef,.pointer (M ⟨w.heap.size,0,G⟩),.pointer (M ⟨w.heap.size+1,0,G⟩),.slice (M ⟨w.heap.size+1,0,G⟩) n n,v,goInt (Nat.min l.length n),.agg Q],defers:=[]} d _ _;refine abw f? (w':=J) ?_ ?_
 .show (do G' A (.pointer (M ⟨w.heap.size,0,G⟩)) (.agg Q);pure Next.skip).run P d=_
  simp[t]
 show Code.wpIn _ _ _ _ _ {tmps:=#[v,undef,.pointer (M ⟨w.heap.size,0,G⟩),.pointer (M ⟨w.heap.size+1,0,G⟩),.slice (M ⟨w.heap.size+1,0,G⟩) n n,v,goInt (Nat.min l.length n),.agg Q],defers:=[]} J;refine wpIn_ret ?_;have aJ:∀b,b<w.heap.size->d.heap[b]?=w.heap[b]?:=by intro b hb;subst g;rw[gq _ c?,ap b hb]
 have al:∀b,b<w.heap.size->J.heap[b]?=w.heap[b]?:=by intro b hb;subst Y;rw[gq _ c?,aJ b hb]
 have aK:w.heap.size<=J.heap.size:=by subst Y;subst g;simp[u5,ao]
 have aa:J.os=w.os/\J.output=w.output/\J.tape=w.tape/\J.drawn=w.drawn:=by subst Y;subst g;exact ai
 have ab:(loadVar A ⟨w.heap.size,0,G⟩).run P J=.ok (.agg Q) J:=by unfold loadVar;have:=y_ (P:=P) (o:=0) (m:=n) (th aA) (.inl c?);have e:((Q.toList.drop 0).take n).toArray=Q:=(by rw[List.drop_zero,List.take_of_length_le (by simp[B])]);rw[e]at this;have ha:(isAgg A).run P J=.ok O J:=tA.Gw;simp[ha,tA.jq,this]
 refine⟨.agg Q,?_,.agg Q,I,μ,rfl,.c _ _ (.agg _ _ ?_ ?_),s.kept al,Step.kept al aK aa.1 ⟨aa.2.1,aa.2.2.1,by rw[aa.2.2.2];exact z? _⟩ ?_⟩
 .simp[results,hr,asAddr,ab]
 .have:=_d length q;simpa[BC]using this.symm
 .intro j x y hx hy;have h1:Q.toList[j]?=M y:=by simpa using hy
  rw[q]at h1;simp only[BC,Q?]at hx h1
  cases hp:(p9 n l)[j]?with
  |none=>rw[hp]at hx;cases hx|some k=>rw[hp]at hx h1;cases hx;cases h1;exact .int _ _
 intro a ha h;unfold World.frozen? at h⊢;rw[al _ ha];exact h
end
end Go.VE
namespace Go.VE
variable[b8]
variable{P:Program}
def Kr(a:SW)(j:Nat):(ic a)[j]?=(a[j]?).map (Value.int Z):=by simp[ic]
def IE{i:W'}{a b:SW}{n:Nat}(J:W a=n)(T:W b=n)(hi:uB P i=M ⟨1,8,[.int Z 0],.int Z⟩)(B:P.underlying i=M (.int Z))(d:Nat)(w:World):
 ∀(m k:Nat),k+m=n->(eqItems (d+1) i 1 (ic a) (ic b) (C' k m)).run P w=.ok (a.drop k==b.drop k) w
 |0,k,h=>by have c:a.drop k=[]:=List.drop_eq_nil_of_le c?;have g:b.drop k=[]:=List.drop_eq_nil_of_le c?;simp[eqItems,c,g]|m+1,k,h=>by have u:k<W a:=c?;have z:k<W b:=c?;have pa:(part i (ic a) (k*1)).run P w=.ok (.int Z a[k]) w:=mD hi (by rw[Kr,H3];simp[u]);have I:(part i (ic b) (k*1)).run P w=.ok (.int Z b[k]) w:=mD hi (by rw[Kr,H3];simp[z]);have q:(H! (d+1) i (.int Z a[k]) (.int Z b[k])).run P w=.ok (a[k]==b[k]) w:=AL d _ _ B;have L:=IE J T hi B d w m (k+1) c?;have C:=List.drop_eq_getElem_cons u;have D:=List.drop_eq_getElem_cons z;simp only[List.range'_succ,eqItems,A?,pa,I,q,x?];by_cases e:a[k]=b[k];rw[C,D,List.cons_beq_cons,e];simp only[beq_self_eq_true,Bool.not_true,Bool.true_and,M',Bool.false_eq_true];exact L;have:(a[k]==b[k])=U:=(by simpa using e);rw[C,D,List.cons_beq_cons,this];simp only[Bool.not_false,L',Bool.false_and,N?]
def La{i:W'}{a:SW}{n:Nat}(e:X')(J:W a=n)(hi:uB P i=M ⟨1,8,[.int Z 0],.int Z⟩)(B:P.underlying i=M (.int Z))(d:Nat)(w:World):
 ∀(m k:Nat),k+m=n->(forIn (C' k m) PUnit.unit (λj(_:PUnit)=>do
  let s<-sizeOf i
  let v<-part i (ic a) (j*s)
  w! e (d+1) i v
  pure (ForInStep.yield PUnit.unit)):Sem PUnit).run P w=.ok PUnit.unit w
 |0,k,h=>f?|m+1,k,h=>by have D:k<W a:=c?;have pa:(part i (ic a) (k*1)).run P w=.ok (.int Z a[k]) w:=mD hi (by rw[Kr,H3];simp[D]);have z:(sizeOf i).run P w=.ok 1 w:=(qM.FX hi).jq;have q:(w! e (d+1) i (.int Z a[k])).run P w=.ok () w:=zG d e _ B;have u:=La e J hi B d w m (k+1) c?;simp only[List.range'_succ,v6,A?,z,pa,q,x?,N?]at u⊢;exact u
def rR.arr{t i:W'}{n:Nat}(c:P.underlying t=M (.array n i))(hi:uB P i=M ⟨1,8,[.int Z 0],.int Z⟩)(J:P.underlying i=M (.int Z))(T:P.eqGuardType P.depth t=U):rR P t n:=by
 have⟨Q,z,B,g,_⟩:=(qM.FX hi).info;have C:P.cellsOf i=1:=by unfold Program.cellsOf;simp[B,g]
 have D:∀(w:World)(a b:SW),W a=n->W b=n->(N! t (.agg (ic a)) (.agg (ic b))).run P w=.ok (a==b) w:=by intro w a b d I;show(H! (9999+1) t _ _).run P w=_;rw[run_equalIn_array w 9999 _ _ c B,C,List.range_eq_range'];simpa using IE d I hi J 9998 w n 0 c?
 have L:∀(op:BinOp)(p q:UV)(w:World)(u v:Array V'),(eqGuard op t p q (.agg u) (.agg v)).run P w=.ok () w:=by intro op p q w u v;unfold eqGuard;cases op<;>simp[A?,run_program,W!,T]
 refine⟨?_,?_,D,?_,⟨_,c,.inl ⟨_,_,Y⟩⟩⟩;intro w p q a b d I;rw[A?,L,x?];show(do pure (Value.bool (<-N! t (.agg (ic a)) (.agg (ic b)))):Sem V').run P w=_;rw[A?,D _ _ _ d I];rfl;intro w p q a b d I;rw[A?,L,x?];show(do pure (Value.bool (!(<-N! t (.agg (ic a)) (.agg (ic b))))):Sem V').run P w=_;rw[A?,D _ _ _ d I];rfl;intro w e a d;show(w! e (9999+1) t _).run P w=_;unfold w!;simp only[A?,dR c,x?];have:=La e d hi J 9998 w n 0 c?;simp only[Std.Legacy.Range.forIn_eq_forIn_range',Std.Legacy.Range.size,Nat.sub_zero,Nat.add_one_sub_one,Nat.div_one];rw[show(9998+1:Nat)=9999 from Y]at this;rw[this];rfl
end Go.VE
namespace Go.VE
variable[b8]
variable{P:Program}
def r_{a:SW}(h:W a=3):∃x y z,a=[x,y,z]:=by match a,h with|[x,y,z],_=>exact⟨x,y,z,Y⟩
def Hy(d:Nat)(e:X'){t i:W'}{f g k:Field}(x y z:Int){w:World}(hu:P.underlying t=M (.struct #[f,g,k]))(D:f.type=i)(hg:g.type=i)(hk:k.type=i)(of:f.offset=0)(J:g.offset=1)(ok:k.offset=2)(nf:f.name≠ "_")(T:g.name≠ "_")(h:k.name≠ "_")
 (hi:uB P i=M ⟨1,8,[.int Z 0],.int Z⟩)(B:P.underlying i=M (.int Z)):(w! e (d+1+1) t (.agg (ic [x,y,z]))).run P w=.ok () w:=by
 have u:∀w,(part i (ic [x,y,z]) 0).run P w=.ok (.int Z x) w:=λw=>mD hi Y
 have p1:∀w,(part i (ic [x,y,z]) 1).run P w=.ok (.int Z y) w:=λw=>mD hi Y
 have p2:∀w,(part i (ic [x,y,z]) 2).run P w=.ok (.int Z z) w:=λw=>mD hi Y
 have q:∀(x:Int)w,(w! e (d+1) i (.int Z x)).run P w=.ok () w:=λx w=>zG d e x B
 unfold w!;simp only[A?,dR hu,x?];rw[<-Array.forIn_toList];simp only[v6,List.forIn_nil,A?,D,hg,hk,of,J,ok,nf,T,h,ne_eq,not_false_eq_true,L',u,p1,p2,q,x?,N?]
def rR.three{t i:W'}{f g k:Field}(hu:P.underlying t=M (.struct #[f,g,k]))(T:f.type=i)(hg:g.type=i)(hk:k.type=i)(of:f.offset=0)(j:g.offset=1)(ok:k.offset=2)(nf:f.name≠ "_")(W:g.name≠ "_")(o:k.name≠ "_")
 (hi:uB P i=M ⟨1,8,[.int Z 0],.int Z⟩)(J:P.underlying i=M (.int Z))(hs:P.stoodInHeld t=U)(hq:P.eqGuardType P.depth t=U):rR P t 3:=by
 have L:P.fieldsOf t=#[f,g,k]:=by unfold Program.fieldsOf;rw[hu]
 have d:∀(w:World)(x y z B C D:Int),(N! t (.agg (ic [x,y,z])) (.agg (ic [B,C,D]))).run P w=.ok ([x,y,z]==[B,C,D]) w:=by intro w x y z B C D;show(H! (9999+1) t _ _).run P w=_;rw[run_equalIn_struct w 9999 t _ _ (by rw[L];exact hu) hs,L];have m:∀(x y z:Int)w,(part i (ic [x,y,z]) 0).run P w=.ok (.int Z x) w:=λx y z w=>mD hi Y;have p1:∀(x y z:Int)w,(part i (ic [x,y,z]) 1).run P w=.ok (.int Z y) w:=λx y z w=>mD hi Y;have p2:∀(x y z:Int)w,(part i (ic [x,y,z]) 2).run P w=.ok (.int Z z) w:=λx y z w=>mD hi Y;have q:∀(x y:Int)w,(H! 9999 i (.int Z x) (.int Z y)).run P w=.ok (x==y) w:=λx y w=>AL 9998 x y J;simp only[Op.eqFields,T,hg,hk,of,j,ok,nf,W,o,ne_eq,not_false_eq_true,L',A?,m,q,x?];by_cases h1:x=B;subst h1;by_cases S:y=C;subst S;by_cases X:z=D;subst X;simp[A?,p1,p2,q,W!];have:(z==D)=U:=(by simpa using X);simp[A?,p1,p2,q,W!,this];have:(y==C)=U:=(by simpa using S);simp[A?,p1,q,W!,this];have:(x==B)=U:=(by simpa using h1);simp[this]
 have h:∀(op:BinOp)(p q:UV)(w:World)(u v:Array V'),(eqGuard op t p q (.agg u) (.agg v)).run P w=.ok () w:=by intro op p q w u v;unfold eqGuard;cases op<;>simp[A?,run_program,W!,hq]
 refine⟨?_,?_,?_,?_,⟨_,hu,.inr ⟨_,Y⟩⟩⟩
 .intro w p q a b I Q;obtain⟨x,y,z,rfl⟩:=r_ I;obtain⟨B,C,D,rfl⟩:=r_ Q;rw[A?,h,x?];show(do pure (Value.bool (<-N! t (.agg (ic [x,y,z])) (.agg (ic [B,C,D])))):Sem V').run P w=_
  rw[A?,d];rfl
 .intro w p q a b I Q;obtain⟨x,y,z,rfl⟩:=r_ I;obtain⟨B,C,D,rfl⟩:=r_ Q;rw[A?,h,x?];show(do pure (Value.bool (!(<-N! t (.agg (ic [x,y,z])) (.agg (ic [B,C,D]))))):Sem V').run P w=_
  rw[A?,d];rfl
 .intro w a b I Q;obtain⟨x,y,z,rfl⟩:=r_ I;obtain⟨B,C,D,rfl⟩:=r_ Q;exact d w x y z B C D
 intro w e a I;obtain⟨x,y,z,rfl⟩:=r_ I;exact Hy 9998 e x y z hu T hg hk of j ok nf W o hi J
end Go.VE
namespace Go.VE
variable[b8]
structure CR(E:Env)(c c':d_):Prop where
 lv:c.lv<=c'.lv
 Sw:∀f args H y,E.keep f=false->cu c f args H=some y->cu c' f args H=some y
 dir:∀f args H r,E.keep f=true->c (.fn f) args H=some r->c' (.fn f) args H=some r
 yld:∀id args H r,c (.yld id) args H=some r->c' (.yld id) args H=some r
 rng:∀f args H r,H≠[]->c (.fn f) args H=some r->c' (.fn f) args H=some r
section
variable{E:Env}{c c':d_}{n:Nat}{ops:R0}{F F':WP}{H H':bl}
def NA(h:CR E c c'){f:Y'}{args:So}{r:V×bl}(a:E.keep f=O)(hi:oq c f args H=M r):oq c' f args H=M r:=GO h.lv (λ_ _ _=>h.dir _ _ _ _ a) hi
def Ek(h:CR E c c'){f:Y'}{args:So}{r:V×bl}(a:E.keep f=O)(hi:h_ E c f args H=M r):h_ E c' f args H=M r:=by
 unfold h_ at hi⊢;split;next u=>rw[J0 u]at hi;exact NA h a hi
 rename_i u;rw[K' u]at hi;exact h.dir _ _ _ _ a hi
def Er{place:aY (Nat×Nat)}{f:Y'}(h:mO E ops place f=O):E.keep f=O:=by unfold mO at h;grind
def CR.any(h:CR E c c'){f:Y'}{args:So}{H:bl}{y:V}(hi:cu c f args H=M y):cu c' f args H=M y:=by cases a:E.keep f with|false=>exact h.Sw _ _ _ _ a hi|true=>exact Gd h.lv (λ_ _ _=>h.dir _ _ _ _ a) hi
def V6(h:CR E c c'){place:aY (Nat×Nat)}{op:Op}{r:V×bl}(hi:dn E c ops place F H op=M r):dn E c' ops place F H op=M r:=by
 unfold dn at hi⊢;split at hi;omega;omega;omega;omega;split at hi
 .rename_i f args C;split at hi;rotate_left;cases hi;rename_i B;rw[J0 B];unfold eP at hi⊢;split at hi;rename_i a;rw[J0 a];split at hi;exact Ek h (Er a) hi;split at hi;(next z=>rw[J0 z];exact Ek h (Er a) hi);grind;rename_i a;rw[K' a];split at hi;split at hi;(next y u=>rw[h.any u,oM h.lv u];exact hi);grind;rename_i b i;split at hi;(next y u=>rw[h.any u,oM h.lv u];exact hi);rename_i w;split at hi;rename_i z;split at hi;rename_i y u;(cases D:cu c' f args (List.take b H)with|some d=>exact(Dl h.lv w u D).elim|none=>simp only[J0 z,h.any u,oM h.lv u];exact hi);grind;grind
 split at hi;exact h.yld _ _ _ _ hi;split at hi;next z=>rw[J0 z];exact h.yld _ _ _ _ hi
 grind;grind
def IN(h:CR E c c'){place:aY (Nat×Nat)}{o:Oper}{r:WP×bl}(hi:iI E c n ops place o F H=M r):iI E c' n ops place o F H=M r:=by
 unfold iI at hi⊢;split at hi;rename_i u;rw[J0 u];split at hi;next v H1 hd=>rw[V6 h hd];omega
 grind;grind
def Gu(h:CR E c c'){r:WP×bl}:∀(l:R0){F:WP}{H:bl},ov E c n ops l F H=M r->ov E c' n ops l F H=M r
 |[],_,_,hi=>hi|o::l,F,H,hi=>by simp[ov]at hi⊢;split at hi;(next F1 H1 B=>rw[IN h B];exact Gu h l hi);grind
def G5(h:CR E c c'){j?:Nat}{r:WP×bl}:∀(l:ST){F:WP}{H:bl},lR E c n ops j? l F H=M r->lR E c' n ops j? l F H=M r
 |[],_,_,hi=>hi|i::l,F,H,hi=>by simp[lR]at hi⊢;split at hi;split at hi;(next F1 H1 B=>rw[IN h B];exact G5 h l hi);grind;grind
def JX(h:CR E c c'){B:X'}{r:WP×bl}(hi:kX E c n ops B F H=M r):kX E c' n ops B F H=M r:=by
 unfold kX at hi⊢;split;rename_i hd;rw[J0 hd]at hi;split at hi;next u=>rw[J0 u];exact G5 h _ hi
 grind;rename_i hd;rw[K' hd]at hi;exact Gu h _ hi
def EO(h:CR E c c'){lf B:Nat}(J:lf<=B)(ro:X')(d:Nat):∀(code:Code){F:WP}{H:bl}{r:Out×WP×bl},exec E c lf ro d code F H=M r->exec E c' B ro d code F H=M r:=by intro code;induction code with|skip=>intro F H r hi;exact hi|label l=>intro F H r hi;exact hi|region id ops C=>intro F H r hi;simp only[exec,ζf]at hi⊢;obtain⟨x,i,rfl⟩:=hi;exact⟨x,JX h i,rfl⟩|seq a b u z=>intro F H r hi;simp[exec]at hi⊢;grind|cond x a b u z=>intro F H r hi;simp[exec]at hi⊢;grind|block id a D=>intro F H r hi;simp[exec]at hi⊢;grind|loop a D=>intro F H r hi;exact BZ (λF H r e=>D e) lf B J hi|rangeFunc g ps L j _ _=>intro F H r hi;simp[exec]at hi⊢;split at hi;split at hi;(next I H1 f=>rw[h.rng _ _ _ _ f? f];omega);grind;grind|exit id=>intro F H r hi;exact hi|ret=>intro F H r hi;exact hi|scope a _=>intro F H r hi;simp[exec]at hi|goto l=>intro F H r hi;simp[exec]at hi|refuse w=>intro F H r hi;simp[exec]at hi
def CZ(h:CR E c c'){n m:Nat}(B:n<=m){x:Callee}{a:So}{r:V×bl}(hi:lz E c n x a H=M r):lz E c' m x a H=M r:=by cases x with|fn f=>rw[lz]at hi⊢;split at hi;split at hi;rename_i d;split at hi;simp_all;rename_i o F1 H1 I J;rw[EO h B _ _ _ J];grind;grind;grind;split at hi;(next L=>rw[J0 L];exact FZ h.lv (λg args y b i=>h.Sw _ _ _ _ b i) hi);grind|yld id=>rw[lz]at hi⊢;split at hi;split at hi;split at hi;rename_i u;split at hi;rename_i Q H2 z;split at hi;rename_i r2 C;split at hi;rename_i w;split at hi;(next o S T D=>simp only[J0 u,EO h B _ _ _ z,C,w,EO h B _ _ _ D];omega);grind;grind;grind;grind;grind;grind;grind
mutual
def V.same:Nat->V->V->X'
 |0,_,_=>U|_+1,.bool a,.bool b=>a==b|_+1,.int k a,.int l b=>_p (k=l)&&_p (a=b)|_+1,.str a,.str b=>_p (a.data.toList=b.data.toList)|_+1,.bG,.bG=>O|_+1,.dN,.dN=>O|_+1,.jg,.jg=>O|_+1,.ir,.ir=>O|_+1,.vf,.vf=>O|n+1,.agg a,.agg b=>V.qF n a b|n+1,.tup a,.tup b=>V.qF n a b|n+1,.fptr a,.fptr b=>V.qF n a b|n+1,.fsl e a,.fsl B b=>beq e B&&V.CU n a b|n+1,.clo f a b,.clo D a' J=>beq f D&&V.qF n a a'&&V.qF n b J|_+1,_,_=>U
def V.qF:Nat->So->So->X'
 |0,_,_=>U|_+1,[],[]=>O|n+1,a::r,b::s=>V.same n a b&&V.qF n r s|_+1,_,_=>U
def V.CU:Nat->S'->S'->X'
 |0,_,_=>U|_+1,[],[]=>O|n+1,a::r,b::s=>V.qF n a b&&V.CU n r s|_+1,_,_=>U
end
def Y1:∀n,(∀a b,V.same n a b=O->a=b)/\(∀a b,V.qF n a b=O->a=b)/\(∀a b,V.CU n a b=O->a=b):=by
 intro n
 induction n with
 |zero=>exact⟨λa b h=>by simp[V.same]at h,λa b h=>by simp[V.qF]at h,λa b h=>by simp[V.CU]at h⟩|succ n u=>
  have⟨i1,i2,i3⟩:=u;refine⟨λa b h=>?_,λa b h=>?_,λa b h=>?_⟩
  .cases a<;>cases b<;>simp only[V.same,ζh,_e,Bool.false_eq_true]at h<;>first|rfl|grind|skip
   all_goals first
    |grind|grind|grind|(rw[Nat.eq_of_beq_eq_true h.1,i3 _ _ h.2])|(rw[Nat.eq_of_beq_eq_true h.1.1,i2 _ _ h.1.2,i2 _ _ h.2])|(congr 1;exact ByteArray.ext (Array.ext' h))
  .cases a<;>cases b<;>simp[V.qF]at h<;>first|rfl|grind|grind
  cases a<;>cases b<;>simp[V.CU]at h<;>first|rfl|grind|grind
structure jo where
 f:FuncId
 az:List V
 y:V
def B7:aX jo->Y'->So->aY V
 |[],_,_=>G|k::r,f,az=>bif beq k.f f&&V.qF 1000 k.az az then M k.y else B7 r f az
def FC:∀{l:aX jo}{f:Y'}{az:So}{y:V},B7 l f az=M y->∃k∈l,k.f=f/\k.az=az/\k.y=y
 |[],_,_,_,h=>by simp[B7]at h|k::r,f,az,y,h=>by unfold B7 at h;cases B:beq k.f f&&V.qF 1000 k.az az with|true=>simp only[ζh]at B;exact⟨k,Q! ..,Nat.eq_of_beq_eq_true B.1,(Y1 1000).2.1 _ _ B.2,g?⟩|false=>rw[B]at h;have⟨q,a,D⟩:=FC h;grind
def Ka(E:Env)(l:aX jo)(c:d_)(n:Nat):Callee->So->bl->aY (V×bl)
 |.fn f,az,[]=>match B7 l f az with
  |some y=>M (y,[])|none=>lz E c n (.fn f) az []
 |x,az,H=>lz E c n x az H
def runM(E:Env)(l:aX jo):Nat->d_
 |0=>⟨0,λ_ _ _=>G⟩|n+1=>⟨n+1,Ka E l (runM E l n) n⟩
def XT(E:Env)(l:aX jo):∀n,(runM E l n).lv=n
 |0=>rfl|_+1=>rfl
def RU{l:aX jo}{n:Nat}{x:Callee}{a:So}{H:bl}:runM E l (n+1) x a H=Ka E l (runM E l n) n x a H:=rfl
def za(E:Env)(n:Nat)(k:jo):Prop:=∃r H1,run E n (.fn k.f) k.az []=M (r,H1)/\borrow n H1 r=M k.y
structure mI(E:Env)(k:jo):Prop where
 keep:E.keep k.f=false
 cl:k.y.closed=true
 at_:∃n,za E n k
def za.le{n m:Nat}{k:jo}(h:za E n k)(B:n<=m):za E m k:=by have⟨r,H1,a,u⟩:=h;exact⟨r,H1,(qT E B).go _ _ _ _ a,u9 B u⟩
def Dr:∀{l:aX jo},(∀k∈l,mI E k)->∃N,∀k∈l,za E N k
 |[],_=>⟨0,f?⟩|k::r,h=>by have⟨N,B⟩:=Dr (λq a=>h q (C? _ a));have⟨n,u⟩:=(h k (Q! ..)).at_;refine⟨max N n,λq a=>?_⟩;rcases mem_cons.1 a with rfl|a;exact u.le (Nat.le_max_right ..);exact(B q a).le (Nat.le_max_left ..)
def Df{l:aX jo}{x:Callee}{az:So}(h:H≠[]\/(∃id,x=.yld id)\/∃f,x=.fn f/\B7 l f az=G):runM E l (n+1) x az H=lz E (runM E l n) n x az H:=by
 rcases h with h|⟨id,rfl⟩|⟨f,rfl,h⟩;cases x with|yld id=>rfl|fn f=>cases H with|nil=>exact _c Y h|cons a r=>rfl
 rfl;cases H with|nil=>rw[RU,Ka,h]|cons a r=>rfl
def On{l:aX jo}{N:Nat}(D:∀k∈l,mI E k)(J:∀k∈l,za E N k):∀n,CR E (runM E l n) (run E (N+n)):=by intro n;induction n with|zero=>refine⟨Nat.zero_le _,λf args H y _ h=>?_,λf args H r _ h=>(by cases h),λid args H r h=>(by cases h),λf args H r _ h=>(by cases h)⟩;unfold cu at h;split at h;cases h;cases h|succ n g=>have up:∀{x:Callee}{az:So}{H:bl}{r:V×bl},lz E (runM E l n) n x az H=M r->run E (N+(n+1)) x az H=M r:=λh=>(by rw[show N+(n+1)=(N+n)+1 from Y,Kj];exact CZ g (x! ..) h);have w:(runM E l (n+1)).lv<=(run E (N+(n+1))).lv:=(by rw[XT,qg];exact x! ..);refine⟨w,λf args H y b h=>?_,λf args H r b h=>?_,λid args H r h=>?_,λf args H r B h=>?_⟩;unfold cu at h⊢;split at h;rename_i az c;rw[vE w c];split at h;rename_i r H1 a;(cases z:B7 l f az with|none=>rw[Df (.inr (.inr ⟨f,Y,z⟩))]at a;simp only;rw[up a];split at h;(next Q I=>simp only;rw[u9 w I];exact h);cases h|some S=>rw[RU,Ka,z]at a;obtain⟨rfl,rfl⟩:=a;obtain⟨k,u,rfl,rfl,rfl⟩:=FC z;have ok:=D k u;have⟨r1,H2,d,L⟩:=(J k u).le (Nat.le_add_right N (n+1));rw[kK _ _ ok.cl]at h;simp only[d,qg,L];exact h);cases h;cases h;by_cases z:H≠[]\/(∃id,(Callee.fn f)=.yld id)\/∃C,Callee.fn f=.fn C/\B7 l C args=G;rw[Df z]at h;exact up h;(cases i:B7 l f args with|none=>grind|some y=>obtain⟨k,u,rfl,_,_⟩:=FC i;rw[(D k u).keep]at b;cases b);exact up h;rw[Df (.inl B)]at h;exact up h
def abj(E:Env)(l:aX jo)(n:Nat)(k:jo):aY V:=
 match lz E (runM E l n) n (.fn k.f) k.az []with
 |some (r,H1)=>borrow n H1 r|none=>G
def pU{l:aX jo}(B:∀k∈l,mI E k){k:jo}(h:(abj E l n k,k.y.closed,E.keep k.f)=(M k.y,O,U)):mI E k:=by simp at h;have⟨N,u⟩:=Dr B;refine⟨h.2.2,h.2.1,N+n+1,?_⟩;have a:=h.1;unfold abj at a;split at a;rename_i r H1 w;refine⟨r,H1,?_,u9 c? a⟩;exact CZ (On B u n) (x! ..) w;grind
def Xi(E:Env)(l:aX jo)(n:Nat)(f:Y')(az:So):X':=
 match lz E (runM E l n) n (.fn f) az []with
 |some (.bool b,_)=>b|_=>U
def PY{l:aX jo}(B:∀k∈l,mI E k){f:Y'}{az:So}(h:Xi E l n f az=O):∃n H1,run E n (.fn f) az []=M (.bool O,H1):=by
 have⟨N,u⟩:=Dr B;unfold Xi at h;split at h;next b H1 w=>subst h;exact⟨N+n+1,H1,(CZ (On B u n) (x! ..) w)⟩
 simp_all
end
end Go.VE
