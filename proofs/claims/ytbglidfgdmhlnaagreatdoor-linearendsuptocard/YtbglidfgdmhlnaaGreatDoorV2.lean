/- Engine, runs. -/
import Derived.Shelf.SlSortCmp.NoneTotal
import Derived.RangeFuncLeaves
import Derived.Laws.StructEq
import Derived.ChangeKeysEq
import Derived.Test.YtbglidfgdmhlnaaGreatDoorV1
set_option linter.all false
open List(finRange getElem?_take mem_cons mem_cons_of_mem mem_cons_self mem_map range' take)
open Nat(beq le_add_left le_refl le_succ mul_one)
open Array(ext' replicate)
open Option(map_some)
open Go.Sem(run_bind run_pure)
open Go.Result(andThen andThen_ok)
open Go.Instr(checkKey)
open Go.Op(bytesLess eqItems equal equalIn)
open BitVec(ofInt)
namespace Go.VE
variable[bX]
theorem v7{f g:V->aY V}(h:∀x y,f x=some y->g x=some y):∀{l:So}{r:So},jr f l=some r->jr g l=some r
 |[],_,hr=>hr|x::l,r,hr=>by simp only[jr]at hr⊢;split at hr;(next y s a B=>rw[h _ _ a,v7 h B];exact hr);cases hr
def KS{f g:V->aY V}(h:∀x y,f x=some y->g x=some y):∀{l:S'}{r:S'},nY f l=some r->nY g l=some r
 |[],_,hr=>hr|x::l,r,hr=>by simp only[nY]at hr⊢;split at hr;(next y s a B=>rw[v7 h a,KS h B];exact hr);cases hr
def Mx{f g:V->aY V}(h:∀x y,f x=some y->g x=some y):∀{l:aX (V×V)}{r:aX (V×V)},nO f l=some r->nO g l=some r
 |[],_,hr=>hr|(k,x)::l,r,hr=>by simp only[nO]at hr⊢;split at hr;(next y s u a B D=>rw[h _ _ a,h _ _ B,Mx h D];exact hr);cases hr
theorem MS{H:bn}:∀(n:Nat)(x y:V),borrow n H x=some y->borrow (n+1) H x=some y:=by intro n;induction n with|zero=>grind[borrow,kV]|succ n u=>intro x y h;unfold borrow at h⊢;split;grind;rename_i d;rw[if_neg d]at h;cases x with|hsl id es off len=>simp only at h⊢;split at h;split at h;(next q=>rw[if_pos q];have⟨r,c,w⟩:=ζf.1 h;rw[KS u c];grind);cases h;cases h|hptr id el off=>simp only at h⊢;split at h;split at h;split at h;(next q=>rw[if_pos q];have⟨r,c,w⟩:=ζf.1 h;rw[v7 u c];grind);cases h;cases h;cases h|hmap id=>simp only at h⊢;split at h;have⟨r,c,w⟩:=ζf.1 h;rw[Mx u c];grind;cases h|clo f a b=>grind[v7]|agg cs=>simp only at h⊢;have⟨r,c,w⟩:=ζf.1 h;rw[v7 u c];grind|tup cs=>simp only at h⊢;have⟨r,c,w⟩:=ζf.1 h;rw[v7 u c];grind|_=>cases h
def uK{H:bn}{n m:Nat}(h:n<=m){x y:V}(B:borrow n H x=some y):borrow m H x=some y:=by induction h with|refl=>exact B|step _ u=>grind[MS]
def vH{H:bn}{n m:Nat}(h:n<=m){l r:So}(B:borrows n H l=some r):borrows m H l=some r:=v7 (λ_ _=>uK h) B
def Ff{f g:V->ST}:∀{l:So},(∀x∈l,f x=g x)->dc f l=dc g l
 |[],_=>rfl|x::l,h=>by simp only[dc];rw[h x (mem_cons_self ..),Ff λy B=>h y (mem_cons_of_mem _ B)]
theorem uB{f:V->aY V}:∀{l r:So},jr f l=some r->∀x∈l,∃y,f x=some y
 |[],_,_,x,b=>by cases b|a::l,r,h,x,b=>by simp only[jr]at h;split at h;rename_i y s c B;rcases mem_cons.1 b with rfl|b;grind;exact uB B x b;cases h
theorem Jr{f:V->aY V}:∀{l r:S'},nY f l=some r->∀c∈l,∀x∈c,∃y,f x=some y
 |[],_,_,x,B=>by cases B|a::l,r,h,c,b=>by simp only[nY]at h;split at h;rename_i y s d D;rcases mem_cons.1 b with rfl|b;exact uB d;exact Jr D c b;cases h
theorem CL{f:V->aY V}:∀{l r:aX (V×V)},nO f l=some r->∀c∈l,(∃y,f c.1=some y)/\∃y,f c.2=some y
 |[],_,_,x,B=>by cases B|(k,a)::l,r,h,c,b=>by simp only[nO]at h;split at h;rename_i y s u d G D;rcases mem_cons.1 b with rfl|b;grind;exact CL D c b;cases h
def P_{H:bn}:∀(n:Nat)(x y:V),borrow n H x=some y->ct (n+1) H x=ct n H x:=by
 intro n
 induction n with
 |zero=>simp_all[borrow,ct]|succ n B=>
  intro x y h;have u:∀l:So,(∀x∈l,∃y,borrow n H x=some y)->dc (ct (n+1) H) l=dc (ct n H) l:=λl C=>Ff λx z=>by grind
  unfold borrow at h;rw[ct.eq_def (n+1+1),ct.eq_def (n+1)];simp only;split;rfl;rename_i d;rw[if_neg d]at h
  cases x with
  |hsl id es off len=>grind[ζf,List.mem_flatten,Jr]|hptr id el off=>grind[ζf,uB]|hmap id=>
   simp only at h⊢;split at h;rename_i w e;have⟨r,g,D⟩:=ζf.1 h;skip;rw[u (w.map (·.1)) λx z=>by obtain⟨c,d,rfl⟩:=mem_map.1 z;grind[CL],
    u (w.map (·.2)) λx z=>by obtain⟨c,d,rfl⟩:=mem_map.1 z;grind[CL]]
   cases h
  |clo f a b=>grind[uB]|agg cs=>grind[ζf,uB]|tup cs=>grind[ζf,uB]|_=>rfl
theorem VC{H:bn}{n m:Nat}(h:n<=m){x y:V}(B:borrow n H x=some y):ct m H x=ct n H x:=by induction h with|refl=>rfl|step h u=>rw[P_ _ _ _ (uK h B),u]
def BA{H:bn}{n m:Nat}(h:n<=m){l r:So}(B:borrows n H l=some r):dc (ct m H) l=dc (ct n H) l:=Ff λx u=>by have⟨y,w⟩:=uB B x u;grind[VC]
def qJ{f g h:V->aY V}(k:∀x y z,f x=some y->g x=some z->h x=some z):∀{l r s:So},jr f l=some r->jr g l=some s->jr h l=some s
 |[],_,_,_,B=>B|x::l,r,s,hr,B=>by simp only[jr]at hr B⊢;split at hr;rename_i a D;split at B;(next G J=>rw[k _ _ _ a G,qJ k D J];exact B);cases B;cases hr
def G9{f g h:V->aY V}(k:∀x y z,f x=some y->g x=some z->h x=some z):∀{l r s:S'},nY f l=some r->nY g l=some s->nY h l=some s
 |[],_,_,_,B=>B|x::l,r,s,hr,B=>by simp only[nY]at hr B⊢;split at hr;rename_i a D;split at B;(next G J=>rw[qJ k a G,G9 k D J];exact B);cases B;cases hr
def Gl{f g h:V->aY V}(k:∀x y z,f x=some y->g x=some z->h x=some z):∀{l r s:aX (V×V)},nO f l=some r->nO g l=some s->nO h l=some s
 |[],_,_,_,B=>B|(a,x)::l,r,s,hr,B=>by simp only[nO]at hr B⊢;split at hr;rename_i b D G;split at B;(next J U W=>rw[k _ _ _ b J,k _ _ _ D U,Gl k G W];exact B);cases B;cases hr
def No{H H2:bn}:∀(n m:Nat)(x y z:V),borrow n H x=some y->borrow m H2 x=some z->(∀id:Nat,(H2[id]?).isSome=true->H2[id]?=H[id]?)->borrow n H2 x=some z:=by intro n;induction n with|zero=>grind[borrow,kV]|succ n G=>intro m x y z h k w;by_cases e:x.closed=true;rw[kV _ _ e]at k⊢;exact k;cases m with|zero=>grind[borrow]|succ m=>have u:∀x y z,borrow n H x=some y->borrow m H2 x=some z->borrow n H2 x=some z:=λx y z a b=>G m x y z a b w;unfold borrow at h k⊢;rw[if_neg e]at h k⊢;have row:∀id q,(H2[id]?).bind Ob.rows=some q->(H[id]?).bind Ob.rows=some q:=λid q B=>(by rw[<-w id (by cases C:H2[id]?with|none=>rw[C]at B;cases B|some _=>rfl)];exact B);cases x with|hsl id es off len=>simp only at h k⊢;split at k;rename_i d;rw[row _ _ d]at h;simp only at h;split at k;(next q=>rw[if_pos q]at h⊢;have⟨r,c,_⟩:=ζf.1 h;have⟨s,k1,k2⟩:=ζf.1 k;rw[G9 u c k1];grind);cases k;cases k|hptr id el off=>simp only at h k⊢;split at k;rename_i d;rw[row _ _ d]at h;simp only at h;split at k;rename_i D;rw[D]at h;simp only at h;split at k;(next q=>rw[if_pos q]at h⊢;have⟨r,c,_⟩:=ζf.1 h;have⟨s,k1,k2⟩:=ζf.1 k;rw[qJ u c k1];grind);cases k;cases k;cases k|hmap id=>simp only at h k⊢;split at k;rename_i d;rw[<-w id (by rw[d];rfl),d]at h;simp only at h;have⟨r,c,_⟩:=ζf.1 h;have⟨s,k1,k2⟩:=ζf.1 k;rw[Gl u c k1];grind;cases k|clo f a b=>simp only at h k⊢;split at h;rename_i c C;split at k;(next k1 k2=>rw[qJ u c k1,qJ u C k2];exact k);cases k;cases h|agg cs=>simp only at h k⊢;have⟨r,c,_⟩:=ζf.1 h;have⟨s,k1,k2⟩:=ζf.1 k;rw[qJ u c k1];grind|tup cs=>simp only at h k⊢;have⟨r,c,_⟩:=ζf.1 h;have⟨s,k1,k2⟩:=ζf.1 k;rw[qJ u c k1];grind|_=>cases h
end Go.VE
namespace Go.VE
variable[bX]
open Go.Proofs Go.Sort
structure DR(P:Program)(f:FuncId):Prop where
 ok:BH P f
 zero:∀(p:Option Addr)(cap:Nat)(fv:Value)(w:World),Calls P f #[.slice p 0 cap,fv] w λe w'=>e=.returned (.tuple #[])/\w'=w
 all:∀{α:Type}[Inhabited α](enc:α->Value)(_:OneCell enc)(cf:α->α->Int)(_:SWO (ltOf cf))(g:Nat)(cb:Array Value)(blk off cap:Nat)(d:Array α)(w:World)
  (_:∀args w,(callFunc g args).run P w=.ok (.enter g args) w)(_:CmpLays1 P g cb enc cf blk off d.size w)(_:Holds enc w blk off d)(_:blk<w.heap.size)(_:d.size<4611686018427387904),
  Calls P f #[.slice (some ⟨blk,off,none⟩) d.size cap,.func (.func g) #[] cb] w λe w'=>e=.returned (.tuple #[])/\∃n os,w'=sortWorld enc w blk off n (pdq (ltOf cf) d 0 d.size (Lib.bitLen d.size) true true) os
def On{α:Type}[Inhabited α](lt:α->α->X'):∀(k i:Nat)(d:Array α),KC lt k i d=insOuter lt 0 (i+k) i d
 |0,i,d=>by rw[insOuter];simp[KC]|k+1,i,d=>by rw[insOuter,KC,On lt k];grind
def E6(n:Nat)(lt:Fin (n+1)->Fin (n+1)->X'):tE n lt=pdq lt (finRange (n+1)).toArray 0 (n+1) (Lib.bitLen (n+1)) true true:=by unfold tE;split;rw[pdq,if_pos Zaa,insertionSort,On,Nat.add_comm 1 n];rfl
def tc{n:Nat}{t:Fin (n+1)->Fin (n+1)->Ps}(h:Dp t=true):(∀i j,∃c,t i j=some c)/\SWO (rS t):=by have u:∀(p:Fin (n+1)->X'),(finRange (n+1)).all p=true->∀i,p i=true:=λp h i=>List.all_eq_true.1 h i (List.mem_finRange i);have d:=λi=>u _ h i;simp only[ζh,Bool.not_eq_true']at d;have w:=λi j=>u _ (d i).2 j;simp only[ζh]at w;have z:=λi j k=>u _ (w i j).2 k;refine⟨λi j=>Option.isSome_iff_exists.1 (w i j).1,λi=>(d i).1,λi j k a b=>?_,λi j k a b=>?_⟩;have:=z i j k;grind;grind
section
variable{P:Program}{I I':cD}{μ μ':Mu}{H H':bn}{w w':World}
def Ig(w:World)(os:Array Obj)(b:Nat)(h:b<w.heap.size):(grow w os).heap[b]?=w.heap[b]?:=by unfold grow;grind
theorem Calls.fr{f:Y'}{args:Array V'}{R:Ending->World->Prop}(h:Calls P f args w R):CallsIn (fr none) 0 P f args w R:=callsIn_wide.2 h
def CallsIn.un{f:Y'}{args:Array V'}{R:Ending->World->Prop}(h:CallsIn (fr none) 0 P f args w R):Calls P f args w R:=callsIn_wide.1 h
def UD{p:Pl}{c:Array V'}{xs:S'}(B:p.es=1)(D:c.size=p.sz)(k:p.o+xs.length<=c.size)
 (h:∀(i:Nat)x,xs[i]?=some x->∃v u,x=[v]/\V.one v=true/\c[p.o+i]?=some u/\bK I μ v u):iB I μ p c 1 xs:=by
 have d:∀x∈xs,x.length=1:=λx w=>by have⟨i,f⟩:=List.getElem?_of_mem w;grind
 have C:xs.flatten.length=xs.length:=by rw[gW d,mul_one]
 refine⟨B,D,d,λx w y G=>?_,Zaa,⟨?_,λj a b g J=>?_⟩⟩
 .have⟨i,f⟩:=List.getElem?_of_mem w
  grind
 .grind
 have z:j<xs.length:=by have:=(ζe.1 g).1;omega
 have⟨v,u,e,_,L,O⟩:=h j xs[j] (by simp[z])
 have:=zj d (i:=j) (j:=0) (x:=xs[j]) (by simp[z]) (by rw[e];rfl)
 simp_all
def zi{p:Pl}{c:Array V'}{xs:S'}(r:iB I μ p c 1 xs)(i:Nat){x:So}(h:xs[i]?=some x):∃v u,x=[v]/\V.one v=true/\c[p.o+i]?=some u/\bK I μ v u:=by
 have w:=List.mem_of_getElem? h;obtain⟨v,rfl⟩:=List.length_eq_one_iff.1 (r.sw x w);have a:=(ζe.1 h).1;have z:=by have:=r.room;omega
 refine⟨v,c[p.o+i],rfl,r.one _ w v Zab,Zad,?_⟩;exact r.idx (j:=0) h rfl Zad
def Yl{α:Type}[Inhabited α](enc:α->V')(a o m:Nat)(B:Array α)(os:Array Obj){b:Nat}(G:b<w.heap.size)(D:b≠a):(sortWorld enc w a o m B os).heap[b]?=w.heap[b]?:=by unfold sortWorld;rw[Ig _ _ _ Zad];simp[putRow,mapBlock,Sort.ahead,Array.getElem?_modify,if_neg (Ne.symm D)]
def Ns{α:Type}[Inhabited α](enc:α->V'){a:Nat}(o m:Nat)(B:Array α){c:Array V'}{el:W'}(h:w.heap[a]?=some (.cells c el)):
 putRow enc (Sort.ahead w m) a o B=iu (Sort.ahead w m) a (.cells (Sort.putCells enc o B c) el):=by
 unfold putRow mapBlock iu Sort.ahead
 congr 1
 have⟨u,e⟩:=Array.getElem?_eq_some_iff.1 h;apply Array.ext
 .simp
 intro i d z
 by_cases b:i=a
 .subst b;simp[Array.getElem_modify,e,onCells]
 grind
def Step.grown(st:Step I (λ_=>none) [] w I' μ' H' w'):∃q os,w'=grow (w.drewN q) os:=by
 refine⟨w'.drawn-w.drawn,w'.heap.extract w.heap.size w'.heap.size,?_⟩;have u:w'.heap=w.heap++w'.heap.extract w.heap.size w'.heap.size:=by apply Array.ext_getElem?;intro i;by_cases a:i<w.heap.size;rw[Array.getElem?_append_left a];exact st.frame i a (by rintro⟨id,p,ob,h,_⟩;simp at h);rw[Array.getElem?_append_right Zaa];simp[Array.getElem?_extract];by_cases C:i<w'.heap.size;rw[if_pos Zaa];congr 1;omega;rw[if_neg Zaa,Array.getElem?_eq_none Zaa]
 have b:=st.os;have z:=st.out.out;have B:=st.out.tape;have D:=st.out.dr;unfold grow World.drewN;cases w';simp only at *;subst b z B;simp[World.mk.injEq];exact⟨u,Zaa⟩
def PO{call B:dO}{g:Y'}{G D:So}{n:Nat}(h:∀args y,ck call g args []=some y->ck B g args []=some y){i j:Fin (n+1)}{z:Int}(J:ku call g G D n i j=some z):ku B g G D n i j=some z:=by unfold ku at J⊢;grind
def GU{keep:Y'->X'}{call B:dO}(G:call.lv<=B.lv)(h:∀g args y,keep g=false->ck call g args []=some y->ck B g args []=some y){args:So}{r:V×bn}(b:tB keep call args H=some r):tB keep B args H=some r:=by
 unfold tB at b⊢;split at b;split at b;omega;omega;split at b;omega;split at b;rename_i n g cb _ O S I;split at b;rename_i u;split at b;rename_i J w D C;rw[vH G D,vH G C];split at b;rename_i Q;have e:ku B g J w n=ku call g J w n:=by funext i j;have⟨z,L⟩:=(tc Q).1 i j;rw[L];exact PO (λa y=>h g a y u.2.2.2.2) L
 grind;simp_all;simp_all;simp_all;simp_all;simp_all;simp_all;simp_all
set_option maxHeartbeats 1000000 in
def Yy{call:dO}(hc:mS P call){f:Y'}(hs:DR P f){args:So}{r:V}{keep:Y'->X'}(h:tB keep call args H=some (r,H'))(s:di I μ H w){vs:aX V'}(hv:cU I μ args vs):
 CallsIn (fr none) 0 P f vs.toArray w (Ar I μ H w r H'):=by
 unfold tB at h;split at h
 .rename_i sv cv;obtain⟨v1,r1,rfl,M,aD⟩:=hv.cons_inv;obtain⟨v2,r2,rfl,aE,aF⟩:=aD.cons_inv;obtain rfl:=aF.yK;have U:∀p l,v1=.slice p 0 l->CallsIn (fr none) 0 P f [v1,v2].toArray w (Ar I μ H w .undef H):=by
   rintro p l rfl;refine Calls.fr ((hs.zero p l v2 w).mono ?_);rintro e w' ⟨rfl,rfl⟩;exact⟨_,I,μ,rfl,bK.undef _ _,s,Step.refl _ _ _ _⟩
  split at h
  .cases h;exact U none 0 M.ow
  .cases h;have⟨a,e⟩:=M.u9;exact U a 0 e
  .rename_i id es off len;split at h
   .cases h;rcases M.om with⟨p,l,_,_,_,_,e⟩|⟨_,a,e⟩
    .exact U _ l e
    exact U _ 0 e
   .rename_i n g cb;split at h
    .rename_i aT Q L;split at h
     .rename_i al;obtain⟨rfl,rfl,aR,hn,_⟩:=al;split at h
      .rename_i Z D aG aq;split at h
       .rename_i ar;cases h;have⟨p,c,el,hp,hI,J,S⟩:=s.obs id _ L;rcases M.om with⟨q,l,hq,aU,aS,aH,rfl⟩|⟨h0,_⟩
        .rw[hp]at hq;cases hq;obtain⟨va,F,rfl,R,au⟩:=aE.l_;have av:va=#[]:=by have:=R.yK;simpa using this
         subst av;have am:=(ζe.1 L).1;have⟨t,_⟩:=s.kill L;generalize hT:dc (ct call.lv (H.set id .dead)) (((Q.drop off).take (n+1)).flatten++cb)=T;have aI:plus I μ (H.set id .dead) w T p.b=none:=by cases B:plus I μ (H.set id .dead) w T p.b with|none=>rfl|some x=>exfalso;rcases A8 (by rw[B];rfl)with h|⟨aw,p',ob,_,g1,g2,g3,g4⟩;rw[hI]at h;cases h;have ax:aw≠id:=(by rintro rfl;rw[List.getElem?_set_self am]at g1;cases g1;simp[Ob.live]at g2);rw[List.getElem?_set_ne (Ne.symm ax)]at g1;exact ax (s.inj aw id ob (.row 1 Q) p' p g1 L g2 rfl g3 hp g4)
         let enc:Fin (n+1)->V':=λi=>(c[p.o+off*1+i.1]?).getD undef
         have K:∀i:Fin (n+1),∃v,Q[off+i.1]?=some [v]/\V.one v=true/\bK I μ v (enc i)/\c[p.o+off*1+i.1]?=some (enc i):=λi=>by have⟨v,u,e1,e2,e3,e4⟩:=zi S (off+i.1) (x:=Q[off+i.1]' Zaa) Zab;have e5:c[p.o+off*1+i.1]?=some u:=(by rw[<-e3];congr 1;omega);have e6:enc i=u:=(by show(c[p.o+off*1+i.1]?).getD undef=u;rw[e5];rfl);exact⟨v,by rw[<-e1];simp,e2,by rw[e6];exact e4,by rw[e5,e6]⟩
         have h1:OneCell enc:=λi=>by have⟨v,_,e2,e3,_⟩:=K i;exact e3.one e2
         have⟨ay,ae⟩:=tc ar;have⟨aV,aJ⟩:=kn aG;have⟨aK,aL⟩:=kn aq;have aA:∀x∈(Q.drop off).take (n+1),x.length=1:=λx B=>S.sw x (List.mem_of_mem_drop (List.mem_of_mem_take B))
         have W:∀(i:Fin (n+1))u,Z[i.1]?=some u->fu (plus I μ (H.set id .dead) w T) u (enc i):=λi u hu=>by have⟨x,B,an⟩:=aJ i.1 u hu;have⟨v,e1,_,e3,_⟩:=K i;have e4:((Q.drop off).take (n+1))[i.1]?=some [v]:=(by rw[getElem?_take,if_pos i.2,List.getElem?_drop];exact e1);have e5:=zj (es:=1) aA (i:=i.1) (j:=0) e4 rfl;have e5:((Q.drop off).take (n+1)).flatten[i.1]?=some v:=(by simpa using e5);rw[e5]at B;cases B;refine(xh t T call.lv _ u _ an (λk A=>?_) e3).1;rw[<-hT];exact mg (List.mem_append_left _ (List.mem_of_getElem? e5)) A
         have ab:cU (plus I μ (H.set id .dead) w T) (λ_=>none) D F.toList:=by refine⟨aK.trans au.1,λj a b k1 k2=>?_⟩;have⟨x,B,an⟩:=aL j a k1;refine .c _ _ (xh t T call.lv x a b an (λk A=>?_) (au.2 j x b B k2)).1;rw[<-hT];exact mg (List.mem_append_right _ (List.mem_of_getElem? B)) A
         have af:=(Array.getElem?_eq_some_iff.1 J).1
         let d:Array (Fin (n+1)):=(finRange (n+1)).toArray
         have ao:d.size=n+1:=by simp[d]
         have hd:∀j:Fin (n+1),d[j.1]! =j:=λj=>by simp[d,getElem!_pos]
         have hg:∀i j:Fin (n+1),∃z,ku call g Z D n i j=some z/\∃a b,Z[i.1]?=some a/\Z[j.1]?=some b/\ck call g (a::b::D) []=some (.int .i64 z):=λi j=>by have⟨z,N⟩:=ay i j;have X:=N;unfold ku at X;split at X;rename_i a b E Y;split at X;(next z' C=>cases X;exact⟨z,N,a,b,E,Y,C⟩);cases X;cases X
         have aM:BH P g:=by have⟨z,_,a,b,E,Y,C⟩:=hg 0 0;have s0:di (plus I μ (H.set id .dead) w T) (λ_=>none) [] w:=⟨λ_ _=>rfl,v_ t T,Zab,Zab,t.gl.mono (rE _ _ _ _ _)⟩;exact(GF hc C s0 (.cons (.c _ _ (W 0 a E)) (.cons (.c _ _ (W 0 b Y)) ab))).1
         have key:=hs.all enc h1 (λi j=>(ku call g Z D n i j).getD 0) ae g F p.b (p.o+off*1) l d w (λargs w=>Ah aM args) (by
          intro m os G aW i j;have⟨z,N,a,b,E,Y,C⟩:=hg i j;have s0:di (plus I μ (H.set id .dead) w T) (λ_=>none) [] (sortWorld enc w p.b (p.o+off*1) m G os):=⟨λ_ _=>rfl,λb x Y=>IC.uS (v_ t T b x Y) (Yl enc p.b _ m G os (IC.x_ (v_ t T b x Y)) (by rintro rfl;rw[aI]at Y;cases Y)),Zab,Zab,t.gl.mono (rE _ _ _ _ _)⟩
          have:=CallsIn.un (GF hc C s0 (vs:=enc i::enc j::F.toList) (.cons (.c _ _ (W i a E)) (.cons (.c _ _ (W j b Y)) ab))).2;rw[show(enc i::enc j::F.toList).toArray=#[enc i,enc j]++F by apply ext';simp]at this
          refine this.mono ?_;rintro e w' ⟨u,I1,μ1,rfl,hu,s1,st⟩;exact⟨by rw[hu.gG];show _=Ending.returned (.int .i64 ((ku call g Z D n i j).getD 0));rw[N];rfl,st.grown⟩) (by
          intro j hj;have aB:j<n+1:=Zaa
          have⟨v,_,_,_,e4⟩:=K ⟨j,aB⟩;rw[hd ⟨j,aB⟩];exact⟨by rw[yL J];exact e4,by simp[World.frozen?,J]⟩) af Zaa
         rw[ao]at key;refine Calls.fr (key.mono ?_);rintro e w' ⟨rfl,m,os,rfl⟩;have aN:ltOf (λi j=>(ku call g Z D n i j).getD 0)=rS (ku call g Z D n):=rfl
         rw[aN,E6];have ah:=pdq_sorts (rS (ku call g Z D n)) ae d 0 d.size (Lib.bitLen d.size) true true (Nat.zero_le _) (le_refl _) (Or.inl rfl);rw[ao]at ah;have O:=ah.1.1;change Ar I μ H w .undef (H.set id (.row 1 (tU Q off n (pdq (rS (ku call g Z D n)) d 0 (n+1) (Lib.bitLen (n+1)) true true).toList))) _ _;generalize pdq (rS (ku call g Z D n)) d 0 (n+1) (Lib.bitLen (n+1)) true true=G at O;rw[ao]at O;unfold sortWorld;rw[Ns enc _ m G J];have s1:di I μ H (Sort.ahead w m):=s.rC rfl;have aO:Step I μ H w I μ H (Sort.ahead w m):=Step.rC rfl rfl ⟨rfl,rfl,Nat.le_add_right _ _⟩;have ai:(Sort.putCells enc (p.o+off*1) G c).size=c.size:=by simp[Sort.putCells]
         have aj:∀i:Nat,(i<p.o+off*1\/p.o+off*1+(n+1)<=i)->(Sort.putCells enc (p.o+off*1) G c)[i]?=c[i]?:=λi hi=>by simp only[Sort.putCells,Array.getElem?_mapIdx];rw[O];cases c[i]?with|none=>rfl|some y=>simp only[map_some];rw[if_neg Zaa]
         have ap:∀i:Fin (n+1),(Sort.putCells enc (p.o+off*1) G c)[p.o+off*1+i.1]?=some (enc G[i.1]!):=λi=>by have⟨v,_,_,_,e4⟩:=K i;simp only[Sort.putCells,Array.getElem?_mapIdx,e4,map_some];rw[if_pos ⟨Zaa,by rw[O];omega⟩];congr 3;omega
         have aC:=S.room;have aP:(tU Q off n G.toList).length=Q.length:=by simp[tU,O];omega
         have⟨s2,st2⟩:=s1.write (o:=.cells (Sort.putCells enc (p.o+off*1) G c) el) (ob':=.row 1 (tU Q off n G.toList)) L rfl hp
          ⟨p,_,el,hp,hI,kN _ af,UD S.es_eq (by rw[ai];exact S.sz) (by rw[aP,ai];omega) λi x B=>by
           unfold tU at B
           by_cases c1:i<off
           .rw[List.append_assoc,List.getElem?_append_left (by simp;omega),getElem?_take,if_pos c1]at B
            have⟨v,u,e1,e2,e3,e4⟩:=zi S i B;exact⟨v,u,e1,e2,by rw[aj _ Zaa];exact e3,e4⟩
           by_cases c2:i<off+(n+1)
           .rw[List.getElem?_append_left (by simp[O];omega),List.getElem?_append_right (by simp;omega)]at B
            have ak:i-off<G.size:=Zaa
            have e0:(Q.take off).length=off:=by simp;omega
            simp only[e0,List.getElem?_map,Array.getElem?_toList]at B;rw[Array.getElem?_eq_getElem ak]at B;simp only[map_some,ζa]at B;have⟨v,e1,e2,e3,e4⟩:=K G[i-off];rw[e1]at B;simp only[Option.getD_some]at B;refine⟨v,enc G[i-off],B.symm,e2,?_,e3⟩;have:=ap ⟨i-off,Zaa⟩
            simp only[getElem!_pos G (i-off) ak]at this;rw[<-this];congr 1;omega
           rw[List.getElem?_append_right (by simp[O];omega),List.getElem?_drop]at B
           have e0:off+(n+1)+(i-((Q.take off)++G.toList.map (λi=>(Q[off+i.1]?).getD [])).length)=i:=by simp[O];omega
           rw[e0]at B;have⟨v,u,e1,e2,e3,e4⟩:=zi S i B;exact⟨v,u,e1,e2,by rw[aj _ Zaa];exact e3,e4⟩⟩
         have A:∀b,b<(iu (Sort.ahead w m) p.b (.cells (Sort.putCells enc (p.o+off*1) G c) el)).heap.size->(grow (iu (Sort.ahead w m) p.b (.cells (Sort.putCells enc (p.o+off*1) G c) el)) os).heap[b]?=(iu (Sort.ahead w m) p.b (.cells (Sort.putCells enc (p.o+off*1) G c) el)).heap[b]?:=λb Y=>Ig _ _ _ Y
         have aQ:=Step.kept (I:=I) (μ:=μ) (H:=H.set id (.row 1 (tU Q off n G.toList))) A (by simp[grow]) rfl ⟨rfl,rfl,le_refl _⟩ (λa E h=>by unfold World.frozen? at h⊢;rw[A _ E];exact h)
         exact⟨_,I,μ,rfl,bK.undef _ _,s2.kept A,Step.trans s1 aO (Step.trans s2 st2 aQ)⟩
        cases h0
       cases h
      cases h
     cases h
    cases h
   cases h
  cases h
 cases h
end
def E7(P:Program)(f:Y')(args:So)(y:V):Prop:=BH P f/\∀I μ H w u,di I μ H w->cU I μ args u->CallsIn (fr none) 0 P f u.toArray w (Ar I μ H w y H)
def R7{P:Program}{call:dO}(a:mS P call){f:Y'}{b:X'}{H':bn}(h:call (.fn f) [] []=some (.bool b,H')):E7 P f [] (.bool b):=by
 have c:∀H,ck call f [] H=some (.bool b):=by intro H;unfold ck;rw[show borrows call.lv H []=some []from rfl];simp only[h,kV _ H' (show(V.bool b).closed=true from rfl)];rfl
 refine⟨?_,λI μ H w u s d=>(GF a (c H) s d).2⟩;have⟨e,_⟩:=a.fn _ _ _ _ _ h;omega
structure abm(P:Program)(E:Env):Prop where
 sort:∀f,E.sort f=true->DR P f
 known:∀f args y,E.known f args=some y->E7 P f args y
end Go.VE
namespace Go.VE
variable[bX]
section
variable{P:Program}{E:Env}{I I':cD}{μ μ':Mu}{H H':bn}{n B:Nat}{F F':WP}{a:Act}{w w':World}
def Ow:∀(F:WP)(t:Nat),F.length<=t->get F t=.undef
 |[],_,_=>rfl|_::_,0,h=>Zad|_::r,i+1,h=>Ow r i Zac
def Mh:∀(F:WP)(t:Nat)(x:V),F[t]?=some x->get F t=x
 |[],_,_,h=>Zad|_::_,0,_,h=>by simpa[get]using h|_::r,i+1,x,h=>Mh r i x Zac
def PB(b:wI I){args:So}{vs:aX V'}{a:Nat}(h:cU I μ args vs)(B:args.length<=a):
 e9 I μ a args (vs.toArray++replicate (a-vs.toArray.size) undef):=by
 have u:=h.1;refine⟨Zad,λt=>?_,b⟩
 by_cases C:t<args.length
 .have h1:args[t]?=some args[t]:=by simp_all
  have w:t<vs.length:=Zaa
  have z:vs[t]?=some vs[t]:=Zad
  rw[Mh _ _ _ h1];have:(vs.toArray++replicate (a-vs.toArray.size) undef).getD t undef=vs[t]:=by rw[Array.getD_eq_getD_getElem?,Array.getElem?_append_left Zac];simp_all
  rw[this];exact h.2 t _ _ h1 z
 rw[Ow _ _ Zaa]
 have:(vs.toArray++replicate (a-vs.toArray.size) undef).getD t undef=undef:=by rw[Array.getD_eq_getD_getElem?,Array.getElem?_append_right Zad,Array.getElem?_replicate];grind
 rw[this];exact bK.undef _ _
def TG(r:e9 I μ n F a.tmps){t:Nat}{x:V}{v:V'}(B:t<n)(h:bK I μ x v):e9 I μ n (set F t x) (a.tmps.setIfInBounds t v):=by have:=e9.put (dst:=some t) r h (F':=set F t x) (by simp[lV,B]);simpa[Act.put]using this
def Ea:∀(ps:ST)(xs:So)(vs:aX V')(F:WP)(tmps:Array V'),e9 I μ n F tmps->cU I μ xs vs->ps.all (·<n)=true->
 e9 I μ n (Aw ps xs F) ((ps.zip vs).foldl (λtmps(t,a)=>tmps.setIfInBounds t a) tmps)
 |[],_,_,F,tmps,r,_,_=>by simpa[Aw]using r|t::ps,[],[],F,tmps,r,_,_=>by simpa[Aw]using r|t::ps,[],v::vs,F,tmps,r,h,_=>by have:=h.1;grind|t::ps,x::xs,[],F,tmps,r,h,_=>by have:=h.1;grind|t::ps,x::xs,v::vs,F,tmps,r,h,u=>by simp only[List.all_cons,ζh,decide_eq_true_eq]at u;have c:=h.2 0 x v rfl rfl;have w:cU I μ xs vs:=⟨by have:=h.1;grind,λj a b d z=>h.2 (j+1) a b Zac Zac⟩;exact Ea ps xs vs _ _ (TG (a:={tmps:=tmps,defers:=[]}) r u.1 c) w u.2
def MH{α β:Type}(g:α->Sem β):∀(l:aX α)(w:World)(B:aX β),B.length=l.length->(∀(j:Nat)x y,l[j]?=some x->B[j]?=some y->(g x).run P w=.ok y w)->(l.mapM g).run P w=.ok B w
 |[],w,[],_,_=>Zab|[],w,_::_,h,_=>Zad|_::_,w,[],h,_=>Zad|x::l,w,y::B,h,hg=>by have c:=hg 0 x y rfl rfl;have u:=MH g l w B Zac (λj a b d z=>hg (j+1) a b Zac Zac);simp_all
def PS(tmps:Array V'):ResultVar->Sem V'
 |.tmp t=>pure (tmps.getD t undef)|.cell a t=>do loadVar t (<-asAddr (tmps.getD a undef))
def OR(fn:Func)(tmps:Array V'):results fn tmps=(fn.results.mapM (PS tmps) >>= λvs=>pure (if h:vs.size=1 then vs[0]else .tuple vs)):=by congr 1
def PC(W:fm P E){fn:Func}{tmps:Array V'}(r:e9 I μ n F tmps)(s:di I μ H w){vs:So}(h:jJ E F H fn.results.toList=some vs):
 ∃u,(results fn tmps).run P w=.ok u w/\bK I μ (result vs) u:=by
 have key:∀(l:aX ResultVar)(vs:So),jJ E F H l=some vs->∃z:aX V',z.length=l.length/\cU I μ vs z/\
  ∀(j:Nat)x y,l[j]?=some x->z[j]?=some y->(PS tmps x).run P w=.ok y w:=by
  intro l
  induction l with
  |nil=>intro vs h;simp[jJ]at h;subst h;exact⟨[],rfl,.nil,Zab⟩|cons x l U=>
   intro vs h
   cases x with
   |tmp t=>
    simp only[jJ,ζf]at h;obtain⟨D,h,rfl⟩:=h;have⟨z,a,C,Q⟩:=U D h;refine⟨tmps.getD t undef::z,Zad,.cons (r.2 t) C,?_⟩
    intro j x y J L
    cases j with
    |zero=>simp at J L;subst J;subst L;simp[PS]|succ j=>grind
   |cell p t=>
    simp only[jJ]at h;split at h
    .rename_i d D hd S;simp only[ζf]at h;obtain⟨v,b,rfl⟩:=h;have⟨z,a,C,Q⟩:=U D S;have⟨u,_,c,X,T,G⟩:=G3 W s hd (r.2 p) b;refine⟨u::z,Zad,.cons c C,?_⟩
     intro j x y J L
     cases j with
     |zero=>
      simp only[List.getElem?_cons_zero,ζa]at J L;subst J;subst L;have e:(do loadVar t (<-asAddr (tmps.getD p undef))).run P w=(loadVar t X).run P w:=by rw[run_bind,T];rfl
      exact e.trans G
     |succ j=>grind
    grind
 have⟨z,a,C,Q⟩:=key _ _ h;have Z:=MH _ fn.results.toList w z a Q;have Y:(fn.results.mapM (PS tmps)).run P w=.ok z.toArray w:=by rw[Array.mapM_eq_mapM_toList];simp_all
 have O:z.length=vs.length:=C.1.symm;rw[OR,run_bind,Y]
 by_cases B:z.length=1
 .obtain⟨u,rfl⟩:=List.length_eq_one_iff.1 B;obtain⟨v,rfl⟩:=List.length_eq_one_iff.1 (O▸B);exact⟨u,Zab,by simpa[result]using C.2 0 v u rfl rfl⟩
 refine⟨.tuple z.toArray,Zad,?_⟩
 have f:result vs=.tup vs:=by match vs,O with|[],_=>rfl|[_],h=>exact absurd h B|_::_::_,_=>rfl
 rw[f];exact .tup _ _ (by simpa using C.1) (by simpa using C.2)
def Rq(J:fm P E){fn:Func}{tmps:Array V'}{vs:So}(h:jJ E F H' fn.results.toList=some vs)(U:w.heap.size<=B):∀(ds:aX Deferred)(w':World),
 e9 I' μ' n F tmps->di I' μ' H' w'->Step I μ H w I' μ' H' w'->lZ B ds w'->
 LeavesInM (fr none) 0 P fn tmps (Ar I μ H w (result vs) H') ds .returning w':=by
 intro ds
 induction ds with
 |nil=>intro w' r s st m;have⟨u,b,c⟩:=PC J r s h;exact⟨u,b,u,I',μ',rfl,c,s,st⟩|cons d ds L=>
  intro w' r s st m;have⟨q,a,S,D⟩:=m.all d Zab
  refine⟨Zab,.inl ⟨q,_,a,run_takeDeferred D,?_⟩⟩
  have z:=xE s D;have O:=XN s D Zab Zab
  have m':lZ B ds w':=⟨λd hd=>m.all d (mem_cons_of_mem _ hd),(List.pairwise_cons.1 m.apart).2⟩
  refine L (iu w' q (.deferred none)) r (s.DO _ O z) (st.after _ Zaa) ⟨λG C=>?_,m'.apart⟩
  have⟨Q,g1,g2,g3⟩:=m'.all G C;refine⟨Q,g1,g2,?_⟩;rw[jc _ ?_];exact g3;rintro rfl;exact(List.pairwise_cons.1 m.apart).1 G C _ a g1
def Hp(o:Out):(oR o).isNone=(o==.norm):=by cases o<;>simp[oR]<;>rfl
def Ih(U:fm P E)(j:P.follows .mixedOrders=true)(b:abm P E):∀n,mS P (run E n):=by
 intro n;induction n with|zero=>exact⟨λ_ _ _ _ _ h=>(by cases h),λ_ _ _ _ _ h=>(by cases h)⟩|succ n C=>
  constructor;intro f args H r H' h;rw[J9]at h;simp[lN]at h;split at h;rename_i J V;have⟨fn,m,hb,ae,T,L⟩:=U.ft f J V;refine⟨⟨fn,m,Zad,L⟩,?_⟩;intro I μ w B s a;split at h;rename_i u;have t:∀o F' H2 rs,exec E (run E n) n false J.ntmps J.body args H=some (o,F',H2)->(∀id,o≠.exit id)->jJ E F' H2 J.results=some rs->CallsIn (fr none) 0 P f B.toArray w (Ar I μ H w (result rs) H2):=by intro o F' H2 rs hx al hr;refine callsIn_of_wp_marks m hb trivial ?_;rw[ae];have c:=PB s.gl a u;have:=Bn U j C n none false rfl J.ntmps J.body I μ args H {tmps:=B.toArray++replicate (J.ntmps-B.toArray.size) undef,defers:=[]} w o F' H2 hx c s ⟨Zab,.nil⟩ (le_refl _);refine wpIn_mono this ?_;rintro e a1 W ⟨rfl,⟨I1,y,r1,S,z⟩,m1⟩;have d:=Rq U (by rw[T];omega) (le_refl _) a1.defers W r1 S z m1;cases o with|norm=>exact d|ret=>exact d|exit id=>grind
  split at h;simp_all;simp at h;grind;grind;grind;split at h;next A=>exact⟨(b.sort f A).ok,λI μ w B s a=>Yy C (b.sort f A) h s a⟩
  have⟨yy,F,h⟩:=ζf.1 h;cases h;exact⟨(b.known f args _ F).1,λI μ w B s a=>(b.known f args _ F).2 I μ H w B s a⟩;intro id args H r H' h I μ w B p s a hp;rw[J9]at h;simp only[lN]at h;split at h
  .rename_i rec X;split at h
   .split at h
    .rename_i u;split at h
     .rename_i F2 H2 af;split at h
      .rename_i r2 Y;split at h
       .rename_i Z;split at h
        .rename_i o F4 H4 ah;split at h
         .rename_i r4 aa;obtain⟨rfl,rfl⟩:=h;have⟨q,l,g1,g2,g3,g4⟩:=DL s X;rw[hp]at g1;cases g1;have ai:l.params.size=rec.params.length:=by have:=congrArg List.length g4.params;grind
          have aj:B.toArray.size=l.params.size:=by rw[ai,<-u.1];simpa using a.1.symm
          refine⟨p.b,l.fn,_,l.assign,l.body,run_yield g3 aj,?_⟩;refine roundIn_of_wpIn trivial ?_;have O:(l.params.zip B.toArray).foldl (λtmps x=>tmps.setIfInBounds x.1 x.2) l.tmps=(rec.params.zip B).foldl (λtmps x=>tmps.setIfInBounds x.1 x.2) l.tmps:=by rw[<-Array.foldl_toList,Array.toList_zip,g4.params]
          have c:=Ea rec.params args B rec.frame l.tmps g4.frame a u.2;rw[<-O]at c;have W:=Bn U j C n (some p.b) true rfl rec.nt rec.assign I μ _ H {tmps:=_,defers:=[]} w _ _ _ af c s ⟨Zab,.nil⟩ (le_refl _);rw[g4.assign,g4.body];refine wpIn_mono W ?_;rintro e a1 W ⟨rfl,⟨I1,y,r1,S,z⟩,m1⟩;have⟨q,g,k1,k2,k3,k4⟩:=DL S Y;rw[z.mu _ _ hp]at k1;cases k1;have D:g.state=.ready:=by have:=k4.st;rw[Z]at this;cases d:g.state<;>rw[d]at this<;>simp[Ef.is]at this
          refine⟨_,run_beginRound k3 D,?_⟩;have G:=z.mu _ _ hp;have⟨K,st2⟩:=S.write (ob':=.loop {r2 with st:=.busy}) Y rfl G
           ⟨p,{g with state:=.busy},G,k2,kN _ (Array.getElem?_eq_some_iff.1 k3).1,⟨trivial,k4.pend,k4.pendOk,k4.frame,k4.params,k4.assign,k4.body⟩⟩
          have m2:=m1.step S st2;have w2:=Bn U j C n (some p.b) true rfl rec.nt rec.body I1 y F2 _ a1 (iu W p.b (.loop {g with state:=.busy})) o F4 H4 ah r1 K m2 (by rw[zI];exact z.size);refine wpIn_mono w2 ?_;rintro e a3 w3 ⟨rfl,⟨I3,μ3,r3,k,Q⟩,m3⟩;have⟨q,l4,M,j2,N,i⟩:=DL k aa;rw[Q.mu _ _ G]at M;cases M;have R:=Q.mu _ _ G;have fin:∃v w',(Instr.endRound p.b (oR o)).run P w3=.ok v w'/\Ar I μ H w (.bool (o==.norm)) (H4.set id (.loop {r4 with st:=(if o==.norm then .ready else .done),pend:=(if o==.norm then none else some o)})) (.returned v) w':=by
           refine⟨_,_,run_endRound (oR o) N,?_⟩;have⟨s4,ak⟩:=k.write (ob':=.loop {r4 with st:=(if o==.norm then .ready else .done),pend:=(if o==.norm then none else some o)}) aa rfl R
            ⟨p,{l4 with state:=if(oR o).isNone then .ready else .done,pending:=oR o},R,j2,kN _ (Array.getElem?_eq_some_iff.1 N).1,⟨by cases o<;>exact trivial,by cases o<;>rfl,by cases o<;>simp,i.frame,i.params,i.assign,i.body⟩⟩
           refine⟨_,I3,μ3,rfl,?_,s4,Step.trans S z (Step.trans K st2 (Step.trans k Q ak))⟩;rw[Hp];exact .c _ _ (.bool _)
          cases o with|norm=>exact fin|ret=>exact fin|exit id=>exact fin
         grind
        grind
       grind
      grind
     grind
    grind
   grind
  grind
end
end Go.VE
namespace Go.VE
variable[bX]
variable{P:Program}
def sx.Qs{t:W'}{d:TD}(h:yV P t=some d):sx P t d:=fm.ty (E:={tt:=yV P,ft:=λ_=>none,keep:=λ_=>false,own:=λ_=>false,eqN:=λ_=>none,sort:=λ_=>false}) ⟨λ_ _ h=>h,Zab,Zab⟩ h
def uj{i:W'}{cs:Array V'}{o:Nat}{v:V'}{w:World}(a:yV P i=some ⟨1,8,[.int .i64 0],.int .i64⟩)(h:cs[o]?=some v):(part i cs o).run P w=.ok v w:=by unfold part;simp[run_bind,(sx.Qs a).Pf,andThen,TD.agg,h]
def wz{a:Rd}(h:a.length=2):∃x y,a=[x,y]:=by match a,h with|[x,y],_=>exact⟨x,y,rfl⟩
def Dg(d:Nat)(e:X'){i:W'}(x:Int){w:World}(B:P.underlying i=some (.int .i64)):(checkKey e (d+1) i (.int .i64 x)).run P w=.ok () w:=by simp only[checkKey,run_bind,dX B,andThen_ok,run_pure]
def LW(d:Nat)(e:X'){t i:W'}{f g:Field}(x y:Int){w:World}(hu:P.underlying t=some (.struct #[f,g]))(D:f.type=i)(hg:g.type=i)(of:f.offset=0)(G:g.offset=1)(nf:f.name≠ "_")(J:g.name≠ "_")
 (hi:yV P i=some ⟨1,8,[.int .i64 0],.int .i64⟩)(B:P.underlying i=some (.int .i64)):(checkKey e (d+1+1) t (.agg (ic [x,y]))).run P w=.ok () w:=by
 have u:∀w,(part i (ic [x,y]) 0).run P w=.ok (.int .i64 x) w:=λw=>uj hi rfl
 have p1:∀w,(part i (ic [x,y]) 1).run P w=.ok (.int .i64 y) w:=λw=>uj hi rfl
 have q:∀(x:Int)w,(checkKey e (d+1) i (.int .i64 x)).run P w=.ok () w:=λx w=>Dg d e x B
 unfold checkKey;simp only[run_bind,dX hu,andThen_ok];rw[<-Array.forIn_toList];simp only[List.forIn_cons,List.forIn_nil,run_bind,D,hg,of,G,nf,J,ne_eq,not_false_eq_true,if_true,u,p1,q,andThen_ok,run_pure]
def yO.two{t i:W'}{f g:Field}(hu:P.underlying t=some (.struct #[f,g]))(U:f.type=i)(hg:g.type=i)(of:f.offset=0)(W:g.offset=1)(nf:f.name≠ "_")(Y:g.name≠ "_")
 (hi:yV P i=some ⟨1,8,[.int .i64 0],.int .i64⟩)(G:P.underlying i=some (.int .i64))(hs:P.stoodInHeld t=false)(hq:P.eqGuardType P.depth t=false):yO P t 2:=by
 have I:P.fieldsOf t=#[f,g]:=by unfold Program.fieldsOf;rw[hu]
 have B:∀(w:World)(x y z u:Int),(equal t (.agg (ic [x,y])) (.agg (ic [z,u]))).run P w=.ok ([x,y]==[z,u]) w:=by intro w x y z u;show(equalIn (9999+1) t _ _).run P w=_;rw[run_equalIn_struct w 9999 t _ _ (by rw[I];exact hu) hs,I];have Q:∀(x y:Int)w,(part i (ic [x,y]) 0).run P w=.ok (.int .i64 x) w:=λx y w=>uj hi rfl;have p1:∀(x y:Int)w,(part i (ic [x,y]) 1).run P w=.ok (.int .i64 y) w:=λx y w=>uj hi rfl;have q:∀(x y:Int)w,(equalIn 9999 i (.int .i64 x) (.int .i64 y)).run P w=.ok (x==y) w:=λx y w=>Em 9998 x y G;simp only[Op.eqFields,U,hg,of,W,nf,Y,ne_eq,not_false_eq_true,if_true,run_bind,Q,q,andThen_ok];by_cases C:x=z;by_cases J:y=u;subst C;subst J;simp[run_bind,p1,q,andThen];subst C;have:(y==u)=false:=(by simpa using J);simp[run_bind,p1,q,andThen,this];have:(x==z)=false:=(by simpa using C);simp[this]
 have L:∀(op:BinOp)(p q:UV)(w:World)(u v:Array V'),(eqGuard op t p q (.agg u) (.agg v)).run P w=.ok () w:=by intro op p q w u v;unfold eqGuard;cases op<;>simp[run_bind,run_program,andThen,hq]
 refine⟨?_,?_,?_,?_,⟨_,hu,.inr ⟨_,rfl⟩⟩⟩
 .intro w p q a b D O;obtain⟨x,y,rfl⟩:=wz D;obtain⟨z,u,rfl⟩:=wz O;rw[run_bind,L,andThen_ok];show(do pure (Value.bool (<-equal t (.agg (ic [x,y])) (.agg (ic [z,u])))):Sem V').run P w=_
  rw[run_bind,B];rfl
 .intro w p q a b D O;obtain⟨x,y,rfl⟩:=wz D;obtain⟨z,u,rfl⟩:=wz O;rw[run_bind,L,andThen_ok];show(do pure (Value.bool (!(<-equal t (.agg (ic [x,y])) (.agg (ic [z,u]))))):Sem V').run P w=_
  rw[run_bind,B];rfl
 .intro w a b D O;obtain⟨x,y,rfl⟩:=wz D;obtain⟨z,u,rfl⟩:=wz O;exact B w x y z u
 intro w e a D;obtain⟨x,y,rfl⟩:=wz D;exact LW 9998 e x y hu U hg of W nf Y hi G
def lk{α:Type}:aX (Nat×α)->Nat->aY α
 |[],_=>none|(k,v)::r,n=>bif beq k n then some v else lk r n
def Rl{α:Type}:∀{l:aX (Nat×α)}{n:Nat}{v:α},lk l n=some v->(n,v)∈l
 |[],_,_,h=>by simp[lk]at h|(k,x)::r,n,v,h=>by simp only[lk]at h;cases a:beq k n with|true=>rw[a]at h;simp only[cond_true,ζa]at h;have:=Nat.eq_of_beq_eq_true a;subst this;subst h;simp|false=>rw[a]at h;exact mem_cons_of_mem _ (Rl h)
end Go.VE
namespace Go.VE
variable[bX]
inductive KT where|bool|str|slice|ptr|map|int|other
 deriving DecidableEq
def TK.tag:TK->KT
 |.bool=>.bool|.int _=>.int|.str=>.str|.ptr _=>.ptr|.slice _=>.slice|.map ..=>.map|_=>.other
def rI(k:KT)(x y:V):aY X':=
 match k,x,y with
 |.slice,.bO,.bO=>some true|.slice,.fsl ..,.bO=>some false|.slice,.hsl ..,.bO=>some false|.ptr,.js,.js=>some true|.ptr,.fptr _,.js=>some false|.ptr,.hptr ..,.js=>some false|.map,.iA,.iA=>some true|.map,.fmap _,.iA=>some false|.map,.hmap _,.iA=>some false|_,_,_=>none
def nq(k:aY KT)(e:aY Nat)(op:BinOp)(x y:V):aY V:=
 match x,y with
 |.int k a,.int u b=>
  match op with
  |.shl=>if b<0 then none else some (.int k (k.wrap (a*2 ^ (min b.toNat k.bits))))|.shr=>if b<0 then none else some (.int k (a.fdiv (2 ^ (min b.toNat k.bits))))|_=>if k=u then
   match op with
   |.add=>some (.int k (k.wrap (a+b)))|.sub=>some (.int k (k.wrap (a-b)))|.mul=>some (.int k (k.wrap (a*b)))|.quo=>if b=0 then none else some (.int k (k.wrap (a.tdiv b)))|.rem=>if b=0 then none else some (.int k (a.tmod b))|.and=>some (.int k (k.wrap (ofInt k.bits a &&& ofInt k.bits b).toNat))|.or=>some (.int k (k.wrap (ofInt k.bits a ||| ofInt k.bits b).toNat))|.xor=>some (.int k (k.wrap (ofInt k.bits a ^^^ ofInt k.bits b).toNat))|.andNot=>some (.int k (k.wrap (ofInt k.bits a &&& ~~~ ofInt k.bits b).toNat))|op=>(rN op a b).map .bool
   else none
 |.str a,.str b=>
  match op with
  |.add=>if((a.size+b.size:Nat):Int)>IntKind.i64.max then none else some (.str (a++b))|.eql=>some (.bool (a.toList==b.toList))|.neq=>some (.bool !(a.toList==b.toList))|.lss=>some (.bool (bytesLess a.toList b.toList))|.leq=>some (.bool (bytesLess a.toList b.toList||a.toList==b.toList))|.gtr=>some (.bool !(bytesLess a.toList b.toList||a.toList==b.toList))|.geq=>some (.bool !(bytesLess a.toList b.toList))|_=>none
 |.bool a,.bool b=>
  match k,op with
  |some .bool,.eql=>some (.bool (a==b))|some .bool,.neq=>some (.bool !(a==b))|_,_=>none
 |.agg a,.agg b=>
  match e,op with
  |some n,.eql=>if a.length=n then(mT a b).map .bool else none|some n,.neq=>if a.length=n then(mT a b).map (λt=>.bool !t)else none|_,_=>none
 |x,y=>
  match k,op with
  |some k,.eql=>(rI k x y).map .bool|some k,.neq=>(rI k x y).map λt=>.bool !t|_,_=>none
def Qp(k:TK)(x y:V):xz k x y=rI k.tag x y:=by cases k<;>cases y<;>(try rfl)<;>cases x<;>rfl
def Xc(E:Env)(op:BinOp)(t:W')(x y:V):L4 E op t x y=nq ((E.kindOf t).map TK.tag) (E.eqN t) op x y:=by
 unfold L4;split;rfl;rfl;cases b:E.kindOf t with|none=>rfl|some k=>cases k<;>cases op<;>rfl
 rfl;rename_i a u w z
 cases b:E.kindOf t with
 |none=>rw[nq.eq_29 _ _ _ _ _ a u w z Zab Zab]|some k=>
  simp only[Qp];cases op<;>first
   |exact(nq.eq_27 _ _ _ _ a u w z).symm|exact(nq.eq_28 _ _ _ _ a u w z).symm|(rw[nq.eq_29 _ _ _ _ _ a u w z Zab Zab])
inductive xF where
 |id|pick|nilc
 |bin(k:Option KT)(e:Option Nat)(op:BinOp)
 |not|neg
 |conv(k:IntKind)
 |fieldAddr(off:Nat)
 |field(off size:Nat)(agg:Bool)
 |idxS(size:Nat)
 |idxA(len size:Nat)
 |idxStr
 |idxArr(len size:Nat)(agg:Bool)
 |sliceStr(lo hi:Bool)
 |slice(size:Nat)(lo hi:Bool)
 |slice00
 |build(zero:List V)(pl:List (Nat×Nat))
 |clo(name:Nat)(k:Nat)
 |ext(i:Nat)
 |lenStr|lenSl|capSl|max|min|bad|max4
 |makeC(size:Nat)(zero:List V)
 |buildC(size len:Nat)(zero:List V)(idx:List Nat)
 |emptyC
def Qz:V->aY V
 |.hptr id el off=>some (.hptr id el off)|.fptr cs=>some (.fptr cs)|.clo f a b=>some (.clo f a b)|_=>none
def nZ(off:Nat):V->aY V
 |.fptr cs=>if off<=cs.length then some (.fptr (cs.drop off))else none|.hptr id el o=>some (.hptr id el (o+off))|_=>none
def nQ(size:Nat)(s:V)(n:Int):aY V:=
 if n<0 then none else match s with
 |.fsl es u=>if es=size then(u[n.toNat]?).map .fptr else none|.hsl id es off len=>if es=size/\n.toNat<len then some (.hptr id (off+n.toNat) 0)else none|_=>none
def zP(len size:Nat)(p:V)(n:Int):aY V:=
 if 0<=n/\n<len then match p with
  |.fptr cs=>if n.toNat*size<=cs.length then some (.fptr (cs.drop (n.toNat*size)))else none|.hptr id el o=>some (.hptr id el (o+n.toNat*size))|_=>none
 else none
def oC:X'->X'->So->aY (Ps×Ps)
 |false,false,[]=>some (none,none)|true,false,[.int _ l]=>some (some l,none)|false,true,[.int _ h]=>some (none,some h)|true,true,[.int _ l,.int _ h]=>some (some l,some h)|_,_,_=>none
def jE(size:Nat)(v:V)(l h:Ps):aY V:=
 match v with
 |.fsl es u=>if es=size then(eD u.length l h).map λ(l,h)=>.fsl es ((u.take h).drop l)else none|.hsl id es off len=>if es=size then(eD len l h).map λ(l,h)=>.hsl id es (off+l) (h-l)else none|.dY=>(eD 0 l h).map λ_=>.dY|.bO=>(eD 0 l h).map λ_=>.bO|_=>none
def Qn:V->X'
 |.fsl ..|.hsl ..|.dY|.bO=>true|_=>false
def mL(cells:So):aX (Nat×Nat)->So->aY So
 |[],[]=>some cells|(off,size)::pl,v::vs=>
  if v.cells.length≠size||off+v.cells.length>cells.length then none
  else mL (cells.take off++v.cells++cells.drop (off+v.cells.length)) pl vs
 |_,_=>none
def o5:V->aY V
 |.fsl _ xs=>some (.int .i64 xs.length)|.hsl _ _ _ len=>some (.int .i64 len)|.dY=>some (.int .i64 0)|.bO=>some (.int .i64 0)|_=>none
def Lw:V->aY V
 |.bO|.dY=>some (.int .i64 0)|_=>none
def bM(N:Nat->Y'):xF->So->aY V
 |.id,[x]=>some x
 |.pick,[.bool t,a,b]=>some (if t then a else b)
 |.nilc,[x]=>Qz x
 |.bin k e op,[x,y]=>nq k e op x y
 |.not,[.bool b]=>some (.bool !b)
 |.neg,[.int k n]=>some (.int k (k.wrap (0-n)))
 |.conv k,[.int _ n]=>some (.int k (k.wrap n))
 |.fieldAddr off,[p]=>nZ off p
 |.field off size agg,[.agg cs]=>(cut cs off size).bind (mk agg)
 |.idxS size,[s,.int _ n]=>nQ size s n
 |.idxA len size,[p,.int _ n]=>zP len size p n
 |.idxStr,[.str s,.int _ n]=>if 0<=n then(s[n.toNat]?).map (λb=>.int .u8 b.toNat)else none
 |.idxArr len size agg,[.agg cs,.int _ n]=>if 0<=n/\n<len then(cut cs (n.toNat*size) size).bind (mk agg)else none
 |.sliceStr lo hi,.str s::D=>(oC lo hi D).bind λ(l,h)=>(eD s.size l h).map λ(l,h)=>.str (s.extract l h)
 |.slice size lo hi,v::D=>(oC lo hi D).bind λ(l,h)=>jE size v l h
 |.slice00,[v,.int _ h,.int _ m]=>if Qn v&&h==0&&m==0 then some .dY else none
 |.build zero pl,vs=>(mL zero pl vs).map .agg
 |.clo name k,vs=>some (.clo (N name) (vs.take k) (vs.drop k))
 |.ext i,[.tup vs]=>vs[i]?
 |.lenStr,[.str s]=>some (.int .i64 s.size)
 |.lenSl,[v]=>o5 v
 |.capSl,[v]=>Lw v
 |.max,[.int k a,.int B b]=>if k=B then some (.int k (if b>a then b else a))else none
 |.max4,[.int k a,.int k1 b,.int k2 c,.int k3 d]=>if k=k1/\k=k2/\k=k3 then some (.int k (Fx (Fx (Fx a b) c) d))else none
 |.min,[.int k a,.int B b]=>if k=B then some (.int k (if b<a then b else a))else none
 |.makeC size zero,[.int k n,.int B m]=>if k=.i64/\B=.i64/\0<=n/\n=m/\m<=2147483648/\zero.all V.scalar=true then some (.fsl size (List.replicate n.toNat zero))else none
 |.buildC size len zero idx,vs=>if V.c_ vs=true/\idx.length=vs.length then match fV size (List.replicate len zero) (idx.zip vs)with
  |some xs=>if xs.isEmpty=false/\(xs.all λx=>x.all V.scalar)=true then some (.fsl size xs)else none
  |none=>none
  else none
 |.emptyC,[]=>some .dY
 |_,_=>none
inductive Aj where|int (k:IntKind)|str|ints (n:Nat)
def FJ(E:Env)(t:W'):aY Aj:=
 match E.kindOf t with
 |some (.int k)=>some (.int k)|some .str=>some .str|some _=>(E.eqN t).map .ints|none=>none
def sC:Aj->V->X'
 |.int k,.int B _=>k==B|.str,.str _=>true|.ints n,.agg cs=>cs.length==n&&(jC cs).isSome|_,_=>false
inductive Ol where
 |load(size:Nat)(agg:Bool)|loadF(size:Nat)(agg:Bool)|lookup(kk:Aj)(zero:V)(ok:Bool)
def eE(H:bn):Ol->So->aY V
 |.load size agg,[p]=>(eN H p size).bind (mk agg)|.lookup kk z ok,[m,k]=>match oN H m with
  |some B=>if sC kk k then match jy k B 0 with
   |some (some (_,v))=>some (if ok then .tup [v,.bool true]else v)|some none=>some (if ok then .tup [z,.bool false]else z)|none=>none
   else none
  |none=>none
 |_,_=>none
inductive Re where
 |alloc(size:Nat)(zero:List V)|box|makeSl(size:Nat)(zero:List V)|buildSl(size len:Nat)(zero:List V)(idx:List Nat)|makeMap
def kT:Re->So->aY (Ob×Mk)
 |.alloc size zero,[]=>some (.row size [zero],.ptr)|.box,[v]=>if v.cells.all V.one then some (.row v.cells.length [v.cells],.ptr)else none|.makeSl size zero,[.int k n,.int B m]=>if k=.i64/\B=.i64/\0<=n/\n<=m/\m<=2147483648 then some (.row size (List.replicate m.toNat zero),.sl size n.toNat)else none|.buildSl size len zero idx,vs=>if idx.length=vs.length then(fV size (List.replicate len zero) (idx.zip vs)).map λxs=>(.row size xs,.sl size len)else none|.makeMap,[]=>some (.map [],.map)|_,_=>none
inductive N_ where
 |store(size:Nat)|storeF(size:Nat)|mapUp(kk:Aj)|append(size:Nat)|appMk(size bytes:Nat)(zero:List V)|clear(size:Nat)(zero:List V)
def gb(H:bn):N_->So->aY (V×bn)
 |.store size,[.hptr id el off,v]=>match H[id]?with
  |some (.row es xs)=>match xs[el]?with
   |some cs=>if v.cells.length=size/\off+size<=cs.length/\v.cells.all V.one=true then
    some (.undef,H.set id (.row es (xs.set el (cs.take off++v.cells++cs.drop (off+v.cells.length)))))else none
   |none=>none
  |_=>none
 |.mapUp kk,[.hmap id,k,v]=>match H[id]?with
  |some (.map B)=>if sC kk k then(sG k v B).map λB=>(.undef,H.set id (.map B))else none|_=>none
 |.append size,[s,x]=>match dZ H size s,dZ H size x with
  |some _,some []=>some (s,H)|some xs,some ys=>if xs.length+ys.length<=2147483648 then(jf H s).map λH1=>(.hsl H.length size 0 (xs.length+ys.length),H1++[.row size (xs++ys)])else none|_,_=>none
 |.appMk size bytes zero,[s,x]=>mkApp H size bytes zero s x|.clear size zero,[v]=>GH H size zero v|.storeF size,.hptr id el off::v::l=>if l.all (qt id)=true then match H[id]?with
  |some (.row es xs)=>match xs[el]?with
   |some cs=>if v.cells.length=size/\off+size<=cs.length/\v.cells.all V.one=true then
    some (.undef,H.set id (.row es (xs.set el (cs.take off++v.cells++cs.drop (off+v.cells.length)))))else none
   |none=>none
  |_=>none
  else none
 |_,_=>none
inductive K where
 |p(p:xF)|r(r:Ol)|a(a:Re)|l(l:N_)|c|e(size:Nat)|b
def abM(E:Env)(t:W'):aY KT:=(E.kindOf t).map TK.tag
def resolve(E:Env)(nm:Y'->aY Nat):Op->aY (K×aX UV)
 |.move x|.assign x=>some (.p .id,[x])
 |.pick c a b=>some (.p .pick,[c,a,b])
 |.nilCheck x=>some (.p .nilc,[x])
 |.binOp op t x y _=>some (.p (.bin (abM E t) (E.eqN t) op),[x,y])
 |.unOp .not _ x=>some (.p .not,[x])
 |.unOp .neg _ x=>some (.p .neg,[x])
 |.convert s d x=>match E.tt s,E.tt d with
  |some _,some G=>match G.kind with
   |.int k=>some (.p (.conv k),[x])
   |.str=>match E.kindOf s with
    |some (.slice e)=>match E.kindOf e with
     |some (.int .u8)=>some (.b,[x])
     |_=>none
    |_=>none
   |_=>none
  |_,_=>none
 |.fieldAddr s x f=>match E.kindOf s with
  |some (.struct fs)=>match fs[f]?with
   |some (off,t)=>match E.tt t with
    |some d=>if d.size=0 then none else some (.p (.fieldAddr off),[x])
    |none=>none
   |none=>none
  |_=>none
 |.field s x f=>match E.kindOf s with
  |some (.struct fs)=>match fs[f]?with
   |some (off,t)=>match E.tt t with
    |some d=>some (.p (.field off d.size d.agg),[x])
    |none=>none
   |none=>none
  |_=>none
 |.indexAddr t x i=>match E.kindOf t with
  |some (.slice e)=>(E.tt e).map λd=>(.p (.idxS d.size),[x,i])
  |some (.array len e)=>(E.tt e).map λd=>(.p (.idxA len d.size),[x,i])
  |_=>none
 |.index t x i=>match E.kindOf t with
  |some .str=>some (.p .idxStr,[x,i])
  |some (.array len e)=>(E.tt e).map λd=>(.p (.idxArr len d.size d.agg),[x,i])
  |_=>none
 |.slice t x lo hi J=>match E.kindOf t,J with
  |some .str,none=>some (.p (.sliceStr lo.isSome hi.isSome),x::(lo.toList++hi.toList))
  |some (.slice e),none=>(E.tt e).map λd=>(.p (.slice d.size lo.isSome hi.isSome),x::(lo.toList++hi.toList))
  |some (.slice e),some m=>match E.tt e,lo,hi with
   |some _,none,some h=>some (.p .slice00,[x,h,m])
   |_,_,_=>none
  |_,_=>none
 |.build t ps=>match E.tt t with
  |some d=>match d.kind with
   |.struct fs=>match pS E fs with
    |some pl=>(ps.toList.mapM λ(q:Nat×UV)=>pl[q.1]?).map λq=>(K.p (.build d.zero q),ps.toList.map λ(q:Nat×UV)=>q.2)
    |none=>none
   |.array _ e=>(E.tt e).map λD=>(K.p (.build d.zero (ps.toList.map λ(q:Nat×UV)=>(q.1*D.size,D.size))),ps.toList.map λ(q:Nat×UV)=>q.2)
   |_=>none
  |none=>none
 |.makeFunc (.func f) a b=>(nm f).map λs=>(.p (.clo s a.toList.length),a.toList++b.toList)
 |.extract x i=>some (.p (.ext i),[x])
 |.load t a=>(E.tt t).map λd=>(.r (.load d.size d.agg),[a])
 |.lookup t m k ok=>match E.kindOf t with
  |some (.map B U)=>match E.tt U,FJ E B with
   |some d,some kk=>(mk d.agg d.zero).map λz=>(.r (.lookup kk z ok),[m,k])
   |_,_=>none
  |_=>none
 |.alloc t=>(E.tt t).map λd=>(.a (.alloc d.size d.zero),[])
 |.box _ x=>some (.a .box,[x])
 |.makeSlice t l c=>match E.kindOf t with
  |some (.slice e)=>match E.tt e with
   |some d=>if d.bytes<=4096 then some (.a (.makeSl d.size d.zero),[l,c])else none
   |none=>none
  |_=>none
 |.buildSlice t len ps=>match E.kindOf t with
  |some (.slice e)=>match E.tt e with
   |some d=>if len*d.size<=16777216 then some (.a (.buildSl d.size len d.zero (ps.toList.map (·.1))),ps.toList.map (·.2))else none
   |none=>none
  |_=>none
 |.makeMap _ none=>some (.a .makeMap,[])
 |.store t a x=>(E.tt t).map λd=>(.l (.store d.size),[a,x])
 |.mapUpdate t m k x|.insert t m k x=>match E.kindOf t with
  |some (.map B _)=>(FJ E B).map λkk=>(.l (.mapUp kk),[m,k,x])
  |_=>none
 |.call {callee:=.builtin .append,args,argTypes}=>match argTypes.toList,args.toList with
  |[t,W],[s,x]=>match E.kindOf t,E.kindOf W with
   |some (.slice e),some (.slice _)=>match E.tt e with
    |some d=>if d.bytes<=4096/\0<d.bytes then some (.l (.append d.size),[s,x])else none
    |none=>none
   |some (.slice e),some (.int _)=>(E.tt e).map λd=>(.l (.appMk d.size d.bytes d.zero),[s,x])
   |_,_=>none
  |_,_=>none
 |.call {callee:=.builtin .len,args,argTypes}=>match argTypes[0]?,args.toList with
  |some t,[x]=>match E.kindOf t with
   |some .str=>some (.p .lenStr,[x])
   |some (.slice _)=>some (.p .lenSl,[x])
   |_=>none
  |_,_=>none
 |.call {callee:=.builtin .cap,args,argTypes}=>match argTypes[0]?,args.toList with
  |some t,[x]=>match E.kindOf t with
   |some (.slice _)=>some (.p .capSl,[x])
   |_=>none
  |_,_=>none
 |.call {callee:=.builtin .clear,args,argTypes}=>match argTypes[0]?,args.toList with
  |some t,[x]=>match E.kindOf t with
   |some (.slice e)=>(E.tt e).map λd=>(.l (.clear d.size d.zero),[x])
   |_=>none
  |_,_=>none
 |.panic _=>some (.p .bad,[])
 |.makeInterface ..=>some (.p .bad,[])
 |.call {callee:=.builtin .max,args,..}=>match args.toList with
  |[x,y]=>some (.p .max,[x,y])
  |[x,y,z,t]=>some (.p .max4,[x,y,z,t])
  |_=>none
 |.call {callee:=.builtin .min,args,..}=>match args.toList with
  |[x,y]=>some (.p .min,[x,y])
  |_=>none
 |.call {callee:=.value f,args,..}=>some (.c,f::args.toList)
 |_=>none
section
variable{E:Env}{nm:Y'->aY Nat}{N:Nat->Y'}{F:WP}
def qQ{x:UV}{vs:So}(h:gm F [x]=some vs):∃a,ev F x=some a/\vs=[a]:=by simp[gm]at h;grind
def kf{x:UV}{l:aX UV}{vs:So}(h:gm F (x::l)=some vs):∃a az,ev F x=some a/\gm F l=some az/\vs=a::az:=by simp[gm]at h;grind
def s9{vs:So}(h:gm F []=some vs):vs=[]:=by simp[gm]at h;grind
def vF{x y:UV}{vs:So}(h:gm F [x,y]=some vs):∃a b,ev F x=some a/\ev F y=some b/\vs=[a,b]:=by obtain⟨a,az,w,u,rfl⟩:=kf h;obtain⟨b,z,rfl⟩:=qQ u;grind
def Kn{x y z:UV}{vs:So}(h:gm F [x,y,z]=some vs):∃a b c,ev F x=some a/\ev F y=some b/\ev F z=some c/\vs=[a,b,c]:=by obtain⟨a,az,w,u,rfl⟩:=kf h;obtain⟨b,c,B,d,rfl⟩:=vF u;grind
def Qc{l m:aX UV}{vs:So}(h:gm F (l++m)=some vs):∃az B,gm F l=some az/\gm F m=some B/\vs=az++B:=by induction l generalizing vs with|nil=>exact⟨[],vs,rfl,h,rfl⟩|cons x l u=>obtain⟨a,az,w,z,rfl⟩:=kf h;obtain⟨b,c,C,d,rfl⟩:=u z;refine⟨a::b,c,?_,d,rfl⟩;simp[gm,w,C]
def OV{l:aX UV}{vs:So}(h:gm F l=some vs):vs.length=l.length:=by induction l generalizing vs with|nil=>rw[s9 h];rfl|cons x l u=>obtain⟨a,az,_,w,rfl⟩:=kf h;grind
def DP(E:Env)(N:Nat->Y')(F:WP)(op:Op)(vs:So):K->Prop
 |.p p=>cQ op=.pure/\∀v,bM N p vs=some v->bQ E F op=some v|.r r=>cQ op=.read/\∀H v,eE H r vs=some v->eC E F H op=some v|.a a=>cQ op=.alloc/\∀x,kT a vs=some x->fN E F op=some x|.l l=>cQ op=.loud/\∀H x,gb H l vs=some x->cH E F H op=some x|.e _=>False|.b=>cQ op=.pure/\∃x,vs=[x]/\∀H ys l,dZ H 1 x=some ys->nJ ys=some l->bQ E F op=none/\evalConv E F H op=some (.str (mA l))|.c=>cQ op=.call/\∃f az,vs=f::az/\lX F op=(match f with|.clo g a b=>some (.fn g,a++az++b)|.yld id=>some (.yld id,az)|_=>none)
def MC(place:Nat->aY (Nat×Nat)):∀(ps:aX (Nat×UV))(q:aX (Nat×Nat))(vs:So)(cells cs:So),(ps.mapM λ(x:Nat×UV)=>place x.1)=some q->
 gm F (ps.map λ(x:Nat×UV)=>x.2)=some vs->mL cells q vs=some cs->∃B,oE F ps=some B/\wQ place cells B=some cs:=by
 intro ps
 induction ps with
 |nil=>
  intro q vs cells cs u b h;simp at u;subst u;have:=s9 (by simpa using b);subst this
  simp[mL]at h;subst h;exact⟨[],rfl,rfl⟩
 |cons p ps D=>
  intro q vs cells cs u b h;have⟨i,x⟩:=p;simp only[List.mapM_cons,Option.pure_def,Option.bind_eq_bind,ζg,ζa]at u;obtain⟨pl,w,G,z,rfl⟩:=u;obtain⟨a,az,I,C,rfl⟩:=kf (by simpa using b)
  simp only[mL]at h;split at h
  .simp_all
  have⟨B,c,J⟩:=D G az _ cs z C h;refine⟨(i,a)::B,by simp[oE,I,c],?_⟩
  simp[wQ,w]
  grind
def Rf:∀(ps:aX (Nat×UV))(vs:So),gm F (ps.map λ(x:Nat×UV)=>x.2)=some vs->oE F ps=some ((ps.map λ(x:Nat×UV)=>x.1).zip vs):=by intro ps;induction ps with|nil=>simp[oE]|cons p ps w=>intro vs b;obtain⟨a,az,z,u,rfl⟩:=kf (by simpa using b);simp[oE,z,w az u]
def LC{d c:aY UV}{vs:So}{l h:Ps}(e:gm F (d.toList++c.toList)=some vs)(B:oC d.isSome c.isSome vs=some (l,h)):lT F d=some l/\lT F c=some h:=by
 cases d with
 |none=>cases c with|none=>have:=s9 (by simpa using e);subst this;obtain⟨rfl,rfl⟩:=B;exact⟨rfl,rfl⟩|some y=>obtain⟨b,u,rfl⟩:=qQ (by simpa using e);cases b<;>simp[oC]at B;obtain⟨rfl,rfl⟩:=B;simp[lT,u]
 |some x=>cases c with|none=>obtain⟨b,u,rfl⟩:=qQ (by simpa using e);cases b<;>simp[oC]at B;obtain⟨rfl,rfl⟩:=B;simp[lT,u]|some y=>obtain⟨a,b,w,u,rfl⟩:=vF (by simpa using e);cases a<;>cases b<;>simp[oC]at B;obtain⟨rfl,rfl⟩:=B;simp[lT,w,u]
def B_{t:W'}{kk:Aj}{k:V}(h:FJ E t=some kk)(a:sC kk k=true):DX E t k=true:=by unfold FJ at h;unfold DX;cases u:E.kindOf t with|none=>grind|some tk=>rw[u]at h;have b:(E.eqN t).map Aj.ints=some kk->∃n cs,E.eqN t=some n/\k=.agg cs/\(cs.length==n&&(jC cs).isSome)=true:=(by intro h;simp at h;obtain⟨n,w,rfl⟩:=h;cases k<;>simp[sC]at a<;>first|grind|grind);cases tk with|int z=>simp at h;subst h;cases k<;>simp[sC]at a;grind|str=>simp at h;subst h;cases k<;>simp[sC]at a;rfl|_=>obtain⟨n,cs,c,rfl,B⟩:=b h;simp_all
def kR(hN:∀f s,nm f=some s->N s=f){op:Op}{k:K}{os:aX UV}{vs:So}(h:resolve E nm op=some (k,os))(g:gm F os=some vs):DP E N F op vs k:=by
 cases op with
 |move x=>obtain⟨rfl,rfl⟩:=h;obtain⟨a,B,rfl⟩:=qQ g;exact⟨rfl,λv w=>by simpa[bM,bQ,B]using w⟩|assign x=>obtain⟨rfl,rfl⟩:=h;obtain⟨a,B,rfl⟩:=qQ g;exact⟨rfl,λv w=>by simpa[bM,bQ,B]using w⟩|pick c a b=>simp[resolve]at h;obtain⟨rfl,rfl⟩:=h;obtain⟨x,y,z,hx,hy,U,rfl⟩:=Kn g;refine⟨rfl,λv w=>?_⟩;cases x<;>simp[bM]at w;rename_i t;subst w;cases t<;>simp[bQ,hx,hy,U]|nilCheck x=>simp[resolve]at h;obtain⟨rfl,rfl⟩:=h;obtain⟨a,B,rfl⟩:=qQ g;refine⟨rfl,λv w=>?_⟩;cases a<;>simp[bM,Qz]at w<;>subst w<;>simp[bQ,B]|binOp ai t x y yt=>simp only[resolve,ζa,ζc]at h;obtain⟨rfl,rfl⟩:=h;obtain⟨a,b,B,G,rfl⟩:=vF g;exact⟨rfl,λv w=>by simp only[bQ,B,G,Xc];exact w⟩|unOp u t x=>cases u with|not=>simp only[resolve,ζa,ζc]at h;obtain⟨rfl,rfl⟩:=h;obtain⟨a,B,rfl⟩:=qQ g;refine⟨rfl,λv w=>?_⟩;cases a<;>simp[bM]at w;subst w;simp[bQ,B]|neg=>simp only[resolve,ζa,ζc]at h;obtain⟨rfl,rfl⟩:=h;obtain⟨a,B,rfl⟩:=qQ g;refine⟨rfl,λv w=>?_⟩;cases a<;>simp[bM]at w;subst w;simp[bQ,B]|_=>simp[resolve]at h
 |convert s d x=>
  simp only[resolve]at h;split at h
  .rename_i sd td M hd;split at h;rename_i k j;simp only[ζa,ζc]at h;obtain⟨rfl,rfl⟩:=h;obtain⟨a,B,rfl⟩:=qQ g;refine⟨rfl,λv w=>?_⟩;cases a<;>simp[bM]at w;subst w;simp[bQ,B,M,hd,j]
   .rename_i j;split at h
    .rename_i e he;split at h
     .rename_i hu;simp only[ζa,ζc]at h;obtain⟨rfl,rfl⟩:=h;obtain⟨a,B,rfl⟩:=qQ g;refine⟨rfl,a,rfl,λH ys l n J=>?_⟩;have ab:E.kindOf d=some .str:=(by unfold Env.kindOf;rw[hd,map_some,j]);refine⟨?_,by simp only[evalConv,he,ab,B,hu,n,J,ζb,map_some]⟩;simp only[bQ,M,hd,B];cases a<;>first|rfl|(simp only[dZ]at n;cases n)
     simp at h
    simp at h
   simp at h
  simp at h
 |fieldAddr s x f=>simp only[resolve]at h;split at h;rename_i fs j;split at h;rename_i off t W;split at h;rename_i d hd;split at h;simp at h;rename_i U;simp only[ζa,ζc]at h;obtain⟨rfl,rfl⟩:=h;obtain⟨a,B,rfl⟩:=qQ g;refine⟨rfl,λv w=>?_⟩;simp only[bQ,B,j,W,hd,if_neg U];simp only[bM,nZ]at w;cases a<;>simp at w⊢ <;>exact w;simp at h;simp at h;simp at h|field s x f=>
  simp only[resolve]at h;split at h
  .rename_i fs j;split at h
   .rename_i off t W;split at h
    .rename_i d hd;simp only[ζa,ζc]at h;obtain⟨rfl,rfl⟩:=h;obtain⟨a,B,rfl⟩:=qQ g;refine⟨rfl,λv w=>?_⟩;cases a<;>simp only[bM]at w<;>first|(simp only[bQ,B,j,W,hd];exact w)|simp at w
    simp at h
   simp at h
  simp at h
 |indexAddr t x i=>
  simp only[resolve]at h;split at h
  .rename_i e j;simp only[ζf,ζc]at h;obtain⟨d,hd,rfl,rfl⟩:=h;obtain⟨a,b,B,G,rfl⟩:=vF g;refine⟨rfl,λv w=>?_⟩;(cases b<;>simp only[bM]at w<;>first|simp at w;done|skip);simp only[bQ,B,G,j,hd];unfold nQ at w;exact w
  .rename_i len e j;simp only[ζf,ζc]at h;obtain⟨d,hd,rfl,rfl⟩:=h;obtain⟨a,b,B,G,rfl⟩:=vF g;refine⟨rfl,λv w=>?_⟩;(cases b<;>simp only[bM]at w<;>first|simp at w;done|skip);simp only[bQ,B,G,j,hd];unfold zP at w;exact w
  simp at h
 |index t x i=>
  simp only[resolve]at h;split at h
  .rename_i j;simp only[ζa,ζc]at h;obtain⟨rfl,rfl⟩:=h;obtain⟨a,b,B,G,rfl⟩:=vF g;refine⟨rfl,λv w=>?_⟩;(cases a<;>cases b<;>simp only[bM]at w<;>first|simp at w;done|skip);simp only[bQ,B,G,j];exact w
  .rename_i len e j;simp only[ζf,ζc]at h;obtain⟨d,hd,rfl,rfl⟩:=h;obtain⟨a,b,B,G,rfl⟩:=vF g;refine⟨rfl,λv w=>?_⟩;(cases a<;>cases b<;>simp only[bM]at w<;>first|simp at w;done|skip);simp only[bQ,B,G,j,hd];exact w
  simp at h
 |slice t x lo hi mx=>
  simp only[resolve]at h;split at h
  .rename_i j;simp only[ζa,ζc]at h;obtain⟨rfl,rfl⟩:=h;obtain⟨a,bs,B,G,rfl⟩:=kf g;refine⟨rfl,λv w=>?_⟩;(cases a<;>simp only[bM]at w<;>first|simp at w;done|skip);have⟨⟨l,h⟩,X,w⟩:=ζg.1 w;have⟨n,J⟩:=LC G X;have P:lT F none=some none:=rfl;simp only[bQ,B,j,n,J,P];exact w
  rename_i e j;simp only[ζf,ζc]at h;obtain⟨d,hd,rfl,rfl⟩:=h;obtain⟨a,bs,B,G,rfl⟩:=kf g;refine⟨rfl,λv w=>?_⟩;simp only[bM]at w;have⟨⟨l,h⟩,X,w⟩:=ζg.1 w;have⟨n,J⟩:=LC G X;have P:lT F none=some none:=rfl;simp only[bQ,B,j,n,J,P,hd];cases a<;>exact w
  .rename_i e m j;split at h
   .rename_i d hh hd;simp only[ζa,ζc]at h;obtain⟨rfl,rfl⟩:=h;obtain⟨a,b,c,B,G,o,rfl⟩:=Kn g;refine⟨rfl,λv w=>?_⟩;(cases b<;>cases c<;>simp only[bM]at w<;>first|simp at w;done|skip);rename_i k1 n1 k2 n2;split at w;rename_i T;simp only[ζh,beq_iff_eq]at T;obtain⟨⟨n,rfl⟩,rfl⟩:=T;have m1:lT F none=some none:=rfl;have m2:lT F (some hh)=some (some 0):=(by simp[lT,G]);have m3:lT F (some m)=some (some 0):=(by simp[lT,o]);simp only[bQ,B,j,m1,m2,m3,hd];cases a<;>simp[Qn]at n<;>exact w;simp at w
   simp at h
  simp at h
 |build t ps=>
  simp only[resolve]at h;split at h;rename_i d hd;split at h;rename_i fs j;split at h;rename_i pl ad;simp only[ζf,ζc]at h;obtain⟨q,hq,rfl,rfl⟩:=h;refine⟨rfl,λv w=>?_⟩;simp only[bM,ζf]at w;obtain⟨cs,Y,rfl⟩:=w;have⟨ws,R,w2⟩:=MC (λi=>pl[i]?) _ q vs _ cs hq g Y;simp only[bQ,hd,R,j,ad,w2,map_some];simp at h;rename_i len e j;simp only[ζf,ζc]at h;obtain⟨A,ae,rfl,rfl⟩:=h;refine⟨rfl,λv w=>?_⟩;simp only[bM,ζf]at w;obtain⟨cs,Y,rfl⟩:=w;have⟨ws,R,w2⟩:=MC (λi=>some (i*A.size,A.size)) ps.toList (ps.toList.map λq=>(q.1*A.size,A.size)) vs _ cs (by
   generalize ps.toList=l
   induction l with
   |nil=>rfl|cons x l ih=>simp[List.mapM_cons,ih]) g Y
  simp only[bQ,hd,R,j,ae,w2,map_some];simp at h;simp at h
 |makeFunc f a b=>cases f with|func f=>simp only[resolve,ζf,ζc]at h;obtain⟨s,M,rfl,rfl⟩:=h;obtain⟨az,bs,B,G,rfl⟩:=Qc g;refine⟨rfl,λv w=>?_⟩;simp only[bM,ζa]at w;subst w;simp only[bQ,B,G,hN f s M];rw[<-OV B];simp|_=>simp[resolve]at h
 |extract x i=>simp only[resolve,ζa,ζc]at h;obtain⟨rfl,rfl⟩:=h;obtain⟨a,B,rfl⟩:=qQ g;refine⟨rfl,λv w=>?_⟩;(cases a<;>simp only[bM]at w<;>first|simp at w;done|skip);simp only[bQ,B];exact w|load t x=>simp only[resolve,ζf,ζc]at h;obtain⟨d,hd,rfl,rfl⟩:=h;obtain⟨a,B,rfl⟩:=qQ g;exact⟨rfl,λH v w=>by simp only[eC,hd,B];exact w⟩|lookup t m k ok=>simp only[resolve]at h;split at h;rename_i kt et j;split at h;rename_i d kk hd L;simp only[ζf,ζc]at h;obtain⟨z,U,rfl,rfl⟩:=h;obtain⟨a,b,B,G,rfl⟩:=vF g;refine⟨rfl,λH v w=>?_⟩;simp only[eE]at w;split at w;rename_i aa O;split at w;rename_i Q;simp only[eC,j,B,G,hd,O,B_ L Q,if_true,U];split at w;(next W=>rw[W];exact w);(next W=>rw[W];exact w);simp at w;simp at w;simp at w;simp at h;simp at h|alloc t=>simp only[resolve,ζf,ζc]at h;obtain⟨d,hd,rfl,rfl⟩:=h;have:=s9 g;subst this;exact⟨rfl,λx w=>by simpa[kT,fN,hd]using w⟩|box t x=>simp only[resolve,ζa,ζc]at h;obtain⟨rfl,rfl⟩:=h;obtain⟨a,B,rfl⟩:=qQ g;exact⟨rfl,λx w=>by simp only[fN,B];exact w⟩|makeSlice t l c=>
  simp only[resolve]at h;split at h
  .rename_i e j;split at h
   .rename_i d hd;split at h
    .rename_i S;simp only[ζa,ζc]at h;obtain⟨rfl,rfl⟩:=h;obtain⟨a,b,B,G,rfl⟩:=vF g;refine⟨rfl,λx w=>?_⟩;(cases a<;>cases b<;>simp only[kT]at w<;>first|simp at w;done|skip);rename_i k1 n1 k2 n2;split at w;(next o=>simp only[fN,j,B,G,hd];rw[if_pos ⟨o.1,o.2.1,o.2.2.1,o.2.2.2.1,o.2.2.2.2,S⟩];exact w);simp at w
    simp at h
   simp at h
  simp at h
 |buildSlice t len ps=>simp only[resolve]at h;split at h;rename_i e j;split at h;rename_i d hd;split at h;rename_i S;simp only[ζa,ζc]at h;obtain⟨rfl,rfl⟩:=h;refine⟨rfl,λx w=>?_⟩;have U:=Rf _ _ g;simp only[kT]at w;split at w;simp only[fN,j,U,hd,if_pos S];exact w;simp at w;simp at h;simp at h;simp at h|makeMap t r=>cases r with|none=>simp only[resolve,ζa,ζc]at h;obtain⟨rfl,rfl⟩:=h;have:=s9 g;subst this;exact⟨rfl,λx w=>by simpa[kT,fN]using w⟩|some r=>simp[resolve]at h
 |store t p x=>simp only[resolve,ζf,ζc]at h;obtain⟨d,hd,rfl,rfl⟩:=h;obtain⟨a,b,B,G,rfl⟩:=vF g;refine⟨rfl,λH v w=>?_⟩;(cases a<;>simp only[gb]at w<;>first|simp at w;done|skip);simp only[cH,hd,B,G];exact w|mapUpdate t m k x=>
  simp only[resolve]at h;split at h
  .rename_i kt et j;simp only[ζf,ζc]at h;obtain⟨kk,L,rfl,rfl⟩:=h;obtain⟨a,b,c,B,G,o,rfl⟩:=Kn g;refine⟨rfl,λH v w=>?_⟩;(cases a<;>simp only[gb]at w<;>first|simp at w;done|skip);simp only[cH,j,B,G,o];split at w;rename_i aa O;split at w;(next Q=>rw[O];simp only[B_ L Q,if_true];exact w);simp at w;simp at w
  simp at h
 |insert t m k x=>
  simp only[resolve]at h;split at h
  .rename_i kt et j;simp only[ζf,ζc]at h;obtain⟨kk,L,rfl,rfl⟩:=h;obtain⟨a,b,c,B,G,o,rfl⟩:=Kn g;refine⟨rfl,λH v w=>?_⟩;(cases a<;>simp only[gb]at w<;>first|simp at w;done|skip);simp only[cH,j,B,G,o];split at w;rename_i aa O;split at w;(next Q=>rw[O];simp only[B_ L Q,if_true];exact w);simp at w;simp at w
  simp at h
 |call c=>
  have⟨callee,args,aj⟩:=c
  cases callee with
  |value f=>simp only[resolve,ζa,ζc]at h;obtain⟨rfl,rfl⟩:=h;obtain⟨a,az,B,has,rfl⟩:=kf g;refine⟨rfl,a,az,rfl,?_⟩;simp only[lX,B,has];cases a<;>rfl|builtin b=>
   cases b with
   |append=>simp only[resolve]at h;split at h;rename_i t t' s x I C;split at h;rename_i e e' j Z;split at h;rename_i d hd;split at h;rename_i S;simp only[ζa,ζc]at h;obtain⟨rfl,rfl⟩:=h;obtain⟨a,b,B,G,rfl⟩:=vF g;refine⟨rfl,λH v w=>?_⟩;have D:gm F args.toList=some [a,b]:=(by rw[C];exact g);simp only[cH,I,D,j,Z,hd];simp only[gb]at w;split at w;(next n J=>rw[n,J];exact w);rename_i xs ys af n J;rw[n,J];split at w;rename_i ah;simp only[if_pos (show xs.length+ys.length<=2147483648/\d.bytes<=4096/\0<d.bytes from⟨ah,S⟩)];(cases ys with|nil=>exact absurd rfl af|cons y ys=>exact w);simp at w;simp at w;simp at h;simp at h;rename_i e kk j Z;simp only[ζf,ζc]at h;obtain⟨d,hd,rfl,rfl⟩:=h;obtain⟨a,b,B,G,rfl⟩:=vF g;refine⟨rfl,λH v w=>?_⟩;have D:gm F args.toList=some [a,b]:=(by rw[C];exact g);simp only[cH,I,D,j,Z,hd];exact w;simp at h;simp at h|cap=>
    simp only[resolve]at h;split at h
    .rename_i t x I C;split at h
     .rename_i e j;simp only[ζa,ζc]at h;obtain⟨rfl,rfl⟩:=h;obtain⟨a,B,rfl⟩:=qQ g;have D:gm F args.toList=some [a]:=(by rw[C];exact g);refine⟨rfl,λx w=>?_⟩;simp only[bQ,I,D,j];simp only[bM]at w;cases a<;>simp only[Lw]at w<;>first|(simp at w;done)|exact w
     simp at h
    simp at h
   |clear=>simp only[resolve]at h;split at h;rename_i t x I C;split at h;rename_i e j;simp only[ζf,ζc]at h;obtain⟨d,hd,rfl,rfl⟩:=h;obtain⟨a,B,rfl⟩:=qQ g;have D:gm F args.toList=some [a]:=(by rw[C];exact g);refine⟨rfl,λH v w=>?_⟩;simp only[cH,I,D,j,hd];exact w;simp at h;simp at h|len=>
    simp only[resolve]at h;split at h
    .rename_i t x I C;split at h
     .rename_i j;simp only[ζa,ζc]at h;obtain⟨rfl,rfl⟩:=h;obtain⟨a,B,rfl⟩:=qQ g;have D:gm F args.toList=some [a]:=(by rw[C];exact g);refine⟨rfl,λv w=>?_⟩;(cases a<;>simp only[bM]at w<;>first|simp at w;done|skip);simp only[bQ,D,I,j];exact w
     rename_i e j;simp only[ζa,ζc]at h;obtain⟨rfl,rfl⟩:=h;obtain⟨a,B,rfl⟩:=qQ g;have D:gm F args.toList=some [a]:=by rw[C];exact g
     refine⟨rfl,λv w=>?_⟩;simp only[bQ,D,I,j];simp only[bM,o5]at w;cases a<;>simp at w⊢ <;>exact w;simp at h
    simp at h
   |max=>
    simp only[resolve]at h;split at h
    .rename_i x y C;simp only[ζa,ζc]at h;obtain⟨rfl,rfl⟩:=h;obtain⟨a,b,B,G,rfl⟩:=vF g;have D:gm F args.toList=some [a,b]:=(by rw[C];exact g);refine⟨rfl,λv w=>?_⟩;(cases a<;>cases b<;>simp only[bM]at w<;>first|simp at w;done|skip);simp only[bQ,D];exact w
    .rename_i x y z t C;simp only[ζa,ζc]at h;obtain⟨rfl,rfl⟩:=h;obtain⟨a,ak,B,J,rfl⟩:=kf g;obtain⟨b,c,d,G,o,hd,rfl⟩:=Kn J;have D:gm F args.toList=some [a,b,c,d]:=(by rw[C];exact g);refine⟨rfl,λv w=>?_⟩;(cases a<;>cases b<;>simp only[bM]at w<;>first|simp at w;done|skip);(cases c<;>cases d<;>simp only[bM]at w<;>first|simp at w;done|skip);simp only[bQ,D];exact w
    simp at h
   |min=>
    simp only[resolve]at h;split at h
    .rename_i x y C;simp only[ζa,ζc]at h;obtain⟨rfl,rfl⟩:=h;obtain⟨a,b,B,G,rfl⟩:=vF g;have D:gm F args.toList=some [a,b]:=(by rw[C];exact g);refine⟨rfl,λv w=>?_⟩;(cases a<;>cases b<;>simp only[bM]at w<;>first|simp at w;done|skip);simp only[bQ,D];exact w
    simp at h
   |_=>simp[resolve]at h
  |_=>simp[resolve]at h
 |panic x=>simp only[resolve,ζa,ζc]at h;obtain⟨rfl,rfl⟩:=h;have:=s9 g;subst this;exact⟨rfl,λx w=>by simp[bM]at w⟩|makeInterface t x=>simp only[resolve,ζa,ζc]at h;obtain⟨rfl,rfl⟩:=h;have:=s9 g;subst this;exact⟨rfl,λx w=>by simp[bM]at w⟩|_=>simp[resolve]at h
end
structure CD(c c':dO):Prop where
 lv:c.lv<=c'.lv
 go:∀x a H r,c x a H=some r->c' x a H=some r
section
variable{E:Env}{c c':dO}{n:Nat}{ops:QP}{F F':WP}{H H':bn}
def LG{f:Y'}{args:So}{y:V}(a:ck c f args H=some y):∃az,borrows c.lv H args=some az:=by
 unfold ck at a;split at a;next az h=>exact⟨az,h⟩
 cases a
def GY(B:c.lv<=c'.lv){f:Y'}(h:∀a H r,c (.fn f) a H=some r->c' (.fn f) a H=some r){args:So}{y:V}(b:ck c f args H=some y):ck c' f args H=some y:=by
 unfold ck at b⊢;split at b;rename_i az u;rw[vH B u];split at b;rename_i d;simp only;rw[h _ _ _ d];split at b;next w=>simp only;rw[uK B w];exact b
 cases b;simp at b;simp at b
def qm(h:CD c c'){f:Y'}{args:So}{y:V}(a:ck c f args H=some y):ck c' f args H=some y:=GY h.lv (λ_ _ _=>h.go _ _ _ _) a
def oV(B:c.lv<=c'.lv){f:Y'}{args:So}{y:V}(a:ck c f args H=some y):dc (ct c'.lv H) args=dc (ct c.lv H) args:=by have⟨az,h⟩:=LG a;exact BA B h
def FL(B:c.lv<=c'.lv){f:Y'}(h:∀a H r,c (.fn f) a H=some r->c' (.fn f) a H=some r){args:So}{r:V×bn}(b:mH c f args H=some r):mH c' f args H=some r:=by
 unfold mH at b⊢;split at b;rename_i az u;rw[vH B u];split at b;next d=>simp only;rw[h _ _ _ d];exact b
 simp at b;simp at b
def Ms(h:CD c c'){f:Y'}{args:So}{r:V×bn}(a:mH c f args H=some r):mH c' f args H=some r:=FL h.lv (λ_ _ _=>h.go _ _ _ _) a
def CQ(h:CD c c'){f:Y'}{args:So}{r:V×bn}(a:gx E c f args H=some r):gx E c' f args H=some r:=by
 unfold gx at a⊢;split;next u=>rw[if_pos u]at a;exact Ms h a
 rename_i u;rw[if_neg u]at a;exact h.go _ _ _ _ a
def Cr(U:c.lv<=c'.lv){f:Y'}{args:So}{y G:V}{b:Nat}(a:ck c f args (H.take b)=none)(B:ck c f args H=some y)(D:ck c' f args (H.take b)=some G):False:=by
 unfold ck at a B D;split at D;rename_i az d;split at B;rename_i I u;have e:=qJ (λx y z k1 k2=>No (H2:=H.take b) c.lv c'.lv x y z k1 k2 λid w=>by
  rw[getElem?_take]at w⊢;split at w
  next C=>rw[if_pos C]
  cases w) u d
 have J:borrows c.lv H args=some az:=vq (Ed c.lv) e;rw[J]at u;cases u;rw[show borrows c.lv (H.take b) args=some az from e]at a;simp only at a;rw[a]at B;simp at B;simp at B;simp at D
def SQ(h:CD c c'){place:aY (Nat×Nat)}{op:Op}{r:V×bn}(a:c6 E c ops place F H op=some r):c6 E c' ops place F H op=some r:=by
 unfold c6 at a⊢;split at a;exact a;exact a;exact a;exact a;split at a
 .rename_i f args B;split at a;rotate_left;cases a;rename_i C;rw[if_pos C];unfold eF at a⊢;split at a;rename_i d;rw[if_pos d];split at a;exact CQ h a;skip;split at a;(next z=>rw[if_pos z];exact CQ h a);simp at a;rename_i d;rw[if_neg d];split at a;skip;split at a;(next y u=>rw[qm h u,oV h.lv u];exact a);simp at a;rename_i b i;skip;split at a;(next y u=>rw[qm h u,oV h.lv u];exact a);rename_i w;split at a;rename_i z;split at a;rename_i y u;(cases D:ck c' f args (take b H)with|some G=>exact(Cr h.lv w u D).elim|none=>simp only[if_pos z,qm h u,oV h.lv u];exact a);simp at a;simp at a
 rename_i id args B;split at a;exact h.go _ _ _ _ a;skip;split at a;next z=>rw[if_pos z];exact h.go _ _ _ _ a
 simp at a;simp at a
def FY(h:CD c c'){place:aY (Nat×Nat)}{o:Oper}{r:WP×bn}(a:iJ E c n ops place o F H=some r):iJ E c' n ops place o F H=some r:=by
 unfold iJ at a⊢;split at a;rename_i u;rw[if_pos u];split at a;next v H1 hd=>rw[SQ h hd];exact a
 simp at a;rename_i u;rw[if_neg u];exact a
def D6(h:CD c c'){r:WP×bn}:∀(l:QP){F:WP}{H:bn},oD E c n ops l F H=some r->oD E c' n ops l F H=some r
 |[],_,_,hi=>hi|o::l,F,H,hi=>by simp only[oD]at hi⊢;split at hi;(next F1 H1 B=>rw[FY h B];exact D6 h l hi);simp at hi
def Es(h:CD c c'){base:Nat}{r:WP×bn}:∀(l:ST){F:WP}{H:bn},lM E c n ops base l F H=some r->lM E c' n ops base l F H=some r
 |[],_,_,hi=>hi|i::l,F,H,hi=>by simp only[lM]at hi⊢;split at hi;split at hi;(next F1 H1 B=>rw[FY h B];exact Es h l hi);simp at hi;simp at hi
def Hz(h:CD c c'){B:X'}{r:WP×bn}(a:lB E c n ops B F H=some r):lB E c' n ops B F H=some r:=by
 unfold lB at a⊢;split;rename_i hd;rw[if_pos hd]at a;split at a;next u=>rw[if_pos u];exact Es h _ a
 simp at a;rename_i hd;rw[if_neg hd]at a;exact D6 h _ a
def Bw{s J:WP->bn->aY (Out×WP×bn)}(h:∀F H r,s F H=some r->J F H=some r):∀(k B:Nat),k<=B->∀{F H r},mK s k F H=some r->mK J B F H=some r
 |0,_,_,F,H,r,hi=>by simp[mK]at hi|k+1,0,hk,F,H,r,hi=>Zaa|k+1,B+1,hk,F,H,r,hi=>by simp only[mK]at hi⊢;split at hi;(next F1 H1 U=>rw[h _ _ _ U];exact Bw h k B Zaa hi);rename_i D;rw[h _ _ _ hi];split;(next F1 H1 G=>cases G;exact absurd hi (D _ _));rfl
def C9(h:CD c c'){lf B:Nat}(U:lf<=B)(ro:X')(f:Nat):∀(code:Code){F:WP}{H:bn}{r:Out×WP×bn},exec E c lf ro f code F H=some r->exec E c' B ro f code F H=some r:=by intro code;induction code with|skip=>intro F H r d;exact d|label l=>intro F H r d;exact d|region id ops J=>intro F H r d;simp only[exec,ζf]at d⊢;obtain⟨x,L,rfl⟩:=d;exact⟨x,Hz h L,rfl⟩|seq a b u z=>intro F H r d;simp only[exec]at d⊢;split at d;(next F1 H1 e=>rw[u e];exact z d);rename_i C;rw[u d];split;(next D=>cases D;exact absurd d (C _ _));rfl|cond x a b u z=>intro F H r d;simp only[exec]at d⊢;split at d;rename_i t S;split at d;(next G=>subst G;simp only[if_true];exact u d);rename_i G;rw[if_neg G];exact z d;simp at d|block id a I=>intro F H r d;simp only[exec]at d⊢;split at d;(next O F1 H1 e=>rw[I e];exact d);rename_i C;rw[I d];split;(next D=>cases D;exact absurd d (C _ _ _));rfl|loop a I=>intro F H r d;simp only[exec]at d⊢;exact Bw (λF H r i=>I i) lf B U d|rangeFunc g ps T W _ _=>intro F H r d;simp only[exec]at d⊢;split at d;split at d;(next Q H1 j=>rw[h.go _ _ _ _ j];exact d);simp at d;simp at d|exit id=>intro F H r d;exact d|ret=>intro F H r d;exact d|scope a _=>intro F H r d;simp[exec]at d|goto l=>intro F H r d;simp[exec]at d|refuse w=>intro F H r d;simp[exec]at d
def L_(E:Env):∀n,CD (run E n) (run E (n+1)):=by intro n;induction n with|zero=>exact⟨le_succ _,λx a H r h=>(by cases h)⟩|succ n u=>refine⟨le_succ _,λx a H r h=>?_⟩;rw[J9]at h⊢;cases x with|fn f=>rw[lN]at h⊢;split at h;rename_i U O;split at h;rename_i B;rw[if_pos B];split at h;simp at h;rename_i o F1 H1 C Q;rw[C9 u (le_succ n) _ _ _ Q];(cases o with|exit id=>exact(C id rfl).elim|norm=>exact h|ret=>exact h);simp at h;simp at h;split at h;(next D=>rw[if_pos D];exact GU u.lv (λg args y _ S=>qm u S) h);rename_i D;rw[if_neg D];exact h|yld id=>rw[lN]at h⊢;split at h;rename_i b L;split at h;rename_i T;split at h;rename_i w;split at h;rename_i W H2 G;split at h;rename_i r2 I;split at h;rename_i z;split at h;(next o X Y J=>simp only[if_pos w,C9 u (le_succ n) _ _ _ G,I,z,C9 u (le_succ n) _ _ _ J];exact h);simp at h;simp at h;simp at h;simp at h;simp at h;simp at h;simp at h
def qF(E:Env){n m:Nat}(h:n<=m):CD (run E n) (run E m):=by induction h with|refl=>exact⟨le_refl _,λ_ _ _ _ h=>h⟩|step _ u=>exact⟨Nat.le_trans u.lv (L_ E _).lv,λx a H r h=>(L_ E _).go x a H r (u.go x a H r h)⟩
theorem qB(E:Env):∀n,(run E n).lv=n
 |0=>rfl|_+1=>rfl
end
def OS(P:Program)(f:Y'):aY FI:=(P.funcs[f]?).bind λfn=>fn.body.map λb=>⟨fn.ntmps,fn.results.toList,b⟩
def DH(P:Program):X':=P.funcs.toList.all λfn=> !(fn.name== "runtime.NumGoroutine")
def Xu{P:Program}(h:DH P=true){f:Y'}{fi:FI}(B:OS P f=some fi):∃fn,P.funcs[f]?=some fn/\fn.body=some fi.body/\fn.ntmps=fi.ntmps/\fn.results.toList=fi.results/\(fn.name== "runtime.NumGoroutine")=false:=by unfold OS at B;have⟨fn,h1,w⟩:=ζg.1 B;obtain⟨b,z,rfl⟩:=ζf.1 w;refine⟨fn,h1,z,rfl,rfl,?_⟩;unfold DH at h;rw[List.all_eq_true]at h;have C:=h fn (by obtain⟨u,rfl⟩:=Array.getElem?_eq_some_iff.1 h1;exact Array.mem_toList_iff.2 (Array.getElem_mem u));simpa using C
def G8(P:Program)(shut keep own:ST)(two:aX (Nat×Nat))(a:Y'->X')(known:Y'->So->aY V):Env where
 tt:=yV P
 ft f:=if shut.contains f then none else OS P f
 keep:=keep.contains
 own:=own.contains
 eqN t:=lk two t
 sort:=a
 known:=known
def KV{P:Program}{shut keep own:ST}{two:aX (Nat×Nat)}{a:Y'->X'}{known:Y'->So->aY V}(h:DH P=true)(B:∀p∈two,yO P p.1 p.2):fm P (G8 P shut keep own two a known)where
 tt t d h:=h
 ft f w u:=by change(if shut.contains f then none else OS P f)=some w at u;split at u;cases u;exact Xu h u
 eqN t n z:=B (t,n) (Rl z)
section
variable{P:Program}{I:cD}{μ:Mu}{H:bn}{w:World}{n:Nat}
variable{f A S e:Nat}{fn:Func}{bytes i1 i2 i3 i4 t1 t2 t6 t7:Nat}{p1 p2 p3 p4 p5 p6 p7:String}{e1 e2 e3 e4 e5 e6 e7:Array Edge}
end
end Go.VE
namespace Go.VE
variable[bX]
variable{P:Program}
def Mf(a:Rd)(j:Nat):(ic a)[j]?=(a[j]?).map (Value.int .i64):=by simp[ic]
def Ja{i:W'}{a b:Rd}{n:Nat}(G:a.length=n)(J:b.length=n)(c:yV P i=some ⟨1,8,[.int .i64 0],.int .i64⟩)(B:P.underlying i=some (.int .i64))(d:Nat)(w:World):
 ∀(m k:Nat),k+m=n->(eqItems (d+1) i 1 (ic a) (ic b) (range' k m)).run P w=.ok (a.drop k==b.drop k) w
 |0,k,h=>by have f:a.drop k=[]:=List.drop_eq_nil_of_le Zaa;have I:b.drop k=[]:=List.drop_eq_nil_of_le Zaa;simp[eqItems,f,I]|m+1,k,h=>by have u:k<a.length:=Zaa;have z:k<b.length:=Zaa;have pa:(part i (ic a) (k*1)).run P w=.ok (.int .i64 a[k]) w:=uj c (by rw[Mf,mul_one];simp[u]);have L:(part i (ic b) (k*1)).run P w=.ok (.int .i64 b[k]) w:=uj c (by rw[Mf,mul_one];simp[z]);have q:(equalIn (d+1) i (.int .i64 a[k]) (.int .i64 b[k])).run P w=.ok (a[k]==b[k]) w:=Em d _ _ B;have O:=Ja G J c B d w m (k+1) Zaa;have C:=List.drop_eq_getElem_cons u;have D:=List.drop_eq_getElem_cons z;simp only[List.range'_succ,eqItems,run_bind,pa,L,q,andThen_ok];by_cases e:a[k]=b[k];rw[C,D,List.cons_beq_cons,e];simp only[beq_self_eq_true,Bool.not_true,Bool.true_and,if_false,Bool.false_eq_true];exact O;have:(a[k]==b[k])=false:=(by simpa using e);rw[C,D,List.cons_beq_cons,this];simp only[Bool.not_false,if_true,Bool.false_and,run_pure]
def LN{i:W'}{a:Rd}{n:Nat}(e:X')(G:a.length=n)(b:yV P i=some ⟨1,8,[.int .i64 0],.int .i64⟩)(B:P.underlying i=some (.int .i64))(d:Nat)(w:World):
 ∀(m k:Nat),k+m=n->(forIn (range' k m) PUnit.unit (λj(_:PUnit)=>do
  let s<-sizeOf i
  let v<-part i (ic a) (j*s)
  checkKey e (d+1) i v
  pure (ForInStep.yield PUnit.unit)):Sem PUnit).run P w=.ok PUnit.unit w
 |0,k,h=>Zab|m+1,k,h=>by have D:k<a.length:=Zaa;have pa:(part i (ic a) (k*1)).run P w=.ok (.int .i64 a[k]) w:=uj b (by rw[Mf,mul_one];simp[D]);have z:(sizeOf i).run P w=.ok 1 w:=(sx.Qs b).mq;have q:(checkKey e (d+1) i (.int .i64 a[k])).run P w=.ok () w:=Dg d e _ B;have u:=LN e G b B d w m (k+1) Zaa;simp only[List.range'_succ,List.forIn_cons,run_bind,z,pa,q,andThen_ok,run_pure]at u⊢;exact u
def yO.arr{t i:W'}{n:Nat}(c:P.underlying t=some (.array n i))(d:yV P i=some ⟨1,8,[.int .i64 0],.int .i64⟩)(J:P.underlying i=some (.int .i64))(U:P.eqGuardType P.depth t=false):yO P t n:=by
 have⟨Q,z,B,O,_⟩:=(sx.Qs d).info;have C:P.cellsOf i=1:=by unfold Program.cellsOf;simp[B,O]
 have D:∀(w:World)(a b:Rd),a.length=n->b.length=n->(equal t (.agg (ic a)) (.agg (ic b))).run P w=.ok (a==b) w:=by intro w a b G I;show(equalIn (9999+1) t _ _).run P w=_;rw[run_equalIn_array w 9999 _ _ c B,C,List.range_eq_range'];simpa using Ja G I d J 9998 w n 0 Zaa
 have L:∀(op:BinOp)(p q:UV)(w:World)(u v:Array V'),(eqGuard op t p q (.agg u) (.agg v)).run P w=.ok () w:=by intro op p q w u v;unfold eqGuard;cases op<;>simp[run_bind,run_program,andThen,U]
 refine⟨?_,?_,D,?_,⟨_,c,.inl ⟨_,_,rfl⟩⟩⟩;intro w p q a b G I;rw[run_bind,L,andThen_ok];show(do pure (Value.bool (<-equal t (.agg (ic a)) (.agg (ic b)))):Sem V').run P w=_;rw[run_bind,D _ _ _ G I];rfl;intro w p q a b G I;rw[run_bind,L,andThen_ok];show(do pure (Value.bool (!(<-equal t (.agg (ic a)) (.agg (ic b))))):Sem V').run P w=_;rw[run_bind,D _ _ _ G I];rfl;intro w e a G;show(checkKey e (9999+1) t _).run P w=_;unfold checkKey;simp only[run_bind,dX c,andThen_ok];have:=LN e G d J 9998 w n 0 Zaa;simp only[Std.Legacy.Range.forIn_eq_forIn_range',Std.Legacy.Range.size,Nat.sub_zero,Nat.add_one_sub_one,Nat.div_one];rw[show(9998+1:Nat)=9999 from rfl]at this;rw[this];rfl
end Go.VE
namespace Go.VE
variable[bX]
structure CR(E:Env)(c c':dO):Prop where
 lv:c.lv<=c'.lv
 SO:∀f args H y,E.keep f=false->ck c f args H=some y->ck c' f args H=some y
 dir:∀f args H r,E.keep f=true->c (.fn f) args H=some r->c' (.fn f) args H=some r
 yld:∀id args H r,c (.yld id) args H=some r->c' (.yld id) args H=some r
 rng:∀f args H r,H≠[]->c (.fn f) args H=some r->c' (.fn f) args H=some r
section
variable{E:Env}{c c':dO}{n:Nat}{ops:QP}{F F':WP}{H H':bn}
def M_(h:CR E c c'){f:Y'}{args:So}{r:V×bn}(a:E.keep f=true)(b:mH c f args H=some r):mH c' f args H=some r:=FL h.lv (λ_ _ _=>h.dir _ _ _ _ a) b
def D7(h:CR E c c'){f:Y'}{args:So}{r:V×bn}(b:E.keep f=true)(a:gx E c f args H=some r):gx E c' f args H=some r:=by
 unfold gx at a⊢;split;next u=>rw[if_pos u]at a;exact M_ h b a
 rename_i u;rw[if_neg u]at a;exact h.dir _ _ _ _ b a
def Ei{place:aY (Nat×Nat)}{f:Y'}(h:mU E ops place f=true):E.keep f=true:=by unfold mU at h;grind
def CR.any(h:CR E c c'){f:Y'}{args:So}{H:bn}{y:V}(a:ck c f args H=some y):ck c' f args H=some y:=by cases b:E.keep f with|false=>exact h.SO _ _ _ _ b a|true=>exact GY h.lv (λ_ _ _=>h.dir _ _ _ _ b) a
def UM(h:CR E c c'){place:aY (Nat×Nat)}{op:Op}{r:V×bn}(a:c6 E c ops place F H op=some r):c6 E c' ops place F H op=some r:=by
 unfold c6 at a⊢;split at a;omega;omega;omega;omega;split at a
 .rename_i f args C;split at a;rotate_left;cases a;rename_i B;rw[if_pos B];unfold eF at a⊢;split at a;rename_i d;rw[if_pos d];split at a;exact D7 h (Ei d) a;split at a;(next z=>rw[if_pos z];exact D7 h (Ei d) a);grind;rename_i d;rw[if_neg d];split at a;split at a;(next y u=>rw[h.any u,oV h.lv u];exact a);grind;rename_i b i;split at a;(next y u=>rw[h.any u,oV h.lv u];exact a);rename_i w;split at a;rename_i z;split at a;rename_i y u;(cases D:ck c' f args (take b H)with|some G=>exact(Cr h.lv w u D).elim|none=>simp only[if_pos z,h.any u,oV h.lv u];exact a);grind;grind
 split at a;exact h.yld _ _ _ _ a;split at a;next z=>rw[if_pos z];exact h.yld _ _ _ _ a
 grind;grind
def Iw(h:CR E c c'){place:aY (Nat×Nat)}{o:Oper}{r:WP×bn}(a:iJ E c n ops place o F H=some r):iJ E c' n ops place o F H=some r:=by
 unfold iJ at a⊢;split at a;rename_i u;rw[if_pos u];split at a;next v H1 hd=>rw[UM h hd];omega
 grind;grind
def Gx(h:CR E c c'){r:WP×bn}:∀(l:QP){F:WP}{H:bn},oD E c n ops l F H=some r->oD E c' n ops l F H=some r
 |[],_,_,hi=>hi|o::l,F,H,hi=>by simp[oD]at hi⊢;split at hi;(next F1 H1 B=>rw[Iw h B];exact Gx h l hi);grind
def Ga(h:CR E c c'){base:Nat}{r:WP×bn}:∀(l:ST){F:WP}{H:bn},lM E c n ops base l F H=some r->lM E c' n ops base l F H=some r
 |[],_,_,hi=>hi|i::l,F,H,hi=>by simp[lM]at hi⊢;split at hi;split at hi;(next F1 H1 B=>rw[Iw h B];exact Ga h l hi);grind;grind
def JK(h:CR E c c'){B:X'}{r:WP×bn}(a:lB E c n ops B F H=some r):lB E c' n ops B F H=some r:=by
 unfold lB at a⊢;split;rename_i hd;rw[if_pos hd]at a;split at a;next u=>rw[if_pos u];exact Ga h _ a
 grind;rename_i hd;rw[if_neg hd]at a;exact Gx h _ a
def Fk(h:CR E c c'){lf B:Nat}(G:lf<=B)(ro:X')(e:Nat):∀(code:Code){F:WP}{H:bn}{r:Out×WP×bn},exec E c lf ro e code F H=some r->exec E c' B ro e code F H=some r:=by intro code;induction code with|skip=>intro F H r d;exact d|label l=>intro F H r d;exact d|region id ops C=>intro F H r d;simp only[exec,ζf]at d⊢;obtain⟨x,I,rfl⟩:=d;exact⟨x,JK h I,rfl⟩|seq a b u z=>intro F H r d;simp[exec]at d⊢;grind|cond x a b u z=>intro F H r d;simp[exec]at d⊢;grind|block id a D=>intro F H r d;simp[exec]at d⊢;grind|loop a D=>intro F H r d;exact Bw (λF H r f=>D f) lf B G d|rangeFunc g ps L O _ _=>intro F H r d;simp[exec]at d⊢;split at d;split at d;(next J H1 i=>rw[h.rng _ _ _ _ Zab i];omega);grind;grind|exit id=>intro F H r d;exact d|ret=>intro F H r d;exact d|scope a _=>intro F H r d;simp[exec]at d|goto l=>intro F H r d;simp[exec]at d|refuse w=>intro F H r d;simp[exec]at d
def Cs(h:CR E c c'){n m:Nat}(B:n<=m){x:Callee}{a:So}{r:V×bn}(b:lN E c n x a H=some r):lN E c' m x a H=some r:=by cases x with|fn f=>rw[lN]at b⊢;split at b;split at b;rename_i G;split at b;simp_all;rename_i o F1 H1 I J;rw[Fk h B _ _ _ J];grind;grind;grind;split at b;(next L=>rw[if_pos L];exact GU h.lv (λg args y d O=>h.SO _ _ _ _ d O) b);grind|yld id=>rw[lN]at b⊢;split at b;split at b;split at b;rename_i u;split at b;rename_i Q H2 z;split at b;rename_i r2 C;split at b;rename_i w;split at b;(next o S T D=>simp only[if_pos u,Fk h B _ _ _ z,C,w,Fk h B _ _ _ D];omega);grind;grind;grind;grind;grind;grind;grind
mutual
def V.same:Nat->V->V->X'
 |0,_,_=>false|_+1,.bool a,.bool b=>a==b|_+1,.int k a,.int l b=>decide (k=l)&&decide (a=b)|_+1,.str a,.str b=>decide (a.data.toList=b.data.toList)|_+1,.bO,.bO=>true|_+1,.dY,.dY=>true|_+1,.js,.js=>true|_+1,.iA,.iA=>true|_+1,.uL,.uL=>true|n+1,.agg a,.agg b=>V.tW n a b|n+1,.tup a,.tup b=>V.tW n a b|n+1,.fptr a,.fptr b=>V.tW n a b|n+1,.fsl e a,.fsl B b=>beq e B&&V.CC n a b|n+1,.clo f a b,.clo D a' G=>beq f D&&V.tW n a a'&&V.tW n b G|_+1,_,_=>false
def V.tW:Nat->So->So->X'
 |0,_,_=>false|_+1,[],[]=>true|n+1,a::r,b::s=>V.same n a b&&V.tW n r s|_+1,_,_=>false
def V.CC:Nat->S'->S'->X'
 |0,_,_=>false|_+1,[],[]=>true|n+1,a::r,b::s=>V.tW n a b&&V.CC n r s|_+1,_,_=>false
end
def XZ:∀n,(∀a b,V.same n a b=true->a=b)/\(∀a b,V.tW n a b=true->a=b)/\(∀a b,V.CC n a b=true->a=b):=by
 intro n
 induction n with
 |zero=>exact⟨λa b h=>by simp[V.same]at h,λa b h=>by simp[V.tW]at h,λa b h=>by simp[V.CC]at h⟩|succ n u=>
  have⟨i1,i2,i3⟩:=u;refine⟨λa b h=>?_,λa b h=>?_,λa b h=>?_⟩
  .cases a<;>cases b<;>simp only[V.same,ζh,decide_eq_true_eq,Bool.false_eq_true]at h<;>first|rfl|grind|skip
   all_goals first
    |grind|grind|grind|(rw[Nat.eq_of_beq_eq_true h.1,i3 _ _ h.2])|(rw[Nat.eq_of_beq_eq_true h.1.1,i2 _ _ h.1.2,i2 _ _ h.2])|(congr 1;exact ByteArray.ext (ext' h))
  .cases a<;>cases b<;>simp[V.tW]at h<;>first|rfl|grind|grind
  cases a<;>cases b<;>simp[V.CC]at h<;>first|rfl|grind|grind
structure gC where
 f:FuncId
 az:List V
 y:V
def Ba:aX gC->Y'->So->aY V
 |[],_,_=>none|k::r,f,az=>bif beq k.f f&&V.tW 1000 k.az az then some k.y else Ba r f az
def ER:∀{l:aX gC}{f:Y'}{az:So}{y:V},Ba l f az=some y->∃k∈l,k.f=f/\k.az=az/\k.y=y
 |[],_,_,_,h=>by simp[Ba]at h|k::r,f,az,y,h=>by unfold Ba at h;cases B:beq k.f f&&V.tW 1000 k.az az with|true=>simp only[ζh]at B;exact⟨k,mem_cons_self ..,Nat.eq_of_beq_eq_true B.1,(XZ 1000).2.1 _ _ B.2,Zac⟩|false=>rw[B]at h;have⟨q,a,D⟩:=ER h;grind
def Kb(E:Env)(l:aX gC)(c:dO)(n:Nat):Callee->So->bn->aY (V×bn)
 |.fn f,az,[]=>match Ba l f az with
  |some y=>some (y,[])|none=>lN E c n (.fn f) az []
 |x,az,H=>lN E c n x az H
def runM(E:Env)(l:aX gC):Nat->dO
 |0=>⟨0,λ_ _ _=>none⟩|n+1=>⟨n+1,Kb E l (runM E l n) n⟩
def YP(E:Env)(l:aX gC):∀n,(runM E l n).lv=n
 |0=>rfl|_+1=>rfl
def SB{l:aX gC}{n:Nat}{x:Callee}{a:So}{H:bn}:runM E l (n+1) x a H=Kb E l (runM E l n) n x a H:=rfl
def yE(E:Env)(n:Nat)(k:gC):Prop:=∃r H1,run E n (.fn k.f) k.az []=some (r,H1)/\borrow n H1 r=some k.y
structure iE(E:Env)(k:gC):Prop where
 keep:E.keep k.f=false
 cl:k.y.closed=true
 at_:∃n,yE E n k
def yE.le{n m:Nat}{k:gC}(h:yE E n k)(B:n<=m):yE E m k:=by have⟨r,H1,a,u⟩:=h;exact⟨r,H1,(qF E B).go _ _ _ _ a,uK B u⟩
def C5:∀{l:aX gC},(∀k∈l,iE E k)->∃N,∀k∈l,yE E N k
 |[],_=>⟨0,Zab⟩|k::r,h=>by have⟨N,B⟩:=C5 (λq a=>h q (mem_cons_of_mem _ a));have⟨n,u⟩:=(h k (mem_cons_self ..)).at_;refine⟨max N n,λq a=>?_⟩;rcases mem_cons.1 a with rfl|a;exact u.le (Nat.le_max_right ..);exact(B q a).le (Nat.le_max_left ..)
def C0{l:aX gC}{x:Callee}{az:So}(h:H≠[]\/(∃id,x=.yld id)\/∃f,x=.fn f/\Ba l f az=none):runM E l (n+1) x az H=lN E (runM E l n) n x az H:=by
 rcases h with h|⟨id,rfl⟩|⟨f,rfl,h⟩;cases x with|yld id=>rfl|fn f=>cases H with|nil=>exact absurd rfl h|cons a r=>rfl
 rfl;cases H with|nil=>rw[SB,Kb,h]|cons a r=>rfl
def OA{l:aX gC}{N:Nat}(D:∀k∈l,iE E k)(G:∀k∈l,yE E N k):∀n,CR E (runM E l n) (run E (N+n)):=by intro n;induction n with|zero=>refine⟨Nat.zero_le _,λf args H y _ h=>?_,λf args H r _ h=>(by cases h),λid args H r h=>(by cases h),λf args H r _ h=>(by cases h)⟩;unfold ck at h;split at h;cases h;cases h|succ n I=>have up:∀{x:Callee}{az:So}{H:bn}{r:V×bn},lN E (runM E l n) n x az H=some r->run E (N+(n+1)) x az H=some r:=λh=>(by rw[show N+(n+1)=(N+n)+1 from rfl,J9];exact Cs I (le_add_left ..) h);have w:(runM E l (n+1)).lv<=(run E (N+(n+1))).lv:=(by rw[YP,qB];exact le_add_left ..);refine⟨w,λf args H y b h=>?_,λf args H r b h=>?_,λid args H r h=>?_,λf args H r B h=>?_⟩;unfold ck at h⊢;split at h;rename_i az c;rw[vH w c];split at h;rename_i r H1 a;(cases z:Ba l f az with|none=>rw[C0 (.inr (.inr ⟨f,rfl,z⟩))]at a;simp only;rw[up a];split at h;(next Q J=>simp only;rw[uK w J];exact h);cases h|some S=>rw[SB,Kb,z]at a;obtain⟨rfl,rfl⟩:=a;obtain⟨k,u,rfl,rfl,rfl⟩:=ER z;have ok:=D k u;have⟨r1,H2,d,L⟩:=(G k u).le (Nat.le_add_right N (n+1));rw[kV _ _ ok.cl]at h;simp only[d,qB,L];exact h);cases h;cases h;by_cases z:H≠[]\/(∃id,(Callee.fn f)=.yld id)\/∃C,Callee.fn f=.fn C/\Ba l C args=none;rw[C0 z]at h;exact up h;(cases O:Ba l f args with|none=>grind|some y=>obtain⟨k,u,rfl,_,_⟩:=ER O;rw[(D k u).keep]at b;cases b);exact up h;rw[C0 (.inl B)]at h;exact up h
def abe(E:Env)(l:aX gC)(n:Nat)(k:gC):aY V:=
 match lN E (runM E l n) n (.fn k.f) k.az []with
 |some (r,H1)=>borrow n H1 r|none=>none
def jm{l:aX gC}(B:∀k∈l,iE E k){k:gC}(h:(abe E l n k,k.y.closed,E.keep k.f)=(some k.y,true,false)):iE E k:=by simp at h;have⟨N,u⟩:=C5 B;refine⟨h.2.2,h.2.1,N+n+1,?_⟩;have a:=h.1;unfold abe at a;split at a;rename_i r H1 w;refine⟨r,H1,?_,uK Zaa a⟩;exact Cs (OA B u n) (le_add_left ..) w;grind
def W_(E:Env)(l:aX gC)(n:Nat)(f:Y')(az:So):X':=
 match lN E (runM E l n) n (.fn f) az []with
 |some (.bool b,_)=>b|_=>false
def PK{l:aX gC}(B:∀k∈l,iE E k){f:Y'}{az:So}(h:W_ E l n f az=true):∃n H1,run E n (.fn f) az []=some (.bool true,H1):=by
 have⟨N,u⟩:=C5 B;unfold W_ at h;split at h;next b H1 w=>subst h;exact⟨N+n+1,H1,(Cs (OA B u n) (le_add_left ..) w)⟩
 simp_all
end
end Go.VE
