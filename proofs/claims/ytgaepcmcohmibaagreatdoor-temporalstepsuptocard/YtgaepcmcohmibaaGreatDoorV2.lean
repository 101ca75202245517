/- Engine, runs. -/
import Derived.Shelf.SlSortCmp.NoneTotal
import Derived.RangeFuncLeaves
import Derived.Laws.StructEq
import Derived.ChangeKeysEq
import Derived.Test.YtgaepcmcohmibaaGreatDoorV1
set_option linter.all false
open List(finRange getElem?_take mem_cons mem_cons_of_mem mem_cons_self mem_map range')
open Nat(beq le_add_left le_refl le_succ mul_one)
open Array(ext' replicate)
open Option(map_some)
open Go.Sem(run_bind run_pure)
open Go.Result(andThen andThen_ok)
open Go.Instr(checkKey)
open Go.Op(bytesLess eqItems equal equalIn)
open BitVec(ofInt)
namespace Go.VE
variable[bL]
theorem sF{f g:V->aY V}(h:∀x y,f x=some y->g x=some y):∀{l:Zu}{r:Zu},gR f l=some r->gR g l=some r
 |[],_,hr=>hr|x::l,r,hr=>by simp only[gR]at hr⊢;split at hr;(next y s a B=>rw[h _ _ a,sF h B];exact hr);cases hr
def FC{f g:V->aY V}(h:∀x y,f x=some y->g x=some y):∀{l:Zt}{r:Zt},kI f l=some r->kI g l=some r
 |[],_,hr=>hr|x::l,r,hr=>by simp only[kI]at hr⊢;split at hr;(next y s a B=>rw[sF h a,FC h B];exact hr);cases hr
def GB{f g:V->aY V}(h:∀x y,f x=some y->g x=some y):∀{l:aX (V×V)}{r:aX (V×V)},kG f l=some r->kG g l=some r
 |[],_,hr=>hr|(k,x)::l,r,hr=>by simp only[kG]at hr⊢;split at hr;(next y s u a B D=>rw[h _ _ a,h _ _ B,GB h D];exact hr);cases hr
theorem G6{H:bh}:∀(n:Nat)(x y:V),borrow n H x=some y->borrow (n+1) H x=some y:=by intro n;induction n with|zero=>grind[borrow,iP]|succ n u=>intro x y h;unfold borrow at h⊢;split;grind;rename_i d;rw[if_neg d]at h;cases x with|hsl id es off len=>simp only at h⊢;split at h;split at h;(next q=>rw[if_pos q];have⟨r,c,w⟩:=ζf.1 h;rw[FC u c];grind);cases h;cases h|hptr id el off=>simp only at h⊢;split at h;split at h;split at h;(next q=>rw[if_pos q];have⟨r,c,w⟩:=ζf.1 h;rw[sF u c];grind);cases h;cases h;cases h|hmap id=>simp only at h⊢;split at h;have⟨r,c,w⟩:=ζf.1 h;rw[GB u c];grind;cases h|clo f a b=>grind[sF]|agg z=>simp only at h⊢;have⟨r,c,w⟩:=ζf.1 h;rw[sF u c];grind|tup z=>simp only at h⊢;have⟨r,c,w⟩:=ζf.1 h;rw[sF u c];grind|_=>cases h
def qJ{H:bh}{n m:Nat}(h:n<=m){x y:V}(B:borrow n H x=some y):borrow m H x=some y:=by induction h with|refl=>exact B|step _ u=>grind[G6]
def rm{H:bh}{n m:Nat}(h:n<=m){l r:Zu}(B:borrows n H l=some r):borrows m H l=some r:=sF (λ_ _=>qJ h) B
def Am{f g:V->Zv}:∀{l:Zu},(∀x∈l,f x=g x)->cH f l=cH g l
 |[],_=>rfl|x::l,h=>by simp only[cH];rw[h x (mem_cons_self ..),Am λy B=>h y (mem_cons_of_mem _ B)]
theorem qo{f:V->aY V}:∀{l r:Zu},gR f l=some r->∀x∈l,∃y,f x=some y
 |[],_,_,x,b=>by cases b|a::l,r,h,x,b=>by simp only[gR]at h;split at h;rename_i y s c B;rcases mem_cons.1 b with rfl|b;grind;exact qo B x b;cases h
theorem DY{f:V->aY V}:∀{l r:Zt},kI f l=some r->∀c∈l,∀x∈c,∃y,f x=some y
 |[],_,_,x,B=>by cases B|a::l,r,h,c,b=>by simp only[kI]at h;split at h;rename_i y s d D;rcases mem_cons.1 b with rfl|b;exact qo d;exact DY D c b;cases h
theorem yp{f:V->aY V}:∀{l r:aX (V×V)},kG f l=some r->∀c∈l,(∃y,f c.1=some y)/\∃y,f c.2=some y
 |[],_,_,x,B=>by cases B|(k,a)::l,r,h,c,b=>by simp only[kG]at h;split at h;rename_i y s u d G D;rcases mem_cons.1 b with rfl|b;grind;exact yp D c b;cases h
def Ki{H:bh}:∀(n:Nat)(x y:V),borrow n H x=some y->bY (n+1) H x=bY n H x:=by
 intro n
 induction n with
 |zero=>simp_all[borrow,bY]|succ n C=>
  intro x y h;have u:∀l:Zu,(∀x∈l,∃y,borrow n H x=some y)->cH (bY (n+1) H) l=cH (bY n H) l:=λl D=>Am λx z=>by grind
  unfold borrow at h;rw[bY.eq_def (n+1+1),bY.eq_def (n+1)];simp only;split;rfl;rename_i d;rw[if_neg d]at h
  cases x with
  |hsl id es off len=>grind[ζf,List.mem_flatten,DY]|hptr id el off=>grind[ζf,qo]|hmap id=>
   simp only at h⊢;split at h;rename_i w e;have⟨r,g,G⟩:=ζf.1 h;skip;rw[u (w.map (·.1)) λx z=>by obtain⟨c,d,rfl⟩:=mem_map.1 z;grind[yp],
    u (w.map (·.2)) λx z=>by obtain⟨c,d,rfl⟩:=mem_map.1 z;grind[yp]]
   cases h
  |clo f a b=>grind[qo]|agg B=>grind[ζf,qo]|tup B=>grind[ζf,qo]|_=>rfl
theorem Od{H:bh}{n m:Nat}(h:n<=m){x y:V}(B:borrow n H x=some y):bY m H x=bY n H x:=by induction h with|refl=>rfl|step h u=>rw[Ki _ _ _ (qJ h B),u]
def wI{H:bh}{n m:Nat}(h:n<=m){l r:Zu}(B:borrows n H l=some r):cH (bY m H) l=cH (bY n H) l:=Am λx u=>by have⟨y,w⟩:=qo B x u;grind[Od]
def mZ{f g h:V->aY V}(k:∀x y z,f x=some y->g x=some z->h x=some z):∀{l r s:Zu},gR f l=some r->gR g l=some s->gR h l=some s
 |[],_,_,_,B=>B|x::l,r,s,hr,B=>by simp only[gR]at hr B⊢;split at hr;rename_i a D;split at B;(next G J=>rw[k _ _ _ a G,mZ k D J];exact B);cases B;cases hr
def Ce{f g h:V->aY V}(k:∀x y z,f x=some y->g x=some z->h x=some z):∀{l r s:Zt},kI f l=some r->kI g l=some s->kI h l=some s
 |[],_,_,_,B=>B|x::l,r,s,hr,B=>by simp only[kI]at hr B⊢;split at hr;rename_i a D;split at B;(next G J=>rw[mZ k a G,Ce k D J];exact B);cases B;cases hr
def Cj{f g h:V->aY V}(k:∀x y z,f x=some y->g x=some z->h x=some z):∀{l r s:aX (V×V)},kG f l=some r->kG g l=some s->kG h l=some s
 |[],_,_,_,B=>B|(a,x)::l,r,s,hr,B=>by simp only[kG]at hr B⊢;split at hr;rename_i b D G;split at B;(next J O T=>rw[k _ _ _ b J,k _ _ _ D O,Cj k G T];exact B);cases B;cases hr
def G8{H H2:bh}:∀(n m:Nat)(x y z:V),borrow n H x=some y->borrow m H2 x=some z->(∀id:Nat,(H2[id]?).isSome=true->H2[id]?=H[id]?)->borrow n H2 x=some z:=by intro n;induction n with|zero=>grind[borrow,iP]|succ n G=>intro m x y z h k w;by_cases e:x.closed=true;rw[iP _ _ e]at k⊢;exact k;cases m with|zero=>grind[borrow]|succ m=>have u:∀x y z,borrow n H x=some y->borrow m H2 x=some z->borrow n H2 x=some z:=λx y z a b=>G m x y z a b w;unfold borrow at h k⊢;rw[if_neg e]at h k⊢;have row:∀id q,(H2[id]?).bind Ob.rows=some q->(H[id]?).bind Ob.rows=some q:=λid q B=>(by rw[<-w id (by cases C:H2[id]?with|none=>rw[C]at B;cases B|some _=>rfl)];exact B);cases x with|hsl id es off len=>simp only at h k⊢;split at k;rename_i d;rw[row _ _ d]at h;simp only at h;split at k;(next q=>rw[if_pos q]at h⊢;have⟨r,c,_⟩:=ζf.1 h;have⟨s,k1,k2⟩:=ζf.1 k;rw[Ce u c k1];grind);cases k;cases k|hptr id el off=>simp only at h k⊢;split at k;rename_i d;rw[row _ _ d]at h;simp only at h;split at k;rename_i D;rw[D]at h;simp only at h;split at k;(next q=>rw[if_pos q]at h⊢;have⟨r,c,_⟩:=ζf.1 h;have⟨s,k1,k2⟩:=ζf.1 k;rw[mZ u c k1];grind);cases k;cases k;cases k|hmap id=>simp only at h k⊢;split at k;rename_i d;rw[<-w id (by rw[d];rfl),d]at h;simp only at h;have⟨r,c,_⟩:=ζf.1 h;have⟨s,k1,k2⟩:=ζf.1 k;rw[Cj u c k1];grind;cases k|clo f a b=>simp only at h k⊢;split at h;rename_i c C;split at k;(next k1 k2=>rw[mZ u c k1,mZ u C k2];exact k);cases k;cases h|agg I=>simp only at h k⊢;have⟨r,c,_⟩:=ζf.1 h;have⟨s,k1,k2⟩:=ζf.1 k;rw[mZ u c k1];grind|tup I=>simp only at h k⊢;have⟨r,c,_⟩:=ζf.1 h;have⟨s,k1,k2⟩:=ζf.1 k;rw[mZ u c k1];grind|_=>cases h
end Go.VE
namespace Go.VE
variable[bL]
open Go.Proofs Go.Sort
structure yV(P:Program)(f:FuncId):Prop where
 ok:w9 P f
 zero:∀(p:Option Addr)(cap:Nat)(fv:Value)(w:World),Calls P f #[.slice p 0 cap,fv] w λe w'=>e=.returned (.tuple #[])/\w'=w
 all:∀{α:Type}[Inhabited α](enc:α->Value)(_:OneCell enc)(cf:α->α->Int)(_:SWO (ltOf cf))(g:Nat)(cb:Array Value)(blk off cap:Nat)(d:Array α)(w:World)
  (_:∀args w,(callFunc g args).run P w=.ok (.enter g args) w)(_:CmpLays1 P g cb enc cf blk off d.size w)(_:Holds enc w blk off d)(_:blk<w.heap.size)(_:d.size<4611686018427387904),
  Calls P f #[.slice (some ⟨blk,off,none⟩) d.size cap,.func (.func g) #[] cb] w λe w'=>e=.returned (.tuple #[])/\∃n os,w'=sortWorld enc w blk off n (pdq (ltOf cf) d 0 d.size (Lib.bitLen d.size) true true) os
def HX{α:Type}[Inhabited α](lt:α->α->Zl):∀(k i:Nat)(d:Array α),Gc lt k i d=insOuter lt 0 (i+k) i d
 |0,i,d=>by rw[insOuter];simp[Gc]|k+1,i,d=>by rw[insOuter,Gc,HX lt k];grind
def Ao(n:Nat)(lt:Fin (n+1)->Fin (n+1)->Zl):o8 n lt=pdq lt (finRange (n+1)).toArray 0 (n+1) (Lib.bitLen (n+1)) true true:=by unfold o8;split;rw[pdq,if_pos Za,insertionSort,HX,Nat.add_comm 1 n];rfl
def oS{n:Nat}{t:Fin (n+1)->Fin (n+1)->Z6}(h:za t=true):(∀i j,∃c,t i j=some c)/\SWO (n_ t):=by have u:∀(p:Fin (n+1)->Zl),(finRange (n+1)).all p=true->∀i,p i=true:=λp h i=>List.all_eq_true.1 h i (List.mem_finRange i);have d:=λi=>u _ h i;simp only[ζh,Bool.not_eq_true']at d;have w:=λi j=>u _ (d i).2 j;simp only[ζh]at w;have z:=λi j k=>u _ (w i j).2 k;refine⟨λi j=>Option.isSome_iff_exists.1 (w i j).1,λi=>(d i).1,λi j k a b=>?_,λi j k a b=>?_⟩;have:=z i j k;grind;grind
section
variable{P:Program}{I I':b_}{μ μ':Mu}{H H':bh}{w w':World}
def Dw(w:World)(os:Array Obj)(b:Nat)(h:b<w.heap.size):(grow w os).heap[b]?=w.heap[b]?:=by unfold grow;grind
theorem Calls.fr{f:Zk}{args:Array Zp}{R:Ending->World->Prop}(h:Calls P f args w R):CallsIn (fr none) 0 P f args w R:=callsIn_wide.2 h
def CallsIn.un{f:Zk}{args:Array Zp}{R:Ending->World->Prop}(h:CallsIn (fr none) 0 P f args w R):Calls P f args w R:=callsIn_wide.1 h
def Nx{p:Pl}{c:Array Zp}{xs:Zt}(B:p.es=1)(D:c.size=p.sz)(g:p.o+xs.length<=c.size)
 (h:∀(i:Nat)x,xs[i]?=some x->∃v u,x=[v]/\V.one v=true/\c[p.o+i]?=some u/\bC I μ v u):fL I μ p c 1 xs:=by
 have d:∀x∈xs,x.length=1:=λx w=>by have⟨i,C⟩:=List.getElem?_of_mem w;grind
 have G:xs.flatten.length=xs.length:=by rw[fm d,mul_one]
 refine⟨B,D,d,λx w y J=>?_,Za,⟨?_,λj a b f L=>?_⟩⟩
 .have⟨i,C⟩:=List.getElem?_of_mem w
  grind
 .grind
 have z:j<xs.length:=by have:=(ζe.1 f).1;omega
 have⟨v,u,e,_,O,Q⟩:=h j xs[j] (by simp[z])
 have:=uN d (i:=j) (j:=0) (x:=xs[j]) (by simp[z]) (by rw[e];rfl)
 simp_all
def uK{p:Pl}{c:Array Zp}{xs:Zt}(r:fL I μ p c 1 xs)(i:Nat){x:Zu}(h:xs[i]?=some x):∃v u,x=[v]/\V.one v=true/\c[p.o+i]?=some u/\bC I μ v u:=by
 have w:=List.mem_of_getElem? h;obtain⟨v,rfl⟩:=List.length_eq_one_iff.1 (r.oa x w);have B:=(ζe.1 h).1;have z:=by have:=r.room;omega
 refine⟨v,c[p.o+i],rfl,r.one _ w v Zc,Ze,?_⟩;exact r.idx (j:=0) h rfl Ze
def Qj{α:Type}[Inhabited α](enc:α->Zp)(a o m:Nat)(B:Array α)(os:Array Obj){b:Nat}(G:b<w.heap.size)(D:b≠a):(sortWorld enc w a o m B os).heap[b]?=w.heap[b]?:=by unfold sortWorld;rw[Dw _ _ _ Ze];simp[putRow,mapBlock,Sort.ahead,Array.getElem?_modify,if_neg (Ne.symm D)]
def G9{α:Type}[Inhabited α](enc:α->Zp){a:Nat}(o m:Nat)(B:Array α){c:Array Zp}{el:Zm}(h:w.heap[a]?=some (.cells c el)):
 putRow enc (Sort.ahead w m) a o B=fI (Sort.ahead w m) a (.cells (Sort.putCells enc o B c) el):=by
 unfold putRow mapBlock fI Sort.ahead
 congr 1
 have⟨z,e⟩:=Array.getElem?_eq_some_iff.1 h;apply Array.ext
 .simp
 intro i b C
 by_cases u:i=a
 .subst u;simp[Array.getElem_modify,e,onCells]
 grind
def Step.grown(st:Step I (λ_=>none) [] w I' μ' H' w'):∃q os,w'=grow (w.drewN q) os:=by
 refine⟨w'.drawn-w.drawn,w'.heap.extract w.heap.size w'.heap.size,?_⟩;have z:w'.heap=w.heap++w'.heap.extract w.heap.size w'.heap.size:=by apply Array.ext_getElem?;intro i;by_cases u:i<w.heap.size;rw[Array.getElem?_append_left u];exact st.frame i u (by rintro⟨id,p,ob,h,_⟩;simp at h);rw[Array.getElem?_append_right Za];simp[Array.getElem?_extract];by_cases D:i<w'.heap.size;rw[if_pos Za];congr 1;omega;rw[if_neg Za,Array.getElem?_eq_none Za]
 have a:=st.os;have B:=st.out.out;have C:=st.out.tape;have G:=st.out.dr;unfold grow World.drewN;cases w';simp only at *;subst a B C;simp[World.mk.injEq];exact⟨z,Za⟩
def JN{call B:di}{g:Zk}{G D:Zu}{n:Nat}(h:∀args y,bS call g args []=some y->bS B g args []=some y){i j:Fin (n+1)}{z:Int}(J:iE call g G D n i j=some z):iE B g G D n i j=some z:=by unfold iE at J⊢;grind
def Br{keep:Zk->Zl}{call B:di}(G:call.lv<=B.lv)(h:∀g args y,keep g=false->bS call g args []=some y->bS B g args []=some y){args:Zu}{r:V×bh}(b:oV keep call args H=some r):oV keep B args H=some r:=by
 unfold oV at b⊢;split at b;split at b;omega;omega;split at b;omega;split at b;rename_i n g cb _ O S I;split at b;rename_i u;split at b;rename_i J w D C;rw[rm G D,rm G C];split at b;rename_i Q;have e:iE B g J w n=iE call g J w n:=by funext i j;have⟨z,L⟩:=(oS Q).1 i j;rw[L];exact JN (λa y=>h g a y u.2.2.2.2) L
 grind;simp_all;simp_all;simp_all;simp_all;simp_all;simp_all;simp_all
set_option maxHeartbeats 1000000 in
def Qt{call:di}(hc:jW P call){f:Zk}(hs:yV P f){args:Zu}{r:V}{keep:Zk->Zl}(h:oV keep call args H=some (r,H'))(s:cN I μ H w){vs:aX Zp}(hv:cr I μ args vs):
 CallsIn (fr none) 0 P f vs.toArray w (vY I μ H w r H'):=by
 unfold oV at h;split at h
 .rename_i sv cv;obtain⟨v1,r1,rfl,M,aD⟩:=hv.cons_inv;obtain⟨v2,r2,rfl,aE,aF⟩:=aD.cons_inv;obtain rfl:=aF.uw;have U:∀p l,v1=.slice p 0 l->CallsIn (fr none) 0 P f [v1,v2].toArray w (vY I μ H w .undef H):=by
   rintro p l rfl;refine Calls.fr ((hs.zero p l v2 w).mono ?_);rintro e w' ⟨rfl,rfl⟩;exact⟨_,I,μ,rfl,bC.undef _ _,s,Step.refl _ _ _ _⟩
  split at h
  .cases h;exact U none 0 M.kU
  .cases h;have⟨a,e⟩:=M.qD;exact U a 0 e
  .rename_i id es off len;split at h
   .cases h;rcases M.kZ with⟨p,l,_,_,_,_,e⟩|⟨_,a,e⟩
    .exact U _ l e
    exact U _ 0 e
   .rename_i n g cb;split at h
    .rename_i aT Q L;split at h
     .rename_i al;obtain⟨rfl,rfl,aR,hn,_⟩:=al;split at h
      .rename_i Z D aG aq;split at h
       .rename_i ar;cases h;have⟨p,c,el,N,hI,J,S⟩:=s.obs id _ L;rcases M.kZ with⟨q,l,hq,aU,aS,aH,rfl⟩|⟨h0,_⟩
        .rw[N]at hq;cases hq;obtain⟨va,F,rfl,hva,au⟩:=aE.jy;have av:va=#[]:=by have:=hva.uw;simpa using this
         subst av;have am:=(ζe.1 L).1;have⟨t,_⟩:=s.kill L;generalize hT:cH (bY call.lv (H.set id .dead)) (((Q.drop off).take (n+1)).flatten++cb)=T;have aI:plus I μ (H.set id .dead) w T p.b=none:=by cases B:plus I μ (H.set id .dead) w T p.b with|none=>rfl|some x=>exfalso;rcases wh (by rw[B];rfl)with h|⟨aw,p',ob,_,g1,g2,g3,g4⟩;rw[hI]at h;cases h;have ax:aw≠id:=(by rintro rfl;rw[List.getElem?_set_self am]at g1;cases g1;simp[Ob.live]at g2);rw[List.getElem?_set_ne (Ne.symm ax)]at g1;exact ax (s.inj aw id ob (.row 1 Q) p' p g1 L g2 rfl g3 N g4)
         let enc:Fin (n+1)->Zp:=λi=>(c[p.o+off*1+i.1]?).getD undef
         have K:∀i:Fin (n+1),∃v,Q[off+i.1]?=some [v]/\V.one v=true/\bC I μ v (enc i)/\c[p.o+off*1+i.1]?=some (enc i):=λi=>by have⟨v,u,e1,e2,e3,e4⟩:=uK S (off+i.1) (x:=Q[off+i.1]' Za) Zc;have e5:c[p.o+off*1+i.1]?=some u:=(by rw[<-e3];congr 1;omega);have e6:enc i=u:=(by show(c[p.o+off*1+i.1]?).getD undef=u;rw[e5];rfl);exact⟨v,by rw[<-e1];simp,e2,by rw[e6];exact e4,by rw[e5,e6]⟩
         have h1:OneCell enc:=λi=>by have⟨v,_,e2,e3,_⟩:=K i;exact e3.one e2
         have⟨ay,ae⟩:=oS ar;have⟨aV,aJ⟩:=iA aG;have⟨aK,aL⟩:=iA aq;have aA:∀x∈(Q.drop off).take (n+1),x.length=1:=λx B=>S.oa x (List.mem_of_mem_drop (List.mem_of_mem_take B))
         have W:∀(i:Fin (n+1))u,Z[i.1]?=some u->dX (plus I μ (H.set id .dead) w T) u (enc i):=λi u hu=>by have⟨x,B,an⟩:=aJ i.1 u hu;have⟨v,e1,_,e3,_⟩:=K i;have e4:((Q.drop off).take (n+1))[i.1]?=some [v]:=(by rw[getElem?_take,if_pos i.2,List.getElem?_drop];exact e1);have e5:=uN (es:=1) aA (i:=i.1) (j:=0) e4 rfl;have e5:((Q.drop off).take (n+1)).flatten[i.1]?=some v:=(by simpa using e5);rw[e5]at B;cases B;refine(tj t T call.lv _ u _ an (λk A=>?_) e3).1;rw[<-hT];exact jB (List.mem_append_left _ (List.mem_of_getElem? e5)) A
         have ab:cr (plus I μ (H.set id .dead) w T) (λ_=>none) D F.toList:=by refine⟨aK.trans au.1,λj a b k1 k2=>?_⟩;have⟨x,B,an⟩:=aL j a k1;refine .c _ _ (tj t T call.lv x a b an (λk A=>?_) (au.2 j x b B k2)).1;rw[<-hT];exact jB (List.mem_append_right _ (List.mem_of_getElem? B)) A
         have af:=(Array.getElem?_eq_some_iff.1 J).1
         let d:Array (Fin (n+1)):=(finRange (n+1)).toArray
         have ao:d.size=n+1:=by simp[d]
         have hd:∀j:Fin (n+1),d[j.1]! =j:=λj=>by simp[d,getElem!_pos]
         have hg:∀i j:Fin (n+1),∃z,iE call g Z D n i j=some z/\∃a b,Z[i.1]?=some a/\Z[j.1]?=some b/\bS call g (a::b::D) []=some (.int .i64 z):=λi j=>by have⟨z,R⟩:=ay i j;have X:=R;unfold iE at X;split at X;rename_i a b E Y;split at X;(next z' C=>cases X;exact⟨z,R,a,b,E,Y,C⟩);cases X;cases X
         have aM:w9 P g:=by have⟨z,_,a,b,E,Y,C⟩:=hg 0 0;have s0:cN (plus I μ (H.set id .dead) w T) (λ_=>none) [] w:=⟨λ_ _=>rfl,su t T,Zc,Zc,t.gl.mono (nV _ _ _ _ _)⟩;exact(A5 hc C s0 (.cons (.c _ _ (W 0 a E)) (.cons (.c _ _ (W 0 b Y)) ab))).1
         have key:=hs.all enc h1 (λi j=>(iE call g Z D n i j).getD 0) ae g F p.b (p.o+off*1) l d w (λargs w=>vu aM args) (by
          intro m os G aW i j;have⟨z,R,a,b,E,Y,C⟩:=hg i j;have s0:cN (plus I μ (H.set id .dead) w T) (λ_=>none) [] (sortWorld enc w p.b (p.o+off*1) m G os):=⟨λ_ _=>rfl,λb x Y=>IC.qI (su t T b x Y) (Qj enc p.b _ m G os (IC.uc (su t T b x Y)) (by rintro rfl;rw[aI]at Y;cases Y)),Zc,Zc,t.gl.mono (nV _ _ _ _ _)⟩
          have:=CallsIn.un (A5 hc C s0 (vs:=enc i::enc j::F.toList) (.cons (.c _ _ (W i a E)) (.cons (.c _ _ (W j b Y)) ab))).2;rw[show(enc i::enc j::F.toList).toArray=#[enc i,enc j]++F by apply ext';simp]at this
          refine this.mono ?_;rintro e w' ⟨u,I1,μ1,rfl,hu,s1,st⟩;exact⟨by rw[hu.eV];show _=Ending.returned (.int .i64 ((iE call g Z D n i j).getD 0));rw[R];rfl,st.grown⟩) (by
          intro j hj;have aB:j<n+1:=Za
          have⟨v,_,_,_,e4⟩:=K ⟨j,aB⟩;rw[hd ⟨j,aB⟩];exact⟨by rw[uy J];exact e4,by simp[World.frozen?,J]⟩) af Za
         rw[ao]at key;refine Calls.fr (key.mono ?_);rintro e w' ⟨rfl,m,os,rfl⟩;have aN:ltOf (λi j=>(iE call g Z D n i j).getD 0)=n_ (iE call g Z D n):=rfl
         rw[aN,Ao];have ah:=pdq_sorts (n_ (iE call g Z D n)) ae d 0 d.size (Lib.bitLen d.size) true true (Nat.zero_le _) (le_refl _) (Or.inl rfl);rw[ao]at ah;have O:=ah.1.1;change vY I μ H w .undef (H.set id (.row 1 (qe Q off n (pdq (n_ (iE call g Z D n)) d 0 (n+1) (Lib.bitLen (n+1)) true true).toList))) _ _;generalize pdq (n_ (iE call g Z D n)) d 0 (n+1) (Lib.bitLen (n+1)) true true=G at O;rw[ao]at O;unfold sortWorld;rw[G9 enc _ m G J];have s1:cN I μ H (Sort.ahead w m):=s.nS rfl;have aO:Step I μ H w I μ H (Sort.ahead w m):=Step.nS rfl rfl ⟨rfl,rfl,Nat.le_add_right _ _⟩;have ai:(Sort.putCells enc (p.o+off*1) G c).size=c.size:=by simp[Sort.putCells]
         have aj:∀i:Nat,(i<p.o+off*1\/p.o+off*1+(n+1)<=i)->(Sort.putCells enc (p.o+off*1) G c)[i]?=c[i]?:=λi hi=>by simp only[Sort.putCells,Array.getElem?_mapIdx];rw[O];cases c[i]?with|none=>rfl|some y=>simp only[map_some];rw[if_neg Za]
         have ap:∀i:Fin (n+1),(Sort.putCells enc (p.o+off*1) G c)[p.o+off*1+i.1]?=some (enc G[i.1]!):=λi=>by have⟨v,_,_,_,e4⟩:=K i;simp only[Sort.putCells,Array.getElem?_mapIdx,e4,map_some];rw[if_pos ⟨Za,by rw[O];omega⟩];congr 3;omega
         have aC:=S.room;have aP:(qe Q off n G.toList).length=Q.length:=by simp[qe,O];omega
         have⟨s2,st2⟩:=s1.write (o:=.cells (Sort.putCells enc (p.o+off*1) G c) el) (ob':=.row 1 (qe Q off n G.toList)) L rfl N
          ⟨p,_,el,N,hI,iH _ af,Nx S.es_eq (by rw[ai];exact S.sz) (by rw[aP,ai];omega) λi x B=>by
           unfold qe at B
           by_cases c1:i<off
           .rw[List.append_assoc,List.getElem?_append_left (by simp;omega),getElem?_take,if_pos c1]at B
            have⟨v,u,e1,e2,e3,e4⟩:=uK S i B;exact⟨v,u,e1,e2,by rw[aj _ Za];exact e3,e4⟩
           by_cases c2:i<off+(n+1)
           .rw[List.getElem?_append_left (by simp[O];omega),List.getElem?_append_right (by simp;omega)]at B
            have ak:i-off<G.size:=Za
            have e0:(Q.take off).length=off:=by simp;omega
            simp only[e0,List.getElem?_map,Array.getElem?_toList]at B;rw[Array.getElem?_eq_getElem ak]at B;simp only[map_some,ζa]at B;have⟨v,e1,e2,e3,e4⟩:=K G[i-off];rw[e1]at B;simp only[Option.getD_some]at B;refine⟨v,enc G[i-off],B.symm,e2,?_,e3⟩;have:=ap ⟨i-off,Za⟩
            simp only[getElem!_pos G (i-off) ak]at this;rw[<-this];congr 1;omega
           rw[List.getElem?_append_right (by simp[O];omega),List.getElem?_drop]at B
           have e0:off+(n+1)+(i-((Q.take off)++G.toList.map (λi=>(Q[off+i.1]?).getD [])).length)=i:=by simp[O];omega
           rw[e0]at B;have⟨v,u,e1,e2,e3,e4⟩:=uK S i B;exact⟨v,u,e1,e2,by rw[aj _ Za];exact e3,e4⟩⟩
         have A:∀b,b<(fI (Sort.ahead w m) p.b (.cells (Sort.putCells enc (p.o+off*1) G c) el)).heap.size->(grow (fI (Sort.ahead w m) p.b (.cells (Sort.putCells enc (p.o+off*1) G c) el)) os).heap[b]?=(fI (Sort.ahead w m) p.b (.cells (Sort.putCells enc (p.o+off*1) G c) el)).heap[b]?:=λb Y=>Dw _ _ _ Y
         have aQ:=Step.kept (I:=I) (μ:=μ) (H:=H.set id (.row 1 (qe Q off n G.toList))) A (by simp[grow]) rfl ⟨rfl,rfl,le_refl _⟩ (λa E h=>by unfold World.frozen? at h⊢;rw[A _ E];exact h)
         exact⟨_,I,μ,rfl,bC.undef _ _,s2.kept A,Step.trans s1 aO (Step.trans s2 st2 aQ)⟩
        cases h0
       cases h
      cases h
     cases h
    cases h
   cases h
  cases h
 cases h
end
def Au(P:Program)(f:Zk)(args:Zu)(y:V):Prop:=w9 P f/\∀I μ H w u,cN I μ H w->cr I μ args u->CallsIn (fr none) 0 P f u.toArray w (vY I μ H w y H)
def Ma{P:Program}{call:di}(a:jW P call){f:Zk}{b:Zl}{H':bh}(h:call (.fn f) [] []=some (.bool b,H')):Au P f [] (.bool b):=by
 have u:∀H,bS call f [] H=some (.bool b):=by intro H;unfold bS;rw[show borrows call.lv H []=some []from rfl];simp only[h,iP _ H' (show(V.bool b).closed=true from rfl)];rfl
 refine⟨?_,λI μ H w z s c=>(A5 a (u H) s c).2⟩;have⟨d,_⟩:=a.fn _ _ _ _ _ h;omega
structure Ti(P:Program)(E:Env):Prop where
 sort:∀f,E.sort f=true->yV P f
 known:∀f args y,E.known f args=some y->Au P f args y
end Go.VE
namespace Go.VE
variable[bL]
section
variable{P:Program}{E:Env}{I I':b_}{μ μ':Mu}{H H':bh}{n B:Nat}{F F':Zo}{a:Act}{w w':World}
def HP:∀(F:Zo)(t:Nat),F.length<=t->get F t=.undef
 |[],_,_=>rfl|_::_,0,h=>Ze|_::r,i+1,h=>HP r i Zd
def E7:∀(F:Zo)(t:Nat)(x:V),F[t]?=some x->get F t=x
 |[],_,_,h=>Ze|_::_,0,_,h=>by simpa[get]using h|_::r,i+1,x,h=>E7 r i x Zd
def J5(b:s7 I){args:Zu}{vs:aX Zp}{a:Nat}(h:cr I μ args vs)(B:args.length<=a):
 dS I μ a args (vs.toArray++replicate (a-vs.toArray.size) undef):=by
 have u:=h.1;refine⟨Ze,λt=>?_,b⟩
 by_cases C:t<args.length
 .have h1:args[t]?=some args[t]:=by simp_all
  have w:t<vs.length:=Za
  have z:vs[t]?=some vs[t]:=Ze
  rw[E7 _ _ _ h1];have:(vs.toArray++replicate (a-vs.toArray.size) undef).getD t undef=vs[t]:=by rw[Array.getD_eq_getD_getElem?,Array.getElem?_append_left Zd];simp_all
  rw[this];exact h.2 t _ _ h1 z
 rw[HP _ _ Za]
 have:(vs.toArray++replicate (a-vs.toArray.size) undef).getD t undef=undef:=by rw[Array.getD_eq_getD_getElem?,Array.getElem?_append_right Ze,Array.getElem?_replicate];grind
 rw[this];exact bC.undef _ _
def Ol(r:dS I μ n F a.tmps){t:Nat}{x:V}{v:Zp}(B:t<n)(h:bC I μ x v):dS I μ n (set F t x) (a.tmps.setIfInBounds t v):=by have:=dS.put (dst:=some t) r h (F':=set F t x) (by simp[jl,B]);simpa[Act.put]using this
def zT:∀(ps:Zv)(xs:Zu)(vs:aX Zp)(F:Zo)(tmps:Array Zp),dS I μ n F tmps->cr I μ xs vs->ps.all (·<n)=true->
 dS I μ n (vQ ps xs F) ((ps.zip vs).foldl (λtmps(t,a)=>tmps.setIfInBounds t a) tmps)
 |[],_,_,F,tmps,r,_,_=>by simpa[vQ]using r|t::ps,[],[],F,tmps,r,_,_=>by simpa[vQ]using r|t::ps,[],v::vs,F,tmps,r,h,_=>by have:=h.1;grind|t::ps,x::xs,[],F,tmps,r,h,_=>by have:=h.1;grind|t::ps,x::xs,v::vs,F,tmps,r,h,u=>by simp only[List.all_cons,ζh,decide_eq_true_eq]at u;have w:=h.2 0 x v rfl rfl;have z:cr I μ xs vs:=⟨by have:=h.1;grind,λj a b c B=>h.2 (j+1) a b Zd Zd⟩;exact zT ps xs vs _ _ (Ol (a:={tmps:=tmps,defers:=[]}) r u.1 w) z u.2
def GN{α β:Type}(g:α->Sem β):∀(l:aX α)(w:World)(B:aX β),B.length=l.length->(∀(j:Nat)x y,l[j]?=some x->B[j]?=some y->(g x).run P w=.ok y w)->(l.mapM g).run P w=.ok B w
 |[],w,[],_,_=>Zc|[],w,_::_,h,_=>Ze|_::_,w,[],h,_=>Ze|x::l,w,y::B,h,hg=>by have D:=hg 0 x y rfl rfl;have u:=GN g l w B Zd (λj a b c z=>hg (j+1) a b Zd Zd);simp_all
def Jh(tmps:Array Zp):ResultVar->Sem Zp
 |.tmp t=>pure (tmps.getD t undef)|.cell a t=>do loadVar t (<-asAddr (tmps.getD a undef))
def Kq(fn:Func)(tmps:Array Zp):results fn tmps=(fn.results.mapM (Jh tmps) >>= λvs=>pure (if h:vs.size=1 then vs[0]else .tuple vs)):=by congr 1
def JR(W:dV P E){fn:Func}{tmps:Array Zp}(r:dS I μ n F tmps)(s:cN I μ H w){vs:Zu}(h:gX E F H fn.results.toList=some vs):
 ∃u,(results fn tmps).run P w=.ok u w/\bC I μ (result vs) u:=by
 have key:∀(l:aX ResultVar)(vs:Zu),gX E F H l=some vs->∃z:aX Zp,z.length=l.length/\cr I μ vs z/\
  ∀(j:Nat)x y,l[j]?=some x->z[j]?=some y->(Jh tmps x).run P w=.ok y w:=by
  intro l
  induction l with
  |nil=>intro vs h;simp[gX]at h;subst h;exact⟨[],rfl,.nil,Zc⟩|cons x l U=>
   intro vs h
   cases x with
   |tmp t=>
    simp only[gX,ζf]at h;obtain⟨D,h,rfl⟩:=h;have⟨z,a,C,Q⟩:=U D h;refine⟨tmps.getD t undef::z,Ze,.cons (r.2 t) C,?_⟩
    intro j x y J L
    cases j with
    |zero=>simp at J L;subst J;subst L;simp[Jh]|succ j=>grind
   |cell p t=>
    simp only[gX]at h;split at h
    .rename_i d D X S;simp only[ζf]at h;obtain⟨v,b,rfl⟩:=h;have⟨z,a,C,Q⟩:=U D S;have⟨u,_,c,Y,T,G⟩:=A6 W s X (r.2 p) b;refine⟨u::z,Ze,.cons c C,?_⟩
     intro j x y J L
     cases j with
     |zero=>
      simp only[List.getElem?_cons_zero,ζa]at J L;subst J;subst L;have e:(do loadVar t (<-asAddr (tmps.getD p undef))).run P w=(loadVar t Y).run P w:=by rw[run_bind,T];rfl
      exact e.trans G
     |succ j=>grind
    grind
 have⟨z,a,C,Q⟩:=key _ _ h;have g:=GN _ fn.results.toList w z a Q;have Z:(fn.results.mapM (Jh tmps)).run P w=.ok z.toArray w:=by rw[Array.mapM_eq_mapM_toList];simp_all
 have O:z.length=vs.length:=C.1.symm;rw[Kq,run_bind,Z]
 by_cases B:z.length=1
 .obtain⟨u,rfl⟩:=List.length_eq_one_iff.1 B;obtain⟨v,rfl⟩:=List.length_eq_one_iff.1 (O▸B);exact⟨u,Zc,by simpa[result]using C.2 0 v u rfl rfl⟩
 refine⟨.tuple z.toArray,Ze,?_⟩
 have f:result vs=.tup vs:=by match vs,O with|[],_=>rfl|[_],h=>exact absurd h B|_::_::_,_=>rfl
 rw[f];exact .tup _ _ (by simpa using C.1) (by simpa using C.2)
def KX(J:dV P E){fn:Func}{tmps:Array Zp}{vs:Zu}(h:gX E F H' fn.results.toList=some vs)(T:w.heap.size<=B):∀(ds:aX Deferred)(w':World),
 dS I' μ' n F tmps->cN I' μ' H' w'->Step I μ H w I' μ' H' w'->jw B ds w'->
 LeavesInM (fr none) 0 P fn tmps (vY I μ H w (result vs) H') ds .returning w':=by
 intro ds
 induction ds with
 |nil=>intro w' r s st m;have⟨u,b,c⟩:=JR J r s h;exact⟨u,b,u,I',μ',rfl,c,s,st⟩|cons d ds L=>
  intro w' r s st m;have⟨q,a,U,D⟩:=m.all d Zc
  refine⟨Zc,.inl ⟨q,_,a,run_takeDeferred D,?_⟩⟩
  have z:=tn s D;have O:=Ql s D Zc Zc
  have m':jw B ds w':=⟨λd Q=>m.all d (mem_cons_of_mem _ Q),(List.pairwise_cons.1 m.apart).2⟩
  refine L (fI w' q (.deferred none)) r (s.zG _ O z) (st.after _ Za) ⟨λG C=>?_,m'.apart⟩
  have⟨S,g1,g2,g3⟩:=m'.all G C;refine⟨S,g1,g2,?_⟩;rw[gz _ ?_];exact g3;rintro rfl;exact(List.pairwise_cons.1 m.apart).1 G C _ a g1
def Cp(o:Out):(lJ o).isNone=(o==.norm):=by cases o<;>simp[lJ]<;>rfl
def D7(T:dV P E)(j:P.follows .mixedOrders=true)(b:Ti P E):∀n,jW P (run E n):=by
 intro n;induction n with|zero=>exact⟨λ_ _ _ _ _ h=>(by cases h),λ_ _ _ _ _ h=>(by cases h)⟩|succ n C=>
  constructor;intro f args H r H' h;rw[EB]at h;simp[jo]at h;split at h;rename_i J V;have⟨fn,m,hb,ae,U,L⟩:=T.ft f J V;refine⟨⟨fn,m,Ze,L⟩,?_⟩;intro I μ w B s a;split at h;rename_i u;have t:∀o F' H2 rs,exec E (run E n) n false J.ntmps J.body args H=some (o,F',H2)->(∀id,o≠.exit id)->gX E F' H2 J.results=some rs->CallsIn (fr none) 0 P f B.toArray w (vY I μ H w (result rs) H2):=by intro o F' H2 rs hx al hr;refine callsIn_of_wp_marks m hb trivial ?_;rw[ae];have c:=J5 s.gl a u;have:=wo T j C n none false rfl J.ntmps J.body I μ args H {tmps:=B.toArray++replicate (J.ntmps-B.toArray.size) undef,defers:=[]} w o F' H2 hx c s ⟨Zc,.nil⟩ (le_refl _);refine wpIn_mono this ?_;rintro e a1 W ⟨rfl,⟨I1,y,r1,S,z⟩,m1⟩;have d:=KX T (by rw[U];omega) (le_refl _) a1.defers W r1 S z m1;cases o with|norm=>exact d|ret=>exact d|exit id=>grind
  split at h;simp_all;simp at h;grind;grind;grind;split at h;next A=>exact⟨(b.sort f A).ok,λI μ w B s a=>Qt C (b.sort f A) h s a⟩
  have⟨yy,F,h⟩:=ζf.1 h;cases h;exact⟨(b.known f args _ F).1,λI μ w B s a=>(b.known f args _ F).2 I μ H w B s a⟩;intro id args H r H' h I μ w B p s a hp;rw[EB]at h;simp only[jo]at h;split at h
  .rename_i rec X;split at h
   .split at h
    .rename_i u;split at h
     .rename_i F2 H2 af;split at h
      .rename_i r2 Y;split at h
       .rename_i Z;split at h
        .rename_i o F4 H4 ah;split at h
         .rename_i r4 aa;obtain⟨rfl,rfl⟩:=h;have⟨q,l,g1,g2,g3,g4⟩:=zx s X;rw[hp]at g1;cases g1;have ai:l.params.size=rec.params.length:=by have:=congrArg List.length g4.params;grind
          have aj:B.toArray.size=l.params.size:=by rw[ai,<-u.1];simpa using a.1.symm
          refine⟨p.b,l.fn,_,l.assign,l.body,run_yield g3 aj,?_⟩;refine roundIn_of_wpIn trivial ?_;have O:(l.params.zip B.toArray).foldl (λtmps x=>tmps.setIfInBounds x.1 x.2) l.tmps=(rec.params.zip B).foldl (λtmps x=>tmps.setIfInBounds x.1 x.2) l.tmps:=by rw[<-Array.foldl_toList,Array.toList_zip,g4.params]
          have c:=zT rec.params args B rec.frame l.tmps g4.frame a u.2;rw[<-O]at c;have W:=wo T j C n (some p.b) true rfl rec.nt rec.assign I μ _ H {tmps:=_,defers:=[]} w _ _ _ af c s ⟨Zc,.nil⟩ (le_refl _);rw[g4.assign,g4.body];refine wpIn_mono W ?_;rintro e a1 W ⟨rfl,⟨I1,y,r1,S,z⟩,m1⟩;have⟨q,g,k1,k2,k3,k4⟩:=zx S Y;rw[z.mu _ _ hp]at k1;cases k1;have D:g.state=.ready:=by have:=k4.st;rw[Z]at this;cases d:g.state<;>rw[d]at this<;>simp[z8.is]at this
          refine⟨_,run_beginRound k3 D,?_⟩;have G:=z.mu _ _ hp;have⟨K,st2⟩:=S.write (ob':=.loop {r2 with st:=.busy}) Y rfl G
           ⟨p,{g with state:=.busy},G,k2,iH _ (Array.getElem?_eq_some_iff.1 k3).1,⟨trivial,k4.pend,k4.pendOk,k4.frame,k4.params,k4.assign,k4.body⟩⟩
          have m2:=m1.step S st2;have w2:=wo T j C n (some p.b) true rfl rec.nt rec.body I1 y F2 _ a1 (fI W p.b (.loop {g with state:=.busy})) o F4 H4 ah r1 K m2 (by rw[vg];exact z.size);refine wpIn_mono w2 ?_;rintro e a3 w3 ⟨rfl,⟨I3,μ3,r3,k,Q⟩,m3⟩;have⟨q,l4,M,j2,N,i⟩:=zx k aa;rw[Q.mu _ _ G]at M;cases M;have R:=Q.mu _ _ G;have fin:∃v w',(Instr.endRound p.b (lJ o)).run P w3=.ok v w'/\vY I μ H w (.bool (o==.norm)) (H4.set id (.loop {r4 with st:=(if o==.norm then .ready else .done),pend:=(if o==.norm then none else some o)})) (.returned v) w':=by
           refine⟨_,_,run_endRound (lJ o) N,?_⟩;have⟨s4,ak⟩:=k.write (ob':=.loop {r4 with st:=(if o==.norm then .ready else .done),pend:=(if o==.norm then none else some o)}) aa rfl R
            ⟨p,{l4 with state:=if(lJ o).isNone then .ready else .done,pending:=lJ o},R,j2,iH _ (Array.getElem?_eq_some_iff.1 N).1,⟨by cases o<;>exact trivial,by cases o<;>rfl,by cases o<;>simp,i.frame,i.params,i.assign,i.body⟩⟩
           refine⟨_,I3,μ3,rfl,?_,s4,Step.trans S z (Step.trans K st2 (Step.trans k Q ak))⟩;rw[Cp];exact .c _ _ (.bool _)
          cases o with|norm=>exact fin|ret=>exact fin|exit id=>exact fin
         grind
        grind
       grind
      grind
     grind
    grind
   grind
  grind
end
end Go.VE
namespace Go.VE
variable[bL]
variable{P:Program}
def oP.Jz{t:Zm}{d:TD}(h:uO P t=some d):oP P t d:=dV.ty (E:={tt:=uO P,ft:=λ_=>none,keep:=λ_=>false,own:=λ_=>false,eqN:=λ_=>none,sort:=λ_=>false}) ⟨λ_ _ h=>h,Zc,Zc⟩ h
def qy{i:Zm}{cs:Array Zp}{o:Nat}{v:Zp}{w:World}(B:uO P i=some ⟨1,8,[.int .i64 0],.int .i64⟩)(h:cs[o]?=some v):(part i cs o).run P w=.ok v w:=by unfold part;simp[run_bind,(oP.Jz B).Kr,andThen,TD.agg,h]
def sE{a:Zx}(h:a.length=2):∃x y,a=[x,y]:=by match a,h with|[x,y],_=>exact⟨x,y,rfl⟩
def xZ(d:Nat)(e:Zl){i:Zm}(x:Int){w:World}(B:P.underlying i=some (.int .i64)):(checkKey e (d+1) i (.int .i64 x)).run P w=.ok () w:=by simp only[checkKey,run_bind,dw B,andThen_ok,run_pure]
def EI(d:Nat)(e:Zl){t i:Zm}{f g:Field}(x y:Int){w:World}(hu:P.underlying t=some (.struct #[f,g]))(G:f.type=i)(hg:g.type=i)(of:f.offset=0)(J:g.offset=1)(nf:f.name≠ "_")(O:g.name≠ "_")
 (D:uO P i=some ⟨1,8,[.int .i64 0],.int .i64⟩)(B:P.underlying i=some (.int .i64)):(checkKey e (d+1+1) t (.agg (ic [x,y]))).run P w=.ok () w:=by
 have u:∀w,(part i (ic [x,y]) 0).run P w=.ok (.int .i64 x) w:=λw=>qy D rfl
 have p1:∀w,(part i (ic [x,y]) 1).run P w=.ok (.int .i64 y) w:=λw=>qy D rfl
 have q:∀(x:Int)w,(checkKey e (d+1) i (.int .i64 x)).run P w=.ok () w:=λx w=>xZ d e x B
 unfold checkKey;simp only[run_bind,dw hu,andThen_ok];rw[<-Array.forIn_toList];simp only[List.forIn_cons,List.forIn_nil,run_bind,G,hg,of,J,nf,O,ne_eq,not_false_eq_true,if_true,u,p1,q,andThen_ok,run_pure]
def uA.two{t i:Zm}{f g:Field}(hu:P.underlying t=some (.struct #[f,g]))(U:f.type=i)(hg:g.type=i)(of:f.offset=0)(W:g.offset=1)(nf:f.name≠ "_")(Y:g.name≠ "_")
 (T:uO P i=some ⟨1,8,[.int .i64 0],.int .i64⟩)(G:P.underlying i=some (.int .i64))(hs:P.stoodInHeld t=false)(hq:P.eqGuardType P.depth t=false):uA P t 2:=by
 have I:P.fieldsOf t=#[f,g]:=by unfold Program.fieldsOf;rw[hu]
 have B:∀(w:World)(x y z u:Int),(equal t (.agg (ic [x,y])) (.agg (ic [z,u]))).run P w=.ok ([x,y]==[z,u]) w:=by intro w x y z u;show(equalIn (9999+1) t _ _).run P w=_;rw[run_equalIn_struct w 9999 t _ _ (by rw[I];exact hu) hs,I];have Q:∀(x y:Int)w,(part i (ic [x,y]) 0).run P w=.ok (.int .i64 x) w:=λx y w=>qy T rfl;have p1:∀(x y:Int)w,(part i (ic [x,y]) 1).run P w=.ok (.int .i64 y) w:=λx y w=>qy T rfl;have q:∀(x y:Int)w,(equalIn 9999 i (.int .i64 x) (.int .i64 y)).run P w=.ok (x==y) w:=λx y w=>zZ 9998 x y G;simp only[Op.eqFields,U,hg,of,W,nf,Y,ne_eq,not_false_eq_true,if_true,run_bind,Q,q,andThen_ok];by_cases C:x=z;by_cases J:y=u;subst C;subst J;simp[run_bind,p1,q,andThen];subst C;have:(y==u)=false:=(by simpa using J);simp[run_bind,p1,q,andThen,this];have:(x==z)=false:=(by simpa using C);simp[this]
 have L:∀(op:BinOp)(p q:Zr)(w:World)(u v:Array Zp),(eqGuard op t p q (.agg u) (.agg v)).run P w=.ok () w:=by intro op p q w u v;unfold eqGuard;cases op<;>simp[run_bind,run_program,andThen,hq]
 refine⟨?_,?_,?_,?_,⟨_,hu,.inr ⟨_,rfl⟩⟩⟩
 .intro w p q a b D O;obtain⟨x,y,rfl⟩:=sE D;obtain⟨z,u,rfl⟩:=sE O;rw[run_bind,L,andThen_ok];show(do pure (Value.bool (<-equal t (.agg (ic [x,y])) (.agg (ic [z,u])))):Sem Zp).run P w=_
  rw[run_bind,B];rfl
 .intro w p q a b D O;obtain⟨x,y,rfl⟩:=sE D;obtain⟨z,u,rfl⟩:=sE O;rw[run_bind,L,andThen_ok];show(do pure (Value.bool (!(<-equal t (.agg (ic [x,y])) (.agg (ic [z,u]))))):Sem Zp).run P w=_
  rw[run_bind,B];rfl
 .intro w a b D O;obtain⟨x,y,rfl⟩:=sE D;obtain⟨z,u,rfl⟩:=sE O;exact B w x y z u
 intro w e a D;obtain⟨x,y,rfl⟩:=sE D;exact EI 9998 e x y hu U hg of W nf Y T G
def lk{α:Type}:aX (Nat×α)->Nat->aY α
 |[],_=>none|(k,v)::r,n=>bif beq k n then some v else lk r n
def Ln{α:Type}:∀{l:aX (Nat×α)}{n:Nat}{v:α},lk l n=some v->(n,v)∈l
 |[],_,_,h=>by simp[lk]at h|(k,x)::r,n,v,h=>by simp only[lk]at h;cases a:beq k n with|true=>rw[a]at h;simp only[cond_true,ζa]at h;have:=Nat.eq_of_beq_eq_true a;subst this;subst h;simp|false=>rw[a]at h;exact mem_cons_of_mem _ (Ln h)
end Go.VE
namespace Go.VE
variable[bL]
inductive KT where|bool|str|slice|ptr|map|int|other
 deriving DecidableEq
def TK.tag:TK->KT
 |.bool=>.bool|.int _=>.int|.str=>.str|.ptr _=>.ptr|.slice _=>.slice|.map ..=>.map|_=>.other
def nQ(k:KT)(x y:V):aY Zl:=
 match k,x,y with
 |.slice,.bD,.bD=>some true|.slice,.fsl ..,.bD=>some false|.slice,.hsl ..,.bD=>some false|.ptr,.gL,.gL=>some true|.ptr,.fptr _,.gL=>some false|.ptr,.hptr ..,.gL=>some false|.map,.f_,.f_=>some true|.map,.fmap _,.f_=>some false|.map,.hmap _,.f_=>some false|_,_,_=>none
def mc(k:aY KT)(e:aY Nat)(op:BinOp)(x y:V):aY V:=
 match x,y with
 |.int k a,.int u b=>
  match op with
  |.shl=>if b<0 then none else some (.int k (k.wrap (a*2 ^ (min b.toNat k.bits))))|.shr=>if b<0 then none else some (.int k (a.fdiv (2 ^ (min b.toNat k.bits))))|_=>if k=u then
   match op with
   |.add=>some (.int k (k.wrap (a+b)))|.sub=>some (.int k (k.wrap (a-b)))|.mul=>some (.int k (k.wrap (a*b)))|.quo=>if b=0 then none else some (.int k (k.wrap (a.tdiv b)))|.rem=>if b=0 then none else some (.int k (a.tmod b))|.and=>some (.int k (k.wrap (ofInt k.bits a &&& ofInt k.bits b).toNat))|.or=>some (.int k (k.wrap (ofInt k.bits a ||| ofInt k.bits b).toNat))|.xor=>some (.int k (k.wrap (ofInt k.bits a ^^^ ofInt k.bits b).toNat))|.andNot=>some (.int k (k.wrap (ofInt k.bits a &&& ~~~ ofInt k.bits b).toNat))|op=>(qz op a b).map .bool
   else none
 |.str a,.str b=>
  match op with
  |.add=>if((a.size+b.size:Nat):Int)>IntKind.i64.max then none else some (.str (a++b))|.eql=>some (.bool (a.toList==b.toList))|.neq=>some (.bool !(a.toList==b.toList))|.lss=>some (.bool (bytesLess a.toList b.toList))|.leq=>some (.bool (bytesLess a.toList b.toList||a.toList==b.toList))|.gtr=>some (.bool !(bytesLess a.toList b.toList||a.toList==b.toList))|.geq=>some (.bool !(bytesLess a.toList b.toList))|_=>none
 |.bool a,.bool b=>
  match k,op with
  |some .bool,.eql=>some (.bool (a==b))|some .bool,.neq=>some (.bool !(a==b))|_,_=>none
 |.agg a,.agg b=>
  match e,op with
  |some n,.eql=>if a.length=n then(jR a b).map .bool else none|some n,.neq=>if a.length=n then(jR a b).map (λt=>.bool !t)else none|_,_=>none
 |x,y=>
  match k,op with
  |some k,.eql=>(nQ k x y).map .bool|some k,.neq=>(nQ k x y).map λt=>.bool !t|_,_=>none
def JC(k:TK)(x y:V):tf k x y=nQ k.tag x y:=by cases k<;>cases y<;>(try rfl)<;>cases x<;>rfl
def PK(E:Env)(op:BinOp)(t:Zm)(x y:V):Fa E op t x y=mc ((E.kindOf t).map TK.tag) (E.eqN t) op x y:=by
 unfold Fa;split;rfl;rfl;cases b:E.kindOf t with|none=>rfl|some k=>cases k<;>cases op<;>rfl
 rfl;rename_i a u w z
 cases b:E.kindOf t with
 |none=>rw[mc.eq_29 _ _ _ _ _ a u w z Zc Zc]|some k=>
  simp only[JC];cases op<;>first
   |exact(mc.eq_27 _ _ _ _ a u w z).symm|exact(mc.eq_28 _ _ _ _ a u w z).symm|(rw[mc.eq_29 _ _ _ _ _ a u w z Zc Zc])
inductive tV where
 |id|pick|nilc
 |bin(k:Option KT)(e:Option Nat)(op:BinOp)
 |not|neg
 |conv(k:IntKind)
 |fieldAddr(off:Nat)
 |field(off size:Nat)(agg:Bool)
 |idxS(size:Nat)
 |idxA(len size:Nat)
 |idxStr
 |idxArr(len size:Nat)(agg:Bool)
 |sliceStr(lo hi:Bool)
 |slice(size:Nat)(lo hi:Bool)
 |slice00
 |build(zero:List V)(pl:List (Nat×Nat))
 |clo(name:Nat)(k:Nat)
 |ext(i:Nat)
 |lenStr|lenSl|capSl|max|min|bad|max4
 |makeC(size:Nat)(zero:List V)
 |buildC(size len:Nat)(zero:List V)(idx:List Nat)
 |emptyC
def JK:V->aY V
 |.hptr id el off=>some (.hptr id el off)|.fptr cs=>some (.fptr cs)|.clo f a b=>some (.clo f a b)|_=>none
def o7(off:Nat):V->aY V
 |.fptr cs=>if off<=cs.length then some (.fptr (cs.drop off))else none|.hptr id el o=>some (.hptr id el (o+off))|_=>none
def kF(size:Nat)(s:V)(n:Int):aY V:=
 if n<0 then none else match s with
 |.fsl es u=>if es=size then(u[n.toNat]?).map .fptr else none|.hsl id es off len=>if es=size/\n.toNat<len then some (.hptr id (off+n.toNat) 0)else none|_=>none
def uS(len size:Nat)(p:V)(n:Int):aY V:=
 if 0<=n/\n<len then match p with
  |.fptr u=>if n.toNat*size<=u.length then some (.fptr (u.drop (n.toNat*size)))else none|.hptr id el o=>some (.hptr id el (o+n.toNat*size))|_=>none
 else none
def lH:Zl->Zl->Zu->aY (Z6×Z6)
 |false,false,[]=>some (none,none)|true,false,[.int _ l]=>some (some l,none)|false,true,[.int _ h]=>some (none,some h)|true,true,[.int _ l,.int _ h]=>some (some l,some h)|_,_,_=>none
def gQ(size:Nat)(v:V)(l h:Z6):aY V:=
 match v with
 |.fsl es u=>if es=size then(dx u.length l h).map λ(l,h)=>.fsl es ((u.take h).drop l)else none|.hsl id es off len=>if es=size then(dx len l h).map λ(l,h)=>.hsl id es (off+l) (h-l)else none|.c7=>(dx 0 l h).map λ_=>.c7|.bD=>(dx 0 l h).map λ_=>.bD|_=>none
def IF:V->Zl
 |.fsl ..|.hsl ..|.c7|.bD=>true|_=>false
def jO(cells:Zu):aX (Nat×Nat)->Zu->aY Zu
 |[],[]=>some cells|(off,size)::pl,v::vs=>
  if v.cells.length≠size||off+v.cells.length>cells.length then none
  else jO (cells.take off++v.cells++cells.drop (off+v.cells.length)) pl vs
 |_,_=>none
def mK:V->aY V
 |.fsl _ xs=>some (.int .i64 xs.length)|.hsl _ _ _ len=>some (.int .i64 len)|.c7=>some (.int .i64 0)|.bD=>some (.int .i64 0)|_=>none
def Ge:V->aY V
 |.bD|.c7=>some (.int .i64 0)|_=>none
def bH(N:Nat->Zk):tV->Zu->aY V
 |.id,[x]=>some x
 |.pick,[.bool t,a,b]=>some (if t then a else b)
 |.nilc,[x]=>JK x
 |.bin k e op,[x,y]=>mc k e op x y
 |.not,[.bool b]=>some (.bool !b)
 |.neg,[.int k n]=>some (.int k (k.wrap (0-n)))
 |.conv k,[.int _ n]=>some (.int k (k.wrap n))
 |.fieldAddr off,[p]=>o7 off p
 |.field off size agg,[.agg cs]=>(cut cs off size).bind (mk agg)
 |.idxS size,[s,.int _ n]=>kF size s n
 |.idxA len size,[p,.int _ n]=>uS len size p n
 |.idxStr,[.str s,.int _ n]=>if 0<=n then(s[n.toNat]?).map (λb=>.int .u8 b.toNat)else none
 |.idxArr len size agg,[.agg cs,.int _ n]=>if 0<=n/\n<len then(cut cs (n.toNat*size) size).bind (mk agg)else none
 |.sliceStr D G,.str s::J=>(lH D G J).bind λ(l,h)=>(dx s.size l h).map λ(l,h)=>.str (s.extract l h)
 |.slice size D G,v::J=>(lH D G J).bind λ(l,h)=>gQ size v l h
 |.slice00,[v,.int _ h,.int _ m]=>if IF v&&h==0&&m==0 then some .c7 else none
 |.build zero pl,vs=>(jO zero pl vs).map .agg
 |.clo name k,vs=>some (.clo (N name) (vs.take k) (vs.drop k))
 |.ext i,[.tup vs]=>vs[i]?
 |.lenStr,[.str s]=>some (.int .i64 s.size)
 |.lenSl,[v]=>mK v
 |.capSl,[v]=>Ge v
 |.max,[.int k a,.int B b]=>if k=B then some (.int k (if b>a then b else a))else none
 |.max4,[.int k a,.int k1 b,.int k2 c,.int k3 d]=>if k=k1/\k=k2/\k=k3 then some (.int k (AO (AO (AO a b) c) d))else none
 |.min,[.int k a,.int B b]=>if k=B then some (.int k (if b<a then b else a))else none
 |.makeC size zero,[.int k n,.int B m]=>if k=.i64/\B=.i64/\0<=n/\n=m/\m<=2147483648/\zero.all V.scalar=true then some (.fsl size (List.replicate n.toNat zero))else none
 |.buildC size len zero idx,vs=>if V.cM vs=true/\idx.length=vs.length then match eR size (List.replicate len zero) (idx.zip vs)with
  |some xs=>if xs.isEmpty=false/\(xs.all λx=>x.all V.scalar)=true then some (.fsl size xs)else none
  |none=>none
  else none
 |.emptyC,[]=>some .c7
 |_,_=>none
inductive vl where|int (k:IntKind)|str|ints (n:Nat)
def BT(E:Env)(t:Zm):aY vl:=
 match E.kindOf t with
 |some (.int k)=>some (.int k)|some .str=>some .str|some _=>(E.eqN t).map .ints|none=>none
def ou:vl->V->Zl
 |.int k,.int B _=>k==B|.str,.str _=>true|.ints n,.agg cs=>cs.length==n&&(gP cs).isSome|_,_=>false
inductive HV where
 |load(size:Nat)(agg:Bool)|loadF(size:Nat)(agg:Bool)|lookup(kk:vl)(zero:V)(ok:Bool)
def eG(H:bh):HV->Zu->aY V
 |.load size agg,[p]=>(dZ H p size).bind (mk agg)|.lookup kk z ok,[m,k]=>match l_ H m with
  |some B=>if ou kk k then match ig k B 0 with
   |some (some (_,v))=>some (if ok then .tup [v,.bool true]else v)|some none=>some (if ok then .tup [z,.bool false]else z)|none=>none
   else none
  |none=>none
 |_,_=>none
inductive L5 where
 |alloc(size:Nat)(zero:List V)|box|makeSl(size:Nat)(zero:List V)|buildSl(size len:Nat)(zero:List V)(idx:List Nat)|makeMap
def kJ:L5->Zu->aY (Ob×Mk)
 |.alloc size zero,[]=>some (.row size [zero],.ptr)|.box,[v]=>if v.cells.all V.one then some (.row v.cells.length [v.cells],.ptr)else none|.makeSl size zero,[.int k n,.int B m]=>if k=.i64/\B=.i64/\0<=n/\n<=m/\m<=2147483648 then some (.row size (List.replicate m.toNat zero),.sl size n.toNat)else none|.buildSl size len zero idx,vs=>if idx.length=vs.length then(eR size (List.replicate len zero) (idx.zip vs)).map λxs=>(.row size xs,.sl size len)else none|.makeMap,[]=>some (.map [],.map)|_,_=>none
inductive IA where
 |store(size:Nat)|storeF(size:Nat)|mapUp(kk:vl)|append(size:Nat)|appMk(size bytes:Nat)(zero:List V)|clear(size:Nat)(zero:List V)
def eA(H:bh):IA->Zu->aY (V×bh)
 |.store size,[.hptr id el off,v]=>match H[id]?with
  |some (.row es xs)=>match xs[el]?with
   |some cs=>if v.cells.length=size/\off+size<=cs.length/\v.cells.all V.one=true then
    some (.undef,H.set id (.row es (xs.set el (cs.take off++v.cells++cs.drop (off+v.cells.length)))))else none
   |none=>none
  |_=>none
 |.mapUp kk,[.hmap id,k,v]=>match H[id]?with
  |some (.map B)=>if ou kk k then(ox k v B).map λB=>(.undef,H.set id (.map B))else none|_=>none
 |.append size,[s,x]=>match dg H size s,dg H size x with
  |some _,some []=>some (s,H)|some xs,some ys=>if xs.length+ys.length<=2147483648 then(fP H s).map λH1=>(.hsl H.length size 0 (xs.length+ys.length),H1++[.row size (xs++ys)])else none|_,_=>none
 |.appMk size bytes zero,[s,x]=>mkApp H size bytes zero s x|.clear size zero,[v]=>Bu H size zero v|.storeF size,.hptr id el off::v::l=>if l.all (mO id)=true then match H[id]?with
  |some (.row es xs)=>match xs[el]?with
   |some cs=>if v.cells.length=size/\off+size<=cs.length/\v.cells.all V.one=true then
    some (.undef,H.set id (.row es (xs.set el (cs.take off++v.cells++cs.drop (off+v.cells.length)))))else none
   |none=>none
  |_=>none
  else none
 |_,_=>none
inductive K where
 |p(p:tV)|r(r:HV)|a(a:L5)|l(l:IA)|c|e(size:Nat)|b
def Ul(E:Env)(t:Zm):aY KT:=(E.kindOf t).map TK.tag
def resolve(E:Env)(nm:Zk->aY Nat):Op->aY (K×aX Zr)
 |.move x|.assign x=>some (.p .id,[x])
 |.pick c a b=>some (.p .pick,[c,a,b])
 |.nilCheck x=>some (.p .nilc,[x])
 |.binOp op t x y _=>some (.p (.bin (Ul E t) (E.eqN t) op),[x,y])
 |.unOp .not _ x=>some (.p .not,[x])
 |.unOp .neg _ x=>some (.p .neg,[x])
 |.convert s d x=>match E.tt s,E.tt d with
  |some _,some O=>match O.kind with
   |.int k=>some (.p (.conv k),[x])
   |.str=>match E.kindOf s with
    |some (.slice e)=>match E.kindOf e with
     |some (.int .u8)=>some (.b,[x])
     |_=>none
    |_=>none
   |_=>none
  |_,_=>none
 |.fieldAddr s x f=>match E.kindOf s with
  |some (.struct fs)=>match fs[f]?with
   |some (off,t)=>match E.tt t with
    |some d=>if d.size=0 then none else some (.p (.fieldAddr off),[x])
    |none=>none
   |none=>none
  |_=>none
 |.field s x f=>match E.kindOf s with
  |some (.struct fs)=>match fs[f]?with
   |some (off,t)=>match E.tt t with
    |some d=>some (.p (.field off d.size d.agg),[x])
    |none=>none
   |none=>none
  |_=>none
 |.indexAddr t x i=>match E.kindOf t with
  |some (.slice e)=>(E.tt e).map λd=>(.p (.idxS d.size),[x,i])
  |some (.array len e)=>(E.tt e).map λd=>(.p (.idxA len d.size),[x,i])
  |_=>none
 |.index t x i=>match E.kindOf t with
  |some .str=>some (.p .idxStr,[x,i])
  |some (.array len e)=>(E.tt e).map λd=>(.p (.idxArr len d.size d.agg),[x,i])
  |_=>none
 |.slice t x B D T=>match E.kindOf t,T with
  |some .str,none=>some (.p (.sliceStr B.isSome D.isSome),x::(B.toList++D.toList))
  |some (.slice e),none=>(E.tt e).map λd=>(.p (.slice d.size B.isSome D.isSome),x::(B.toList++D.toList))
  |some (.slice e),some m=>match E.tt e,B,D with
   |some _,none,some h=>some (.p .slice00,[x,h,m])
   |_,_,_=>none
  |_,_=>none
 |.build t ps=>match E.tt t with
  |some d=>match d.kind with
   |.struct fs=>match mb E fs with
    |some pl=>(ps.toList.mapM λ(q:Nat×Zr)=>pl[q.1]?).map λq=>(K.p (.build d.zero q),ps.toList.map λ(q:Nat×Zr)=>q.2)
    |none=>none
   |.array _ e=>(E.tt e).map λJ=>(K.p (.build d.zero (ps.toList.map λ(q:Nat×Zr)=>(q.1*J.size,J.size))),ps.toList.map λ(q:Nat×Zr)=>q.2)
   |_=>none
  |none=>none
 |.makeFunc (.func f) a b=>(nm f).map λs=>(.p (.clo s a.toList.length),a.toList++b.toList)
 |.extract x i=>some (.p (.ext i),[x])
 |.load t a=>(E.tt t).map λd=>(.r (.load d.size d.agg),[a])
 |.lookup t m k ok=>match E.kindOf t with
  |some (.map G U)=>match E.tt U,BT E G with
   |some d,some kk=>(mk d.agg d.zero).map λz=>(.r (.lookup kk z ok),[m,k])
   |_,_=>none
  |_=>none
 |.alloc t=>(E.tt t).map λd=>(.a (.alloc d.size d.zero),[])
 |.box _ x=>some (.a .box,[x])
 |.makeSlice t l c=>match E.kindOf t with
  |some (.slice e)=>match E.tt e with
   |some d=>if d.bytes<=4096 then some (.a (.makeSl d.size d.zero),[l,c])else none
   |none=>none
  |_=>none
 |.buildSlice t len ps=>match E.kindOf t with
  |some (.slice e)=>match E.tt e with
   |some d=>if len*d.size<=16777216 then some (.a (.buildSl d.size len d.zero (ps.toList.map (·.1))),ps.toList.map (·.2))else none
   |none=>none
  |_=>none
 |.makeMap _ none=>some (.a .makeMap,[])
 |.store t a x=>(E.tt t).map λd=>(.l (.store d.size),[a,x])
 |.mapUpdate t m k x|.insert t m k x=>match E.kindOf t with
  |some (.map G _)=>(BT E G).map λkk=>(.l (.mapUp kk),[m,k,x])
  |_=>none
 |.call {callee:=.builtin .append,args,argTypes}=>match argTypes.toList,args.toList with
  |[t,W],[s,x]=>match E.kindOf t,E.kindOf W with
   |some (.slice e),some (.slice _)=>match E.tt e with
    |some d=>if d.bytes<=4096/\0<d.bytes then some (.l (.append d.size),[s,x])else none
    |none=>none
   |some (.slice e),some (.int _)=>(E.tt e).map λd=>(.l (.appMk d.size d.bytes d.zero),[s,x])
   |_,_=>none
  |_,_=>none
 |.call {callee:=.builtin .len,args,argTypes}=>match argTypes[0]?,args.toList with
  |some t,[x]=>match E.kindOf t with
   |some .str=>some (.p .lenStr,[x])
   |some (.slice _)=>some (.p .lenSl,[x])
   |_=>none
  |_,_=>none
 |.call {callee:=.builtin .cap,args,argTypes}=>match argTypes[0]?,args.toList with
  |some t,[x]=>match E.kindOf t with
   |some (.slice _)=>some (.p .capSl,[x])
   |_=>none
  |_,_=>none
 |.call {callee:=.builtin .clear,args,argTypes}=>match argTypes[0]?,args.toList with
  |some t,[x]=>match E.kindOf t with
   |some (.slice e)=>(E.tt e).map λd=>(.l (.clear d.size d.zero),[x])
   |_=>none
  |_,_=>none
 |.panic _=>some (.p .bad,[])
 |.makeInterface ..=>some (.p .bad,[])
 |.call {callee:=.builtin .max,args,..}=>match args.toList with
  |[x,y]=>some (.p .max,[x,y])
  |[x,y,z,t]=>some (.p .max4,[x,y,z,t])
  |_=>none
 |.call {callee:=.builtin .min,args,..}=>match args.toList with
  |[x,y]=>some (.p .min,[x,y])
  |_=>none
 |.call {callee:=.value f,args,..}=>some (.c,f::args.toList)
 |_=>none
section
variable{E:Env}{nm:Zk->aY Nat}{N:Nat->Zk}{F:Zo}
def nr{x:Zr}{vs:Zu}(h:fe F [x]=some vs):∃a,ev F x=some a/\vs=[a]:=by simp[fe]at h;grind
def iw{x:Zr}{l:aX Zr}{vs:Zu}(h:fe F (x::l)=some vs):∃a az,ev F x=some a/\fe F l=some az/\vs=a::az:=by simp[fe]at h;grind
def pe{vs:Zu}(h:fe F []=some vs):vs=[]:=by simp[fe]at h;grind
def rF{x y:Zr}{vs:Zu}(h:fe F [x,y]=some vs):∃a b,ev F x=some a/\ev F y=some b/\vs=[a,b]:=by obtain⟨a,az,w,u,rfl⟩:=iw h;obtain⟨b,z,rfl⟩:=nr u;grind
def Fk{x y z:Zr}{vs:Zu}(h:fe F [x,y,z]=some vs):∃a b c,ev F x=some a/\ev F y=some b/\ev F z=some c/\vs=[a,b,c]:=by obtain⟨a,az,w,u,rfl⟩:=iw h;obtain⟨b,c,B,d,rfl⟩:=rF u;grind
def Jd{l m:aX Zr}{vs:Zu}(h:fe F (l++m)=some vs):∃az B,fe F l=some az/\fe F m=some B/\vs=az++B:=by induction l generalizing vs with|nil=>exact⟨[],vs,rfl,h,rfl⟩|cons x l u=>obtain⟨a,az,w,z,rfl⟩:=iw h;obtain⟨b,c,C,d,rfl⟩:=u z;refine⟨a::b,c,?_,d,rfl⟩;simp[fe,w,C]
def J8{l:aX Zr}{vs:Zu}(h:fe F l=some vs):vs.length=l.length:=by induction l generalizing vs with|nil=>rw[pe h];rfl|cons x l u=>obtain⟨a,az,_,w,rfl⟩:=iw h;grind
def zu(E:Env)(N:Nat->Zk)(F:Zo)(op:Op)(vs:Zu):K->Prop
 |.p p=>cz op=.pure/\∀v,bH N p vs=some v->bF E F op=some v|.r r=>cz op=.read/\∀H v,eG H r vs=some v->dD E F H op=some v|.a a=>cz op=.alloc/\∀x,kJ a vs=some x->ey E F op=some x|.l l=>cz op=.loud/\∀H x,eA H l vs=some x->cq E F H op=some x|.e _=>False|.b=>cz op=.pure/\∃x,vs=[x]/\∀H ys l,dg H 1 x=some ys->kA ys=some l->bF E F op=none/\evalConv E F H op=some (.str (pN l))|.c=>cz op=.call/\∃f az,vs=f::az/\jk F op=(match f with|.clo g a b=>some (.fn g,a++az++b)|.yld id=>some (.yld id,az)|_=>none)
def Fz(place:Nat->aY (Nat×Nat)):∀(ps:aX (Nat×Zr))(q:aX (Nat×Nat))(vs:Zu)(cells cs:Zu),(ps.mapM λ(x:Nat×Zr)=>place x.1)=some q->
 fe F (ps.map λ(x:Nat×Zr)=>x.2)=some vs->jO cells q vs=some cs->∃B,lz F ps=some B/\sR place cells B=some cs:=by
 intro ps
 induction ps with
 |nil=>
  intro q vs cells cs u b h;simp at u;subst u;have:=pe (by simpa using b);subst this
  simp[jO]at h;subst h;exact⟨[],rfl,rfl⟩
 |cons p ps D=>
  intro q vs cells cs u b h;have⟨i,x⟩:=p;simp only[List.mapM_cons,Option.pure_def,Option.bind_eq_bind,ζg,ζa]at u;obtain⟨pl,w,G,z,rfl⟩:=u;obtain⟨a,az,I,C,rfl⟩:=iw (by simpa using b)
  simp only[jO]at h;split at h
  .simp_all
  have⟨B,c,J⟩:=D G az _ cs z C h;refine⟨(i,a)::B,by simp[lz,I,c],?_⟩
  simp[sR,w]
  grind
def LH:∀(ps:aX (Nat×Zr))(vs:Zu),fe F (ps.map λ(x:Nat×Zr)=>x.2)=some vs->lz F ps=some ((ps.map λ(x:Nat×Zr)=>x.1).zip vs):=by intro ps;induction ps with|nil=>simp[lz]|cons p ps w=>intro vs b;obtain⟨a,az,z,u,rfl⟩:=iw (by simpa using b);simp[lz,z,w az u]
def EY{G D:aY Zr}{vs:Zu}{l h:Z6}(c:fe F (G.toList++D.toList)=some vs)(B:lH G.isSome D.isSome vs=some (l,h)):jr F G=some l/\jr F D=some h:=by
 cases G with
 |none=>cases D with|none=>have:=pe (by simpa using c);subst this;obtain⟨rfl,rfl⟩:=B;exact⟨rfl,rfl⟩|some y=>obtain⟨b,u,rfl⟩:=nr (by simpa using c);cases b<;>simp[lH]at B;obtain⟨rfl,rfl⟩:=B;simp[jr,u]
 |some x=>cases D with|none=>obtain⟨b,u,rfl⟩:=nr (by simpa using c);cases b<;>simp[lH]at B;obtain⟨rfl,rfl⟩:=B;simp[jr,u]|some y=>obtain⟨a,b,w,u,rfl⟩:=rF (by simpa using c);cases a<;>cases b<;>simp[lH]at B;obtain⟨rfl,rfl⟩:=B;simp[jr,w,u]
def xP{t:Zm}{kk:vl}{k:V}(h:BT E t=some kk)(a:ou kk k=true):zF E t k=true:=by unfold BT at h;unfold zF;cases w:E.kindOf t with|none=>grind|some z=>rw[w]at h;have b:(E.eqN t).map vl.ints=some kk->∃n u,E.eqN t=some n/\k=.agg u/\(u.length==n&&(gP u).isSome)=true:=(by intro h;simp at h;obtain⟨n,B,rfl⟩:=h;cases k<;>simp[ou]at a<;>first|grind|grind);cases z with|int C=>simp at h;subst h;cases k<;>simp[ou]at a;grind|str=>simp at h;subst h;cases k<;>simp[ou]at a;rfl|_=>obtain⟨n,u,c,rfl,D⟩:=b h;simp_all
def iM(hN:∀f s,nm f=some s->N s=f){op:Op}{k:K}{os:aX Zr}{vs:Zu}(h:resolve E nm op=some (k,os))(g:fe F os=some vs):zu E N F op vs k:=by
 cases op with
 |move x=>obtain⟨rfl,rfl⟩:=h;obtain⟨a,B,rfl⟩:=nr g;exact⟨rfl,λv w=>by simpa[bH,bF,B]using w⟩|assign x=>obtain⟨rfl,rfl⟩:=h;obtain⟨a,B,rfl⟩:=nr g;exact⟨rfl,λv w=>by simpa[bH,bF,B]using w⟩|pick c a b=>simp[resolve]at h;obtain⟨rfl,rfl⟩:=h;obtain⟨x,y,z,hx,hy,W,rfl⟩:=Fk g;refine⟨rfl,λv w=>?_⟩;cases x<;>simp[bH]at w;rename_i t;subst w;cases t<;>simp[bF,hx,hy,W]|nilCheck x=>simp[resolve]at h;obtain⟨rfl,rfl⟩:=h;obtain⟨a,B,rfl⟩:=nr g;refine⟨rfl,λv w=>?_⟩;cases a<;>simp[bH,JK]at w<;>subst w<;>simp[bF,B]|binOp aj t x y yt=>simp only[resolve,ζa,ζc]at h;obtain⟨rfl,rfl⟩:=h;obtain⟨a,b,B,I,rfl⟩:=rF g;exact⟨rfl,λv w=>by simp only[bF,B,I,PK];exact w⟩|unOp u t x=>cases u with|not=>simp only[resolve,ζa,ζc]at h;obtain⟨rfl,rfl⟩:=h;obtain⟨a,B,rfl⟩:=nr g;refine⟨rfl,λv w=>?_⟩;cases a<;>simp[bH]at w;subst w;simp[bF,B]|neg=>simp only[resolve,ζa,ζc]at h;obtain⟨rfl,rfl⟩:=h;obtain⟨a,B,rfl⟩:=nr g;refine⟨rfl,λv w=>?_⟩;cases a<;>simp[bH]at w;subst w;simp[bF,B]|_=>simp[resolve]at h
 |convert s d x=>
  simp only[resolve]at h;split at h
  .rename_i sd td M D;split at h;rename_i k j;simp only[ζa,ζc]at h;obtain⟨rfl,rfl⟩:=h;obtain⟨a,B,rfl⟩:=nr g;refine⟨rfl,λv w=>?_⟩;cases a<;>simp[bH]at w;subst w;simp[bF,B,M,D,j]
   .rename_i j;split at h
    .rename_i e he;split at h
     .rename_i hu;simp only[ζa,ζc]at h;obtain⟨rfl,rfl⟩:=h;obtain⟨a,B,rfl⟩:=nr g;refine⟨rfl,a,rfl,λH ys l n L=>?_⟩;have ad:E.kindOf d=some .str:=(by unfold Env.kindOf;rw[D,map_some,j]);refine⟨?_,by simp only[evalConv,he,ad,B,hu,n,L,ζb,map_some]⟩;simp only[bF,M,D,B];cases a<;>first|rfl|(simp only[dg]at n;cases n)
     simp at h
    simp at h
   simp at h
  simp at h
 |fieldAddr s x f=>simp only[resolve]at h;split at h;rename_i fs j;split at h;rename_i off t X;split at h;rename_i d D;split at h;simp at h;rename_i W;simp only[ζa,ζc]at h;obtain⟨rfl,rfl⟩:=h;obtain⟨a,B,rfl⟩:=nr g;refine⟨rfl,λv w=>?_⟩;simp only[bF,B,j,X,D,if_neg W];simp only[bH,o7]at w;cases a<;>simp at w⊢ <;>exact w;simp at h;simp at h;simp at h|field s x f=>
  simp only[resolve]at h;split at h
  .rename_i fs j;split at h
   .rename_i off t X;split at h
    .rename_i d D;simp only[ζa,ζc]at h;obtain⟨rfl,rfl⟩:=h;obtain⟨a,B,rfl⟩:=nr g;refine⟨rfl,λv w=>?_⟩;cases a<;>simp only[bH]at w<;>first|(simp only[bF,B,j,X,D];exact w)|simp at w
    simp at h
   simp at h
  simp at h
 |indexAddr t x i=>
  simp only[resolve]at h;split at h
  .rename_i e j;simp only[ζf,ζc]at h;obtain⟨d,D,rfl,rfl⟩:=h;obtain⟨a,b,B,I,rfl⟩:=rF g;refine⟨rfl,λv w=>?_⟩;(cases b<;>simp only[bH]at w<;>first|simp at w;done|skip);simp only[bF,B,I,j,D];unfold kF at w;exact w
  .rename_i len e j;simp only[ζf,ζc]at h;obtain⟨d,D,rfl,rfl⟩:=h;obtain⟨a,b,B,I,rfl⟩:=rF g;refine⟨rfl,λv w=>?_⟩;(cases b<;>simp only[bH]at w<;>first|simp at w;done|skip);simp only[bF,B,I,j,D];unfold uS at w;exact w
  simp at h
 |index t x i=>
  simp only[resolve]at h;split at h
  .rename_i j;simp only[ζa,ζc]at h;obtain⟨rfl,rfl⟩:=h;obtain⟨a,b,B,I,rfl⟩:=rF g;refine⟨rfl,λv w=>?_⟩;(cases a<;>cases b<;>simp only[bH]at w<;>first|simp at w;done|skip);simp only[bF,B,I,j];exact w
  .rename_i len e j;simp only[ζf,ζc]at h;obtain⟨d,D,rfl,rfl⟩:=h;obtain⟨a,b,B,I,rfl⟩:=rF g;refine⟨rfl,λv w=>?_⟩;(cases a<;>cases b<;>simp only[bH]at w<;>first|simp at w;done|skip);simp only[bF,B,I,j,D];exact w
  simp at h
 |slice t x lo hi mx=>
  simp only[resolve]at h;split at h
  .rename_i j;simp only[ζa,ζc]at h;obtain⟨rfl,rfl⟩:=h;obtain⟨a,bs,B,I,rfl⟩:=iw g;refine⟨rfl,λv w=>?_⟩;(cases a<;>simp only[bH]at w<;>first|simp at w;done|skip);have⟨⟨l,h⟩,Y,w⟩:=ζg.1 w;have⟨n,L⟩:=EY I Y;have P:jr F none=some none:=rfl;simp only[bF,B,j,n,L,P];exact w
  rename_i e j;simp only[ζf,ζc]at h;obtain⟨d,D,rfl,rfl⟩:=h;obtain⟨a,bs,B,I,rfl⟩:=iw g;refine⟨rfl,λv w=>?_⟩;simp only[bH]at w;have⟨⟨l,h⟩,Y,w⟩:=ζg.1 w;have⟨n,L⟩:=EY I Y;have P:jr F none=some none:=rfl;simp only[bF,B,j,n,L,P,D];cases a<;>exact w
  .rename_i e m j;split at h
   .rename_i d hh D;simp only[ζa,ζc]at h;obtain⟨rfl,rfl⟩:=h;obtain⟨a,b,c,B,I,o,rfl⟩:=Fk g;refine⟨rfl,λv w=>?_⟩;(cases b<;>cases c<;>simp only[bH]at w<;>first|simp at w;done|skip);rename_i k1 n1 k2 n2;split at w;rename_i U;simp only[ζh,beq_iff_eq]at U;obtain⟨⟨n,rfl⟩,rfl⟩:=U;have m1:jr F none=some none:=rfl;have m2:jr F (some hh)=some (some 0):=(by simp[jr,I]);have m3:jr F (some m)=some (some 0):=(by simp[jr,o]);simp only[bF,B,j,m1,m2,m3,D];cases a<;>simp[IF]at n<;>exact w;simp at w
   simp at h
  simp at h
 |build t ps=>
  simp only[resolve]at h;split at h;rename_i d D;split at h;rename_i fs j;split at h;rename_i pl ae;simp only[ζf,ζc]at h;obtain⟨q,hq,rfl,rfl⟩:=h;refine⟨rfl,λv w=>?_⟩;simp only[bH,ζf]at w;obtain⟨cs,Z,rfl⟩:=w;have⟨ws,R,w2⟩:=Fz (λi=>pl[i]?) _ q vs _ cs hq g Z;simp only[bF,D,R,j,ae,w2,map_some];simp at h;rename_i len e j;simp only[ζf,ζc]at h;obtain⟨A,af,rfl,rfl⟩:=h;refine⟨rfl,λv w=>?_⟩;simp only[bH,ζf]at w;obtain⟨cs,Z,rfl⟩:=w;have⟨ws,R,w2⟩:=Fz (λi=>some (i*A.size,A.size)) ps.toList (ps.toList.map λq=>(q.1*A.size,A.size)) vs _ cs (by
   generalize ps.toList=l
   induction l with
   |nil=>rfl|cons x l ih=>simp[List.mapM_cons,ih]) g Z
  simp only[bF,D,R,j,af,w2,map_some];simp at h;simp at h
 |makeFunc f a b=>cases f with|func f=>simp only[resolve,ζf,ζc]at h;obtain⟨s,M,rfl,rfl⟩:=h;obtain⟨az,bs,B,I,rfl⟩:=Jd g;refine⟨rfl,λv w=>?_⟩;simp only[bH,ζa]at w;subst w;simp only[bF,B,I,hN f s M];rw[<-J8 B];simp|_=>simp[resolve]at h
 |extract x i=>simp only[resolve,ζa,ζc]at h;obtain⟨rfl,rfl⟩:=h;obtain⟨a,B,rfl⟩:=nr g;refine⟨rfl,λv w=>?_⟩;(cases a<;>simp only[bH]at w<;>first|simp at w;done|skip);simp only[bF,B];exact w|load t x=>simp only[resolve,ζf,ζc]at h;obtain⟨d,D,rfl,rfl⟩:=h;obtain⟨a,B,rfl⟩:=nr g;exact⟨rfl,λH v w=>by simp only[dD,D,B];exact w⟩|lookup t m k ok=>simp only[resolve]at h;split at h;rename_i kt et j;split at h;rename_i d kk D O;simp only[ζf,ζc]at h;obtain⟨z,W,rfl,rfl⟩:=h;obtain⟨a,b,B,I,rfl⟩:=rF g;refine⟨rfl,λH v w=>?_⟩;simp only[eG]at w;split at w;rename_i ab Q;split at w;rename_i S;simp only[dD,j,B,I,D,Q,xP O S,if_true,W];split at w;(next X=>rw[X];exact w);(next X=>rw[X];exact w);simp at w;simp at w;simp at w;simp at h;simp at h|alloc t=>simp only[resolve,ζf,ζc]at h;obtain⟨d,D,rfl,rfl⟩:=h;have:=pe g;subst this;exact⟨rfl,λx w=>by simpa[kJ,ey,D]using w⟩|box t x=>simp only[resolve,ζa,ζc]at h;obtain⟨rfl,rfl⟩:=h;obtain⟨a,B,rfl⟩:=nr g;exact⟨rfl,λx w=>by simp only[ey,B];exact w⟩|makeSlice t l c=>
  simp only[resolve]at h;split at h
  .rename_i e j;split at h
   .rename_i d D;split at h
    .rename_i T;simp only[ζa,ζc]at h;obtain⟨rfl,rfl⟩:=h;obtain⟨a,b,B,I,rfl⟩:=rF g;refine⟨rfl,λx w=>?_⟩;(cases a<;>cases b<;>simp only[kJ]at w<;>first|simp at w;done|skip);rename_i k1 n1 k2 n2;split at w;(next o=>simp only[ey,j,B,I,D];rw[if_pos ⟨o.1,o.2.1,o.2.2.1,o.2.2.2.1,o.2.2.2.2,T⟩];exact w);simp at w
    simp at h
   simp at h
  simp at h
 |buildSlice t len ps=>simp only[resolve]at h;split at h;rename_i e j;split at h;rename_i d D;split at h;rename_i T;simp only[ζa,ζc]at h;obtain⟨rfl,rfl⟩:=h;refine⟨rfl,λx w=>?_⟩;have W:=LH _ _ g;simp only[kJ]at w;split at w;simp only[ey,j,W,D,if_pos T];exact w;simp at w;simp at h;simp at h;simp at h|makeMap t r=>cases r with|none=>simp only[resolve,ζa,ζc]at h;obtain⟨rfl,rfl⟩:=h;have:=pe g;subst this;exact⟨rfl,λx w=>by simpa[kJ,ey]using w⟩|some r=>simp[resolve]at h
 |store t p x=>simp only[resolve,ζf,ζc]at h;obtain⟨d,D,rfl,rfl⟩:=h;obtain⟨a,b,B,I,rfl⟩:=rF g;refine⟨rfl,λH v w=>?_⟩;(cases a<;>simp only[eA]at w<;>first|simp at w;done|skip);simp only[cq,D,B,I];exact w|mapUpdate t m k x=>
  simp only[resolve]at h;split at h
  .rename_i kt et j;simp only[ζf,ζc]at h;obtain⟨kk,O,rfl,rfl⟩:=h;obtain⟨a,b,c,B,I,o,rfl⟩:=Fk g;refine⟨rfl,λH v w=>?_⟩;(cases a<;>simp only[eA]at w<;>first|simp at w;done|skip);simp only[cq,j,B,I,o];split at w;rename_i ab Q;split at w;(next S=>rw[Q];simp only[xP O S,if_true];exact w);simp at w;simp at w
  simp at h
 |insert t m k x=>
  simp only[resolve]at h;split at h
  .rename_i kt et j;simp only[ζf,ζc]at h;obtain⟨kk,O,rfl,rfl⟩:=h;obtain⟨a,b,c,B,I,o,rfl⟩:=Fk g;refine⟨rfl,λH v w=>?_⟩;(cases a<;>simp only[eA]at w<;>first|simp at w;done|skip);simp only[cq,j,B,I,o];split at w;rename_i ab Q;split at w;(next S=>rw[Q];simp only[xP O S,if_true];exact w);simp at w;simp at w
  simp at h
 |call c=>
  have⟨callee,args,ak⟩:=c
  cases callee with
  |value f=>simp only[resolve,ζa,ζc]at h;obtain⟨rfl,rfl⟩:=h;obtain⟨a,az,B,has,rfl⟩:=iw g;refine⟨rfl,a,az,rfl,?_⟩;simp only[jk,B,has];cases a<;>rfl|builtin b=>
   cases b with
   |append=>simp only[resolve]at h;split at h;rename_i t t' s x J C;split at h;rename_i e e' j aa;split at h;rename_i d D;split at h;rename_i T;simp only[ζa,ζc]at h;obtain⟨rfl,rfl⟩:=h;obtain⟨a,b,B,I,rfl⟩:=rF g;refine⟨rfl,λH v w=>?_⟩;have G:fe F args.toList=some [a,b]:=(by rw[C];exact g);simp only[cq,J,G,j,aa,D];simp only[eA]at w;split at w;(next n L=>rw[n,L];exact w);rename_i xs ys ah n L;rw[n,L];split at w;rename_i ai;simp only[if_pos (show xs.length+ys.length<=2147483648/\d.bytes<=4096/\0<d.bytes from⟨ai,T⟩)];(cases ys with|nil=>exact absurd rfl ah|cons y ys=>exact w);simp at w;simp at w;simp at h;simp at h;rename_i e kk j aa;simp only[ζf,ζc]at h;obtain⟨d,D,rfl,rfl⟩:=h;obtain⟨a,b,B,I,rfl⟩:=rF g;refine⟨rfl,λH v w=>?_⟩;have G:fe F args.toList=some [a,b]:=(by rw[C];exact g);simp only[cq,J,G,j,aa,D];exact w;simp at h;simp at h|cap=>
    simp only[resolve]at h;split at h
    .rename_i t x J C;split at h
     .rename_i e j;simp only[ζa,ζc]at h;obtain⟨rfl,rfl⟩:=h;obtain⟨a,B,rfl⟩:=nr g;have G:fe F args.toList=some [a]:=(by rw[C];exact g);refine⟨rfl,λx w=>?_⟩;simp only[bF,J,G,j];simp only[bH]at w;cases a<;>simp only[Ge]at w<;>first|(simp at w;done)|exact w
     simp at h
    simp at h
   |clear=>simp only[resolve]at h;split at h;rename_i t x J C;split at h;rename_i e j;simp only[ζf,ζc]at h;obtain⟨d,D,rfl,rfl⟩:=h;obtain⟨a,B,rfl⟩:=nr g;have G:fe F args.toList=some [a]:=(by rw[C];exact g);refine⟨rfl,λH v w=>?_⟩;simp only[cq,J,G,j,D];exact w;simp at h;simp at h|len=>
    simp only[resolve]at h;split at h
    .rename_i t x J C;split at h
     .rename_i j;simp only[ζa,ζc]at h;obtain⟨rfl,rfl⟩:=h;obtain⟨a,B,rfl⟩:=nr g;have G:fe F args.toList=some [a]:=(by rw[C];exact g);refine⟨rfl,λv w=>?_⟩;(cases a<;>simp only[bH]at w<;>first|simp at w;done|skip);simp only[bF,G,J,j];exact w
     rename_i e j;simp only[ζa,ζc]at h;obtain⟨rfl,rfl⟩:=h;obtain⟨a,B,rfl⟩:=nr g;have G:fe F args.toList=some [a]:=by rw[C];exact g
     refine⟨rfl,λv w=>?_⟩;simp only[bF,G,J,j];simp only[bH,mK]at w;cases a<;>simp at w⊢ <;>exact w;simp at h
    simp at h
   |max=>
    simp only[resolve]at h;split at h
    .rename_i x y C;simp only[ζa,ζc]at h;obtain⟨rfl,rfl⟩:=h;obtain⟨a,b,B,I,rfl⟩:=rF g;have G:fe F args.toList=some [a,b]:=(by rw[C];exact g);refine⟨rfl,λv w=>?_⟩;(cases a<;>cases b<;>simp only[bH]at w<;>first|simp at w;done|skip);simp only[bF,G];exact w
    .rename_i x y z t C;simp only[ζa,ζc]at h;obtain⟨rfl,rfl⟩:=h;obtain⟨a,al,B,L,rfl⟩:=iw g;obtain⟨b,c,d,I,o,D,rfl⟩:=Fk L;have G:fe F args.toList=some [a,b,c,d]:=(by rw[C];exact g);refine⟨rfl,λv w=>?_⟩;(cases a<;>cases b<;>simp only[bH]at w<;>first|simp at w;done|skip);(cases c<;>cases d<;>simp only[bH]at w<;>first|simp at w;done|skip);simp only[bF,G];exact w
    simp at h
   |min=>
    simp only[resolve]at h;split at h
    .rename_i x y C;simp only[ζa,ζc]at h;obtain⟨rfl,rfl⟩:=h;obtain⟨a,b,B,I,rfl⟩:=rF g;have G:fe F args.toList=some [a,b]:=(by rw[C];exact g);refine⟨rfl,λv w=>?_⟩;(cases a<;>cases b<;>simp only[bH]at w<;>first|simp at w;done|skip);simp only[bF,G];exact w
    simp at h
   |_=>simp[resolve]at h
  |_=>simp[resolve]at h
 |panic x=>simp only[resolve,ζa,ζc]at h;obtain⟨rfl,rfl⟩:=h;have:=pe g;subst this;exact⟨rfl,λx w=>by simp[bH]at w⟩|makeInterface t x=>simp only[resolve,ζa,ζc]at h;obtain⟨rfl,rfl⟩:=h;have:=pe g;subst this;exact⟨rfl,λx w=>by simp[bH]at w⟩|_=>simp[resolve]at h
end
structure yu(c c':di):Prop where
 lv:c.lv<=c'.lv
 go:∀x a H r,c x a H=some r->c' x a H=some r
section
variable{E:Env}{c c':di}{n:Nat}{ops:Zz}{F F':Zo}{H H':bh}
def FV{f:Zk}{args:Zu}{y:V}(B:bS c f args H=some y):∃az,borrows c.lv H args=some az:=by
 unfold bS at B;split at B;next az h=>exact⟨az,h⟩
 cases B
def BP(D:c.lv<=c'.lv){f:Zk}(h:∀a H r,c (.fn f) a H=some r->c' (.fn f) a H=some r){args:Zu}{y:V}(B:bS c f args H=some y):bS c' f args H=some y:=by
 unfold bS at B⊢;split at B;rename_i az u;rw[rm D u];split at B;rename_i b;simp only;rw[h _ _ _ b];split at B;next w=>simp only;rw[qJ D w];exact B
 cases B;simp at B;simp at B
def mE(h:yu c c'){f:Zk}{args:Zu}{y:V}(B:bS c f args H=some y):bS c' f args H=some y:=BP h.lv (λ_ _ _=>h.go _ _ _ _) B
def lI(B:c.lv<=c'.lv){f:Zk}{args:Zu}{y:V}(D:bS c f args H=some y):cH (bY c'.lv H) args=cH (bY c.lv H) args:=by have⟨az,h⟩:=FV D;exact wI B h
def BE(D:c.lv<=c'.lv){f:Zk}(h:∀a H r,c (.fn f) a H=some r->c' (.fn f) a H=some r){args:Zu}{r:V×bh}(B:kX c f args H=some r):kX c' f args H=some r:=by
 unfold kX at B⊢;split at B;rename_i az u;rw[rm D u];split at B;next b=>simp only;rw[h _ _ _ b];exact B
 simp at B;simp at B
def EO(h:yu c c'){f:Zk}{args:Zu}{r:V×bh}(B:kX c f args H=some r):kX c' f args H=some r:=BE h.lv (λ_ _ _=>h.go _ _ _ _) B
def yh(h:yu c c'){f:Zk}{args:Zu}{r:V×bh}(B:gf E c f args H=some r):gf E c' f args H=some r:=by
 unfold gf at B⊢;split;next u=>rw[if_pos u]at B;exact EO h B
 rename_i u;rw[if_neg u]at B;exact h.go _ _ _ _ B
def xx(O:c.lv<=c'.lv){f:Zk}{args:Zu}{y G:V}{b:Nat}(a:bS c f args (H.take b)=none)(B:bS c f args H=some y)(D:bS c' f args (H.take b)=some G):False:=by
 unfold bS at a B D;split at D;rename_i az d;split at B;rename_i I u;have e:=mZ (λx y z k1 k2=>G8 (H2:=H.take b) c.lv c'.lv x y z k1 k2 λid w=>by
  rw[getElem?_take]at w⊢;split at w
  next C=>rw[if_pos C]
  cases w) u d
 have J:borrows c.lv H args=some az:=qZ (zN c.lv) e;rw[J]at u;cases u;rw[show borrows c.lv (H.take b) args=some az from e]at a;simp only at a;rw[a]at B;simp at B;simp at B;simp at D
def LF(h:yu c c'){place:aY (Nat×Nat)}{op:Op}{r:V×bh}(B:cE E c ops place F H op=some r):cE E c' ops place F H op=some r:=by
 unfold cE at B⊢;split at B;exact B;exact B;exact B;exact B;split at B
 .rename_i f args C;split at B;rotate_left;cases B;rename_i D;rw[if_pos D];unfold dI at B⊢;split at B;rename_i a;rw[if_pos a];split at B;exact yh h B;skip;split at B;(next z=>rw[if_pos z];exact yh h B);simp at B;rename_i a;rw[if_neg a];split at B;skip;split at B;(next y u=>rw[mE h u,lI h.lv u];exact B);simp at B;rename_i b i;skip;split at B;(next y u=>rw[mE h u,lI h.lv u];exact B);rename_i w;split at B;rename_i z;split at B;rename_i y u;(cases G:bS c' f args (List.take b H)with|some I=>exact(xx h.lv w u G).elim|none=>simp only[if_pos z,mE h u,lI h.lv u];exact B);simp at B;simp at B
 rename_i id args C;split at B;exact h.go _ _ _ _ B;skip;split at B;next z=>rw[if_pos z];exact h.go _ _ _ _ B
 simp at B;simp at B
def Cc(h:yu c c'){place:aY (Nat×Nat)}{o:Oper}{r:Zo×bh}(B:fT E c n ops place o F H=some r):fT E c' n ops place o F H=some r:=by
 unfold fT at B⊢;split at B;rename_i u;rw[if_pos u];split at B;next v H1 w=>rw[LF h w];exact B
 simp at B;rename_i u;rw[if_neg u];exact B
def zK(h:yu c c'){r:Zo×bh}:∀(l:Zz){F:Zo}{H:bh},lu E c n ops l F H=some r->lu E c' n ops l F H=some r
 |[],_,_,B=>B|o::l,F,H,B=>by simp only[lu]at B⊢;split at B;(next F1 H1 D=>rw[Cc h D];exact zK h l B);simp at B
def zV(h:yu c c'){base:Nat}{r:Zo×bh}:∀(l:Zv){F:Zo}{H:bh},jm E c n ops base l F H=some r->jm E c' n ops base l F H=some r
 |[],_,_,B=>B|i::l,F,H,B=>by simp only[jm]at B⊢;split at B;split at B;(next F1 H1 D=>rw[Cc h D];exact zV h l B);simp at B;simp at B
def CC(h:yu c c'){B:Zl}{r:Zo×bh}(D:jb E c n ops B F H=some r):jb E c' n ops B F H=some r:=by
 unfold jb at D⊢;split;rename_i u;rw[if_pos u]at D;split at D;next w=>rw[if_pos w];exact zV h _ D
 simp at D;rename_i u;rw[if_neg u]at D;exact zK h _ D
def wZ{s O:Zo->bh->aY (Out×Zo×bh)}(h:∀F H r,s F H=some r->O F H=some r):∀(k D:Nat),k<=D->∀{F H r},jQ s k F H=some r->jQ O D F H=some r
 |0,_,_,F,H,r,B=>by simp[jQ]at B|k+1,0,hk,F,H,r,B=>Za|k+1,D+1,hk,F,H,r,B=>by simp only[jQ]at B⊢;split at B;(next F1 H1 T=>rw[h _ _ _ T];exact wZ h k D Za B);rename_i G;rw[h _ _ _ B];split;(next F1 H1 J=>cases J;exact absurd B (G _ _));rfl
def xD(h:yu c c'){lf B:Nat}(O:lf<=B)(ro:Zl)(e:Nat):∀(code:Code){F:Zo}{H:bh}{r:Out×Zo×bh},exec E c lf ro e code F H=some r->exec E c' B ro e code F H=some r:=by intro code;induction code with|skip=>intro F H r u;exact u|label l=>intro F H r u;exact u|region id ops L=>intro F H r u;simp only[exec,ζf]at u⊢;obtain⟨x,Q,rfl⟩:=u;exact⟨x,CC h Q,rfl⟩|seq a b z C=>intro F H r u;simp only[exec]at u⊢;split at u;(next F1 H1 d=>rw[z d];exact C u);rename_i D;rw[z u];split;(next G=>cases G;exact absurd u (D _ _));rfl|cond x a b z C=>intro F H r u;simp only[exec]at u⊢;split at u;rename_i t U;split at u;(next I=>subst I;simp only[if_true];exact z u);rename_i I;rw[if_neg I];exact C u;simp at u|block id a J=>intro F H r u;simp only[exec]at u⊢;split at u;(next S F1 H1 d=>rw[J d];exact u);rename_i D;rw[J u];split;(next G=>cases G;exact absurd u (D _ _ _));rfl|loop a J=>intro F H r u;simp only[exec]at u⊢;exact wZ (λF H r f=>J f) lf B O u|rangeFunc g ps W X _ _=>intro F H r u;simp only[exec]at u⊢;split at u;split at u;(next T H1 i=>rw[h.go _ _ _ _ i];exact u);simp at u;simp at u|exit id=>intro F H r u;exact u|ret=>intro F H r u;exact u|scope a _=>intro F H r u;simp[exec]at u|goto l=>intro F H r u;simp[exec]at u|refuse w=>intro F H r u;simp[exec]at u
def EW(E:Env):∀n,yu (run E n) (run E (n+1)):=by intro n;induction n with|zero=>exact⟨le_succ _,λx a H r h=>(by cases h)⟩|succ n u=>refine⟨le_succ _,λx a H r h=>?_⟩;rw[EB]at h⊢;cases x with|fn f=>rw[jo]at h⊢;split at h;rename_i U O;split at h;rename_i B;rw[if_pos B];split at h;simp at h;rename_i o F1 H1 C Q;rw[xD u (le_succ n) _ _ _ Q];(cases o with|exit id=>exact(C id rfl).elim|norm=>exact h|ret=>exact h);simp at h;simp at h;split at h;(next D=>rw[if_pos D];exact Br u.lv (λg args y _ S=>mE u S) h);rename_i D;rw[if_neg D];exact h|yld id=>rw[jo]at h⊢;split at h;rename_i b L;split at h;rename_i T;split at h;rename_i w;split at h;rename_i W H2 G;split at h;rename_i r2 I;split at h;rename_i z;split at h;(next o X Y J=>simp only[if_pos w,xD u (le_succ n) _ _ _ G,I,z,xD u (le_succ n) _ _ _ J];exact h);simp at h;simp at h;simp at h;simp at h;simp at h;simp at h;simp at h
def nL(E:Env){n m:Nat}(h:n<=m):yu (run E n) (run E m):=by induction h with|refl=>exact⟨le_refl _,λ_ _ _ _ h=>h⟩|step _ u=>exact⟨Nat.le_trans u.lv (EW E _).lv,λx a H r h=>(EW E _).go x a H r (u.go x a H r h)⟩
theorem mY(E:Env):∀n,(run E n).lv=n
 |0=>rfl|_+1=>rfl
end
def Kj(P:Program)(f:Zk):aY FI:=(P.funcs[f]?).bind λfn=>fn.body.map λb=>⟨fn.ntmps,fn.results.toList,b⟩
def zk(P:Program):Zl:=P.funcs.toList.all λfn=> !(fn.name== "runtime.NumGoroutine")
def Rp{P:Program}(h:zk P=true){f:Zk}{fi:FI}(B:Kj P f=some fi):∃fn,P.funcs[f]?=some fn/\fn.body=some fi.body/\fn.ntmps=fi.ntmps/\fn.results.toList=fi.results/\(fn.name== "runtime.NumGoroutine")=false:=by unfold Kj at B;have⟨fn,h1,w⟩:=ζg.1 B;obtain⟨b,z,rfl⟩:=ζf.1 w;refine⟨fn,h1,z,rfl,rfl,?_⟩;unfold zk at h;rw[List.all_eq_true]at h;have C:=h fn (by obtain⟨u,rfl⟩:=Array.getElem?_eq_some_iff.1 h1;exact Array.mem_toList_iff.2 (Array.getElem_mem u));simpa using C
def BU(P:Program)(shut keep own:Zv)(two:aX (Nat×Nat))(a:Zk->Zl)(known:Zk->Zu->aY V):Env where
 tt:=uO P
 ft f:=if shut.contains f then none else Kj P f
 keep:=keep.contains
 own:=own.contains
 eqN t:=lk two t
 sort:=a
 known:=known
def Ff{P:Program}{shut keep own:Zv}{two:aX (Nat×Nat)}{a:Zk->Zl}{known:Zk->Zu->aY V}(h:zk P=true)(B:∀p∈two,uA P p.1 p.2):dV P (BU P shut keep own two a known)where
 tt t d h:=h
 ft f w u:=by change(if shut.contains f then none else Kj P f)=some w at u;split at u;cases u;exact Rp h u
 eqN t n z:=B (t,n) (Ln z)
section
variable{P:Program}{I:b_}{μ:Mu}{H:bh}{w:World}{n:Nat}
variable{f A S e:Nat}{fn:Func}{bytes i1 i2 i3 i4 t1 t2 t6 t7:Nat}{p1 p2 p3 p4 p5 p6 p7:String}{e1 e2 e3 e4 e5 e6 e7:Array Edge}
end
end Go.VE
namespace Go.VE
variable[bL]
variable{P:Program}
def EV(a:Zx)(j:Nat):(ic a)[j]?=(a[j]?).map (Value.int .i64):=by simp[ic]
def Dt{i:Zm}{a b:Zx}{n:Nat}(J:a.length=n)(O:b.length=n)(D:uO P i=some ⟨1,8,[.int .i64 0],.int .i64⟩)(B:P.underlying i=some (.int .i64))(d:Nat)(w:World):
 ∀(m k:Nat),k+m=n->(eqItems (d+1) i 1 (ic a) (ic b) (range' k m)).run P w=.ok (a.drop k==b.drop k) w
 |0,k,h=>by have c:a.drop k=[]:=List.drop_eq_nil_of_le Za;have I:b.drop k=[]:=List.drop_eq_nil_of_le Za;simp[eqItems,c,I]|m+1,k,h=>by have u:k<a.length:=Za;have z:k<b.length:=Za;have pa:(part i (ic a) (k*1)).run P w=.ok (.int .i64 a[k]) w:=qy D (by rw[EV,mul_one];simp[u]);have L:(part i (ic b) (k*1)).run P w=.ok (.int .i64 b[k]) w:=qy D (by rw[EV,mul_one];simp[z]);have q:(equalIn (d+1) i (.int .i64 a[k]) (.int .i64 b[k])).run P w=.ok (a[k]==b[k]) w:=zZ d _ _ B;have Q:=Dt J O D B d w m (k+1) Za;have C:=List.drop_eq_getElem_cons u;have G:=List.drop_eq_getElem_cons z;simp only[List.range'_succ,eqItems,run_bind,pa,L,q,andThen_ok];by_cases e:a[k]=b[k];rw[C,G,List.cons_beq_cons,e];simp only[beq_self_eq_true,Bool.not_true,Bool.true_and,if_false,Bool.false_eq_true];exact Q;have:(a[k]==b[k])=false:=(by simpa using e);rw[C,G,List.cons_beq_cons,this];simp only[Bool.not_false,if_true,Bool.false_and,run_pure]
def GL{i:Zm}{a:Zx}{n:Nat}(e:Zl)(J:a.length=n)(D:uO P i=some ⟨1,8,[.int .i64 0],.int .i64⟩)(B:P.underlying i=some (.int .i64))(d:Nat)(w:World):
 ∀(m k:Nat),k+m=n->(forIn (range' k m) PUnit.unit (λj(_:PUnit)=>do
  let s<-sizeOf i
  let v<-part i (ic a) (j*s)
  checkKey e (d+1) i v
  pure (ForInStep.yield PUnit.unit)):Sem PUnit).run P w=.ok PUnit.unit w
 |0,k,h=>Zc|m+1,k,h=>by have G:k<a.length:=Za;have pa:(part i (ic a) (k*1)).run P w=.ok (.int .i64 a[k]) w:=qy D (by rw[EV,mul_one];simp[G]);have z:(sizeOf i).run P w=.ok 1 w:=(oP.Jz D).jI;have q:(checkKey e (d+1) i (.int .i64 a[k])).run P w=.ok () w:=xZ d e _ B;have u:=GL e J D B d w m (k+1) Za;simp only[List.range'_succ,List.forIn_cons,run_bind,z,pa,q,andThen_ok,run_pure]at u⊢;exact u
def uA.arr{t i:Zm}{n:Nat}(c:P.underlying t=some (.array n i))(O:uO P i=some ⟨1,8,[.int .i64 0],.int .i64⟩)(J:P.underlying i=some (.int .i64))(T:P.eqGuardType P.depth t=false):uA P t n:=by
 have⟨S,z,B,Q,_⟩:=(oP.Jz O).info;have C:P.cellsOf i=1:=by unfold Program.cellsOf;simp[B,Q]
 have D:∀(w:World)(a b:Zx),a.length=n->b.length=n->(equal t (.agg (ic a)) (.agg (ic b))).run P w=.ok (a==b) w:=by intro w a b G I;show(equalIn (9999+1) t _ _).run P w=_;rw[run_equalIn_array w 9999 _ _ c B,C,List.range_eq_range'];simpa using Dt G I O J 9998 w n 0 Za
 have L:∀(op:BinOp)(p q:Zr)(w:World)(u v:Array Zp),(eqGuard op t p q (.agg u) (.agg v)).run P w=.ok () w:=by intro op p q w u v;unfold eqGuard;cases op<;>simp[run_bind,run_program,andThen,T]
 refine⟨?_,?_,D,?_,⟨_,c,.inl ⟨_,_,rfl⟩⟩⟩;intro w p q a b G I;rw[run_bind,L,andThen_ok];show(do pure (Value.bool (<-equal t (.agg (ic a)) (.agg (ic b)))):Sem Zp).run P w=_;rw[run_bind,D _ _ _ G I];rfl;intro w p q a b G I;rw[run_bind,L,andThen_ok];show(do pure (Value.bool (!(<-equal t (.agg (ic a)) (.agg (ic b))))):Sem Zp).run P w=_;rw[run_bind,D _ _ _ G I];rfl;intro w e a G;show(checkKey e (9999+1) t _).run P w=_;unfold checkKey;simp only[run_bind,dw c,andThen_ok];have:=GL e G O J 9998 w n 0 Za;simp only[Std.Legacy.Range.forIn_eq_forIn_range',Std.Legacy.Range.size,Nat.sub_zero,Nat.add_one_sub_one,Nat.div_one];rw[show(9998+1:Nat)=9999 from rfl]at this;rw[this];rfl
end Go.VE
namespace Go.VE
variable[bL]
structure CR(E:Env)(c c':di):Prop where
 lv:c.lv<=c'.lv
 Mg:∀f args H y,E.keep f=false->bS c f args H=some y->bS c' f args H=some y
 dir:∀f args H r,E.keep f=true->c (.fn f) args H=some r->c' (.fn f) args H=some r
 yld:∀id args H r,c (.yld id) args H=some r->c' (.yld id) args H=some r
 rng:∀f args H r,H≠[]->c (.fn f) args H=some r->c' (.fn f) args H=some r
section
variable{E:Env}{c c':di}{n:Nat}{ops:Zz}{F F':Zo}{H H':bh}
def G3(h:CR E c c'){f:Zk}{args:Zu}{r:V×bh}(a:E.keep f=true)(B:kX c f args H=some r):kX c' f args H=some r:=BE h.lv (λ_ _ _=>h.dir _ _ _ _ a) B
def zW(h:CR E c c'){f:Zk}{args:Zu}{r:V×bh}(a:E.keep f=true)(B:gf E c f args H=some r):gf E c' f args H=some r:=by
 unfold gf at B⊢;split;next u=>rw[if_pos u]at B;exact G3 h a B
 rename_i u;rw[if_neg u]at B;exact h.dir _ _ _ _ a B
def zL{place:aY (Nat×Nat)}{f:Zk}(h:jX E ops place f=true):E.keep f=true:=by unfold jX at h;grind
def CR.any(h:CR E c c'){f:Zk}{args:Zu}{H:bh}{y:V}(B:bS c f args H=some y):bS c' f args H=some y:=by cases a:E.keep f with|false=>exact h.Mg _ _ _ _ a B|true=>exact BP h.lv (λ_ _ _=>h.dir _ _ _ _ a) B
def N_(h:CR E c c'){place:aY (Nat×Nat)}{op:Op}{r:V×bh}(B:cE E c ops place F H op=some r):cE E c' ops place F H op=some r:=by
 unfold cE at B⊢;split at B;omega;omega;omega;omega;split at B
 .rename_i f args D;split at B;rotate_left;cases B;rename_i C;rw[if_pos C];unfold dI at B⊢;split at B;rename_i a;rw[if_pos a];split at B;exact zW h (zL a) B;split at B;(next z=>rw[if_pos z];exact zW h (zL a) B);grind;rename_i a;rw[if_neg a];split at B;split at B;(next y u=>rw[h.any u,lI h.lv u];exact B);grind;rename_i b i;split at B;(next y u=>rw[h.any u,lI h.lv u];exact B);rename_i w;split at B;rename_i z;split at B;rename_i y u;(cases G:bS c' f args (List.take b H)with|some I=>exact(xx h.lv w u G).elim|none=>simp only[if_pos z,h.any u,lI h.lv u];exact B);grind;grind
 split at B;exact h.yld _ _ _ _ B;split at B;next z=>rw[if_pos z];exact h.yld _ _ _ _ B
 grind;grind
def De(h:CR E c c'){place:aY (Nat×Nat)}{o:Oper}{r:Zo×bh}(B:fT E c n ops place o F H=some r):fT E c' n ops place o F H=some r:=by
 unfold fT at B⊢;split at B;rename_i u;rw[if_pos u];split at B;next v H1 w=>rw[N_ h w];omega
 grind;grind
def B0(h:CR E c c'){r:Zo×bh}:∀(l:Zz){F:Zo}{H:bh},lu E c n ops l F H=some r->lu E c' n ops l F H=some r
 |[],_,_,B=>B|o::l,F,H,B=>by simp[lu]at B⊢;split at B;(next F1 H1 D=>rw[De h D];exact B0 h l B);grind
def Bq(h:CR E c c'){base:Nat}{r:Zo×bh}:∀(l:Zv){F:Zo}{H:bh},jm E c n ops base l F H=some r->jm E c' n ops base l F H=some r
 |[],_,_,B=>B|i::l,F,H,B=>by simp[jm]at B⊢;split at B;split at B;(next F1 H1 D=>rw[De h D];exact Bq h l B);grind;grind
def Ei(h:CR E c c'){B:Zl}{r:Zo×bh}(D:jb E c n ops B F H=some r):jb E c' n ops B F H=some r:=by
 unfold jb at D⊢;split;rename_i u;rw[if_pos u]at D;split at D;next w=>rw[if_pos w];exact Bq h _ D
 grind;rename_i u;rw[if_neg u]at D;exact B0 h _ D
def Ax(h:CR E c c'){lf B:Nat}(J:lf<=B)(ro:Zl)(d:Nat):∀(code:Code){F:Zo}{H:bh}{r:Out×Zo×bh},exec E c lf ro d code F H=some r->exec E c' B ro d code F H=some r:=by intro code;induction code with|skip=>intro F H r u;exact u|label l=>intro F H r u;exact u|region id ops D=>intro F H r u;simp only[exec,ζf]at u⊢;obtain⟨x,I,rfl⟩:=u;exact⟨x,Ei h I,rfl⟩|seq a b z C=>intro F H r u;simp[exec]at u⊢;grind|cond x a b z C=>intro F H r u;simp[exec]at u⊢;grind|block id a G=>intro F H r u;simp[exec]at u⊢;grind|loop a G=>intro F H r u;exact wZ (λF H r e=>G e) lf B J u|rangeFunc g ps O Q _ _=>intro F H r u;simp[exec]at u⊢;split at u;split at u;(next L H1 f=>rw[h.rng _ _ _ _ Zc f];omega);grind;grind|exit id=>intro F H r u;exact u|ret=>intro F H r u;exact u|scope a _=>intro F H r u;simp[exec]at u|goto l=>intro F H r u;simp[exec]at u|refuse w=>intro F H r u;simp[exec]at u
def xC(h:CR E c c'){n m:Nat}(D:n<=m){x:Callee}{a:Zu}{r:V×bh}(B:jo E c n x a H=some r):jo E c' m x a H=some r:=by cases x with|fn f=>rw[jo]at B⊢;split at B;split at B;rename_i I;split at B;simp_all;rename_i o F1 H1 J L;rw[Ax h D _ _ _ L];grind;grind;grind;split at B;(next O=>rw[if_pos O];exact Br h.lv (λg args y b Q=>h.Mg _ _ _ _ b Q) B);grind|yld id=>rw[jo]at B⊢;split at B;split at B;split at B;rename_i u;split at B;rename_i S H2 z;split at B;rename_i r2 C;split at B;rename_i w;split at B;(next o T U G=>simp only[if_pos u,Ax h D _ _ _ z,C,w,Ax h D _ _ _ G];omega);grind;grind;grind;grind;grind;grind;grind
mutual
def V.same:Nat->V->V->Zl
 |0,_,_=>false|_+1,.bool a,.bool b=>a==b|_+1,.int k a,.int l b=>decide (k=l)&&decide (a=b)|_+1,.str a,.str b=>decide (a.data.toList=b.data.toList)|_+1,.bD,.bD=>true|_+1,.c7,.c7=>true|_+1,.gL,.gL=>true|_+1,.f_,.f_=>true|_+1,.qK,.qK=>true|n+1,.agg a,.agg b=>V.qb n a b|n+1,.tup a,.tup b=>V.qb n a b|n+1,.fptr a,.fptr b=>V.qb n a b|n+1,.fsl e a,.fsl B b=>beq e B&&V.yN n a b|n+1,.clo f a b,.clo D a' G=>beq f D&&V.qb n a a'&&V.qb n b G|_+1,_,_=>false
def V.qb:Nat->Zu->Zu->Zl
 |0,_,_=>false|_+1,[],[]=>true|n+1,a::r,b::s=>V.same n a b&&V.qb n r s|_+1,_,_=>false
def V.yN:Nat->Zt->Zt->Zl
 |0,_,_=>false|_+1,[],[]=>true|n+1,a::r,b::s=>V.qb n a b&&V.yN n r s|_+1,_,_=>false
end
def QD:∀n,(∀a b,V.same n a b=true->a=b)/\(∀a b,V.qb n a b=true->a=b)/\(∀a b,V.yN n a b=true->a=b):=by
 intro n
 induction n with
 |zero=>exact⟨λa b h=>by simp[V.same]at h,λa b h=>by simp[V.qb]at h,λa b h=>by simp[V.yN]at h⟩|succ n u=>
  have⟨i1,i2,i3⟩:=u;refine⟨λa b h=>?_,λa b h=>?_,λa b h=>?_⟩
  .cases a<;>cases b<;>simp only[V.same,ζh,decide_eq_true_eq,Bool.false_eq_true]at h<;>first|rfl|grind|skip
   all_goals first
    |grind|grind|grind|(rw[Nat.eq_of_beq_eq_true h.1,i3 _ _ h.2])|(rw[Nat.eq_of_beq_eq_true h.1.1,i2 _ _ h.1.2,i2 _ _ h.2])|(congr 1;exact ByteArray.ext (ext' h))
  .cases a<;>cases b<;>simp[V.qb]at h<;>first|rfl|grind|grind
  cases a<;>cases b<;>simp[V.yN]at h<;>first|rfl|grind|grind
structure eP where
 f:FuncId
 az:List V
 y:V
def wT:aX eP->Zk->Zu->aY V
 |[],_,_=>none|k::r,f,az=>bif beq k.f f&&V.qb 1000 k.az az then some k.y else wT r f az
def Ag:∀{l:aX eP}{f:Zk}{az:Zu}{y:V},wT l f az=some y->∃k∈l,k.f=f/\k.az=az/\k.y=y
 |[],_,_,_,h=>by simp[wT]at h|k::r,f,az,y,h=>by unfold wT at h;cases B:beq k.f f&&V.qb 1000 k.az az with|true=>simp only[ζh]at B;exact⟨k,mem_cons_self ..,Nat.eq_of_beq_eq_true B.1,(QD 1000).2.1 _ _ B.2,Zd⟩|false=>rw[B]at h;have⟨q,a,D⟩:=Ag h;grind
def EC(E:Env)(l:aX eP)(c:di)(n:Nat):Callee->Zu->bh->aY (V×bh)
 |.fn f,az,[]=>match wT l f az with
  |some y=>some (y,[])|none=>jo E c n (.fn f) az []
 |x,az,H=>jo E c n x az H
def runM(E:Env)(l:aX eP):Nat->di
 |0=>⟨0,λ_ _ _=>none⟩|n+1=>⟨n+1,EC E l (runM E l n) n⟩
def Rk(E:Env)(l:aX eP):∀n,(runM E l n).lv=n
 |0=>rfl|_+1=>rfl
def KV{l:aX eP}{n:Nat}{x:Callee}{a:Zu}{H:bh}:runM E l (n+1) x a H=EC E l (runM E l n) n x a H:=rfl
def uu(E:Env)(n:Nat)(k:eP):Prop:=∃r H1,run E n (.fn k.f) k.az []=some (r,H1)/\borrow n H1 r=some k.y
structure fN(E:Env)(k:eP):Prop where
 keep:E.keep k.f=false
 cl:k.y.closed=true
 at_:∃n,uu E n k
def uu.le{n m:Nat}{k:eP}(h:uu E n k)(B:n<=m):uu E m k:=by have⟨r,H1,a,u⟩:=h;exact⟨r,H1,(nL E B).go _ _ _ _ a,qJ B u⟩
def xW:∀{l:aX eP},(∀k∈l,fN E k)->∃N,∀k∈l,uu E N k
 |[],_=>⟨0,Zc⟩|k::r,h=>by have⟨N,B⟩:=xW (λq a=>h q (mem_cons_of_mem _ a));have⟨n,u⟩:=(h k (mem_cons_self ..)).at_;refine⟨max N n,λq a=>?_⟩;rcases mem_cons.1 a with rfl|a;exact u.le (Nat.le_max_right ..);exact(B q a).le (Nat.le_max_left ..)
def yQ{l:aX eP}{x:Callee}{az:Zu}(h:H≠[]\/(∃id,x=.yld id)\/∃f,x=.fn f/\wT l f az=none):runM E l (n+1) x az H=jo E (runM E l n) n x az H:=by
 rcases h with h|⟨id,rfl⟩|⟨f,rfl,h⟩;cases x with|yld id=>rfl|fn f=>cases H with|nil=>exact absurd rfl h|cons a r=>rfl
 rfl;cases H with|nil=>rw[KV,EC,h]|cons a r=>rfl
def Ib{l:aX eP}{N:Nat}(D:∀k∈l,fN E k)(G:∀k∈l,uu E N k):∀n,CR E (runM E l n) (run E (N+n)):=by intro n;induction n with|zero=>refine⟨Nat.zero_le _,λf args H y _ h=>?_,λf args H r _ h=>(by cases h),λid args H r h=>(by cases h),λf args H r _ h=>(by cases h)⟩;unfold bS at h;split at h;cases h;cases h|succ n I=>have up:∀{x:Callee}{az:Zu}{H:bh}{r:V×bh},jo E (runM E l n) n x az H=some r->run E (N+(n+1)) x az H=some r:=λh=>(by rw[show N+(n+1)=(N+n)+1 from rfl,EB];exact xC I (le_add_left ..) h);have w:(runM E l (n+1)).lv<=(run E (N+(n+1))).lv:=(by rw[Rk,mY];exact le_add_left ..);refine⟨w,λf args H y b h=>?_,λf args H r b h=>?_,λid args H r h=>?_,λf args H r B h=>?_⟩;unfold bS at h⊢;split at h;rename_i az c;rw[rm w c];split at h;rename_i r H1 a;(cases z:wT l f az with|none=>rw[yQ (.inr (.inr ⟨f,rfl,z⟩))]at a;simp only;rw[up a];split at h;(next Q J=>simp only;rw[qJ w J];exact h);cases h|some S=>rw[KV,EC,z]at a;obtain⟨rfl,rfl⟩:=a;obtain⟨k,u,rfl,rfl,rfl⟩:=Ag z;have ok:=D k u;have⟨r1,H2,d,L⟩:=(G k u).le (Nat.le_add_right N (n+1));rw[iP _ _ ok.cl]at h;simp only[d,mY,L];exact h);cases h;cases h;by_cases z:H≠[]\/(∃id,(Callee.fn f)=.yld id)\/∃C,Callee.fn f=.fn C/\wT l C args=none;rw[yQ z]at h;exact up h;(cases O:wT l f args with|none=>grind|some y=>obtain⟨k,u,rfl,_,_⟩:=Ag O;rw[(D k u).keep]at b;cases b);exact up h;rw[yQ (.inl B)]at h;exact up h
def Su(E:Env)(l:aX eP)(n:Nat)(k:eP):aY V:=
 match jo E (runM E l n) n (.fn k.f) k.az []with
 |some (r,H1)=>borrow n H1 r|none=>none
def gH{l:aX eP}(B:∀k∈l,fN E k){k:eP}(h:(Su E l n k,k.y.closed,E.keep k.f)=(some k.y,true,false)):fN E k:=by simp at h;have⟨N,u⟩:=xW B;refine⟨h.2.2,h.2.1,N+n+1,?_⟩;have a:=h.1;unfold Su at a;split at a;rename_i r H1 w;refine⟨r,H1,?_,qJ Za a⟩;exact xC (Ib B u n) (le_add_left ..) w;grind
def PD(E:Env)(l:aX eP)(n:Nat)(f:Zk)(az:Zu):Zl:=
 match jo E (runM E l n) n (.fn f) az []with
 |some (.bool b,_)=>b|_=>false
def Ji{l:aX eP}(B:∀k∈l,fN E k){f:Zk}{az:Zu}(h:PD E l n f az=true):∃n H1,run E n (.fn f) az []=some (.bool true,H1):=by
 have⟨N,u⟩:=xW B;unfold PD at h;split at h;next b H1 w=>subst h;exact⟨N+n+1,H1,(xC (Ib B u n) (le_add_left ..) w)⟩
 simp_all
end
end Go.VE
