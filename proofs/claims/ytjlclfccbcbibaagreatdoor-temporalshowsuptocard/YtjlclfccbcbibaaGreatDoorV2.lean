/- Engine, runs. -/
import Derived.Shelf.SlSortCmp.NoneTotal
import Derived.RangeFuncLeaves
import Derived.Laws.StructEq
import Derived.ChangeKeysEq
import Derived.Test.YtjlclfccbcbibaaGreatDoorV1
set_option linter.all false
open List(finRange getElem?_take mem_cons mem_cons_of_mem mem_cons_self mem_map range')
open Nat(beq le_add_left le_refl le_succ mul_one)
open Array(ext' replicate)
open Option(map_some)
open Go.Sem(run_bind run_pure)
open Go.Result(andThen andThen_ok)
open Go.Instr(checkKey)
open Go.Op(bytesLess eqItems equal equalIn)
open BitVec(ofInt)
namespace Go.VE
variable[bT]
theorem uW{f g:V->aY V}(h:∀x y,f x=some y->g x=some y):∀{l:S'}{r:S'},iU f l=some r->iU g l=some r
 |[],_,hr=>hr|x::l,r,hr=>by simp only[iU]at hr⊢;split at hr;(next y s a B=>rw[h _ _ a,uW h B];exact hr);cases hr
def Ks{f g:V->aY V}(h:∀x y,f x=some y->g x=some y):∀{l:T2}{r:T2},mF f l=some r->mF g l=some r
 |[],_,hr=>hr|x::l,r,hr=>by simp only[mF]at hr⊢;split at hr;(next y s a B=>rw[uW h a,Ks h B];exact hr);cases hr
def Kw{f g:V->aY V}(h:∀x y,f x=some y->g x=some y):∀{l:aX (V×V)}{r:aX (V×V)},mw f l=some r->mw g l=some r
 |[],_,hr=>hr|(k,x)::l,r,hr=>by simp only[mw]at hr⊢;split at hr;(next y s u a B D=>rw[h _ _ a,h _ _ B,Kw h D];exact hr);cases hr
theorem Ld{H:bk}:∀(n:Nat)(x y:V),borrow n H x=some y->borrow (n+1) H x=some y:=by intro n;induction n with|zero=>grind[borrow,jK]|succ n u=>intro x y h;unfold borrow at h⊢;split;grind;rename_i d;rw[if_neg d]at h;cases x with|hsl id es off len=>simp only at h⊢;split at h;split at h;(next q=>rw[if_pos q];have⟨r,c,w⟩:=ζf.1 h;rw[Ks u c];grind);cases h;cases h|hptr id el off=>simp only at h⊢;split at h;split at h;split at h;(next q=>rw[if_pos q];have⟨r,c,w⟩:=ζf.1 h;rw[uW u c];grind);cases h;cases h;cases h|hmap id=>simp only at h⊢;split at h;have⟨r,c,w⟩:=ζf.1 h;rw[Kw u c];grind;cases h|clo f a b=>grind[uW]|agg cs=>simp only at h⊢;have⟨r,c,w⟩:=ζf.1 h;rw[uW u c];grind|tup cs=>simp only at h⊢;have⟨r,c,w⟩:=ζf.1 h;rw[uW u c];grind|_=>cases h
def tB{H:bk}{n m:Nat}(h:n<=m){x y:V}(B:borrow n H x=some y):borrow m H x=some y:=by induction h with|refl=>exact B|step _ u=>grind[Ld]
def tX{H:bk}{n m:Nat}(h:n<=m){l r:S'}(B:borrows n H l=some r):borrows m H l=some r:=uW (λ_ _=>tB h) B
def C9{f g:V->So}:∀{l:S'},(∀x∈l,f x=g x)->dh f l=dh g l
 |[],_=>rfl|x::l,h=>by simp only[dh];rw[h x (mem_cons_self ..),C9 λy B=>h y (mem_cons_of_mem _ B)]
theorem s9{f:V->aY V}:∀{l r:S'},iU f l=some r->∀x∈l,∃y,f x=some y
 |[],_,_,x,b=>by cases b|a::l,r,h,x,b=>by simp only[iU]at h;split at h;rename_i y s c B;rcases mem_cons.1 b with rfl|b;grind;exact s9 B x b;cases h
theorem Hz{f:V->aY V}:∀{l r:T2},mF f l=some r->∀c∈l,∀x∈c,∃y,f x=some y
 |[],_,_,x,B=>by cases B|a::l,r,h,c,b=>by simp only[mF]at h;split at h;rename_i y s d D;rcases mem_cons.1 b with rfl|b;exact s9 d;exact Hz D c b;cases h
theorem BJ{f:V->aY V}:∀{l r:aX (V×V)},mw f l=some r->∀c∈l,(∃y,f c.1=some y)/\∃y,f c.2=some y
 |[],_,_,x,B=>by cases B|(k,a)::l,r,h,c,b=>by simp only[mw]at h;split at h;rename_i y s u d G D;rcases mem_cons.1 b with rfl|b;grind;exact BJ D c b;cases h
def M_{H:bk}:∀(n:Nat)(x y:V),borrow n H x=some y->ct (n+1) H x=ct n H x:=by
 intro n
 induction n with
 |zero=>simp_all[borrow,ct]|succ n B=>
  intro x y h;have u:∀l:S',(∀x∈l,∃y,borrow n H x=some y)->dh (ct (n+1) H) l=dh (ct n H) l:=λl C=>C9 λx z=>by grind
  unfold borrow at h;rw[ct.eq_def (n+1+1),ct.eq_def (n+1)];simp only;split;rfl;rename_i d;rw[if_neg d]at h
  cases x with
  |hsl id es off len=>grind[ζf,List.mem_flatten,Hz]|hptr id el off=>grind[ζf,s9]|hmap id=>
   simp only at h⊢;split at h;rename_i w e;have⟨r,g,D⟩:=ζf.1 h;skip;rw[u (w.map (·.1)) λx z=>by obtain⟨c,d,rfl⟩:=mem_map.1 z;grind[BJ],
    u (w.map (·.2)) λx z=>by obtain⟨c,d,rfl⟩:=mem_map.1 z;grind[BJ]]
   cases h
  |clo f a b=>grind[s9]|agg cs=>grind[ζf,s9]|tup cs=>grind[ζf,s9]|_=>rfl
theorem Tr{H:bk}{n m:Nat}(h:n<=m){x y:V}(B:borrow n H x=some y):ct m H x=ct n H x:=by induction h with|refl=>rfl|step h u=>rw[M_ _ _ _ (tB h B),u]
def Ac{H:bk}{n m:Nat}(h:n<=m){l r:S'}(B:borrows n H l=some r):dh (ct m H) l=dh (ct n H) l:=C9 λx u=>by have⟨y,w⟩:=s9 B x u;grind[Tr]
def pe{f g h:V->aY V}(k:∀x y z,f x=some y->g x=some z->h x=some z):∀{l r s:S'},iU f l=some r->iU g l=some s->iU h l=some s
 |[],_,_,_,B=>B|x::l,r,s,hr,B=>by simp only[iU]at hr B⊢;split at hr;rename_i a D;split at B;(next G J=>rw[k _ _ _ a G,pe k D J];exact B);cases B;cases hr
def EJ{f g h:V->aY V}(k:∀x y z,f x=some y->g x=some z->h x=some z):∀{l r s:T2},mF f l=some r->mF g l=some s->mF h l=some s
 |[],_,_,_,B=>B|x::l,r,s,hr,B=>by simp only[mF]at hr B⊢;split at hr;rename_i a D;split at B;(next G J=>rw[pe k a G,EJ k D J];exact B);cases B;cases hr
def En{f g h:V->aY V}(k:∀x y z,f x=some y->g x=some z->h x=some z):∀{l r s:aX (V×V)},mw f l=some r->mw g l=some s->mw h l=some s
 |[],_,_,_,B=>B|(a,x)::l,r,s,hr,B=>by simp only[mw]at hr B⊢;split at hr;rename_i b D G;split at B;(next J T U=>rw[k _ _ _ b J,k _ _ _ D T,En k G U];exact B);cases B;cases hr
def Ly{H H2:bk}:∀(n m:Nat)(x y z:V),borrow n H x=some y->borrow m H2 x=some z->(∀id:Nat,(H2[id]?).isSome=true->H2[id]?=H[id]?)->borrow n H2 x=some z:=by intro n;induction n with|zero=>grind[borrow,jK]|succ n G=>intro m x y z h k w;by_cases e:x.closed=true;rw[jK _ _ e]at k⊢;exact k;cases m with|zero=>grind[borrow]|succ m=>have u:∀x y z,borrow n H x=some y->borrow m H2 x=some z->borrow n H2 x=some z:=λx y z a b=>G m x y z a b w;unfold borrow at h k⊢;rw[if_neg e]at h k⊢;have row:∀id q,(H2[id]?).bind Ob.rows=some q->(H[id]?).bind Ob.rows=some q:=λid q B=>(by rw[<-w id (by cases C:H2[id]?with|none=>rw[C]at B;cases B|some _=>rfl)];exact B);cases x with|hsl id es off len=>simp only at h k⊢;split at k;rename_i d;rw[row _ _ d]at h;simp only at h;split at k;(next q=>rw[if_pos q]at h⊢;have⟨r,c,_⟩:=ζf.1 h;have⟨s,k1,k2⟩:=ζf.1 k;rw[EJ u c k1];grind);cases k;cases k|hptr id el off=>simp only at h k⊢;split at k;rename_i d;rw[row _ _ d]at h;simp only at h;split at k;rename_i D;rw[D]at h;simp only at h;split at k;(next q=>rw[if_pos q]at h⊢;have⟨r,c,_⟩:=ζf.1 h;have⟨s,k1,k2⟩:=ζf.1 k;rw[pe u c k1];grind);cases k;cases k;cases k|hmap id=>simp only at h k⊢;split at k;rename_i d;rw[<-w id (by rw[d];rfl),d]at h;simp only at h;have⟨r,c,_⟩:=ζf.1 h;have⟨s,k1,k2⟩:=ζf.1 k;rw[En u c k1];grind;cases k|clo f a b=>simp only at h k⊢;split at h;rename_i c C;split at k;(next k1 k2=>rw[pe u c k1,pe u C k2];exact k);cases k;cases h|agg cs=>simp only at h k⊢;have⟨r,c,_⟩:=ζf.1 h;have⟨s,k1,k2⟩:=ζf.1 k;rw[pe u c k1];grind|tup cs=>simp only at h k⊢;have⟨r,c,_⟩:=ζf.1 h;have⟨s,k1,k2⟩:=ζf.1 k;rw[pe u c k1];grind|_=>cases h
end Go.VE
namespace Go.VE
variable[bT]
open Go.Proofs Go.Sort
structure Cg(P:Program)(f:FuncId):Prop where
 ok:Ay P f
 zero:∀(p:Option Addr)(cap:Nat)(fv:Value)(w:World),Calls P f #[.slice p 0 cap,fv] w λe w'=>e=.returned (.tuple #[])/\w'=w
 all:∀{α:Type}[Inhabited α](enc:α->Value)(_:OneCell enc)(cf:α->α->Int)(_:SWO (ltOf cf))(g:Nat)(cb:Array Value)(blk off cap:Nat)(d:Array α)(w:World)
  (_:∀args w,(callFunc g args).run P w=.ok (.enter g args) w)(_:CmpLays1 P g cb enc cf blk off d.size w)(_:Holds enc w blk off d)(_:blk<w.heap.size)(_:d.size<4611686018427387904),
  Calls P f #[.slice (some ⟨blk,off,none⟩) d.size cap,.func (.func g) #[] cb] w λe w'=>e=.returned (.tuple #[])/\∃n os,w'=sortWorld enc w blk off n (pdq (ltOf cf) d 0 d.size (Lib.bitLen d.size) true true) os
def Mb{α:Type}[Inhabited α](lt:α->α->X'):∀(k i:Nat)(d:Array α),IM lt k i d=insOuter lt 0 (i+k) i d
 |0,i,d=>by rw[insOuter];simp[IM]|k+1,i,d=>by rw[insOuter,IM,Mb lt k];grind
def Dz(n:Nat)(lt:Fin (n+1)->Fin (n+1)->X'):rN n lt=pdq lt (finRange (n+1)).toArray 0 (n+1) (Lib.bitLen (n+1)) true true:=by unfold rN;split;rw[pdq,if_pos Zaa,insertionSort,Mb,Nat.add_comm 1 n];rfl
def rq{n:Nat}{t:Fin (n+1)->Fin (n+1)->Pi}(h:B8 t=true):(∀i j,∃c,t i j=some c)/\SWO (qj t):=by have u:∀(p:Fin (n+1)->X'),(finRange (n+1)).all p=true->∀i,p i=true:=λp h i=>List.all_eq_true.1 h i (List.mem_finRange i);have d:=λi=>u _ h i;simp only[ζh,Bool.not_eq_true']at d;have w:=λi j=>u _ (d i).2 j;simp only[ζh]at w;have z:=λi j k=>u _ (w i j).2 k;refine⟨λi j=>Option.isSome_iff_exists.1 (w i j).1,λi=>(d i).1,λi j k a b=>?_,λi j k a b=>?_⟩;have:=z i j k;grind;grind
section
variable{P:Program}{I I':cG}{μ μ':Mu}{H H':bk}{w w':World}
def G6(w:World)(os:Array Obj)(b:Nat)(h:b<w.heap.size):(grow w os).heap[b]?=w.heap[b]?:=by unfold grow;grind
theorem Calls.fr{f:Y'}{args:Array WP}{R:Ending->World->Prop}(h:Calls P f args w R):CallsIn (fr none) 0 P f args w R:=callsIn_wide.2 h
def CallsIn.un{f:Y'}{args:Array WP}{R:Ending->World->Prop}(h:CallsIn (fr none) 0 P f args w R):Calls P f args w R:=callsIn_wide.1 h
def Rm{p:Pl}{c:Array WP}{xs:T2}(B:p.es=1)(D:c.size=p.sz)(g:p.o+xs.length<=c.size)
 (h:∀(i:Nat)x,xs[i]?=some x->∃v u,x=[v]/\V.one v=true/\c[p.o+i]?=some u/\bH I μ v u):gM I μ p c 1 xs:=by
 have d:∀x∈xs,x.length=1:=λx w=>by have⟨i,hi⟩:=List.getElem?_of_mem w;grind
 have C:xs.flatten.length=xs.length:=by rw[f_ d,mul_one]
 refine⟨B,D,d,λx w y G=>?_,Zaa,⟨?_,λj a b f J=>?_⟩⟩
 .have⟨i,hi⟩:=List.getElem?_of_mem w
  grind
 .grind
 have z:j<xs.length:=by have:=(ζe.1 f).1;omega
 have⟨v,u,e,_,L,O⟩:=h j xs[j] (by simp[z])
 have:=xF d (i:=j) (j:=0) (x:=xs[j]) (by simp[z]) (by rw[e];rfl)
 simp_all
def xD{p:Pl}{c:Array WP}{xs:T2}(r:gM I μ p c 1 xs)(i:Nat){x:S'}(h:xs[i]?=some x):∃v u,x=[v]/\V.one v=true/\c[p.o+i]?=some u/\bH I μ v u:=by
 have w:=List.mem_of_getElem? h;obtain⟨v,rfl⟩:=List.length_eq_one_iff.1 (r.qq x w);have hi:=(ζe.1 h).1;have z:=by have:=r.room;omega
 refine⟨v,c[p.o+i],rfl,r.one _ w v Zab,Zad,?_⟩;exact r.idx (j:=0) h rfl Zad
def Vo{α:Type}[Inhabited α](enc:α->WP)(a o m:Nat)(B:Array α)(os:Array Obj){b:Nat}(G:b<w.heap.size)(D:b≠a):(sortWorld enc w a o m B os).heap[b]?=w.heap[b]?:=by unfold sortWorld;rw[G6 _ _ _ Zad];simp[putRow,mapBlock,Sort.ahead,Array.getElem?_modify,if_neg (Ne.symm D)]
def KZ{α:Type}[Inhabited α](enc:α->WP){a:Nat}(o m:Nat)(B:Array α){c:Array WP}{el:W'}(h:w.heap[a]?=some (.cells c el)):
 putRow enc (Sort.ahead w m) a o B=gN (Sort.ahead w m) a (.cells (Sort.putCells enc o B c) el):=by
 unfold putRow mapBlock gN Sort.ahead
 congr 1
 have⟨u,e⟩:=Array.getElem?_eq_some_iff.1 h;apply Array.ext
 .simp
 intro i b z
 by_cases hi:i=a
 .subst hi;simp[Array.getElem_modify,e,onCells]
 grind
def Step.grown(st:Step I (λ_=>none) [] w I' μ' H' w'):∃q os,w'=grow (w.drewN q) os:=by
 refine⟨w'.drawn-w.drawn,w'.heap.extract w.heap.size w'.heap.size,?_⟩;have u:w'.heap=w.heap++w'.heap.extract w.heap.size w'.heap.size:=by apply Array.ext_getElem?;intro i;by_cases hi:i<w.heap.size;rw[Array.getElem?_append_left hi];exact st.frame i hi (by rintro⟨id,p,ob,h,_⟩;simp at h);rw[Array.getElem?_append_right Zaa];simp[Array.getElem?_extract];by_cases C:i<w'.heap.size;rw[if_pos Zaa];congr 1;omega;rw[if_neg Zaa,Array.getElem?_eq_none Zaa]
 have a:=st.os;have z:=st.out.out;have B:=st.out.tape;have D:=st.out.dr;unfold grow World.drewN;cases w';simp only at *;subst a z B;simp[World.mk.injEq];exact⟨u,Zaa⟩
def MJ{call B:dP}{g:Y'}{G D:S'}{n:Nat}(h:∀args y,b8 call g args []=some y->b8 B g args []=some y){i j:Fin (n+1)}{z:Int}(J:jv call g G D n i j=some z):jv B g G D n i j=some z:=by unfold jv at J⊢;grind
def Fk{keep:Y'->X'}{call B:dP}(G:call.lv<=B.lv)(h:∀g args y,keep g=false->b8 call g args []=some y->b8 B g args []=some y){args:S'}{r:V×bk}(b:rH keep call args H=some r):rH keep B args H=some r:=by
 unfold rH at b⊢;split at b;split at b;omega;omega;split at b;omega;split at b;rename_i n g cb _ O S I;split at b;rename_i u;split at b;rename_i J w D C;rw[tX G D,tX G C];split at b;rename_i Q;have e:jv B g J w n=jv call g J w n:=by funext i j;have⟨z,L⟩:=(rq Q).1 i j;rw[L];exact MJ (λa y=>h g a y u.2.2.2.2) L
 grind;simp_all;simp_all;simp_all;simp_all;simp_all;simp_all;simp_all
set_option maxHeartbeats 1000000 in
def VF{call:dP}(hc:lK P call){f:Y'}(hs:Cg P f){args:S'}{r:V}{keep:Y'->X'}(h:rH keep call args H=some (r,H'))(s:dw I μ H w){vs:aX WP}(hv:cR I μ args vs):
 CallsIn (fr none) 0 P f vs.toArray w (zf I μ H w r H'):=by
 unfold rH at h;split at h
 .rename_i sv cv;obtain⟨v1,r1,rfl,M,aD⟩:=hv.cons_inv;obtain⟨v2,r2,rfl,aE,aF⟩:=aD.cons_inv;obtain rfl:=aF.xo;have U:∀p l,v1=.slice p 0 l->CallsIn (fr none) 0 P f [v1,v2].toArray w (zf I μ H w .undef H):=by
   rintro p l rfl;refine Calls.fr ((hs.zero p l v2 w).mono ?_);rintro e w' ⟨rfl,rfl⟩;exact⟨_,I,μ,rfl,bH.undef _ _,s,Step.refl _ _ _ _⟩
  split at h
  .cases h;exact U none 0 M.mQ
  .cases h;have⟨a,e⟩:=M.tK;exact U a 0 e
  .rename_i id es off len;split at h
   .cases h;rcases M.mL with⟨p,l,_,_,_,_,e⟩|⟨_,a,e⟩
    .exact U _ l e
    exact U _ 0 e
   .rename_i n g cb;split at h
    .rename_i aT Q L;split at h
     .rename_i al;obtain⟨rfl,rfl,aR,hn,_⟩:=al;split at h
      .rename_i Z D aG aq;split at h
       .rename_i ar;cases h;have⟨p,c,el,hp,hI,J,S⟩:=s.obs id _ L;rcases M.mL with⟨q,l,hq,aU,aS,aH,rfl⟩|⟨h0,_⟩
        .rw[hp]at hq;cases hq;obtain⟨va,F,rfl,R,au⟩:=aE.kS;have av:va=#[]:=by have:=R.xo;simpa using this
         subst av;have am:=(ζe.1 L).1;have⟨t,_⟩:=s.kill L;generalize hT:dh (ct call.lv (H.set id .dead)) (((Q.drop off).take (n+1)).flatten++cb)=T;have aI:plus I μ (H.set id .dead) w T p.b=none:=by cases B:plus I μ (H.set id .dead) w T p.b with|none=>rfl|some x=>exfalso;rcases Ap (by rw[B];rfl)with h|⟨aw,p',ob,_,g1,g2,g3,g4⟩;rw[hI]at h;cases h;have ax:aw≠id:=(by rintro rfl;rw[List.getElem?_set_self am]at g1;cases g1;simp[Ob.live]at g2);rw[List.getElem?_set_ne (Ne.symm ax)]at g1;exact ax (s.inj aw id ob (.row 1 Q) p' p g1 L g2 rfl g3 hp g4)
         let enc:Fin (n+1)->WP:=λi=>(c[p.o+off*1+i.1]?).getD undef
         have K:∀i:Fin (n+1),∃v,Q[off+i.1]?=some [v]/\V.one v=true/\bH I μ v (enc i)/\c[p.o+off*1+i.1]?=some (enc i):=λi=>by have⟨v,u,e1,e2,e3,e4⟩:=xD S (off+i.1) (x:=Q[off+i.1]' Zaa) Zab;have e5:c[p.o+off*1+i.1]?=some u:=(by rw[<-e3];congr 1;omega);have e6:enc i=u:=(by show(c[p.o+off*1+i.1]?).getD undef=u;rw[e5];rfl);exact⟨v,by rw[<-e1];simp,e2,by rw[e6];exact e4,by rw[e5,e6]⟩
         have h1:OneCell enc:=λi=>by have⟨v,_,e2,e3,_⟩:=K i;exact e3.one e2
         have⟨ay,ae⟩:=rq ar;have⟨aV,aJ⟩:=jr aG;have⟨aK,aL⟩:=jr aq;have aA:∀x∈(Q.drop off).take (n+1),x.length=1:=λx B=>S.qq x (List.mem_of_mem_drop (List.mem_of_mem_take B))
         have W:∀(i:Fin (n+1))u,Z[i.1]?=some u->eF (plus I μ (H.set id .dead) w T) u (enc i):=λi u hu=>by have⟨x,B,an⟩:=aJ i.1 u hu;have⟨v,e1,_,e3,_⟩:=K i;have e4:((Q.drop off).take (n+1))[i.1]?=some [v]:=(by rw[getElem?_take,if_pos i.2,List.getElem?_drop];exact e1);have e5:=xF (es:=1) aA (i:=i.1) (j:=0) e4 rfl;have e5:((Q.drop off).take (n+1)).flatten[i.1]?=some v:=(by simpa using e5);rw[e5]at B;cases B;refine(wm t T call.lv _ u _ an (λk A=>?_) e3).1;rw[<-hT];exact kU (List.mem_append_left _ (List.mem_of_getElem? e5)) A
         have ab:cR (plus I μ (H.set id .dead) w T) (λ_=>none) D F.toList:=by refine⟨aK.trans au.1,λj a b k1 k2=>?_⟩;have⟨x,B,an⟩:=aL j a k1;refine .c _ _ (wm t T call.lv x a b an (λk A=>?_) (au.2 j x b B k2)).1;rw[<-hT];exact kU (List.mem_append_right _ (List.mem_of_getElem? B)) A
         have af:=(Array.getElem?_eq_some_iff.1 J).1
         let d:Array (Fin (n+1)):=(finRange (n+1)).toArray
         have ao:d.size=n+1:=by simp[d]
         have hd:∀j:Fin (n+1),d[j.1]! =j:=λj=>by simp[d,getElem!_pos]
         have hg:∀i j:Fin (n+1),∃z,jv call g Z D n i j=some z/\∃a b,Z[i.1]?=some a/\Z[j.1]?=some b/\b8 call g (a::b::D) []=some (.int .i64 z):=λi j=>by have⟨z,N⟩:=ay i j;have X:=N;unfold jv at X;split at X;rename_i a b E Y;split at X;(next z' C=>cases X;exact⟨z,N,a,b,E,Y,C⟩);cases X;cases X
         have aM:Ay P g:=by have⟨z,_,a,b,E,Y,C⟩:=hg 0 0;have s0:dw (plus I μ (H.set id .dead) w T) (λ_=>none) [] w:=⟨λ_ _=>rfl,uV t T,Zab,Zab,t.gl.mono (p8 _ _ _ _ _)⟩;exact(Ew hc C s0 (.cons (.c _ _ (W 0 a E)) (.cons (.c _ _ (W 0 b Y)) ab))).1
         have key:=hs.all enc h1 (λi j=>(jv call g Z D n i j).getD 0) ae g F p.b (p.o+off*1) l d w (λargs w=>yR aM args) (by
          intro m os G aW i j;have⟨z,N,a,b,E,Y,C⟩:=hg i j;have s0:dw (plus I μ (H.set id .dead) w T) (λ_=>none) [] (sortWorld enc w p.b (p.o+off*1) m G os):=⟨λ_ _=>rfl,λb x Y=>IC.tH (uV t T b x Y) (Vo enc p.b _ m G os (IC.wV (uV t T b x Y)) (by rintro rfl;rw[aI]at Y;cases Y)),Zab,Zab,t.gl.mono (p8 _ _ _ _ _)⟩
          have:=CallsIn.un (Ew hc C s0 (vs:=enc i::enc j::F.toList) (.cons (.c _ _ (W i a E)) (.cons (.c _ _ (W j b Y)) ab))).2;rw[show(enc i::enc j::F.toList).toArray=#[enc i,enc j]++F by apply ext';simp]at this
          refine this.mono ?_;rintro e w' ⟨u,I1,μ1,rfl,hu,s1,st⟩;exact⟨by rw[hu.fM];show _=Ending.returned (.int .i64 ((jv call g Z D n i j).getD 0));rw[N];rfl,st.grown⟩) (by
          intro j hj;have aB:j<n+1:=Zaa
          have⟨v,_,_,_,e4⟩:=K ⟨j,aB⟩;rw[hd ⟨j,aB⟩];exact⟨by rw[xx J];exact e4,by simp[World.frozen?,J]⟩) af Zaa
         rw[ao]at key;refine Calls.fr (key.mono ?_);rintro e w' ⟨rfl,m,os,rfl⟩;have aN:ltOf (λi j=>(jv call g Z D n i j).getD 0)=qj (jv call g Z D n):=rfl
         rw[aN,Dz];have ah:=pdq_sorts (qj (jv call g Z D n)) ae d 0 d.size (Lib.bitLen d.size) true true (Nat.zero_le _) (le_refl _) (Or.inl rfl);rw[ao]at ah;have O:=ah.1.1;change zf I μ H w .undef (H.set id (.row 1 (sN Q off n (pdq (qj (jv call g Z D n)) d 0 (n+1) (Lib.bitLen (n+1)) true true).toList))) _ _;generalize pdq (qj (jv call g Z D n)) d 0 (n+1) (Lib.bitLen (n+1)) true true=G at O;rw[ao]at O;unfold sortWorld;rw[KZ enc _ m G J];have s1:dw I μ H (Sort.ahead w m):=s.pV rfl;have aO:Step I μ H w I μ H (Sort.ahead w m):=Step.pV rfl rfl ⟨rfl,rfl,Nat.le_add_right _ _⟩;have ai:(Sort.putCells enc (p.o+off*1) G c).size=c.size:=by simp[Sort.putCells]
         have aj:∀i:Nat,(i<p.o+off*1\/p.o+off*1+(n+1)<=i)->(Sort.putCells enc (p.o+off*1) G c)[i]?=c[i]?:=λi hi=>by simp only[Sort.putCells,Array.getElem?_mapIdx];rw[O];cases c[i]?with|none=>rfl|some y=>simp only[map_some];rw[if_neg Zaa]
         have ap:∀i:Fin (n+1),(Sort.putCells enc (p.o+off*1) G c)[p.o+off*1+i.1]?=some (enc G[i.1]!):=λi=>by have⟨v,_,_,_,e4⟩:=K i;simp only[Sort.putCells,Array.getElem?_mapIdx,e4,map_some];rw[if_pos ⟨Zaa,by rw[O];omega⟩];congr 3;omega
         have aC:=S.room;have aP:(sN Q off n G.toList).length=Q.length:=by simp[sN,O];omega
         have⟨s2,st2⟩:=s1.write (o:=.cells (Sort.putCells enc (p.o+off*1) G c) el) (ob':=.row 1 (sN Q off n G.toList)) L rfl hp
          ⟨p,_,el,hp,hI,jF _ af,Rm S.es_eq (by rw[ai];exact S.sz) (by rw[aP,ai];omega) λi x B=>by
           unfold sN at B
           by_cases c1:i<off
           .rw[List.append_assoc,List.getElem?_append_left (by simp;omega),getElem?_take,if_pos c1]at B
            have⟨v,u,e1,e2,e3,e4⟩:=xD S i B;exact⟨v,u,e1,e2,by rw[aj _ Zaa];exact e3,e4⟩
           by_cases c2:i<off+(n+1)
           .rw[List.getElem?_append_left (by simp[O];omega),List.getElem?_append_right (by simp;omega)]at B
            have ak:i-off<G.size:=Zaa
            have e0:(Q.take off).length=off:=by simp;omega
            simp only[e0,List.getElem?_map,Array.getElem?_toList]at B;rw[Array.getElem?_eq_getElem ak]at B;simp only[map_some,ζa]at B;have⟨v,e1,e2,e3,e4⟩:=K G[i-off];rw[e1]at B;simp only[Option.getD_some]at B;refine⟨v,enc G[i-off],B.symm,e2,?_,e3⟩;have:=ap ⟨i-off,Zaa⟩
            simp only[getElem!_pos G (i-off) ak]at this;rw[<-this];congr 1;omega
           rw[List.getElem?_append_right (by simp[O];omega),List.getElem?_drop]at B
           have e0:off+(n+1)+(i-((Q.take off)++G.toList.map (λi=>(Q[off+i.1]?).getD [])).length)=i:=by simp[O];omega
           rw[e0]at B;have⟨v,u,e1,e2,e3,e4⟩:=xD S i B;exact⟨v,u,e1,e2,by rw[aj _ Zaa];exact e3,e4⟩⟩
         have A:∀b,b<(gN (Sort.ahead w m) p.b (.cells (Sort.putCells enc (p.o+off*1) G c) el)).heap.size->(grow (gN (Sort.ahead w m) p.b (.cells (Sort.putCells enc (p.o+off*1) G c) el)) os).heap[b]?=(gN (Sort.ahead w m) p.b (.cells (Sort.putCells enc (p.o+off*1) G c) el)).heap[b]?:=λb Y=>G6 _ _ _ Y
         have aQ:=Step.kept (I:=I) (μ:=μ) (H:=H.set id (.row 1 (sN Q off n G.toList))) A (by simp[grow]) rfl ⟨rfl,rfl,le_refl _⟩ (λa E h=>by unfold World.frozen? at h⊢;rw[A _ E];exact h)
         exact⟨_,I,μ,rfl,bH.undef _ _,s2.kept A,Step.trans s1 aO (Step.trans s2 st2 aQ)⟩
        cases h0
       cases h
      cases h
     cases h
    cases h
   cases h
  cases h
 cases h
end
def C5(P:Program)(f:Y')(args:S')(y:V):Prop:=Ay P f/\∀I μ H w u,dw I μ H w->cR I μ args u->CallsIn (fr none) 0 P f u.toArray w (zf I μ H w y H)
def P8{P:Program}{call:dP}(a:lK P call){f:Y'}{b:X'}{H':bk}(h:call (.fn f) [] []=some (.bool b,H')):C5 P f [] (.bool b):=by
 have hi:∀H,b8 call f [] H=some (.bool b):=by intro H;unfold b8;rw[show borrows call.lv H []=some []from rfl];simp only[h,jK _ H' (show(V.bool b).closed=true from rfl)];rfl
 refine⟨?_,λI μ H w u s c=>(Ew a (hi H) s c).2⟩;have⟨d,_⟩:=a.fn _ _ _ _ _ h;omega
structure W6(P:Program)(E:Env):Prop where
 sort:∀f,E.sort f=true->Cg P f
 known:∀f args y,E.known f args=some y->C5 P f args y
end Go.VE
namespace Go.VE
variable[bT]
section
variable{P:Program}{E:Env}{I I':cG}{μ μ':Mu}{H H':bk}{n B:Nat}{F F':WF}{a:Act}{w w':World}
def LX:∀(F:WF)(t:Nat),F.length<=t->get F t=.undef
 |[],_,_=>rfl|_::_,0,h=>Zad|_::r,i+1,h=>LX r i Zac
def JS:∀(F:WF)(t:Nat)(x:V),F[t]?=some x->get F t=x
 |[],_,_,h=>Zad|_::_,0,_,h=>by simpa[get]using h|_::r,i+1,x,h=>JS r i x Zac
def N_(b:vE I){args:S'}{vs:aX WP}{a:Nat}(h:cR I μ args vs)(B:args.length<=a):
 eD I μ a args (vs.toArray++replicate (a-vs.toArray.size) undef):=by
 have u:=h.1;refine⟨Zad,λt=>?_,b⟩
 by_cases C:t<args.length
 .have h1:args[t]?=some args[t]:=by simp_all
  have w:t<vs.length:=Zaa
  have z:vs[t]?=some vs[t]:=Zad
  rw[JS _ _ _ h1];have:(vs.toArray++replicate (a-vs.toArray.size) undef).getD t undef=vs[t]:=by rw[Array.getD_eq_getD_getElem?,Array.getElem?_append_left Zac];simp_all
  rw[this];exact h.2 t _ _ h1 z
 rw[LX _ _ Zaa]
 have:(vs.toArray++replicate (a-vs.toArray.size) undef).getD t undef=undef:=by rw[Array.getD_eq_getD_getElem?,Array.getElem?_append_right Zad,Array.getElem?_replicate];grind
 rw[this];exact bH.undef _ _
def SE(r:eD I μ n F a.tmps){t:Nat}{x:V}{v:WP}(B:t<n)(h:bH I μ x v):eD I μ n (set F t x) (a.tmps.setIfInBounds t v):=by have:=eD.put (dst:=some t) r h (F':=set F t x) (by simp[kJ,B]);simpa[Act.put]using this
def CH:∀(ps:So)(xs:S')(vs:aX WP)(F:WF)(tmps:Array WP),eD I μ n F tmps->cR I μ xs vs->ps.all (·<n)=true->
 eD I μ n (zD ps xs F) ((ps.zip vs).foldl (λtmps(t,a)=>tmps.setIfInBounds t a) tmps)
 |[],_,_,F,tmps,r,_,_=>by simpa[zD]using r|t::ps,[],[],F,tmps,r,_,_=>by simpa[zD]using r|t::ps,[],v::vs,F,tmps,r,h,_=>by have:=h.1;grind|t::ps,x::xs,[],F,tmps,r,h,_=>by have:=h.1;grind|t::ps,x::xs,v::vs,F,tmps,r,h,u=>by simp only[List.all_cons,ζh,decide_eq_true_eq]at u;have w:=h.2 0 x v rfl rfl;have z:cR I μ xs vs:=⟨by have:=h.1;grind,λj a b c B=>h.2 (j+1) a b Zac Zac⟩;exact CH ps xs vs _ _ (SE (a:={tmps:=tmps,defers:=[]}) r u.1 w) z u.2
def JV{α β:Type}(g:α->Sem β):∀(l:aX α)(w:World)(B:aX β),B.length=l.length->(∀(j:Nat)x y,l[j]?=some x->B[j]?=some y->(g x).run P w=.ok y w)->(l.mapM g).run P w=.ok B w
 |[],w,[],_,_=>Zab|[],w,_::_,h,_=>Zad|_::_,w,[],h,_=>Zad|x::l,w,y::B,h,hg=>by have D:=hg 0 x y rfl rfl;have u:=JV g l w B Zac (λj a b c z=>hg (j+1) a b Zac Zac);simp_all
def M4(tmps:Array WP):ResultVar->Sem WP
 |.tmp t=>pure (tmps.getD t undef)|.cell a t=>do loadVar t (<-asAddr (tmps.getD a undef))
def Nv(fn:Func)(tmps:Array WP):results fn tmps=(fn.results.mapM (M4 tmps) >>= λvs=>pure (if h:vs.size=1 then vs[0]else .tuple vs)):=by congr 1
def M9(W:eG P E){fn:Func}{tmps:Array WP}(r:eD I μ n F tmps)(s:dw I μ H w){vs:S'}(h:iR E F H fn.results.toList=some vs):
 ∃u,(results fn tmps).run P w=.ok u w/\bH I μ (result vs) u:=by
 have key:∀(l:aX ResultVar)(vs:S'),iR E F H l=some vs->∃z:aX WP,z.length=l.length/\cR I μ vs z/\
  ∀(j:Nat)x y,l[j]?=some x->z[j]?=some y->(M4 tmps x).run P w=.ok y w:=by
  intro l
  induction l with
  |nil=>intro vs h;simp[iR]at h;subst h;exact⟨[],rfl,.nil,Zab⟩|cons x l U=>
   intro vs h
   cases x with
   |tmp t=>
    simp only[iR,ζf]at h;obtain⟨D,h,rfl⟩:=h;have⟨z,a,C,Q⟩:=U D h;refine⟨tmps.getD t undef::z,Zad,.cons (r.2 t) C,?_⟩
    intro j x y J L
    cases j with
    |zero=>simp at J L;subst J;subst L;simp[M4]|succ j=>grind
   |cell p t=>
    simp only[iR]at h;split at h
    .rename_i d D hd S;simp only[ζf]at h;obtain⟨v,b,rfl⟩:=h;have⟨z,a,C,Q⟩:=U D S;have⟨u,_,c,X,T,G⟩:=DP W s hd (r.2 p) b;refine⟨u::z,Zad,.cons c C,?_⟩
     intro j x y J L
     cases j with
     |zero=>
      simp only[List.getElem?_cons_zero,ζa]at J L;subst J;subst L;have e:(do loadVar t (<-asAddr (tmps.getD p undef))).run P w=(loadVar t X).run P w:=by rw[run_bind,T];rfl
      exact e.trans G
     |succ j=>grind
    grind
 have⟨z,a,C,Q⟩:=key _ _ h;have Z:=JV _ fn.results.toList w z a Q;have Y:(fn.results.mapM (M4 tmps)).run P w=.ok z.toArray w:=by rw[Array.mapM_eq_mapM_toList];simp_all
 have O:z.length=vs.length:=C.1.symm;rw[Nv,run_bind,Y]
 by_cases B:z.length=1
 .obtain⟨u,rfl⟩:=List.length_eq_one_iff.1 B;obtain⟨v,rfl⟩:=List.length_eq_one_iff.1 (O▸B);exact⟨u,Zab,by simpa[result]using C.2 0 v u rfl rfl⟩
 refine⟨.tuple z.toArray,Zad,?_⟩
 have f:result vs=.tup vs:=by match vs,O with|[],_=>rfl|[_],h=>exact absurd h B|_::_::_,_=>rfl
 rw[f];exact .tup _ _ (by simpa using C.1) (by simpa using C.2)
def Qf(J:eG P E){fn:Func}{tmps:Array WP}{vs:S'}(h:iR E F H' fn.results.toList=some vs)(T:w.heap.size<=B):∀(ds:aX Deferred)(w':World),
 eD I' μ' n F tmps->dw I' μ' H' w'->Step I μ H w I' μ' H' w'->kR B ds w'->
 LeavesInM (fr none) 0 P fn tmps (zf I μ H w (result vs) H') ds .returning w':=by
 intro ds
 induction ds with
 |nil=>intro w' r s st m;have⟨u,b,c⟩:=M9 J r s h;exact⟨u,b,u,I',μ',rfl,c,s,st⟩|cons d ds L=>
  intro w' r s st m;have⟨q,a,S,D⟩:=m.all d Zab
  refine⟨Zab,.inl ⟨q,_,a,run_takeDeferred D,?_⟩⟩
  have z:=vW s D;have O:=Vr s D Zab Zab
  have m':kR B ds w':=⟨λd hd=>m.all d (mem_cons_of_mem _ hd),(List.pairwise_cons.1 m.apart).2⟩
  refine L (gN w' q (.deferred none)) r (s.Cy _ O z) (st.after _ Zaa) ⟨λG C=>?_,m'.apart⟩
  have⟨Q,g1,g2,g3⟩:=m'.all G C;refine⟨Q,g1,g2,?_⟩;rw[iq _ ?_];exact g3;rintro rfl;exact(List.pairwise_cons.1 m.apart).1 G C _ a g1
def FY(o:Out):(nD o).isNone=(o==.norm):=by cases o<;>simp[nD]<;>rfl
def Ho(T:eG P E)(j:P.follows .mixedOrders=true)(b:W6 P E):∀n,lK P (run E n):=by
 intro n;induction n with|zero=>exact⟨λ_ _ _ _ _ h=>(by cases h),λ_ _ _ _ _ h=>(by cases h)⟩|succ n C=>
  constructor;intro f args H r H' h;rw[Ig]at h;simp[ku]at h;split at h;rename_i J V;have⟨fn,m,hb,ae,U,L⟩:=T.ft f J V;refine⟨⟨fn,m,Zad,L⟩,?_⟩;intro I μ w B s a;split at h;rename_i u;have t:∀o F' H2 rs,exec E (run E n) n false J.ntmps J.body args H=some (o,F',H2)->(∀id,o≠.exit id)->iR E F' H2 J.results=some rs->CallsIn (fr none) 0 P f B.toArray w (zf I μ H w (result rs) H2):=by intro o F' H2 rs hx al hr;refine callsIn_of_wp_marks m hb trivial ?_;rw[ae];have c:=N_ s.gl a u;have:=zU T j C n none false rfl J.ntmps J.body I μ args H {tmps:=B.toArray++replicate (J.ntmps-B.toArray.size) undef,defers:=[]} w o F' H2 hx c s ⟨Zab,.nil⟩ (le_refl _);refine wpIn_mono this ?_;rintro e a1 W ⟨rfl,⟨I1,y,r1,S,z⟩,m1⟩;have d:=Qf T (by rw[U];omega) (le_refl _) a1.defers W r1 S z m1;cases o with|norm=>exact d|ret=>exact d|exit id=>grind
  split at h;simp_all;simp at h;grind;grind;grind;split at h;next A=>exact⟨(b.sort f A).ok,λI μ w B s a=>VF C (b.sort f A) h s a⟩
  have⟨yy,F,h⟩:=ζf.1 h;cases h;exact⟨(b.known f args _ F).1,λI μ w B s a=>(b.known f args _ F).2 I μ H w B s a⟩;intro id args H r H' h I μ w B p s a hp;rw[Ig]at h;simp only[ku]at h;split at h
  .rename_i rec X;split at h
   .split at h
    .rename_i u;split at h
     .rename_i F2 H2 af;split at h
      .rename_i r2 Y;split at h
       .rename_i Z;split at h
        .rename_i o F4 H4 ah;split at h
         .rename_i r4 aa;obtain⟨rfl,rfl⟩:=h;have⟨q,l,g1,g2,g3,g4⟩:=Cd s X;rw[hp]at g1;cases g1;have ai:l.params.size=rec.params.length:=by have:=congrArg List.length g4.params;grind
          have aj:B.toArray.size=l.params.size:=by rw[ai,<-u.1];simpa using a.1.symm
          refine⟨p.b,l.fn,_,l.assign,l.body,run_yield g3 aj,?_⟩;refine roundIn_of_wpIn trivial ?_;have O:(l.params.zip B.toArray).foldl (λtmps x=>tmps.setIfInBounds x.1 x.2) l.tmps=(rec.params.zip B).foldl (λtmps x=>tmps.setIfInBounds x.1 x.2) l.tmps:=by rw[<-Array.foldl_toList,Array.toList_zip,g4.params]
          have c:=CH rec.params args B rec.frame l.tmps g4.frame a u.2;rw[<-O]at c;have W:=zU T j C n (some p.b) true rfl rec.nt rec.assign I μ _ H {tmps:=_,defers:=[]} w _ _ _ af c s ⟨Zab,.nil⟩ (le_refl _);rw[g4.assign,g4.body];refine wpIn_mono W ?_;rintro e a1 W ⟨rfl,⟨I1,y,r1,S,z⟩,m1⟩;have⟨q,g,k1,k2,k3,k4⟩:=Cd S Y;rw[z.mu _ _ hp]at k1;cases k1;have D:g.state=.ready:=by have:=k4.st;rw[Z]at this;cases d:g.state<;>rw[d]at this<;>simp[CA.is]at this
          refine⟨_,run_beginRound k3 D,?_⟩;have G:=z.mu _ _ hp;have⟨K,st2⟩:=S.write (ob':=.loop {r2 with st:=.busy}) Y rfl G
           ⟨p,{g with state:=.busy},G,k2,jF _ (Array.getElem?_eq_some_iff.1 k3).1,⟨trivial,k4.pend,k4.pendOk,k4.frame,k4.params,k4.assign,k4.body⟩⟩
          have m2:=m1.step S st2;have w2:=zU T j C n (some p.b) true rfl rec.nt rec.body I1 y F2 _ a1 (gN W p.b (.loop {g with state:=.busy})) o F4 H4 ah r1 K m2 (by rw[yf];exact z.size);refine wpIn_mono w2 ?_;rintro e a3 w3 ⟨rfl,⟨I3,μ3,r3,k,Q⟩,m3⟩;have⟨q,l4,M,j2,N,i⟩:=Cd k aa;rw[Q.mu _ _ G]at M;cases M;have R:=Q.mu _ _ G;have fin:∃v w',(Instr.endRound p.b (nD o)).run P w3=.ok v w'/\zf I μ H w (.bool (o==.norm)) (H4.set id (.loop {r4 with st:=(if o==.norm then .ready else .done),pend:=(if o==.norm then none else some o)})) (.returned v) w':=by
           refine⟨_,_,run_endRound (nD o) N,?_⟩;have⟨s4,ak⟩:=k.write (ob':=.loop {r4 with st:=(if o==.norm then .ready else .done),pend:=(if o==.norm then none else some o)}) aa rfl R
            ⟨p,{l4 with state:=if(nD o).isNone then .ready else .done,pending:=nD o},R,j2,jF _ (Array.getElem?_eq_some_iff.1 N).1,⟨by cases o<;>exact trivial,by cases o<;>rfl,by cases o<;>simp,i.frame,i.params,i.assign,i.body⟩⟩
           refine⟨_,I3,μ3,rfl,?_,s4,Step.trans S z (Step.trans K st2 (Step.trans k Q ak))⟩;rw[FY];exact .c _ _ (.bool _)
          cases o with|norm=>exact fin|ret=>exact fin|exit id=>exact fin
         grind
        grind
       grind
      grind
     grind
    grind
   grind
  grind
end
end Go.VE
namespace Go.VE
variable[bT]
variable{P:Program}
def qM.MO{t:W'}{d:TD}(h:xM P t=some d):qM P t d:=eG.ty (E:={tt:=xM P,ft:=λ_=>none,keep:=λ_=>false,own:=λ_=>false,eqN:=λ_=>none,sort:=λ_=>false}) ⟨λ_ _ h=>h,Zab,Zab⟩ h
def sW{i:W'}{cs:Array WP}{o:Nat}{v:WP}{w:World}(hi:xM P i=some ⟨1,8,[.int .i64 0],.int .i64⟩)(h:cs[o]?=some v):(part i cs o).run P w=.ok v w:=by unfold part;simp[run_bind,(qM.MO hi).MV,andThen,TD.agg,h]
def uM{a:SW}(h:a.length=2):∃x y,a=[x,y]:=by match a,h with|[x,y],_=>exact⟨x,y,rfl⟩
def BB(d:Nat)(e:X'){i:W'}(x:Int){w:World}(B:P.underlying i=some (.int .i64)):(checkKey e (d+1) i (.int .i64 x)).run P w=.ok () w:=by simp only[checkKey,run_bind,dS B,andThen_ok,run_pure]
def KD(d:Nat)(e:X'){t i:W'}{f g:Field}(x y:Int){w:World}(hu:P.underlying t=some (.struct #[f,g]))(D:f.type=i)(hg:g.type=i)(of:f.offset=0)(G:g.offset=1)(nf:f.name≠ "_")(J:g.name≠ "_")
 (hi:xM P i=some ⟨1,8,[.int .i64 0],.int .i64⟩)(B:P.underlying i=some (.int .i64)):(checkKey e (d+1+1) t (.agg (ic [x,y]))).run P w=.ok () w:=by
 have u:∀w,(part i (ic [x,y]) 0).run P w=.ok (.int .i64 x) w:=λw=>sW hi rfl
 have p1:∀w,(part i (ic [x,y]) 1).run P w=.ok (.int .i64 y) w:=λw=>sW hi rfl
 have q:∀(x:Int)w,(checkKey e (d+1) i (.int .i64 x)).run P w=.ok () w:=λx w=>BB d e x B
 unfold checkKey;simp only[run_bind,dS hu,andThen_ok];rw[<-Array.forIn_toList];simp only[List.forIn_cons,List.forIn_nil,run_bind,D,hg,of,G,nf,J,ne_eq,not_false_eq_true,if_true,u,p1,q,andThen_ok,run_pure]
def x6.two{t i:W'}{f g:Field}(hu:P.underlying t=some (.struct #[f,g]))(T:f.type=i)(hg:g.type=i)(of:f.offset=0)(U:g.offset=1)(nf:f.name≠ "_")(W:g.name≠ "_")
 (hi:xM P i=some ⟨1,8,[.int .i64 0],.int .i64⟩)(G:P.underlying i=some (.int .i64))(Y:P.stoodInHeld t=false)(hq:P.eqGuardType P.depth t=false):x6 P t 2:=by
 have I:P.fieldsOf t=#[f,g]:=by unfold Program.fieldsOf;rw[hu]
 have B:∀(w:World)(x y z u:Int),(equal t (.agg (ic [x,y])) (.agg (ic [z,u]))).run P w=.ok ([x,y]==[z,u]) w:=by intro w x y z u;show(equalIn (9999+1) t _ _).run P w=_;rw[run_equalIn_struct w 9999 t _ _ (by rw[I];exact hu) Y,I];have Q:∀(x y:Int)w,(part i (ic [x,y]) 0).run P w=.ok (.int .i64 x) w:=λx y w=>sW hi rfl;have p1:∀(x y:Int)w,(part i (ic [x,y]) 1).run P w=.ok (.int .i64 y) w:=λx y w=>sW hi rfl;have q:∀(x y:Int)w,(equalIn 9999 i (.int .i64 x) (.int .i64 y)).run P w=.ok (x==y) w:=λx y w=>CL 9998 x y G;simp only[Op.eqFields,T,hg,of,U,nf,W,ne_eq,not_false_eq_true,if_true,run_bind,Q,q,andThen_ok];by_cases C:x=z;by_cases J:y=u;subst C;subst J;simp[run_bind,p1,q,andThen];subst C;have:(y==u)=false:=(by simpa using J);simp[run_bind,p1,q,andThen,this];have:(x==z)=false:=(by simpa using C);simp[this]
 have L:∀(op:BinOp)(p q:U')(w:World)(u v:Array WP),(eqGuard op t p q (.agg u) (.agg v)).run P w=.ok () w:=by intro op p q w u v;unfold eqGuard;cases op<;>simp[run_bind,run_program,andThen,hq]
 refine⟨?_,?_,?_,?_,⟨_,hu,.inr ⟨_,rfl⟩⟩⟩
 .intro w p q a b D O;obtain⟨x,y,rfl⟩:=uM D;obtain⟨z,u,rfl⟩:=uM O;rw[run_bind,L,andThen_ok];show(do pure (Value.bool (<-equal t (.agg (ic [x,y])) (.agg (ic [z,u])))):Sem WP).run P w=_
  rw[run_bind,B];rfl
 .intro w p q a b D O;obtain⟨x,y,rfl⟩:=uM D;obtain⟨z,u,rfl⟩:=uM O;rw[run_bind,L,andThen_ok];show(do pure (Value.bool (!(<-equal t (.agg (ic [x,y])) (.agg (ic [z,u]))))):Sem WP).run P w=_
  rw[run_bind,B];rfl
 .intro w a b D O;obtain⟨x,y,rfl⟩:=uM D;obtain⟨z,u,rfl⟩:=uM O;exact B w x y z u
 intro w e a D;obtain⟨x,y,rfl⟩:=uM D;exact KD 9998 e x y hu T hg of U nf W hi G
def lk{α:Type}:aX (Nat×α)->Nat->aY α
 |[],_=>none|(k,v)::r,n=>bif beq k n then some v else lk r n
def OV{α:Type}:∀{l:aX (Nat×α)}{n:Nat}{v:α},lk l n=some v->(n,v)∈l
 |[],_,_,h=>by simp[lk]at h|(k,x)::r,n,v,h=>by simp only[lk]at h;cases a:beq k n with|true=>rw[a]at h;simp only[cond_true,ζa]at h;have:=Nat.eq_of_beq_eq_true a;subst this;subst h;simp|false=>rw[a]at h;exact mem_cons_of_mem _ (OV h)
end Go.VE
namespace Go.VE
variable[bT]
inductive KT where|bool|str|slice|ptr|map|int|other
 deriving DecidableEq
def TK.tag:TK->KT
 |.bool=>.bool|.int _=>.int|.str=>.str|.ptr _=>.ptr|.slice _=>.slice|.map ..=>.map|_=>.other
def p_(k:KT)(x y:V):aY X':=
 match k,x,y with
 |.slice,.bG,.bG=>some true|.slice,.fsl ..,.bG=>some false|.slice,.hsl ..,.bG=>some false|.ptr,.iF,.iF=>some true|.ptr,.fptr _,.iF=>some false|.ptr,.hptr ..,.iF=>some false|.map,.gR,.gR=>some true|.map,.fmap _,.gR=>some false|.map,.hmap _,.gR=>some false|_,_,_=>none
def mT(k:aY KT)(e:aY Nat)(op:BinOp)(x y:V):aY V:=
 match x,y with
 |.int k a,.int u b=>
  match op with
  |.shl=>if b<0 then none else some (.int k (k.wrap (a*2 ^ (min b.toNat k.bits))))|.shr=>if b<0 then none else some (.int k (a.fdiv (2 ^ (min b.toNat k.bits))))|_=>if k=u then
   match op with
   |.add=>some (.int k (k.wrap (a+b)))|.sub=>some (.int k (k.wrap (a-b)))|.mul=>some (.int k (k.wrap (a*b)))|.quo=>if b=0 then none else some (.int k (k.wrap (a.tdiv b)))|.rem=>if b=0 then none else some (.int k (a.tmod b))|.and=>some (.int k (k.wrap (ofInt k.bits a &&& ofInt k.bits b).toNat))|.or=>some (.int k (k.wrap (ofInt k.bits a ||| ofInt k.bits b).toNat))|.xor=>some (.int k (k.wrap (ofInt k.bits a ^^^ ofInt k.bits b).toNat))|.andNot=>some (.int k (k.wrap (ofInt k.bits a &&& ~~~ ofInt k.bits b).toNat))|op=>(tg op a b).map .bool
   else none
 |.str a,.str b=>
  match op with
  |.add=>if((a.size+b.size:Nat):Int)>IntKind.i64.max then none else some (.str (a++b))|.eql=>some (.bool (a.toList==b.toList))|.neq=>some (.bool !(a.toList==b.toList))|.lss=>some (.bool (bytesLess a.toList b.toList))|.leq=>some (.bool (bytesLess a.toList b.toList||a.toList==b.toList))|.gtr=>some (.bool !(bytesLess a.toList b.toList||a.toList==b.toList))|.geq=>some (.bool !(bytesLess a.toList b.toList))|_=>none
 |.bool a,.bool b=>
  match k,op with
  |some .bool,.eql=>some (.bool (a==b))|some .bool,.neq=>some (.bool !(a==b))|_,_=>none
 |.agg a,.agg b=>
  match e,op with
  |some n,.eql=>if a.length=n then(lQ a b).map .bool else none|some n,.neq=>if a.length=n then(lQ a b).map (λt=>.bool !t)else none|_,_=>none
 |x,y=>
  match k,op with
  |some k,.eql=>(p_ k x y).map .bool|some k,.neq=>(p_ k x y).map λt=>.bool !t|_,_=>none
def Ou(k:TK)(x y:V):vT k x y=p_ k.tag x y:=by cases k<;>cases y<;>(try rfl)<;>cases x<;>rfl
def UB(E:Env)(op:BinOp)(t:W')(x y:V):JC E op t x y=mT ((E.kindOf t).map TK.tag) (E.eqN t) op x y:=by
 unfold JC;split;rfl;rfl;cases b:E.kindOf t with|none=>rfl|some k=>cases k<;>cases op<;>rfl
 rfl;rename_i a u w z
 cases b:E.kindOf t with
 |none=>rw[mT.eq_29 _ _ _ _ _ a u w z Zab Zab]|some k=>
  simp only[Ou];cases op<;>first
   |exact(mT.eq_27 _ _ _ _ a u w z).symm|exact(mT.eq_28 _ _ _ _ a u w z).symm|(rw[mT.eq_29 _ _ _ _ _ a u w z Zab Zab])
inductive v7 where
 |id|pick|nilc
 |bin(k:Option KT)(e:Option Nat)(op:BinOp)
 |not|neg
 |conv(k:IntKind)
 |fieldAddr(off:Nat)
 |field(off size:Nat)(agg:Bool)
 |idxS(size:Nat)
 |idxA(len size:Nat)
 |idxStr
 |idxArr(len size:Nat)(agg:Bool)
 |sliceStr(lo hi:Bool)
 |slice(size:Nat)(lo hi:Bool)
 |slice00
 |build(zero:List V)(pl:List (Nat×Nat))
 |clo(name:Nat)(k:Nat)
 |ext(i:Nat)
 |lenStr|lenSl|capSl|max|min|bad|max4
 |makeC(size:Nat)(zero:List V)
 |buildC(size len:Nat)(zero:List V)(idx:List Nat)
 |emptyC
def NP:V->aY V
 |.hptr id el off=>some (.hptr id el off)|.fptr cs=>some (.fptr cs)|.clo f a b=>some (.clo f a b)|_=>none
def ru(off:Nat):V->aY V
 |.fptr cs=>if off<=cs.length then some (.fptr (cs.drop off))else none|.hptr id el o=>some (.hptr id el (o+off))|_=>none
def mE(size:Nat)(s:V)(n:Int):aY V:=
 if n<0 then none else match s with
 |.fsl es u=>if es=size then(u[n.toNat]?).map .fptr else none|.hsl id es off len=>if es=size/\n.toNat<len then some (.hptr id (off+n.toNat) 0)else none|_=>none
def yq(len size:Nat)(p:V)(n:Int):aY V:=
 if 0<=n/\n<len then match p with
  |.fptr cs=>if n.toNat*size<=cs.length then some (.fptr (cs.drop (n.toNat*size)))else none|.hptr id el o=>some (.hptr id el (o+n.toNat*size))|_=>none
 else none
def nq:X'->X'->S'->aY (Pi×Pi)
 |false,false,[]=>some (none,none)|true,false,[.int _ l]=>some (some l,none)|false,true,[.int _ h]=>some (none,some h)|true,true,[.int _ l,.int _ h]=>some (some l,some h)|_,_,_=>none
def iX(size:Nat)(v:V)(l h:Pi):aY V:=
 match v with
 |.fsl es u=>if es=size then(ec u.length l h).map λ(l,h)=>.fsl es ((u.take h).drop l)else none|.hsl id es off len=>if es=size then(ec len l h).map λ(l,h)=>.hsl id es (off+l) (h-l)else none|.dH=>(ec 0 l h).map λ_=>.dH|.bG=>(ec 0 l h).map λ_=>.bG|_=>none
def M7:V->X'
 |.fsl ..|.hsl ..|.dH|.bG=>true|_=>false
def lH(cells:S'):aX (Nat×Nat)->S'->aY S'
 |[],[]=>some cells|(off,size)::pl,v::vs=>
  if v.cells.length≠size||off+v.cells.length>cells.length then none
  else lH (cells.take off++v.cells++cells.drop (off+v.cells.length)) pl vs
 |_,_=>none
def oP:V->aY V
 |.fsl _ xs=>some (.int .i64 xs.length)|.hsl _ _ _ len=>some (.int .i64 len)|.dH=>some (.int .i64 0)|.bG=>some (.int .i64 0)|_=>none
def IA:V->aY V
 |.bG|.dH=>some (.int .i64 0)|_=>none
def bN(N:Nat->Y'):v7->S'->aY V
 |.id,[x]=>some x
 |.pick,[.bool t,a,b]=>some (if t then a else b)
 |.nilc,[x]=>NP x
 |.bin k e op,[x,y]=>mT k e op x y
 |.not,[.bool b]=>some (.bool !b)
 |.neg,[.int k n]=>some (.int k (k.wrap (0-n)))
 |.conv k,[.int _ n]=>some (.int k (k.wrap n))
 |.fieldAddr off,[p]=>ru off p
 |.field off size agg,[.agg cs]=>(cut cs off size).bind (mk agg)
 |.idxS size,[s,.int _ n]=>mE size s n
 |.idxA len size,[p,.int _ n]=>yq len size p n
 |.idxStr,[.str s,.int _ n]=>if 0<=n then(s[n.toNat]?).map (λb=>.int .u8 b.toNat)else none
 |.idxArr len size agg,[.agg cs,.int _ n]=>if 0<=n/\n<len then(cut cs (n.toNat*size) size).bind (mk agg)else none
 |.sliceStr lo hi,.str s::D=>(nq lo hi D).bind λ(l,h)=>(ec s.size l h).map λ(l,h)=>.str (s.extract l h)
 |.slice size lo hi,v::D=>(nq lo hi D).bind λ(l,h)=>iX size v l h
 |.slice00,[v,.int _ h,.int _ m]=>if M7 v&&h==0&&m==0 then some .dH else none
 |.build zero pl,vs=>(lH zero pl vs).map .agg
 |.clo name k,vs=>some (.clo (N name) (vs.take k) (vs.drop k))
 |.ext i,[.tup vs]=>vs[i]?
 |.lenStr,[.str s]=>some (.int .i64 s.size)
 |.lenSl,[v]=>oP v
 |.capSl,[v]=>IA v
 |.max,[.int k a,.int B b]=>if k=B then some (.int k (if b>a then b else a))else none
 |.max4,[.int k a,.int k1 b,.int k2 c,.int k3 d]=>if k=k1/\k=k2/\k=k3 then some (.int k (DI (DI (DI a b) c) d))else none
 |.min,[.int k a,.int B b]=>if k=B then some (.int k (if b<a then b else a))else none
 |.makeC size zero,[.int k n,.int B m]=>if k=.i64/\B=.i64/\0<=n/\n=m/\m<=2147483648/\zero.all V.scalar=true then some (.fsl size (List.replicate n.toNat zero))else none
 |.buildC size len zero idx,vs=>if V.c7 vs=true/\idx.length=vs.length then match fK size (List.replicate len zero) (idx.zip vs)with
  |some xs=>if xs.isEmpty=false/\(xs.all λx=>x.all V.scalar)=true then some (.fsl size xs)else none
  |none=>none
  else none
 |.emptyC,[]=>some .dH
 |_,_=>none
inductive yY where|int (k:IntKind)|str|ints (n:Nat)
def EL(E:Env)(t:W'):aY yY:=
 match E.kindOf t with
 |some (.int k)=>some (.int k)|some .str=>some .str|some _=>(E.eqN t).map .ints|none=>none
def qX:yY->V->X'
 |.int k,.int B _=>k==B|.str,.str _=>true|.ints n,.agg cs=>cs.length==n&&(iL cs).isSome|_,_=>false
inductive Mj where
 |load(size:Nat)(agg:Bool)|loadF(size:Nat)(agg:Bool)|lookup(kk:yY)(zero:V)(ok:Bool)
def fq(H:bk):Mj->S'->aY V
 |.load size agg,[p]=>(eN H p size).bind (mk agg)|.lookup kk z ok,[m,k]=>match nO H m with
  |some B=>if qX kk k then match i_ k B 0 with
   |some (some (_,v))=>some (if ok then .tup [v,.bool true]else v)|some none=>some (if ok then .tup [z,.bool false]else z)|none=>none
   else none
  |none=>none
 |_,_=>none
inductive Qo where
 |alloc(size:Nat)(zero:List V)|box|makeSl(size:Nat)(zero:List V)|buildSl(size len:Nat)(zero:List V)(idx:List Nat)|makeMap
def mB:Qo->S'->aY (Ob×Mk)
 |.alloc size zero,[]=>some (.row size [zero],.ptr)|.box,[v]=>if v.cells.all V.one then some (.row v.cells.length [v.cells],.ptr)else none|.makeSl size zero,[.int k n,.int B m]=>if k=.i64/\B=.i64/\0<=n/\n<=m/\m<=2147483648 then some (.row size (List.replicate m.toNat zero),.sl size n.toNat)else none|.buildSl size len zero idx,vs=>if idx.length=vs.length then(fK size (List.replicate len zero) (idx.zip vs)).map λxs=>(.row size xs,.sl size len)else none|.makeMap,[]=>some (.map [],.map)|_,_=>none
inductive L_ where
 |store(size:Nat)|storeF(size:Nat)|mapUp(kk:yY)|append(size:Nat)|appMk(size bytes:Nat)(zero:List V)|clear(size:Nat)(zero:List V)
def eY(H:bk):L_->S'->aY (V×bk)
 |.store size,[.hptr id el off,v]=>match H[id]?with
  |some (.row es xs)=>match xs[el]?with
   |some cs=>if v.cells.length=size/\off+size<=cs.length/\v.cells.all V.one=true then
    some (.undef,H.set id (.row es (xs.set el (cs.take off++v.cells++cs.drop (off+v.cells.length)))))else none
   |none=>none
  |_=>none
 |.mapUp kk,[.hmap id,k,v]=>match H[id]?with
  |some (.map B)=>if qX kk k then(qJ k v B).map λB=>(.undef,H.set id (.map B))else none|_=>none
 |.append size,[s,x]=>match dM H size s,dM H size x with
  |some _,some []=>some (s,H)|some xs,some ys=>if xs.length+ys.length<=2147483648 then(gH H s).map λH1=>(.hsl H.length size 0 (xs.length+ys.length),H1++[.row size (xs++ys)])else none|_,_=>none
 |.appMk size bytes zero,[s,x]=>mkApp H size bytes zero s x|.clear size zero,[v]=>Eg H size zero v|.storeF size,.hptr id el off::v::l=>if l.all (oL id)=true then match H[id]?with
  |some (.row es xs)=>match xs[el]?with
   |some cs=>if v.cells.length=size/\off+size<=cs.length/\v.cells.all V.one=true then
    some (.undef,H.set id (.row es (xs.set el (cs.take off++v.cells++cs.drop (off+v.cells.length)))))else none
   |none=>none
  |_=>none
  else none
 |_,_=>none
inductive K where
 |p(p:v7)|r(r:Mj)|a(a:Qo)|l(l:L_)|c|e(size:Nat)|b
def YF(E:Env)(t:W'):aY KT:=(E.kindOf t).map TK.tag
def resolve(E:Env)(nm:Y'->aY Nat):Op->aY (K×aX U')
 |.move x|.assign x=>some (.p .id,[x])
 |.pick c a b=>some (.p .pick,[c,a,b])
 |.nilCheck x=>some (.p .nilc,[x])
 |.binOp op t x y _=>some (.p (.bin (YF E t) (E.eqN t) op),[x,y])
 |.unOp .not _ x=>some (.p .not,[x])
 |.unOp .neg _ x=>some (.p .neg,[x])
 |.convert s d x=>match E.tt s,E.tt d with
  |some _,some G=>match G.kind with
   |.int k=>some (.p (.conv k),[x])
   |.str=>match E.kindOf s with
    |some (.slice e)=>match E.kindOf e with
     |some (.int .u8)=>some (.b,[x])
     |_=>none
    |_=>none
   |_=>none
  |_,_=>none
 |.fieldAddr s x f=>match E.kindOf s with
  |some (.struct fs)=>match fs[f]?with
   |some (off,t)=>match E.tt t with
    |some d=>if d.size=0 then none else some (.p (.fieldAddr off),[x])
    |none=>none
   |none=>none
  |_=>none
 |.field s x f=>match E.kindOf s with
  |some (.struct fs)=>match fs[f]?with
   |some (off,t)=>match E.tt t with
    |some d=>some (.p (.field off d.size d.agg),[x])
    |none=>none
   |none=>none
  |_=>none
 |.indexAddr t x i=>match E.kindOf t with
  |some (.slice e)=>(E.tt e).map λd=>(.p (.idxS d.size),[x,i])
  |some (.array len e)=>(E.tt e).map λd=>(.p (.idxA len d.size),[x,i])
  |_=>none
 |.index t x i=>match E.kindOf t with
  |some .str=>some (.p .idxStr,[x,i])
  |some (.array len e)=>(E.tt e).map λd=>(.p (.idxArr len d.size d.agg),[x,i])
  |_=>none
 |.slice t x lo hi J=>match E.kindOf t,J with
  |some .str,none=>some (.p (.sliceStr lo.isSome hi.isSome),x::(lo.toList++hi.toList))
  |some (.slice e),none=>(E.tt e).map λd=>(.p (.slice d.size lo.isSome hi.isSome),x::(lo.toList++hi.toList))
  |some (.slice e),some m=>match E.tt e,lo,hi with
   |some _,none,some h=>some (.p .slice00,[x,h,m])
   |_,_,_=>none
  |_,_=>none
 |.build t ps=>match E.tt t with
  |some d=>match d.kind with
   |.struct fs=>match oa E fs with
    |some pl=>(ps.toList.mapM λ(q:Nat×U')=>pl[q.1]?).map λq=>(K.p (.build d.zero q),ps.toList.map λ(q:Nat×U')=>q.2)
    |none=>none
   |.array _ e=>(E.tt e).map λD=>(K.p (.build d.zero (ps.toList.map λ(q:Nat×U')=>(q.1*D.size,D.size))),ps.toList.map λ(q:Nat×U')=>q.2)
   |_=>none
  |none=>none
 |.makeFunc (.func f) a b=>(nm f).map λs=>(.p (.clo s a.toList.length),a.toList++b.toList)
 |.extract x i=>some (.p (.ext i),[x])
 |.load t a=>(E.tt t).map λd=>(.r (.load d.size d.agg),[a])
 |.lookup t m k ok=>match E.kindOf t with
  |some (.map B T)=>match E.tt T,EL E B with
   |some d,some kk=>(mk d.agg d.zero).map λz=>(.r (.lookup kk z ok),[m,k])
   |_,_=>none
  |_=>none
 |.alloc t=>(E.tt t).map λd=>(.a (.alloc d.size d.zero),[])
 |.box _ x=>some (.a .box,[x])
 |.makeSlice t l c=>match E.kindOf t with
  |some (.slice e)=>match E.tt e with
   |some d=>if d.bytes<=4096 then some (.a (.makeSl d.size d.zero),[l,c])else none
   |none=>none
  |_=>none
 |.buildSlice t len ps=>match E.kindOf t with
  |some (.slice e)=>match E.tt e with
   |some d=>if len*d.size<=16777216 then some (.a (.buildSl d.size len d.zero (ps.toList.map (·.1))),ps.toList.map (·.2))else none
   |none=>none
  |_=>none
 |.makeMap _ none=>some (.a .makeMap,[])
 |.store t a x=>(E.tt t).map λd=>(.l (.store d.size),[a,x])
 |.mapUpdate t m k x|.insert t m k x=>match E.kindOf t with
  |some (.map B _)=>(EL E B).map λkk=>(.l (.mapUp kk),[m,k,x])
  |_=>none
 |.call {callee:=.builtin .append,args,argTypes}=>match argTypes.toList,args.toList with
  |[t,U],[s,x]=>match E.kindOf t,E.kindOf U with
   |some (.slice e),some (.slice _)=>match E.tt e with
    |some d=>if d.bytes<=4096/\0<d.bytes then some (.l (.append d.size),[s,x])else none
    |none=>none
   |some (.slice e),some (.int _)=>(E.tt e).map λd=>(.l (.appMk d.size d.bytes d.zero),[s,x])
   |_,_=>none
  |_,_=>none
 |.call {callee:=.builtin .len,args,argTypes}=>match argTypes[0]?,args.toList with
  |some t,[x]=>match E.kindOf t with
   |some .str=>some (.p .lenStr,[x])
   |some (.slice _)=>some (.p .lenSl,[x])
   |_=>none
  |_,_=>none
 |.call {callee:=.builtin .cap,args,argTypes}=>match argTypes[0]?,args.toList with
  |some t,[x]=>match E.kindOf t with
   |some (.slice _)=>some (.p .capSl,[x])
   |_=>none
  |_,_=>none
 |.call {callee:=.builtin .clear,args,argTypes}=>match argTypes[0]?,args.toList with
  |some t,[x]=>match E.kindOf t with
   |some (.slice e)=>(E.tt e).map λd=>(.l (.clear d.size d.zero),[x])
   |_=>none
  |_,_=>none
 |.panic _=>some (.p .bad,[])
 |.makeInterface ..=>some (.p .bad,[])
 |.call {callee:=.builtin .max,args,..}=>match args.toList with
  |[x,y]=>some (.p .max,[x,y])
  |[x,y,z,t]=>some (.p .max4,[x,y,z,t])
  |_=>none
 |.call {callee:=.builtin .min,args,..}=>match args.toList with
  |[x,y]=>some (.p .min,[x,y])
  |_=>none
 |.call {callee:=.value f,args,..}=>some (.c,f::args.toList)
 |_=>none
section
variable{E:Env}{nm:Y'->aY Nat}{N:Nat->Y'}{F:WF}
def pI{x:U'}{vs:S'}(h:fC F [x]=some vs):∃a,ev F x=some a/\vs=[a]:=by simp[fC]at h;grind
def ji{x:U'}{l:aX U'}{vs:S'}(h:fC F (x::l)=some vs):∃a az,ev F x=some a/\fC F l=some az/\vs=a::az:=by simp[fC]at h;grind
def rI{vs:S'}(h:fC F []=some vs):vs=[]:=by simp[fC]at h;grind
def uq{x y:U'}{vs:S'}(h:fC F [x,y]=some vs):∃a b,ev F x=some a/\ev F y=some b/\vs=[a,b]:=by obtain⟨a,az,w,u,rfl⟩:=ji h;obtain⟨b,z,rfl⟩:=pI u;grind
def Jy{x y z:U'}{vs:S'}(h:fC F [x,y,z]=some vs):∃a b c,ev F x=some a/\ev F y=some b/\ev F z=some c/\vs=[a,b,c]:=by obtain⟨a,az,w,u,rfl⟩:=ji h;obtain⟨b,c,B,d,rfl⟩:=uq u;grind
def NK{l m:aX U'}{vs:S'}(h:fC F (l++m)=some vs):∃az B,fC F l=some az/\fC F m=some B/\vs=az++B:=by induction l generalizing vs with|nil=>exact⟨[],vs,rfl,h,rfl⟩|cons x l u=>obtain⟨a,az,w,z,rfl⟩:=ji h;obtain⟨b,c,C,d,rfl⟩:=u z;refine⟨a::b,c,?_,d,rfl⟩;simp[fC,w,C]
def MI{l:aX U'}{vs:S'}(h:fC F l=some vs):vs.length=l.length:=by induction l generalizing vs with|nil=>rw[rI h];rfl|cons x l u=>obtain⟨a,az,_,w,rfl⟩:=ji h;grind
def Ct(E:Env)(N:Nat->Y')(F:WF)(op:Op)(vs:S'):K->Prop
 |.p p=>cT op=.pure/\∀v,bN N p vs=some v->bK E F op=some v|.r r=>cT op=.read/\∀H v,fq H r vs=some v->d_ E F H op=some v|.a a=>cT op=.alloc/\∀x,mB a vs=some x->eX E F op=some x|.l l=>cT op=.loud/\∀H x,eY H l vs=some x->cK E F H op=some x|.e _=>False|.b=>cT op=.pure/\∃x,vs=[x]/\∀H ys l,dM H 1 x=some ys->mm ys=some l->bK E F op=none/\evalConv E F H op=some (.str (rT l))|.c=>cT op=.call/\∃f az,vs=f::az/\kL F op=(match f with|.clo g a b=>some (.fn g,a++az++b)|.yld id=>some (.yld id,az)|_=>none)
def IQ(place:Nat->aY (Nat×Nat)):∀(ps:aX (Nat×U'))(q:aX (Nat×Nat))(vs:S')(cells cs:S'),(ps.mapM λ(x:Nat×U')=>place x.1)=some q->
 fC F (ps.map λ(x:Nat×U')=>x.2)=some vs->lH cells q vs=some cs->∃B,mY F ps=some B/\vB place cells B=some cs:=by
 intro ps
 induction ps with
 |nil=>
  intro q vs cells cs u b h;simp at u;subst u;have:=rI (by simpa using b);subst this
  simp[lH]at h;subst h;exact⟨[],rfl,rfl⟩
 |cons p ps D=>
  intro q vs cells cs u b h;have⟨i,x⟩:=p;simp only[List.mapM_cons,Option.pure_def,Option.bind_eq_bind,ζg,ζa]at u;obtain⟨pl,w,G,z,rfl⟩:=u;obtain⟨a,az,I,C,rfl⟩:=ji (by simpa using b)
  simp only[lH]at h;split at h
  .simp_all
  have⟨B,c,J⟩:=D G az _ cs z C h;refine⟨(i,a)::B,by simp[mY,I,c],?_⟩
  simp[vB,w]
  grind
def PZ:∀(ps:aX (Nat×U'))(vs:S'),fC F (ps.map λ(x:Nat×U')=>x.2)=some vs->mY F ps=some ((ps.map λ(x:Nat×U')=>x.1).zip vs):=by intro ps;induction ps with|nil=>simp[mY]|cons p ps w=>intro vs b;obtain⟨a,az,z,u,rfl⟩:=ji (by simpa using b);simp[mY,z,w az u]
def IF{lo hi:aY U'}{vs:S'}{l h:Pi}(c:fC F (lo.toList++hi.toList)=some vs)(B:nq lo.isSome hi.isSome vs=some (l,h)):kB F lo=some l/\kB F hi=some h:=by
 cases lo with
 |none=>cases hi with|none=>have:=rI (by simpa using c);subst this;obtain⟨rfl,rfl⟩:=B;exact⟨rfl,rfl⟩|some y=>obtain⟨b,u,rfl⟩:=pI (by simpa using c);cases b<;>simp[nq]at B;obtain⟨rfl,rfl⟩:=B;simp[kB,u]
 |some x=>cases hi with|none=>obtain⟨b,u,rfl⟩:=pI (by simpa using c);cases b<;>simp[nq]at B;obtain⟨rfl,rfl⟩:=B;simp[kB,u]|some y=>obtain⟨a,b,w,u,rfl⟩:=uq (by simpa using c);cases a<;>cases b<;>simp[nq]at B;obtain⟨rfl,rfl⟩:=B;simp[kB,w,u]
def BU{t:W'}{kk:yY}{k:V}(h:EL E t=some kk)(a:qX kk k=true):Ce E t k=true:=by unfold EL at h;unfold Ce;cases u:E.kindOf t with|none=>grind|some tk=>rw[u]at h;have b:(E.eqN t).map yY.ints=some kk->∃n cs,E.eqN t=some n/\k=.agg cs/\(cs.length==n&&(iL cs).isSome)=true:=(by intro h;simp at h;obtain⟨n,w,rfl⟩:=h;cases k<;>simp[qX]at a<;>first|grind|grind);cases tk with|int z=>simp at h;subst h;cases k<;>simp[qX]at a;grind|str=>simp at h;subst h;cases k<;>simp[qX]at a;rfl|_=>obtain⟨n,cs,c,rfl,B⟩:=b h;simp_all
def jI(hN:∀f s,nm f=some s->N s=f){op:Op}{k:K}{os:aX U'}{vs:S'}(h:resolve E nm op=some (k,os))(g:fC F os=some vs):Ct E N F op vs k:=by
 cases op with
 |move x=>obtain⟨rfl,rfl⟩:=h;obtain⟨a,B,rfl⟩:=pI g;exact⟨rfl,λv w=>by simpa[bN,bK,B]using w⟩|assign x=>obtain⟨rfl,rfl⟩:=h;obtain⟨a,B,rfl⟩:=pI g;exact⟨rfl,λv w=>by simpa[bN,bK,B]using w⟩|pick c a b=>simp[resolve]at h;obtain⟨rfl,rfl⟩:=h;obtain⟨x,y,z,hx,hy,U,rfl⟩:=Jy g;refine⟨rfl,λv w=>?_⟩;cases x<;>simp[bN]at w;rename_i t;subst w;cases t<;>simp[bK,hx,hy,U]|nilCheck x=>simp[resolve]at h;obtain⟨rfl,rfl⟩:=h;obtain⟨a,B,rfl⟩:=pI g;refine⟨rfl,λv w=>?_⟩;cases a<;>simp[bN,NP]at w<;>subst w<;>simp[bK,B]|binOp ai t x y yt=>simp only[resolve,ζa,ζc]at h;obtain⟨rfl,rfl⟩:=h;obtain⟨a,b,B,G,rfl⟩:=uq g;exact⟨rfl,λv w=>by simp only[bK,B,G,UB];exact w⟩|unOp u t x=>cases u with|not=>simp only[resolve,ζa,ζc]at h;obtain⟨rfl,rfl⟩:=h;obtain⟨a,B,rfl⟩:=pI g;refine⟨rfl,λv w=>?_⟩;cases a<;>simp[bN]at w;subst w;simp[bK,B]|neg=>simp only[resolve,ζa,ζc]at h;obtain⟨rfl,rfl⟩:=h;obtain⟨a,B,rfl⟩:=pI g;refine⟨rfl,λv w=>?_⟩;cases a<;>simp[bN]at w;subst w;simp[bK,B]|_=>simp[resolve]at h
 |convert s d x=>
  simp only[resolve]at h;split at h
  .rename_i sd td M hd;split at h;rename_i k j;simp only[ζa,ζc]at h;obtain⟨rfl,rfl⟩:=h;obtain⟨a,B,rfl⟩:=pI g;refine⟨rfl,λv w=>?_⟩;cases a<;>simp[bN]at w;subst w;simp[bK,B,M,hd,j]
   .rename_i j;split at h
    .rename_i e he;split at h
     .rename_i hu;simp only[ζa,ζc]at h;obtain⟨rfl,rfl⟩:=h;obtain⟨a,B,rfl⟩:=pI g;refine⟨rfl,a,rfl,λH ys l n J=>?_⟩;have ab:E.kindOf d=some .str:=(by unfold Env.kindOf;rw[hd,map_some,j]);refine⟨?_,by simp only[evalConv,he,ab,B,hu,n,J,ζb,map_some]⟩;simp only[bK,M,hd,B];cases a<;>first|rfl|(simp only[dM]at n;cases n)
     simp at h
    simp at h
   simp at h
  simp at h
 |fieldAddr s x f=>simp only[resolve]at h;split at h;rename_i fs j;split at h;rename_i off t W;split at h;rename_i d hd;split at h;simp at h;rename_i U;simp only[ζa,ζc]at h;obtain⟨rfl,rfl⟩:=h;obtain⟨a,B,rfl⟩:=pI g;refine⟨rfl,λv w=>?_⟩;simp only[bK,B,j,W,hd,if_neg U];simp only[bN,ru]at w;cases a<;>simp at w⊢ <;>exact w;simp at h;simp at h;simp at h|field s x f=>
  simp only[resolve]at h;split at h
  .rename_i fs j;split at h
   .rename_i off t W;split at h
    .rename_i d hd;simp only[ζa,ζc]at h;obtain⟨rfl,rfl⟩:=h;obtain⟨a,B,rfl⟩:=pI g;refine⟨rfl,λv w=>?_⟩;cases a<;>simp only[bN]at w<;>first|(simp only[bK,B,j,W,hd];exact w)|simp at w
    simp at h
   simp at h
  simp at h
 |indexAddr t x i=>
  simp only[resolve]at h;split at h
  .rename_i e j;simp only[ζf,ζc]at h;obtain⟨d,hd,rfl,rfl⟩:=h;obtain⟨a,b,B,G,rfl⟩:=uq g;refine⟨rfl,λv w=>?_⟩;(cases b<;>simp only[bN]at w<;>first|simp at w;done|skip);simp only[bK,B,G,j,hd];unfold mE at w;exact w
  .rename_i len e j;simp only[ζf,ζc]at h;obtain⟨d,hd,rfl,rfl⟩:=h;obtain⟨a,b,B,G,rfl⟩:=uq g;refine⟨rfl,λv w=>?_⟩;(cases b<;>simp only[bN]at w<;>first|simp at w;done|skip);simp only[bK,B,G,j,hd];unfold yq at w;exact w
  simp at h
 |index t x i=>
  simp only[resolve]at h;split at h
  .rename_i j;simp only[ζa,ζc]at h;obtain⟨rfl,rfl⟩:=h;obtain⟨a,b,B,G,rfl⟩:=uq g;refine⟨rfl,λv w=>?_⟩;(cases a<;>cases b<;>simp only[bN]at w<;>first|simp at w;done|skip);simp only[bK,B,G,j];exact w
  .rename_i len e j;simp only[ζf,ζc]at h;obtain⟨d,hd,rfl,rfl⟩:=h;obtain⟨a,b,B,G,rfl⟩:=uq g;refine⟨rfl,λv w=>?_⟩;(cases a<;>cases b<;>simp only[bN]at w<;>first|simp at w;done|skip);simp only[bK,B,G,j,hd];exact w
  simp at h
 |slice t x lo hi mx=>
  simp only[resolve]at h;split at h
  .rename_i j;simp only[ζa,ζc]at h;obtain⟨rfl,rfl⟩:=h;obtain⟨a,bs,B,G,rfl⟩:=ji g;refine⟨rfl,λv w=>?_⟩;(cases a<;>simp only[bN]at w<;>first|simp at w;done|skip);have⟨⟨l,h⟩,X,w⟩:=ζg.1 w;have⟨n,J⟩:=IF G X;have P:kB F none=some none:=rfl;simp only[bK,B,j,n,J,P];exact w
  rename_i e j;simp only[ζf,ζc]at h;obtain⟨d,hd,rfl,rfl⟩:=h;obtain⟨a,bs,B,G,rfl⟩:=ji g;refine⟨rfl,λv w=>?_⟩;simp only[bN]at w;have⟨⟨l,h⟩,X,w⟩:=ζg.1 w;have⟨n,J⟩:=IF G X;have P:kB F none=some none:=rfl;simp only[bK,B,j,n,J,P,hd];cases a<;>exact w
  .rename_i e m j;split at h
   .rename_i d hh hd;simp only[ζa,ζc]at h;obtain⟨rfl,rfl⟩:=h;obtain⟨a,b,c,B,G,o,rfl⟩:=Jy g;refine⟨rfl,λv w=>?_⟩;(cases b<;>cases c<;>simp only[bN]at w<;>first|simp at w;done|skip);rename_i k1 n1 k2 n2;split at w;rename_i T;simp only[ζh,beq_iff_eq]at T;obtain⟨⟨n,rfl⟩,rfl⟩:=T;have m1:kB F none=some none:=rfl;have m2:kB F (some hh)=some (some 0):=(by simp[kB,G]);have m3:kB F (some m)=some (some 0):=(by simp[kB,o]);simp only[bK,B,j,m1,m2,m3,hd];cases a<;>simp[M7]at n<;>exact w;simp at w
   simp at h
  simp at h
 |build t ps=>
  simp only[resolve]at h;split at h;rename_i d hd;split at h;rename_i fs j;split at h;rename_i pl ad;simp only[ζf,ζc]at h;obtain⟨q,hq,rfl,rfl⟩:=h;refine⟨rfl,λv w=>?_⟩;simp only[bN,ζf]at w;obtain⟨cs,Y,rfl⟩:=w;have⟨ws,R,w2⟩:=IQ (λi=>pl[i]?) _ q vs _ cs hq g Y;simp only[bK,hd,R,j,ad,w2,map_some];simp at h;rename_i len e j;simp only[ζf,ζc]at h;obtain⟨A,ae,rfl,rfl⟩:=h;refine⟨rfl,λv w=>?_⟩;simp only[bN,ζf]at w;obtain⟨cs,Y,rfl⟩:=w;have⟨ws,R,w2⟩:=IQ (λi=>some (i*A.size,A.size)) ps.toList (ps.toList.map λq=>(q.1*A.size,A.size)) vs _ cs (by
   generalize ps.toList=l
   induction l with
   |nil=>rfl|cons x l ih=>simp[List.mapM_cons,ih]) g Y
  simp only[bK,hd,R,j,ae,w2,map_some];simp at h;simp at h
 |makeFunc f a b=>cases f with|func f=>simp only[resolve,ζf,ζc]at h;obtain⟨s,M,rfl,rfl⟩:=h;obtain⟨az,bs,B,G,rfl⟩:=NK g;refine⟨rfl,λv w=>?_⟩;simp only[bN,ζa]at w;subst w;simp only[bK,B,G,hN f s M];rw[<-MI B];simp|_=>simp[resolve]at h
 |extract x i=>simp only[resolve,ζa,ζc]at h;obtain⟨rfl,rfl⟩:=h;obtain⟨a,B,rfl⟩:=pI g;refine⟨rfl,λv w=>?_⟩;(cases a<;>simp only[bN]at w<;>first|simp at w;done|skip);simp only[bK,B];exact w|load t x=>simp only[resolve,ζf,ζc]at h;obtain⟨d,hd,rfl,rfl⟩:=h;obtain⟨a,B,rfl⟩:=pI g;exact⟨rfl,λH v w=>by simp only[d_,hd,B];exact w⟩|lookup t m k ok=>simp only[resolve]at h;split at h;rename_i kt et j;split at h;rename_i d kk hd L;simp only[ζf,ζc]at h;obtain⟨z,U,rfl,rfl⟩:=h;obtain⟨a,b,B,G,rfl⟩:=uq g;refine⟨rfl,λH v w=>?_⟩;simp only[fq]at w;split at w;rename_i aa O;split at w;rename_i Q;simp only[d_,j,B,G,hd,O,BU L Q,if_true,U];split at w;(next W=>rw[W];exact w);(next W=>rw[W];exact w);simp at w;simp at w;simp at w;simp at h;simp at h|alloc t=>simp only[resolve,ζf,ζc]at h;obtain⟨d,hd,rfl,rfl⟩:=h;have:=rI g;subst this;exact⟨rfl,λx w=>by simpa[mB,eX,hd]using w⟩|box t x=>simp only[resolve,ζa,ζc]at h;obtain⟨rfl,rfl⟩:=h;obtain⟨a,B,rfl⟩:=pI g;exact⟨rfl,λx w=>by simp only[eX,B];exact w⟩|makeSlice t l c=>
  simp only[resolve]at h;split at h
  .rename_i e j;split at h
   .rename_i d hd;split at h
    .rename_i S;simp only[ζa,ζc]at h;obtain⟨rfl,rfl⟩:=h;obtain⟨a,b,B,G,rfl⟩:=uq g;refine⟨rfl,λx w=>?_⟩;(cases a<;>cases b<;>simp only[mB]at w<;>first|simp at w;done|skip);rename_i k1 n1 k2 n2;split at w;(next o=>simp only[eX,j,B,G,hd];rw[if_pos ⟨o.1,o.2.1,o.2.2.1,o.2.2.2.1,o.2.2.2.2,S⟩];exact w);simp at w
    simp at h
   simp at h
  simp at h
 |buildSlice t len ps=>simp only[resolve]at h;split at h;rename_i e j;split at h;rename_i d hd;split at h;rename_i S;simp only[ζa,ζc]at h;obtain⟨rfl,rfl⟩:=h;refine⟨rfl,λx w=>?_⟩;have U:=PZ _ _ g;simp only[mB]at w;split at w;simp only[eX,j,U,hd,if_pos S];exact w;simp at w;simp at h;simp at h;simp at h|makeMap t r=>cases r with|none=>simp only[resolve,ζa,ζc]at h;obtain⟨rfl,rfl⟩:=h;have:=rI g;subst this;exact⟨rfl,λx w=>by simpa[mB,eX]using w⟩|some r=>simp[resolve]at h
 |store t p x=>simp only[resolve,ζf,ζc]at h;obtain⟨d,hd,rfl,rfl⟩:=h;obtain⟨a,b,B,G,rfl⟩:=uq g;refine⟨rfl,λH v w=>?_⟩;(cases a<;>simp only[eY]at w<;>first|simp at w;done|skip);simp only[cK,hd,B,G];exact w|mapUpdate t m k x=>
  simp only[resolve]at h;split at h
  .rename_i kt et j;simp only[ζf,ζc]at h;obtain⟨kk,L,rfl,rfl⟩:=h;obtain⟨a,b,c,B,G,o,rfl⟩:=Jy g;refine⟨rfl,λH v w=>?_⟩;(cases a<;>simp only[eY]at w<;>first|simp at w;done|skip);simp only[cK,j,B,G,o];split at w;rename_i aa O;split at w;(next Q=>rw[O];simp only[BU L Q,if_true];exact w);simp at w;simp at w
  simp at h
 |insert t m k x=>
  simp only[resolve]at h;split at h
  .rename_i kt et j;simp only[ζf,ζc]at h;obtain⟨kk,L,rfl,rfl⟩:=h;obtain⟨a,b,c,B,G,o,rfl⟩:=Jy g;refine⟨rfl,λH v w=>?_⟩;(cases a<;>simp only[eY]at w<;>first|simp at w;done|skip);simp only[cK,j,B,G,o];split at w;rename_i aa O;split at w;(next Q=>rw[O];simp only[BU L Q,if_true];exact w);simp at w;simp at w
  simp at h
 |call c=>
  have⟨callee,args,aj⟩:=c
  cases callee with
  |value f=>simp only[resolve,ζa,ζc]at h;obtain⟨rfl,rfl⟩:=h;obtain⟨a,az,B,has,rfl⟩:=ji g;refine⟨rfl,a,az,rfl,?_⟩;simp only[kL,B,has];cases a<;>rfl|builtin b=>
   cases b with
   |append=>simp only[resolve]at h;split at h;rename_i t t' s x I C;split at h;rename_i e e' j Z;split at h;rename_i d hd;split at h;rename_i S;simp only[ζa,ζc]at h;obtain⟨rfl,rfl⟩:=h;obtain⟨a,b,B,G,rfl⟩:=uq g;refine⟨rfl,λH v w=>?_⟩;have D:fC F args.toList=some [a,b]:=(by rw[C];exact g);simp only[cK,I,D,j,Z,hd];simp only[eY]at w;split at w;(next n J=>rw[n,J];exact w);rename_i xs ys af n J;rw[n,J];split at w;rename_i ah;simp only[if_pos (show xs.length+ys.length<=2147483648/\d.bytes<=4096/\0<d.bytes from⟨ah,S⟩)];(cases ys with|nil=>exact absurd rfl af|cons y ys=>exact w);simp at w;simp at w;simp at h;simp at h;rename_i e kk j Z;simp only[ζf,ζc]at h;obtain⟨d,hd,rfl,rfl⟩:=h;obtain⟨a,b,B,G,rfl⟩:=uq g;refine⟨rfl,λH v w=>?_⟩;have D:fC F args.toList=some [a,b]:=(by rw[C];exact g);simp only[cK,I,D,j,Z,hd];exact w;simp at h;simp at h|cap=>
    simp only[resolve]at h;split at h
    .rename_i t x I C;split at h
     .rename_i e j;simp only[ζa,ζc]at h;obtain⟨rfl,rfl⟩:=h;obtain⟨a,B,rfl⟩:=pI g;have D:fC F args.toList=some [a]:=(by rw[C];exact g);refine⟨rfl,λx w=>?_⟩;simp only[bK,I,D,j];simp only[bN]at w;cases a<;>simp only[IA]at w<;>first|(simp at w;done)|exact w
     simp at h
    simp at h
   |clear=>simp only[resolve]at h;split at h;rename_i t x I C;split at h;rename_i e j;simp only[ζf,ζc]at h;obtain⟨d,hd,rfl,rfl⟩:=h;obtain⟨a,B,rfl⟩:=pI g;have D:fC F args.toList=some [a]:=(by rw[C];exact g);refine⟨rfl,λH v w=>?_⟩;simp only[cK,I,D,j,hd];exact w;simp at h;simp at h|len=>
    simp only[resolve]at h;split at h
    .rename_i t x I C;split at h
     .rename_i j;simp only[ζa,ζc]at h;obtain⟨rfl,rfl⟩:=h;obtain⟨a,B,rfl⟩:=pI g;have D:fC F args.toList=some [a]:=(by rw[C];exact g);refine⟨rfl,λv w=>?_⟩;(cases a<;>simp only[bN]at w<;>first|simp at w;done|skip);simp only[bK,D,I,j];exact w
     rename_i e j;simp only[ζa,ζc]at h;obtain⟨rfl,rfl⟩:=h;obtain⟨a,B,rfl⟩:=pI g;have D:fC F args.toList=some [a]:=by rw[C];exact g
     refine⟨rfl,λv w=>?_⟩;simp only[bK,D,I,j];simp only[bN,oP]at w;cases a<;>simp at w⊢ <;>exact w;simp at h
    simp at h
   |max=>
    simp only[resolve]at h;split at h
    .rename_i x y C;simp only[ζa,ζc]at h;obtain⟨rfl,rfl⟩:=h;obtain⟨a,b,B,G,rfl⟩:=uq g;have D:fC F args.toList=some [a,b]:=(by rw[C];exact g);refine⟨rfl,λv w=>?_⟩;(cases a<;>cases b<;>simp only[bN]at w<;>first|simp at w;done|skip);simp only[bK,D];exact w
    .rename_i x y z t C;simp only[ζa,ζc]at h;obtain⟨rfl,rfl⟩:=h;obtain⟨a,ak,B,J,rfl⟩:=ji g;obtain⟨b,c,d,G,o,hd,rfl⟩:=Jy J;have D:fC F args.toList=some [a,b,c,d]:=(by rw[C];exact g);refine⟨rfl,λv w=>?_⟩;(cases a<;>cases b<;>simp only[bN]at w<;>first|simp at w;done|skip);(cases c<;>cases d<;>simp only[bN]at w<;>first|simp at w;done|skip);simp only[bK,D];exact w
    simp at h
   |min=>
    simp only[resolve]at h;split at h
    .rename_i x y C;simp only[ζa,ζc]at h;obtain⟨rfl,rfl⟩:=h;obtain⟨a,b,B,G,rfl⟩:=uq g;have D:fC F args.toList=some [a,b]:=(by rw[C];exact g);refine⟨rfl,λv w=>?_⟩;(cases a<;>cases b<;>simp only[bN]at w<;>first|simp at w;done|skip);simp only[bK,D];exact w
    simp at h
   |_=>simp[resolve]at h
  |_=>simp[resolve]at h
 |panic x=>simp only[resolve,ζa,ζc]at h;obtain⟨rfl,rfl⟩:=h;have:=rI g;subst this;exact⟨rfl,λx w=>by simp[bN]at w⟩|makeInterface t x=>simp only[resolve,ζa,ζc]at h;obtain⟨rfl,rfl⟩:=h;have:=rI g;subst this;exact⟨rfl,λx w=>by simp[bN]at w⟩|_=>simp[resolve]at h
end
structure BD(c c':dP):Prop where
 lv:c.lv<=c'.lv
 go:∀x a H r,c x a H=some r->c' x a H=some r
section
variable{E:Env}{c c':dP}{n:Nat}{ops:Rd}{F F':WF}{H H':bk}
def I7{f:Y'}{args:S'}{y:V}(hi:b8 c f args H=some y):∃az,borrows c.lv H args=some az:=by
 unfold b8 at hi;split at hi;next az h=>exact⟨az,h⟩
 cases hi
def EH(B:c.lv<=c'.lv){f:Y'}(h:∀a H r,c (.fn f) a H=some r->c' (.fn f) a H=some r){args:S'}{y:V}(hi:b8 c f args H=some y):b8 c' f args H=some y:=by
 unfold b8 at hi⊢;split at hi;rename_i az u;rw[tX B u];split at hi;rename_i b;simp only;rw[h _ _ _ b];split at hi;next w=>simp only;rw[tB B w];exact hi
 cases hi;simp at hi;simp at hi
def oR(h:BD c c'){f:Y'}{args:S'}{y:V}(hi:b8 c f args H=some y):b8 c' f args H=some y:=EH h.lv (λ_ _ _=>h.go _ _ _ _) hi
def nE(B:c.lv<=c'.lv){f:Y'}{args:S'}{y:V}(hi:b8 c f args H=some y):dh (ct c'.lv H) args=dh (ct c.lv H) args:=by have⟨az,h⟩:=I7 hi;exact Ac B h
def D0(B:c.lv<=c'.lv){f:Y'}(h:∀a H r,c (.fn f) a H=some r->c' (.fn f) a H=some r){args:S'}{r:V×bk}(hi:mK c f args H=some r):mK c' f args H=some r:=by
 unfold mK at hi⊢;split at hi;rename_i az u;rw[tX B u];split at hi;next b=>simp only;rw[h _ _ _ b];exact hi
 simp at hi;simp at hi
def IL(h:BD c c'){f:Y'}{args:S'}{r:V×bk}(hi:mK c f args H=some r):mK c' f args H=some r:=D0 h.lv (λ_ _ _=>h.go _ _ _ _) hi
def BC(h:BD c c'){f:Y'}{args:S'}{r:V×bk}(hi:gG E c f args H=some r):gG E c' f args H=some r:=by
 unfold gG at hi⊢;split;next u=>rw[if_pos u]at hi;exact IL h hi
 rename_i u;rw[if_neg u]at hi;exact h.go _ _ _ _ hi
def Bs(T:c.lv<=c'.lv){f:Y'}{args:S'}{y G:V}{b:Nat}(a:b8 c f args (H.take b)=none)(B:b8 c f args H=some y)(D:b8 c' f args (H.take b)=some G):False:=by
 unfold b8 at a B D;split at D;rename_i az d;split at B;rename_i I u;have e:=pe (λx y z k1 k2=>Ly (H2:=H.take b) c.lv c'.lv x y z k1 k2 λid w=>by
  rw[getElem?_take]at w⊢;split at w
  next C=>rw[if_pos C]
  cases w) u d
 have J:borrows c.lv H args=some az:=tW (CO c.lv) e;rw[J]at u;cases u;rw[show borrows c.lv (H.take b) args=some az from e]at a;simp only at a;rw[a]at B;simp at B;simp at B;simp at D
def Qp(h:BD c c'){place:aY (Nat×Nat)}{op:Op}{r:V×bk}(hi:c_ E c ops place F H op=some r):c_ E c' ops place F H op=some r:=by
 unfold c_ at hi⊢;split at hi;exact hi;exact hi;exact hi;exact hi;split at hi
 .rename_i f args B;split at hi;rotate_left;cases hi;rename_i C;rw[if_pos C];unfold eu at hi⊢;split at hi;rename_i a;rw[if_pos a];split at hi;exact BC h hi;skip;split at hi;(next z=>rw[if_pos z];exact BC h hi);simp at hi;rename_i a;rw[if_neg a];split at hi;skip;split at hi;(next y u=>rw[oR h u,nE h.lv u];exact hi);simp at hi;rename_i b i;skip;split at hi;(next y u=>rw[oR h u,nE h.lv u];exact hi);rename_i w;split at hi;rename_i z;split at hi;rename_i y u;(cases D:b8 c' f args (List.take b H)with|some G=>exact(Bs h.lv w u D).elim|none=>simp only[if_pos z,oR h u,nE h.lv u];exact hi);simp at hi;simp at hi
 rename_i id args B;split at hi;exact h.go _ _ _ _ hi;skip;split at hi;next z=>rw[if_pos z];exact h.go _ _ _ _ hi
 simp at hi;simp at hi
def EB(h:BD c c'){place:aY (Nat×Nat)}{o:Oper}{r:WF×bk}(hi:gQ E c n ops place o F H=some r):gQ E c' n ops place o F H=some r:=by
 unfold gQ at hi⊢;split at hi;rename_i u;rw[if_pos u];split at hi;next v H1 hd=>rw[Qp h hd];exact hi
 simp at hi;rename_i u;rw[if_neg u];exact hi
def CI(h:BD c c'){r:WF×bk}:∀(l:Rd){F:WF}{H:bk},mU E c n ops l F H=some r->mU E c' n ops l F H=some r
 |[],_,_,hi=>hi|o::l,F,H,hi=>by simp only[mU]at hi⊢;split at hi;(next F1 H1 B=>rw[EB h B];exact CI h l hi);simp at hi
def CU(h:BD c c'){base:Nat}{r:WF×bk}:∀(l:So){F:WF}{H:bk},kF E c n ops base l F H=some r->kF E c' n ops base l F H=some r
 |[],_,_,hi=>hi|i::l,F,H,hi=>by simp only[kF]at hi⊢;split at hi;split at hi;(next F1 H1 B=>rw[EB h B];exact CU h l hi);simp at hi;simp at hi
def FX(h:BD c c'){B:X'}{r:WF×bk}(hi:j8 E c n ops B F H=some r):j8 E c' n ops B F H=some r:=by
 unfold j8 at hi⊢;split;rename_i hd;rw[if_pos hd]at hi;split at hi;next u=>rw[if_pos u];exact CU h _ hi
 simp at hi;rename_i hd;rw[if_neg hd]at hi;exact CI h _ hi
def Ax{s J:WF->bk->aY (Out×WF×bk)}(h:∀F H r,s F H=some r->J F H=some r):∀(k B:Nat),k<=B->∀{F H r},lF s k F H=some r->lF J B F H=some r
 |0,_,_,F,H,r,hi=>by simp[lF]at hi|k+1,0,hk,F,H,r,hi=>Zaa|k+1,B+1,hk,F,H,r,hi=>by simp only[lF]at hi⊢;split at hi;(next F1 H1 T=>rw[h _ _ _ T];exact Ax h k B Zaa hi);rename_i D;rw[h _ _ _ hi];split;(next F1 H1 G=>cases G;exact absurd hi (D _ _));rfl
def Bj(h:BD c c'){lf B:Nat}(T:lf<=B)(ro:X')(e:Nat):∀(code:Code){F:WF}{H:bk}{r:Out×WF×bk},exec E c lf ro e code F H=some r->exec E c' B ro e code F H=some r:=by intro code;induction code with|skip=>intro F H r hi;exact hi|label l=>intro F H r hi;exact hi|region id ops J=>intro F H r hi;simp only[exec,ζf]at hi⊢;obtain⟨x,L,rfl⟩:=hi;exact⟨x,FX h L,rfl⟩|seq a b u z=>intro F H r hi;simp only[exec]at hi⊢;split at hi;(next F1 H1 d=>rw[u d];exact z hi);rename_i C;rw[u hi];split;(next D=>cases D;exact absurd hi (C _ _));rfl|cond x a b u z=>intro F H r hi;simp only[exec]at hi⊢;split at hi;rename_i t S;split at hi;(next G=>subst G;simp only[if_true];exact u hi);rename_i G;rw[if_neg G];exact z hi;simp at hi|block id a I=>intro F H r hi;simp only[exec]at hi⊢;split at hi;(next O F1 H1 d=>rw[I d];exact hi);rename_i C;rw[I hi];split;(next D=>cases D;exact absurd hi (C _ _ _));rfl|loop a I=>intro F H r hi;simp only[exec]at hi⊢;exact Ax (λF H r f=>I f) lf B T hi|rangeFunc g ps U W _ _=>intro F H r hi;simp only[exec]at hi⊢;split at hi;split at hi;(next Q H1 i=>rw[h.go _ _ _ _ i];exact hi);simp at hi;simp at hi|exit id=>intro F H r hi;exact hi|ret=>intro F H r hi;exact hi|scope a _=>intro F H r hi;simp[exec]at hi|goto l=>intro F H r hi;simp[exec]at hi|refuse w=>intro F H r hi;simp[exec]at hi
def Iu(E:Env):∀n,BD (run E n) (run E (n+1)):=by intro n;induction n with|zero=>exact⟨le_succ _,λx a H r h=>(by cases h)⟩|succ n u=>refine⟨le_succ _,λx a H r h=>?_⟩;rw[Ig]at h⊢;cases x with|fn f=>rw[ku]at h⊢;split at h;rename_i U O;split at h;rename_i B;rw[if_pos B];split at h;simp at h;rename_i o F1 H1 C Q;rw[Bj u (le_succ n) _ _ _ Q];(cases o with|exit id=>exact(C id rfl).elim|norm=>exact h|ret=>exact h);simp at h;simp at h;split at h;(next D=>rw[if_pos D];exact Fk u.lv (λg args y _ S=>oR u S) h);rename_i D;rw[if_neg D];exact h|yld id=>rw[ku]at h⊢;split at h;rename_i b L;split at h;rename_i T;split at h;rename_i w;split at h;rename_i W H2 G;split at h;rename_i r2 I;split at h;rename_i z;split at h;(next o X Y J=>simp only[if_pos w,Bj u (le_succ n) _ _ _ G,I,z,Bj u (le_succ n) _ _ _ J];exact h);simp at h;simp at h;simp at h;simp at h;simp at h;simp at h;simp at h
def pT(E:Env){n m:Nat}(h:n<=m):BD (run E n) (run E m):=by induction h with|refl=>exact⟨le_refl _,λ_ _ _ _ h=>h⟩|step _ u=>exact⟨Nat.le_trans u.lv (Iu E _).lv,λx a H r h=>(Iu E _).go x a H r (u.go x a H r h)⟩
theorem oS(E:Env):∀n,(run E n).lv=n
 |0=>rfl|_+1=>rfl
end
def MX(P:Program)(f:Y'):aY FI:=(P.funcs[f]?).bind λfn=>fn.body.map λb=>⟨fn.ntmps,fn.results.toList,b⟩
def B3(P:Program):X':=P.funcs.toList.all λfn=> !(fn.name== "runtime.NumGoroutine")
def UY{P:Program}(h:B3 P=true){f:Y'}{fi:FI}(B:MX P f=some fi):∃fn,P.funcs[f]?=some fn/\fn.body=some fi.body/\fn.ntmps=fi.ntmps/\fn.results.toList=fi.results/\(fn.name== "runtime.NumGoroutine")=false:=by unfold MX at B;have⟨fn,h1,w⟩:=ζg.1 B;obtain⟨b,z,rfl⟩:=ζf.1 w;refine⟨fn,h1,z,rfl,rfl,?_⟩;unfold B3 at h;rw[List.all_eq_true]at h;have C:=h fn (by obtain⟨u,rfl⟩:=Array.getElem?_eq_some_iff.1 h1;exact Array.mem_toList_iff.2 (Array.getElem_mem u));simpa using C
def EX(P:Program)(shut keep own:So)(two:aX (Nat×Nat))(a:Y'->X')(known:Y'->S'->aY V):Env where
 tt:=xM P
 ft f:=if shut.contains f then none else MX P f
 keep:=keep.contains
 own:=own.contains
 eqN t:=lk two t
 sort:=a
 known:=known
def I8{P:Program}{shut keep own:So}{two:aX (Nat×Nat)}{a:Y'->X'}{known:Y'->S'->aY V}(h:B3 P=true)(B:∀p∈two,x6 P p.1 p.2):eG P (EX P shut keep own two a known)where
 tt t d h:=h
 ft f w u:=by change(if shut.contains f then none else MX P f)=some w at u;split at u;cases u;exact UY h u
 eqN t n z:=B (t,n) (OV z)
section
variable{P:Program}{I:cG}{μ:Mu}{H:bk}{w:World}{n:Nat}
variable{f A S e:Nat}{fn:Func}{bytes i1 i2 i3 i4 t1 t2 t6 t7:Nat}{p1 p2 p3 p4 p5 p6 p7:String}{e1 e2 e3 e4 e5 e6 e7:Array Edge}
end
end Go.VE
namespace Go.VE
variable[bT]
variable{P:Program}
def Ka(a:SW)(j:Nat):(ic a)[j]?=(a[j]?).map (Value.int .i64):=by simp[ic]
def HA{i:W'}{a b:SW}{n:Nat}(G:a.length=n)(J:b.length=n)(hi:xM P i=some ⟨1,8,[.int .i64 0],.int .i64⟩)(B:P.underlying i=some (.int .i64))(d:Nat)(w:World):
 ∀(m k:Nat),k+m=n->(eqItems (d+1) i 1 (ic a) (ic b) (range' k m)).run P w=.ok (a.drop k==b.drop k) w
 |0,k,h=>by have c:a.drop k=[]:=List.drop_eq_nil_of_le Zaa;have I:b.drop k=[]:=List.drop_eq_nil_of_le Zaa;simp[eqItems,c,I]|m+1,k,h=>by have u:k<a.length:=Zaa;have z:k<b.length:=Zaa;have pa:(part i (ic a) (k*1)).run P w=.ok (.int .i64 a[k]) w:=sW hi (by rw[Ka,mul_one];simp[u]);have L:(part i (ic b) (k*1)).run P w=.ok (.int .i64 b[k]) w:=sW hi (by rw[Ka,mul_one];simp[z]);have q:(equalIn (d+1) i (.int .i64 a[k]) (.int .i64 b[k])).run P w=.ok (a[k]==b[k]) w:=CL d _ _ B;have O:=HA G J hi B d w m (k+1) Zaa;have C:=List.drop_eq_getElem_cons u;have D:=List.drop_eq_getElem_cons z;simp only[List.range'_succ,eqItems,run_bind,pa,L,q,andThen_ok];by_cases e:a[k]=b[k];rw[C,D,List.cons_beq_cons,e];simp only[beq_self_eq_true,Bool.not_true,Bool.true_and,if_false,Bool.false_eq_true];exact O;have:(a[k]==b[k])=false:=(by simpa using e);rw[C,D,List.cons_beq_cons,this];simp only[Bool.not_false,if_true,Bool.false_and,run_pure]
def JL{i:W'}{a:SW}{n:Nat}(e:X')(G:a.length=n)(hi:xM P i=some ⟨1,8,[.int .i64 0],.int .i64⟩)(B:P.underlying i=some (.int .i64))(d:Nat)(w:World):
 ∀(m k:Nat),k+m=n->(forIn (range' k m) PUnit.unit (λj(_:PUnit)=>do
  let s<-sizeOf i
  let v<-part i (ic a) (j*s)
  checkKey e (d+1) i v
  pure (ForInStep.yield PUnit.unit)):Sem PUnit).run P w=.ok PUnit.unit w
 |0,k,h=>Zab|m+1,k,h=>by have D:k<a.length:=Zaa;have pa:(part i (ic a) (k*1)).run P w=.ok (.int .i64 a[k]) w:=sW hi (by rw[Ka,mul_one];simp[D]);have z:(sizeOf i).run P w=.ok 1 w:=(qM.MO hi).k_;have q:(checkKey e (d+1) i (.int .i64 a[k])).run P w=.ok () w:=BB d e _ B;have u:=JL e G hi B d w m (k+1) Zaa;simp only[List.range'_succ,List.forIn_cons,run_bind,z,pa,q,andThen_ok,run_pure]at u⊢;exact u
def x6.arr{t i:W'}{n:Nat}(c:P.underlying t=some (.array n i))(hi:xM P i=some ⟨1,8,[.int .i64 0],.int .i64⟩)(J:P.underlying i=some (.int .i64))(T:P.eqGuardType P.depth t=false):x6 P t n:=by
 have⟨Q,z,B,O,_⟩:=(qM.MO hi).info;have C:P.cellsOf i=1:=by unfold Program.cellsOf;simp[B,O]
 have D:∀(w:World)(a b:SW),a.length=n->b.length=n->(equal t (.agg (ic a)) (.agg (ic b))).run P w=.ok (a==b) w:=by intro w a b G I;show(equalIn (9999+1) t _ _).run P w=_;rw[run_equalIn_array w 9999 _ _ c B,C,List.range_eq_range'];simpa using HA G I hi J 9998 w n 0 Zaa
 have L:∀(op:BinOp)(p q:U')(w:World)(u v:Array WP),(eqGuard op t p q (.agg u) (.agg v)).run P w=.ok () w:=by intro op p q w u v;unfold eqGuard;cases op<;>simp[run_bind,run_program,andThen,T]
 refine⟨?_,?_,D,?_,⟨_,c,.inl ⟨_,_,rfl⟩⟩⟩;intro w p q a b G I;rw[run_bind,L,andThen_ok];show(do pure (Value.bool (<-equal t (.agg (ic a)) (.agg (ic b)))):Sem WP).run P w=_;rw[run_bind,D _ _ _ G I];rfl;intro w p q a b G I;rw[run_bind,L,andThen_ok];show(do pure (Value.bool (!(<-equal t (.agg (ic a)) (.agg (ic b))))):Sem WP).run P w=_;rw[run_bind,D _ _ _ G I];rfl;intro w e a G;show(checkKey e (9999+1) t _).run P w=_;unfold checkKey;simp only[run_bind,dS c,andThen_ok];have:=JL e G hi J 9998 w n 0 Zaa;simp only[Std.Legacy.Range.forIn_eq_forIn_range',Std.Legacy.Range.size,Nat.sub_zero,Nat.add_one_sub_one,Nat.div_one];rw[show(9998+1:Nat)=9999 from rfl]at this;rw[this];rfl
end Go.VE
namespace Go.VE
variable[bT]
variable{P:Program}
end Go.VE
namespace Go.VE
variable[bT]
structure CR(E:Env)(c c':dP):Prop where
 lv:c.lv<=c'.lv
 OZ:∀f args H y,E.keep f=false->b8 c f args H=some y->b8 c' f args H=some y
 dir:∀f args H r,E.keep f=true->c (.fn f) args H=some r->c' (.fn f) args H=some r
 yld:∀id args H r,c (.yld id) args H=some r->c' (.yld id) args H=some r
 rng:∀f args H r,H≠[]->c (.fn f) args H=some r->c' (.fn f) args H=some r
section
variable{E:Env}{c c':dP}{n:Nat}{ops:Rd}{F F':WF}{H H':bk}
def Lu(h:CR E c c'){f:Y'}{args:S'}{r:V×bk}(a:E.keep f=true)(hi:mK c f args H=some r):mK c' f args H=some r:=D0 h.lv (λ_ _ _=>h.dir _ _ _ _ a) hi
def CG(h:CR E c c'){f:Y'}{args:S'}{r:V×bk}(a:E.keep f=true)(hi:gG E c f args H=some r):gG E c' f args H=some r:=by
 unfold gG at hi⊢;split;next u=>rw[if_pos u]at hi;exact Lu h a hi
 rename_i u;rw[if_neg u]at hi;exact h.dir _ _ _ _ a hi
def CQ{place:aY (Nat×Nat)}{f:Y'}(h:lI E ops place f=true):E.keep f=true:=by unfold lI at h;grind
def CR.any(h:CR E c c'){f:Y'}{args:S'}{H:bk}{y:V}(hi:b8 c f args H=some y):b8 c' f args H=some y:=by cases a:E.keep f with|false=>exact h.OZ _ _ _ _ a hi|true=>exact EH h.lv (λ_ _ _=>h.dir _ _ _ _ a) hi
def S7(h:CR E c c'){place:aY (Nat×Nat)}{op:Op}{r:V×bk}(hi:c_ E c ops place F H op=some r):c_ E c' ops place F H op=some r:=by
 unfold c_ at hi⊢;split at hi;omega;omega;omega;omega;split at hi
 .rename_i f args C;split at hi;rotate_left;cases hi;rename_i B;rw[if_pos B];unfold eu at hi⊢;split at hi;rename_i a;rw[if_pos a];split at hi;exact CG h (CQ a) hi;split at hi;(next z=>rw[if_pos z];exact CG h (CQ a) hi);grind;rename_i a;rw[if_neg a];split at hi;split at hi;(next y u=>rw[h.any u,nE h.lv u];exact hi);grind;rename_i b i;split at hi;(next y u=>rw[h.any u,nE h.lv u];exact hi);rename_i w;split at hi;rename_i z;split at hi;rename_i y u;(cases D:b8 c' f args (List.take b H)with|some G=>exact(Bs h.lv w u D).elim|none=>simp only[if_pos z,h.any u,nE h.lv u];exact hi);grind;grind
 split at hi;exact h.yld _ _ _ _ hi;split at hi;next z=>rw[if_pos z];exact h.yld _ _ _ _ hi
 grind;grind
def GS(h:CR E c c'){place:aY (Nat×Nat)}{o:Oper}{r:WF×bk}(hi:gQ E c n ops place o F H=some r):gQ E c' n ops place o F H=some r:=by
 unfold gQ at hi⊢;split at hi;rename_i u;rw[if_pos u];split at hi;next v H1 hd=>rw[S7 h hd];omega
 grind;grind
def Fh(h:CR E c c'){r:WF×bk}:∀(l:Rd){F:WF}{H:bk},mU E c n ops l F H=some r->mU E c' n ops l F H=some r
 |[],_,_,hi=>hi|o::l,F,H,hi=>by simp[mU]at hi⊢;split at hi;(next F1 H1 B=>rw[GS h B];exact Fh h l hi);grind
def Es(h:CR E c c'){base:Nat}{r:WF×bk}:∀(l:So){F:WF}{H:bk},kF E c n ops base l F H=some r->kF E c' n ops base l F H=some r
 |[],_,_,hi=>hi|i::l,F,H,hi=>by simp[kF]at hi⊢;split at hi;split at hi;(next F1 H1 B=>rw[GS h B];exact Es h l hi);grind;grind
def HT(h:CR E c c'){B:X'}{r:WF×bk}(hi:j8 E c n ops B F H=some r):j8 E c' n ops B F H=some r:=by
 unfold j8 at hi⊢;split;rename_i hd;rw[if_pos hd]at hi;split at hi;next u=>rw[if_pos u];exact Es h _ hi
 grind;rename_i hd;rw[if_neg hd]at hi;exact Fh h _ hi
def DL(h:CR E c c'){lf B:Nat}(G:lf<=B)(ro:X')(d:Nat):∀(code:Code){F:WF}{H:bk}{r:Out×WF×bk},exec E c lf ro d code F H=some r->exec E c' B ro d code F H=some r:=by intro code;induction code with|skip=>intro F H r hi;exact hi|label l=>intro F H r hi;exact hi|region id ops C=>intro F H r hi;simp only[exec,ζf]at hi⊢;obtain⟨x,I,rfl⟩:=hi;exact⟨x,HT h I,rfl⟩|seq a b u z=>intro F H r hi;simp[exec]at hi⊢;grind|cond x a b u z=>intro F H r hi;simp[exec]at hi⊢;grind|block id a D=>intro F H r hi;simp[exec]at hi⊢;grind|loop a D=>intro F H r hi;exact Ax (λF H r e=>D e) lf B G hi|rangeFunc g ps L O _ _=>intro F H r hi;simp[exec]at hi⊢;split at hi;split at hi;(next J H1 f=>rw[h.rng _ _ _ _ Zab f];omega);grind;grind|exit id=>intro F H r hi;exact hi|ret=>intro F H r hi;exact hi|scope a _=>intro F H r hi;simp[exec]at hi|goto l=>intro F H r hi;simp[exec]at hi|refuse w=>intro F H r hi;simp[exec]at hi
def A1(h:CR E c c'){n m:Nat}(B:n<=m){x:Callee}{a:S'}{r:V×bk}(hi:ku E c n x a H=some r):ku E c' m x a H=some r:=by cases x with|fn f=>rw[ku]at hi⊢;split at hi;split at hi;rename_i G;split at hi;simp_all;rename_i o F1 H1 I J;rw[DL h B _ _ _ J];grind;grind;grind;split at hi;(next L=>rw[if_pos L];exact Fk h.lv (λg args y b O=>h.OZ _ _ _ _ b O) hi);grind|yld id=>rw[ku]at hi⊢;split at hi;split at hi;split at hi;rename_i u;split at hi;rename_i Q H2 z;split at hi;rename_i r2 C;split at hi;rename_i w;split at hi;(next o S T D=>simp only[if_pos u,DL h B _ _ _ z,C,w,DL h B _ _ _ D];omega);grind;grind;grind;grind;grind;grind;grind
mutual
def V.same:Nat->V->V->X'
 |0,_,_=>false|_+1,.bool a,.bool b=>a==b|_+1,.int k a,.int l b=>decide (k=l)&&decide (a=b)|_+1,.str a,.str b=>decide (a.data.toList=b.data.toList)|_+1,.bG,.bG=>true|_+1,.dH,.dH=>true|_+1,.iF,.iF=>true|_+1,.gR,.gR=>true|_+1,.tI,.tI=>true|n+1,.agg a,.agg b=>V.sD n a b|n+1,.tup a,.tup b=>V.sD n a b|n+1,.fptr a,.fptr b=>V.sD n a b|n+1,.fsl e a,.fsl B b=>beq e B&&V.Br n a b|n+1,.clo f a b,.clo D a' G=>beq f D&&V.sD n a a'&&V.sD n b G|_+1,_,_=>false
def V.sD:Nat->S'->S'->X'
 |0,_,_=>false|_+1,[],[]=>true|n+1,a::r,b::s=>V.same n a b&&V.sD n r s|_+1,_,_=>false
def V.Br:Nat->T2->T2->X'
 |0,_,_=>false|_+1,[],[]=>true|n+1,a::r,b::s=>V.sD n a b&&V.Br n r s|_+1,_,_=>false
end
def Ve:∀n,(∀a b,V.same n a b=true->a=b)/\(∀a b,V.sD n a b=true->a=b)/\(∀a b,V.Br n a b=true->a=b):=by
 intro n
 induction n with
 |zero=>exact⟨λa b h=>by simp[V.same]at h,λa b h=>by simp[V.sD]at h,λa b h=>by simp[V.Br]at h⟩|succ n u=>
  have⟨i1,i2,i3⟩:=u;refine⟨λa b h=>?_,λa b h=>?_,λa b h=>?_⟩
  .cases a<;>cases b<;>simp only[V.same,ζh,decide_eq_true_eq,Bool.false_eq_true]at h<;>first|rfl|grind|skip
   all_goals first
    |grind|grind|grind|(rw[Nat.eq_of_beq_eq_true h.1,i3 _ _ h.2])|(rw[Nat.eq_of_beq_eq_true h.1.1,i2 _ _ h.1.2,i2 _ _ h.2])|(congr 1;exact ByteArray.ext (ext' h))
  .cases a<;>cases b<;>simp[V.sD]at h<;>first|rfl|grind|grind
  cases a<;>cases b<;>simp[V.Br]at h<;>first|rfl|grind|grind
structure fI where
 f:FuncId
 az:List V
 y:V
def Aw:aX fI->Y'->S'->aY V
 |[],_,_=>none|k::r,f,az=>bif beq k.f f&&V.sD 1000 k.az az then some k.y else Aw r f az
def DE:∀{l:aX fI}{f:Y'}{az:S'}{y:V},Aw l f az=some y->∃k∈l,k.f=f/\k.az=az/\k.y=y
 |[],_,_,_,h=>by simp[Aw]at h|k::r,f,az,y,h=>by unfold Aw at h;cases B:beq k.f f&&V.sD 1000 k.az az with|true=>simp only[ζh]at B;exact⟨k,mem_cons_self ..,Nat.eq_of_beq_eq_true B.1,(Ve 1000).2.1 _ _ B.2,Zac⟩|false=>rw[B]at h;have⟨q,a,D⟩:=DE h;grind
def H9(E:Env)(l:aX fI)(c:dP)(n:Nat):Callee->S'->bk->aY (V×bk)
 |.fn f,az,[]=>match Aw l f az with
  |some y=>some (y,[])|none=>ku E c n (.fn f) az []
 |x,az,H=>ku E c n x az H
def runM(E:Env)(l:aX fI):Nat->dP
 |0=>⟨0,λ_ _ _=>none⟩|n+1=>⟨n+1,H9 E l (runM E l n) n⟩
def VP(E:Env)(l:aX fI):∀n,(runM E l n).lv=n
 |0=>rfl|_+1=>rfl
def OX{l:aX fI}{n:Nat}{x:Callee}{a:S'}{H:bk}:runM E l (n+1) x a H=H9 E l (runM E l n) n x a H:=rfl
def xA(E:Env)(n:Nat)(k:fI):Prop:=∃r H1,run E n (.fn k.f) k.az []=some (r,H1)/\borrow n H1 r=some k.y
structure gz(E:Env)(k:fI):Prop where
 keep:E.keep k.f=false
 cl:k.y.closed=true
 at_:∃n,xA E n k
def xA.le{n m:Nat}{k:fI}(h:xA E n k)(B:n<=m):xA E m k:=by have⟨r,H1,a,u⟩:=h;exact⟨r,H1,(pT E B).go _ _ _ _ a,tB B u⟩
def Be:∀{l:aX fI},(∀k∈l,gz E k)->∃N,∀k∈l,xA E N k
 |[],_=>⟨0,Zab⟩|k::r,h=>by have⟨N,B⟩:=Be (λq a=>h q (mem_cons_of_mem _ a));have⟨n,u⟩:=(h k (mem_cons_self ..)).at_;refine⟨max N n,λq a=>?_⟩;rcases mem_cons.1 a with rfl|a;exact u.le (Nat.le_max_right ..);exact(B q a).le (Nat.le_max_left ..)
def BK{l:aX fI}{x:Callee}{az:S'}(h:H≠[]\/(∃id,x=.yld id)\/∃f,x=.fn f/\Aw l f az=none):runM E l (n+1) x az H=ku E (runM E l n) n x az H:=by
 rcases h with h|⟨id,rfl⟩|⟨f,rfl,h⟩;cases x with|yld id=>rfl|fn f=>cases H with|nil=>exact absurd rfl h|cons a r=>rfl
 rfl;cases H with|nil=>rw[OX,H9,h]|cons a r=>rfl
def LI{l:aX fI}{N:Nat}(D:∀k∈l,gz E k)(G:∀k∈l,xA E N k):∀n,CR E (runM E l n) (run E (N+n)):=by intro n;induction n with|zero=>refine⟨Nat.zero_le _,λf args H y _ h=>?_,λf args H r _ h=>(by cases h),λid args H r h=>(by cases h),λf args H r _ h=>(by cases h)⟩;unfold b8 at h;split at h;cases h;cases h|succ n I=>have up:∀{x:Callee}{az:S'}{H:bk}{r:V×bk},ku E (runM E l n) n x az H=some r->run E (N+(n+1)) x az H=some r:=λh=>(by rw[show N+(n+1)=(N+n)+1 from rfl,Ig];exact A1 I (le_add_left ..) h);have w:(runM E l (n+1)).lv<=(run E (N+(n+1))).lv:=(by rw[VP,oS];exact le_add_left ..);refine⟨w,λf args H y b h=>?_,λf args H r b h=>?_,λid args H r h=>?_,λf args H r B h=>?_⟩;unfold b8 at h⊢;split at h;rename_i az c;rw[tX w c];split at h;rename_i r H1 a;(cases z:Aw l f az with|none=>rw[BK (.inr (.inr ⟨f,rfl,z⟩))]at a;simp only;rw[up a];split at h;(next Q J=>simp only;rw[tB w J];exact h);cases h|some S=>rw[OX,H9,z]at a;obtain⟨rfl,rfl⟩:=a;obtain⟨k,u,rfl,rfl,rfl⟩:=DE z;have ok:=D k u;have⟨r1,H2,d,L⟩:=(G k u).le (Nat.le_add_right N (n+1));rw[jK _ _ ok.cl]at h;simp only[d,oS,L];exact h);cases h;cases h;by_cases z:H≠[]\/(∃id,(Callee.fn f)=.yld id)\/∃C,Callee.fn f=.fn C/\Aw l C args=none;rw[BK z]at h;exact up h;(cases O:Aw l f args with|none=>grind|some y=>obtain⟨k,u,rfl,_,_⟩:=DE O;rw[(D k u).keep]at b;cases b);exact up h;rw[BK (.inl B)]at h;exact up h
def X_(E:Env)(l:aX fI)(n:Nat)(k:fI):aY V:=
 match ku E (runM E l n) n (.fn k.f) k.az []with
 |some (r,H1)=>borrow n H1 r|none=>none
def iz{l:aX fI}(B:∀k∈l,gz E k){k:fI}(h:(X_ E l n k,k.y.closed,E.keep k.f)=(some k.y,true,false)):gz E k:=by simp at h;have⟨N,u⟩:=Be B;refine⟨h.2.2,h.2.1,N+n+1,?_⟩;have a:=h.1;unfold X_ at a;split at a;rename_i r H1 w;refine⟨r,H1,?_,tB Zaa a⟩;exact A1 (LI B u n) (le_add_left ..) w;grind
def TW(E:Env)(l:aX fI)(n:Nat)(f:Y')(az:S'):X':=
 match ku E (runM E l n) n (.fn f) az []with
 |some (.bool b,_)=>b|_=>false
def Oi{l:aX fI}(B:∀k∈l,gz E k){f:Y'}{az:S'}(h:TW E l n f az=true):∃n H1,run E n (.fn f) az []=some (.bool true,H1):=by
 have⟨N,u⟩:=Be B;unfold TW at h;split at h;next b H1 w=>subst h;exact⟨N+n+1,H1,(A1 (LI B u n) (le_add_left ..) w)⟩
 simp_all
end
end Go.VE
