/-
 ChannelCounts says true for every trace, every list of counts and every two numbers that together are of bulk at most 1048576, and they read behind the call as they read before: for every such argument, without a condition.
-/
import Derived.Test.YtnfakljmdnbipaaRows
import Derived.Test.YtnfakljmdnbipaaS2
import Derived.Test.YtnfakljmdnbipaaGA
import Derived.Test.YtnfakljmdnbipaaG1
set_option linter.all false
namespace Go.VE
abbrev mm {α:Type} (m:Option α):Prop:=Wp m fun _=>True
theorem mm.get {α:Type} {m:Option α} (h:mm m):∃a,m=some a:=let ⟨a,e,_⟩:=h;⟨a,e⟩
theorem mm.ok {m:Option Bool} (h:mm m):m=some (m.getD false):=by obtain⟨a,e,_⟩:=h;rw[e];rfl
def Small (t:Trace):Prop:=t.procs.l.length<1073741824∧∀p∈t.procs.l,p.events.l.length<1073741824∧p.vars.l.length<1073741824∧p.name.size<1073741824∧(∀v∈p.vars.l,v.name.size<1073741824)∧∀e∈p.events.l,e.assign.l.length<1073741824
section
theorem ya {s:Sl Event} {p:Event→Option Bool} {f:Event→Bool} (hp:∀x∈s.l,p x=some (f x)) (hl:s.l.length<1073741824):bV s p=some (place f s.l):=
 mX hp (by omega) (fun i=>rfl)
theorem E4 {s:Sl aS} {p:aS→Option Bool} {f:aS→Bool} (hp:∀x∈s.l,p x=some (f x)) (hl:s.l.length<1073741824):cC s p=some (place f s.l):=
 mX hp (by omega) (fun i=>rfl)
theorem Ij {s:Sl Var} {p:Var→Option Bool} {f:Var→Bool} (hp:∀x∈s.l,p x=some (f x)) (hl:s.l.length<1073741824):cK s p=some (place f s.l):=
 mX hp (by omega) (fun i=>rfl)
theorem CT {s:Sl Assign} {p:Assign→Option Bool} {f:Assign→Bool} (hp:∀x∈s.l,p x=some (f x)) (hl:s.l.length<1073741824):b8 s p=some (place f s.l):=
 mX hp (by omega) (fun i=>rfl)
theorem tG {s:Sl Event} {p:Event→Option Bool} {f:Event→Bool} (hp:∀x∈s.l,p x=some (f x)) (hl:s.l.length<1073741824):cr s p=some (s.l.any f):=by
 unfold cr;rw[ya hp hl,Zc,m7]
theorem uy {s:Sl aS} {p:aS→Option Bool} {f:aS→Bool} (hp:∀x∈s.l,p x=some (f x)) (hl:s.l.length<1073741824):cF s p=some (s.l.any f):=by
 unfold cF;rw[E4 hp hl,Zc,m7]
theorem vH {s:Sl Var} {p:Var→Option Bool} {f:Var→Bool} (hp:∀x∈s.l,p x=some (f x)) (hl:s.l.length<1073741824):cN s p=some (s.l.any f):=by
 unfold cN;rw[Ij hp hl,Zc,m7]
theorem sx {s:Sl Assign} {p:Assign→Option Bool} {f:Assign→Bool} (hp:∀x∈s.l,p x=some (f x)) (hl:s.l.length<1073741824):b9 s p=some (s.l.any f):=by
 unfold b9;rw[CT hp hl,Zc,m7]
theorem gJ (x lo hi:Int):gj x lo hi=some (decide (lo≤x)&&decide (x≤hi)):=by
 unfold gj;rw[fX];rfl
theorem yo (c:Int):mm (eK c):=by
 unfold eK;simp only[fX,fM,Zc,mm,af]
theorem FP (c:Int):mm (fV c):=by
 unfold fV;simp only[fX,fM,Zc,mm,af]
theorem sK {s:ByteArray} {i:Nat} (h:i<s.size):∃x,gP s (i:Int)=some x:=by
 unfold gP;rw[if_pos (by omega)]
 exact⟨_,by rw[show (s[(i:Int).toNat]?)=some s[i]from by simp[h]];rfl⟩
theorem xE (s:ByteArray) (hs:s.size<1073741824):mm (cI s):=by
 unfold cI;simp only[fM,Zc];rw[mm,dW];have h1:mm (ao (ByteArray.toList s==ByteArray.toList ByteArray.empty||decide (((ByteArray.size s:Nat):Int)>16)) (some true)
  ((gP s 0).bind fun x_2=>(eK x_2).bind fun x_3=>some (!x_3))):=by
  rw[mm,aD];refine⟨fun _=>(af _).2 trivial,fun h => ?_⟩
  have h0:0<s.size:=by
   simp only[Bool.or_eq_false_iff,beq_eq_false_iff_ne,ne_eq]at h;apply Classical.byContradiction;intro hn;apply h.1;have:s=ByteArray.empty:=by
    apply ByteArray.ext;apply Array.eq_empty_of_size_eq_zero;show s.size=0;omega
   rw[this]
  obtain⟨x,hx⟩:=sK h0;rw[show (0:Int)=((0:Nat):Int)from rfl,hx,Zc];obtain⟨y,hy⟩:=(yo x).get;rw[hy,Zc,af];trivial
 refine h1.mono fun b _ => ?_
 rw[aD];refine⟨fun _=>(af _).2 trivial,fun _ => ?_⟩
 unfold cI.W1;refine bY (fun i:Int=>∃n:Nat,i=n∧n≤s.size) (fun i:Int=>s.size-i.toNat) ⟨0,rfl,Nat.zero_le _⟩ ?_
 rintro i ⟨n,rfl,hn⟩;unfold cI.aj;rw[aD];refine⟨fun h => ?_,fun _=>(af _).2 ((af _).2 trivial)⟩
 have hlt:n<s.size:=by simpa using h
 obtain⟨x,hx⟩:=sK hlt;obtain⟨y,hy⟩:=(yo x).get;obtain⟨z,hz⟩:=(FP x).get;simp only[hx,hy,hz,Zc];rw[dW,aD];refine⟨fun _=>(af _).2 ?_,fun _=>(af _).2 ?_⟩ <;>
 ·rw[dW,aD];refine⟨fun _=>(af _).2 ?_,fun _=>(af _).2 ?_⟩ <;>
  ·rw[aD];refine⟨fun _=>(af _).2 ((af _).2 trivial),fun _=>(af _).2 ?_⟩
   exact⟨⟨n+1,cA n (by omega),by omega⟩,by rw[cA n (by omega)];simp;omega⟩
theorem HL {t:Trace} (hS:Small t) {p:Nat} (hp:p<t.procs.l.length):mm (bA t p):=by
 unfold bA;rw[aW hp,Zc];obtain⟨_,hps⟩:=hS;obtain⟨h1,h2,h3,h4,h5⟩:=hps _ (List.getElem_mem hp);generalize hx:t.procs.l[p]=x at *;obtain⟨b,hb⟩:=(xE x.name h3).get;obtain⟨y,hy,hyl⟩:=kS t.procs p (by omega)
 rw[hb,Zc,hy,Zc,uy (f:=fun z=>(cR z x).getD false) (fun z _=>mm.ok ((af _).2 trivial)) (by rw[hyl];simp;omega),Zc,gN,Zc,mm,aD]
 refine⟨fun _=>(af _).2 trivial,fun _ => ?_⟩
 rw[aD];refine⟨fun _=>(af _).2 trivial,fun _ => ?_⟩
 unfold bA.W1;refine bY (fun i:Int=>∃n:Nat,i=n∧n≤x.vars.l.length) (fun i:Int=>x.vars.l.length-i.toNat) ⟨0,rfl,Nat.zero_le _⟩ ?_
 rintro i ⟨n,rfl,hn⟩;unfold bA.aj;rw[aD];refine⟨fun h => ?_,fun _=>(af _).2 ?_⟩
 ·have hlt:n<x.vars.l.length:=by simpa [len]using h
  rw[aW hlt,Zc];obtain⟨b',hb'⟩:=(xE x.vars.l[n].name (h4 _ (List.getElem_mem hlt))).get;obtain⟨y',hy',hyl'⟩:=kS x.vars n (by omega)
  rw[hb',Zc,hy',Zc,vH (f:=fun z=>(cQ z x.vars.l[n]).getD false) (fun z _=>mm.ok ((af _).2 trivial)) (by rw[hyl'];simp;omega),Zc,gN,Zc,gJ,Zc,aD]
  refine⟨fun _=>(af _).2 ((af _).2 trivial),fun _ => ?_⟩
  rw[aD];refine⟨fun _=>(af _).2 ?_,fun _=>(af _).2 ((af _).2 trivial)⟩
  exact⟨⟨n+1,cA n (by omega),by omega⟩,by rw[cA n (by omega)];simp;omega⟩
 ·rw[gN];exact(af _).2 trivial
def gw (n:Nat) (p:Int) (e:Event):Prop:=e.kind=1∨((e.kind=2∨e.kind=3)∧0≤e.peer∧e.peer<n∧e.peer≠p∧0≤e.message∧e.message≤199)
theorem FO {t:Trace} (hS:Small t) (p:Int) (e:Event):Wp (cX t p e) fun b=>b=true→gw t.procs.l.length p e:=by
 have hw:IntKind.wrap .i64 ((len t.procs)-1)=(t.procs.l.length:Int)-1:=ke _ (by simp[len];omega) (by have:=hS.1;simp[len];omega)
 have j:∀b:Bool,(b=true→e.kind=2∨e.kind=3)→Wp (cX.J1 p b t e) fun b=>b=true→gw t.procs.l.length p e:=by
  intro b hb;unfold cX.J1;simp only[gJ,Zc,fX,hw,aD,af];intro k;simp only[Zj,decide_eq_true_eq,Bool.not_eq_true',beq_eq_false_iff_ne,ne_eq]at k;exact .inr ⟨hb k.1,k.2.1.1.1,by omega,k.2.1.2,k.2.2.1,k.2.2.2⟩
 unfold cX;simp only[fX,Zc,aD,af];refine⟨fun h _=>.inl (by simpa using h),fun _=>⟨fun h=>j true fun _=>.inl (by simpa using h),fun _=>j _ fun h=>.inr (by simpa using h)⟩⟩
end
end Go.VE
namespace Go.VE
def jM (t:Trace) (p k:Nat) (e:Event):Prop:=∃P,t.procs.l[p]? = some P∧P.events.l[k]? = some e
theorem ox {p:Int} {x:aa×Event}:∀{es:List Event} {j:Int},x∈ga p j es↔∃k:Nat,es[k]? = some x.2∧x.1=⟨p,j+k+1⟩
 | [],j=>by simp[ga]
 | e::es,j=>by
  simp only[ga,List.mem_cons,ox (es:=es)];constructor
  ·rintro (rfl|⟨k,h1,h2⟩)
   ·exact⟨0,rfl,by simp⟩
   ·exact⟨k+1,by simpa using h1,by rw[h2];congr 1;push_cast;omega⟩
  ·rintro⟨k,h1,h2⟩
   cases k with
   | zero=>
    simp at h1;exact .inl (by obtain⟨a,b⟩:=x;simp only at h1 h2;rw[h1,h2];simp)
   | succ k=>exact .inr ⟨k,by simpa using h1,by rw[h2];congr 1;push_cast;omega⟩
theorem pe {x:aa×Event}:∀{ps:List aS} {i:Int},x∈eH i ps↔∃(a k:Nat) (P:aS),ps[a]? = some P∧P.events.l[k]? = some x.2∧x.1=⟨i+a,k+1⟩
 | [],i=>by simp[eH]
 | p::ps,i=>by
  simp only[eH,List.mem_append,ox,pe (ps:=ps)];constructor
  ·rintro (⟨k,h1,h2⟩|⟨a,k,P,h1,h2,h3⟩)
   ·exact⟨0,k,p,rfl,h1,by rw[h2];simp⟩
   ·exact⟨a+1,k,P,by simpa using h1,h2,by rw[h3];congr 1;push_cast;omega⟩
  ·rintro⟨a,k,P,h1,h2,h3⟩
   cases a with
   | zero=>
    simp at h1;subst h1;exact .inl ⟨k,h2,by rw[h3];simp⟩
   | succ a=>exact .inr ⟨a,k,P,by simpa using h1,h2,by rw[h3];congr 1;push_cast;omega⟩
abbrev aU (t:Trace):List (aa×Event):=eH 0 t.procs.l
theorem cy {t:Trace} {x:aa×Event}:x∈aU t↔∃p k:Nat,jM t p k x.2∧x.1=⟨p,k+1⟩:=by
 unfold aU;rw[pe];constructor
 ·rintro⟨a,k,P,h1,h2,h3⟩;exact⟨a,k,⟨P,h1,h2⟩,by rw[h3];simp⟩
 ·rintro⟨a,k,⟨P,h1,h2⟩,h3⟩;exact⟨a,k,P,h1,h2,by rw[h3];simp⟩
theorem sM {t:Trace} {x y:aa×Event} (hx:x∈aU t) (hy:y∈aU t) (h:x.1=y.1):x=y:=by
 obtain⟨p,k,⟨P,hP,hk⟩,e1⟩:=cy.1 hx;obtain⟨q,j,⟨Q,hQ,hj⟩,e2⟩:=cy.1 hy;obtain⟨a,e⟩:=x;obtain⟨b,f⟩:=y;simp only at *;subst h;rw[e1]at e2;simp only[aa.mk.injEq]at e2;have hpq:p=q:=by omega
 have hkj:k=j:=by omega
 subst hpq hkj;rw[hP]at hQ;cases hQ;rw[hk]at hj;cases hj;rfl
theorem pS {t:Trace} (hS:Small t):gr t=some (aU t):=by
 unfold gr;rw[if_pos];simp only[A6,Zj,List.all_eq_true,decide_eq_true_eq];exact⟨by have:=hS.1;omega,fun p hp=>by have:=(hS.2 p hp).1;omega⟩
theorem Ks {t:Trace} (hS:Small t) {p k:Nat} {e:Event} (h:jM t p k e):Wp (a_ t ⟨p,k+1⟩ e) fun r=>r=0→gw t.procs.l.length p e:=by
 obtain⟨P,hP,hk⟩:=h;have hPm:P∈t.procs.l:=List.mem_of_getElem? hP;obtain⟨h1,h2,h3,h4,h5⟩:=hS.2 P hPm;have hkl:k<P.events.l.length:=(Zf.1 hk).1;have hem:e∈P.events.l:=List.mem_of_getElem? hk;have j:∀last:Int,Wp (a_.J1 last t ⟨p,k+1⟩ e P) fun r=>r=0→gw t.procs.l.length p e:=by
  intro last;unfold a_.J1;rw[dW];refine(FO hS p e).mono fun b hb => ?_
  rw[aD];refine⟨fun hbt => ?_,fun _=>(af _).2 fun h=>by cases h⟩
  have hf:=hb hbt;simp only[gJ,Zc,gN];refine Wp.mono (P:=fun _=>True) ?_ fun _ _ _=>hf
  rw[aD];refine⟨fun _=>(af _).2 trivial,fun _ => ?_⟩
  rw[aD];refine⟨fun _=>(af _).2 trivial,fun _ => ?_⟩
  unfold a_.W2;refine bY (fun i:Int=>∃n:Nat,i=n∧n≤e.assign.l.length) (fun i:Int=>e.assign.l.length-i.toNat) ⟨0,rfl,Nat.zero_le _⟩ ?_
  rintro i ⟨n,rfl,hn⟩;have hal:=h5 e hem;unfold a_.aM;rw[aD];refine⟨fun h => ?_,fun _=>(af _).2 ((af _).2 trivial)⟩
  have hlt:n<e.assign.l.length:=by simpa [len]using h
  obtain⟨y',hy',hyl'⟩:=kS e.assign n (by omega)
  rw[aW hlt,Zc];simp only[gJ,Zc,gN];rw[hy',Zc,sx (f:=fun z=>(di z e.assign.l[n]).getD false) (fun z _=>mm.ok ((af _).2 trivial)) (by rw[hyl'];simp;omega),Zc,aD]
  refine⟨fun _=>(af _).2 ((af _).2 trivial),fun _ => ?_⟩
  rw[af];split
  ·exact(af _).2 trivial
  ·exact⟨⟨n+1,cA n (by omega),by omega⟩,by rw[cA n (by omega)];simp;omega⟩
 unfold a_;rw[show idx t.procs ((⟨(p:Int),(k:Int)+1⟩:aa).proc)=some P from by rw[kd,hP],Zc,aD]
 refine⟨fun h => ?_,fun _=>j 0⟩
 have hk1:1≤k:=by
  have:(k:Int)+1>1:=by simpa using h
  omega
 have hw:IntKind.wrap .i64 ((⟨(p:Int),(k:Int)+1⟩:aa).index-2)=((k-1:Nat):Int):=by
  show IntKind.wrap .i64 ((k:Int)+1-2)=_;rw[ke _ (by omega) (by omega)];omega
 rw[hw,aW (by omega:k-1<P.events.l.length),Zc]
 exact j _
def ni (t:Trace) (p m to:Int):Bool:=match t.procs.l[p.toNat]? with
 | some P=>P.events.l.any fun e=>e.kind==2&&e.message==m&&e.peer==to
 | none=>false
theorem Iw {t:Trace} (hS:Small t) {p:Int} (h0:0≤p) (h1:p<t.procs.l.length) (m to:Int):gK t p m to=some (ni t p m to):=by
 unfold gK;have hlt:p.toNat<t.procs.l.length:=by omega
 have hP:=List.getElem_mem hlt;rw[MN h0,Ze hlt,Zc,tG (f:=fun e=>e.kind==2&&e.message==m&&e.peer==to) (fun e _=>by
  unfold fB;simp only[fX,Zc]) (hS.2 _ hP).1,Zc]
 unfold ni;rw[Ze hlt]
theorem pM {t:Trace} {p:Nat} {m to:Int}:ni t p m to=true↔∃k e,jM t p k e∧e.kind=2∧e.message=m∧e.peer=to:=by
 unfold ni jM;rw[show ((p:Nat):Int).toNat=p from rfl]
 cases hP:t.procs.l[p]? with
 | none=>simp
 | some P=>
  simp only[List.any_eq_true,Zj,beq_iff_eq,Za,exists_eq_left'];constructor
  ·rintro⟨e,he,h⟩;obtain⟨k,hk⟩:=List.getElem?_of_mem he;exact⟨k,e,hk,h.1.1,h.1.2,h.2⟩
  ·rintro⟨k,e,hk,h1,h2,h3⟩;exact⟨e,List.mem_of_getElem? hk,⟨h1,h2⟩,h3⟩
def ag (A:bt 200 aA) (m:Int):aA:=(A.at m).getD default
theorem D7 (A:bt 200 aA) {m:Int} (h0:0≤m) (h1:m≤199):A.at m=some (ag A m):=by
 have:m.toNat<A.l.length:=by rw[A.len];omega
 unfold ag bt.at;rw[if_pos h0,Ze this];rfl
theorem l_ (A:bt 200 aA) {m m':Int} (x:aA) (h0:0≤m) (h1:m≤199) (h2:0≤m'):ag (A.set m x) m'=if m'=m then x else ag A m':=by
 have:m.toNat<A.l.length:=by rw[A.len];omega
 unfold ag bt.at bt.set;simp only[if_pos h2];rw[List.getElem?_set]
 by_cases e:m'=m
 ·subst e;simp[this]
 ·rw[if_neg (by omega),if_neg e]
theorem Gq {m:Int} (h0:0≤m) (h1:m≤199):ag (bt.Dm 200 (⟨⟨0,0⟩,⟨0,0⟩⟩:aA)) m=⟨⟨0,0⟩,⟨0,0⟩⟩:=by
 unfold ag bt.at bt.Dm;simp only[if_pos h0];rw[List.getElem?_replicate,if_pos (by omega)];rfl
structure g8 (t:Trace) (its:List (aa×Event)) (A:bt 200 aA):Prop where
 snd:∀x∈its,x.2.kind=2→(ag A x.2.message).from_=x.1
 rcv:∀x∈its,x.2.kind=3→(ag A x.2.message).to_=x.1∧ni t x.2.peer x.2.message x.1.proc=true
 fr:∀m,0≤m→m≤199→(ag A m).from_.index=0∨∃e,((ag A m).from_,e)∈its∧e.kind=2∧e.message=m
 to:∀m,0≤m→m≤199→(ag A m).to_.index=0∨∃e,((ag A m).to_,e)∈its∧e.kind=3∧e.message=m
def DJ (a b:aa×Event):Prop:=a.1.proc<b.1.proc∨a.1.proc=b.1.proc∧a.1.index<b.1.index
theorem E7 {p:Int}:∀{es:List Event} {j:Int},(ga p j es).Pairwise DJ
 | [],_=>List.Pairwise.nil
 | e::es,j=>by
  simp only[ga,List.pairwise_cons];refine⟨fun b hb => ?_,E7⟩
  obtain⟨k,_,h2⟩:=ox.1 hb;refine .inr ⟨by rw[h2],?_⟩
  rw[h2];dsimp only;omega
theorem Cl:∀{ps:List aS} {i:Int},(eH i ps).Pairwise DJ
 | [],_=>List.Pairwise.nil
 | P::ps,i=>by
  simp only[eH,List.pairwise_append];refine⟨E7,Cl,fun a ha b hb=>.inl ?_⟩
  obtain⟨k,_,h2⟩:=ox.1 ha;obtain⟨c,j,P,_,_,h3⟩:=pe.1 hb;rw[h2,h3];dsimp only;omega
theorem A9 {t:Trace} {k:Nat} {x y:aa×Event} (hx:(aU t)[k]? = some x) (hy:y∈(aU t).take k):y.1≠x.1:=by
 obtain⟨h1,h2⟩:=Zf.1 hx;have hp:((aU t).take k++(aU t).drop k).Pairwise DJ:=by rw[List.take_append_drop];exact Cl
 have:=(List.pairwise_append.1 hp).2.2 y hy x (by rw[List.drop_eq_getElem_cons h1,h2];exact List.mem_cons_self ..)
 intro e;unfold DJ at this;rw[e]at this;omega
structure sn (t:Trace):Prop where
 snd:∀x∈aU t,∀y∈aU t,x.2.kind=2→y.2.kind=2→x.2.message=y.2.message→x.1=y.1
 rcv:∀x∈aU t,∀y∈aU t,x.2.kind=3→y.2.kind=3→x.2.message=y.2.message→x.1=y.1
 has:∀x∈aU t,x.2.kind=3→ni t x.2.peer x.2.message x.1.proc=true
theorem g8.uc {t:Trace} {A:bt 200 aA} (h:g8 t (aU t) A):sn t:=
 ⟨fun x hx y hy k2 k2' hm=>by rw[←h.snd x hx k2,←h.snd y hy k2',hm],fun x hx y hy k2 k2' hm=>by rw[←(h.rcv x hx k2).1,←(h.rcv y hy k2').1,hm],fun x hx k=>(h.rcv x hx k).2⟩
theorem xF {t:Trace} (hS:Small t) (hF:∀x∈aU t,gw t.procs.l.length x.1.proc x.2):Wp (b7 t) fun r=>(r.2.2=0→∃A,r.1=some A∧g8 t (aU t) A)∧(sn t→r.2.2=0):=by
 unfold b7 ey;rw[Zc];unfold b7.E1;rw[pS hS,Zc];refine u5 (fun k A=>g8 t ((aU t).take k) A) ⟨by simp,by simp,fun m h0 h1=>.inl (by rw[Gq h0 h1]),fun m h0 h1=>.inl (by rw[Gq h0 h1])⟩ ?_ ?_
 ·intro k x A hx hI;have hxm:x∈aU t:=List.mem_of_getElem? hx;have hkl:k<(aU t).length:=(Zf.1 hx).1;have htk:(aU t).take (k+1)=(aU t).take k++[x]:=by rw[List.take_add_one,hx];rfl
  obtain⟨p,j,hat,hid⟩:=cy.1 hxm;have hxi:x.1.index>0:=by rw[hid];show (j:Int)+1>0;omega
  have hf:=hF x hxm;unfold b7.iB;rw[aD];constructor
  ·intro hk;have hk2:x.2.kind=2:=by simpa using hk
   have hm:0≤x.2.message∧x.2.message≤199:=by
    rcases hf with h|⟨_,_,_,_,h⟩
    ·omega
    ·exact h
   rw[D7 A hm.1 hm.2,Zc,aD];refine⟨fun hg=>(af _).2 ((af _).2 ⟨fun h=>(by cases h),fun hp => ?_⟩),fun h0 => ?_⟩
   ·rcases hI.fr _ hm.1 hm.2 with hg'|⟨e,he,hk',hm'⟩
    ·simp[hg']at hg
    ·exact absurd (hp.snd _ (List.mem_of_mem_take he) x hxm hk' hk2 hm') (A9 hx he)
   have h0:¬(ag A x.2.message).from_.index>0:=by simpa using h0
   rw[Zc,af,htk];have old:∀y∈(aU t).take k,y.2.kind=2→y.2.message≠x.2.message:=fun y hy hy2 he=>by
    have:=hI.snd y hy hy2;rw[he]at this;rw[this]at h0;obtain⟨p',j',_,hid'⟩:=cy.1 (List.mem_of_mem_take hy);rw[hid']at h0;exact h0 (by show (j':Int)+1>0;omega)
   have nn:∀y∈(aU t).take k,y.2.kind=2∨y.2.kind=3→0≤y.2.message:=fun y hy hy2=>by
    rcases hF y (List.mem_of_mem_take hy)with h|⟨_,_,_,_,h,_⟩
    ·omega
    ·exact h
   refine⟨fun y hy hy2 => ?_,fun y hy hy3 => ?_,fun m m0 m1 => ?_,fun m m0 m1 => ?_⟩
   ·rcases List.mem_append.1 hy with hy|hy
    ·rw[l_ A _ hm.1 hm.2 (nn y hy (.inl hy2)),if_neg (old y hy hy2)];exact hI.snd y hy hy2
    ·simp at hy;subst hy;rw[l_ A _ hm.1 hm.2 hm.1,if_pos rfl]
   ·rcases List.mem_append.1 hy with hy|hy
    ·rw[l_ A _ hm.1 hm.2 (nn y hy (.inr hy3))];have:=hI.rcv y hy hy3;split
     ·rename_i e;rw[e]at this;exact⟨this.1,by rw[e];exact this.2⟩
     ·exact this
    ·simp at hy;subst hy;omega
   ·rw[l_ A _ hm.1 hm.2 m0];split
    ·rename_i e;exact .inr ⟨x.2,by simp,hk2,e.symm⟩
    ·exact(hI.fr m m0 m1).imp (fun h=>h) fun⟨e,h1,h2⟩=>⟨e,List.mem_append_left _ h1,h2⟩
   ·rw[l_ A _ hm.1 hm.2 m0];have:=(hI.to m m0 m1).imp (fun h=>h) fun⟨e,h1,h2⟩=>(⟨e,List.mem_append_left [x] h1,h2⟩:∃e,((ag A m).to_,e)∈(aU t).take k++[x]∧e.kind=3∧e.message=m)
    split
    ·rename_i e;subst e;exact this
    ·exact this
  ·intro hk;have hk2:¬x.2.kind=2:=by simpa using hk
   rw[aD];constructor
   ·intro hk;have hk3:x.2.kind=3:=by simpa using hk
    have hm:0≤x.2.message∧x.2.message≤199∧0≤x.2.peer∧x.2.peer<t.procs.l.length:=by
     rcases hf with h|⟨_,h1,h2,_,h3,h4⟩
     ·omega
     ·exact⟨h3,h4,h1,h2⟩
    rw[D7 A hm.1 hm.2.1,Zc,aD];refine⟨fun hg=>(af _).2 ((af _).2 ⟨fun h=>(by cases h),fun hp => ?_⟩),fun h0 => ?_⟩
    ·rcases hI.to _ hm.1 hm.2.1 with hg'|⟨e,he,hk',hm'⟩
     ·simp[hg']at hg
     ·exact absurd (hp.rcv _ (List.mem_of_mem_take he) x hxm hk' hk3 hm') (A9 hx he)
    have h0:¬(ag A x.2.message).to_.index>0:=by simpa using h0
    rw[Iw hS hm.2.2.1 hm.2.2.2,Zc,aD];refine⟨fun hs => ?_,fun hs=>(af _).2 ((af _).2 ⟨fun h=>(by cases h),fun hp=>by rw[hp.has x hxm hk3]at hs;cases hs⟩)⟩
    rw[Zc,af,htk];have old:∀y∈(aU t).take k,y.2.kind=3→y.2.message≠x.2.message:=fun y hy hy2 he=>by
     have:=(hI.rcv y hy hy2).1;rw[he]at this;rw[this]at h0;obtain⟨p',j',_,hid'⟩:=cy.1 (List.mem_of_mem_take hy);rw[hid']at h0;exact h0 (by show (j':Int)+1>0;omega)
    have nn:∀y∈(aU t).take k,y.2.kind=2∨y.2.kind=3→0≤y.2.message:=fun y hy hy2=>by
     rcases hF y (List.mem_of_mem_take hy)with h|⟨_,_,_,_,h,_⟩
     ·omega
     ·exact h
    refine⟨fun y hy hy2 => ?_,fun y hy hy3 => ?_,fun m m0 m1 => ?_,fun m m0 m1 => ?_⟩
    ·rcases List.mem_append.1 hy with hy|hy
     ·rw[l_ A _ hm.1 hm.2.1 (nn y hy (.inl hy2))];have:=hI.snd y hy hy2;split
      ·rename_i e;rw[e]at this;exact this
      ·exact this
     ·simp at hy;subst hy;omega
    ·rcases List.mem_append.1 hy with hy|hy
     ·rw[l_ A _ hm.1 hm.2.1 (nn y hy (.inr hy3)),if_neg (old y hy hy3)];exact hI.rcv y hy hy3
     ·simp at hy;subst hy;rw[l_ A _ hm.1 hm.2.1 hm.1,if_pos rfl];exact⟨rfl,hs⟩
    ·rw[l_ A _ hm.1 hm.2.1 m0];have:=(hI.fr m m0 m1).imp (fun h=>h) fun⟨e,h1,h2⟩=>(⟨e,List.mem_append_left [x] h1,h2⟩:∃e,((ag A m).from_,e)∈(aU t).take k++[x]∧e.kind=2∧e.message=m)
     split
     ·rename_i e;subst e;exact this
     ·exact this
    ·rw[l_ A _ hm.1 hm.2.1 m0];split
     ·rename_i e;exact .inr ⟨x.2,by simp,hk3,e.symm⟩
     ·exact(hI.to m m0 m1).imp (fun h=>h) fun⟨e,h1,h2⟩=>⟨e,List.mem_append_left _ h1,h2⟩
   ·intro hk;have hk3:¬x.2.kind=3:=by simpa using hk
    rw[af,htk];refine⟨fun y hy hy2 => ?_,fun y hy hy3 => ?_,fun m m0 m1 => ?_,fun m m0 m1 => ?_⟩
    ·rcases List.mem_append.1 hy with hy|hy
     ·exact hI.snd y hy hy2
     ·simp at hy;subst hy;exact absurd hy2 hk2
    ·rcases List.mem_append.1 hy with hy|hy
     ·exact hI.rcv y hy hy3
     ·simp at hy;subst hy;exact absurd hy3 hk3
    ·exact(hI.fr m m0 m1).imp (fun h=>h) fun⟨e,h1,h2⟩=>⟨e,List.mem_append_left _ h1,h2⟩
    ·exact(hI.to m m0 m1).imp (fun h=>h) fun⟨e,h1,h2⟩=>⟨e,List.mem_append_left _ h1,h2⟩
 ·intro A hA;rw[List.take_length]at hA;exact(af _).2 ⟨fun _=>⟨A,rfl,hA⟩,fun _=>rfl⟩
end Go.VE
namespace Go.VE
def fS (f:Nat→Bool) (k n:Nat):Bool:=(List.range' k (n-k)).any f
theorem zZ {f:Nat→Bool} {k n:Nat} (h:k<n):fS f k n=(f k||fS f (k+1) n):=by
 unfold fS;rw[show n-k=(n-(k+1))+1 from by omega,List.range'_succ];rfl
theorem Ip {f:Nat→Bool} {k n:Nat} (h:n≤k):fS f k n=false:=by
 unfold fS;rw[show n-k=0 from by omega];rfl
theorem wW {f:Nat→Bool} {k n:Nat}:fS f k n=true↔∃i,k≤i∧i<n∧f i=true:=by
 unfold fS;rw[List.any_eq_true];constructor
 ·rintro⟨i,hi,hf⟩;rw[List.mem_range'_1]at hi;exact⟨i,hi.1,by omega,hf⟩
 ·rintro⟨i,h1,h2,hf⟩;exact⟨i,by rw[List.mem_range'_1];omega,hf⟩
theorem QL {f g:Nat→Bool} {k n:Nat} (h:∀i,k≤i→i<n→f i=g i):fS f k n=fS g k n:=by
 rw[Bool.eq_iff_iff,wW,wW];constructor <;> rintro⟨i,h1,h2,h3⟩ <;> exact⟨i,h1,h2,by rw[←h3,h i h1 h2]⟩
theorem zx {step:Int→Option (Fw Int Unit Unit)} {n:Nat} (f:Nat→Bool) (hn:n<9223372036854775807) (h1:∀i:Nat,i<n→step i=some (if f i then .r ()else .n (IntKind.wrap .i64 ((i:Int)+1)))) (h2:step (n:Int)=some (.x ())) :
 ∀m k:Nat,k+m=n→bh step (k:Int)=some (if fS f k n then .r ()else .x ()):=by
 intro m
 induction m with
 | zero=>
  intro k hk;have:k=n:=by omega
  subst this;rw[ij,h2,Ip (Nat.le_refl _)];rfl
 | succ m ih=>
  intro k hk;rw[ij,h1 k (by omega),zZ (by omega)]
  cases hf:f k with
  | true=>rfl
  | false=>
   simp only[Bool.false_eq_true,if_false,Zc,Bool.false_or];rw[cA k (by omega)]
   exact ih (k+1) (by omega)
def jo (g:Nat→Int) (k n:Nat):Int:=match (List.range' k (n-k)).find? fun i => !(g i==0)with
 | some i=>g i
 | none=>0
theorem rq {g:Nat→Int} {k n:Nat} (h:k<n):jo g k n=if g k=0 then jo g (k+1) n else g k:=by
 unfold jo;rw[show n-k=(n-(k+1))+1 from by omega,List.range'_succ,List.find?_cons]
 by_cases h0:g k=0
 ·simp[h0]
 ·rw[if_neg h0,show (!(g k==0))=true from by simp[h0]]
theorem s8 {g:Nat→Int} {k n:Nat} (h:n≤k):jo g k n=0:=by
 unfold jo;rw[show n-k=0 from by omega];rfl
theorem RD {g:Nat→Int} {n:Nat}:∀{m k:Nat},k+m=n→(jo g k n=0↔∀i,k≤i→i<n→g i=0):=by
 intro m
 induction m with
 | zero=>intro k hk;rw[s8 (by omega)];exact⟨fun _ i h1 h2=>by omega,fun _=>rfl⟩
 | succ m ih=>
  intro k hk;rw[rq (by omega)]
  split
  ·rename_i h0;rw[ih (show k+1+m=n by omega)]
   constructor
   ·intro h i h1 h2
    by_cases e:i=k
    ·subst e;exact h0
    ·exact h i (by omega) h2
   ·intro h i h1 h2;exact h i (by omega) h2
  ·rename_i h0;exact⟨fun h=>absurd h h0,fun h=>absurd (h k (Nat.le_refl _) (by omega)) h0⟩
theorem N1 {g g':Nat→Int} {n:Nat} (h:∀i,i<n→g i=g' i):∀{m k:Nat},k+m=n→jo g k n=jo g' k n:=by
 intro m
 induction m with
 | zero=>intro k hk;rw[s8 (by omega),s8 (by omega)]
 | succ m ih=>intro k hk;rw[rq (g:=g) (by omega),rq (g:=g') (by omega),h k (by omega),ih (show k+1+m=n by omega)]
theorem JG {step:Int→Option (Fw Int Unit Int)} {n:Nat} (g:Nat→Int) (hn:n<9223372036854775807) (h1:∀i:Nat,i<n→step i=some (if g i=0 then .n (IntKind.wrap .i64 ((i:Int)+1))else .r (g i))) (h2:step (n:Int)=some (.x ())) :
 ∀m k:Nat,k+m=n→bh step (k:Int)=some (if jo g k n=0 then .x ()else .r (jo g k n)):=by
 intro m
 induction m with
 | zero=>
  intro k hk;have:k=n:=by omega
  subst this;rw[ij,h2,s8 (Nat.le_refl _)];rfl
 | succ m ih=>
  intro k hk;rw[ij,h1 k (by omega),rq (by omega)]
  by_cases h0:g k=0
  ·simp only[h0,if_true,Zc];rw[cA k (by omega)]
   exact ih (k+1) (by omega)
  ·simp only[h0,if_false,Zc]
theorem sJ {step:Int→Option (Fw Int Unit Int)} {n:Nat} (g:Nat→Int) (hn:n<9223372036854775807) (h1:∀i:Nat,i<n→step i=some (if g i=0 then .n (IntKind.wrap .i64 ((i:Int)+1))else .r (g i))) (h2:step (n:Int)=some (.x ())):bh step 0=some (if jo g 0 n=0 then .x ()else .r (jo g 0 n)):=JG g hn h1 h2 n 0 (by omega)
theorem wR {step:Int→Option (Fw Int Unit Unit)} {n:Nat} (f:Nat→Bool) (hn:n<9223372036854775807) (h1:∀i:Nat,i<n→step i=some (if f i then .r ()else .n (IntKind.wrap .i64 ((i:Int)+1)))) (h2:step (n:Int)=some (.x ())):bh step 0=some (if fS f 0 n then .r ()else .x ()):=zx f hn h1 h2 n 0 (by omega)
def rN (c:Int):Bool:=decide (c≥65)&&decide (c≤90)||decide (c≥97)&&decide (c≤122)
def wY (c:Int):Bool:=decide (c≥48)&&decide (c≤57)
theorem xW (c:Int):eK c=some (rN c):=by
 unfold eK rN;simp only[fX,fM,Zc];rw[Bool.or_comm]
theorem yM (c:Int):fq c=some (rN c):=by
 unfold fq rN;simp only[fX,fM,Zc]
theorem Gs (c:Int):fV c=some (wY c):=by
 unfold fV wY;simp only[fX,Zc]
theorem FX (c:Int):gp c=some (wY c):=by
 unfold gp wY;simp only[fX,Zc]
def qR (s:ByteArray) (i:Nat):Int:=(gP s (i:Int)).getD 0
theorem xH {s:ByteArray} {i:Nat} (h:i<s.size):gP s (i:Int)=some (qR s i):=by
 obtain⟨x,hx⟩:=sK h;unfold qR;rw[hx];rfl
def nk (s:ByteArray) (i:Nat):Bool := !rN (qR s i) && !wY (qR s i) && !(qR s i==95)
def iP (s:ByteArray):Bool:=decide (1≤s.size)&&decide (s.size≤16)&&rN (qR s 0) && !fS (nk s) 0 s.size
theorem EA {s:ByteArray} {i:Nat} (h:i<s.size):cI.aj s (s.size:Int) i=some (if nk s i then .r ()else .n (IntKind.wrap .i64 ((i:Int)+1))):=by
 unfold cI.aj nk;rw[show decide ((i:Int)<(s.size:Int))=true from by simpa using h,bU,xH h]
 simp only[Zc,xW,Gs];cases rN (qR s i) <;> cases wY (qR s i) <;> cases (qR s i==95) <;> rfl
theorem DY {s:ByteArray} {i:Nat} (h:i<s.size):dK.aj s i=some (if nk s i then .r ()else .n (IntKind.wrap .i64 ((i:Int)+1))):=by
 unfold dK.aj nk;rw[show decide ((i:Int)<((ByteArray.size s:Nat):Int))=true from by simpa using h,bU,xH h]
 simp only[Zc,yM,FX];cases rN (qR s i) <;> cases wY (qR s i) <;> cases (qR s i==95) <;> rfl
theorem toList_empty {s:ByteArray}:(ByteArray.toList s==ByteArray.toList ByteArray.empty)=decide (s.size=0):=by
 rw[Bool.eq_iff_iff,beq_iff_eq,decide_eq_true_eq];constructor
 ·intro h;have h1:(ByteArray.toList s).length=s.size:=by rw[Go.ByteArray.toList_eq];simp
  rw[←h1,h];rw[Go.ByteArray.toList_eq];rfl
 ·intro h;have:s=ByteArray.empty:=by
   apply ByteArray.ext;exact Array.eq_empty_of_size_eq_zero h
  rw[this]
theorem An {s:ByteArray} (hs:s.size<1073741824):cI s=some (iP s):=by
 unfold cI;rw[toList_empty];simp only[fM,Zc]
 by_cases h0:s.size=0
 ·simp[h0,iP,ao]
 by_cases h16:s.size≤16
 ·have hc:(decide (s.size=0)||decide (((ByteArray.size s:Nat):Int)>16))=false:=by simp[h0];omega
  rw[hc,eu,show (0:Int)=((0:Nat):Int)from rfl,xH (show 0<s.size by omega)]
  simp only[Zc,xW]
  cases hl:rN (qR s 0)with
  | false=>simp[iP,hl,ao]
  | true=>
   simp only[Bool.not_true,eu];unfold cI.W1;rw[zx (n:=s.size) (nk s) (by omega) (fun i hi=>EA hi) (by unfold cI.aj;simp[ao]) s.size 0 (by omega)]
   have:iP s = !fS (nk s) 0 s.size:=by simp[iP,hl,h16];omega
   rw[this];cases fS (nk s) 0 s.size <;> rfl
 ·have hc:(decide (s.size=0)||decide (((ByteArray.size s:Nat):Int)>16))=true:=by simp;omega
  rw[hc,bU];simp[iP,h16,ao]
theorem CC {s:ByteArray} (hs:s.size<1073741824):dK s=some (iP s):=by
 unfold dK;simp only[fM,Zc]
 by_cases h0:s.size=0
 ·simp[h0,iP,ao]
 by_cases h16:s.size≤16
 ·have hc:(decide (((ByteArray.size s:Nat):Int)<1)||decide (((ByteArray.size s:Nat):Int)>16))=false:=by simp;omega
  rw[hc,eu,show (0:Int)=((0:Nat):Int)from rfl,xH (show 0<s.size by omega)]
  simp only[Zc,yM]
  cases hl:rN (qR s 0)with
  | false=>simp[iP,hl,ao]
  | true=>
   simp only[Bool.not_true,eu];unfold dK.W1;rw[show (1:Int)=((1:Nat):Int)from rfl,zx (n:=s.size) (nk s) (by omega) (fun i hi=>DY hi) (by unfold dK.aj;simp[ao]) (s.size-1) 1 (by omega)]
   have hb0:nk s 0=false:=by simp[nk,hl]
   have:iP s = !fS (nk s) 1 s.size:=by
    have h1:=zZ (f:=nk s) (show 0<s.size by omega)
    rw[hb0]at h1;simp[iP,hl,h16,h1];omega
   rw[this];cases fS (nk s) 1 s.size <;> rfl
 ·have hc:(decide (((ByteArray.size s:Nat):Int)<1)||decide (((ByteArray.size s:Nat):Int)>16))=true:=by simp;omega
  rw[hc,bU];simp[iP,h16,ao]
end Go.VE
namespace Go.VE
def fO {α:Type} (l:List α) (f:α→Bool) (i:Nat):Bool:=match l[i]? with|some y=>f y|none=>false
theorem uI {α:Type} {l:List α} {f:α→Bool} {i:Nat} (h:i<l.length):fO l f i=f l[i]:=by unfold fO;rw[Ze h]
theorem wS {α:Type} {l:List α} {f:α→Bool} {p:Nat}:(l.take p).any f=fS (fO l f) 0 p:=by
 rw[Bool.eq_iff_iff,List.any_eq_true,wW];constructor
 ·rintro⟨x,hx,hf⟩;obtain⟨i,hi⟩:=List.getElem?_of_mem hx;have hl:=(Zf.1 hi).1;rw[List.length_take]at hl;rw[List.getElem?_take,if_pos (by omega)]at hi
  exact⟨i,Nat.zero_le _,by omega,by unfold fO;rw[hi];exact hf⟩
 ·rintro⟨i,_,hi,hf⟩;unfold fO at hf;split at hf
  ·rename_i y hy;exact⟨y,List.mem_of_getElem? (i:=i) (by rw[List.getElem?_take,if_pos hi];exact hy),hf⟩
  ·cases hf
def mL (a b:ByteArray):Bool:=ByteArray.toList a==ByteArray.toList b
def Mn:Bool→Bool→Bool→Int
 | true,false,true=>0
 | true,false,false=>2
 | _,_,_=>13
def oN (P:aS) (i:Nat):Int:=match P.vars.l[i]? with
 | some v=>Mn (iP v.name) (fS (fO P.vars.l fun w=>mL w.name v.name) 0 i) (decide (v.init_≥-1073741824)&&decide (v.init_≤1073741824))
 | none=>0
def oe (t:Trace) (p:Nat):Int:=match t.procs.l[p]? with
 | some P=>if iP P.name && !fS (fO t.procs.l fun y=>mL y.name P.name) 0 p then
  (if P.vars.l.length>8 then 5 else if jo (oN P) 0 P.vars.l.length=0 then(if P.events.l.length>64 then 5 else 0)else jo (oN P) 0 P.vars.l.length)else 13
 | none=>0
theorem zR {P:aS} {i:Nat} (h:i<P.vars.l.length):oN P i=Mn (iP P.vars.l[i].name) (fS (fO P.vars.l fun w=>mL w.name P.vars.l[i].name) 0 i) (decide (P.vars.l[i].init_≥-1073741824)&&decide (P.vars.l[i].init_≤1073741824)):=by
 unfold oN;rw[Ze h]
theorem Ad (n:Int):fR n=some (decide (n≥-1073741824)&&decide (n≤1073741824)):=by
 unfold fR;rw[fX];rfl
theorem Ic {t:Trace} (hS:Small t) {p:Nat} (hp:p<t.procs.l.length):bA t p=some (oe t p):=by
 have hP:=hS.2 _ (List.getElem_mem hp);have h1:=hS.1;unfold bA oe;rw[aW hp,Zc,Ze hp];generalize hPe:t.procs.l[p]=P at *;obtain⟨hPev,hPv,hPn,hPvn,_⟩:=hP;rw[An hPn,Zc];obtain⟨x,hx,hxl⟩:=kS t.procs p (by omega)
 have hdup:cF x (fun z=>cR z P)=some (fS (fO t.procs.l fun y=>mL y.name P.name) 0 p):=by
  rw[uy (p:=fun z=>cR z P) (f:=fun y=>mL y.name P.name) (fun y _=>rfl) (by rw[hxl,List.length_take];omega),hxl,wS]
 rw[hx,Zc,hdup,Zc];dsimp only
 cases hn:iP P.name with
 | false=>simp[ao]
 | true=>
  rw[bU,Zc,Bool.true_and]
  cases hd:fS (fO t.procs.l fun y=>mL y.name P.name) 0 p with
  | true=>simp[ao]
  | false=>
   rw[eu];simp only[Bool.not_false,if_true]
   by_cases h8:P.vars.l.length>8
   ·rw[show decide (len P.vars>8)=true from by simp[len];omega,bU,if_pos h8]
   ·rw[show decide (len P.vars>8)=false from by simp[len];omega,eu,if_neg h8]
    unfold bA.W1;rw[sJ (n:=P.vars.l.length) (oN P) (by omega) (fun i hi => ?_) (by unfold bA.aj;simp[ao,len])]
    ·by_cases he:jo (oN P) 0 P.vars.l.length=0
     ·rw[if_pos he,if_pos he];show ao (decide (len P.events>64)) (some 5) (some 0)=_;rw[gN];simp only[len,decide_eq_true_eq]
      by_cases h64:P.events.l.length>64
      ·rw[if_pos h64,if_pos (by omega)]
      ·rw[if_neg h64,if_neg (by omega)]
     ·rw[if_neg he,if_neg he];rfl
    ·unfold bA.aj;rw[zR hi,show decide ((i:Int)<len P.vars)=true from by simp[len];exact hi,bU,aW hi,Zc]
     have hv:=hPvn _ (List.getElem_mem hi);obtain⟨y,hy,hyl⟩:=kS P.vars i (by omega)
     have hdv:cN y (fun z=>cQ z P.vars.l[i])=some (fS (fO P.vars.l fun w=>mL w.name P.vars.l[i].name) 0 i):=by
      rw[vH (p:=fun z=>cQ z P.vars.l[i]) (f:=fun w=>mL w.name P.vars.l[i].name) (fun w _=>rfl) (by rw[hyl,List.length_take];omega),hyl,wS]
     rw[An hv,Zc,hy,Zc,hdv,Zc,gJ];have hr:(decide (-1073741824≤P.vars.l[i].init_)&&decide (P.vars.l[i].init_≤1073741824))=(decide (P.vars.l[i].init_≥-1073741824)&&decide (P.vars.l[i].init_≤1073741824)):=rfl;rw[hr];generalize iP P.vars.l[i].name=A;generalize fS (fO P.vars.l fun w=>mL w.name P.vars.l[i].name) 0 i=B
     generalize (decide (P.vars.l[i].init_≥-1073741824)&&decide (P.vars.l[i].init_≤1073741824))=C;cases A <;> cases B <;> cases C <;> rfl
theorem H7 {t:Trace} (hS:Small t) {p:Nat} (hp:p<t.procs.l.length):cw t p=some (oe t p):=by
 have hP:=hS.2 _ (List.getElem_mem hp);have h1:=hS.1;unfold cw oe;rw[aW hp,Zc,Ze hp];generalize hPe:t.procs.l[p]=P at *;obtain⟨hPev,hPv,hPn,hPvn,_⟩:=hP;rw[CC hPn,Zc];dsimp only
 cases hn:iP P.name with
 | false=>simp[ao]
 | true=>
  rw[bU,Bool.true_and];unfold cw.W1;rw[wR (n:=p) (fO t.procs.l fun y=>mL y.name P.name) (by omega) (fun i hi => ?_) (by unfold cw.aj;simp[ao])]
  ·cases hd:fS (fO t.procs.l fun y=>mL y.name P.name) 0 p with
   | true=>rfl
   | false=>
    simp only[Bool.not_false,if_true];show ao (decide (len P.vars>8)) (some 5) (cw.W2 0 P)=_
    by_cases h8:P.vars.l.length>8
    ·rw[show decide (len P.vars>8)=true from by simp[len];omega,bU,if_pos h8]
    ·rw[show decide (len P.vars>8)=false from by simp[len];omega,eu,if_neg h8]
     unfold cw.W2;rw[sJ (n:=P.vars.l.length) (oN P) (by omega) (fun i hi => ?_) (by unfold cw.aM;simp[ao,len])]
     ·by_cases he:jo (oN P) 0 P.vars.l.length=0
      ·rw[if_pos he,if_pos he];show ao (decide (len P.events>64)) (some 5) (some 0)=_;rw[gN];simp only[len,decide_eq_true_eq]
       by_cases h64:P.events.l.length>64
       ·rw[if_pos h64,if_pos (by omega)]
       ·rw[if_neg h64,if_neg (by omega)]
      ·rw[if_neg he,if_neg he];rfl
     ·unfold cw.aM;rw[zR hi,show decide ((i:Int)<len P.vars)=true from by simp[len];exact hi,bU,aW hi,Zc]
      rw[CC (hPvn _ (List.getElem_mem hi)),Zc];have h3:cw.W3 i 0 P=if fS (fO P.vars.l fun w=>mL w.name P.vars.l[i].name) 0 i then some (.r 13)else(if decide (P.vars.l[i].init_≥-1073741824)&&decide (P.vars.l[i].init_≤1073741824)then some (.n (IntKind.wrap .i64 ((i:Int)+1)))else some (.r 2)):=by
       unfold cw.W3;rw[wR (n:=i) (fO P.vars.l fun w=>mL w.name P.vars.l[i].name) (by omega) (fun j hj => ?_) (by unfold cw.dB;simp[ao])]
       ·cases fS (fO P.vars.l fun w=>mL w.name P.vars.l[i].name) 0 i with
        | true=>rfl
        | false=>
         show (idx P.vars (i:Int)).bind _=_;rw[aW hi,Zc,Ad,Zc];cases (decide (P.vars.l[i].init_≥-1073741824)&&decide (P.vars.l[i].init_≤1073741824)) <;> rfl
       ·unfold cw.dB;have hjl:j<P.vars.l.length:=by omega
        rw[show decide ((j:Int)<(i:Int))=true from by simpa using hj,bU,aW hjl,Zc,aW hi,Zc,uI hjl,gN];rfl
      rw[h3];generalize iP P.vars.l[i].name=A;generalize fS (fO P.vars.l fun w=>mL w.name P.vars.l[i].name) 0 i=B
      generalize (decide (P.vars.l[i].init_≥-1073741824)&&decide (P.vars.l[i].init_≤1073741824))=C;cases A <;> cases B <;> cases C <;> rfl
  ·unfold cw.aj;have hil:i<t.procs.l.length:=by omega
   rw[show decide ((i:Int)<(p:Int))=true from by simpa using hi,bU,aW hil,Zc,uI hil,gN];rfl
end Go.VE
namespace Go.VE
def BS (n:Nat) (p:Int) (e:Event):Bool:=if e.kind==1 then e.peer==0&&e.message==0 else(e.kind==2||e.kind==3)&&(decide (0≤e.peer)&&decide (e.peer<n)) && !(e.peer==p)&&(decide (0≤e.message)&&decide (e.message≤199))
theorem FK {t:Trace} (hS:Small t) (p:Int) (e:Event):cX t p e=some (BS t.procs.l.length p e):=by
 have h1:=hS.1;have hw:IntKind.wrap .i64 (len t.procs-1)=len t.procs-1:=ke _ (by simp[len];omega) (by simp[len];omega)
 have hj:∀b:Bool,cX.J1 p b t e=some (b&&(decide (0≤e.peer)&&decide (e.peer<t.procs.l.length)) && !(e.peer==p)&&(decide (0≤e.message)&&decide (e.message≤199))):=by
  intro b;unfold cX.J1;simp only[gJ,hw,Zc];have:decide (e.peer≤len t.procs-1)=decide (e.peer<t.procs.l.length):=by congr 1;apply propext;simp[len];omega
  rw[this];generalize (decide (0≤e.peer)&&decide (e.peer<(t.procs.l.length:Int)))=A;generalize (e.peer==p)=B;generalize (decide (0≤e.message)&&decide (e.message≤199))=C;cases b <;> cases A <;> cases B <;> cases C <;> rfl
 unfold cX BS;rw[hj,hj]
 cases h1:e.kind==1 with
 | true=>
  rw[bU];cases e.peer==0 <;> cases e.message==0 <;> rfl
 | false=>
  rw[eu];simp only[Bool.false_eq_true,if_false];cases h2:e.kind==2 <;> simp[ao]
def xR (P:aS) (k:Nat) (e:Event):Bool:=match k with|0=>false|j+1=>fO P.events.l (fun x=>decide (e.time<x.time)) j
def ow (P:aS) (k:Nat) (e:Event):Bool:=decide (e.time<0)||decide (e.time>1099511627776)||xR P k e
def Lr:Bool→Bool→Bool→Int
 | true,true,false=>0
 | true,true,true=>8
 | _,_,_=>2
def mb (P:aS) (e:Event) (i:Nat):Int:=match e.assign.l[i]? with
 | some a=>Lr (decide (0≤a.var)&&decide (a.var<P.vars.l.length)) (decide (a.value≥-1073741824)&&decide (a.value≤1073741824)) (fS (fO e.assign.l fun b=>b.var==a.var) 0 i)
 | none=>0
theorem Ar {P:aS} {e:Event} {i:Nat} (h:i<e.assign.l.length):mb P e i=Lr (decide (0≤e.assign.l[i].var)&&decide (e.assign.l[i].var<P.vars.l.length)) (decide (e.assign.l[i].value≥-1073741824)&&decide (e.assign.l[i].value≤1073741824)) (fS (fO e.assign.l fun b=>b.var==e.assign.l[i].var) 0 i):=by
 unfold mb;rw[Ze h]
def kN (n:Nat) (P:aS) (p k:Nat) (e:Event):Int:=if BS n p e then(if ow P k e then 11 else if e.assign.l.length>8 then 5 else jo (mb P e) 0 e.assign.l.length)else 3
theorem Eu {P:aS} {e:Event} (hv:P.vars.l.length<1073741824) (ha:e.assign.l.length<1073741824):a_.W2 e.assign (len e.assign) 0 e P=some (jo (mb P e) 0 e.assign.l.length):=by
 have hw:IntKind.wrap .i64 (len P.vars-1)=len P.vars-1:=ke _ (by simp[len];omega) (by simp[len];omega)
 unfold a_.W2;rw[sJ (n:=e.assign.l.length) (mb P e) (by omega) (fun i hi => ?_) (by unfold a_.aM;simp[ao,len])]
 ·by_cases he:jo (mb P e) 0 e.assign.l.length=0
  ·rw[if_pos he,he];rfl
  ·rw[if_neg he];rfl
 ·unfold a_.aM;obtain⟨y,hy,hyl⟩:=kS e.assign i (by omega)
  have hdv:b9 y (fun z=>di z e.assign.l[i])=some (fS (fO e.assign.l fun b=>b.var==e.assign.l[i].var) 0 i):=by
   rw[sx (p:=fun z=>di z e.assign.l[i]) (f:=fun b=>b.var==e.assign.l[i].var) (fun w _=>rfl) (by rw[hyl,List.length_take];omega),hyl,wS]
  rw[Ar hi,show decide ((i:Int)<len e.assign)=true from by simp[len];exact hi,bU,aW hi,Zc,gJ,gJ,hw,hy,Zc,Zc,Zc,hdv,Zc]
  have h1:(decide (0≤e.assign.l[i].var)&&decide (e.assign.l[i].var≤len P.vars-1))=(decide (0≤e.assign.l[i].var)&&decide (e.assign.l[i].var<P.vars.l.length)):=by
   congr 2;apply propext;simp[len];omega
  have h2:(decide (-1073741824≤e.assign.l[i].value)&&decide (e.assign.l[i].value≤1073741824))=(decide (e.assign.l[i].value≥-1073741824)&&decide (e.assign.l[i].value≤1073741824)):=rfl;rw[h1,h2];generalize (decide (0≤e.assign.l[i].var)&&decide (e.assign.l[i].var<(P.vars.l.length:Int)))=A;generalize (decide (e.assign.l[i].value≥-1073741824)&&decide (e.assign.l[i].value≤1073741824))=B;generalize fS (fO e.assign.l fun b=>b.var==e.assign.l[i].var) 0 i=C
  cases A <;> cases B <;> cases C <;> rfl
theorem GH {t:Trace} (hS:Small t) {p k:Nat} {P:aS} {e:Event} (hP:t.procs.l[p]? = some P) (he:P.events.l[k]? = some e):a_ t ⟨p,k+1⟩ e=some (kN t.procs.l.length P p k e):=by
 obtain⟨hp,hPe⟩:=Zf.1 hP;obtain⟨hk,hke⟩:=Zf.1 he;obtain⟨hPev,hPv,_,_,hPa⟩:=hS.2 P (hPe▸List.getElem_mem hp);have ha:=hPa e (hke▸List.getElem_mem hk);have hJ:∀last:Int,((decide (0≤e.time)&&decide (e.time≤1099511627776)) && !decide (e.time<last))=(!ow P k e) →
  a_.J1 last t ⟨p,k+1⟩ e P=some (kN t.procs.l.length P p k e):=by
  intro last hl;unfold a_.J1 kN;rw[FK hS,Zc,gJ,Zc,Eu hPv ha];dsimp only
  cases BS t.procs.l.length p e with
  | false=>rfl
  | true=>
   rw[bU,if_pos rfl];have:(ao (decide (0≤e.time)&&decide (e.time≤1099511627776)) (some (decide (e.time<last))) (some true):Option Bool)=some (ow P k e):=by
    have h2:(!((decide (0≤e.time)&&decide (e.time≤1099511627776)) && !decide (e.time<last)))=ow P k e:=by rw[hl,Bool.not_not]
    rw[←h2];cases (decide (0≤e.time)&&decide (e.time≤1099511627776)) <;> cases decide (e.time<last) <;> rfl
   rw[this,Zc]
   cases ow P k e with
   | true=>rfl
   | false=>
    rw[eu];simp only[Bool.false_eq_true,if_false]
    by_cases h8:e.assign.l.length>8
    ·rw[show decide (len e.assign>8)=true from by simp[len];omega,bU,if_pos h8]
    ·rw[show decide (len e.assign>8)=false from by simp[len];omega,eu,if_neg h8]
 unfold a_;dsimp only;rw[show idx t.procs (p:Int)=some P from by rw[kd];exact hP,Zc]
 cases k with
 | zero=>
  rw[show decide (((0:Nat):Int)+1>1)=false from by decide,eu]
  refine hJ 0 ?_;simp only[ow,xR,Bool.or_false];rw[Bool.eq_iff_iff];simp only[Zj,Bool.not_eq_true',decide_eq_true_eq,decide_eq_false_iff_not,Bool.or_eq_false_iff];omega
 | succ j=>
  rw[show decide ((((j+1:Nat)):Int)+1>1)=true from by simp;omega,bU]
  have hjl:j<P.events.l.length:=by omega
  have hw:IntKind.wrap .i64 ((((j+1:Nat)):Int)+1-2)=((j:Nat):Int):=by rw[ke _ (by omega) (by omega)];omega
  rw[hw,aW hjl,Zc];refine hJ _ ?_;simp only[ow,xR,uI hjl];rw[Bool.eq_iff_iff];simp only[Zj,Bool.not_eq_true',decide_eq_true_eq,decide_eq_false_iff_not,Bool.or_eq_false_iff];omega
end Go.VE
namespace Go.VE
theorem DL {t:Trace} {p:Nat} {P:aS} {e:Event} (hP:t.procs.l[p]? = some P) (ha:e.assign.l.length<1073741824):cx.W2 p 0 t e=some (jo (mb P e) 0 e.assign.l.length):=by
 unfold cx.W2;rw[sJ (n:=e.assign.l.length) (mb P e) (by omega) (fun i hi => ?_) (by unfold cx.aM;simp[ao,len])]
 ·by_cases he:jo (mb P e) 0 e.assign.l.length=0
  ·rw[if_pos he,he];rfl
  ·rw[if_neg he];rfl
 ·unfold cx.aM;have h3:cx.W3 p i 0 t e e.assign.l[i]=if fS (fO e.assign.l fun b=>b.var==e.assign.l[i].var) 0 i then some (.r 8)else some (.n (IntKind.wrap .i64 ((i:Int)+1))):=by
   unfold cx.W3;rw[wR (n:=i) (fO e.assign.l fun b=>b.var==e.assign.l[i].var) (by omega) (fun j hj => ?_) (by unfold cx.dB;simp[ao])]
   ·cases fS (fO e.assign.l fun b=>b.var==e.assign.l[i].var) 0 i <;> rfl
   ·unfold cx.dB;have hjl:j<e.assign.l.length:=by omega
    rw[show decide ((j:Int)<(i:Int))=true from by simpa using hj,bU,aW hjl,Zc,uI hjl,gN]
  rw[Ar hi,show decide ((i:Int)<len e.assign)=true from by simp[len];exact hi,bU,aW hi,Zc,h3,Ad,Zc,show idx t.procs (p:Int)=some P from by rw[kd];exact hP,Zc]
  have h1:(ao (decide (e.assign.l[i].var<0)) (some true) (some (decide (e.assign.l[i].var≥len P.vars))):Option Bool)=some (!(decide (0≤e.assign.l[i].var)&&decide (e.assign.l[i].var<P.vars.l.length))):=by
   rw[fM];congr 1;rw[Bool.eq_iff_iff];simp only[Bool.or_eq_true,Bool.not_eq_true',decide_eq_true_eq,Bool.and_eq_false_iff,decide_eq_false_iff_not,len];omega
  rw[h1,Zc];generalize (decide (0≤e.assign.l[i].var)&&decide (e.assign.l[i].var<(P.vars.l.length:Int)))=A;generalize (decide (e.assign.l[i].value≥-1073741824)&&decide (e.assign.l[i].value≤1073741824))=B;generalize fS (fO e.assign.l fun b=>b.var==e.assign.l[i].var) 0 i=C
  cases A <;> cases B <;> cases C <;> rfl
theorem GS {t:Trace} (hS:Small t) {p k:Nat} {P:aS} {e:Event} (hP:t.procs.l[p]? = some P) (he:P.events.l[k]? = some e):cx t p k=some (kN t.procs.l.length P p k e):=by
 obtain⟨hp,hPe⟩:=Zf.1 hP;obtain⟨hk,hke⟩:=Zf.1 he;obtain⟨hPev,hPv,_,_,hPa⟩:=hS.2 P (hPe▸List.getElem_mem hp);have ha:=hPa e (hke▸List.getElem_mem hk);have hJ:cx.J1 p k t e=some (if ow P k e then 11 else if e.assign.l.length>8 then 5 else jo (mb P e) 0 e.assign.l.length):=by
  unfold cx.J1;rw[fM,Zc,DL hP ha,show idx t.procs (p:Int)=some P from by rw[kd];exact hP,Zc]
  have h1:(ao (decide ((k:Int)>0)) ((idx P.events (IntKind.wrap .i64 ((k:Int)-1))).bind fun x_3=>some (decide (e.time<x_3.time))) (some false):Option Bool)=some (xR P k e):=by
   cases k with
   | zero=>rfl
   | succ j=>
    have hjl:j<P.events.l.length:=by omega
    rw[show decide ((((j+1:Nat)):Int)>0)=true from by simp only[decide_eq_true_eq];omega,bU,show IntKind.wrap .i64 ((((j+1:Nat)):Int)-1)=((j:Nat):Int)from by rw[ke _ (by omega) (by omega)];omega,aW hjl,Zc]
    simp only[xR,uI hjl]
  rw[h1,Zc,fM,Zc];show ao (ow P k e) _ _=_
  cases ow P k e with
  | true=>rfl
  | false=>
   rw[eu];simp only[Bool.false_eq_true,if_false]
   by_cases h8:e.assign.l.length>8
   ·rw[show decide (len e.assign>8)=true from by simp[len];omega,bU,if_pos h8]
   ·rw[show decide (len e.assign>8)=false from by simp[len];omega,eu,if_neg h8]
 unfold cx kN;rw[show idx t.procs (p:Int)=some P from by rw[kd];exact hP,Zc,show idx P.events (k:Int)=some e from by rw[kd];exact he,Zc,hJ]
 unfold BS
 cases h1:e.kind==1 with
 | true=>
  rw[bU];simp only[if_true];cases e.peer==0 <;> cases e.message==0 <;> rfl
 | false=>
  rw[eu];simp only[Bool.false_eq_true,if_false];have h2:(ao (e.kind==2) (some false) (some (!(e.kind==3))):Option Bool)=some (!(e.kind==2||e.kind==3)):=by cases e.kind==2 <;> rfl
  rw[h2,Zc,fM,Zc,fM,Zc,fM,Zc,fM,Zc,fM,Zc];have h3:(((((!(e.kind==2||e.kind==3))||decide (e.peer<0))||decide (e.peer≥len t.procs))||(e.peer==p))||decide (e.message<0)||decide (e.message>199)) = !((e.kind==2||e.kind==3)&&(decide (0≤e.peer)&&decide (e.peer<t.procs.l.length)) && !(e.peer==p)&&(decide (0≤e.message)&&decide (e.message≤199))):=by
   generalize (e.kind==2||e.kind==3)=A;have a1:decide (e.peer<0) = !decide (0≤e.peer):=by rw[Bool.eq_iff_iff];simp
   have a2:decide (e.peer≥len t.procs) = !decide (e.peer<t.procs.l.length):=by rw[Bool.eq_iff_iff];simp[len]
   have a3:decide (e.message<0) = !decide (0≤e.message):=by rw[Bool.eq_iff_iff];simp
   have a4:decide (e.message>199) = !decide (e.message≤199):=by rw[Bool.eq_iff_iff];simp
   rw[a1,a2,a3,a4];generalize decide (0≤e.peer)=B;generalize decide (e.peer<(t.procs.l.length:Int))=C;generalize (e.peer==(p:Int))=D;generalize decide (0≤e.message)=F;generalize decide (e.message≤199)=G;cases A <;> cases B <;> cases C <;> cases D <;> cases F <;> cases G <;> rfl
  rw[h3];generalize ((e.kind==2||e.kind==3)&&(decide (0≤e.peer)&&decide (e.peer<(t.procs.l.length:Int))) && !(e.peer==(p:Int))&&(decide (0≤e.message)&&decide (e.message≤199)))=Z;cases Z <;> rfl
theorem EE {n:Nat} {p:Int} {e:Event} (h:BS n p e=true):gw n p e:=by
 unfold BS at h;split at h
 ·rename_i h1;left;simpa using h1
 ·right;simp only[Zj,Bool.or_eq_true,beq_iff_eq,decide_eq_true_eq,Bool.not_eq_true',beq_eq_false_iff_ne,ne_eq]at h;obtain⟨⟨⟨h1,h2⟩,h3⟩,h4⟩:=h;exact⟨h1,h2.1,h2.2,h3,h4.1,h4.2⟩
theorem Bh {n:Nat} {P:aS} {p k:Nat} {e:Event} (h:kN n P p k e=0):gw n p e:=by
 unfold kN at h;split at h
 ·rename_i h1;exact EE h1
 ·cases h
end Go.VE
namespace Go.VE
theorem wN {α:Type} [DecidableEq α]:∀{l r:List α},l.Nodup→(∀x∈l,x∈r)→l.length≤r.length
 | [],_,_,_=>Nat.zero_le _
 | x::l,r,hn,hs=>by
  have hx:x∈r:=hs x (List.mem_cons_self ..);have hn':=List.nodup_cons.1 hn;have:=wN (l:=l) (r:=r.erase x) hn'.2 fun y hy=>(List.mem_erase_of_ne (by rintro rfl;exact hn'.1 hy)).2 (hs y (List.mem_cons_of_mem _ hy))
  rw[List.length_erase_of_mem hx]at this;have hp:0<r.length:=List.length_pos_of_mem hx;simp only[List.length_cons];omega
section
variable {κ:Type} [DecidableEq κ]
theorem xT {ν:Type} {k:κ}:∀{m:Mo κ ν},k∉m.map (·.1)→oI k m=none
 | [],_=>rfl
 | (a,v)::r,h=>by
  simp only[List.map_cons,List.mem_cons,not_or]at h;unfold oI;rw[if_neg h.1];exact xT h.2
theorem zX {ν:Type} {k:κ}:∀{m:Mo κ ν},k∈m.map (·.1)→∃v,oI k m=some v∧(k,v)∈m
 | [],h=>by simp at h
 | (a,v)::r,h=>by
  unfold oI
  by_cases e:k=a
  ·subst e;exact⟨v,by rw[if_pos rfl],List.mem_cons_self ..⟩
  ·rw[if_neg e];obtain⟨w,h1,h2⟩:=zX (m:=r) (by simpa [e]using h)
   exact⟨w,h1,List.mem_cons_of_mem _ h2⟩
theorem mE {ν:Type} {k:κ} {v:ν}:∀{m:Mo κ ν},k∉m.map (·.1)→mO m k v=m++[(k,v)]
 | [],_=>rfl
 | (a,w)::r,h=>by
  simp only[List.map_cons,List.mem_cons,not_or]at h;show (if k=a then _ else _)=_;rw[if_neg h.1,mE h.2];rfl
end
def Vd (t:Trace) (y:aa):Prop:=∃e,(y,e)∈aU t
theorem Vd.at_ {t:Trace} {y:aa} (h:Vd t y):∃(p k:Nat) (e:Event),jM t p k e∧y=⟨p,k+1⟩∧(y,e)∈aU t:=by
 obtain⟨e,he⟩:=h;obtain⟨p,k,h1,h2⟩:=cy.1 he;exact⟨p,k,e,h1,h2,he⟩
def Da (t:Trace) (y z:aa):Prop:=∃e f,(y,e)∈aU t∧(z,f)∈aU t∧e.kind=2∧f.kind=3∧e.message=f.message
def Edge (t:Trace) (y z:aa):Prop:=Vd t y∧Vd t z∧(z=⟨y.proc,y.index+1⟩∨Da t y z)
abbrev Way (t:Trace):aa→aa→Prop:=Relation.TransGen (Edge t)
def Dk (t:Trace):Prop:=∃x,Way t x x
theorem Way.l {t:Trace} {x y:aa} (h:Way t x y):Vd t x:=by
 induction h with
 | single h=>exact h.1
 | tail _ _ ih=>exact ih
theorem Way.r {t:Trace} {x y:aa} (h:Way t x y):Vd t y:=by
 cases h with
 | single h=>exact h.2.1
 | tail _ h=>exact h.2.1
theorem H_ {t:Trace} (hS:Small t) (hF:∀x∈aU t,gw t.procs.l.length x.1.proc x.2) {A:bt 200 aA} (hA:g8 t (aU t) A) {y:aa} (hy:Vd t y) :
 Wp (d7 t A y) fun s=>s.l.length≤2∧∀z,z∈s.l↔Edge t y z:=by
 obtain⟨p,k,e,hat,hid,hmem⟩:=hy.at_;have hat':=hat;obtain⟨P,hP,hk⟩:=hat;have hPm:P∈t.procs.l:=List.mem_of_getElem? hP;have h1:=(hS.2 P hPm).1;have hkl:k<P.events.l.length:=(Zf.1 hk).1;have hyp:y.proc=p:=by rw[hid]
 have hyi:y.index=k+1:=by rw[hid]
 have j:∀s:Sl aa,s.l.length≤1→(∀z,z∈s.l↔Vd t z∧z=⟨y.proc,y.index+1⟩)→Wp (d7.J1 A s P.events y) fun s=>s.l.length≤2∧∀z,z∈s.l↔Edge t y z:=by
  intro s hs hz;have no:¬(∃z,Da t y z)→s.l.length≤2∧∀z,z∈s.l↔Edge t y z:=fun hn=>⟨by omega,fun z=>(hz z).trans ⟨fun h=>⟨hy,h.1,.inl h.2⟩,fun h=>⟨h.2.1,h.2.2.elim id fun h=>(hn ⟨z,h⟩).elim⟩⟩⟩
  unfold d7.J1;have hw:IntKind.wrap .i64 (y.index-1)=((k:Nat):Int):=by rw[hyi,ke _ (by omega) (by omega)];omega
  rw[hw,kd,hk,Zc,dW,aD];constructor
  ·intro hk2;have hk2:e.kind=2:=by simpa using hk2
   have hm:0≤e.message∧e.message≤199:=by
    rcases hF _ hmem with h|⟨_,_,_,_,h⟩
    ·simp only at h;omega
    ·exact h
   have to_:∀z,Da t y z→(ag A e.message).to_=z:=fun z ⟨e',f,a1,a2,a3,a4,a5⟩=>by
    cases sM a1 hmem rfl;rw[a5];exact(hA.rcv _ a2 a4).1
   rw[D7 A hm.1 hm.2,Zc,af,aD];refine⟨fun h => ?_,fun h=>(af _).2 (no fun⟨z,hz⟩ => ?_)⟩
   ·have h:(ag A e.message).to_.index>0:=by simpa using h
    rw[Zc];unfold gI;rw[if_pos (by omega),Zc,af]
    refine⟨by show (s.l++[(ag A e.message).to_]).length≤2;rw[Zk,List.length_singleton];omega,fun z => ?_⟩
    have hto:Da t y (ag A e.message).to_:=by
     rcases hA.to e.message hm.1 hm.2 with h0|⟨e',h1,h2,h3⟩
     ·omega
     ·exact⟨e,e',hmem,h1,hk2,h2,h3.symm⟩
    show z∈s.l++[(ag A e.message).to_]↔_;rw[List.mem_append,List.mem_singleton,hz];constructor
    ·rintro (h|rfl)
     ·exact⟨hy,h.1,.inl h.2⟩
     ·exact⟨hy,let ⟨_,f,_,a2,_⟩:=hto;⟨f,a2⟩,.inr hto⟩
    ·rintro⟨_,h1,h2|h2⟩
     ·exact .inl ⟨h1,h2⟩
     ·exact .inr (to_ z h2).symm
   ·rw[to_ z hz]at h;obtain⟨_,f,_,a2,_⟩:=hz;obtain⟨q,i,_,hi⟩:=cy.1 a2;simp only at hi;rw[hi]at h;simp at h
  ·intro hk2;rw[af,aD];refine⟨fun h=>(by cases h),fun _=>(af _).2 (no fun⟨z,e',f,a1,_,a3,_⟩ => ?_)⟩
   cases sM a1 hmem rfl;simp[a3]at hk2
 unfold d7;rw[hyp,kd,hP,Zc,aD];rw[hyp]at j;constructor
 ·intro h;have h:y.index<len P.events:=by simpa using h
  have hk2:k+1<P.events.l.length:=by rw[hyi]at h;simp[len]at h;omega
  refine j _ (by simp[Sl.l]) fun z => ?_
  have hw:IntKind.wrap .i64 (y.index+1)=y.index+1:=ke _ (by omega) (by omega)
  simp only[Sl.l,List.mem_singleton,hw];refine⟨fun hz=>⟨⟨P.events.l[k+1],cy.2 ⟨p,k+1,⟨P,hP,Ze hk2⟩,?_⟩⟩,hz⟩,fun hz=>hz.2⟩
  rw[hz,hyi];simp
 ·intro h;have h:¬y.index<len P.events:=by simpa using h
  refine j _ (by simp[Sl.l]) fun z=>⟨fun hz=>by simp[Sl.l]at hz,fun⟨hz,he⟩ => ?_⟩
  obtain⟨q,i,f,⟨Q,hQ,hi⟩,hqi,_⟩:=hz.at_;rw[he,hyi]at hqi;simp only[aa.mk.injEq]at hqi;have:q=p:=by omega
  subst this;rw[hP]at hQ;cases hQ;have:=(Zf.1 hi).1;rw[hyi]at h;simp[len]at h;omega
structure Bp (t:Trace) (x:aa) (rest:Sl aa) (m:Mo aa Bool) (U:aa→Prop):Prop where
 rst:∀y∈rest.l,y=x∨Way t x y
 keys:(m.map (·.1)).Nodup
 seen:∀y∈m,Way t x y.1∧y.1≠x∧y.2=true
 le:rest.l.length≤m.length+1
 done:∀y,y=x∨y∈m.map (·.1)→y∈rest.l∨U y∨∀z,Edge t y z→z∈m.map (·.1)
theorem Bp.count {t:Trace} {x:aa} {rest:Sl aa} {m:Mo aa Bool} {U:aa→Prop} (h:Bp t x rest m U):m.length≤(aU t).length:=by
 have:=wN (r:=(aU t).map (·.1)) h.keys fun x hx=>by
  obtain⟨y,hy,rfl⟩:=List.mem_map.1 hx;obtain⟨e,he⟩:=(h.seen y hy).1.r;exact List.mem_map.2 ⟨_,he,rfl⟩
 simpa using this
theorem FT {t:Trace} (hS:Small t) (hN:(aU t).length<1073741824) (hF:∀x∈aU t,gw t.procs.l.length x.1.proc x.2) {A:bt 200 aA} (hA:g8 t (aU t) A):Wp (c9 t A) fun r=>(r.2=true↔Dk t):=by
 unfold c9 ey;rw[Zc];unfold c9.E1;rw[pS hS,Zc];refine u5 (fun k _=>∀x∈(aU t).take k,¬Way t x.1 x.1) (by simp) ?_ fun _ h=>(af _).2 ⟨fun h=>(by cases h),fun⟨x,hx⟩ => ?_⟩
 ·intro i x _ hx hall;have hxm:x∈aU t:=List.mem_of_getElem? hx;unfold c9.iB c9.W2;refine Wp.mono (P:=fun w=>match w with|.n s=>¬Way t x.1 x.1|.x e=>False|.r e=>Dk t) ?_ fun w hw=>by
   cases w with
   | n s=>
    intro y hy;rw[List.take_add_one,hx]at hy;rcases List.mem_append.1 hy with hy|hy
    ·exact hall y hy
    ·simp at hy;subst hy;exact hw
   | x e=>exact hw.elim
   | r b=>exact(af _).2 ⟨fun _=>hw,fun _=>rfl⟩
  refine bY (fun q:Sl aa×Mo aa Bool=>Bp t x.1 q.1 q.2 fun _=>False) (fun q=>2*((aU t).length-q.2.length)+q.1.l.length) ⟨fun y hy=>.inl (by simpa [Sl.l]using hy),by simp,by simp,by simp[Sl.l],fun y hy=>.inl ?_⟩ ?_
  ·simpa [Sl.l]using hy
  rintro⟨rest,m⟩ hI;unfold c9.aM;rw[aD];refine⟨fun h => ?_,fun h=>(af _).2 ((af _).2 fun hw => ?_)⟩
  ·have hlen:0<rest.l.length:=by
    have:len rest>0:=by simpa using h
    simp[len]at this;omega
   have hc:=hI.count;have hle:=hI.le;simp only at hc hle;have hw:IntKind.wrap .i64 ((len rest)-1)=((rest.l.length-1:Nat):Int):=by
    rw[ke _ (by simp[len];omega) (by simp[len];omega)];simp[len];omega
   have hlast:rest.l.length-1<rest.l.length:=by omega
   rw[hw];have h1:Sl.lW rest ((rest.l.length-1:Nat):Int)=some (rest.l.length-1):=by
    unfold Sl.lW;rw[if_pos ⟨by omega,by simpa using hlast⟩];rfl
   have h2:Sl.get rest (rest.l.length-1)=some rest.l[rest.l.length-1]:=by unfold Sl.get;exact Ze hlast
   obtain⟨cut,h3,h4⟩:∃x,kn rest none (some ((rest.l.length-1:Nat):Int))=some x∧x.l=rest.l.take (rest.l.length-1):=by
    cases rest with
    | nil=>simp[Sl.l]at hlen
    | emp=>simp[Sl.l]at hlen
    | row l=>
     simp only[Sl.l]at hlen ⊢;unfold kn dR;simp only[Option.getD_none,Option.getD_some];rw[if_pos (by omega)]
     exact⟨_,rfl,by simp[Sl.l]⟩
    | part l=>
     simp only[Sl.l]at hlen ⊢;unfold kn dR;simp only[Option.getD_none,Option.getD_some];rw[if_pos (by omega)]
     exact⟨_,rfl,by simp[Sl.l]⟩
   rw[h1,Zc,h2,Zc,h3,Zc,dW];generalize hye:rest.l[rest.l.length-1]=y;have hym:y∈rest.l:=hye▸List.getElem_mem hlast;have hsplit:∀z,z∈rest.l→z∈cut.l∨z=y:=fun z hz=>by
    have:rest.l.take (rest.l.length-1)++rest.l.drop (rest.l.length-1)=rest.l:=List.take_append_drop ..;rw[←this]at hz;rcases List.mem_append.1 hz with hz|hz
    ·exact .inl (h4▸hz)
    ·rw[List.drop_eq_getElem_cons hlast,List.drop_of_length_le (by omega)]at hz
     exact .inr (by simpa [hye]using hz)
   have hyw:y=x.1∨Way t x.1 y:=hI.rst _ hym;have hyv:Vd t y:=hyw.elim (fun e=>⟨x.2,e▸hxm⟩) Way.r
   refine(H_ hS hF hA hyv).mono fun s hs => ?_
   unfold c9.W3;refine bY (fun q:Sl aa×Int×Mo aa Bool=>∃n:Nat,q.2.1=n∧n≤s.l.length∧Bp t x.1 q.1 q.2.2 (fun u=>u=y)∧(∀z∈s.l.take n,z∈q.2.2.map (·.1))∧2*((aU t).length-q.2.2.length)+q.1.l.length<2*((aU t).length-m.length)+rest.l.length) (fun q=>s.l.length-q.2.1.toNat)
    ⟨0,rfl,Nat.zero_le _,⟨fun z hz=>hI.rst z (by rw[h4]at hz;exact List.mem_of_mem_take hz),hI.keys,hI.seen,by rw[h4];simp;omega,fun u hu => ?_⟩,by simp,by rw[h4];simp;omega⟩ ?_
   ·rcases hI.done u hu with h|h|h
    ·exact(hsplit u h).imp_right .inl
    ·exact h.elim
    ·exact .inr (.inr h)
   rintro⟨rest2,i2,m2⟩ ⟨n,rfl,hn,hI2,hms,hμ⟩;simp only at hI2 hμ hms;unfold c9.dB;rw[aD];constructor
   ·intro h;have hlt:n<s.l.length:=by simpa [len]using h
    have hxe:=(hs.2 s.l[n]).1 (List.getElem_mem hlt);have hxw:Way t x.1 s.l[n]:=hyw.elim (fun e=>.single (e▸hxe)) fun h=>.tail h hxe
    rw[aW hlt,Zc,aD];refine⟨fun he=>(af _).2 ((af _).2 ((af _).2 ⟨x.1,?_⟩)),fun hne => ?_⟩
    ·have:s.l[n]=x.1:=by
      unfold Dh at he
      revert he;cases s.l[n];cases x.1;intro he;simpa using he
     rw[this]at hxw;exact hxw
    have hne:s.l[n]≠x.1:=fun e=>by rw[e]at hne;simp[Dh]at hne
    have hw2:=cA n (by omega)
    have htk:s.l.take (n+1)=s.l.take n++[s.l[n]]:=by rw[List.take_add_one,Ze hlt];rfl
    rw[aD];refine⟨fun hg=>(af _).2 ⟨⟨n+1,hw2,by omega,hI2,fun z hz => ?_,hμ⟩,by show _-(IntKind.wrap .i64 ((n:Int)+1)).toNat<_;rw[hw2];simp;omega⟩,fun hno => ?_⟩
    ·rw[htk]at hz;rcases List.mem_append.1 hz with hz|hz
     ·exact hms z hz
     ·simp only[List.mem_singleton]at hz;subst hz;apply Classical.byContradiction;intro hk;unfold zj at hg;rw[xT hk]at hg;cases hg
    have hc2:=hI2.count;have hle2:=hI2.le;unfold gI;rw[if_pos (show rest2.l.length+1≤2147483648 from by omega),Zc,af]
    have hnew:s.l[n]∉m2.map (·.1):=fun hin=>by
     obtain⟨v,hv,hvm⟩:=zX hin;have:=(hI2.seen _ hvm).2.2;simp only at this;subst this;unfold zj at hno;rw[hv]at hno;cases hno
    have hmm:∀z,z∈(mO m2 s.l[n] true).map (·.1)↔z∈m2.map (·.1)∨z=s.l[n]:=fun z=>by
     rw[mE hnew,List.map_append,List.mem_append];simp
    have hS2:Bp t x.1 (.row (rest2.l++[s.l[n]])) (mO m2 s.l[n] true) (fun u=>u=y):=by
     refine⟨fun y hy => ?_,?_,fun y hy => ?_,?_,fun u hu => ?_⟩
     ·simp only[Sl.l,List.mem_append,List.mem_singleton]at hy;rcases hy with hy|rfl
      ·exact hI2.rst y hy
      ·exact .inr hxw
     ·rw[mE hnew,List.map_append,List.nodup_append];refine⟨hI2.keys,by simp,fun a ha b hb => ?_⟩
      simp only[List.map_cons,List.map_nil,List.mem_singleton]at hb;subst hb;exact fun e=>hnew (e▸ha)
     ·rw[mE hnew]at hy;rcases List.mem_append.1 hy with hy|hy
      ·exact hI2.seen y hy
      ·simp only[List.mem_singleton]at hy;subst hy;exact⟨hxw,hne,rfl⟩
     ·rw[mE hnew];show (rest2.l++[s.l[n]]).length≤_;rw[Zk,Zk,List.length_singleton,List.length_singleton];omega
     ·simp only[Sl.l,List.mem_append,List.mem_singleton];have old:u=x.1∨u∈m2.map (·.1)→(u∈rest2.l∨u=s.l[n])∨u=y∨∀z,Edge t u z→z∈(mO m2 s.l[n] true).map (·.1):=fun hu=>by
       rcases hI2.done u hu with h|h|h
       ·exact .inl (.inl h)
       ·exact .inr (.inl h)
       ·exact .inr (.inr fun z hz=>(hmm z).2 (.inl (h z hz)))
      rcases hu with hu|hu
      ·exact old (.inl hu)
      ·rcases (hmm u).1 hu with hu|hu
       ·exact old (.inr hu)
       ·exact .inl (.inr hu)
    have hc3:=hS2.count;refine⟨⟨n+1,hw2,by omega,hS2,fun z hz => ?_,?_⟩,by show _-(IntKind.wrap .i64 ((n:Int)+1)).toNat<_;rw[hw2];simp;omega⟩
    ·rw[htk]at hz;rcases List.mem_append.1 hz with hz|hz
     ·exact(hmm z).2 (.inl (hms z hz))
     ·exact(hmm z).2 (.inr (by simpa using hz))
    rw[mE hnew,Zk,List.length_singleton]at hc3;show 2*((aU t).length-(mO m2 s.l[n] true).length)+(rest2.l++[s.l[n]]).length<_;rw[mE hnew,Zk,Zk,List.length_singleton,List.length_singleton];omega
   ·intro h;have hge:s.l.length≤n:=by simpa [len]using h
    rw[List.take_of_length_le hge]at hms;refine(af _).2 ((af _).2 ⟨⟨hI2.rst,hI2.keys,hI2.seen,hI2.le,fun u hu => ?_⟩,hμ⟩)
    rcases hI2.done u hu with h|h|h
    ·exact .inl h
    ·subst h;exact .inr (.inr fun z hz=>hms z ((hs.2 z).2 hz))
    ·exact .inr (.inr h)
  ·have hr0:rest.l=[]:=by
    have:¬len rest>0:=by simpa using h
    simp[len]at this;exact this
   have hd:∀y,y=x.1∨y∈m.map (·.1)→∀z,Edge t y z→z∈m.map (·.1):=fun y hy=>by
    rcases hI.done y hy with h|h|h
    ·simp only[hr0]at h;cases h
    ·exact h.elim
    ·exact h
   have key:∀z,Way t x.1 z→z∈m.map (·.1):=fun z hz=>by
    induction hz with
    | single h=>exact hd _ (.inl rfl) _ h
    | tail _ h ih=>exact hd _ (.inr ih) _ h
   obtain⟨y,hy,hyx⟩:=List.mem_map.1 (key _ hw);exact(hI.seen y hy).2.1 hyx
 ·obtain⟨e,he⟩:=hx.l;rw[List.take_length]at h;exact absurd hx (h _ he)
structure Ok (t:Trace):Prop where
 one:1≤t.procs.l.length
 few:t.procs.l.length≤8
 heads:∀p,p<t.procs.l.length→oe t p=0
 fP:∀(p k:Nat) P e,t.procs.l[p]? = some P→P.events.l[k]? = some e→kN t.procs.l.length P p k e=0
 uc:sn t
 acyc:¬Dk t
theorem Ah {t:Trace} (h:∀(p k:Nat) P e,t.procs.l[p]? = some P→P.events.l[k]? = some e→kN t.procs.l.length P p k e=0):∀x∈aU t,gw t.procs.l.length x.1.proc x.2:=fun x hx=>by
 obtain⟨p,k,⟨P,hP,he⟩,hid⟩:=cy.1 hx;rw[hid];exact Bh (h p k P _ hP he)
structure VT (t:Trace):Prop where
 formed:∀x∈aU t,gw t.procs.l.length x.1.proc x.2
 msgs:∃A i,b7 t=some (some A,i,0)∧g8 t (aU t) A
 few:t.procs.l.length≤8
 ok:Ok t
theorem Hp {t:Trace} (hS:Small t) (hN:(aU t).length<1073741824):Wp (dH t) fun r=>(r.2=0→VT t)∧(Ok t→r.2=0):=by
 unfold dH;rw[gJ,Zc,aD];refine⟨fun hin => ?_,fun hin=>(af _).2 ⟨fun h=>(by cases h),fun h => ?_⟩⟩
 rotate_left
 ·have h1:=h.one;have h8:=h.few;simp only[Bool.and_eq_false_iff,decide_eq_false_iff_not,len]at hin;omega
 have h8:1≤t.procs.l.length∧t.procs.l.length≤8:=by
  simp only[Zj,decide_eq_true_eq,len]at hin;omega
 unfold dH.W1;refine bY (fun i:Int=>∃n:Nat,i=n∧n≤t.procs.l.length∧∀p,p<n→oe t p=0) (fun i:Int=>t.procs.l.length-i.toNat) ⟨0,rfl,Nat.zero_le _,fun p hp=>absurd hp (by omega)⟩ ?_
 rintro i ⟨n,rfl,hn,hh⟩;unfold dH.aj;rw[aD];constructor
 ·intro h;have hlt:n<t.procs.l.length:=by simpa [len]using h
  rw[Ic hS hlt,Zc,aD];refine⟨fun h0=>(af _).2 ⟨⟨n+1,cA n (by omega),by omega,fun p hp => ?_⟩,by rw[cA n (by omega)];simp;omega⟩,fun h0=>(af _).2 ((af _).2 ⟨fun h => ?_,fun h => ?_⟩)⟩
  ·by_cases e:p=n
   ·subst e;simpa using h0
   ·exact hh p (by omega)
  ·simp only at h;simp[h]at h0
  ·simp[h.heads n hlt]at h0
 ·intro h;have hge:t.procs.l.length≤n:=by simpa [len]using h
  rw[af];unfold ey;rw[Zc];unfold dH.E2;rw[pS hS,Zc];refine u5 (fun i _=>∀(p k:Nat) P e,t.procs.l[p]? = some P→P.events.l[k]? = some e→(⟨p,k+1⟩,e)∈(aU t).take i→kN t.procs.l.length P p k e=0) (by simp) ?_ ?_
  ·intro i x _ hx hI;have hxm:x∈aU t:=List.mem_of_getElem? hx;obtain⟨p,j,⟨P,hP,he⟩,hid⟩:=cy.1 hxm;unfold dH.uZ;rw[hid,GH hS hP he,Zc,aD];refine⟨fun h0=>(af _).2 fun p' k' P' e' hP' he' hm => ?_,fun h0=>(af _).2 ((af _).2 ⟨fun h => ?_,fun h => ?_⟩)⟩
   ·rw[List.take_add_one,hx]at hm;rcases List.mem_append.1 hm with hm|hm
    ·exact hI p' k' P' e' hP' he' hm
    ·simp only[Option.toList_some,List.mem_singleton]at hm;rw[←hm]at hid he;simp only[aa.mk.injEq]at hid;have e1:p'=p:=by omega
     have e2:k'=j:=by omega
     subst e1 e2;rw[hP']at hP;cases hP;rw[←hm]at h0;simpa using h0
   ·simp only at h;simp[h]at h0
   ·simp[h.fP p j P _ hP he]at h0
  ·intro _ hI;have hI:∀(p k:Nat) P e,t.procs.l[p]? = some P→P.events.l[k]? = some e→kN t.procs.l.length P p k e=0:=fun p k P e hP he=>hI p k P e hP he (by rw[List.take_length];exact cy.2 ⟨p,k,⟨P,hP,he⟩,rfl⟩)
   have hF:=Ah hI;obtain⟨r,hr,hq,hq2⟩:=xF hS hF;rw[hr,Zc,aD];refine⟨fun h0 => ?_,fun h0=>(af _).2 ⟨fun h => ?_,fun h=>hq2 h.uc⟩⟩
   ·have h0:r.2.2=0:=by simpa using h0
    obtain⟨A,hA,hM⟩:=hq h0;rw[hA,Zc];obtain⟨c,hc,hcc⟩:=FT hS hN hF hM;rw[hc,Zc,aD];refine⟨fun hb=>(af _).2 ⟨fun h=>(by cases h),fun h=>absurd (hcc.1 hb) h.acyc⟩,fun hb=>(af _).2 ⟨fun _ => ?_,fun _=>rfl⟩⟩
    exact⟨hF,⟨A,r.2.1,by rw[hr];obtain⟨r1,r2,r3⟩:=r;simp only at hA h0;rw[hA,h0],hM⟩,h8.2,h8.1,h8.2,fun p hp=>hh p (by omega),hI,hM.uc,fun hc=>by rw[hcc.2 hc]at hb;cases hb⟩
   ·simp only at h;simp[h]at h0
theorem HR {t:Trace} (hS:Small t) (hN:(aU t).length<1073741824):Wp (bX t) fun b=>(b=true→VT t)∧(Ok t→b=true):=by
 unfold bX;rw[dW];exact(Hp hS hN).mono fun r hr=>(af _).2 ⟨fun h=>hr.1 (by simpa using h),fun h=>by simpa using hr.2 h⟩
end Go.VE
namespace Go.VE
theorem Iq {t:Trace} (hS:Small t):mm (eC t):=by
 unfold eC;rw[mm,aD];refine⟨fun _=>(af _).2 trivial,fun _ => ?_⟩
 unfold eC.W1;refine bY (fun q:Int×Int=>∃n:Nat,q.2=n∧n≤t.procs.l.length) (fun q:Int×Int=>t.procs.l.length-q.2.toNat) ⟨0,rfl,Nat.zero_le _⟩ ?_
 rintro⟨c,i⟩ ⟨n,hi,hn⟩;simp only at hi;subst hi;have h1:=hS.1;unfold eC.aj;rw[aD];refine⟨fun h => ?_,fun _=>(af _).2 ((af _).2 trivial)⟩
 have hlt:n<t.procs.l.length:=by simpa [len]using h
 rw[aW hlt,Zc,tG (f:=fun z=>(fD z).getD false) (fun z _=>mm.ok ((af _).2 trivial)) (hS.2 _ (List.getElem_mem hlt)).1,Zc,gN,Zc,aD]
 refine⟨fun _=>(af _).2 ((af _).2 trivial),fun _=>(af _).2 ⟨⟨n+1,cA n (by omega),by omega⟩,?_⟩⟩
 show _-(IntKind.wrap .i64 ((n:Int)+1)).toNat<_;rw[cA n (by omega)];simp;omega
theorem Ho {t:Trace} (hv:bX t=some true) {p q:Nat} (hp:p<t.procs.l.length) (hq:q<t.procs.l.length) (hne:p≠q):eS t p q=some 0:=by
 unfold eS;rw[hv,Zc];have h1:decide ((p:Int)<0)=false:=by simp
 have h2:decide ((p:Int)≥len t.procs)=false:=by simp[len];omega
 have h3:decide ((q:Int)<0)=false:=by simp
 have h4:decide ((q:Int)≥len t.procs)=false:=by simp[len];omega
 have h5:((p:Int)==(q:Int))=false:=by simp;omega
 simp only[h1,h2,h3,h4,h5,bU,eu,Zc]
def qS (q:Int) (e:Event):Bool:=if e.kind==2 then !(e.peer==q)else true
theorem J0 {q:Int} {e:Event} (h:qS q e=false):e.kind=2∧e.peer=q:=by
 unfold qS at h
 by_cases hk:e.kind=2
 ·simpa [hk]using h
 ·simp[hk]at h
def ie (q:Int) (pos:Event→Int):List Event→Int→Bool→Bool
 | [],_,_=>true
 | e::r,last,missing=>ao (qS q e) (ie q pos r last missing)
  (ao (pos e==0) (ie q pos r last true)
  (ao (if missing then true else decide (pos e<last)) false (ie q pos r (pos e) missing)))
theorem vF {q:Int} {pos pos':Event→Int}:∀{l:List Event} {last:Int} {missing:Bool},(∀e∈l,e.kind=2→e.peer=q→pos e=pos' e)→ie q pos l last missing=ie q pos' l last missing
 | [],_,_,_=>rfl
 | e::r,last,missing,h=>by
  have hr:∀{last:Int} {missing:Bool},ie q pos r last missing=ie q pos' r last missing:=vF fun x hx=>h x (List.mem_cons_of_mem _ hx)
  unfold ie
  cases hc:qS q e with
  | true=>exact hr
  | false=>
   have hk:=J0 hc;simp only[h e (List.mem_cons_self ..) hk.1 hk.2,hr]
def pos1 (t:Trace) (q:Nat) (e:Event):Int:=match t.procs.l[q]? with
 | some Q=>place (fun y=>y.kind==3&&y.message==e.message) Q.events.l+1
 | none=>0
theorem drop_cons {α:Type} {l:List α} {n:Nat} (h:n<l.length):l.drop n=l[n]::l.drop (n+1):=List.drop_eq_getElem_cons h
theorem FC {t:Trace} (hS:Small t) (hv:bX t=some true) {p q:Nat} (hp:p<t.procs.l.length) (hq:q<t.procs.l.length) (hne:p≠q) :
 cV t p q=some (ie q (pos1 t q) t.procs.l[p].events.l 0 false,0):=by
 unfold cV;rw[Ho hv hp hq hne,Zc,show ((0:Int)==0)=true from rfl,bU,aW hp,Zc];have hP:=hS.2 _ (List.getElem_mem hp);have hQ:=hS.2 _ (List.getElem_mem hq);generalize hPe:t.procs.l[p]=P at *;unfold cV.W1;have hpl:=hP.1;refine Wp.eq (bY (fun s:Int×Bool×Int=>∃n:Nat,s.2.2=n∧n≤P.events.l.length∧ie q (pos1 t q) P.events.l 0 false=ie q (pos1 t q) (P.events.l.drop n) s.1 s.2.1) (fun s:Int×Bool×Int=>P.events.l.length-s.2.2.toNat) ⟨0,rfl,Nat.zero_le _,rfl⟩ ?_)
 rintro⟨last,missing,i⟩ ⟨n,hi,hn,hf⟩;simp only at hi hf;subst hi;unfold cV.aj;rw[aD];constructor
 ·intro h;have hlt:n<P.events.l.length:=by simpa [len]using h
  have hw:=cA n (by omega)
  rw[drop_cons hlt]at hf;generalize he:P.events.l[n]=e at hf;have step:∀(l':Int) (m':Bool),ie q (pos1 t q) P.events.l 0 false=ie q (pos1 t q) (P.events.l.drop (n+1)) l' m' →
   (∃k:Nat,((l',m',IntKind.wrap .i64 ((n:Int)+1)):Int×Bool×Int).2.2=k∧k≤P.events.l.length∧ie q (pos1 t q) P.events.l 0 false=ie q (pos1 t q) (P.events.l.drop k) l' m')∧P.events.l.length-(IntKind.wrap .i64 ((n:Int)+1)).toNat<P.events.l.length-(n:Int).toNat:=fun l' m' h'=>
   ⟨⟨n+1,hw,by omega,h'⟩,by rw[hw];simp;omega⟩
  rw[aW hlt,Zc,he,gN,Zc];change Wp (ao (qS q e) _ _) _;rw[ie]at hf
  cases hc:qS q e with
  | true=>
   rw[hc]at hf;rw[bU,af];exact step _ _ hf
  | false=>
   rw[hc,eu]at hf;rw[eu,aW hq,Zc,ya (f:=fun y=>y.kind==3&&y.message==e.message) (fun y _=>by unfold eV;simp only[fX,Zc]) hQ.1,Zc]
   have hpl:=GV (fun y:Event=>y.kind==3&&y.message==e.message) t.procs.l[q].events.l
   have hps:IntKind.wrap .i64 (place (fun y:Event=>y.kind==3&&y.message==e.message) t.procs.l[q].events.l+1)=pos1 t q e:=by
    rw[ke _ (by omega) (by have:=hQ.1;omega)]
    unfold pos1;rw[Ze hq]
   rw[hps]
   cases h0:(pos1 t q e==0)with
   | true=>
    rw[h0,bU]at hf;rw[bU,af];exact step _ _ hf
   | false=>
    rw[h0,eu]at hf;rw[eu,gN,Zc]
    cases hm:(if missing=true then true else decide (pos1 t q e<last))with
    | true=>
     rw[hm,bU]at hf;rw[bU];refine(af _).2 ((af _).2 ?_);rw[hf]
    | false=>
     rw[hm,eu]at hf;rw[eu,af];exact step _ _ hf
 ·intro h;have hge:P.events.l.length≤n:=by simpa [len]using h
  refine(af _).2 ((af _).2 ?_);rw[hf,List.drop_eq_nil_of_le hge];rfl
def pos2 (A:bt 200 aA) (e:Event):Int:=(ag A e.message).to_.index
theorem pos_eq {t:Trace} (hV:VT t) {A:bt 200 aA} (hA:g8 t (aU t) A) {p q:Nat} (hp:p<t.procs.l.length) (hq:q<t.procs.l.length) {e:Event} (he:e∈t.procs.l[p].events.l) (hk:e.kind=2) (hpe:e.peer=q):pos1 t q e=pos2 A e:=by
 obtain⟨k,hke⟩:=List.getElem?_of_mem he;have hat:jM t p k e:=⟨_,Ze hp,hke⟩;have hmem:((⟨p,k+1⟩:aa),e)∈aU t:=cy.2 ⟨p,k,hat,rfl⟩;have hm:0≤e.message∧e.message≤199:=by
  rcases hV.formed _ hmem with h|⟨_,_,_,_,h⟩
  ·simp only at h;omega
  ·exact h
 unfold pos1 pos2;rw[Ze hq];simp only;have rcv:∀(r j:Nat) (y:Event),jM t r j y→y.kind=3→y.message=e.message→(ag A e.message).to_=⟨r,j+1⟩:=fun r j y hy h3 hme=>by
  have:=(hA.rcv (⟨r,j+1⟩,y) (cy.2 ⟨r,j,hy,rfl⟩) h3).1;rw[←hme];exact this
 rcases hA.to e.message hm.1 hm.2 with h0|⟨y,hy,h3,hme⟩
 ·rw[h0];have:t.procs.l[q].events.l.findIdx? (fun y=>y.kind==3&&y.message==e.message)=none:=by
   rw[List.findIdx?_eq_none_iff];intro y hy
   cases hb:(y.kind==3&&y.message==e.message)with
   | false=>rfl
   | true=>
    exfalso;simp only[Zj,beq_iff_eq]at hb;obtain⟨j,hj⟩:=List.getElem?_of_mem hy;have:=rcv q j y ⟨_,Ze hq,hj⟩ hb.1 hb.2;rw[this]at h0;simp only at h0;omega
  unfold place;rw[this];rfl
 ·obtain⟨r,j,hyat,hid⟩:=cy.1 hy;simp only at hyat hid;have hs:=(hA.rcv _ hy h3).2;simp only at hs;have hfy:=hV.formed _ hy;have hpeer:0≤y.peer:=by
   rcases hfy with h|⟨_,h,_⟩
   ·simp only at h;omega
   ·exact h
  obtain⟨pn,hpn⟩:∃pn:Nat,y.peer=pn:=⟨y.peer.toNat,by omega⟩
  rw[hpn,hme]at hs;obtain⟨k2,e2,hat2,g1,g2,g3⟩:=pM.1 hs;have f1:=hA.snd _ hmem hk;have f2:=hA.snd (⟨pn,k2+1⟩,e2) (cy.2 ⟨pn,k2,hat2,rfl⟩) g1;simp only at f1 f2;rw[g2,f1]at f2;have e1:p=pn∧k=k2:=by
   simp only[aa.mk.injEq]at f2;omega
  obtain⟨rfl,rfl⟩:=e1;have e3:e2=e:=by
   obtain⟨P,h1,h2⟩:=hat;obtain⟨P',h1',h2'⟩:=hat2;rw[h1]at h1';cases h1';rw[h2]at h2';cases h2';rfl
  subst e3;have hrq:r=q:=by
   have:(ag A e2.message).to_.proc=(q:Int):=by rw[←g3,hpe]
   rw[hid]at this;simp only at this;omega
  subst hrq;obtain⟨Q,hQ,hj⟩:=hyat;rw[Ze hq]at hQ;cases hQ;have:t.procs.l[r].events.l.findIdx? (fun y=>y.kind==3&&y.message==e2.message)=some j:=by
   refine vO (fun i hi z hz => ?_) hj (by simp[h3,hme])
   cases hb:(z.kind==3&&z.message==e2.message)with
   | false=>rfl
   | true=>
    exfalso;simp only[Zj,beq_iff_eq]at hb;have:=rcv r i z ⟨_,Ze hq,hz⟩ hb.1 hb.2;rw[hid]at this;simp only[aa.mk.injEq]at this;omega
  unfold place;rw[this,hid]
end Go.VE
namespace Go.VE
theorem JB {a:Int} (h0:0≤a) (h1:a<4294967296):tj .u64 (IntKind.wrap .u64 (IntKind.wrap .i64 a)) 1=some (a / 2):=by
 have e1:IntKind.wrap .i64 a=a:=ke a (by omega) (by omega)
 have e2:IntKind.wrap .u64 a=a:=by simp[IntKind.wrap,IntKind.bits,IntKind.signed];omega
 rw[e1,e2];unfold tj;rw[if_neg (by omega)]
 show some (a.fdiv (2 ^ (min 1 64)))=_;rw[show (2:Int) ^ (min 1 64)=2 from rfl,Int.fdiv_eq_ediv_of_nonneg a (by omega)]
def Up (l:List Int):Prop:=∀(i j:Nat) (a b:Int),i<j→l[i]? = some a→l[j]? = some b→a<b
theorem Ju (a b:Int):gu a b=some (decide (a<b)):=by
 unfold gu fW;simp[ao]
theorem y_ {l:List Int} {x:Int} {r:Nat} (hr:r≤l.length) (h1:∀k a,k<r→l[k]? = some a→a≤x) (h2:∀k a,r≤k→l[k]? = some a→x<a):l.countP (fun a=>decide (a≤x))=r:=by
 have e:l=l.take r++l.drop r:=(List.take_append_drop r l).symm;rw[e,List.countP_append];have a1:(l.take r).countP (fun a=>decide (a≤x))=(l.take r).length:=by
  rw[List.countP_eq_length];intro a ha;obtain⟨k,hk⟩:=List.getElem?_of_mem ha;have hkl:k<(l.take r).length:=(Zf.1 hk).1;rw[List.getElem?_take]at hk;have hkr:k<r:=by rw[List.length_take]at hkl;omega
  rw[if_pos hkr]at hk;simpa using h1 k a hkr hk
 have a2:(l.drop r).countP (fun a=>decide (a≤x))=0:=by
  rw[List.countP_eq_zero];intro a ha;obtain⟨k,hk⟩:=List.getElem?_of_mem ha;rw[List.getElem?_drop]at hk;have:=h2 (r+k) a (by omega) hk
  simp;omega
 rw[a1,a2,List.length_take];omega
theorem C5 {s:Sl Int} (hu:Up s.l) (hl:s.l.length<1073741824) (x:Int):fT s x=some (Int.ofNat (s.l.countP fun a=>decide (a≤x))):=by
 have hbs:Wp (bE s x) fun r=>∃i:Nat,r.1=i∧i≤s.l.length∧(∀k a,k<i→s.l[k]? = some a→a<x)∧(∀k a,i≤k→s.l[k]? = some a→x≤a)∧(r.2=true↔s.l[i]? = some x):=by
  unfold bE bE.W1;refine bY (fun q:Int×Int=>∃i j:Nat,q.1=i∧q.2=j∧i≤j∧j≤s.l.length∧(∀k a,k<i→s.l[k]? = some a→a<x)∧(∀k a,j≤k→s.l[k]? = some a→x≤a)) (fun q=>q.2.toNat-q.1.toNat)
   ⟨0,s.l.length,rfl,rfl,Nat.zero_le _,Nat.le_refl _,fun k a h=>absurd h (by omega),fun k a h hk=>by have:=(Zf.1 hk).1;omega⟩ ?_
  rintro⟨q1,q2⟩ ⟨i,j,h1,h2,hij,hj,hlo,hhi⟩;simp only at h1 h2;subst h1 h2;unfold bE.aj;rw[aD];constructor
  ·intro h;have hlt:i<j:=by
    have:(i:Int)<j:=by simpa using h
    omega
   rw[JB (by simp;omega) (by simp;omega),Zc]
   have hm:((i:Int)+j) / 2=(((i+j) / 2:Nat):Int):=by omega
   show Wp ((idx s (IntKind.wrap .i64 (((i:Int)+j) / 2))).bind _) _;have hw:IntKind.wrap .i64 (((i:Int)+j) / 2)=(((i+j) / 2:Nat):Int):=by rw[hm,ke _ (by omega) (by omega)]
   have hml:(i+j) / 2<s.l.length:=by omega
   rw[hw,aW hml,Zc,Ju,Zc,aD];constructor
   ·intro hc;have hc:s.l[(i+j) / 2]<x:=by simpa using hc
    rw[af];refine⟨⟨(i+j) / 2+1,j,cA _ (by omega),rfl,by omega,hj,fun k a hk ha => ?_,hhi⟩,?_⟩
    ·by_cases e:k=(i+j) / 2
     ·subst e;rw[Ze hml]at ha;cases ha;exact hc
     ·have:=hu k ((i+j) / 2) a _ (by omega) ha (Ze hml);omega
    ·show (j:Int).toNat-(IntKind.wrap .i64 ((((i+j) / 2:Nat):Int)+1)).toNat<(j:Int).toNat-(i:Int).toNat;rw[cA _ (by omega)];simp only[Int.toNat_natCast];omega
   ·intro hc;have hc:x≤s.l[(i+j) / 2]:=by simpa using hc
    rw[af];refine⟨⟨i,(i+j) / 2,rfl,rfl,by omega,by omega,hlo,fun k a hk ha => ?_⟩,?_⟩
    ·by_cases e:k=(i+j) / 2
     ·subst e;rw[Ze hml]at ha;cases ha;exact hc
     ·have:=hu ((i+j) / 2) k _ a (by omega) (Ze hml) ha;omega
    ·show (((i+j) / 2:Nat):Int).toNat-(i:Int).toNat<(j:Int).toNat-(i:Int).toNat;simp only[Int.toNat_natCast];omega
  ·intro h;have hge:j≤i:=by
    have:¬(i:Int)<j:=by simpa using h
    omega
   have hij':i=j:=by omega
   subst hij';refine(af _).2 ?_;show Wp (Option.bind (ao (decide ((i:Int)<len s)) _ _) _) _;rw[dW,aD];constructor
   ·intro h2;have hil:i<s.l.length:=by simpa [len]using h2
    rw[aW hil,Zc,dW];unfold eM;rw[aD];constructor
    ·intro h3;have h3:s.l[i]=x:=by simpa using h3
     simp only[af,dW];exact⟨i,rfl,hj,hlo,hhi,by simp[Ze hil,h3]⟩
    ·intro h3;have h3:s.l[i]≠x:=by simpa using h3
     simp only[af,dW,Zc,beq_self_eq_true,Bool.not_true,eu];exact⟨i,rfl,hj,hlo,hhi,by simp[Ze hil,h3]⟩
   ·intro h2;have hil:s.l.length≤i:=by simpa [len]using h2
    simp only[af];exact⟨i,rfl,hj,hlo,hhi,by simp[List.getElem?_eq_none hil]⟩
 obtain⟨⟨i,b⟩,hi,n,h1,h2,h3,h4,h5⟩:=hbs;simp only at h1 h5;subst h1;unfold fT;rw[hi,Zc]
 cases b with
 | true=>
  have hx:=h5.1 rfl;have hnl:=(Zf.1 hx).1;have hc:s.l.countP (fun a=>decide (a≤x))=n+1:=by
   refine y_ (by omega) (fun k a hk ha => ?_) (fun k a hk ha => ?_)
   ·by_cases e:k=n
    ·subst e;rw[hx]at ha;cases ha;omega
    ·have:=h3 k a (by omega) ha;omega
   ·have:=hu n k x a (by omega) hx ha;omega
  rw[bU,hc,cA n (by omega)];rfl
 | false=>
  have hc:s.l.countP (fun a=>decide (a≤x))=n:=by
   refine y_ h2 (fun k a hk ha=>by have:=h3 k a hk ha;omega) (fun k a hk ha => ?_)
   have:=h4 k a hk ha
   by_cases e:k=n
   ·subst e;have:a≠x:=fun e=>by subst e;have:=h5.2 ha;cases this
    omega
   ·have hn:n<s.l.length:=by have:=(Zf.1 ha).1;omega
    have h6:=h4 n s.l[n] (Nat.le_refl _) (Ze hn);have:=hu n k s.l[n] a (by omega) (Ze hn) ha
    omega
  rw[eu,hc];rfl
end Go.VE
namespace Go.VE
def ku (f:Event→Bool):Int→List Event→List Int
 | _,[]=>[]
 | j,e::r=>if f e then(j+1)::ku f (j+1) r else ku f (j+1) r
theorem wJ (f:Event→Bool) (e:Event):∀(l:List Event) (j:Int),ku f j (l++[e])=ku f j l++(if f e then [j+l.length+1]else [])
 | [],j=>by simp[ku]
 | x::l,j=>by
  simp only[List.cons_append,ku,wJ f e l (j+1),List.length_cons];split <;> simp <;> split <;> simp <;> omega
theorem rZ (f:Event→Bool):∀(l:List Event) (j:Int),(ku f j l).length≤l.length
 | [],_=>Nat.le_refl _
 | x::l,j=>by
  have:=rZ f l (j+1);simp only[ku];split <;> simp only[List.length_cons] <;> omega
theorem xw (f:Event→Bool):∀(l:List Event) (j:Int) (a:Int),a∈ku f j l→j<a
 | x::l,j,a,h=>by
  simp only[ku]at h;split at h
  ·rcases List.mem_cons.1 h with rfl|h
   ·omega
   ·have:=xw f l (j+1) a h;omega
  ·have:=xw f l (j+1) a h;omega
theorem x7 (f:Event→Bool):∀(l:List Event) (j:Int),Up (ku f j l)
 | [],_=>fun i k a b _ h=>by simp[ku]at h
 | x::l,j=>by
  intro i k a b hik ha hb;simp only[ku]at ha hb;split at ha
  ·rename_i hf;rw[if_pos hf]at hb
   cases k with
   | zero=>omega
   | succ k=>
    simp only[List.getElem?_cons_succ]at hb
    cases i with
    | zero=>
     simp only[List.getElem?_cons_zero,Za]at ha;subst ha;exact xw f l (j+1) b (List.mem_of_getElem? hb)
    | succ i=>
     simp only[List.getElem?_cons_succ]at ha;exact x7 f l (j+1) i k a b (by omega) ha hb
  ·rename_i hf;rw[if_neg hf]at hb;exact x7 f l (j+1) i k a b hik ha hb
theorem uM (f:Event→Bool):∀(l:List Event) (j:Int) (x:Nat),(ku f j l).countP (fun a=>decide (a≤j+x))=(l.take x).countP f
 | [],j,x=>by simp[ku]
 | e::l,j,0=>by
  rw[List.take_zero,List.countP_nil,List.countP_eq_zero];intro a ha;have:=xw f (e::l) j a ha;simp;omega
 | e::l,j,x+1=>by
  have ih:=uM f l (j+1) x;rw[show j+1+(x:Int)=j+((x+1:Nat):Int)from by push_cast;omega]at ih
  simp only[ku,List.take_succ_cons,List.countP_cons];split
  ·rename_i hf;rw[List.countP_cons,ih];simp;omega
  ·rename_i hf;rw[ih];simp
def cT (q:Int) (e:Event):Bool:=e.kind==2&&e.peer==q
def fC (p:Int) (e:Event):Bool:=e.kind==3&&e.peer==p
theorem JM {t:Trace} (hS:Small t) {p q:Nat} (hp:p<t.procs.l.length) (hq:q<t.procs.l.length) :
 Wp (dm t p q) fun w=>w.p=p∧w.q=q∧w.sent.l=ku (cT q) 0 t.procs.l[p].events.l∧w.received.l=ku (fC p) 0 t.procs.l[q].events.l:=by
 have hP:=(hS.2 _ (List.getElem_mem hp)).1;have hQ:=(hS.2 _ (List.getElem_mem hq)).1;unfold dm;rw[aW hp,Zc];generalize hPe:t.procs.l[p]=P at *;unfold dm.W1;refine bY (fun s:Int×az×az=>∃n:Nat,s.1=n∧n≤P.events.l.length∧s.2.2.p=p∧s.2.2.q=q∧s.2.2.sent.l=ku (cT q) 0 (P.events.l.take n)) (fun s=>P.events.l.length-s.1.toNat) ⟨0,rfl,Nat.zero_le _,rfl,rfl,rfl⟩ ?_
 rintro⟨i,v,w⟩ ⟨n,hi,hn,h1,h2,h3⟩;simp only at hi h1 h2 h3;subst hi;unfold dm.aj;rw[aD];constructor
 ·intro h;have hlt:n<P.events.l.length:=by simpa [len]using h
  have hw:=cA n (by omega)
  have htk:P.events.l.take (n+1)=P.events.l.take n++[P.events.l[n]]:=by rw[List.take_add_one,Ze hlt];rfl
  have hmu:P.events.l.length-(IntKind.wrap .i64 ((n:Int)+1)).toNat<P.events.l.length-((n:Int)).toNat:=by rw[hw];simp;omega
  have hl0:=rZ (cT q) (P.events.l.take n) 0;rw[List.length_take]at hl0;have hsel:=wJ (cT q) P.events.l[n] (P.events.l.take n) 0;rw[←htk,List.length_take,Nat.min_eq_left (by omega)]at hsel
  rw[aW hlt,Zc,fX,Zc,aD];constructor
  ·intro hc;unfold gI;rw[h3,if_pos (by omega),Zc,af]
   refine⟨⟨n+1,hw,by omega,h1,h2,?_⟩,hmu⟩
   show ku (cT q) 0 (P.events.l.take n)++[IntKind.wrap .i64 ((n:Int)+1)]=_;rw[hsel,if_pos (show cT q P.events.l[n]=true from hc),hw];simp
  ·intro hc;rw[af];refine⟨⟨n+1,hw,by omega,h1,h2,?_⟩,hmu⟩
   show w.sent.l=_;rw[hsel,h3,if_neg (show ¬cT q P.events.l[n]=true from by rw[show cT q P.events.l[n]=false from hc];simp)];simp
 ·intro h;have hge:P.events.l.length≤n:=by simpa [len]using h
  rw[List.take_of_length_le hge]at h3;refine(af _).2 ?_;show Wp ((idx t.procs q).bind _) _;rw[aW hq,Zc];generalize hQe:t.procs.l[q]=Q at *;unfold dm.W2;refine bY (fun s:Int×az×az=>∃n:Nat,s.1=n∧n≤Q.events.l.length∧s.2.2.p=p∧s.2.2.q=q∧s.2.2.sent.l=ku (cT q) 0 P.events.l∧s.2.2.received.l=ku (fC p) 0 (Q.events.l.take n)) (fun s=>Q.events.l.length-s.1.toNat) ⟨0,rfl,Nat.zero_le _,h1,h2,h3,rfl⟩ ?_
  rintro⟨i,v',w'⟩ ⟨m,hi,hm,g1,g2,g3,g4⟩;simp only at hi g1 g2 g3 g4;subst hi;unfold dm.aM;rw[aD];constructor
  ·intro h;have hlt:m<Q.events.l.length:=by simpa [len]using h
   have hw:=cA m (by omega)
   have htk:Q.events.l.take (m+1)=Q.events.l.take m++[Q.events.l[m]]:=by rw[List.take_add_one,Ze hlt];rfl
   have hmu:Q.events.l.length-(IntKind.wrap .i64 ((m:Int)+1)).toNat<Q.events.l.length-((m:Int)).toNat:=by rw[hw];simp;omega
   have hl0:=rZ (fC p) (Q.events.l.take m) 0;rw[List.length_take]at hl0;have hsel:=wJ (fC p) Q.events.l[m] (Q.events.l.take m) 0;rw[←htk,List.length_take,Nat.min_eq_left (by omega)]at hsel
   rw[aW hlt,Zc,fX,Zc,aD];constructor
   ·intro hc;unfold gI;rw[g4,if_pos (by omega),Zc,af]
    refine⟨⟨m+1,hw,by omega,g1,g2,g3,?_⟩,hmu⟩
    show ku (fC p) 0 (Q.events.l.take m)++[IntKind.wrap .i64 ((m:Int)+1)]=_;rw[hsel,if_pos (show fC p Q.events.l[m]=true from hc),hw];simp
   ·intro hc;rw[af];refine⟨⟨m+1,hw,by omega,g1,g2,g3,?_⟩,hmu⟩
    show w'.received.l=_;rw[hsel,g4,if_neg (show ¬fC p Q.events.l[m]=true from by rw[show fC p Q.events.l[m]=false from hc];simp)];simp
  ·intro h;have hge:Q.events.l.length≤m:=by simpa [len]using h
   rw[List.take_of_length_le hge]at g4;refine(af _).2 ((af _).2 ⟨g1,g2,g3,g4⟩)
end Go.VE
namespace Go.VE
def under (t:Trace) (c:List Int) (p q:Nat):Int:=match t.procs.l[p]?,t.procs.l[q]?,c[p]?,c[q]? with
 | some P,some Q,some a,some b=>((P.events.l.take a.toNat).countP (cT q):Int)-((Q.events.l.take b.toNat).countP (fC p):Int)
 | _,_,_,_=>0
theorem LX {t:Trace} (hS:Small t) {c:Sl Int} {p q:Nat} (hp:p<t.procs.l.length) (hq:q<t.procs.l.length) (hcl:c.l.length=t.procs.l.length) (hc:∀a∈c.l,0≤a) {w:az}
 (h1:w.p=p) (h2:w.q=q) (h3:w.sent.l=ku (cT q) 0 t.procs.l[p].events.l) (h4:w.received.l=ku (fC p) 0 t.procs.l[q].events.l):eL w c=some (under t c.l p q):=by
 have hpc:p<c.l.length:=by omega
 have hqc:q<c.l.length:=by omega
 have hP:=(hS.2 _ (List.getElem_mem hp)).1;have hQ:=(hS.2 _ (List.getElem_mem hq)).1;have ha:=hc _ (List.getElem_mem hpc);have hb:=hc _ (List.getElem_mem hqc);have s1:=rZ (cT q) t.procs.l[p].events.l 0;have s2:=rZ (fC p) t.procs.l[q].events.l 0;unfold eL;rw[h1,aW hpc,Zc,C5 (by rw[h3];exact x7 _ _ _) (by rw[h3];omega),Zc,h2,aW hqc,Zc,C5 (by rw[h4];exact x7 _ _ _) (by rw[h4];omega),Zc]
 have e1:=uM (cT q) t.procs.l[p].events.l 0 c.l[p].toNat;have e2:=uM (fC p) t.procs.l[q].events.l 0 c.l[q].toNat;rw[show (0:Int)+(c.l[p].toNat:Int)=c.l[p]from by omega]at e1
 rw[show (0:Int)+(c.l[q].toNat:Int)=c.l[q]from by omega]at e2
 rw[h3,h4,e1,e2];have b1:=List.countP_le_length (p:=cT q) (l:=t.procs.l[p].events.l.take c.l[p].toNat);have b2:=List.countP_le_length (p:=fC p) (l:=t.procs.l[q].events.l.take c.l[q].toNat);rw[List.length_take]at b1 b2;rw[ke _ (by simp only[Int.ofNat_eq_natCast];omega) (by simp only[Int.ofNat_eq_natCast];omega)]
 unfold under;rw[Ze hp,Ze hq,Ze hpc,Ze hqc];rfl
def Table (t:Trace) (c:List Int) (rows:List (Sl Int)):Prop:=rows.length=t.procs.l.length∧∀(p:Nat) (r:Sl Int),rows[p]? = some r→r.l.length=t.procs.l.length∧∀(q:Nat) (x:Int),r.l[q]? = some x→x=if p=q then 0 else under t c p q
theorem Gi {t:Trace} (hS:Small t) {c:Sl Int} (hcl:c.l.length=t.procs.l.length) (hc:∀a∈c.l,0≤a) (hN:t.procs.l.length≤8) :
 Wp (bQ.W1 c (len t.procs) (Sl.nil:Sl (Sl Int)) (len t.procs) 0 t) fun r=>r.2=0∧Table t c.l r.1.l:=by
 unfold bQ.W1;refine bY (fun s:Sl (Sl Int)×Int=>∃n:Nat,s.2=n∧n≤t.procs.l.length∧s.1.l.length=n∧∀(p:Nat) (r:Sl Int),s.1.l[p]? = some r→r.l.length=t.procs.l.length∧∀(q:Nat) (x:Int),r.l[q]? = some x→x=if p=q then 0 else under t c.l p q) (fun s=>t.procs.l.length-s.2.toNat)
  ⟨0,rfl,Nat.zero_le _,rfl,fun p r h=>by simp[Sl.l]at h⟩ ?_
 rintro⟨out,i⟩ ⟨n,hi,hn,hlen,hrows⟩;simp only at hi hlen hrows;subst hi;unfold bQ.aj;rw[aD];constructor
 ·intro h;have hlt:n<t.procs.l.length:=by simpa [len]using h
  have hw:=cA n (by omega)
  unfold pz;rw[if_pos (by simp[len];omega),Zc]
  unfold bQ.W2;refine bY (fun s:Int×Sl Int×Int×Int=>∃m:Nat,s.1=n∧s.2.2.1=len t.procs∧s.2.2.2=m∧m≤t.procs.l.length∧s.2.1.l.length=t.procs.l.length∧(∃l,s.2.1=.row l)∧∀(q:Nat) (x:Int),s.2.1.l[q]? = some x→x=if q<m then(if n=q then 0 else under t c.l n q)else 0) (fun s=>t.procs.l.length-s.2.2.2.toNat)
   ⟨0,rfl,rfl,rfl,Nat.zero_le _,by simp[Sl.l,len],⟨_,rfl⟩,fun q x hx=>by
    simp only[Sl.l,List.getElem?_replicate]at hx;split at hx <;> simp at hx;simp[hx]⟩ ?_
  rintro⟨pp,row,cc,j⟩ ⟨m,hpp,hcc,hj,hm,hrl,⟨rl,hrow⟩,hr⟩;simp only at hpp hcc hj hrl hrow hr;subst hpp hcc hj hrow;unfold bQ.aM;rw[aD];constructor
  ·intro h;have hltm:m<t.procs.l.length:=by simpa [len]using h
   have hwm:=cA m (by omega)
   have hmu:t.procs.l.length-(IntKind.wrap .i64 ((m:Int)+1)).toNat<t.procs.l.length-((m:Int)).toNat:=by rw[hwm];simp;omega
   rw[aD];constructor
   ·intro he;have he:n=m:=by
     have:(n:Int)=m:=by simpa using he
     omega
    rw[af];refine⟨⟨m+1,rfl,rfl,hwm,by omega,hrl,⟨_,rfl⟩,fun q x hx => ?_⟩,hmu⟩
    have:=hr q x hx
    by_cases e:q=m
    ·subst e;rw[if_neg (show ¬q<q from by omega)]at this
     rw[this,if_pos (show q<q+1 from by omega),if_pos he]
    ·rw[this]
     by_cases e2:q<m
     ·rw[if_pos e2,if_pos (show q<m+1 from by omega)]
     ·rw[if_neg e2,if_neg (show ¬q<m+1 from by omega)]
   ·intro he;have he:n≠m:=by
     have:¬(n:Int)=m:=by simpa using he
     omega
    rw[dW];refine(JM hS hlt hltm).mono fun w hw4 => ?_
    rw[LX hS hlt hltm hcl hc hw4.1 hw4.2.1 hw4.2.2.1 hw4.2.2.2,Zc];have hrl2:rl.length=t.procs.l.length:=hrl;have hml:m<rl.length:=by omega
    rw[show Sl.lW (Sl.row rl) (m:Int)=some m from by unfold Sl.lW;rw[if_pos ⟨by omega,by simpa [Sl.l]using hml⟩];rfl,Zc]
    rw[show Sl.put (Sl.row rl) m (under t c.l n m)=some (.row (rl.set m (under t c.l n m)))from by unfold Sl.put;rw[if_pos (by simpa [Sl.l]using hml)],Zc,af]
    refine⟨⟨m+1,rfl,rfl,hwm,by omega,by show (rl.set m _).length=_;rw[List.length_set];exact hrl,⟨_,rfl⟩,fun q x hx => ?_⟩,hmu⟩
    change (rl.set m (under t c.l n m))[q]? = some x at hx;rw[List.getElem?_set]at hx
    by_cases e:m=q
    ·subst e;rw[if_pos rfl,if_pos hml]at hx;cases hx;rw[if_pos (show m<m+1 from by omega),if_neg he]
    ·rw[if_neg e]at hx;rw[hr q x hx]
     by_cases e2:q<m
     ·rw[if_pos e2,if_pos (show q<m+1 from by omega)]
     ·rw[if_neg e2,if_neg (show ¬q<m+1 from by omega)]
  ·intro h;have hge:t.procs.l.length≤m:=by simpa [len]using h
   refine(af _).2 ?_;show Wp ((gI out (Sl.row rl)).bind _) _;unfold gI;rw[if_pos (show out.l.length+1≤2147483648 from by omega),Zc,af]
   refine⟨⟨n+1,hw,by omega,by show (out.l++[Sl.row rl]).length=n+1;rw[Zk,hlen];rfl,fun p r hr' => ?_⟩,by show _-(IntKind.wrap .i64 ((n:Int)+1)).toNat<_;rw[hw];simp;omega⟩
   change (out.l++[Sl.row rl])[p]? = some r at hr'
   by_cases hpn:p<out.l.length
   ·rw[List.getElem?_append_left hpn]at hr';exact hrows p r hr'
   ·rw[List.getElem?_append_right (by omega)]at hr'
    have hpn2:p=n:=by
     have:=(Zf.1 hr').1;simp only[List.length_singleton]at this;omega
    subst hpn2;rw[hlen,Nat.sub_self]at hr';simp only[List.getElem?_cons_zero,Za]at hr';subst hr';exact⟨hrl,fun q x hx=>by
     have hql:=(Zf.1 hx).1;have:=hr q x hx;rw[if_pos (show q<m from by omega)]at this
     exact this⟩
 ·intro h;have hge:t.procs.l.length≤n:=by simpa [len]using h
  exact(af _).2 ((af _).2 ⟨rfl,show out.l.length=t.procs.l.length from by omega,hrows⟩)
end Go.VE
namespace Go.VE
theorem GB {t:Trace} (hS:Small t) (hv:bX t=some true) {A:bt 200 aA} (hM:g8 t (aU t) A) {x:aa×Event} (hx:x∈aU t) (hk:x.2.kind=2):gz t x.2.message=some (x.1,true):=by
 refine Wp.eq ?_;unfold gz e9;rw[hv,Zc,bU];unfold ey;rw[Zc];unfold e9.E1;rw[pS hS,Zc,dW];refine u5 (fun k _=>∀y∈(aU t).take k,¬(y.2.kind=2∧y.2.message=x.2.message)) (by simp) ?_ ?_
 ·intro k y _ hy hI;have hym:y∈aU t:=List.mem_of_getElem? hy;unfold e9.iB;rw[fX,Zc,aD];constructor
  ·intro hc;have hc:y.2.kind=2∧y.2.message=x.2.message:=by simpa using hc
   refine(af _).2 ((af _).2 ((af _).2 ?_));have h1:=hM.snd y hym hc.1;have h2:=hM.snd x hx hk;rw[hc.2,h2]at h1;rw[h1]
  ·intro hc;have hc:¬(y.2.kind=2∧y.2.message=x.2.message):=by
    intro h;rw[h.1,h.2]at hc;simp at hc
   rw[af];intro z hz;rw[List.take_add_one,hy]at hz;rcases List.mem_append.1 hz with hz|hz
   ·exact hI z hz
   ·simp at hz;subst hz;exact hc
 ·intro _ hI;rw[List.take_length]at hI;exact absurd ⟨hk,rfl⟩ (hI x hx)
def pC (t:Trace) (c:List Int):Prop:=c.length=t.procs.l.length∧∀(p:Nat) (a:Int) (P:aS),c[p]? = some a→t.procs.l[p]? = some P→0≤a∧a≤P.events.l.length
def lH (t:Trace) (A:bt 200 aA) (c:List Int):Prop:=∀(p k:Nat) (e:Event) (a:Int),jM t p k e→c[p]? = some a→(k:Int)<a→e.kind=3→∃b,c[(ag A e.message).from_.proc.toNat]? = some b∧(ag A e.message).from_.index≤b
theorem qt {t:Trace} (hV:VT t) {A:bt 200 aA} (hM:g8 t (aU t) A) {p k:Nat} {e:Event} (he:jM t p k e) (hk:e.kind=3) :
 ∃(q j:Nat) (y:Event),jM t q j y∧y.kind=2∧y.message=e.message∧y.peer=p∧e.peer=q∧(ag A e.message).from_=⟨q,j+1⟩:=by
 have hmem:((⟨p,k+1⟩:aa),e)∈aU t:=cy.2 ⟨p,k,he,rfl⟩;have hs:=(hM.rcv _ hmem hk).2;have hf:=hV.formed _ hmem;simp only at hs hf;have hpeer:0≤e.peer:=by
  rcases hf with h|⟨_,h,_⟩
  ·omega
  ·exact h
 obtain⟨q,hq⟩:∃q:Nat,e.peer=q:=⟨e.peer.toNat,by omega⟩
 rw[hq]at hs;obtain⟨j,y,hat,h1,h2,h3⟩:=pM.1 hs;have:=hM.snd (⟨q,j+1⟩,y) (cy.2 ⟨q,j,hat,rfl⟩) h1;simp only at this;rw[h2]at this;exact⟨q,j,y,hat,h1,h2,h3,hq,this⟩
theorem Ec {t:Trace} (hS:Small t) (hv:bX t=some true) (hV:VT t) {A:bt 200 aA} (hM:g8 t (aU t) A) {c:Sl Int} (hR:pC t c.l):Wp (dU t c) fun r=>(r.2.2=false↔lH t A c.l):=by
 have hn8:=hV.few;unfold dU dU.W1;refine bY (fun s:Int=>∃n:Nat,s=n∧n≤c.l.length∧∀(p k:Nat) (e:Event) (a:Int),p<n→jM t p k e→c.l[p]? = some a→(k:Int)<a→e.kind=3→∃b,c.l[(ag A e.message).from_.proc.toNat]? = some b∧(ag A e.message).from_.index≤b) (fun s:Int=>c.l.length-s.toNat) ⟨0,rfl,Nat.zero_le _,fun p k e a h=>absurd h (by omega)⟩ ?_
 rintro s ⟨n,rfl,hn,hI⟩;have hcl:=hR.1;unfold dU.aj;rw[aD];constructor
 ·intro h;have hlt:n<c.l.length:=by simpa [len]using h
  have hlt2:n<t.procs.l.length:=by omega
  have hP:=(hS.2 _ (List.getElem_mem hlt2)).1;obtain⟨r1,r2⟩:=hR.2 n _ _ (Ze hlt) (Ze hlt2);rw[aW hlt,Zc,aW hlt2,Zc];obtain⟨y,hy,hyl⟩:=kS t.procs.l[n].events c.l[n].toNat (by omega)
  rw[show ((c.l[n].toNat:Nat):Int)=c.l[n]from by omega]at hy
  rw[hy,Zc];unfold dU.W2;refine bY (fun s:Int=>∃m:Nat,s=m∧m≤y.l.length∧∀(k:Nat) (e:Event),k<m→jM t n k e→e.kind=3→∃b,c.l[(ag A e.message).from_.proc.toNat]? = some b∧(ag A e.message).from_.index≤b) (fun s:Int=>y.l.length-s.toNat) ⟨0,rfl,Nat.zero_le _,fun k e h=>absurd h (by omega)⟩ ?_
  rintro s ⟨m,rfl,hm,hJ⟩;have hyl2:y.l.length=c.l[n].toNat:=by rw[hyl,List.length_take];omega
  unfold dU.aM;rw[aD];constructor
  ·intro h;have hltm:m<y.l.length:=by simpa [len]using h
   have hwm:=cA m (by omega)
   have hmu:y.l.length-(IntKind.wrap .i64 ((m:Int)+1)).toNat<y.l.length-((m:Int)).toNat:=by rw[hwm];simp;omega
   have hg:y.l[m]? = t.procs.l[n].events.l[m]? := by rw[hyl,List.getElem?_take,if_pos (show m<c.l[n].toNat from by omega)]
   have hat:jM t n m y.l[m]:=⟨_,Ze hlt2,by rw[←hg];exact Ze hltm⟩
   rw[aW hltm,Zc];generalize y.l[m]=e at hat;rw[aD];constructor
   ·intro hk;have hk:e.kind=3:=by simpa using hk
    obtain⟨q,j,z,hz,z1,z2,z3,z4,z5⟩:=qt hV hM hat hk;have hsd:=GB hS hv hM (x:=(⟨q,j+1⟩,z)) (cy.2 ⟨q,j,hz,rfl⟩) z1;simp only at hsd;rw[z2]at hsd;obtain⟨Q,hQ,_⟩:=hz;have hql:q<c.l.length:=by have:=(Zf.1 hQ).1;omega
    rw[hsd,Zc];simp only;rw[aW hql,Zc,aD];constructor
    ·intro hgt;have hgt:(j:Int)+1>c.l[q]:=by simpa using hgt
     refine(af _).2 ((af _).2 ((af _).2 ⟨fun h=>(by cases h),fun hC => ?_⟩))
     obtain⟨b,hb1,hb2⟩:=hC n m e c.l[n] hat (Ze hlt) (by omega) hk
     rw[z5]at hb1 hb2;simp only[Int.toNat_natCast]at hb1 hb2;rw[Ze hql]at hb1;cases hb1;omega
    ·intro hle;have hle:¬((j:Int)+1>c.l[q]):=by simpa using hle
     refine(af _).2 ⟨⟨m+1,hwm,by omega,fun k e' hk' hat' he' => ?_⟩,hmu⟩
     by_cases ek:k=m
     ·subst ek;have:e'=e:=by
       obtain⟨P1,a1,a2⟩:=hat;obtain⟨P2,b1,b2⟩:=hat';rw[a1]at b1;cases b1;rw[a2]at b2;cases b2;rfl
      subst this;rw[z5];exact⟨c.l[q],by simp only[Int.toNat_natCast];exact Ze hql,by simp only;omega⟩
     ·exact hJ k e' (by omega) hat' he'
   ·intro hk;have hk:¬e.kind=3:=by simpa using hk
    refine(af _).2 ⟨⟨m+1,hwm,by omega,fun k e' hk' hat' he' => ?_⟩,hmu⟩
    by_cases ek:k=m
    ·subst ek;have:e'=e:=by
      obtain⟨P1,a1,a2⟩:=hat;obtain⟨P2,b1,b2⟩:=hat';rw[a1]at b1;cases b1;rw[a2]at b2;cases b2;rfl
     subst this;exact absurd he' hk
    ·exact hJ k e' (by omega) hat' he'
  ·intro h;have hge:y.l.length≤m:=by simpa [len]using h
   have hwn:=cA n (by omega)
   refine(af _).2 ((af _).2 ⟨⟨n+1,hwn,by omega,fun p k e a hp hat ha hka he => ?_⟩,by show _-(IntKind.wrap .i64 ((n:Int)+1)).toNat<_;rw[hwn];simp;omega⟩)
   by_cases ep:p=n
   ·subst ep;rw[Ze hlt]at ha;cases ha;exact hJ k e (by omega) hat he
   ·exact hI p k e a (by omega) hat ha hka he
 ·intro h;have hge:c.l.length≤n:=by simpa [len]using h
  refine(af _).2 ((af _).2 ⟨fun _ p k e a hat ha hka he=>hI p k e a (by have:=(Zf.1 ha).1;omega) hat ha hka he,fun _=>rfl⟩)
end Go.VE
namespace Go.VE
theorem uo {s:Sl (Sl Int)} {p:Sl Int→Option Bool} {f:Sl Int→Bool} (hp:∀x∈s.l,p x=some (f x)) (hl:s.l.length<1073741824):cG s p=some (s.l.any f):=by
 have h:cD s p=some (place f s.l):=mX hp (by omega) (fun i=>rfl)
 unfold cG;rw[h,Zc,m7]
theorem CQ {s:Sl Int} {p:Int→Option Bool} {f:Int→Bool} (hp:∀x∈s.l,p x=some (f x)) (hl:s.l.length<1073741824):c8 s p=some (s.l.any f):=by
 have h:cM s p=some (place f s.l):=mX hp (by omega) (fun i=>rfl)
 unfold c8;rw[h,Zc,m7]
theorem EI {t:Trace} (hS:Small t) {c:Sl Int} (hcl:c.l.length=t.procs.l.length):Wp (eE t c) fun b=>(b=true↔pC t c.l):=by
 have h1:=hS.1;unfold eE eE.W1;refine bY (fun s:Int=>∃n:Nat,s=n∧n≤c.l.length∧∀(p:Nat) (a:Int) (P:aS),p<n→c.l[p]? = some a→t.procs.l[p]? = some P→0≤a∧a≤P.events.l.length) (fun s:Int=>c.l.length-s.toNat) ⟨0,rfl,Nat.zero_le _,fun p a P h=>absurd h (by omega)⟩ ?_
 rintro s ⟨n,rfl,hn,hI⟩;unfold eE.aj;rw[aD];constructor
 ·intro h;have hlt:n<c.l.length:=by simpa [len]using h
  have hlt2:n<t.procs.l.length:=by omega
  have hw:=cA n (by omega)
  rw[aW hlt,Zc,aW hlt2,Zc,fM,Zc,aD];constructor
  ·intro hb;have hb:c.l[n]<0∨c.l[n]>t.procs.l[n].events.l.length:=by simpa [len]using hb
   refine(af _).2 ((af _).2 ⟨fun h=>(by cases h),fun hR => ?_⟩)
   have:=hR.2 n _ _ (Ze hlt) (Ze hlt2);omega
  ·intro hb;have hb:0≤c.l[n]∧c.l[n]≤t.procs.l[n].events.l.length:=by simpa [len]using hb
   refine(af _).2 ⟨⟨n+1,hw,by omega,fun p a P hp ha hP => ?_⟩,by rw[hw];simp;omega⟩
   by_cases e:p=n
   ·subst e;rw[Ze hlt]at ha;cases ha;rw[Ze hlt2]at hP;cases hP;exact hb
   ·exact hI p a P (by omega) ha hP
 ·intro h;have hge:c.l.length≤n:=by simpa [len]using h
  refine(af _).2 ((af _).2 ⟨fun _=>⟨hcl,fun p a P ha hP=>hI p a P (by have:=(Zf.1 ha).1;omega) ha hP⟩,fun _=>rfl⟩)
def Code (t:Trace) (A:bt 200 aA) (c:List Int) (r:Int):Prop:=c.length≠t.procs.l.length∧r=1∨c.length=t.procs.l.length∧¬pC t c∧r=2∨pC t c∧¬lH t A c∧r=18∨pC t c∧lH t A c∧r=0
theorem EX {t:Trace} (hS:Small t) (hv:bX t=some true) (hV:VT t) {A:bt 200 aA} (hM:g8 t (aU t) A) (c:Sl Int) :
 Wp (dj t (Sl.row [c]:Sl (Sl Int)) (Sl.nil:Sl Int)) fun r=>Code t A c.l r:=by
 unfold dj iR;rw[hv,Zc,bU,uo (f:=fun z=>(fh z t).getD false) (fun z _=>mm.ok ((af _).2 trivial)) (by simp[Sl.l]),Zc,Zc,Zc]
 have hany:(!((Sl.row [c]:Sl (Sl Int)).l.any fun z=>(fh z t).getD false))=(len c==len t.procs):=by
  simp[Sl.l,fh]
 rw[hany,aD];constructor
 ·intro h;have hcl:c.l.length=t.procs.l.length:=by
   have:(c.l.length:Int)=t.procs.l.length:=by simpa [len]using h
   omega
  unfold dj.W1;refine bY (fun s:Int=>s=0∨s=1∧pC t c.l) (fun s:Int=>1-s.toNat) (.inl rfl) ?_
  intro s hs;unfold dj.aj;rcases hs with rfl|⟨rfl,hR⟩
  ·rw[show decide ((0:Int)<len (Sl.row [c]:Sl (Sl Int)))=true from rfl,bU,show idx (Sl.row [c]:Sl (Sl Int)) 0=some c from rfl,Zc,dW];refine(EI hS hcl).mono fun b hb => ?_
   rw[aD];exact⟨fun hbt=>(af _).2 ⟨.inr ⟨rfl,hb.1 hbt⟩,by decide⟩,fun hbf=>(af _).2 ((af _).2 (.inr (.inl ⟨hcl,fun h=>(by rw[hb.2 h]at hbf;cases hbf),rfl⟩)))⟩
  ·rw[show decide ((1:Int)<len (Sl.row [c]:Sl (Sl Int)))=false from rfl,eu,af];show Wp (dj.W2 (Sl.row [c]) Sl.nil 0 0 t) _;unfold dj.W2;refine bY (fun s:Int=>s=0) (fun _=>0) rfl ?_
   rintro s rfl;unfold dj.aM;rw[show decide ((0:Int)<0)=false from rfl,eu,af];show Wp (dj.W3 (Sl.row [c]) 1 0 t) _;unfold dj.W3;refine bY (fun s:Int=>s=0∨s=1∧lH t A c.l) (fun s:Int=>1-s.toNat) (.inl rfl) ?_
   intro s hs;unfold dj.dB;rcases hs with rfl|⟨rfl,hC⟩
   ·rw[show decide ((0:Int)<1)=true from rfl,bU,show idx (Sl.row [c]:Sl (Sl Int)) 0=some c from rfl,Zc];unfold iL;rw[dW,dW];refine(Ec hS hv hV hM hR).mono fun r hr => ?_
    rw[af,aD];exact⟨fun hb=>(af _).2 ⟨.inr ⟨rfl,hr.1 (by simpa using hb)⟩,by decide⟩,fun hb=>(af _).2 ((af _).2 (.inr (.inr (.inl ⟨hR,fun h=>(by have:=hr.2 h;simp[this]at hb),rfl⟩))))⟩
   ·rw[show decide ((1:Int)<1)=false from rfl,eu,af];exact(af _).2 (.inr (.inr (.inr ⟨hR,hC,rfl⟩)))
 ·intro h;exact(af _).2 (.inl ⟨fun e=>(by simp[len,e]at h),rfl⟩)
theorem Code.zero {t:Trace} {A:bt 200 aA} {c:List Int} {r:Int} (h:Code t A c r):r=0↔pC t c∧lH t A c:=by
 rcases h with⟨h,rfl⟩|⟨_,h,rfl⟩|⟨_,h,rfl⟩|⟨h1,h2,rfl⟩
 ·exact⟨fun h=>(by cases h),fun h'=>absurd h'.1.1 h⟩
 ·exact⟨fun h=>(by cases h),fun h'=>absurd h'.1 h⟩
 ·exact⟨fun h=>(by cases h),fun h'=>absurd h'.2 h⟩
 ·exact⟨fun _=>⟨h1,h2⟩,fun _=>rfl⟩
theorem UT {t:Trace} (hS:Small t) (hv:bX t=some true) (hV:VT t) {A:bt 200 aA} (hM:g8 t (aU t) A) (c:Sl Int) :
 Wp (dj t (Sl.row [c]:Sl (Sl Int)) (Sl.nil:Sl Int)) fun r=>(r=0↔pC t c.l∧lH t A c.l):=(EX hS hv hV hM c).mono fun _ h=>h.zero
end Go.VE
namespace Go.VE
def Cons (t:Trace) (A:bt 200 aA) (c:List Int):Prop:=pC t c∧lH t A c
theorem vW {t:Trace} (hS:Small t) (hv:bX t=some true) (hV:VT t) {A:bt 200 aA} (hM:g8 t (aU t) A) (c:Sl Int):Wp (dP t c) fun r=>Code t A c.l r.2:=by
 have h8:=hV.few;unfold dP;rw[dW];refine(EX hS hv hV hM c).mono fun r hr => ?_
 rw[aD];constructor
 ·intro h0;have h0:r=0:=by simpa using h0
  have hC:=hr.zero.1 h0;have hcl:=hC.1.1;unfold dP.W1;refine bY (fun s:Sl aa×Int=>∃n:Nat,s.2=n∧n≤c.l.length∧s.1.l.length≤n) (fun s=>c.l.length-s.2.toNat) ⟨0,rfl,Nat.zero_le _,Nat.le_refl _⟩ ?_
  rintro⟨o,i⟩ ⟨n,hi,hn,ho⟩;simp only at hi ho;subst hi;unfold dP.aj;rw[aD];constructor
  ·intro h;have hlt:n<c.l.length:=by simpa [len]using h
   have hw:=cA n (by omega)
   have hmu:c.l.length-(IntKind.wrap .i64 ((n:Int)+1)).toNat<c.l.length-((n:Int)).toNat:=by rw[hw];simp;omega
   rw[aW hlt,Zc,aD];constructor
   ·intro _;unfold gI;rw[if_pos (show o.l.length+1≤2147483648 from by omega),Zc,af]
    exact⟨⟨n+1,hw,by omega,by show (o.l++[_]).length≤n+1;rw[Zk,List.length_singleton];omega⟩,hmu⟩
   ·intro _;exact(af _).2 ⟨⟨n+1,hw,by omega,show o.l.length≤n+1 from by omega⟩,hmu⟩
  ·intro _;exact(af _).2 ((af _).2 (h0▸hr))
 ·intro h0;exact(af _).2 hr
theorem yg {t:Trace} (hS:Small t) (hv:bX t=some true) (hV:VT t) {A:bt 200 aA} (hM:g8 t (aU t) A) {c:Sl Int} (hC:Cons t A c.l):Wp (bQ t c) fun r=>r.2=0∧Table t c.l r.1.l:=by
 have hcl:=hC.1.1;unfold bQ;rw[dW];refine(vW hS hv hV hM c).mono fun r hr => ?_
 rw[show (r.2==0)=true from by simpa using hr.zero.2 hC,bU]
 exact Gi hS hcl (fun a ha=>by
  obtain⟨p,hp⟩:=List.getElem?_of_mem ha;have hpl:=(Zf.1 hp).1;exact(hC.1.2 p a _ hp (Ze (show p<t.procs.l.length from by omega))).1) hV.few
theorem Hu {t:Trace} (hS:Small t) (hv:bX t=some true) (hV:VT t) {A:bt 200 aA} (hM:g8 t (aU t) A) {c:Sl Int} (hC:Cons t A c.l) :
 Wp (eo t c) fun r=>r.2=0∧(r.1=true↔∀p q:Nat,p<t.procs.l.length→q<t.procs.l.length→p≠q→under t c.l p q=0):=by
 have h8:=hV.few;unfold eo;rw[dW];refine(yg hS hv hV hM hC).mono fun r ⟨h0,hT⟩ => ?_
 rw[show (r.2==0)=true from by simpa using h0,bU]
 unfold gC;rw[uo (f:=fun row=>row.l.any fun n => !(n==0)) (fun row hrow=>by
  unfold eN;obtain⟨p,hp⟩:=List.getElem?_of_mem hrow;rw[CQ (p:=fun z=>dS z) (f:=fun n => !(n==0)) (fun n _=>rfl) (by rw[(hT.2 p row hp).1];omega),Zc]) (by rw[hT.1];omega)]
 simp only[Zc];refine(af _).2 ⟨h0,?_⟩;simp only[Bool.not_eq_true',List.any_eq_false,Bool.not_eq_true,Bool.not_eq_false',beq_iff_eq];constructor
 ·intro h p q hp hq hne;have hpr:p<r.1.l.length:=by rw[hT.1];exact hp
  have hrow:=hT.2 p _ (Ze hpr);have hqr:q<r.1.l[p].l.length:=by rw[hrow.1];exact hq
  have hx:=hrow.2 q _ (Ze hqr);rw[if_neg hne]at hx;rw[←hx];have:=h _ (List.getElem_mem hpr) _ (List.getElem_mem hqr);simpa using this
 ·intro h row hrow n hn;obtain⟨p,hp⟩:=List.getElem?_of_mem hrow;obtain⟨q,hq⟩:=List.getElem?_of_mem hn;have h1:=hT.2 p row hp;have h2:=h1.2 q n hq;rw[h2];split
  ·simp
  ·rename_i hne;have hpl:=(Zf.1 hp).1;have hql:=(Zf.1 hq).1;rw[hT.1]at hpl;rw[h1.1]at hql;rw[h p q hpl hql hne];simp
end Go.VE
namespace Go.VE
def places {α:Type} (f:α→Bool) (l:List α):List Nat:=(List.range l.length).filter fun k=>match l[k]? with|some x=>f x|none=>false
theorem nM {α:Type} {f:α→Bool} {l:List α} {k:Nat}:k∈places f l↔∃x,l[k]? = some x∧f x=true:=by
 unfold places;rw[List.mem_filter,List.mem_range];constructor
 ·rintro⟨h1,h2⟩;rw[Ze h1]at h2;exact⟨_,Ze h1,h2⟩
 ·rintro⟨x,h1,h2⟩;exact⟨(Zf.1 h1).1,by rw[h1];exact h2⟩
theorem BF {α:Type} (f:α→Bool) (l:List α):(places f l).Nodup:=List.nodup_range.sublist (List.filter_sublist ..)
theorem xQ {α:Type} (f:α→Bool):∀l:List α,(places f l).length=l.countP f:=by
 intro l;unfold places;rw[←List.countP_eq_length_filter]
 induction l with
 | nil=>rfl
 | cons x l ih=>
  rw[List.length_cons,List.range_succ_eq_map,List.countP_cons,List.countP_map,List.countP_cons];simp only[List.getElem?_cons_zero];rw[←ih]
  congr 1
theorem ug {α β:Type} {f:α→Bool} {g:β→Bool} {l:List α} {m:List β} (φ:Nat→Nat) (h:∀k∈places f l,φ k∈places g m) (hi:∀k k',k∈places f l→k'∈places f l→φ k=φ k'→k=k'):l.countP f≤m.countP g:=by
 rw[←xQ,←xQ];have hn:((places f l).map φ).Nodup:=by
  unfold List.Nodup;rw[List.pairwise_map];exact List.Pairwise.imp_of_mem (fun {a b} ha hb hne he=>hne (hi a b ha hb he)) (BF f l)
 have:=wN (r:=places g m) hn fun x hx=>by
  obtain⟨k,hk,rfl⟩:=List.mem_map.1 hx;exact h k hk
 simpa using this
theorem Mm {t:Trace} (hV:VT t) {A:bt 200 aA} (hM:g8 t (aU t) A) {c:List Int} (hC:Cons t A c) (p q:Nat):0≤under t c p q:=by
 unfold under;split
 ·rename_i P Q a b hP hQ ha hb;have hb0:=hC.1.2 q b Q hb hQ;have ha0:=hC.1.2 p a P ha hP;have key:(Q.events.l.take b.toNat).countP (fC p)≤(P.events.l.take a.toNat).countP (cT q):=by
   refine ug (fun k=>match Q.events.l[k]? with|some e=>((ag A e.message).from_.index-1).toNat|none=>0) (fun k hk => ?_) (fun k k' hk hk' he => ?_)
   ·obtain⟨e,h1,h2⟩:=nM.1 hk;have hkb:k<b.toNat:=by
     have:=(Zf.1 h1).1;rw[List.length_take]at this;omega
    rw[List.getElem?_take,if_pos hkb]at h1;have h2:e.kind=3∧e.peer=p:=by simpa [fC]using h2
    have hat:jM t q k e:=⟨Q,hQ,h1⟩;obtain⟨q',j,y,hy,y1,y2,y3,y4,y5⟩:=qt hV hM hat h2.1;have hqp:q'=p:=by omega
    subst hqp;rw[h1];simp only[y5];obtain⟨P',hP',hj⟩:=hy;rw[hP]at hP';cases hP';obtain⟨x,hx1,hx2⟩:=hC.2 q k e b hat hb (by omega) h2.1
    rw[y5]at hx1 hx2;simp only[Int.toNat_natCast]at hx1 hx2;rw[ha]at hx1;cases hx1;rw[show ((j:Int)+1-1).toNat=j from by omega]
    refine nM.2 ⟨y,?_,by simp[cT,y1,y3]⟩
    rw[List.getElem?_take,if_pos (by omega)];exact hj
   ·obtain⟨e,h1,h2⟩:=nM.1 hk;obtain⟨e',h1',h2'⟩:=nM.1 hk';have hkb:k<b.toNat:=by
     have:=(Zf.1 h1).1;rw[List.length_take]at this;omega
    have hkb':k'<b.toNat:=by
     have:=(Zf.1 h1').1;rw[List.length_take]at this;omega
    rw[List.getElem?_take,if_pos hkb]at h1;rw[List.getElem?_take,if_pos hkb']at h1';have h2:e.kind=3∧e.peer=p:=by simpa [fC]using h2
    have h2':e'.kind=3∧e'.peer=p:=by simpa [fC]using h2'
    obtain⟨q1,j,y,hy,y1,y2,y3,y4,y5⟩:=qt hV hM (show jM t q k e from⟨Q,hQ,h1⟩) h2.1;obtain⟨q2,j',y',hy',y1',y2',y3',y4',y5'⟩:=qt hV hM (show jM t q k' e' from⟨Q,hQ,h1'⟩) h2'.1;have e1:q1=p:=by omega
    have e2:q2=p:=by omega
    subst e1 e2;simp only[h1,h1',y5,y5']at he;have hjj:j=j':=by omega
    subst hjj;obtain⟨P1,a1,a2⟩:=hy;obtain⟨P2,b1,b2⟩:=hy';rw[a1]at b1;cases b1;rw[a2]at b2;cases b2;have r1:=(hM.rcv (⟨q,k+1⟩,e) (cy.2 ⟨q,k,⟨Q,hQ,h1⟩,rfl⟩) h2.1).1;have r2:=(hM.rcv (⟨q,k'+1⟩,e') (cy.2 ⟨q,k',⟨Q,hQ,h1'⟩,rfl⟩) h2'.1).1;simp only at r1 r2;rw[←y2,y2',r2]at r1;simp only[aa.mk.injEq]at r1;omega
  omega
 ·exact Int.le_refl _
end Go.VE
namespace Go.VE
def kG (kind m:Int) (x:aa×Event):Bool:=x.2.kind==kind&&x.2.message==m
def dV (t:Trace) (kind m:Int):aa:=match (aU t).find? (kG kind m)with
 | some x=>x.1
 | none=>⟨0,0⟩
theorem EG {t:Trace} {kind m:Int} {p:Nat} {P:aS} (hp8:p<9223372036854775806) (hP:t.procs.l[p]? = some P) (hl:P.events.l.length<1073741824):∀(q i:Nat),i+q=P.events.l.length →
 bh (fun q:Int=>bP.aM kind m p t ⟨0,0⟩ q) (i:Int)=some (match (ga p i (P.events.l.drop i)).find? (kG kind m)with|some x=>.r x.1|none=>.x ()):=by
 have hix:idx t.procs (p:Int)=some P:=by rw[kd];exact hP
 intro q
 induction q with
 | zero=>
  intro i hi;rw[ij];unfold bP.aM;rw[hix,Zc,show decide ((i:Int)<len P.events)=false from by simp[len];omega,eu,List.drop_of_length_le (by omega)]
  rfl
 | succ q ih=>
  intro i hi;have hil:i<P.events.l.length:=by omega
  rw[ij];have hs:bP.aM kind m p t ⟨0,0⟩ i=some (if kG kind m (⟨p,(i:Int)+1⟩,P.events.l[i])then .r ⟨p,(i:Int)+1⟩else .n ((i+1:Nat):Int)):=by
   unfold bP.aM;rw[hix,Zc,show decide ((i:Int)<len P.events)=true from by simp[len];omega,bU,Zc,aW hil,Zc,fX,Zc,cA i (by omega),gN]
   rfl
  rw[hs,Zc,List.drop_eq_getElem_cons hil];simp only[ga,List.find?_cons]
  cases hh:kG kind m (⟨p,(i:Int)+1⟩,P.events.l[i])with
  | true=>rfl
  | false=>
   simp only[Bool.false_eq_true,if_false];exact ih (i+1) (by omega)
theorem DP {t:Trace} (hS:Small t) {kind m:Int}:∀(q p:Nat),p+q=t.procs.l.length →
 bh (fun q:Int=>bP.aj kind m t ⟨0,0⟩ q) (p:Int)=some (match (eH p (t.procs.l.drop p)).find? (kG kind m)with|some x=>.r x.1|none=>.x ()):=by
 have h1:=hS.1;intro q
 induction q with
 | zero=>
  intro p hp;rw[ij];unfold bP.aj;rw[show decide ((p:Int)<len t.procs)=false from by simp[len];omega,eu,List.drop_of_length_le (by omega)]
  rfl
 | succ q ih=>
  intro p hp;have hpl:p<t.procs.l.length:=by omega
  have hw:bh (fun q:Int=>bP.aM kind m p t ⟨0,0⟩ q) 0=some (match (ga p 0 t.procs.l[p].events.l).find? (kG kind m)with|some x=>.r x.1|none=>.x ()):=EG (t:=t) (kind:=kind) (m:=m) (by omega) (Ze hpl) (hS.2 _ (List.getElem_mem hpl)).1 (t.procs.l[p].events.l.length) 0 (by omega)
  rw[ij];unfold bP.aj;rw[show decide ((p:Int)<len t.procs)=true from by simp[len];omega,bU]
  unfold bP.W2;rw[hw,List.drop_eq_getElem_cons hpl];simp only[eH,List.find?_append]
  cases hf:(ga p 0 t.procs.l[p].events.l).find? (kG kind m)with
  | some x=>rfl
  | none=>
   simp only[Zc,Fw.elim,Option.none_or];rw[cA p (by omega)]
   exact ih (p+1) (by omega)
theorem find_eq {t:Trace} (hS:Small t) (kind m:Int):bP t kind m=some (dV t kind m):=by
 unfold bP bP.W1;have hw:bh (fun q:Int=>bP.aj kind m t ⟨0,0⟩ q) 0=some (match (aU t).find? (kG kind m)with|some x=>.r x.1|none=>.x ()):=DP hS (kind:=kind) (m:=m) t.procs.l.length 0 (by omega)
 rw[hw];unfold dV;cases (aU t).find? (kG kind m) <;> rfl
theorem ta {t:Trace} {kind m:Int} {x:aa×Event} (h:(aU t).find? (kG kind m)=some x):x∈aU t∧x.2.kind=kind∧x.2.message=m∧dV t kind m=x.1:=by
 have h1:=List.find?_some h;simp only[kG,Zj,beq_iff_eq]at h1;exact⟨List.mem_of_find?_eq_some h,h1.1,h1.2,by unfold dV;rw[h]⟩
theorem B1 {t:Trace} {kind m:Int} {x:aa×Event} (hx:x∈aU t) (hk:x.2.kind=kind) (hm:x.2.message=m):∃y,(aU t).find? (kG kind m)=some y:=by
 cases hf:(aU t).find? (kG kind m)with
 | some y=>exact⟨y,rfl⟩
 | none=>
  rw[List.find?_eq_none]at hf;exact absurd (hf x hx) (by simp[kG,hk,hm])
theorem D0 {t:Trace} {kind m:Int} (h:∀x∈aU t,¬(x.2.kind=kind∧x.2.message=m)):dV t kind m=⟨0,0⟩:=by
 unfold dV;have:(aU t).find? (kG kind m)=none:=by
  rw[List.find?_eq_none];intro x hx;simp only[kG,Zj,beq_iff_eq];exact h x hx
 rw[this]
theorem I7 {t:Trace} {p k:Nat} {e:Event} (h:jM t p k e) (hk:k<9223372036854775807):iz t ⟨p,k+1⟩=some e:=by
 obtain⟨P,hP,he⟩:=h;unfold iz;dsimp only;rw[show idx t.procs (p:Int)=some P from by rw[kd];exact hP,Zc,show IntKind.wrap .i64 ((k:Int)+1-1)=(k:Int)from by rw[ke _ (by omega) (by omega)];omega,show idx P.events (k:Int)=some e from by rw[kd];exact he]
 rfl
def pO (t:Trace) (x:aa×Event):Int:=if x.2.kind=1 then 0 else if dV t x.2.kind x.2.message=x.1 then(if x.2.kind=3 then(if ni t x.2.peer x.2.message x.1.proc then 0 else 7)else 0)else 8
theorem Fi {t:Trace} (hS:Small t) {p k:Nat} {e:Event} (h:jM t p k e) (hF:gw t.procs.l.length p e):dG t ⟨p,k+1⟩=some (pO t (⟨p,k+1⟩,e)):=by
 have hk:k<1073741824:=by
  obtain⟨P,hP,he⟩:=h;have:=(hS.2 P (List.mem_of_getElem? hP)).1;have:=(Zf.1 he).1;omega
 unfold dG pO;rw[I7 h (by omega),Zc]
 dsimp only
 by_cases h1:e.kind=1
 ·rw[show (e.kind==1)=true from by simp[h1],bU,if_pos h1]
 ·rw[show (e.kind==1)=false from by simp[h1],eu,if_neg h1,find_eq hS,Zc]
  have hev:Dh (dV t e.kind e.message) ⟨p,(k:Int)+1⟩=decide (dV t e.kind e.message=⟨p,(k:Int)+1⟩):=by
   unfold Dh;rw[Bool.eq_iff_iff];cases dV t e.kind e.message;simp
  rw[hev]
  by_cases h2:dV t e.kind e.message=⟨p,(k:Int)+1⟩
  ·rw[if_pos h2,show decide (dV t e.kind e.message=⟨p,(k:Int)+1⟩)=true from by simpa using h2,bU]
   by_cases h3:e.kind=3
   ·rw[if_pos h3,show (e.kind==3)=true from by simp[h3],bU]
    have hpe:0≤e.peer∧e.peer<t.procs.l.length:=by
     rcases hF with h|⟨_,h1,h2,_⟩
     ·exact absurd h h1
     ·exact⟨h1,h2⟩
    have hq:e.peer.toNat<t.procs.l.length:=by omega
    have hQ:=Ze hq;have hql:=(hS.2 _ (List.getElem_mem hq)).1;generalize hQe:t.procs.l[e.peer.toNat]=Q at *;have hix:idx t.procs e.peer=some Q:=by rw[MN hpe.1];exact hQ
    have hsb:ni t e.peer e.message p=Q.events.l.any fun s=>s.kind==2&&s.message==e.message&&s.peer==p:=by
     unfold ni;rw[hQ]
    unfold dG.W1;refine Wp.eq (bY (fun z:Bool×Int=>∃m:Nat,z.2=m∧m≤Q.events.l.length∧z.1=(Q.events.l.take m).any fun s=>s.kind==2&&s.message==e.message&&s.peer==p) (fun z=>Q.events.l.length-z.2.toNat) ⟨0,rfl,Nat.zero_le _,rfl⟩ ?_)
    rintro⟨s,i⟩ ⟨m,hi,hm,hs⟩;simp only at hi hs;subst hi;unfold dG.aj;dsimp only;rw[hix,Zc,aD];constructor
    ·intro hl;have hml:m<Q.events.l.length:=by simpa [len]using hl
     have hw:=cA m (by omega)
     rw[Zc,aW hml,Zc,fX,Zc,fX,Zc,fM,Zc,af];refine⟨⟨m+1,hw,by omega,?_⟩,by show _-(IntKind.wrap .i64 ((m:Int)+1)).toNat<_;rw[hw];simp;omega⟩
     show (s||_)=_;rw[List.take_add_one,Ze hml,List.any_append,hs];simp
    ·intro hl;have hml:Q.events.l.length≤m:=by simpa [len]using hl
     rw[List.take_of_length_le hml]at hs;refine(af _).2 ?_;rw[hsb,←hs];cases s
     ·exact(af _).2 rfl
     ·exact(af _).2 rfl
   ·rw[if_neg h3,show (e.kind==3)=false from by simp[h3],eu]
  ·rw[if_neg h2,show decide (dV t e.kind e.message=⟨p,(k:Int)+1⟩)=false from by simpa using h2,eu]
theorem DZ {t:Trace} (hF:∀x∈aU t,gw t.procs.l.length x.1.proc x.2):(∀x∈aU t,pO t x=0)↔sn t:=by
 constructor
 ·intro h;have key:∀x∈aU t,x.2.kind≠1→dV t x.2.kind x.2.message=x.1:=fun x hx hk=>by
   have:=h x hx;unfold pO at this;rw[if_neg hk]at this;split at this
   ·assumption
   ·cases this
  refine⟨fun x hx y hy kx ky hm => ?_,fun x hx y hy kx ky hm => ?_,fun x hx kx => ?_⟩
  ·rw[←key x hx (by omega),←key y hy (by omega),kx,ky,hm]
  ·rw[←key x hx (by omega),←key y hy (by omega),kx,ky,hm]
  ·have:=h x hx;unfold pO at this;rw[if_neg (by omega),if_pos (key x hx (by omega)),if_pos kx]at this
   split at this
   ·assumption
   ·cases this
 ·intro h x hx;unfold pO
  by_cases k1:x.2.kind=1
  ·rw[if_pos k1]
  ·rw[if_neg k1];obtain⟨y,hy⟩:=B1 hx rfl rfl;obtain⟨y1,y2,y3,y4⟩:=ta hy;have hk:x.2.kind=2∨x.2.kind=3:=by
    rcases hF x hx with h|⟨h,_⟩
    ·exact absurd h k1
    ·exact h
   have he:dV t x.2.kind x.2.message=x.1:=by
    rw[y4];rcases hk with hk|hk
    ·exact h.snd y y1 x hx (by rw[y2,hk]) hk y3
    ·exact h.rcv y y1 x hx (by rw[y2,hk]) hk y3
   rw[if_pos he]
   by_cases k3:x.2.kind=3
   ·rw[if_pos k3,if_pos (h.has x hx k3)]
   ·rw[if_neg k3]
end Go.VE
namespace Go.VE
theorem r_ {t:Trace} (hF:∀x∈aU t,gw t.procs.l.length x.1.proc x.2) (hP:sn t) {z:aa} {f:Event} (hz:(z,f)∈aU t) (hk:f.kind=3):∃e,(dV t 2 f.message,e)∈aU t∧e.kind=2∧e.message=f.message:=by
 have h:=hP.has _ hz hk;have hp:0≤f.peer:=by
  rcases hF _ hz with h|⟨_,h,_⟩
  ·simp only at h;omega
  ·exact h
 rw[show f.peer=((f.peer.toNat:Nat):Int)from by omega,pM]at h
 obtain⟨k,e,ha,h1,h2,_⟩:=h;obtain⟨y,hy⟩:=B1 (cy.2 ⟨_,k,ha,rfl⟩:((⟨(f.peer.toNat:Nat),k+1⟩:aa),e)∈aU t) h1 h2;obtain⟨y1,y2,y3,y4⟩:=ta hy;exact⟨y.2,by rw[y4];exact y1,y2,y3⟩
theorem Da.find {t:Trace} (hF:∀x∈aU t,gw t.procs.l.length x.1.proc x.2) (hP:sn t) {y z:aa} {f:Event} (h:Da t y z) (hz:(z,f)∈aU t):f.kind=3∧dV t 2 f.message=y:=by
 obtain⟨e,f',h1,h2,h3,h4,h5⟩:=h;cases sM h2 hz rfl;obtain⟨e',a1,a2,a3⟩:=r_ hF hP hz h4;exact⟨h4,hP.snd _ a1 _ h1 a2 h3 (by rw[a3,h5])⟩
theorem vD {t:Trace} (hS:Small t) (hF:∀x∈aU t,gw t.procs.l.length x.1.proc x.2) (hP:sn t) {z:aa} (hz:Vd t z) :
 Wp (bO t z) fun s=>s.l.length≤2∧∀y,y∈s.l↔Edge t y z:=by
 obtain⟨p,k,f,hat,rfl,hmem⟩:=hz.at_;have hk:k<1073741824:=by
  obtain⟨P,hP,he⟩:=hat;have:=(hS.2 P (List.mem_of_getElem? hP)).1;have:=(Zf.1 he).1;omega
 have j:∀s:Sl aa,s.l.length≤1→(∀y,y∈s.l↔Vd t y∧(⟨p,k+1⟩:aa)=⟨y.proc,y.index+1⟩)→Wp (bO.J1 s t ⟨p,k+1⟩) fun s=>s.l.length≤2∧∀y,y∈s.l↔Edge t y ⟨p,k+1⟩:=by
  intro s hs hsy;unfold bO.J1;rw[I7 hat (by omega),Zc,aD]
  constructor
  ·intro h3;have h3:f.kind=3:=by simpa using h3
   rw[find_eq hS,Zc];unfold gI;rw[if_pos (by omega),Zc,af]
   refine⟨by show (s.l++[_]).length≤2;rw[Zk,List.length_singleton];omega,fun y => ?_⟩
   show y∈s.l++[dV t 2 f.message]↔_;rw[List.mem_append,List.mem_singleton,hsy];obtain⟨e,a1,a2,a3⟩:=r_ hF hP hmem h3;constructor
   ·rintro (h|rfl)
    ·exact⟨h.1,hz,.inl h.2⟩
    ·exact⟨⟨e,a1⟩,hz,.inr ⟨e,f,a1,hmem,a2,h3,a3⟩⟩
   ·rintro⟨h1,_,h2|h2⟩
    ·exact .inl ⟨h1,h2⟩
    ·exact .inr (h2.find hF hP hmem).2.symm
  ·intro h3;refine(af _).2 ⟨by omega,fun y=>(hsy y).trans ⟨fun h=>⟨h.1,hz,.inl h.2⟩,fun⟨h1,_,h2⟩=>⟨h1,h2.elim id fun h2 => ?_⟩⟩⟩
   have:=(h2.find hF hP hmem).1;simp[this]at h3
 unfold bO;rw[aD];constructor
 ·intro h;have h:(k:Int)+1>1:=by simpa using h
  refine j _ (by simp[Sl.l]) fun y => ?_
  have hw:IntKind.wrap .i64 ((k:Int)+1-1)=k:=by rw[ke _ (by omega) (by omega)];omega
  simp only[Sl.l,List.mem_singleton,hw,aa.mk.injEq];constructor
  ·rintro rfl;obtain⟨P,hP,he⟩:=hat;have:=(Zf.1 he).1;exact⟨⟨P.events.l[k-1],cy.2 ⟨p,k-1,⟨P,hP,Ze (by omega)⟩,by simp;omega⟩⟩,rfl,rfl⟩
  ·rintro⟨_,h1,h2⟩;cases y;simp only at h1 h2;congr 1 <;> omega
 ·intro h;have h:¬(k:Int)+1>1:=by simpa using h
  refine j _ (by simp[Sl.l]) fun y=>⟨fun hy=>by simp[Sl.l]at hy,fun⟨hy,he⟩ => ?_⟩
  obtain⟨q,i,f,_,rfl,_⟩:=hy.at_;simp only[aa.mk.injEq]at he;omega
theorem LD {α:Type} {r:α→α→Prop} {x:α} (h:Acc r x):¬Relation.TransGen r x x:=by
 induction h with
 | intro x _ ih=>
  intro h
  cases h with
  | single h=>exact ih x h (.single h)
  | tail h1 h2=>exact ih _ h2 (Relation.TransGen.trans (.single h2) h1)
theorem Dr:∀{d:List Nat} {i k:Nat},d[i]? = some k→(d.set i (k+1)).sum=d.sum+1
 | [],_,_,h=>by simp at h
 | x::d,0,k,h=>by simp at h;subst h;simp;omega
 | x::d,i+1,k,h=>by
  have:=Dr (d:=d) (i:=i) (k:=k) (by simpa using h)
  simp[this];omega
theorem EW:∀{d l:List Nat},d.length=l.length→(∀(i a b:Nat),d[i]? = some a→l[i]? = some b→a≤b)→d.sum≤l.sum
 | [],_,_,_=>by simp
 | x::d,[],h,_=>by simp at h
 | x::d,y::l,h,hh=>by
  have h1:=hh 0 x y rfl rfl;have h2:=EW (d:=d) (l:=l) (by simpa using h) fun i a b ha hb=>hh (i+1) a b (by simpa using ha) (by simpa using hb)
  simp;omega
def nI (d:List Nat):List Int:=d.map Int.ofNat
def sI (s:Sl Int):Nat:=(s.l.map Int.toNat).sum
theorem A3 (d:List Nat):sI (.row (nI d))=d.sum:=by
 unfold sI nI;rw[show (Sl.row (d.map Int.ofNat)).l=d.map Int.ofNat from rfl,List.map_map,show (Int.toNat ∘ Int.ofNat)=id from rfl,List.map_id]
theorem FE (d:List Nat):(nI d).length=d.length:=by simp[nI]
structure Kh (t:Trace) (d:List Nat):Prop where
 len:d.length=t.procs.l.length
 le:∀(p k:Nat) P,d[p]? = some k→t.procs.l[p]? = some P→k≤P.events.l.length
 acc:∀(p k j:Nat),d[p]? = some k→j<k→Acc (Edge t) ⟨p,j+1⟩
def sY (t:Trace):Nat:=(t.procs.l.map fun P=>P.events.l.length).sum
theorem Kh.sum {t:Trace} {d:List Nat} (h:Kh t d):d.sum≤sY t:=EW (by simp[h.len]) fun i a b ha hb=>by
 rw[List.getElem?_map]at hb
 cases hP:t.procs.l[i]? with
 | none=>simp[hP]at hb
 | some P=>simp[hP]at hb;rw[←hb];exact h.le i a P ha hP
theorem xD {d:List Nat} {p:Nat} (h:p<d.length):Sl.lW (.row (nI d)) (p:Int)=some p:=by
 unfold Sl.lW;rw[if_pos ⟨by omega,by simpa [Sl.l,FE]using h⟩];rfl
theorem uw {d:List Nat} {p k:Nat} (h:d[p]? = some k):Sl.get (.row (nI d)) p=some (k:Int):=by
 unfold Sl.get nI;rw[show (Sl.row (d.map Int.ofNat)).l=d.map Int.ofNat from rfl,List.getElem?_map,h];rfl
def Mv (t:Trace) (d0:List Nat) (s:Sl Int) (b:Bool) (d:List Nat):Prop:=s=.row (nI d)∧Kh t d∧d0.sum≤d.sum∧(b=true→d0.sum<d.sum)
def KQ (t:Trace) (d0:List Nat) (p:Nat) (w:Fw (Sl Int×Bool×Int) (Sl Int×Bool) Empty):Prop:=∃s' b' d',w=.n (s',b',((p+1:Nat):Int))∧Mv t d0 s' b' d'
theorem JR {t:Trace} (hS:Small t) (hF:∀x∈aU t,gw t.procs.l.length x.1.proc x.2) (hP:sn t) {d0 d1:List Nat} {s:Sl Int} {b:Bool} {p:Nat} (hp:p<t.procs.l.length) (hM:Mv t d0 s b d1) :
 Wp (bC.W3 s b p t) (KQ t d0 p):=by
 have hix:=aW hp;have hn:=hS.1;have hPl:=(hS.2 _ (List.getElem_mem hp)).1;have hPg:=Ze hp;generalize t.procs.l[p]=P at *;unfold bC.W3;refine bY (fun q:Sl Int×Bool=>∃d,Mv t d0 q.1 q.2 d) (fun q=>sY t-sI q.1) ⟨d1,hM⟩ ?_
 rintro⟨s,b⟩ ⟨d,rfl,hK,hd,hb⟩;simp only at hb;have hpd:p<d.length:=by rw[hK.len];exact hp
 have hg:=Ze hpd;generalize d[p]=k at hg;have hkl:=hK.le p k P hg hPg;have stop:∀{pr:Empty→Prop},Wp (some (Fw.x (Sl.row (nI d),b))) (Jb (fun q:Sl Int×Bool=>∃d,Mv t d0 q.1 q.2 d) (fun q=>sY t-sI q.1) (fun e=>Wp (some (Fw.n (e.1,e.2,IntKind.wrap .i64 ((p:Int)+1)))) (KQ t d0 p)) pr (Sl.row (nI d),b)):=by
  refine(af _).2 ((af _).2 ⟨_,_,d,?_,rfl,hK,hd,hb⟩);rw[cA p (by omega)]
 unfold bC.dB;rw[xD hpd,Zc,uw hg,Zc,hix,Zc,aD];refine⟨fun h => ?_,fun _=>stop⟩
 have hlt:k<P.events.l.length:=by simpa [Go.VE.len]using h
 have hat:jM t p k P.events.l[k]:=⟨P,hPg,Ze hlt⟩;have hmem:((⟨p,k+1⟩:aa),P.events.l[k])∈aU t:=cy.2 ⟨p,k,hat,rfl⟩;have go:(P.events.l[k].kind=3→∀q j:Nat,dV t 2 P.events.l[k].message=⟨q,j+1⟩→∃k',d[q]? = some k'∧j<k')→∀{px:Sl Int×Bool→Prop} {pr:Empty→Prop},Wp (bC.J4 (.row (nI d)) p t) (Jb (fun q:Sl Int×Bool=>∃d,Mv t d0 q.1 q.2 d) (fun q=>sY t-sI q.1) px pr (Sl.row (nI d),b)):=by
  intro hq px pr;unfold bC.J4;rw[xD hpd,Zc,uw hg,Zc,Zc];unfold Sl.put;rw[if_pos (by simpa [Sl.l,FE]using hpd),Zc,af]
  have hset:(nI d).set p (IntKind.wrap .i64 ((k:Int)+1))=nI (d.set p (k+1)):=by
   rw[cA k (by omega)];unfold nI;rw[List.map_set];rfl
  have hsum:=Dr hg;have hK2:Kh t (d.set p (k+1)):=by
   refine⟨by simp[hK.len],fun q i Q hi hQ => ?_,fun q i j hi hj => ?_⟩
   ·rw[List.getElem?_set]at hi;split at hi
    ·rename_i e;subst e;cases hi;rw[hPg]at hQ;cases hQ;omega
    ·exact hK.le q i Q hi hQ
   ·rw[List.getElem?_set]at hi;split at hi
    ·rename_i e;subst e;cases hi
     by_cases hjk:j<k
     ·exact hK.acc p k j hg hjk
     ·have:j=k:=by omega
      subst this;refine Acc.intro _ fun y hy => ?_
      obtain⟨hyv,_,he|he⟩:=hy
      ·obtain⟨q,i,f,_,rfl,_⟩:=hyv.at_;simp only[aa.mk.injEq]at he;have e1:q=p:=by omega
       subst e1;exact hK.acc q j i hg (by omega)
      ·obtain⟨h3,hf⟩:=he.find hF hP hmem;obtain⟨q,i,f,_,rfl,_⟩:=hyv.at_;obtain⟨k',hk',hik⟩:=hq h3 q i hf;exact hK.acc q k' i hk' hik
    ·exact hK.acc q i j hi hj
  have hs2:=hK2.sum;refine⟨⟨_,by rw[←hset],hK2,by rw[hsum];omega,fun _=>by rw[hsum];omega⟩,?_⟩
  show sY t-sI (.row ((nI d).set p (IntKind.wrap .i64 ((k:Int)+1))))<sY t-sI (.row (nI d));rw[hset,A3,A3,hsum];rw[hsum]at hs2;omega
 dsimp only;rw[Zc,Zc,uw hg,Zc,aW hlt,Zc,aD];refine⟨fun h3 => ?_,fun h3=>go fun h=>by simp[h]at h3⟩
 have h3:P.events.l[k].kind=3:=by simpa using h3
 obtain⟨e,a1,a2,a3⟩:=r_ hF hP hmem h3;obtain⟨q,j,hat2,hqj⟩:=cy.1 a1;simp only at hqj;have hqd:q<d.length:=by
  obtain⟨Q,hQ,_⟩:=hat2;rw[hK.len];exact(Zf.1 hQ).1
 have hgq:=Ze hqd;rw[find_eq hS,Zc,hqj,xD hqd,Zc,uw hgq,Zc,aD];refine⟨fun _=>stop,fun h=>go fun _ q' j' hh => ?_⟩
 rw[hqj]at hh;simp only[aa.mk.injEq]at hh;have e1:q'=q:=by omega
 have e2:j'=j:=by omega
 subst e1 e2;exact⟨_,hgq,by simp at h;omega⟩
theorem Dz {t:Trace} (hS:Small t) (hF:∀x∈aU t,gw t.procs.l.length x.1.proc x.2) (hP:sn t):Wp (bC t) fun b=>b=true→¬Dk t:=by
 have hn:=hS.1;unfold bC pz;rw[if_pos (by simp[len];omega),Zc]
 have h0:(Sl.row (List.replicate (len t.procs).toNat (0:Int)))=.row (nI (List.replicate t.procs.l.length 0)):=by simp[len,nI]
 rw[h0];unfold bC.W1;have hrep:∀(p k:Nat),(List.replicate t.procs.l.length 0)[p]? = some k→k=0:=fun p k h=>by
  rw[List.getElem?_replicate]at h;split at h <;> simp at h;exact h.symm
 refine bY (fun s:Sl Int=>∃d,s=.row (nI d)∧Kh t d) (fun s=>sY t-sI s) ⟨_,rfl,by simp,fun p k P h _=>by rw[hrep p k h];omega,fun p k j h hj=>by rw[hrep p k h]at hj;omega⟩ ?_
 rintro s ⟨d0,rfl,hK⟩;unfold bC.aj bC.W2;refine bY (fun q:Sl Int×Bool×Int=>∃(n:Nat) (d:List Nat),q.2.2=n∧n≤t.procs.l.length∧Mv t d0 q.1 q.2.1 d) (fun q=>t.procs.l.length-q.2.2.toNat) ⟨0,d0,rfl,Nat.zero_le _,rfl,hK,Nat.le_refl _,by simp⟩ ?_
 rintro⟨s,b,i⟩ ⟨n,d,hi,hnn,hM⟩;simp only at hi hM;subst hi;unfold bC.aM;rw[aD];constructor
 ·intro h;have hlt:n<t.procs.l.length:=by simpa [len]using h
  refine(JR hS hF hP hlt hM).mono ?_;rintro w ⟨s',b',d',rfl,hM'⟩;exact⟨⟨n+1,d',rfl,by omega,hM'⟩,by simp;omega⟩
 ·intro _;obtain⟨rfl,hK',hle,hmv⟩:=hM;rw[af];show Wp (ao b _ _) _;rw[aD];refine⟨fun hb=>(af _).2 ⟨⟨d,rfl,hK'⟩,?_⟩,fun _=>(af _).2 ?_⟩
  ·show sY t-sI (.row (nI d))<sY t-sI (.row (nI d0));rw[A3,A3];have:=hmv hb;have:=hK'.sum;omega
  ·show Wp (bC.W5 (.row (nI d)) 0 t) _;unfold bC.W5;refine bY (fun i:Int=>∃n:Nat,i=n∧n≤t.procs.l.length∧∀p,p<n→∀P,t.procs.l[p]? = some P→d[p]? = some P.events.l.length) (fun i:Int=>t.procs.l.length-i.toNat) ⟨0,rfl,Nat.zero_le _,fun p hp=>absurd hp (by omega)⟩ ?_
   rintro i ⟨n,rfl,hn',hh⟩;unfold bC.lJ;rw[aD];constructor
   ·intro h;have hlt:n<t.procs.l.length:=by simpa [len]using h
    have hnd:n<d.length:=by rw[hK'.len];exact hlt
    have hg:=Ze hnd;rw[xD hnd,Zc,uw hg,Zc,aW hlt,Zc,aD];refine⟨fun _=>(af _).2 ((af _).2 fun h=>by cases h),fun h=>(af _).2 ⟨⟨n+1,cA n (by omega),by omega,fun p hp P hP => ?_⟩,by rw[cA n (by omega)];simp;omega⟩⟩
    by_cases e:p=n
    ·subst e;rw[Ze hlt]at hP;cases hP;have:=hK'.le p _ _ hg (Ze hlt);simp[len]at h;rw[hg];congr 1;omega
    ·exact hh p (by omega) P hP
   ·intro h;have hge:t.procs.l.length≤n:=by simpa [len]using h
    refine(af _).2 ((af _).2 fun _ ⟨x,hx⟩ => ?_)
    obtain⟨p,k,e,⟨P,hP,he⟩,rfl,_⟩:=hx.l.at_;have hpl:=(Zf.1 hP).1;exact LD (hK'.acc p _ k (hh p (by omega) P hP) (Zf.1 he).1) hx
end Go.VE
namespace Go.VE
def lV (out:List (List Bool)) (y:aa):Bool:=match out[y.proc.toNat]? with
 | some row=>row[y.index.toNat]?.getD false
 | none=>false
theorem tU {t:Trace} {out:List (List Bool)} {p k:Nat} {row:List Bool} (hr:out[p]? = some row) (hk:k+1<row.length) {z:aa} (hz:Vd t z) :
 lV (out.set p (row.set (k+1) true)) z=(decide (z=⟨p,k+1⟩)||lV out z):=by
 obtain⟨q,j,e,_,rfl,_⟩:=hz.at_;have hp:=(Zf.1 hr).1;unfold lV;have e1:(⟨(q:Int),(j:Int)+1⟩:aa).proc.toNat=q:=rfl;have e2:(⟨(q:Int),(j:Int)+1⟩:aa).index.toNat=j+1:=by show ((j:Int)+1).toNat=j+1;omega
 rw[e1,e2,List.getElem?_set]
 by_cases hpq:p=q
 ·subst hpq;rw[if_pos rfl,if_pos hp,hr];dsimp only;rw[List.getElem?_set]
  by_cases hkj:k=j
  ·subst hkj;simp[hk]
  ·rw[if_neg (by omega),show decide ((⟨(p:Int),(j:Int)+1⟩:aa)=⟨p,k+1⟩)=false from by simp;omega,Bool.false_or]
 ·rw[if_neg hpq,show decide ((⟨(q:Int),(j:Int)+1⟩:aa)=⟨p,k+1⟩)=false from by simp;omega,Bool.false_or]
theorem z9 {α:Type} {f g:α→Bool}:∀{l:List α},(∀z∈l,f z=true→g z=true)→(∃z∈l,f z=false∧g z=true)→l.countP f<l.countP g
 | [],_,⟨z,hz,_⟩=>by simp at hz
 | a::l,h,⟨z,hz,hf,hg⟩=>by
  simp only[List.countP_cons];have hle:=List.countP_mono_left (l:=l) (p:=f) (q:=g) fun x hx=>h x (List.mem_cons_of_mem _ hx)
  rcases List.mem_cons.1 hz with rfl|hz
  ·simp[hf,hg];omega
  ·have:=z9 (l:=l) (fun x hx=>h x (List.mem_cons_of_mem _ hx)) ⟨z,hz,hf,hg⟩
   have h1:=h a (List.mem_cons_self ..)
   cases hfa:f a with
   | true=>simp[h1 hfa];omega
   | false=>simp;split <;> omega
def cnt (t:Trace) (out:List (List Bool)):Nat:=(aU t).countP fun z=>lV out z.1
structure Rx (t:Trace) (x:aa) (out:List (List Bool)) (rest:List aa):Prop where
 shp:∀(p:Nat) P,t.procs.l[p]? = some P→∃row,out[p]? = some row∧row.length=P.events.l.length+1
 len:out.length=t.procs.l.length
 que:∀y∈rest,Way t y x
 snd:∀y,Vd t y→lV out y=true→Way t y x
 cls:∀z,z=x∨Vd t z∧lV out z=true→∀y,Edge t y z→lV out y=true∨y∈rest
 le:rest.length≤2*cnt t out+2
theorem vS {t:Trace} {y:aa}:lV (e8 t) y=false:=by
 unfold lV e8;split
 ·rename_i row h;rw[List.getElem?_map]at h
  cases hP:t.procs.l[y.proc.toNat]? with
  | none=>simp[hP]at h
  | some P=>
   simp[hP]at h;subst h;rw[List.getElem?_replicate];split <;> rfl
 ·rfl
theorem JU {t:Trace} (hS:Small t) (hN:(aU t).length<1073741824) (hF:∀x∈aU t,gw t.procs.l.length x.1.proc x.2) (hP:sn t) {x:aa} (hx:Vd t x) :
 Wp (kC t x) fun s=>∃out,s=nested out∧Rx t x out []∧∀y,Vd t y→(lV out y=true↔Way t y x):=by
 unfold kC;rw[if_pos (by
  unfold uC;simp only[Zj,List.all_eq_true,decide_eq_true_eq];exact⟨by have:=hS.1;omega,fun P hP=>by have:=(hS.2 P hP).1;omega⟩),dW]
 refine(vD hS hF hP hx).mono fun s hs => ?_
 refine bY (fun q:List (List Bool)×List aa=>Rx t x q.1 q.2) (fun q=>2*((aU t).length-cnt t q.1)+q.2.length) ⟨fun p P hP=>⟨List.replicate (P.events.l.length+1) false,by simp[e8,hP],by simp⟩,by simp[e8],fun y hy=>.single ((hs.2 y).1 hy),fun y _ h=>(by rw[vS]at h;cases h),fun z hz y hy => ?_,by have:=hs.1;show s.l.length≤2*cnt t (e8 t)+2;omega⟩ ?_
 ·rcases hz with rfl|⟨_,h⟩
  ·exact .inr ((hs.2 y).2 hy)
  ·rw[vS]at h;cases h
 rintro⟨out,rest⟩ hI
 cases rest with
 | nil=>
  show Wp (some _) _;refine(af _).2 ((af _).2 ⟨out,rfl,hI,fun y hy=>⟨hI.snd y hy,fun hw => ?_⟩⟩)
  have key:∀w,Way t y w→w=x∨Vd t w∧lV out w=true→lV out y=true:=fun w hw=>by
   induction hw with
   | single h=>exact fun hw=>(hI.cls _ hw _ h).elim id fun h=>by cases h
   | tail hyb hbw ih=>exact fun hw=>ih (.inr ⟨hbw.1,(hI.cls _ hw _ hbw).elim id fun h=>by cases h⟩)
  exact key x hw (.inl rfl)
 | cons y rest=>
  have hyw:=hI.que y (List.mem_cons_self ..);have hyv:=hyw.l;obtain⟨p,k,e,hat,rfl,hmem⟩:=hyv.at_;obtain⟨P,hPp,hk⟩:=hat;have hkl:=(Zf.1 hk).1;obtain⟨row,hr,hrl⟩:=hI.shp p P hPp;have hkr:k+1<row.length:=by omega
  show Wp (kh _ (out,⟨p,k+1⟩::rest)) _;unfold kh;have e2:((k:Int)+1).toNat=k+1:=by omega
  dsimp only;rw[if_pos ⟨by omega,by omega⟩,show ((p:Nat):Int).toNat=p from rfl,e2,hr,Zc,Ze hkr,Zc,aD]
  have hmk:lV out ⟨p,k+1⟩=row[k+1]:=by
   unfold lV;rw[show ((⟨(p:Int),(k:Int)+1⟩:aa).proc).toNat=p from rfl,hr];dsimp only;rw[e2,Ze hkr];rfl
  constructor
  ·intro hb;rw[af];refine⟨⟨hI.shp,hI.len,fun y hy=>hI.que y (List.mem_cons_of_mem _ hy),hI.snd,fun z hz y hy => ?_,by have:=hI.le;simp only[List.length_cons]at this;show rest.length≤2*cnt t out+2;omega⟩,Nat.add_lt_add_left (Nat.lt_succ_self _) _⟩
   rcases hI.cls z hz y hy with h|h
   ·exact .inl h
   ·rcases List.mem_cons.1 h with rfl|h
    ·exact .inl (by rw[hmk];exact hb)
    ·exact .inr h
  ·intro hb;rw[dW];refine(vD hS hF hP hyv).mono fun more hm => ?_
   have hle:=hI.le;simp only[List.length_cons]at hle;have hcl:cnt t out≤(aU t).length:=List.countP_le_length;have hm1:=hm.1;have hlt:cnt t out<cnt t (out.set p (row.set (k+1) true)):=z9 (fun z hz h=>by rw[tU hr hkr ⟨_,hz⟩,h,Bool.or_true]) ⟨_,hmem,by rw[hmk,hb],by rw[tU hr hkr hyv];simp⟩
   have hcl2:cnt t (out.set p (row.set (k+1) true))≤(aU t).length:=List.countP_le_length;rw[if_pos (by omega),af]
   refine⟨⟨fun q Q hQ => ?_,by show (out.set _ _).length=_;rw[List.length_set];exact hI.len,fun z hz => ?_,fun z hz h => ?_,fun z hz y hy => ?_,by show (rest++more.l).length≤_;rw[Zk];show _≤2*cnt t (out.set p (row.set (k+1) true))+2;omega⟩,?_⟩
   ·show ∃r,(out.set p (row.set (k+1) true))[q]? = some r∧_;rw[List.getElem?_set];split
    ·rename_i e;subst e;rw[if_pos (Zf.1 hr).1];rw[hPp]at hQ;cases hQ;exact⟨_,rfl,by simp[hrl]⟩
    ·exact hI.shp q Q hQ
   ·rcases List.mem_append.1 hz with hz|hz
    ·exact hI.que z (List.mem_cons_of_mem _ hz)
    ·exact .trans (.single ((hm.2 z).1 hz)) hyw
   ·show Way t z x;have h:lV (out.set p (row.set (k+1) true)) z=true:=h;rw[tU hr hkr hz]at h;simp only[Bool.or_eq_true,decide_eq_true_eq]at h;rcases h with rfl|h
    ·exact hyw
    ·exact hI.snd z hz h
   ·show lV (out.set p (row.set (k+1) true)) y=true∨y∈rest++more.l;rw[tU hr hkr hy.1];have old:z=x∨Vd t z∧lV out z=true→(decide (y=⟨p,k+1⟩)||lV out y)=true∨y∈rest++more.l:=fun hz=>by
     rcases hI.cls z hz y hy with h|h
     ·exact .inl (by rw[show lV out y=true from h,Bool.or_true])
     ·rcases List.mem_cons.1 h with rfl|h
      ·exact .inl (by simp)
      ·exact .inr (List.mem_append_left _ h)
    rcases hz with hz|⟨hzv,hz⟩
    ·exact old (.inl hz)
    ·have hz:lV (out.set p (row.set (k+1) true)) z=true:=hz;rw[tU hr hkr hzv]at hz;simp only[Bool.or_eq_true,decide_eq_true_eq]at hz;rcases hz with rfl|hz
     ·exact .inr (List.mem_append_right _ ((hm.2 y).2 hy))
     ·exact old (.inr ⟨hzv,hz⟩)
   ·show 2*((aU t).length-cnt t (out.set p (row.set (k+1) true)))+(rest++more.l).length<2*((aU t).length-cnt t out)+(_::rest).length;rw[Zk,List.length_cons];omega
theorem Px {t:Trace} (hS:Small t) (hN:(aU t).length<1073741824) (hF:∀x∈aU t,gw t.procs.l.length x.1.proc x.2) (hP:sn t):Wp (bz.W6 0 t ⟨0,0⟩) fun r=>(r.2=0↔¬Dk t):=by
 have hn:=hS.1;unfold bz.W6;refine bY (fun i:Int=>∃n:Nat,i=n∧n≤t.procs.l.length∧∀(p k:Nat) e,p<n→jM t p k e→¬Way t ⟨p,k+1⟩ ⟨p,k+1⟩) (fun i:Int=>t.procs.l.length-i.toNat) ⟨0,rfl,Nat.zero_le _,fun p k e hp=>absurd hp (by omega)⟩ ?_
 rintro i ⟨n,rfl,hnn,hh⟩;unfold bz.u6;rw[aD];constructor
 ·intro h;have hlt:n<t.procs.l.length:=by simpa [len]using h
  have hix:=aW hlt;have hPg:=Ze hlt;have hPl:=(hS.2 _ (List.getElem_mem hlt)).1;generalize t.procs.l[n]=P at *;unfold bz.W7;refine bY (fun i:Int=>∃m:Nat,i=m∧m≤P.events.l.length∧∀k,k<m→¬Way t ⟨n,k+1⟩ ⟨n,k+1⟩) (fun i:Int=>P.events.l.length-i.toNat) ⟨0,rfl,Nat.zero_le _,fun k hk=>absurd hk (by omega)⟩ ?_
  rintro i ⟨m,rfl,hm,hk⟩;unfold bz.vo;rw[hix,Zc,aD];constructor
  ·intro h;have hml:m<P.events.l.length:=by simpa [len]using h
   have hw:=cA m (by omega)
   have hv:Vd t ⟨n,m+1⟩:=⟨P.events.l[m],cy.2 ⟨n,m,⟨P,hPg,Ze hml⟩,rfl⟩⟩;rw[hw,show (((m+1:Nat)):Int)=(m:Int)+1 from by simp,dW]
   refine(JU hS hN hF hP hv).mono ?_;rintro s ⟨out,rfl,hI,hmk⟩;obtain⟨row,hr,hrl⟩:=hI.shp n P hPg;have hon:out≠[]:=by rintro rfl;cases hr
   have hkr:m+1<row.length:=by omega
   have h1:idx (nested out) (n:Int)=some (.row row):=by
    unfold nested;rw[if_neg hon,kd];show (out.map Sl.row)[n]? = _;rw[List.getElem?_map,hr];rfl
   have h2:idx (Sl.row row) ((m:Int)+1)=some row[m+1]:=by
    rw[show (m:Int)+1=((m+1:Nat):Int)from by simp]
    exact aW (s:=Sl.row row) hkr
   rw[h1,Zc,h2,Zc,aD];have hb:row[m+1]=lV out ⟨n,m+1⟩:=by
    unfold lV;rw[show ((⟨(n:Int),(m:Int)+1⟩:aa).proc).toNat=n from rfl,hr];dsimp only;rw[show ((m:Int)+1).toNat=m+1 from by omega,Ze hkr];rfl
   rw[hb];refine⟨fun hy=>(af _).2 ((af _).2 ((af _).2 ⟨fun h=>(by cases h),fun h=>absurd ⟨_,(hmk _ hv).1 hy⟩ h⟩)),fun hy=>(af _).2 ⟨⟨m+1,by simp,by omega,fun k hkm => ?_⟩,by simp;omega⟩⟩
   by_cases e:k=m
   ·subst e;exact fun hw=>by rw[(hmk _ hv).2 hw]at hy;cases hy
   ·exact hk k (by omega)
  ·intro h;have hge:P.events.l.length≤m:=by simpa [len]using h
   refine(af _).2 ((af _).2 ⟨⟨n+1,cA n (by omega),by omega,fun p k e hp hat => ?_⟩,by rw[cA n (by omega)];simp;omega⟩)
   by_cases e:p=n
   ·subst e;obtain⟨Q,hQ,he⟩:=hat;rw[hPg]at hQ;cases hQ;have:=(Zf.1 he).1;exact hk k (by omega)
   ·exact hh p k _ (by omega) hat
 ·intro h;have hge:t.procs.l.length≤n:=by simpa [len]using h
  refine(af _).2 ((af _).2 ⟨fun _ ⟨x,hx⟩ => ?_,fun _=>rfl⟩)
  obtain⟨p,k,e,hat,rfl,_⟩:=hx.l.at_;obtain⟨P,hP,_⟩:=id hat;exact hh p k e (by have:=(Zf.1 hP).1;omega) hat hx
end Go.VE
namespace Go.VE
theorem B4 {t:Trace} (hF:∀x∈aU t,gw t.procs.l.length x.1.proc x.2):(∀(p k:Nat) e,jM t p k e→pO t (⟨p,k+1⟩,e)=0)↔sn t:=
 Iff.trans ⟨fun h x hx=>by obtain⟨p,k,h1,h2⟩:=cy.1 hx;obtain⟨a,e⟩:=x;simp only at h1 h2;rw[h2];exact h p k e h1,fun h p k e ha=>h _ (cy.2 ⟨p,k,ha,rfl⟩)⟩ (DZ hF)
theorem Gy {t:Trace} (hS:Small t) (hN:(aU t).length<1073741824):Wp (bz t) fun r=>(r.2=0↔Ok t):=by
 have hn:=hS.1;unfold bz;rw[fM,Zc,aD];refine⟨fun hin=>(af _).2 ⟨fun h=>(by cases h),fun h => ?_⟩,fun hin => ?_⟩
 ·have h1:=h.one;have h8:=h.few;simp only[Bool.or_eq_true,decide_eq_true_eq,len]at hin;omega
 have h8:1≤t.procs.l.length∧t.procs.l.length≤8:=by
  simp only[Bool.or_eq_false_iff,decide_eq_false_iff_not,len]at hin;omega
 unfold bz.W1;refine bY (fun i:Int=>∃n:Nat,i=n∧n≤t.procs.l.length∧∀p,p<n→oe t p=0) (fun i:Int=>t.procs.l.length-i.toNat) ⟨0,rfl,Nat.zero_le _,fun p hp=>absurd hp (by omega)⟩ ?_
 rintro i ⟨n,rfl,hnn,hh⟩;unfold bz.aj;rw[aD];constructor
 ·intro h;have hlt:n<t.procs.l.length:=by simpa [len]using h
  rw[H7 hS hlt,Zc,aD];refine⟨fun h0=>(af _).2 ⟨⟨n+1,cA n (by omega),by omega,fun p hp => ?_⟩,by rw[cA n (by omega)];simp;omega⟩,fun h0=>(af _).2 ((af _).2 ⟨fun h => ?_,fun h => ?_⟩)⟩
  ·by_cases e:p=n
   ·subst e;simpa using h0
   ·exact hh p (by omega)
  ·simp only at h;simp[h]at h0
  ·simp[h.heads n hlt]at h0
 intro h;have hge:t.procs.l.length≤n:=by simpa [len]using h
 rw[af];unfold bz.W2;refine bY (fun i:Int=>∃n:Nat,i=n∧n≤t.procs.l.length∧∀(p k:Nat) P e,p<n→t.procs.l[p]? = some P→P.events.l[k]? = some e→kN t.procs.l.length P p k e=0) (fun i:Int=>t.procs.l.length-i.toNat) ⟨0,rfl,Nat.zero_le _,fun p k P e hp=>absurd hp (by omega)⟩ ?_
 rintro i ⟨n',rfl,hnn',he⟩;unfold bz.aM;rw[aD];constructor
 ·intro h;have hlt:n'<t.procs.l.length:=by simpa [len]using h
  have hix:=aW hlt;have hPg:=Ze hlt;have hPl:=(hS.2 _ (List.getElem_mem hlt)).1;generalize t.procs.l[n']=P at hix hPg hPl;unfold bz.W3;refine bY (fun i:Int=>∃m:Nat,i=m∧m≤P.events.l.length∧∀(k:Nat) e,k<m→P.events.l[k]? = some e→kN t.procs.l.length P n' k e=0) (fun i:Int=>P.events.l.length-i.toNat) ⟨0,rfl,Nat.zero_le _,fun k e hk=>absurd hk (by omega)⟩ ?_
  rintro i ⟨m,rfl,hm,hk⟩;unfold bz.dB;rw[hix,Zc,aD];constructor
  ·intro h;have hml:m<P.events.l.length:=by simpa [len]using h
   have hmg:=Ze hml;have hw:=cA m (by omega)
   rw[GS hS hPg hmg,Zc,aD];refine⟨fun h0=>(af _).2 ⟨⟨m+1,hw,by omega,fun k e hkm hke => ?_⟩,by rw[hw];simp;omega⟩,fun h0=>(af _).2 ((af _).2 ((af _).2 ⟨fun h => ?_,fun h => ?_⟩))⟩
   ·by_cases ek:k=m
    ·subst ek;rw[hmg]at hke;cases hke;simpa using h0
    ·exact hk k e (by omega) hke
   ·simp only at h;simp[h]at h0
   ·simp[h.fP n' m P _ hPg hmg]at h0
  ·intro h;have hge':P.events.l.length≤m:=by simpa [len]using h
   refine(af _).2 ((af _).2 ⟨⟨n'+1,cA n' (by omega),by omega,fun p k Q e hp hQ hke => ?_⟩,by rw[cA n' (by omega)];simp;omega⟩)
   by_cases ep:p=n'
   ·subst ep;rw[hPg]at hQ;cases hQ;exact hk k e (by have:=(Zf.1 hke).1;omega) hke
   ·exact he p k Q e (by omega) hQ hke
 intro h;have hge':t.procs.l.length≤n':=by simpa [len]using h
 have he:∀(p k:Nat) P e,t.procs.l[p]? = some P→P.events.l[k]? = some e→kN t.procs.l.length P p k e=0:=fun p k P e hP hk=>he p k P e (by have:=(Zf.1 hP).1;omega) hP hk
 have hF:=Ah he;rw[af];unfold bz.W4;refine bY (fun i:Int=>∃n:Nat,i=n∧n≤t.procs.l.length∧∀(p k:Nat) e,p<n→jM t p k e→pO t (⟨p,k+1⟩,e)=0) (fun i:Int=>t.procs.l.length-i.toNat) ⟨0,rfl,Nat.zero_le _,fun p k e hp=>absurd hp (by omega)⟩ ?_
 rintro i ⟨q,rfl,hq,hpr⟩;unfold bz.vh;rw[aD];constructor
 ·intro h;have hlt:q<t.procs.l.length:=by simpa [len]using h
  have hix:=aW hlt;have hPg:=Ze hlt;have hPl:=(hS.2 _ (List.getElem_mem hlt)).1;generalize t.procs.l[q]=P at hix hPg hPl;unfold bz.W5;refine bY (fun i:Int=>∃m:Nat,i=m∧m≤P.events.l.length∧∀(k:Nat) e,k<m→P.events.l[k]? = some e→pO t (⟨q,k+1⟩,e)=0) (fun i:Int=>P.events.l.length-i.toNat) ⟨0,rfl,Nat.zero_le _,fun k e hk=>absurd hk (by omega)⟩ ?_
  rintro i ⟨m,rfl,hm,hk⟩;unfold bz.lJ;rw[hix,Zc,aD];constructor
  ·intro h;have hml:m<P.events.l.length:=by simpa [len]using h
   have hmg:=Ze hml;have hw:=cA m (by omega)
   have hat:jM t q m P.events.l[m]:=⟨P,hPg,hmg⟩;rw[hw,show (((m+1:Nat)):Int)=(m:Int)+1 from by simp,Fi hS hat (hF (⟨q,m+1⟩,P.events.l[m]) (cy.2 ⟨q,m,hat,rfl⟩)),Zc,aD]
   refine⟨fun h0=>(af _).2 ⟨⟨m+1,by simp,by omega,fun k e hkm hke => ?_⟩,by simp;omega⟩,fun h0=>(af _).2 ((af _).2 ((af _).2 ⟨fun h => ?_,fun h => ?_⟩))⟩
   ·by_cases ek:k=m
    ·subst ek;rw[hmg]at hke;cases hke;simpa using h0
    ·exact hk k e (by omega) hke
   ·simp only at h;simp[h]at h0
   ·simp[(B4 hF).2 h.uc q m _ hat]at h0
  ·intro h;have hge':P.events.l.length≤m:=by simpa [len]using h
   refine(af _).2 ((af _).2 ⟨⟨q+1,cA q (by omega),by omega,fun p k e hp hat => ?_⟩,by rw[cA q (by omega)];simp;omega⟩)
   by_cases ep:p=q
   ·subst ep;obtain⟨Q,hQ,hke⟩:=hat;rw[hPg]at hQ;cases hQ;exact hk k e (by have:=(Zf.1 hke).1;omega) hke
   ·exact hpr p k e (by omega) hat
 intro h;have hgq:t.procs.l.length≤q:=by simpa [len]using h
 have hP:sn t:=(B4 hF).1 fun p k e hat=>hpr p k e (by obtain⟨P,hP,_⟩:=hat;have:=(Zf.1 hP).1;omega) hat
 have hok:¬Dk t↔Ok t:=⟨fun h=>⟨h8.1,h8.2,fun p hp=>hh p (by omega),he,hP,h⟩,fun h=>h.acyc⟩
 rw[af,dW];refine(Dz hS hF hP).mono fun b hb => ?_
 rw[aD];exact⟨fun h=>(af _).2 ⟨fun _=>hok.1 (hb h),fun _=>rfl⟩,fun _=>(Px hS hN hF hP).mono fun r hr=>hr.trans hok⟩
theorem FY {t:Trace} (hS:Small t) (hN:(aU t).length<1073741824):∃b,bX t=some b∧fm t=some b∧(b=true→VT t):=by
 obtain⟨b,hb,h1,h2⟩:=HR hS hN;refine⟨b,hb,?_,h1⟩;unfold fm;obtain⟨r,hr,h3⟩:=Gy hS hN;rw[hr,Zc]
 congr 1
 rw[Bool.eq_iff_iff,beq_iff_eq,h3];exact⟨h2,fun h=>(h1 h).ok⟩
end Go.VE
namespace Go.VE
theorem BT {t:Trace} (hS:Small t) {c:Sl Int} (hcl:c.l.length=t.procs.l.length) {step:Int→Option (Fw Int Unit Unit)}
 (hs:∀i,step i=ao (decide (i<(len c))) ((idx c i).bind fun x_1=>(ao (decide (x_1<0)) (some true) ((idx c i).bind fun x_2=>(idx t.procs i).bind fun x_3=>some (decide (x_2>(len x_3.events)))):Option Bool).bind fun x_4=>ao x_4 (some (.r ())) (some (.n (IntKind.wrap .i64 (i+1))))) (some (.x ()))) :
 Wp ((bh step 0).bind (Fw.elim (fun _=>some true) (fun _=>some false))) fun b=>(b=true↔pC t c.l):=by
 have h1:=hS.1;refine bY (fun s:Int=>∃n:Nat,s=n∧n≤c.l.length∧∀(p:Nat) (a:Int) (P:aS),p<n→c.l[p]? = some a→t.procs.l[p]? = some P→0≤a∧a≤P.events.l.length) (fun s:Int=>c.l.length-s.toNat) ⟨0,rfl,Nat.zero_le _,fun p a P h=>absurd h (by omega)⟩ ?_
 rintro s ⟨n,rfl,hn,hI⟩;rw[hs,aD];constructor
 ·intro h;have hlt:n<c.l.length:=by simpa [len]using h
  have hlt2:n<t.procs.l.length:=by omega
  have hw:=cA n (by omega)
  rw[aW hlt,Zc,Zc,aW hlt2,Zc,fM,Zc,aD];constructor
  ·intro hb;have hb:c.l[n]<0∨c.l[n]>t.procs.l[n].events.l.length:=by simpa [len]using hb
   refine(af _).2 ((af _).2 ⟨fun h=>(by cases h),fun hR => ?_⟩)
   have:=hR.2 n _ _ (Ze hlt) (Ze hlt2);omega
  ·intro hb;have hb:0≤c.l[n]∧c.l[n]≤t.procs.l[n].events.l.length:=by simpa [len]using hb
   refine(af _).2 ⟨⟨n+1,hw,by omega,fun p a P hp ha hP => ?_⟩,by rw[hw];simp;omega⟩
   by_cases e:p=n
   ·subst e;rw[Ze hlt]at ha;cases ha;rw[Ze hlt2]at hP;cases hP;exact hb
   ·exact hI p a P (by omega) ha hP
 ·intro h;have hge:c.l.length≤n:=by simpa [len]using h
  refine(af _).2 ((af _).2 ⟨fun _=>⟨hcl,fun p a P ha hP=>hI p a P (by have:=(Zf.1 ha).1;omega) ha hP⟩,fun _=>rfl⟩)
theorem Kq {t:Trace} (hS:Small t) {c:Sl Int} (hcl:c.l.length=t.procs.l.length):Wp (fL t c) fun b=>(b=true↔pC t c.l):=by
 unfold fL;rw[show (len c==len t.procs)=true from by simp[len,hcl],bU]
 exact BT hS hcl fun i=>rfl
theorem zQ {t:Trace} (hV:VT t) {A:bt 200 aA} (hM:g8 t (aU t) A) {p k:Nat} {e:Event} (hat:jM t p k e) (hk:e.kind=3):dV t 2 e.message=(ag A e.message).from_:=by
 obtain⟨y,h1,h2,h3⟩:=r_ hV.formed hV.ok.uc (cy.2 ⟨p,k,hat,rfl⟩:((⟨p,k+1⟩:aa),e)∈aU t) hk;have:=hM.snd _ h1 h2;simp only[h3]at this;exact this.symm
theorem D_ {t:Trace} (hS:Small t) (hV:VT t) {A:bt 200 aA} (hM:g8 t (aU t) A) {c:Sl Int} (hR:pC t c.l):Wp (dh t c) fun b=>(b=true↔lH t A c.l):=by
 have hn8:=hV.few;have hcl:=hR.1;unfold dh dh.W1;refine bY (fun s:Int=>∃n:Nat,s=n∧n≤c.l.length∧∀(p k:Nat) (e:Event) (a:Int),p<n→jM t p k e→c.l[p]? = some a→(k:Int)<a→e.kind=3→∃b,c.l[(ag A e.message).from_.proc.toNat]? = some b∧(ag A e.message).from_.index≤b) (fun s:Int=>c.l.length-s.toNat) ⟨0,rfl,Nat.zero_le _,fun p k e a h=>absurd h (by omega)⟩ ?_
 rintro s ⟨n,rfl,hn,hI⟩;unfold dh.aj;rw[aD];constructor
 ·intro h;have hlt:n<c.l.length:=by simpa [len]using h
  have hlt2:n<t.procs.l.length:=by omega
  have hPl:=(hS.2 _ (List.getElem_mem hlt2)).1;have hPg:=Ze hlt2;have hcg:=Ze hlt;obtain⟨r1,r2⟩:=hR.2 n _ _ hcg hPg;have hix:=aW hlt;generalize c.l[n]=a at *;generalize hPe:t.procs.l[n]=P at *;unfold dh.W2;refine bY (fun s:Int=>∃m:Nat,s=m∧(m:Int)≤a∧∀(k:Nat) (e:Event),k<m→jM t n k e→e.kind=3→∃b,c.l[(ag A e.message).from_.proc.toNat]? = some b∧(ag A e.message).from_.index≤b) (fun s:Int=>a.toNat-s.toNat) ⟨0,rfl,by simpa using r1,fun k e h=>absurd h (by omega)⟩ ?_
  rintro s ⟨m,rfl,hm,hJ⟩;unfold dh.aM;rw[hix,Zc,aD];constructor
  ·intro h;have hma:(m:Int)<a:=by simpa using h
   have hmP:m<P.events.l.length:=by omega
   have hwm:=cA m (by omega)
   have hmu:a.toNat-(IntKind.wrap .i64 ((m:Int)+1)).toNat<a.toNat-((m:Int)).toNat:=by rw[hwm];simp;omega
   have hat:jM t n m P.events.l[m]:=⟨P,hPg,Ze hmP⟩;have hixP:idx t.procs (n:Int)=some P:=by rw[kd];exact hPg
   have same:∀k e,jM t n k e→k=m→e=P.events.l[m]:=fun k e ⟨Q,hQ,he⟩ hk=>by
    subst hk;rw[hPg]at hQ;cases hQ;rw[Ze hmP]at he;cases he;rfl
   unfold ir;rw[hixP,Zc,aW hmP,Zc,dW,aD];constructor
   ·intro hk;have hk:P.events.l[m].kind=3:=by simpa using hk
    obtain⟨q,j,z,hz,z1,z2,z3,z4,z5⟩:=qt hV hM hat hk;obtain⟨Q,hQ,_⟩:=hz;have hql:q<c.l.length:=by have:=(Zf.1 hQ).1;omega
    rw[find_eq hS,zQ hV hM hat hk,Zc,z5];simp only;rw[aW hql,Zc,af,aD];constructor
    ·intro hle;have hle:(j:Int)+1≤c.l[q]:=by simpa using hle
     refine(af _).2 ⟨⟨m+1,hwm,by omega,fun k e' hk' hat' he' => ?_⟩,hmu⟩
     by_cases ek:k=m
     ·cases same k e' hat' ek;rw[z5];exact⟨c.l[q],by simp only[Int.toNat_natCast];exact Ze hql,by simp only;omega⟩
     ·exact hJ k e' (by omega) hat' he'
    ·intro hgt;have hgt:¬((j:Int)+1≤c.l[q]):=by simpa using hgt
     refine(af _).2 ((af _).2 ((af _).2 ⟨fun h=>(by cases h),fun hC => ?_⟩))
     obtain⟨b,hb1,hb2⟩:=hC n m _ a hat hcg hma hk;rw[z5]at hb1 hb2;simp only[Int.toNat_natCast]at hb1 hb2;rw[Ze hql]at hb1;cases hb1;omega
   ·intro hk;rw[af,bU];refine(af _).2 ⟨⟨m+1,hwm,by omega,fun k e' hk' hat' he' => ?_⟩,hmu⟩
    by_cases ek:k=m
    ·cases same k e' hat' ek;simp[he']at hk
    ·exact hJ k e' (by omega) hat' he'
  ·intro h;have hge:¬(m:Int)<a:=by simpa using h
   refine(af _).2 ((af _).2 ⟨⟨n+1,cA n (by omega),by omega,fun p k e a' hp hat ha' hk hk3 => ?_⟩,by rw[cA n (by omega)];simp;omega⟩)
   by_cases ep:p=n
   ·subst ep;rw[hcg]at ha';cases ha';exact hJ k e (by omega) hat hk3
   ·exact hI p k e a' (by omega) hat ha' hk hk3
 ·intro h;have hge:c.l.length≤n:=by simpa [len]using h
  refine(af _).2 ((af _).2 ⟨fun _ p k e a hat ha hk hk3=>hI p k e a (by have:=(Zf.1 ha).1;omega) hat ha hk hk3,fun _=>rfl⟩)
theorem G4 {t:Trace} (hS:Small t) (hv:fm t=some true) (hV:VT t) {A:bt 200 aA} (hM:g8 t (aU t) A) {c:Sl Int} (hR:pC t c.l):Wp (eA t c) fun b=>(b=true↔lH t A c.l):=by
 have hr:Wp (eU t c) fun b=>(b=true↔pC t c.l):=BT hS hR.1 fun i=>rfl
 obtain⟨b,hb,hb2⟩:=hr;rw[hb2.2 hR]at hb;obtain⟨b',hb',hb2'⟩:=D_ hS hV hM hR;unfold eA ig;rw[hv,Zc,bU,Zc,show (len c==len t.procs)=true from by simp[len,hR.1],Zc,bU,hb,Zc,Zc,bU,hb',Zc,Zc,af]
 exact hb2'
theorem wc {t:Trace} (hS:Small t) (hv:bX t=some true) (hV:VT t) {A:bt 200 aA} (hM:g8 t (aU t) A) (c:Sl Int):Wp (bQ t c) fun r=>Code t A c.l r.2∧(r.2≠0→r.1=.nil)∧(r.2=0→Table t c.l r.1.l):=by
 obtain⟨f,hf,hc⟩:=vW hS hv hV hM c
 by_cases h0:f.2=0
 ·exact(yg hS hv hV hM (hc.zero.1 h0)).mono fun r ⟨h1,h2⟩=>⟨by rw[h1,←h0];exact hc,fun h=>absurd h1 h,fun _=>h2⟩
 ·unfold bQ;rw[hf,Zc,show (f.2==0)=false from by simpa using h0,eu,af]
  exact⟨hc,fun _=>rfl,fun h=>absurd h h0⟩
theorem EB {t:Trace} (hS:Small t) (hv:bX t=some true) (hV:VT t) {A:bt 200 aA} (hM:g8 t (aU t) A) (c:Sl Int):Wp (eo t c) fun r=>Code t A c.l r.2∧(r.2≠0→r.1=false)∧(r.2=0→(r.1=true↔∀p q:Nat,p<t.procs.l.length→q<t.procs.l.length→p≠q→under t c.l p q=0)):=by
 obtain⟨f,hf,hc,h1,_⟩:=wc hS hv hV hM c
 by_cases h0:f.2=0
 ·exact(Hu hS hv hV hM (hc.zero.1 h0)).mono fun r ⟨h1,h2⟩=>⟨by rw[h1,←h0];exact hc,fun h=>absurd h1 h,fun _=>h2⟩
 ·unfold eo;rw[hf,Zc,show (f.2==0)=false from by simpa using h0,eu,Zc,af]
  exact⟨hc,fun _=>rfl,fun h=>absurd h h0⟩
theorem Code.one {t:Trace} {A:bt 200 aA} {c:List Int} {r s:Int} (h:Code t A c r) (g:Code t A c s):r=s:=by
 rcases h with⟨h,rfl⟩|⟨h1,h2,rfl⟩|⟨h1,h2,rfl⟩|⟨h1,h2,rfl⟩ <;> rcases g with⟨g,rfl⟩|⟨g1,g2,rfl⟩|⟨g1,g2,rfl⟩|⟨g1,g2,rfl⟩ <;> first|rfl|contradiction|exact absurd ‹pC t c›.1 ‹_›
theorem xA {t:Trace} (hv:bX t=some false) (c:Sl Int):bQ t c=some (.nil,1):=by
 unfold bQ dP dj iR;rw[hv];rfl
theorem FG {t:Trace} (hv:bX t=some false) (c:Sl Int):eo t c=some (false,1):=by
 unfold eo;rw[xA hv];rfl
theorem HG {t:Trace} (hv:bX t=some false) (p q:Int):cV t p q=some (false,1):=by
 unfold cV eS;rw[hv];rfl
end Go.VE
namespace Go.VE
theorem rQ (t:Trace) (kind m:Int):dV t kind m=⟨0,0⟩∧(∀x∈aU t,¬(x.2.kind=kind∧x.2.message=m))∨∃z,(dV t kind m,z)∈aU t∧z.kind=kind∧z.message=m:=by
 cases h:(aU t).find? (kG kind m)with
 | some x=>
  obtain⟨a1,a2,a3,a4⟩:=ta h;exact .inr ⟨x.2,by rw[a4];exact a1,a2,a3⟩
 | none=>
  rw[List.find?_eq_none]at h;have h':∀x∈aU t,¬(x.2.kind=kind∧x.2.message=m):=fun x hx=>by have:=h x hx;simpa [kG]using this
  exact .inl ⟨D0 h',h'⟩
theorem Dd {t:Trace} (hV:VT t) {r s:aa} {z e:Event} (hr:(r,z)∈aU t) (hz:z.kind=3) (hs:(s,e)∈aU t) (he:e.kind=2) (hm:e.message=z.message):e.peer=r.proc∧z.peer=s.proc:=by
 have h:=hV.ok.uc.has _ hr hz;have hp:0≤z.peer:=by
  rcases hV.formed _ hr with h|⟨_,h,_⟩
  ·simp only at h;omega
  ·exact h
 rw[show z.peer=((z.peer.toNat:Nat):Int)from by omega,pM]at h
 obtain⟨k,y,ha,h1,h2,h3⟩:=h;have hy:((⟨(z.peer.toNat:Nat),k+1⟩:aa),y)∈aU t:=cy.2 ⟨_,k,ha,rfl⟩;have:=hV.ok.uc.snd _ hy _ hs h1 he (by rw[hm];exact h2)
 simp only at this;subst this;cases sM hy hs rfl;exact⟨h3,by simp only;omega⟩
def lP (t:Trace) (c:List Int) (e:Event):Bool:=(dV t 3 e.message).index==0||decide ((dV t 3 e.message).index>(c[(dV t 3 e.message).proc.toNat]?).getD 0)
theorem uf {α:Type} (f g:α→Bool):∀l:List α,l.countP f=l.countP (fun x=>f x&&g x)+l.countP (fun x=>f x && !g x)
 | []=>rfl
 | x::l=>by
  simp only[List.countP_cons,uf f g l];cases f x <;> cases g x <;> simp <;> omega
theorem oE {α:Type} {f:α→Bool} {l:List α} {n k:Nat}:k∈places f (l.take n)↔k<n∧∃x,l[k]? = some x∧f x=true:=by
 rw[nM];simp only[List.getElem?_take];constructor
 ·rintro⟨x,h1,h2⟩;split at h1
  ·exact⟨‹_›,x,h1,h2⟩
  ·cases h1
 ·rintro⟨h,x,h1,h2⟩;exact⟨x,by rw[if_pos h];exact h1,h2⟩
theorem Kb {t:Trace} (hV:VT t) {A:bt 200 aA} (hM:g8 t (aU t) A) {c:List Int} (hC:Cons t A c) {p q:Nat} {P Q:aS} {a b:Int} (hP:t.procs.l[p]? = some P) (hQ:t.procs.l[q]? = some Q) (ha:c[p]? = some a) (hb:c[q]? = some b) :
 (Q.events.l.take b.toNat).countP (fC p)=(P.events.l.take a.toNat).countP fun e=>cT q e && !lP t c e:=by
 have mem:∀{p:Nat} {P:aS} {k:Nat} {e:Event},t.procs.l[p]? = some P→P.events.l[k]? = some e→((⟨p,k+1⟩:aa),e)∈aU t:=fun hP hk=>cy.2 ⟨_,_,⟨_,hP,hk⟩,rfl⟩
 have a0:=(hC.1.2 p a P ha hP).1;have b0:=(hC.1.2 q b Q hb hQ).1;have r1:∀k,k∈places (fC p) (Q.events.l.take b.toNat)→∃(z:Event) (j:Nat) (e:Event),Q.events.l[k]? = some z∧z.kind=3∧P.events.l[j]? = some e∧e.kind=2∧e.peer=q∧e.message=z.message∧dV t 2 z.message=⟨p,j+1⟩∧(j:Int)+1≤a∧(k:Int)+1≤b:=fun k hk=>by
  obtain⟨hkb,z,h1,h2⟩:=oE.1 hk;have h2:z.kind=3∧z.peer=p:=by simpa [fC]using h2
  have hm:=mem hQ h1;obtain⟨e,e1,e2,e3⟩:=r_ hV.formed hV.ok.uc hm h2.1;obtain⟨f1,f2⟩:=Dd hV hm h2.1 e1 e2 e3;obtain⟨p',j,⟨P',hP',hj⟩,hf⟩:=cy.1 e1;simp only at f1 hf hj;rw[hf]at f2;have hpp:p'=p:=by simp only at f2;omega
  subst hpp;rw[hP]at hP';cases hP';obtain⟨x,hx1,hx2⟩:=hC.2 q k z b ⟨Q,hQ,h1⟩ hb (by omega) h2.1
  rw[←zQ hV hM ⟨Q,hQ,h1⟩ h2.1,hf]at hx1 hx2;simp only[Int.toNat_natCast]at hx1 hx2;rw[ha]at hx1;cases hx1;exact⟨z,j,e,h1,h2.1,hj,e2,f1,e3,hf,hx2,by omega⟩
 have s1:∀k,k∈places (fun e=>cT q e && !lP t c e) (P.events.l.take a.toNat)→∃(e:Event) (j:Nat) (z:Event),P.events.l[k]? = some e∧e.kind=2∧Q.events.l[j]? = some z∧z.kind=3∧z.peer=p∧z.message=e.message∧dV t 3 e.message=⟨q,j+1⟩∧(j:Int)+1≤b:=fun k hk=>by
  obtain⟨hka,e,h1,h2⟩:=oE.1 hk;simp only[Zj,Bool.not_eq_true',lP,Bool.or_eq_false_iff,cT,beq_iff_eq,beq_eq_false_iff_ne,decide_eq_false_iff_not]at h2;obtain⟨⟨g1,g2⟩,g3,g4⟩:=h2;rcases rQ t 3 e.message with⟨h,_⟩|⟨z,z1,z2,z3⟩
  ·rw[h]at g3;exact absurd rfl g3
  ·obtain⟨f1,f2⟩:=Dd hV z1 z2 (mem hP h1) g1 z3.symm;obtain⟨q',j,⟨Q',hQ',hj⟩,hf⟩:=cy.1 z1;simp only at hf hj f1 f2;rw[hf]at f1 g4;have hqq:q'=q:=by simp only at f1;omega
   subst hqq;rw[hQ]at hQ';cases hQ';simp only[Int.toNat_natCast,hb,Option.getD_some]at g4;exact⟨e,j,z,h1,g1,hj,z2,f2,z3,hf,by omega⟩
 apply Nat.le_antisymm
 ·refine ug (fun k=>match Q.events.l[k]? with|some z=>((dV t 2 z.message).index-1).toNat|none=>0) (fun k hk => ?_) fun k k' hk hk' he => ?_
  ·obtain⟨z,j,e,h1,h2,h3,h4,h5,h6,h7,h8,h9⟩:=r1 k hk;rw[h1];simp only[h7];rw[show ((j:Int)+1-1).toNat=j from by omega]
   refine oE.2 ⟨by omega,e,h3,?_⟩
   have hfe:dV t 3 e.message=⟨q,k+1⟩:=by
    rcases rQ t 3 e.message with⟨_,h⟩|⟨z',z1,z2,z3⟩
    ·exact absurd ⟨h2,h6.symm⟩ (h _ (mem hQ h1))
    ·exact hV.ok.uc.rcv _ z1 _ (mem hQ h1) z2 h2 (by rw[z3,h6])
   simp only[lP,hfe,cT,h4,h5,Int.toNat_natCast,hb,Option.getD_some];simp;omega
  ·obtain⟨z,j,e,h1,h2,h3,h4,h5,h6,h7,_⟩:=r1 k hk;obtain⟨z',j',e',h1',h2',h3',h4',h5',h6',h7',_⟩:=r1 k' hk';simp only[h1,h1',h7,h7']at he;have hjj:j=j':=by omega
   subst hjj;rw[h3]at h3';cases h3';have:=hV.ok.uc.rcv _ (mem hQ h1) _ (mem hQ h1') h2 h2' (by rw[←h6,h6'])
   simp only[aa.mk.injEq]at this;omega
 ·refine ug (fun k=>match P.events.l[k]? with|some e=>((dV t 3 e.message).index-1).toNat|none=>0) (fun k hk => ?_) fun k k' hk hk' he => ?_
  ·obtain⟨e,j,z,h1,h2,h3,h4,h5,h6,h7,h8⟩:=s1 k hk;rw[h1];simp only[h7];rw[show ((j:Int)+1-1).toNat=j from by omega]
   exact oE.2 ⟨by omega,z,h3,by simp[fC,h4,h5]⟩
  ·obtain⟨e,j,z,h1,h2,h3,h4,h5,h6,h7,_⟩:=s1 k hk;obtain⟨e',j',z',h1',h2',h3',h4',h5',h6',h7',_⟩:=s1 k' hk';simp only[h1,h1',h7,h7']at he;have hjj:j=j':=by omega
   subst hjj;rw[h3]at h3';cases h3';have:=hV.ok.uc.snd _ (mem hP h1) _ (mem hP h1') h2 h2' (by rw[←h6,h6'])
   simp only[aa.mk.injEq]at this;omega
theorem Al {t:Trace} (hV:VT t) {A:bt 200 aA} (hM:g8 t (aU t) A) {c:List Int} (hC:Cons t A c) {p q:Nat} {P Q:aS} {a b:Int} (hP:t.procs.l[p]? = some P) (hQ:t.procs.l[q]? = some Q) (ha:c[p]? = some a) (hb:c[q]? = some b) :
 under t c p q=((P.events.l.take a.toNat).countP fun e=>cT q e&&lP t c e:Nat):=by
 unfold under;rw[hP,hQ,ha,hb];dsimp only;rw[Kb hV hM hC hP hQ ha hb,uf (cT q) (lP t c)];omega
theorem C2 {t:Trace} (hS:Small t) {c:Sl Int} (hR:pC t c.l) {p:Nat} {P:aS} {a:Int} (hP:t.procs.l[p]? = some P) (ha:c.l[p]? = some a) (q:Nat) :
 Wp (c7 t c p q) fun s=>s.l.length=(P.events.l.take a.toNat).countP fun e=>cT q e&&lP t c.l e:=by
 have hPl:=(hS.2 P (List.mem_of_getElem? hP)).1;obtain⟨a0,a1⟩:=hR.2 p a P ha hP;unfold c7 c7.W1;refine bY (fun s:Sl Int×Int=>∃n:Nat,s.2=n∧(n:Int)≤a∧s.1.l.length=(P.events.l.take n).countP fun e=>cT q e&&lP t c.l e) (fun s=>a.toNat-s.2.toNat) ⟨0,rfl,by simpa using a0,rfl⟩ ?_
 rintro⟨o,i⟩ ⟨n,hi,hn,ho⟩;simp only at hi ho;subst hi;unfold c7.aj;rw[show idx c (p:Int)=some a from by rw[kd];exact ha,Zc,aD]
 constructor
 ·intro h;have hlt:(n:Int)<a:=by simpa using h
  have hnP:n<P.events.l.length:=by omega
  have hw:=cA n (by omega)
  have hmu:a.toNat-(IntKind.wrap .i64 ((n:Int)+1)).toNat<a.toNat-((n:Int)).toNat:=by rw[hw];simp;omega
  have hcn:=List.countP_le_length (p:=fun e=>cT q e&&lP t c.l e) (l:=P.events.l.take n)
  rw[List.length_take]at hcn;have hnext:(P.events.l.take (n+1)).countP (fun e=>cT q e&&lP t c.l e)=o.l.length+if cT q P.events.l[n]&&lP t c.l P.events.l[n]then 1 else 0:=by
   rw[List.take_add_one,Ze hnP,List.countP_append,ho];show _+List.countP _ [P.events.l[n]]=_;rw[List.countP_cons,List.countP_nil];simp
  rw[show idx t.procs (p:Int)=some P from by rw[kd];exact hP,Zc,aW hnP,Zc]
  generalize P.events.l[n]=e at hnext;have hsk:(ao (e.kind==2) (some (!(e.peer==(q:Int)))) (some true):Option Bool)=some (!cT q e):=by
   unfold cT;cases e.kind==2 <;> cases e.peer==(q:Int) <;> rfl
  rw[hsk,Zc,aD];constructor
  ·intro hs;have hs:cT q e=false:=by simpa using hs
   rw[af];exact⟨⟨n+1,hw,by omega,by rw[hnext,hs];rfl⟩,hmu⟩
  ·intro hs;have hs:cT q e=true:=by simpa using hs
   rw[find_eq hS,Zc];have hc:(ao ((dV t 3 e.message).index==0) (some true) ((idx c (dV t 3 e.message).proc).bind fun x_6=>some (decide ((dV t 3 e.message).index>x_6))):Option Bool)=some (lP t c.l e):=by
    unfold lP;rcases rQ t 3 e.message with⟨h,_⟩|⟨z,z1,_⟩
    ·rw[h];rfl
    ·obtain⟨q',j,⟨Q',hQ',_⟩,hf⟩:=cy.1 z1;simp only at hf;have hql:q'<c.l.length:=by rw[hR.1];exact(Zf.1 hQ').1
     rw[hf];dsimp only;rw[aW hql,Zc,show ((q':Nat):Int).toNat=q' from rfl,Ze hql,fM];rfl
   rw[hc,Zc,aD];constructor
   ·intro hb;unfold gI;rw[if_pos (show o.l.length+1≤2147483648 from by omega),Zc,af]
    exact⟨⟨n+1,hw,by omega,by show (o.l++[_]).length=_;rw[hnext,hs,hb,Zk];rfl⟩,hmu⟩
   ·intro hb;rw[af];exact⟨⟨n+1,hw,by omega,by rw[hnext,hs,hb];rfl⟩,hmu⟩
 ·intro h;have hge:¬(n:Int)<a:=by simpa using h
  refine(af _).2 ((af _).2 ?_);rw[show a.toNat=n from by omega];exact ho
end Go.VE
namespace Go.VE
theorem Cons.at_ {t:Trace} {A:bt 200 aA} {c:List Int} (hC:Cons t A c) {p:Nat} (hp:p<t.procs.l.length):∃P a,t.procs.l[p]? = some P∧c[p]? = some a:=
 ⟨_,_,Ze hp,Ze (by rw[hC.1.1];exact hp)⟩
theorem yx {t:Trace} (hS:Small t) (hV:VT t) {A:bt 200 aA} (hM:g8 t (aU t) A) {c:Sl Int} (hC:Cons t A c.l):Wp (cY t c) fun r=>Table t c.l r.l:=by
 have h8:=hV.few;have hcl:=hC.1.1;unfold cY cY.W1;refine bY (fun s:Sl (Sl Int)×Int=>∃n:Nat,s.2=n∧n≤c.l.length∧s.1.l.length=n∧∀(p:Nat) (r:Sl Int),s.1.l[p]? = some r→r.l.length=t.procs.l.length∧∀(q:Nat) (x:Int),r.l[q]? = some x→x=if p=q then 0 else under t c.l p q) (fun s=>c.l.length-s.2.toNat)
  ⟨0,rfl,Nat.zero_le _,rfl,fun p r h=>by simp[Sl.l]at h⟩ ?_
 rintro⟨out,i⟩ ⟨n,hi,hn,hlen,hrows⟩;simp only at hi hlen hrows;subst hi;unfold cY.aj;rw[aD];constructor
 ·intro h;have hlt:n<c.l.length:=by simpa [len]using h
  have hw:=cA n (by omega)
  obtain⟨P,a,hP,ha⟩:=hC.at_ (p:=n) (by omega)
  unfold pz;rw[if_pos (by simp[len];omega),Zc]
  unfold cY.W2;refine bY (fun s:Int×Sl Int×Int=>∃(m:Nat) (rl:List Int),s.1=n∧s.2.2=m∧m≤c.l.length∧s.2.1=.row rl∧rl.length=t.procs.l.length∧∀(q:Nat) (x:Int),rl[q]? = some x→x=if q<m then(if n=q then 0 else under t c.l n q)else 0) (fun s=>c.l.length-s.2.2.toNat)
   ⟨0,_,rfl,rfl,Nat.zero_le _,rfl,by simp[len,hcl],fun q x hx=>by
    rw[List.getElem?_replicate]at hx;split at hx <;> simp at hx;simp[hx]⟩ ?_
  rintro⟨pp,row,j⟩ ⟨m,rl,hpp,hj,hm,hrow,hrl,hr⟩;simp only at hpp hj hrow;subst hpp hj hrow;unfold cY.aM;rw[aD];constructor
  ·intro h;have hltm:m<c.l.length:=by simpa [len]using h
   have hwm:=cA m (by omega)
   have hmu:c.l.length-(IntKind.wrap .i64 ((m:Int)+1)).toNat<c.l.length-((m:Int)).toNat:=by rw[hwm];simp;omega
   rw[aD];constructor
   ·intro he;have he:m=n:=by
     have:(m:Int)=n:=by simpa using he
     omega
    rw[af];refine⟨⟨m+1,rl,rfl,hwm,by omega,rfl,hrl,fun q x hx => ?_⟩,hmu⟩
    have:=hr q x hx
    by_cases e:q=m
    ·subst e;rw[if_neg (show ¬q<q from by omega)]at this
     rw[this,if_pos (show q<q+1 from by omega),if_pos he.symm]
    ·rw[this]
     by_cases e2:q<m
     ·rw[if_pos e2,if_pos (show q<m+1 from by omega)]
     ·rw[if_neg e2,if_neg (show ¬q<m+1 from by omega)]
   ·intro he;have he:m≠n:=by
     have:¬(m:Int)=n:=by simpa using he
     omega
    obtain⟨Q,b,hQ,hb⟩:=hC.at_ (p:=m) (by omega)
    rw[dW];refine(C2 hS hC.1 hP ha m).mono fun u hu => ?_
    have hun:(len u:Int)=under t c.l n m:=by rw[Al hV hM hC hP hQ ha hb,←hu]
    have hml:m<rl.length:=by omega
    rw[hun,show Sl.lW (Sl.row rl) (m:Int)=some m from by unfold Sl.lW;rw[if_pos ⟨by omega,by simpa [Sl.l]using hml⟩];rfl,Zc]
    rw[show Sl.put (Sl.row rl) m (under t c.l n m)=some (.row (rl.set m (under t c.l n m)))from by unfold Sl.put;rw[if_pos (by simpa [Sl.l]using hml)],Zc,af]
    refine⟨⟨m+1,_,rfl,hwm,by omega,rfl,by rw[List.length_set];exact hrl,fun q x hx => ?_⟩,hmu⟩
    rw[List.getElem?_set]at hx
    by_cases e:m=q
    ·subst e;rw[if_pos rfl,if_pos hml]at hx;cases hx;rw[if_pos (show m<m+1 from by omega),if_neg (Ne.symm he)]
    ·rw[if_neg e]at hx;rw[hr q x hx]
     by_cases e2:q<m
     ·rw[if_pos e2,if_pos (show q<m+1 from by omega)]
     ·rw[if_neg e2,if_neg (show ¬q<m+1 from by omega)]
  ·intro h;have hge:c.l.length≤m:=by simpa [len]using h
   refine(af _).2 ?_;show Wp ((gI out (Sl.row rl)).bind _) _;unfold gI;rw[if_pos (show out.l.length+1≤2147483648 from by omega),Zc,af]
   refine⟨⟨n+1,hw,by omega,by show (out.l++[Sl.row rl]).length=n+1;rw[Zk,hlen];rfl,fun p r hr' => ?_⟩,by show _-(IntKind.wrap .i64 ((n:Int)+1)).toNat<_;rw[hw];simp;omega⟩
   change (out.l++[Sl.row rl])[p]? = some r at hr'
   by_cases hpn:p<out.l.length
   ·rw[List.getElem?_append_left hpn]at hr';exact hrows p r hr'
   ·rw[List.getElem?_append_right (by omega)]at hr'
    have hpn2:p=n:=by
     have:=(Zf.1 hr').1;simp only[List.length_singleton]at this;omega
    subst hpn2;rw[hlen,Nat.sub_self]at hr';simp only[List.getElem?_cons_zero,Za]at hr';subst hr';exact⟨hrl,fun q x hx=>by
     have hql:=(Zf.1 hx).1;have hql:q<rl.length:=hql;have:=hr q x hx;rw[if_pos (show q<m from by omega)]at this
     exact this⟩
 ·intro h;have hge:c.l.length≤n:=by simpa [len]using h
  exact(af _).2 ((af _).2 ⟨show out.l.length=t.procs.l.length from by omega,hrows⟩)
theorem Ql {a b:Sl Int} (h:a.l=b.l) (hl:a.l.length<1073741824):eD a b=some true:=by
 unfold eD;rw[show (len a==len b)=true from by simp[len,h],bU]
 unfold eD.W1;refine Wp.eq (bY (fun s:Int=>∃n:Nat,s=n∧n≤a.l.length) (fun s:Int=>a.l.length-s.toNat) ⟨0,rfl,Nat.zero_le _⟩ ?_)
 rintro s ⟨n,rfl,hn⟩;unfold eD.aj;rw[aD];refine⟨fun h' => ?_,fun _=>(af _).2 ((af _).2 rfl)⟩
 have hlt:n<a.l.length:=by simpa [len]using h'
 have hw:=cA n (by omega)
 rw[kd,kd,←h,Ze hlt,Zc,Zc,beq_self_eq_true,bU,af];exact⟨⟨n+1,hw,by omega⟩,by rw[hw];simp;omega⟩
theorem Qr {t:Trace} {c:List Int} {a b:Sl (Sl Int)} (ha:Table t c a.l) (hb:Table t c b.l) (h8:t.procs.l.length≤8):eB a b=some true:=by
 have hla:=ha.1;have hlb:=hb.1;unfold eB;rw[show (len a==len b)=true from by simp[len];omega,bU]
 unfold eB.W1;refine Wp.eq (bY (fun s:Int=>∃n:Nat,s=n∧n≤a.l.length) (fun s:Int=>a.l.length-s.toNat) ⟨0,rfl,Nat.zero_le _⟩ ?_)
 rintro s ⟨n,rfl,hn⟩;unfold eB.aj;rw[aD];refine⟨fun h' => ?_,fun _=>(af _).2 ((af _).2 rfl)⟩
 have hlt:n<a.l.length:=by simpa [len]using h'
 have hltb:n<b.l.length:=by omega
 have hw:=cA n (by omega)
 obtain⟨a1,a2⟩:=ha.2 n _ (Ze hlt);obtain⟨b1,b2⟩:=hb.2 n _ (Ze hltb);have he:a.l[n].l=b.l[n].l:=by
  apply List.ext_getElem?;intro q
  by_cases hq:q<t.procs.l.length
  ·have h1:=a2 q _ (Ze (by omega))
   have h2:=b2 q _ (Ze (by omega))
   rw[Ze (show q<a.l[n].l.length by omega),Ze (show q<b.l[n].l.length by omega),h1,h2]
  ·rw[List.getElem?_eq_none (by omega),List.getElem?_eq_none (by omega)]
 rw[aW hlt,Zc,aW hltb,Zc,Ql he (by omega),Zc,bU,af]
 exact⟨⟨n+1,hw,by omega⟩,by rw[hw];simp;omega⟩
theorem GO {t:Trace} (hS:Small t) (hV:VT t) {A:bt 200 aA} (hM:g8 t (aU t) A) {c:Sl Int} (hC:Cons t A c.l) :
 Wp (dx t c) fun b=>(b=true↔∀p q:Nat,p<t.procs.l.length→q<t.procs.l.length→p≠q→under t c.l p q=0):=by
 have h8:=hV.few;unfold dx;rw[dW];refine(yx hS hV hM hC).mono fun r hT => ?_
 have hrl:=hT.1;unfold dx.W1;refine bY (fun s:Int=>∃n:Nat,s=n∧n≤r.l.length∧∀p q:Nat,p<n→q<t.procs.l.length→p≠q→under t c.l p q=0) (fun s:Int=>r.l.length-s.toNat) ⟨0,rfl,Nat.zero_le _,fun p q h=>absurd h (by omega)⟩ ?_
 rintro s ⟨n,rfl,hn,hI⟩;unfold dx.aj;rw[aD];constructor
 ·intro h;have hlt:n<r.l.length:=by simpa [len]using h
  have hw:=cA n (by omega)
  have hg:=Ze hlt;have hix:=aW hlt;generalize r.l[n]=row at hg hix;obtain⟨h1,h2⟩:=hT.2 n row hg;unfold dx.W2;refine bY (fun s:Int=>∃m:Nat,s=m∧m≤r.l.length∧∀q:Nat,q<m→n≠q→under t c.l n q=0) (fun s:Int=>r.l.length-s.toNat) ⟨0,rfl,Nat.zero_le _,fun q h=>absurd h (by omega)⟩ ?_
  rintro s ⟨m,rfl,hm,hJ⟩;unfold dx.aM;rw[aD];constructor
  ·intro h;have hltm:m<r.l.length:=by simpa [len]using h
   have hwm:=cA m (by omega)
   have hmr:m<row.l.length:=by omega
   have hx:=h2 m _ (Ze hmr);obtain⟨P,a,hP,ha⟩:=hC.at_ (p:=n) (by omega)
   obtain⟨Q,b,hQ,hb⟩:=hC.at_ (p:=m) (by omega)
   have hu:=Al hV hM hC hP hQ ha hb;rw[hix,Zc,aW hmr,Zc,hx,aD];constructor
   ·intro hg;have hg:(if n=m then 0 else under t c.l n m)>0:=by simpa using hg
    refine(af _).2 ((af _).2 ((af _).2 ⟨fun h=>(by cases h),fun hall => ?_⟩))
    split at hg
    ·omega
    ·rename_i hne;rw[hall n m (by omega) (by omega) hne]at hg;omega
   ·intro hg;have hg:¬(if n=m then 0 else under t c.l n m)>0:=by simpa using hg
    refine(af _).2 ⟨⟨m+1,hwm,by omega,fun q hq hne => ?_⟩,by rw[hwm];simp;omega⟩
    by_cases e:q=m
    ·subst e;rw[if_neg hne]at hg;omega
    ·exact hJ q (by omega) hne
  ·intro h;have hge:r.l.length≤m:=by simpa [len]using h
   refine(af _).2 ((af _).2 ⟨⟨n+1,hw,by omega,fun p q hp hq hne => ?_⟩,by rw[hw];simp;omega⟩)
   by_cases e:p=n
   ·subst e;exact hJ q (by omega) hne
   ·exact hI p q (by omega) hq hne
 ·intro h;have hge:r.l.length≤n:=by simpa [len]using h
  exact(af _).2 ((af _).2 ⟨fun _ p q hp hq hne=>hI p q (by omega) hq hne,fun _=>rfl⟩)
end Go.VE
namespace Go.VE
theorem Fb (q:Int) (e:Event):qS q e = !cT q e:=by
 unfold qS cT;cases e.kind==2 <;> cases e.peer==q <;> rfl
def AG (q:Int) (pos:Event→Int) (f e:Event):Prop:=cT q f=true→cT q e=true→pos e≠0→pos f≠0∧pos f≤pos e
theorem rm {q:Int} {pos:Event→Int}:∀{l:List Event} {last:Int} {missing:Bool},ie q pos l last missing=true↔(∀e∈l,cT q e=true→pos e≠0→missing=false∧last≤pos e)∧l.Pairwise (AG q pos)
 | [],last,missing=>by simp[ie]
 | x::l,last,missing=>by
  unfold ie;rw[Fb,List.pairwise_cons]
  cases hs:cT q x with
  | false=>
   rw[show (!false)=true from rfl,bU,rm (l:=l)];refine⟨fun⟨h1,h2⟩=>⟨fun e he hse => ?_,⟨fun e _ hf=>(by rw[hs]at hf;cases hf),h2⟩⟩,fun⟨h1,_,h2⟩=>⟨fun e he=>h1 e (List.mem_cons_of_mem _ he),h2⟩⟩
   rcases List.mem_cons.1 he with rfl|he
   ·rw[hs]at hse;cases hse
   ·exact h1 e he hse
  | true=>
   rw[show (!true)=false from rfl,eu]
   by_cases h0:pos x=0
   ·rw[show (pos x==0)=true from by simpa using h0,bU,rm (l:=l)]
    constructor
    ·rintro⟨h1,h2⟩;refine⟨fun e he hse hp => ?_,fun e he _ hse hp => ?_,h2⟩
     ·rcases List.mem_cons.1 he with rfl|he
      ·exact absurd h0 hp
      ·have:=(h1 e he hse hp).1;cases this
     ·have:=(h1 e he hse hp).1;cases this
    ·rintro⟨h1,h2,h3⟩;exact⟨fun e he hse hp=>absurd h0 (h2 e he hs hse hp).1,h3⟩
   ·rw[show (pos x==0)=false from by simpa using h0,eu]
    cases missing with
    | true=>
     rw[if_pos rfl,bU];exact⟨fun h=>(by cases h),fun⟨h1,_⟩=>by have:=(h1 x (List.mem_cons_self ..) hs h0).1;cases this⟩
    | false=>
     rw[if_neg (by simp)]
     by_cases hl:pos x<last
     ·rw[show decide (pos x<last)=true from by simpa using hl,bU]
      exact⟨fun h=>(by cases h),fun⟨h1,_⟩=>by have:=(h1 x (List.mem_cons_self ..) hs h0).2;omega⟩
     ·rw[show decide (pos x<last)=false from by simpa using hl,eu,rm (l:=l)]
      constructor
      ·rintro⟨h1,h2⟩;refine⟨fun e he hse hp=>⟨rfl,?_⟩,fun e he _ hse hp=>⟨h0,(h1 e he hse hp).2⟩,h2⟩
       rcases List.mem_cons.1 he with rfl|he
       ·omega
       ·have:=(h1 e he hse hp).2;omega
      ·rintro⟨h1,h2,h3⟩;exact⟨fun e he hse hp=>⟨rfl,(h2 e he hs hse hp).2⟩,h3⟩
def iK (t:Trace) (e:Event):Int:=(dV t 3 e.message).index
theorem Kd {t:Trace} (hV:VT t) {A:bt 200 aA} (hM:g8 t (aU t) A) {p:Nat} {e:Event} {P:aS} (hP:t.procs.l[p]? = some P) (he:e∈P.events.l) (hk:e.kind=2):iK t e=pos2 A e:=by
 obtain⟨k,hke⟩:=List.getElem?_of_mem he;have hm:0≤e.message∧e.message≤199:=by
  rcases hV.formed (⟨p,k+1⟩,e) (cy.2 ⟨p,k,⟨P,hP,hke⟩,rfl⟩)with h|⟨_,_,_,_,h⟩
  ·simp only at h;omega
  ·exact h
 unfold iK pos2;rcases rQ t 3 e.message with⟨h,hn⟩|⟨z,z1,z2,z3⟩
 ·rw[h];rcases hM.to e.message hm.1 hm.2 with h|⟨z,z1,z2,z3⟩
  ·exact h.symm
  ·exact absurd ⟨z2,z3⟩ (hn _ z1)
 ·have:=(hM.rcv _ z1 z2).1;simp only[z3]at this;rw[this]
theorem HX {t:Trace} (hS:Small t) {p:Nat} {P:aS} (hP:t.procs.l[p]? = some P) (q:Nat):Wp (dO t p q) fun b=>(b=true↔P.events.l.Pairwise (AG q (iK t))):=by
 have hPl:=(hS.2 P (List.mem_of_getElem? hP)).1;have hsnd:∀e:Event,cT q e=true↔e.kind=2∧e.peer=q:=fun e=>by simp[cT]
 unfold dO;rw[show idx t.procs (p:Int)=some P from by rw[kd];exact hP,Zc,List.pairwise_iff_getElem]
 unfold dO.W1;refine bY (fun s:Int=>∃n:Nat,s=n∧n≤P.events.l.length∧∀(i j:Nat) (hi:i<P.events.l.length) (hj:j<P.events.l.length),i<j→j<n→AG q (iK t) P.events.l[i] P.events.l[j]) (fun s:Int=>P.events.l.length-s.toNat) ⟨0,rfl,Nat.zero_le _,fun i j _ _ _ h=>absurd h (by omega)⟩ ?_
 rintro s ⟨n,rfl,hn,hI⟩;unfold dO.aj;rw[aD];constructor
 ·intro h;have hlt:n<P.events.l.length:=by simpa [len]using h
  have hw:=cA n (by omega)
  unfold dO.W2;refine bY (fun s:Int=>∃m:Nat,s=m∧m≤n∧∀(i:Nat) (hi:i<P.events.l.length),i<m→AG q (iK t) P.events.l[i] P.events.l[n]) (fun s:Int=>n-s.toNat) ⟨0,rfl,Nat.zero_le _,fun i _ h=>absurd h (by omega)⟩ ?_
  rintro s ⟨m,rfl,hm,hJ⟩;unfold dO.aM;rw[aD];constructor
  ·intro h;have hmn:m<n:=by simpa using h
   have hml:m<P.events.l.length:=by omega
   have hwm:=cA m (by omega)
   have next:AG q (iK t) P.events.l[m] P.events.l[n]→(∃m':Nat,IntKind.wrap .i64 ((m:Int)+1)=m'∧m'≤n∧∀(i:Nat) (hi:i<P.events.l.length),i<m'→AG q (iK t) P.events.l[i] P.events.l[n])∧n-(IntKind.wrap .i64 ((m:Int)+1)).toNat<n-((m:Int)).toNat:=fun hin=>
    ⟨⟨m+1,hwm,by omega,fun i hi him=>by
     by_cases e:i=m
     ·subst e;exact hin
     ·exact hJ i hi (by omega)⟩,by rw[hwm];simp;omega⟩
   rw[aW hlt,aW hml];simp only[Zc];have bad:∀hh:(∀(i j:Nat) (hi:i<P.events.l.length) (hj:j<P.events.l.length),i<j→AG q (iK t) P.events.l[i] P.events.l[j]),AG q (iK t) P.events.l[m] P.events.l[n]:=fun hh=>hh m n hml hlt hmn
   generalize P.events.l[m]=f at *;generalize P.events.l[n]=e at *;have h1:(ao (e.kind==2) (some (!(f.kind==2))) (some true):Option Bool)=some (!(e.kind==2&&f.kind==2)):=by cases e.kind==2 <;> rfl
   rw[h1,Zc,fM,Zc,fM,Zc];have h2:((!(e.kind==2&&f.kind==2) || !(e.peer==(q:Int))) || !(f.peer==(q:Int))) = !(cT q e&&cT q f):=by
    unfold cT;cases e.kind==2 <;> cases f.kind==2 <;> cases e.peer==(q:Int) <;> cases f.peer==(q:Int) <;> rfl
   rw[h2,aD];constructor
   ·intro hsk;refine(af _).2 (next fun hf he => ?_)
    rw[hf,he]at hsk;cases hsk
   ·intro hsk;have hsk:cT q e=true∧cT q f=true:=by simpa using hsk
    rw[find_eq hS,Zc,find_eq hS,Zc];have h3:(ao ((dV t 3 e.message).index==0) (some false) ((ao ((dV t 3 f.message).index==0) (some true) (some (decide ((dV t 3 f.message).index>(dV t 3 e.message).index))):Option Bool).bind fun x_12=>some x_12):Option Bool)=some (!(iK t e==0)&&(iK t f==0||decide (iK t f>iK t e))):=by
     unfold iK;cases (dV t 3 e.message).index==0 <;> cases (dV t 3 f.message).index==0 <;> rfl
    rw[h3,Zc,aD];constructor
    ·intro hb;have hb:¬iK t e=0∧(iK t f=0∨iK t f>iK t e):=by simpa using hb
     refine(af _).2 ((af _).2 ((af _).2 ⟨fun h=>(by cases h),fun hh => ?_⟩))
     have:=bad hh hsk.2 hsk.1 hb.1;omega
    ·intro hb;have hb:¬iK t e=0→¬iK t f=0∧¬iK t f>iK t e:=by simpa using hb
     refine(af _).2 (next fun _ _ hp => ?_)
     have:=hb hp;exact⟨this.1,by omega⟩
  ·intro h;have hge:¬(m:Int)<n:=by simpa using h
   refine(af _).2 ((af _).2 ⟨⟨n+1,hw,by omega,fun i j hi hj hij hjn => ?_⟩,by rw[hw];simp;omega⟩)
   by_cases e:j=n
   ·subst e;exact hJ i hi (by omega)
   ·exact hI i j hi hj hij (by omega)
 ·intro h;have hge:P.events.l.length≤n:=by simpa [len]using h
  exact(af _).2 ((af _).2 ⟨fun _ i j hi hj hij=>hI i j hi hj hij (by omega),fun _=>rfl⟩)
theorem FU (t:Trace) (p q:Int):hU t p q=some (decide (p≥0)&&decide (p<len t.procs)&&decide (q≥0)&&decide (q<len t.procs) && !(p==q)):=by
 unfold hU;simp only[fX,Zc]
theorem G0 {t:Trace} (hS:Small t) (hv:bX t=some true) (hV:VT t) {A:bt 200 aA} (hM:g8 t (aU t) A) {p q:Nat} (hp:p<t.procs.l.length) (hq:q<t.procs.l.length) (hne:p≠q) :
 ∃b,cV t p q=some (b,0)∧dO t p q=some b:=by
 refine⟨_,FC hS hv hp hq hne,?_⟩;obtain⟨b,hb,hb2⟩:=HX hS (Ze hp) q;rw[hb]
 congr 1
 have hc:ie q (pos1 t q) t.procs.l[p].events.l 0 false=ie q (iK t) t.procs.l[p].events.l 0 false:=vF fun e he hk hpe=>by
  rw[pos_eq hV hM hp hq he hk hpe,Kd hV hM (Ze hp) he hk]
 rw[Bool.eq_iff_iff,hb2,hc,rm];refine⟨fun h=>⟨fun e he _ _=>⟨rfl,?_⟩,h⟩,fun h=>h.2⟩
 unfold iK;rcases rQ t 3 e.message with⟨h,_⟩|⟨z,z1,_⟩
 ·rw[h];exact Int.le_refl _
 ·obtain⟨_,j,_,hf⟩:=cy.1 z1;simp only at hf;rw[hf];show (0:Int)≤(j:Int)+1;omega
theorem HD {t:Trace} (hv:bX t=some true) {p q:Int} (h:(decide (p≥0)&&decide (p<len t.procs)&&decide (q≥0)&&decide (q<len t.procs) && !(p==q))=false):cV t p q=some (false,2):=by
 unfold cV eS;rw[hv,Zc,bU];simp only[fM,Zc];rw[show (decide (p<0)||decide (p≥len t.procs)||decide (q<0)||decide (q≥len t.procs)||p==q)=true from by
  rw[←Bool.not_eq_false',←h];simp only[Bool.not_or,Bool.and_eq_false_iff,Bool.not_eq_false',Bool.not_and,Bool.or_eq_true,Bool.not_eq_true',decide_eq_true_eq,decide_eq_false_iff_not,Bool.or_assoc]
  by_cases h1:p<0 <;> by_cases h2:p≥len t.procs <;> by_cases h3:q<0 <;> by_cases h4:q≥len t.procs <;> simp[h1,h2,h3,h4] <;> omega]
 rfl
end Go.VE
namespace Go.VE
theorem w7 {t:Trace} (hS:Small t) (hN:(aU t).length<1073741824) (c:Sl Int) (p q:Int):aZ t c p q=some true:=by
 refine Wp.eq ?_;unfold aZ qj;rw[Zc,bU];obtain⟨n,hn⟩:=(Iq hS).get;obtain⟨v,hv,hrv,hV⟩:=FY hS hN;rw[hn,Zc,fM,Zc,aD];refine⟨fun _=>(af _).2 rfl,fun _ => ?_⟩
 cases v with
 | false=>
  rw[xA hv,Zc,FG hv,Zc,HG hv,Zc,hrv];exact(af _).2 rfl
 | true=>
 have hV:=hV rfl;obtain⟨A,i,hA,hM⟩:=hV.msgs;have h8:=hV.few;obtain⟨r,hr,r1,r2,r3⟩:=wc hS hv hV hM c;obtain⟨e,he,e1,e2,e3⟩:=EB hS hv hV hM c;have her:=r1.one e1;rw[hr,Zc,he,Zc];have hJ2:∀f:Int,Code t A c.l f→f≠0→aZ.J2 c r.1 r.2 e.1 e.2 f t=some true:=fun f hf h0=>by
  have h1:=r1.one hf;have h2:=e1.one hf;unfold aZ.J2;rw[show (f==0)=false from by simpa using h0,eu,r2 (by omega),e2 (by omega),h1,h2]
  simp[len,Sl.l,ao]
 have hJ:aZ.J1 c r.1 r.2 e.1 e.2 t=some true:=by
  unfold aZ.J1
  by_cases hcl:c.l.length=t.procs.l.length
  ·rw[show (len c==len t.procs)=true from by simp[len,hcl],bU]
   obtain⟨b,hb,hb2⟩:=Kq hS hcl;rw[hb,Zc]
   cases b with
   | false=>exact hJ2 2 (.inr (.inl ⟨hcl,fun h=>(by have:=hb2.2 h;cases this),rfl⟩)) (by decide)
   | true=>
    have hR:=hb2.1 rfl;obtain⟨b',hb',hb2'⟩:=G4 hS hrv hV hM hR;rw[bU,hb',Zc]
    cases b' with
    | false=>exact hJ2 18 (.inr (.inr (.inl ⟨hR,fun h=>(by have:=hb2'.2 h;cases this),rfl⟩))) (by decide)
    | true=>
     have hC:Cons t A c.l:=⟨hR,hb2'.1 rfl⟩;have hr0:=r1.zero.2 hC;have he0:=e1.zero.2 hC;rw[bU];unfold aZ.J2;obtain⟨k,hk,hkT⟩:=yx hS hV hM hC;obtain⟨m,hm,hmE⟩:=GO hS hV hM hC;have hbm:e.1=m:=by rw[Bool.eq_iff_iff,e3 he0,hmE]
     rw[show ((0:Int)==0)=true from rfl,bU,hr0,he0,show ((0:Int)==0)=true from rfl,bU,hk,Zc,Qr (r3 hr0) hkT h8,Zc,Zc,bU,Zc,bU,hm,Zc,Zc,hbm,beq_self_eq_true]
  ·rw[show (len c==len t.procs)=false from by simp[len];omega,eu]
   exact hJ2 1 (.inl ⟨hcl,rfl⟩) (by decide)
 rw[hJ]
 cases h2:(decide (p≥0)&&decide (p<len t.procs)&&decide (q≥0)&&decide (q<len t.procs) && !(p==q))with
 | false=>
  rw[HD hv h2,Zc,hrv,Zc,bU,FU,h2,Zc];exact(af _).2 rfl
 | true=>
  rw[FU,h2];simp only[Zj,decide_eq_true_eq,Bool.not_eq_true',beq_eq_false_iff_ne,len]at h2;obtain⟨p',rfl⟩:∃p':Nat,p=p':=⟨p.toNat,by omega⟩
  obtain⟨q',rfl⟩:∃q':Nat,q=q':=⟨q.toNat,by omega⟩
  obtain⟨b,hb,hb2⟩:=G0 hS hv hV hM (p:=p') (q:=q') (by omega) (by omega) (by omega)
  rw[hb,Zc,hrv,Zc,bU,Zc,bU,hb2,Zc];rw[show (b==b)=true from by cases b <;> rfl]
  exact(af _).2 rfl
end Go.VE
namespace Go.VE
instance:bN Assign where
 wt x:=bN.wt x.var+bN.wt x.value+1
 ok x:=bN.ok x.var∧bN.ok x.value∧True
instance:bN Event where
 wt x:=bN.wt x.kind+bN.wt x.peer+bN.wt x.message+bN.wt x.time+bN.wt x.assign+1
 ok x:=bN.ok x.kind∧bN.ok x.peer∧bN.ok x.message∧bN.ok x.time∧bN.ok x.assign∧True
instance:bN Var where
 wt x:=bN.wt x.name+bN.wt x.init_+1
 ok x:=bN.ok x.name∧bN.ok x.init_∧True
instance:bN aS where
 wt x:=bN.wt x.name+bN.wt x.vars+bN.wt x.events+1
 ok x:=bN.ok x.name∧bN.ok x.vars∧bN.ok x.events∧True
instance:bN Trace where
 wt x:=bN.wt x.procs+1
 ok x:=bN.ok x.procs∧True
instance:bN Slice where
 wt x:=bN.wt x.empty+bN.wt x.first+bN.wt x.last+bN.wt x.j+1
 ok x:=bN.ok x.empty∧bN.ok x.first∧bN.ok x.last∧bN.ok x.j∧True
instance:bN az where
 wt x:=bN.wt x.p+bN.wt x.q+bN.wt x.sent+bN.wt x.received+1
 ok x:=bN.ok x.p∧bN.ok x.q∧bN.ok x.sent∧bN.ok x.received∧True
end Go.VE
namespace Go.VE.Ytnfakljmdnbipaa
open Go.Proofs Go.Proofs.Ytnfakljmdnbipaa
instance Wz:Reads Try.prog 9 ByteArray:=Reads.str Try.underlying9 (by kernel_rfl)
instance Wy:Reads Try.prog 3 Int:=Reads.int Try.underlying3 (by kernel_rfl)
instance Wn:Reads Try.prog 117 Var:=by
 refine Reads.st Try.underlying117 (by kernel_rfl) rfl ?_
 intro H enc w base spare held fuel cs l hl h;simp only[List.mapM_cons,List.mapM_nil,Option.pure_def,Option.bind_eq_bind,Zi,Za]at h;obtain⟨x0,h0,ys0,⟨x1,h1,ys1,rfl,rfl⟩,rfl⟩:=h;obtain⟨a0,c0,k0,b0⟩:=Reads.rd (P:=Try.prog) (t:=9) (α:=ByteArray) (d:=x0.1) (ps:=x0.2) h0;rw[show Try.prog.cellsOf 9=1 from by kernel_rfl]at c0
 obtain⟨a1,c1,k1,b1⟩:=Reads.rd (P:=Try.prog) (t:=3) (α:=Int) (d:=x1.1) (ps:=x1.2) h1;rw[show Try.prog.cellsOf 3=1 from by kernel_rfl]at c1
 refine⟨⟨a0,a1⟩,fc.fin (n:=2) (fc.seg (o:=1) (n:=1) (fc.seg (o:=0) (n:=1) (show fc (snap w) [] (cs.take 0)from by simpa using fc.nil) c0) c1) hl,⟨k0,k1,trivial⟩,fun b bo => ?_⟩
 have w0:=b0 b bo;have w1:=b1 b bo;show bN.wt a0+bN.wt a1+1≤_;simp only[List.map_cons,List.map_nil,List.sum_cons,List.sum_nil];omega
instance Wv:Reads Try.prog 34 (Sl Var):=Reads.sl (e:=117) Try.underlying34 (by kernel_rfl) (by decide)
instance Wo:Reads Try.prog 123 Assign:=by
 refine Reads.st Try.underlying123 (by kernel_rfl) rfl ?_
 intro H enc w base spare held fuel cs l hl h;simp only[List.mapM_cons,List.mapM_nil,Option.pure_def,Option.bind_eq_bind,Zi,Za]at h;obtain⟨x0,h0,ys0,⟨x1,h1,ys1,rfl,rfl⟩,rfl⟩:=h;obtain⟨a0,c0,k0,b0⟩:=Reads.rd (P:=Try.prog) (t:=3) (α:=Int) (d:=x0.1) (ps:=x0.2) h0;rw[show Try.prog.cellsOf 3=1 from by kernel_rfl]at c0
 obtain⟨a1,c1,k1,b1⟩:=Reads.rd (P:=Try.prog) (t:=3) (α:=Int) (d:=x1.1) (ps:=x1.2) h1;rw[show Try.prog.cellsOf 3=1 from by kernel_rfl]at c1
 refine⟨⟨a0,a1⟩,fc.fin (n:=2) (fc.seg (o:=1) (n:=1) (fc.seg (o:=0) (n:=1) (show fc (snap w) [] (cs.take 0)from by simpa using fc.nil) c0) c1) hl,⟨k0,k1,trivial⟩,fun b bo => ?_⟩
 have w0:=b0 b bo;have w1:=b1 b bo;show bN.wt a0+bN.wt a1+1≤_;simp only[List.map_cons,List.map_nil,List.sum_cons,List.sum_nil];omega
instance Wu:Reads Try.prog 38 (Sl Assign):=Reads.sl (e:=123) Try.underlying38 (by kernel_rfl) (by decide)
instance Ws:Reads Try.prog 40 Event:=by
 refine Reads.st Try.underlying40 (by kernel_rfl) rfl ?_
 intro H enc w base spare held fuel cs l hl h;simp only[List.mapM_cons,List.mapM_nil,Option.pure_def,Option.bind_eq_bind,Zi,Za]at h;obtain⟨x0,h0,ys0,⟨x1,h1,ys1,⟨x2,h2,ys2,⟨x3,h3,ys3,⟨x4,h4,ys4,rfl,rfl⟩,rfl⟩,rfl⟩,rfl⟩,rfl⟩:=h;obtain⟨a0,c0,k0,b0⟩:=Reads.rd (P:=Try.prog) (t:=3) (α:=Int) (d:=x0.1) (ps:=x0.2) h0;rw[show Try.prog.cellsOf 3=1 from by kernel_rfl]at c0
 obtain⟨a1,c1,k1,b1⟩:=Reads.rd (P:=Try.prog) (t:=3) (α:=Int) (d:=x1.1) (ps:=x1.2) h1;rw[show Try.prog.cellsOf 3=1 from by kernel_rfl]at c1
 obtain⟨a2,c2,k2,b2⟩:=Reads.rd (P:=Try.prog) (t:=3) (α:=Int) (d:=x2.1) (ps:=x2.2) h2;rw[show Try.prog.cellsOf 3=1 from by kernel_rfl]at c2
 obtain⟨a3,c3,k3,b3⟩:=Reads.rd (P:=Try.prog) (t:=3) (α:=Int) (d:=x3.1) (ps:=x3.2) h3;rw[show Try.prog.cellsOf 3=1 from by kernel_rfl]at c3
 obtain⟨a4,c4,k4,b4⟩:=Reads.rd (P:=Try.prog) (t:=38) (α:=(Sl Assign)) (d:=x4.1) (ps:=x4.2) h4;rw[show Try.prog.cellsOf 38=1 from by kernel_rfl]at c4
 refine⟨⟨a0,a1,a2,a3,a4⟩,fc.fin (n:=5) (fc.seg (o:=4) (n:=1) (fc.seg (o:=3) (n:=1) (fc.seg (o:=2) (n:=1) (fc.seg (o:=1) (n:=1) (fc.seg (o:=0) (n:=1) (show fc (snap w) [] (cs.take 0)from by simpa using fc.nil) c0) c1) c2) c3) c4) hl,⟨k0,k1,k2,k3,k4,trivial⟩,fun b bo => ?_⟩
 have w0:=b0 b bo;have w1:=b1 b bo;have w2:=b2 b bo;have w3:=b3 b bo;have w4:=b4 b bo;show bN.wt a0+bN.wt a1+bN.wt a2+bN.wt a3+bN.wt a4+1≤_;simp only[List.map_cons,List.map_nil,List.sum_cons,List.sum_nil];omega
instance Wt:Reads Try.prog 35 (Sl Event):=Reads.sl (e:=40) Try.underlying35 (by kernel_rfl) (by decide)
instance Wr:Reads Try.prog 37 aS:=by
 refine Reads.st Try.underlying37 (by kernel_rfl) rfl ?_
 intro H enc w base spare held fuel cs l hl h;simp only[List.mapM_cons,List.mapM_nil,Option.pure_def,Option.bind_eq_bind,Zi,Za]at h;obtain⟨x0,h0,ys0,⟨x1,h1,ys1,⟨x2,h2,ys2,rfl,rfl⟩,rfl⟩,rfl⟩:=h;obtain⟨a0,c0,k0,b0⟩:=Reads.rd (P:=Try.prog) (t:=9) (α:=ByteArray) (d:=x0.1) (ps:=x0.2) h0;rw[show Try.prog.cellsOf 9=1 from by kernel_rfl]at c0
 obtain⟨a1,c1,k1,b1⟩:=Reads.rd (P:=Try.prog) (t:=34) (α:=(Sl Var)) (d:=x1.1) (ps:=x1.2) h1;rw[show Try.prog.cellsOf 34=1 from by kernel_rfl]at c1
 obtain⟨a2,c2,k2,b2⟩:=Reads.rd (P:=Try.prog) (t:=35) (α:=(Sl Event)) (d:=x2.1) (ps:=x2.2) h2;rw[show Try.prog.cellsOf 35=1 from by kernel_rfl]at c2
 refine⟨⟨a0,a1,a2⟩,fc.fin (n:=3) (fc.seg (o:=2) (n:=1) (fc.seg (o:=1) (n:=1) (fc.seg (o:=0) (n:=1) (show fc (snap w) [] (cs.take 0)from by simpa using fc.nil) c0) c1) c2) hl,⟨k0,k1,k2,trivial⟩,fun b bo => ?_⟩
 have w0:=b0 b bo;have w1:=b1 b bo;have w2:=b2 b bo;show bN.wt a0+bN.wt a1+bN.wt a2+1≤_;simp only[List.map_cons,List.map_nil,List.sum_cons,List.sum_nil];omega
instance Wx:Reads Try.prog 22 (Sl aS):=Reads.sl (e:=37) Try.underlying22 (by kernel_rfl) (by decide)
instance Ww:Reads Try.prog 24 Trace:=by
 refine Reads.st Try.underlying24 (by kernel_rfl) rfl ?_
 intro H enc w base spare held fuel cs l hl h;simp only[List.mapM_cons,List.mapM_nil,Option.pure_def,Option.bind_eq_bind,Zi,Za]at h;obtain⟨x0,h0,ys0,rfl,rfl⟩:=h;obtain⟨a0,c0,k0,b0⟩:=Reads.rd (P:=Try.prog) (t:=22) (α:=(Sl aS)) (d:=x0.1) (ps:=x0.2) h0;rw[show Try.prog.cellsOf 22=1 from by kernel_rfl]at c0
 refine⟨⟨a0⟩,fc.fin (n:=1) (fc.seg (o:=0) (n:=1) (show fc (snap w) [] (cs.take 0)from by simpa using fc.nil) c0) hl,⟨k0,trivial⟩,fun b bo => ?_⟩
 have w0:=b0 b bo;show bN.wt a0+1≤_;simp only[List.map_cons,List.map_nil,List.sum_cons,List.sum_nil];omega
instance Wq:Reads Try.prog 25 (Sl Int):=Reads.sl (e:=3) Try.underlying25 (by kernel_rfl) (by decide)
end Go.VE.Ytnfakljmdnbipaa
namespace Go.VE
theorem xU {α:Type} [bN α] {x:α}:∀{l:List α},x∈l→bN.wt x≤(l.map bN.wt).sum
 | y::l,h=>by
  simp only[List.map_cons,List.sum_cons];rcases List.mem_cons.1 h with rfl|h
  ·omega
  ·have:=xU h;omega
theorem rS {α:Type} [bN α] (h:∀x:α,1≤bN.wt x):∀(l:List α),l.length≤(l.map bN.wt).sum
 | []=>Nat.le_refl _
 | y::l=>by
  simp only[List.map_cons,List.sum_cons,List.length_cons];have:=rS h l;have:=h y;omega
theorem yR {α:Type} [bN α] (s:Sl α):bN.wt s=(s.l.map bN.wt).sum+1:=rfl
theorem vM (p:Int):∀(es:List Event) (j:Int),(ga p j es).length=es.length
 | [],_=>rfl
 | _::es,j=>by simp only[ga,List.length_cons,vM p es]
theorem BU:∀(ps:List aS) (i:Int),(eH i ps).length≤(ps.map bN.wt).sum
 | [],_=>Nat.le_refl _
 | p::ps,i=>by
  simp only[eH,Zk,vM,List.map_cons,List.sum_cons];have h1:=BU ps (i+1);have h2:=rS (α:=Event) (fun x=>Nat.le_add_left ..) p.events.l
  have h3:bN.wt p=bN.wt p.name+bN.wt p.vars+bN.wt p.events+1:=rfl;have h4:=yR p.events;omega
theorem Hl {t:Trace} (h:bN.wt t≤1048576):Small t∧(aU t).length<1073741824:=by
 have h0:bN.wt t=bN.wt t.procs+1:=rfl;have h1:=yR t.procs;have h2:=rS (α:=aS) (fun x=>Nat.le_add_left ..) t.procs.l
 have h3:=BU t.procs.l 0;refine⟨⟨by omega,fun p hp => ?_⟩,by show (eH 0 t.procs.l).length<_;omega⟩
 have h4:=xU hp;have h5:bN.wt p=bN.wt p.name+bN.wt p.vars+bN.wt p.events+1:=rfl;have h6:=yR p.events;have h7:=yR p.vars;have h8:=rS (α:=Event) (fun x=>Nat.le_add_left ..) p.events.l
 have h9:=rS (α:=Var) (fun x=>Nat.le_add_left ..) p.vars.l
 have h10:bN.wt p.name=p.name.size+1:=rfl;refine⟨by omega,by omega,by omega,fun v hv => ?_,fun e he => ?_⟩
 ·have k1:=xU hv;have k2:bN.wt v=bN.wt v.name+bN.wt v.init_+1:=rfl;have k3:bN.wt v.name=v.name.size+1:=rfl;omega
 ·have k1:=xU he;have k2:bN.wt e=bN.wt e.kind+bN.wt e.peer+bN.wt e.message+bN.wt e.time+bN.wt e.assign+1:=rfl;have k3:=yR e.assign;have k4:=rS (α:=Assign) (fun x=>Nat.le_add_left ..) e.assign.l
  omega
end Go.VE
namespace Go.Proofs.Ytnfakljmdnbipaa
open Go.ChangeShapes Go.WideShapes Go.ChangeAt Go.RowKit Go.VE
theorem own:ownKnob Try.prog.godebug=none:=by kernel_rfl
theorem kids:Kids Try.prog (·<Try.prog.types.size):=kids_rows (by kernel_rfl) (by kernel_rfl)
theorem full:∀t e,t<Try.prog.types.size→Try.prog.underlying t=some (.slice e)→0<Try.prog.cellsOf e:=slices_full_of Try.prog (by kernel_rfl)
theorem sr {H:Type}:∀l:List (DataW H),Rows.uptoBulkAll l=(l.map Rows.uptoBulk).sum
 | []=>by simp[Rows.uptoBulkAll]
 | d::r=>by simp[Rows.uptoBulkAll,sr r]
theorem KB {H:Type}:qx (H:=H) Rows.uptoBulk where
 lit l:=by cases l <;> simp[Rows.uptoBulk]
 str s:=by simp[Rows.uptoBulk]
 nil:=by simp[Rows.uptoBulk]
 slice es sp:=by rw[Rows.uptoBulk,sr,sr];omega
 agg ps:=by rw[Rows.uptoBulk,sr];exact Nat.le_refl _
set_option maxRecDepth 100000 in
theorem CW (H:Type) (enc:TypeId×Value→H) (W:World) (base:Nat) (args:Array Value) (ds gs:List (DataW H)) (before:List MemPlace)
 (hval:∀(j:Nat) t v,Try.f4.params[j]? = some t→args[j]? = some v→Value.okWide Try.prog W .any base t v)
 (hW:DataW.Whole enc Try.prog Try.f4.params.toList Rows.channelCountsSpec.vars false W args.toList ds gs before) (hk:Rows.uptoSmall H (ds++gs)=true) :
 Calls Try.prog 4 args W fun e W'=>∃v,e=.returned v∧Rows.channelCountsSpec.post enc Try.prog Try.f4 false true false false W args v W':=by
 have hW':=hW;obtain⟨p,q,hA0,hV,rfl,hfz,hnd⟩:=hW;have hA:DataW.TrodAll enc Try.prog W 0 (fun _=>true) true Try.f4.params.toList args.toList ds p:=hA0
 rw[Try.params4]at hA hval;obtain⟨v0,vs0,d0,ds0,p0,q0,hargs,rfl,rfl,h0,r0⟩:=trodAll_cons hA;obtain⟨v1,vs1,d1,ds1,p1,q1,rfl,rfl,rfl,h1,r1⟩:=trodAll_cons r0;obtain⟨v2,vs2,d2,ds2,p2,q2,rfl,rfl,rfl,h2,r2⟩:=trodAll_cons r1;obtain⟨v3,vs3,d3,ds3,p3,q3,rfl,rfl,rfl,h3,r3⟩:=trodAll_cons r2;obtain⟨rfl,rfl,rfl⟩:=trodAll_nil r3;obtain rfl:args=#[v0,v1,v2,v3]:=by cases args;simp_all
 obtain⟨rfl,rfl⟩:=trodVars_none hV;obtain⟨t,hv,hok,hwt⟩:=Reads.AU (t:=24) (α:=VE.Trace) hval 0 rfl rfl h0;obtain⟨c,hv1,_,_⟩:=Reads.AU (t:=25) (α:=Sl Int) hval 1 rfl rfl h1;obtain⟨p',hv2,_,_⟩:=Reads.AU (t:=3) (α:=Int) hval 2 rfl rfl h2;obtain⟨q',hv3,_,_⟩:=Reads.AU (t:=3) (α:=Int) hval 3 rfl rfl h3;have hb:bN.wt t≤1048576:=by
  have h6:=hwt Rows.uptoBulk KB;have h7:Rows.uptoBulkAll ([d0,d1,d2,d3]++[])≤1048576:=of_decide_eq_true hk;rw[sr]at h7;simp only[List.append_nil,List.map_cons,List.map_nil,List.sum_cons,List.sum_nil]at h7;omega
 obtain⟨hS,hN⟩:=Hl hb;have hc:jQ cL (bq 176) [VE.enc t,VE.enc c,VE.enc p',VE.enc q']=some [.bool true]:=by
  have hl:=qw.h (t,c,p',q');dsimp only at hl;rw[w7 hS hN c p' q']at hl;exact hl _ rfl
 rw[show bq 176=4 from by kernel_rfl]at hc
 have:=DR (P:=Try.prog) Jj Db calls (f:=4) (xs:=[VE.enc t,VE.enc c,VE.enc p',VE.enc q']) (by simp[V.bR,V.bg,jG]) hc (w:=W) (args:=#[v0,v1,v2,v3]) (bS.cons hv (bS.cons hv1 (bS.cons hv2 (bS.cons hv3 .nil))))
 refine this.mono fun e W' ⟨he,hg⟩ => ?_
 subst he;exact⟨_,rfl,E9 kids full (by rw[Try.params4];decide) rfl rfl rfl Try.underlying4 hW' hg⟩
set_option maxRecDepth 100000 in
theorem Gm (os:Os) (started:os.Started) (H:Type) (enc:TypeId×Value→H) (F:Stop.Interp) :
 ReturnsInHanded {} Try.checked os 4 .any ((Rows.OpenSpec.upto Rows.channelCountsSpec).pre6 enc Try.prog Try.f4 Rows.channelCountsUptoRow.domain false) (((Rows.OpenSpec.upto Rows.channelCountsSpec).at F).post enc Try.prog Try.f4 false true false false):=by
 refine returnsInHanded_of_cond (C:=Try.checked) (s:=Rows.OpenSpec.upto Rows.channelCountsSpec) (k:=Rows.uptoSmall) rfl own started (by kernel_rfl) Try.func4
  (OpenSpec.witness (enc:=enc) (C:=Try.checked) (s:=Rows.OpenSpec.upto Rows.channelCountsSpec) (k:=Rows.uptoSmall) rfl false ⟨#[],#[.agg #[.slice none 0 0],.slice none 0 0,.int .i64 0,.int .i64 0],[]⟩ 8 (by kernel_rfl) (by kernel_rfl) (by kernel_rfl)
   (x:=([.agg [.nil],.nil,.lit (.int .i64 0),.lit (.int .i64 0)],[],[])) (by kernel_rfl) rfl (by kernel_rfl)) ?_
 intro W base args ds gs before hval hW _ hk _;exact CW H enc W base args ds gs before hval hW hk
theorem vq:Rows.channelCountsUptoRow.holds Try.pinned (Rows.OpenSpec.upto Rows.channelCountsSpec):=
 OpenClaim.holds_of_cond 4 Try.f4 rfl rfl rfl rfl rfl rfl rfl ⟨rfl,rfl,rfl,rfl,rfl⟩ rfl rfl rfl rfl rfl (by kernel_rfl) Try.func4 (by kernel_rfl)
  (of_decide_eq_true (by kernel_rfl)) (by unfold Func.isWrapper;first|(rw[if_pos (by decide +kernel)];kernel_rfl)|(rw[if_neg (by decide +kernel)];exact⟨rfl,rfl⟩))
  (fun os started H enc _ F=>Gm os started H enc F)
theorem channelCountsProved:Rows.ChannelCountsUptoSaid:=
 vq
#print axioms channelCountsProved
end Go.Proofs.Ytnfakljmdnbipaa
