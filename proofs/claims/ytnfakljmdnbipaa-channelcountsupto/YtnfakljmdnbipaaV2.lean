/-
 The engine, part 2: calls, regions, loops; a run of it is a run of the program.
-/
import Derived.OrdersIn
import Derived.RangeFuncRecord
import Derived.RangeFuncLeaves
import Derived.Laws.StructEq
import Derived.Test.YtnfakljmdnbipaaV1
set_option linter.all false
namespace Go.VE
theorem oC {xs:List V} (h:V.iY xs=true):∀x∈xs,V.closed x=true:=by
 induction xs with
 | nil=>simp
 | cons x r ih=>
  simp only[V.iY,Zj]at h;intro y hy;rcases List.mem_cons.1 hy with rfl|hy
  ·exact h.1
  ·exact ih h.2 y hy
theorem vC {xs:List V} (h:V.cE xs=true):∀x∈xs,V.scalar x=true:=by
 induction xs with
 | nil=>simp
 | cons x r ih=>
  simp only[V.cE,Zj]at h;intro y hy;rcases List.mem_cons.1 hy with rfl|hy
  ·exact h.1
  ·exact ih h.2 y hy
section
variable {I I':bB} {μ:Mu} {H H':an} {w:World}
theorem aK.closed {x:V} {v:Value} (h:aK I μ x v) (hc:x.closed=true):ei I x v:=by
 induction h with
 | c x v h=>exact h
 | hsl id off len cap p hm h1 h2=>simp[V.closed]at hc
 | hsl0 id es off a=>simp[V.closed]at hc
 | hptr id el off p hm=>simp[V.closed]at hc
 | yld id p hm=>simp[V.closed]at hc
 | hmap id p hm=>simp[V.closed]at hc
 | clo f x y u v hx hy _ _ ih1 ih2=>
  simp only[V.closed,Zj]at hc;exact .clo f x y u v hx hy (fun j a b p q=>ih1 j a b p q (oC hc.1 a (List.mem_of_getElem? p))) (fun j a b p q=>ih2 j a b p q (oC hc.2 a (List.mem_of_getElem? p)))
 | agg cs vs hl _ ih=>
  simp only[V.closed]at hc;exact .agg cs vs hl fun j a b p q=>ih j a b p q (oC hc a (List.mem_of_getElem? p))
 | tup cs vs hl _ ih=>
  simp only[V.closed]at hc;exact .tup cs vs hl fun j a b p q=>ih j a b p q (oC hc a (List.mem_of_getElem? p))
theorem ei.scalar {x:V} {v:Value} (h:ei I x v) (hs:x.scalar=true):ei I' x v:=by
 induction h with
 | bool b=>exact .bool b
 | int k n=>exact .int k n
 | str s=>exact .str s
 | dY a=>exact .dY a
 | ay=>exact .ay
 | cq=>exact .cq
 | eT=>exact .eT
 | aO=>exact .aO
 | agg cs vs hl _ ih=>
  simp only[V.scalar]at hs;exact .agg cs vs hl fun j a b p q=>ih j a b p q (vC hs a (List.mem_of_getElem? p))
 | tup cs vs hl _ ih=>
  simp only[V.scalar]at hs;exact .tup cs vs hl fun j a b p q=>ih j a b p q (vC hs a (List.mem_of_getElem? p))
 | _=>simp[V.scalar]at hs
theorem iU {f:V→Option V}:∀{xs ys:List V},jl f xs=some ys→ys.length=xs.length∧∀(j:Nat) y,ys[j]? = some y→∃x,xs[j]? = some x∧f x=some y:=by
 intro xs
 induction xs with
 | nil=>intro ys h;simp only[jl,Za]at h;subst h;simp
 | cons x xs ih=>
  intro ys h;simp only[jl]at h;split at h
  ·rename_i y s hy hs;simp only[Za]at h;subst h;obtain⟨h1,h2⟩:=ih hs;refine⟨by simp[h1],fun j z hz => ?_⟩
   cases j with
   | zero=>simp at hz;subst hz;exact⟨x,rfl,hy⟩
   | succ j=>exact h2 j z (by simpa using hz)
  ·simp at h
theorem Eg {f:V→Option V}:∀{xs ys:List (List V)},oD f xs=some ys→ys.length=xs.length∧∀(j:Nat) y,ys[j]? = some y→∃x,xs[j]? = some x∧jl f x=some y:=by
 intro xs
 induction xs with
 | nil=>intro ys h;simp only[oD,Za]at h;subst h;simp
 | cons x xs ih=>
  intro ys h;simp only[oD]at h;split at h
  ·rename_i y s hy hs;simp only[Za]at h;subst h;obtain⟨h1,h2⟩:=ih hs;refine⟨by simp[h1],fun j z hz => ?_⟩
   cases j with
   | zero=>simp at hz;subst hz;exact⟨x,rfl,hy⟩
   | succ j=>exact h2 j z (by simpa using hz)
  ·simp at h
theorem EF {f:V→Option V}:∀{xs ys:List (V×V)},oK f xs=some ys→ys.length=xs.length∧∀(j:Nat) y,ys[j]? = some y→∃x,xs[j]? = some x∧f x.1=some y.1∧f x.2=some y.2:=by
 intro xs
 induction xs with
 | nil=>intro ys h;simp only[oK,Za]at h;subst h;simp
 | cons x xs ih=>
  intro ys h;obtain⟨k,x⟩:=x;simp only[oK]at h;split at h
  ·rename_i y s hk hy hs;simp only[Za]at h;subst h;obtain⟨h1,h2⟩:=ih hs;refine⟨by simp[h1],fun j z hz => ?_⟩
   cases j with
   | zero=>simp at hz;subst hz;exact⟨(k,x),rfl,hk,hy⟩
   | succ j=>exact h2 j z (by simpa using hz)
  ·simp at h
def Obj.ic:Obj→Option IC
 | .cells c _ _=>some (.cells c)
 | .map es _=>some (.map es)
 | _=>none
def uW (μ:Mu) (H:an) (T:List Nat) (b:Nat):Prop:=∃id p ob,id∈T∧H[id]? = some ob∧ob.live=true∧μ id=some p∧p.b=b
open Classical in
noncomputable def plus (I:bB) (μ:Mu) (H:an) (w:World) (T:List Nat):bB:=fun b=>
 match I b with
 | some x=>some x
 | none=>if uW μ H T b then(w.heap[b]?).bind Obj.ic else none
theorem pZ (I:bB) (μ:Mu) (H:an) (w:World) (T:List Nat):bB.le I (plus I μ H w T):=by
 intro b x h;simp[plus,h]
theorem ve (s:cg I μ H w) (T:List Nat):∀b x,plus I μ H w T b=some x→x.at w b:=by
 intro b x h;unfold plus at h;split at h
 ·rename_i y hy;cases h;exact s.imm b _ hy
 ·split at h
  ·obtain⟨o,ho,hx⟩:=Zi.1 h;cases o <;> simp[Obj.ic]at hx
   ·subst hx;exact⟨_,_,ho⟩
   ·subst hx;exact⟨_,ho⟩
  ·simp at h
theorem zc {T:List Nat} {b:Nat} (h:(plus I μ H w T b).isSome=true):(I b).isSome=true∨uW μ H T b:=by
 unfold plus at h;split at h
 ·rename_i x hx;rw[hx];exact .inl rfl
 ·split at h
  ·rename_i ht;exact .inr ht
  ·simp at h
theorem vP {T:List Nat} {b:Nat} (h:uW μ H T b):fZ μ H b:=by
 obtain⟨id,p,ob,_,h1,h2,h3,h4⟩:=h;exact⟨id,p,ob,h1,h2,h3,h4⟩
theorem wF (s:cg I μ H w) {T:List Nat} {id es:Nat} {xs:List (List V)} (hT:id∈T) (h:(H[id]?).bind Ob.rows=some (es,xs)) :
 ∃p c,μ id=some p∧plus I μ H w T p.b=some (.cells c)∧fA I μ p c es xs:=by
 obtain⟨ob,h1,h2⟩:=Zi.1 h;have hob:=s.obs id ob h1;rcases Cj h2 with rfl|rfl
 ·obtain⟨p,c,el,g1,g2,g3,g4⟩:=hob;refine⟨p,c,g1,?_,g4⟩;have ht:uW μ H T p.b:=⟨id,p,_,hT,h1,rfl,g1,rfl⟩;unfold plus;rw[g2];simp[ht,g3,Obj.ic]
 ·obtain⟨p,c,g1,g2,g4⟩:=hob;exact⟨p,c,g1,pZ _ _ _ _ _ _ _ g2,g4⟩
theorem fA.idx {p:Pl} {c:Array Value} {es:Nat} {xs:List (List V)} (r:fA I μ p c es xs) {i j:Nat} {x:List V} {y:V} {v:Value} (h1:xs[i]? = some x) (h2:x[j]? = some y)
 (h3:c[p.o+i*es+j]? = some v):aK I μ y v:=by
 have hf:=wQ r.o_ h1 h2;refine r.rel.2 (i*es+j) y v hf ?_;have hlt:=(Zf.1 hf).1;rw[fU r.o_]at hlt;rw[List.getElem?_take,if_pos hlt,List.getElem?_drop];rw[←Nat.add_assoc];simpa using h3
theorem iT {f:V→List Nat} {xs:List V} {x:V} {k:Nat} (hx:x∈xs) (hk:k∈f x):k∈dz f xs:=by
 induction xs with
 | nil=>simp at hx
 | cons y r ih=>
  simp only[dz,List.mem_append];rcases List.mem_cons.1 hx with rfl|hx
  ·exact .inl hk
  ·exact .inr (ih hx)
theorem uk (s:cg I μ H w) (T:List Nat):∀(n:Nat) (x y:V) (v:Value),borrow n H x=some y→(∀k∈cB n H x,k∈T)→aK I μ x v →
 ei (plus I μ H w T) y v∧(x.one=true→y.one=true):=by
 intro n
 induction n with
 | zero=>
  intro x y v h _ hv;simp only[borrow]at h;split at h
  ·rename_i hc;simp only[Za]at h;subst h;exact⟨(hv.closed hc).mono (pZ _ _ _ _ _),id⟩
  ·simp at h
 | succ n ih=>
  intro x y v h hT hv;simp only[borrow]at h;split at h
  ·rename_i hc;simp only[Za]at h;subst h;exact⟨(hv.closed hc).mono (pZ _ _ _ _ _),id⟩
  ·rename_i hnc;simp only[cB,if_neg hnc]at hT;split at h
   ·
    rename_i id es off len;split at h
    ·rename_i es' xs hrow;split at h
     ·rename_i hc;obtain⟨rfl,hle⟩:=hc;simp only[hrow]at hT;simp only[Zh]at h;obtain⟨zs,hz,rfl⟩:=h;obtain⟨hzl,hzs⟩:=Eg hz;refine⟨?_,fun _=>rfl⟩
      have hlen:zs.length=len:=by rw[hzl];simp;omega
      rcases hv.lM with⟨p,cap,hm,hp,hcap,hb,rfl⟩|⟨h0,a,rfl⟩
      ·obtain⟨p',c,g1,g2,g3⟩:=wF s (T:=T) (hT id (by simp)) hrow
       rw[hm]at g1;cases g1;have hget:∀i z,zs[i]? = some z→∃x',xs[off+i]? = some x'∧jl (borrow n H) x'=some z:=by
        intro i z hi;obtain⟨x',hx1,hx2⟩:=hzs i z hi;rw[List.getElem?_take,List.getElem?_drop]at hx1;split at hx1
        ·exact⟨x',hx1,hx2⟩
        ·simp at hx1
       have hTx:∀x'∈xs,∀q∈x',∀k∈cB n H q,k∈T:=by
        intro x' hx' q hq k hk;refine hT k ?_;exact List.mem_cons_of_mem _ (iT (List.mem_flatten.2 ⟨x',hx',hq⟩) hk)
       have hrel:ei (plus I μ H w T) (.fsl es' zs) (.slice (some ⟨p.b,p.o+off*es',none⟩) zs.length cap):=by
        refine .fsl es' zs p.b (p.o+off*es') cap c g2 (by omega) ?_ ?_ ?_ ?_
        ·intro z hz';obtain⟨i,hi⟩:=List.mem_iff_getElem?.1 hz';obtain⟨x',hx1,hx2⟩:=hget i z hi;rw[(iU hx2).1];exact g3.o_ x' (List.mem_of_getElem? hx1)
        ·intro z hz' q hq;obtain⟨i,hi⟩:=List.mem_iff_getElem?.1 hz';obtain⟨x',hx1,hx2⟩:=hget i z hi;obtain⟨j,hj⟩:=List.mem_iff_getElem?.1 hq;obtain⟨q0,hq0,hq1⟩:=(iU hx2).2 j q hj;have hx'm:=List.mem_of_getElem? hx1;have hq0m:=List.mem_of_getElem? hq0;have hroom:=g3.room;have hxl:=g3.o_ x' hx'm;have hjl:=(Zf.1 hq0).1;have hil:=(Zf.1 hx1).1;have hmul:(off+i)*es'+es'≤xs.length*es':=by
          have:=Nat.mul_le_mul_right es' (show off+i+1≤xs.length from hil)
          rwa [Nat.add_mul,Nat.one_mul]at this
         have hlt:p.o+(off+i)*es'+j<c.size:=by omega
         have hvr:=g3.idx hx1 hq0 (v:=c[p.o+(off+i)*es'+j]) (by simp[hlt])
         exact(ih q0 q _ hq1 (hTx x' hx'm q0 hq0m) hvr).2 (g3.one x' hx'm q0 hq0m)
        ·have h1:=(g3.span hle).2;rw[hlen];exact h1
        ·intro i j z q u hi hj hu;obtain⟨x',hx1,hx2⟩:=hget i z hi;obtain⟨q0,hq0,hq1⟩:=(iU hx2).2 j q hj;have hvr:=g3.idx hx1 hq0 (v:=u) (by rw[←hu];congr 1;rw[Nat.add_mul];omega)
         exact(ih q0 q u hq1 (hTx x' (List.mem_of_getElem? hx1) q0 (List.mem_of_getElem? hq0)) hvr).1
       rw[hlen]at hrel;subst hp;exact hrel
      ·subst h0;have:zs=[]:=List.eq_nil_of_length_eq_zero hlen;subst this;exact .fsl0 es' _ _
     ·simp at h
    ·simp at h
   ·
    rename_i id el off;split at h
    ·rename_i es' xs hrow;split at h
     ·rename_i cs hcs;split at h
      ·rename_i hle;simp only[hrow]at hT;simp only[Zh]at h;obtain⟨zs,hz,rfl⟩:=h;obtain⟨hzl,hzs⟩:=iU hz;refine⟨?_,fun _=>rfl⟩
       obtain⟨p,hm,rfl⟩:=hv.nU;obtain⟨p',c,g1,g2,g3⟩:=wF s (T:=T) (hT id (by simp)) hrow
       rw[hm]at g1;cases g1;obtain⟨k1,k2,k3⟩:=g3.elem hcs;rw[g3.es_eq];refine .fptr zs p.b _ c g2 ?_ ?_
       ·rw[hzl,List.length_drop];omega
       ·intro j q u hj hu;obtain⟨q0,hq0,hq1⟩:=hzs j q hj;rw[List.getElem?_drop]at hq0;have hvr:=g3.idx hcs hq0 (v:=u) (by rw[←Nat.add_assoc];exact hu)
        refine(ih q0 q u hq1 (fun k hk=>hT k ?_) hvr).1
        exact List.mem_cons_of_mem _ (iT (List.mem_flatten.2 ⟨cs,List.mem_of_getElem? hcs,List.mem_of_getElem? hq0⟩) hk)
      ·simp at h
     ·simp at h
    ·simp at h
   ·
    rename_i id;split at h
    ·rename_i kvs hid;simp only[Zh]at h;obtain⟨zs,hz,rfl⟩:=h;simp only[hid]at hT;obtain⟨hzl,hzs⟩:=EF hz;refine⟨?_,fun _=>rfl⟩
     obtain⟨p,hm,rfl⟩:=hv.wG;obtain⟨p',es,cl,g1,g2,g3,g4⟩:=s.obs id _ hid;rw[hm]at g1;cases g1;have ht:uW μ H T p.b:=⟨id,p,_,hT id (by simp),hid,rfl,hm,rfl⟩
     have hI:plus I μ H w T p.b=some (.map es):=by
      unfold plus;rw[g2];simp[ht,g3,Obj.ic]
     refine .fmap zs p.b es hI (by rw[hzl];exact g4.1) ?_ ?_
     ·intro j q e hj he;obtain⟨q0,h1,h2,h3⟩:=hzs j q hj;refine(ih q0.1 q.1 e.key h2 (fun k hk=>hT k ?_) (g4.2 j q0 e h1 he).1).1
      exact List.mem_cons_of_mem _ (List.mem_append.2 (.inl (iT (List.mem_map.2 ⟨q0,List.mem_of_getElem? h1,rfl⟩) hk)))
     ·intro j q e hj he;obtain⟨q0,h1,h2,h3⟩:=hzs j q hj;refine(ih q0.2 q.2 e.val h3 (fun k hk=>hT k ?_) (g4.2 j q0 e h1 he).2).1
      exact List.mem_cons_of_mem _ (List.mem_append.2 (.inr (iT (List.mem_map.2 ⟨q0,List.mem_of_getElem? h1,rfl⟩) hk)))
    ·simp at h
   ·rename_i f p q;split at h
    ·rename_i p' q' hp hq;simp only[Za]at h;subst h;obtain⟨u1,u2,rfl,r1,r2⟩:=hv.iW;obtain⟨l1,m1⟩:=iU hp;obtain⟨l2,m2⟩:=iU hq;refine⟨.clo f p' q' u1 u2 (by rw[l1];simpa using r1.1) (by rw[l2];simpa using r2.1) ?_ ?_,fun _=>rfl⟩
     ·intro j a b ha hb;obtain⟨a0,ha0,ha1⟩:=m1 j a ha;exact(ih a0 a b ha1 (fun k hk=>hT k (List.mem_append.2 (.inl (iT (List.mem_of_getElem? ha0) hk)))) (r1.2 j a0 b ha0 (by simpa using hb))).1
     ·intro j a b ha hb;obtain⟨a0,ha0,ha1⟩:=m2 j a ha;exact(ih a0 a b ha1 (fun k hk=>hT k (List.mem_append.2 (.inr (iT (List.mem_of_getElem? ha0) hk)))) (r2.2 j a0 b ha0 (by simpa using hb))).1
    ·simp at h
   ·rename_i cs;simp only[Zh]at h;obtain⟨zs,hz,rfl⟩:=h;obtain⟨l1,m1⟩:=iU hz;obtain⟨u1,rfl,r1⟩:=hv.js;refine⟨.agg zs u1 (by rw[l1];simpa using r1.1) ?_,fun h=>by simp[V.one]at h⟩
    intro j a b ha hb;obtain⟨a0,ha0,ha1⟩:=m1 j a ha;exact(ih a0 a b ha1 (fun k hk=>hT k (iT (List.mem_of_getElem? ha0) hk)) (r1.2 j a0 b ha0 (by simpa using hb))).1
   ·rename_i cs;simp only[Zh]at h;obtain⟨zs,hz,rfl⟩:=h;obtain⟨l1,m1⟩:=iU hz;obtain⟨u1,rfl,r1⟩:=hv.lN;refine⟨.tup zs u1 (by rw[l1];simpa using r1.1) ?_,fun h=>by simp[V.one]at h⟩
    intro j a b ha hb;obtain⟨a0,ha0,ha1⟩:=m1 j a ha;exact(ih a0 a b ha1 (fun k hk=>hT k (iT (List.mem_of_getElem? ha0) hk)) (r1.2 j a0 b ha0 (by simpa using hb))).1
   ·simp at h
end
end Go.VE
namespace Go.VE
def fr (ro:Option Nat):Fence:={ fn:=fun _=>True,depth:=none,alive:=false,round:=ro }
def t_ (I:bB) (μ:Mu) (H:an) (w:World) (r:V) (H':an):Ending→World→Prop:=
 fun e w'=>∃u I' μ',e=.returned u∧aK I' μ' r u∧cg I' μ' H' w'∧Step I μ H w I' μ' H' w'
def zC (P:Program) (f:FuncId):Prop:=∃fn,P.funcs[f]? = some fn∧fn.body.isSome=true∧(fn.name == "runtime.NumGoroutine")=false
structure jw (P:Program) (call:dN):Prop where
 fn:∀f args H r H',call (.fn f) args H=some (r,H')→zC P f∧∀I μ w vs,cg I μ H w→bS I μ args vs→CallsIn (fr none) 0 P f vs.toArray w (t_ I μ H w r H')
 yld:∀id args H r H',call (.yld id) args H=some (r,H')→∀I μ w vs p,cg I μ H w→bS I μ args vs→μ id=some p →
  ∃l f tmps assign body,(Instr.yield p.b vs.toArray).run P w=.ok (.round l f tmps assign body) w∧RoundIn (fr none) 0 P l f tmps assign body w (t_ I μ H w r H')
def jO:Ob→Ob
 | .row es xs=>.frz es xs
 | .map _=>.dead
 | o=>o
theorem AL (H:an) (k id:Nat):(o9 H k)[id]? = (H[id]?).map fun ob=>if id=k then jO ob else ob:=by
 unfold o9
 by_cases e:id=k
 ·subst e
  cases h:H[id]? with
  | none=>simp[h]
  | some ob=>
   have hlt:=(Zf.1 h).1;cases ob <;> simp[jO,h,hlt] <;> exact(Zf.1 h).2
 ·have:∀x,(H.set k x)[id]? = H[id]? := fun x=>List.getElem?_set_ne (Ne.symm e)
  have h2:(H[id]?).map (fun ob=>if id=k then jO ob else ob)=H[id]? := by simp[e]
  rw[h2];split <;> simp[this]
theorem vX (o:Ob):jO (jO o)=jO o:=by cases o <;> rfl
theorem f_:∀(T:List Nat) (H:an) (id:Nat),(bT H T)[id]? = (H[id]?).map fun ob=>if id∈T then jO ob else ob:=by
 intro T
 induction T with
 | nil=>intro H id;simp[bT]
 | cons k T ih=>
  intro H id;have:=ih (o9 H k) id;simp only[bT,List.foldl_cons]at this ⊢;rw[this,AL]
  cases h:H[id]? with
  | none=>simp
  | some ob=>
   simp only[Option.map_some,List.mem_cons]
   by_cases e:id=k <;> by_cases e':id∈T <;> simp[e,e',vX] <;> (try subst e) <;> simp_all [vX]
theorem iJ (T:List Nat) (H:an):(bT H T).length=H.length:=by
 induction T generalizing H with
 | nil=>rfl
 | cons k T ih=>
  simp only[bT,List.foldl_cons]at ih ⊢;rw[ih];unfold o9;split <;> simp
section
variable {P:Program} {I I':bB} {μ μ':Mu} {H H':an} {w w':World}
theorem cg.kept (s:cg I μ H w) (hk:∀b,b<w.heap.size→w'.heap[b]? = w.heap[b]?):cg I μ H w' where
 dom:=s.dom
 imm:=fun b x h=>IC.qa (s.imm b x h) (hk b (s.Br h))
 obs:=fun id ob h=>(s.obs id ob h).mono (bB.le_refl _) (Mu.le_refl _) (fun p hp hl=>by
  have ho:fZ μ H p.b:=⟨id,p,ob,h,hl,hp,rfl⟩;exact⟨hk _ (ki s ho),fj s ho⟩) (fun he=>by subst he;exact s.obs id _ h)
 inj:=s.inj
theorem mw (μ:Mu) (b:Nat):¬fZ μ [] b:=by
 rintro⟨id,p,ob,h,_⟩;simp at h
theorem MO {call:dN} (hc:jw P call) {f:FuncId} {args:List V} {y:V} (h:dD call f args H=some y) (s:cg I μ H w) {vs:List Value} (hv:bS I μ args vs) :
 zC P f∧CallsIn (fr none) 0 P f vs.toArray w (t_ I μ H w y (if y.scalar then H else bT H (dz (cB 8 H) args))):=by
 unfold dD at h;split at h
 ·rename_i as has;split at h
  ·rename_i r H1 hcall;split at h
   ·rename_i y' hy;split at h
    ·rename_i hclosed;simp only[Za]at h;subst h;generalize hT:dz (cB 8 H) args=T;obtain⟨hlen,hb⟩:=iU has;have s0:cg (plus I μ H w T) (fun _=>none) [] w:=⟨fun _ _=>rfl,ve s T,by simp,by simp⟩
     have hargs:bS (plus I μ H w T) (fun _=>none) as vs:=by
      refine⟨hlen.trans hv.1,fun j a b h1 h2 => ?_⟩
      obtain⟨x,hx,hxa⟩:=hb j a h1;refine .c _ _ (uk s T 8 x a b hxa (fun k hk => ?_) (hv.2 j x b hx h2)).1
      rw[←hT];exact iT (List.mem_of_getElem? hx) hk
     obtain⟨hf,hcalls⟩:=hc.fn f as [] r H1 hcall;refine⟨hf,(hcalls _ _ w vs s0 hargs).mono ?_⟩;rintro e w' ⟨u,I1,μ1,rfl,hr,s1,st⟩;have hkept:∀b,b<w.heap.size→w'.heap[b]? = w.heap[b]? := fun b hb=>st.frame b hb (mw _ _)
     generalize hT1:cB 8 H1 r=T1;have hy1:=(uk s1 T1 8 r y' u hy (fun k hk=>by rw[←hT1];exact hk) hr).1
     cases hsc:y'.scalar with
     | true=>
      simp only[if_true];exact⟨u,I,μ,rfl,.c _ _ (hy1.scalar hsc),s.kept hkept,⟨bB.le_refl _,Mu.le_refl _,Nat.le_refl _,st.size,fun b hb _=>hkept b hb,fun _ h=>h.elim .inl fun h=>.inr (.inl h),st.os,st.out,st.fz⟩⟩
     | false=>
      simp only[Bool.false_eq_true,if_false]
      let I2:=plus I1 μ1 H1 w' T1
      have hle:bB.le I I2:=bB.le_trans (pZ I μ H w T) (bB.le_trans st.le (pZ _ _ _ _ _));have hterr:∀b,(I2 b).isSome=true→(I b).isSome=true∨uW μ H T b∨w.heap.size≤b:=by
       intro b hb;have h1:(I1 b).isSome=true∨fZ μ1 H1 b:=by
        rcases zc hb with h|h
        ·exact .inl h
        ·exact .inr (vP h)
       rcases st.terr b h1 with h|h|h
       ·rcases zc h with h|h
        ·exact .inl h
        ·exact .inr (.inl h)
       ·exact absurd h (mw _ _)
       ·exact .inr (.inr h)
      have hlive:∀id ob p,H[id]? = some ob→ob.live=true→id∉T→μ id=some p→I2 p.b=none:=by
       intro id ob p h1 h2 h3 h4
       cases hI:I2 p.b with
       | none=>rfl
       | some x=>
        exfalso;have ho:fZ μ H p.b:=⟨id,p,ob,h1,h2,h4,rfl⟩;rcases hterr p.b (by rw[hI];rfl)with h|⟨id',p',ob',g0,g1,g2,g3,g4⟩|h
        ·rw[fj s ho]at h;cases h
        ·have:=s.inj id' id ob' ob p' p g1 h1 g2 h2 g3 h4 g4;subst this;exact h3 g0
        ·have:=ki s ho;omega
      have hget:∀id x,(bT H T)[id]? = some x→∃ob,H[id]? = some ob∧x=(if id∈T then jO ob else ob):=by
       intro id x hx;rw[f_]at hx;obtain⟨ob,h1,h2⟩:=Zh.1 hx;exact⟨ob,h1,h2.symm⟩
      have hlive':∀id x,(bT H T)[id]? = some x→x.live=true→H[id]? = some x∧(id∉T∨∃r,x=.loop r):=by
       intro id x hx hl;obtain⟨ob,h1,h2⟩:=hget id x hx
       by_cases hm:id∈T
       ·rw[if_pos hm]at h2;cases ob <;> simp[jO]at h2 <;> subst h2 <;> simp[Ob.live]at hl;exact⟨h1,.inr ⟨_,rfl⟩⟩
       ·rw[if_neg hm]at h2;subst h2;exact⟨h1,.inl hm⟩
      refine⟨u,I2,μ,rfl,.c _ _ hy1,⟨?_,?_,?_,?_⟩,⟨hle,Mu.le_refl _,by rw[iJ];exact Nat.le_refl _,st.size,fun b hb _=>hkept b hb,?_,st.os,st.out,st.fz⟩⟩
      ·intro id h;rw[iJ]at h;exact s.dom id h
      ·exact ve s1 T1
      ·intro id x hx;obtain⟨ob,h1,h2⟩:=hget id x hx;have hob:=s.obs id ob h1
       by_cases hm:id∈T
       ·rw[if_pos hm]at h2
        cases ob with
        | row es xs=>
         simp only[jO]at h2;subst h2;obtain⟨p,c,g1,g2,g3⟩:=wF s (T:=T) hm (id:=id) (es:=es) (xs:=xs) (by rw[h1];rfl)
         exact⟨p,c,g1,pZ _ _ _ _ _ _ _ (st.le _ _ g2),g3.mono hle (Mu.le_refl _)⟩
        | frz es xs=>
         simp only[jO]at h2;subst h2;exact hob.mono hle (Mu.le_refl _) (fun p _ hl=>by simp[Ob.live]at hl) (fun he=>by cases he)
        | map kvs=>simp only[jO]at h2;subst h2;trivial
        | free=>simp only[jO]at h2;subst h2;exact hob
        | dead=>simp only[jO]at h2;subst h2;trivial
        | loop r=>
         simp only[jO]at h2;subst h2;obtain⟨p,l,g1,g2,g3,g4⟩:=hob;refine⟨p,l,g1,?_,?_,g4.mono hle (Mu.le_refl _)⟩
         ·
          cases hI:I2 p.b with
          | none=>rfl
          | some x=>
           exfalso;have hat:=ve s1 T1 p.b x hI;have hbl:p.b<w.heap.size:=(Array.getElem?_eq_some_iff.1 g3).1;have hh:=hkept p.b hbl;rw[g3]at hh
           cases x with
           | cells c=>obtain⟨_,_,q⟩:=hat;rw[hh]at q;cases q
           | map es=>obtain⟨_,q⟩:=hat;rw[hh]at q;cases q
         ·rw[hkept p.b (Array.getElem?_eq_some_iff.1 g3).1];exact g3
       ·rw[if_neg hm]at h2;subst h2;refine hob.mono hle (Mu.le_refl _) (fun p hp hl=>⟨hkept _ (ki s ⟨id,p,x,h1,hl,hp,rfl⟩),hlive id x p h1 hl hm hp⟩) (fun he=>by subst he;exact hob)
      ·intro id id' o1 o2 p p' h1 h2 l1 l2 m1 m2 hb;exact s.inj id id' o1 o2 p p' (hlive' id o1 h1 l1).1 (hlive' id' o2 h2 l2).1 l1 l2 m1 m2 hb
      ·intro b hb;rcases hb with h|⟨id,p,x,h1,h2,h3,rfl⟩
       ·rcases hterr b h with h|h|h
        ·exact .inl h
        ·exact .inr (.inl (vP h))
        ·exact .inr (.inr h)
       ·exact .inr (.inl ⟨id,p,x,(hlive' id x h1 h2).1,h2,h3,rfl⟩)
    ·simp at h
   ·simp at h
  ·simp at h
 ·simp at h
theorem aK.scalar {x:V} {v:Value} (h:aK I μ x v) (hs:x.scalar=true):aK I' μ' x v:=by
 have key:∀(l:List V) (vs:List Value),(∀x∈l,∀v,aK I μ x v→x.scalar=true→aK I' μ' x v)→V.cE l=true→(∀(j:Nat) a b,l[j]? = some a→vs[j]? = some b→aK I μ a b) →
  ∀(j:Nat) a b,l[j]? = some a→vs[j]? = some b→aK I' μ' a b:=by
  intro l
  induction l with
  | nil=>intro vs _ _ _ j a b h;simp at h
  | cons x l ih=>
   intro vs h1 h2 h3 j a b ha hb;simp only[V.cE,Zj]at h2
   cases j with
   | zero=>
    simp at ha;subst ha;exact h1 _ (by simp) b (h3 0 _ b rfl hb) h2.1
   | succ j=>
    cases vs with
    | nil=>simp at hb
    | cons v vs=>exact ih vs (fun y hy=>h1 y (List.mem_cons_of_mem _ hy)) h2.2 (fun j a b p q=>h3 (j+1) a b (by simpa using p) (by simpa using q)) j a b (by simpa using ha) (by simpa using hb)
 have main:∀(k:Nat) (x:V) (v:Value),SizeOf.sizeOf x<k→aK I μ x v→x.scalar=true→aK I' μ' x v:=by
  intro k
  induction k with
  | zero=>intro x v h;omega
  | succ k ih=>
   intro x v hk h hs
   cases h with
   | c _ _ h=>exact .c _ _ (h.scalar hs)
   | agg cs vs hl h=>
    simp only[V.scalar]at hs;refine .agg cs vs hl (fun j a b ha hb=>key cs vs.toList (fun y hy v hv hs=>ih y v ?_ hv hs) hs (fun j a b p q=>h j a b p (by simpa using q)) j a b ha (by simpa using hb))
    have:=List.sizeOf_lt_of_mem hy;simp at hk;omega
   | tup cs vs hl h=>
    simp only[V.scalar]at hs;refine .tup cs vs hl (fun j a b ha hb=>key cs vs.toList (fun y hy v hv hs=>ih y v ?_ hv hs) hs (fun j a b p q=>h j a b p (by simpa using q)) j a b ha (by simpa using hb))
    have:=List.sizeOf_lt_of_mem hy;simp at hk;omega
   | _=>simp[V.scalar]at hs
 exact main (SizeOf.sizeOf x+1) x v (by omega) h hs
theorem cg.Eo (s:cg I μ H w) {ob:Ob} {p:Pl} (hne:ob≠.free) (hI:I p.b=none) (hn:¬fZ μ H p.b) (hob:nD I (μ.fI H.length p) w H.length ob) :
 cg I (μ.fI H.length p) (H++[ob]) w:=by
 have hk:μ H.length=none:=s.dom _ (Nat.le_refl _);have hget:∀id x,(H++[ob])[id]? = some x→(id≠H.length∧H[id]? = some x)∨(id=H.length∧x=ob):=by
  intro id x h
  by_cases hlt:id<H.length
  ·rw[List.getElem?_append_left hlt]at h;exact .inl ⟨by omega,h⟩
  ·rw[List.getElem?_append_right (by omega)]at h
   have:id-H.length=0:=by have:=(Zf.1 h).1;simpa using this
   rw[this]at h;simp at h;exact .inr ⟨by omega,h.symm⟩
 refine⟨?_,s.imm,?_,?_⟩
 ·intro id h;simp at h;rw[Mu.gf _ _ (by omega)];exact s.dom id (by omega)
 ·intro id x h;rcases hget id x h with⟨e,h⟩|⟨rfl,rfl⟩
  ·refine(s.obs id x h).mono (bB.le_refl _) (Mu.mh hk) (fun q hq hl => ?_) (fun he=>by subst he;rw[Mu.gf _ _ e];exact s.obs id _ h)
   exact⟨rfl,fj s ⟨id,q,x,h,hl,hq,rfl⟩⟩
  ·exact hob
 ·intro id id' o1 o2 q q' h1 h2 l1 l2 m1 m2 hb;rcases hget id o1 h1 with⟨e1,k1⟩|⟨a1,b1⟩ <;> rcases hget id' o2 h2 with⟨e2,k2⟩|⟨a2,b2⟩
  ·rw[Mu.gf _ _ e1]at m1;rw[Mu.gf _ _ e2]at m2;exact s.inj id id' o1 o2 q q' k1 k2 l1 l2 m1 m2 hb
  ·subst a2;rw[Mu.gf _ _ e1]at m1;rw[Mu.fe]at m2;cases m2;exact absurd ⟨id,q,o1,k1,l1,m1,hb⟩ hn
  ·subst a1;rw[Mu.gf _ _ e2]at m2;rw[Mu.fe]at m1;cases m1;exact absurd ⟨id',q',o2,k2,l2,m2,hb.symm⟩ hn
  ·rw[a1,a2]
theorem MZ {call:dN} (hc:jw P call) {f:FuncId} {args:List V} {y:V} (h:jr call f args H=some (y,H')) (s:cg I μ H w) {vs:List Value} (hv:bS I μ args vs) :
 zC P f∧CallsIn (fr none) 0 P f vs.toArray w (t_ I μ H w y H'):=by
 unfold jr at h;split at h
 ·rename_i as has;split at h
  ·rename_i r H1 hcall;generalize hT:dz (cB 8 H) args=T;obtain⟨hlen,hb⟩:=iU has;have s0:cg (plus I μ H w T) (fun _=>none) [] w:=⟨fun _ _=>rfl,ve s T,by simp,by simp⟩
   have hargs:bS (plus I μ H w T) (fun _=>none) as vs:=by
    refine⟨hlen.trans hv.1,fun j a b h1 h2 => ?_⟩
    obtain⟨x,hx,hxa⟩:=hb j a h1;refine .c _ _ (uk s T 8 x a b hxa (fun k hk => ?_) (hv.2 j x b hx h2)).1
    rw[←hT];exact iT (List.mem_of_getElem? hx) hk
   obtain⟨hf,hcalls⟩:=hc.fn f as [] r H1 hcall;refine⟨hf,(hcalls _ _ w vs s0 hargs).mono ?_⟩;rintro e w' ⟨u,I1,μ1,rfl,hr,s1,st⟩;have hkept:∀b,b<w.heap.size→w'.heap[b]? = w.heap[b]? := fun b hb=>st.frame b hb (mw _ _)
   have sk:cg I μ H w':=s.kept hkept;have stk:Step I μ H w I μ H w':=⟨bB.le_refl _,Mu.le_refl _,Nat.le_refl _,st.size,fun b hb _=>hkept b hb,fun _ h=>h.elim .inl fun h=>.inr (.inl h),st.os,st.out,st.fz⟩
   split at h
   ·rename_i hsc;simp only[Za,Zd]at h;obtain⟨rfl,rfl⟩:=h;exact⟨u,I,μ,rfl,hr.scalar hsc,sk,stk⟩
   ·
    have key:∀(id es off len:Nat) (v:V) (ob:Ob) (u:Value),nr H.length H1 id es off len=some (v,ob)→aK I1 μ1 (.hsl id es off len) u →
     ∃p,aK I (μ.fI H.length p) v u∧cg I (μ.fI H.length p) (H++[ob]) w'∧Step I μ H w I (μ.fI H.length p) (H++[ob]) w':=by
     intro id es off len v ob u ha hu;unfold nr at ha;split at ha
     ·rename_i es' xs hrow;split at ha
      ·rename_i hcond;obtain⟨rfl,hall⟩:=hcond;simp only[Za,Zd]at ha;obtain⟨rfl,rfl⟩:=ha;obtain⟨p,c,el,g1,g2,g3,g4⟩:=s1.obs id _ hrow;have hbig:w.heap.size≤p.b:=by
        rcases st.terr p.b (.inr ⟨id,p,_,hrow,rfl,g1,rfl⟩)with h|h|h
        ·obtain⟨x,hx⟩:=Option.isSome_iff_exists.1 h;have:=st.le _ _ hx;rw[g2]at this;cases this
        ·exact absurd h (mw _ _)
        ·exact h
       have hI:I p.b=none:=by
        cases hx:I p.b with
        | none=>rfl
        | some x=>have:=s.Br hx;omega
       have hn:¬fZ μ H p.b:=fun ho=>by have:=ki s ho;omega
       have hrr:fA I (μ.fI H.length p) p c es' xs:=by
        refine⟨g4.es_eq,g4.sz,g4.o_,g4.one,g4.room,g4.rel.1,fun j a b ha hb=>(g4.rel.2 j a b ha hb).scalar ?_⟩
        have hm:=List.mem_of_getElem? ha;rw[List.mem_flatten]at hm;obtain⟨l,hl,hal⟩:=hm;have:=List.all_eq_true.1 hall l hl;exact List.all_eq_true.1 this a hal
       have sa:=sk.Eo (ob:=.row es' xs) (p:=p) (by simp) hI hn ⟨p,c,el,Mu.fe _ _ _,hI,g3,hrr⟩
       refine⟨p,?_,sa,⟨bB.le_refl _,Mu.mh (s.dom _ (Nat.le_refl _)),by simp,st.size,fun b hb _=>hkept b hb,?_,st.os,st.out,st.fz⟩⟩
       ·rcases hu.lM with⟨p',cap,hm,hp',hcc,hbd,ee⟩|⟨h0,ad,ee⟩
        ·rw[g1]at hm;cases hm;rw[ee];subst hp';exact .hsl _ off len cap p (Mu.fe _ _ _) hcc hbd
        ·rw[ee,h0];exact .hsl0 _ _ _ _
       ·rintro b (h|⟨k,q,x,h1,h2,h3,rfl⟩)
        ·exact .inl h
        ·by_cases e:k=H.length
         ·subst e;rw[Mu.fe]at h3;cases h3;exact .inr (.inr hbig)
         ·rw[Mu.gf _ _ e]at h3;have hlt:k<H.length:=by
           have:=(Zf.1 h1).1;simp at this;omega
          rw[List.getElem?_append_left hlt]at h1;exact .inr (.inl ⟨k,q,x,h1,h2,h3,rfl⟩)
      ·simp at ha
     ·simp at ha
    split at h
    ·rename_i id es off len _;simp only[Zh,Zd]at h;obtain⟨⟨v,ob⟩,ha,rfl,rfl⟩:=h;obtain⟨p,k1,k2,k3⟩:=key id es off len v ob u ha hr;exact⟨u,I,_,rfl,k1,k2,k3⟩
    ·rename_i id es off len rest _;split at h
     ·rename_i hrest;simp only[Zh,Zd]at h;obtain⟨⟨v,ob⟩,ha,rfl,rfl⟩:=h;obtain⟨us,rfl,hus⟩:=hr.lN;have hlu:0<us.toList.length:=by have:=hus.1;simp at this ⊢;omega
      obtain⟨u0,ur,hur⟩:∃u0 ur,us.toList=u0::ur:=by
       cases hl:us.toList with
       | nil=>rw[hl]at hlu;simp at hlu
       | cons a b=>exact⟨a,b,rfl⟩
      rw[hur]at hus;obtain⟨p,k1,k2,k3⟩:=key id es off len v ob u0 ha (hus.2 0 _ _ rfl rfl);refine⟨_,I,_,rfl,.tup _ _ ?_ ?_,k2,k3⟩
      ·have:=hus.1;simp at this;have h2:us.toList.length=ur.length+1:=by rw[hur];rfl
       simp at h2 ⊢;omega
      ·intro j a b hj hb;have hb':(u0::ur)[j]? = some b:=by rw[←hur];simpa using hb
       cases j with
       | zero=>simp at hj hb';subst hj;subst hb';exact k1
       | succ j=>
        simp at hj hb';refine(hus.2 (j+1) a b (by simpa using hj) (by simpa using hb')).scalar ?_
        have:∀(l:List V),V.cE l=true→∀x∈l,x.scalar=true:=by
         intro l
         induction l with
         | nil=>intro _ x hx;simp at hx
         | cons y l ih=>
          intro hl x hx;simp only[V.cE,Zj]at hl;rcases List.mem_cons.1 hx with rfl|hx
          ·exact hl.1
          ·exact ih hl.2 x hx
        exact this rest hrest a (List.mem_of_getElem? hj)
     ·simp at h
    ·simp at h
  ·simp at h
 ·simp at h
theorem M8 {E:Env} {call:dN} (hc:jw P call) {f:FuncId} {args:List V} {y:V} (h:e7 E call f args H=some (y,H')) (s:cg I μ H w) {vs:List Value} (hv:bS I μ args vs) :
 zC P f∧CallsIn (fr none) 0 P f vs.toArray w (t_ I μ H w y H'):=by
 unfold e7 at h;split at h
 ·exact MZ hc h s hv
 ·obtain⟨k1,k2⟩:=hc.fn f args H y H' h;exact⟨k1,k2 I μ w vs s hv⟩
end
end Go.VE
namespace Go.VE
def Ob.mp:Ob→Option (List (V×V))
 | .map kvs=>some kvs
 | _=>none
def jV (H H2:an):Prop:=∀id:Nat,(H[id]?).bind Ob.rows=(H2[id]?).bind Ob.rows∧(H[id]?).bind Ob.mp=(H2[id]?).bind Ob.mp
theorem jV.refl (H:an):jV H H:=fun _=>⟨rfl,rfl⟩
theorem jV.symm {H H2:an} (h:jV H H2):jV H2 H:=fun id=>⟨(h id).1.symm,(h id).2.symm⟩
theorem jV.trans {H H2 H3:an} (h:jV H H2) (k:jV H2 H3):jV H H3:=fun id=>⟨(h id).1.trans (k id).1,(h id).2.trans (k id).2⟩
theorem jV.of_eq {H H2:an} (h:H=H2):jV H H2:=by subst h;exact .refl _
theorem CZ {H H2:an} (h:jV H H2):∀n,borrow n H=borrow n H2:=by
 intro n
 induction n with
 | zero=>funext x;rfl
 | succ n ih=>
  funext x
  cases x with
  | hsl id es off len=>simp only[borrow,(h id).1,ih]
  | hptr id el off=>simp only[borrow,(h id).1,ih]
  | hmap id=>
   have:=(h id).2;simp only[borrow,ih];split
   ·rfl
   ·cases h1:H[id]? with
    | none=>
     cases h2:H2[id]? with
     | none=>rfl
     | some o2=>rw[h1,h2]at this;cases o2 <;> simp[Ob.mp]at this <;> rfl
    | some o=>
     cases h2:H2[id]? with
     | none=>rw[h1,h2]at this;cases o <;> simp[Ob.mp]at this <;> rfl
     | some o2=>rw[h1,h2]at this;cases o <;> cases o2 <;> simp[Ob.mp]at this <;> first|rfl|(subst this;rfl)
  | _=>simp only[borrow,ih]
theorem D2 {H H2:an} (h:jV H H2):∀n,cB n H=cB n H2:=by
 intro n
 induction n with
 | zero=>funext x;rfl
 | succ n ih=>
  funext x
  cases x with
  | hsl id es off len=>simp only[cB,(h id).1,ih]
  | hptr id el off=>simp only[cB,(h id).1,ih]
  | hmap id=>
   have:=(h id).2;simp only[cB,ih];split
   ·rfl
   ·cases h1:H[id]? with
    | none=>
     cases h2:H2[id]? with
     | none=>rfl
     | some o2=>rw[h1,h2]at this;cases o2 <;> simp[Ob.mp]at this <;> rfl
    | some o=>
     cases h2:H2[id]? with
     | none=>rw[h1,h2]at this;cases o <;> simp[Ob.mp]at this <;> rfl
     | some o2=>rw[h1,h2]at this;cases o <;> cases o2 <;> simp[Ob.mp]at this <;> first|rfl|(subst this;rfl)
  | _=>simp only[cB,ih]
theorem uJ {H H2:an} (h:jV H H2) (call:dN) (f:FuncId) (args:List V):dD call f args H=dD call f args H2:=by
 unfold dD borrows;rw[CZ h]
theorem A7 {H H2:an} (h:jV H H2) (p:V) (n:Nat):dX H p n=dX H2 p n:=by
 cases p with
 | hptr id el off=>simp only[dX,(h id).1]
 | _=>rfl
theorem D8 {H H2:an} (h:jV H H2) (p:V):jx H p=jx H2 p:=by
 cases p with
 | hmap id=>
  have:=(h id).2;simp only[jx]
  cases h1:H[id]? with
  | none=>
   cases h2:H2[id]? with
   | none=>rfl
   | some o2=>rw[h1,h2]at this;cases o2 <;> simp[Ob.mp]at this <;> rfl
  | some o=>
   cases h2:H2[id]? with
   | none=>rw[h1,h2]at this;cases o <;> simp[Ob.mp]at this <;> rfl
   | some o2=>rw[h1,h2]at this;cases o <;> cases o2 <;> simp[Ob.mp]at this <;> first|rfl|(subst this;rfl)
 | _=>rfl
theorem AH {E:Env} {F:Frame} {H H2:an} (h:jV H H2) (op:Op):dg E F H op=dg E F H2 op:=by
 cases op <;> simp only[dg,A7 h,D8 h]
theorem pg {H H2:an} (h:jV H H2) (T:List Nat):gM H T=gM H2 T:=by
 unfold gM
 congr 1
 funext id
 rw[(h id).1]
theorem ua {H:an} {T:List Nat} (h:gM H T=true) {id:Nat} (hi:id∈T):∃es xs,H[id]? = some (.row es xs)∨H[id]? = some (.frz es xs):=by
 unfold gM at h;rw[List.all_eq_true]at h;have:=h id hi
 cases h1:H[id]? with
 | none=>rw[h1]at this;simp at this
 | some o=>rw[h1]at this;cases o <;> simp[Ob.rows]at this <;> exact⟨_,_,by first|exact .inl rfl|exact .inr rfl⟩
theorem lq {H:an} {b id:Nat}:(H.take b)[id]? = if id<b then H[id]? else none:=by
 rw[List.getElem?_take]
theorem me {H:an} {T:List Nat} {b:Nat} (h:gM (H.take b) T=true):jV (bT H T) H:=by
 intro id;rw[f_]
 by_cases hi:id∈T
 ·obtain⟨es,xs,hx⟩:=ua h hi;rw[lq]at hx
  by_cases hb:id<b
  ·rw[if_pos hb]at hx;rcases hx with hx|hx <;> simp[hx,hi,jO,Ob.rows,Ob.mp]
  ·rw[if_neg hb]at hx;rcases hx with hx|hx <;> cases hx
 ·cases H[id]? <;> simp[hi]
theorem jV.take {H H2:an} (h:jV H H2) (b:Nat):jV (H.take b) (H2.take b):=by
 intro id;rw[lq,lq]
 by_cases hb:id<b
 ·rw[if_pos hb,if_pos hb];exact h id
 ·rw[if_neg hb,if_neg hb];exact⟨rfl,rfl⟩
theorem uN {H:an} {T:List Nat} {b:Nat} (h:gM (H.take b) T=true) {id:Nat} (hi:id∈T):id<b:=by
 obtain⟨es,xs,hx⟩:=ua h hi;rw[lq]at hx
 by_cases hb:id<b
 ·exact hb
 ·rw[if_neg hb]at hx;rcases hx with hx|hx <;> cases hx
theorem xI {H:an} {T:List Nat} {k:Nat} {ob:Ob} (h:k∉T):bT (H.set k ob) T=(bT H T).set k ob:=by
 apply List.ext_getElem?;intro i;rw[f_]
 by_cases e:i=k
 ·subst e
  by_cases hl:i<H.length
  ·rw[List.getElem?_set_self hl,List.getElem?_set_self (by rw[iJ];exact hl)];simp[h]
  ·rw[List.getElem?_eq_none (by simp;omega),List.getElem?_eq_none (by rw[List.length_set,iJ];omega)];rfl
 ·rw[List.getElem?_set_ne (Ne.symm e),List.getElem?_set_ne (Ne.symm e),f_]
theorem CG (H:an) (T T':List Nat):bT (bT H T) T'=bT (bT H T') T:=by
 apply List.ext_getElem?;intro i;simp only[f_]
 cases H[i]? with
 | none=>rfl
 | some o=>by_cases h1:i∈T <;> by_cases h2:i∈T' <;> simp[h1,h2]
theorem DH {H:an} {b:Nat}:∀(n:Nat) (x:V),(∀id∈cB n (H.take b) x,id<b)→cB n H x=cB n (H.take b) x:=by
 intro n
 induction n with
 | zero=>intro x _;rfl
 | succ n ih=>
  have ihL:∀l:List V,(∀id∈dz (cB n (H.take b)) l,id<b)→dz (cB n H) l=dz (cB n (H.take b)) l:=by
   intro l
   induction l with
   | nil=>intro _;rfl
   | cons x r ihr=>
    intro h;simp only[dz,List.mem_append]at h ⊢;rw[ih x fun id hi=>h id (.inl hi),ihr fun id hi=>h id (.inr hi)]
  intro x h;simp only[cB]at h ⊢;split
  ·rfl
  ·rename_i hc;rw[if_neg hc]at h
   cases x with
   | hsl id es off len=>
    simp only at h ⊢;have hb:id<b:=h id (List.mem_cons_self ..);rw[lq,if_pos hb]at h ⊢
    cases hr:(H[id]?).bind Ob.rows with
    | none=>rfl
    | some q=>
     rw[hr]at h;simp only at h ⊢;rw[ihL _ fun i hi=>h i (List.mem_cons_of_mem _ hi)]
   | hptr id el off=>
    simp only at h ⊢;have hb:id<b:=h id (List.mem_cons_self ..);rw[lq,if_pos hb]at h ⊢
    cases hr:(H[id]?).bind Ob.rows with
    | none=>rfl
    | some q=>
     rw[hr]at h;simp only at h ⊢;rw[ihL _ fun i hi=>h i (List.mem_cons_of_mem _ hi)]
   | hmap id=>
    simp only at h ⊢;have hb:id<b:=h id (List.mem_cons_self ..);rw[lq,if_pos hb]at h ⊢;split
    ·rename_i kvs hk;rw[hk]at h;simp only[List.mem_cons,List.mem_append]at h;rw[ihL _ fun i hi=>h i (.inr (.inl hi)),ihL _ fun i hi=>h i (.inr (.inr hi))]
    ·rfl
   | clo f a c=>
    simp only[List.mem_append]at h ⊢;rw[ihL _ fun i hi=>h i (.inl hi),ihL _ fun i hi=>h i (.inr hi)]
   | agg cs=>simp only at h ⊢;exact ihL _ h
   | tup cs=>simp only at h ⊢;exact ihL _ h
   | _=>rfl
theorem rI {H:an} {b n:Nat}:∀(l:List V),(∀id∈dz (cB n (H.take b)) l,id<b)→dz (cB n H) l=dz (cB n (H.take b)) l
 | [],_=>rfl
 | x::r,h=>by
  simp only[dz,List.mem_append]at h ⊢;rw[DH n x fun id hi=>h id (.inl hi),rI r fun id hi=>h id (.inr hi)]
end Go.VE
namespace Go.VE
theorem wU {H:an} {b id:Nat} {ob:Ob} (h:(H.take b)[id]? = some ob):H[id]? = some ob:=by
 rw[List.getElem?_take]at h;split at h
 ·exact h
 ·simp at h
theorem uA {H:an} {b id es:Nat} {xs:List (List V)} (h:((H.take b)[id]?).bind Ob.rows=some (es,xs)):(H[id]?).bind Ob.rows=some (es,xs):=by
 obtain⟨ob,h1,h2⟩:=Zi.1 h;rw[wU h1];exact h2
theorem Bt {H:an} {b:Nat} {p:V} {n:Nat} {cs:List V} (h:dX (H.take b) p n=some cs):dX H p n=some cs:=by
 unfold dX at h ⊢;split at h
 ·exact h
 ·split at h
  ·rename_i hr;simp only[uA hr];exact h
  ·simp at h
 ·simp at h
theorem Ea {H:an} {b:Nat} {m:V} {kvs:List (V×V)} (h:jx (H.take b) m=some kvs):jx H m=some kvs:=by
 unfold jx at h ⊢;split at h
 ·exact h
 ·exact h
 ·split at h
  ·rename_i hr;rw[wU hr];exact h
  ·simp at h
 ·simp at h
theorem tE {E:Env} {F:Frame} {H:an} {b:Nat} {op:Op} {x:V} (h:dg E F (H.take b) op=some x):dg E F H op=some x:=by
 cases op with
 | load t a=>
  simp only[dg]at h ⊢;split at h
  ·rename_i d p hd hp;obtain⟨cs,h1,h2⟩:=Zi.1 h;rw[Bt h1];exact h2
  ·simp at h
 | lookup t m k ok=>
  simp only[dg]at h ⊢;split at h
  ·split at h
   ·rename_i hd hkv;rw[hd,Ea hkv];exact h
   ·simp at h
  ·simp at h
 | _=>simp[dg]at h
theorem jD {f g:V→Option V} (hfg:∀x y,f x=some y→g x=some y):∀{xs ys:List V},jl f xs=some ys→jl g xs=some ys:=by
 intro xs
 induction xs with
 | nil=>intro ys h;exact h
 | cons x xs ih=>
  intro ys h;simp only[jl]at h ⊢;split at h
  ·rename_i y s hy hs;rw[hfg _ _ hy,ih hs];exact h
  ·simp at h
theorem CN {f g:V→Option V} (hfg:∀x y,f x=some y→g x=some y):∀{xs ys:List (List V)},oD f xs=some ys→oD g xs=some ys:=by
 intro xs
 induction xs with
 | nil=>intro ys h;exact h
 | cons x xs ih=>
  intro ys h;simp only[oD]at h ⊢;split at h
  ·rename_i y s hy hs;rw[jD hfg hy,ih hs];exact h
  ·simp at h
theorem C3 {f g:V→Option V} (hfg:∀x y,f x=some y→g x=some y):∀{xs ys:List (V×V)},oK f xs=some ys→oK g xs=some ys:=by
 intro xs
 induction xs with
 | nil=>intro ys h;exact h
 | cons x xs ih=>
  intro ys h;obtain⟨k,x⟩:=x;simp only[oK]at h ⊢;split at h
  ·rename_i y s hk hy hs;rw[hfg _ _ hk,hfg _ _ hy,ih hs];exact h
  ·simp at h
theorem vZ {H:an} {b:Nat}:∀(n:Nat) (x y:V),borrow n (H.take b) x=some y→borrow n H x=some y:=by
 intro n
 induction n with
 | zero=>intro x y h;exact h
 | succ n ih=>
  intro x y h;simp only[borrow]at h ⊢;split at h
  ·rename_i hc;rw[if_pos hc];exact h
  ·rename_i hc;rw[if_neg hc];split at h
   ·split at h
    ·rename_i hr;simp only[uA hr];split at h
     ·rename_i hcond;rw[if_pos hcond];obtain⟨zs,hz,hzy⟩:=Zh.1 h;rw[CN ih hz,←hzy];rfl
     ·simp at h
    ·simp at h
   ·split at h
    ·rename_i hr;simp only[uA hr];split at h
     ·rename_i hcs;split at h
      ·rename_i hle;rw[if_pos hle];obtain⟨zs,hz,hzy⟩:=Zh.1 h;rw[jD ih hz,←hzy];rfl
      ·simp at h
     ·simp at h
    ·simp at h
   ·split at h
    ·rename_i hr;simp only[wU hr];obtain⟨zs,hz,hzy⟩:=Zh.1 h;rw[C3 ih hz,←hzy];rfl
    ·simp at h
   ·split at h
    ·rename_i h1 h2;rw[jD ih h1,jD ih h2];exact h
    ·simp at h
   ·obtain⟨zs,hz,hzy⟩:=Zh.1 h;rw[jD ih hz,←hzy];rfl
   ·obtain⟨zs,hz,hzy⟩:=Zh.1 h;rw[jD ih hz,←hzy];rfl
   ·simp at h
theorem nu {call:dN} {f:FuncId} {args:List V} {H:an} {b:Nat} {y:V} (h:dD call f args (H.take b)=some y):dD call f args H=some y:=by
 unfold dD borrows at h ⊢;split at h
 ·rename_i as has;rw[jD (vZ 8) has];exact h
 ·simp at h
section
variable {P:Program} {E:Env} {I I':bB} {μ μ':Mu} {H H':an} {n:Nat} {F:Frame} {a:Act} {w w':World}
theorem vQ {f:FuncId} (h:zC P f) (args:Array Value):(callFunc f args).run P w=.ok (.enter f args) w:=by
 obtain⟨fn,h1,h2,h3⟩:=h;unfold callFunc;have hb:fn.body.isNone=false:=by cases hb:fn.body <;> simp_all
 simp only[Sem.run_bind,run_program,Result.andThen_ok,h1,h3,hb,Bool.false_eq_true,if_false,Sem.run_pure]
theorem xM {o:Oper} {ro:Option Nat} {K:Act→World→Prop} {Q:Exit→Act→World→Prop} {f:FuncId} {args:Array Value} {r:V}
 (hcall:CallsIn (fr none) 0 P f args w (t_ I μ H w r H')) (hK:∀u I' μ' w',aK I' μ' r u→cg I' μ' H' w'→Step I μ H w I' μ' H' w'→K (a.put o.dst u) w') :
 o.uponIn (fr ro) 0 P a K Q (.ok (.enter f args) w):=by
 rw[Oper.uponIn_enter];refine⟨fun h=>by simp[fr]at h,?_⟩
 have h2:CallsIn (fr ro) 0 P f args w (t_ I μ H w r H'):=hcall;refine h2.mono ?_;rintro e w' ⟨u,I',μ',rfl,h1,h2,h3⟩;exact hK u I' μ' w' h1 h2 h3
theorem HZ (hE:eF P E) {call:dN} (hc:jw P call) {ops:List Oper} {place:Option (Nat×Nat)} {o:Oper} {x:V} (h:dL E call ops place F H o.op=some (x,H'))
 (r:dQ I μ n F a.tmps) (s:cg I μ H w) (ro:Option Nat) {K:Act→World→Prop} {Q:Exit→Act→World→Prop}
 (hK:∀u I' μ' w',aK I' μ' x u→cg I' μ' H' w'→Step I μ H w I' μ' H' w'→K (a.put o.dst u) w'):o.wpIn (fr ro) 0 P a w K Q:=by
 refine⟨fun _ _=>trivial,?_⟩
 have hnd:∀c,o.op≠.defer c:=by
  intro c hc';rw[hc']at h;simp[dL,eG,aN]at h
 show o.uponIn (fr ro) 0 P a K Q ((o.semAt ro a.eval).run P w);rw[Oper.semAt_eq ro a.eval o hnd];have hval:∀v,(execOp a.eval o).run P w=.ok (.value v) w→aK I μ x v→H'=H→o.uponIn (fr ro) 0 P a K Q ((execOp a.eval o).run P w):=by
  intro v e hv hH;rw[e,Oper.uponIn_value];subst hH;exact hK v I μ w hv s (.refl _ _ _ _)
 unfold dL at h;split at h
 ·
  simp only[Zh,Zd]at h;obtain⟨v,hv,rfl,rfl⟩:=h;obtain⟨u,h1,h2⟩:=Jz (w:=w) hE r o hv;exact hval u h1 h2 rfl
 ·
  have hr:dg E F H o.op=some x∧H'=H:=by
   split at h
   ·simp only[Zh,Zd]at h;obtain⟨v,hv,rfl,rfl⟩:=h;exact⟨hv,rfl⟩
   ·split at h
    ·rename_i v hv;simp only[Za,Zd]at h;obtain⟨rfl,rfl⟩:=h;exact⟨tE hv,rfl⟩
    ·split at h
     ·simp only[Zh,Zd]at h;obtain⟨v,hv,rfl,rfl⟩:=h;exact⟨hv,rfl⟩
     ·simp at h
  obtain⟨u,h1,h2⟩:=J9 hE r s o hr.1;exact hval u h1 h2 hr.2
 ·
  split at h
  ·rename_i ob m hal;simp only[Za,Zd]at h;obtain⟨rfl,rfl⟩:=h;obtain⟨obj,p,u,h1,h2⟩:=Ca hE r s o hal;rw[h1,Oper.uponIn_value];obtain⟨g1,g2⟩:=h2.rel _ (s.dom _ (Nat.le_refl _));obtain⟨s1,s2⟩:=s.push h2.b g1 h2.nf;exact hK u _ _ _ g2 s1 s2
  ·rename_i ob m b i hal;split at h
   ·rename_i hfree;simp only[Za,Zd]at h;obtain⟨rfl,rfl⟩:=h;obtain⟨obj,p,u,h1,h2⟩:=Ca hE r s o hal;rw[h1,Oper.uponIn_value];obtain⟨g1,g2⟩:=h2.rel _ (s.obs _ _ hfree);obtain⟨s1,s2⟩:=s.fill hfree h2.b g1 h2.nf;exact hK u _ _ _ g2 s1 s2
   ·simp at h
  ·simp at h
 ·
  have hl:d5 E F H o.op=some (x,H'):=by
   split at h
   ·exact h
   ·split at h
    ·exact h
    ·simp at h
  obtain⟨nx,u,w',μ',h1,h2,h3,h4,h5⟩:=(Ka hE r s o hl).run;rw[h1];rcases h2 with rfl|⟨rfl,rfl⟩
  ·rw[Oper.uponIn_value];exact hK u I μ' w' h3 h4 h5
  ·rw[Oper.uponIn_skip];exact hK _ I μ' w' h3 h4 h5
 ·
  have hcallee:∀c args,gR F o.op=some (c,args)→∃vs:List Value,bS I μ args vs ∧
   (∀f,c=.fn f→zC P f→(execOp a.eval o).run P w=.ok (.enter f vs.toArray) w) ∧
   (∀id,c=.yld id→∃p,μ id=some p∧(execOp a.eval o).run P w=(Instr.yield p.b vs.toArray).run P w):=by
   intro c args hca;obtain⟨dst,op,ty,pos,after,guard⟩:=o
   cases op with
   | call cl=>
    obtain⟨callee,args0,ats⟩:=cl
    cases callee with
    | value f=>
     simp only[gR]at hca;split at hca
     ·rename_i g p q vs hf hvs;simp only[Za,Zd]at hca;obtain⟨rfl,rfl⟩:=hca;obtain⟨u,v,ef,hu,hv⟩:=(cJ r hf).iW;have hargs:=m8 r hvs;refine⟨u.toList++args0.toList.map a.eval++v.toList,(hu.append hargs).append hv,?_,by simp⟩
      intro f' hf' hok;cases hf';simp only[execOp,resolve,Sem.run_bind];rw[ef];simp only[Deferred.ofValue,Sem.run_pure,Result.andThen_ok,invoke,vQ hok]
      congr 2
      apply Array.ext';simp
     ·rename_i id vs hf hvs;simp only[Za,Zd]at hca;obtain⟨rfl,rfl⟩:=hca;obtain⟨p,hm,ef⟩:=(cJ r hf).J8;have hargs:=m8 r hvs;refine⟨args0.toList.map a.eval,hargs,by simp,?_⟩
      intro id' hid';cases hid';refine⟨p,hm,?_⟩;simp only[execOp,resolve,Sem.run_bind];rw[ef];simp only[Deferred.ofValue,Sem.run_pure,Result.andThen_ok,invoke]
      congr 1
      congr 1
      apply Array.ext';simp
     ·simp at hca
    | _=>simp[gR]at hca
   | _=>simp[gR]at hca
  have hiso:∀f args y,gR F o.op=some (.fn f,args)→dD call f args H=some y→x=y→H'=(if y.scalar then H else bT H (dz (cB 8 H) args)) →
   o.uponIn (fr ro) 0 P a K Q ((execOp a.eval o).run P w):=by
   intro f args y h1 h2 h3 h4;obtain⟨vs,g1,g2,_⟩:=hcallee _ _ h1;obtain⟨k1,k2⟩:=MO hc h2 s g1;rw[g2 f rfl k1];subst h3;subst h4;exact xM k2 hK
  have hdir:∀f args,gR F o.op=some (.fn f,args)→e7 E call f args H=some (x,H')→o.uponIn (fr ro) 0 P a K Q ((execOp a.eval o).run P w):=by
   intro f args h1 h2;obtain⟨vs,g1,g2,_⟩:=hcallee _ _ h1;obtain⟨k1,k2⟩:=M8 hc h2 s g1;rw[g2 f rfl k1];exact xM k2 hK
  have hyld:∀id args,gR F o.op=some (.yld id,args)→call (.yld id) args H=some (x,H')→o.uponIn (fr ro) 0 P a K Q ((execOp a.eval o).run P w):=by
   intro id args h1 h2;obtain⟨vs,g1,_,g3⟩:=hcallee _ _ h1;obtain⟨p,hm,e⟩:=g3 id rfl;obtain⟨l,f,tmps,assign,body,k1,k2⟩:=hc.yld id args H x H' h2 I μ w vs p s g1 hm;rw[e,k1,Oper.uponIn_round];refine⟨fun h=>by simp[fr]at h,?_⟩
   have h2:RoundIn (fr ro) 0 P l f tmps assign body w (t_ I μ H w x H'):=k2;refine h2.mono ?_;rintro e w' ⟨u,I',μ',rfl,h1,h2,h3⟩;exact hK u I' μ' w' h1 h2 h3
  split at h
  ·rename_i f args hca;split at h
   ·split at h
    ·exact hdir f args hca h
    ·split at h
     ·exact hdir f args hca h
     ·simp at h
   ·split at h
    ·split at h
     ·rename_i y hy;simp only[Za,Zd]at h;exact hiso f args y hca hy h.1.symm h.2.symm
     ·simp at h
    ·split at h
     ·rename_i y hy;split at h
      ·rename_i hsc;simp only[Za,Zd]at h;refine hiso f args y hca (nu hy) h.1.symm ?_;rw[←h.2,if_pos hsc]
      ·rename_i hsc;split at h
       ·rename_i hro;simp only[Za,Zd]at h;refine hiso f args y hca (nu hy) h.1.symm ?_;rw[←h.2,if_neg hsc,rI _ fun id hi=>uN hro hi]
       ·simp at h
     ·split at h
      ·split at h
       ·rename_i y hy;simp only[Za,Zd]at h;exact hiso f args y hca hy h.1.symm h.2.symm
       ·simp at h
      ·simp at h
  ·rename_i id args hca;split at h
   ·exact hyld id args hca h
   ·split at h
    ·exact hyld id args hca h
    ·simp at h
  ·simp at h
end
end Go.VE
namespace Go.VE
structure gl (B:Nat) (ds:List Deferred) (w:World):Prop where
 all:∀d∈ds,∃r,d.target=.collected r∧B≤r∧w.heap[r]? = some (.deferred (some []))
 apart:ds.Pairwise fun d d'=>∀r,d.target=.collected r→d'.target≠.collected r
section
variable {P:Program} {E:Env} {I I' I'':bB} {μ μ' μ'':Mu} {H H' H'':an} {n B:Nat} {F F':Frame} {a:Act} {w w' w'':World}
theorem oS (s:cg I μ H w) {r:Nat} {c:Option (List Deferred)} (h:w.heap[r]? = some (.deferred c)):¬fZ μ H r:=by
 rintro⟨id,p,ob,h1,h2,h3,rfl⟩;have:=s.obs id ob h1
 cases ob with
 | row es xs=>obtain⟨q,c,el,hq,_,hh,_⟩:=this;rw[h3]at hq;cases hq;rw[h]at hh;cases hh
 | map kvs=>obtain⟨q,c,el,hq,_,hh,_⟩:=this;rw[h3]at hq;cases hq;rw[h]at hh;cases hh
 | loop x=>obtain⟨q,c,hq,_,hh,_⟩:=this;rw[h3]at hq;cases hq;rw[h]at hh;cases hh
 | _=>simp[Ob.live]at h2
theorem gl.step {ds:List Deferred} (h:gl B ds w) (s:cg I μ H w) (st:Step I μ H w I' μ' H' w'):gl B ds w' where
 all:=by
  intro d hd;obtain⟨r,h1,h2,h3⟩:=h.all d hd;refine⟨r,h1,h2,?_⟩;rw[st.frame r (Array.getElem?_eq_some_iff.1 h3).1 (oS s h3)];exact h3
 apart:=h.apart
structure At (B n:Nat) (I0:bB) (μ0:Mu) (H0:an) (w0:World) (F:Frame) (H:an) (ds:List Deferred) (a:Act) (w:World):Prop where
 rel:∃I μ,dQ I μ n F a.tmps∧cg I μ H w∧Step I0 μ0 H0 w0 I μ H w
 defers:a.defers=ds
 marks:gl B ds w
theorem Gb (r:dQ I μ n F a.tmps) (ops:Array Oper) (o:Oper):eZ ops.toList F o=Region.wanted o (yielded ops a.tmps):=by
 unfold eZ Region.wanted
 cases hg:o.guard with
 | none=>rfl
 | some g=>
  obtain⟨j,b⟩:=g;simp only;unfold yielded;have e:ops.toList[j]? = ops[j]? := by simp
  rw[e]
  cases hd:(ops[j]?).bind (·.dst)with
  | none=>simp
  | some d=>
   simp only[Zc];have hr:=r.2 d
   by_cases hlt:d<a.tmps.size
   ·have hget:a.tmps[d]? = some a.tmps[d]:=by simp[hlt]
    have hgd:a.tmps.getD d undef=a.tmps[d]:=by simp[hlt]
    rw[hgd]at hr;rw[hget]
    cases hx:get F d with
    | bool c=>rw[hx]at hr;rw[hr.mJ];cases c <;> cases b <;> rfl
    | _=>
     cases hv:a.tmps[d]with
     | bool c=>rw[hv]at hr;have:=hr.of_bool;rw[hx]at this;cases this
     | _=>rfl
   ·have hget:a.tmps[d]? = none:=Array.getElem?_eq_none (Nat.le_of_not_lt hlt);have hgd:a.tmps.getD d undef=undef:=by simp[hlt]
    rw[hgd]at hr;rw[hget]
    cases hx:get F d with
    | bool c=>rw[hx]at hr;have:=hr.mJ;simp[undef]at this
    | _=>rfl
theorem xX (hE:eF P E) {call:dN} (hc:jw P call) {ops:Array Oper} {place:Option (Nat×Nat)} {o:Oper} (h:eW E call n ops.toList place o F H=some (F',H'))
 (r:dQ I μ n F a.tmps) (s:cg I μ H w) (ro:Option Nat) {K:Act→World→Prop} {Q:Exit→Act→World→Prop}
 (hK:∀a' I' μ' w',dQ I' μ' n F' a'.tmps→a'.defers=a.defers→cg I' μ' H' w'→Step I μ H w I' μ' H' w'→K a' w') :
 if Region.wanted o (yielded ops a.tmps)then o.wpIn (fr ro) 0 P a w K Q else(∀f,o.about P w a.eval=some f→(fr ro).fn f)∧K (a.put o.dst undef) w:=by
 unfold eW at h;rw[←Gb r];have hdef:∀v,(a.put o.dst v).defers=a.defers:=fun v=>by cases o.dst <;> rfl
 split at h
 ·rename_i hw;rw[if_pos hw];split at h
  ·rename_i x H2 hdo;simp only[Zh,Zd]at h;obtain⟨F2,hp,rfl,rfl⟩:=h;refine HZ hE hc hdo r s ro (fun u I' μ' w' hx hs hst => ?_)
   exact hK _ I' μ' w' ((r.mono hst.le hst.mu).put hx hp) (hdef u) hs hst
  ·simp at h
 ·rename_i hw;rw[if_neg hw];simp only[Zh,Zd]at h;obtain⟨F2,hp,rfl,rfl⟩:=h;exact⟨fun _ _=>trivial,hK _ I μ w (r.put (.undef I μ) hp) (hdef _) s (.refl _ _ _ _)⟩
theorem Gu (hE:eF P E) {call:dN} (hc:jw P call) {ops:Array Oper} (ro:Option Nat) {Q:Exit→Act→World→Prop}:∀(rest:List Oper) (k:Nat) (I:bB) (μ:Mu) (F:Frame) (H:an) (a:Act) (w:World),
 (∀j,rest[j]? = ops[k+j]?)→i_ E call n ops.toList rest F H=some (F',H')→dQ I μ n F a.tmps→cg I μ H w →
 (∀a' I' μ' w',dQ I' μ' n F' a'.tmps→a'.defers=a.defers→cg I' μ' H' w'→Step I μ H w I' μ' H' w'→Q .normal a' w') →
 wpOpsIn (fr ro) 0 P ops Q (List.range' k rest.length) a w:=by
 intro rest
 induction rest with
 | nil=>
  intro k I μ F H a w _ h r s hQ;simp only[i_,Za,Zd]at h;obtain⟨rfl,rfl⟩:=h;exact hQ a I μ w r rfl s (.refl _ _ _ _)
 | cons o rest ih=>
  intro k I μ F H a w hidx h r s hQ;simp only[i_]at h;split at h
  ·rename_i F1 H1 hstep;have h0:ops[k]? = some o:=by simpa using (hidx 0).symm
   simp only[List.length_cons,List.range'_succ,wpOpsIn,h0];refine xX hE hc hstep r s ro (fun a' I' μ' w' hr hd hs hst => ?_)
   refine ih (k+1) I' μ' F1 H1 a' w' (fun j=>by have:=hidx (j+1);simpa [Nat.add_assoc,Nat.add_comm 1 j]using this) h hr hs ?_
   intro a2 I2 μ2 w2 hr2 hd2 hs2 hst2;exact hQ a2 I2 μ2 w2 hr2 (hd2.trans hd) hs2 (Step.trans hs hst hst2)
  ·simp at h
end
end Go.VE
namespace Go.VE
def ny (F F':Frame) (op:Op):Prop:=∀x∈op.operands,ev F x=ev F' x
theorem o5 {F F':Frame}:∀{l:List Operand},(∀x∈l,ev F x=ev F' x)→fP F l=fP F' l:=by
 intro l
 induction l with
 | nil=>intro _;rfl
 | cons x l ih=>
  intro h;simp only[fP];rw[h x (by simp),ih (fun y hy=>h y (List.mem_cons_of_mem _ hy))]
theorem tO {F F':Frame}:∀{l:List (Nat×Operand)},(∀x∈l,ev F x.2=ev F' x.2)→jm F l=jm F' l:=by
 intro l
 induction l with
 | nil=>intro _;rfl
 | cons x l ih=>
  intro h;obtain⟨i,x⟩:=x;simp only[jm];rw[h (i,x) (by simp),ih (fun y hy=>h y (List.mem_cons_of_mem _ hy))]
theorem rH {F F':Frame} {o:Option Operand} (h:∀x∈o.toArray,ev F x=ev F' x):gQ F o=gQ F' o:=by
 cases o with
 | none=>rfl
 | some x=>simp only[gQ];rw[h x (by simp)]
theorem zi {E:Env} {F F':Frame} {op:Op} (h:ny F F' op):aN E F op=aN E F' op:=by
 cases op with
 | move x=>exact h x (by simp[Op.operands])
 | assign x=>exact h x (by simp[Op.operands])
 | pick c a b=>
  simp only[aN];rw[h c (by simp[Op.operands]),h a (by simp[Op.operands]),h b (by simp[Op.operands])]
 | nilCheck x=>simp only[aN];rw[h x (by simp[Op.operands])]
 | binOp op t x y yt=>simp only[aN];rw[h x (by simp[Op.operands]),h y (by simp[Op.operands])]
 | unOp op t x=>simp only[aN];rw[h x (by simp[Op.operands])]
 | convert s d x=>simp only[aN];rw[h x (by simp[Op.operands])]
 | fieldAddr s x f=>simp only[aN];rw[h x (by simp[Op.operands])]
 | field s x f=>simp only[aN];rw[h x (by simp[Op.operands])]
 | indexAddr t x i=>simp only[aN];rw[h x (by simp[Op.operands]),h i (by simp[Op.operands])]
 | index t x i=>simp only[aN];rw[h x (by simp[Op.operands]),h i (by simp[Op.operands])]
 | slice t x lo hi mx=>
  simp only[aN];rw[h x (by simp[Op.operands]),rH (o:=lo) (fun y hy=>h y (by simp[Op.operands]at hy ⊢;simp[hy])),rH (o:=hi) (fun y hy=>h y (by simp[Op.operands]at hy ⊢;simp[hy])),
   rH (o:=mx) (fun y hy=>h y (by simp[Op.operands]at hy ⊢;simp[hy]))]
 | build t ps=>
  simp only[aN];rw[tO (l:=ps.toList) (fun x hx=>h x.2 (by simp only[Op.operands,List.mem_toArray,List.mem_map];exact⟨x,hx,rfl⟩))]
 | makeFunc f a b=>
  cases f with
  | func f=>
   simp only[aN];rw[o5 (l:=a.toList) (fun x hx=>h x (by simp only[Op.operands,Array.mem_append];left;simpa using hx)),o5 (l:=b.toList) (fun x hx=>h x (by simp only[Op.operands,Array.mem_append];right;simpa using hx))]
  | _=>rfl
 | extract x i=>simp only[aN];rw[h x (by simp[Op.operands])]
 | call c=>
  obtain⟨callee,args,ats⟩:=c
  cases callee with
  | builtin b=>
   simp only[aN];rw[o5 (l:=args.toList) (fun x hx=>h x (by simp only[Op.operands,Call.operands,Array.mem_append];right;simpa using hx))]
  | _=>rfl
 | _=>rfl
theorem rP {E:Env} {F F':Frame} {H:an} {op:Op} (h:ny F F' op):dg E F H op=dg E F' H op:=by
 cases op with
 | load t x=>simp only[dg];rw[h x (by simp[Op.operands])]
 | lookup t m k ok=>simp only[dg];rw[h m (by simp[Op.operands]),h k (by simp[Op.operands])]
 | _=>rfl
theorem yB {E:Env} {F F':Frame} {op:Op} (h:ny F F' op):ez E F op=ez E F' op:=by
 cases op with
 | alloc t=>rfl
 | box t x=>simp only[ez];rw[h x (by simp[Op.operands])]
 | makeSlice t l c=>simp only[ez];rw[h l (by simp[Op.operands]),h c (by simp[Op.operands])]
 | buildSlice t len ps=>
  simp only[ez];rw[tO (l:=ps.toList) (fun x hx=>h x.2 (by simp only[Op.operands,List.mem_toArray,List.mem_map];exact⟨x,hx,rfl⟩))]
 | makeMap t r=>cases r <;> rfl
 | _=>rfl
theorem zo {E:Env} {F F':Frame} {H:an} {op:Op} (h:ny F F' op):d5 E F H op=d5 E F' H op:=by
 cases op with
 | store t p x=>simp only[d5];rw[h p (by simp[Op.operands]),h x (by simp[Op.operands])]
 | mapUpdate t m k x=>simp only[d5];rw[h m (by simp[Op.operands]),h k (by simp[Op.operands]),h x (by simp[Op.operands])]
 | call c=>
  obtain⟨callee,args,ats⟩:=c
  cases callee with
  | builtin b=>
   cases b with
   | append=>
    simp only[d5];rw[o5 (l:=args.toList) (fun x hx=>h x (by simp only[Op.operands,Call.operands,Array.mem_append];right;simpa using hx))]
   | _=>rfl
  | _=>rfl
 | _=>rfl
theorem ze {F F':Frame} {op:Op} (h:ny F F' op):gR F op=gR F' op:=by
 cases op with
 | call c=>
  obtain⟨callee,args,ats⟩:=c
  cases callee with
  | value f=>
   simp only[gR];rw[h f (by simp[Op.operands,Call.operands]),o5 (l:=args.toList) (fun x hx=>h x (by simp only[Op.operands,Call.operands,Array.mem_append];right;simpa using hx))]
  | _=>rfl
 | _=>rfl
theorem yE {E:Env} {call:dN} {ops:List Oper} {place:Option (Nat×Nat)} {F F':Frame} {H:an} {op:Op} (h:ny F F' op) (hf:∀b i,place=some (b,i)→oa ops i F=oa ops i F'):dL E call ops place F H op=dL E call ops place F' H op:=by
 unfold dL;rw[zi h,yB h,zo h,ze h,rP (H:=H) h];split <;> (try rfl)
 ·split <;> (try rfl)
  rw[rP h]
 ·split <;> (try rfl)
  rename_i i;rw[hf _ i rfl]
section
variable {E:Env} {call:dN} {n:Nat} {ops:List Oper} {base:Nat}
theorem Et {o:Oper} {t:Nat} (h:.tmp t∈o.op.operands):t∈nE o ops:=by
 unfold nE;refine List.mem_append.2 (.inl (List.mem_filterMap.2 ⟨.tmp t,by simpa using h,rfl⟩))
theorem z0 {F F':Frame} {o:Oper} {dst:Option Nat} {v:V} (hp:g9 n F dst v=some F') (h:∀d,dst=some d→d∉nE o ops):ny F' F o.op:=by
 intro x hx
 cases x with
 | tmp t=>
  cases dst with
  | none=>simp only[g9,Za]at hp;subst hp;rfl
  | some d=>
   simp only[g9]at hp;split at hp
   ·simp only[Za]at hp;subst hp;have hne:d≠t:=fun e=>h d rfl (by rw[e];exact Et hx)
    simp only[ev];rw[lF _ _ hne]
   ·simp at hp
 | const v=>rfl
 | func f=>rfl
 | global g=>rfl
theorem vT {F F':Frame} {o:Oper} {dst:Option Nat} {v:V} (hp:g9 n F dst v=some F') (h:∀d,dst=some d→d∉nE o ops):eZ ops F' o=eZ ops F o:=by
 unfold eZ
 cases hg:o.guard with
 | none=>rfl
 | some g=>
  obtain⟨j,b⟩:=g;simp only
  cases hd:(ops[j]?).bind (·.dst)with
  | none=>rfl
  | some t=>
   simp only
   cases dst with
   | none=>simp only[g9,Za]at hp;subst hp;rfl
   | some d=>
    simp only[g9]at hp;split at hp
    ·simp only[Za]at hp;subst hp;have hne:d≠t:=fun e=>h d rfl (by
      rw[e];unfold nE;refine List.mem_append.2 (.inr ?_);rw[hg];simp only[hd,Option.toList_some,List.mem_singleton])
     rw[lF _ _ hne]
    ·simp at hp
theorem Gp {F F1 F2:Frame} {d d':Option Nat} {u v:V} (h1:g9 n F d u=some F1) (h2:g9 n F1 d' v=some F2) (hne:∀x,d=some x→d'≠some x) :
 ∃F1',g9 n F d' v=some F1'∧g9 n F1' d u=some F2:=by
 cases d with
 | none=>
  simp only[g9,Za]at h1;subst h1;exact⟨F2,h2,rfl⟩
 | some x=>
  cases d' with
  | none=>
   simp only[g9,Za]at h2;subst h2;exact⟨F,rfl,h1⟩
  | some y=>
   simp only[g9]at h1 h2 ⊢;split at h1
   ·rename_i hx;split at h2
    ·rename_i hy;simp only[Za]at h1 h2;subst h1;subst h2;have:x≠y:=fun e=>hne x rfl (by rw[e])
     exact⟨set F y v,by rw[if_pos hy],by rw[if_pos hx,CD _ _ _ (Ne.symm this)]⟩
    ·simp at h2
   ·simp at h1
theorem vA {i k:Nat} {oi ok:Oper} (h:eJ ops i=true) (hi:ops[i]? = some oi) (hk:ops[k]? = some ok) (hne:k≠i):eG ok.op=.pure∨(if k<i then before ops i k else before ops k i)=true:=by
 unfold eJ at h;rw[hi]at h;simp only[List.all_eq_true,List.mem_range]at h;have hlt:=(Zf.1 hk).1;have:=h k hlt;rw[hk]at this;simp only[Bool.or_eq_true,beq_iff_eq]at this;rcases this with (h|h)|h
 ·exact absurd h hne
 ·exact .inl h
 ·exact .inr h
theorem oH {i:Nat} {F:Frame} {H H':an} {op:Op} {v:V} (h:dL E call ops (some (base,i)) F H op=some (v,H')) (hnl:eJ ops i=false) (hcl:eG op≠.loud) :
 (H'=H∧∀H2:an,jV (H2.take base) (H.take base)→dL E call ops (some (base,i)) F H2 op=some (v,H2)) ∨
 (∃ob,H[base+i]? = some .free∧H'=H.set (base+i) ob∧∀H2:an,H2[base+i]? = some .free→dL E call ops (some (base,i)) F H2 op=some (v,H2.set (base+i) ob)) ∨
 (∃T,gM (H.take base) T=true∧H'=bT H T∧∀H2:an,jV (H2.take base) (H.take base)→dL E call ops (some (base,i)) F H2 op=some (v,bT H2 T)):=by
 unfold dL at h;split at h
 ·rename_i hcl;simp only[Zh,Zd]at h;obtain⟨x,hx,rfl,rfl⟩:=h;refine .inl ⟨rfl,fun H2 _ => ?_⟩
  unfold dL;rw[hcl];simp[hx]
 ·rename_i hcl;simp only at h;split at h
  ·rename_i x hx;simp only[Za,Zd]at h;obtain⟨rfl,rfl⟩:=h;refine .inl ⟨rfl,fun H2 h2 => ?_⟩
   unfold dL;rw[hcl];simp only[AH h2,hx]
  ·rw[hnl]at h;simp at h
 ·rename_i hcl;split at h
  ·rename_i heq;simp at heq
  ·rename_i ob m b' i' hal heq;simp only[Za,Zd]at heq;obtain⟨rfl,rfl⟩:=heq;split at h
   ·rename_i hfree;simp only[Za,Zd]at h;obtain⟨rfl,rfl⟩:=h;refine .inr (.inl ⟨ob,hfree,rfl,fun H2 h2 => ?_⟩)
    unfold dL;rw[hcl];simp only[hal,h2]
   ·simp at h
  ·simp at h
 ·rename_i hl;exact absurd hl hcl
 ·rename_i hcl;split at h
  ·rename_i f args hca;split at h
   ·simp only at h;rw[hnl]at h;simp at h
   ·rename_i hkeep;simp only at h;split at h
    ·rename_i y hy;split at h
     ·rename_i hcond;simp only[Za,Zd]at h;obtain⟨rfl,rfl⟩:=h;refine .inl ⟨rfl,fun H2 h2 => ?_⟩
      unfold dL;rw[hcl];simp only[hca];rw[if_neg hkeep];simp only[uJ h2,hy,hcond,if_true]
     ·rename_i hcond;split at h
      ·rename_i hro;simp only[Za,Zd]at h;obtain⟨rfl,rfl⟩:=h;refine .inr (.inr ⟨_,hro,rfl,fun H2 h2 => ?_⟩)
       unfold dL;rw[hcl];simp only[hca];rw[if_neg hkeep];simp only[uJ h2,hy,D2 h2,pg h2,hro,if_true];rw[if_neg hcond]
      ·simp at h
    ·rw[hnl]at h;simp at h
  ·simp only at h;rw[hnl]at h;simp at h
  ·simp at h
theorem zT {i:Nat}:∀{r l:List Nat},wZ ops i r=some l→∀k∈r,∃a,A2 ops i k=some a∧∀s∈a,s∈l
 | [],l,h,k,hk=>by simp at hk
 | q::r,l,h,k,hk=>by
  simp only[wZ]at h;split at h
  ·rename_i a b h1 h2;simp only[Za]at h;subst h;rcases List.mem_cons.1 hk with rfl|hk
   ·exact⟨a,h1,fun s hs=>List.mem_append_left _ hs⟩
   ·obtain⟨a',g1,g2⟩:=zT h2 k hk;exact⟨a',g1,fun s hs=>List.mem_append_right _ (g2 s hs)⟩
  ·simp at h
theorem Co {i:Nat}:∀{r l:List Nat},wZ ops i r=some l→∀s∈l,s∉qz ops
 | [],l,h,s,hs=>by simp only[wZ,Za]at h;subst h;simp at hs
 | q::r,l,h,s,hs=>by
  simp only[wZ]at h;split at h
  ·rename_i a b h1 h2;simp only[Za]at h;subst h;rcases List.mem_append.1 hs with hs|hs
   ·unfold A2 at h1;split at h1
    ·split at h1
     ·simp only[Za]at h1;subst h1;simp at hs
     ·split at h1
      ·split at h1
       ·simp at h1
       ·rename_i hc;simp only[Za]at h1;subst h1;simp only[List.mem_singleton]at hs;subst hs;simpa using hc
      ·simp at h1
    ·simp only[Za]at h1;subst h1;simp at hs
   ·exact Co h2 s hs
  ·simp at h
theorem Aj {i a:Nat} {l:List Nat} {oi:Oper} (hi:ops[i]? = some oi) (h:xe ops i=some (a,l)):(∃t x,oi.op=.store t (.tmp a) x)∧a∉qz ops∧(∀s∈l,s∉qz ops) ∧
 ∀k ok,ops[k]? = some ok→k≠i→eG ok.op=.pure∨(if k<i then before ops i k else before ops k i)=true∨∃t' a',ok.op=.load t' (.tmp a')∧a'∈l:=by
 unfold xe at h;rw[hi]at h;simp only[Option.map_some]at h;split at h
 ·rename_i t a0 x heq;simp only[Za]at heq;split at h
  ·simp at h
  ·rename_i hc;obtain⟨l0,hl,e⟩:=Zh.1 h;simp only[Zd]at e;obtain⟨rfl,rfl⟩:=e;refine⟨⟨t,x,heq⟩,by simpa using hc,Co hl,fun k ok hk hne => ?_⟩
   obtain⟨b,h1,h2⟩:=zT hl k (List.mem_range.2 (Zf.1 hk).1);unfold A2 at h1;rw[hk]at h1;simp only at h1;split at h1
   ·rename_i hcond;simp only[Bool.or_eq_true,beq_iff_eq]at hcond;rcases hcond with (hcond|hcond)|hcond
    ·exact absurd hcond hne
    ·exact .inl hcond
    ·exact .inr (.inl hcond)
   ·split at h1
    ·rename_i t' a' hop;split at h1
     ·simp at h1
     ·simp only[Za]at h1;subst h1;exact .inr (.inr ⟨t',a',hop,h2 a' (by simp)⟩)
    ·simp at h1
 ·simp at h
theorem G1 {F F':Frame} {dst:Option Nat} {v:V} {s:Nat} (hp:g9 n F dst v=some F') (h:∀d,dst=some d→s≠d):get F' s=get F s:=by
 unfold g9 at hp;split at hp
 ·simp only[Za]at hp;rw[hp]
 ·rename_i d;split at hp
  ·simp only[Za]at hp;subst hp;exact lF _ _ (Ne.symm (h d rfl))
  ·simp at hp
theorem HF {k d:Nat} {ok:Oper} (hk:ops[k]? = some ok) (hd:ok.dst=some d):d∈qz ops:=
 List.mem_filterMap.2 ⟨ok,List.mem_of_getElem? hk,hd⟩
theorem z_ {F F':Frame} {k i:Nat} {ok oi:Oper} {v:V} (hk:ops[k]? = some ok) (hi:ops[i]? = some oi) (hp:g9 n F ok.dst v=some F'):oa ops i F'=oa ops i F:=by
 unfold oa
 cases hf:xe ops i with
 | none=>rfl
 | some al=>
  obtain⟨a,l⟩:=al;obtain⟨_,h2,h3,_⟩:=Aj hi hf;have hg:∀s,s∉qz ops→get F' s=get F s:=fun s hs=>G1 hp fun d hd e=>hs (e▸HF hk hd)
  simp only;rw[hg a h2];split
  ·rw[Bool.eq_iff_iff];simp only[List.all_eq_true];exact⟨fun h s hs=>by rw[←hg s (h3 s hs)];exact h s hs,fun h s hs=>by rw[hg s (h3 s hs)];exact h s hs⟩
  ·rfl
theorem C1 {F:Frame} {H H':an} {t:TypeId} {a:Nat} {x:Operand} {id el off:Nat} {u:V} (ha:get F a=.hptr id el off) (h:d5 E F H (.store t (.tmp a) x)=some (u,H')):∃r,H'=H.set id r:=by
 simp only[d5,ev,ha]at h;split at h
 ·rename_i h1 h2 h3;simp only[Za,V.hptr.injEq]at h2;obtain⟨rfl,rfl,rfl⟩:=h2;split at h
  ·split at h
   ·split at h
    ·simp only[Za,Zd]at h;exact⟨_,h.2.symm⟩
    ·simp at h
   ·simp at h
  ·simp at h
 ·simp at h
theorem En {F:Frame} {H:an} {t:TypeId} {a id b:Nat} {r:Ob} (ha:oT id (get F a)=true):dg E F ((H.set id r).take b) (.load t (.tmp a))=dg E F (H.take b) (.load t (.tmp a)):=by
 have:∀m,dX ((H.set id r).take b) (get F a) m=dX (H.take b) (get F a) m:=fun m=>by
  unfold oT at ha;split at ha
  ·rename_i id' el off hg;rw[hg];simp only[dX];have hne:id≠id':=fun e=>by simp[e]at ha
   have:((H.set id r).take b)[id']? = (H.take b)[id']? := by
    rw[List.getElem?_take,List.getElem?_take,List.getElem?_set_ne hne]
   rw[this]
  ·rename_i cs hg;rw[hg];rfl
  ·simp at ha
 unfold dg;simp only[ev]
 cases E.tt t with
 | none=>rfl
 | some d=>simp only[this]
theorem BL {k i:Nat} {ok oi:Oper} (hk:ops[k]? = some ok) (hi:ops[i]? = some oi) (hne:k≠i) (hb:(if k<i then before ops i k else before ops k i)=false) (lk:eJ ops k=false) (pk:eG ok.op≠.pure) (hl:eG oi.op=.loud) (li:eJ ops i=false)
 {F:Frame} {H0 H1 H2 Hs Hs':an} {u v:V} (hs:dL E call ops (some (base,i)) F Hs oi.op=some (u,Hs')) (hld:dL E call ops (some (base,k)) F H0 ok.op=some (v,H1)) :
 H1=H0∧∃id,(∀(H:an) (r:Ob),dg E F ((H.set id r).take base) ok.op=dg E F (H.take base) ok.op)∧(∃r,Hs'=Hs.set id r)∧eG ok.op=.read∧dg E F (H0.take base) ok.op=some v:=by
 unfold dL at hs;rw[hl]at hs;simp only[li,Bool.false_or]at hs;split at hs
 ·rename_i hf;unfold oa at hf;split at hf
  ·rename_i a l hfs;split at hf
   ·rename_i id el off hg;obtain⟨⟨t,x,hop⟩,h2,h3,h4⟩:=Aj hi hfs;rcases h4 k ok hk hne with h|h|⟨t',a',hlo,hmem⟩
    ·exact absurd h pk
    ·rw[hb]at h;cases h
    ·have hap:oT id (get F a')=true:=List.all_eq_true.1 hf a' hmem;rw[hop]at hs;obtain⟨r,hr⟩:=C1 hg hs;unfold dL at hld;rw[hlo]at hld;simp only[eG]at hld;split at hld
     ·rename_i v' hv;simp only[Za,Zd]at hld;obtain⟨rfl,rfl⟩:=hld;refine⟨rfl,id,fun H r=>by rw[hlo];exact En hap,⟨r,hr⟩,by rw[hlo];rfl,by rw[hlo];exact hv⟩
     ·rw[lk]at hld;simp at hld
   ·simp at hf
  ·simp at hf
 ·simp at hs
theorem xL {place:Option (Nat×Nat)} {F:Frame} {H H':an} {op:Op} {v:V} (hcl:eG op=.pure) (h:dL E call ops place F H op=some (v,H')) :
 H'=H∧∀H2:an,dL E call ops place F H2 op=some (v,H2):=by
 unfold dL at h;rw[hcl]at h;simp only[Zh,Zd]at h;obtain⟨x,hx,rfl,rfl⟩:=h;refine⟨rfl,fun H2 => ?_⟩
 unfold dL;rw[hcl];simp[hx]
theorem take_set_of_le {H:an} {b k:Nat} {x:Ob} (h:b≤k):(H.set k x).take b=H.take b:=List.take_set_of_le h
theorem apart_spec {a b:Oper} (h:rT ops a b=true):(∀d,a.dst=some d→d∉nE b ops∧b.dst≠some d)∧(∀d,b.dst=some d→d∉nE a ops):=by
 unfold rT at h;simp only[Zj]at h;obtain⟨h1,h2⟩:=h;refine⟨fun d hd => ?_,fun d hd => ?_⟩
 ·rw[hd]at h1;simpa using h1
 ·rw[hd]at h2;simpa using h2
theorem swap {k i:Nat} {ok oi:Oper} (hk:ops[k]? = some ok) (hi:ops[i]? = some oi) (hki:k<i) (hne:before ops i k=false) (hap:rT ops ok oi=true) {F F1 F2:Frame} {H H1 H2:an}
 (h1:eW E call n ops (some (base,k)) ok F H=some (F1,H1)) (h2:eW E call n ops (some (base,i)) oi F1 H1=some (F2,H2)) :
 ∃F1' H1',eW E call n ops (some (base,i)) oi F H=some (F1',H1')∧eW E call n ops (some (base,k)) ok F1' H1'=some (F2,H2):=by
 obtain⟨a1,a2⟩:=apart_spec hap;have hput1:∃v,g9 n F ok.dst v=some F1∧((eZ ops F ok=true∧dL E call ops (some (base,k)) F H ok.op=some (v,H1))∨(eZ ops F ok=false∧v=.undef∧H1=H)):=by
  unfold eW at h1;split at h1
  ·rename_i hw;split at h1
   ·rename_i v H' hd;simp only[Zh,Zd]at h1;obtain⟨Fx,hp,rfl,rfl⟩:=h1;exact⟨v,hp,.inl ⟨hw,hd⟩⟩
   ·simp at h1
  ·rename_i hw;simp only[Zh,Zd]at h1;obtain⟨Fx,hp,rfl,rfl⟩:=h1;exact⟨_,hp,.inr ⟨by simpa using hw,rfl,rfl⟩⟩
 have hput2:∃v,g9 n F1 oi.dst v=some F2∧((eZ ops F1 oi=true∧dL E call ops (some (base,i)) F1 H1 oi.op=some (v,H2))∨(eZ ops F1 oi=false∧v=.undef∧H2=H1)):=by
  unfold eW at h2;split at h2
  ·rename_i hw;split at h2
   ·rename_i v H' hd;simp only[Zh,Zd]at h2;obtain⟨Fx,hp,rfl,rfl⟩:=h2;exact⟨v,hp,.inl ⟨hw,hd⟩⟩
   ·simp at h2
  ·rename_i hw;simp only[Zh,Zd]at h2;obtain⟨Fx,hp,rfl,rfl⟩:=h2;exact⟨_,hp,.inr ⟨by simpa using hw,rfl,rfl⟩⟩
 obtain⟨v,hp1,hd1⟩:=hput1;obtain⟨u,hp2,hd2⟩:=hput2;have hw2:eZ ops F1 oi=eZ ops F oi:=vT hp1 fun d hd=>(a1 d hd).1
 have hs2:ny F1 F oi.op:=z0 hp1 fun d hd=>(a1 d hd).1
 have hf2:∀(b j:Nat),(some (base,i):Option (Nat×Nat))=some (b,j)→oa ops j F1=oa ops j F:=fun b j e=>by cases e;exact z_ hk hi hp1
 rw[hw2,yE hs2 hf2]at hd2;obtain⟨F1',hq1,hq2⟩:=Gp hp1 hp2 fun x hx=>(a1 x hx).2
 have hw1:eZ ops F1' ok=eZ ops F ok:=vT hq1 fun d hd=>a2 d hd
 have hs1:ny F1' F ok.op:=z0 hq1 fun d hd=>a2 d hd
 have hf1:∀(b j:Nat),(some (base,k):Option (Nat×Nat))=some (b,j)→oa ops j F1'=oa ops j F:=fun b j e=>by cases e;exact z_ hi hk hq1
 have fin:∀H1',((eZ ops F oi=true∧dL E call ops (some (base,i)) F H oi.op=some (u,H1'))∨(eZ ops F oi=false∧u=.undef∧H1'=H)) →
  ((eZ ops F ok=true∧dL E call ops (some (base,k)) F H1' ok.op=some (v,H2))∨(eZ ops F ok=false∧v=.undef∧H2=H1')) →
  ∃F1' H1',eW E call n ops (some (base,i)) oi F H=some (F1',H1')∧eW E call n ops (some (base,k)) ok F1' H1'=some (F2,H2):=by
  intro H1' e1 e2;refine⟨F1',H1',?_,?_⟩
  ·unfold eW;rcases e1 with⟨x1,x2⟩|⟨x1,x2,x3⟩
   ·rw[if_pos x1,x2];simp[hq1]
   ·rw[if_neg (by simp[x1])];subst x2;subst x3;simp[hq1]
  ·unfold eW;rw[hw1];rcases e2 with⟨x1,x2⟩|⟨x1,x2,x3⟩
   ·rw[if_pos x1,yE hs1 hf1,x2];simp[hq2]
   ·rw[if_neg (by simp[x1])];subst x2;subst x3;simp[hq2]
 rcases hd1 with⟨w1,d1⟩|⟨w1,rfl,rfl⟩
 ·rcases hd2 with⟨w2,d2⟩|⟨w2,rfl,rfl⟩
  ·by_cases pk:eG ok.op=.pure
   ·obtain⟨rfl,q⟩:=xL pk d1;exact fin H2 (.inl ⟨w2,d2⟩) (.inl ⟨w1,q H2⟩)
   ·by_cases pi:eG oi.op=.pure
    ·obtain⟨rfl,q⟩:=xL pi d2;exact fin H (.inl ⟨w2,q H⟩) (.inl ⟨w1,d1⟩)
    ·have lk:eJ ops k=false:=by
      cases hl:eJ ops k with
      | false=>rfl
      | true=>
       rcases vA hl hk hi (by omega)with h|h
       ·exact absurd h pi
       ·rw[if_neg (by omega)]at h;rw[hne]at h;cases h
     have li:eJ ops i=false:=by
      cases hl:eJ ops i with
      | false=>rfl
      | true=>
       rcases vA hl hi hk (by omega)with h|h
       ·exact absurd h pk
       ·rw[if_pos hki]at h;rw[hne]at h;cases h
     by_cases hki1:eG oi.op=.loud
     ·obtain⟨rfl,id,q1,⟨r,hr⟩,q3,q4⟩:=BL (H2:=H2) hk hi (by omega) (by rw[if_pos hki];exact hne) lk pk hki1 li d2 d1
      refine fin H2 (.inl ⟨w2,d2⟩) (.inl ⟨w1,?_⟩);unfold dL;rw[q3];subst hr;simp only[q1,q4]
     by_cases hki2:eG ok.op=.loud
     ·obtain⟨rfl,id,q1,⟨r,hr⟩,q3,q4⟩:=BL (H2:=H2) hi hk (by omega) (by rw[if_neg (by omega)];exact hne) li pi hki2 lk d1 d2
      refine fin H (.inl ⟨w2,?_⟩) (.inl ⟨w1,d1⟩);unfold dL;rw[q3];subst hr;rw[q1]at q4;simp only[q4]
     have tk:∀(X:an) (k:Nat) (o:Ob),jV ((X.set (base+k) o).take base) (X.take base):=fun X k o=>jV.of_eq (take_set_of_le (by omega))
     rcases oH d1 lk hki2 with⟨rfl,qk⟩|⟨ob,fk,rfl,qk⟩|⟨T,tr,rfl,qk⟩
     ·rcases oH d2 li hki1 with⟨rfl,qi⟩|⟨ob2,fi,rfl,qi⟩|⟨T2,tr2,rfl,qi⟩
      ·exact fin H2 (.inl ⟨w2,d2⟩) (.inl ⟨w1,d1⟩)
      ·exact fin _ (.inl ⟨w2,d2⟩) (.inl ⟨w1,qk _ (tk _ _ _)⟩)
      ·exact fin _ (.inl ⟨w2,d2⟩) (.inl ⟨w1,qk _ ((me tr2).take base)⟩)
     ·rcases oH d2 li hki1 with⟨rfl,qi⟩|⟨ob2,fi,rfl,qi⟩|⟨T2,tr2,rfl,qi⟩
      ·refine fin H (.inl ⟨w2,qi H (tk _ _ _).symm⟩) (.inl ⟨w1,d1⟩)
      ·have fi':H[base+i]? = some .free:=by rw[List.getElem?_set_ne (by omega)]at fi;exact fi
       refine fin (H.set (base+i) ob2) (.inl ⟨w2,qi H fi'⟩) (.inl ⟨w1,?_⟩);rw[qk _ (by rw[List.getElem?_set_ne (by omega)];exact fk)]
       rw[List.set_comm _ _ (by omega)]
      ·have tr2':gM (H.take base) T2=true:=by rw[←pg (tk H k ob)];exact tr2
       have hk2:base+k∉T2:=fun hm=>absurd (uN tr2' hm) (by omega)
       refine fin (bT H T2) (.inl ⟨w2,qi H (tk _ _ _).symm⟩) (.inl ⟨w1,?_⟩);rw[qk _ (by rw[f_,fk];simp[hk2]),xI hk2]
     ·rcases oH d2 li hki1 with⟨rfl,qi⟩|⟨ob2,fi,rfl,qi⟩|⟨T2,tr2,rfl,qi⟩
      ·refine fin H (.inl ⟨w2,qi H ((me tr).take base).symm⟩) (.inl ⟨w1,d1⟩)
      ·have hi2:base+i∉T:=fun hm=>absurd (uN tr hm) (by omega)
       have fi':H[base+i]? = some .free:=by
        rw[f_]at fi;obtain⟨o,ho,hf⟩:=Zh.1 fi;rw[if_neg hi2]at hf;rw[ho,hf]
       refine fin (H.set (base+i) ob2) (.inl ⟨w2,qi H fi'⟩) (.inl ⟨w1,?_⟩);rw[qk _ (tk _ _ _),xI hi2]
      ·have tr2':gM (H.take base) T2=true:=by rw[←pg ((me tr).take base)];exact tr2
       refine fin (bT H T2) (.inl ⟨w2,qi H ((me tr).take base).symm⟩) (.inl ⟨w1,?_⟩);rw[qk _ ((me tr2').take base),CG]
  ·exact fin H (.inr ⟨w2,rfl,rfl⟩) (.inl ⟨w1,d1⟩)
 ·rcases hd2 with⟨w2,d2⟩|⟨w2,rfl,rfl⟩
  ·exact fin H2 (.inl ⟨w2,d2⟩) (.inr ⟨w1,rfl,rfl⟩)
  ·exact fin _ (.inr ⟨w2,rfl,rfl⟩) (.inr ⟨w1,rfl,rfl⟩)
theorem CV (h:qg ops=true) {k i:Nat} {ok oi:Oper} (hk:ops[k]? = some ok) (hi:ops[i]? = some oi) (hki:k<i):zE oi k=true∨rT ops ok oi=true:=by
 unfold qg at h;simp only[List.all_eq_true,List.mem_range]at h;have hlt:=(Zf.1 hi).1;have:=h i hlt k hki;rw[hk,hi]at this;simpa using this
theorem Hf (hd:qg ops=true) {i:Nat} {oi:Oper} (hi:ops[i]? = some oi):∀(l r:List Nat),(∀k∈l,k<i∧zE oi k=false∧before ops i k=false)→∀{F F':Frame} {H H':an},
 gE E call n ops base (l++i::r) F H=some (F',H')→gE E call n ops base (i::(l++r)) F H=some (F',H'):=by
 intro l
 induction l with
 | nil=>intro r _ F F' H H' h;exact h
 | cons k l ih=>
  intro r hl F F' H H' h;obtain⟨hki,hke,hkb⟩:=hl k (by simp)
  simp only[List.cons_append,gE]at h;split at h
  ·rename_i ok hk;split at h
   ·rename_i F1 H1 h1;have:=ih r (fun x hx=>hl x (List.mem_cons_of_mem _ hx)) h
    simp only[gE,hi]at this;split at this
    ·rename_i F2 H2 h2;have hap:rT ops ok oi=true:=by
      rcases CV hd hk hi hki with h|h
      ·rw[hke]at h;cases h
      ·exact h
     obtain⟨F1',H1',g1,g2⟩:=swap hk hi hki hkb hap h1 h2;simp only[List.cons_append,gE,hi,g1,hk,g2];exact this
    ·simp at this
   ·simp at h
  ·simp at h
inductive Reach (ops:List Oper):Nat→Nat→Prop
 | one (i k:Nat) (o:Oper) (e:Edge) (hi:ops[i]? = some o) (he:e∈o.after) (hb:iG e=true) (hk:e.on=k):Reach ops i k
 | more (i j k:Nat) (o:Oper) (e:Edge) (hi:ops[i]? = some o) (he:e∈o.after) (hb:iG e=true) (hk:e.on=j) (h:Reach ops j k):Reach ops i k
theorem yd:∀(ks l:List Nat) (k:Nat),k∈ks.foldl (fun l k=>if l.contains k then l else k::l) l→k∈ks∨k∈l
 | [],_,_,h=>.inr h
 | x::ks,l,k,h=>by
  rcases yd ks _ k h with h|h
  ·exact .inl (List.mem_cons_of_mem _ h)
  ·simp only at h;split at h
   ·exact .inr h
   ·rcases List.mem_cons.1 h with h|h
    ·exact .inl (by simp[h])
    ·exact .inr h
theorem Ej {acc:List (List Nat)} {o:Oper} {k:Nat} (h:k∈xz acc o):∃e∈o.after,iG e=true∧(k=e.on∨∃S,acc[e.on]? = some S∧k∈S):=by
 unfold xz at h;have key:∀(es:List Edge) (l:List Nat),k∈es.foldl (fun l e=>(e.on::(acc[e.on]?).getD []).foldl (fun l k=>if l.contains k then l else k::l) l) l→k∈l∨∃e∈es,k=e.on∨∃S,acc[e.on]? = some S∧k∈S:=by
  intro es
  induction es with
  | nil=>intro l h;exact .inl h
  | cons e es ih=>
   intro l h;rw[List.foldl_cons]at h;rcases ih _ h with h|⟨e',h1,h2⟩
   ·rcases yd _ _ _ h with h|h
    ·refine .inr ⟨e,by simp,?_⟩
     rcases List.mem_cons.1 h with h|h
     ·exact .inl h
     ·cases hS:acc[e.on]? with
      | none=>rw[hS]at h;simp at h
      | some S=>rw[hS]at h;exact .inr ⟨S,rfl,h⟩
    ·exact .inl h
   ·exact .inr ⟨e',List.mem_cons_of_mem _ h1,h2⟩
 rcases key _ _ h with h|⟨e,h1,h2⟩
 ·simp at h
 ·rw[List.mem_filter]at h1;exact⟨e,by simpa using h1.1,h1.2,h2⟩
theorem rY (ops:List Oper):∀(l:List Oper) (acc:List (List Nat)) (pre:List Oper),ops=pre++l→acc.length=pre.length→(∀(i:Nat) S,acc[i]? = some S→∀k∈S,Reach ops i k) →
 ∀(i:Nat) S,(l.foldl (fun acc o=>acc++[xz acc o]) acc)[i]? = some S→∀k∈S,Reach ops i k
 | [],_,_,_,_,h=>h
 | o::l,acc,pre,hops,hlen,h=>by
  rw[List.foldl_cons];refine rY ops l _ (pre++[o]) (by simp[hops]) (by simp[hlen]) ?_
  intro i S hS k hk
  by_cases hi:i<acc.length
  ·rw[List.getElem?_append_left hi]at hS;exact h i S hS k hk
  ·rw[List.getElem?_append_right (by omega)]at hS
   have hi2:i=acc.length:=by
    have:=(Zf.1 hS).1;simp at this;omega
   subst hi2;simp at hS;subst hS;have ho:ops[acc.length]? = some o:=by rw[hops,hlen];simp
   obtain⟨e,he,hb,hk⟩:=Ej hk;rcases hk with hk|⟨S,hS,hk⟩
   ·exact .one _ _ o e ho he hb hk.symm
   ·exact .more _ e.on _ o e ho he hb rfl (h _ S hS k hk)
theorem Bk {i k:Nat} (h:before ops i k=true):Reach ops i k:=by
 unfold before at h
 cases hS:(Bz ops)[i]? with
 | none=>rw[hS]at h;simp at h
 | some S=>
  rw[hS]at h;exact rY ops ops [] [] rfl rfl (by simp) i S hS k (by simpa using h)
end
end Go.VE
namespace Go.VE
section
variable {P:Program} {E:Env} {I I':bB} {μ μ':Mu} {H H':an} {n B:Nat} {F F':Frame} {a:Act} {w w':World}
theorem Ab (e:Edge):Region.binds .any e=iG e:=by
 unfold Region.binds iG;cases e.ground <;> rfl
def todo (ops:Array Oper) (listed:Array Bool):List Nat:=(List.range ops.size).filter fun i => !listed.getD i true
theorem rL (ops:Array Oper) (listed:Array Bool):(todo ops listed).Pairwise (·<·):=List.pairwise_lt_range.filter _
theorem Ik {ops:Array Oper} {listed:Array Bool} {i:Nat} (hsz:listed.size=ops.size) (hi:i<ops.size) {l1 l2:List Nat} (h:todo ops listed=l1++i::l2) :
 todo ops (listed.setIfInBounds i true)=l1++l2:=by
 have hp:∀j∈List.range ops.size,(!(listed.setIfInBounds i true).getD j true)=((!listed.getD j true)&&(j != i)):=by
  intro j _
  by_cases e:j=i
  ·subst e;have:(listed.setIfInBounds j true).getD j true=true:=by simp[Array.getD_eq_getD_getElem?,hsz,hi]
   rw[this];simp
  ·have:(listed.setIfInBounds i true).getD j true=listed.getD j true:=by simp[Array.getD_eq_getD_getElem?,Array.getElem?_setIfInBounds_ne (Ne.symm e)]
   rw[this];simp[e]
 have:todo ops (listed.setIfInBounds i true)=(todo ops listed).filter (· != i):=by
  unfold todo;rw[List.filter_filter];exact List.filter_congr (fun j hj=>by rw[hp j hj,Bool.and_comm])
 rw[this,h];have hs:=rL ops listed;rw[h]at hs;rw[List.pairwise_append]at hs;obtain⟨_,h2,h3⟩:=hs;rw[List.pairwise_cons]at h2;rw[List.filter_append,List.filter_cons];simp only[bne_self_eq_false,Bool.false_eq_true,if_false];rw[List.filter_eq_self.2 (fun x hx=>by have:=h3 x hx i (by simp);simp;omega),List.filter_eq_self.2 (fun x hx=>by have:=h2.1 x hx;simp;omega)]
def Down (ops:Array Oper) (listed:Array Bool):Prop:=∀j o,listed.getD j false=true→ops[j]? = some o→∀e∈o.after,iG e=true→listed.getD e.on false=true
theorem Eb {ops:Array Oper} {listed:Array Bool} (hd:Down ops listed) {i k:Nat} (h:Reach ops.toList i k) (hi:∀o,ops[i]? = some o→∀e∈o.after,iG e=true→listed.getD e.on false=true):listed.getD k false=true:=by
 induction h with
 | one i k o e ho he hb hk=>subst hk;exact hi o (by simpa using ho) e he hb
 | more i j k o e ho he hb hk _ ih=>
  subst hk;exact ih fun o' ho'=>hd _ _ (hi o (by simpa using ho) e he hb) ho'
theorem As (hE:eF P E) {call:dN} (hc:jw P call) {ops:Array Oper} (hd:qg ops.toList=true) (hb:uu ops.toList=true) (ro:Option Nat) {Q:Exit→Act→World→Prop} (base:Nat) :
 ∀(fuel:Nat) (listed:Array Bool) (I:bB) (μ:Mu) (F:Frame) (H:an) (a:Act) (w:World),listed.size=ops.size→Down ops listed→(todo ops listed).length=fuel →
 gE E call n ops.toList base (todo ops listed) F H=some (F',H')→dQ I μ n F a.tmps→cg I μ H w →
 (∀a' I' μ' w',dQ I' μ' n F' a'.tmps→a'.defers=a.defers→cg I' μ' H' w'→Step I μ H w I' μ' H' w'→Q .normal a' w') →
 wpAnyIn (fr ro) 0 P .any ops Q fuel listed a w:=by
 intro fuel
 induction fuel with
 | zero=>
  intro listed I μ F H a w hsz hdown hl h r s hQ;have hnil:todo ops listed=[]:=List.eq_nil_of_length_eq_zero hl;rw[hnil]at h;simp only[gE,Za,Zd]at h;obtain⟨rfl,rfl⟩:=h;refine⟨?_,hQ a I μ w r rfl s (.refl _ _ _ _)⟩;unfold Region.ready;rw[List.filter_eq_nil_iff];intro i hi;have:i∉todo ops listed:=by rw[hnil];simp
  unfold todo at this;rw[List.mem_filter]at this;simp only[not_and]at this;have h2:=this hi;simp only[Zj,not_and];intro h3;exact absurd h3 h2
 | succ fuel ih=>
  intro listed I μ F H a w hsz hdown hl h r s hQ;have hready:∀i,i∈Region.ready .any ops listed→i<ops.size∧i∈todo ops listed∧∃o,ops[i]? = some o∧∀e∈o.after,iG e=true→listed.getD e.on false=true:=by
   intro i hi;unfold Region.ready at hi;rw[List.mem_filter]at hi;obtain⟨h1,h2⟩:=hi;simp only[Zj]at h2;obtain⟨h3,h4⟩:=h2;have hlt:i<ops.size:=by simpa using h1
   refine⟨hlt,by unfold todo;rw[List.mem_filter];exact⟨h1,h3⟩,ops[i],by simp[hlt],?_⟩
   have h5:(ops[i].after.all fun e => !Region.binds .any e||listed.getD e.on false)=true:=by
    have e:ops[i]? = some ops[i]:=by simp[hlt]
    rw[e]at h4;simpa using h4
   rw[Array.all_eq_true_iff_forall_mem]at h5;intro e he hb';have:=h5 e he;rw[Ab,hb']at this;simpa using this
  refine⟨?_,?_⟩
  ·
   intro hnil;exfalso
   cases hl':todo ops listed with
   | nil=>rw[hl']at hl;simp at hl
   | cons i0 rest=>
    have hmem:i0∈todo ops listed:=by rw[hl'];simp
    have hs:=rL ops listed;rw[hl',List.pairwise_cons]at hs;unfold todo at hmem;rw[List.mem_filter]at hmem;have hlt:i0<ops.size:=by simpa using hmem.1
    have:i0∈Region.ready .any ops listed:=by
     unfold Region.ready;rw[List.mem_filter];refine⟨hmem.1,?_⟩;simp only[Zj];refine⟨hmem.2,?_⟩;have e0:ops[i0]? = some ops[i0]:=by simp[hlt]
     rw[e0];simp only[Option.map_some,Option.getD_some];rw[Array.all_eq_true_iff_forall_mem];intro e he;rw[Ab]
     cases hbe:iG e with
     | false=>simp
     | true=>
      simp only[Bool.not_true,Bool.false_or];have hback:e.on<i0:=by
       unfold uu at hb;simp only[List.all_eq_true,List.mem_range]at hb;have:=hb i0 (by simpa using hlt)
       have e1:ops.toList[i0]? = some ops[i0]:=by simp[hlt]
       rw[e1]at this;simp only[Array.all_eq_true_iff_forall_mem]at this;have:=this e he;rw[hbe]at this;simpa using this
      cases hon:listed.getD e.on false with
      | true=>rfl
      | false=>
       exfalso;have hin:e.on∈todo ops listed:=by
        unfold todo;rw[List.mem_filter];refine⟨by simp;omega,?_⟩
        have hlt2:e.on<listed.size:=by omega
        have:listed.getD e.on true=listed.getD e.on false:=by simp[hlt2]
        rw[this,hon];rfl
       rw[hl']at hin;rcases List.mem_cons.1 hin with h|h
       ·omega
       ·have:=hs.1 _ h;omega
    rw[hnil]at this;simp at this
  ·intro i hi;obtain⟨hlt,hmem,o,ho,hedges⟩:=hready i hi;obtain⟨l1,l2,hsplit⟩:=List.append_of_mem hmem;have hsorted:=rL ops listed;rw[hsplit,List.pairwise_append]at hsorted;have hfront:∀k∈l1,k<i∧zE o k=false∧before ops.toList i k=false:=by
    intro k hk;have hun:listed.getD k false=false:=by
     have hkm:k∈todo ops listed:=by rw[hsplit];simp[hk]
     unfold todo at hkm;rw[List.mem_filter]at hkm;have hk2:k<listed.size:=by rw[hsz];simpa using hkm.1
     have:listed.getD k true=listed.getD k false:=by simp[hk2]
     rw[this]at hkm;simpa using hkm.2
    refine⟨hsorted.2.2 k hk i (by simp),?_,?_⟩
    rotate_left
    ·cases hbf:before ops.toList i k with
     | false=>rfl
     | true=>
      have:=Eb hdown (Bk hbf) (fun o' ho'=>by rw[ho]at ho';cases ho';exact hedges)
      rw[hun]at this;cases this
    cases he:zE o k with
    | false=>rfl
    | true=>
     exfalso;unfold zE at he;rw[Array.any_eq_true]at he;obtain⟨ix,hix,he2⟩:=he;have he1:o.after[ix]∈o.after:=Array.getElem_mem hix;generalize o.after[ix]=e at he1 he2;simp only[Zj,beq_iff_eq]at he2;have h1:=hedges e he1 he2.2;rw[he2.1]at h1;have hkm:k∈todo ops listed:=by rw[hsplit];simp[hk]
     unfold todo at hkm;rw[List.mem_filter]at hkm;have hk2:k<listed.size:=by rw[hsz];simpa using hkm.1
     have:listed.getD k true=listed.getD k false:=by simp[hk2]
     rw[this,h1]at hkm;simp at hkm
   rw[hsplit]at h;have h':=Hf hd (by simpa using ho) l1 l2 hfront h
   simp only[gE]at h';have ho':ops.toList[i]? = some o:=by simpa using ho
   rw[ho']at h';simp only at h';split at h'
   ·rename_i F1 H1 hstep;unfold wpOpIn;rw[ho];simp only;refine xX hE hc hstep r s ro (fun a' I' μ' w' hr hdf hs hst => ?_)
    have ht:=Ik hsz hlt hsplit;refine ih (listed.setIfInBounds i true) I' μ' F1 H1 a' w' (by simpa using hsz) ?_ ?_ (by rw[ht];exact h') hr hs ?_
    ·have hgrow:∀j,listed.getD j false=true→(listed.setIfInBounds i true).getD j false=true:=by
      intro j hj
      by_cases e:i=j
      ·subst e;simp[Array.getD_eq_getD_getElem?,hsz,hlt]
      ·simpa [Array.getD_eq_getD_getElem?,Array.getElem?_setIfInBounds_ne e]using hj
     intro j oj hj hoj e he hb'
     by_cases e':i=j
     ·subst e';rw[ho]at hoj;cases hoj;exact hgrow _ (hedges e he hb')
     ·refine hgrow _ (hdown j oj ?_ hoj e he hb');simpa [Array.getD_eq_getD_getElem?,Array.getElem?_setIfInBounds_ne e']using hj
    ·rw[ht];rw[hsplit]at hl;simp at hl ⊢;omega
    ·intro a2 I2 μ2 w2 hr2 hd2 hs2 hst2;exact hQ a2 I2 μ2 w2 hr2 (hd2.trans hdf) hs2 (Step.trans hs hst hst2)
   ·simp at h'
theorem cg.AS (s:cg I μ H w) (k:Nat):cg I μ (H++List.replicate k .free) w:=by
 have hget:∀id ob,(H++List.replicate k Ob.free)[id]? = some ob→H[id]? = some ob∨(ob=.free∧H.length≤id):=by
  intro id ob h
  by_cases hlt:id<H.length
  ·rw[List.getElem?_append_left hlt]at h;exact .inl h
  ·rw[List.getElem?_append_right (by omega),List.getElem?_replicate]at h
   split at h
   ·simp at h;exact .inr ⟨h.symm,by omega⟩
   ·simp at h
 refine⟨fun id h=>s.dom id (by simp at h;omega),s.imm,?_,?_⟩
 ·intro id ob h;rcases hget id ob h with h|⟨rfl,h2⟩
  ·exact s.obs id ob h
  ·exact s.dom id h2
 ·intro id id' ob ob' p p' h1 h2 l1 l2;rcases hget id ob h1 with h1|⟨rfl,_⟩
  ·rcases hget id' ob' h2 with h2|⟨rfl,_⟩
   ·exact s.inj id id' ob ob' p p' h1 h2 l1 l2
   ·simp[Ob.live]at l2
  ·simp[Ob.live]at l1
theorem CU (k:Nat) (b:Nat):fZ μ (H++List.replicate k .free) b↔fZ μ H b:=by
 constructor
 ·rintro⟨id,p,ob,h1,h2,h3,h4⟩
  by_cases hlt:id<H.length
  ·rw[List.getElem?_append_left hlt]at h1;exact⟨id,p,ob,h1,h2,h3,h4⟩
  ·rw[List.getElem?_append_right (by omega),List.getElem?_replicate]at h1
   split at h1
   ·simp at h1;subst h1;simp[Ob.live]at h2
   ·simp at h1
 ·rintro⟨id,p,ob,h1,h2,h3,h4⟩;exact⟨id,p,ob,by rw[List.getElem?_append_left (Zf.1 h1).1];exact h1,h2,h3,h4⟩
theorem Step.AS (k:Nat):Step I μ H w I μ (H++List.replicate k .free) w:=
 ⟨bB.le_refl _,Mu.le_refl _,by simp,Nat.le_refl _,fun _ _ _=>rfl,fun b h=>h.elim .inl fun h=>.inr (.inl ((CU k b).1 h)),rfl,rfl,fun _ h=>h⟩
theorem Cw (hE:eF P E) (hm:P.follows .mixedOrders=true) {call:dN} (hc:jw P call) {id:Nat} {ops:Array Oper} {draw:Bool} (ro:Option Nat) {Q:Exit→Act→World→Prop}
 (h:gG E call n ops.toList draw F H=some (F',H')) (r:dQ I μ n F a.tmps) (s:cg I μ H w)
 (hQ:∀a' I' μ' w',dQ I' μ' n F' a'.tmps→a'.defers=a.defers→cg I' μ' H' w'→Step I μ H w I' μ' H' w'→Q .normal a' w') :
 (Code.region id ops draw).wpIn (fr ro) 0 P Q a w:=by
 unfold gG at h
 cases draw with
 | false=>
  simp only[Bool.false_eq_true,if_false]at h;refine wpIn_region ?_;rw[List.range_eq_range',←Array.length_toList];exact Gu hE hc ro ops.toList 0 I μ F H a w (by simp) h r s hQ
 | true=>
  simp only[if_true]at h;split at h
  ·rename_i hok;simp only[Zj]at hok;refine wpIn_region_draw fun t => ?_
   simp only[Region.schedule,hm,Bool.true_or,if_true];have s0:cg I μ H { w with drawn:=w.drawn+1 }:=s.oc rfl;have st0:Step I μ H w I μ H { w with drawn:=w.drawn+1 }:=Step.oc rfl rfl rfl;have htodo:todo ops (Array.replicate ops.size false)=List.range ops.toList.length:=by
    unfold todo;rw[List.filter_eq_self.2]
    ·simp
    ·intro i hi;have:i<ops.size:=by simpa using hi
     simp[this]
   have hdown:Down ops (Array.replicate ops.size false):=by
    intro j o hj;simp[Array.getD_eq_getD_getElem?,Array.getElem?_replicate]at hj;split at hj <;> simp at hj
   refine wpAnyIn_sound ops.size t _ a _ ?_;split at h
   ·refine As hE hc hok.1 hok.2 ro H.length ops.size _ I μ F (H++List.replicate ops.toList.length .free) a _ (by simp) hdown (by rw[htodo];simp) (by rw[htodo];exact h) r (s0.AS _) ?_
    intro a' I' μ' w' h1 h2 h3 h4;exact hQ a' I' μ' w' h1 h2 h3 (Step.trans s0 st0 (Step.trans (s0.AS _) (Step.AS _) h4))
   ·refine As hE hc hok.1 hok.2 ro H.length ops.size _ I μ F H a _ (by simp) hdown (by rw[htodo];simp) (by rw[htodo];exact h) r s0 ?_
    intro a' I' μ' w' h1 h2 h3 h4;exact hQ a' I' μ' w' h1 h2 h3 (Step.trans s0 st0 h4)
  ·simp at h
end
end Go.VE
namespace Go.VE
def Out.A8:Out→Exit
 | .norm=>.normal
 | .exit id=>.exit id
 | .ret=>.ret
theorem BJ (p:Nat→Prop):∀k,p k→∃m,p m∧∀j,p j→m≤j:=by
 intro k
 induction k using Nat.strongRecOn with
 | _ k ih=>
  intro hk
  by_cases h:∃j,j<k∧p j
  ·obtain⟨j,hj,hp⟩:=h;exact ih j hj hp
  ·exact⟨k,hk,fun j hp=>Nat.le_of_not_lt fun hlt=>h ⟨j,hlt,hp⟩⟩
open Classical in
noncomputable def least (p:Nat→Prop):Nat:=if h:∃m,p m∧∀j,p j→m≤j then h.choose else 0
theorem EM (p:Nat→Prop) {k:Nat} (hk:p k):p (least p)∧least p≤k:=by
 have h:=BJ p k hk;unfold least;rw[dif_pos h];exact⟨h.choose_spec.1,h.choose_spec.2 k hk⟩
section
variable {P:Program} {E:Env} {I I':bB} {μ μ':Mu} {H H':an} {n B:Nat} {F F':Frame} {a:Act} {w w':World}
def Post (B n:Nat) (I:bB) (μ:Mu) (H:an) (w:World) (o:Out) (F':Frame) (H':an):Exit→Act→World→Prop:=
 fun e a' w'=>e=o.A8∧(∃I' μ',dQ I' μ' n F' a'.tmps∧cg I' μ' H' w'∧Step I μ H w I' μ' H' w')∧gl B a'.defers w'
theorem Post.mono {I1:bB} {μ1:Mu} {H1:an} {w1:World} {o:Out} (s1:cg I1 μ1 H1 w1) (st:Step I μ H w I1 μ1 H1 w1) {e:Exit} {a':Act} {w':World} (h:Post B n I1 μ1 H1 w1 o F' H' e a' w') :
 Post B n I μ H w o F' H' e a' w':=by
 obtain⟨h1,⟨I',μ',h2,h3,h4⟩,h5⟩:=h;exact⟨h1,⟨I',μ',h2,h3,Step.trans s1 st h4⟩,h5⟩
theorem cg.u7 (s:cg I μ H w) {b:Nat} (o:Obj) (hI:I b=none) (hn:¬fZ μ H b):cg I μ H (fF w b o) where
 dom:=s.dom
 imm:=fun b' x h=>IC.qa (s.imm b' x h) (eX o (by rintro rfl;rw[hI]at h;cases h))
 obs:=fun id ob h=>(s.obs id ob h).mono (bB.le_refl _) (Mu.le_refl _) (fun p hp hl=>by
  have ho:fZ μ H p.b:=⟨id,p,ob,h,hl,hp,rfl⟩;exact⟨eX o (fun e=>hn (e▸ho)),fj s ho⟩) (fun he=>by subst he;exact s.obs id _ h)
 inj:=s.inj
theorem Ke (s:cg I μ H w) {b:Nat} {o:Obj} (h:w.heap[b]? = some o) (h1:∀c e f,o≠.cells c e f) (h2:∀es c,o≠.map es c):I b=none:=by
 cases hI:I b with
 | none=>rfl
 | some x=>
  have:=s.imm b x hI
  cases x with
  | cells c=>obtain⟨_,_,q⟩:=this;rw[h]at q;cases q;exact absurd rfl (h1 _ _ _)
  | map es=>obtain⟨_,q⟩:=this;rw[h]at q;cases q;exact absurd rfl (h2 _ _)
theorem Step.kept (hk:∀b,b<w.heap.size→w'.heap[b]? = w.heap[b]?) (hs:w.heap.size≤w'.heap.size) (h1:w'.os=w.os) (h2:w'.output=w.output) (h3:∀a:Addr,w.frozen? a=false→w'.frozen? a=false):Step I μ H w I μ H w':=
 ⟨bB.le_refl _,Mu.le_refl _,Nat.le_refl _,hs,fun b hb _=>hk b hb,fun _ h=>h.elim .inl fun h=>.inr (.inl h),h1,h2,h3⟩
theorem Step.after (st:Step I μ H w I' μ' H' w') {b:Nat} (o:Obj) (hb:w.heap.size≤b) (hz:Obj.nf o:=by first|exact ou _ _|exact mF rfl):Step I μ H w I' μ' H' (fF w' b o):=
 ⟨st.le,st.mu,st.len,by rw[qU];exact st.size,fun b' hb' hn=>by rw[eX o (by omega)];exact st.frame b' hb' hn,st.terr,st.os,st.out,fun a ha=>LW hz a (st.fz a ha)⟩
theorem gl.u7 {ds:List Deferred} (h:gl B ds w) {b:Nat} {o:Obj} (hn:∀r,w.heap[r]? = some (.deferred (some []))→r≠b):gl B ds (fF w b o):=
 ⟨fun d hd=>by
  obtain⟨r,h1,h2,h3⟩:=h.all d hd;exact⟨r,h1,h2,by rw[eX o (hn r h3)];exact h3⟩,h.apart⟩
theorem D3 {step:Frame→an→Option (Out×Frame×an)} {c:Code} {ro:Option Nat} {o:Out}
 (hstep:∀I μ F H a w o F' H',step F H=some (o,F',H')→dQ I μ n F a.tmps→cg I μ H w→gl B a.defers w→B≤w.heap.size→c.wpIn (fr ro) 0 P (Post B n I μ H w o F' H') a w)
 {k:Nat} (h:iu step k F H=some (o,F',H')) (r:dQ I μ n F a.tmps) (s:cg I μ H w) (m:gl B a.defers w) (hB:B≤w.heap.size) :
 (Code.loop c).wpIn (fr ro) 0 P (Post B n I μ H w o F' H') a w:=by
 let Inv:Nat→Act→World→Prop:=fun k a' w'=>∃I1 μ1 F1 H1,iu step k F1 H1=some (o,F',H')∧dQ I1 μ1 n F1 a'.tmps∧cg I1 μ1 H1 w'∧Step I μ H w I1 μ1 H1 w'∧gl B a'.defers w'∧B≤w'.heap.size
 let M:Act→World→Nat:=fun a' w'=>least (fun k=>Inv k a' w')
 have hM:∀k a' w',Inv k a' w'→Inv (M a' w') a' w'∧M a' w'≤k:=fun k a' w' hi=>EM (fun k=>Inv k a' w') hi
 refine wpIn_loop (fun a' w'=>∃k,Inv k a' w') M ⟨k,I,μ,F,H,h,r,s,.refl _ _ _ _,m,hB⟩ ?_
 rintro a1 w1 ⟨k1,hk1⟩;obtain⟨hi,_⟩:=hM k1 a1 w1 hk1;generalize hk:M a1 w1=kk at hi;obtain⟨I1,μ1,F1,H1,hl,r1,s1,st1,m1,hB1⟩:=hi
 cases kk with
 | zero=>simp[iu]at hl
 | succ kk=>
  simp only[iu]at hl;split at hl
  ·rename_i F2 H2 hs2;refine wpIn_mono (hstep I1 μ1 F1 H1 a1 w1 .norm F2 H2 hs2 r1 s1 m1 hB1) ?_;rintro e a2 w2 ⟨rfl,⟨I2,μ2,r2,s2,st2⟩,m2⟩;show (∃k,Inv k a2 w2)∧M a2 w2<kk+1;have hinv:Inv kk a2 w2:=⟨I2,μ2,F2,H2,hl,r2,s2,Step.trans s1 st1 st2,m2,Nat.le_trans hB1 st2.size⟩;exact⟨⟨kk,hinv⟩,Nat.lt_succ_of_le (hM kk a2 w2 hinv).2⟩
  ·rename_i hne;refine wpIn_mono (hstep I1 μ1 F1 H1 a1 w1 o F' H' hl r1 s1 m1 hB1) ?_;intro e a2 w2 hp;have hon:o≠.norm:=by
    rintro rfl;exact hne F' H' hl
   obtain⟨rfl,h2,h3⟩:=hp
   cases o with
   | norm=>exact absurd rfl hon
   | exit id=>exact Post.mono s1 st1 ⟨rfl,h2,h3⟩
   | ret=>exact Post.mono s1 st1 ⟨rfl,h2,h3⟩
end
end Go.VE
namespace Go.VE
section
variable {P:Program} {E:Env} {I I':bB} {μ μ':Mu} {H H':an} {n B:Nat} {F F':Frame} {a:Act} {w w':World}
theorem vf (s:cg I μ H w) {id:Nat} {r:p_} (h:H[id]? = some (.loop r)):∃p l,μ id=some p∧I p.b=none∧w.heap[p.b]? = some (.loop l)∧pY I μ r l:=s.obs id _ h
theorem uK {p:Option Out} (hp:p≠some .norm):(p.bind gX=none→p.getD .norm=.norm)∧(∀c,p.bind gX=some c→(c=.ret∧p.getD .norm=.ret)∨∃id,c=.exit id∧p.getD .norm=.exit id):=by
 cases p with
 | none=>exact⟨fun _=>rfl,by simp⟩
 | some o=>
  cases o with
  | norm=>exact absurd rfl hp
  | ret=>exact⟨by simp[gX],by simp[gX]⟩
  | exit id=>exact⟨by simp[gX],by simp[gX]⟩
theorem CS {call:dN} (hc:jw P call) {g:Operand} {ps:Array Tmp} {assign body:Code} {o:Out} {lf:Nat}
 (h:exec E call lf false n (.rangeFunc g ps assign body) F H=some (o,F',H')) (r:dQ I μ n F a.tmps) (s:cg I μ H w) (m:gl B a.defers w) (hB:B≤w.heap.size) :
 (Code.rangeFunc g ps assign body).wpIn (fr none) 0 P (Post B n I μ H w o F' H') a w:=by
 cases hg:ev F g with
 | none=>simp[exec,hg]at h
 | some gv=>
 cases gv with
 | clo f x y=>
  simp only[exec,hg]at h;split at h
  ·rename_i res H2 hcall;split at h
   ·rename_i r2 hr2;have hnb:r2.st≠.busy∧r2.pend.getD .norm=o∧F=F'∧H2.set H.length .dead=H':=by
     split at h
     ·simp at h
     ·rename_i hst;simp only[Za,Zd]at h;exact⟨hst,h.1,h.2.1,h.2.2⟩
    obtain⟨hnb,rfl,rfl,rfl⟩:=hnb;obtain⟨u,v,eg,hu,hv⟩:=(cJ r hg).iW;refine wpIn_rangeFunc fun fnn _ => ?_
    have hk1:∀b,b<w.heap.size→(w.alloc (.deferred (some []))).heap[b]? = w.heap[b]? := fun b hb=>jC _ b hb
    have s1:cg I μ H (w.alloc (.deferred (some []))):=s.kept hk1;have st1:Step I μ H w I μ H (w.alloc (.deferred (some []))):=Step.kept hk1 (by simp) rfl rfl (KE (mF rfl))
    have hlr:pY I μ ⟨.ready,none,F,n,ps.toList,assign,body⟩ { state:=.ready,pending:=none,fn:=fnn,tmps:=a.tmps,params:=ps,assign,body,defers:=w.heap.size }:=
     ⟨trivial,rfl,by simp,r,rfl,rfl,rfl⟩
    obtain⟨s2,st2⟩:=s1.push (ob:=.loop ⟨.ready,none,F,n,ps.toList,assign,body⟩)
     (o:=.loop { state:=.ready,pending:=none,fn:=fnn,tmps:=a.tmps,params:=ps,assign,body,defers:=w.heap.size }) (p:=⟨w.heap.size+1,0,0,0⟩) (by simp)
     ⟨_,_,Mu.fe _ _ _,by have:=s1.s6;simpa using this,by have:=ly (w:=w.alloc (.deferred (some []))) (.loop { state:=.ready,pending:=none,fn:=fnn,tmps:=a.tmps,params:=ps,assign,body,defers:=w.heap.size });simpa using this,
      hlr.mono (bB.le_refl _) (Mu.mh (s1.dom _ (Nat.le_refl _)))⟩
    have hargs:bS I (μ.fI H.length ⟨w.heap.size+1,0,0,0⟩) (x++.yld H.length::y) (u.toList++.func (.yield (w.heap.size+1)) #[] #[]::v.toList):=
     (hu.mono (bB.le_refl _) st2.mu).append (.cons (.yld H.length ⟨w.heap.size+1,0,0,0⟩ (Mu.fe _ _ _)) (hv.mono (bB.le_refl _) st2.mu))
    obtain⟨hf,hcalls⟩:=hc.fn f _ _ _ _ hcall;refine⟨w.heap.size+1,[{ target:=.collected w.heap.size,args:=#[] }],((w.alloc (.deferred (some []))).alloc (.loop { state:=.ready,pending:=none,fn:=fnn,tmps:=a.tmps,params:=ps,assign,body,defers:=w.heap.size })),{ target:=.fn (.func f) v,args:=u++#[.func (.yield (w.heap.size+1)) #[] #[]] },((w.alloc (.deferred (some []))).alloc (.loop { state:=.ready,pending:=none,fn:=fnn,tmps:=a.tmps,params:=ps,assign,body,defers:=w.heap.size })),f,u++#[.func (.yield (w.heap.size+1)) #[] #[]]++v,((w.alloc (.deferred (some []))).alloc (.loop { state:=.ready,pending:=none,fn:=fnn,tmps:=a.tmps,params:=ps,assign,body,defers:=w.heap.size })),
     run_enterLoop_outer fnn a.tmps ps assign body,?_,fun _ _=>trivial,?_,fun h=>by simp[fr]at h,?_⟩
    ·simp only[resolve];rw[eg];simp[Deferred.ofValue,Act.eval]
    ·simp only[invoke];exact vQ hf _
    ·have hc2:=hcalls _ _ _ _ s2 hargs;have eargs:(u.toList++.func (.yield (w.heap.size+1)) #[] #[]::v.toList).toArray=u++#[.func (.yield (w.heap.size+1)) #[] #[]]++v:=by apply Array.ext';simp
     rw[eargs]at hc2;refine hc2.mono ?_;rintro e w3 ⟨res',I3,μ3,rfl,_,s3,st3⟩;obtain⟨p,l,g1,g2,g3,g4⟩:=vf s3 hr2;have hp:p=⟨w.heap.size+1,0,0,0⟩:=by
      have:=st3.mu _ _ (Mu.fe μ H.length ⟨w.heap.size+1,0,0,0⟩);rw[g1]at this;cases this;rfl
     subst hp;have hnbusy:l.state≠.busy:=by
      intro he;have:=g4.st;rw[he]at this;cases hst:r2.st <;> rw[hst]at this <;> simp[vB.is]at this;exact hnb hst
     refine⟨l.pending,_,run_endLoop g3 hnbusy,?_⟩;obtain⟨s4,st4⟩:=s3.kill hr2;have hnown:¬fZ μ3 (H2.set H.length .dead) (w.heap.size+1):=by
      rintro⟨id,q,ob,h1,h2,h3,h4⟩
      by_cases e:id=H.length
      ·subst e;rw[List.getElem?_set_self (Zf.1 hr2).1]at h1;cases h1;simp[Ob.live]at h2
      ·rw[List.getElem?_set_ne (Ne.symm e)]at h1;exact e (s3.inj id H.length ob _ q _ h1 hr2 h2 rfl h3 g1 h4)
     have s5:cg I3 μ3 (H2.set H.length .dead) (fF w3 (w.heap.size+1) (.loop { l with state:=.exhausted })):=s4.u7 _ g2 hnown;have st:Step I μ H w I3 μ3 (H2.set H.length .dead) w3:=Step.trans s1 st1 (Step.trans s2 st2 (Step.trans s3 st3 st4));have st5:Step I μ H w I3 μ3 (H2.set H.length .dead) (fF w3 (w.heap.size+1) (.loop { l with state:=.exhausted })):=st.after _ (by omega)
     have m2:gl B ({ target:=.collected w.heap.size,args:=#[] }::a.defers) ((w.alloc (.deferred (some []))).alloc (.loop { state:=.ready,pending:=none,fn:=fnn,tmps:=a.tmps,params:=ps,assign,body,defers:=w.heap.size })):=by
      refine⟨?_,?_⟩
      ·intro d hd;rcases List.mem_cons.1 hd with rfl|hd
       ·refine⟨w.heap.size,rfl,hB,?_⟩;rw[jC _ _ (by simp)];exact ly _
       ·obtain⟨q,h1,h2,h3⟩:=m.all d hd;have hq:=(Array.getElem?_eq_some_iff.1 h3).1;refine⟨q,h1,h2,?_⟩;rw[jC _ _ (by simp;omega),jC _ _ hq];exact h3
      ·refine List.Pairwise.cons ?_ m.apart;intro d hd q hq hq';obtain⟨q2,h1,h2,h3⟩:=m.all d hd;have:=(Array.getElem?_eq_some_iff.1 h3).1;cases hq;rw[h1]at hq';cases hq';omega
     have m3:=m2.step s2 st3;have m5:gl B ({ target:=.collected w.heap.size,args:=#[] }::a.defers) (fF w3 (w.heap.size+1) (.loop { l with state:=.exhausted })):=
      m3.u7 (fun q hq e=>by subst e;rw[g3]at hq;cases hq)
     have hle:bB.le I I3:=st.le;have hmu:Mu.le μ μ3:=st.mu;have hpost:∀oo:Out,r2.pend.getD .norm=oo→Post B n I μ H w oo F (H2.set H.length .dead) oo.A8 { a with defers:=[{ target:=.collected w.heap.size,args:=#[] }]++a.defers } (fF w3 (w.heap.size+1) (.loop { l with state:=.exhausted })):=
      fun oo _=>⟨rfl,⟨I3,μ3,r.mono hle hmu,s5,st5⟩,m5⟩
     obtain⟨k1,k2⟩:=uK g4.pendOk;obtain⟨W5,hW5⟩:∃W5,w3.putObj (w.heap.size+1) (.loop { l with state:=.exhausted })=W5:=⟨_,rfl⟩;have hpost:∀oo:Out,r2.pend.getD .norm=oo→Post B n I μ H w oo F (H2.set H.length .dead) oo.A8 { a with defers:=[{ target:=.collected w.heap.size,args:=#[] }]++a.defers } W5:=by
      intro oo ho;rw[←hW5];exact hpost oo ho
     show match l.pending with
      | none=>Post B n I μ H w (r2.pend.getD .norm) F (H2.set H.length .dead) .normal { a with defers:=[{ target:=.collected w.heap.size,args:=#[] }]++a.defers } (w3.putObj (w.heap.size+1) (.loop { l with state:=.exhausted }))
      | some c=>c.wpIn (fr none) 0 P (Post B n I μ H w (r2.pend.getD .norm) F (H2.set H.length .dead)) { a with defers:=[{ target:=.collected w.heap.size,args:=#[] }]++a.defers } (w3.putObj (w.heap.size+1) (.loop { l with state:=.exhausted }))
     rw[hW5];obtain⟨k1,k2⟩:=uK g4.pendOk;rw[g4.pend]
     cases hj:r2.pend.bind gX with
     | none=>rw[k1 hj];exact hpost .norm (k1 hj)
     | some c=>
      rcases k2 c hj with⟨rfl,e⟩|⟨id,rfl,e⟩
      ·rw[e];exact wpIn_ret (hpost .ret e)
      ·rw[e];exact wpIn_exit (hpost (.exit id) e)
   ·simp at h
  ·simp at h
 | _=>simp[exec,hg]at h
theorem sB (hE:eF P E) (hm:P.follows .mixedOrders=true) {call:dN} (hc:jw P call) (lf:Nat) (ro:Option Nat) (rb:Bool) (hro:rb=ro.isSome) (n:Nat) :
 ∀(c:Code) (I:bB) (μ:Mu) (F:Frame) (H:an) (a:Act) (w:World) (o:Out) (F':Frame) (H':an),exec E call lf rb n c F H=some (o,F',H')→dQ I μ n F a.tmps→cg I μ H w →
  gl B a.defers w→B≤w.heap.size→c.wpIn (fr ro) 0 P (Post B n I μ H w o F' H') a w:=by
 intro c
 induction c with
 | skip=>
  intro I μ F H a w o F' H' h r s m _;simp only[exec,Za,Zd]at h;obtain⟨rfl,rfl,rfl⟩:=h;exact wpIn_skip ⟨rfl,⟨I,μ,r,s,.refl _ _ _ _⟩,m⟩
 | label l=>
  intro I μ F H a w o F' H' h r s m _;simp only[exec,Za,Zd]at h;obtain⟨rfl,rfl,rfl⟩:=h;exact wpIn_label ⟨rfl,⟨I,μ,r,s,.refl _ _ _ _⟩,m⟩
 | region id ops draw=>
  intro I μ F H a w o F' H' h r s m _;simp only[exec,Zh,Zd]at h;obtain⟨⟨F2,H2⟩,h,rfl,rfl,rfl⟩:=h;refine Cw hE hm hc ro h r s (fun a' I' μ' w' h1 h2 h3 h4=>⟨rfl,⟨I',μ',h1,h3,h4⟩,?_⟩)
  rw[h2];exact m.step s h4
 | seq x y ihx ihy=>
  intro I μ F H a w o F' H' h r s m hB;simp only[exec]at h;refine wpIn_seq ?_;split at h
  ·rename_i F1 H1 h1;refine wpIn_mono (ihx I μ F H a w _ F1 H1 h1 r s m hB) ?_;rintro e a1 w1 ⟨rfl,⟨I1,μ1,r1,s1,st1⟩,m1⟩;show y.wpIn (fr ro) 0 P _ a1 w1;refine wpIn_mono (ihy I1 μ1 F1 H1 a1 w1 o F' H' h r1 s1 m1 (Nat.le_trans hB st1.size)) ?_;intro e a2 w2 hp;exact Post.mono s1 st1 hp
  ·rename_i hne;refine wpIn_mono (ihx I μ F H a w o F' H' h r s m hB) ?_;rintro e a1 w1 ⟨rfl,h2,h3⟩
   cases o with
   | norm=>exact absurd h (hne F' H')
   | exit id=>exact⟨rfl,h2,h3⟩
   | ret=>exact⟨rfl,h2,h3⟩
 | cond c x y ihx ihy=>
  intro I μ F H a w o F' H' h r s m hB;simp only[exec]at h;split at h
  ·rename_i t hct;have hcv:=(cJ r hct).mJ;refine wpIn_cond hcv ?_
   cases t with
   | true=>simp only[if_true]at h ⊢;exact ihx I μ F H a w o F' H' h r s m hB
   | false=>simp only[Bool.false_eq_true,if_false]at h ⊢;exact ihy I μ F H a w o F' H' h r s m hB
  ·simp at h
 | block id c ih=>
  intro I μ F H a w o F' H' h r s m hB;simp only[exec]at h;refine wpIn_block ?_;split at h
  ·rename_i id' F1 H1 h1;refine wpIn_mono (ih I μ F H a w _ F1 H1 h1 r s m hB) ?_;rintro e a1 w1 ⟨rfl,h2,h3⟩;show Exit.inBlock id _ (.exit id') a1 w1;unfold Exit.inBlock;split at h
   ·rename_i he;simp only[Za,Zd]at h;obtain⟨rfl,rfl,rfl⟩:=h;simp only[he,if_true];exact⟨rfl,h2,h3⟩
   ·rename_i he;simp only[Za,Zd]at h;obtain⟨rfl,rfl,rfl⟩:=h;simp only[he,if_false];exact⟨rfl,h2,h3⟩
  ·rename_i hne;refine wpIn_mono (ih I μ F H a w o F' H' h r s m hB) ?_;rintro e a1 w1 ⟨rfl,h2,h3⟩
   cases o with
   | norm=>exact⟨rfl,h2,h3⟩
   | exit id'=>exact absurd h (hne id' F' H')
   | ret=>exact⟨rfl,h2,h3⟩
 | loop c ih=>
  intro I μ F H a w o F' H' h r s m hB;simp only[exec]at h;exact D3 (fun I μ F H a w o F' H' h r s m hB=>ih I μ F H a w o F' H' h r s m hB) h r s m hB
 | rangeFunc g ps assign body _ _=>
  intro I μ F H a w o F' H' h r s m hB
  cases rb with
  | true=>simp[exec]at h
  | false=>
   cases ro with
   | none=>exact CS hc h r s m hB
   | some l=>simp at hro
 | exit id=>
  intro I μ F H a w o F' H' h r s m _;simp only[exec,Za,Zd]at h;obtain⟨rfl,rfl,rfl⟩:=h;exact wpIn_exit ⟨rfl,⟨I,μ,r,s,.refl _ _ _ _⟩,m⟩
 | ret=>
  intro I μ F H a w o F' H' h r s m _;simp only[exec,Za,Zd]at h;obtain⟨rfl,rfl,rfl⟩:=h;exact wpIn_ret ⟨rfl,⟨I,μ,r,s,.refl _ _ _ _⟩,m⟩
 | scope body _=>intro I μ F H a w o F' H' h;simp[exec]at h
 | goto l=>intro I μ F H a w o F' H' h;simp[exec]at h
 | refuse why=>intro I μ F H a w o F' H' h;simp[exec]at h
end
end Go.VE
namespace Go.VE
section
variable {P:Program} {E:Env} {I I':bB} {μ μ':Mu} {H H':an} {n B:Nat} {F F':Frame} {a:Act} {w w':World}
theorem Dt:∀(F:Frame) (t:Nat),F.length≤t→get F t=.undef
 | [],_,_=>rfl
 | _::_,0,h=>by simp at h
 | _::r,i+1,h=>Dt r i (by simpa using h)
theorem Cx:∀(F:Frame) (t:Nat) (x:V),F[t]? = some x→get F t=x
 | [],_,_,h=>by simp at h
 | _::_,0,_,h=>by simpa [get]using h
 | _::r,i+1,x,h=>Cx r i x (by simpa using h)
theorem Ed {args:List V} {vs:List Value} {nt:Nat} (h:bS I μ args vs) (hl:args.length≤nt) :
 dQ I μ nt args (vs.toArray++Array.replicate (nt-vs.toArray.size) undef):=by
 have hlen:args.length=vs.length:=h.1;refine⟨by simp;omega,fun t => ?_⟩
 by_cases ht:t<args.length
 ·have h1:args[t]? = some args[t]:=by simp[ht]
  have ht':t<vs.length:=by omega
  have h2:vs[t]? = some vs[t]:=by simp[ht']
  rw[Cx _ _ _ h1];have:(vs.toArray++Array.replicate (nt-vs.toArray.size) undef).getD t undef=vs[t]:=by
   rw[Array.getD_eq_getD_getElem?,Array.getElem?_append_left (by simpa using ht')]
   simp[ht']
  rw[this];exact h.2 t _ _ h1 h2
 ·rw[Dt _ _ (by omega)]
  have:(vs.toArray++Array.replicate (nt-vs.toArray.size) undef).getD t undef=undef:=by
   rw[Array.getD_eq_getD_getElem?,Array.getElem?_append_right (by simp;omega),Array.getElem?_replicate]
   split <;> rfl
  rw[this];exact aK.undef _ _
theorem Ir (r:dQ I μ n F a.tmps) {t:Nat} {x:V} {v:Value} (ht:t<n) (h:aK I μ x v):dQ I μ n (set F t x) (a.tmps.setIfInBounds t v):=by
 have:=dQ.put (a:=a) (dst:=some t) r h (F':=set F t x) (by simp[g9,ht])
 simpa [Act.put]using this
theorem vV:∀(ps:List Nat) (xs:List V) (vs:List Value) (F:Frame) (tmps:Array Value),dQ I μ n F tmps→bS I μ xs vs→ps.all (·<n)=true →
 dQ I μ n (o0 ps xs F) ((ps.zip vs).foldl (fun tmps (t,a)=>tmps.setIfInBounds t a) tmps)
 | [],_,_,F,tmps,r,_,_=>by simpa [o0]using r
 | t::ps,[],[],F,tmps,r,_,_=>by simpa [o0]using r
 | t::ps,[],v::vs,F,tmps,r,h,_=>by have:=h.1;simp at this
 | t::ps,x::xs,[],F,tmps,r,h,_=>by have:=h.1;simp at this
 | t::ps,x::xs,v::vs,F,tmps,r,h,hp=>by
  simp only[List.all_cons,Zj,decide_eq_true_eq]at hp;have h0:aK I μ x v:=h.2 0 x v rfl rfl;have ht:bS I μ xs vs:=⟨by have:=h.1;simpa using this,fun j a b h1 h2=>h.2 (j+1) a b (by simpa using h1) (by simpa using h2)⟩
  simp only[o0,List.zip_cons_cons,List.foldl_cons];exact vV ps xs vs _ _ (Ir (a:={ tmps:=tmps,defers:=[] }) r hp.1 h0) ht hp.2
theorem Ba {α β:Type} (g:α→Sem β):∀(l:List α) (w:World) (bs:List β),bs.length=l.length→(∀(j:Nat) x y,l[j]? = some x→bs[j]? = some y→(g x).run P w=.ok y w)→(l.mapM g).run P w=.ok bs w
 | [],w,[],_,_=>by simp
 | [],w,_::_,h,_=>by simp at h
 | _::_,w,[],h,_=>by simp at h
 | x::l,w,y::bs,h,hg=>by
  rw[List.mapM_cons];have h0:=hg 0 x y rfl rfl;have ht:=Ba g l w bs (by simpa using h) (fun j a b h1 h2=>hg (j+1) a b (by simpa using h1) (by simpa using h2))
  simp[Sem.run_bind,h0,ht,Result.andThen]
def Dv (tmps:Array Value):ResultVar→Sem Value
 | .tmp t=>pure (tmps.getD t undef)
 | .cell a t=>do loadVar t (←asAddr (tmps.getD a undef))
theorem Ei (fn:Func) (tmps:Array Value):results fn tmps=(fn.results.mapM (Dv tmps) >>= fun vs=>pure (if h:vs.size=1 then vs[0]else .tuple vs)):=by
 unfold results
 congr 1
theorem D1 (hE:eF P E) {fn:Func} {tmps:Array Value} (r:dQ I μ n F tmps) (s:cg I μ H w) {vs:List V} (h:gD E F H fn.results.toList=some vs) :
 ∃u,(results fn tmps).run P w=.ok u w∧aK I μ (result vs) u:=by
 have key:∀(l:List ResultVar) (vs:List V),gD E F H l=some vs→∃us:List Value,us.length=l.length∧bS I μ vs us ∧
  ∀(j:Nat) x y,l[j]? = some x→us[j]? = some y→(Dv tmps x).run P w=.ok y w:=by
  intro l
  induction l with
  | nil=>intro vs h;simp[gD]at h;subst h;exact⟨[],rfl,.nil,by simp⟩
  | cons x l ih=>
   intro vs h
   cases x with
   | tmp t=>
    simp only[gD,Zh]at h;obtain⟨vs',h,rfl⟩:=h;obtain⟨us,h1,h2,h3⟩:=ih vs' h;refine⟨tmps.getD t undef::us,by simp[h1],.cons (r.2 t) h2,?_⟩
    intro j x y hx hy
    cases j with
    | zero=>simp at hx hy;subst hx;subst hy;simp[Dv]
    | succ j=>exact h3 j x y (by simpa using hx) (by simpa using hy)
   | cell p t=>
    simp only[gD]at h;split at h
    ·rename_i d vs' hd hvs;simp only[Zh]at h;obtain⟨v,hv,rfl⟩:=h;obtain⟨us,h1,h2,h3⟩:=ih vs' hvs;obtain⟨u,_,hu,ad,had,hload⟩:=yH hE s hd (r.2 p) hv;refine⟨u::us,by simp[h1],.cons hu h2,?_⟩
     intro j x y hx hy
     cases j with
     | zero=>
      simp only[List.getElem?_cons_zero,Za]at hx hy;subst hx;subst hy;have e:(do loadVar t (←asAddr (tmps.getD p undef)):Sem Value).run P w=(loadVar t ad).run P w:=by rw[Sem.run_bind,had];rfl
      exact e.trans hload
     | succ j=>exact h3 j x y (by simpa using hx) (by simpa using hy)
    ·simp at h
 obtain⟨us,h1,h2,h3⟩:=key _ _ h;have hm:=Ba (P:=P) _ fn.results.toList w us h1 h3;have hA:(fn.results.mapM (Dv tmps)).run P w=.ok us.toArray w:=by
  rw[Array.mapM_eq_mapM_toList];rw[←bind_pure_comp,Sem.run_bind,hm];rfl
 have hsz:us.length=vs.length:=h2.1.symm;rw[Ei,Sem.run_bind,hA];simp only[Result.andThen]
 by_cases hone:us.length=1
 ·obtain⟨u,rfl⟩:=List.length_eq_one_iff.1 hone;obtain⟨v,rfl⟩:=List.length_eq_one_iff.1 (hsz▸hone);exact⟨u,by simp,by simpa [result]using h2.2 0 v u rfl rfl⟩
 ·refine⟨.tuple us.toArray,by simp[hone],?_⟩
  have hr:result vs=.tup vs:=by
   match vs,hsz with
   | [],_=>rfl
   | [_],h=>exact absurd h hone
   | _::_::_,_=>rfl
  rw[hr];exact .tup _ _ (by simpa using h2.1) (by simpa using h2.2)
theorem GF (hE:eF P E) {fn:Func} {tmps:Array Value} {vs:List V} (h:gD E F H' fn.results.toList=some vs) (hB:w.heap.size≤B):∀(ds:List Deferred) (w':World),
 dQ I' μ' n F tmps→cg I' μ' H' w'→Step I μ H w I' μ' H' w'→gl B ds w' →
 LeavesInM (fr none) 0 P fn tmps (t_ I μ H w (result vs) H') ds .returning w':=by
 intro ds
 induction ds with
 | nil=>
  intro w' r s st m;obtain⟨u,hu,hv⟩:=D1 hE r s h;exact⟨u,hu,u,I',μ',rfl,hv,s,st⟩
 | cons d ds ih=>
  intro w' r s st m;obtain⟨q,h1,h2,h3⟩:=m.all d (by simp)
  refine⟨by simp,.inl ⟨q,_,h1,run_takeDeferred h3,?_⟩⟩
  have hown:=oS s h3;have hI:=Ke s h3 (by simp) (by simp)
  have m':gl B ds w':=⟨fun d hd=>m.all d (List.mem_cons_of_mem _ hd),(List.pairwise_cons.1 m.apart).2⟩
  refine ih (fF w' q (.deferred none)) r (s.u7 _ hI hown) (st.after _ (by omega)) ⟨fun d' hd' => ?_,m'.apart⟩
  obtain⟨q',g1,g2,g3⟩:=m'.all d' hd';refine⟨q',g1,g2,?_⟩;rw[eX _ ?_];exact g3;rintro rfl;exact(List.pairwise_cons.1 m.apart).1 d' hd' _ h1 g1
theorem zw (o:Out):(gX o).isNone=(o==.norm):=by
 cases o <;> simp[gX] <;> rfl
theorem GJ (hE:eF P E) (hm:P.follows .mixedOrders=true):∀n,jw P (run E n):=by
 intro n
 induction n with
 | zero=>exact⟨fun _ _ _ _ _ h=>by simp[run]at h,fun _ _ _ _ _ h=>by simp[run]at h⟩
 | succ n ihn=>
  constructor
  ·intro f args H r H' h;simp only[run]at h;split at h
   ·rename_i fi hfi;obtain⟨fn,hf,hb,hnt,hres,hname⟩:=hE.ft f fi hfi;refine⟨⟨fn,hf,by simp[hb],hname⟩,?_⟩
    intro I μ w vs s hv;split at h
    ·rename_i hlen;have main:∀o F' H2 rs,exec E (run E n) n false fi.ntmps fi.body args H=some (o,F',H2)→(∀id,o≠.exit id)→gD E F' H2 fi.results=some rs→CallsIn (fr none) 0 P f vs.toArray w (t_ I μ H w (result rs) H2):=by
      intro o F' H2 rs hx hne hr;refine callsIn_of_wp_marks hf hb trivial ?_;rw[hnt];have r0:=Ed hv hlen;have:=sB (B:=w.heap.size) hE hm ihn n none false rfl fi.ntmps fi.body I μ args H { tmps:=vs.toArray++Array.replicate (fi.ntmps-vs.toArray.size) undef,defers:=[] } w o F' H2 hx r0 s ⟨by simp,.nil⟩ (Nat.le_refl _)
      refine wpIn_mono this ?_;rintro e a1 w1 ⟨rfl,⟨I1,μ1,r1,s1,st1⟩,m1⟩;have hl:=GF (n:=fi.ntmps) hE (fn:=fn) (by rw[hres];exact hr) (Nat.le_refl _) a1.defers w1 r1 s1 st1 m1
      cases o with
      | norm=>exact hl
      | ret=>exact hl
      | exit id=>exact absurd rfl (hne id)
     split at h
     ·simp at h
     ·rename_i o F' H2 hne hx;simp only[Zh,Zd]at h;obtain⟨rs,hr,rfl,rfl⟩:=h;exact main o F' H2 rs hx (fun id e=>hne id (by rw[e])) hr
     ·simp at h
    ·simp at h
   ·simp at h
  ·intro id args H r H' h I μ w vs p s hv hp;simp only[run]at h;split at h
   ·rename_i rec hrec;split at h
    ·rename_i hst;split at h
     ·rename_i hlen;split at h
      ·rename_i F2 H2 hx1;split at h
       ·rename_i r2 hr2;split at h
        ·rename_i hst2;split at h
         ·rename_i o F4 H4 hx2;split at h
          ·rename_i r4 hr4;simp only[Za,Zd]at h;obtain⟨rfl,rfl⟩:=h;obtain⟨q,l,g1,g2,g3,g4⟩:=vf s hrec;rw[hp]at g1;cases g1;have hps:l.params.size=rec.params.length:=by have:=congrArg List.length g4.params;simpa using this
           have hsz:vs.toArray.size=l.params.size:=by
            rw[hps,←hlen.1];simpa using hv.1.symm
           refine⟨p.b,l.fn,_,l.assign,l.body,run_yield g3 hsz,?_⟩;refine roundIn_of_wpIn trivial ?_;have hfold:(l.params.zip vs.toArray).foldl (fun tmps (x:Tmp×Value)=>tmps.setIfInBounds x.1 x.2) l.tmps=(rec.params.zip vs).foldl (fun tmps (x:Tmp×Value)=>tmps.setIfInBounds x.1 x.2) l.tmps:=by
            rw[←Array.foldl_toList,Array.toList_zip,g4.params]
           have r0:=vV rec.params args vs rec.frame l.tmps g4.frame hv hlen.2;rw[←hfold]at r0;have w1:=sB (B:=w.heap.size) hE hm ihn n (some p.b) true rfl rec.nt rec.assign I μ _ H { tmps:=_,defers:=[] } w _ _ _ hx1 r0 s ⟨by simp,.nil⟩ (Nat.le_refl _)
           rw[g4.assign,g4.body];refine wpIn_mono w1 ?_;rintro e a1 w1 ⟨rfl,⟨I1,μ1,r1,s1,st1⟩,m1⟩;obtain⟨q,l2,k1,k2,k3,k4⟩:=vf s1 hr2;rw[st1.mu _ _ hp]at k1;cases k1;have hready:l2.state=.ready:=by
            have:=k4.st;rw[hst2]at this;cases hl:l2.state <;> rw[hl]at this <;> simp[vB.is]at this
           refine⟨_,run_beginRound k3 hready,?_⟩;have hp1:μ1 id=some p:=st1.mu _ _ hp;obtain⟨s2,st2⟩:=s1.write (o:=.loop { l2 with state:=.busy }) (ob':=.loop { r2 with st:=.busy }) hr2 rfl hp1
            ⟨p,{ l2 with state:=.busy },hp1,k2,gL _ (Array.getElem?_eq_some_iff.1 k3).1,⟨trivial,k4.pend,k4.pendOk,k4.frame,k4.params,k4.assign,k4.body⟩⟩
           have st12:=Step.trans s1 st1 st2;have m2:gl w.heap.size a1.defers (fF w1 p.b (.loop { l2 with state:=.busy })):=m1.step s1 st2;have w2:=sB (B:=w.heap.size) hE hm ihn n (some p.b) true rfl rec.nt rec.body I1 μ1 F2 _ a1 (fF w1 p.b (.loop { l2 with state:=.busy })) o F4 H4 hx2 r1 s2 m2 (by rw[qU];exact st1.size)
           refine wpIn_mono w2 ?_;rintro e a3 w3 ⟨rfl,⟨I3,μ3,r3,s3,st3⟩,m3⟩;obtain⟨q,l4,j1,j2,j3,j4⟩:=vf s3 hr4;rw[st3.mu _ _ hp1]at j1;cases j1;have hp3:μ3 id=some p:=st3.mu _ _ hp1;have fin:∃v w',(Instr.endRound p.b (gX o)).run P w3=.ok v w'∧t_ I μ H w (.bool (o==.norm)) (H4.set id (.loop { r4 with st:=(if o==.norm then .ready else .done),pend:=(if o==.norm then none else some o) })) (.returned v) w':=by
            refine⟨_,_,run_endRound (gX o) j3,?_⟩;obtain⟨s4,st4⟩:=s3.write (o:=.loop { l4 with state:=if(gX o).isNone then .ready else .done,pending:=gX o }) (ob':=.loop { r4 with st:=(if o==.norm then .ready else .done),pend:=(if o==.norm then none else some o) }) hr4 rfl hp3
             ⟨p,{ l4 with state:=if(gX o).isNone then .ready else .done,pending:=gX o },hp3,j2,gL _ (Array.getElem?_eq_some_iff.1 j3).1,⟨by cases o <;> exact trivial,by cases o <;> rfl,by cases o <;> simp,j4.frame,j4.params,j4.assign,j4.body⟩⟩
            refine⟨_,I3,μ3,rfl,?_,s4,Step.trans s1 st1 (Step.trans s2 st2 (Step.trans s3 st3 st4))⟩;rw[zw];exact .c _ _ (.bool _)
           cases o with
           | norm=>exact fin
           | ret=>exact fin
           | exit id=>exact fin
          ·simp at h
         ·simp at h
        ·simp at h
       ·simp at h
      ·simp at h
     ·simp at h
    ·simp at h
   ·simp at h
end
end Go.VE
namespace Go.VE
variable {P:Program}
theorem mP.N0 {t:TypeId} {d:TD} (h:aH P t=some d):mP P t d:=
 eF.ty (E:={ tt:=aH P,ft:=fun _=>none,keep:=fun _=>false,own:=fun _=>false,eqN:=fun _=>none }) ⟨fun _ _ h=>h,by simp,by simp⟩ h
theorem sQ {i:TypeId} {cs:Array Value} {o:Nat} {v:Value} {w:World} (hi:aH P i=some ⟨1,8,[.int .i64 0],.int .i64⟩) (h:cs[o]? = some v):(part i cs o).run P w=.ok v w:=by
 unfold part;simp[Sem.run_bind,(mP.N0 hi).ES,Result.andThen,TD.agg,h]
theorem od {a:List Int} (h:a.length=2):∃x y,a=[x,y]:=by
 match a,h with
 | [x,y],_=>exact⟨x,y,rfl⟩
theorem BY (d:Nat) (e:Bool) {i:TypeId} (x:Int) {w:World} (hui:P.underlying i=some (.int .i64)):(Instr.checkKey e (d+1) i (.int .i64 x)).run P w=.ok () w:=by
 simp only[Instr.checkKey,Sem.run_bind,dM hui,Result.andThen_ok,Sem.run_pure]
theorem BG (d:Nat) (e:Bool) {t i:TypeId} {f g:Field} (x y:Int) {w:World} (hu:P.underlying t=some (.struct #[f,g])) (hf:f.type=i) (hg:g.type=i) (of:f.offset=0) (og:g.offset=1) (nf:f.name ≠ "_") (ng:g.name ≠ "_")
 (hi:aH P i=some ⟨1,8,[.int .i64 0],.int .i64⟩) (hui:P.underlying i=some (.int .i64)):(Instr.checkKey e (d+1+1) t (.agg (ic [x,y]))).run P w=.ok () w:=by
 have p0:∀w,(part i (ic [x,y]) 0).run P w=.ok (.int .i64 x) w:=fun w=>sQ hi rfl
 have p1:∀w,(part i (ic [x,y]) 1).run P w=.ok (.int .i64 y) w:=fun w=>sQ hi rfl
 have q:∀(x:Int) w,(Instr.checkKey e (d+1) i (.int .i64 x)).run P w=.ok () w:=fun x w=>BY d e x hui
 unfold Instr.checkKey;simp only[Sem.run_bind,dM hu,Result.andThen_ok];rw[←Array.forIn_toList];simp only[List.forIn_cons,List.forIn_nil,Sem.run_bind,hf,hg,of,og,nf,ng,ne_eq,not_false_eq_true,if_true,p0,p1,q,Result.andThen_ok,Sem.run_pure]
theorem xj.two {t i:TypeId} {f g:Field} (hu:P.underlying t=some (.struct #[f,g])) (hf:f.type=i) (hg:g.type=i) (of:f.offset=0) (og:g.offset=1) (nf:f.name ≠ "_") (ng:g.name ≠ "_")
 (hi:aH P i=some ⟨1,8,[.int .i64 0],.int .i64⟩) (hui:P.underlying i=some (.int .i64)) (hs:P.stoodInHeld t=false) (hq:P.eqGuardType P.depth t=false):xj P t 2:=by
 have hfo:P.fieldsOf t=#[f,g]:=by unfold Program.fieldsOf;rw[hu]
 have heq:∀(w:World) (x y z u:Int),(Op.equal t (.agg (ic [x,y])) (.agg (ic [z,u]))).run P w=.ok ([x,y]==[z,u]) w:=by
  intro w x y z u;show (Op.equalIn (9999+1) t _ _).run P w=_;rw[run_equalIn_struct w 9999 t _ _ (by rw[hfo];exact hu) hs,hfo]
  have p0:∀(x y:Int) w,(part i (ic [x,y]) 0).run P w=.ok (.int .i64 x) w:=fun x y w=>sQ hi rfl
  have p1:∀(x y:Int) w,(part i (ic [x,y]) 1).run P w=.ok (.int .i64 y) w:=fun x y w=>sQ hi rfl
  have q:∀(x y:Int) w,(Op.equalIn 9999 i (.int .i64 x) (.int .i64 y)).run P w=.ok (x==y) w:=fun x y w=>C4 9998 x y hui
  simp only[Op.eqFields,hf,hg,of,og,nf,ng,ne_eq,not_false_eq_true,if_true,Sem.run_bind,p0,q,Result.andThen_ok]
  by_cases hxz:x=z
  ·by_cases hyu:y=u
   ·subst hxz;subst hyu;simp[Sem.run_bind,p1,q,Result.andThen]
   ·subst hxz;have:(y==u)=false:=by simpa using hyu
    simp[Sem.run_bind,p1,q,Result.andThen,this]
  ·have:(x==z)=false:=by simpa using hxz
   simp[this]
 have hg0:∀(op:BinOp) (p q:Operand) (w:World) (u v:Array Value),(eqGuard op t p q (.agg u) (.agg v)).run P w=.ok () w:=by
  intro op p q w u v;unfold eqGuard;cases op <;> simp[Sem.run_bind,run_program,Result.andThen,hq]
 refine⟨?_,?_,?_,?_,⟨_,hu,.inr ⟨_,rfl⟩⟩⟩
 ·intro w p q a b ha hb;obtain⟨x,y,rfl⟩:=od ha;obtain⟨z,u,rfl⟩:=od hb;rw[Sem.run_bind,hg0,Result.andThen_ok];show (do pure (Value.bool (←Op.equal t (.agg (ic [x,y])) (.agg (ic [z,u])))):Sem Value).run P w=_
  rw[Sem.run_bind,heq];rfl
 ·intro w p q a b ha hb;obtain⟨x,y,rfl⟩:=od ha;obtain⟨z,u,rfl⟩:=od hb;rw[Sem.run_bind,hg0,Result.andThen_ok];show (do pure (Value.bool (!(←Op.equal t (.agg (ic [x,y])) (.agg (ic [z,u]))))):Sem Value).run P w=_
  rw[Sem.run_bind,heq];rfl
 ·intro w a b ha hb;obtain⟨x,y,rfl⟩:=od ha;obtain⟨z,u,rfl⟩:=od hb;exact heq w x y z u
 ·intro w e a ha;obtain⟨x,y,rfl⟩:=od ha;exact BG 9998 e x y hu hf hg of og nf ng hi hui
def lk {α:Type}:List (Nat×α)→Nat→Option α
 | [],_=>none
 | (k,v)::r,n=>bif Nat.beq k n then some v else lk r n
theorem yK {α:Type}:∀{l:List (Nat×α)} {n:Nat} {v:α},lk l n=some v→(n,v)∈l
 | [],_,_,h=>by simp[lk]at h
 | (k,x)::r,n,v,h=>by
  simp only[lk]at h
  cases hk:Nat.beq k n with
  | true=>
   rw[hk]at h;simp only[cond_true,Za]at h;have:=Nat.eq_of_beq_eq_true hk;subst this;subst h;simp
  | false=>rw[hk]at h;exact List.mem_cons_of_mem _ (yK h)
def aQ (P:Program) (f:FuncId) (fi:FI):Prop:=∃fn,P.funcs[f]? = some fn∧fn.body=some fi.body∧fn.ntmps=fi.ntmps∧fn.results.toList=fi.results∧(fn.name == "runtime.NumGoroutine")=false
end Go.VE
namespace Go.VE
inductive KT where|bool|str|slice|ptr|map|int|other
 deriving DecidableEq
def TK.tag:TK→KT
 | .bool=>.bool
 | .int _=>.int
 | .str=>.str
 | .ptr _=>.ptr
 | .slice _=>.slice
 | .map ..=>.map
 | _=>.other
def kB (k:KT) (x y:V):Option Bool:=
 match k,x,y with
 | .slice,.ay,.ay=>some true
 | .slice,.fsl ..,.ay=>some false
 | .slice,.hsl ..,.ay=>some false
 | .ptr,.cq,.cq=>some true
 | .ptr,.fptr _,.cq=>some false
 | .ptr,.hptr ..,.cq=>some false
 | .map,.eT,.eT=>some true
 | .map,.fmap _,.eT=>some false
 | .map,.hmap _,.eT=>some false
 | _,_,_=>none
def jK (k:Option KT) (e:Option Nat) (op:BinOp) (x y:V):Option V:=
 match x,y with
 | .int k a,.int k' b=>
  match op with
  | .shl=>if b<0 then none else some (.int k (k.wrap (a*2 ^ (min b.toNat k.bits))))
  | .shr=>if b<0 then none else some (.int k (a.fdiv (2 ^ (min b.toNat k.bits))))
  | _=>if k=k' then
   match op with
   | .add=>some (.int k (k.wrap (a+b)))
   | .sub=>some (.int k (k.wrap (a-b)))
   | .mul=>some (.int k (k.wrap (a*b)))
   | .quo=>if b=0 then none else some (.int k (k.wrap (a.tdiv b)))
   | .rem=>if b=0 then none else some (.int k (a.tmod b))
   | .and=>some (.int k (k.wrap (BitVec.ofInt k.bits a &&& BitVec.ofInt k.bits b).toNat))
   | .or=>some (.int k (k.wrap (BitVec.ofInt k.bits a ||| BitVec.ofInt k.bits b).toNat))
   | .xor=>some (.int k (k.wrap (BitVec.ofInt k.bits a ^^^ BitVec.ofInt k.bits b).toNat))
   | .andNot=>some (.int k (k.wrap (BitVec.ofInt k.bits a &&& ~~~ BitVec.ofInt k.bits b).toNat))
   | op=>(qA op a b).map .bool
   else none
 | .str a,.str b=>
  match op with
  | .add=>if((a.size+b.size:Nat):Int)>IntKind.i64.max then none else some (.str (a++b))
  | .eql=>some (.bool (a.toList==b.toList))
  | .neq=>some (.bool !(a.toList==b.toList))
  | .lss=>some (.bool (Op.bytesLess a.toList b.toList))
  | .leq=>some (.bool (Op.bytesLess a.toList b.toList||a.toList==b.toList))
  | .gtr=>some (.bool !(Op.bytesLess a.toList b.toList||a.toList==b.toList))
  | .geq=>some (.bool !(Op.bytesLess a.toList b.toList))
  | _=>none
 | .bool a,.bool b=>
  match k,op with
  | some .bool,.eql=>some (.bool (a==b))
  | some .bool,.neq=>some (.bool !(a==b))
  | _,_=>none
 | .agg a,.agg b=>
  match e,op with
  | some n,.eql=>if a.length=n then(ji a b).map .bool else none
  | some n,.neq=>if a.length=n then(ji a b).map (fun t=>.bool !t)else none
  | _,_=>none
 | x,y=>
  match k,op with
  | some k,.eql=>(kB k x y).map .bool
  | some k,.neq=>(kB k x y).map fun t=>.bool !t
  | _,_=>none
theorem DC (k:TK) (x y:V):oV k x y=kB k.tag x y:=by
 cases k <;> cases y <;> (try rfl) <;> cases x <;> rfl
theorem J7 (E:Env) (op:BinOp) (t:TypeId) (x y:V):Bc E op t x y=jK ((E.dn t).map TK.tag) (E.eqN t) op x y:=by
 unfold Bc;split
 ·rfl
 ·rfl
 ·cases hk:E.dn t with
  | none=>rfl
  | some k=>cases k <;> cases op <;> rfl
 ·rfl
 ·rename_i h1 h2 h3 h4
  cases hk:E.dn t with
  | none=>rw[jK.eq_29 _ _ _ _ _ h1 h2 h3 h4 (by simp) (by simp)]
  | some k=>
   simp only[DC];cases op <;> first
    | exact(jK.eq_27 _ _ _ _ h1 h2 h3 h4).symm
    | exact(jK.eq_28 _ _ _ _ h1 h2 h3 h4).symm
    | (rw[jK.eq_29 _ _ _ _ _ h1 h2 h3 h4 (by simp) (by simp)])
inductive qH where
 | id|pick|nilc
 | bin (k:Option KT) (e:Option Nat) (op:BinOp)
 | not|neg
 | conv (k:IntKind)
 | fieldAddr (off:Nat)
 | field (off size:Nat) (agg:Bool)
 | idxS (size:Nat)
 | idxA (len size:Nat)
 | idxStr
 | idxArr (len size:Nat) (agg:Bool)
 | sliceStr (lo hi:Bool)
 | slice (size:Nat) (lo hi:Bool)
 | slice00
 | build (zero:List V) (pl:List (Nat×Nat))
 | clo (name:Nat) (k:Nat)
 | ext (i:Nat)
 | lenStr|lenSl|max|min
def Er:V→Option V
 | .hptr id el off=>some (.hptr id el off)
 | .fptr cs=>some (.fptr cs)
 | .clo f a b=>some (.clo f a b)
 | _=>none
def h_ (off:Nat):V→Option V
 | .fptr cs=>if off≤cs.length then some (.fptr (cs.drop off))else none
 | .hptr id el o=>some (.hptr id el (o+off))
 | _=>none
def kO (size:Nat) (s:V) (n:Int):Option V:=
 if n<0 then none else match s with
 | .fsl es xs=>if es=size then(xs[n.toNat]?).map .fptr else none
 | .hsl id es off len=>if es=size∧n.toNat<len then some (.hptr id (off+n.toNat) 0)else none
 | _=>none
def rj (len size:Nat) (p:V) (n:Int):Option V:=
 if 0≤n∧n<len then match p with
  | .fptr cs=>if n.toNat*size≤cs.length then some (.fptr (cs.drop (n.toNat*size)))else none
  | .hptr id el o=>some (.hptr id el (o+n.toNat*size))
  | _=>none
 else none
def jS:Bool→Bool→List V→Option (Option Int×Option Int)
 | false,false,[]=>some (none,none)
 | true,false,[.int _ l]=>some (some l,none)
 | false,true,[.int _ h]=>some (none,some h)
 | true,true,[.int _ l,.int _ h]=>some (some l,some h)
 | _,_,_=>none
def iI (size:Nat) (v:V) (l h:Option Int):Option V:=
 match v with
 | .fsl es xs=>if es=size then(dR xs.length l h).map fun (l,h)=>.fsl es ((xs.take h).drop l)else none
 | .hsl id es off len=>if es=size then(dR len l h).map fun (l,h)=>.hsl id es (off+l) (h-l)else none
 | .dY=>(dR 0 l h).map fun _=>.dY
 | .ay=>(dR 0 l h).map fun _=>.ay
 | _=>none
def DN:V→Bool
 | .fsl ..|.hsl ..|.dY|.ay=>true
 | _=>false
def iO (cells:List V):List (Nat×Nat)→List V→Option (List V)
 | [],[]=>some cells
 | (off,size)::pl,v::vs=>
  if v.cells.length≠size||off+v.cells.length>cells.length then none
  else iO (cells.take off++v.cells++cells.drop (off+v.cells.length)) pl vs
 | _,_=>none
def uG:V→Option V
 | .fsl _ xs=>some (.int .i64 xs.length)
 | .hsl _ _ _ len=>some (.int .i64 len)
 | .dY=>some (.int .i64 0)
 | .ay=>some (.int .i64 0)
 | _=>none
def aI (N:Nat→FuncId):qH→List V→Option V
 | .id,[x]=>some x
 | .pick,[.bool t,a,b]=>some (if t then a else b)
 | .nilc,[x]=>Er x
 | .bin k e op,[x,y]=>jK k e op x y
 | .not,[.bool b]=>some (.bool !b)
 | .neg,[.int k n]=>some (.int k (k.wrap (0-n)))
 | .conv k,[.int _ n]=>some (.int k (k.wrap n))
 | .fieldAddr off,[p]=>h_ off p
 | .field off size agg,[.agg cs]=>(cut cs off size).bind (mk agg)
 | .idxS size,[s,.int _ n]=>kO size s n
 | .idxA len size,[p,.int _ n]=>rj len size p n
 | .idxStr,[.str s,.int _ n]=>if 0≤n then(s[n.toNat]?).map (fun b=>.int .u8 b.toNat)else none
 | .idxArr len size agg,[.agg cs,.int _ n]=>if 0≤n∧n<len then(cut cs (n.toNat*size) size).bind (mk agg)else none
 | .sliceStr lo hi,.str s::bs=>(jS lo hi bs).bind fun (l,h)=>(dR s.size l h).map fun (l,h)=>.str (s.extract l h)
 | .slice size lo hi,v::bs=>(jS lo hi bs).bind fun (l,h)=>iI size v l h
 | .slice00,[v,.int _ h,.int _ m]=>if DN v&&h==0&&m==0 then some .dY else none
 | .build zero pl,vs=>(iO zero pl vs).map .agg
 | .clo name k,vs=>some (.clo (N name) (vs.take k) (vs.drop k))
 | .ext i,[.tup vs]=>vs[i]?
 | .lenStr,[.str s]=>some (.int .i64 s.size)
 | .lenSl,[v]=>uG v
 | .max,[.int k a,.int k' b]=>if k=k' then some (.int k (if b>a then b else a))else none
 | .min,[.int k a,.int k' b]=>if k=k' then some (.int k (if b<a then b else a))else none
 | _,_=>none
inductive rO where|int (k:IntKind)|str|ints (n:Nat)
def yu (E:Env) (t:TypeId):Option rO:=
 match E.dn t with
 | some (.int k)=>some (.int k)
 | some .str=>some .str
 | some _=>(E.eqN t).map .ints
 | none=>none
def kV:rO→V→Bool
 | .int k,.int k' _=>k==k'
 | .str,.str _=>true
 | .ints n,.agg cs=>cs.length==n&&(gV cs).isSome
 | _,_=>false
inductive FF where
 | load (size:Nat) (agg:Bool)
 | lookup (kk:rO) (zero:V) (ok:Bool)
def fu (H:an):FF→List V→Option V
 | .load size agg,[p]=>(dX H p size).bind (mk agg)
 | .lookup kk z ok,[m,k]=>match jx H m with
  | some kvs=>if kV kk k then match fQ k kvs 0 with
   | some (some (_,v))=>some (if ok then .tup [v,.bool true]else v)
   | some none=>some (if ok then .tup [z,.bool false]else z)
   | none=>none
   else none
  | none=>none
 | _,_=>none
inductive GP where
 | alloc (size:Nat) (zero:List V)
 | box
 | makeSl (size:Nat) (zero:List V)
 | buildSl (size len:Nat) (zero:List V) (idx:List Nat)
 | makeMap
def iM:GP→List V→Option (Ob×Mk)
 | .alloc size zero,[]=>some (.row size [zero],.ptr)
 | .box,[v]=>if v.cells.all V.one then some (.row v.cells.length [v.cells],.ptr)else none
 | .makeSl size zero,[.int k n,.int k' m]=>if k=.i64∧k'=.i64∧0≤n∧n≤m∧m≤2147483648 then some (.row size (List.replicate m.toNat zero),.sl size n.toNat)else none
 | .buildSl size len zero idx,vs=>if idx.length=vs.length then(fH size (List.replicate len zero) (idx.zip vs)).map fun xs=>(.row size xs,.sl size len)else none
 | .makeMap,[]=>some (.map [],.map)
 | _,_=>none
inductive Du where
 | store (size:Nat)
 | storeF (size:Nat)
 | mapUp (kk:rO)
 | append (size:Nat)
def gA (H:an):Du→List V→Option (V×an)
 | .store size,[.hptr id el off,v]=>match H[id]? with
  | some (.row es xs)=>match xs[el]? with
   | some cs=>if v.cells.length=size∧off+size≤cs.length∧v.cells.all V.one=true then
    some (.undef,H.set id (.row es (xs.set el (cs.take off++v.cells++cs.drop (off+v.cells.length)))))else none
   | none=>none
  | _=>none
 | .mapUp kk,[.hmap id,k,v]=>match H[id]? with
  | some (.map kvs)=>if kV kk k then(kX k v kvs).map fun kvs=>(.undef,H.set id (.map kvs))else none
  | _=>none
 | .append size,[s,x]=>match ec H size s,ec H size x with
  | some _,some []=>some (s,H)
  | some xs,some ys=>if xs.length+ys.length≤2147483648 then(iE H s).map fun H1=>(.hsl H.length size 0 (xs.length+ys.length),H1++[.row size (xs++ys)])else none
  | _,_=>none
 | .storeF size,.hptr id el off::v::l=>if l.all (oT id)=true then match H[id]? with
  | some (.row es xs)=>match xs[el]? with
   | some cs=>if v.cells.length=size∧off+size≤cs.length∧v.cells.all V.one=true then
    some (.undef,H.set id (.row es (xs.set el (cs.take off++v.cells++cs.drop (off+v.cells.length)))))else none
   | none=>none
  | _=>none
  else none
 | _,_=>none
inductive K where
 | p (p:qH)
 | r (r:FF)
 | a (a:GP)
 | l (l:Du)
 | c
def ND (E:Env) (t:TypeId):Option KT:=(E.dn t).map TK.tag
def resolve (E:Env) (nm:FuncId→Option Nat):Op→Option (K×List Operand)
 | .move x|.assign x=>some (.p .id,[x])
 | .pick c a b=>some (.p .pick,[c,a,b])
 | .nilCheck x=>some (.p .nilc,[x])
 | .binOp op t x y _=>some (.p (.bin (ND E t) (E.eqN t) op),[x,y])
 | .unOp .not _ x=>some (.p .not,[x])
 | .unOp .neg _ x=>some (.p .neg,[x])
 | .convert s d x=>match E.tt s,E.tt d with
  | some _,some td=>match td.kind with
   | .int k=>some (.p (.conv k),[x])
   | _=>none
  | _,_=>none
 | .fieldAddr s x f=>match E.dn s with
  | some (.struct fs)=>match fs[f]? with
   | some (off,t)=>match E.tt t with
    | some d=>if d.size=0 then none else some (.p (.fieldAddr off),[x])
    | none=>none
   | none=>none
  | _=>none
 | .field s x f=>match E.dn s with
  | some (.struct fs)=>match fs[f]? with
   | some (off,t)=>match E.tt t with
    | some d=>some (.p (.field off d.size d.agg),[x])
    | none=>none
   | none=>none
  | _=>none
 | .indexAddr t x i=>match E.dn t with
  | some (.slice e)=>(E.tt e).map fun d=>(.p (.idxS d.size),[x,i])
  | some (.array len e)=>(E.tt e).map fun d=>(.p (.idxA len d.size),[x,i])
  | _=>none
 | .index t x i=>match E.dn t with
  | some .str=>some (.p .idxStr,[x,i])
  | some (.array len e)=>(E.tt e).map fun d=>(.p (.idxArr len d.size d.agg),[x,i])
  | _=>none
 | .slice t x lo hi mx=>match E.dn t,mx with
  | some .str,none=>some (.p (.sliceStr lo.isSome hi.isSome),x::(lo.toList++hi.toList))
  | some (.slice e),none=>(E.tt e).map fun d=>(.p (.slice d.size lo.isSome hi.isSome),x::(lo.toList++hi.toList))
  | some (.slice e),some m=>match E.tt e,lo,hi with
   | some _,none,some h=>some (.p .slice00,[x,h,m])
   | _,_,_=>none
  | _,_=>none
 | .build t ps=>match E.tt t with
  | some d=>match d.kind with
   | .struct fs=>match jJ E fs with
    | some pl=>(ps.toList.mapM fun (q:Nat×Operand)=>pl[q.1]?).map fun q=>(K.p (.build d.zero q),ps.toList.map fun (q:Nat×Operand)=>q.2)
    | none=>none
   | .array _ e=>(E.tt e).map fun de=>(K.p (.build d.zero (ps.toList.map fun (q:Nat×Operand)=>(q.1*de.size,de.size))),ps.toList.map fun (q:Nat×Operand)=>q.2)
   | _=>none
  | none=>none
 | .makeFunc (.func f) a b=>(nm f).map fun s=>(.p (.clo s a.toList.length),a.toList++b.toList)
 | .extract x i=>some (.p (.ext i),[x])
 | .load t a=>(E.tt t).map fun d=>(.r (.load d.size d.agg),[a])
 | .lookup t m k ok=>match E.dn t with
  | some (.map kt et)=>match E.tt et,yu E kt with
   | some d,some kk=>(mk d.agg d.zero).map fun z=>(.r (.lookup kk z ok),[m,k])
   | _,_=>none
  | _=>none
 | .alloc t=>(E.tt t).map fun d=>(.a (.alloc d.size d.zero),[])
 | .box _ x=>some (.a .box,[x])
 | .makeSlice t l c=>match E.dn t with
  | some (.slice e)=>match E.tt e with
   | some d=>if d.bytes≤4096 then some (.a (.makeSl d.size d.zero),[l,c])else none
   | none=>none
  | _=>none
 | .buildSlice t len ps=>match E.dn t with
  | some (.slice e)=>match E.tt e with
   | some d=>if len*d.size≤16777216 then some (.a (.buildSl d.size len d.zero (ps.toList.map (·.1))),ps.toList.map (·.2))else none
   | none=>none
  | _=>none
 | .makeMap _ none=>some (.a .makeMap,[])
 | .store t a x=>(E.tt t).map fun d=>(.l (.store d.size),[a,x])
 | .mapUpdate t m k x=>match E.dn t with
  | some (.map kt _)=>(yu E kt).map fun kk=>(.l (.mapUp kk),[m,k,x])
  | _=>none
 | .call { callee:=.builtin .append,args,argTypes }=>match argTypes.toList,args.toList with
  | [t,t'],[s,x]=>match E.dn t,E.dn t' with
   | some (.slice e),some (.slice _)=>match E.tt e with
    | some d=>if d.bytes≤4096∧0<d.bytes then some (.l (.append d.size),[s,x])else none
    | none=>none
   | _,_=>none
  | _,_=>none
 | .call { callee:=.builtin .len,args,argTypes }=>match argTypes[0]?,args.toList with
  | some t,[x]=>match E.dn t with
   | some .str=>some (.p .lenStr,[x])
   | some (.slice _)=>some (.p .lenSl,[x])
   | _=>none
  | _,_=>none
 | .call { callee:=.builtin .max,args,.. }=>match args.toList with
  | [x,y]=>some (.p .max,[x,y])
  | _=>none
 | .call { callee:=.builtin .min,args,.. }=>match args.toList with
  | [x,y]=>some (.p .min,[x,y])
  | _=>none
 | .call { callee:=.value f,args,.. }=>some (.c,f::args.toList)
 | _=>none
end Go.VE
namespace Go.VE
section
variable {E:Env} {nm:FuncId→Option Nat} {N:Nat→FuncId} {F:Frame}
theorem lY {x:Operand} {vs:List V} (h:fP F [x]=some vs):∃a,ev F x=some a∧vs=[a]:=by
 simp only[fP]at h;split at h
 ·rename_i a bs ha hb;simp only[Za]at h hb;subst h;subst hb;exact⟨a,ha,rfl⟩
 ·simp at h
theorem hG {x:Operand} {l:List Operand} {vs:List V} (h:fP F (x::l)=some vs):∃a as,ev F x=some a∧fP F l=some as∧vs=a::as:=by
 simp only[fP]at h;split at h
 ·rename_i a bs ha hb;simp only[Za]at h;subst h;exact⟨a,bs,ha,hb,rfl⟩
 ·simp at h
theorem nW {vs:List V} (h:fP F []=some vs):vs=[]:=by simp only[fP,Za]at h;exact h.symm
theorem oh {x y:Operand} {vs:List V} (h:fP F [x,y]=some vs):∃a b,ev F x=some a∧ev F y=some b∧vs=[a,b]:=by
 obtain⟨a,as,ha,h2,rfl⟩:=hG h;obtain⟨b,hb,rfl⟩:=lY h2;exact⟨a,b,ha,hb,rfl⟩
theorem H9 {x y z:Operand} {vs:List V} (h:fP F [x,y,z]=some vs):∃a b c,ev F x=some a∧ev F y=some b∧ev F z=some c∧vs=[a,b,c]:=by
 obtain⟨a,as,ha,h2,rfl⟩:=hG h;obtain⟨b,c,hb,hc,rfl⟩:=oh h2;exact⟨a,b,c,ha,hb,hc,rfl⟩
theorem Ek {l m:List Operand} {vs:List V} (h:fP F (l++m)=some vs):∃as bs,fP F l=some as∧fP F m=some bs∧vs=as++bs:=by
 induction l generalizing vs with
 | nil=>exact⟨[],vs,rfl,h,rfl⟩
 | cons x l ih=>
  obtain⟨a,as,ha,h2,rfl⟩:=hG h;obtain⟨b,c,hb,hc,rfl⟩:=ih h2;refine⟨a::b,c,?_,hc,rfl⟩;simp only[fP,ha,hb]
theorem Ef {l:List Operand} {vs:List V} (h:fP F l=some vs):vs.length=l.length:=by
 induction l generalizing vs with
 | nil=>rw[nW h];rfl
 | cons x l ih=>obtain⟨a,as,_,h2,rfl⟩:=hG h;simp[ih h2]
def DW (E:Env) (N:Nat→FuncId) (F:Frame) (op:Op) (vs:List V):K→Prop
 | .p p=>eG op=.pure∧∀v,aI N p vs=some v→aN E F op=some v
 | .r r=>eG op=.read∧∀H v,fu H r vs=some v→dg E F H op=some v
 | .a a=>eG op=.alloc∧∀x,iM a vs=some x→ez E F op=some x
 | .l l=>eG op=.loud∧∀H x,gA H l vs=some x→d5 E F H op=some x
 | .c=>eG op=.call∧∃f as,vs=f::as∧gR F op=(match f with|.clo g a b=>some (.fn g,a++as++b)|.yld id=>some (.yld id,as)|_=>none)
theorem Cq (place:Nat→Option (Nat×Nat)):∀(ps:List (Nat×Operand)) (q:List (Nat×Nat)) (vs:List V) (cells cs:List V),(ps.mapM fun (x:Nat×Operand)=>place x.1)=some q →
 fP F (ps.map fun (x:Nat×Operand)=>x.2)=some vs→iO cells q vs=some cs→∃ws,jm F ps=some ws∧oJ place cells ws=some cs:=by
 intro ps
 induction ps with
 | nil=>
  intro q vs cells cs hq hv h;simp only[List.mapM_nil,Option.pure_def,Za]at hq;subst hq;have:=nW (by simpa using hv);subst this
  simp only[iO,Za]at h;subst h;exact⟨[],rfl,rfl⟩
 | cons p ps ih=>
  intro q vs cells cs hq hv h;obtain⟨i,x⟩:=p;simp only[List.mapM_cons,Option.pure_def,Option.bind_eq_bind,Zi,Za]at hq;obtain⟨pl,hpl,q',hq',rfl⟩:=hq;obtain⟨a,as,ha,hv',rfl⟩:=hG (by simpa using hv)
  obtain⟨off,size⟩:=pl;simp only[iO]at h;split at h
  ·simp at h
  ·rename_i hc;obtain⟨ws,h1,h2⟩:=ih q' as _ cs hq' hv' h;refine⟨(i,a)::ws,by simp only[jm,ha,h1],?_⟩
   simp only[oJ,hpl];rw[if_neg hc];exact h2
theorem Fc:∀(ps:List (Nat×Operand)) (vs:List V),fP F (ps.map fun (x:Nat×Operand)=>x.2)=some vs→jm F ps=some ((ps.map fun (x:Nat×Operand)=>x.1).zip vs):=by
 intro ps
 induction ps with
 | nil=>intro vs hv;simp[jm]
 | cons p ps ih=>
  intro vs hv;obtain⟨i,x⟩:=p;obtain⟨a,as,ha,hv',rfl⟩:=hG (by simpa using hv)
  simp only[jm,ha,ih as hv',List.map_cons,List.zip_cons_cons]
theorem Bu {lo hi:Option Operand} {vs:List V} {l h:Option Int} (hv:fP F (lo.toList++hi.toList)=some vs) (hb:jS lo.isSome hi.isSome vs=some (l,h)):gQ F lo=some l∧gQ F hi=some h:=by
 cases lo with
 | none=>
  cases hi with
  | none=>
   have:=nW (by simpa using hv);subst this;simp[jS]at hb
   obtain⟨rfl,rfl⟩:=hb;exact⟨rfl,rfl⟩
  | some y=>
   obtain⟨b,hb',rfl⟩:=lY (by simpa using hv)
   cases b <;> simp[jS]at hb;obtain⟨rfl,rfl⟩:=hb;simp[gQ,hb']
 | some x=>
  cases hi with
  | none=>
   obtain⟨b,hb',rfl⟩:=lY (by simpa using hv)
   cases b <;> simp[jS]at hb;obtain⟨rfl,rfl⟩:=hb;simp[gQ,hb']
  | some y=>
   obtain⟨a,b,ha,hb',rfl⟩:=oh (by simpa using hv)
   cases a <;> cases b <;> simp[jS]at hb;obtain⟨rfl,rfl⟩:=hb;simp[gQ,ha,hb']
theorem zP {t:TypeId} {kk:rO} {k:V} (h:yu E t=some kk) (hk:kV kk k=true):u9 E t k=true:=by
 unfold yu at h;unfold u9
 cases hki:E.dn t with
 | none=>rw[hki]at h;simp at h
 | some tk=>
  rw[hki]at h;have gen:(E.eqN t).map rO.ints=some kk→∃n cs,E.eqN t=some n∧k=.agg cs∧(cs.length==n&&(gV cs).isSome)=true:=by
   intro h;simp only[Zh]at h;obtain⟨n,hn,rfl⟩:=h;cases k <;> simp only[kV]at hk <;> first|cases hk;done|exact⟨n,_,hn,rfl,hk⟩
  cases tk with
  | int ik=>
   simp only[Za]at h;subst h;cases k <;> simp[kV]at hk;subst hk;simp
  | str=>
   simp only[Za]at h;subst h;cases k <;> simp[kV]at hk;rfl
  | _=>
   obtain⟨n,cs,h1,rfl,h2⟩:=gen h;simp only[h1];exact h2
theorem nL (hN:∀f s,nm f=some s→N s=f) {op:Op} {k:K} {os:List Operand} {vs:List V} (h:resolve E nm op=some (k,os)) (hv:fP F os=some vs):DW E N F op vs k:=by
 cases op with
 | move x=>
  simp only[resolve,Za,Zd]at h;obtain⟨rfl,rfl⟩:=h;obtain⟨a,ha,rfl⟩:=lY hv;exact⟨rfl,fun v hp=>by simpa [aI,aN,ha]using hp⟩
 | assign x=>
  simp only[resolve,Za,Zd]at h;obtain⟨rfl,rfl⟩:=h;obtain⟨a,ha,rfl⟩:=lY hv;exact⟨rfl,fun v hp=>by simpa [aI,aN,ha]using hp⟩
 | pick c a b=>
  simp only[resolve,Za,Zd]at h;obtain⟨rfl,rfl⟩:=h;obtain⟨x,y,z,hx,hy,hz,rfl⟩:=H9 hv;refine⟨rfl,fun v hp => ?_⟩
  cases x <;> simp[aI]at hp;rename_i t;subst hp;cases t <;> simp[aN,hx,hy,hz]
 | nilCheck x=>
  simp only[resolve,Za,Zd]at h;obtain⟨rfl,rfl⟩:=h;obtain⟨a,ha,rfl⟩:=lY hv;refine⟨rfl,fun v hp => ?_⟩
  cases a <;> simp[aI,Er]at hp <;> subst hp <;> simp[aN,ha]
 | binOp bop t x y yt=>
  simp only[resolve,Za,Zd]at h;obtain⟨rfl,rfl⟩:=h;obtain⟨a,b,ha,hb,rfl⟩:=oh hv;exact⟨rfl,fun v hp=>by simp only[aN,ha,hb,J7];exact hp⟩
 | unOp u t x=>
  cases u with
  | not=>
   simp only[resolve,Za,Zd]at h;obtain⟨rfl,rfl⟩:=h;obtain⟨a,ha,rfl⟩:=lY hv;refine⟨rfl,fun v hp => ?_⟩
   cases a <;> simp[aI]at hp;subst hp;simp[aN,ha]
  | neg=>
   simp only[resolve,Za,Zd]at h;obtain⟨rfl,rfl⟩:=h;obtain⟨a,ha,rfl⟩:=lY hv;refine⟨rfl,fun v hp => ?_⟩
   cases a <;> simp[aI]at hp;subst hp;simp[aN,ha]
  | _=>simp[resolve]at h
 | convert s d x=>
  simp only[resolve]at h;split at h
  ·rename_i sd td hs hd;split at h
   ·rename_i k hk;simp only[Za,Zd]at h;obtain⟨rfl,rfl⟩:=h;obtain⟨a,ha,rfl⟩:=lY hv;refine⟨rfl,fun v hp => ?_⟩
    cases a <;> simp[aI]at hp;subst hp;simp[aN,ha,hs,hd,hk]
   ·simp at h
  ·simp at h
 | fieldAddr s x f=>
  simp only[resolve]at h;split at h
  ·rename_i fs hk;split at h
   ·rename_i off t hf;split at h
    ·rename_i d hd;split at h
     ·simp at h
     ·rename_i hz;simp only[Za,Zd]at h;obtain⟨rfl,rfl⟩:=h;obtain⟨a,ha,rfl⟩:=lY hv;refine⟨rfl,fun v hp => ?_⟩
      simp only[aN,ha,hk,hf,hd,if_neg hz];simp only[aI,h_]at hp;cases a <;> simp at hp ⊢ <;> exact hp
    ·simp at h
   ·simp at h
  ·simp at h
 | field s x f=>
  simp only[resolve]at h;split at h
  ·rename_i fs hk;split at h
   ·rename_i off t hf;split at h
    ·rename_i d hd;simp only[Za,Zd]at h;obtain⟨rfl,rfl⟩:=h;obtain⟨a,ha,rfl⟩:=lY hv;refine⟨rfl,fun v hp => ?_⟩
     cases a <;> simp only[aI]at hp <;> first|(simp only[aN,ha,hk,hf,hd];exact hp)|simp at hp
    ·simp at h
   ·simp at h
  ·simp at h
 | indexAddr t x i=>
  simp only[resolve]at h;split at h
  ·rename_i e hk;simp only[Zh,Zd]at h;obtain⟨d,hd,rfl,rfl⟩:=h;obtain⟨a,b,ha,hb,rfl⟩:=oh hv;refine⟨rfl,fun v hp => ?_⟩
   cases b <;> simp only[aI]at hp <;> first|simp at hp;done|skip
   simp only[aN,ha,hb,hk,hd];unfold kO at hp;exact hp
  ·rename_i len e hk;simp only[Zh,Zd]at h;obtain⟨d,hd,rfl,rfl⟩:=h;obtain⟨a,b,ha,hb,rfl⟩:=oh hv;refine⟨rfl,fun v hp => ?_⟩
   cases b <;> simp only[aI]at hp <;> first|simp at hp;done|skip
   simp only[aN,ha,hb,hk,hd];unfold rj at hp;exact hp
  ·simp at h
 | index t x i=>
  simp only[resolve]at h;split at h
  ·rename_i hk;simp only[Za,Zd]at h;obtain⟨rfl,rfl⟩:=h;obtain⟨a,b,ha,hb,rfl⟩:=oh hv;refine⟨rfl,fun v hp => ?_⟩
   cases a <;> cases b <;> simp only[aI]at hp <;> first|simp at hp;done|skip
   simp only[aN,ha,hb,hk];exact hp
  ·rename_i len e hk;simp only[Zh,Zd]at h;obtain⟨d,hd,rfl,rfl⟩:=h;obtain⟨a,b,ha,hb,rfl⟩:=oh hv;refine⟨rfl,fun v hp => ?_⟩
   cases a <;> cases b <;> simp only[aI]at hp <;> first|simp at hp;done|skip
   simp only[aN,ha,hb,hk,hd];exact hp
  ·simp at h
 | slice t x lo hi mx=>
  simp only[resolve]at h;split at h
  ·rename_i hk;simp only[Za,Zd]at h;obtain⟨rfl,rfl⟩:=h;obtain⟨a,bs,ha,hb,rfl⟩:=hG hv;refine⟨rfl,fun v hp => ?_⟩
   cases a <;> simp only[aI]at hp <;> first|simp at hp;done|skip
   obtain⟨⟨l,h⟩,hbn,hp⟩:=Zi.1 hp;obtain⟨h1,h2⟩:=Bu hb hbn;have hm:gQ F none=some none:=rfl;simp only[aN,ha,hk,h1,h2,hm];exact hp
  ·rename_i e hk;simp only[Zh,Zd]at h;obtain⟨d,hd,rfl,rfl⟩:=h;obtain⟨a,bs,ha,hb,rfl⟩:=hG hv;refine⟨rfl,fun v hp => ?_⟩
   simp only[aI]at hp;obtain⟨⟨l,h⟩,hbn,hp⟩:=Zi.1 hp;obtain⟨h1,h2⟩:=Bu hb hbn;have hm:gQ F none=some none:=rfl;simp only[aN,ha,hk,h1,h2,hm,hd];cases a <;> exact hp
  ·rename_i e m hk;split at h
   ·rename_i d hh hd;simp only[Za,Zd]at h;obtain⟨rfl,rfl⟩:=h;obtain⟨a,b,c,ha,hb,hc,rfl⟩:=H9 hv;refine⟨rfl,fun v hp => ?_⟩
    cases b <;> cases c <;> simp only[aI]at hp <;> first|simp at hp;done|skip
    rename_i k1 n1 k2 n2;split at hp
    ·rename_i hcnd;simp only[Zj,beq_iff_eq]at hcnd;obtain⟨⟨h1,rfl⟩,rfl⟩:=hcnd;have m1:gQ F none=some none:=rfl;have m2:gQ F (some hh)=some (some 0):=by simp[gQ,hb]
     have m3:gQ F (some m)=some (some 0):=by simp[gQ,hc]
     simp only[aN,ha,hk,m1,m2,m3,hd];cases a <;> simp[DN]at h1 <;> exact hp
    ·simp at hp
   ·simp at h
  ·simp at h
 | build t ps=>
  simp only[resolve]at h;split at h
  ·rename_i d hd;split at h
   ·rename_i fs hk;split at h
    ·rename_i pl hpl;simp only[Zh,Zd]at h;obtain⟨q,hq,rfl,rfl⟩:=h;refine⟨rfl,fun v hp => ?_⟩
     simp only[aI,Zh]at hp;obtain⟨cs,hcs,rfl⟩:=hp;obtain⟨ws,w1,w2⟩:=Cq (fun i=>pl[i]?) _ q vs _ cs hq hv hcs
     simp only[aN,hd,w1,hk,hpl,w2,Option.map_some]
    ·simp at h
   ·rename_i len e hk;simp only[Zh,Zd]at h;obtain⟨de,hde,rfl,rfl⟩:=h;refine⟨rfl,fun v hp => ?_⟩
    simp only[aI,Zh]at hp;obtain⟨cs,hcs,rfl⟩:=hp;obtain⟨ws,w1,w2⟩:=Cq (fun i=>some (i*de.size,de.size)) ps.toList (ps.toList.map fun (q:Nat×Operand)=>(q.1*de.size,de.size)) vs _ cs (by
     generalize ps.toList=l
     induction l with
     | nil=>rfl
     | cons x l ih=>simp[List.mapM_cons,ih]) hv hcs
    simp only[aN,hd,w1,hk,hde,w2,Option.map_some]
   ·simp at h
  ·simp at h
 | makeFunc f a b=>
  cases f with
  | func f=>
   simp only[resolve,Zh,Zd]at h;obtain⟨s,hs,rfl,rfl⟩:=h;obtain⟨as,bs,ha,hb,rfl⟩:=Ek hv;refine⟨rfl,fun v hp => ?_⟩
   simp only[aI,Za]at hp;subst hp;simp only[aN,ha,hb,hN f s hs];rw[←Ef ha];simp
  | _=>simp[resolve]at h
 | extract x i=>
  simp only[resolve,Za,Zd]at h;obtain⟨rfl,rfl⟩:=h;obtain⟨a,ha,rfl⟩:=lY hv;refine⟨rfl,fun v hp => ?_⟩
  cases a <;> simp only[aI]at hp <;> first|simp at hp;done|skip
  simp only[aN,ha];exact hp
 | load t x=>
  simp only[resolve,Zh,Zd]at h;obtain⟨d,hd,rfl,rfl⟩:=h;obtain⟨a,ha,rfl⟩:=lY hv;exact⟨rfl,fun H v hp=>by simp only[dg,hd,ha];exact hp⟩
 | lookup t m k ok=>
  simp only[resolve]at h;split at h
  ·rename_i kt et hk;split at h
   ·rename_i d kk hd hkk;simp only[Zh,Zd]at h;obtain⟨z,hz,rfl,rfl⟩:=h;obtain⟨a,b,ha,hb,rfl⟩:=oh hv;refine⟨rfl,fun H v hp => ?_⟩
    simp only[fu]at hp;split at hp
    ·rename_i kvs hkv;split at hp
     ·rename_i hko;simp only[dg,hk,ha,hb,hd,hkv,zP hkk hko,if_true,hz];split at hp
      ·rename_i hf;rw[hf];exact hp
      ·rename_i hf;rw[hf];exact hp
      ·simp at hp
     ·simp at hp
    ·simp at hp
   ·simp at h
  ·simp at h
 | alloc t=>
  simp only[resolve,Zh,Zd]at h;obtain⟨d,hd,rfl,rfl⟩:=h;have:=nW hv;subst this;exact⟨rfl,fun x hp=>by simpa [iM,ez,hd]using hp⟩
 | box t x=>
  simp only[resolve,Za,Zd]at h;obtain⟨rfl,rfl⟩:=h;obtain⟨a,ha,rfl⟩:=lY hv;exact⟨rfl,fun x hp=>by simp only[ez,ha];exact hp⟩
 | makeSlice t l c=>
  simp only[resolve]at h;split at h
  ·rename_i e hk;split at h
   ·rename_i d hd;split at h
    ·rename_i hby;simp only[Za,Zd]at h;obtain⟨rfl,rfl⟩:=h;obtain⟨a,b,ha,hb,rfl⟩:=oh hv;refine⟨rfl,fun x hp => ?_⟩
     cases a <;> cases b <;> simp only[iM]at hp <;> first|simp at hp;done|skip
     rename_i k1 n1 k2 n2;split at hp
     ·rename_i hc;simp only[ez,hk,ha,hb,hd];rw[if_pos ⟨hc.1,hc.2.1,hc.2.2.1,hc.2.2.2.1,hc.2.2.2.2,hby⟩];exact hp
     ·simp at hp
    ·simp at h
   ·simp at h
  ·simp at h
 | buildSlice t len ps=>
  simp only[resolve]at h;split at h
  ·rename_i e hk;split at h
   ·rename_i d hd;split at h
    ·rename_i hby;simp only[Za,Zd]at h;obtain⟨rfl,rfl⟩:=h;refine⟨rfl,fun x hp => ?_⟩
     have hz:=Fc _ _ hv;simp only[iM]at hp;split at hp
     ·simp only[ez,hk,hz,hd,if_pos hby];exact hp
     ·simp at hp
    ·simp at h
   ·simp at h
  ·simp at h
 | makeMap t r=>
  cases r with
  | none=>
   simp only[resolve,Za,Zd]at h;obtain⟨rfl,rfl⟩:=h;have:=nW hv;subst this;exact⟨rfl,fun x hp=>by simpa [iM,ez]using hp⟩
  | some r=>simp[resolve]at h
 | store t p x=>
  simp only[resolve,Zh,Zd]at h;obtain⟨d,hd,rfl,rfl⟩:=h;obtain⟨a,b,ha,hb,rfl⟩:=oh hv;refine⟨rfl,fun H v hp => ?_⟩
  cases a <;> simp only[gA]at hp <;> first|simp at hp;done|skip
  simp only[d5,hd,ha,hb];exact hp
 | mapUpdate t m k x=>
  simp only[resolve]at h;split at h
  ·rename_i kt et hk;simp only[Zh,Zd]at h;obtain⟨kk,hkk,rfl,rfl⟩:=h;obtain⟨a,b,c,ha,hb,hc,rfl⟩:=H9 hv;refine⟨rfl,fun H v hp => ?_⟩
   cases a <;> simp only[gA]at hp <;> first|simp at hp;done|skip
   simp only[d5,hk,ha,hb,hc];split at hp
   ·rename_i kvs hkv;split at hp
    ·rename_i hko;rw[hkv];simp only[zP hkk hko,if_true];exact hp
    ·simp at hp
   ·simp at hp
  ·simp at h
 | call c=>
  obtain⟨callee,args,ats⟩:=c
  cases callee with
  | value f=>
   simp only[resolve,Za,Zd]at h;obtain⟨rfl,rfl⟩:=h;obtain⟨a,as,ha,has,rfl⟩:=hG hv;refine⟨rfl,a,as,rfl,?_⟩;simp only[gR,ha,has];cases a <;> rfl
  | builtin b=>
   cases b with
   | append=>
    simp only[resolve]at h;split at h
    ·rename_i t t' s x hats hargs;split at h
     ·rename_i e e' hk hk';split at h
      ·rename_i d hd;split at h
       ·rename_i hby;simp only[Za,Zd]at h;obtain⟨rfl,rfl⟩:=h;obtain⟨a,b,ha,hb,rfl⟩:=oh hv;refine⟨rfl,fun H v hp => ?_⟩
        have hev:fP F args.toList=some [a,b]:=by rw[hargs];exact hv
        simp only[d5,hats,hev,hk,hk',hd];simp only[gA]at hp;split at hp
        ·rename_i h1 h2;rw[h1,h2];exact hp
        ·rename_i xs ys hne h1 h2;rw[h1,h2];split at hp
         ·rename_i hle;simp only[if_pos (show xs.length+ys.length≤2147483648∧d.bytes≤4096∧0<d.bytes from⟨hle,hby⟩)]
          cases ys with
          | nil=>exact absurd rfl hne
          | cons y ys=>exact hp
         ·simp at hp
        ·simp at hp
       ·simp at h
      ·simp at h
     ·simp at h
    ·simp at h
   | len=>
    simp only[resolve]at h;split at h
    ·rename_i t x hats hargs;split at h
     ·rename_i hk;simp only[Za,Zd]at h;obtain⟨rfl,rfl⟩:=h;obtain⟨a,ha,rfl⟩:=lY hv;have hev:fP F args.toList=some [a]:=by rw[hargs];exact hv
      refine⟨rfl,fun v hp => ?_⟩
      cases a <;> simp only[aI]at hp <;> first|simp at hp;done|skip
      simp only[aN,hev,hats,hk];exact hp
     ·rename_i e hk;simp only[Za,Zd]at h;obtain⟨rfl,rfl⟩:=h;obtain⟨a,ha,rfl⟩:=lY hv;have hev:fP F args.toList=some [a]:=by rw[hargs];exact hv
      refine⟨rfl,fun v hp => ?_⟩
      simp only[aN,hev,hats,hk];simp only[aI,uG]at hp;cases a <;> simp at hp ⊢ <;> exact hp
     ·simp at h
    ·simp at h
   | max=>
    simp only[resolve]at h;split at h
    ·rename_i x y hargs;simp only[Za,Zd]at h;obtain⟨rfl,rfl⟩:=h;obtain⟨a,b,ha,hb,rfl⟩:=oh hv;have hev:fP F args.toList=some [a,b]:=by rw[hargs];exact hv
     refine⟨rfl,fun v hp => ?_⟩
     cases a <;> cases b <;> simp only[aI]at hp <;> first|simp at hp;done|skip
     simp only[aN,hev];exact hp
    ·simp at h
   | min=>
    simp only[resolve]at h;split at h
    ·rename_i x y hargs;simp only[Za,Zd]at h;obtain⟨rfl,rfl⟩:=h;obtain⟨a,b,ha,hb,rfl⟩:=oh hv;have hev:fP F args.toList=some [a,b]:=by rw[hargs];exact hv
     refine⟨rfl,fun v hp => ?_⟩
     cases a <;> cases b <;> simp only[aI]at hp <;> first|simp at hp;done|skip
     simp only[aN,hev];exact hp
    ·simp at h
   | _=>simp[resolve]at h
  | _=>simp[resolve]at h
 | _=>simp[resolve]at h
end
end Go.VE
namespace Go.VE
def tQ (c c':dN):Prop:=∀x a H r,c x a H=some r→c' x a H=some r
section
variable {E:Env} {c c':dN} {n:Nat} {ops:List Oper} {F F':Frame} {H H':an}
theorem qp (h:tQ c c') {f:FuncId} {args:List V} {y:V} (hi:dD c f args H=some y):dD c' f args H=some y:=by
 unfold dD at hi ⊢;split at hi
 ·split at hi
  ·rename_i hc;rw[h _ _ _ _ hc];exact hi
  ·simp at hi
 ·simp at hi
theorem BP (h:tQ c c') {f:FuncId} {args:List V} {r:V×an} (hi:jr c f args H=some r):jr c' f args H=some r:=by
 unfold jr at hi ⊢;split at hi
 ·split at hi
  ·rename_i hc;rw[h _ _ _ _ hc];exact hi
  ·simp at hi
 ·simp at hi
theorem tX (h:tQ c c') {f:FuncId} {args:List V} {r:V×an} (hi:e7 E c f args H=some r):e7 E c' f args H=some r:=by
 unfold e7 at hi ⊢;split
 ·rename_i ho;rw[if_pos ho]at hi;exact BP h hi
 ·rename_i ho;rw[if_neg ho]at hi;exact h _ _ _ _ hi
theorem uh {f:FuncId} {args:List V} {y y':V} {b:Nat} (h1:dD c f args (H.take b)=none) (h2:dD c f args H=some y) (h3:dD c' f args (H.take b)=some y'):False:=by
 unfold dD at h1 h2 h3;split at h3
 ·rename_i as has;have hb:borrows 8 H args=some as:=jD (vZ 8) has;rw[hb]at h2;rw[has]at h1;simp only at h1 h2;rw[h1]at h2;simp at h2
 ·simp at h3
theorem Fp (h:tQ c c') {place:Option (Nat×Nat)} {op:Op} {r:V×an} (hi:dL E c ops place F H op=some r):dL E c' ops place F H op=some r:=by
 unfold dL at hi ⊢;split at hi
 ·exact hi
 ·exact hi
 ·exact hi
 ·exact hi
 ·split at hi
  ·rename_i f args hca;split at hi
   ·rename_i hk;rw[if_pos hk];split at hi
    ·exact tX h hi
    ·skip
     split at hi
     ·rename_i hl;rw[if_pos hl];exact tX h hi
     ·simp at hi
   ·rename_i hk;rw[if_neg hk];split at hi
    ·skip
     split at hi
     ·rename_i y hy;rw[qp h hy];exact hi
     ·simp at hi
    ·rename_i b i
     skip
     split at hi
     ·rename_i y hy;rw[qp h hy];exact hi
     ·rename_i hnone;split at hi
      ·rename_i hl;split at hi
       ·rename_i y hy
        cases h3:dD c' f args (List.take b H)with
        | some y'=>exact(uh hnone hy h3).elim
        | none=>simp only[if_pos hl,qp h hy];exact hi
       ·simp at hi
      ·simp at hi
  ·rename_i id args hca;split at hi
   ·exact h _ _ _ _ hi
   ·skip
    split at hi
    ·rename_i hl;rw[if_pos hl];exact h _ _ _ _ hi
    ·simp at hi
  ·simp at hi
theorem yq (h:tQ c c') {place:Option (Nat×Nat)} {o:Oper} {r:Frame×an} (hi:eW E c n ops place o F H=some r):eW E c' n ops place o F H=some r:=by
 unfold eW at hi ⊢;split at hi
 ·rename_i hw;rw[if_pos hw];split at hi
  ·rename_i v H1 hd;rw[Fp h hd];exact hi
  ·simp at hi
 ·rename_i hw;rw[if_neg hw];exact hi
theorem vL (h:tQ c c') {r:Frame×an}:∀(l:List Oper) {F:Frame} {H:an},i_ E c n ops l F H=some r→i_ E c' n ops l F H=some r
 | [],_,_,hi=>hi
 | o::l,F,H,hi=>by
  simp only[i_]at hi ⊢;split at hi
  ·rename_i F1 H1 hs;rw[yq h hs];exact vL h l hi
  ·simp at hi
theorem vE (h:tQ c c') {base:Nat} {r:Frame×an}:∀(l:List Nat) {F:Frame} {H:an},gE E c n ops base l F H=some r→gE E c' n ops base l F H=some r
 | [],_,_,hi=>hi
 | i::l,F,H,hi=>by
  simp only[gE]at hi ⊢;split at hi
  ·split at hi
   ·rename_i F1 H1 hs;rw[yq h hs];exact vE h l hi
   ·simp at hi
  ·simp at hi
theorem zy (h:tQ c c') {draw:Bool} {r:Frame×an} (hi:gG E c n ops draw F H=some r):gG E c' n ops draw F H=some r:=by
 unfold gG at hi ⊢;split
 ·rename_i hd;rw[if_pos hd]at hi;split at hi
  ·rename_i hok;rw[if_pos hok];exact vE h _ hi
  ·simp at hi
 ·rename_i hd;rw[if_neg hd]at hi;exact vL h _ hi
theorem tw {s s':Frame→an→Option (Out×Frame×an)} (h:∀F H r,s F H=some r→s' F H=some r):∀(k k':Nat),k≤k'→∀{F H r},iu s k F H=some r→iu s' k' F H=some r
 | 0,_,_,F,H,r,hi=>by simp[iu]at hi
 | k+1,0,hk,F,H,r,hi=>by omega
 | k+1,k'+1,hk,F,H,r,hi=>by
  simp only[iu]at hi ⊢;split at hi
  ·rename_i F1 H1 hs;rw[h _ _ _ hs];exact tw h k k' (by omega) hi
  ·rename_i hne;rw[h _ _ _ hi];split
   ·rename_i F1 H1 heq;cases heq;exact absurd hi (hne _ _)
   ·rfl
theorem uq (h:tQ c c') {lf lf':Nat} (hl:lf≤lf') (ro:Bool) (nt:Nat):∀(code:Code) {F:Frame} {H:an} {r:Out×Frame×an},exec E c lf ro nt code F H=some r→exec E c' lf' ro nt code F H=some r:=by
 intro code
 induction code with
 | skip=>intro F H r hi;exact hi
 | label l=>intro F H r hi;exact hi
 | region id ops draw=>
  intro F H r hi;simp only[exec,Zh]at hi ⊢;obtain⟨x,hx,rfl⟩:=hi;exact⟨x,zy h hx,rfl⟩
 | seq a b iha ihb=>
  intro F H r hi;simp only[exec]at hi ⊢;split at hi
  ·rename_i F1 H1 h1;rw[iha h1];exact ihb hi
  ·rename_i hne;rw[iha hi];split
   ·rename_i heq;cases heq;exact absurd hi (hne _ _)
   ·rfl
 | cond x a b iha ihb=>
  intro F H r hi;simp only[exec]at hi ⊢;split at hi
  ·rename_i t ht;split at hi
   ·rename_i htt;subst htt;simp only[if_true];exact iha hi
   ·rename_i htt;rw[if_neg htt];exact ihb hi
  ·simp at hi
 | block id a ih=>
  intro F H r hi;simp only[exec]at hi ⊢;split at hi
  ·rename_i id' F1 H1 h1;rw[ih h1];exact hi
  ·rename_i hne;rw[ih hi];split
   ·rename_i heq;cases heq;exact absurd hi (hne _ _ _)
   ·rfl
 | loop a ih=>
  intro F H r hi;simp only[exec]at hi ⊢;exact tw (fun F H r hr=>ih hr) lf lf' hl hi
 | rangeFunc g ps aw bw _ _=>
  intro F H r hi;simp only[exec]at hi ⊢;split at hi
  ·split at hi
   ·rename_i res H1 hc;rw[h _ _ _ _ hc];exact hi
   ·simp at hi
  ·simp at hi
 | exit id=>intro F H r hi;exact hi
 | ret=>intro F H r hi;exact hi
 | scope a _=>intro F H r hi;simp[exec]at hi
 | goto l=>intro F H r hi;simp[exec]at hi
 | refuse w=>intro F H r hi;simp[exec]at hi
theorem Im (E:Env):∀n,tQ (run E n) (run E (n+1)):=by
 intro n
 induction n with
 | zero=>intro x a H r h;simp[run]at h
 | succ n ih=>
  intro x a H r h
  cases x with
  | fn f=>
   rw[run]at h ⊢;split at h
   ·rename_i fi hfi;split at h
    ·rename_i hle;rw[if_pos hle];split at h
     ·simp at h
     ·rename_i o F1 H1 hne hx;rw[uq ih (Nat.le_succ n) _ _ _ hx]
      cases o with
      | exit id=>exact(hne id rfl).elim
      | norm=>exact h
      | ret=>exact h
     ·simp at h
    ·simp at h
   ·simp at h
  | yld id=>
   rw[run]at h ⊢;split at h
   ·rename_i rec hrec;split at h
    ·rename_i hst;split at h
     ·rename_i hlen;split at h
      ·rename_i F2 H2 hx1;split at h
       ·rename_i r2 hr2;split at h
        ·rename_i hst2;split at h
         ·rename_i o F4 H4 hx2;simp only[if_pos hlen,uq ih (Nat.le_succ n) _ _ _ hx1,hr2,hst2,uq ih (Nat.le_succ n) _ _ _ hx2];exact h
         ·simp at h
        ·simp at h
       ·simp at h
      ·simp at h
     ·simp at h
    ·simp at h
   ·simp at h
theorem oM (E:Env) {n m:Nat} (h:n≤m):tQ (run E n) (run E m):=by
 induction h with
 | refl=>exact fun _ _ _ _ h=>h
 | step _ ih=>exact fun x a H r h=>Im E _ x a H r (ih x a H r h)
end
end Go.VE
namespace Go.VE
structure CR (E:Env) (c c':dN):Prop where
 iso:∀f args H y,E.keep f=false→dD c f args H=some y→dD c' f args H=some y
 dir:∀f args H r,E.keep f=true→c (.fn f) args H=some r→c' (.fn f) args H=some r
 yld:∀id args H r,c (.yld id) args H=some r→c' (.yld id) args H=some r
 rng:∀f args H r,H≠[]→c (.fn f) args H=some r→c' (.fn f) args H=some r
section
variable {E:Env} {c c':dN} {n:Nat} {ops:List Oper} {F F':Frame} {H H':an}
theorem CL (h:CR E c c') {f:FuncId} {args:List V} {r:V×an} (hk:E.keep f=true) (hi:jr c f args H=some r):jr c' f args H=some r:=by
 unfold jr at hi ⊢;split at hi
 ·split at hi
  ·rename_i hc;rw[h.dir _ _ _ _ hk hc];exact hi
  ·simp at hi
 ·simp at hi
theorem vN (h:CR E c c') {f:FuncId} {args:List V} {r:V×an} (hk:E.keep f=true) (hi:e7 E c f args H=some r):e7 E c' f args H=some r:=by
 unfold e7 at hi ⊢;split
 ·rename_i ho;rw[if_pos ho]at hi;exact CL h hk hi
 ·rename_i ho;rw[if_neg ho]at hi;exact h.dir _ _ _ _ hk hi
theorem IE (h:CR E c c') {place:Option (Nat×Nat)} {op:Op} {r:V×an} (hi:dL E c ops place F H op=some r):dL E c' ops place F H op=some r:=by
 unfold dL at hi ⊢;split at hi
 ·exact hi
 ·exact hi
 ·exact hi
 ·exact hi
 ·split at hi
  ·rename_i f args hca;split at hi
   ·rename_i hk;rw[if_pos hk];split at hi
    ·exact vN h hk hi
    ·skip
     split at hi
     ·rename_i hl;rw[if_pos hl];exact vN h hk hi
     ·simp at hi
   ·rename_i hk;rw[if_neg hk];split at hi
    ·skip
     split at hi
     ·rename_i y hy;rw[h.iso _ _ _ _ (by simpa using hk) hy];exact hi
     ·simp at hi
    ·rename_i b i
     skip
     split at hi
     ·rename_i y hy;rw[h.iso _ _ _ _ (by simpa using hk) hy];exact hi
     ·rename_i hnone;split at hi
      ·rename_i hl;split at hi
       ·rename_i y hy
        cases h3:dD c' f args (List.take b H)with
        | some y'=>exact(uh hnone hy h3).elim
        | none=>simp only[if_pos hl,h.iso _ _ _ _ (by simpa using hk) hy];exact hi
       ·simp at hi
      ·simp at hi
  ·rename_i id args hca;split at hi
   ·exact h.yld _ _ _ _ hi
   ·skip
    split at hi
    ·rename_i hl;rw[if_pos hl];exact h.yld _ _ _ _ hi
    ·simp at hi
  ·simp at hi
theorem z7 (h:CR E c c') {place:Option (Nat×Nat)} {o:Oper} {r:Frame×an} (hi:eW E c n ops place o F H=some r):eW E c' n ops place o F H=some r:=by
 unfold eW at hi ⊢;split at hi
 ·rename_i hw;rw[if_pos hw];split at hi
  ·rename_i v H1 hd;rw[IE h hd];exact hi
  ·simp at hi
 ·rename_i hw;rw[if_neg hw];exact hi
theorem xy (h:CR E c c') {r:Frame×an}:∀(l:List Oper) {F:Frame} {H:an},i_ E c n ops l F H=some r→i_ E c' n ops l F H=some r
 | [],_,_,hi=>hi
 | o::l,F,H,hi=>by
  simp only[i_]at hi ⊢;split at hi
  ·rename_i F1 H1 hs;rw[z7 h hs];exact xy h l hi
  ·simp at hi
theorem xP (h:CR E c c') {base:Nat} {r:Frame×an}:∀(l:List Nat) {F:Frame} {H:an},gE E c n ops base l F H=some r→gE E c' n ops base l F H=some r
 | [],_,_,hi=>hi
 | i::l,F,H,hi=>by
  simp only[gE]at hi ⊢;split at hi
  ·split at hi
   ·rename_i F1 H1 hs;rw[z7 h hs];exact xP h l hi
   ·simp at hi
  ·simp at hi
theorem AI (h:CR E c c') {draw:Bool} {r:Frame×an} (hi:gG E c n ops draw F H=some r):gG E c' n ops draw F H=some r:=by
 unfold gG at hi ⊢;split
 ·rename_i hd;rw[if_pos hd]at hi;split at hi
  ·rename_i hok;rw[if_pos hok];exact xP h _ hi
  ·simp at hi
 ·rename_i hd;rw[if_neg hd]at hi;exact xy h _ hi
theorem wD (h:CR E c c') {lf lf':Nat} (hl:lf≤lf') (ro:Bool) (nt:Nat):∀(code:Code) {F:Frame} {H:an} {r:Out×Frame×an},exec E c lf ro nt code F H=some r→exec E c' lf' ro nt code F H=some r:=by
 intro code
 induction code with
 | skip=>intro F H r hi;exact hi
 | label l=>intro F H r hi;exact hi
 | region id ops draw=>
  intro F H r hi;simp only[exec,Zh]at hi ⊢;obtain⟨x,hx,rfl⟩:=hi;exact⟨x,AI h hx,rfl⟩
 | seq a b iha ihb=>
  intro F H r hi;simp only[exec]at hi ⊢;split at hi
  ·rename_i F1 H1 h1;rw[iha h1];exact ihb hi
  ·rename_i hne;rw[iha hi];split
   ·rename_i heq;cases heq;exact absurd hi (hne _ _)
   ·rfl
 | cond x a b iha ihb=>
  intro F H r hi;simp only[exec]at hi ⊢;split at hi
  ·rename_i t ht;split at hi
   ·rename_i htt;subst htt;simp only[if_true];exact iha hi
   ·rename_i htt;rw[if_neg htt];exact ihb hi
  ·simp at hi
 | block id a ih=>
  intro F H r hi;simp only[exec]at hi ⊢;split at hi
  ·rename_i id' F1 H1 h1;rw[ih h1];exact hi
  ·rename_i hne;rw[ih hi];split
   ·rename_i heq;cases heq;exact absurd hi (hne _ _ _)
   ·rfl
 | loop a ih=>
  intro F H r hi;simp only[exec]at hi ⊢;exact tw (fun F H r hr=>ih hr) lf lf' hl hi
 | rangeFunc g ps aw bw _ _=>
  intro F H r hi;simp only[exec]at hi ⊢;split at hi
  ·split at hi
   ·rename_i res H1 hc;rw[h.rng _ _ _ _ (by simp) hc];exact hi
   ·simp at hi
  ·simp at hi
 | exit id=>intro F H r hi;exact hi
 | ret=>intro F H r hi;exact hi
 | scope a _=>intro F H r hi;simp[exec]at hi
 | goto l=>intro F H r hi;simp[exec]at hi
 | refuse w=>intro F H r hi;simp[exec]at hi
def lG (E:Env) (c:dN) (n:Nat):dN
 | .fn f,args,H=>match E.ft f with
  | some fi=>if args.length≤fi.ntmps then
   match exec E c n false fi.ntmps fi.body args H with
   | some (.exit _,_,_)=>none
   | some (_,F',H')=>(gD E F' H' fi.results).map fun vs=>(result vs,H')
   | none=>none
   else none
  | none=>none
 | .yld id,args,H=>match H[id]? with
  | some (.loop r)=>match r.st with
   | .ready=>if args.length=r.params.length∧r.params.all (·<r.nt)then
    match exec E c n true r.nt r.assign (o0 r.params args r.frame) H with
    | some (.norm,F2,H2)=>match H2[id]? with
     | some (.loop r2)=>match r2.st with
      | .ready=>match exec E c n true r.nt r.body F2 (H2.set id (.loop { r2 with st:=.busy }))with
       | some (o,_,H4)=>match H4[id]? with
        | some (.loop r4)=>some (.bool (o==.norm),H4.set id (.loop { r4 with st:=(if o==.norm then .ready else .done),pend:=(if o==.norm then none else some o) }))
        | _=>none
       | none=>none
      | _=>none
     | _=>none
    | _=>none
    else none
   | _=>none
  | _=>none
theorem w5 (E:Env) (n:Nat):run E (n+1)=lG E (run E n) n:=by
 funext x a H
 cases x with
 | fn f=>rw[run,lG];rfl
 | yld id=>rw[run,lG];rfl
theorem uQ (h:CR E c c') {n m:Nat} (hl:n≤m) {x:Callee} {a:List V} {r:V×an} (hi:lG E c n x a H=some r):lG E c' m x a H=some r:=by
 cases x with
 | fn f=>
  rw[lG]at hi ⊢;split at hi
  ·split at hi
   ·rename_i hle;rw[if_pos hle];split at hi
    ·simp at hi
    ·rename_i o F1 H1 hne hx;rw[wD h hl _ _ _ hx]
     cases o with
     | exit id=>exact(hne id rfl).elim
     | norm=>exact hi
     | ret=>exact hi
    ·simp at hi
   ·simp at hi
  ·simp at hi
 | yld id=>
  rw[lG]at hi ⊢;split at hi
  ·rename_i rec hrec;split at hi
   ·rename_i hst;split at hi
    ·rename_i hlen;split at hi
     ·rename_i F2 H2 hx1;split at hi
      ·rename_i r2 hr2;split at hi
       ·rename_i hst2;split at hi
        ·rename_i o F4 H4 hx2;simp only[if_pos hlen,wD h hl _ _ _ hx1,hr2,hst2,wD h hl _ _ _ hx2];exact hi
        ·simp at hi
       ·simp at hi
      ·simp at hi
     ·simp at hi
    ·simp at hi
   ·simp at hi
  ·simp at hi
mutual
def V.same:Nat→V→V→Bool
 | 0,_,_=>false
 | _+1,.bool a,.bool b=>a==b
 | _+1,.int k a,.int l b=>decide (k=l)&&decide (a=b)
 | _+1,.str a,.str b=>decide (a.data.toList=b.data.toList)
 | _+1,.ay,.ay=>true
 | _+1,.dY,.dY=>true
 | _+1,.cq,.cq=>true
 | _+1,.eT,.eT=>true
 | _+1,.aO,.aO=>true
 | n+1,.agg a,.agg b=>V.mC n a b
 | n+1,.tup a,.tup b=>V.mC n a b
 | n+1,.fptr a,.fptr b=>V.mC n a b
 | n+1,.fsl e a,.fsl e' b=>Nat.beq e e'&&V.uB n a b
 | n+1,.clo f a b,.clo f' a' b'=>Nat.beq f f'&&V.mC n a a'&&V.mC n b b'
 | _+1,_,_=>false
def V.mC:Nat→List V→List V→Bool
 | 0,_,_=>false
 | _+1,[],[]=>true
 | n+1,a::r,b::s=>V.same n a b&&V.mC n r s
 | _+1,_,_=>false
def V.uB:Nat→List (List V)→List (List V)→Bool
 | 0,_,_=>false
 | _+1,[],[]=>true
 | n+1,a::r,b::s=>V.mC n a b&&V.uB n r s
 | _+1,_,_=>false
end
theorem Jx:∀n,(∀a b,V.same n a b=true→a=b)∧(∀a b,V.mC n a b=true→a=b)∧(∀a b,V.uB n a b=true→a=b):=by
 intro n
 induction n with
 | zero=>exact⟨fun a b h=>by simp[V.same]at h,fun a b h=>by simp[V.mC]at h,fun a b h=>by simp[V.uB]at h⟩
 | succ n ih=>
  obtain⟨i1,i2,i3⟩:=ih;refine⟨fun a b h => ?_,fun a b h => ?_,fun a b h => ?_⟩
  ·cases a <;> cases b <;> simp only[V.same,Zj,decide_eq_true_eq,beq_iff_eq,Bool.false_eq_true]at h <;> first|rfl|(exact h.elim)|skip
   all_goals first
    | (rw[h];done)
    | (rw[h.1,h.2];done)
    | (rw[i2 _ _ h];done)
    | (rw[Nat.eq_of_beq_eq_true h.1,i3 _ _ h.2];done)
    | (rw[Nat.eq_of_beq_eq_true h.1.1,i2 _ _ h.1.2,i2 _ _ h.2];done)
    | (congr 1;exact ByteArray.ext (Array.ext' h))
  ·cases a <;> cases b <;> simp only[V.mC,Zj,Bool.false_eq_true]at h <;> first|rfl|(exact h.elim)|(rw[i1 _ _ h.1,i2 _ _ h.2])
  ·cases a <;> cases b <;> simp only[V.uB,Zj,Bool.false_eq_true]at h <;> first|rfl|(exact h.elim)|(rw[i2 _ _ h.1,i3 _ _ h.2])
structure aJ where
 f:FuncId
 as:List V
 y:V
def s_:List aJ→FuncId→List V→Option V
 | [],_,_=>none
 | k::r,f,as=>bif Nat.beq k.f f&&V.mC 1000 k.as as then some k.y else s_ r f as
theorem xo:∀{l:List aJ} {f:FuncId} {as:List V} {y:V},s_ l f as=some y→∃k∈l,k.f=f∧k.as=as∧k.y=y
 | [],_,_,_,h=>by simp[s_]at h
 | k::r,f,as,y,h=>by
  unfold s_ at h
  cases hb:Nat.beq k.f f&&V.mC 1000 k.as as with
  | true=>
   rw[hb]at h;simp only[Zj]at hb;exact⟨k,List.mem_cons_self ..,Nat.eq_of_beq_eq_true hb.1,(Jx 1000).2.1 _ _ hb.2,by simpa using h⟩
  | false=>
   rw[hb]at h;obtain⟨q,h1,h2⟩:=xo h;exact⟨q,List.mem_cons_of_mem _ h1,h2⟩
def runM (E:Env) (l:List aJ):Nat→dN
 | 0,_,_,_=>none
 | n+1,.fn f,as,[]=>match s_ l f as with
  | some y=>some (y,[])
  | none=>lG E (runM E l n) n (.fn f) as []
 | n+1,x,as,H=>lG E (runM E l n) n x as H
def qe (E:Env) (n:Nat) (k:aJ):Prop:=∃r H1,run E n (.fn k.f) k.as []=some (r,H1)∧borrow 8 H1 r=some k.y
structure aB (E:Env) (k:aJ):Prop where
 keep:E.keep k.f=false
 self:borrow 8 [] k.y=some k.y
 cl:k.y.closed=true
 at_:∃n,qe E n k
theorem qe.le {n m:Nat} {k:aJ} (h:qe E n k) (hm:n≤m):qe E m k:=by
 obtain⟨r,H1,h1,h2⟩:=h;exact⟨r,H1,oM E hm _ _ _ _ h1,h2⟩
theorem tT:∀{l:List aJ},(∀k∈l,aB E k)→∃N,∀k∈l,qe E N k
 | [],_=>⟨0,by simp⟩
 | k::r,h=>by
  obtain⟨N,hN⟩:=tT (fun q hq=>h q (List.mem_cons_of_mem _ hq))
  obtain⟨n,hn⟩:=(h k (List.mem_cons_self ..)).at_;refine⟨max N n,fun q hq => ?_⟩
  rcases List.mem_cons.1 hq with rfl|hq
  ·exact hn.le (Nat.le_max_right ..)
  ·exact(hN q hq).le (Nat.le_max_left ..)
theorem qX {l:List aJ} {x:Callee} {as:List V} (h:H≠[]∨(∃id,x=.yld id)∨∃f,x=.fn f∧s_ l f as=none):runM E l (n+1) x as H=lG E (runM E l n) n x as H:=by
 rcases h with h|⟨id,rfl⟩|⟨f,rfl,h⟩
 ·cases x with
  | yld id=>rw[runM];simp
  | fn f=>
   cases H with
   | nil=>exact absurd rfl h
   | cons a r=>rw[runM];simp
 ·rw[runM];simp
 ·cases H with
  | nil=>rw[runM,h]
  | cons a r=>rw[runM];simp
theorem Dq {l:List aJ} {N:Nat} (hl:∀k∈l,aB E k) (hN:∀k∈l,qe E N k):∀n,CR E (runM E l n) (run E (N+n)):=by
 intro n
 induction n with
 | zero=>
  refine⟨fun f args H y _ h => ?_,fun f args H r _ h=>by simp[runM]at h,fun id args H r h=>by simp[runM]at h,fun f args H r _ h=>by simp[runM]at h⟩
  unfold dD at h;split at h
  ·simp[runM]at h
  ·simp at h
 | succ n ih=>
  have up:∀{x:Callee} {as:List V} {H:an} {r:V×an},lG E (runM E l n) n x as H=some r→run E (N+(n+1)) x as H=some r:=fun h=>by
   rw[show N+(n+1)=(N+n)+1 from rfl,w5];exact uQ ih (Nat.le_add_left ..) h
  refine⟨fun f args H y hk h => ?_,fun f args H r hk h => ?_,fun id args H r h => ?_,fun f args H r hne h => ?_⟩
  ·unfold dD at h ⊢;split at h
   ·rename_i as has;split at h
    ·rename_i r H1 hc
     cases hs:s_ l f as with
     | none=>
      rw[qX (.inr (.inr ⟨f,rfl,hs⟩))]at hc;rw[up hc];exact h
     | some y0=>
      rw[runM,hs]at hc;simp only[Za,Zd]at hc;obtain⟨rfl,rfl⟩:=hc;obtain⟨k,hkm,rfl,rfl,rfl⟩:=xo hs;have ok:=hl k hkm;obtain⟨r1,H2,h1,h2⟩:=(hN k hkm).le (Nat.le_add_right N (n+1));rw[ok.self]at h;rw[h1];simp only[h2];exact h
    ·simp at h
   ·simp at h
  ·by_cases hs:H≠[]∨(∃id,(Callee.fn f)=.yld id)∨∃f',Callee.fn f=.fn f'∧s_ l f' args=none
   ·rw[qX hs]at h;exact up h
   ·exfalso
    cases hq:s_ l f args with
    | none=>exact hs (.inr (.inr ⟨f,rfl,hq⟩))
    | some y=>
     obtain⟨k,hkm,rfl,_,_⟩:=xo hq;rw[(hl k hkm).keep]at hk;cases hk
  ·rw[qX (.inr (.inl ⟨id,rfl⟩))]at h;exact up h
  ·rw[qX (.inl hne)]at h;exact up h
def Na (E:Env) (l:List aJ) (n:Nat) (k:aJ):Option V:=
 match lG E (runM E l n) n (.fn k.f) k.as []with
 | some (r,H1)=>borrow 8 H1 r
 | none=>none
theorem ax {l:List aJ} (hl:∀k∈l,aB E k) {k:aJ} (h:(Na E l n k,borrow 8 [] k.y,k.y.closed,E.keep k.f)=(some k.y,some k.y,true,false)):aB E k:=by
 simp only[Zd]at h;obtain⟨N,hN⟩:=tT hl;refine⟨h.2.2.2,h.2.1,h.2.2.1,N+n+1,?_⟩;have h1:=h.1;unfold Na at h1;split at h1
 ·rename_i r H1 hs;refine⟨r,H1,?_,h1⟩;rw[w5];exact uQ (Dq hl hN n) (Nat.le_add_left ..) hs
 ·simp at h1
def I8 (E:Env) (l:List aJ) (n:Nat) (f:FuncId) (as:List V):Bool:=
 match lG E (runM E l n) n (.fn f) as []with
 | some (.bool b,_)=>b
 | _=>false
theorem Em {l:List aJ} (hl:∀k∈l,aB E k) {f:FuncId} {as:List V} (h:I8 E l n f as=true):∃n H1,run E n (.fn f) as []=some (.bool true,H1):=by
 obtain⟨N,hN⟩:=tT hl;unfold I8 at h;split at h
 ·rename_i b H1 hs;subst h;exact⟨N+n+1,H1,by rw[w5];exact uQ (Dq hl hN n) (Nat.le_add_left ..) hs⟩
 ·cases h
end
end Go.VE
