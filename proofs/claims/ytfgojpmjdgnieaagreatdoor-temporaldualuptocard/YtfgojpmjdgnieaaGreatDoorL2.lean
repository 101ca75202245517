/-
 TemporalDual says true for all arguments that together are of bulk at most 1048576, and they read behind the call as they read before: for every such argument, without a condition.
-/
import Derived.Test.YtfgojpmjdgnieaaGreatDoorRows
import Derived.Test.YtfgojpmjdgnieaaGreatDoorCards
import Derived.Test.YtfgojpmjdgnieaaGreatDoorTie
import Derived.Deep.DeepHandedRow
import Derived.Test.YtfgojpmjdgnieaaGreatDoorK1
import Derived.Test.YtfgojpmjdgnieaaGreatDoorL1
set_option linter.all false
open List(map_congr_left map_cons mem_map sum_cons)
open Nat(le_add_left le_refl)
namespace Go.VE
theorem Zi{p:Prop}(h:p:=by kernel_rfl):p:=h
section
variable{t:Zj}{A:cB 200 bJ}{L:a_ Zy}
theorem Tr(B:Small t):∃b,iR t=some b:=by
 suffices h:Wp (iR t) λ_=>True by obtain⟨b,w,-⟩:=h;exact⟨b,w⟩
 have a:=B.1;have c:∀P∈t.procs.l,lI P=some (decide (len P.events>40)||decide (len P.vars>20)||P.events.l.any λx=>decide (len x.assign>20)):=λP C=>by unfold lI;rw[xE (p:=λz=>nF z) (f:=λx=>decide (len x.assign>20)) (λx _=>rfl) (B.2 _ C).1];cases decide (len P.events>40)<;>cases decide (len P.vars>20)<;>rfl
 unfold iR iR.W1;refine iS t.procs.l.length (λi(q:Int×Int)=>q.2=(i:Int)) rfl ?_ ?_;rintro i ⟨n,_⟩ u e;simp only at e;subst e;unfold iR.bG;dsimp only;rw[mQ u,b9,bX u,ζb,bz];exact dB i Za;rintro⟨n,_⟩ e;simp only at e;subst e;unfold iR.bG;dsimp only;rw[nK,cK,bz];show Wp _ _;rw[xQ (p:=λz=>lI z) c a];cases decide (n>30)<;>cases(n==36)<;>cases decide (len t.procs>10)<;>exact(bz _).2 trivial
theorem sC(J:Small t)(a:eu t=some true)(D:VT t)(O:iy t (bZ t) A)(B:fQ t A L)(G:L.length<=5000){r:Zb}(U:mZ t=some (r,0))(b:ins r=L){kind:Int}(c:18<=kind/\kind<=21){l:Sl Zl}(W:l.l.length=L.length):
 ∃o,nV t kind l=some (o,0)/\Bk L (gS kind l) o:=by
 obtain⟨q,I,x,rfl,-,C⟩:=HT J a D O B G U b;have⟨o,o1,o2⟩:=HZ D B G C (p:=λz=>fH z.1 z.2 kind l) (g:=gS kind l) λi nx S Q=>MQ Za Q
 have u:len x.l=((L.length:Nat):Int):=by simp only[len];rw[<-lM,C.l]
 have w:len l=((L.length:Nat):Int):=by simp only[len,W]
 refine⟨o,?_,o2⟩;unfold nV pV;rw[a,ζb,b9,decide_eq_true (show kind>=18 by omega),b9,decide_eq_true (show kind<=21 by omega),ζb,ζb,b9,I,ζb]
 simp only;rw[show((0:Int)==0)=true from rfl,b9,ζb,u,w,show(((L.length:Nat):Int)==((L.length:Nat):Int))=true from Zc,b9]
 unfold mO;rw[o1];rfl
def gU(c:Zl)(a b:Sl Zl)(i:Nat)(nx:a_ Zl):Zl:=dz b i||(dz a i&&if c then !nx.isEmpty&&nx.all id else nx.any id)
theorem FW(O:Small t)(d:eu t=some true)(D:VT t)(U:iy t (bZ t) A)(B:fQ t A L)(G:L.length<=5000){r:Zb}(W:mZ t=some (r,0))(e:ins r=L){a b:Sl Zl}(Y:a.l.length=L.length)(f:b.l.length=L.length)(c:Zl):
 ∃o,mP t a b c=some (o,0)/\Bk L (gU c a b) o:=by
 obtain⟨q,Q,x,rfl,-,I⟩:=HT O d D U B G W e;have⟨o,o1,o2⟩:=HZ D B G I (p:=λz=>kB z.1 z.2 c b a) (g:=gU c a b) λi nx S J=>by unfold kB gU;cases c with|true=>rw[b9,lN Za,ζb,lN Za,ζb,all_eq J];cases dz a i<;>cases dz b i<;>rfl|false=>rw[cK,lN Za,ζb,lN Za,ζb,CC J];cases dz a i<;>cases dz b i<;>rfl
 have u:len x.l=((L.length:Nat):Int):=by simp only[len];rw[<-lM,I.l]
 have w:len a=((L.length:Nat):Int):=by simp only[len,Y]
 have C:len b=((L.length:Nat):Int):=by simp only[len,f]
 refine⟨o,?_,o2⟩;unfold mP;rw[d,ζb,b9,Q,ζb];simp only;rw[show((0:Int)==0)=true from rfl,b9,ζb,u,w,C,show(((L.length:Nat):Int)==((L.length:Nat):Int))=true from Zc,b9,ζb,show(!true)=false from rfl,cK,o1];rfl
theorem M_(J:Small t)(hN:(bZ t).length<1073741824){l:Sl Zl}:cQ t l=some true:=by
 have⟨bg,av⟩:=Tr J;refine Wp.eq ?_;have tt:Wp (some true) λb:Zl=>b=true:=(bz _).2 rfl;unfold cQ;rw[show uM=some true from rfl,ζb,b9,av,ζb];cases bg with|true=>exact tt|false=>
 rw[cK,ζb];cases aw:decide (len l>1000)with|true=>exact tt|false=>
 have⟨v,T,v2,v3⟩:=Lf J hN;rw[cK,v2,ζb,ζb];cases v with|false=>exact tt|true=>
 have O:=v3 rfl;obtain⟨A,-,-,Q⟩:=O.msgs;have h8:=O.few;rw[show(!true)=false from rfl,cK];have ae:mZ t=(tv t).bind λx=>some (x.1,x.2):=rfl;have⟨⟨r,e⟩,l1,E⟩:=Lp J T O Q;rcases E with⟨rfl,B,S⟩|⟨rfl,rfl,-⟩;rotate_left;rw[ae,l1];exact tt;obtain⟨L,c⟩:∃L,ins r=L:=⟨_,rfl⟩;have S:L.length<=5000:=by rw[<-c,lM];exact S
 have B:fQ t A L:=c▸B;have U:mZ t=some (r,0):=by rw[ae,l1];rfl
 have ax:len r=((L.length:Nat):Int):=by simp only[len];rw[<-lM,c]
 rw[U,ζb];simp only;rw[show((0:Int)==0)=true from rfl,b9,ax,ζb];cases P:((L.length:Int)==len l)with|false=>exact tt|true=>
 have Z:l.l.length=L.length:=by have:=eq_of_beq P;simp only[len]at this;omega
 have ad:len l=((l.l.length:Nat):Int):=rfl;rw[show(!true)=false from rfl,cK,ad,RP _ Za,ζb,ζb];unfold cQ.W1;refine iS l.l.length (λi(q:Sl Zl×Sl Zl×Int)=>q.2.2=(i:Int)/\q.1.l.length=l.l.length/\q.2.1.l.length=l.l.length/\∀j,j<i->dz q.1 j= !dz l j/\dz q.2.1 j=true) ⟨rfl,by simp[Sl.l],by simp[Sl.l],λj h=>absurd h Za⟩ ?_ ?_;rintro i ⟨n,y,_⟩ D ⟨rfl,e1,e2,e3⟩;simp only at e1 e2 e3;have⟨n',j1,V⟩:=put_eq (s:=n) (p:=i) (x:= !dz l i) Za;have⟨y',k1,k2⟩:=put_eq (s:=y) (p:=i) (x:=true) Za;unfold cQ.bG;dsimp only;rw[<-ad,mQ D,b9,lN D,ζb,tg (by omega:i<n.l.length),ζb,j1,ζb,tg (by omega:i<y.l.length),ζb,k1,ζb,bz];refine⟨dB i Za,by show n'.l.length=_;rw[V];simp[e1],by show y'.l.length=_;rw[k2];simp[e2],λj G=>?_⟩;show dz n' j=_/\dz y' j=_;unfold dz;rw[V,k2,List.getElem?_set,List.getElem?_set];by_cases e:j=i;subst e;rw[if_pos rfl,if_pos rfl,if_pos Za,if_pos Za];exact⟨rfl,rfl⟩;rw[if_neg (Ne.symm e),if_neg (Ne.symm e)];exact e3 j Za;rintro⟨n,y,_⟩ ⟨rfl,e1,e2,e3⟩;simp only at e1 e2 e3;unfold cQ.bG;dsimp only;rw[<-ad,nK,cK,bz];have⟨ef,a1,a2⟩:=sC J T O Q B S U c (kind:=18) Za Z;have⟨K,b1,W⟩:=sC J T O Q B S U c (kind:=19) Za Z;have⟨eg,c1,N⟩:=sC J T O Q B S U c (kind:=20) Za Z;have⟨ag,d1,M⟩:=sC J T O Q B S U c (kind:=21) Za Z;have⟨nf,f1,f2⟩:=sC J T O Q B S U c (kind:=18) (l:=n) Za Za;have⟨ng,g1,g2⟩:=sC J T O Q B S U c (kind:=20) (l:=n) Za Za;have⟨us,h1,h2⟩:=FW J T O Q B S U c (a:=y) (b:=l) Za Z false;have⟨ue,i1,i2⟩:=FW J T O Q B S U c (a:=y) (b:=l) Za Z true;have p1:=h2.ind B a2 (R:=λu v=>u=v) λi D h=>by show gU false y l i _=gS 18 l i _;rw[map_congr_left h];simp[gU,gS,(e3 i Za).2]
 have p2:=i2.ind B W (R:=λu v=>u=v) λi D h=>by show gU true y l i _=gS 19 l i _;rw[map_congr_left h];simp[gU,gS,(e3 i Za).2]
 have p3:=M.ind B f2 (R:=λu v=>u= !v) λi D h=>by show gS 21 l i _= !gS 18 n i _;rw[map_congr_left h];simp only[gS,(e3 i Za).1];generalize jS L i=w;rw[Bool.eq_iff_iff];simp
 have p4:=W.ind B g2 (R:=λu v=>u= !v) λi D h=>by show gS 19 l i _= !gS 20 n i _;rw[map_congr_left h];simp only[gS,(e3 i Za).1];generalize jS L i=w;rw[Bool.eq_iff_iff];simp
 have p5:=M.ind B N (R:=λu v=>u=true->v=true) λi D h=>by show gS 21 l i _=true->gS 20 l i _=true;simp only[gS];revert h;generalize jS L i=w;cases w with|nil=>simp|cons k w=>intro h;simp;intro a b _;exact⟨a,.inl (h k Zc b)⟩
 have p6:=W.ind B a2 (R:=λu v=>u=true->v=true) λi D h=>by show gS 19 l i _=true->gS 18 l i _=true;simp only[gS];revert h;generalize jS L i=w;cases w with|nil=>simp|cons k w=>intro h;simp;rintro(a|⟨b,_⟩);exact .inl a;exact .inr (.inl (h k Zc b))
 have ay:us.l=ef.l:=HM (by rw[h2.1,a2.1]) λi D=>p1 i (by rw[<-h2.1];exact D);have aA:ue.l=K.l:=HM (by rw[i2.1,W.1]) λi D=>p2 i (by rw[<-i2.1];exact D);have yH:∀o:Sl Zl,o.l.length=L.length->(len o==len l)=true:=λo h=>by simp[len,h,Z]
 have aa:∀o:Sl Zl,o.l.length=L.length->(len o==len n)=true:=λo h=>by simp[len,h,e1,Z]
 have st:∀{kind:Int}{z o:Sl Zl},nV t kind z=some (o,0)->(len o==len z)=true->dR kind z t true=some (o,true):=λ{kind z o}s1 s2=>by unfold dR;rw[s1,ζb];simp only;rw[b9,show((0:Int)==0)=true from rfl,ζb,b9,s2];rfl
 show Wp ((dR 18 l t true).bind _) _;rw[st a1 (yH _ a2.1),ζb];simp only;rw[st b1 (yH _ W.1),ζb];simp only;rw[st c1 (yH _ N.1),ζb];simp only;rw[st d1 (yH _ M.1),ζb];simp only;rw[st f1 (aa _ f2.1),ζb];simp only;rw[st g1 (aa _ g2.1),ζb];simp only;rw[h1,ζb,i1,ζb];simp only;rw[b9,show((0:Int)==0)=true from rfl,show(!true)=false from rfl,ζb,cK,ζb,cK,Kp (by rw[h2.1];omega) ay,ζb,ζb,show(!true)=false from rfl,cK,Kp (by rw[i2.1];omega) aA,ζb,ζb,show(!true)=false from rfl,cK];unfold cQ.W2;refine iS r.l.length (λi(q:Int)=>q=(i:Int)) rfl ?_ ?_;rintro i _ D rfl;have C:i<L.length:=by rw[<-c,lM];exact D
 have ah:L[i]?=some r.l[i].l:=by rw[<-c];exact KY D
 have hC:=(B.mem _).1 (List.mem_of_getElem? ah);have ix:∀{g:Nat->a_ Zl->Zl}{o:Sl Zl},Bk L g o->idx o (i:Int)=some (dz o i):=λh=>lN (by rw[h.1];exact C);have ai:idx l (i:Int)=some (dz l i):=lN Za;have q1:=a2.2 i C;have q2:=W.2 i C;have q3:=N.2 i C;have q4:=M.2 i C;have p3:=p3 i C;have p4:=p4 i C;have p5:=p5 i C;have p6:=p6 i C;have⟨nx,n1,n2,n3⟩:=O4 J O Q hC;have I:∀d,d∈ins nx↔∃p,p<r.l[i].l.length/\d=bump r.l[i].l p 1/\d∈L:=λd=>by rw[n3];constructor;rintro⟨p,a,ha,rfl,hD⟩;exact⟨p,(ζe.1 ha).1,(CM ha).symm,(B.mem _).2 hD⟩;rintro⟨p,hp,rfl,hD⟩;exact⟨p,_,ζd hp,CM (ζd hp),(B.mem _).1 hD⟩
 have ab:jS L i=vU L r.l[i].l:=by unfold jS;rw[ah];rfl
 unfold cQ.ct;rw[mQ D,b9,bX D,ζb,ix a2,ix W,ix N,ix M,ix f2,ix g2,ai];simp only[ζb];have X:∀{γ:Type}(a b:bt γ),(((bE (dz ag i==dz nf i) (some true) (some (dz K i==dz ng i)):bt Zl).bind λaj=>(bE aj (some true) ((bE (dz ag i) (some (!dz eg i)) (some false):bt Zl).bind λak=>some ak):bt Zl).bind λal=>
  (bE al (some true) ((bE (dz eg i) (some (!dz l i)) (some false):bt Zl).bind λam=>some am):bt Zl).bind λan=>(bE an (some true) ((bE (dz l i) (some (!dz K i)) (some false):bt Zl).bind λao=>some ao):bt Zl).bind λap=>
  (bE ap (some true) ((bE (dz K i) (some (!dz ef i)) (some false):bt Zl).bind λaq=>some aq):bt Zl).bind λar=>bE ar a b)=b):=λa b=>by
  have r1:dz eg i=true->dz l i=true:=λh=>by rw[q3]at h;simp[gS]at h;exact h.1
  have r2:dz l i=true->dz K i=true:=λh=>by rw[q2];simp[gS,h]
  revert p3 p4 p5 p6 r1 r2
  cases dz ag i<;>cases dz nf i<;>cases dz K i<;>cases dz ng i<;>cases dz eg i<;>cases dz l i<;>cases dz ef i<;>simp<;>rfl
 rw[X,n1,ζb];have aB:(len nx==0)=(jS L i).isEmpty:=by rw[ab];by_cases h0:nx.l=[];rw[show(len nx==0)=true from by simp[len,h0]];(cases hx:vU L r.l[i].l with|nil=>rfl|cons k w=>obtain⟨p,g1,g2,-⟩:=wA.1 (show k∈vU L r.l[i].l by rw[hx];simp);have:=(I _).2 ⟨p,g1,rfl,g2⟩;simp[ins,h0]at this);have⟨y,w,hy⟩:=List.exists_cons_of_ne_nil h0;have⟨p,g1,g2,g3⟩:=(I y.l).1 (pL.2 ⟨y,by rw[hy];simp,rfl⟩);have H:=wA.2 ⟨p,g1,by rw[<-g2];exact g3,rfl⟩;rw[show(len nx==0)=false from by simp[len,hy];omega];cases hx:vU L r.l[i].l with|nil=>rw[hx]at H;cases H|cons k w=>rfl
 rw[aB];cases Y:(jS L i).isEmpty with|true=>rw[List.isEmpty_iff]at Y;rw[Y]at q1 q2 q3 q4;have e1:dz ef i=dz l i:=(by rw[q1];simp[gS]);have e2:dz K i=dz l i:=(by rw[q2];simp[gS]);have e3:dz eg i=dz l i:=(by rw[q3];simp[gS]);have e4:dz ag i=dz l i:=(by rw[q4];simp[gS]);rw[b9,e1,e2,e3,e4];have:(dz l i==dz l i)=true:=Zc;rw[this];exact(bz _).2 (dB i Za)|false=>rw[cK];unfold cQ.W3;have aC:nx.l.length<1073741824:=Za;refine iS nx.l.length (λm(q:Int×Zg)=>q.1=(m:Int)/\q.2.l.length=m/\∀k:Int,k∈q.2.l↔∃j,j<m/\∃y,nx.l[j]?=some y/\k=(L.idxOf y.l:Int)) ⟨rfl,rfl,λk=>⟨λh=>(by simp[Sl.l]at h),λ⟨j,G,_⟩=>absurd G Za⟩⟩ ?_ ?_;rintro m ⟨_,w⟩ H ⟨rfl,w1,w2⟩;simp only at w1 w2;have hy:nx.l[m].l∈L:=((I _).1 (pL.2 ⟨_,List.getElem_mem H,rfl⟩)).choose_spec.2.2;have⟨w',j1,V⟩:=nZ (s:=w) (x:=(L.idxOf nx.l[m].l:Int)) Za;unfold cQ.eP;dsimp only;rw[mQ H,b9,bX H,ζb,Q4 (by rw[<-lM,c];omega) (λx hx=>by rw[((B.mem _).1 (by rw[<-c];exact pL.2 ⟨x,hx,rfl⟩:x.l∈L)).1.1];omega),ζb,Kq (by show nx.l[m].l∈ins r;rw[c];exact hy),show(r.l.map Sl.l).idxOf nx.l[m].l=L.idxOf nx.l[m].l from by rw[<-c];rfl,j1,ζb,bz];refine⟨dB m Za,by show w'.l.length=_;rw[V];simp[w1],λk=>?_⟩;show k∈w'.l↔_;rw[V,List.mem_append,List.mem_singleton,w2];constructor;rintro(⟨j,g1,g2⟩|rfl);exact⟨j,Za,g2⟩;exact⟨m,Za,_,ζd H,rfl⟩;rintro⟨j,g1,y,g2,g3⟩;by_cases ej:j=m;subst ej;rw[ζd H]at g2;cases g2;exact .inr g3;exact .inl ⟨j,Za,y,g2,g3⟩;rintro⟨_,w⟩ ⟨rfl,w1,w2⟩;simp only at w1 w2;have wm:∀k:Int,k∈w.l↔∃j∈jS L i,k=(j:Int):=λk=>(by rw[w2,ab];constructor;rintro⟨j,-,y,g1,rfl⟩;have⟨p,g2,g3,g4⟩:=(I y.l).1 (pL.2 ⟨y,List.mem_of_getElem? g1,rfl⟩);exact⟨_,wA.2 ⟨p,g2,by rw[<-g3];exact g4,by rw[g3]⟩,rfl⟩;rintro⟨j,G,rfl⟩;obtain⟨p,g1,g2,rfl⟩:=wA.1 G;have⟨y,g3,g4⟩:=pL.1 ((I _).2 ⟨p,g1,rfl,g2⟩);have⟨j,G⟩:=List.mem_iff_getElem?.1 g3;exact⟨j,(ζe.1 G).1,y,G,by rw[g4]⟩);have wl:w.l.length<1073741824:=Za;have F:∀{g:Nat->a_ Zl->Zl}{o:Sl Zl},Bk L g o->iN o w=some (((jS L i).map (dz o)).any id)/\iL o w=some (((jS L i).map (dz o)).all id):=λ{g o}ho=>(by have au:∀k∈w.l,idx o k=some (dz o k.toNat):=λk E=>(by obtain⟨j,G,rfl⟩:=(wm k).1 E;rw[lN (by rw[ho.1];exact(B8 B C G).2)];rfl);constructor;unfold iN;rw[Aj (p:=λz=>gI z o) (f:=λk=>dz o k.toNat) (λk E=>by unfold gI;rw[au k E];rfl) wl,ζb];congr 1;rw[Bool.eq_iff_iff,List.any_eq_true,List.any_eq_true];constructor;rintro⟨k,E,h⟩;obtain⟨j,G,rfl⟩:=(wm k).1 E;exact⟨_,mem_map.2 ⟨j,G,rfl⟩,by simpa using h⟩;rintro⟨b,P,h⟩;obtain⟨j,G,rfl⟩:=mem_map.1 P;exact⟨j,(wm _).2 ⟨j,G,rfl⟩,by simpa using h⟩;unfold iL;rw[Aj (p:=λz=>gM z o) (f:=λk=> !dz o k.toNat) (λk E=>by unfold gM;rw[au k E];rfl) wl,ζb];congr 1;rw[Bool.eq_iff_iff,Bool.not_eq_true',List.any_eq_false,List.all_eq_true];constructor;intro h b P;obtain⟨j,G,rfl⟩:=mem_map.1 P;have:=h j ((wm _).2 ⟨j,G,rfl⟩);simpa using this;intro h k E;obtain⟨j,G,rfl⟩:=(wm k).1 E;have:=h _ (mem_map.2 ⟨j,G,rfl⟩);simpa using this);unfold cQ.eP;dsimp only;rw[nK,cK,bz];show Wp _ _;rw[ix a2,ix W,ix N,ix M,ai,(F a2).1,(F W).2,(F N).1,(F M).2];simp only[ζb];rw[q1,q2,q3,q4];simp only[gS];generalize hw:jS L i=z at Y;cases z with|nil=>cases Y|cons k z=>cases dz l i<;>simp[b9,cK]<;>exact(bz _).2 (dB i Za)
 rintro _ rfl;unfold cQ.ct;rw[nK,cK,bz];exact(bz _).2 rfl
end
end Go.VE
namespace Go.VE
theorem BV{α:Type}[cD α]{x:α}:∀{l:a_ α},x∈l->cD.wt x<=(l.map cD.wt).sum
 |y::l,h=>by simp only[map_cons,sum_cons];rcases List.mem_cons.1 h with rfl|h;omega;have:=BV h;omega
theorem wo{α:Type}[cD α](h:∀x:α,1<=cD.wt x):∀(l:a_ α),l.length<=(l.map cD.wt).sum
 |[]=>le_refl _|y::l=>by simp only[map_cons,sum_cons,List.length_cons];have:=wo h l;have:=h y;omega
theorem Bt{α:Type}[cD α](s:Sl α):cD.wt s=(s.l.map cD.wt).sum+1:=rfl
theorem Ak(p:Int):∀(es:a_ Zn)(j:Int),(hU p j es).length=es.length
 |[],_=>rfl|_::es,j=>by simp only[hU,List.length_cons,Ak p es]
theorem FX:∀(ps:a_ cz)(i:Int),(fe i ps).length<=(ps.map cD.wt).sum
 |[],_=>le_refl _|p::ps,i=>by simp only[fe,ζi,Ak,map_cons,sum_cons];have a:=FX ps (i+1);have u:=wo (α:=Zn) (λx=>le_add_left ..) p.events.l;have w:cD.wt p=cD.wt p.name+cD.wt p.vars+cD.wt p.events+1:=rfl;have z:=Bt p.events;omega
theorem Nt{t:Zj}(h:cD.wt t<=1048576):Small t/\(bZ t).length<1073741824:=by have b:cD.wt t=cD.wt t.procs+1:=rfl;have c:=Bt t.procs;have B:=wo (α:=cz) (λx=>le_add_left ..) t.procs.l;have C:=FX t.procs.l 0;refine⟨⟨Za,λp u=>?_⟩,by show(fe 0 t.procs.l).length<_;omega⟩;have D:=BV u;have G:cD.wt p=cD.wt p.name+cD.wt p.vars+cD.wt p.events+1:=rfl;have I:=Bt p.events;have J:=Bt p.vars;have L:=wo (α:=Zn) (λx=>le_add_left ..) p.events.l;have O:=wo (α:=Var) (λx=>le_add_left ..) p.vars.l;have w:cD.wt p.name=p.name.size+1:=rfl;refine⟨Za,Za,Za,λv a=>?_,λe z=>?_⟩;have k1:=BV a;have k2:cD.wt v=cD.wt v.name+cD.wt v.init_+1:=rfl;have k3:cD.wt v.name=v.name.size+1:=rfl;omega;have k1:=BV z;have k2:cD.wt e=cD.wt e.kind+cD.wt e.peer+cD.wt e.message+cD.wt e.time+cD.wt e.assign+1:=rfl;have k3:=Bt e.assign;have k4:=wo (α:=Assign) (λx=>le_add_left ..) e.assign.l;omega
end Go.VE
namespace Go.Proofs.YtfgojpmjdgnieaaGreatDoor
open Go.ChangeShapes Go.WideShapes Go.ChangeAt Go.RowKit Go.VE
theorem own:ownKnob Tryz.prog.godebug=none:=by kernel_rfl
theorem kids:Kids Tryz.prog (·<Tryz.prog.types.size):=kids_rows Zi Zi
theorem full:∀t e,t<Tryz.prog.types.size->Tryz.prog.underlying t=some (.slice e)->0<Tryz.prog.cellsOf e:=slices_full_of Tryz.prog Zi
theorem vX{H:Type}:∀l:a_ (DataW H),Rows.uptoBulkAll l=(l.map Rows.uptoBulk).sum
 |[]=>by simp[Rows.uptoBulkAll]|d::r=>by simp[Rows.uptoBulkAll,vX r]
theorem KF{H:Type}:ru (H:=H) Rows.uptoBulk where
 lit l:=by cases l<;>simp[Rows.uptoBulk]
 str s:=by simp[Rows.uptoBulk]
 nil:=by simp[Rows.uptoBulk]
 slice es u:=by rw[Rows.uptoBulk,vX,vX];omega
 agg ps:=by rw[Rows.uptoBulk,vX];exact le_refl _
theorem Jw:Tryz.prog.globalNamed "antecede/predtype.parts" =some 0:=by kernel_rfl
theorem Nv:(Tryz.prog.globals[0]?).map (·.type)=some 184:=by kernel_rfl
theorem table{W:World}(h:laidMetH Tryz.prog Rows.temporalDualUptoRow.laid W):Lib.TabIs Tryz.prog W "antecede/predtype.parts" .i64 Er:=Lib.tabIs_of_head (rest:=[]) Jw Nv Tryz.underlying184 Tryz.underlying3 Zi Zi h
theorem TA{W:World}(h:laidMetH Tryz.prog Rows.temporalDualUptoRow.laid W):s8 (snap W):=λg u a=>by
 change(if Nat.beq g 0 then some (Er.map (V.int .i64))else none)=some u at a;split at a;next w=>cases a;have:g=0:=Nat.eq_of_beq_eq_true w;subst this;exact MR (λi z=>(table h).cell Jw i z) (by decide)
 cases a
set_option maxRecDepth 100000 in
theorem GO(H:Type)(enc:Zm×Zp->H)(W:World)(base:Nat)(args:Array Zp)(ds a:a_ (DataW H))(before:a_ MemPlace)
 (B:∀(j:Nat)t v,Tryz.f3.params[j]?=some t->args[j]?=some v->Value.okWide Tryz.prog W .any base t v)
 (D:DataW.Whole enc Tryz.prog Tryz.f3.params.toList Rows.temporalDualSpec.vars false W args.toList ds a before)(b:Rows.uptoSmall H (ds++a)=true)(U:laidMetH Tryz.prog Rows.temporalDualUptoRow.laid W):
 Calls Tryz.prog 3 args W λe G=>∃v,e=.returned v/\Rows.temporalDualSpec.post enc Tryz.prog Tryz.f3 false true false false W args v G:=by
 have u:=D;obtain⟨p,q,z,Q,rfl,S,T⟩:=D;have I:DataW.TrodAll enc Tryz.prog W 0 (λ_=>true) true Tryz.f3.params.toList args.toList ds p:=z
 rw[Tryz.params3]at I B;obtain⟨J,X,Y,Z,E,F,C,rfl,rfl,c,d⟩:=trodAll_cons I;obtain⟨L,K,g,M,p1,N,rfl,rfl,rfl,h,r1⟩:=trodAll_cons d;obtain⟨rfl,rfl,rfl⟩:=trodAll_nil r1;obtain rfl:args=#[J,L]:=by cases args;simp_all
 obtain⟨rfl,rfl⟩:=trodVars_none Q;have⟨a0,i,k0,k⟩:=Reads.Od (t:=24) (α:=VE.Trace) B 0 rfl rfl c;have⟨a1,l,k1,m⟩:=Reads.Od (t:=25) (α:=Sl Zl) B 1 rfl rfl h;have R:cD.wt a0+cD.wt a1<=1048576:=by have c0:=k Rows.uptoBulk KF;have c1:=m Rows.uptoBulk KF;have O:Rows.uptoBulkAll ([Y,g]++[])<=1048576:=of_decide_eq_true b;rw[vX]at O;simp only[List.append_nil,map_cons,List.map_nil,sum_cons,List.sum_nil]at O;omega
 have⟨n,o⟩:=Nt (t:=a0) Za
 have s:mA cL 3 [VE.enc a0,VE.enc a1]=some [.bool true]:=by have x:(cQ a0 a1).bind (λr:Zl=>some [V.bool r])=some [.bool true]:=(by rw[M_ n o];rfl);exact(v_ a0 a1).F.h () _ x
 have:=Jv (P:=Tryz.prog) Ef zz calls (f:=3) (xs:=[VE.enc a0,VE.enc a1]) (by simp[V.cG,V.good,jP]) s (w:=W) (args:=#[J,L]) (TA U) (cR.cons i (cR.cons l .nil))
 refine this.mono λe G⟨y,A⟩=>?_
 subst y;exact⟨_,rfl,Lh kids full (by rw[Tryz.params3];decide) rfl rfl rfl Tryz.underlying4 u A⟩
noncomputable def yM(os:Os):World:=
 {World.holding Tryz.prog os ⟨#[],#[],[]⟩with heap:=(World.holding Tryz.prog os ⟨#[],#[],[]⟩).heap.modify 0 fun
  |.cells _ t frozen=>.cells (Er.map (Value.int .i64)).toArray t frozen|o=>o}
theorem MI(os:Os):laidMet Tryz.prog Rows.temporalDualUptoRow.laid ((yM os).forCall (λ_ _=>0) ⟨#[],#[.agg #[.slice none 0 0],.slice none 0 0],[]⟩).memory:=laidMet_of_run' 8 Zi Zi
theorem NK(os:Os){H:Type}(enc:Zm×Zp->H):∃places,DataW.whole enc Tryz.prog ((yM os).forCall (λ_ _=>0) ⟨#[],#[.agg #[.slice none 0 0],.slice none 0 0],[]⟩).memory Tryz.f3.params.toList Rows.temporalDualSpec.vars false (#[.agg #[.slice none 0 0],.slice none 0 0]:Array Zp).toList 8=some ([.agg [.nil],.nil],[],places):=⟨[],by kernel_rfl⟩
set_option maxRecDepth 100000 in
theorem KS(os:Os)(B:os.Started)(H:Type)(enc:Zm×Zp->H)(F:Stop.Interp):
 ReturnsInHanded {} Tryz.checked os 3 .any ((Rows.OpenSpec.upto Rows.temporalDualSpec).preRow enc Tryz.prog Tryz.f3 Rows.temporalDualUptoRow.domain false Rows.temporalDualUptoRow.laid) (((Rows.OpenSpec.upto Rows.temporalDualSpec).at F).post enc Tryz.prog Tryz.f3 false true false false):=by
 have⟨places,z⟩:=NK os enc;refine returnsInHanded_of_row (C:=Tryz.checked) (s:=Rows.OpenSpec.upto Rows.temporalDualSpec) own B Zi Tryz.func3
  (witness_row_at (enc:=enc) (C:=Tryz.checked) false (yM os) #[.agg #[.slice none 0 0],.slice none 0 0] rfl Zi Zi Zi
   (OpenSpec.preRow_of_cond 8 z Zi (λk a=>by cases a;kernel_rfl) Zi (MI os))) ?_
 intro W base args ds b before w D _ u _ G _ _;exact GO H enc W base args ds b before w D (u _ rfl) G
theorem Qu:Rows.TemporalDualUptoSaid:=
 OpenClaim.holds_of_cond 3 Tryz.f3 rfl rfl rfl rfl rfl rfl rfl ⟨rfl,rfl,rfl,rfl,rfl⟩ rfl rfl rfl rfl rfl Zi Tryz.func3 Zi
  (of_decide_eq_true Zi) (by unfold Func.isWrapper;first|(rw[if_pos (by decide+kernel)];kernel_rfl)|(rw[if_neg (by decide+kernel)];exact⟨rfl,rfl⟩))
  (λos u H enc _ F=>by rw[OpenClaim.pre_eq_preRow];exact KS os u H enc F)
theorem M4(f:Zk)(fn:Func)(D:Tryz.pinned.checked.prog.funcNamed "antecede/antecedelaw41.TemporalDual" =some f)(B:Tryz.pinned.checked.prog.funcs[f]?=some fn):
 false=Tryz.pinned.checked.prog.looks []/\∀(j:Nat)t,fn.params[j]?=some t->Tryz.pinned.checked.prog.wantsStandIn t=false:=by
 obtain rfl:f=3:=Option.some.inj ((show Tryz.prog.funcNamed "antecede/antecedelaw41.TemporalDual" =some 3 by kernel_rfl).symm.trans D)|>.symm
 obtain rfl:fn=Tryz.f3:=(Option.some.inj (Tryz.func3.symm.trans B)).symm;refine⟨by kernel_rfl,λj t z=>?_⟩
 rw[Tryz.params3]at z;have C:t∈[24,25]:=by simpa using Array.mem_of_getElem? z
 have w:([24,25].all λu=> !Tryz.prog.wantsStandIn u)=true:=by kernel_rfl
 exact(show Tryz.prog.wantsStandIn t=false by simpa using List.all_eq_true.1 w t C)
theorem temporalDualProved:Rows.TemporalDualUptoCardSaid:=Claim7.holds_tied_plain_at .later [] _ _ _ _ Qu (λ_ h=>by cases h) Zi (λ_ h=>by cases h) temporalDualUpto_row_tie rfl ⟨rfl,rfl⟩ Zi rfl M4 Zi
#print axioms temporalDualProved
end Go.Proofs.YtfgojpmjdgnieaaGreatDoor
