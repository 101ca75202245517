/-
 GraftPairs says true for all arguments that together are of bulk at most 1048576, and they read behind the call as they read before: for every such argument, without a condition.
-/
import Derived.Test.YtimppgndlmehbaaGreatRows
import Derived.Test.YtimppgndlmehbaaGreatK1
import Derived.Test.YtimppgndlmehbaaGreatL1
set_option linter.all false
namespace Go.VE
theorem Hq {g:Int->Int->Int} {a b:Sl Int} (hl:a.l.length=b.l.length) (h60:a.l.length<1073741824) {step:Sl Int×Int->Option (Fw (Sl Int×Int) (Sl Int) Empty)}
 (hs:∀q,step q=aj (decide (q.2<len a)) ((idx a q.2).bind λx=>(idx b q.2).bind λy=>(fP q.1 (g x y)).bind λo=>some (.n (o,IntKind.wrap .i64 (q.2+1)))) (some (.x q.1))) :
 ∃r,(aK step (Sl.nil,0)).bind (Fw.elim (λe=>some e) (λe=>Empty.elim e))=some r/\r.l=List.zipWith g a.l b.l:=by
 have key:Wp ((aK step (Sl.nil,0)).bind (Fw.elim (λe=>some e) (λe=>Empty.elim e))) λr=>r.l=List.zipWith g a.l b.l:=by
  refine gu a.l.length (λi (q:Sl Int×Int)=>q.2=(i:Int)/\q.1.l=(List.zipWith g a.l b.l).take i) ⟨rfl,by simp[Sl.l]⟩ ?_ ?_
  .rintro i ⟨o,_⟩ hi ⟨e,h1⟩;simp only at e h1;subst e;have hib:i<b.l.length:=by omega
   rw[hs];simp only;rw[gf hi,aL,aD hi,ζb,aD hib,ζb];obtain⟨r,hr,e⟩:=mZ (s:=o) (x:=g a.l[i] b.l[i]) (by rw[h1];simp;omega)
   have hz:i<(List.zipWith g a.l b.l).length:=by simp;omega
   rw[hr,ζb,ah];exact⟨bq i (by omega),by rw[e,h1,List.take_succ_eq_append_getElem hz,List.getElem_zipWith]⟩
  .rintro⟨o,_⟩ ⟨e,h1⟩;simp only at e h1;subst e;rw[hs];simp only;rw[gb,aQ,ah];exact(ah _).2 (by rw[h1,List.take_of_length_le (by simp;omega)])
 obtain⟨r,h1,h2⟩:=key;exact⟨r,h1,h2⟩
theorem GW {a b:Sl Int} (hl:a.l.length=b.l.length) (h60:a.l.length<1073741824):∃r,kf a b=some r/\r.l=List.zipWith pU a.l b.l:=Hq hl h60 λ_=>rfl
theorem Of {a b:Sl Int} (hl:a.l.length=b.l.length) (h60:a.l.length<1073741824):∃r,lC a b=some r/\r.l=List.zipWith gT a.l b.l:=Hq hl h60 λ_=>rfl
theorem KU {a b:Sl (Sl Int)} (ha:a.l.length<1073741824) (hi:∀x∈a.l,x.l.length<1073741824):bn (dM a b) (ins a=ins b):=by
 unfold dM;have la:(ins a).length=a.l.length:=by unfold ins;simp
 have lb:(ins b).length=b.l.length:=by unfold ins;simp
 by_cases h:a.l.length=b.l.length
 .rw[show (len a==len b)=true from by simp[len,h],aL]
  unfold dM.W1;refine(kW (n:=a.l.length) (P:=λi=>(ins a)[i]? = (ins b)[i]?) (λi hlt _=>?_) (λ_=>?_)).iff ⟨λk=>List.ext_getElem? λi=>?_,λk i _=>by rw[k]⟩
  .have hb:i<b.l.length:=by omega
   unfold dM.an;rw[gf hlt,aL,aD hlt,ζb,aD hb,ζb];refine rX ((A2 (hi _ (List.getElem_mem hlt))).iff ?_) (bq i (by omega))
   unfold ins;rw[List.getElem?_map,List.getElem?_map,ζd hlt,ζd hb];simp
  .unfold dM.an;rw[gb,aQ]
  .by_cases hlt:i<a.l.length
   .exact k i hlt
   .rw[List.getElem?_eq_none (by omega),List.getElem?_eq_none (by omega)]
 .rw[show (len a==len b)=false from by simp[len];omega,aQ]
  refine fR ⟨λk=>by simp at k,λk=>?_⟩
  rw[<-la,<-lb,k]at h;exact absurd rfl h
section
variable {t:Trace} {A:bg 200 ay}
def nU (n:Nat) (V:List Int->Prop) (x:List Int):Prop:=x.length=n/\(∀v,V v->bp x v)/\∀y:List Int,y.length=n->(∀v,V v->bp y v)->bp y x
def uw (n:Nat) (V:List Int->Prop) (x:List Int):Prop:=x.length=n/\(∀v,V v->bp v x)/\∀y:List Int,y.length=n->(∀v,V v->bp v y)->bp x y
def mX (l:Sl (Sl Int)) (k:Nat) (v:List Int):Prop:=∃j,j<k/\∃x:Sl Int,l.l[j]? = some x/\x.l=v
theorem mX.succ {l:Sl (Sl Int)} {k:Nat} (hk:k<l.l.length) {v:List Int}:mX l (k+1) v↔mX l k v\/v=l.l[k].l:=by
 constructor
 .rintro⟨j,hj,x,hx,rfl⟩;rcases Nat.lt_or_eq_of_le (Nat.lt_succ_iff.1 hj)with h|rfl
  .exact .inl ⟨j,h,x,hx,rfl⟩
  .rw[ζd hk]at hx;cases hx;exact .inr rfl
 .rintro (⟨j,hj,x,hx,rfl⟩|rfl)
  .exact⟨j,by omega,x,hx,rfl⟩
  .exact⟨k,by omega,_,ζd hk,rfl⟩
theorem nU.meet {n:Nat} {V:List Int->Prop} {x c:List Int} (h:nU n V x) (hc:c.length=n):nU n (λv=>V v\/v=c) (List.zipWith pU x c):=by
 have hl:x.length=c.length:=h.1.trans hc.symm;obtain⟨m1,m2,m3⟩:=(kF.of pU hl).le_min hl;refine⟨by rw[List.length_zipWith,hl,Nat.min_self];exact hc,λv hv=>?_,λy hy hle=>m3 y (h.2.2 y hy λv hv=>hle v (.inl hv)) (hle c (.inr rfl))⟩
 rcases hv with hv|rfl
 .exact m1.trans (h.2.1 v hv)
 .exact m2
theorem uw.join {n:Nat} {V:List Int->Prop} {x c:List Int} (h:uw n V x) (hc:c.length=n):uw n (λv=>V v\/v=c) (List.zipWith gT x c):=by
 have hl:x.length=c.length:=h.1.trans hc.symm;obtain⟨m1,m2,m3⟩:=(kF.of gT hl).le_max hl;refine⟨by rw[List.length_zipWith,hl,Nat.min_self];exact hc,λv hv=>?_,λy hy hle=>m3 y (h.2.2 y hy λv hv=>hle v (.inl hv)) (hle c (.inr rfl))⟩
 rcases hv with hv|rfl
 .exact(h.2.1 v hv).trans m1
 .exact m2
theorem nU.iff {n:Nat} {V W:List Int->Prop} {x:List Int} (h:nU n V x) (e:∀v,V v↔W v):nU n W x:=⟨h.1,λv hv=>h.2.1 v ((e v).2 hv),λy hy k=>h.2.2 y hy λv hv=>k v ((e v).1 hv)⟩
theorem uw.iff {n:Nat} {V W:List Int->Prop} {x:List Int} (h:uw n V x) (e:∀v,V v↔W v):uw n W x:=⟨h.1,λv hv=>h.2.1 v ((e v).2 hv),λy hy k=>h.2.2 y hy λv hv=>k v ((e v).1 hv)⟩
theorem nU.one {n:Nat} {c:List Int} (hc:c.length=n):nU n (λv=>v=c) c:=⟨hc,λv hv=>hv▸bp.refl _,λy _ h=>h c rfl⟩
theorem uw.one {n:Nat} {c:List Int} (hc:c.length=n):uw n (λv=>v=c) c:=⟨hc,λv hv=>hv▸bp.refl _,λy _ h=>h c rfl⟩
def Nw (n:Nat) (V:List Int->Prop) (p i:Nat) (e:List Int):Prop:=(e=[]/\∀v,V v->nth v p<=(i:Int))\/((∃v,V v/\(i:Int)<nth v p)/\nU n (λv=>V v/\(i:Int)<nth v p) e)
structure I_ (t:Trace) (V:List Int->Prop) (b:Slice):Prop where
 e:b.empty=false
 f:nU t.procs.l.length V b.first.l
 l:uw t.procs.l.length V b.last.l
 j:b.j.l.length=t.procs.l.length
 r:∀p r,b.j.l[p]? = some r->r.l.length=dG t p/\∀(i:Nat) (c:Sl Int),r.l[i]? = some c->Nw t.procs.l.length V p i c.l
theorem Sw (hS:Small t) (hV:VT t) {l1:Sl (Sl Int)} (hC:∀x∈l1.l,Cons t A x.l) (h60:l1.l.length<1073741824) (hne:l1.l≠[]) :
 ∃b,bU t l1=some b/\I_ t (λv=>∃x∈l1.l,x.l=v) b:=by
 have hn8:=hV.few;have hone:=hV.ok.one;have hpos:0<l1.l.length:=List.length_pos_iff.2 hne;have hev:∀p,p<t.procs.l.length->dG t p<1073741824:=λp hp=>by rw[jE hp];exact(hS.2 _ (List.getElem_mem hp)).1
 have hlen:∀k (hk:k<l1.l.length),l1.l[k].l.length=t.procs.l.length:=λk hk=>(hC _ (List.getElem_mem hk)).1.1
 suffices h:Wp (bU t l1) λb=>I_ t (mX l1 l1.l.length) b by
  obtain⟨b,hb,h⟩:=h;have e:∀v,mX l1 l1.l.length v↔∃x∈l1.l,x.l=v:=λv=>by
   constructor
   .rintro⟨j,_,x,hx,rfl⟩;exact⟨x,List.mem_of_getElem? hx,rfl⟩
   .rintro⟨x,hx,rfl⟩;obtain⟨j,hj⟩:=List.mem_iff_getElem?.1 hx;exact⟨j,(ζe.1 hj).1,x,hj,rfl⟩
  refine⟨b,hb,h.e,h.f.iff e,h.l.iff e,h.j,λp r hr=>⟨(h.r p r hr).1,λi c hc=>?_⟩⟩
  rcases (h.r p r hr).2 i c hc with⟨k1,k2⟩|⟨⟨v,k1,k2⟩,k3⟩
  .exact .inl ⟨k1,λv hv=>k2 v ((e v).2 hv)⟩
  .exact .inr ⟨⟨v,(e v).1 k1,k2⟩,k3.iff λv=>and_congr_left λ_=>e v⟩
 unfold bU;rw[show ((len l1)==0)=false by simp[len];omega,aQ]
 have h0:idx l1 0=some l1.l[0]:=aD (i:=0) hpos;obtain⟨x2,e2,f2⟩:=rE (s:=(Sl.emp:Sl Int)) (x:=l1.l[0]) (by have:=hlen 0 hpos;show ([]:List Int).length+_<=_;rw[this,List.length_nil];omega)
 obtain⟨x4,e4,f4⟩:=rE (s:=(Sl.row []:Sl Int)) (x:=l1.l[0]) (by have:=hlen 0 hpos;show ([]:List Int).length+_<=_;rw[this,List.length_nil];omega)
 have g2:x2.l=l1.l[0].l:=by rw[f2];rfl
 have g4:x4.l=l1.l[0].l:=by rw[f4];rfl
 rw[h0,ζb,e2,ζb,ζb,e4,ζb];unfold bU.W1;have one0:∀v,mX l1 (0+1) v↔v=l1.l[0].l:=λv=>by
  rw[mX.succ hpos];exact⟨λh=>h.resolve_left λ⟨j,hj,_⟩=>absurd hj (by omega),.inr⟩
 refine gu (l1.l.length-1) (λi (q:Int×Slice×Slice)=>q.1=((i+1:Nat):Int)/\q.2.2.empty=false/\nU t.procs.l.length (mX l1 (i+1)) q.2.2.first.l/\uw t.procs.l.length (mX l1 (i+1)) q.2.2.last.l) ⟨rfl,rfl,(by rw[g2];exact(nU.one (hlen 0 hpos)).iff λv=>(one0 v).symm),(by rw[g4];exact(uw.one (hlen 0 hpos)).iff λv=>(one0 v).symm)⟩ ?_ ?_
 .rintro i ⟨k,vb,sb⟩ hi ⟨rfl,i1,i2,i3⟩;simp only at i1 i2 i3;unfold bU.an;simp only;have hk:i+1<l1.l.length:=by omega
  obtain⟨m,hm,hme⟩:=GW (a:=sb.first) (b:=l1.l[i+1]) (by rw[i2.1,hlen _ hk]) (by rw[i2.1];omega)
  obtain⟨n,hn,hnl⟩:=Of (a:=sb.last) (b:=l1.l[i+1]) (by rw[i3.1,hlen _ hk]) (by rw[i3.1];omega)
  rw[gf hk,aL,aD hk,ζb,hm,ζb,ζb,hn,ζb,ah];exact⟨bq (i+1) (by omega),i1,by rw[hme];exact(i2.meet (hlen _ hk)).iff λv=>(mX.succ hk).symm,by rw[hnl];exact(i3.join (hlen _ hk)).iff λv=>(mX.succ hk).symm⟩
 .rintro⟨k,vb,sb⟩ ⟨rfl,i1,i2,i3⟩;simp only at i1 i2 i3;unfold bU.an;simp only;rw[show l1.l.length-1+1=l1.l.length by omega]at i2 i3 ⊢
  rw[gb,aQ,ah];show Wp (bU.W2 l1 0 t _ _) _;unfold bU.W2;refine gu t.procs.l.length (λp (q:Int×Trace×Slice×Slice)=>q.1=(p:Int)/\q.2.1=t/\q.2.2.2.empty=false/\q.2.2.2.first=sb.first/\q.2.2.2.last=sb.last/\q.2.2.2.j.l.length=p/\∀p' r,q.2.2.2.j.l[p']? = some r->r.l.length=dG t p'/\∀(i:Nat) (c:Sl Int),r.l[i]? = some c->Nw t.procs.l.length (mX l1 l1.l.length) p' i c.l) ⟨rfl,rfl,i1,rfl,rfl,rfl,λp' r h=>by simp[Sl.l]at h⟩ ?_ ?_
  .rintro p ⟨v,tt,vb2,s2⟩ hp ⟨rfl,et,j1,j2,j3,j4,j5⟩;simp only at et j1 j2 j3 j4 j5;have et:=et.symm;subst et;unfold bU.aY;simp only;have hevp:=hev p hp;have hlp:t.procs.l[p].events.l.length=dG t p:=(jE hp).symm;rw[gf hp,aL];unfold bU.W3;refine gu (dG t p) (λi (q:Sl (Sl Int)×Int×Trace×Slice×Slice)=>q.2.1=(i:Int)/\q.2.2.1=t/\q.2.2.2.2=s2/\q.1.l.length=i/\∀(i':Nat) (c:Sl Int),q.1.l[i']? = some c->Nw t.procs.l.length (mX l1 l1.l.length) p i' c.l) ⟨rfl,rfl,rfl,rfl,λi' c h=>by simp[Sl.l]at h⟩ ?_ ?_
   .rintro i ⟨ow,v,t3,vb3,s3⟩ hi ⟨rfl,et,es,k1,k2⟩;simp only at et es k1 k2;have et:=et.symm;have es:=es.symm;subst et;subst es;unfold bU.cI;simp only;rw[aD hp,ζb,show decide ((i:Int)<len t.procs.l[p].events)=true by simp[len,hlp];omega,aL]
    unfold bU.W4;refine gu l1.l.length (λk (q:Int×Sl Int×Int×Trace×Slice)=>q.1=(i:Int)/\q.2.2.1=(k:Int)/\q.2.2.2.1=t/\Nw t.procs.l.length (mX l1 k) p i q.2.1.l) ⟨rfl,rfl,rfl,.inl ⟨rfl,λv ⟨j,hj,_⟩=>absurd hj (by omega)⟩⟩ ?_ ?_
    .rintro k ⟨v,c,v2,t4,vb4⟩ hk ⟨rfl,rfl,et,m1⟩;simp only at et m1;have et:=et.symm;subst et;unfold bU.jI;simp only;have hkl:=hlen k hk;have hpk:p<l1.l[k].l.length:=by rw[hkl];exact hp
     rw[gf hk,aL,aD hk,ζb,aD hpk,ζb,<-gB hpk]
     by_cases hle:nth l1.l[k].l p<=(i:Int)
     .rw[decide_eq_true hle,aL,ah];refine⟨rfl,bq k (by omega),rfl,?_⟩
      simp only;rcases m1 with⟨a,b⟩|⟨⟨w,a,a2⟩,b⟩
      .refine .inl ⟨a,λv hv=>?_⟩
       rcases (mX.succ hk).1 hv with h|rfl
       .exact b v h
       .exact hle
      .refine .inr ⟨⟨w,(mX.succ hk).2 (.inl a),a2⟩,b.iff λv=>⟨λh=>⟨(mX.succ hk).2 (.inl h.1),h.2⟩,λh=>?_⟩⟩
       rcases (mX.succ hk).1 h.1 with h'|rfl
       .exact⟨h',h.2⟩
       .exact absurd h.2 (by omega)
     .rw[decide_eq_false hle,aQ];rcases m1 with⟨a,b⟩|⟨⟨w,a,a2⟩,b⟩
      .obtain⟨y,hy,hye⟩:=rE (s:=(Sl.row []:Sl Int)) (x:=l1.l[k]) (by show ([]:List Int).length+_<=_;rw[hkl,List.length_nil];omega)
       have hye':y.l=l1.l[k].l:=by rw[hye];rfl
       rw[show ((len c)==0)=true by simp[len,a],aL,ζb,hy,ζb,ah]
       refine⟨rfl,bq k (by omega),rfl,.inr ⟨⟨l1.l[k].l,(mX.succ hk).2 (.inr rfl),by omega⟩,?_⟩⟩
       simp only[hye'];refine(nU.one hkl).iff λv=>⟨λh=>⟨(mX.succ hk).2 (.inr h),by rw[h];omega⟩,λh=>?_⟩
       rcases (mX.succ hk).1 h.1 with h'|h'
       .have:=b v h';have:=h.2;omega
       .exact h'
      .obtain⟨y,hy,hye⟩:=GW (a:=c) (b:=l1.l[k]) (by rw[b.1,hkl]) (by rw[b.1];omega)
       rw[show ((len c)==0)=false by simp[len];intro h;rw[h]at b;have:=b.1;simp at this;omega,aQ,ζb,hy,ζb,ah]
       refine⟨rfl,bq k (by omega),rfl,.inr ⟨⟨w,(mX.succ hk).2 (.inl a),a2⟩,?_⟩⟩
       simp only[hye];refine(b.meet hkl).iff λv=>⟨λh=>?_,λh=>?_⟩
       .rcases h with h|rfl
        .exact⟨(mX.succ hk).2 (.inl h.1),h.2⟩
        .exact⟨(mX.succ hk).2 (.inr rfl),by omega⟩
       .rcases (mX.succ hk).1 h.1 with h'|h'
        .exact .inl ⟨h',h.2⟩
        .exact .inr h'
    .rintro⟨v,c,v2,t4,vb4⟩ ⟨rfl,rfl,et,m1⟩;simp only at et m1;have et:=et.symm;subst et;unfold bU.jI;simp only;rw[gb,aQ,ah];obtain⟨o',ho,hoe⟩:=mZ (s:=ow) (x:=c) (by omega)
     show Wp ((fP ow c).bind _) _;rw[ho,ζb,ah];refine⟨bq i (by omega),rfl,rfl,by rw[hoe];simp[k1],λi' d hd=>?_⟩
     rw[hoe]at hd
     by_cases hi':i'<ow.l.length
     .rw[List.getElem?_append_left hi']at hd;exact k2 i' d hd
     .have:i'=i:=by
       have:=(ζe.1 hd).1;simp at this;omega
      subst this;rw[<-k1,List.getElem?_concat_length]at hd;cases hd;rw[k1]at *;exact m1
   .rintro⟨ow,v,t3,vb3,s3⟩ ⟨rfl,et,es,k1,k2⟩;simp only at et es k1 k2;have et:=et.symm;have es:=es.symm;subst et;subst es;unfold bU.cI;simp only;rw[aD hp,ζb,show decide (((dG t p:Nat):Int)<len t.procs.l[p].events)=false by simp[len,hlp],aQ,ah]
    obtain⟨o',ho,hoe⟩:=mZ (s:=s2.j) (x:=ow) (by omega)
    show Wp ((fP s2.j ow).bind _) _;rw[ho,ζb,ah];refine⟨bq p (by omega),rfl,j1,j2,j3,by rw[hoe];simp[j4],λp' r hr=>?_⟩
    rw[hoe]at hr
    by_cases hp':p'<s2.j.l.length
    .rw[List.getElem?_append_left hp']at hr;exact j5 p' r hr
    .have:p'=p:=by
      have:=(ζe.1 hr).1;simp at this;omega
     subst this;rw[<-j4,List.getElem?_concat_length]at hr;cases hr;exact⟨k1,k2⟩
  .rintro⟨v,tt,vb2,s2⟩ ⟨rfl,et,j1,j2,j3,j4,j5⟩;simp only at et j1 j2 j3 j4 j5;have et:=et.symm;subst et;unfold bU.aY;simp only;rw[gb,aQ,ah];refine(ah _).2 ⟨j1,by rw[j2];exact i2,by rw[j3];exact i3,j4,j5⟩
end
end Go.VE
namespace Go.VE
def Cl (c:List Int):List Int:=c.sum::c
def CK (c:List Int):Prop:=c.length<=8/\∀x∈c,0<=x/\x<1073741824
theorem L9 {c:List Int} (h:CK c) (i:Nat):0<=(c.take i).sum/\(c.take i).sum<=8589934592:=by
 have key:∀(l:List Int),(∀x∈l,0<=x/\x<1073741824)->0<=l.sum/\l.sum<=1073741824*(l.length:Int):=by
  intro l
  induction l with
  | nil=>intro _;simp
  | cons x l ih=>
   intro h;have h1:=h x (by simp)
   have h2:=ih λy hy=>h y (List.mem_cons_of_mem _ hy)
   simp only[List.sum_cons,List.length_cons];omega
 have h1:=key (c.take i) λx hx=>h.2 x (List.mem_of_mem_take hx)
 have h2:(c.take i).length<=8:=by rw[List.length_take];have:=h.1;omega
 omega
theorem FD {c:List Int} {i:Nat} (hi:i<c.length):(c.take (i+1)).sum=(c.take i).sum+c[i]:=by
 rw[List.take_succ_eq_append_getElem hi,List.sum_append];simp
theorem Lc {a b:List Int} {i:Nat} (ha:i<a.length) (hb:i<b.length):iW (a.drop i) (b.drop i)=if a[i]<b[i]then -1 else if a[i]>b[i]then 1 else iW (a.drop (i+1)) (b.drop (i+1)):=by
 rw[List.drop_eq_getElem_cons ha,List.drop_eq_getElem_cons hb];rfl
def eR (x y:List Int):Prop:=iW (Cl x) (Cl y)<0
instance (x y:List Int):Decidable (eR x y):=by unfold eR;exact inferInstance
theorem eR.Uj (x:List Int):¬eR x x:=by unfold eR;rw[Dr];omega
theorem eR.tr {x y z:List Int} (h:eR x y) (k:eR y z):eR x z:=He _ _ _ h k
theorem eR.tot {x y:List Int} (h:¬eR x y) (k:¬eR y x):x=y:=by
 have:=GU _ _ h k;unfold Cl at this;exact(List.cons.inj this).2
theorem eR.sum {x y:List Int} (h:x.sum<y.sum):eR x y:=by unfold eR Cl;simp[iW,h]
theorem PE {t:Trace} {A:bg 200 ay} (hS:Small t) (hV:VT t) {c:List Int} (hC:Cons t A c):CK c:=by
 refine⟨hC.1.1▸hV.few,λx hx=>?_⟩
 obtain⟨p,hp,e⟩:=List.mem_iff_getElem.1 hx;have hp2:p<t.procs.l.length:=by rw[<-hC.1.1];exact hp
 have:=hC.1.2 p x _ (by rw[ζd hp,e]) (ζd hp2)
 have k:=(hS.2 _ (List.getElem_mem hp2)).1;omega
theorem eR.Kz {x y:List Int} (h:x.sum=y.sum):eR x y↔iW x y<0:=by
 unfold eR Cl;simp only[iW,if_neg (show ¬x.sum<y.sum by omega),if_neg (show ¬x.sum>y.sum by omega)]
theorem eR.nodup {L:List (List Int)} (h:L.Pairwise eR):L.Nodup:=h.imp λ{x y} (h:eR x y) (e:x=y)=>eR.Uj y (by rw[e]at h;exact h)
theorem HR {L:List (List Int)} {c:List Int} {j:Nat} (h:L.Pairwise eR) (h1:∀(i:Nat) x,i<j->L[i]? = some x->eR x c) (h2:∀x,L[j]? = some x->eR c x) :
 (L.take j++[c]++L.drop j).Pairwise eR/\∀x,x∈L.take j++[c]++L.drop j↔x∈L\/x=c:=by
 have hpre:∀x∈L.take j,eR x c:=λx hx=>by
  obtain⟨k,hk,e⟩:=List.mem_iff_getElem.1 hx;rw[List.length_take]at hk;rw[List.getElem_take]at e;exact h1 k x (by omega) (by rw[ζd (by omega),e])
 have hpost:∀x∈L.drop j,eR c x:=λx hx=>by
  obtain⟨k,hk,e⟩:=List.mem_iff_getElem.1 hx;rw[List.length_drop]at hk;rw[List.getElem_drop]at e;have hj:j<L.length:=by omega
  have k0:=h2 _ (ζd hj)
  by_cases e0:k=0
  .subst e0;simp only[Nat.add_zero]at e;rw[<-e];exact k0
  .rw[<-e];exact k0.tr (List.pairwise_iff_getElem.1 h j (j+k) hj (by omega) (by omega))
 refine⟨List.pairwise_append.2 ⟨List.pairwise_append.2 ⟨h.sublist (List.take_sublist _ _),List.pairwise_singleton _ _,λx hx y hy=>?_⟩,h.sublist (List.drop_sublist _ _),λx hx y hy=>?_⟩,λx=>?_⟩
 .rw[List.mem_singleton.1 hy];exact hpre x hx
 .rcases List.mem_append.1 hx with hx|hx
  .exact(hpre x hx).tr (hpost y hy)
  .rw[List.mem_singleton.1 hx];exact hpost y hy
 .conv=>rhs;rw[<-List.take_append_drop j L]
  simp only[List.mem_append,List.mem_singleton];constructor
  .rintro ((h|h)|h) <;> simp[h]
  .rintro ((h|h)|h) <;> simp[h]
end Go.VE
namespace Go.VE
theorem C8 {c:Sl Int} (h:CK c.l):eV c=some c.l.sum:=by
 refine Wp.eq ?_;have h8:=h.1;unfold eV eV.W1;refine gu c.l.length (λi (q:Int×Int)=>q.2=(i:Int)/\q.1=(c.l.take i).sum) ⟨rfl,rfl⟩ ?_ ?_
 .rintro i ⟨m,_⟩ hi ⟨e,h1⟩;simp only at e h1;subst e;subst h1;unfold eV.an;rw[gf hi,aL,aD hi,ζb,ah];have k:=L9 h (i+1);rw[FD hi]at k;exact⟨bq i (by omega),by rw[FD hi];exact pH _ (by omega) (by omega)⟩
 .rintro⟨m,_⟩ ⟨e,h1⟩;simp only at e h1;subst e;subst h1;unfold eV.an;rw[gb,aQ,ah];exact(ah _).2 (by rw[List.take_length])
theorem Ge {a b:Sl Int} (ha:CK a.l) (hb:CK b.l) (hl:a.l.length=b.l.length):fD a b=some (decide (eR a.l b.l)):=by
 have h8:=ha.1;unfold fD;rw[C8 ha,ζb,C8 hb,ζb]
 by_cases e:a.l.sum=b.l.sum
 .rw[show (a.l.sum==b.l.sum)=true from by simpa using e,aL]
  refine Wp.eq ?_;unfold fD.W1;refine gu a.l.length (λi (q:Int)=>q=(i:Int)/\iW (a.l.drop i) (b.l.drop i)=iW a.l b.l) ⟨rfl,rfl⟩ ?_ ?_
  .rintro i _ hi ⟨rfl,h⟩;have hib:i<b.l.length:=by omega
   unfold fD.an;rw[gf hi,aL,aD hi,ζb,aD hib,ζb];rw[Lc hi hib]at h
   by_cases e2:a.l[i]=b.l[i]
   .rw[show (a.l[i]==b.l[i])=true from by simpa using e2,aL,ah]
    rw[if_neg (by omega),if_neg (by omega)]at h
    exact⟨bq i (by omega),h⟩
   .rw[show (a.l[i]==b.l[i])=false from by simpa using e2,aQ,ζb,ζb,ah]
    refine(ah _).2 ?_;have hd:decide (eR a.l b.l)=decide (iW a.l b.l<0):=decide_eq_decide.2 (eR.Kz e);rw[hd]
    by_cases k:a.l[i]<b.l[i]
    .rw[if_pos k]at h;rw[<-h];simp[k]
    .rw[if_neg k,if_pos (by omega)]at h;rw[<-h];simp[k]
  .rintro _ ⟨rfl,h⟩;unfold fD.an;rw[gb,aQ,ah];refine(ah _).2 ?_;have hd:decide (eR a.l b.l)=decide (iW a.l b.l<0):=decide_eq_decide.2 (eR.Kz e);rw[hd];rw[List.drop_of_length_le (Nat.le_refl _),List.drop_of_length_le (by omega)]at h
   rw[<-h];rfl
 .rw[show (a.l.sum==b.l.sum)=false from by simpa using e,aQ,ζb,ζb]
  congr 1
  refine decide_eq_decide.2 ?_;unfold eR Cl
  by_cases k:a.l.sum<b.l.sum
  .simp[iW,k]
  .simp[iW,k,show a.l.sum>b.l.sum by omega]
theorem Lg {a b:Sl Int} (hl:a.l.length<1073741824):dK a b=some (decide (a.l=b.l)):=by
 refine Wp.eq ?_;unfold dK;rw[bh];refine⟨λh=>?_,λh=>(ah _).2 ?_⟩
 .have h:(a.l.length:Int)=b.l.length:=by simpa [len]using h
  have h:a.l.length=b.l.length:=by omega
  unfold dK.W1;refine gu a.l.length (λn s=>s=(n:Int)/\∀i,i<n->a.l[i]? = b.l[i]?) ⟨rfl,λi h=>absurd h (by omega)⟩ ?_ ?_
  .rintro n _ hlt ⟨rfl,hI⟩;unfold dK.an;have hb:n<b.l.length:=by omega
   rw[gf hlt,aL,aD hlt,ζb,aD hb,ζb,bh];refine⟨λhe=>(ah _).2 ⟨bq n (by omega),λi hi=>?_⟩,λhe=>(ah _).2 ((ah _).2 ?_)⟩
   .by_cases e:i=n
    .subst e;rw[ζd hlt,ζd hb];simpa using he
    .exact hI i (by omega)
   .refine(decide_eq_false λe=>?_).symm
    have h1:a.l[n]? = b.l[n]? := by rw[e]
    rw[ζd hlt,ζd hb]at h1;simp at he h1;exact he h1
  .rintro _ ⟨rfl,hI⟩;unfold dK.an;rw[gb,aQ,ah];refine(ah _).2 (decide_eq_true (List.ext_getElem? λi=>?_)).symm
   by_cases hi:i<a.l.length
   .exact hI i hi
   .rw[List.getElem?_eq_none (by omega),List.getElem?_eq_none (by omega)]
 .refine(decide_eq_false λe=>?_).symm
  simp[len,e]at h
theorem vQ (s:Sl (Sl Int)):(ins s).length=s.l.length:=by unfold ins;simp
theorem OB (s:Sl (Sl Int)) (i:Nat):(ins s)[i]? = (s.l[i]?).map Sl.l:=by unfold ins;rw[List.getElem?_map]
theorem yU {s:Sl (Sl Int)} {i:Nat} (h:i<s.l.length):(ins s)[i]? = some s.l[i].l:=by rw[OB,ζd h];rfl
theorem Gw {l:Sl (Sl Int)} {c:Sl Int} (hn:∀x∈l.l,CK x.l/\x.l.length=c.l.length) (hc:CK c.l) (hl:l.l.length<1073741824) (hs:(ins l).Pairwise eR) :
 Wp (fC l c) λr=>r.l.length<=l.l.length+1/\(ins r).Pairwise eR/\∀d,d∈ins r↔d∈ins l\/d=c.l:=by
 have h8:=hc.1;have post:∀n:Nat,n<=l.l.length->(∀(i:Nat) x,i<n->(ins l)[i]? = some x->eR x c.l)->(∀x,(ins l)[n]? = some x->¬eR x c.l) ->
  Wp ((aj (decide ((n:Int)<(len l))) ((idx l n).bind λx_1=>(dK x_1 c).bind λx_2=>some x_2) (some false):Option Bool).bind λx_3=>
  aj x_3 (some l) ((eO l none (some (n:Int))).bind λx_4=>(jw (Sl.row []:Sl (Sl Int)) x_4).bind λx_5=>(fP x_5 (c:Sl Int)).bind λx_6=>(eO l (some (n:Int)) none).bind λx_7=>(jw x_6 x_7).bind λx_8=>some x_8))
  λr=>r.l.length<=l.l.length+1/\(ins r).Pairwise eR/\∀d,d∈ins r↔d∈ins l\/d=c.l:=by
  intro n hnl hlo hhi;have hcut:(∀x,(ins l)[n]? = some x->x≠c.l)->Wp ((eO l none (some (n:Int))).bind λx_4=>(jw (Sl.row []:Sl (Sl Int)) x_4).bind λx_5=>(fP x_5 (c:Sl Int)).bind λx_6=>(eO l (some (n:Int)) none).bind λx_7=>(jw x_6 x_7).bind λx_8=>some x_8) λr=>r.l.length<=l.l.length+1/\(ins r).Pairwise eR/\∀d,d∈ins r↔d∈ins l\/d=c.l:=by
   intro hne;obtain⟨x4,h4,e4⟩:=qd l n hnl;have e4l:x4.l.length<=l.l.length:=by rw[e4,List.length_take];omega
   obtain⟨x5,h5,e5⟩:=rE (s:=(Sl.row []:Sl (Sl Int))) (x:=x4) (show 0+x4.l.length<=_ by omega)
   have e5:x5.l=x4.l:=e5;obtain⟨x6,h6,e6⟩:=mZ (s:=x5) (x:=c) (by rw[e5];omega)
   obtain⟨x7,h7,e7⟩:=Gf l n hnl;obtain⟨x8,h8,e8⟩:=rE (s:=x6) (x:=x7) (by rw[e6,e7,e5,ζi,List.length_drop,List.length_singleton];omega)
   rw[h4,ζb,h5,ζb,h6,ζb,h7,ζb,h8,ζb,ah];have e:x8.l=l.l.take n++[c]++l.l.drop n:=by rw[e8,e6,e7,e5,e4]
   have ei:ins x8=(ins l).take n++[c.l]++(ins l).drop n:=by unfold ins;rw[e];simp[List.map_take,List.map_drop]
   obtain⟨s1,s2⟩:=HR hs hlo λx hx=>by
    by_cases k:eR c.l x
    .exact k
    .exact absurd (eR.tot k (hhi x hx)).symm (hne x hx)
   exact⟨by rw[e];simp;omega,by rw[ei];exact s1,λd=>by rw[ei];exact s2 d⟩
  by_cases h:n<l.l.length
  .rw[gf h,aL,aD h,ζb,Lg (by have:=(hn _ (List.getElem_mem h)).1.1;omega),ζb,ζb]
   by_cases e:l.l[n].l=c.l
   .rw[decide_eq_true e,aL,ah];refine⟨by omega,hs,λd=>⟨.inl,λh2=>h2.elim id λh2=>?_⟩⟩
    rw[h2,<-e];exact nq.2 ⟨_,List.getElem_mem h,rfl⟩
   .rw[decide_eq_false e,aQ];exact hcut λx hx=>by rw[yU h]at hx;cases hx;exact e
  .rw[show (n:Int)=(l.l.length:Nat)from by omega,gb,aQ,ζb,aQ,<-show (n:Int)=(l.l.length:Nat)from by omega]
   exact hcut λx hx=>by have:=(ζe.1 hx).1;rw[vQ]at this;omega
 unfold fC fC.W1;refine gu l.l.length (λn s=>s=(n:Int)/\∀(i:Nat) x,i<n->(ins l)[i]? = some x->eR x c.l) ⟨rfl,λi x h=>absurd h (by omega)⟩ ?_ ?_
 .rintro n _ hlt ⟨rfl,hI⟩;obtain⟨q1,q2⟩:=hn _ (List.getElem_mem hlt);unfold fC.an;rw[gf hlt,aL,aD hlt,ζb,Ge q1 hc q2,ζb,ζb]
  by_cases e:eR l.l[n].l c.l
  .rw[decide_eq_true e,aL,ah];refine⟨bq n (by omega),λi x hi hx=>?_⟩
   by_cases e2:i=n
   .subst e2;rw[yU hlt]at hx;cases hx;exact e
   .exact hI i x (by omega) hx
  .rw[decide_eq_false e,aQ,ah];exact post n (by omega) hI λx hx=>by rw[yU hlt]at hx;cases hx;exact e
 .rintro _ ⟨rfl,hI⟩;unfold fC.an;rw[gb,aQ,ζb,aQ,ah];exact post _ (Nat.le_refl _) hI λx hx=>by have:=(ζe.1 hx).1;rw[vQ]at this;omega
section
variable {t:Trace} {A:bg 200 ay}
structure vY (t:Trace) (A:bg 200 ay) (L:List (List Int)):Prop where
 srt:L.Pairwise eR
 mem:∀d,d∈L↔Cons t A d
def PN (t:Trace) (A:bg 200 ay):Prop:=∃L:List (List Int),L.Nodup/\(∀d∈L,Cons t A d)/\5000<L.length
theorem Jv {k:Nat} {o l:List (List Int)} (h1:∀d,d∈l↔Cons t A d/\d.sum=(k:Int)) (h2:l.Pairwise eR) (h3:o.Pairwise eR) (h4:∀d,d∈o↔Cons t A d/\d.sum<(k:Int)) :
 (o++l).Pairwise eR/\∀d,d∈o++l↔Cons t A d/\d.sum<((k+1:Nat):Int):=by
 refine⟨List.pairwise_append.2 ⟨h3,h2,λa ha b hb=>eR.sum (by have:=((h4 a).1 ha).2;have:=((h1 b).1 hb).2;omega)⟩,λd=>?_⟩
 rw[List.mem_append,h4,h1];constructor
 .rintro (⟨h,k1⟩|⟨h,k1⟩)
  .exact⟨h,by omega⟩
  .exact⟨h,by omega⟩
 .rintro⟨h,k1⟩
  by_cases hk2:d.sum<(k:Int)
  .exact .inl ⟨h,hk2⟩
  .exact .inr ⟨h,by omega⟩
theorem J8 (hS:Small t) (hV:VT t) (hM:fh t (aV t) A):Wp (dF t) λr=>(r.2=true/\vY t A (ins r.1)/\r.1.l.length<=5000)\/(r.2=false/\r.1=.nil/\PN t A):=by
 have hn8:=hV.few;unfold dF tw;rw[if_pos ⟨by simp[len],by simp[len];omega⟩,ζb]
 unfold dF.W1;have fin:∀(k:Nat) (level out:Sl (Sl Int)),D2 t A k level->level.l.length=0->(ins out).Pairwise eR->(∀d,d∈ins out↔Cons t A d/\d.sum<(k:Int))->vY t A (ins out):=λk level out h1 he h2 h3=>
  ⟨h2,λd=>(h3 d).trans ⟨λh=>h.1,λh=>⟨h,h1.none hV hM he h⟩⟩⟩
 refine gu (rH t+1) (λk s=>D2 t A k s.1/\(ins s.1).Pairwise eR/\(ins s.2).Pairwise eR/\(∀d,d∈ins s.2↔Cons t A d/\d.sum<(k:Int))/\s.1.l.length<=40000/\s.2.l.length<=5000)
  ⟨TL (by simp[Sl.l,len]),by simp[ins,Sl.l],by simp[ins,Sl.l],λd=>⟨λh=>by simp[ins,Sl.l]at h,λh=>absurd (qH h.1.1.pos) (by have:=h.2;simp at this;omega)⟩,by simp[Sl.l],by simp[Sl.l]⟩ ?_ ?_
 .rintro k ⟨level,out⟩ hk ⟨h1,h1s,h2s,h2,h3,h4⟩;simp only at h1 h1s h2s h2 h3 h4;unfold dF.an;rw[Ku]
  by_cases he:level.l.length=0
  .rw[show (!decide (level.l.length=0))=false from by simp[he],aQ,ah]
   exact(ah _).2 (.inl ⟨rfl,fin k level out h1 he h2s h2,h4⟩)
  .rw[show (!decide (level.l.length=0))=true from by simp[he],aL]
   obtain⟨x,hx,hxl⟩:=rE (s:=out) (x:=level) (by omega)
   have hxi:ins x=ins out++ins level:=by unfold ins;rw[hxl];simp
   obtain⟨o1,o2⟩:=Jv h1 h1s h2s h2;rw[<-hxi]at o1 o2;rw[hx,ζb,bh];refine⟨λh5=>(ah _).2 ((ah _).2 (.inr ⟨rfl,rfl,ins x,eR.nodup o1,λd hd=>((o2 d).1 hd).1,?_⟩)),λh5=>?_⟩
   .rw[vQ];simp[len]at h5;omega
   have h5:x.l.length<=5000:=by simp[len]at h5;omega
   have h6:level.l.length<=5000:=by rw[hxl,ζi]at h5;omega
   have sm:∀d,Cons t A d->CK d/\d.length=t.procs.l.length:=λd h=>⟨PE hS hV h,h.1.1⟩
   unfold dF.W2;refine gu level.l.length (λn s=>s.2=(n:Int)/\s.1.l.length<=8*n/\(ins s.1).Pairwise eR/\∀d,d∈ins s.1↔∃c∈(level.l.take n).map Sl.l,xe t A c d) ⟨rfl,Nat.zero_le _,by simp[ins,Sl.l],λd=>by simp[ins,Sl.l]⟩ ?_ ?_
   .rintro n ⟨more,_⟩ hlt ⟨e,g1,gs,g2⟩;simp only at e g1 gs g2;subst e;unfold dF.aY;have hCn:=(h1 level.l[n].l).1 (nq.2 ⟨_,List.getElem_mem hlt,rfl⟩);rw[gf hlt,aL,aD hlt,ζb,eB];refine(OS hS hV hM hCn.1).mono λnx hn=>?_
    unfold dF.W3;refine gu nx.l.length (λm s=>s.2=(m:Int)/\s.1.l.length<=8*n+m/\(ins s.1).Pairwise eR/\∀d,d∈ins s.1↔d∈ins more\/d∈(nx.l.take m).map Sl.l) ⟨rfl,g1,gs,λd=>by simp⟩ ?_ ?_
    .rintro m ⟨mr,_⟩ hlm ⟨e,f1,fs,f2⟩;simp only at e f1 fs f2;subst e;unfold dF.cI;rw[gf hlm,aL,aD hlm,ζb,eB];have hN:=(hn.2 nx.l[m].l).1 (nq.2 ⟨_,List.getElem_mem hlm,rfl⟩);obtain⟨_,_,_,_,hNC⟩:=hN;refine(Gw (l:=mr) (c:=nx.l[m]) (λy hy=>?_) (sm _ hNC).1 (by omega) fs).mono λr hr=>?_
     .have hy2:Cons t A y.l:=by
       rcases (f2 y.l).1 (nq.2 ⟨_,hy,rfl⟩)with h|h
       .obtain⟨_,_,p,a,_,_,k⟩:=(g2 y.l).1 h;exact k
       .obtain⟨z,hz,e⟩:=List.mem_map.1 h;obtain⟨p,a,_,_,k⟩:=(hn.2 z.l).1 (nq.2 ⟨_,List.mem_of_mem_take hz,rfl⟩);rw[<-e];exact k
      exact⟨(sm _ hy2).1,(sm _ hy2).2.trans (sm _ hNC).2.symm⟩
     .refine(ah _).2 ⟨bq m (by omega),Nat.le_trans hr.1 (by omega),hr.2.1,λd=>?_⟩
      rw[hr.2.2,f2,wR hlm,or_assoc]
    .rintro⟨mr,_⟩ ⟨e,f1,fs,f2⟩;simp only at e f1 fs f2;subst e;unfold dF.cI;rw[gb,aQ,ah];refine(ah _).2 ⟨bq n (by omega),show mr.l.length<=_ by omega,fs,λd=>?_⟩
     rw[f2,List.take_length];constructor
     .rintro (h|h)
      .obtain⟨c,hc,hs⟩:=(g2 d).1 h;exact⟨c,(wR hlt).2 (.inl hc),hs⟩
      .exact⟨_,(wR hlt).2 (.inr rfl),(hn.2 d).1 h⟩
     .rintro⟨c,hc,hs⟩;rcases (wR hlt).1 hc with h|h
      .exact .inl ((g2 d).2 ⟨c,h,hs⟩)
      .subst h;exact .inr ((hn.2 d).2 hs)
   .rintro⟨more,_⟩ ⟨e,g1,gs,g2⟩;simp only at e g1 gs g2;subst e;unfold dF.aY;rw[gb,aQ,ah];refine(ah _).2 ⟨λd=>?_,gs,o1,o2,show more.l.length<=_ by omega,h5⟩
    rw[g2,List.take_length,<-xe.iff hV hM (k:=k)];exact⟨λ⟨c,hc,hs⟩=>⟨c,(h1 c).1 hc,hs⟩,λ⟨c,hc,hs⟩=>⟨c,(h1 c).2 hc,hs⟩⟩
 .rintro⟨level,out⟩ ⟨h1,h1s,h2s,h2,h3,h4⟩;simp only at h1 h1s h2s h2 h3 h4;unfold dF.an;rw[Ku,show (!decide (level.l.length=0))=false from by simp[h1.last],aQ,ah]
  exact(ah _).2 (.inl ⟨rfl,fin _ level out h1 h1.last h2s h2,h4⟩)
end
end Go.VE
namespace Go.VE
theorem S7 {t:Trace} (hS:Small t) (m:Int):∃b,gV t m=some b/\(b=true->∀p,p<t.procs.l.length->dG t p<=20):=by
 suffices h:Wp (gV t m) λb=>b=true->∀p,p<t.procs.l.length->dG t p<=20 from h
 unfold gV gV.W1;refine gu t.procs.l.length (λi q=>q.2=(i:Int)/\∀p,p<i->dG t p<=20) ⟨rfl,λp hp=>absurd hp (by omega)⟩ ?_ ?_
 .rintro n ⟨c,_⟩ hlt ⟨e,ih⟩;simp only at e;subst e;have h1:=hS.1;unfold gV.an;rw[gf hlt,aL,aD hlt,ζb,iA,ζb];rw[xA (f:=λz=>(pL z).getD false) (λz _=>GL.ok ((ah _).2 trivial)) (hS.2 _ (List.getElem_mem hlt)).1]
  simp only[ζb,iA];rw[bh];refine⟨λ_=>(ah _).2 ((ah _).2 λh=>(nomatch h)),λh=>(ah _).2 ⟨bq n (by omega),λp hp=>?_⟩⟩
  simp only[Bool.or_eq_false_iff,decide_eq_false_iff_not,len]at h;rcases Nat.lt_or_eq_of_le (Nat.lt_succ_iff.1 hp)with q|rfl
  .exact ih p q
  .rw[jE hlt];omega
 .rintro⟨c,_⟩ ⟨e,ih⟩;simp only at e;subst e;unfold gV.an;rw[gb,aQ,ah];simp only[kQ,ζb];exact(ah _).2 λ_=>ih
theorem Ht {α:Type} {n:Nat}:∀{l:List (Sl α)},(∀r∈l,r.l.length<=n)->(l.flatMap Sl.l).length<=l.length*n
 | [],_=>by simp
 | r::l,h=>by
  have h1:=h r (by simp)
  have h2:=Ht (l:=l) λr hr=>h r (by simp[hr])
  simp only[List.flatMap_cons,ζi,List.length_cons,Nat.add_mul,Nat.one_mul];omega
theorem JU {s:Slice} (hF:HV s):∃b,oZ s=some b/\(b=false->jB s/\(s.j.l.flatMap Sl.l).length<=800):=by
 have hd:∀r∈s.j.l,me r=some (decide ((len r)>40)||r.l.any λc=>decide ((len c)>20)):=λr hr=>by
  unfold me;rw[yB (p:=λz=>lR z) (f:=λc=>decide ((len c)>20)) (λx _=>rfl) (hF.r r hr),ζb]
  simp only[iA,ζb]
 unfold oZ;rw[Dx hd hF.j,ζb];simp only[iA,ζb];refine⟨_,rfl,λh=>?_⟩
 simp only[Bool.or_eq_false_iff,decide_eq_false_iff_not,List.any_eq_false,Bool.not_eq_true,len]at h;have hr:∀r∈s.j.l,r.l.length<=40:=λr hr=>by have:=(h.2 r hr).1;omega
 refine⟨⟨by omega,by omega,by omega,λr hr'=>⟨by have:=hr r hr';omega,λc hc=>by have:=(h.2 r hr').2 c hc;omega⟩⟩,?_⟩
 have h1:=Ht hr;have:s.j.l.length*40<=20*40:=Nat.mul_le_mul_right 40 (by omega)
 omega
theorem DG {s:Sl Slice} {p:Slice->Option Bool} {f:Slice->Bool} (hp:∀x∈s.l,p x=some (f x)) (hl:s.l.length<1073741824):iJ s p=some (s.l.any f):=by
 have h:eu s p=some (place f s.l):=oe hp (by omega) (λi=>rfl)
 unfold iJ;rw[h,ζb,nQ]
section
variable {t:Trace} {A:bg 200 ay} {s:Slice} {U V:List Int->Prop}
theorem Ke (hV:VT t) (hU:∀u,U u->Cons t A u) (hev:∀p,p<t.procs.l.length->dG t p<=20) {b:Slice} (h:vj t A U b):jB b:=by
 have hn8:=hV.few;refine⟨by rw[(hU _ h.f).1.1];omega,by rw[h.lc.1.1];omega,by rw[h.j];omega,λr hr=>?_⟩
 obtain⟨p,hp⟩:=List.mem_iff_getElem?.1 hr;have hpl:=(ζe.1 hp).1;have hpt:p<t.procs.l.length:=by rw[<-h.j];exact hpl
 have hrl:r.l.length=dG t p:=by
  have:=h.rows p hpt;rw[lY hpl,(ζe.1 hp).2]at this;exact this
 have h20:=hev p hpt;refine⟨by omega,λc hc=>?_⟩
 obtain⟨i,hi⟩:=List.mem_iff_getElem?.1 hc;have hil:=(ζe.1 hi).1;have he:el b p i=c.l:=by unfold el;rw[hp];simp only[hi]
 rcases h.elm p hpt i (by omega)with⟨k,_⟩|⟨k,_⟩
 .rw[he]at k;rw[k];simp
 .rw[he]at k;rw[(hU _ k).1.1];omega
def UV (t:Trace) (A:bg 200 ay) (V:List Int->Prop) (u:List Int):Prop:=(Cons t A u/\∃v,V v/\bp u v)/\∀x:List Int,x.length=t.procs.l.length->(∀v,V v->bp u v->bp x v)->bp x u
theorem UV.of (hC:∀v,V v->Cons t A v) {v:List Int} (h:V v):UV t A V v:=⟨⟨hC v h,v,h,bp.refl _⟩,λx _ hx=>hx v h (bp.refl _)⟩
theorem UV.T9 (hC:∀v,V v->Cons t A v) {p1:Sl Int->Option (Sl Int×Bool)} (h:Cw t V p1):Cw t (UV t A V) p1:=λc hR=>by
 rcases h c hR with⟨d,hd,dV,dle,dm⟩|⟨hd,hno⟩
 .exact .inl ⟨d,hd,UV.of hC dV,dle,λu hu hle=>hu.2 _ (hC _ dV).1.1 λv hv hv'=>dm v hv (hle.trans hv')⟩
 .exact .inr ⟨hd,λu hu hle=>by
   obtain⟨⟨_,v,hv,hv'⟩,_⟩:=hu;exact hno v hv (hle.trans hv')⟩
theorem nU.Lf {n:Nat} {x y:List Int} (h:nU n V x) (hy:y.length=n) (h1:∀v,V v->bp y v) (h2:∀z:List Int,z.length=n->(∀v,V v->bp z v)->bp z y):y=x:=(h.2.2 y hy h1).anti (h2 x h.1 h.2.1)
theorem Jt (hS:Small t) (hV:VT t) (hC:∀v,V v->Cons t A v) {a b:Slice} (ha:vj t A (UV t A V) a) (hb:I_ t V b):cF a b=some true:=by
 have hn8:=hV.few;have hof:∀v,V v->UV t A V v:=λv h=>UV.of hC h
 have hev:∀p,p<t.procs.l.length->dG t p<1073741824:=λp hp=>by rw[jE hp];exact(hS.2 _ (List.getElem_mem hp)).1
 have hUC:∀u,UV t A V u->Cons t A u:=λu h=>h.1.1
 have e1:a.first.l=b.first.l:=nU.Lf hb.f ha.f.1.1.1.1 (λv hv=>ha.mn v (hof v hv)) λz hz h=>ha.f.2 z hz λv hv _=>h v hv
 have e2:a.last.l=b.last.l:=by
  refine(rT.2 ⟨ha.lc.1.1.trans hb.l.1.symm,λp hp=>?_⟩).anti (hb.l.2.2 _ ha.lc.1.1 λv hv=>ha.up hUC (hof v hv))
  obtain⟨u,hu,hue⟩:=ha.la p (by rw[<-ha.lc.1.1];exact hp)
  obtain⟨⟨hu1,v,hv,hle⟩,_⟩:=hu;rw[hue];exact Int.le_trans (hle.nth (by rw[hu1.1.1,<-ha.lc.1.1];exact hp)) ((hb.l.2.1 v hv).nth (by rw[(hC v hv).1.1,<-ha.lc.1.1];exact hp))
 have f60:a.first.l.length<1073741824:=by rw[ha.f.1.1.1.1];omega
 have l60:a.last.l.length<1073741824:=by rw[ha.lc.1.1];omega
 unfold cF;obtain⟨x,hx,hxi⟩:=A2 (a:=a.first) (b:=b.first) f60
 obtain⟨y,hy,hyi⟩:=A2 (a:=a.last) (b:=b.last) l60;rw[show (a.empty==b.empty)=true by rw[ha.e,hb.e];rfl,aL,hx,hxi.2 e1,ζb,ζb,show (!true)=false from rfl,aQ,hy,hyi.2 e2,ζb,ζb,show (!true)=false from rfl,aQ,show ((len a.j)==(len b.j))=true by simp[len,ha.j,hb.j],ζb,show (!true)=false from rfl,aQ]
 unfold cF.W1;have key:bn ((aK (λq:Int=>cF.an a b q) 0).bind (Fw.elim (λ_=>some true) (λ_=>some false))) True:=by
  refine(kW (n:=a.j.l.length) (P:=λ_=>True) (λi hlt _=>?_) (λ_=>?_)).iff ⟨λ_=>trivial,λ_ _ _=>trivial⟩
  .have hi:i<t.procs.l.length:=by rw[<-ha.j];exact hlt
   have hb':i<b.j.l.length:=by rw[hb.j];exact hi
   unfold cF.an;rw[gf hlt,aL,aD hlt,ζb,aD hb',ζb];have hr1:a.j.l[i].l.length=dG t i:=by rw[<-lY hlt];exact ha.rows i hi
   obtain⟨hr2,hr3⟩:=hb.r i _ (ζd hb');have hel:∀k (hk:k<a.j.l[i].l.length),el a i k=a.j.l[i].l[k].l:=λk hk=>by
    unfold el;rw[ζd hlt];simp only[ζd hk]
   have hsame:∀k,k<dG t i->(ins a.j.l[i])[k]? = (ins b.j.l[i])[k]? := λk hk=>by
    have hk1:k<a.j.l[i].l.length:=by omega
    have hk2:k<b.j.l[i].l.length:=by omega
    rw[yU hk1,yU hk2,<-hel k hk1]
    congr 1
    have h1:=ha.elm i hi k hk;rcases hr3 k _ (ζd hk2)with⟨q1,q2⟩|⟨⟨v,q1,q2⟩,q3⟩
    .rcases h1 with⟨h1,_⟩|⟨h1,h2,_⟩
     .rw[h1,q1]
     .obtain⟨⟨h3,v,hv,hle⟩,_⟩:=h1;have:=q2 v hv;have:=hle.nth (p:=i) (by rw[h3.1.1];exact hi)
      omega
    .rcases h1 with⟨_,h1⟩|⟨h1,h2,h3⟩
     .have:=h1 v (hof v q1);omega
     .refine nU.Lf q3 h1.1.1.1.1 (λv hv=>h3 v (hof v hv.1) hv.2) λz hz h=>h1.2 z hz λv hv hle=>h v ⟨hv,?_⟩
      have:=hle.nth (p:=i) (by rw[h1.1.1.1.1];exact hi)
      omega
   have hin:ins a.j.l[i]=ins b.j.l[i]:=List.ext_getElem? λk=>by
    by_cases hk:k<dG t i
    .exact hsame k hk
    .rw[List.getElem?_eq_none (by rw[vQ];omega),List.getElem?_eq_none (by rw[vQ];omega)]
   have hri:∀x∈a.j.l[i].l,x.l.length<1073741824:=λx hx=>by
    obtain⟨k,hk,rfl⟩:=List.getElem_of_mem hx;rw[<-hel k hk];rcases ha.elm i hi k (by omega)with⟨h1,_⟩|⟨h1,_⟩
    .rw[h1];simp
    .rw[h1.1.1.1.1];omega
   exact rX ((KU (by rw[hr1];exact hev i hi) hri).iff ⟨λ_=>trivial,λ_=>hin⟩) (bq i (by omega))
  .unfold cF.an;rw[gb,aQ]
 obtain⟨z,hz,hzi⟩:=key;rw[hzi.2 trivial]at hz;exact hz
end
end Go.VE
namespace Go.VE
section
variable {t:Trace} {A:bg 200 ay} {s:Slice} {U V:List Int->Prop}
theorem Sg {a b:Sl Int} (hl:a.l.length=b.l.length) (h0:0<a.l.length) (h60:a.l.length<1073741824):∃r,gW a b=some r/\r.l=List.zipWith pU a.l b.l:=by
 unfold gW;obtain⟨d,h1,h2⟩:=wX (c:=a) (by omega) h0
 rw[h1,ζb]
 suffices h:Wp (gW.W1 d b (len b) 0) λr=>r.l=List.zipWith pU a.l b.l from h
 unfold gW.W1;refine gu b.l.length (λi (q:Sl Int×Int)=>q.2=(i:Int)/\q.1.l.length=a.l.length/\∀p,p<a.l.length->nth q.1.l p=if p<i then pU (nth a.l p) (nth b.l p)else nth a.l p) ⟨rfl,by rw[h2],λp hp=>by rw[h2,if_neg (by omega)]⟩ ?_ ?_
 .rintro i ⟨o,v⟩ hi ⟨rfl,h3,h4⟩;simp only at h3 h4;unfold gW.an;simp only;have hv:=h4 i (by omega)
  rw[if_neg (by omega)]at hv
  obtain⟨r,hr,hre⟩:=put_eq (s:=o) (p:=i) (x:=pU (nth a.l i) (nth b.l i)) (by omega)
  rw[gf hi,aL,aD hi,ζb,BO (by omega),ζb,Ch (by omega),ζb,ζb,<-gB hi,hv]
  rw[show (if nth b.l i<nth a.l i then nth b.l i else nth a.l i)=pU (nth a.l i) (nth b.l i)from rfl,hr,ζb,ah];refine⟨bq i (by omega),by rw[hre,List.length_set];exact h3,λp hp=>?_⟩
  rw[hre,qc (by omega)]
  by_cases e:p=i
  .subst e;rw[if_pos rfl,if_pos (by omega)]
  .rw[if_neg e,h4 p hp]
   by_cases e2:p<i
   .rw[if_pos e2,if_pos (by omega)]
   .rw[if_neg e2,if_neg (by omega)]
 .rintro⟨o,v⟩ ⟨rfl,h3,h4⟩;simp only at h3 h4;unfold gW.an;simp only;rw[gb,aQ,ah];refine(ah _).2 (Hx (by rw[List.length_zipWith,h3,hl,Nat.min_self]) λp hp=>?_)
  rw[h4 p (by omega),if_pos (by omega),zd hl (by omega)]
def RB (t:Trace) (A:bg 200 ay) (a b:Slice) (v:List Int):Prop:=Cons t A v/\(mG a v\/mG b v)
theorem Jy {a b:Slice} {v:List Int}:qP t A [a,b] v↔Cons t A v/\mG a v/\mG b v:=⟨λh=>⟨h.1,h.2 a (by simp),h.2 b (by simp)⟩,λh=>⟨h.1,λs hs=>by
 simp only[List.mem_cons,List.not_mem_nil,or_false]at hs;rcases hs with rfl|rfl
 .exact h.2.1
 .exact h.2.2⟩⟩
theorem yT {a:Slice} {v:List Int}:qP t A [a] v↔Cons t A v/\mG a v:=⟨λh=>⟨h.1,h.2 a (by simp)⟩,λh=>⟨h.1,λs hs=>by
 simp only[List.mem_cons,List.not_mem_nil,or_false]at hs;subst hs;exact h.2⟩⟩
theorem Oy (hS:Small t) (hV:VT t) {a b:Slice} (ha:a.empty=true\/lM t A a) (hb:b.empty=true\/lM t A b):Cw t (qP t A [a,b]) (λz=>lZ z a b):=λc hR=>by
 have hL:∀s∈(Sl.row [a,b]:Sl Slice).l,s.empty=true\/lM t A s:=λs hs=>by
  simp only[Sl.l,List.mem_cons,List.not_mem_nil,or_false]at hs;rcases hs with rfl|rfl
  .exact ha
  .exact hb
 rcases Hu hS hV hL (by simp[Sl.l]) (by simp[Sl.l]) hR with⟨d,hd,h1,h2,h3⟩|⟨hd,hno⟩
 .exact .inl ⟨d,by simp only[lZ];rw[hd];rfl,h1,h2,h3⟩
 .exact .inr ⟨by simp only[lZ];rw[hd];rfl,hno⟩
theorem CU (hS:Small t) (hV:VT t) {a:Slice} (ha:a.empty=true\/lM t A a) {c:Sl Int} (hR:je t c.l) :
 (∃d,bC c (.row [a])=some (d,true)/\(Cons t A d.l/\mG a d.l)/\bp c.l d.l/\∀u,Cons t A u->mG a u->bp c.l u->bp d.l u)\/(bC c (.row [a])=some (Sl.nil,false)/\∀u,Cons t A u->mG a u->¬bp c.l u):=by
 have hL:∀s∈(Sl.row [a]:Sl Slice).l,s.empty=true\/lM t A s:=λs hs=>by
  simp only[Sl.l,List.mem_cons,List.not_mem_nil,or_false]at hs;subst hs;exact ha
 rcases Hu hS hV hL (by simp[Sl.l]) (by simp[Sl.l]) hR with⟨d,hd,h1,h2,h3⟩|⟨hd,hno⟩
 .exact .inl ⟨d,hd,yT.1 h1,h2,λu hu hu'=>h3 u (yT.2 ⟨hu,hu'⟩)⟩
 .exact .inr ⟨hd,λu hu hu'=>hno u (yT.2 ⟨hu,hu'⟩)⟩
theorem Q_ (hS:Small t) (hV:VT t) {a b:Slice} (ha:a.empty=true\/lM t A a) (hb:b.empty=true\/lM t A b):Cw t (UV t A (RB t A a b)) (λz=>oU z a b):=λc hR=>by
 have hn8:=hV.few;have hone:=hV.ok.one;have hOC:∀v,RB t A a b v->Cons t A v:=λv h=>h.1
 simp only[oU];rcases CU hS hV ha hR with⟨d,hd,d1,d2,d3⟩|⟨hd,dno⟩ <;> rcases CU hS hV hb hR with⟨e,he,e1,e2,e3⟩|⟨he,eno⟩
 .rw[hd,ζb,he,ζb,aL,ζb,aL];have hl:d.l.length=e.l.length:=d1.1.1.1.trans e1.1.1.1.symm;obtain⟨r,hr,hre⟩:=Sg hl (by rw[d1.1.1.1];omega) (by rw[d1.1.1.1];omega)
  obtain⟨m1,m2,m3⟩:=(kF.of pU hl).le_min hl;have hrC:Cons t A r.l:=by rw[hre];exact Lo d1.1 e1.1 (kF.of pU hl)
  rw[<-hre]at m1 m2 m3;refine .inl ⟨r,by rw[hr];rfl,⟨⟨hrC,d.l,⟨d1.1,.inl d1.2⟩,m1⟩,λx _ hx=>m3 x (hx _ ⟨d1.1,.inl d1.2⟩ m1) (hx _ ⟨e1.1,.inr e1.2⟩ m2)⟩,m3 _ d2 e2,λu hu hle=>hu.2 _ hrC.1.1 λv hv huv=>?_⟩
  rcases hv with⟨hv,h|h⟩
  .exact m1.trans (d3 v hv h (hle.trans huv))
  .exact m2.trans (e3 v hv h (hle.trans huv))
 .rw[hd,ζb,he,ζb,aL,ζb,aQ,aL];refine .inl ⟨d,rfl,UV.of hOC ⟨d1.1,.inl d1.2⟩,d2,λu hu hle=>hu.2 _ d1.1.1.1 λv hv huv=>?_⟩
  rcases hv with⟨hv,h|h⟩
  .exact d3 v hv h (hle.trans huv)
  .exact absurd (hle.trans huv) (eno v hv h)
 .rw[hd,ζb,he,ζb,aQ,ζb,aQ,aQ];refine .inl ⟨e,rfl,UV.of hOC ⟨e1.1,.inr e1.2⟩,e2,λu hu hle=>hu.2 _ e1.1.1.1 λv hv huv=>?_⟩
  rcases hv with⟨hv,h|h⟩
  .exact absurd (hle.trans huv) (dno v hv h)
  .exact e3 v hv h (hle.trans huv)
 .rw[hd,ζb,he,ζb,aQ,ζb,aQ,aQ];refine .inr ⟨rfl,λu hu hle=>?_⟩
  obtain⟨⟨_,v,⟨hv,h|h⟩,huv⟩,_⟩:=hu
  .exact dno v hv h (hle.trans huv)
  .exact eno v hv h (hle.trans huv)
theorem En {e:Bool}:cF ⟨e,.nil,.nil,.nil⟩ ⟨e,.nil,.nil,.nil⟩=some true:=by
 obtain⟨x,hx,hxi⟩:=A2 (a:=.nil) (b:=.nil) (by simp[Sl.l])
 unfold cF;simp only[hx,hxi.2 rfl,beq_self_eq_true,aL,aQ,ζb,Bool.not_true];unfold cF.W1;have key:bn ((aK (λq:Int=>cF.an ⟨e,.nil,.nil,.nil⟩ ⟨e,.nil,.nil,.nil⟩ q) 0).bind (Fw.elim (λ_=>some true) (λ_=>some false))) True:=
  (kW (n:=0) (P:=λ_=>True) (λi hlt _=>absurd hlt (by omega)) (λ_=>rfl)).iff ⟨λ_=>trivial,λ_ _ _=>trivial⟩
 obtain⟨z,hz,hzi⟩:=key;rw[hzi.2 trivial]at hz;exact hz
def s_ (t:Trace) (A:bg 200 ay) (V:List Int->Prop) (b:Slice):Prop:=(b=⟨true,.nil,.nil,.nil⟩/\∀v,¬V v)\/vj t A (UV t A V) b
theorem made (hS:Small t) (hV:VT t) (hC:∀v,V v->Cons t A v) {p1:Sl Int->Option (Sl Int×Bool)} (h:Cw t (UV t A V) p1):∃b,dn t p1=some b/\s_ t A V b:=by
 obtain⟨b,hb,h⟩:=Q3 hS hV (λu (hu:UV t A V u)=>hu.1.1) h
 exact⟨b,hb,h.imp (λh=>⟨h.1,λv hv=>h.2 v (UV.of hC hv)⟩) id⟩
theorem s_.valid (hS:Small t) (hr:dL t=some true) (hV:VT t) (hM:fh t (aV t) A) (hev:∀p,p<t.procs.l.length->dG t p<=20) {b:Slice} (h:s_ t A V b):bJ t b=some true:=by
 have k:jB b/\iy t A b:=by
  rcases h with⟨rfl,_⟩|h
  .exact⟨⟨by simp[Sl.l],by simp[Sl.l],by simp[Sl.l],by simp[Sl.l]⟩,.inl ⟨rfl,⟨rfl,rfl⟩,rfl⟩⟩
  .exact⟨Ke hV (λu hu=>hu.1.1) hev h,h.valid λu hu=>hu.1.1⟩
 obtain⟨x,hx,hxi⟩:=EV hS hr hV hM k.1;rw[hx,hxi.2 k.2]
theorem s_.same (hS:Small t) (hV:VT t) (hC:∀v,V v->Cons t A v) {b:Slice} (h:s_ t A V b) {l:Sl (Sl Int)} (hl:∀v,(∃x∈l.l,x.l=v)↔V v) (h60:l.l.length<1073741824):∃r,bU t l=some r/\cF b r=some true:=by
 by_cases hne:l.l=[]
 .have hno:∀v,¬V v:=λv hv=>by
   obtain⟨x,hx,_⟩:=(hl v).2 hv;rw[hne]at hx;cases hx
  refine⟨⟨true,.nil,.nil,.nil⟩,?_,?_⟩
  .unfold bU;rw[show ((len l)==0)=true by simp[len,hne],aL]
  .rcases h with⟨rfl,_⟩|h
   .exact En
   .obtain⟨⟨_,v,hv,_⟩,_⟩:=h.f;exact absurd hv (hno v)
 .obtain⟨r,hr,hs⟩:=Sw (A:=A) hS hV (λx hx=>hC _ ((hl x.l).1 ⟨x,hx,rfl⟩)) h60 hne
  refine⟨r,hr,?_⟩;have hVe:(λv=>∃x∈l.l,x.l=v)=V:=funext λv=>propext (hl v)
  rw[hVe]at hs;rcases h with⟨_,hno⟩|h
  .obtain⟨x,hx⟩:=List.exists_mem_of_ne_nil _ hne;exact absurd ((hl _).1 ⟨x,hx,rfl⟩) (hno _)
  .exact Jt hS hV hC h hs
end
end Go.VE
namespace Go.VE
section
variable {t:Trace} {A:bg 200 ay} {s:Slice} {U V:List Int->Prop}
theorem PO (hv:di t=some true) {a b:Slice} {x y:Bool} (ha:lH t a=some x) (hb:lH t b=some y):j_ t (.row [a,b])=some (x&&y):=by
 unfold j_;rw[hv,ζb,aL,DG (f:=λs => !((lH t s).getD false)) (λs hs=>by
  simp only[Sl.l,List.mem_cons,List.not_mem_nil,or_false]at hs;unfold ou;rcases hs with rfl|rfl
  .rw[ha];rfl
  .rw[hb];rfl) (by simp[Sl.l])]
 simp only[Sl.l,List.any_cons,List.any_nil,ha,hb,Option.getD_some,Bool.or_false,ζb];cases x <;> cases y <;> rfl
theorem CF {l:Sl (Sl Int)} (h60:l.l.length<1073741824) {f:Sl Int->Bool} {step:Sl (Sl Int)×Int×Slice->Option (Fw (Sl (Sl Int)×Int×Slice) (Sl (Sl Int)×Trace×Slice) Empty)} {K:Sl (Sl Int)×Trace×Slice->Option Slice} {v0:Slice}
 (hs:∀(o:Sl (Sl Int)) (i:Nat) (v:Slice) (hi:i<l.l.length),step (o,(i:Int),v)=aj (f l.l[i]) ((fP o l.l[i]).bind λr=>some (.n (r,IntKind.wrap .i64 ((i:Int)+1),⟨v.empty,.nil,.nil,.nil⟩))) (some (.n (o,IntKind.wrap .i64 ((i:Int)+1),⟨v.empty,.nil,.nil,.nil⟩))))
 (he:∀(o:Sl (Sl Int)) (v:Slice),step (o,(l.l.length:Int),v)=some (.x (o,t,⟨v.empty,.nil,.nil,.nil⟩)))
 {R:Slice->Prop} (hK:∀(o:Sl (Sl Int)) (v:Slice),o.l=l.l.filter f->Wp (K (o,t,v)) R) :
 Wp ((aK step (Sl.nil,0,v0)).bind (Fw.elim K (λe=>Empty.elim e))) R:=by
 refine gu l.l.length (λi (q:Sl (Sl Int)×Int×Slice)=>q.2.1=(i:Int)/\q.1.l=(l.l.take i).filter f) ⟨rfl,by simp[Sl.l]⟩ ?_ ?_
 .rintro i ⟨o,v,vb⟩ hi ⟨e,h1⟩;simp only at e h1;subst e;rw[hs o i vb hi];have htk:(l.l.take (i+1)).filter f=(l.l.take i).filter f++(if f l.l[i]then [l.l[i]]else []):=by
   rw[List.take_succ_eq_append_getElem hi,List.filter_append]
   congr 1
   simp only[List.filter_cons,List.filter_nil]
  cases hf:f l.l[i]with
  | true=>
   have hol:o.l.length<=i:=by rw[h1];exact Nat.le_trans (List.length_filter_le _ _) (by simp;omega)
   obtain⟨r,hr,e⟩:=mZ (s:=o) (x:=l.l[i]) (by omega)
   rw[aL,hr,ζb,ah];exact⟨bq i (by omega),by rw[e,h1,htk,hf];rfl⟩
  | false=>
   rw[aQ,ah];exact⟨bq i (by omega),by rw[h1,htk,hf];simp⟩
 .rintro⟨o,v,vb⟩ ⟨e,h1⟩;simp only at e h1;subst e;rw[he,ah];show Wp (K (o,t,_)) _;exact hK o _ (by rw[h1,List.take_of_length_le (Nat.le_refl _)])
theorem za (hS:Small t) (hr:dL t=some true) (hV:VT t) (hM:fh t (aV t) A) (hL:jB s) (hE:iy t A s) {c:Sl Int} (hC:Cons t A c.l):∃x,eF t s c=some x/\(x=true↔mG s c.l):=by
 have h8:=hV.few;obtain⟨x,hx,h⟩:=TU hS hr hV hM hL hE c (by rw[hC.1.1];omega)
 exact⟨x,hx,h.trans ⟨λk=>k.2,λk=>⟨hC,k⟩⟩⟩
theorem D6 (hS:Small t) (hV:VT t) (hC:∀v,V v->Cons t A v) {l:Sl (Sl Int)} (hl:vY t A (ins l)) (h60:l.l.length<1073741824) {m:Slice} (hm:s_ t A V m) {f:Sl Int->Bool} (hf:∀x∈l.l,(f x=true↔V x.l)) {o:Sl (Sl Int)} (ho:o.l=l.l.filter f) :
 Wp ((bU t o).bind λx=>some x) λr=>cF m r=some true:=by
 have hfil:∀v,(∃x∈o.l,x.l=v)↔V v:=λv=>by
  rw[ho];constructor
  .rintro⟨x,hx,rfl⟩;have hx:=List.mem_filter.1 hx;exact(hf x hx.1).1 hx.2
  .intro h;obtain⟨x,hx,rfl⟩:=nq.1 ((hl.mem v).2 (hC v h));exact⟨x,List.mem_filter.2 ⟨hx,(hf x hx).2 h⟩,rfl⟩
 have hlen:o.l.length<1073741824:=by rw[ho];exact Nat.lt_of_le_of_lt (List.length_filter_le _ _) h60
 obtain⟨r,h1,h2⟩:=hm.same hS hV hC hfil hlen;rw[h1];exact(ah _).2 h2
theorem Oj (hS:Small t) (hr:dL t=some true) (hV:VT t) (hM:fh t (aV t) A) {a b:Slice} (hLa:jB a) (hEa:iy t A a) (hLb:jB b) (hEb:iy t A b) {l:Sl (Sl Int)} (hl:vY t A (ins l)) (h60:l.l.length<1073741824) {m:Slice} (hm:s_ t A (qP t A [a,b]) m) :
 ∃r,jY t l a b=some r/\cF m r=some true:=by
 have hC:∀x∈l.l,Cons t A x.l:=λx hx=>(hl.mem x.l).1 (nq.2 ⟨x,hx,rfl⟩)
 have ask:∀x∈l.l,∃p q,(eF t a x=some p/\(p=true↔mG a x.l))/\eF t b x=some q/\(q=true↔mG b x.l):=λx hx=>by
  obtain⟨p,h1⟩:=za hS hr hV hM hLa hEa (hC x hx);obtain⟨q,h2⟩:=za hS hr hV hM hLb hEb (hC x hx);exact⟨p,q,h1,h2⟩
 refine CF (l:=l) h60 (f:=λx=>(eF t a x).getD false&&(eF t b x).getD false) (λo i v hi=>?_) (λo v=>?_) (λo v ho=>D6 hS hV (λv h=>h.1) hl h60 hm (λx hx=>?_) ho)
 .obtain⟨p,q,⟨hp,_⟩,hq,_⟩:=ask _ (List.getElem_mem hi);simp only[jY.an];rw[gf hi,aL,aD hi,ζb,hp,ζb,ζb,hq];cases p <;> cases q <;> rfl
 .simp only[jY.an];rw[gb,aQ]
 .obtain⟨p,q,⟨hp,hpi⟩,hq,hqi⟩:=ask x hx;rw[hp,hq,Jy];simp only[Option.getD_some,ζh,hpi,hqi];exact⟨λk=>⟨hC x hx,k⟩,λk=>k.2⟩
theorem QB (hS:Small t) (hr:dL t=some true) (hV:VT t) (hM:fh t (aV t) A) {a b:Slice} (hLa:jB a) (hEa:iy t A a) (hLb:jB b) (hEb:iy t A b) {l:Sl (Sl Int)} (hl:vY t A (ins l)) (h60:l.l.length<1073741824) {m:Slice} (hm:s_ t A (RB t A a b) m) :
 ∃r,lp t l a b=some r/\cF m r=some true:=by
 have hC:∀x∈l.l,Cons t A x.l:=λx hx=>(hl.mem x.l).1 (nq.2 ⟨x,hx,rfl⟩)
 have ask:∀x∈l.l,∃p q,(eF t a x=some p/\(p=true↔mG a x.l))/\eF t b x=some q/\(q=true↔mG b x.l):=λx hx=>by
  obtain⟨p,h1⟩:=za hS hr hV hM hLa hEa (hC x hx);obtain⟨q,h2⟩:=za hS hr hV hM hLb hEb (hC x hx);exact⟨p,q,h1,h2⟩
 refine CF (l:=l) h60 (f:=λx=>(eF t a x).getD false||(eF t b x).getD false) (λo i v hi=>?_) (λo v=>?_) (λo v ho=>D6 hS hV (λv h=>h.1) hl h60 hm (λx hx=>?_) ho)
 .obtain⟨p,q,⟨hp,_⟩,hq,_⟩:=ask _ (List.getElem_mem hi);simp only[lp.an];rw[gf hi,aL,aD hi,ζb,hp,ζb,ζb,hq];cases p <;> cases q <;> rfl
 .simp only[lp.an];rw[gb,aQ]
 .obtain⟨p,q,⟨hp,hpi⟩,hq,hqi⟩:=ask x hx;rw[hp,hq];simp only[Option.getD_some,Bool.or_eq_true,hpi,hqi];exact⟨λk=>⟨hC x hx,k⟩,λk=>k.2⟩
theorem zero_eq:o4 ⟨false,.nil,.nil,.nil⟩=some true:=by unfold o4;rw[En];rfl
theorem M7 (hS:Small t) (hN:(aV t).length<1073741824) {a b:Slice} (hFa:HV a) (hFb:HV b):lS t a b=some true:=by
 obtain⟨e,he,hev⟩:=S7 hS 40;obtain⟨d,hd,hLa⟩:=JU hFa;obtain⟨d',hd',hLb⟩:=JU hFb;obtain⟨v,hv,hrv,hV⟩:=J2 hS hN;unfold lS um;rw[ζb,aL,he,ζb]
 cases e with
 | false=>rw[aQ,ζb,aL,ζb,aL]
 | true=>
 have hev:=hev rfl;rw[aL,hd,ζb,ζb]
 cases d with
 | true=>rw[aL,ζb,aL]
 | false=>
 rw[aQ,hd',ζb,ζb]
 cases d' with
 | true=>rw[aL]
 | false=>
 obtain⟨hLa,-⟩:=hLa rfl;obtain⟨hLb,-⟩:=hLb rfl;rw[aQ];have hno:j_ t (.row [a,b])=some false->qh t a b=some (⟨false,.nil,.nil,.nil⟩,1)/\rU t a b=some (⟨false,.nil,.nil,.nil⟩,1):=λh=>by
  unfold qh rU;rw[h];exact⟨rfl,rfl⟩
 cases v with
 | false=>
  have hg:j_ t (.row [a,b])=some false:=by unfold j_;rw[hv];rfl
  obtain⟨h1,h2⟩:=hno hg;rw[h1,ζb,h2,ζb,Iu hrv];simp only[ζb,aQ,aL,beq_self_eq_true,zero_eq]
 | true=>
 have hV:=hV rfl;obtain⟨A,i,hA,hM⟩:=hV.msgs;obtain⟨x,h1,h2,hx⟩:=bn.same (EV hS hrv hV hM hLa) (JG hS hv hV hM hLa);obtain⟨y,k1,k2,hy⟩:=bn.same (EV hS hrv hV hM hLb) (JG hS hv hV hM hLb);have hg:=PO hv h2 k2
 by_cases hxy:(x&&y)=true
 rotate_left
 .have hxy:(x&&y)=false:=by simpa using hxy
  rw[hxy]at hg;obtain⟨g1,g2⟩:=hno hg;have hb:((bJ t a).bind λx_9=>(aj x_9 ((bJ t b).bind λx_10=>some (!x_10)) (some true):Option Bool))=some true:=by
   rw[h1,ζb,k1];cases x
   .rfl
   .cases y
    .rfl
    .cases hxy
  rw[g1,ζb,g2,ζb,<-Option.bind_assoc,hb];simp only[ζb,aQ,aL,beq_self_eq_true,zero_eq]
 have hxx:x=true:=by cases x <;> simp_all
 have hyy:y=true:=by cases y <;> simp_all
 subst hxx;subst hyy;rw[hxy]at hg;have hEa:=hx.1 rfl;have hEb:=hy.1 rfl;have hFm:∀{s:Slice},iy t A s->s.empty=true\/lM t A s:=λh=>h.imp (λh=>h.1) (λh=>h.2)
 obtain⟨m1,e1,c1⟩:=made hS hV (λv h=>h.1) (UV.T9 (λv h=>h.1) (Oy hS hV (hFm hEa) (hFm hEb)))
 obtain⟨m2,e2,c2⟩:=made hS hV (λv h=>h.1) (Q_ hS hV (hFm hEa) (hFm hEb))
 have E1:qh t a b=some (m1,0):=by unfold qh xR;rw[hg,ζb,aL,e1];rfl
 have E2:rU t a b=some (m2,0):=by unfold rU AJ;rw[hg,ζb,aL,e2];rfl
 rw[E1,ζb,E2,ζb,h1,k1];have v1:=c1.valid hS hrv hV hM hev;have v2:=c2.valid hS hrv hV hM hev;simp only[ζb,aQ,aL,beq_self_eq_true,v1,v2,Bool.not_true];obtain⟨r,hrl,hr⟩:=J8 hS hV hM;unfold tf vB;rw[hrv,ζb,aL,hrl];simp only[ζb];rcases hr with⟨r1,r2,r3⟩|⟨r1,r2,_⟩
 rotate_left
 .rw[r1];rfl
 rw[r1,aL,ζb]
 cases decide ((len r.1)<=400)with
 | false=>rfl
 | true=>
  obtain⟨s1,q1,w1⟩:=Oj hS hrv hV hM hLa hEa hLb hEb r2 (by omega) c1
  obtain⟨s2,q2,w2⟩:=QB hS hrv hV hM hLa hEa hLb hEb r2 (by omega) c2
  rw[ζb,aL,q1,ζb,w1,ζb,aL,q2,ζb,w2];rfl
end
end Go.VE
namespace Go.VE
theorem x_ {α:Type} [bB α] {x:α}:∀{l:List α},x∈l->bB.wt x<=(l.map bB.wt).sum
 | y::l,h=>by
  simp only[List.map_cons,List.sum_cons];rcases List.mem_cons.1 h with rfl|h
  .omega
  .have:=x_ h;omega
theorem sW {α:Type} [bB α] (h:∀x:α,1<=bB.wt x):∀(l:List α),l.length<=(l.map bB.wt).sum
 | []=>Nat.le_refl _
 | y::l=>by
  simp only[List.map_cons,List.sum_cons,List.length_cons];have:=sW h l;have:=h y;omega
theorem wO {α:Type} [bB α] (s:Sl α):bB.wt s=(s.l.map bB.wt).sum+1:=rfl
theorem zV (p:Int):∀(es:List Event) (j:Int),(gz p j es).length=es.length
 | [],_=>rfl
 | _::es,j=>by simp only[gz,List.length_cons,zV p es]
theorem FE:∀(ps:List bt) (i:Int),(dW i ps).length<=(ps.map bB.wt).sum
 | [],_=>Nat.le_refl _
 | p::ps,i=>by
  simp only[dW,ζi,zV,List.map_cons,List.sum_cons];have h1:=FE ps (i+1);have h2:=sW (α:=Event) (λx=>Nat.le_add_left ..) p.events.l
  have h3:bB.wt p=bB.wt p.name+bB.wt p.vars+bB.wt p.events+1:=rfl;have h4:=wO p.events;omega
theorem Nl {t:Trace} (h:bB.wt t<=1048576):Small t/\(aV t).length<1073741824:=by
 have h0:bB.wt t=bB.wt t.procs+1:=rfl;have h1:=wO t.procs;have h2:=sW (α:=bt) (λx=>Nat.le_add_left ..) t.procs.l
 have h3:=FE t.procs.l 0;refine⟨⟨by omega,λp hp=>?_⟩,by show (dW 0 t.procs.l).length<_;omega⟩
 have h4:=x_ hp;have h5:bB.wt p=bB.wt p.name+bB.wt p.vars+bB.wt p.events+1:=rfl;have h6:=wO p.events;have h7:=wO p.vars;have h8:=sW (α:=Event) (λx=>Nat.le_add_left ..) p.events.l
 have h9:=sW (α:=Var) (λx=>Nat.le_add_left ..) p.vars.l
 have h10:bB.wt p.name=p.name.size+1:=rfl;refine⟨by omega,by omega,by omega,λv hv=>?_,λe he=>?_⟩
 .have k1:=x_ hv;have k2:bB.wt v=bB.wt v.name+bB.wt v.init_+1:=rfl;have k3:bB.wt v.name=v.name.size+1:=rfl;omega
 .have k1:=x_ he;have k2:bB.wt e=bB.wt e.kind+bB.wt e.peer+bB.wt e.message+bB.wt e.time+bB.wt e.assign+1:=rfl;have k3:=wO e.assign;have k4:=sW (α:=Assign) (λx=>Nat.le_add_left ..) e.assign.l
  omega
theorem fits {s:Slice} (h:bB.wt s<=1048576):HV s:=by
 have h0:bB.wt s=bB.wt s.empty+bB.wt s.first+bB.wt s.last+bB.wt s.j+1:=rfl
 have h1:=wO s.j;have h2:=sW (α:=Sl (Sl Int)) (λx=>Nat.le_add_left ..) s.j.l
 refine⟨by omega,λr hr=>?_⟩
 have h3:=x_ hr;have h4:=wO r;have h5:=sW (α:=Sl Int) (λx=>Nat.le_add_left ..) r.l
 omega
end Go.VE
namespace Go.Proofs.YtimppgndlmehbaaGreat
open Go.ChangeShapes Go.WideShapes Go.ChangeAt Go.RowKit Go.VE
theorem own:ownKnob Tryz.prog.godebug=none:=by kernel_rfl
theorem kids:Kids Tryz.prog (·<Tryz.prog.types.size):=kids_rows (by kernel_rfl) (by kernel_rfl)
theorem full:∀t e,t<Tryz.prog.types.size->Tryz.prog.underlying t=some (.slice e)->0<Tryz.prog.cellsOf e:=slices_full_of Tryz.prog (by kernel_rfl)
theorem wv {H:Type}:∀l:List (DataW H),Rows.uptoBulkAll l=(l.map Rows.uptoBulk).sum
 | []=>by simp[Rows.uptoBulkAll]
 | d::r=>by simp[Rows.uptoBulkAll,wv r]
theorem ET {H:Type}:uG (H:=H) Rows.uptoBulk where
 lit l:=by cases l <;> simp[Rows.uptoBulk]
 str s:=by simp[Rows.uptoBulk]
 nil:=by simp[Rows.uptoBulk]
 slice es sp:=by rw[Rows.uptoBulk,wv,wv];omega
 agg ps:=by rw[Rows.uptoBulk,wv];exact Nat.le_refl _
set_option maxRecDepth 100000 in
theorem Gi (H:Type) (enc:TypeId×Value->H) (W:World) (base:Nat) (args:Array Value) (ds gs:List (DataW H)) (before:List MemPlace)
 (hval:∀(j:Nat) t v,Tryz.f5.params[j]? = some t->args[j]? = some v->Value.okWide Tryz.prog W .any base t v)
 (hW:DataW.Whole enc Tryz.prog Tryz.f5.params.toList Rows.graftPairsSpec.vars false W args.toList ds gs before) (hk:Rows.uptoSmall H (ds++gs)=true) :
 Calls Tryz.prog 5 args W λe W'=>∃v,e=.returned v/\Rows.graftPairsSpec.post enc Tryz.prog Tryz.f5 false true false false W args v W':=by
 have hW':=hW;obtain⟨p,q,hA0,hV,rfl,hfz,hnd⟩:=hW;have hA:DataW.TrodAll enc Tryz.prog W 0 (λ_=>true) true Tryz.f5.params.toList args.toList ds p:=hA0
 rw[Tryz.params5]at hA hval;obtain⟨v0,vs0,d0,ds0,p0,q0,hargs,rfl,rfl,h0,r0⟩:=trodAll_cons hA;obtain⟨v1,vs1,d1,ds1,p1,q1,rfl,rfl,rfl,h1,r1⟩:=trodAll_cons r0;obtain⟨v2,vs2,d2,ds2,p2,q2,rfl,rfl,rfl,h2,r2⟩:=trodAll_cons r1;obtain⟨rfl,rfl,rfl⟩:=trodAll_nil r2;obtain rfl:args=#[v0,v1,v2]:=by cases args;simp_all
 obtain⟨rfl,rfl⟩:=trodVars_none hV;obtain⟨a0,w0,k0,b0⟩:=Reads.Jl (t:=24) (α:=VE.Trace) hval 0 rfl rfl h0;obtain⟨a1,w1,k1,b1⟩:=Reads.Jl (t:=28) (α:=VE.Slice) hval 1 rfl rfl h1;obtain⟨a2,w2,k2,b2⟩:=Reads.Jl (t:=28) (α:=VE.Slice) hval 2 rfl rfl h2;have hb:bB.wt a0+bB.wt a1+bB.wt a2<=1048576:=by
  have c0:=b0 Rows.uptoBulk ET;have c1:=b1 Rows.uptoBulk ET;have c2:=b2 Rows.uptoBulk ET;have h7:Rows.uptoBulkAll ([d0,d1,d2]++[])<=1048576:=of_decide_eq_true hk;rw[wv]at h7;simp only[List.append_nil,List.map_cons,List.map_nil,List.sum_cons,List.sum_nil]at h7;omega
 obtain⟨hS,hN⟩:=Nl (t:=a0) (by omega)
 have hc:lU cL 5 [VE.enc a0,VE.enc a1,VE.enc a2]=some [.bool true]:=by
  have hl:(lS a0 a1 a2).bind (λr:Bool=>some [V.bool r])=some [.bool true]:=by rw[M7 hS hN (fits (s:=a1) (by omega)) (fits (s:=a2) (by omega))];rfl
  exact(xK a0 a1 a2).F.h () _ hl
 have:=Io (P:=Tryz.prog) NP GO calls (f:=5) (xs:=[VE.enc a0,VE.enc a1,VE.enc a2]) (by simp[V.bL,V.good,lz]) hc (w:=W) (args:=#[v0,v1,v2]) (λ_ _ h=>nomatch h) (bF.cons w0 (bF.cons w1 (bF.cons w2 .nil)))
 refine this.mono λe W' ⟨he,hg⟩=>?_
 subst he;exact⟨_,rfl,JA kids full (by rw[Tryz.params5];decide) rfl rfl rfl Tryz.underlying4 hW' hg⟩
set_option maxRecDepth 100000 in
theorem K8 (os:Os) (started:os.Started) (H:Type) (enc:TypeId×Value->H) (F:Stop.Interp) :
 ReturnsInHanded {} Tryz.checked os 5 .any ((Rows.OpenSpec.upto Rows.graftPairsSpec).pre6 enc Tryz.prog Tryz.f5 Rows.graftPairsUptoRow.domain false) (((Rows.OpenSpec.upto Rows.graftPairsSpec).at F).post enc Tryz.prog Tryz.f5 false true false false):=by
 refine returnsInHanded_of_cond (C:=Tryz.checked) (s:=Rows.OpenSpec.upto Rows.graftPairsSpec) (k:=Rows.uptoSmall) rfl own started (by kernel_rfl) Tryz.func5
  (OpenSpec.witness (enc:=enc) (C:=Tryz.checked) (s:=Rows.OpenSpec.upto Rows.graftPairsSpec) (k:=Rows.uptoSmall) rfl false ⟨#[],#[.agg #[.slice none 0 0],.agg #[.bool false,.slice none 0 0,.slice none 0 0,.slice none 0 0],.agg #[.bool false,.slice none 0 0,.slice none 0 0,.slice none 0 0]],[]⟩ 8 (by kernel_rfl) (by kernel_rfl) (by kernel_rfl)
   (x:=([.agg [.nil],.agg [.lit (.bool false),.nil,.nil,.nil],.agg [.lit (.bool false),.nil,.nil,.nil]],[],[])) (by kernel_rfl) rfl (by kernel_rfl)) ?_
 intro W base args ds gs before hval hW _ hk _;exact Gi H enc W base args ds gs before hval hW hk
theorem OK:Rows.graftPairsUptoRow.holds Tryz.pinned (Rows.OpenSpec.upto Rows.graftPairsSpec):=
 OpenClaim.holds_of_cond 5 Tryz.f5 rfl rfl rfl rfl rfl rfl rfl ⟨rfl,rfl,rfl,rfl,rfl⟩ rfl rfl rfl rfl rfl (by kernel_rfl) Tryz.func5 (by kernel_rfl)
  (of_decide_eq_true (by kernel_rfl)) (by unfold Func.isWrapper;first|(rw[if_pos (by decide +kernel)];kernel_rfl)|(rw[if_neg (by decide +kernel)];exact⟨rfl,rfl⟩))
  (λos started H enc _ F=>K8 os started H enc F)
theorem graftPairsProved:Rows.GraftPairsUptoSaid:=
 OK
#print axioms graftPairsProved
end Go.Proofs.YtimppgndlmehbaaGreat
