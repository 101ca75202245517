/-
 LinearWays says true for all arguments that together are of bulk at most 1048576, and they read behind the call as they read before: for every such argument, without a condition.
-/
import Derived.Test.YtegogepdjcdfcaaGreatDoorRows
import Derived.Test.YtegogepdjcdfcaaGreatDoorCards
import Derived.Test.YtegogepdjcdfcaaGreatDoorTie
import Derived.Deep.DeepHandedRow
import Derived.Test.YtegogepdjcdfcaaGreatDoorK1
import Derived.Test.YtegogepdjcdfcaaGreatDoorL1
set_option linter.all false
open Option renaming some→M,some→_j,none→J,none→_p,bind→H,bind→_n
open Bool renaming true→U,true→_m,false→O,false→_o
open Decidable renaming decide→_r
open List renaming length→W,length→_l
open Go.IntKind renaming i64→N,i64→_q
open List renaming all_cons→o!,all_eq_true→O?,any_eq_true→K',countP_append→i7,countP_cons→I!,countP_nil→E',find?_eq_none→K!,getElem?_of_mem→d!,getElem?_set→C?,getElem?_set_self→K?,getElem_mem→t?,length_cons→U?,length_set→U!,length_take→n!,map_append→v!,map_cons→J?,mem_append_left→e!,mem_cons_of_mem→B?,mem_iff_getElem?→d6,mem_of_getElem?→s?,range→w!,range_succ→a8,sum_cons→z!,take_add_one→P?,take_length→M?,zipWith→u!
open Go.IntKind renaming wrap→w?
open Nat renaming le_add_left→C!,le_refl→y?,zero_le→R?
open Classical renaming byContradiction→I?
open Empty renaming elim→c!
open ByteArray renaming toList→E?
open List(countP mem_cons replicate)
open Go.IntKind(signed)
open Nat(le)
open Nat(le)
open Nat(le)
open Nat(le)
namespace Go.VE
theorem q?{p:Prop}(h:p:=by kernel_rfl):p:=h
theorem Wk{κ ν:Type}[DecidableEq κ]{m:Mo κ ν}{k B:κ}{v:ν}:wO (nO m k v) B=(_r (B=k)||wO m B):=by unfold wO;induction m with|nil=>grind[nO,mj]|cons a m u=>have⟨a,w⟩:=a;unfold nO;by_cases h:k=a;subst h;rw[L' Y];grind[mj];grind[mj]
theorem A4{c:Zg}(h:FL c.l)(B:c.l.length<=8):jr c=M (oA c.l):=by
 refine Wp.eq ?_;unfold jr;have a:∃r,xU (len c) (⟨0⟩:U8)=M r/\r.l=[]:=by unfold xU;rw[L' ⟨by simp[len],h?⟩];refine⟨_,rfl,?_⟩;split<;>rfl
 have⟨r,a,u⟩:=a;rw[a,ζb];unfold jr.W1;refine dS c.l.length (λi(q:Sl U8×Int)=>q.2=(i:Int)/\q.1.l.map U8.v=c.l.take i) ⟨rfl,by rw[u];rfl⟩ ?_ ?_;rintro i ⟨o,_⟩ b ⟨e,d⟩;simp only at e d;subst e;have w:o.l.length=i:=by have:=_f List.length d;grind
 unfold jr.bh;rw[fM b,bq,bA b,ζb];have C:=h c.l[i] (t? b);have⟨z,k1,k2⟩:=ni (s:=o) (x:=(⟨w? .u8 c.l[i]⟩:U8)) c?;rw[k1,ζb,a_];refine⟨cm i c?,?_⟩;show z.l.map U8.v=_;grind[w?,IntKind.bits,signed,List.take_succ_eq_append_getElem];simp_all[jr.bh,bz,a_,Qv]
section
variable{t:Z4}{A:b_ 200 bu}{L:aX SW}
theorem VZ(b:VT t){c:SW}(a:Cons t A c)(p:Nat):FL (bump c p 1):=λx z=>by
 unfold bump at z;have key:∀y∈c,0<=y/\y<=250:=λy C=>by obtain⟨q,B,rfl⟩:=List.mem_iff_getElem.1 C;have u:q<W t.a?.l:=(by rw[<-a.1.1];exact B);have d:=a.1.2 q _ _ (ζd B) (ζd u);have D:=Ap b (ζd u);omega
 rcases List.mem_or_eq_of_mem_set z with h|h;have:=key x h;omega;cases w:c[p]?with|none=>rw[w]at h;have:x=0+1:=h;omega|some y=>rw[w]at h;have h:x=y+1:=h;have:=key y (s? w);omega
structure BZ(L:List (List Int))(m:Mo ByteArray Int):Prop where
 get:∀c∈L,pW m (oA c) 0=(L.idxOf c:Int)
 has:∀d,FL d->(wO m (oA d)=true↔d∈L)
theorem LN(f:VT t)(B:dP t A L)(T:W L<=5000){r:Zb}(g:ins r=L)(tb:Sl X'):
 Wp (jP t r tb) λq=>∃x,q=M x/\x.t=t/\x.l=r/\x.truth=tb/\BZ L (nD x.index):=by
 have Q:=f.few;have S:W r.l=W L:=by rw[<-g,iQ]
 unfold jP jP.W1;refine dS (W r.l) (λi(q:Int×(Mo ByteArray Int)×bW)=>q.1=(i:Int)/\q.2.2.t=t/\q.2.2.l=r/\q.2.2.truth=tb/\(∀(j:Nat)c,j<i->L[j]?=M c->pW q.2.1 (oA c) 0=(j:Int))/\∀d,FL d->(wO q.2.1 (oA d)=U↔∃j:Nat,j<i/\L[j]?=M d))
  ⟨Y,Y,Y,Y,λj c D=>_e D c?,λd _=>⟨λh=>(by cases h),λ⟨j,D,_⟩=>_e D c?⟩⟩ ?_ ?_
 .rintro i ⟨_,m,x⟩ hi ⟨rfl,b,u,w,G,z⟩;simp only at b u w G z;have C:L[i]?=M r.l[i].l:=by rw[<-g];exact rB hi
  have I:=s? C;have k:=(B.mem _).1 I;have y:=zB f k;unfold jP.bh;dsimp only;rw[fM hi,bq,bA hi,ζb,A4 y (by rw[k.1.1];exact Q),ζb,a_]
  refine⟨cm i c?,b,u,w,λj c D a=>?_,λd hd=>?_⟩
  .show pW (nO m (oA r.l[i].l) (i:Int)) (oA c) 0=_;rw[UA]
   by_cases e:j=i
   .grind
   have o:=s? a;rw[M' (λh=>e ?_)]
   .grind
   have:=Lc (zB f ((B.mem _).1 o)) y h;subst this;rw[<-sN B.nodup a,sN B.nodup C]
  show wO (nO m (oA r.l[i].l) (i:Int)) (oA d)=U↔_;rw[Wk,Bool.or_eq_true,_g,z d hd];constructor
  .grind[Lc]
  grind
 rintro⟨_,m,x⟩ ⟨rfl,b,u,w,G,z⟩;simp only at b u w G z;unfold jP.bh;dsimp only;rw[gp,bz,a_];refine(a_ _).2 ⟨_,Y,b,u,w,⟨λc a=>?_,λd hd=>?_⟩⟩
 .have:=List.idxOf_lt_length_of_mem a;exact G _ c c? (rM a)
 show wO m (oA d)=U↔_;rw[z d hd];exact⟨λ⟨j,_,h⟩=>s? h,λh=>⟨L.idxOf d,by have:=List.idxOf_lt_length_of_mem h;omega,rM h⟩⟩
theorem ZE(g:Small t)(a:VT t)(B:dP t A L){x:bW}(D:ins x.l=L)(T:BZ L (nD x.index)){i:Nat}{c:SW}(b:L[i]?=M c):
 Wp (fL x (i:Int) 1) λo=>o.l=(yB L c).map λk:Nat=>(k:Int):=by
 have m:=a.few;have e:i<_l x.l.l:=by rw[<-iQ,D];exact(ζe.1 b).1
 have u:x.l.l[i].l=c:=by have:=rB e;rw[D,b]at this;exact(Option.some.inj this).symm
 have f:=(B.mem _).1 (s? b);have S:=f.1.1;have F:=a.ok.one;have a__:=Du g a f;unfold fL;rw[bA e,ζb];unfold fL.W1;refine dS x.l.l[i].l.length (λn(q:Zg×Int)=>q.2=(n:Int)/\q.1.l.length<=n/\q.1.l=((w! n).filterMap λp=>if bump c p 1∈L then M (L.idxOf (bump c p 1))else J).map λk:Nat=>(k:Int)) ⟨_k,y? _,_k⟩ ?_ ?_
 .rintro n ⟨o,_⟩ z ⟨rfl,C,G⟩;simp only at C G;rw[u]at z;have W:=ζd z;have X:=a__.2 c[n] (t? z);have⟨d,Y,I⟩:=sY (c:=x.l.l[i]) (by rw[u];omega) (by rw[u];omega)
  rw[u]at I;unfold fL.bh;dsimp only;rw[show len x.l.l[i]=((x.l.l[i].l.length:Nat):Int)from _k,u,_c c?,bq,bA e,ζb,Y,ζb,rA (by rw[I];exact z),ζb]
  unfold Sl.get;rw[I,W,ζb,ζb,fJ _ c? c?]
  have⟨j,Z,l⟩:=put_eq (s:=d) (p:=n) (x:=c[n]+1) (by rw[I];exact z)
  have w:j.l=bump c n 1:=by rw[l,I,DM W]
  have Q:=VZ a f n;rw[Z,ζb,A4 (by rw[w];exact Q) (by rw[w,uM];omega),ζb,w]
  by_cases y:bump c n 1∈L
  .have⟨o2,k1,k2⟩:=ni (s:=o) (x:=pW (nD x.index) (oA (bump c n 1)) 0) c?
   rw[(T.has _ Q).2 y,bq,k1,ζb,a_];refine⟨cm n c?,by show _l o2.l<=_;rw[k2];simp;omega,?_⟩
   show o2.l=_;rw[k2,G,T.get _ y,a8,List.filterMap_append,v!];simp[y]
  rw[show wO (nD x.index) (oA (bump c n 1))=O from by
   cases h:wO (nD x.index) (oA (bump c n 1))with
   |false=>rfl|true=>exact _e ((T.has _ Q).1 h) y,bz,a_]
  refine⟨cm n c?,by show _l o.l<=_;omega,?_⟩
  show o.l=_;rw[G,a8,List.filterMap_append,v!];simp[y]
 rintro⟨o,_⟩ ⟨rfl,C,G⟩;unfold fL.bh;dsimp only;rw[gp,bz,a_];refine(a_ _).2 ?_;rw[G,u];rfl
theorem sQ{c:SW}{p:Nat}{a:Int}(h:c[p]?=M a)(q:Nat):(bump c p 1)[q]?=if p=q then M (a+1)else c[q]?:=by have u:=(ζe.1 h).1;unfold bump;rw[h,C?];by_cases e:p=q;subst e;rw[L' Y,L' Y,L' u];rfl;rw[M' e,M' e]
theorem H9(g:VT t)(h:eG t (bJ t) A)(D:dP t A L){c e:SW}(a:Cons t A c)(G:dc c e):∀(n:Nat){d:SW},Cons t A d->dc d e->d.sum<=(n:Int)->¬dc d c->∃p,p<_l c/\bump c p 1∈L/\dc (bump c p 1) e
 |n,d,m,B,hs,T=>by have o:_l d=_l c:=m.1.1.trans a.1.1.symm;have I:0<d.sum:=(by refine I? λi=>T ?_;have j:=m.1.sum.1;have f:=(Qx (t:=t) (A:=A) (z:=.row (replicate (_l t.a?.l) 0)) _k d).2 ⟨m,by simp;omega⟩;have f:d=replicate (_l t.a?.l) 0:=(by simpa[ins,Sl.l]using f);refine⟨o,λp x y u w=>?_⟩;rw[f,List.getElem?_replicate]at u;split at u;cases u;exact a.1.pos p y w;cases u);have⟨q,b,C,W,X⟩:=m.down g h I;have S:=(ζe.1 C).1;by_cases Q:dc (d.set q (b-1)) c;have F:=ζd (show q<_l c by omega);have e1:=Q.2 q (b-1) _ (by rw[K? S]) F;have e2:∀p x y,p≠q->d[p]?=M x->c[p]?=M y->x<=y:=λp x y Y u w=>Q.2 p x y (by rw[List.getElem?_set_ne (Ne.symm Y)];exact u) w;have e3:b=c[q]+1:=(by refine I? λZ=>T ⟨o,λp x y u w=>?_⟩;by_cases e:p=q;subst e;rw[C]at u;cases u;rw[F]at w;cases w;omega;exact e2 p x y e u w);refine⟨q,c?,(D.mem _).2 (join_cons a m ⟨uM,λp x y u w=>?_⟩),⟨by rw[uM];exact G.1,λp x y u w=>?_⟩⟩;rw[sQ F];by_cases e:q=p;subst e;rw[L' _k];rw[C]at w;cases w;rw[F]at u;cases u;unfold Db;simp;omega;rw[M' e,u];have:=e2 p y x (Ne.symm e) w u;unfold Db;simp;omega;rw[sQ F]at u;by_cases e:q=p;subst e;rw[L' _k]at u;cases u;have:=B.2 q b y C w;omega;rw[M' e]at u;exact G.2 p x y u w;cases n with|zero=>omega|succ n=>refine H9 g h D a G n X ⟨by rw[U!];exact B.1,λp x y u w=>?_⟩ (by rw[qa C];omega) Q;by_cases e:q=p;subst e;rw[K? S]at u;cases u;have:=B.2 q b y C w;omega;rw[List.getElem?_set_ne e]at u;exact B.2 p x y u w
end
end Go.VE
namespace Go.VE
theorem xM{α:Type}{s:Sl α}(h:0<W s.l):Sl.isNil s=M O:=by cases s with|nil=>exact _e h (Nat.lt_irrefl 0)|emp=>exact _e h (Nat.lt_irrefl 0)|row l=>rfl|part l=>rfl
theorem Y3(x y:Int):qK (Sl.row [x,y])=M (iY x y):=by
 have h:Wp (dA (Sl.row [x,y])) λm=>m=if y<x then y else x:=by unfold dA;rw[show _r (len (Sl.row [x,y])<1)=O from Y,bz];unfold dA.J1;rw[show idx (Sl.row [x,y]) 0=M x from Y,ζb];unfold dA.W2;refine dS 1 (λi(q:Int×Int)=>(i=0/\q=(x,1))\/(i=1/\q=(if y<x then y else x,2))) (.inl ⟨Y,Y⟩) ?_ ?_;rintro i ⟨m,k⟩ b (⟨rfl,e⟩|⟨rfl,e⟩);cases e;unfold dA.bF;dsimp only;rw[show _r ((1:Int)<len (Sl.row [x,y]))=U from Y,bq,show idx (Sl.row [x,y]) 1=M y from Y,ζb,a_];exact .inr ⟨Y,Y⟩;omega;rintro⟨m,k⟩ (⟨h,_⟩|⟨_,e⟩);omega;cases e;unfold dA.bF;dsimp only;rw[show _r ((2:Int)<len (Sl.row [x,y]))=O from Y,bz,a_];exact(a_ _).2 rfl
 unfold qK;have⟨m,a,u⟩:=h;rw[a,u];grind[iY]
theorem Zx{a b:Zg}(B:W a.l=W b.l)(D:0<W a.l)(m:W a.l<=8):Wp (iN (Sl.row [a,b]) (λz=>qK z)) λo=>o.l=u! iY a.l b.l:=by
 have L:=qb.of iY B;unfold iN;have⟨d,g,C⟩:=sY (c:=a) c? D;obtain⟨v,G,y⟩:∃v,gN (Sl.row [a,b]) (M 1) J=M v/\v.l=[b]:=Ee (Sl.row [a,b]) 1 (Nat.le_succ 1);rw[show idx (Sl.row [a,b]) 0=M a from Y,ζb,g,ζb,G,ζb];unfold iN.W1;have f:len v=1:=h?;have l:idx v 0=M b:=by grind[idx]
 refine dS 1 (λi(q:Zg×Int)=>(i=0/\q=(d,0))\/(i=1/\q.1.l=u! iY a.l b.l/\q.2=1)) (.inl ⟨Y,Y⟩) ?_ ?_;rintro i ⟨o,k⟩ I (⟨rfl,e⟩|⟨rfl,-,-⟩);cases e;unfold iN.bh;dsimp only;rw[f,show _r ((0:Int)<1)=U from Y,bq,l,ζb];unfold iN.W2;refine dS (W d.l) (λn(q:Zg×Int)=>q.2=(n:Int)/\q.1.l.length=W a.l/\∀j:Nat,q.1.l[j]?=if j<n then(u! iY a.l b.l)[j]?else a.l[j]?) ⟨Y,by rw[C],λj=>h?⟩ ?_ ?_;rintro n ⟨o,_⟩ Q ⟨rfl,g1,g2⟩;simp only at g1 g2;have u:n<W a.l:=by grind
 have w:n<W b.l:=c?;unfold iN.bF;dsimp only;rw[show _r ((n:Int)<len d)=U from h?,bq,rA c?,ζb];unfold Sl.get;rw[g2 n,M' c?,ζd u,ζb,bA w,ζb,Y3,ζb,ζb];have⟨o2,k1,k2⟩:=put_eq (s:=o) (p:=n) (x:=iY a.l[n] b.l[n]) c?;rw[k1,ζb,a_];grind[cm];rintro⟨o,_⟩ ⟨rfl,g1,g2⟩;simp only at g1 g2;unfold iN.bF;dsimp only;rw[gp,bz,a_];refine(a_ _).2 (.inr ⟨Y,List.ext_getElem? λj=>?_,Y⟩);rw[g2 j];grind;omega;rintro⟨o,k⟩ (⟨h,_⟩|⟨_,e,e2⟩);cases h;simp only at e e2;subst e2;unfold iN.bh;dsimp only;rw[f,show _r ((1:Int)<1)=O from Y,bz,a_];grind[a_]
theorem dc.same{a b:SW}(h:dc a b)(k:dc b a):a=b:=by refine List.ext_getElem h.1 λj c u=>?_;have:=h.2 j _ _ (ζd c) (ζd u);have:=k.2 j _ _ (ζd u) (ζd c);omega
def kr(L:aX SW)(f:Nat->X')(d:SW):Prop:=d∈L/\f (L.idxOf d)=U
section
variable{t:Z4}{A:b_ 200 bu}{L:aX SW}{tb:Sl X'}{x:bW}
def Low(t:Z4)(A:b_ 200 bu)(L:aX SW)(f:Nat->X')(c:SW)(o:Zg):Prop:=(o=.nil/\∀d,kr L f d->¬dc c d)\/(Cons t A o.l/\dc c o.l/\(∀d,kr L f d->dc c d->dc o.l d)/\(∃d,kr L f d/\dc c d)/\∀e,(∀d,kr L f d->dc c d->dc e d)->dc e o.l)
theorem AS{c:SW}{p:Nat}(h:p<W c):dc c (bump c p 1):=⟨uM.symm,λq x y w u=>by
 rw[sQ (ζd h)]at u
 grind⟩
theorem IX(hS:Small t)(r:VT t)(hM:eG t (bJ t) A)(B:dP t A L)(h5:_l L<=5000)(E:ins x.l=L)(av:x.truth=tb)(hx:BZ L (nD x.index))(aH:_l tb.l=_l L):
 Wp (dM x) λout=>_l out.l=_l L/\∀(i:Nat)c,L[i]?=M c->∃o,out.l[i]?=M o/\Low t A L (jQ tb) c o:=by
 have R:=r.few;have aG:=r.ok.one;have aw:_l x.l.l=_l L:=by rw[<-E,iQ]
 unfold dM;have ax:len x.l=(_l L:Int):=by simp only[len,aw]
 rw[ax,show nv (_l L:Int) (Sl.nil:Zg)=M (.row (replicate (_l L) Sl.nil))from by unfold nv;rw[L' ⟨c?,c?⟩];rfl,ζb,fJ _ c? c?]
 unfold dM.W1;refine dS (_l L) (λm(q:Zb×Int)=>q.2=(_l L:Int)-1-(m:Int)/\q.1.l.length=_l L/\(∀(j:Nat)c,_l L-m<=j->L[j]?=M c->∃o,q.1.l[j]?=M o/\Low t A L (jQ tb) c o)/\∀j:Nat,j<_l L-m->q.1.l[j]?=M .nil)
  ⟨f?,by simp[Sl.l],λj c Q b=>_e (ζe.1 b).1 c?,λj Q=>by
   show(replicate (_l L) (Sl.nil:Zg))[j]?=_;rw[List.getElem?_replicate,L' c?]⟩ ?_ ?_
 .rintro m ⟨out,_⟩ hm ⟨rfl,g1,g2,g3⟩;simp only at g1 g2 g3;obtain⟨i,hi⟩:∃i:Nat,i+m+1=_l L:=⟨_l L-1-m,c?⟩
  have W:i<_l L:=c?
  have b__:=ζd W;have F:=(B.mem _).1 (t? W);unfold dM.bh;dsimp only;rw[show(_l L:Int)-1-(m:Int)=(i:Int)from c?,_c (show(i:Int)>=0 by omega),bq,av,H_ c?,ζb,show(i:Int)-1=(_l L:Int)-1-((m+1:Nat):Int)from c?]
  cases H:jQ tb i with
  |true=>
   have V:i<_l x.l.l:=c?
   have X:x.l.l[i].l=L[i]:=by have:=rB V;rw[E,b__]at this;exact(Option.some.inj this).symm
   have⟨o2,k1,k2⟩:=put_eq (s:=out) (p:=i) (x:=x.l.l[i]) c?
   rw[bq,bA V,ζb,rA c?,ζb,k1,ζb,a_]
   refine⟨fJ _ c? c?,by show _l o2.l=_;rw[k2,U!];exact g1,λj c Q b=>?_,λj Q=>?_⟩
   .show ∃o,o2.l[j]?=M o/\_;rw[k2,C?]
    by_cases e:i=j
    .subst e;rw[b__]at b;cases b;exact⟨_,by rw[L' _k,L' c?],.inr ⟨by rw[X];exact F,by rw[X];exact dc.refl _,λd _ hd=>by rw[X];exact hd,⟨_,⟨t? W,by rw[sN B.nodup b__];exact H⟩,dc.refl _⟩,λe g=>by rw[X];exact g _ ⟨t? W,by rw[sN B.nodup b__];exact H⟩ (dc.refl _)⟩⟩
    rw[M' e];exact g2 j c c? b
   show o2.l[j]?=_;rw[k2,C?,M' c?];exact g3 j c?
  |false=>
   rw[bz,dZ];refine(ZE hS r B E hx b__).mono λl ai=>?_
   have aj:_l l.l=_l (yB L L[i]):=by rw[ai,List.length_map]
   have aI:_l l.l<=8:=by rw[aj];have:=List.length_filterMap_le (λp=>if bump L[i] p 1∈L then M (L.idxOf (bump L[i] p 1))else J) (w! L[i].length);rw[List.length_range]at this;exact Nat.le_trans this (by rw[F.1.1];exact R)
   unfold dM.W2;refine dS (_l l.l) (λn(q:Zb×Int)=>q.2=(n:Int)/\q.1.l.length=_l L/\(∀j:Nat,j≠i->q.1.l[j]?=out.l[j]?)/\∃a,q.1.l[i]?=M a/\
    ((a=.nil/\∀(m' k:Nat)z,m'<n->(yB L L[i])[m']?=M k->L[k]?=M z->∀d,kr L (jQ tb) d->¬dc z d)\/
     (Cons t A a.l/\dc L[i] a.l/\(∀(m' k:Nat)z,m'<n->(yB L L[i])[m']?=M k->L[k]?=M z->∀d,kr L (jQ tb) d->dc z d->dc a.l d)/\(∃d,kr L (jQ tb) d/\dc L[i] d)/\∀e,(∀d,kr L (jQ tb) d->dc L[i] d->dc e d)->dc e a.l)))
    ⟨_k,g1,λ_ _=>rfl,.nil,g3 i c?,.inl ⟨_k,λm' k z h=>_e h c?⟩⟩ ?_ ?_
   .rintro n ⟨o,_⟩ hn ⟨rfl,e1,e2,a,e3,e4⟩;simp only at e1 e2 e3;have ak:n<_l (yB L L[i]):=by omega
    have Y:=ζd ak;have K:=t? ak;generalize hk:(yB L L[i])[n]=k at Y K;have⟨p,hp,Z,ay⟩:=DB.1 K;have v:L[k]?=M (bump L[i] p 1):=by rw[ay];exact rM Z
    have aJ:i<k:=(LL B b__ K).1;have aK:=(ζe.1 v).1;have⟨ok,aA,al⟩:=g2 k _ c? v
    have am:idx l (n:Int)=M (k:Int):=by rw[gm,ai,List.getElem?_map,Y];rfl
    have S:o.l[k]?=M ok:=by rw[e2 k c?];exact aA
    unfold dM.bF;dsimp only;rw[fM hn,bq,am,ζb,rA c?,ζb]
    unfold Sl.get;rw[S,ζb];rcases al with⟨rfl,an⟩|⟨y,u,aB,⟨de,aC,aD⟩,ao⟩
    .rw[show Sl.isNil (Sl.nil:Zg)=M U from _k,ζb,bq,a_];refine⟨cm n c?,e1,e2,a,e3,?_⟩
     have d__:∀(m' I:Nat)z,m'<n+1->¬m'<n->(yB L L[i])[m']?=M I->L[I]?=M z->z=bump L[i] p 1:=λm' I z f G C D=>by obtain rfl:m'=n:=c?;rw[Y]at C;cases C;rw[v]at D;exact(Option.some.inj D).symm
     rcases e4 with⟨T,c__⟩|⟨T,c__,b⟩
     .refine .inl ⟨T,λm' I z f C D d hd=>?_⟩
      by_cases G:m'<n
      .exact c__ m' I z G C D d hd
      rw[d__ m' I z f G C D];exact an d hd
     refine .inr ⟨T,c__,λm' I z f C D d hd u=>?_,b.2⟩
     by_cases G:m'<n
     .exact b.1 m' I z G C D d hd u
     rw[d__ m' I z f G C D]at u;exact _e u (an d hd)
    have ap:0<_l ok.l:=by rw[y.1.1];omega
    have aq:=(AS hp).trans u;have d__:∀(m' I:Nat)z,m'<n+1->¬m'<n->(yB L L[i])[m']?=M I->L[I]?=M z->∀d,kr L (jQ tb) d->dc z d->dc ok.l d:=λm' I z f G C D d hd u=>by obtain rfl:m'=n:=c?;rw[Y]at C;cases C;rw[v]at D;cases D;exact aB d hd u
    rw[xM ap,ζb,bz,rA c?,ζb,e3,ζb]
    rcases e4 with⟨rfl,c__⟩|⟨T,c__,b⟩
    .have⟨o2,k1,k2⟩:=put_eq (s:=o) (p:=i) (x:=ok) c?
     rw[show Sl.isNil (Sl.nil:Zg)=M U from _k,ζb,bq,ζb,S,ζb,ζb,k1,ζb,a_];refine⟨cm n c?,by show _l o2.l=_;rw[k2,U!];exact e1,λj Q=>by show o2.l[j]?=_;rw[k2,C?,M' (Ne.symm Q)];exact e2 j Q,ok,by show o2.l[i]?=_;rw[k2,K? c?],.inr ⟨y,aq,λm' I z f C D d hd u=>?_,⟨de,aC,(AS hp).trans aD⟩,λe g=>ao e λd hd u=>g d hd ((AS hp).trans u)⟩⟩
     by_cases G:m'<n
     .exact _e u (c__ m' I z G C D d hd)
     exact d__ m' I z f G C D d hd u
    have a__:_l a.l=_l ok.l:=T.1.1.trans y.1.1.symm;have e__:=qb.of iY a__;have⟨w1,w2,P⟩:=e__.le_min a__;rw[xM (show 0<_l a.l by omega),ζb,bz,ζb,e3,ζb,ζb,S,ζb,dZ]
    refine(Zx a__ c? (by rw[T.1.1];exact R)).mono λw hw=>?_
    have⟨o2,k1,k2⟩:=put_eq (s:=o) (p:=i) (x:=w) c?
    rw[ζb,k1,ζb,a_];rw[<-hw]at e__ w1 w2 P;refine⟨cm n c?,by show _l o2.l=_;rw[k2,U!];exact e1,λj Q=>by show o2.l[j]?=_;rw[k2,C?,M' (Ne.symm Q)];exact e2 j Q,w,by show o2.l[i]?=_;rw[k2,K? c?],.inr ⟨Cq T y e__,P _ c__ aq,λm' I z f C D d hd u=>?_,b.2.1,λe g=>P _ (b.2.2 e g) (ao e λd hd u=>g d hd ((AS hp).trans u))⟩⟩
    by_cases G:m'<n
    .exact w1.trans (b.1 m' I z G C D d hd u)
    exact w2.trans (d__ m' I z f G C D d hd u)
   rintro⟨o,_⟩ ⟨rfl,e1,e2,a,e3,e4⟩;simp only at e1 e2 e3;unfold dM.bF;dsimp only;rw[gp,bz,a_];have ar:∀d,kr L (jQ tb) d->dc L[i] d->∃(m' k:Nat)(z:SW),m'<_l l.l/\(yB L L[i])[m']?=M k/\L[k]?=M z/\dc z d:=λd hd u=>by have hD:=(B.mem _).1 hd.1;have aE:¬dc d L[i]:=λh=>(by have:d=L[i]:=dc.same h u;have G:=hd.2;rw[this,sN B.nodup b__,H]at G;cases G);have⟨p,hp,Z,aF⟩:=H9 r hM B F u d.sum.toNat hD (dc.refl d) c? aE;have hm:L.idxOf (bump L[i] p 1)∈yB L L[i]:=DB.2 ⟨p,hp,Z,_k⟩;have⟨m',au⟩:=d! hm;exact⟨m',_,_,by rw[aj];exact(ζe.1 au).1,au,rM Z,aF⟩
   refine(a_ _).2 ⟨(fJ ((i:Int)-1) c? c?).trans c?,e1,λj c Q b=>?_,λj Q=>by show o.l[j]?=_;rw[e2 j c?];exact g3 j c?⟩
   show∃o',o.l[j]?=M o'/\_
   by_cases e:j=i
   .subst e;rw[b__]at b;cases b;refine⟨a,e3,?_⟩;rcases e4 with⟨T,c__⟩|⟨T,c__,b⟩
    .exact .inl ⟨T,λd hd u=>by
      have⟨m',k,z,f,G,C,D⟩:=ar d hd u;exact c__ m' k z f G C d hd D⟩
    exact .inr ⟨T,c__,λd hd u=>by
     have⟨m',k,z,f,G,C,D⟩:=ar d hd u;exact b.1 m' k z f G C d hd D,b.2⟩
   rw[e2 j e];exact g2 j c c? b
 rintro⟨out,_⟩ ⟨rfl,g1,g2,-⟩;unfold dM.bh;dsimp only;rw[_b c?,bz,a_]
 exact(a_ _).2 ⟨g1,λi c b=>g2 i c c? b⟩
end
section
variable{α σ:Type}
def yu(p:α->σ->aY (X'×σ)):aX α->σ->aY (X'×σ)
 |[],x=>M (O,x)|a::r,x=>H (p a x) λy=>if y.1 then M (U,y.2)else yu p r y.2
theorem HJ{s:Sl α}{p:α->σ->aY (X'×σ)}{x:σ}(B:W s.l<1073741824):B3 s p x=yu p s.l x:=by
 have key:∀(c:aX α)(j:Nat)(x:σ),s.l.drop j=c->(H (bG (GL s p) ((j:Int),x)) (Fw.elim (λe=>M ((-1:Int),e)) λe=>M e)).bind (λy:Int×σ=>M (_r (y.1>=0),y.2))=yu p c x:=by intro c;induction c with|nil=>intro j x hd;have d:_r ((j:Int)<len s)=O:=(by have:W s.l<=j:=(by simpa using hd);simp[len];omega);rw[eF];simp only[GL,d,bg,Bool.false_eq_true,_a,ζb,Fw.elim,yu];rfl|cons a c u=>intro j x hd;have d:j<W s.l:=(by apply I?;intro C;rw[List.drop_eq_nil_of_le c?]at hd;cases hd);have w:=List.drop_eq_getElem_cons d;rw[w]at hd;simp only[List.cons.injEq]at hd;rw[eF];simp only[GL,fM d,bg,N',bA d,ζb,hd.1,yu];cases p a x with|none=>rfl|some y=>have⟨b,z⟩:=y;simp only[ζb];cases b with|true=>simp[Fw.elim]|false=>simp only[Bool.false_eq_true,_a,ζb,cm j c?];exact u (j+1) z hd.2
 exact key s.l 0 x Y
def HH(p:α->aY X'):aX α->aY X'
 |[]=>M O|a::r=>H (p a) λb=>if b then M U else HH p r
theorem Ik(p:α->aY X'):∀l:aX α,yu (λx(u:Unit)=>(p x).map λb=>(b,u)) l ()=(HH p l).map λb=>(b,())
 |[]=>rfl|a::r=>by simp only[yu,HH];cases p a with|none=>rfl|some b=>cases b<;>simp[Ik p r]
theorem CL{s:Sl α}(p:α->aY X')(B:W s.l<1073741824):B3 s (λx(u:Unit)=>(p x).map λb=>(b,u)) ()=(HH p s.l).map λb=>(b,()):=by rw[HJ B,Ik]
theorem BL{p:α->aY X'}{f:α->X'}:∀{l:aX α},(∀x∈l,p x=M (f x))->HH p l=M (l.any f)
 |[],_=>rfl|a::r,h=>by simp only[HH,h a f?,ζb,List.any_cons,BL (λx B=>h x (B? _ B))];cases f a<;>rfl
theorem jl{δ:Type}{b:(α->aY δ)->α->aY δ}{n:Nat}(h:0<n)(z:α):dm b n z=b (dm b (n-1)) z:=by cases n with|zero=>omega|succ n=>rfl
end
def BH(l:SW)(az:aX Assign):SW:=az.foldl (λl a=>l.set a.var.toNat a.value) l
def iT(P:bS):Nat->SW
 |0=>P.g?.l.map Var.init_|k+1=>match P.b?.l[k]?with
  |some e=>BH (iT P k) e.assign.l|none=>iT P k
theorem L4:∀(az:aX Assign)(l:SW),W (BH l az)=W l
 |[],l=>rfl|a::r,l=>by show(BH (l.set a.var.toNat a.value) r).length=_;rw[L4 r];simp
theorem qT(P:bS):∀k,W (iT P k)=W P.g?.l
 |0=>by simp[iT]|k+1=>by unfold iT;split;rw[L4,qT P k];exact qT P k
def Nr{α:Type}(s:Sl α):Prop:=s=.nil\/∃l,s=.row l
theorem LB:∀(vs:aX Var)(s:Zg),Nr s->W s.l+W vs<1073741824->∃B,yS vs s=M B/\Nr B/\B.l=s.l++vs.map Var.init_
 |[],s,h,_=>⟨s,rfl,h,f?⟩|v::r,s,h,D=>by simp only[U?]at D;have a:d_ s v.init_=M (.row (s.l++[v.init_])):=(by unfold d_;rw[L' c?]);have⟨B,g1,g2,g3⟩:=LB r (.row (s.l++[v.init_])) (.inr ⟨_,Y⟩) (by show(s.l++[v.init_]).length+W r<1073741824;simp;omega);refine⟨B,?_,g2,by rw[g3];show(s.l++[v.init_])++r.map Var.init_=_;simp⟩;simp only[yS,a,ζb,g1]
theorem KB:∀(az:aX Assign)(s:Zg),Nr s->(∀a∈az,0<=a.var/\a.var<W s.l)->∃B,yV az s=M B/\Nr B/\B.l=BH s.l az
 |[],s,h,_=>⟨s,rfl,h,rfl⟩|a::r,s,h,D=>by have⟨G,c⟩:=D a f?;have d:Sl.iA s a.var=M a.var.toNat:=(by unfold Sl.iA;rw[L' ⟨G,c?⟩]);rcases h with rfl|⟨l,rfl⟩;simp[Sl.l]at c;omega;have u:Sl.put (.row l) a.var.toNat a.value=M (.row (l.set a.var.toNat a.value)):=(by unfold Sl.put;rw[L' (by simp[Sl.l]at c⊢;omega)]);have⟨B,g1,g2,g3⟩:=KB r (.row (l.set a.var.toNat a.value)) (.inr ⟨_,Y⟩) (λb w=>by have:=D b (B? _ w);simpa[Sl.l]using this);refine⟨B,?_,g2,g3⟩;simp only[yV,d,u,ζb,g1]
theorem OS{s:Zg}(h:Nr s)(B:W s.l<1073741824):∃c,Rk s=M c/\c.l=s.l:=by rcases h with rfl|⟨l,rfl⟩;exact⟨.nil,Y,Y⟩;unfold Rk IB.dx oC;simp only[Sl.isNil,ζb,bg,Bool.false_eq_true,_a];by_cases u:(Sl.row l).l=[];rw[L' u];exact⟨.row [],Y,u.symm⟩;rw[M' u,L' (by simp[Sl.l]at B⊢;omega)];exact⟨_,Y,by simp[Sl.l]⟩
def xm(P:bS):Prop:=∀e∈P.b?.l,∀a∈e.assign.l,0<=a.var/\a.var<W P.g?.l
theorem MA{P:bS}(B:xm P)(f:W P.g?.l<1073741824):∀(b:aX WF)(k:Nat)(s:Zg),P.b?.l.drop k=b->Nr s->s.l=iT P k->
 ∃r,yX (k:Int) b s=M r/\W r=W b/\∀(i:Nat)x,r[i]?=M x->x.1=((k+i+1:Nat):Int)/\x.2.l=iT P (k+i+1)
 |[],k,s,_,_,_=>⟨[],rfl,rfl,f?⟩|e::b,k,s,hd,D,G=>by have d:k<W P.b?.l:=(by apply I?;intro D;rw[List.drop_eq_nil_of_le c?]at hd;cases hd);have C:=List.drop_eq_getElem_cons d;rw[C]at hd;simp only[List.cons.injEq]at hd;have I:e∈P.b?.l:=hd.1▸t? d;have w:W s.l=W P.g?.l:=(by rw[G,qT]);have⟨n,g1,g2,g3⟩:=KB e.assign.l s D (λa g=>by rw[w];exact B e I a g);have u:iT P (k+1)=n.l:=(by rw[g3,G];unfold iT;rw[ζd d,hd.1];cases k<;>rfl);have⟨c,g4,g5⟩:=OS g2 (by rw[<-u,qT];exact f);have⟨r,L,h,Q⟩:=MA B f b (k+1) n hd.2 g2 u.symm;refine⟨((k:Int)+1,c)::r,?_,by simp[h],λi x z=>?_⟩;simp only[yX,g1,g4,ζb];rw[show(k:Int)+1=((k+1:Nat):Int)from Y,L];rfl;cases i with|zero=>simp only[List.getElem?_cons_zero,ζa]at z;subst z;exact⟨rfl,by rw[g5,<-u]⟩|succ i=>rw[List.getElem?_cons_succ]at z;have⟨S,T⟩:=Q i x z;exact⟨by rw[S];congr 1;omega,by rw[T];congr 1;omega⟩
theorem Jz{P:bS}(B:xm P)(a:W P.g?.l<1073741824)(T:W P.b?.l<1073741824)(D:∀e∈P.b?.l,W e.assign.l<1073741824):
 ∃r,kM P=M r/\W r=W P.b?.l+1/\∀(i:Nat)x,r[i]?=M x->x.1=(i:Int)/\x.2.l=iT P i:=by
 have⟨s,g1,g2,g3⟩:=LB P.g?.l .nil (.inl Y) (by simpa[Sl.l]using a)
 have w:s.l=iT P 0:=by rw[g3];simp[Sl.l,iT]
 have⟨c,g4,g5⟩:=OS g2 (by rw[w,qT];exact a)
 have⟨r,z,C,G⟩:=MA B a P.b?.l 0 s Y g2 w;refine⟨(0,c)::r,?_,by simp[C],λi x u=>?_⟩
 .unfold kM;have b:(q_ (W P.g?.l)&&(q_ (W P.b?.l)&&P.b?.l.all λe=>q_ (W e.assign.l)))=U:=by
   simp only[ζh,O?,q_,_g];exact⟨c?,c?,λe h=>by have:=D e h;omega⟩
  rw[L' b,g1,ζb,g4,ζb];rw[show((0:Nat):Int)=0 from Y]at z;rw[z];rfl
 cases i with
 |zero=>simp only[List.getElem?_cons_zero,ζa]at u;subst u;exact⟨rfl,by rw[g5,w]⟩|succ i=>rw[List.getElem?_cons_succ]at u;have⟨I,d⟩:=G i x u;exact⟨by rw[I];congr 1;omega,by rw[d];congr 1;omega⟩
theorem Wa{P:bS}(D:xm P)(b:W P.g?.l<1073741824)(G:W P.b?.l<1073741824)(g:∀e∈P.b?.l,W e.assign.l<1073741824){k:Nat}(f:k<=W P.b?.l):
 ∃x,gG P (k:Int)=M x/\x.l=iT P k:=by
 have⟨r,c,h,C⟩:=Jz D b G g;have key:∀(a:aX (Int×Zg))(i:Nat)(q:Zg),r.drop i=a->i<=k->∃x,H (mm (λ(x:Int×(Zg))(q:Zg)=>gG.lq P k x q) a q) (Fw.tg (λq=>M Sl.nil) (λe=>c! e) (λe=>M e))=M x/\x.l=iT P k:=by intro a;induction a with|nil=>intro i q hd d;have:W r<=i:=(by simpa using hd);omega|cons y a I=>intro i q hd d;have u:i<W r:=c?;have e2:=List.drop_eq_getElem_cons u;rw[e2]at hd;simp only[List.cons.injEq]at hd;have⟨B,L⟩:=C i y (by rw[ζd u,hd.1]);by_cases w:i=k;subst w;refine⟨y.2,?_,L⟩;simp only[mm,gG.lq,B,beq_self_eq_true,bg,N',ζb,Fw.tg];have z:(y.1==(k:Int))=O:=(by rw[B];simp;omega);have⟨x,g1,g2⟩:=I (i+1) .nil hd.2 c?;refine⟨x,?_,g2⟩;simp only[mm,gG.lq,z,bg,Bool.false_eq_true,_a,ζb];exact g1
 have⟨x,g1,g2⟩:=key r 0 .nil Y (R? _);refine⟨x,?_,g2⟩;unfold gG pE gG.E1;simp only[ζb,c];exact g1
mutual
def Pred.sz:T'->Nat
 |⟨_,_,_,_,_,l⟩=>1+Pred.szS l
def Pred.szS:Sl T'->Nat
 |.nil=>0|.emp=>0|.row l=>Pred.pJ l|.part l=>Pred.pJ l
def Pred.pJ:aX T'->Nat
 |[]=>0|x::r=>Pred.sz x+Pred.pJ r
end
mutual
def Pred.dp:T'->Nat
 |⟨_,_,_,_,_,l⟩=>1+Pred.dpS l
def Pred.dpS:Sl T'->Nat
 |.nil=>0|.emp=>0|.row l=>Pred.vY l|.part l=>Pred.vY l
def Pred.vY:aX T'->Nat
 |[]=>0|x::r=>max (Pred.dp x) (Pred.vY r)
end
mutual
def Pred.gY(f:T'->X'):T'->X'
 |⟨a,b,c,d,e,l⟩=>f ⟨a,b,c,d,e,l⟩&&Pred.Pr f l
def Pred.Pr(f:T'->X'):Sl T'->X'
 |.nil=>U|.emp=>U|.row l=>Pred.HM f l|.part l=>Pred.HM f l
def Pred.HM(f:T'->X'):aX T'->X'
 |[]=>U|x::r=>Pred.gY f x&&Pred.HM f r
end
theorem Pred.acP(s:Sl T'):Pred.szS s=Pred.pJ s.l:=by cases s<;>simp[Pred.szS,Pred.pJ,Sl.l]
theorem Pred.adk(s:Sl T'):Pred.dpS s=Pred.vY s.l:=by cases s<;>simp[Pred.dpS,Pred.vY,Sl.l]
theorem Pred.Lm(f:T'->X'):∀l:aX T',Pred.HM f l=l.all (Pred.gY f)
 |[]=>by simp[Pred.HM]|x::r=>by simp only[Pred.HM,o!,Pred.Lm f r]
theorem Pred.aaY(f:T'->X')(s:Sl T'):Pred.Pr f s=s.l.all (Pred.gY f):=by cases s<;>simp[Pred.Pr,Pred.Lm,Sl.l]
theorem Pred.Xq(p:T'):p.sz=1+Pred.pJ p.l.l:=by cases p;simp only[Pred.sz,Pred.acP]
theorem Pred.Gy(p:T'):p.dp=1+Pred.vY p.l.l:=by cases p;simp only[Pred.dp,Pred.adk]
theorem Pred.l9(f:T'->X')(p:T'):p.gY f=(f p&&p.l.l.all (Pred.gY f)):=by cases p;simp only[Pred.gY,Pred.aaY]
theorem Pred.N5:∀{l:aX T'}{q:T'},q∈l->q.dp<=Pred.vY l
 |x::r,q,h=>by simp only[Pred.vY];rcases mem_cons.1 h with rfl|h;omega;have:=Pred.N5 h;omega
theorem Pred.rZ{p q:T'}(h:q∈p.l.l):q.dp<p.dp:=by rw[p.Gy];have:=Pred.N5 h;omega
theorem Pred.vo(p:T'):0<p.dp:=by rw[p.Gy];omega
theorem Pred.ind{M:T'->Prop}(h:∀p,(∀q∈p.l.l,M q)->M p)(p:T'):M p:=by
 have key:∀n p,p.dp<=n->M p:=by intro n;induction n with|zero=>intro p u;have:=p.vo;omega|succ n w=>intro p u;exact h p λq z=>w q (by have:=Pred.rZ z;omega)
 exact key _ p (y? _)
abbrev Pred.Sm(p:Pred):Prop:=p.gY (λq=>_r (W q.l.l<1073741824))=U
theorem Pred.Sm.len{p:T'}(h:p.Sm):W p.l.l<1073741824:=by unfold Pred.Sm at h;rw[p.l9]at h;simp only[ζh,_g]at h;exact h.1
theorem Pred.Sm.vX{p q:T'}(h:p.Sm)(B:q∈p.l.l):q.Sm:=by unfold Pred.Sm at h;rw[p.l9]at h;simp only[ζh,O?]at h;exact h.2 q B
theorem Oy{f:T'->aY X'}{g:T'->X'}(p:T')(B:p.Sm):p.gY (λq=>f q==M (g q))=U->∀n,p.dp<=n->dm (λr(z:T')=>ku z f r) n p=M (p.gY g):=by induction p using Pred.ind with|h p C=>intro u n D;rw[p.l9]at u;simp only[ζh,O?,_i]at u;have hd:=p.Gy;rw[jl c?];show ku p f _=_;unfold ku;rw[u.1,ζb,p.l9];cases g p with|false=>rfl|true=>rw[bq,CL _ B.len,BL (f:=λq=> !q.gY g) (λq w=>by have:=C q w (B.vX w) (u.2 q w) (n-1) (by have:=Pred.rZ w;omega);show(dm (λr(z:T')=>ku z f r) (n-1) q).bind _=_;rw[this];rfl)];simp only[Option.map_some,ζb,Bool.true_and];congr 1;rw[Bool.eq_iff_iff];simp
theorem xE{step:Int->aY (Fw Int Unit Unit)}{p:T'}{g:T'->X'}(D:W p.l.l<1073741824)(h:∀(i:Nat)(a:i<W p.l.l),step i=M (if g p.l.l[i]then .n ((i+1:Nat):Int)else .r ()))(B:step (W p.l.l)=M (.x ())):
 H (bG (λq:Int=>step q) 0) (Fw.elim (λ_=>M U) (λ_=>M O))=M (p.l.l.all g):=by
 refine Wp.eq ?_;refine dS (W p.l.l) (λn s=>s=(n:Int)/\(p.l.l.take n).all g=U) ⟨Y,Y⟩ ?_ ?_
 .rintro i _ a ⟨rfl,u⟩;rw[h i a,a_]
  cases b:g p.l.l[i]with
  |true=>refine⟨Y,?_⟩;rw[P?,ζd a,List.all_append,u];simp[b]|false=>
   refine(a_ _).2 ?_
   symm
   rw[List.all_eq_false];exact⟨_,t? a,by rw[b];simp⟩
 rintro _ ⟨rfl,u⟩;rw[B,a_];rw[M?]at u;exact(a_ _).2 u.symm
abbrev L5(p:Pred):Bool:=E? p.name==E? ByteArray.empty
abbrev Kl(p:Pred)(c:Int):Bool:=(len p.l==c)&&(!_r (p.n<0)&&(!_r (p.n>1125899906842624)&&((p.n==0||p.kind==1)&&(p.kind==2||(p.kind==3||(p.kind==4||(p.proc==0&&(p.k?==0&&L5 p))))))))
theorem Za:∀k:_root_.Fin 22,1<=k.1->(b_.at xA ((k.1:Nat):Int)).isSome=U:=by decide
theorem JH{k:Int}(a:1<=k)(B:k<22):∃c,b_.at xA k=M c:=by have g:=Za ⟨k.toNat,c?⟩ h?;grind[Option.isSome_iff_exists]
theorem Um:∀k:_root_.Fin 22,1<=k.1->b_.at xA ((k.1:Nat):Int)=mJ ((k.1:Nat):Int)/\(mJ ((k.1:Nat):Int)).isSome=U:=by decide
theorem QZ{k:Int}(a:1<=k)(B:k<22):∃c,b_.at xA k=M c/\mJ k=M c:=by have⟨g1,g2⟩:=Um ⟨k.toNat,c?⟩ h?;grind[Option.isSome_iff_exists]
theorem Tn{k:Int}(h:k<1\/22<=k):mJ k=M (-1):=by
 have c:(bg (_r (k>=1)) (M (_r (k<=4))) (M O):aY X')=M O:=by by_cases b:k>=1;rw[_c b,bq,_b c?];rw[_b b];rfl
 have d:(bg (_r (k>=18)) (M (_r (k<=21))) (M O):aY X')=M O:=by grind
 have e:(bg (_r (k>=6)) (M (_r (k<=12))) (M O):aY X')=M O:=by grind
 have a:∀m:Int,1<=m->m<22->(k==m)=O:=λm b u=>by simp;omega
 unfold mJ;rw[c,d,e,a 13 c? c?,a 14 c? c?,a 5 c? c?,a 15 c? c?,a 16 c? c?,a 17 c? c?];rfl
theorem HL{p:T'}{c:Int}(f:1<=p.kind)(B:p.kind<22)(d:b_.at xA p.kind=M c):mg p=M (Kl p c):=by
 unfold mg wm Kl L5;rw[_b (show¬p.kind<1 by omega),bz,ζb,_b (show¬p.kind>=22 by omega),bz,d,ζb,ζb];generalize(len p.l==c)=e;generalize _r (p.n<0)=a;generalize _r (p.n>1125899906842624)=b;generalize(p.n==0)=z;generalize(p.kind==1)=k1;generalize(p.kind==2)=k2;generalize(p.kind==3)=k3;generalize(p.kind==4)=k4;generalize(p.proc==0)=d1;generalize(p.k?==0)=d2;generalize(E? p.name==E? ByteArray.empty)=d3
 cases e with
 |false=>rfl|true=>cases a with
  |true=>rfl|false=>cases b with
   |true=>rfl|false=>cases z<;>cases k1<;>first|rfl|(cases k2<;>cases k3<;>cases k4<;>cases d1<;>cases d2<;>cases d3<;>rfl)
theorem E5{p:T'}(h:p.kind<1\/22<=p.kind):mg p=M O:=by grind[mg,bg]
theorem Wd{p:T'}{c:Int}(i:1<=p.kind)(B:p.kind<22)(d:mJ p.kind=M c)(r:T'->aY X'):gF p r=bg (Kl p c) (fZ.W2 0 p r) (M O):=by
 unfold gF fZ.J1 Kl L5;rw[d,ζb,show(c==len p.l)=(len p.l==c)from h?];have f:(bg (_r (p.kind<2)) (M U) (M (_r (p.kind>4))):aY X')=M (!(p.kind==2||(p.kind==3||p.kind==4))):=by by_cases g:p.kind<2;rw[_c g,bq,show(p.kind==2)=O from by simp;omega,show(p.kind==3)=O from by simp;omega,show(p.kind==4)=O from by simp;omega];rfl;rw[_b g,bz];congr 1;rw[Bool.eq_iff_iff];simp;omega
 have u:(p.n==0)=U->_r (p.n<0)=O/\_r (p.n>1125899906842624)=O:=λh=>by grind
 rw[f];generalize(len p.l==c)=e;generalize _r (p.n<0)=a at *;generalize _r (p.n>1125899906842624)=b at *;generalize(p.n==0)=z at *;generalize(p.kind==1)=k1;generalize(p.kind==2)=k2;generalize(p.kind==3)=k3;generalize(p.kind==4)=k4;generalize(p.proc==0)=d1;generalize(p.k?==0)=d2;generalize(E? p.name==E? ByteArray.empty)=d3
 cases e with
 |false=>rfl|true=>cases k1 with
  |true=>cases a with
   |true=>rfl|false=>cases b with
    |true=>rfl|false=>cases z<;>cases k2<;>cases k3<;>cases k4<;>cases d1<;>cases d2<;>cases d3<;>rfl
  |false=>cases z with
   |false=>cases a<;>cases b<;>rfl|true=>obtain⟨rfl,rfl⟩:=u Y;cases k2<;>cases k3<;>cases k4<;>cases d1<;>cases d2<;>cases d3<;>rfl
def fB(p:T'):X':=(mg p).getD O
theorem Yn(p:T'):mg p=M (fB p):=by unfold fB;by_cases h:p.kind<1\/22<=p.kind;all_goals grind[E5,JH,HL]
theorem za{p:T'}(h:fB p=U):1<=p.kind/\p.kind<22/\b_.at xA p.kind=M (len p.l):=by grind[fB,E5,JH,HL]
theorem Vb(p:T')(r:T'->aY X'):gF p r=bg (fB p) (fZ.W2 0 p r) (M O):=by unfold fB;by_cases h:p.kind<1\/22<=p.kind;rw[E5 h];unfold gF;rw[Tn h,ζb,show((-1:Int)==len p.l)=O from p?];rfl;grind[QZ,HL,Wd]
theorem Si(p:T')(B:p.Sm):∀n,p.dp<=n->dm (λr(z:T')=>gF z r) n p=M (p.gY fB):=by induction p using Pred.ind with|h p u=>intro n C;have hd:=p.vo;rw[jl c?];have u:=λq w=>u q w (B.vX w) (n-1);show gF p (dm (λr(z:T')=>gF z r) (n-1))=_;generalize dm (λr(z:T')=>gF z r) (n-1)=R at u⊢;rw[Vb,p.l9];cases fB p with|false=>rfl|true=>rw[bq,Bool.true_and];unfold fZ.W2;refine xE (g:=Pred.gY fB) B.len (λi a=>?_) ?_;unfold fZ.bF;rw[fM a,bq,bA a,ζb,u _ (t? a) (by have:=Pred.rZ (t? a);omega),ζb,cm i (by have:=B.len;omega)];cases Pred.gY fB p.l.l[i]<;>rfl;unfold fZ.bF;rw[gp];rfl
def oI(p:T'):X':=_r (p.sz<=200)&&(_r (p.dp<=20)&&p.gY fB)
abbrev xB(p:Pred)(d l:Nat):Bool:=_r (p.sz<=l)&&(_r (p.dp+d<=21)&&p.gY fB)
abbrev AT(k:aX Pred)(d l:Nat):Bool:=_r (Pred.pJ k<=l)&&(_r (Pred.vY k+d<=21)&&k.all (Pred.gY fB))
theorem YI(p:T')(g:p.Sm):∀(n d l:Nat),1<=n->22<=n+d->d<=21->1<=d->l<=200->
 ∃B:Int,dm (λr(z:T'×Int×Int)=>eY z.1 z.2.1 z.2.2 r) n (p,(d:Int),(l:Int))=M (xB p d l,B)/\(xB p d l=U->B=((l-p.sz:Nat):Int)):=by
 induction p using Pred.ind with
 |h p C=>
  intro n d l X j hd kE o;have Q:=p.Xq;have S:=p.Gy;rw[jl c?]
  have C:=λq D=>C q D (g.vX D) (n-1)
  show∃B,eY p (d:Int) (l:Int) (dm (λr(z:T'×Int×Int)=>eY z.1 z.2.1 z.2.2 r) (n-1))=_/\_
  generalize dm (λr(z:T'×Int×Int)=>eY z.1 z.2.1 z.2.2 r) (n-1)=R at C⊢
  unfold eY;rw[fJ _ c? c?,Yn]
  by_cases T:l=0
  .subst T;have w:xB p d 0=O:=by
    grind
   rw[w];exact⟨_,Y,λh=>by cases h⟩
  rw[_b (show¬((l:Int)-1<0)by omega),bz,ζb]
  by_cases b:20<d
  .have w:xB p d l=O:=by
    grind
   rw[w,_c (show(d:Int)>20 by omega)]
   exact⟨_,Y,λh=>by cases h⟩
  rw[_b (show¬((d:Int)>20)by omega),bz,ζb]
  have Z:=p.l9 fB
  cases c:fB p with
  |false=>
   have w:xB p d l=O:=h?
   rw[w];exact⟨_,rfl,λh=>by cases h⟩
  |true=>
   rw[ζb,show(!U)=O from Y,bz,HJ g.len];have key:∀(k:aX T'),(∀q∈k,q∈p.l.l)->∀m:Nat,m<=200->∃m':Int,yu (λx s=>jv x (d:Int) s R) k (m:Int)=M (!AT k (d+1) m,m')/\(AT k (d+1) m=U->m'=((m-Pred.pJ k:Nat):Int)):=by intro k;induction k with|nil=>simp_all[yu,Pred.pJ,Pred.vY]|cons q k G=>intro a m i;have⟨B,g1,g2⟩:=C q (a q f?) (d+1) m c? c? c? c? i;have e1:jv q (d:Int) (m:Int) R=M (!xB q (d+1) m,B):=(by grind[jv,cm]);simp only[yu,e1,ζb];have u:AT (q::k) (d+1) m=(xB q (d+1) m&&AT k (d+1) (m-q.sz)):=(by rw[Bool.eq_iff_iff];simp only[AT,xB,Pred.pJ,Pred.vY,ζh,o!];constructor;rintro⟨a1,a2,a3,a4⟩;have a1:=_d a1;have a2:=_d a2;exact⟨⟨_c c?,_c c?,a3⟩,_c c?,_c c?,a4⟩;grind);cases w:xB q (d+1) m with|false=>rw[u,w];grind|true=>have⟨m',I,L⟩:=G (λx y=>a x (B? _ y)) (m-q.sz) c?;rw[u,w,Bool.true_and,g2 w];refine⟨m',h?,λh=>?_⟩;rw[L h];have:q.sz<=m:=(by have:=w;grind);grind[Pred.pJ]
   have⟨m',I,L⟩:=key p.l.l (λq D=>D) (l-1) c?
   rw[show((l:Int)-1)=((l-1:Nat):Int)from c?,I,ζb]
   have w:xB p d l=AT p.l.l (d+1) (l-1):=by rw[Bool.eq_iff_iff];grind
   refine⟨m',by rw[w];simp,λh=>?_⟩
   grind
theorem BR{p:T'}(B:p.Sm):ng p=M (oI p):=by obtain⟨u,h,-⟩:=YI p B 100000 1 200 c? c? c? c? c?;unfold ng sB;rw[show dm (λr(z:T'×Int×Int)=>eY z.1 z.2.1 z.2.2 r) 100000 (p,(1:Int),(200:Int))=_ from h];simp only[ζb];congr 1;rw[Bool.eq_iff_iff];simp_all[oI]
theorem UQ{l:aX T'}{i:Nat}(h:i<W l):Pred.pJ (l.take (i+1))=Pred.pJ (l.take i)+l[i].sz:=by
 have key:∀(l:aX T')(i:Nat)(h:i<W l),Pred.pJ (l.take (i+1))=Pred.pJ (l.take i)+l[i].sz:=by intro l;induction l with|nil=>grind|cons x r u=>grind[Pred.pJ]
 grind
theorem V8{l:aX T'}{i:Nat}(h:i<W l):Pred.vY (l.take (i+1))=max (Pred.vY (l.take i)) l[i].dp:=by
 have key:∀(l:aX T')(i:Nat)(h:i<W l),Pred.vY (l.take (i+1))=max (Pred.vY (l.take i)) l[i].dp:=by intro l;induction l with|nil=>grind|cons x r u=>grind[Pred.vY]
 grind
theorem NT(l:aX T')(i:Nat):Pred.pJ (l.take i)<=Pred.pJ l:=by
 induction l generalizing i with
 |nil=>simp|cons x r u=>cases i with
  |zero=>simp[Pred.pJ]|succ i=>grind[Pred.pJ]
theorem count_eq(p:T')(G:p.Sm):∀(n l:Nat),l+1<=n->l<=200->dm (λr(z:T'×Int)=>jc z.1 z.2 r) n (p,(l:Int))=M ((min p.sz (l+1):Nat):Int):=by
 induction p using Pred.ind with|h p C=>
  intro n l g Q;have d:=p.Xq;rw[jl c?];have C:=λq I=>C q I (G.vX I) (n-1);show jc p (l:Int) (dm (λr(z:T'×Int)=>jc z.1 z.2 r) (n-1))=_;generalize dm (λr(z:T'×Int)=>jc z.1 z.2 r) (n-1)=R at C⊢;unfold jc kO.W1;refine Wp.eq ?_;refine ey (λs:Int×Int=>∃i:Nat,s.2=i/\i<=W p.l.l/\s.1=((min (1+Pred.pJ (p.l.l.take i)) (l+1):Nat):Int)) (λs=>W p.l.l-s.2.toNat) ⟨0,Y,R? _,by simp[Pred.pJ]⟩ ?_;rintro⟨c,_⟩ ⟨i,rfl,b,a⟩;simp only at a;subst a;unfold kO.bh;by_cases u:i<W p.l.l;rw[fM u,bq,ζb];by_cases L:min (1+Pred.pJ (p.l.l.take i)) (l+1)<=l;have w:min (1+Pred.pJ (p.l.l.take i)) (l+1)=1+Pred.pJ (p.l.l.take i):=by omega
  have B:=t? u;rw[_c (show(((min (1+Pred.pJ (p.l.l.take i)) (l+1):Nat)):Int)<=(l:Int)by omega),bq,bA u,ζb,w,fJ _ c? c?,
   show(l:Int)-((1+Pred.pJ (p.l.l.take i):Nat):Int)=((l-(1+Pred.pJ (p.l.l.take i)):Nat):Int)from c?,
   C _ B _ c? c?,ζb,a_,fJ _ c? c?,cm i (by have:=G.len;omega)]
  refine⟨⟨i+1,Y,c?,?_⟩,h?⟩;grind[UQ];rw[_b (show¬(((min (1+Pred.pJ (p.l.l.take i)) (l+1):Nat)):Int)<=(l:Int)by omega),bz,a_];refine(a_ _).2 ?_;have:=NT p.l.l i;grind;have D:i=W p.l.l:=c?;subst D;rw[show _r (((W p.l.l:Nat):Int)<len p.l)=O from gp,bz,ζb,bz,a_];refine(a_ _).2 ?_;grind
theorem Vx(p:T')(D:p.Sm):∀(n m:Nat),m+1<=n->m<=200->dm (λr(z:T'×Int)=>jf z.1 z.2 r) n (p,(m:Int))=M ((min p.dp (m+1):Nat):Int):=by induction p using Pred.ind with|h p B=>intro n m I d;have G:=p.Gy;rw[jl c?];have B:=λq C=>B q C (D.vX C) (n-1);show jf p (m:Int) (dm (λr(z:T'×Int)=>jf z.1 z.2 r) (n-1))=_;generalize dm (λr(z:T'×Int)=>jf z.1 z.2 r) (n-1)=R at B⊢;unfold jf;by_cases L:m=0;simp_all[bq];rw[show((m:Int)==0)=O from p?,bz];unfold kP.W1;refine Wp.eq ?_;refine dS (W p.l.l) (λi s=>s.2=(i:Int)/\s.1=((min (Pred.vY (p.l.l.take i)) m:Nat):Int)) ⟨Y,by simp[Pred.vY]⟩ ?_ ?_;rintro i ⟨c,_⟩ u ⟨e1,e2⟩;simp only at e1 e2;subst e1 e2;have w:=t? u;unfold kP.bh;rw[fM u,bq,bA u,ζb,fJ _ c? c?,show((m:Int)-1)=((m-1:Nat):Int)from c?,B _ w _ c? c?,ζb,a_,cm i (by have:=D.len;omega)];refine⟨Y,?_⟩;grind[V8];rintro⟨c,_⟩ ⟨e1,e2⟩;simp only at e1 e2;subst e1 e2;unfold kP.bh;rw[gp,bz,a_];grind[a_,cm]
theorem Bl{p:T'}(B:p.Sm):oU p=M (oI p):=by unfold oU qd kO kP fZ;rw[show dm (λr(z:T'×Int)=>jc z.1 z.2 r) 100000 (p,(200:Int))=_ from count_eq p B 100000 200 c? c?,ζb,ζb];unfold oI;by_cases a:p.sz<=200;rw[_c a,M' c?,_c c?,bq,show dm (λr(z:T'×Int)=>jf z.1 z.2 r) 100000 (p,(21:Int))=_ from Vx p B 100000 21 c? c?,ζb,ζb];by_cases u:p.dp<=20;rw[_c u,_c c?,bq,Si p B 100000 c?];rfl;rw[_b u,_b c?];rfl;rw[_b a,_b h?];rfl
section
variable{t:Z4}
abbrev vc(t:Trace)(p:Int):Bool:=_r (p>=0)&&_r (p<len t.a?)
def Fk(t:Z4)(p:Int)(name:U'):X':=match idx t.a? p with
 |some P=>P.g?.l.any λv=>E? v.name==E? name|none=>O
def qw(t:Z4)(q:T'):X':=if q.kind==2 then vc t q.proc&&(q.k?==0&&Fk t q.proc q.name)else if q.kind==3 then vc t q.proc&&(q.k?==0&&L5 q)else if q.kind==4 then vc t q.proc&&(vc t q.k?&&(!(q.proc==q.k?)&&L5 q))else U
theorem Oq(p:Int):lT t p=M (vc t p):=by unfold lT vc;cases _r (p>=0)<;>rfl
theorem Xh(p:Int):p_ t p=M (vc t p):=by unfold p_ vc;cases _r (p>=0)<;>rfl
theorem xO{p:Int}(h:vc t p=U):∃n:Nat,p=n/\n<W t.a?.l:=by simp only[vc,ζh]at h;have a:=_d h.1;have u:=_d h.2;exact⟨p.toNat,c?,h?⟩
theorem WO(a:Small t){p:Int}(h:vc t p=U)(name:U'):tF t p name=M (Fk t p name):=by obtain⟨n,rfl,u⟩:=xO h;unfold tF Fk;rw[bA u,ζb,Ej (p:=λz=>qm z name) (f:=λv=>E? v.name==E? name) (λv _=>rfl) (a.2 _ (t? u)).2.1];rfl
theorem HN(b:Small t){p:Int}(h:vc t p=U)(name:U'):Wp (jR t p name) λi=>(∃(n k:Nat)(P:bS)(v:Var),p=n/\t.a?.l[n]?=M P/\i=k/\P.g?.l[k]?=M v/\(E? v.name==E? name)=U/\(∀(j:Nat)(w:Var),j<k->P.g?.l[j]?=M w->(E? w.name==E? name)=O)/\Fk t p name=U)\/i=-1/\Fk t p name=O:=by
 obtain⟨n,rfl,z⟩:=xO h;have C:=ζd z;have D:=(b.2 _ (t? z)).2.1;unfold jR jR.W1;have u:Fk t (n:Int) name=t.a?.l[n].g?.l.any λv=>E? v.name==E? name:=by grind[Fk,bA]
 refine dS t.a?.l[n].g?.l.length (λi s=>s=(i:Int)/\∀(j:Nat)(w:Var),j<i->t.a?.l[n].g?.l[j]?=M w->(E? w.name==E? name)=O) ⟨Y,λj w G=>_e G c?⟩ ?_ ?_;rintro i _ a ⟨rfl,B⟩;unfold jR.bh;rw[bA z,ζb,fM a,bq,ζb,bA a,ζb];cases I:E? t.a?.l[n].g?.l[i].name==E? name with|true=>rw[bq,a_];refine(a_ _).2 (.inl ⟨n,i,_,_,Y,C,Y,ζd a,I,B,?_⟩);rw[u,K'];grind|false=>rw[bz,a_,cm i c?];grind
 rintro _ ⟨rfl,B⟩;unfold jR.bh;rw[bA z,ζb,gp,bz,a_];refine(a_ _).2 (.inr ⟨Y,?_⟩);rw[u,List.any_eq_false];grind[d6]
theorem ZM(a:Small t)(q:T'):lW q t=M (qw t q):=by
 unfold lW qw L5;rw[Oq,Oq]
 cases q.kind==2 with
 |true=>rw[bq,L' Y,ζb];cases h:vc t q.proc with|false=>rfl|true=>rw[WO a h];cases q.k?==0<;>rfl
 |false=>rw[bz,M' f?];cases q.kind==3 with|true=>rw[bq,L' Y];cases vc t q.proc<;>cases q.k?==0<;>cases(E? q.name==E? ByteArray.empty)<;>rfl|false=>rw[bz,M' f?];cases q.kind==4 with|true=>rw[bq,L' Y];cases vc t q.proc<;>cases vc t q.k?<;>cases(q.proc==q.k?)<;>cases(E? q.name==E? ByteArray.empty)<;>rfl|false=>rfl
theorem Yf(c:Small t)(q:T')(r:Z4×T'->aY X'):gu t q r=bg (qw t q) (gU.W1 0 t q r) (M O):=by
 unfold gu qw L5;rw[Xh,Xh];have a:(q.kind==2)=U->(q.kind==3)=O/\(q.kind==4)=O:=λh=>by have:q.kind=2:=(by simpa using h);rw[this];exact⟨Y,Y⟩
 have u:(q.kind==3)=U->(q.kind==4)=O:=λh=>by have:q.kind=3:=(by simpa using h);rw[this];rfl
 cases z:q.kind==2 with
 |true=>have⟨w,B⟩:=a z;rw[bq,L' Y,ζb,w,B];cases h:vc t q.proc with|false=>rfl|true=>rw[bq,ζb];cases q.k?==0 with|false=>rfl|true=>have⟨i,d,e⟩:=HN c h q.name;rw[show(!U)=O from Y,bz,d,ζb];rcases e with⟨n,k,P,v,-,-,rfl,-,-,-,b⟩|⟨rfl,b⟩;rw[b,_b (show¬((k:Nat):Int)<0 by omega)];rfl;rw[b];rfl
 |false=>rw[bz,M' f?,ζb,bz];cases w:q.kind==3 with|true=>rw[bq,L' Y,u w];cases vc t q.proc<;>cases q.k?==0<;>cases(E? q.name==E? ByteArray.empty)<;>rfl|false=>rw[bz,M' f?,ζb,bz];cases q.kind==4 with|true=>rw[bq,L' Y];cases vc t q.proc<;>cases vc t q.k?<;>cases(q.proc==q.k?)<;>cases(E? q.name==E? ByteArray.empty)<;>rfl|false=>rfl
theorem MB{f:T'->aY X'}{g:T'->X'}(h:∀q,f q=M (g q)){p:T'}(B:p.Sm)(hd:p.dp<=100000):o_ p f=M (p.gY g):=by refine Oy p B ?_ _ hd;induction p using Pred.ind with|h p w=>rw[p.l9,ζh,O?];exact⟨by rw[h];simp,λq u=>w q u (B.vX u) (by have:=Pred.rZ u;omega)⟩
theorem M3(a:Small t){p:T'}(B:p.Sm)(hd:p.dp<=100000):qi t p=M (p.gY (qw t)):=by unfold qi;rw[MB (g:=qw t) (λq=>ZM a q) B hd];rfl
theorem M7(b:Small t)(p:T')(B:p.Sm):∀n,p.dp<=n->dm (λr(z:Z4×T')=>gu z.1 z.2 r) n (t,p)=M (p.gY (qw t)):=by induction p using Pred.ind with|h p u=>intro n C;have hd:=p.vo;rw[jl c?];have u:=λq w=>u q w (B.vX w) (n-1);show gu t p (dm (λr(z:Z4×T')=>gu z.1 z.2 r) (n-1))=_;generalize dm (λr(z:Z4×T')=>gu z.1 z.2 r) (n-1)=R at u⊢;rw[Yf b,p.l9];cases qw t p with|false=>rfl|true=>rw[bq,Bool.true_and];unfold gU.W1;refine xE (g:=Pred.gY (qw t)) B.len (λi a=>?_) ?_;unfold gU.bh;rw[fM a,bq,bA a,ζb,u _ (t? a) (by have:=Pred.rZ (t? a);omega),ζb,cm i (by have:=B.len;omega)];cases Pred.gY (qw t) p.l.l[i]<;>rfl;unfold gU.bh;rw[gp];rfl
abbrev rR(k:Int):Int:=if k<=8 then 1 else 2
abbrev yE(k:Int):Int:=if k<=12 then 1 else 2
def sX(q:T'):X':=q.l.l.all λk=>rR k.kind==yE q.kind
theorem CK(k:Int):m_ k=M (rR k):=by unfold m_ rR;by_cases h:k<=8;rw[_c h,L' h];rfl;rw[_b h,M' h];rfl
theorem E_(q:T'):rF q=M (rR q.kind):=by unfold rF rR;by_cases h:q.kind<=8;rw[_c h,L' h];rfl;rw[_b h,M' h];rfl
theorem Z9(k:Int):tZ k=M (yE k):=by unfold tZ yE;by_cases h:k<=12;rw[_c h,L' h];rfl;rw[_b h,M' h];rfl
theorem YO{q:T'}(B:W q.l.l<1073741824):j_ q=M (sX q):=by unfold j_ sX;rw[CL _ B,BL (f:=λk=> !(rR k.kind==yE q.kind)) (λk _=>by unfold nM;rw[CK,Z9];rfl)];simp only[Option.map_some,ζb];congr 1;rw[Bool.eq_iff_iff];simp
theorem Ip{p:T'}(B:p.Sm)(hd:p.dp<=100000):qQ p=M (p.gY sX):=by
 unfold qQ;have:p.gY (λq=>(λz=>j_ z) q==M (sX q))=U:=by clear hd;induction p using Pred.ind with|h p w=>rw[p.l9,ζh,O?];exact⟨by show(j_ p==M (sX p))=U;rw[YO B.len];simp,λq u=>w q u (B.vX u)⟩
 unfold o_;rw[Oy p B this _ hd];rfl
theorem It(p:T')(G:p.Sm):p.gY fB=U->∀n,p.dp<=n->dm (λr(z:T')=>jS z r) n p=M (p.gY sX):=by induction p using Pred.ind with|h p D=>intro I n Q;have hd:=p.vo;rw[p.l9,ζh,O?]at I;rw[jl c?];have D:=λq d=>D q d (G.vX d) (I.2 q d) (n-1);show jS p (dm (λr(z:T')=>jS z r) (n-1))=_;generalize dm (λr(z:T')=>jS z r) (n-1)=R at D⊢;(unfold jS gP.W1;have u:p.l.l≠[]->yE p.kind=if p.kind>=15 then 2 else 1:=λB=>by have⟨k1,k2,k3⟩:=za I.1;by_cases h:p.kind=13\/p.kind=14;have j:b_.at xA p.kind=M 0:=(by rcases h with h|h<;>(rw[h];rfl));rw[j]at k3;have:W p.l.l=0:=(by simpa[len]using(Option.some.inj k3).symm);exact _e (List.length_eq_zero_iff.1 this) B;unfold yE;split<;>split<;>omega);have C:p.gY sX=p.l.l.all λk=>(rR k.kind==yE p.kind)&&Pred.gY sX k:=(by rw[p.l9];unfold sX;rw[Bool.eq_iff_iff];simp only[ζh,O?];exact⟨λh k a=>⟨h.1 k a,h.2 k a⟩,λh=>⟨λk a=>(h k a).1,λk a=>(h k a).2⟩⟩);rw[C];refine xE (g:=λk=>(rR k.kind==yE p.kind)&&Pred.gY sX k) G.len (λi b=>?_) ?_;have B:p.l.l≠[]:=λh=>(by rw[h]at b;simp at b);have L:∀w:Int,gP.J2 (i:Int) w p R=M (if(rR p.l.l[i].kind==w)&&Pred.gY sX p.l.l[i]then .n ((i+1:Nat):Int)else .r ()):=λw=>(by unfold gP.J2;rw[bA b,ζb,E_,ζb,ζb,D _ (t? b) (by have:=Pred.rZ (t? b);omega),cm i (by have:=G.len;omega)];cases(rR p.l.l[i].kind==w)<;>cases Pred.gY sX p.l.l[i]<;>rfl);unfold gP.bh;rw[fM b,bq,L,L,u B];by_cases h:p.kind>=15;rw[_c h,L' h];rfl;rw[_b h,M' h];rfl;unfold gP.bh;rw[gp];rfl
def vL(q:T'):X':=_r (q.kind>=18)&&_r (q.kind<=21)
theorem Mh{p:T'}(B:p.Sm):qq p=M (oI p&& !p.gY λq=> !vL q):=by unfold qq;rw[BR B,ζb];cases u:oI p with|false=>rfl|true=>have hd:p.dp<=20:=(by simp only[oI,ζh]at u;exact _d u.2.1);rw[bq,MB (g:=λq=> !vL q) (λq=>by unfold nQ tN vL;cases _r (q.kind>=18)<;>rfl) B c?];rfl
theorem MF(p:T')(B:p.Sm):∀n,p.dp<=n->dm (λr(z:T')=>iq z r) n p=M (!p.gY λq=> !vL q):=by induction p using Pred.ind with|h p u=>intro n G;have hd:=p.vo;rw[jl c?];have u:=λq C=>u q C (B.vX C) (n-1);show iq p (dm (λr(z:T')=>iq z r) (n-1))=_;generalize dm (λr(z:T')=>iq z r) (n-1)=R at u⊢;unfold iq;rw[show(bg (_r (p.kind>=18)) (M (_r (p.kind<=21))) (M O):aY X')=M (vL p)from by unfold vL;cases _r (p.kind>=18)<;>rfl,ζb,p.l9];cases vL p with|true=>rfl|false=>rw[bz];unfold fU.W1;have key:H (bG (λq:Int=>fU.bh p q R) 0) (Fw.elim (λ_=>M U) (λ_=>M O))=M (p.l.l.all (Pred.gY λq=> !vL q)):=(by refine xE (g:=Pred.gY λq=> !vL q) B.len (λi a=>?_) ?_;unfold fU.bh;rw[fM a,bq,bA a,ζb,u _ (t? a) (by have:=Pred.rZ (t? a);omega),ζb,cm i (by have:=B.len;omega)];cases Pred.gY (λq=> !vL q) p.l.l[i]<;>rfl;unfold fU.bh;rw[gp];rfl);cases D:bG (λq:Int=>fU.bh p q R) 0 with|none=>rw[D]at key;cases key|some w=>rw[D]at key;cases w with|n s=>exact c! s|x e=>simp only[ζb,Fw.elim,ζa]at key⊢;rw[<-key];rfl|r e=>simp only[ζb,Fw.elim,ζa]at key⊢;rw[<-key];rfl
theorem K3{p:T'}(B:p.Sm):rX p=M (oI p&& !p.gY λq=> !vL q):=by unfold rX fU;rw[Bl B,ζb];cases u:oI p with|false=>rfl|true=>have hd:p.dp<=20:=(by simp only[oI,ζh]at u;exact _d u.2.1);rw[bq,MF p B 100000 c?];rfl
end
theorem xm.of{t:Z4}(B:Ok t){p:Nat}{P:bS}(D:t.a?.l[p]?=M P):xm P:=by
 intro e C a G;have⟨k,c⟩:=d6.1 C;have⟨i,b⟩:=d6.1 G;have h:=B.f_ p k P e D c;unfold qg at h;have w:i<W e.assign.l:=by apply I?;intro d;rw[List.getElem?_eq_none c?]at b;cases b
 have I:oQ (nJ P e) 0 (W e.assign.l)=0:=by split at h;split at h;cases h;split at h;cases h;exact h;cases h
 have u:=(Ji (g:=nJ P e) (n:=W e.assign.l) (m:=W e.assign.l) (k:=0) c?).1 I i (R? _) w;unfold nJ at u;rw[b]at u;dsimp only at u;by_cases z:(_r (0<=a.var)&&_r (a.var<W P.g?.l))=U;simpa using z;rw[Bool.not_eq_true]at z;rw[z]at u;simp only[Qp]at u;cases u
theorem ac3{t:Z4}{A:b_ 200 bu}(b:Small t)(f:cw t=M U)(e:VT t)(g:eG t (bJ t) A){c:Zg}(d:Cons t A c.l):
 Wp (jO t c) λr=>r.2=0/\r.1.l.length=W t.a?.l/\∀(p:Nat)(P:bS)(a:Int),t.a?.l[p]?=M P->c.l[p]?=M a->∃x,r.1.l[p]?=M x/\x.l=iT P a.toNat:=by
 have I:=d.1.1;unfold jO;rw[dZ];refine(ND b f e g c).mono λr i=>?_
 rw[i.zero.2 d,show((0:Int)==0)=U from Y,bq];unfold jO.W1;refine dS (W c.l) (λn s=>s.2=(n:Int)/\s.1.l.length=n/\∀(p:Nat)(P:bS)(a:Int),p<n->t.a?.l[p]?=M P->c.l[p]?=M a->∃x,s.1.l[p]?=M x/\x.l=iT P a.toNat) ⟨Y,Y,λp P a h=>_e h c?⟩ ?_ ?_
 .rintro n ⟨o,_⟩ u ⟨e1,e2,e3⟩;simp only at e1 e2 e3;subst e1;have m:n<W t.a?.l:=by omega
  have w:=b.2 _ (t? m);have D:=ζd m;have C:=ζd u;have⟨a0,a1⟩:=d.1.2 n _ _ C D;have T:=xm.of e.ok D;have⟨x,S,L⟩:=Wa T w.2.1 w.1 w.2.2.2.2 (k:=c.l[n].toNat) c?
  rw[show((c.l[n].toNat:Nat):Int)=c.l[n]from c?]at S
  have j:=b.1;unfold jO.bh;rw[fM u,bq,bA u,ζb,bA m,ζb,S,ζb];have G:d_ o (x:Zg)=M (.row (o.l++[x])):=by unfold d_;rw[L' c?]
  rw[G,ζb,a_,cm n c?]
  refine⟨Y,by simp[Sl.l];exact e2,λp P a h z B=>?_⟩
  show∃y,(o.l++[x])[p]?=M y/\_
  by_cases F:p=n
  .subst F;rw[D]at z;rw[C]at B;cases z;cases B;exact⟨x,by rw[List.getElem?_append_right c?];simp[e2],L⟩
  have⟨y,q,Q⟩:=e3 p P a c? z B
  exact⟨y,by rw[List.getElem?_append_left c?];exact q,Q⟩
 rintro⟨o,_⟩ ⟨e1,e2,e3⟩;simp only at e1 e2 e3;subst e1;unfold jO.bh;rw[show _r ((W c.l:Int)<len c)=O from gp,bz,a_];refine(a_ _).2 ⟨Y,by rw[e2,I],λp P a D C=>e3 p P a ?_ D C⟩
 apply I?;intro X;rw[List.getElem?_eq_none c?]at C;cases C
section
variable{P:T'}{t:Z4}
end
def rj(l:SW)(m:Int):Prop:=m∈l/\∀x∈l,m<=x
def isMax(l:SW)(m:Int):Prop:=m∈l/\∀x∈l,x<=m
theorem rj.one{l:SW}{a b:Int}(h:rj l a)(g:rj l b):a=b:=by have:=h.2 b g.1;have:=g.2 a h.1;omega
theorem isMax.one{l:SW}{a b:Int}(h:isMax l a)(g:isMax l b):a=b:=by have:=h.2 b g.1;have:=g.2 a h.1;omega
theorem rj.snoc{l:SW}{a x:Int}(h:rj l a):rj (l++[x]) (if x<a then x else a):=by have⟨b,w⟩:=h;split;refine⟨f?,λy u=>?_⟩;grind;refine⟨e! _ b,λy u=>?_⟩;grind
theorem isMax.snoc{l:SW}{a x:Int}(h:isMax l a):isMax (l++[x]) (if x>a then x else a):=by have⟨b,w⟩:=h;split;refine⟨f?,λy u=>?_⟩;grind;refine⟨e! _ b,λy u=>?_⟩;grind
theorem Sh{s:Zg}(h:0<W s.l)(B:W s.l<1073741824):Wp (dA s) λm=>rj s.l m:=by
 unfold dA dA.J1 dA.W2;rw[_b (show¬len s<1 by grind),bz,show idx s 0=M s.l[0]from bA (i:=0) h,ζb];refine dS (W s.l-1) (λn q=>q.2=((n+1:Nat):Int)/\rj (s.l.take (n+1)) q.1) ⟨Y,?_⟩ ?_ ?_;rw[P?,ζd h];exact⟨f?,λx z=>h?⟩;rintro n ⟨m,_⟩ C ⟨rfl,w⟩;have u:n+1<W s.l:=by omega
 unfold dA.bF;rw[fM u,bq,bA u,ζb,a_,cm _ c?];refine⟨Y,?_⟩;rw[P?,ζd u];exact w.snoc;rintro⟨m,_⟩ ⟨rfl,w⟩;unfold dA.bF;rw[show W s.l-1+1=W s.l from c?,gp,bz,a_];rw[show W s.l-1+1=W s.l from c?,M?]at w;exact(a_ _).2 w
theorem Se{s:Zg}(h:0<W s.l)(B:W s.l<1073741824):Wp (fE s) λm=>isMax s.l m:=by
 unfold fE fE.J1 fE.W2;rw[_b (show¬len s<1 by grind),bz,show idx s 0=M s.l[0]from bA (i:=0) h,ζb];refine dS (W s.l-1) (λn q=>q.2=((n+1:Nat):Int)/\isMax (s.l.take (n+1)) q.1) ⟨Y,?_⟩ ?_ ?_;rw[P?,ζd h];exact⟨f?,λx z=>h?⟩;rintro n ⟨m,_⟩ C ⟨rfl,w⟩;have u:n+1<W s.l:=by omega
 unfold fE.bF;rw[fM u,bq,bA u,ζb,a_,cm _ c?];refine⟨Y,?_⟩;rw[P?,ζd u];exact w.snoc;rintro⟨m,_⟩ ⟨rfl,w⟩;unfold fE.bF;rw[show W s.l-1+1=W s.l from c?,gp,bz,a_];rw[show W s.l-1+1=W s.l from c?,M?]at w;exact(a_ _).2 w
theorem Og{s:Zg}{a b:Int}(h:0<W s.l)(B:W s.l<1073741824)(D:rj s.l a)(G:isMax s.l b):nr s=M ⟨a,b⟩:=by have⟨m,c,u⟩:=Sh h B;have⟨n,g1,g2⟩:=Se h B;unfold nr;rw[c,ζb,g1,ζb,u.one D,g2.one G]
theorem adw(n:Int):nr (Sl.row [n]:Zg)=M ⟨n,n⟩:=Og (by simp[Sl.l]) (by simp[Sl.l]) ⟨by simp[Sl.l],λx u=>by simp[Sl.l]at u;omega⟩ ⟨by simp[Sl.l],λx u=>by simp[Sl.l]at u;omega⟩
theorem adF(a b c d:Int):nr (Sl.row [a,b,c,d]:Zg)=M ⟨if(if d<c then d else c)<(if b<a then b else a)then(if d<c then d else c)else(if b<a then b else a),if(if d>c then d else c)>(if b>a then b else a)then(if d>c then d else c)else(if b>a then b else a)⟩:=by refine Og (by simp[Sl.l]) (by simp[Sl.l]) ⟨?_,λx u=>?_⟩ ⟨?_,λx u=>?_⟩;show _∈[a,b,c,d];grind;have u:x∈[a,b,c,d]:=u;grind;show _∈[a,b,c,d];grind;have u:x∈[a,b,c,d]:=u;grind
theorem PR(a b:Int):kX a b=cR a b:=by unfold kX cR cR.J1 vn;by_cases z:a=0;subst z;rw[show(0:Int)*b=0 from c?];rfl;have u:(a==0)=O:=h?;by_cases B:b=0;subst B;rw[u,show a*(0:Int)=0 from c?];rfl;have w:(b==0)=O:=h?;rw[u,w];rfl
def nR(az:aX Assign)(v:Int):PH:=(az.find? λa=>a.var==v).map Assign.value
def F8(az:aX Assign):Prop:=∀(i j:Nat)a b,i<j->az[i]?=M a->az[j]?=M b->a.var≠b.var
theorem F8.tail{a:Assign}{r:aX Assign}(h:F8 (a::r)):F8 r:=λi j x y u w z=>h (i+1) (j+1) x y c? h? h?
theorem F8.head{a:Assign}{r:aX Assign}(h:F8 (a::r)):∀b∈r,a.var≠b.var:=λb u=>by have⟨j,w⟩:=d6.1 u;exact h 0 (j+1) a b c? f? h?
theorem Ld:∀(az:aX Assign)(l:SW)(k:Nat),F8 az->(∀a∈az,0<=a.var)->k<W l->(BH l az)[k]?=M ((nR az k).getD (l[k]?.getD 0))
 |[],l,k,_,_,hk=>by simp[BH,nR,ζd hk]|a::r,l,k,hd,B,hk=>by show(BH (l.set a.var.toNat a.value) r)[k]?=_;have D:=B a f?;rw[Ld r _ k hd.tail (λb u=>B b (B? _ u)) h?];congr 1;by_cases w:a.var=(k:Int);have c:nR r k=J:=(by unfold nR;rw[Option.map_eq_none_iff,K!];intro b u;have:=hd.head b u;simp;omega);rw[c];unfold nR;grind;have c:nR (a::r) k=nR r k:=(by unfold nR;grind);grind
def nV(P:bS)(v k:Nat):Int:=((iT P k)[v]?).getD 0
structure TI(P:bS):Prop where
 ok:xm P
 dst:∀e∈P.b?.l,F8 e.assign.l
theorem Jo{P:bS}{v:Nat}(k:Nat)(a:v<W P.g?.l):(iT P k)[v]?=M (nV P v k):=by unfold nV;rw[ζd (by rw[qT];omega)];rfl
theorem I9{P:bS}(B:TI P){v k:Nat}(c:v<W P.g?.l){e:WF}(D:P.b?.l[k]?=M e):nV P v (k+1)=(nR e.assign.l v).getD (nV P v k):=by
 have u:=s? D;have b:iT P (k+1)=BH (iT P k) e.assign.l:=by show(match P.b?.l[k]?with|some e=>BH (iT P k) e.assign.l|none=>iT P k)=_;rw[D]
 unfold nV;rw[b,Ld _ _ _ (B.dst e u) (λa w=>(B.ok e u a w).1) (by rw[qT];omega)];rfl
theorem TI.of{t:Z4}(D:Ok t){p:Nat}{P:bS}(G:t.a?.l[p]?=M P):TI P:=by
 refine⟨xm.of D G,λe I i j a b w d C z=>?_⟩;have⟨k,c⟩:=d6.1 I;have h:=D.f_ p k P e G c;unfold qg at h;have B:j<W e.assign.l:=(ζe.1 C).1;have L:oQ (nJ P e) 0 (W e.assign.l)=0:=by grind
 have u:=(Ji (g:=nJ P e) (n:=W e.assign.l) (m:=W e.assign.l) (k:=0) c?).1 L j (R? _) B;unfold nJ at u;rw[C]at u;dsimp only at u;have o:jT (fO e.assign.l λx=>x.var==b.var) 0 j=U:=by rw[KP];exact⟨i,R? _,w,by simp[fO,d,z]⟩
 rw[o]at u;revert u;cases(_r (0<=b.var)&&_r (b.var<W P.g?.l))<;>cases(_r (b.value>=-1073741824)&&_r (b.value<=1073741824))<;>simp[Qp]
abbrev r_(P:bS)(v n:Nat):aX Int:=(w! (n+1)).map (nV P v)
theorem Qn(P:bS)(v n:Nat):r_ P v (n+1)=r_ P v n++[nV P v (n+1)]:=by unfold r_;rw[a8,v!];rfl
theorem II{P:bS}{v n k:Nat}(h:k<=n):nV P v k∈r_ P v n:=List.mem_map.2 ⟨k,List.mem_range.2 c?,Y⟩
theorem rj.old{l:SW}{a x:Int}(h:rj l a)(B:x∈l):rj (l++[x]) a:=
 ⟨e! _ h.1,λy b=>by
  rcases List.mem_append.1 b with b|b
  .exact h.2 y b
  simp at b;subst b;exact h.2 _ B⟩
theorem isMax.old{l:SW}{a x:Int}(h:isMax l a)(B:x∈l):isMax (l++[x]) a:=
 ⟨e! _ h.1,λy b=>by
  rcases List.mem_append.1 b with b|b
  .exact h.2 y b
  simp at b;subst b;exact h.2 _ B⟩
section
variable{P:bS}{v:Nat}
theorem TU(D:xm P)(b:W P.g?.l<1073741824)(T:W P.b?.l<1073741823)(G:∀e∈P.b?.l,W e.assign.l<1073741824)(B:v<W P.g?.l):
 Wp (gR P v) λs=>s.l=r_ P v (W P.b?.l):=by
 have⟨r,c,C,I⟩:=Jz D b c? G
 have key:∀(a:aX (Int×Zg))(i:Nat)(q:Zg),r.drop i=a->i<=W r->q.l=(w! i).map (nV P v)->∃s,H (mm (λ(x:Int×(Zg))(q:Zg)=>gR.lq P v x q) a q) (Fw.tg (λq=>M q) (λe=>c! e) (λe=>c! e))=M s/\s.l=(w! (W r)).map (nV P v):=by intro a;induction a with|nil=>intro i q hd d z;have:W r<=i:=(by simpa using hd);exact⟨q,rfl,by rw[z,show i=W r from c?]⟩|cons y a g=>intro i q hd _ z;have u:i<W r:=(by apply I?;intro S;rw[List.drop_eq_nil_of_le c?]at hd;cases hd);have e2:=List.drop_eq_getElem_cons u;rw[e2]at hd;simp only[List.cons.injEq]at hd;have⟨h,L⟩:=I i y (by rw[ζd u,hd.1]);have j:idx y.2 (v:Int)=M (nV P v i):=(by rw[gm,L];exact Jo i B);have Q:W q.l=i:=(by rw[z];simp);have w:d_ q (nV P v i)=M (.row (q.l++[nV P v i])):=(by unfold d_;rw[L' c?]);have⟨s,g1,g2⟩:=g (i+1) (.row (q.l++[nV P v i])) hd.2 c? (by show q.l++[nV P v i]=_;rw[z,a8,v!];rfl);refine⟨s,?_,g2⟩;simp only[mm,gR.lq,j,w,ζb];exact g1
 have⟨s,g1,g2⟩:=key r 0 .nil Y (R? _) Y;refine⟨s,?_,by show s.l=_;rw[g2,C]⟩
 unfold gR pE gR.E1;simp only[ζb,c];exact g1
theorem KC{α:Type}{f:α->X'}{l:aX α}{k:Nat}{x:α}(b:l[k]?=M x)(B:f x=U)(D:∀(j:Nat)(y:α),j<k->l[j]?=M y->f y=O):place f l=k:=by unfold place;have a:=(ζe.1 b);have⟨a,u⟩:=a;rw[show l.findIdx? f=M k from by rw[List.findIdx?_eq_some_iff_getElem];exact⟨a,by rw[u];exact B,λj w=>by rw[D j _ w (ζd c?)];simp⟩]
theorem Tt{t:Z4}(d:Small t)(e:cw t=M U)(h:Ok t){n:Nat}(D:t.a?.l[n]?=M P){name:U'}{x:Var}(c:P.g?.l[v]?=M x)(T:(E? x.name==E? name)=U)
 (i:∀(j:Nat)(w:Var),j<v->P.g?.l[j]?=M w->(E? w.name==E? name)=O):
 Wp (tB t n name) λr=>r.2.2=0/\rj (r_ P v (W P.b?.l)) r.1/\isMax (r_ P v (W P.b?.l)) r.2.1:=by
 have m:n<W t.a?.l:=(ζe.1 D).1;have Q:=s? D;have u:=d.2 P Q;have C:v<W P.g?.l:=(ζe.1 c).1;have I:W P.b?.l<=64:=by have:=h.heads n m;unfold tI at this;rw[D]at this;dsimp only at this;split at this;split at this;cases this;split at this;split at this;cases this;omega;rename_i G;exact _e this G;cases this
 have⟨s,g1,g2⟩:=TU (xm.of h D) u.2.1 c? u.2.2.2.2 C
 have g:W s.l=W P.b?.l+1:=by rw[g2];simp[r_]
 have⟨a,a1,a2⟩:=Sh (s:=s) c? c?
 have⟨b,S,L⟩:=Se (s:=s) c? c?
 have B:uj t n name=M ((v:Int),0):=by unfold uj;rw[e,ζb,bq,_b (show¬(n:Int)<0 by omega),bz,ζb,_b (show¬(n:Int)>=len t.a? by simp only[len];omega),bz,gm,D,ζb];unfold wo;rw[EU (p:=λz=>qj z name) (f:=λw=>E? w.name==E? name) (λ_ _=>rfl) u.2.1,KC c T i,ζb,ζb,_b (show¬((v:Nat):Int)<0 by omega)];rfl
 unfold tB;rw[B,ζb];simp only;rw[show((0:Int)==0)=U from Y,bq,gm,D,ζb,g1,ζb,a1,ζb,S,ζb,a_];rw[g2]at a2 L;exact⟨Y,a2,L⟩
def gD(o:PH)(b a:Int):Int×Int:=match o with
 |none=>(b,a)|some x=>(if x<b then x else b,if x>a then x else a)
theorem Iz{az:aX Assign}(hd:F8 az){j:Nat}(B:j<W az):nR (az.take (j+1)) v=if az[j].var=(v:Int)then M az[j].value else nR (az.take j) v:=by
 unfold nR;rw[P?,ζd B];show((az.take j++[az[j]]).find? _).map _=_;rw[List.find?_append];by_cases h:az[j].var=(v:Int);rw[L' h];have:(az.take j).find? (λa=>a.var==(v:Int))=J:=by rw[K!];intro b w;have⟨i,c⟩:=d6.1 w;have u:i<j:=(by have:=(ζe.1 c).1;rw[n!]at this;omega);rw[List.getElem?_take_of_lt u]at c;have:=hd i j b az[j] u c (ζd B);simp;omega
 rw[this,List.find?_cons_of_pos (by simpa using h)];rfl;rw[M' h,List.find?_cons_of_neg (by simpa using h)];simp
theorem R5{az:aX Assign}(hd:F8 az){j:Nat}(B:j<W az)(h:az[j].var=(v:Int)):nR (az.take j) v=J:=by
 unfold nR;rw[Option.map_eq_none_iff,K!];intro b w;have⟨i,a⟩:=d6.1 w;have u:i<j:=by have:=(ζe.1 a).1;rw[n!]at this;omega
 rw[List.getElem?_take_of_lt u]at a;have:=hd i j b az[j] u a (ζd B);simp;omega
theorem Sk{t:Z4}(d:Small t)(h:Ok t){n:Nat}(g:t.a?.l[n]?=M P)(B:v<W P.g?.l):
 Wp (fW t n v) λr=>rj (r_ P v (W P.b?.l)) r.1/\isMax (r_ P v (W P.b?.l)) r.2:=by
 have o:=s? g;have L:=d.2 P o;have Q:=TI.of h g;have C:idx t.a? (n:Int)=M P:=by rw[gm];exact g
 unfold fW;rw[C,ζb,bA B,ζb];unfold fW.W1;have S:r_ P v 0=[P.g?.l[v].init_]:=by simp[r_,nV,iT,ζd B]
 refine dS (W P.b?.l) (λi s=>s.2.2=(i:Int)/\rj (r_ P v i) s.1/\isMax (r_ P v i) s.2.1) ⟨Y,by rw[S];exact⟨f?,λx C=>by simp at C;show P.g?.l[v].init_<=x;omega⟩,by rw[S];exact⟨f?,λx C=>by simp at C;show x<=P.g?.l[v].init_;omega⟩⟩ ?_ ?_
 .rintro i ⟨c,b,_⟩ hi ⟨rfl,w,z⟩;simp only at w z;have D:=t? hi;have hd:=Q.dst _ D;have X:=L.2.2.2.2 _ D;have u:=I9 Q B (ζd hi);unfold fW.bh;rw[C,ζb,fM hi,bq,ζb,bA hi,ζb];generalize P.b?.l[i]=e at *;unfold fW.W2;refine dS (W e.assign.l) (λj s=>s.2.2=(j:Int)/\(s.1,s.2.1)=gD (nR (e.assign.l.take j) v) c b) ⟨Y,by simp[nR,gD]⟩ ?_ ?_
  .rintro j ⟨f,m,_⟩ G ⟨rfl,a⟩;unfold fW.bF;rw[fM G,bq,bA G,ζb]
   by_cases I:e.assign.l[j].var=(v:Int)
   .rw[show(e.assign.l[j].var==(v:Int))=U from by simpa using I,bq,ζb,ζb,a_,cm j c?]
    rw[R5 hd G I]at a;simp only[gD,ζc]at a;obtain⟨rfl,rfl⟩:=a;refine⟨Y,?_⟩;rw[Iz hd G,L' I];rfl
   rw[show(e.assign.l[j].var==(v:Int))=O from by simpa using I,bz,a_,cm j c?]
   refine⟨Y,?_⟩;rw[Iz hd G,M' I];exact a
  rintro⟨f,m,_⟩ ⟨rfl,a⟩;unfold fW.bF;rw[gp,bz,a_];simp only;rw[a_,cm i c?]
  rw[M?]at a;refine⟨Y,?_⟩;simp only;rw[Qn]
  cases T:nR e.assign.l v with
  |none=>rw[T]at a u;simp only[gD,ζc]at a;obtain⟨rfl,rfl⟩:=a;rw[show nV P v (i+1)=nV P v i from u];exact⟨w.old (II (y? _)),z.old (II (y? _))⟩|some x=>rw[T]at a u;simp only[gD,ζc]at a;obtain⟨rfl,rfl⟩:=a;rw[show nV P v (i+1)=x from u];exact⟨w.snoc,z.snoc⟩
 rintro⟨c,b,_⟩ ⟨rfl,w,z⟩;unfold fW.bh;rw[C,ζb,gp,bz,a_];exact(a_ _).2 ⟨w,z⟩
end
section
variable{t:Z4}{A:b_ 200 bu}
theorem Nj(a:Small t){p:Nat}{P:bS}(D:t.a?.l[p]?=M P)(q:Nat):fK t p q=M ((P.b?.l.countP (eo q):Nat):Int):=by
 have G:P∈t.a?.l:=s? D;have I:=(a.2 P G).1;refine Wp.eq ?_;unfold fK;rw[gm,D,ζb];unfold fK.W1;refine dS (W P.b?.l) (λn s=>s.2=(n:Int)/\s.1=(((P.b?.l.take n).countP (eo q):Nat):Int)) ⟨Y,Y⟩ ?_ ?_;rintro n ⟨o,_⟩ w ⟨e1,e2⟩;simp only at e1 e2;subst e1 e2;have z:=List.countP_le_length (p:=eo q) (l:=P.b?.l.take n);rw[n!]at z;have u:(P.b?.l.take (n+1)).countP (eo q)=(P.b?.l.take n).countP (eo q)+if eo q P.b?.l[n]then 1 else 0:=by rw[P?,ζd w,i7];show _+countP _ [P.b?.l[n]]=_;rw[I!,E'];simp
 unfold fK.bh;rw[fM w,bq,bA w,ζb];generalize P.b?.l[n]=e at u;have B:(bg (e.kind==2) (M (e.k?==(q:Int))) (M O):aY X')=M (eo q e):=by unfold eo;cases e.kind==2<;>cases e.k?==(q:Int)<;>rfl
 rw[B,ζb,cm n c?];cases C:eo q e with|true=>rw[C]at u;rw[bq,a_,cm _ c?];exact⟨rfl,by simp only[u];rfl⟩|false=>rw[C]at u;rw[bz,a_];exact⟨Y,by simp only[u];rfl⟩
 rintro⟨o,_⟩ ⟨e1,e2⟩;simp only at e1 e2;subst e1 e2;unfold fK.bh;rw[gp,bz,a_];exact(a_ _).2 (by rw[M?])
theorem QY{α:Type}{f:α->X'}{l:aX α}{n:Nat}(h:n<W l):(l.take (n+1)).countP f=(l.take n).countP f+if f l[n]then 1 else 0:=by rw[P?,ζd h,i7];show _+countP _ [l[n]]=_;rw[I!,E'];simp
end
section
variable{t:Z4}
theorem Y8(a:Small t){p:Nat}{P:bS}(D:t.a?.l[p]?=M P)(q:Int):jM t p q=M ((P.b?.l.countP (eo q):Nat):Int):=by
 have I:P∈t.a?.l:=s? D;have d:=(a.2 P I).1;have C:idx t.a? (p:Int)=M P:=by rw[gm];exact D
 refine Wp.eq ?_;unfold jM jM.W1;refine dS (W P.b?.l) (λn s=>s.2=(n:Int)/\s.1=(((P.b?.l.take n).countP (eo q):Nat):Int)) ⟨Y,Y⟩ ?_ ?_;rintro n ⟨o,_⟩ w ⟨e1,e2⟩;simp only at e1 e2;subst e1 e2;have z:=List.countP_le_length (p:=eo q) (l:=P.b?.l.take n);rw[n!]at z;have u:=QY (f:=eo q) w;unfold jM.bh;rw[C,ζb,fM w,bq,ζb,bA w,ζb];generalize P.b?.l[n]=e at u;have B:(bg (e.kind==2) (M (e.k?==q)) (M O):aY X')=M (eo q e):=by unfold eo;cases e.kind==2<;>cases e.k?==q<;>rfl
 rw[B,ζb,cm n c?];cases G:eo q e with|true=>rw[G]at u;rw[bq,a_,cm _ c?];exact⟨rfl,by simp only[u];rfl⟩|false=>rw[G]at u;rw[bz,a_];exact⟨Y,by simp only[u];rfl⟩
 rintro⟨o,_⟩ ⟨e1,e2⟩;simp only at e1 e2;subst e1 e2;unfold jM.bh;rw[C,ζb,gp,bz,a_];exact(a_ _).2 (by rw[M?])
def Cc(b a:Int):X':=_r (b>=-1125899906842624)&&_r (a<=1125899906842624)
structure Ii(low high:Int):Prop where
 le:low<=high
 lo:-1125899906842624<=low
 hi:high<=1125899906842624
theorem Gk(b a:Int)(r:Z4×T'->aY (Int×Int×X')):bR.J3 b a r=M (b,a,Cc b a):=by unfold bR.J3 Cc;cases _r (b>=-1125899906842624)<;>rfl
theorem Me(b a:Int):j9 ⟨b,a⟩=M (!Cc b a):=by
 unfold j9 Cc;have c:_r (b< -1125899906842624)= !_r (b>=-1125899906842624):=by rw[Bool.eq_iff_iff];simp
 have u:_r (a>1125899906842624)= !_r (a<=1125899906842624):=by rw[Bool.eq_iff_iff];simp
 simp only;rw[c,u];cases _r (b>=-1125899906842624)<;>cases _r (a<=1125899906842624)<;>rfl
theorem Ii.of{b a:Int}(h:b<=a)(g:Cc b a=U):Ii b a:=by simp only[Cc,ζh]at g;have:=_d g.1;have:=_d g.2;exact⟨h,c?,c?⟩
theorem Br(a b c d:Int)(p:T')(r:Z4×T'->aY (Int×Int×X')):bR.J2 a b c d U U t p r=(bg (p.kind==1) (bR.J3 p.n p.n r) (bg (p.kind==2) (H (jR t p.proc p.name) λf=>H (fW t p.proc f) λe=>bR.J3 e.1 e.2 r) (bg (p.kind==3) (H (idx t.a? p.proc) λg=>bR.J3 0 (len g.b?) r) (bg (p.kind==4) (H (jM t p.proc p.k?) λh=>bR.J3 0 h r) (bg (p.kind==5) (bR.J3 (w? N (0-b)) (w? N (0-a)) r) (bg (p.kind==6) (bR.J3 (w? N (a+c)) (w? N (b+d)) r) (bg (p.kind==7) (bR.J3 (w? N (a-d)) (w? N (b-c)) r) (H (cR a c) λB=>H (cR a d) λD=>H (cR b c) λG=>H (cR b d) λi=>H (cR a c) λT=>H (cR a d) λj=>H (cR b c) λo=>H (cR b d) λm=>bR.J3 (if(if i<G then i else G)<(if D<B then D else B)then(if i<G then i else G)else(if D<B then D else B)) (if(if m>o then m else o)>(if j>T then j else T)then(if m>o then m else o)else(if j>T then j else T)) r))))))):aY (Int×Int×X')):=rfl
theorem Xw{a b c d:Int}{ok B:X'}(h:(ok&&B)=O)(p:T')(r:Z4×T'->aY (Int×Int×X')):bR.J2 a b c d ok B t p r=M (0,0,O):=by unfold bR.J2;cases ok<;>cases B<;>first|rfl|cases h
theorem zS{a b:Int}(B:-1125899906842624<=a/\a<=1125899906842624)(D:-1125899906842624<=b/\b<=1125899906842624):∃x,cR a b=M x:=by
 unfold cR cR.J1;by_cases u:a=0;subst u;exact⟨_,Y⟩;rw[show(a==0)=O from by simpa using u,bz,ζb];by_cases c:b=0;subst c;exact⟨_,Y⟩;rw[show(b==0)=O from by simpa using c,show(!O)=U from Y,bq,fJ (0-b) c? c?];have:∀k m:Int,m≠0->∃x,BK N k m=M x:=λk m w=>by unfold BK;rw[M' w];exact⟨_,Y⟩
 have⟨x,z⟩:=this 1125899906842624 (if 0-b>b then 0-b else b) (by split<;>omega);rw[z,ζb];cases _r ((if w? N (0-a)>a then w? N (0-a)else a)>x)<;>cases(_r (a<0)==_r (b<0))<;>exact⟨_,Y⟩
theorem SR(g:Small t)(j:cw t=M U)(G:Ok t){q:T'}(T:fB q=U)(d:qw t q=U)(x:q.kind<=4):
 ∃f c,nu t q=M ⟨f,c⟩/\f<=c/\∀r,bR.J2 0 0 0 0 U U t q r=bR.J3 f c r:=by
 obtain⟨k1,-,-⟩:=za T;rcases(show q.kind=1\/q.kind=2\/q.kind=3\/q.kind=4 by omega)with h|h|h|h
 .refine⟨q.n,q.n,?_,Int.le_refl _,λr=>?_⟩
  .unfold nu;rw[show(q.kind==1)=U from by simpa using h,bq,adw];rfl
  rw[Br,show(q.kind==1)=U from by simpa using h,bq]
 .unfold qw at d;rw[L' (by simpa using h)]at d
  simp only[ζh]at d;obtain⟨X,-,w⟩:=d;have⟨i,l,o⟩:=HN g (p:=q.proc) (by simp only[ζh];exact X) q.name
  rcases o with⟨n,k,P,v,u,z,rfl,B,s,Q,-⟩|⟨-,C⟩
  .have⟨⟨f,c,e⟩,g1,g2,g3,g4⟩:=Tt g j G z (name:=q.name) B s Q;simp only at g2 g3 g4;subst g2;have⟨⟨a,b⟩,S,I,y⟩:=Sk g G z (v:=k) (ζe.1 B).1;simp only at I y;obtain rfl:=g3.one I;obtain rfl:=g4.one y;refine⟨f,c,?_,g4.2 _ g3.1,λr=>?_⟩
   .unfold nu;rw[h,show((2:Int)==1)=O from Y,bz,show((2:Int)==3)=O from Y,bz,show((2:Int)==4)=O from Y,bz,u,g1];rfl
   rw[Br,h,show((2:Int)==1)=O from Y,bz,show((2:Int)==2)=U from Y,bq,l,ζb,u,S,ζb]
  rw[C]at w;cases w
 .unfold qw at d;rw[M' (by simp[h]),L' (by simpa using h)]at d
  simp only[ζh]at d;have⟨n,u,D⟩:=xO (t:=t) (p:=q.proc) (by simp only[ζh];exact d.1)
  refine⟨0,len t.a?.l[n].b?,?_,by simp only[len];omega,λr=>?_⟩
  .unfold nu;rw[h,show((3:Int)==1)=O from Y,bz,show((3:Int)==3)=U from Y,bq,u,bA D];rfl
  rw[Br,h,show((3:Int)==1)=O from Y,bz,show((3:Int)==2)=O from Y,bz,show((3:Int)==3)=U from Y,bq,u,bA D];rfl
 unfold qw at d;rw[M' (by simp[h]),M' (by simp[h]),L' (by simpa using h)]at d
 simp only[ζh]at d;have⟨n,u,D⟩:=xO (t:=t) (p:=q.proc) (by simp only[ζh];exact d.1)
 have⟨m,L,F⟩:=xO (t:=t) (p:=q.k?) (by simp only[ζh];exact d.2.1)
 have z:=ζd D;refine⟨0,((t.a?.l[n].b?.l.countP (eo m):Nat):Int),?_,c?,λr=>?_⟩
 .unfold nu;rw[h,show((4:Int)==1)=O from Y,bz,show((4:Int)==3)=O from Y,bz,show((4:Int)==4)=U from Y,bq,u,L,Nj g z];rfl
 rw[Br,h,show((4:Int)==1)=O from Y,bz,show((4:Int)==2)=O from Y,bz,show((4:Int)==3)=O from Y,bz,show((4:Int)==4)=U from Y,bq,u,L,Y8 g z];rfl
theorem Xg(v:bX)(l h:Int)(r:Z4×T'->aY (bX×X')):dD.J2 v ⟨l,h⟩ r=M (⟨l,h⟩,Cc l h):=by unfold dD.J2;rw[Me,ζb,Bool.not_not]
theorem RH{ok B:X'}(h:(ok&&B)=O)(p:T')(v a b:bX)(r:Z4×T'->aY (bX×X')):dD.J1 ok B p v a b r=M (⟨0,0⟩,O):=by unfold dD.J1;cases ok<;>cases B<;>first|rfl|cases h
theorem Iq{p:T'}(i:5<=p.kind/\p.kind<=8){a b c d:Int}(g:Ii a b)(j:Ii c d)(v:bX)(r:Z4×T'->aY (bX×X'))(B:Z4×T'->aY (Int×Int×X')):
 ∃f e,dD.J1 U U p v ⟨a,b⟩ ⟨c,d⟩ r=M (⟨f,e⟩,Cc f e)/\bR.J2 a b c d U U t p B=M (f,e,Cc f e)/\f<=e:=by
 have⟨a1,a2,a3⟩:=g;have⟨m,Q,S⟩:=j;rw[Br];unfold dD.J1;rw[bq,ζb,show(!U)=O from Y,bz];rcases(show p.kind=5\/p.kind=6\/p.kind=7\/p.kind=8 by omega)with h|h|h|h<;>rw[h]
 .refine⟨-b,-a,?_,?_,c?⟩
  .rw[show((5:Int)==5)=U from Y,bq,Xg];simp only;rw[fJ (0-b) c? c?,fJ (0-a) c? c?,show(0:Int)-b=-b from c?,show(0:Int)-a=-a from c?]
  show bR.J3 _ _ B=_;rw[Gk,fJ (0-b) c? c?,fJ (0-a) c? c?,show(0:Int)-b=-b from c?,show(0:Int)-a=-a from c?]
 .refine⟨a+c,b+d,?_,?_,c?⟩
  .rw[show((6:Int)==5)=O from Y,bz,show((6:Int)==6)=U from Y,bq,Xg];simp only;rw[fJ (a+c) c? c?,fJ (b+d) c? c?]
  show bR.J3 _ _ B=_;rw[Gk,fJ (a+c) c? c?,fJ (b+d) c? c?]
 .refine⟨a-d,b-c,?_,?_,c?⟩
  .rw[show((7:Int)==5)=O from Y,bz,show((7:Int)==6)=O from Y,bz,show((7:Int)==7)=U from Y,bq,Xg];simp only;rw[fJ (a-d) c? c?,fJ (b-c) c? c?]
  show bR.J3 _ _ B=_;rw[Gk,fJ (a-d) c? c?,fJ (b-c) c? c?]
 have⟨w,u⟩:=zS (a:=a) (b:=c) ⟨c?,c?⟩ ⟨c?,c?⟩
 have⟨x,C⟩:=zS (a:=a) (b:=d) ⟨c?,c?⟩ ⟨c?,c?⟩
 have⟨y,D⟩:=zS (a:=b) (b:=c) ⟨c?,c?⟩ ⟨c?,c?⟩
 have⟨z,G⟩:=zS (a:=b) (b:=d) ⟨c?,c?⟩ ⟨c?,c?⟩
 refine⟨if(if z<y then z else y)<(if x<w then x else w)then(if z<y then z else y)else(if x<w then x else w),if(if z>y then z else y)>(if x>w then x else w)then(if z>y then z else y)else(if x>w then x else w),?_,?_,?_⟩
 .rw[show((8:Int)==5)=O from Y,bz,show((8:Int)==6)=O from Y,bz,show((8:Int)==7)=O from Y,bz];simp only[PR];rw[u,C,D,G];simp only[ζb];rw[adF,ζb,Xg]
 .show H (cR a c) _=_;rw[u,C,D,G];simp only[ζb];rw[Gk]
 have L:(if z<y then z else y)<=(if z>y then z else y):=by split<;>split<;>omega
 have I:(if x<w then x else w)<=(if x>w then x else w):=by split<;>split<;>omega
 split<;>split<;>omega
theorem Pred.parts{p:T'}(B:fB p=U){c:Int}(a:b_.at xA p.kind=M c):(W p.l.l:Int)=c:=by obtain⟨-,-,h⟩:=za B;grind
structure zC(t:Trace)(p:Pred):Prop where
 sm:p.Sm
 f:p.gY fB=true
 r:p.gY (qw t)=true
 y:p.gY sX=true
theorem zC.vX{p q:T'}(h:zC t p)(B:q∈p.l.l):zC t q:=by have⟨a,u,w,z⟩:=h;rw[p.l9,ζh,O?]at u w z;exact⟨a.vX B,u.2 q B,w.2 q B,z.2 q B⟩
theorem zC.here{p:T'}(h:zC t p):fB p=U/\qw t p=U/\sX p=U:=by have⟨a,u,w,z⟩:=h;rw[p.l9,ζh]at u w z;grind
theorem zC.int{p q:T'}(h:zC t p)(a:p.kind<=12)(B:q∈p.l.l):q.kind<=8:=by have:=h.here.2.2;unfold sX at this;grind
theorem NY(l:Small t)(m:cw t=M U)(Y:Ok t)(p:T'):zC t p->p.kind<=8->∀n,p.dp<=n->
 ∃f e ok i,dm (λr(z:Z4×T')=>ig z.1 z.2 r) n (t,p)=M (i,ok)/\dm (λr(z:Z4×T')=>ij z.1 z.2 r) n (t,p)=M (f,e,ok)/\(ok=U->i=⟨f,e⟩/\Ii f e):=by
 induction p using Pred.ind with
 |h p u=>
  intro g y n A;have hd:=p.vo;have⟨w,o,E⟩:=g.here;obtain⟨k1,-,-⟩:=za w;rw[jl c?,jl c?]
  have u:=λq D=>u q D (g.vX D) (g.int c? D) (n-1) (by have:=Pred.rZ D;omega)
  show∃f e ok i,ig t p (dm (λr(z:Z4×T')=>ig z.1 z.2 r) (n-1))=M (i,ok)/\ij t p (dm (λr(z:Z4×T')=>ij z.1 z.2 r) (n-1))=M (f,e,ok)/\_
  generalize dm (λr(z:Z4×T')=>ig z.1 z.2 r) (n-1)=R at u⊢
  generalize dm (λr(z:Z4×T')=>ij z.1 z.2 r) (n-1)=W at u⊢
  unfold ig ij bR.J1
  by_cases Z:p.kind<=4
  .have aa:_l p.l.l=0:=by
    have:=Pred.parts w (c:=0) (by rcases(show p.kind=1\/p.kind=2\/p.kind=3\/p.kind=4 by omega)with h|h|h|h<;>(rw[h];rfl))
    omega
   have⟨f,e,g1,g2,g3⟩:=SR l m Y w o Z;refine⟨f,e,Cc f e,⟨f,e⟩,?_,?_,λh=>⟨_k,Ii.of g2 h⟩⟩
   .rw[show(len p.l==0)=U from h?,bq,g1,ζb,Me,ζb,Bool.not_not]
   rw[_b (show¬len p.l>0 by grind),bz,_b (show¬len p.l>1 by grind),bz,g3,Gk]
  by_cases X:p.kind=5
  .have ab:_l p.l.l=1:=by
    have:=Pred.parts w (c:=1) (by rw[X];rfl)
    omega
   have B:0<_l p.l.l:=c?
   have⟨a,b,ok,i,g1,g2,g3⟩:=u _ (t? B);have F:idx p.l 0=M p.l.l[0]:=bA (i:=0) B;rw[show(len p.l==0)=O from h?,bz,F,ζb,g1,ζb,show(len p.l==2)=O from h?,bz,
    _c (show len p.l>0 by grind),bq,ζb,g2,ζb,_b (show¬len p.l>1 by grind),bz]
   simp only
   cases ok with
   |false=>
    rw[RH _k,Xw _k]
    grind
   |true=>
    obtain⟨rfl,G⟩:=g3 _k;have⟨f,e,L,b__,Q⟩:=Iq (t:=t) (p:=p) ⟨c?,c?⟩ G G ⟨0,0⟩ R W
    refine⟨f,e,Cc f e,⟨f,e⟩,L,?_,λh=>⟨_k,Ii.of Q h⟩⟩
    rw[<-b__,Br,Br,X];rfl
  have S:_l p.l.l=2:=by have:=Pred.parts w (c:=2) (by rcases(show p.kind=6\/p.kind=7\/p.kind=8 by omega)with h|h|h<;>(rw[h];rfl));omega
  have B:0<_l p.l.l:=c?
  have k:1<_l p.l.l:=c?
  have⟨a,b,ok,i,g1,g2,g3⟩:=u _ (t? B);have⟨c,d,C,j,s,v,x⟩:=u _ (t? k);have F:idx p.l 0=M p.l.l[0]:=bA (i:=0) B;have T:idx p.l 1=M p.l.l[1]:=bA (i:=1) k;rw[show(len p.l==0)=O from h?,bz,F,ζb,g1,ζb,show(len p.l==2)=U from h?,bq,T,ζb,s,ζb,
   _c (show len p.l>0 by grind),bq,ζb,g2,ζb,_c (show len p.l>1 by simp[len,S]),bq,ζb,v,ζb]
  simp only
  cases I:ok&&C with
  |false=>rw[RH I,Xw I];exact⟨0,0,O,_,rfl,rfl,λh=>by cases h⟩|true=>
   simp only[ζh]at I;obtain⟨rfl,rfl⟩:=I;obtain⟨rfl,G⟩:=g3 _k;obtain⟨rfl,a__⟩:=x _k;have⟨f,e,L,b__,Q⟩:=Iq (t:=t) (p:=p) ⟨c?,c?⟩ G a__ ⟨0,0⟩ R W
   exact⟨f,e,Cc f e,⟨f,e⟩,L,b__,λh=>⟨_k,Ii.of Q h⟩⟩
theorem P3(e:Small t)(j:cw t=M U)(B:Ok t)(p:T'):zC t p->p.dp<=20->∀n,p.dp<=n->
 ∃b,dm (λr(z:Z4×T')=>iS z.1 z.2 r) n (t,p)=M b/\dm (λr(z:Z4×T')=>kQ z.1 z.2 r) n (t,p)=M b:=by
 induction p using Pred.ind with
 |h p w=>
  intro a hd n G;have C:=p.vo;rw[jl c?,jl c?]
  have w:=λq u=>w q u (a.vX u) (by have:=Pred.rZ u;omega) (n-1) (by have:=Pred.rZ u;omega)
  show∃b,iS t p (dm (λr(z:Z4×T')=>iS z.1 z.2 r) (n-1))=M b/\kQ t p (dm (λr(z:Z4×T')=>kQ z.1 z.2 r) (n-1))=M b
  generalize dm (λr(z:Z4×T')=>iS z.1 z.2 r) (n-1)=R at w⊢
  generalize dm (λr(z:Z4×T')=>kQ z.1 z.2 r) (n-1)=D at w⊢
  unfold iS kQ;rw[CK,E_,ζb,ζb]
  by_cases k:p.kind<=8
  .rw[show(rR p.kind==1)=U from h?,bq,bq]
   obtain⟨l,d,ok,i,g1,g2,-⟩:=NY e j B p a k 100000 c?
   refine⟨ok,?_,?_⟩
   .show H (dD t p) _=_;rw[show dD t p=_ from g1];rfl
   show(bR t p).bind _=_;rw[show bR t p=_ from g2];rfl
  rw[show(rR p.kind==1)=O from h?,bz,bz]
  let g:T'->X':=λq=>(R (t,q)).getD O
  have m:∀q∈p.l.l,R (t,q)=M (g q)/\D (t,q)=M (g q):=λq u=>by grind
  refine⟨p.l.l.all g,?_,?_⟩
  .rw[CL _ a.sm.len,BL (f:=λq=> !g q) (λq u=>by
    unfold qo;grind)]
   grind
  unfold lK.W1;refine xE (g:=g) a.sm.len (λi c=>?_) ?_
  .unfold lK.bh;rw[fM c,bq,bA c,ζb,(m _ (t? c)).2,ζb,cm i (by have:=a.sm.len;omega)]
   cases g p.l.l[i]<;>rfl
  unfold lK.bh;rw[gp];rfl
theorem Q5(a:Small t)(D:W (bJ t)<1073741824){p:T'}(B:p.Sm):
 ∃e,s8 t p=M e/\vS t p=M e/\(e=0->cw t=M U/\VT t/\oI p=U/\zC t p):=by
 have⟨C,c,w,z⟩:=Am a D;unfold s8 vS;rw[c,w,ζb,ζb]
 cases C with
 |false=>exact⟨1,rfl,rfl,λh=>c?⟩|true=>
  have d:=z Y;rw[bq,bq,BR B,Bl B,ζb,ζb]
  cases G:oI p with
  |false=>exact⟨1,rfl,rfl,λh=>c?⟩|true=>
   have u:=G;simp only[oI,ζh]at u;have hd:=_d u.2.1;unfold gU gP lK wG;rw[show(!U)=O from Y,bz,ζb,bz,M3 a B c?,M7 a p B 100000 c?,ζb,ζb]
   cases g:p.gY (qw t)with
   |false=>exact⟨13,rfl,rfl,λh=>c?⟩|true=>
    rw[bq,bq,Ip B c?,It p B u.2.2 100000 c?,ζb,ζb]
    cases I:p.gY sX with
    |false=>exact⟨14,rfl,rfl,λh=>c?⟩|true=>
     have f:zC t p:=⟨B,u.2.2,g,I⟩;have⟨b,g1,g2⟩:=P3 a c d.ok p f hd 100000 c?
     rw[bq,bq,g1,g2,ζb]
     cases b with
     |false=>exact⟨9,rfl,rfl,λh=>c?⟩|true=>exact⟨0,Y,Y,λ_=>⟨Y,d,Y,f⟩⟩
end
theorem NN{t:Z4}(b:Small t){c:Zg}(W:mY t c.l){p:Nat}{P:bS}{a:Int}(y:t.a?.l[p]?=M P)(Y:c.l[p]?=M a)(q:Nat):
 Wp (iP t c p q) λs=>_l s.l=(P.b?.l.take a.toNat).countP λe=>eo q e&&n5 t c.l e:=by
 have Z:=(b.2 P (s? y)).1;have⟨a0,a1⟩:=W.2 p a P Y y;unfold iP iP.W1;refine ey (λs:Zg×Int=>∃n:Nat,s.2=n/\(n:Int)<=a/\s.1.l.length=(P.b?.l.take n).countP λe=>eo q e&&n5 t c.l e) (λs=>a.toNat-s.2.toNat) ⟨0,_k,by simpa using a0,_k⟩ ?_
 rintro⟨o,i⟩ ⟨n,d,k,I⟩;simp only at d I;subst d;unfold iP.bh;rw[show idx c (p:Int)=M a from by rw[gm];exact Y,ζb,b9]
 constructor
 .intro h;have m:(n:Int)<a:=by simpa using h
  have C:n<_l P.b?.l:=c?
  have G:=cm n c?
  have B:a.toNat-(w? N ((n:Int)+1)).toNat<a.toNat-((n:Int)).toNat:=by rw[G];simp;omega
  have L:=List.countP_le_length (p:=λe=>eo q e&&n5 t c.l e) (l:=P.b?.l.take n)
  rw[n!]at L;have u:(P.b?.l.take (n+1)).countP (λe=>eo q e&&n5 t c.l e)=_l o.l+if eo q P.b?.l[n]&&n5 t c.l P.b?.l[n]then 1 else 0:=by rw[P?,ζd C,i7,I];show _+countP _ [P.b?.l[n]]=_;rw[I!,E'];simp
  rw[show idx t.a? (p:Int)=M P from by rw[gm];exact y,ζb,bA C,ζb]
  generalize P.b?.l[n]=e at u;have a__:(bg (e.kind==2) (M (!(e.k?==(q:Int)))) (M U):aY X')=M (!eo q e):=by unfold eo;cases e.kind==2<;>cases e.k?==(q:Int)<;>rfl
  rw[a__,ζb,b9];constructor
  .intro w;have w:eo q e=O:=by simpa using w
   rw[a_];exact⟨⟨n+1,G,c?,by rw[u,w];rfl⟩,B⟩
  intro w;have w:eo q e=U:=by simpa using w
  rw[find_eq b,ζb];have f:(bg ((g_ t 3 e.d?).index==0) (M U) (H (idx c (g_ t 3 e.d?).proc) λQ=>M (_r ((g_ t 3 e.d?).index>Q))):aY X')=M (n5 t c.l e):=by unfold n5;rcases Hr t 3 e.d? with⟨h,_⟩|⟨z,g,_⟩;rw[h];rfl;have⟨S,j,⟨r,T,_⟩,X⟩:=dU.1 g;simp only at X;have D:S<_l c.l:=(by rw[W.1];exact(ζe.1 T).1);rw[X];dsimp only;rw[bA D,ζb,show((S:Nat):Int).toNat=S from _k,ζd D,mP];rfl
  rw[f,ζb,b9];constructor
  .intro F;unfold d_;rw[L' (show _l o.l+1<=2147483648 from c?),ζb,a_]
   exact⟨⟨n+1,G,c?,by show(o.l++[_]).length=_;rw[u,w,F,ζi];rfl⟩,B⟩
  intro F;rw[a_];exact⟨⟨n+1,G,c?,by rw[u,w,F];rfl⟩,B⟩
 intro h;have v:¬(n:Int)<a:=by simpa using h
 refine(a_ _).2 ((a_ _).2 ?_);rw[show a.toNat=n from c?];exact I
section
variable{t:Z4}{A:b_ 200 bu}{P:bS}{v:Nat}
theorem R2(a:Small t){n:Nat}(D:t.a?.l[n]?=M P){name:U'}{x:Var}(b:P.g?.l[v]?=M x)(G:(E? x.name==E? name)=U)
 (d:∀(j:Nat)(w:Var),j<v->P.g?.l[j]?=M w->(E? w.name==E? name)=O):kC t n name=M (v:Int):=by
 have z:=(ζe.1 b);have⟨z,C⟩:=z;have I:=(a.2 P (s? D)).2.1;refine Wp.eq ?_;unfold kC;rw[gm,D,ζb];unfold kC.W1;refine ey (λi:Int=>∃n:Nat,i=n/\n<=v) (λi=>v-i.toNat) ⟨0,Y,R? _⟩ ?_
 rintro _ ⟨i,rfl,c⟩;have u:i<W P.g?.l:=c?
 unfold kC.bh;rw[fM u,bq,bA u,ζb]
 by_cases B:i=v
 .subst B;rw[C,G,bq,a_];exact(a_ _).2 rfl
 rw[d i _ c? (ζd u),bz,a_,cm i c?]
 exact⟨⟨i+1,Y,c?⟩,h?⟩
theorem Ze{e:WF}(B:W e.assign.l<1073741824)(n:Nat)(i:Int):gJ.W2 (n:Int) (v:Int) i e.assign 0 t=M (match nR e.assign.l v with|some x=>.r x|none=>.n (w? N (i-1))):=by
 refine Wp.eq ?_;unfold gJ.W2;refine dS (W e.assign.l) (λj s=>s=(j:Int)/\nR (e.assign.l.take j) v=J) ⟨Y,by simp[nR]⟩ ?_ ?_;rintro j _ w ⟨rfl,z⟩;unfold gJ.bF;rw[fM w,bq,bA w,ζb];have u:e.assign.l=e.assign.l.take j++e.assign.l[j]::e.assign.l.drop (j+1):=by rw[List.getElem_cons_drop,List.take_append_drop]
 unfold nR at z;rw[Option.map_eq_none_iff]at z;by_cases C:e.assign.l[j].var=(v:Int);rw[show(e.assign.l[j].var==(v:Int))=U from h?,bq,ζb,a_];refine(a_ _).2 ?_;grind[nR];rw[show(e.assign.l[j].var==(v:Int))=O from h?,bz,a_,cm j c?];refine⟨Y,?_⟩;grind[nR];simp_all[gJ.bF,bz,a_]
theorem S3(b:Small t)(T:Ok t){n:Nat}(D:t.a?.l[n]?=M P)(B:v<W P.g?.l){a:Nat}(g:a<=W P.b?.l):gJ t n v (a:Int)=M (nV P v a):=by
 have C:=b.2 P (s? D);have L:=TI.of T D;have I:idx t.a? (n:Int)=M P:=by rw[gm];exact D
 refine Wp.eq ?_;unfold gJ gJ.W1;rw[fJ _ c? c?];refine ey (λi:Int=>∃k:Nat,i=(k:Int)-1/\k<=a/\nV P v k=nV P v a) (λi=>(i+1).toNat) ⟨a,Y,y? _,Y⟩ ?_;rintro _ ⟨k,rfl,c,w⟩;unfold gJ.bh;by_cases h:k=0;subst h;rw[_b c?,bz,a_];rw[I,ζb,bA B,ζb];refine(a_ _).2 ?_;rw[<-w];grind[nV,iT];have z:k-1<W P.b?.l:=c?;have G:=t? z;have u:=I9 L B (ζd z);rw[show k-1+1=k from c?]at u;rw[_c c?,bq,I,ζb,show(k:Int)-1=((k-1:Nat):Int)from c?,bA z,ζb,Ze (C.2.2.2.2 _ G)];cases d:nR P.b?.l[k-1].assign.l v with|some x=>rw[d]at u;rw[a_];refine(a_ _).2 ?_;rw[<-w,u];rfl|none=>rw[d]at u;rw[a_,fJ _ c? c?];exact⟨⟨k-1,Y,c?,by rw[<-w,u];rfl⟩,h?⟩
structure AtC(t:Trace)(A:b_ 200 bu)(c:Sl Int)(l:Sl (Sl Int)):Prop where
 hS:Small t
 hv:cw t=some true
 hV:VT t
 hM:eG t (bJ t) A
 hC:Cons t A c.l
 vals:∀(p:Nat)(P:bS)(a:Int),t.a?.l[p]?=some P->c.l[p]?=some a->∃x,l.l[p]?=some x/\x.l=iT P a.toNat
end
section
variable{t:Z4}
theorem U7{p:T'}(B:oI p=U)(a:zC t p):tY p=M (rR p.kind,0):=by have u:=a.sm;have hd:=B;simp only[oI,ζh,_g]at hd;unfold tY;rw[BR u,B,ζb,bq,Ip u c?,a.y,ζb,bq,CK];rfl
theorem VF{p:T'}(B:oI p=U)(a:zC t p):wU p=M (rR p.kind,0):=by have u:=a.sm;have hd:=B;simp only[oI,ζh,_g]at hd;unfold wU gP;rw[Bl u,B,ζb,bq,It p u a.f 100000 c?,a.y,ζb,bq,E_];rfl
end
section
variable{t:Z4}{A:b_ 200 bu}
end
end Go.VE
namespace Go.VE
end Go.VE
namespace Go.VE
section
variable{t:Z4}
end
end Go.VE
namespace Go.VE
section
variable{t:Z4}
end
section
variable{t:Z4}{A:b_ 200 bu}
end
section
variable{t:Z4}{A:b_ 200 bu}{L:aX SW}{tb:Sl X'}{x:bW}
theorem JF(d:VT t)(B:dP t A L)(D:x.truth=tb)(g:BZ L (nD x.index))(G:W tb.l=W L){out:Zb}(T:W out.l<=5000)
 (i:∀z∈out.l,z=.nil\/Cons t A z.l):oK x out=M (!out.l.any λz=> !z.l.isEmpty&& !jQ tb (L.idxOf z.l)):=by
 have w:=d.ok.one;unfold oK;rw[vO (p:=λz=>kG z (M x)) (f:=λz=> !z.l.isEmpty&& !jQ tb (L.idxOf z.l)) (λz I=>?_) c?]
 .rfl
 unfold kG;rcases i z I with rfl|c
 .rfl
 have u:0<W z.l:=by rw[c.1.1];omega
 have C:=(B.mem _).2 c;rw[xM u,ζb,bz,ζb,ζb,A4 (zB d c) (by rw[c.1.1];exact d.few),ζb,g.get _ C,D,
  H_ (by rw[G];exact List.idxOf_lt_length_of_mem C),ζb,ζb]
 rw[show z.l.isEmpty=O from by cases h:z.l with
  |nil=>rw[h]at u;exact _e u (by decide)|cons a b=>rfl]
 rfl
def Ol(t:Z4)(A:b_ 200 bu)(L:aX SW)(f:Nat->X')(a:X')(c:SW)(q:Zg×Int):Prop:=(a=O/\q=(.nil,15))\/(a=U/\((q=(.nil,7)/\∀d,kr L f d->¬dc c d)\/∃w,q=(w,0)/\kr L f w.l/\dc c w.l/\∀d,kr L f d->dc c d->dc w.l d))
theorem VI(e:Small t)(m:cw t=M U)(a:VT t)(f:eG t (bJ t) A)(B:dP t A L)(n:_l L<=5000)(b__:ins x.l=L)(T:x.t=t)(D:x.truth=tb)(c__:BZ L (nD x.index))(G:_l tb.l=_l L):
 ∃p,∀c:Zg,Cons t A c.l->∃q,gq x c=M q/\Ol t A L (jQ tb) p c.l q:=by
 have H:=a.ok.one;have⟨out,r,K,g⟩:=IX e a f B n b__ D c__ G;have s:∀z∈out.l,z=.nil\/Cons t A z.l:=λz v=>by have⟨i,j⟩:=d! v;have a__:=(ζe.1 j).1;have⟨o,g1,g2⟩:=g i _ (ζd (show i<_l L by omega));rw[j]at g1;cases g1;rcases g2 with⟨h,_⟩|⟨h,_⟩;exact .inl h;exact .inr h
 have d__:=JF a B D c__ G (out:=out) c? s
 refine⟨!out.l.any λz=> !z.l.isEmpty&& !jQ tb (L.idxOf z.l),λc b=>?_⟩
 have k:=(B.mem _).2 b;have⟨cb,Q,I⟩:=(Qe e m a f c).eq;have S:cb=U:=I.2 b;subst S;have⟨o,g1,g2⟩:=g _ _ (rM k);have W:idx out (L.idxOf c.l:Int)=M o:=by rw[gm];exact g1
 unfold gq;rw[T,Q,ζb,bq,r,ζb,A4 (zB a b) (by rw[b.1.1];exact a.few),ζb,c__.get _ k]
 unfold mo;rw[d__,ζb]
 cases l: !out.l.any λz=> !z.l.isEmpty&& !jQ tb (L.idxOf z.l)with
 |false=>exact⟨_,rfl,.inl ⟨rfl,rfl⟩⟩|true=>
  rw[bq,W,ζb];rcases g2 with⟨rfl,X⟩|⟨C,Y,Z,-⟩
  .exact⟨_,_k,.inr ⟨_k,.inl ⟨_k,X⟩⟩⟩
  have u:0<_l o.l:=by rw[C.1.1];omega
  have⟨w,k1,k2⟩:=sY (c:=o) (by rw[C.1.1];have:=a.few;omega) u
  have y:=(B.mem _).2 C;have E:jQ tb (L.idxOf o.l)=U:=by simp only[Bool.not_eq_true',List.any_eq_false,ζh,Bool.not_eq_true,not_and,Bool.not_eq_false']at l;have:=l o (s? g1);cases F:jQ tb (L.idxOf o.l)with|true=>rfl|false=>rw[F]at this;cases d:o.l.isEmpty with|false=>rw[d]at this;simp at this|true=>rw[List.isEmpty_iff]at d;rw[d]at u;exact _e u (by decide)
  rw[xM u,ζb,bz,ζb,k1];exact⟨_,_k,.inr ⟨_k,.inr ⟨w,_k,by rw[k2];exact⟨y,E⟩,by rw[k2];exact Y,by rw[k2];exact Z⟩⟩⟩
end
theorem Ow{b c:X'}:bg b (M U) (M c)=M (b||c):=by cases b<;>rfl
section
variable{t:Z4}
theorem Yt(c:Small t)(G:W (bJ t)<1073741824):∃b,fP t=M b:=by
 suffices h:Wp (fP t) λ_=>True by obtain⟨b,I,-⟩:=h;exact⟨b,I⟩
 have j:=c.1;obtain⟨v,-,w,B⟩:=Am c G;obtain⟨m,C,u,-⟩:=Am c G;have D:v=m:=by rw[w]at u;exact Option.some.inj u
 subst D;have ok:∀b:X',Wp (M b) λ_=>True:=λb=>(a_ _).2 trivial;unfold fP;rw[b9];refine⟨λ_=>ok _,λ_=>?_⟩;unfold fP.W1;refine dS (W t.a?.l) (λi(q:Int×Int)=>q.2=(i:Int)) Y ?_ ?_;rintro i ⟨n,_⟩ a e;simp only at e;subst e;unfold fP.bh;dsimp only;rw[fM a,bq,bA a,ζb,yj (p:=λz=>rY z) (f:=λx=>_r (len x.assign>12)) (λx _=>rfl) (c.2 _ (t? a)).1,ζb,Ow,ζb,b9];exact⟨λ_=>(a_ _).2 (ok _),λ_=>(a_ _).2 (cm i c?)⟩;rintro⟨n,_⟩ e;simp only at e;subst e;unfold fP.bh;dsimp only;rw[gp,bz,a_];show Wp (bg _ _ _) _;rw[b9];refine⟨λ_=>ok _,λ_=>?_⟩;rw[w,ζb];cases v with|false=>exact ok _|true=>rw[bq,b9];refine⟨λ_=>?_,λ_=>?_⟩;unfold fP.W2;refine dS (W t.a?.l) (λi(q:Int×Int)=>q.2=(i:Int)) Y ?_ ?_;rintro i ⟨n,_⟩ a e;simp only at e;subst e;unfold fP.bF;dsimp only;rw[fM a,bq,bA a,ζb,yj (p:=λz=>si z) (f:=λx=>x.kind==3) (λx _=>rfl) (c.2 _ (t? a)).1,ζb,b9];exact⟨λ_=>(a_ _).2 (ok _),λ_=>(a_ _).2 (cm i c?)⟩;rintro⟨n,_⟩ e;simp only at e;subst e;unfold fP.bF;dsimp only;rw[gp,bz,a_];exact ok _;have d:=B Y;obtain⟨A,-,-,g⟩:=d.msgs;rcases BE c C d g with⟨L,r,s,-,-,-,h,-⟩|⟨-,h⟩;rw[h,ζb];exact ok _;rw[h,ζb];exact ok _
theorem LV:∀(n:Nat)(p:T'),p.Sm->∀l d:Int,0<=l->l<=300->0<=d->d<=61->62<=(n:Int)+d->
 ∃b m,dm (λr(z:T'×Int×Int)=>kU z.1 z.2.1 z.2.2 r) n (p,l,d)=M (b,m)/\-1<=m/\m<=l/\(b=U->0<=m)
 |0,p,B,l,d,h1,g,T,i,D=>_e D c?|n+1,p,B,l,d,h1,g,T,i,D=>by have G:=LV n;rw[jl (Nat.succ_pos n)];show∃b m,kU p l d (dm (λr(z:T'×Int×Int)=>kU z.1 z.2.1 z.2.2 r) n)=M (b,m)/\_;generalize dm (λr(z:T'×Int×Int)=>kU z.1 z.2.1 z.2.2 r) n=R at G⊢;unfold kU;rw[fJ _ c? c?];by_cases w:0<=l-1;rw[_c (show l-1>=0 from w),bq,ζb];by_cases I:d<=60;rw[_c I,bq];(cases L:_r (((ByteArray.size p.name:Nat):Int)<=100)with|false=>exact⟨O,l-1,rfl,c?,c?,λh=>by cases h⟩|true=>rw[ζb,bq,HJ (by have:=B.len;omega)];have key:∀(u:aX T'),(∀k∈u,k.Sm)->∀s:Int,0<=s->s<=299->∃b m,yu (λx s=>lz x d s R) u s=M (b,m)/\-1<=m/\m<=s/\(b=O->0<=m):=(by intro u;induction u with|nil=>intro _ s g1 g2;exact⟨O,s,rfl,c?,c?,λ_=>g1⟩|cons k r C=>intro a s g1 g2;have⟨b,m,e1,e2,e3,e4⟩:=G k (a k (List.mem_cons_self ..)) s (d+1) g1 c? c? c? c?;have c:lz k d s R=M (!b,m):=(by unfold lz;rw[fJ _ c? c?,e1];rfl);show∃b m,(H (lz k d s R) λy=>if y.1 then M (U,y.2)else yu (λx s=>lz x d s R) r y.2)=M (b,m)/\_;rw[c,ζb];cases b with|false=>exact⟨U,m,rfl,e2,e3,λh=>by cases h⟩|true=>have⟨j,m',k1,k2,k3,k4⟩:=C (λx Q=>a x (B? _ Q)) m (e4 Y) c?;refine⟨j,m',?_,k2,c?,k4⟩;exact k1);have⟨b,m,e1,e2,e3,e4⟩:=key p.l.l (λk a=>B.vX a) (l-1) w c?;rw[e1,ζb,ζb];exact⟨!b,m,Y,e2,c?,λh=>e4 (by cases b;rfl;cases h)⟩);rw[_b I,bz];exact⟨O,l-1,Y,c?,c?,λh=>by cases h⟩;rw[_b (show¬l-1>=0 from w),bz];exact⟨O,l-1,Y,c?,c?,λh=>by cases h⟩
theorem adl(a:Small t)(D:W (bJ t)<1073741824){p:T'}(B:p.Sm):∃b,yD t p=M b:=by have⟨s,d⟩:=Yt a D;unfold yD;rw[d,ζb];cases s with|false=>exact⟨_,rfl⟩|true=>obtain⟨b,m,e,-⟩:=LV 100000 p B 300 0 c? c? c? c? c?;have u:Ay p 300 0=M (b,m):=e;have w:=count_eq p B 100000 200 c? c?;have z:kO p 200=_:=w;have c:∃k,qd p=M k:=⟨_,by unfold qd;rw[z];rfl⟩;have⟨k,c⟩:=c;rw[bq,u,ζb,ζb];cases b with|false=>exact⟨_,rfl⟩|true=>simp only;rw[bq,c,ζb,ζb,Ow];exact⟨_,Y⟩
theorem abH{A:b_ 200 bu}(a:Small t)(d:VT t)(e:eG t (bJ t) A)(c:Zg):∃b,pO t c=M b/\(b=U->Cons t A c.l):=by by_cases u:W c.l=W t.a?.l;have⟨b,w,h⟩:=Qs a d e u;exact⟨b,w,h.1⟩;refine⟨O,?_,λh=>by cases h⟩;unfold pO nZ;rw[show(len c==len t.a?)=O from by simp[len];omega];rfl
end
section
variable{t:Z4}{A:b_ 200 bu}{L:aX SW}{tb:Sl X'}{x:bW}
def prv(L:aX SW)(c:SW):ST:=(w! (W c)).filterMap λp=>if bump c p (-1)∈L then M (L.idxOf (bump c p (-1)))else J
theorem O2{L:aX SW}{c:SW}{k:Nat}:k∈prv L c↔∃p,p<W c/\bump c p (-1)∈L/\k=L.idxOf (bump c p (-1)):=by unfold prv;rw[List.mem_filterMap];grind
theorem acB(h:dP t A L){i k:Nat}{c:SW}(a:L[i]?=M c)(b:k∈prv L c):k<i:=by obtain⟨p,u,w,rfl⟩:=O2.1 b;refine h.lt (rM w) a ?_;have d:c[p]?=M c[p]:=ζd u;grind[bump,qa]
theorem V2{c:SW}{p:Nat}{a:Int}(h:c[p]?=M a)(q:Nat):(bump c p (-1))[q]?=if p=q then M (a+-1)else c[q]?:=by have u:=(ζe.1 h).1;unfold bump;rw[h,C?];grind
theorem T4{c:SW}{p:Nat}(h:p<W c):bump (bump c p 1) p (-1)=c:=by have a:=ζd h;have u:=sQ a p;rw[L' Y]at u;refine List.ext_getElem? λq=>?_;rw[V2 u,sQ a];grind
theorem Jj(b:VT t)(f:eG t (bJ t) A)(B:dP t A L){c:SW}(a:Cons t A c):∀(n:Nat){d:SW},Cons t A d->dc d c->d≠c->W L<=L.idxOf d+n->∃p,p<W c/\bump c p (-1)∈L/\dc d (bump c p (-1))
 |0,d,G,D,g,i=>_e (List.idxOf_lt_length_of_mem ((B.mem _).2 G)) c?|n+1,d,G,D,g,i=>by have T:=(B.mem _).2 G;have⟨p,u,w,C⟩:=H9 b f B G D c.sum.toNat a (dc.refl c) c? (λh=>g (dc.same D h));have z:W d=W c:=G.1.1.trans a.1.1.symm;by_cases e:bump d p 1=c;grind[T4,dc.refl];have I:=(LL B (rM T) (DB.2 ⟨p,u,w,Y⟩)).1;have⟨q,k1,k2,k3⟩:=Jj b f B a n ((B.mem _).1 w) C e c?;exact⟨q,k1,k2,(AS u).trans k3⟩
end
section
variable{t:Z4}
variable{A:b_ 200 bu}{L:aX SW}{tb:Sl X'}{x:bW}
theorem IJ(a:VT t):Cons t A (replicate (W t.a?.l) 0):=((Qx (t:=t) (A:=A) (z:=.row (replicate (W t.a?.l) 0)) Y _).1 (by simp[ins,Sl.l])).1
theorem T3(f:VT t)(g:eG t (bJ t) A)(B:dP t A L){c d:SW}(b:L[0]?=M c)(D:Cons t A d):dc c d:=by have a:=(B.mem _).1 (s? b);have u:W c=W d:=a.1.1.trans D.1.1.symm;have w:=qb.of iY u;obtain⟨C,z,-⟩:=w.le_min u;have G:=Cq a D w;by_cases e:u! iY c d=c;rw[e]at z;exact z;obtain⟨p,I,h,-⟩:=Jj f g B a (W L) G C e c?;exact _e (acB B b (O2.2 ⟨p,I,h,Y⟩)) c?
end
theorem Oe:∀{a b:SW},dc a b->a.sum<=b.sum/\(a.sum=b.sum->a=b)
 |[],[],_=>⟨Int.le_refl _,λ_=>rfl⟩|[],_::_,h=>nomatch h.1
 |_::_,[],h=>nomatch h.1
 |x::a,y::b,h=>by have B:=h.2 0 x y Y Y;have⟨e,w⟩:=Oe (a:=a) (b:=b) ⟨by simpa using h.1,λp u v c d=>h.2 (p+1) u v c d⟩;grind
theorem S_{α:Type}(P:α->Prop)(g:α->Nat):∀(n:Nat)(a:α),P a->g a<=n->∃m,P m/\∀b,P b->g m<=g b
 |0,a,h,B=>⟨a,h,λb _=>c?⟩|n+1,a,h,B=>by by_cases e:∃b,P b/\g b<g a;have⟨b,D,G⟩:=e;exact S_ P g n b D c?;grind
section
variable{t:Z4}{A:b_ 200 bu}{L:aX SW}{tb:Sl X'}{x:bW}
def Kx(L:aX SW)(f:Nat->X')(g:Int->Int->Int):Prop:=∀a b,kr L f a->kr L f b->kr L f (u! g a b)
theorem Zh(a:VT t)(D:dP t A L)(G:x.truth=tb)(y:BZ L (nD x.index))(g:W tb.l=W L){out:Zb}(B:W out.l<=5000)
 (T:∀z∈out.l,z=.nil\/Cons t A z.l){i:Nat}{o:Zg}(b:out.l[i]?=M o):
 ∃q,mo x out (i:Int)=M q/\(q.2=15↔∃z∈out.l,Cons t A z.l/\jQ tb (L.idxOf z.l)=O):=by
 have S:=a.ok.one;have I:=JF a D G y g (out:=out) B T;have m:idx out (i:Int)=M o:=by rw[gm];exact b
 have X:∀z:Zg,Cons t A z.l->z.l.isEmpty=O:=λz d=>by cases j:z.l.isEmpty with|false=>rfl|true=>have:=d.1.1;rw[List.isEmpty_iff]at j;rw[j]at this;grind
 unfold mo;rw[I,ζb]
 cases Z:out.l.any λz=> !z.l.isEmpty&& !jQ tb (L.idxOf z.l)with
 |true=>
  have⟨z,F,u⟩:=K'.1 Z;rw[ζh,Bool.not_eq_true',Bool.not_eq_true']at u;refine⟨_,Y,λ_=>⟨z,F,?_,u.2⟩,λ_=>rfl⟩
  rcases T z F with rfl|h
  all_goals grind[Sl.l]
 |false=>
  have Q:¬∃z∈out.l,Cons t A z.l/\jQ tb (L.idxOf z.l)=O:=by grind
  rw[show(!O)=U from Y,bq,m,ζb];rcases T o (s? b)with rfl|C
  .exact⟨_,Y,λh=>_e h f?,λh=>_e h Q⟩
  have B:0<W o.l:=by rw[C.1.1];omega
  have⟨w,k1,k2⟩:=sY (c:=o) (by rw[C.1.1];have:=a.few;omega) B
  rw[xM B,ζb,bz,ζb,k1];simp_all
theorem YY{f:Nat->X'}{d:SW}(h:d∈L)(B:f (L.idxOf d)=O):¬kr L f d:=λk=>by rw[k.2]at B;cases B
theorem YW(l:VT t)(B:dP t A L){out:Zb}(q:_l out.l=_l L)
 (h:∀(i:Nat)c,L[i]?=M c->∃o,out.l[i]?=M o/\Low t A L (jQ tb) c o):
 (∃z∈out.l,Cons t A z.l/\jQ tb (L.idxOf z.l)=O)↔¬Kx L (jQ tb) iY:=by
 have r:=l.ok.one;have u:∀{a b},kr L (jQ tb) a->kr L (jQ tb) b->_l a=_l b:=λD G=>((B.mem _).1 D.1).1.1.trans ((B.mem _).1 G.1).1.1.symm
 constructor
 .rintro⟨z,I,f,hf⟩ hM;have⟨i,j⟩:=d! I;have s:=(ζe.1 j).1;have⟨o,g1,g2⟩:=h i _ (ζd (show i<_l L by omega))
  rw[j]at g1;cases g1;rcases g2 with⟨e,-⟩|⟨-,F,w,⟨d,hd,T⟩,a__⟩
  .rw[e]at f;have:=f.1.1;rw[show(Sl.nil:Zg).l=[]from _k,List.length_nil]at this;omega
  have⟨m,⟨C,b__⟩,Q⟩:=S_ (λd=>kr L (jQ tb) d/\dc L[i] d) (λd=>d.sum.toNat) d.sum.toNat d ⟨hd,T⟩ (y? _)
  have W:dc m z.l:=a__ m λe X Y=>by have I:=qb.of iY (u C X);have⟨Z,S,g⟩:=I.le_min (u C X);have k:=hM m e C X;have:=Q _ ⟨k,g _ b__ Y⟩;have⟨v,n⟩:=Oe Z;have p1:=((B.mem _).1 k.1).1.sum.1;rw[n c?]at S;exact S
  have:=dc.same W (w m C b__);exact YY ((B.mem _).2 f) hf (this▸C)
 intro p;refine I? λx=>p λa b D G=>?_
 have I:=qb.of iY (u D G);have⟨Z,S,g⟩:=I.le_min (u D G);have f:=Cq ((B.mem _).1 D.1) ((B.mem _).1 G.1) I;have C:=(B.mem _).2 f;have⟨o,g1,g2⟩:=h _ _ (rM C);rcases g2 with⟨-,e⟩|⟨y,F,w,-⟩
 .grind
 have:=dc.same F (g _ (w a D Z) (w b G S));refine⟨C,?_⟩
 grind
theorem Lw{g:Int->Int->Int}(c:∀x y,g x y=g y x):∀a b:SW,u! g a b=u! g b a
 |[],b=>by cases b<;>rfl|a::u,[]=>rfl|a::u,b::v=>by simp only[u!,c a b,Lw c u v]
theorem Wh{g:Int->Int->Int}(b:∀x,g x x=x):∀a:SW,u! g a a=a
 |[]=>rfl|a::u=>p?
theorem RX{g:Int->Int->Int}(e:∀x y,g x y=g y x)(G:∀x,g x x=x){f:Nat->X'}{o:Zb}(B:∀y∈o.l,kr L f y.l)(D:∀d,kr L f d->∃y∈o.l,y.l=d):
 (∀(i j:Nat)a b,j<i->o.l[i]?=M a->o.l[j]?=M b->kr L f (u! g a.l b.l))↔Kx L f g:=by
 constructor
 .intro h a b u w;obtain⟨y,I,rfl⟩:=D a u;obtain⟨z,m,rfl⟩:=D b w
  grind[d!,Wh,Lw]
 intro h i j a b _ c C;exact h _ _ (B a (s? c)) (B b (s? C))
theorem SP(x y:Int):iY x y=iY y x:=by unfold iY;split<;>split<;>omega
def Ep(L:aX SW)(f:Nat->X')(g:Int->Int->Int)(l:aX Zg)(n m:Nat):Prop:=∀(i j:Nat)a b,j<i->(i<n\/i=n/\j<m)->l[i]?=M a->l[j]?=M b->kr L f (u! g a.l b.l)
theorem Ep.step{f:Nat->X'}{g:Int->Int->Int}{l:aX Zg}{n m:Nat}{a b:Zg}(D:l[n]?=M a)(G:l[m]?=M b)(B:m<n):
 Ep L f g l n (m+1)↔Ep L f g l n m/\kr L f (u! g a.l b.l):=by
 constructor
 .intro h;exact⟨λi j x y c u=>h i j x y c c?,h n m a b B c? D G⟩
 rintro⟨h,k⟩ i j x y c u w z
 by_cases e:i=n/\j=m
 .grind
 exact h i j x y c c? w z
theorem Ep.next{f:Nat->X'}{g:Int->Int->Int}{l:aX Zg}{n:Nat}:Ep L f g l n n↔Ep L f g l (n+1) 0:=⟨λh i j x y a u=>h i j x y a c?,λh i j x y a u=>h i j x y a c?⟩
end
section
variable{t:Z4}{A:b_ 200 bu}
theorem R_{c c':Zg}{l:Zb}(D:c'.l=c.l)(h:AtC t A c l)(q:T'):zC t q->q.kind<=8->∀n,q.dp<=n->
 ∃x,dm (λr(z:cr×T')=>fe z.1 z.2 r) n (⟨t,c,l⟩,q)=M x/\dm (λr(z:Z4×(Zg)×T')=>jW z.1 z.2.1 z.2.2 r) n (t,c',q)=M x:=by
 induction q using Pred.ind with
 |h q S=>
  intro K d n hn;have hd:=q.vo;obtain⟨E,hv,a__,e__,v,L⟩:=h;obtain⟨T,e,hy⟩:=K.here;obtain⟨k1,-,-⟩:=za T;have S:=λq H=>S q H (K.vX H) (K.int c? H) (n-1) (by have:=Pred.rZ H;omega)
  rw[jl c?,jl c?]
  show∃x,fe ⟨t,c,l⟩ q (dm (λr(z:cr×T')=>fe z.1 z.2 r) (n-1))=M x/\jW t c' q (dm (λr(z:Z4×(Zg)×T')=>jW z.1 z.2.1 z.2.2 r) (n-1))=M x
  generalize dm (λr(z:cr×T')=>fe z.1 z.2 r) (n-1)=R at S⊢
  generalize dm (λr(z:Z4×(Zg)×T')=>jW z.1 z.2.1 z.2.2 r) (n-1)=R' at S⊢
  unfold fe jW;rcases(show q.kind=1\/q.kind=2\/q.kind=3\/q.kind=4\/5<=q.kind by omega)with d|d|d|d|d
  .rw[d];exact⟨q.n,rfl,rfl⟩
  .unfold qw at e;rw[L' (by simpa using d)]at e
   simp only[ζh]at e;obtain⟨hp,-,c__⟩:=e;obtain⟨i,hi,ab⟩:=HN E (p:=q.proc) (by simp only[ζh];exact hp) q.name
   rcases ab with⟨m,k,P,y,b__,C,rfl,d__,V,h2,-⟩|⟨-,W⟩
   .have X:=(ζe.1 d__).1;have B:=(ζe.1 C).1;obtain⟨a,G⟩:=v.1.at_ B;obtain⟨a0,a1⟩:=v.1.2 m a P G C;obtain⟨x,hx,ad⟩:=L m P a C G;refine⟨nV P k a.toNat,?_,?_⟩
    .rw[d,show((2:Int)==1)=O from rfl,bz,show((2:Int)==2)=U from rfl,bq];unfold qc;simp only;rw[b__,gm,C,ζb,EU (p:=λz=>lH z q) (f:=λw=>E? w.name==E? q.name) (λ_ _=>rfl) (E.2 P (s? C)).2.1,KC d__ V h2,ζb,gm,hx,ζb,gm,ad,Jo _ X]
     rfl
    rw[d,show((2:Int)==1)=O from rfl,bz,show((2:Int)==2)=U from rfl,bq,b__,R2 E C d__ V h2,ζb,gm,D,G,ζb];have:=S3 E a__.ok C X (a:=a.toNat) c?
    rw[show((a.toNat:Nat):Int)=a from c?]at this
    rw[this];rfl
   rw[W]at c__;cases c__
  .unfold qw at e;rw[M' (by simp[d]),L' (by simpa using d)]at e
   simp only[ζh]at e;obtain⟨m,b__,B⟩:=xO (t:=t) (p:=q.proc) (by simp only[ζh];exact e.1)
   obtain⟨a,G⟩:=v.1.at_ B;refine⟨a,?_,?_⟩
   .rw[d,show((3:Int)==1)=O from rfl,bz,show((3:Int)==2)=O from rfl,bz,show((3:Int)==3)=U from rfl,bq];simp only;rw[b__,gm,G];rfl
   rw[d,show((3:Int)==1)=O from rfl,bz,show((3:Int)==2)=O from rfl,bz,show((3:Int)==3)=U from rfl,bq,b__,gm,D,G];rfl
  .unfold qw at e;rw[M' (by simp[d]),M' (by simp[d]),L' (by simpa using d)]at e
   simp only[ζh]at e;obtain⟨m,b__,B⟩:=xO (t:=t) (p:=q.proc) (by simp only[ζh];exact e.1)
   obtain⟨o,ho,Q⟩:=xO (t:=t) (p:=q.k?) (by simp only[ζh];exact e.2.1)
   obtain⟨a,G⟩:=v.1.at_ B;obtain⟨b,hb⟩:=v.1.at_ Q;have C:=ζd B;have hQ:=ζd Q;obtain⟨⟨u,e2⟩,hu,ae,Y⟩:=UD E hv a__ e__ v B Q;simp only at ae Y;obtain⟨s,hs,F⟩:=NN (c:=c') E (by rw[D];exact v.1) C (by rw[D];exact G) o
   rw[D]at F;refine⟨len u,?_,?_⟩
   .rw[d,show((4:Int)==1)=O from rfl,bz,show((4:Int)==2)=O from rfl,bz,show((4:Int)==3)=O from rfl,bz,show((4:Int)==4)=U from rfl,bq];unfold qv;simp only;rw[b__,ho,hu];rfl
   rw[d,show((4:Int)==1)=O from rfl,bz,show((4:Int)==2)=O from rfl,bz,show((4:Int)==3)=O from rfl,bz,show((4:Int)==4)=U from rfl,bq,b__,ho,hs,ζb];show M ((s.l.length:Nat):Int)=M ((u.l.length:Nat):Int);rw[F,Y,Ij a__ e__ v C hQ G hb]
  have I:∀j:Int,j<5->(q.kind==j)=O:=λj hj=>by simp;omega
  rw[I 1 c?,I 2 c?,I 3 c?,I 4 c?]
  simp only[bz];have hl:0<q.l.l.length:=by rcases(show q.kind=5\/q.kind=6\/q.kind=7\/q.kind=8 by omega)with g|g|g|g;have:=Pred.parts T (c:=1) (by rw[g];rfl);omega;have:=Pred.parts T (c:=2) (by rw[g];rfl);omega;have:=Pred.parts T (c:=2) (by rw[g];rfl);omega;have:=Pred.parts T (c:=2) (by rw[g];rfl);omega
  obtain⟨x,x1,x2⟩:=S _ (t? hl);have Z:idx q.l 0=M q.l.l[0]:=bA (i:=0) hl
  by_cases g:q.kind=5
  .rw[g,show((5:Int)==5)=U from rfl,bq,bq,Z,ζb,x1,ζb,ζb,x2,ζb];exact⟨_,rfl,rfl⟩
  have aa:1<q.l.l.length:=by have:=Pred.parts T (c:=2) (by rcases(show q.kind=6\/q.kind=7\/q.kind=8 by omega)with g|g|g<;>(rw[g];rfl));omega
  obtain⟨y,y1,y2⟩:=S _ (t? aa);have af:idx q.l 1=M q.l.l[1]:=bA (i:=1) aa;rw[Z,af];simp only[ζb,x1,x2,y1,y2];rw[show(q.kind==5)=O from by simpa using g,bz]
  cases q.kind==6<;>cases q.kind==7<;>exact⟨_,rfl,rfl⟩
theorem Nv{c c':Zg}{l:Zb}(T:c'.l=c.l)(h:AtC t A c l)(q:T'):zC t q->9<=q.kind->q.dp<=20->q.gY (λk=> !vL k)=U->∀n,q.dp<=n->
 ∃x,dm (λr(z:cr×T')=>fC z.1 z.2 r) n (⟨t,c,l⟩,q)=M x/\dm (λr(z:Z4×(Zg)×T')=>jY z.1 z.2.1 z.2.2 r) n (t,c',q)=M x:=by
 induction q using Pred.ind with
 |h q G=>
  intro a b W C n d;have hd:=q.vo;have⟨I,e,f⟩:=a.here;obtain⟨k1,k2,-⟩:=za I;rw[q.l9,ζh,O?]at C;have X:q.kind<=17:=by have:=C.1;unfold vL at this;by_cases g:q.kind>=18;rw[_c g,_c (show q.kind<=21 by omega)]at this;cases this;omega
  have B:∀k∈q.l.l,k.kind<=8->∃x,fc ⟨t,c,l⟩ k=M x/\kF t c' k=M x:=λk b Q=>R_ T h k (a.vX b) Q 100000 (by have:=Pred.rZ b;omega)
  have D:13<=q.kind->∀k∈q.l.l,9<=k.kind:=λg k b=>by have:=a.here.2.2;unfold sX at this;rw[O?]at this;have:=this k b;unfold yE rR at this;rw[M' (show¬q.kind<=12 by omega)]at this;by_cases Y:k.kind<=8;rw[L' Y]at this;cases this;omega
  have G:=λg q m=>G q m (a.vX m) (D g q m) (by have:=Pred.rZ m;omega) (C.2 q m) (n-1) (by have:=Pred.rZ m;omega)
  rw[jl c?,jl c?]
  show∃x,fC ⟨t,c,l⟩ q (dm (λr(z:cr×T')=>fC z.1 z.2 r) (n-1))=M x/\jY t c' q (dm (λr(z:Z4×(Zg)×T')=>jY z.1 z.2.1 z.2.2 r) (n-1))=M x
  generalize dm (λr(z:cr×T')=>fC z.1 z.2 r) (n-1)=R at G⊢
  generalize dm (λr(z:Z4×(Zg)×T')=>jY z.1 z.2.1 z.2.2 r) (n-1)=R' at G⊢
  unfold fC jY ga.J1
  by_cases L:q.kind<=12
  .have Z:=Pred.parts I (c:=2) (by rcases(show q.kind=9\/q.kind=10\/q.kind=11\/q.kind=12 by omega)with g|g|g|g<;>(rw[g];rfl))
   have u:0<_l q.l.l:=c?
   have w:1<_l q.l.l:=c?
   have⟨x,F,x2⟩:=B _ (t? u) (a.int L (t? u));have⟨y,S,o⟩:=B _ (t? w) (a.int L (t? w));rw[show idx q.l 0=M q.l.l[0]from bA (i:=0) u,show idx q.l 1=M q.l.l[1]from bA (i:=1) w];simp only[ζb,F,x2,S,o];rcases(show q.kind=9\/q.kind=10\/q.kind=11\/q.kind=12 by omega)with g|g|g|g<;>rw[g]<;>exact⟨_,_k,_k⟩
  by_cases j:q.kind<=14
  .rcases (show q.kind=13\/q.kind=14 by omega)with g|g<;>rw[g]<;>exact⟨_,_k,_k⟩
  have u:0<_l q.l.l:=by rcases(show q.kind=15\/q.kind=16\/q.kind=17 by omega)with g|g|g;have:=Pred.parts I (c:=1) (by rw[g];rfl);omega;have:=Pred.parts I (c:=2) (by rw[g];rfl);omega;have:=Pred.parts I (c:=2) (by rw[g];rfl);omega
  have⟨x,F,x2⟩:=G c? _ (t? u)
  rw[show idx q.l 0=M q.l.l[0]from bA (i:=0) u]
  by_cases g:q.kind=15
  .rw[g];simp only[ζb,F,x2];exact⟨_,_k,_k⟩
  have w:1<_l q.l.l:=by have:=Pred.parts I (c:=2) (by rcases(show q.kind=16\/q.kind=17 by omega)with g|g<;>(rw[g];rfl));omega
  have⟨y,S,o⟩:=G c? _ (t? w)
  rw[show idx q.l 1=M q.l.l[1]from bA (i:=1) w];simp only[ζb,F,x2,S,o];rcases(show q.kind=16\/q.kind=17 by omega)with g|g<;>rw[g]<;>cases x<;>exact⟨_,_k,_k⟩
end
section
variable{t:Z4}
theorem UY{m:aY (Zb×Int)}(T:mT t=m)(d:Small t)(hN:_l (bJ t)<1073741824){p:T'}(v:p.Sm):
 ∃r tb s ts f,iw t p=M (r,tb,f)/\iI t p=M (ts,s,f)/\tb.l=ts.l/\(f≠0->r=.nil/\tb=.nil/\s=.nil/\ts=.nil)/\(f=0->cw t=M U/\∃(A:b_ 200 bu)(_:VT t)(_:eG t (bJ t) A)(L:aX SW),dP t A L/\_l L<=5000/\m=M (r,0)/\ins r=L/\ins s=L/\_l tb.l=_l L):=by
 have a:∀f:Int,f≠0->∃r tb s ts g,M ((Sl.nil:Zb),(Sl.nil:Sl X'),f)=M (r,tb,g)/\M ((Sl.nil:Sl X'),(Sl.nil:Zb),f)=M (ts,s,g)/\tb.l=ts.l/\(g≠0->r=.nil/\tb=.nil/\s=.nil/\ts=.nil)/\(g=0->cw t=M U/\∃(A:b_ 200 bu)(_:VT t)(_:eG t (bJ t) A)(L:aX SW),dP t A L/\_l L<=5000/\m=M (r,0)/\ins r=L/\ins s=L/\_l tb.l=_l L):=λf h=>⟨_,_,_,_,f,_k,_k,_k,λ_=>⟨_k,_k,_k,_k⟩,λh'=>_e h' h⟩
 have⟨e,h1,h2,h3⟩:=Q5 d hN v;unfold iw iI AA;rw[h1,h2,ζb,ζb]
 by_cases W:e=0
 .subst W;have⟨j,c,X,y⟩:=h3 _k;have hd:=X;simp only[oI,ζh,_g]at hd;obtain⟨A,-,-,k⟩:=c.msgs;unfold wq;rw[show((0:Int)==0)=U from _k,bq,bq,U7 X y,VF X y,ζb,ζb];simp only;rw[show((0:Int)==0)=U from _k,bq]
  cases hk:rR p.kind==2 with
  |false=>exact a 14 (by decide)|true=>
   rw[show(!U)=O from _k,ζb,bz,bq,ζb,ζb,show((0:Int)==0)=U from _k,bq,bq,Mh v,K3 v,X,ζb,ζb]
   cases ht:p.gY λq=> !vL q with
   |false=>exact a 15 (by decide)|true=>
    rw[show(U&& !U)=O from _k,bz,bz];have I:rR p.kind=2:=by simpa using hk
    have h9:9<=p.kind:=by unfold rR at I;by_cases h:p.kind<=8;rw[L' h]at I;cases I;omega
    rcases BE d j c k with⟨L,r,s,C,a__,E,b,B,b__⟩|⟨E,b⟩
    .have G:mT t=M (r,0):=by unfold mT;rw[E];rfl
     have S:_l r.l=_l s.l:=by rw[<-iQ r,B,<-b__,iQ]
     have ad:_l r.l<=5000:=by rw[<-iQ r,B];exact a__
     have d__:∀x∈r.l,Cons t A x.l:=λx hx=>(C.mem _).1 (by rw[<-B];exact oV.2 ⟨x,hx,_k⟩)
     have h8:=c.few
     let g:Nat->X':=λi=>(qB t (s.l[i]?.getD .nil) p).getD O
     have e__:∀(i:Nat)(F:i<_l r.l)(Z:i<_l s.l),∃l,jO t r.l[i]=M (l,0)/\ga ⟨t,r.l[i],l⟩ p=M (g i)/\qB t s.l[i] p=M (g i):=λi F Z=>by have P:=d__ _ (t? F);have⟨⟨l,z⟩,a1,a2,a3,a4⟩:=ac3 d j c k P;simp only at a2 a3 a4;subst a2;have aa:s.l[i].l=r.l[i].l:=(by have Y:=rB F;have Q:=rB Z;rw[B]at Y;rw[b__]at Q;rw[Y]at Q;exact(Option.some.inj Q).symm);have⟨x,H,x2⟩:=Nv aa ⟨d,j,c,k,P,a4⟩ p y h9 c? ht 100000 c?;have c__:g i=x:=(by show(qB t (s.l[i]?.getD .nil) p).getD O=x;rw[ζd Z,Option.getD_some,show qB t s.l[i] p=M x from x2];rfl);exact⟨l,a1,by rw[c__];exact H,by rw[c__];exact x2⟩
     have p1:Wp (iw.W1 r (Sl.nil:Sl X') r (len r) 0 t p) λw=>w.1=r/\w.2.1.l=(w! (_l r.l)).map g/\w.2.2=0:=by unfold iw.W1;refine dS (_l r.l) (λn s=>s.2=(n:Int)/\s.1.l=(w! n).map g) ⟨_k,_k⟩ ?_ ?_;rintro n ⟨o,_⟩ u ⟨e1,e2⟩;simp only at e1 e2;subst e1;have ab:_l o.l=n:=(by rw[e2];simp);obtain⟨l,H,x2,-⟩:=e__ n u c?;unfold iw.bh;rw[fM u,bq,bA u,ζb,H,ζb];simp only;rw[show((0:Int)==0)=U from _k,bq,x2,ζb];have D:d_ o (g n)=M (.row (o.l++[g n])):=(by unfold d_;rw[L' c?]);rw[D,ζb,a_,cm n c?];refine⟨_k,?_⟩;show o.l++[g n]=_;rw[e2,a8,v!];rfl;rintro⟨o,_⟩ ⟨e1,e2⟩;simp only at e1 e2;subst e1;unfold iw.bh;rw[gp,bz,a_];exact(a_ _).2 ⟨_k,e2,_k⟩
     have p2:Wp (iI.W1 s (Sl.nil:Sl X') 0 t p) λw=>w.1.l=(w! (_l r.l)).map g/\w.2.1=s/\w.2.2=0:=by unfold iI.W1;refine dS (_l s.l) (λn s=>s.2=(n:Int)/\s.1.l=(w! n).map g) ⟨_k,_k⟩ ?_ ?_;rintro n ⟨o,_⟩ u ⟨e1,e2⟩;simp only at e1 e2;subst e1;have ab:_l o.l=n:=(by rw[e2];simp);obtain⟨l,-,-,x3⟩:=e__ n c? u;unfold iI.bh;rw[fM u,bq,bA u,ζb,x3,ζb];have D:d_ o (g n)=M (.row (o.l++[g n])):=(by unfold d_;rw[L' c?]);rw[D,ζb,a_,cm n c?];refine⟨_k,?_⟩;show o.l++[g n]=_;rw[e2,a8,v!];rfl;rintro⟨o,_⟩ ⟨e1,e2⟩;simp only at e1 e2;subst e1;unfold iI.bh;rw[gp,bz,a_];exact(a_ _).2 ⟨by rw[S];exact e2,_k,_k⟩
     have⟨⟨r',tb,z⟩,Y,Q,K,R⟩:=p1;simp only at Q K R;subst Q R;have⟨⟨ts,s',z'⟩,u1,V,u3,u4⟩:=p2;simp only at V u3 u4;subst u3 u4;rw[G,b,ζb,ζb];simp only;rw[show((0:Int)==0)=U from _k,bq,bq,Y,u1];exact⟨_,_,_,_,0,_k,_k,by rw[K,V],λh=>_e _k h,λ_=>⟨j,A,c,k,L,C,a__,T▸G,B,b__,by rw[K];simp;rw[<-iQ r',B]⟩⟩
    have G:mT t=M (.nil,16):=by unfold mT;rw[E];rfl
    rw[G,b,ζb,ζb];exact a 16 (by decide)
 rw[show(e==0)=O from by simpa using W,bz,bz,ζb,show(e==0)=O from by simpa using W,bz]
 exact a e W
theorem ZW{a:aY (Zb×Int)}(B:mT t=a)(b:Small t)(D:W (bJ t)<1073741824){p:T'}(G:p.Sm):
 ∃r tb s ts f,iw t p=M (r,tb,f)/\iI t p=M (ts,s,f)/\tb.l=ts.l/\(f=0->cw t=M U/\∃(A:b_ 200 bu)(_:VT t)(_:eG t (bJ t) A)(L:aX SW),dP t A L/\W L<=5000/\a=M (r,0)/\ins r=L/\ins s=L/\W tb.l=W L):=by
 obtain⟨r,tb,s,ts,f,c,u,w,-,z⟩:=UY B b D G;exact⟨r,tb,s,ts,f,c,u,w,z⟩
end
theorem aa0{s:Zb}{c:Zg}(B:W s.l<1073741824)(a:∀x∈s.l,W x.l<1073741824):pR s c=M (place (λd:Zg=>_r (c.l=d.l)) s.l):=(uV (p:=λx=>eD x c) (f:=λd:Zg=>_r (c.l=d.l)) (λx u=>by rw[CO (a x u)];congr 1;exact decide_eq_decide.2 eq_comm) c? (λi=>rfl):)
section
variable{t:Z4}{A:b_ 200 bu}
end
section
variable{t:Z4}{A:b_ 200 bu}{L:aX SW}{ts tb:Sl X'}
theorem Wj(h:tb.l=ts.l):jQ tb=jQ ts:=by funext i;unfold jQ;rw[h]
theorem OE{a b:Zg}(D:W a.l=W b.l)(B:W a.l<1073741824):∃r,jd a b=M r/\r.l=u! iY a.l b.l:=by
 have key:Wp (jd a b) λr=>r.l=u! iY a.l b.l:=by unfold jd jd.W1;refine dS (W a.l) (λi(s:Zg×Int)=>s.2=(i:Int)/\s.1.l=(u! iY a.l b.l).take i) ⟨Y,by simp[Sl.l]⟩ ?_ ?_;rintro i ⟨o,_⟩ c ⟨rfl,e⟩;simp only at e;have u:i<W (u! iY a.l b.l):=(by simp_all);have⟨o2,k1,k2⟩:=ni (s:=o) (x:=iY a.l[i] (b.l[i]' c?)) h?;unfold jd.bh;dsimp only;rw[fM c,bq,bA c,ζb,bA (s:=b) (i:=i) c?,ζb];grind[iY,a_,cm,P?];rintro⟨o,_⟩ ⟨rfl,e⟩;simp only at e;unfold jd.bh;dsimp only;rw[gp,bz,a_];grind[a_]
 have⟨r,d,w⟩:=key;grind
structure Sat(t:Trace)(A:b_ 200 bu)(L:List (List Int))(f:Nat->Bool)(o:Sl (Sl Int)):Prop where
 n:o.l.length<=5000
 i:∀y∈o.l,kr L f y.l
 a:∀d,kr L f d->∃y∈o.l,y.l=d
theorem true_eq(B:dP t A L)(G:W L<=5000){s:Zb}(b:ins s=L)(D:W ts.l=W L):∃o,i_ ts s=M o/\Sat t A L (jQ ts) o:=by
 have z:W s.l=W L:=by rw[<-b,iQ]
 have w:∀(i:Nat)(a:i<W s.l),L[i]?=M s.l[i].l:=λi a=>by have:=rB a;grind
 have key:Wp (i_ ts s) λo=>Sat t A L (jQ ts) o:=by unfold i_ i_.W1;refine dS (W ts.l) (λi(q:Zb×Int)=>q.2=(i:Int)/\q.1.l.length<=i/\(∀y∈q.1.l,kr L (jQ ts) y.l)/\∀(j:Nat)(c:SW),j<i->L[j]?=M c->jQ ts j=U->∃y∈q.1.l,y.l=c) ⟨Y,y? _,λy C=>by grind[Sl.l],λj c h=>_e h c?⟩ ?_ ?_;rintro i ⟨o,_⟩ a ⟨rfl,e1,e2,e3⟩;simp only at e1 e2 e3;have u:i<W s.l:=(by omega);unfold i_.bh;dsimp only;rw[fM a,bq,H_ a,ζb];(cases I:jQ ts i with|false=>rw[bz,a_];grind[cm]|true=>have⟨o2,k1,k2⟩:=ni (s:=o) (x:=s.l[i]) c?;rw[bq,bA u,ζb,k1,ζb,a_];have g:kr L (jQ ts) s.l[i].l:=⟨s? (w i u),by rw[sN B.nodup (w i u)];omega⟩;grind[cm]);rintro⟨o,_⟩ ⟨rfl,e1,e2,e3⟩;simp only at e1 e2 e3;unfold i_.bh;dsimp only;rw[gp,bz,a_];refine(a_ _).2 ⟨h?,e2,λd hd=>?_⟩;have a:=rM hd.1;have:=(ζe.1 a).1;exact e3 _ d c? a hd.2
 exact key
theorem VG{f:Nat->X'}{o:Zb}(B:dP t A L)(a:VT t)(D:Sat t A L f o)(c:Zg):∃b,vE o c=M b/\(b=U↔kr L f c.l):=by have C:=a.few;have:=D.n;unfold vE;rw[aa0 c? (λx w=>by rw[((B.mem _).1 (D.i x w).1).1.1];omega),ζb];refine⟨_,Y,?_⟩;rw[uZ,K'];constructor;rintro⟨y,u,h⟩;rw[_d h];exact D.i y u;intro h;have⟨y,u,z⟩:=D.a _ h;grind
theorem MM{f:Nat->X'}(B:dP t A L){a b:SW}(D:kr L f a)(G:kr L f b):W a=W b:=((B.mem _).1 D.1).1.1.trans ((B.mem _).1 G.1).1.1.symm
theorem ZQ(B:dP t A L)(c:VT t){f:Nat->X'}{o:Zb}(D:Sat t A L f o):∃b,eN o=M b/\(b=U↔Kx L f iY):=by
 have F:=c.few;have X:=D.n;rw[<-RX SP (λx=>by grind[iY]) D.i D.a];have key:Wp (eN o) λb=>(b=U↔∀(i j:Nat)a b,j<i->o.l[i]?=M a->o.l[j]?=M b->kr L f (u! iY a.l b.l)):=by unfold eN eN.W1;refine dS (W o.l) (λn(s:Int)=>s=(n:Int)/\Ep L f iY o.l n 0) ⟨Y,λi j x y d Q=>_e Q c?⟩ ?_ ?_;rintro n _ z ⟨rfl,e1⟩;have C:=ζd z;unfold eN.bh;rw[fM z,bq];unfold eN.W2;refine dS n (λm(s:Int)=>s=(m:Int)/\Ep L f iY o.l n m) ⟨Y,e1⟩ ?_ ?_;rintro m _ S ⟨rfl,e1⟩;have u:m<W o.l:=(by omega);have G:=ζd u;have w:=D.i _ (t? z);have I:=D.i _ (t? u);have⟨r,r1,r2⟩:=OE (a:=o.l[n]) (b:=o.l[m]) (MM B w I) (by rw[((B.mem _).1 w.1).1.1];omega);have⟨b,T,g⟩:=VG B c D r;unfold eN.bF;rw[_c c?,bq,bA z,ζb,bA u,ζb,r1,ζb,T,ζb];rw[r2]at g;(cases b with|true=>rw[bq,a_];exact⟨cm m c?,(Ep.step C G S).2 ⟨e1,g.1 rfl⟩⟩|false=>rw[bz,a_];grind[a_]);rintro _ ⟨rfl,e1⟩;grind[eN.bF,bz,a_,cm,Ep.next];rintro _ ⟨rfl,e1⟩;unfold eN.bh;rw[gp,bz,a_];exact(a_ _).2 ⟨λ_ i j a b d q h=>e1 i j a b d (.inl (ζe.1 q).1) q h,λ_=>rfl⟩
 exact key
theorem adE(B:dP t A L)(m:VT t){f:Nat->X'}{o:Zb}(b__:Sat t A L f o)(p:Kx L f iY){c:Zg}(v:Cons t A c.l):
 ∃w b,gy o c=M (w,b)/\(b=O->∀d,kr L f d->¬dc c.l d)/\(b=U->kr L f w.l/\dc c.l w.l/\∀d,kr L f d->dc c.l d->dc w.l d):=by
 have F:=m.few;have H:=b__.n;have key:Wp (gy o c) λq=>(q.2=O->∀d,kr L f d->¬dc c.l d)/\(q.2=U->kr L f q.1.l/\dc c.l q.1.l/\∀d,kr L f d->dc c.l d->dc q.1.l d):=by
  unfold gy gy.W1;refine dS (_l o.l) (λn(s:Zg×X'×Int)=>s.2.2=(n:Int)/\(s.2.1=O->∀(k:Nat)y,k<n->o.l[k]?=M y->¬dc c.l y.l)/\(s.2.1=U->kr L f s.1.l/\dc c.l s.1.l/\∀(k:Nat)y,k<n->o.l[k]?=M y->dc c.l y.l->dc s.1.l y.l))
   ⟨_k,λ_ k y h=>_e h c?,λh=>by cases h⟩ ?_ ?_
  .rintro n ⟨w,l,_⟩ C ⟨rfl,e1,e2⟩;simp only at e1 e2;have Y:=ζd C;have I:=b__.i _ (t? C);have⟨Z,d__,Q⟩:=(abW (a:=c) (b:=o.l[n]) (by rw[v.1.1];omega)).eq;unfold gy.bh;dsimp only;rw[fM C,bq,bA C,ζb,d__,ζb]
   cases Z with
   |false=>have K:¬dc c.l (o.l[n]).l:=λh=>h?;rw[bz,a_];grind[cm]|true=>
    have D:=Q.1 rfl;rw[bq];have step:∀u:Zg,kr L f u.l->dc c.l u.l->(∀(k:Nat)y,k<n->o.l[k]?=M y->dc c.l y.l->dc u.l y.l)->Wp (gy.J2 o c u (n:Int)) λs=>match s with
     |.n s=>s.2.2=((n+1:Nat):Int)/\(s.2.1=O->∀(k:Nat)y,k<n+1->o.l[k]?=M y->¬dc c.l y.l)/\(s.2.1=U->kr L f s.1.l/\dc c.l s.1.l/\∀(k:Nat)y,k<n+1->o.l[k]?=M y->dc c.l y.l->dc s.1.l y.l)|.x e=>False|.r e=>False:=λu i S T=>by
     have z:=MM B i I;have⟨r,r1,r2⟩:=OE (a:=u) (b:=o.l[n]) z (by rw[((B.mem _).1 i.1).1.1];omega)
     have⟨c__,x,W⟩:=(qb.of iY z).le_min z;have X:=p _ _ i I;rw[<-r2]at c__ x W X;unfold gy.J2;rw[bA C,ζb,r1,ζb,a_];refine⟨cm n c?,λh=>(by cases h),λ_=>⟨X,W _ S D,λk y j G g=>?_⟩⟩
     by_cases e:k=n
     .grind
     exact c__.trans (T k y c? G g)
    cases l with|true=>rw[bq];have⟨a1,a2,a3⟩:=e2 _k;exact(step w a1 a2 a3).mono λs E=>by all_goals grind|false=>rw[bz,ζb];exact(step _ I D λk y j G g=>_e g (e1 _k k y j G)).mono λs E=>by all_goals grind
  rintro⟨w,l,_⟩ ⟨rfl,e1,e2⟩;simp only at e1 e2;unfold gy.bh;dsimp only;rw[gp,bz,a_];refine(a_ _).2 ⟨λh d hd=>?_,λh=>⟨(e2 h).1,(e2 h).2.1,λd hd g=>?_⟩⟩;obtain⟨y,G,rfl⟩:=b__.a d hd;grind[d6];obtain⟨y,G,rfl⟩:=b__.a d hd;grind[d6]
 have⟨⟨w,b⟩,a__,e__,P⟩:=key
 grind
end
theorem Pn:∀{c m:SW},dc c m->c=m\/∃(i:Nat)(a b:Int),(∀j,j<i->c[j]?=m[j]?)/\c[i]?=M a/\m[i]?=M b/\a<b
 |[],[],_=>.inl Y|[],_::_,h=>nomatch h.1
 |_::_,[],h=>nomatch h.1
 |x::c,y::m,h=>by
  have D:=h.2 0 x y Y Y;by_cases e:x=y;subst e;rcases Pn (c:=c) (m:=m) ⟨by simpa using h.1,λp u v d f=>h.2 (p+1) u v d f⟩with rfl|⟨i,a,b,g,z,B,C⟩;exact .inl Y;exact .inr ⟨i+1,a,b,λj w=>by
   cases j with
   |zero=>rfl|succ j=>exact g j c?,z,B,C⟩
  exact .inr ⟨0,x,y,λj w=>_e w c?,Y,Y,c?⟩
theorem L8:∀{c:SW}{i:Nat}{a:Int},c[i]?=M a->(c.set i (a+1)).sum=c.sum+1
 |x::c,0,a,h=>by simp at h;subst h;simp;omega|x::c,i+1,a,h=>by have:=L8 (c:=c) (i:=i) (a:=a) (by simpa using h);simp only[List.set_cons_succ,z!,this];omega
theorem zb:∀{a b:SW},dc a b->a.sum<=b.sum
 |[],[],_=>Int.le_refl _|[],_::_,h=>nomatch h.1
 |_::_,[],h=>nomatch h.1
 |x::a,y::b,h=>by have B:=h.2 0 x y Y Y;have e:=zb (a:=a) (b:=b) ⟨by simpa using h.1,λp u v c d=>h.2 (p+1) u v c d⟩;simp only[z!];omega
section
variable{t:Z4}{A:b_ 200 bu}{L:aX SW}{tb:Sl X'}{x:bW}
def Cl(t:Z4)(A:b_ 200 bu)(b r:SW):Prop:=Cons t A r/\yC b r/\∀d,Cons t A d->yC b d->yC r d
theorem Cl.uniq{b r s:SW}(h:Cl t A b r)(k:Cl t A b s):r=s:=dc.same ⟨h.1.1.1.trans k.1.1.1.symm,h.2.2 s k.1 k.2.1⟩ ⟨k.1.1.1.trans h.1.1.1.symm,k.2.2 r h.1 h.2.1⟩
def G_(t:Z4)(A:b_ 200 bu)(m c c':SW):Prop:=∃(i:Nat)(a b:Int),(∀j,j<i->c[j]?=m[j]?)/\c[i]?=M a/\m[i]?=M b/\a<b/\Cl t A (bump c i 1) c'
theorem Y4{c m:SW}(h:dc c m){i:Nat}{a b:Int}(B:c[i]?=M a)(D:m[i]?=M b)(G:a<b):yC (bump c i 1) m:=λq x y u w=>by
 rw[sQ B]at u;split at u;next e=>subst e;cases u;rw[D]at w;cases w;omega
 exact h.2 q x y u w
theorem G_.up{m c c':SW}(B:Cons t A m)(h:dc c m)(k:G_ t A m c c'):Cons t A c'/\dc c' m/\c.sum+1<=c'.sum:=by obtain⟨i,a,b,-,u,z,w,d,e,C⟩:=k;refine⟨d,⟨d.1.1.trans B.1.1.symm,C m B (Y4 h u z w)⟩,?_⟩;have D:W (bump c i 1)=W c':=uM.trans (h.1.trans (B.1.1.trans d.1.1.symm));have:=zb (⟨D,e⟩:dc (bump c i 1) c');rw[DM u,L8 u]at this;exact this
def En(t:Z4)(A:b_ 200 bu)(m z:SW)(l:aX Zg):Prop:=(∀(k:Nat)y,l[k]?=M y->Cons t A y.l/\dc y.l m/\(k:Int)<=y.l.sum)/\(∀(k:Nat)y u,l[k]?=M y->l[k+1]?=M u->G_ t A m y.l u.l)/\∃y,l[0]?=M y/\y.l=z
theorem Oh{m z:SW}{out o2:aX Zg}{c r:Zg}(D:En t A m z out)(T:0<W out)(B:out[W out-1]?=M c)(G:G_ t A m c.l r.l)(g:Cons t A r.l)(j:dc r.l m)(o:(W out:Int)<=r.l.sum)(k2:o2=out++[r]):En t A m z o2:=by
 subst k2;have u:∀(k:Nat)y,(out++[r])[k]?=M y->(k<W out/\out[k]?=M y)\/(k=W out/\y=r):=λk y a=>by grind
 refine⟨λk y a=>?_,λk y d a C=>?_,?_⟩;rcases u k y a with⟨-,h⟩|⟨rfl,rfl⟩;exact D.1 k y h;exact⟨g,j,o⟩;rcases u (k+1) d C with⟨L,h⟩|⟨L,rfl⟩;rcases u k y a with⟨-,w⟩|⟨w,-⟩;exact D.2.1 k y d w h;omega;rcases u k y a with⟨-,w⟩|⟨w,-⟩;rw[show W out-1=k from c?,w]at B;cases B;exact G;omega;have⟨y,i,I⟩:=D.2.2;exact⟨y,by rw[List.getElem?_append_left T];exact i,I⟩
theorem Z6(k:Small t)(n:cw t=M U)(g:VT t)(o:eG t (bJ t) A){c:Zg}{m:SW}(f:Cons t A c.l)(q:Cons t A m)(h:dc c.l m){i:Nat}{a b:Int}(B:c.l[i]?=M a)(T:m[i]?=M b)(F:a<b):
 ∃D x2 r,H (dx c) Sl.whole=M D/\Sl.iA D (i:Int)=M i/\Sl.get D i=M a/\Sl.put D i (w? N (a+1):Int)=M x2/\ve t x2=M (r,0)/\Cl t A (bump c.l i 1) r.l:=by
 have Z:=g.few;have G:=g.ok.one;have j:=(ζe.1 B).1;have I:i<W t.a?.l:=by rw[<-f.1.1];exact j
 have⟨d,L,u⟩:=sY (c:=c) (by rw[f.1.1];omega) (by rw[f.1.1];omega)
 have X:=(Du k g f).2 a (s? B);have⟨l,Q,z⟩:=put_eq (s:=d) (p:=i) (x:=w? N (a+1)) (by rw[u];exact j)
 rw[fJ _ c? c?,u,<-DM B]at z
 have S:mY t l.l:=by rw[z];refine⟨uM.trans f.1.1,λp y P w C=>?_⟩;rw[sQ B]at w;split at w;(next e=>subst e;cases w;have:=q.1.2 i b P T C;have:=f.1.2 i a P B C;omega);exact f.1.2 p y P w C
 obtain⟨⟨r,e⟩,r1,rfl,r2,r3,r4⟩:=Vf k n g o S;simp only at r2 r3 r4;rw[z]at r3 r4;exact⟨d,l,r,L,rA (by rw[u];exact j),by unfold Sl.get;rw[u];exact B,Q,r1,r2,r3,r4⟩
theorem Yr(H:Small t)(K:cw t=_j U)(d:VT t)(M:eG t (bJ t) A)(ab:x.t=t){m:SW}(W:Cons t A m)
 (N:∀c:Zg,Cons t A c.l->dc c.l m->∃w,gq x c=_j (w,0)/\w.l=m){c0:Zg}(a__:Cons t A c0.l)(G:dc c0.l m):
 Wp (dQ.W1 x c0 (Sl.row [c0]:Zb) t) λw=>w.2=0/\0<w.1.l.length/\En t A m c0.l w.1.l/\∃y,w.1.l[w.1.l.length-1]?=_j y/\y.l=m:=by
 have aa:=d.ok.one;have ad:=OF d;have ae:=W.1.sum;unfold dQ.W1;refine ey (λq:Zg×Zb=>Cons t A q.1.l/\dc q.1.l m/\0<q.2.l.length/\En t A m c0.l q.2.l/\q.2.l[q.2.l.length-1]?=_j q.1) (λq=>(m.sum-q.1.l.sum).toNat)
  ⟨a__,G,by simp[Sl.l],⟨λk y f=>?_,λk y y' f X=>?_,c0,_k,_k⟩,_k⟩ ?_
 .cases k with
  |zero=>simp[Sl.l]at f;subst f;exact⟨a__,G,a__.1.sum.1⟩|succ k=>simp[Sl.l]at f
 .simp[Sl.l]at X
 rintro⟨c,out⟩ ⟨g,z,Y,L,u⟩;simp only at g z Y u;have⟨w,R,c__⟩:=N c g z;have af:_l c.l=_l m:=z.1;have ah:_l c.l<1073741824:=by rw[g.1.1];have:=d.few;omega
 unfold dQ.bh;dsimp only;rw[R,ζb];simp only;rw[show((0:Int)==0)=U from _k,bq];unfold dQ.W2;have p:∀i:Nat,(∀j,j<i->c.l[j]?=m[j]?)->(i=_l c.l\/∃a b:Int,c.l[i]?=_j a/\m[i]?=_j b/\a<b)->bG (λq:Int=>dQ.bF x c out w t q) 0=_j (.x (i:Int)):=λi l E=>by
  have ai:i<=_l c.l:=by rcases E with h|⟨a,b,h,-⟩;omega;have:=(ζe.1 h).1;omega
  have:=dS (step:=λq:Int=>dQ.bF x c out w t q) (fx:=λe=>_j e) (fr:=λe:Empty=>(J:PH)) (P:=λe=>e=(i:Int)) i (λn(q:Int)=>q=(n:Int)) (s:=0) _k (λn q V Z=>by
   subst Z;have B:n<_l c.l:=c?
   have S:n<_l w.l:=by rw[c__];omega
   have C:=l n V;rw[<-c__,ζd B,ζd S]at C;unfold dQ.bF;rw[fM B,bq,bA S,ζb,bA B,ζb,ζb,Option.some.inj C,show(w.l[n]==w.l[n])=U from f?,bq,a_]
   exact cm n c?) (λq Z=>by
   subst Z;unfold dQ.bF;rcases E with rfl|⟨a,b,Q,T,D⟩
   .rw[gp,bz,ζb,bz,a_];exact(a_ _).2 rfl
   have B:=(ζe.1 Q).1;rw[fM B,bq,gm,c__,T,ζb,gm,Q,ζb,ζb,show(b==a)=O from by simp;omega,bz,a_]
   exact(a_ _).2 rfl)
  obtain⟨e,C,rfl⟩:=this;cases I:bG (λq:Int=>dQ.bF x c out w t q) 0 with|none=>rw[I]at C;cases C|some v=>rw[I]at C;cases v with|n s=>exact s.elim|x e=>simp[Fw.elim]at C;subst C;rfl|r e=>exact e.elim
 rcases Pn z with C|⟨i,a,b,l,Q,T,D⟩
 .rw[p (_l c.l) (λj _=>by rw[C]) (.inl _k),ζb]
  show Wp (bg _ _ _) _;rw[show((_l c.l:Int)==len c)=U from by simp[len],bq,a_]
  exact(a_ _).2 ⟨_k,Y,L,c,u,C⟩
 have B:=(ζe.1 Q).1;rw[p i l (.inr ⟨a,b,Q,T,D⟩),ζb];show Wp (bg _ _ _) _;have⟨x1,x2,r,e1,e2,e3,e4,e5,e6⟩:=Z6 H K d M g W z Q T D;have b__:G_ t A m c.l r.l:=⟨i,a,b,l,Q,T,D,e6⟩;have⟨F,o,u3⟩:=b__.up W z;have aj:=(L.1 _ _ u).2.2;have ak:=zb z;have⟨o2,k1,k2⟩:=ni (s:=out) (x:=r) c?
 rw[show((i:Int)==len c)=O from by simp[len];omega,bz,e1,ζb,e2,ζb,e3,ζb,ζb,e4,ζb,e5,ζb]
 simp only;rw[show((0:Int)==0)=U from _k,bq,k1,ζb,a_];have us:=zb o;refine⟨⟨F,o,by show 0<_l o2.l;rw[k2];simp,Oh L Y u b__ F o (by show(_l out.l:Int)<=_;omega) k2,?_⟩,?_⟩
 .show o2.l[_l o2.l-1]?=_j r;rw[k2];simp
 show(m.sum-r.l.sum).toNat<(m.sum-c.l.sum).toNat;omega
end
def A9:ST->Nat
 |[]=>1|n::l=>(n+1)*A9 l
section
variable{t:Z4}{A:b_ 200 bu}{L:aX SW}{tb:Sl X'}{x:bW}
theorem JM(b:Small t)(f:cw t=M U)(a:VT t)(d:eG t (bJ t) A)(B:dP t A L)(j:_l L<=5000)(T:ins x.l=L)(Y:x.t=t)(g:x.truth=tb)(W:BZ L (nD x.index))(a__:_l tb.l=_l L):
 ∃e,(e=U↔Kx L (jQ tb) iY)/\(∀c:Zg,Cons t A c.l->∃q,gq x c=M q/\Ol t A L (jQ tb) e c.l q)/\∀c:Zg,¬Cons t A c.l->gq x c=M (.nil,18):=by
 have m:=a.few;have X:Cons t A (replicate (_l t.a?.l) 0):=IJ a;have I:0<_l L:=List.length_pos_of_mem ((B.mem _).2 X);have S:=ζd I;have C:=(B.mem _).1 (t? I);have⟨e,b__⟩:=VI b f a d B j T Y g W a__;have⟨q,k1,k2⟩:=b__ (.row L[0]) C;have⟨n,p,r,Z⟩:=IX b a d B j T g W a__;obtain⟨u,s,-⟩:=Z 0 _ S;have v:∀z∈n.l,z=.nil\/Cons t A z.l:=λz y=>by have⟨i,k⟩:=d! y;have K:=(ζe.1 k).1;have⟨o,g1,g2⟩:=Z i _ (ζd (show i<_l L by omega));rw[k]at g1;cases g1;exact g2.imp (λh=>h.1) λh=>h.1
 have⟨l,p1,p2⟩:=Zh a B g W a__ c? v s
 have g3:q.2=15↔¬Kx L (jQ tb) iY:=by rw[<-YW a B r Z,<-p2];have⟨cb,c__,D⟩:=(Qe b f a d (.row L[0])).eq;have Q:cb=U:=D.2 C;subst Q;have E:L.idxOf (Sl.row L[0]).l=0:=sN B.nodup S;unfold gq at k1;rw[Y,c__,ζb,bq,p,ζb,A4 (c:=.row L[0]) (zB a C) (by show L[0].length<=8;rw[C.1.1];exact m),ζb,W.get (Sl.row L[0]).l ((B.mem _).2 C),E,p1]at k1;have:(l.1,l.2)=q:=Option.some.inj k1;rw[<-this]
 refine⟨e,?_,b__,λc F=>?_⟩
 .constructor
  .intro h;refine I? λH=>?_
   have:=g3.2 H;rcases k2 with⟨G,-⟩|⟨-,⟨G,-⟩|⟨w,G,-⟩⟩
   .rw[h]at G;cases G
   .rw[G]at this;simp at this
   rw[G]at this;simp at this
  intro h;rcases k2 with⟨-,G⟩|⟨G,-⟩
  .exact _e h (g3.1 (by rw[G]))
  exact G
 have⟨cb,c__,D⟩:=(Qe b f a d c).eq;have Q:cb=O:=by cases cb with|false=>rfl|true=>exact _e (D.1 rfl) F
 subst Q;unfold gq;rw[Y,c__,ζb,bz]
theorem O9(a:Small t)(d:VT t)(e:eG t (bJ t) A)(c:Zg):∃b,pO t c=M b/\(b=U↔Cons t A c.l):=by by_cases u:W c.l=W t.a?.l;exact Qs a d e u;have⟨b,f,w⟩:=abH a d e c;exact⟨b,f,w,λh=>_e h.1.1 u⟩
noncomputable abbrev clF(n:Nat)(t:Z4)(c:Zg):aY Zg:=dm (λr(z:Z4×Zg)=>jX z.1 z.2 r) n (t,c)
def FD(t:Z4)(A:b_ 200 bu)(c:SW)(e:WF):Prop:=e.kind=3->∃b,c[(ag A e.d?).from_.proc.toNat]?=M b/\(ag A e.d?).from_.index<=b
theorem RW(g:Small t)(d:VT t)(f:eG t (bJ t) A){c:Zg}(i:mY t c.l){p k:Nat}{e:WF}(B:mz t p k e):∃b,wV t c (p:Int) (k:Int)=M b/\(b=U↔FD t A c.l e):=by
 have⟨P,u,w⟩:=B;unfold wV;rw[gm,u,ζb,gm,w,ζb];by_cases a:e.kind=3;rw[show(e.kind==3)=U from by rw[a];rfl,bq,find_eq g,ζb,Aj d f ⟨P,u,w⟩ a];obtain⟨q,j,y,⟨Q,I,L⟩,-,-,-,-,D⟩:=zJ d f ⟨P,u,w⟩ a;rw[D];have z:q<W c.l:=by rw[i.1];exact(ζe.1 I).1
 rw[bA z,ζb];refine⟨_,Y,?_⟩;unfold FD;rw[D];simp only[Int.toNat_natCast,_g];exact⟨λh _=>⟨_,ζd z,h⟩,λh=>by have⟨b,G,C⟩:=h a;rw[ζd z]at G;cases G;exact C⟩;rw[show(e.kind==3)=O from beq_eq_false_iff_ne.2 a,bz];exact⟨U,Y,λ_ h=>_e h a,λ_=>rfl⟩
theorem I8(N:Small t)(f:VT t)(E:eG t (bJ t) A):∀(n:Nat)(c:Zg),mY t c.l->((oP t:Int)-c.l.sum).toNat<n->Wp (clF n t c) λr=>Cl t A c.l r.l
 |0,c,T,h=>_e h c?|n+1,c,T,h=>by have h8:=f.few;have hT:=OF f;unfold clF;rw[jl c?];show Wp (jX t c (dm (λr(z:Z4×Zg)=>jX z.1 z.2 r) n)) _;have P:=I8 N f E n;unfold clF at P;generalize dm (λr(z:Z4×Zg)=>jX z.1 z.2 r) n=R at P⊢;unfold jX;obtain⟨x,h2,C⟩:=zg (s:=Sl.row []) (x:=c) (show 0+c.l.length<=_ by rw[T.1];omega);have C:x.l=c.l:=C;rw[h2,ζb];unfold iy.W1;refine dS x.l.length (λp(q:Int)=>q=(p:Int)/\∀(S k:Nat)(e:WF)(a:Int),S<p->mz t S k e->x.l[S]?=M a->(k:Int)<a->FD t A x.l e) ⟨rfl,λS k e a c__=>_e c__ c?⟩ ?_ ?_;rintro p _ c__ ⟨rfl,V⟩;have ad:p<t.a?.l.length:=(by rw[<-T.1,<-C];exact c__);have m:=ζd ad;have I:=ζd c__;obtain⟨r1,r2⟩:=T.2 p _ _ (by rw[<-C];exact I) m;have ai:=Ap f m;unfold iy.bh;rw[fM c__,bq];unfold iy.W2;refine dS (x.l[p]).toNat (λk(q:Int)=>q=(k:Int)/\∀(l:Nat)(e:WF),l<k->mz t p l e->FD t A x.l e) ⟨rfl,λl e F=>_e F c?⟩ ?_ ?_;rintro k _ F ⟨rfl,hJ⟩;have W:k<t.a?.l[p].b?.l.length:=(by omega);have u:mz t p k t.a?.l[p].b?.l[k]:=⟨_,m,ζd W⟩;obtain⟨b,b1,b2⟩:=RW N f E (c:=x) (by rw[C];exact T) u;unfold iy.bF;rw[rA c__,ζb];unfold Sl.get;rw[I,ζb,_c c?,bq,b1,ζb];(cases b with|true=>rw[bq,a_];refine⟨cm k c?,λl e aj d__=>?_⟩;by_cases ek:l=k;subst ek;obtain⟨P2,c1,c2⟩:=d__;rw[m]at c1;cases c1;rw[ζd W]at c2;cases c2;exact b2.1 rfl;exact hJ l e c? d__|false=>have X:¬FD t A x.l t.a?.l[p].b?.l[k]:=λh=>(by have:=b2.2 h;cases this);generalize he:t.a?.l[p].b?.l[k]=e at u X b1;have Y:e.kind=3:=I? λh=>X λh'=>_e h' h;obtain⟨q,j,y,⟨Q,hQ,hy⟩,-,-,-,-,g6⟩:=zJ f E u Y;have b__:q<x.l.length:=(by rw[C,T.1];exact(ζe.1 hQ).1);have ak:=(ζe.1 hy).1;obtain⟨v,hv⟩:∃v,x.l[q]?=M v:=⟨_,ζd b__⟩;have al:v<(j:Int)+1:=(by refine I? λhn=>X λ_=>⟨v,?_,?_⟩;rw[g6];simp only[Int.toNat_natCast];exact hv;rw[g6];show(j:Int)+1<=_;omega);obtain⟨d,d1,H⟩:=put_eq (s:=x) (p:=q) (x:=(j:Int)+1) b__;have Z:mY t d.l:=(by rw[H,C];exact T.set hQ c? c?);have ah:d.l.sum=c.l.sum-v+((j:Int)+1):=(by rw[H,C,qa (show c.l[q]?=M v by rw[<-C];exact hv)]);have am:=Z.sum;rw[bz,gm,m,ζb,gm,ζd W,he,ζb,find_eq N,ζb,Aj f E u Y,g6,rA b__,ζb,d1,ζb,dZ];refine(P d Z c?).mono λr⟨s1,s2,s3⟩=>?_;refine(a_ _).2 ((a_ _).2 ((a_ _).2 ⟨s1,λi a b B g=>?_,λD K L=>s3 D K λi a b B g=>?_⟩));have ae:i<d.l.length:=(by rw[Z.1,<-T.1];exact(ζe.1 B).1);have af:=s2 i _ b (ζd ae) g;have G:=ζd ae;generalize d.l[i]=z at af G;rw[H,C?]at G;by_cases o:q=i;subst o;rw[L' rfl,L' b__]at G;cases G;rw[<-C,hv]at B;cases B;omega;rw[M' o,C,B]at G;cases G;exact af;rw[H,C?]at B;by_cases o:q=i;subst o;rw[L' rfl,L' b__]at B;cases B;obtain⟨z,hz⟩:=K.1.at_ ad;have:=L p _ z (by rw[<-C];exact I) hz;obtain⟨w,a__,aa⟩:=K.2 p k e z u hz c? Y;rw[g6]at a__ aa;simp only[Int.toNat_natCast]at a__ aa;rw[g]at a__;cases a__;exact aa;rw[M' o,C]at B;exact L i a b B g);rintro _ ⟨rfl,hJ⟩;unfold iy.bF;rw[rA c__,ζb];unfold Sl.get;rw[I,ζb,_b c?,bz,a_];refine(a_ _).2 ⟨cm p c?,λS k e a an u B ab=>?_⟩;by_cases ep:S=p;subst ep;rw[I]at B;cases B;exact hJ k e c? u;exact V S k e a c? u B ab;rintro _ ⟨rfl,V⟩;unfold iy.bh;rw[gp,bz,a_];refine(a_ _).2 ⟨⟨by rw[C];exact T,λp k e a u B ab F=>V p k e a (ζe.1 B).1 u B ab F⟩,λi a b B g=>?_,λD K L=>by rw[C];exact L⟩;rw[C,B]at g;cases g;exact Int.le_refl _
end
section
variable{t:Z4}{A:b_ 200 bu}{L:aX SW}{ts tb:Sl X'}{x:bW}
theorem adA{c m:SW}(d:Cons t A c)(D:Cons t A m){i:Nat}{a b:Int}(B:c[i]?=M a)(G:m[i]?=M b)(g:a<b):mY t (bump c i 1):=
 ⟨uM.trans d.1.1,λp y P u w=>by
  rw[sQ B]at u;split at u
  next e=>subst e;cases u;have:=D.1.2 i b P G w;have:=d.1.2 i a P B w;omega
  exact d.1.2 p y P u w⟩
theorem Vp(j:Small t)(f:VT t)(K:eG t (bJ t) A){m:SW}(l:Cons t A m){w:Zg}(T:w.l=m){c0:Zg}(D:Cons t A c0.l)(B:dc c0.l m):
 Wp (eB.W1 w c0 (Sl.row [c0]:Zb) t) λr=>r.2=0/\0<r.1.l.length/\En t A m c0.l r.1.l/\∃y,r.1.l[r.1.l.length-1]?=M y/\y.l=m:=by
 have a__:=f.few;have aa:=Hp f;have ab:=l.1.sum;unfold eB.W1;refine ey (λq:Zg×Zb=>Cons t A q.1.l/\dc q.1.l m/\0<q.2.l.length/\En t A m c0.l q.2.l/\q.2.l[q.2.l.length-1]?=M q.1) (λq=>(m.sum-q.1.l.sum).toNat)
  ⟨D,B,by simp[Sl.l],⟨λk y g=>?_,λk y y' g ad=>?_,c0,_k,_k⟩,_k⟩ ?_
 .cases k with
  |zero=>simp[Sl.l]at g;subst g;exact⟨D,B,D.1.sum.1⟩|succ k=>grind[Sl.l]
 .grind[Sl.l]
 rintro⟨c,out⟩ ⟨h,z,Q,G,u⟩;simp only at h z Q u;have ae:_l c.l=_l m:=z.1;have af:_l c.l<=8:=by rw[h.1.1];exact a__
 have⟨S,c__,b__⟩:=(abW (a:=w) (b:=c) (by rw[T];omega)).eq
 unfold eB.bh;dsimp only;rw[c__,ζb];rcases Pn z with I|⟨i,a,b,e__,W,o,X⟩
 .have:S=U:=b__.2 (by rw[T,I];grind)
  subst this;rw[bq,a_];exact(a_ _).2 ⟨_k,Q,G,c,u,I⟩
 have:S=O:=by cases S with|false=>rfl|true=>have:=(b__.1 rfl).2 i b a (by rw[T];exact o) W;omega
 subst this;have Y:=(ζe.1 W).1;have L:bG (λq:Int=>eB.bF w c out t q) 0=M (.x (i:Int)):=by
  have:=dS (step:=λq:Int=>eB.bF w c out t q) (fx:=λe=>M e) (fr:=λe:Empty=>(J:PH)) (P:=λe=>e=(i:Int)) i (λn(q:Int)=>q=(n:Int)) (s:=0) _k (λn q hn R=>by
   grind[eB.bF,bA,bq,a_,cm]) (λq R=>by
   simp_all[eB.bF,gm,_b,bz,a_])
  obtain⟨e,I,rfl⟩:=this;cases C:bG (λq:Int=>eB.bF w c out t q) 0 with|none=>rw[C]at I;cases I|some v=>rw[C]at I;cases v with|n s=>exact s.elim|x e=>grind[Fw.elim]|r e=>exact e.elim
 have⟨d,V,E⟩:=Ya j f h (p:=i) Y;have F:mY t d.l:=by rw[E];grind[adA]
 have⟨r,r1,r2⟩:=I8 j f K 100000 d F (by have:=F.sum;omega)
 rw[E]at r2;have d__:G_ t A m c.l r.l:=⟨i,a,b,e__,W,o,X,r2⟩;have⟨H,Z,u3⟩:=d__.up l z;have ah:=(G.1 _ _ u).2.2;have ai:=zb z;have⟨o2,k1,k2⟩:=ni (s:=out) (x:=r) c?
 rw[bz];unfold eB.W2;rw[L,ζb];show Wp (_n (tR c i) _) _;rw[V,ζb,show iy t d=M r from r1,ζb,k1,ζb,a_];have us:=zb Z;refine⟨⟨H,Z,h?,Oh G Q u d__ H Z h? k2,?_⟩,?_⟩
 all_goals grind
theorem G_.uniq{m c d e:SW}(h:G_ t A m c d)(k:G_ t A m c e):d=e:=by
 have⟨i,a,b,f,w,z,B,u⟩:=h;have⟨j,C,D,k1,k2,k3,k4,k5⟩:=k;have:i=j:=by grind
 subst this;exact u.uniq k5
theorem En.same{m z:SW}{B D:aX Zg}(c:En t A m z B)(G:En t A m z D)(k1:∃y,B[W B-1]?=M y/\y.l=m)(k2:∃y,D[W D-1]?=M y/\y.l=m):B.map Sl.l=D.map Sl.l:=by
 have key:∀(k:Nat)u w,B[k]?=M u->D[k]?=M w->u.l=w.l:=by intro k;induction k with|zero=>intro u w e1 e2;have⟨_,a1,a2⟩:=c.2.2;have⟨_,o,X⟩:=G.2.2;rw[e1]at a1;grind|succ k j=>intro u w e1 e2;have p1:=(ζe.1 e1).1;have p2:=(ζe.1 e2).1;have I:=ζd (l:=B) (i:=k) c?;have g:=ζd (l:=D) (i:=k) c?;have L:=c.2.1 k _ _ I e1;have Q:=G.2.1 k _ _ g e2;rw[j _ _ I g]at L;exact L.uniq Q
 have no:∀{B D:aX Zg},En t A m z D->(∃y,B[W B-1]?=M y/\y.l=m)->(∀(k:Nat)u w,B[k]?=M u->D[k]?=M w->u.l=w.l)->¬W B<W D:=λ{B D}G⟨y,e1,e2⟩key F=>by have Z:=(ζe.1 e1).1;have q:=ζd (l:=D) (i:=W B-1) c?;have S:=ζd (l:=D) (i:=W B-1+1) c?;have⟨i,a,b,_,T,h,d,_⟩:=G.2.1 _ _ _ q S;rw[<-key _ _ _ e1 q,e2,h]at T;grind
 have C:W B=W D:=by have a:=no G k1 key;have b:=no c k2 λk u w e1 e2=>(key k w u e2 e1).symm;omega
 refine List.ext_getElem (by simp[C]) λk e1 e2=>?_;simp only[List.getElem_map];simp only[List.length_map]at e1 e2;exact key k _ _ (ζd e1) (ζd e2)
theorem Ol.uniq{f:Nat->X'}{a:X'}{c:SW}{q r:Zg×Int}(h:Ol t A L f a c q)(k:Ol t A L f a c r):q.1.l=r.1.l/\q.2=r.2:=by
 rcases h with⟨rfl,rfl⟩|⟨rfl,h⟩
 .rcases k with⟨-,rfl⟩|⟨h,-⟩;all_goals grind
 rcases k with⟨h,-⟩|⟨-,k⟩;cases h;rcases h with⟨rfl,h⟩|⟨w,rfl,b,u,z⟩<;>rcases k with⟨rfl,k⟩|⟨w',rfl,k1,k2,k3⟩;grind;grind;grind;exact⟨dc.same (z _ k1 k2) (k3 _ b u),Y⟩
theorem abQ(B:dP t A L)(d:VT t){f:Nat->X'}{o:Zb}(T:Sat t A L f o){a:X'}(G:a=U↔Kx L f iY){c:Zg}(e:Cons t A c.l):
 ∃r,(H (eN o) λh=>bg h (H (gy o c) λD=>bg D.2 (M (D.1,0)) (M (Sl.nil,7))) (M (Sl.nil,15)):aY (Zg×Int))=M r/\Ol t A L f a c.l r:=by
 have⟨u,C,z⟩:=ZQ B d T;have I:u=a:=by rw[Bool.eq_iff_iff,z,G]
 subst I;rw[C,ζb]
 cases u with
 |false=>exact⟨_,bz ..,.inl ⟨rfl,rfl⟩⟩|true=>
  have⟨w,b,g,i,Q⟩:=adE B d T (z.1 rfl) (c:=c) e;rw[bq,g,ζb]
  cases b with
  |false=>exact⟨_,rfl,.inr ⟨rfl,.inl ⟨rfl,i rfl⟩⟩⟩|true=>exact⟨_,Y,.inr ⟨Y,.inr ⟨w,Y,Q Y⟩⟩⟩
theorem Ss(m:Small t)(hN:_l (bJ t)<1073741824){p:T'}(hs:p.Sm):
 ∃q r,dQ t p=M q/\eB t p=M r/\q.2=r.2/\ins q.1=ins r.1/\(∀y∈ins q.1,_l y<1073741824)/\q.1.l.length<1073741824:=by
 have ah:=m.1;have⟨r,tb,s,ts,e,h1,h2,a__,k2⟩:=ZW _k m hN hs;have Y:nv (len t.a?) (0:Int)=M (.row (replicate (_l t.a?.l) 0)):=by grind[nv]
 have hT:ta t p=M (tb,e):=by grind[ta]
 have nil:∀e:Int,∃q r:Zb×Int,M (Sl.nil,e)=M q/\M (Sl.nil,e)=M r/\q.2=r.2/\ins q.1=ins r.1/\(∀y∈ins q.1,_l y<1073741824)/\q.1.l.length<1073741824:=λe=>⟨_,_,_k,_k,_k,_k,λy e__=>by grind[ins,Sl.l],by simp[Sl.l]⟩
 by_cases P:e=0
 .subst P;have⟨l,A,f,E,L,B,G,hL,F,Z,T⟩:=k2 _k;have ai:=f.few;have aj:=Hp f;have⟨o,o1,R⟩:=true_eq (ts:=ts) (s:=s) B G Z (by rw[<-a__];exact T)
  rw[<-Wj a__]at R;obtain⟨ox,ho,x,rfl,V,x2,x3,x4⟩:=LN f B G F tb;obtain⟨cl,c1,c2,-⟩:=JM m l f E B G (by rw[x2];exact F) V x3 x4 T
  have I:Cons t A (replicate (_l t.a?.l) 0):=IJ f;have b__:∀d,Cons t A d->dc (replicate (_l t.a?.l) 0) d:=λd hD=>by refine⟨by rw[hD.1.1];simp,λj a b W H=>?_⟩;rw[List.getElem?_replicate]at W;split at W;cases W;exact hD.1.pos j b H;cases W
  have C:0<_l L:=List.length_pos_of_mem ((B.mem _).2 I);have c__:=ζd C;have aa:L[0]=replicate (_l t.a?.l) 0:=dc.same (T3 f E B c__ I) (b__ _ ((B.mem _).1 (t? C)));have ab:0<_l r.l:=by rw[<-iQ,F];exact C
  have d__:r.l[0].l=replicate (_l t.a?.l) 0:=by have:=rB ab;rw[F,c__]at this;rw[<-Option.some.inj this];exact aa
  have af:=f.ok.one;have⟨d,d1,n⟩:=sY (c:=r.l[0]) (by rw[d__];simp;omega) (by rw[d__];simp;omega)
  rw[d__]at n;have ak:xH t p=M (M x,0):=by simp_all[xH,bq]
  have hP:dQ t p=dQ.W1 x d (Sl.row [d]:Zb) t:=by simp_all[dQ,bq,idx]
  have⟨ib,i1,i2⟩:=O9 m f E (.row (replicate (_l t.a?.l) 0));have ad:ib=U:=i2.2 I;subst ad;have⟨u,u1,u2⟩:=abQ B f R c1 (c:=.row (replicate (_l t.a?.l) 0)) I;have hF:sx t p=M (u.1,u.2):=by simp_all[sx,w9,qn,bq]
  have hR:eB t p=(bg (u.2==0) (eB.W1 u.1 (.row (replicate (_l t.a?.l) 0)) (Sl.row [.row (replicate (_l t.a?.l) 0)]:Zb) t) (M (Sl.nil,u.2)):aY (Zb×Int)):=by grind[eB]
  have⟨q,q1,X⟩:=c2 d (by rw[n];exact I)
  rw[n]at X;have D:=X.uniq u2;rw[hP,hR]
  by_cases Q:q.2=0
  .have hm:∃w,q=(w,0)/\kr L (jQ tb) w.l/\∀d,kr L (jQ tb) d->dc w.l d:=by
    rcases X with⟨-,rfl⟩|⟨-,⟨rfl,-⟩|⟨w,rfl,K,w2,w3⟩⟩
    .cases Q
    .cases Q
    exact⟨w,_k,K,λd hd=>w3 d hd (b__ _ ((B.mem _).1 hd.1))⟩
   obtain⟨w,rfl,K,w3⟩:=hm;have S:=(B.mem _).1 K.1;have al:cl=U:=by rcases X with⟨-,h⟩|⟨h,-⟩;all_goals grind
   have⟨g,g1,g2,g3,g4,g5⟩:=Yr m l f E V S (λc hC am=>by
    have⟨z,z1,z2⟩:=c2 c hC;rcases z2 with⟨h,-⟩|⟨-,⟨-,h⟩|⟨v,rfl,v1,v2,v3⟩⟩
    all_goals grind[dc.same]) (c0:=d) (by rw[n];exact I) (by rw[n];grind)
   have⟨k,l1,l2,l3,l4,l5⟩:=Vp m f E S (w:=u.1) D.1.symm (c0:=.row (replicate (_l t.a?.l) 0)) I (b__ _ S);rw[<-D.2,show((0:Int)==0)=U from _k,bq];rw[n]at g4;refine⟨g,k,g1,l1,by rw[g2,l2],g4.same l4 g5 l5,λy e__=>?_,?_⟩
   .obtain⟨v,l,rfl⟩:=oV.1 e__;have⟨i,hi⟩:=d6.1 l;rw[(g4.1 i v hi).1.1.1];omega
   obtain⟨v,l,-⟩:=g5;have:=(g4.1 _ v l).2.2;have:=((g4.1 _ v l).1.1.sum).2;omega
  have ae:(u.2==0)=O:=by rw[<-D.2];grind
  rw[ae,bz,<-D.2];have:dQ.W1 x d (Sl.row [d]:Zb) t=M (Sl.nil,q.2):=by unfold dQ.W1;rw[eF];unfold dQ.bh;rw[q1,ζb,beq_eq_false_iff_ne.2 Q,bz];rfl
  rw[this];exact nil _
 have H:(e==0)=O:=beq_eq_false_iff_ne.2 P;have e1:dQ t p=M (.nil,e):=by unfold dQ xH;rw[hT,ζb];grind[bz]
 have e2:eB t p=M (.nil,e):=by unfold eB sx w9 qn;rw[Y,ζb,h2,ζb];simp only;rw[H,bz,ζb];grind[bz]
 rw[e1,e2];exact nil e
theorem QK(d:Small t)(T:_l (bJ t)<1073741824)(l:Sl X')(c:Zg):
 ∃q r,tq t l c=M q/\s9 t l c=M r/\q.1.l=r.1.l/\q.2=r.2/\q.1.l.length<1073741824:=by
 have nil:∀e:Int,∃q r:Zg×Int,M (Sl.nil,e)=M q/\M (Sl.nil,e)=M r/\q.1.l=r.1.l/\q.2=r.2/\q.1.l.length<1073741824:=λe=>⟨_,_,_k,_k,_k,_k,by simp[Sl.l]⟩
 have⟨b,B,S,c__⟩:=Am d T;unfold tq s9;rw[B,S,ζb,ζb]
 cases b with
 |false=>exact nil 1|true=>
  have a:=c__ _k;obtain⟨A,-,-,g⟩:=a.msgs;have R:=a.few;have C:mT t=_n (sU t) λx=>M (x.1,x.2):=rfl
  rw[bq,bq,C];rcases BE d B a g with⟨L,r,s,w,D,G,I,i,d__⟩|⟨G,I⟩
  .rw[G,I,ζb,ζb,ζb];simp only;rw[show((0:Int)==0)=U from _k,bq,bq];have b__:len r=(_l L:Int):=by simp only[len];rw[<-iQ,i]
   have j:len s=(_l L:Int):=by simp only[len];rw[<-iQ,d__]
   rw[b__,j]
   cases W:(len l==(_l L:Int))with
   |false=>exact nil 3|true=>
    have z:_l l.l=_l L:=by have:=eq_of_beq W;grind
    rw[bq,bq];obtain⟨V,X,x,rfl,Y,x2,Z,k⟩:=LN a w D i l;have⟨cl,m,n,p⟩:=JM d B a g w D (by rw[x2];exact i) Y Z k z
    have⟨y,i1,i2⟩:=O9 d a g c;rw[X,ζb,ζb,i1,ζb]
    cases y with
    |false=>
     have f:¬Cons t A c.l:=λh=>by have:=i2.2 h;cases this
     rw[p c f];exact nil 18
    |true=>
     have f:=i2.1 rfl;have⟨o,o1,E⟩:=true_eq (ts:=l) (s:=s) w D d__ z;have⟨u,F,H⟩:=abQ w a E m f;have⟨q,K,Q⟩:=n c f;rw[bq,o1,ζb,F,K];have⟨a__,e__⟩:=Q.uniq H;refine⟨_,_,_k,_k,a__,e__,?_⟩;rcases Q with⟨-,rfl⟩|⟨-,⟨rfl,-⟩|⟨v,rfl,P,-,-⟩⟩
     .simp[Sl.l]
     .simp[Sl.l]
     show _l v.l<_;rw[((w.mem _).1 P.1).1.1];omega
  rw[G,I];exact nil 16
theorem UC(a:Small t)(B:W (bJ t)<1073741824){p:T'}(D:p.Sm){l:Sl X'}{c:Zg}:qp t p l c=M U:=by have⟨w,u⟩:=adl a B D;unfold qp;rw[show zH=M U from Y,ζb,bq,u,ζb];cases w with|false=>rfl|true=>rw[bq,ζb];cases _r (len l>500)with|true=>rfl|false=>rw[bz,ζb];cases _r (len c>20)with|true=>rfl|false=>rw[bz];have⟨q,r,b,z,C,G,I,h⟩:=Ss a B D;have⟨f,g,d,L,i,Q,e⟩:=QK a B l c;rw[b,ζb,d,ζb,z,ζb,L,ζb,rT G I h,ζb,bq,C,show(r.2==r.2)=U from f?,ζb,bq,K8 e,_c i,ζb,ζb,bq,Q,show(g.2==g.2)=U from f?];rfl
end
end Go.VE
namespace Go.VE
theorem CC{α:Type}[cz α]{x:α}:∀{l:aX α},x∈l->cz.wt x<=(l.map cz.wt).sum
 |y::l,h=>by simp only[J?,z!];rcases mem_cons.1 h with rfl|h;omega;have:=CC h;omega
theorem zz{α:Type}[cz α](h:∀x:α,1<=cz.wt x):∀(l:aX α),W l<=(l.map cz.wt).sum
 |[]=>y? _|y::l=>by simp only[J?,z!,U?];have:=zz h l;have:=h y;omega
theorem D0{α:Type}[cz α](s:Sl α):cz.wt s=(s.l.map cz.wt).sum+1:=rfl
theorem Ef(p:Int):∀(es:aX WF)(j:Int),W (jU p j es)=W es
 |[],_=>rfl|_::es,j=>by simp only[jU,U?,Ef p es]
theorem LF:∀(ps:aX bS)(i:Int),W (gQ i ps)<=(ps.map cz.wt).sum
 |[],_=>y? _|p::ps,i=>by simp only[gQ,ζi,Ef,J?,z!];have a:=LF ps (i+1);have u:=zz (α:=WF) (λx=>C! ..) p.b?.l;have w:cz.wt p=cz.wt p.name+cz.wt p.g?+cz.wt p.b?+1:=rfl;have z:=D0 p.b?;omega
theorem Up{t:Z4}(h:cz.wt t<=1048576):Small t/\W (bJ t)<1073741824:=by have B:cz.wt t=cz.wt t.a?+1:=rfl;have b:=D0 t.a?;have C:=zz (α:=bS) (λx=>C! ..) t.a?.l;have D:=LF t.a?.l 0;refine⟨⟨c?,λp u=>?_⟩,by show(gQ 0 t.a?.l).length<_;omega⟩;have G:=CC u;have I:cz.wt p=cz.wt p.name+cz.wt p.g?+cz.wt p.b?+1:=rfl;have d:=D0 p.b?;have L:=D0 p.g?;have g:=zz (α:=WF) (λx=>C! ..) p.b?.l;have Q:=zz (α:=Var) (λx=>C! ..) p.g?.l;have w:cz.wt p.name=p.name.size+1:=rfl;refine⟨c?,c?,c?,λv a=>?_,λe z=>?_⟩;have k1:=CC a;have k2:cz.wt v=cz.wt v.name+cz.wt v.init_+1:=rfl;have k3:cz.wt v.name=v.name.size+1:=rfl;omega;have k1:=CC z;have k2:cz.wt e=cz.wt e.kind+cz.wt e.k?+cz.wt e.d?+cz.wt e.time+cz.wt e.assign+1:=rfl;have k3:=D0 e.assign;have k4:=zz (α:=Assign) (λx=>C! ..) e.assign.l;omega
theorem ac4(p:T'):cz.wt p<=1048576->p.Sm:=by induction p using Pred.ind with|h p z=>intro h;have u:∃m,cz.wt p=m+Pred.Xo p.l+1:=(by cases p;exact⟨_,Y⟩);have⟨m,u⟩:=u;have a:=Pred.wtE p.l;have B:=D0 p.l;have C:=zz (α:=T') (λx=>by cases x;exact C! ..) p.l.l;unfold Pred.Sm;rw[p.l9,ζh,O?];refine⟨_c c?,λq w=>z q w ?_⟩;have:=CC w;omega
end Go.VE
namespace Go.Proofs.YtegogepdjcdfcaaGreatDoor
open Go.ChangeShapes Go.WideShapes Go.ChangeAt Go.RowKit Go.VE
theorem own:ownKnob Tryz.prog.godebug=J:=by kernel_rfl
theorem kids:Kids Tryz.prog (·<Tryz.prog.types.size):=kids_rows q? q?
theorem full:∀t e,t<Tryz.prog.types.size->Tryz.prog.underlying t=M (.slice e)->0<Tryz.prog.cellsOf e:=slices_full_of Tryz.prog q?
theorem A3{H:Type}:∀l:aX (DataW H),Rows.uptoBulkAll l=(l.map Rows.uptoBulk).sum
 |[]=>by simp[Rows.uptoBulkAll]|d::r=>by simp[Rows.uptoBulkAll,A3 r]
theorem Hf{H:Type}:vK (H:=H) Rows.uptoBulk where
 lit l:=by cases l<;>simp[Rows.uptoBulk]
 str s:=by simp[Rows.uptoBulk]
 nil:=by simp[Rows.uptoBulk]
 slice es u:=by rw[Rows.uptoBulk,A3,A3];omega
 agg ps:=by rw[Rows.uptoBulk,A3];exact y? _
theorem PW:Tryz.prog.globalNamed "antecede/predtype.parts" =M 0:=by kernel_rfl
theorem Wu:(Tryz.prog.globals[0]?).map (·.type)=M 217:=by kernel_rfl
theorem table{d:World}(h:laidMetH Tryz.prog Rows.linearWaysUptoRow.laid d):Lib.TabIs Tryz.prog d "antecede/predtype.parts" N FJ:=Lib.tabIs_of_head (rest:=[]) PW Wu Tryz.underlying217 Tryz.underlying3 q? q? h
theorem adn{d:World}(h:laidMetH Tryz.prog Rows.linearWaysUptoRow.laid d):xo (snap d):=λg cs a=>by
 change(if Nat.beq g 0 then M (FJ.map (V.int N))else J)=M cs at a;split at a;next u=>cases a;have:g=0:=Nat.eq_of_beq_eq_true u;subst this;exact Vt (λi b=>(table h).cell PW i b) (by decide)
 cases a
set_option maxRecDepth 100000 in
theorem N4(H:Type)(enc:W'×V'->H)(W:World)(j?:Nat)(args:Array V')(ds a:aX (DataW H))(before:aX MemPlace)
 (B:∀(j:Nat)t v,Tryz.f3.params[j]?=M t->args[j]?=M v->Value.okWide Tryz.prog W .any j? t v)
 (D:DataW.Whole enc Tryz.prog Tryz.f3.params.toList Rows.linearWaysSpec.vars O W args.toList ds a before)(b:Rows.uptoSmall H (ds++a)=U)(T:laidMetH Tryz.prog Rows.linearWaysUptoRow.laid W):
 Calls Tryz.prog 3 args W λe G=>∃v,e=.returned v/\Rows.linearWaysSpec.post enc Tryz.prog Tryz.f3 O U O O W args v G:=by
 have u:=D;obtain⟨p,q,z,c,rfl,c__,X⟩:=D;have I:DataW.TrodAll enc Tryz.prog W 0 (λ_=>U) U Tryz.f3.params.toList args.toList ds p:=z
 rw[Tryz.params3]at I B;obtain⟨b__,Y,Z,aa,p0,q0,C,rfl,rfl,d,g⟩:=trodAll_cons I;obtain⟨L,ab,h,ad,p1,q1,rfl,rfl,rfl,i,r1⟩:=trodAll_cons g;obtain⟨d__,ae,k,af,p2,q2,rfl,rfl,rfl,l,r2⟩:=trodAll_cons r1;obtain⟨Q,ah,m,ai,p3,q3,rfl,rfl,rfl,n,r3⟩:=trodAll_cons r2;obtain⟨rfl,rfl,rfl⟩:=trodAll_nil r3;obtain rfl:args=#[b__,L,d__,Q]:=by cases args;simp_all
 obtain⟨rfl,rfl⟩:=trodVars_none c;have⟨a0,o,k0,s⟩:=Reads.Kj (t:=24) (α:=VE.Trace) B 0 rfl _k d;have⟨a1,x,k1,y⟩:=Reads.Kj (t:=27) (α:=VE.Pred) B 1 rfl _k i;have⟨a2,A,k2,E⟩:=Reads.Kj (t:=28) (α:=Sl X') B 2 rfl _k l;have⟨a3,F,k3,K⟩:=Reads.Kj (t:=29) (α:=Zg) B 3 rfl _k n;have hb:cz.wt a0+cz.wt a1+cz.wt a2+cz.wt a3<=1048576:=by have c0:=s Rows.uptoBulk Hf;have c1:=y Rows.uptoBulk Hf;have c2:=E Rows.uptoBulk Hf;have c3:=K Rows.uptoBulk Hf;have S:Rows.uptoBulkAll ([Z,h,k,m]++[])<=1048576:=_d b;rw[A3]at S;simp only[List.append_nil,J?,List.map_nil,z!,List.sum_nil]at S;omega
 have⟨a__,e__⟩:=Up (t:=a0) c?
 have R:gO cL 3 [VE.enc a0,VE.enc a1,VE.enc a2,VE.enc a3]=M [.bool U]:=by have hl:_n (qp a0 a1 a2 a3) (λr:X'=>M [V.bool r])=M [.bool U]:=(by rw[UC a__ e__ (ac4 a1 c?)];rfl);exact(Ce a0 a1 a2 a3).F.h () _ hl
 have:=Pw (P:=Tryz.prog) QB Ie calls (f:=3) (xs:=[VE.enc a0,VE.enc a1,VE.enc a2,VE.enc a3]) (by simp[V.cT,V.good,lU]) R (w:=W) (args:=#[b__,L,d__,Q]) (adn T) (cN.cons o (cN.cons x (cN.cons A (cN.cons F .nil))))
 refine this.mono λe G⟨he,hg⟩=>?_
 subst he;exact⟨_,_k,RT kids full (by rw[Tryz.params3];decide) _k _k _k Tryz.underlying4 u hg⟩
noncomputable def C3(os:Os):World:=
 {World.holding Tryz.prog os ⟨#[],#[],[]⟩with heap:=(World.holding Tryz.prog os ⟨#[],#[],[]⟩).heap.modify 0 fun
  |.cells _ t frozen=>.cells (FJ.map (Value.int N)).toArray t frozen|o=>o}
theorem VY(os:Os):laidMet Tryz.prog Rows.linearWaysUptoRow.laid ((C3 os).forCall (λ_ _=>0) ⟨#[],#[.agg #[.slice J 0 0],.agg #[.int N 0,.int N 0,.int N 0,.int N 0,.string ByteArray.empty,.slice J 0 0],.slice J 0 0,.slice J 0 0],[]⟩).memory:=laidMet_of_run' 8 q? q?
theorem V3(os:Os){H:Type}(enc:W'×V'->H):∃places,DataW.whole enc Tryz.prog ((C3 os).forCall (λ_ _=>0) ⟨#[],#[.agg #[.slice J 0 0],.agg #[.int N 0,.int N 0,.int N 0,.int N 0,.string ByteArray.empty,.slice J 0 0],.slice J 0 0,.slice J 0 0],[]⟩).memory Tryz.f3.params.toList Rows.linearWaysSpec.vars O (#[.agg #[.slice J 0 0],.agg #[.int N 0,.int N 0,.int N 0,.int N 0,.string ByteArray.empty,.slice J 0 0],.slice J 0 0,.slice J 0 0]:Array V').toList 8=M ([.agg [.nil],.agg [.lit (.int N 0),.lit (.int N 0),.lit (.int N 0),.lit (.int N 0),.lit (.string []),.nil],.nil,.nil],[],places):=⟨[],by kernel_rfl⟩
set_option maxRecDepth 100000 in
theorem SH(os:Os)(B:os.Started)(H:Type)(enc:W'×V'->H)(F:Stop.Interp):
 ReturnsInHanded {} Tryz.checked os 3 .any ((Rows.OpenSpec.upto Rows.linearWaysSpec).preRow enc Tryz.prog Tryz.f3 Rows.linearWaysUptoRow.domain O Rows.linearWaysUptoRow.laid) (((Rows.OpenSpec.upto Rows.linearWaysSpec).at F).post enc Tryz.prog Tryz.f3 O U O O):=by
 have⟨places,z⟩:=V3 os enc;refine returnsInHanded_of_row (C:=Tryz.checked) (s:=Rows.OpenSpec.upto Rows.linearWaysSpec) own B q? Tryz.func3
  (witness_row_at (enc:=enc) (C:=Tryz.checked) O (C3 os) #[.agg #[.slice J 0 0],.agg #[.int N 0,.int N 0,.int N 0,.int N 0,.string ByteArray.empty,.slice J 0 0],.slice J 0 0,.slice J 0 0] Y q? q? q?
   (OpenSpec.preRow_of_cond 8 z q? (λk a=>by cases a;kernel_rfl) q? (VY os))) ?_
 intro d j? args ds b before w D _ u _ G _ _;exact N4 H enc d j? args ds b before w D (u _ Y) G
theorem aak:Rows.LinearWaysUptoSaid:=
 OpenClaim.holds_of_cond 3 Tryz.f3 Y Y Y Y Y Y Y ⟨Y,Y,Y,Y,Y⟩ Y Y Y Y Y q? Tryz.func3 q?
  (_d q?) (by unfold Func.isWrapper;first|(rw[L' (by decide+kernel)];kernel_rfl)|(rw[M' (by decide+kernel)];exact⟨Y,Y⟩))
  (λos u d enc _ F=>by rw[OpenClaim.pre_eq_preRow];exact SH os u d enc F)
theorem VK(f:Y')(fn:Func)(D:Tryz.pinned.checked.prog.funcNamed "antecede/antecedelaw32.LinearWays" =M f)(B:Tryz.pinned.checked.prog.funcs[f]?=M fn):
 O=Tryz.pinned.checked.prog.looks []/\∀(j:Nat)t,fn.params[j]?=M t->Tryz.pinned.checked.prog.wantsStandIn t=O:=by
 obtain rfl:f=3:=Option.some.inj ((show Tryz.prog.funcNamed "antecede/antecedelaw32.LinearWays" =M 3 by kernel_rfl).symm.trans D)|>.symm
 obtain rfl:fn=Tryz.f3:=(Option.some.inj (Tryz.func3.symm.trans B)).symm;refine⟨by kernel_rfl,λj t z=>?_⟩
 rw[Tryz.params3]at z;have C:t∈[24,27,28,29]:=by simpa using Array.mem_of_getElem? z
 have w:([24,27,28,29].all λu=> !Tryz.prog.wantsStandIn u)=U:=by kernel_rfl
 exact(show Tryz.prog.wantsStandIn t=O by simpa using O?.1 w t C)
theorem linearWaysProved:Rows.LinearWaysUptoCardSaid:=Claim7.holds_tied_plain_at .later [] _ _ _ _ aak (λ_ h=>by cases h) q? (λ_ h=>by cases h) linearWaysUpto_row_tie Y ⟨Y,Y⟩ q? Y VK q?
#print axioms linearWaysProved
end Go.Proofs.YtegogepdjcdfcaaGreatDoor
