/-
 The second layer, part 2: texts, calls, iterators.
-/
import Derived.Test.YtnfakljmdnbipaaN1
set_option linter.all false
namespace Go.VE
def rJ:Nat→List SV→Tb SV
 | _,[]=>[]
 | i,v::vs=>(i,v)::rJ (i+1) vs
def start (svs:List SV) (m0:gq):St:=⟨rJ 0 svs,m0,m0.map (·.1),[],true,0⟩
def iH (S:Sys) (c:ck):Prop:=
 ∀f svs m0 rs m1,c f svs m0=some (rs,m1)→∀(ν:Nu) (Z:Nat→Prop) (args:List V) (H:an),(S.E.keep f=true∨H=[])→R ν Z (start svs m0) args H→bF ν m0 H Z svs args →
  ∃n y H' ν' Z' st' F' ys,run S.E n (.fn f) args H=some (y,H')∧y=result ys∧st'.m=m1∧bF ν' m1 H' Z' rs ys∧R ν' Z' st' F' H'∧Ev (fun _=>False) ν Z (start svs m0) H ν' Z' st' H'
section
variable {Rv:Nat→Prop} {ν ν':Nu} {Z Z':Nat→Prop} {st st':St} {m m':Tb aL} {F F':Frame} {H H' H1:an} {N:Nat→FuncId}
mutual
theorem kD:∀{x:V},x.scalar=true→x.bg=true
 | .bool _,_|.int ..,_|.str _,_|.cq,_|.eT,_|.aO,_|.dY,_|.ay,_=>rfl
 | .agg cs,h=>by simp only[V.scalar]at h;simp only[V.bg];exact nF h
 | .tup cs,h=>by simp only[V.scalar]at h;simp only[V.bg];exact nF h
 | .fsl ..,h|.hsl ..,h|.fptr ..,h|.hptr ..,h|.clo ..,h|.yld _,h|.fmap _,h|.hmap _,h=>by simp[V.scalar]at h
theorem nF:∀{l:List V},V.cE l=true→V.bR l=true
 | [],_=>rfl
 | x::r,h=>by
  simp only[V.cE,Zj]at h;simp only[V.bR,Zj];exact⟨kD h.1,nF h.2⟩
end
theorem G5 {k:Fl} {es:Nat} {xs:List (List V)} {d:Nat} (o:en ν m H Z d (.sl k es xs)):(kM k es xs).bg=true:=by
 by_cases hk:b_ k=true
 ·simp only[en,hk,if_true]at o;obtain⟨ys,_,_,hf,_⟩:=o;have e:kM k es xs=.fsl es xs:=by cases k <;> simp[b_]at hk <;> rfl
  rw[e];simp only[V.bg];exact hf.bg
 ·cases k <;> simp[b_]at hk <;> rfl
mutual
theorem Ff (ho:∀d ob,ak m d=some ob→en ν m H Z d ob):∀(n:Nat) (sv:SV) (x y:V),dI m n sv=some x→cZ ν m H Z sv y→x.bg=true
 | n,.v x,z,y,h,r=>by simp only[dI,Za]at h;subst h;exact r.fr.bg
 | n,.own d,z,y,h,r=>by
  simp only[dI]at h;split at h
  ·rename_i k es xs hob;simp only[Za]at h;subst h;exact G5 (ho d _ hob)
  ·simp at h
 | 0,.ptr d o,z,y,h,r=>by simp[dI]at h
 | n+1,.ptr d o,z,y,h,r=>by
  simp only[dI]at h;split at h
  ·rename_i cs hob;split at h
   ·rename_i xs hx;split at h
    ·simp only[Za]at h;subst h;obtain⟨es,cs',_,hc,_⟩:=ho d _ hob;simp only[V.bg];exact sR _ (kj ho n cs xs cs' hx hc)
    ·simp at h
   ·simp at h
  ·simp at h
 | n,.el d i o,z,y,h,r=>by cases n <;> simp[dI]at h
 | n,.yl id,z,y,h,r=>by cases n <;> simp[dI]at h
 | n,.mp d,z,y,h,r=>by
  simp only[dI]at h;split at h
  ·rename_i kvs hob;simp only[Za]at h;subst h;obtain⟨kvs',_,hk⟩:=ho d _ hob;simp only[V.bg];refine Ax.2 fun j u hu => ?_
   have hj:j<kvs'.length:=by rw[←hk.1];exact(Zf.1 hu).1
   obtain⟨⟨_,h1⟩,h2⟩:=hk.2 j u _ hu (Ze hj);exact⟨kD h1,h2.bg⟩
  ·simp at h
 | 0,.clo f a b,z,y,h,r=>by simp[dI]at h
 | n+1,.clo f a b,z,y,h,r=>by
  simp only[dI]at h;split at h
  ·rename_i x1 x2 h1 h2;simp only[Za]at h;subst h;obtain⟨a',b',rfl,ra,rb⟩:=r.iW;simp only[V.bg,Zj];exact⟨kj ho n a x1 a' h1 ra,kj ho n b x2 b' h2 rb⟩
  ·simp at h
 | 0,.tup l,z,y,h,r=>by simp[dI]at h
 | n+1,.tup l,z,y,h,r=>by
  simp only[dI]at h;obtain⟨xs,h1,rfl⟩:=Zh.1 h;obtain⟨l',rfl,rl⟩:=r.lN;simp only[V.bg];exact kj ho n l xs l' h1 rl
theorem kj (ho:∀d ob,ak m d=some ob→en ν m H Z d ob):∀(n:Nat) (svs:List SV) (xs ys:List V),cj m n svs=some xs→bF ν m H Z svs ys→V.bR xs=true
 | n,[],xs,ys,h,r=>by simp only[cj,Za]at h;subst h;rfl
 | n,sv::svs,xs,ys,h,r=>by
  simp only[cj]at h;split at h
  ·rename_i y s h1 h2;simp only[Za]at h;subst h;obtain⟨y',ys',rfl,r1,r2⟩:=r.inv;simp only[V.bR,Zj];exact⟨Ff ho n sv y y' h1 r1,kj ho n svs s ys' h2 r2⟩
  ·simp at h
end
theorem Bb {f:V→Option V}:∀{xs ys:List (V×V)},xs.length=ys.length→(∀(j:Nat) u v,xs[j]? = some u→ys[j]? = some v→f v.1=some u.1∧f v.2=some u.2)→oK f ys=some xs
 | [],[],_,_=>rfl
 | [],y::ys,h,_=>by simp at h
 | x::xs,[],h,_=>by simp at h
 | (a,b)::xs,(c,d)::ys,h,hf=>by
  obtain⟨h1,h2⟩:=hf 0 _ _ rfl rfl;simp only at h1 h2;simp only[oK,h1,h2,Bb (xs:=xs) (ys:=ys) (by simpa using h) fun j u v hu hv=>hf (j+1) u v (by simpa using hu) (by simpa using hv)]
theorem BA:∀{l:List (V×V)} {n:Nat},V.nv n l=true↔∀(j:Nat) u,l[j]? = some u→u.1.lvl n=true∧u.2.lvl n=true
 | [],n=>by simp[V.nv]
 | (k,x)::l,n=>by
  simp only[V.nv,Zj,BA (l:=l)];constructor
  ·rintro⟨h1,h2⟩ j u hu
   cases j with
   | zero=>simp at hu;subst hu;exact h1
   | succ j=>exact h2 j u (by simpa using hu)
  ·intro h;exact⟨h 0 (k,x) rfl,fun j u hu=>h (j+1) u (by simpa using hu)⟩
theorem rz {n:Nat} {xs ys:List V} (hm:jl (borrow n H1) ys=some xs) (hcl:V.iY ys=true):ys=xs:=by
 have h2:=iC (f:=borrow n H1) (xs:=ys) (ys:=ys) rfl fun j u v hu hv=>by rw[hu]at hv;cases hv;exact d9 n H1 (kA.1 hcl j u hu)
 rw[hm]at h2;cases h2;rfl
mutual
theorem vG {fr:List Nat} (hfr:∀d∈fr,∀e ob,ak m e=some ob→ob.cz d=false) (ho:∀d ob,ak m d=some ob→d∉fr→en ν m H1 Z d ob) :
 ∀(n:Nat) (sv:SV) (x y:V),dI m n sv=some x→(∀d∈fr,sv.cz d=false)→cZ ν m H1 Z sv y→∀k,x.lvl k=true→borrow k H1 y=some x
 | n,.v x,z,y,h,hn,r,k,hk=>by simp only[dI,Za]at h;subst h;exact r.fr.borrow k hk
 | n,.own d,z,y,h,hn,r,k,hk=>by
  simp only[dI]at h;split at h
  ·rename_i fl es xs hob;simp only[Za]at h;subst h;obtain⟨_,_,_,e,rfl⟩:=r.ju hob;cases e;have hd:d∉fr:=fun hd=>by have:=hn d hd;simp[SV.cz]at this
   have o:=ho d _ hob hd
   by_cases hkk:b_ fl=true
   ·simp only[en,hkk,if_true]at o;obtain⟨ys,hr,hl,hf,_⟩:=o;rw[nV hkk];have e:kM fl es xs=.fsl es xs:=by cases fl <;> simp[b_]at hkk <;> rfl
    rw[e]at hk ⊢;exact(FR.DV (Z:=fun _=>True) trivial (show aq H1 (ν d).1=some (es,ys)by unfold aq;rw[hr];rfl) hl (hf.mono fun id h=>⟨trivial,rfl⟩)).borrow k hk
   ·cases fl <;> simp[b_]at hkk
    ·exact d9 k H1 rfl
    ·exact d9 k H1 rfl
  ·simp at h
 | 0,.ptr d o,z,y,h,hn,r,k,hk=>by simp[dI]at h
 | n+1,.ptr d o,z,y,h,hn,r,k,hk=>by
  simp only[dI]at h;split at h
  ·rename_i cs hob;split at h
   ·rename_i xs hx;split at h
    ·rename_i hle;simp only[Za]at h;subst h;obtain⟨_,e,rfl⟩:=r.lO hob;cases e;have hd:d∉fr:=fun hd=>by have:=hn d hd;simp[SV.cz]at this
     obtain⟨es,cs',hr,hc,_⟩:=ho d _ hob hd
     cases k with
     | zero=>simp[V.lvl]at hk
     | succ k=>
      simp only[V.lvl]at hk;have hns:∀e∈fr,SV.c_ e (cs.drop o)=false:=fun e he=>by
       have:=hfr e he d _ hob;simp only[aL.cz]at this
       cases hh:SV.c_ e (cs.drop o)with
       | false=>rfl
       | true=>
        exfalso;have:∀{l:List SV} {j:Nat},SV.c_ e (l.drop j)=true→SV.c_ e l=true:=by
         intro l
         induction l with
         | nil=>intro j h;simpa using h
         | cons a l ih=>intro j h;cases j with
          | zero=>simpa using h
          | succ j=>simp only[SV.c_,Bool.or_eq_true];exact .inr (ih (by simpa using h))
        rw[this hh]at *;simp_all
      have hlen:xs.length=cs.length:=by
       have:∀{l:List SV} {r:List V},cj m n l=some r→r.length=l.length:=by
        intro l
        induction l with
        | nil=>intro r h;simp only[cj,Za]at h;subst h;rfl
        | cons a l ih=>
         intro r h;simp only[cj]at h;split at h
         ·rename_i h1 h2;simp only[Za]at h;subst h;simp[ih h2]
         ·simp at h
       exact this hx
      have hxd:cj m n (cs.drop o)=some (xs.drop o):=by
       have:∀{l:List SV} {r:List V} {j:Nat},cj m n l=some r→cj m n (l.drop j)=some (r.drop j):=by
        intro l
        induction l with
        | nil=>intro r j h;simp only[cj,Za]at h;subst h;simp[cj]
        | cons a l ih=>
         intro r j h;have h0:=h;simp only[cj]at h;split at h
         ·rename_i h1 h2;simp only[Za]at h;subst h
          cases j with
          | zero=>exact h0
          | succ j=>exact ih h2
         ·simp at h
       exact this hx
      have hb:=iw hfr ho n (cs.drop o) (xs.drop o) (cs'.drop o) hxd hns (hc.drop o) k hk;unfold borrow;simp only[V.closed,Bool.false_eq_true,if_false,hr,Zc,Ob.rows,List.getElem?_cons_zero,if_pos (show o≤cs'.length by rw[←hc.1,←hlen];exact hle),hb,Option.map_some]
    ·simp at h
   ·simp at h
  ·simp at h
 | n,.el d i o,z,y,h,hn,r,k,hk=>by cases n <;> simp[dI]at h
 | n,.yl id,z,y,h,hn,r,k,hk=>by cases n <;> simp[dI]at h
 | n,.mp d,z,y,h,hn,r,k,hk=>by
  simp only[dI]at h;split at h
  ·rename_i kvs hob;simp only[Za]at h;subst h;obtain⟨_,e,rfl⟩:=r.zb hob;cases e;have hd:d∉fr:=fun hd=>by have:=hn d hd;simp[SV.cz]at this
   obtain⟨kvs',hr,hkv⟩:=ho d _ hob hd
   cases k with
   | zero=>simp[V.lvl]at hk
   | succ k=>
    simp only[V.lvl]at hk;unfold borrow;simp only[V.closed,Bool.false_eq_true,if_false,hr];rw[Bb (xs:=kvs) (ys:=kvs') hkv.1 fun j u v hu hv => ?_]
    ·rfl
    ·obtain⟨⟨e1,e2⟩,e3⟩:=hkv.2 j u v hu hv;exact⟨by rw[←e1];exact d9 k H1 (V.jI (kD e2)),e3.borrow k (BA.1 hk j u hu).2⟩
  ·simp at h
 | 0,.clo f a b,z,y,h,hn,r,k,hk=>by simp[dI]at h
 | n+1,.clo f a b,z,y,h,hn,r,k,hk=>by
  simp only[dI]at h;split at h
  ·rename_i x1 x2 h1 h2;simp only[Za]at h;subst h;obtain⟨a',b',rfl,ra,rb⟩:=r.iW
   cases k with
   | zero=>simp[V.lvl]at hk
   | succ k=>
    simp only[V.lvl,Zj]at hk;have hb1:=iw hfr ho n a x1 a' h1 (fun d hd=>by have:=hn d hd;simp only[SV.cz,Bool.or_eq_false_iff]at this;exact this.1) ra k hk.1
    have hb2:=iw hfr ho n b x2 b' h2 (fun d hd=>by have:=hn d hd;simp only[SV.cz,Bool.or_eq_false_iff]at this;exact this.2) rb k hk.2
    by_cases hcl:(V.clo f a' b').closed=true
    ·rw[d9 _ _ hcl];simp only[V.closed,Zj]at hcl;rw[rz hb1 hcl.1,rz hb2 hcl.2]
    ·unfold borrow;rw[if_neg hcl];simp only[hb1,hb2]
  ·simp at h
 | 0,.tup l,z,y,h,hn,r,k,hk=>by simp[dI]at h
 | n+1,.tup l,z,y,h,hn,r,k,hk=>by
  simp only[dI]at h;obtain⟨xs,h1,rfl⟩:=Zh.1 h;obtain⟨l',rfl,rl⟩:=r.lN
  cases k with
  | zero=>simp[V.lvl]at hk
  | succ k=>
   simp only[V.lvl]at hk;have hb1:=iw hfr ho n l xs l' h1 (fun d hd=>by have:=hn d hd;simpa [SV.cz]using this) rl k hk
   by_cases hcl:(V.tup l').closed=true
   ·rw[d9 _ _ hcl];simp only[V.closed]at hcl;rw[rz hb1 hcl]
   ·unfold borrow;rw[if_neg hcl];simp only[hb1,Option.map_some]
theorem iw {fr:List Nat} (hfr:∀d∈fr,∀e ob,ak m e=some ob→ob.cz d=false) (ho:∀d ob,ak m d=some ob→d∉fr→en ν m H1 Z d ob) :
 ∀(n:Nat) (svs:List SV) (xs ys:List V),cj m n svs=some xs→(∀d∈fr,SV.c_ d svs=false)→bF ν m H1 Z svs ys→∀k,V.dc k xs=true→jl (borrow k H1) ys=some xs
 | n,[],xs,ys,h,hn,r,k,hk=>by simp only[cj,Za]at h;subst h;rw[r.cS];rfl
 | n,sv::svs,xs,ys,h,hn,r,k,hk=>by
  simp only[cj]at h;split at h
  ·rename_i y s h1 h2;simp only[Za]at h;subst h;obtain⟨y',ys',rfl,r1,r2⟩:=r.inv;simp only[V.dc,Zj]at hk;have b1:=vG hfr ho n sv y y' h1 (fun d hd=>by have:=hn d hd;simp only[SV.c_,Bool.or_eq_false_iff]at this;exact this.1) r1 k hk.1
   have b2:=iw hfr ho n svs s ys' h2 (fun d hd=>by have:=hn d hd;simp only[SV.c_,Bool.or_eq_false_iff]at this;exact this.2) r2 k hk.2
   simp only[jl,b1,b2]
  ·simp at h
end
end
end Go.VE
namespace Go.VE
def ja (E:Env) (call:dN) (ops:List Oper) (place:Option (Nat×Nat)) (f:FuncId) (args:List V) (H:an):Option (V×an):=
 if E.keep f then
  match place with
  | none=>e7 E call f args H
  | some (_,i)=>if eJ ops i then e7 E call f args H else none
 else match place with
  | none=>match dD call f args H with
   | some y=>some (y,if y.scalar then H else bT H (dz (cB 8 H) args))
   | none=>none
  | some (b,i)=>match dD call f args (H.take b)with
   | some y=>if y.scalar then some (y,H)else if gM (H.take b) (dz (cB 8 (H.take b)) args)then some (y,bT H (dz (cB 8 (H.take b)) args))else none
   | none=>if eJ ops i then match dD call f args H with
    | some y=>some (y,if y.scalar then H else bT H (dz (cB 8 H) args))
    | none=>none
    else none
section
variable {Rv:Nat→Prop} {ν ν':Nu} {Z Z':Nat→Prop} {st st':St} {m m':Tb aL} {F F':Frame} {H H' H1:an} {N:Nat→FuncId} {S:Sys} {c:ck}
theorem Bg:∀(l:List SV) (i s:Nat) (sv:SV),ak (rJ i l) s=some sv→∃j,s=i+j∧l[j]? = some sv
 | [],i,s,sv,h=>by simp[rJ,ak]at h
 | x::l,i,s,sv,h=>by
  simp only[rJ,ak]at h;split at h
  ·rename_i e;simp only[Za]at h;subst h;exact⟨0,by omega,rfl⟩
  ·obtain⟨j,h1,h2⟩:=Bg l (i+1) s sv h;exact⟨j+1,by omega,by simpa using h2⟩
theorem rM {svs:List SV} {args:List V} (h:bF ν m H Z svs args):∀s sv,ak (rJ 0 svs) s=some sv→cZ ν m H Z sv (get args s):=fun s sv hs=>by
 obtain⟨j,rfl,hj⟩:=Bg svs 0 s sv hs;obtain⟨y,hy,r⟩:=h.get hj;rw[Nat.zero_add,Cx args j y hy];exact r
theorem qT {as:List V} (hg:V.bR as=true):R (fun _=>(0,0)) (fun _=>False) (start (as.map .v) []) as []∧bF (fun _=>(0,0)) [] [] (fun _=>False) (as.map .v) as:=by
 have h:bF (fun _=>(0,0)) [] [] (fun _=>False) (as.map .v) as:=bF.oG (cW.same hg)
 refine⟨⟨rM h,fun d ob hd=>by simp[start,ak]at hd,fun d d' ob ob' hd=>by simp[start,ak]at hd,fun d ob hd=>by simp[start,ak]at hd,fun id h=>h.elim,⟨fun id es ys h=>h.elim⟩⟩,h⟩
theorem AJ {xs ys:List V} (h:cW H Z xs ys):((result xs).scalar=true→result ys=result xs)∧(result ys).scalar=(result xs).scalar:=by
 cases xs with
 | nil=>rw[h.cS];exact⟨fun _=>rfl,rfl⟩
 | cons x xs=>
  obtain⟨y,ys,rfl,h1,h2⟩:=h.inv
  cases xs with
  | nil=>rw[h2.cS];exact h1.scalar
  | cons x2 xs=>
   obtain⟨y2,ys,rfl,h3,h4⟩:=h2.inv;exact FR.scalar (.tup _ _ h.1 h.2)
theorem Hx (hS:iH S c) {f:FuncId} {as ys:List V} {rs:List SV} {m':gq} (hg:V.bR as=true) (h:c f (as.map .v) []=some (rs,m')) (hs:cj m' 8 rs=some ys) (hl:(result ys).lvl 8=true) :
 ∃n r H2,(∀k,n≤k→run S.E k (.fn f) as []=some (r,H2))∧borrow 8 H2 r=some (result ys)∧(result ys).bg=true:=by
 obtain⟨r0,r1⟩:=qT hg;obtain⟨n,y,H2,ν',Z',st',F',zs,h1,rfl,h3,h4,h5,_⟩:=hS f _ _ _ _ h _ _ as [] (.inr rfl) r0 r1;subst h3;have hgood:=kj h5.obj 8 rs ys zs hs h4;refine⟨n,result zs,H2,fun k hk=>oM S.E hk _ _ _ _ h1,?_,?_⟩
 ·have hfr:∀d∈([]:List Nat),∀e ob,ak st'.m e=some ob→ob.cz d=false:=fun d hd=>by simp at hd
  have ho:∀d ob,ak st'.m d=some ob→d∉([]:List Nat)→en ν' st'.m H2 Z' d ob:=fun d ob hd _=>h5.obj d ob hd
  cases rs with
  | nil=>
   simp only[cj,Za]at hs;subst hs;rw[h4.cS];exact d9 8 H2 rfl
  | cons x rs=>
   obtain⟨z,zs,rfl,e1,e2⟩:=h4.inv;simp only[cj]at hs;split at hs
   ·rename_i y s g1 g2;simp only[Za]at hs;subst hs
    cases rs with
    | nil=>
     simp only[cj,Za]at g2;subst g2;rw[e2.cS];exact vG hfr ho 8 x y z g1 (fun d hd=>by simp at hd) e1 8 hl
    | cons x2 rs=>
     obtain⟨z2,zs,rfl,e3,e4⟩:=e2.inv;simp only[cj]at g2;split at g2
     ·rename_i y2 s2 g3 g4;simp only[Za]at g2;subst g2;simp only[result,V.lvl,V.dc,Zj]at hl;have hall:cj st'.m 8 (x::x2::rs)=some (y::y2::s2):=by simp only[cj,g1,g3,g4]
      have hb:=iw hfr ho 8 (x::x2::rs) _ _ hall (fun d hd=>by simp at hd) h4 7 (by simp only[V.dc,Zj];exact hl)
      by_cases hcl:(V.tup (z::z2::zs)).closed=true
      ·simp only[result];rw[d9 _ _ hcl];simp only[V.closed]at hcl;rw[rz hb hcl]
      ·simp only[result];unfold borrow;rw[if_neg hcl];simp only[hb,Option.map_some]
     ·simp at g2
   ·simp at hs
 ·have:∀{l:List V},V.bR l=true→(result l).bg=true:=by
   intro l hl
   cases l with
   | nil=>rfl
   | cons a l=>cases l with
    | nil=>simp only[V.bR,Zj]at hl;exact hl.1
    | cons b l=>simp only[result,V.bg];exact hl
  exact this hgood
theorem zG {f:FuncId} {args as:List V} {y r:V} {H2:an} {n:Nat} (hr:∀k,n≤k→run S.E k (.fn f) as []=some (r,H2)) (hb:borrow 8 H2 r=some y) (hg:y.bg=true) (ha:borrows 8 H args=some as) :
 ∀k,n≤k→dD (run S.E k) f args H=some y:=fun k hk=>by
 unfold dD;simp only[ha,hr k hk,hb,V.jI hg,if_true]
theorem tK (hz:∀id,Z id→(aq H id).isSome=true) {T:List Nat} {id:Nat} (h:Z id):aq (bT H T) id=aq H id:=by
 have:=hz id h;unfold aq at this ⊢;rw[f_]
 cases hh:H[id]? with
 | none=>rw[hh]at this;simp at this
 | some ob=>
  rw[hh]at this;simp only[Option.map_some,Zc]
  by_cases e:id∈T
  ·rw[if_pos e];cases ob <;> first|rfl|simp[Ob.rows]at this
  ·rw[if_neg e]
theorem vz {T:List Nat} {id:Nat} (h:id∉T):(bT H T)[id]? = H[id]? := by
 rw[f_];cases H[id]? <;> simp[h]
end
end Go.VE
namespace Go.VE
section
variable {Rv:Nat→Prop} {ν ν':Nu} {Z Z':Nat→Prop} {st st':St} {m m':Tb aL} {F F':Frame} {H H' H1:an} {N:Nat→FuncId} {S:Sys} {c:ck}
theorem Ay {as:List V} {args:List SV} {ys:List V} (ho:∀d ob,ak m d=some ob→en ν m H Z d ob) (h:cj m 8 args=some as) (r:bF ν m H Z args ys):V.bR as=true:=kj ho 8 args as ys h r
theorem vK {as:List V} {args:List SV} {ys:List V} (r:R ν Z st F H) (ha:bF ν st.m H Z args ys) (h:cj st.m 8 args=some as) (hl:V.dc 8 as=true):borrows 8 H ys=some as:=
 iw (fr:=[]) (fun d hd=>by simp at hd) (fun d ob hd _=>r.obj d ob hd) 8 args as ys h (fun d hd=>by simp at hd) ha 8 hl
theorem oB {b id:Nat} (h:id<b):aq (H.take b) id=aq H id:=by
 unfold aq;rw[List.getElem?_take,if_pos h]
theorem D9 {b:Nat} {fr:List Nat} {as:List V} {args:List SV} {ys:List V} (r:R ν Z st F H) (ha:bF ν st.m H Z args ys) (h:cj st.m 8 args=some as) (hl:V.dc 8 as=true)
 (ho:∀d ob,ak st.m d=some ob→cH ob=true→d∉fr→(ν d).1<b) (hz:∀id,Z id→id<b) (hold:gY st.m fr args=true):borrows 8 (H.take b) ys=some as:=by
 unfold gY at hold;rw[List.all_eq_true]at hold;have h1:∀d∈fr,SV.c_ d args=false∧nj d st.m=false:=fun d hd=>by
  have:=hold d hd;simpa [Zj,Bool.not_eq_true']using this
 have hzr:∀id,Z id→Z id∧aq (H.take b) id=aq H id:=fun id h=>⟨h,oB (hz id h)⟩
 refine iw (Z:=Z) (fr:=fr) (fun d hd e ob he=>sT (h1 d hd).2 he) (fun d ob hd hf => ?_) 8 args as ys h (fun d hd=>(h1 d hd).1) (ha.mono hzr fun e _=>jz ν st.m e) 8 hl
 exact en.mono hzr rfl (fun hb=>by rw[List.getElem?_take,if_pos (ho d ob hd hb hf)]) (fun e _=>jz ν st.m e) (r.obj d ob hd)
theorem Jr (hS:iH S c) {ops:List Oper} {place:Option (Nat×Nat)} {dr nw:Bool} {fr:List Nat} (hdr:dr=place.isSome) (hnow:∀b i,place=some (b,i)→nw=true→eJ ops i=true)
 (hold:∀b i,place=some (b,i)→(∀d ob,ak st.m d=some ob→cH ob=true→d∉fr→(ν d).1<b)∧∀id,Z id→id<b)
 (r:R ν Z st F H) {args:List SV} {ys:List V} (ha:bF ν st.m H Z args ys) {f:FuncId} (hk:S.E.keep f=false) {as:List V} (hs:cj st.m 8 args=some as) (hl:V.dc 8 as=true) (hno:(!dr||nw)=true∨gY st.m fr args=true)
 {rs:List SV} {m':gq} {zs:List V} (hc:c f (as.map .v) []=some (rs,m')) (hz:cj m' 8 rs=some zs) (hzl:(result zs).lvl 8=true) (hsc:(result zs).scalar=true∨(d_ args).isSome=true) :
 ∃n H',(∀k,n≤k→ja S.E (run S.E k) ops place f ys H=some (result zs,H'))∧R ν Z st F H'∧cZ ν st.m H' Z (.v (result zs)) (result zs)∧Ev Rv ν Z st H ν Z st H':=by
 have hg:=Ay r.obj hs ha;obtain⟨n,rr,H2,h1,h2,h3⟩:=Hx hS hg hc hz hzl;have hb:=vK r ha hs hl;have hiso:=zG h1 h2 h3 hb;have hsv:∀{H'},cZ ν st.m H' Z (.v (result zs)) (result zs):=.v _ _ (.same _ h3);have froze:∀T:List Nat,(∀id∈T,Z id)→R ν Z st F (bT H T)∧Ev Rv ν Z st H ν Z st (bT H T):=fun T hT=>
  ⟨r.heap (fun id ho=>vz fun hid=>by obtain⟨d,ob,g1,g2,rfl⟩:=ho;exact r.apart d ob g1 g2 (hT _ hid)) (fun id hid=>tK r.zrow hid),
   Ev.heap (by rw[iJ];exact Nat.le_refl _) (fun id _ _ hz _=>vz fun hid=>hz (hT id hid)) (fun id hid=>tK r.zrow hid)⟩
 have allT:(d_ args).isSome=true→(∀id∈dz (cB 8 H) ys,Z id)∧True:=fun hx=>by
  obtain⟨xs,hx⟩:=Option.isSome_iff_exists.1 hx;have hf:=ha.d_ hx;exact⟨fun id hid=>by
   obtain⟨j,u,hu,hku⟩:=oR hid;have hj:j<xs.length:=by rw[hf.1];exact(Zf.1 hu).1
   exact FR.cB r.deep 8 (hf.2 j _ u (Ze hj) hu) id hku,trivial⟩
 cases place with
 | none=>
  subst hdr
  by_cases hsca:(result zs).scalar=true
  ·exact⟨n,H,fun k hkn=>by simp only[ja,hk,Bool.false_eq_true,if_false,hiso k hkn,hsca,if_true],r,hsv,.refl⟩
  ·obtain⟨hT,-⟩:=allT (hsc.resolve_left hsca);obtain⟨q1,q2⟩:=froze _ hT;exact⟨n,bT H (dz (cB 8 H) ys),fun k hkn=>by simp only[ja,hk,Bool.false_eq_true,if_false,hiso k hkn,hsca],q1,hsv,q2⟩
 | some bi=>
  obtain⟨b,i⟩:=bi;obtain⟨o1,o2⟩:=hold b i rfl;have hdt:dr=true:=hdr;subst hdt;have fits:∀k,dD (run S.E k) f ys (H.take b)=some (result zs)→(result zs).scalar=false→gM (H.take b) (dz (cB 8 (H.take b)) ys)=true∧dz (cB 8 H) ys=dz (cB 8 (H.take b)) ys:=fun k _ hns=>by
   obtain⟨xs,hx⟩:=Option.isSome_iff_exists.1 (hsc.resolve_left (by rw[hns];simp))
   have hf:=ha.d_ hx;have hzr:∀id,Z id→Z id∧aq (H.take b) id=aq H id:=fun id h=>⟨h,oB (o2 id h)⟩
   have hd:pA (H.take b) Z:=⟨fun id es ys hz hr c hc u hu=>by
    rw[(hzr id hz).2]at hr;obtain⟨x,hx⟩:=r.deep.row id es ys hz hr c hc u hu;exact⟨x,hx.mono hzr⟩⟩
   have hZ:∀id∈dz (cB 8 (H.take b)) ys,Z id:=fun id hid=>by
    obtain⟨j,u,hu,hku⟩:=oR hid;have hj:j<xs.length:=by rw[hf.1];exact(Zf.1 hu).1
    exact FR.cB hd 8 ((hf.2 j _ u (Ze hj) hu).mono hzr) id hku
   refine⟨?_,rI _ fun id hid=>o2 id (hZ id hid)⟩
   unfold gM;rw[List.all_eq_true];intro id hid;have h1:=r.zrow id (hZ id hid);rw[←(hzr id (hZ id hid)).2]at h1;exact h1
  rcases hno with hno|hno
  ·have hlo:=hnow b i rfl (by simpa using hno)
   by_cases hsca:(result zs).scalar=true
   ·refine⟨n,H,fun k hkn => ?_,r,hsv,.refl⟩
    simp only[ja,hk,Bool.false_eq_true,if_false];split
    ·rename_i y hy;have:=nu hy;rw[hiso k hkn]at this;cases this;simp only[hsca,if_true]
    ·simp only[hlo,if_true,hiso k hkn,hsca]
   ·obtain⟨hT,-⟩:=allT (hsc.resolve_left hsca);obtain⟨q1,q2⟩:=froze _ hT;refine⟨n,bT H (dz (cB 8 H) ys),fun k hkn => ?_,q1,hsv,q2⟩
    simp only[ja,hk,Bool.false_eq_true,if_false];split
    ·rename_i y hy;have h9:=nu hy;rw[hiso k hkn]at h9;cases h9;obtain⟨f1,f2⟩:=fits k hy (by simpa using hsca)
     rw[if_neg hsca,if_pos f1,f2]
    ·simp only[hlo,if_true,hiso k hkn];rw[if_neg hsca]
  ·have hb2:=D9 r ha hs hl o1 o2 hno
   by_cases hsca:(result zs).scalar=true
   ·refine⟨n,H,fun k hkn => ?_,r,hsv,.refl⟩
    simp only[ja,hk,Bool.false_eq_true,if_false];have:=zG h1 h2 h3 hb2 k hkn;simp only[this,hsca,if_true]
   ·obtain⟨hT,-⟩:=allT (hsc.resolve_left hsca);obtain⟨q1,q2⟩:=froze _ hT;refine⟨n,bT H (dz (cB 8 H) ys),fun k hkn => ?_,q1,hsv,q2⟩
    simp only[ja,hk,Bool.false_eq_true,if_false];have h9:=zG h1 h2 h3 hb2 k hkn;obtain⟨f1,f2⟩:=fits k h9 (by simpa using hsca)
    simp only[h9];rw[if_neg hsca,if_pos f1,f2]
theorem CM {xs ys:List (List V)} (h:fG H Z xs ys) (hs:nO xs=true):ys=xs:=by
 refine(List.ext_getElem h.1 fun j h1 h2 => ?_).symm
 have:=h.2 j _ _ (Ze h1) (Ze h2);have hsj:V.cE xs[j]=true:=by
  unfold nO at hs;rw[List.all_eq_true]at hs;have:=hs _ (List.getElem_mem h1);rw[List.all_eq_true]at this;exact mc.2 fun k u hu=>this u (List.mem_of_getElem? hu)
 exact(this.scalar.1 hsj).symm
theorem l8:∀{args:List SV} {os:gq},jc m args=some os→∀k ob,ak os k=some ob→ak m k=some ob∧so ob=true
 | [],os,h,k,ob,hk=>by simp only[jc,Za]at h;subst h;simp[ak]at hk
 | .v _::r,os,h,k,ob,hk=>l8 (args:=r) (by simpa [jc]using h) k ob hk
 | .own d::r,os,h,k,ob,hk=>by
  simp only[jc]at h;split at h
  ·rename_i os' fl es xs h1 h2;simp only[Za]at h;subst h;simp only[ak]at hk;split at hk
   ·rename_i e;subst e;cases hk;exact⟨h2,rfl⟩
   ·exact l8 h1 k ob hk
  ·simp at h
 | .ptr d _::r,os,h,k,ob,hk=>by
  simp only[jc]at h;split at h
  ·rename_i os' cs h1 h2;split at h
   ·rename_i hc;simp only[Za]at h;subst h;simp only[ak]at hk;split at hk
    ·rename_i e;subst e;cases hk;exact⟨h2,hc⟩
    ·exact l8 h1 k ob hk
   ·simp at h
  ·simp at h
 | .el ..::r,os,h,k,ob,hk=>by simp[jc]at h
 | .mp _::r,os,h,k,ob,hk=>by simp[jc]at h
 | .clo ..::r,os,h,k,ob,hk=>by simp[jc]at h
 | .tup _::r,os,h,k,ob,hk=>by simp[jc]at h
 | .yl _::r,os,h,k,ob,hk=>by simp[jc]at h
theorem tF:∀{l:List Nat} {a b:Tb aL},oq m' l a=some b→(∀k∈l,ak b k=ak m' k∧∃ob,ak m' k=some ob∧so ob=true)∧∀k,k∉l→ak b k=ak a k
 | [],a,b,h=>by simp only[oq,Za]at h;subst h;exact⟨fun k hk=>by simp at hk,fun _ _=>rfl⟩
 | d::r,a,b,h=>by
  simp only[oq]at h;split at h
  ·rename_i ob hob;split at h
   ·rename_i hp;obtain⟨h1,h2⟩:=tF h;refine⟨fun k hk => ?_,fun k hk => ?_⟩
    ·by_cases hr:k∈r
     ·exact h1 k hr
     ·have e:k=d:=by simpa [hr]using hk
      subst e;exact⟨by rw[h2 k hr,cm,hob],ob,hob,hp⟩
    ·simp only[List.mem_cons,not_or]at hk;rw[h2 k hk.2,dw _ _ (Ne.symm hk.1)]
   ·simp at h
  ·simp at h
theorem mem_keys:∀{os:gq} {k:Nat},k∈os.map (·.1)↔∃ob,ak os k=some ob
 | [],k=>by simp[ak]
 | (d,o)::os,k=>by
  simp only[List.map_cons,List.mem_cons,ak]
  by_cases e:d=k
  ·subst e;simp
  ·rw[if_neg e,←mem_keys];constructor
   ·rintro (h|h)
    ·exact absurd h.symm e
    ·exact h
   ·exact .inr
theorem en.plain {d:Nat} {ob:aL} (hp:so ob=true) (hz:∀id,Z id→Z' id∧aq H' id=aq H id) (hd:ν' d=ν d) (hh:cH ob=true→H'[(ν d).1]? = H[(ν d).1]?) (o:en ν m H Z d ob):en ν' m' H' Z' d ob:=by
 cases ob with
 | box cs=>
  obtain⟨xs,hx⟩:=Option.isSome_iff_exists.1 hp;obtain⟨es,cs',h1,h2,h3⟩:=o;refine⟨es,cs',by rw[hd,hh rfl];exact h1,?_,h3⟩
  have:=(h2.d_ hx).mono hz;rw[oO hx];exact bF.oG this
 | sl k es xs=>exact en.mono hz hd hh (fun e he=>by simp[aL.cz]at he) o
 | mp kvs=>exact en.mono hz hd hh (fun e he=>by simp[aL.cz]at he) o
theorem JA (hS:iH S c) {f:FuncId} (hkp:S.E.keep f=true) (r:R ν Z st F H) {args:List SV} {ys:List V} (ha:bF ν st.m H Z args ys) {os:gq} (hh:jc st.m args=some os)
 {rs:List SV} {m':gq} {zs:List V} {m2:Tb aL} (hc:c f args os=some (rs,m')) (hz:d_ rs=some zs) (hb:oq m' (os.map (·.1)) st.m=some m2) :
 ∃n y H' Z',(∀k,n≤k→run S.E k (.fn f) ys H=some (y,H'))∧R ν Z' { st with m:=m2 } F H'∧cZ ν m2 H' Z' (.v (result zs)) y∧Ev Rv ν Z st H ν Z' { st with m:=m2 } H'∧∀e ob',ak m2 e=some ob'→∃ob,ak st.m e=some ob∧ν e=ν e∧sameShape ob ob':=by
 have hsub:∀k ob,ak os k=some ob→ak st.m k=some ob:=fun k ob h=>(l8 hh k ob h).1
 have ha0:bF ν os H Z args ys:=ha.mono (fun id h=>⟨h,rfl⟩) fun e _ ob' h=>⟨ob',hsub e ob' h,rfl,.refl _⟩
 have r0:R ν Z (start args os) ys H:=by
  refine⟨rM ha0,fun d ob hd => ?_,fun d d' ob ob' h1 h2=>r.inj d d' ob ob' (hsub d ob h1) (hsub d' ob' h2),fun d ob h=>r.apart d ob (hsub d ob h),r.zrow,r.deep⟩
  exact en.plain (l8 hh d ob hd).2 (fun id h=>⟨h,rfl⟩) rfl (fun _=>rfl) (r.obj d ob (hsub d ob hd))
 obtain⟨n,y,H',ν1,Z',st1,F1,ws,e1,rfl,rfl,e2,e3,ev⟩:=hS f args os rs m' hc ν Z ys H (.inl hkp) r0 ha0;obtain⟨b1,b2⟩:=tF hb;have hpin:∀k ob',k∈os.map (·.1)→ak st1.m k=some ob'→∃ob,ak os k=some ob∧ν1 k=ν k∧sameShape ob ob':=fun k ob' hk h=>ev.pin k hk ob' h
 have hown0:∀id,eP ν os id→eP ν st.m id:=fun id ⟨k,o,h1,h2,h3⟩=>⟨k,o,hsub k o h1,h2,h3⟩
 have bk:∀ob ob':aL,sameShape ob ob'→cH ob'=cH ob:=fun ob ob' h=>by
  cases ob <;> cases ob' <;> simp only[sameShape]at h
  ·simp only[cH,h.1]
  ·rfl
  ·rfl
 have was:∀k ob',ak m2 k=some ob'→∃ob,ak st.m k=some ob∧sameShape ob ob'∧(k∈os.map (·.1)∧ak st1.m k=some ob'∧ν1 k=ν k∧ak os k=some ob∧so ob'=true∨k∉os.map (·.1)∧ob'=ob):=fun k ob' h=>by
  by_cases hk:k∈os.map (·.1)
  ·obtain⟨g1,o,g2,g3⟩:=b1 k hk;rw[g1]at h;obtain⟨ob,p1,p2,p3⟩:=hpin k ob' hk h;rw[g2]at h;cases h;exact⟨ob,hsub k ob p1,p3,.inl ⟨hk,g2,p2,p1,g3⟩⟩
  ·rw[b2 k hk]at h;exact⟨ob',h,.refl _,.inr ⟨hk,rfl⟩⟩
 have hother:∀k ob,k∉os.map (·.1)→ak st.m k=some ob→cH ob=true→H'[(ν k).1]? = H[(ν k).1]? ∧ ¬Z' (ν k).1:=fun k ob hk h hbk=>by
  have hno:¬eP ν os (ν k).1:=by
   rintro⟨k2,o2,g1,g2,g3⟩;have:=r.inj k2 k o2 ob (hsub k2 o2 g1) h g2 hbk g3;subst this;exact hk (mem_keys.2 ⟨o2,g1⟩)
  have hlt:=r.lt ⟨k,ob,h,hbk,rfl⟩;have hnz:=r.apart k ob h hbk;refine⟨ev.same _ hlt hno hnz (fun h=>h),fun hz' => ?_⟩
  rcases ev.frz _ hz' with h|h|h|h
  ·exact hnz h
  ·exact hno h
  ·exact h
  ·omega
 have sm:∀e ob',ak m2 e=some ob'→∃ob,ak st.m e=some ob∧ν e=ν e∧sameShape ob ob':=fun e ob' h=>by
  obtain⟨ob,h1,h2,_⟩:=was e ob' h;exact⟨ob,h1,rfl,h2⟩
 refine⟨n,result ws,H',Z',fun k hk=>oM S.E hk _ _ _ _ e1,⟨fun s sv hs=>(r.slot s sv hs).mono ev.rows fun e _=>sm e,fun k ob' h => ?_,fun d1 d2 o1 o2 h1 h2 k1 k2 hp => ?_,fun d1 o1 h1 k1 => ?_,e3.zrow,e3.deep⟩,?_,⟨ev.len,?_,ev.rows,?_,?_,fun e _=>sm e,rfl⟩,sm⟩
 ·obtain⟨ob,h1,h2,h3|⟨h3,rfl⟩⟩:=was k ob' h
  ·obtain⟨q1,q2,q3,q4,q5⟩:=h3;refine en.plain (ν:=ν1) (Z:=Z') (H:=H') q5 (fun id h=>⟨h,rfl⟩) q3.symm (fun _=>rfl) (e3.obj k ob' q2)
  ·exact en.mono ev.rows rfl (fun hbk=>(hother k ob' h3 h1 hbk).1) (fun e _=>sm e) (r.obj k ob' h1)
 ·obtain⟨p1,g1,s1,_⟩:=was d1 o1 h1;obtain⟨p2,g2,s2,_⟩:=was d2 o2 h2;exact r.inj d1 d2 p1 p2 g1 g2 (by rw[←bk _ _ s1];exact k1) (by rw[←bk _ _ s2];exact k2) hp
 ·obtain⟨ob,g1,s1,h3|⟨h3,rfl⟩⟩:=was d1 o1 h1
  ·obtain⟨q1,q2,q3,q4,q5⟩:=h3;rw[←q3];exact e3.apart d1 o1 q2 k1
  ·exact(hother d1 o1 h3 g1 k1).2
 ·have hf:=e2.d_ hz;have:FR H' Z' (result zs) (result ws):=by
   cases zs with
   | nil=>rw[hf.cS];exact .same _ rfl
   | cons x xs=>
    obtain⟨y,ys2,rfl,g1,g2⟩:=hf.inv
    cases xs with
    | nil=>rw[g2.cS];exact g1
    | cons x2 xs=>
     obtain⟨y2,ys3,rfl,g3,g4⟩:=g2.inv;exact .tup _ _ hf.1 hf.2
  exact .v _ _ this
 ·intro id hl ho hz _;exact ev.same id hl (fun h=>ho (hown0 id h)) hz (fun h=>h)
 ·rintro id ⟨k,o,h1,h2,h3⟩;obtain⟨ob,g1,s1,_⟩:=was k o h1;exact .inl ⟨k,ob,g1,by rw[←bk _ _ s1];exact h2,h3⟩
 ·intro id h;rcases ev.frz id h with h|h|h|h
  ·exact .inl h
  ·exact .inr (.inl (hown0 id h))
  ·exact h.elim
  ·exact .inr (.inr (.inr h))
theorem HO (hS:iH S c) {f:FuncId} {as:List V} {rs:List SV} {m':gq} (hg:V.bR as=true) (h:c f (as.map .v) []=some (rs,m')) :
 ∃n H2 ν' Z' st' F' ys,(∀k,n≤k→run S.E k (.fn f) as []=some (result ys,H2))∧st'.m=m'∧bF ν' m' H2 Z' rs ys∧R ν' Z' st' F' H2:=by
 obtain⟨r0,r1⟩:=qT hg;obtain⟨n,y,H2,ν',Z',st',F',zs,h1,rfl,h3,h4,h5,_⟩:=hS f _ _ _ _ h _ _ as [] (.inr rfl) r0 r1;exact⟨n,H2,ν',Z',st',F',zs,fun k hk=>oM S.E hk _ _ _ _ h1,h3,h4,h5⟩
theorem yU {ys:List V} (h:V.cE ys=true):V.cE (.ay::ys)=true∧V.cE (.dY::ys)=true:=by
 simp only[V.cE,V.scalar,Bool.true_and];exact⟨h,h⟩
theorem sw {ys:List V} (h:V.cE ys=true):(result ys).scalar=true:=by
 cases ys with
 | nil=>rfl
 | cons a l=>
  cases l with
  | nil=>simp only[V.cE,Zj]at h;exact h.1
  | cons b l=>simp only[result,V.scalar];exact h
theorem bF.VH {ys:List V} (h:V.bR ys=true):bF ν m H Z (ys.map .v) ys:=bF.oG (cW.same h)
theorem HS (hS:iH S c) {ops:List Oper} {place:Option (Nat×Nat)} {dr nw:Bool} {fr:List Nat} (hdr:dr=place.isSome) (hnow:∀b i,place=some (b,i)→nw=true→eJ ops i=true)
 (hold:∀b i,place=some (b,i)→(∀d ob,ak st.m d=some ob→cH ob=true→d∉fr→(ν d).1<b)∧∀id,Z id→id<b)
 (r:R ν Z st F H) {args:List SV} {ys:List V} (ha:bF ν st.m H Z args ys) {f:FuncId} {dst:Option Nat} {sv:SV} (h:iq S c dst dr (!dr||nw) (gY st.m fr) f args st=some (sv,st')) :
 ∃n y H' ν' Z',(∀k,n≤k→ja S.E (run S.E k) ops place f ys H=some (y,H'))∧R ν' Z' st' F H'∧cZ ν' st'.m H' Z' sv y∧Ev Rv ν Z st H ν' Z' st' H'∧(dr=true→Z'=Z)∧Kept dst ν st.m ν' st'.m:=by
 unfold iq at h;split at h
 ·rename_i hk;split at h
  ·rename_i hnw;have hplace:∀{q:dN} {y:V} {H':an},e7 S.E q f ys H=some (y,H')→ja S.E q ops place f ys H=some (y,H'):=fun {q y H'} hd=>by
    unfold ja;rw[if_pos hk]
    cases place with
    | none=>exact hd
    | some bi=>
     obtain⟨b,i⟩:=bi;have hdt:dr=true:=hdr;subst hdt;simp only;rw[if_pos (hnow b i rfl (by simpa using hnw))];exact hd
   split at h
   ·
    rename_i hown;split at h
    ·rename_i as hs;split at h
     ·rename_i hl;have hg:=Ay r.obj hs ha;have hb:=vK r ha hs hl;split at h
      ·rename_i rs m' hc;obtain⟨n,H2,ν2,Z2,st2,F2,ws,e1,rfl,e3,e4⟩:=HO hS hg hc;have hdir:∀k,n≤k→∀{o:Option (V×an)},(if(result ws).scalar then some (result ws,H)else
        match result ws with
        | .hsl id es off len=>(nr H.length H2 id es off len).map fun (v,ob)=>(v,H++[ob])
        | .tup (.hsl id es off len::rest)=>if V.cE rest then(nr H.length H2 id es off len).map fun (v,ob)=>(.tup (v::rest),H++[ob])else none
        | _=>none)=o→e7 S.E (run S.E k) f ys H=o:=fun k hkn o ho=>by
        unfold e7 jr;rw[if_pos hown];simp only[hb,e1 k hkn];exact ho
       have scal:∀zs:List V,(result zs).scalar=true→result ws=result zs→sv=.v (result zs)→st'=st→∃n y H' ν' Z',(∀k,n≤k→ja S.E (run S.E k) ops place f ys H=some (y,H'))∧R ν' Z' st' F H'∧cZ ν' st'.m H' Z' sv y∧Ev Rv ν Z st H ν' Z' st' H'∧(dr=true→Z'=Z)∧Kept dst ν st.m ν' st'.m:=by
        rintro zs h1 h2 rfl rfl;exact⟨n,result zs,H,ν,Z,fun k hkn=>hplace (hdir k hkn (by rw[h2,if_pos h1])),r,.v _ _ (.same _ (kD h1)),.refl,fun _=>rfl,.refl⟩
       split at h
       ·rename_i zs hz;split at h
        ·rename_i hsc;simp only[Za,Zd]at h;exact scal zs hsc ((AJ (e3.d_ hz)).1 hsc) h.1.symm h.2.symm
        ·simp at h
       ·split at h
        ·rename_i e rest t _;obtain⟨w,ws,rfl,g1,g2⟩:=e3.inv;split at h
         ·
          rename_i es xs zs hob hz;split at h
          ·rename_i hcnd;simp only[Zj]at hcnd;obtain⟨⟨c1,c2⟩,hnew⟩:=hcnd;simp only[Za,Zd]at h;obtain⟨rfl,rfl⟩:=h;have o:=e4.obj e _ hob;simp only[en,b_,if_true]at o;obtain⟨rows,hr,hle,hf,hsol,hrow⟩:=o;obtain⟨q1,q2⟩:=hrow trivial;have hrows:rows=xs:=by
            have:=CM hf c2;rw[q1,List.drop_zero,←q2,List.take_length]at this;exact this
           subst hrows;obtain⟨_,_,_,ee,rfl⟩:=g1.ju hob;cases ee;have hrest:ws=zs:=(g2.d_ hz).scalar.1 c1;subst hrest;have had:nr H.length H2 (ν2 e).1 es 0 rows.length=some (.hsl H.length es 0 rows.length,.row es rows):=by
            unfold nr;rw[hr];simp only[true_and];rw[if_pos];rw[List.all_eq_true];intro x hx;unfold nO at c2;rw[List.all_eq_true]at c2;exact c2 x hx
           have hH:∀id,id<H.length→(H++[Ob.row es rows])[id]? = H[id]? := fun id hl=>List.getElem?_append_left hl
           have hzr:∀id,Z id→aq (H++[Ob.row es rows]) id=aq H id:=fun id hz=>by unfold aq;rw[hH id (r.q9 hz)]
           have r2:R ν Z st F (H++[Ob.row es rows]):=r.heap (fun id ho=>hH id (r.lt ho)) hzr
           have hgr:V.kr rows=true:=by
            refine jA.2 fun j u hu => ?_
            unfold nO at c2;rw[List.all_eq_true]at c2;have:=c2 u (List.mem_of_getElem? hu);rw[List.all_eq_true]at this;exact gZ.2 fun i v hv=>kD (this v (List.mem_of_getElem? hv))
           have hR:=r2.add (ν:=ν) (d:=t) (ob:=.sl .row es rows) (p:=(H.length,0)) hnew (fun _=>⟨fun ho=>absurd (r.lt ho) (by simp),fun hz=>absurd (r.q9 hz) (by simp)⟩) (by
            simp only[en,b_,if_true,iV];refine⟨rows,by simp,by simp,?_,(fG.same hgr).A0,fun _=>⟨trivial,rfl⟩⟩
            rw[List.drop_zero,List.take_length];exact fG.same hgr)
           have hsl:cZ (iN ν t (H.length,0)) (bl st.m t (.sl .row es rows)) (H++[Ob.row es rows]) Z (.own t) (.hsl H.length es 0 rows.length):=by
            refine .own _ _ fun ob' h' => ?_
            rw[cm]at h';cases h';exact⟨_,_,_,rfl,by simp[rW,iV]⟩
           have hev:Ev Rv ν Z st H (iN ν t (H.length,0)) Z { st with m:=bl st.m t (.sl .row es rows) } (H++[Ob.row es rows]):=Ev.add hnew (by simp) (fun id hl _=>hH id hl) hzr (fun _=>.inr (Nat.le_refl _))
           have hoff:rW (ν2 e) Fl.row es rows.length=.hsl (ν2 e).1 es 0 rows.length:=by simp[rW,q1]
           rw[hoff]at hdir
           cases rest with
           | nil=>
            have:ws=[]:=by simp only[d_,Za]at hz;exact hz.symm
            subst this;refine⟨n,_,_,_,Z,fun k hkn=>hplace (hdir k hkn (o:=some (.hsl H.length es 0 rows.length,H++[Ob.row es rows])) ?_),hR,hsl,hev,fun _=>rfl,Kept.add fun _ _ h=>h⟩
            simp only[result,V.scalar,Bool.false_eq_true,if_false,had,Option.map_some]
           | cons x2 rest=>
            have hcl:∃w2 ws2,ws=w2::ws2:=by
             have:=g2.1
             cases ws with
             | nil=>simp at this
             | cons a b=>exact⟨a,b,rfl⟩
            obtain⟨w2,ws2,rfl⟩:=hcl;refine⟨n,_,_,_,Z,fun k hkn=>hplace (hdir k hkn (o:=some (.tup (.hsl H.length es 0 rows.length::w2::ws2),H++[Ob.row es rows])) ?_),hR,?_,hev,fun _=>rfl,Kept.add fun _ _ h=>h⟩
            ·simp only[result,V.scalar,V.cE,Bool.false_and,Bool.false_eq_true,if_false];have c1':(w2.scalar&&V.cE ws2)=true:=by simpa [V.cE]using c1
             simp only[c1',if_true,had,Option.map_some]
            ·exact .tup _ _ (by simp) (bF.cons hsl (bF.VH (nF c1))).2
          ·simp at h
         ·
          rename_i es xs zs hob hz;split at h
          ·rename_i c1;simp only[Za,Zd]at h;obtain⟨_,_,_,ee,rfl⟩:=g1.ju hob;cases ee;have hrest:=(g2.d_ hz).scalar.1 c1;subst hrest;exact scal (.ay::ws) (sw (yU c1).1) rfl h.1.symm h.2.symm
          ·simp at h
         ·rename_i es xs zs hob hz;split at h
          ·rename_i c1;simp only[Za,Zd]at h;obtain⟨_,_,_,ee,rfl⟩:=g1.ju hob;cases ee;have hrest:=(g2.d_ hz).scalar.1 c1;subst hrest;exact scal (.dY::ws) (sw (yU c1).2) rfl h.1.symm h.2.symm
          ·simp at h
         ·simp at h
        ·simp at h
      ·simp at h
     ·simp at h
    ·simp at h
   ·rename_i hown;split at h
    ·simp at h
    ·rename_i hd;split at h
     ·rename_i os hh;split at h
      ·rename_i rs m' hc;split at h
       ·rename_i zs m2 hz hb;simp only[Za,Zd]at h;obtain⟨rfl,rfl⟩:=h;obtain⟨n,y,H',Z',e1,e2,e3,e4,e5⟩:=JA (Rv:=Rv) hS hk r ha hh hc hz hb;exact⟨n,y,H',ν,Z',fun k hkn=>hplace (by unfold e7;rw[if_neg hown];exact e1 k hkn),e2,e3,e4,fun h=>absurd h hd,fun e ob' _=>e5 e ob'⟩
       ·simp at h
      ·simp at h
     ·simp at h
  ·simp at h
 ·rename_i hk;have hk':S.E.keep f=false:=by simpa using hk
  split at h
  ·rename_i as hs;split at h
   ·rename_i hl;simp only[Zj,Bool.or_eq_true]at hl;split at h
    ·rename_i rs m' hc;split at h
     ·rename_i zs hz;split at h
      ·rename_i hcnd;simp only[Zj,Bool.or_eq_true,Bool.not_eq_true']at hcnd;simp only[Za,Zd]at h;obtain⟨rfl,rfl⟩:=h;obtain⟨n,H',e1,e2,e3,e4⟩:=Jr (Rv:=Rv) hS hdr hnow hold r ha hk' hs hl.1 (by simpa using hl.2) hc hz hcnd.1 hcnd.2
       exact⟨n,_,H',ν,Z,e1,e2,e3,e4,fun _=>rfl,.refl⟩
      ·simp at h
     ·simp at h
    ·simp at h
   ·simp at h
  ·simp at h
end
end Go.VE
namespace Go.VE
structure CX where
 E:Env
 nm:FuncId→Option Nat
 nt:Nat
def Eh (ops:List Oper) (o:Oper):Option (Option (Nat×Bool)):=
 match o.guard with
 | none=>some none
 | some (j,b)=>((ops[j]?).bind (·.dst)).map fun d=>some (d,b)
def u_ (nt:Nat):Option Nat→Bool
 | none=>true
 | some d=>decide (d<nt)
def rG (draw:Bool) (ops:List Oper) (i:Nat) (k:K) (os:List Operand):K×List Operand×Bool:=
 if draw && !eJ ops i then match k,os,xe ops i with
  | .l (.store n),.tmp a'::os',some (a,l)=>if a'=a then(.l (.storeF n),(.tmp a'::os')++l.map .tmp,true)else(k,os,false)
  | _,_,_=>(k,os,false)
 else(k,os,draw&&eJ ops i)
theorem tg (draw:Bool) (ops:List Oper) (i:Nat) (k:K) (os:List Operand):rG draw ops i k os=(k,os,draw&&eJ ops i) ∨
 (draw=true∧eJ ops i=false∧∃n a l os',k=.l (.store n)∧os=.tmp a::os'∧xe ops i=some (a,l)∧rG draw ops i k os=(.l (.storeF n),os++l.map .tmp,true)):=by
 unfold rG;split
 ·rename_i h;simp only[Zj,Bool.not_eq_true']at h;split
  ·rename_i n a' os' a l hk;split
   ·rename_i e;subst e;refine .inr ⟨h.1,h.2,n,a',l,os',rfl,rfl,hk,?_⟩;simp only[rG,h.1,h.2,hk,Bool.not_false,Bool.and_self,if_true]
   ·exact .inl (by rw[h.2,Bool.and_false])
  ·exact .inl (by rw[h.2,Bool.and_false])
 ·exact .inl rfl
def j7 (X:CX) (draw:Bool) (ops:List Oper) (i:Nat) (o:Oper):Option RO:=
 if u_ X.nt o.dst then
  match Eh ops o,resolve X.E X.nm o.op with
  | some gd,some (k,os)=>if qW k then((rG draw ops i k os).2.1.mapM (lZ X.nm)).map fun as=>⟨o.dst,gd,(rG draw ops i k os).2.2,(rG draw ops i k os).1,as,[],[]⟩else none
  | _,_=>none
 else none
structure Good (X:CX) (S:Sys):Prop where
 E:X.E=S.E
 N:∀f s,X.nm f=some s→S.N s=f
section
variable {Rv:Nat→Prop} {ν ν':Nu} {Z Z':Nat→Prop} {st st':St} {m m':Tb aL} {F F':Frame} {H H' H1:an} {S:Sys} {c:ck} {X:CX}
def Old (b:Nat) (fr:List Nat) (ν:Nu) (Z:Nat→Prop) (m:Tb aL):Prop:=(∀d ob,ak m d=some ob→cH ob=true→d∉fr→(ν d).1<b)∧∀id,Z id→id<b
theorem kP {fr:List Nat}:∀{svs:List SV},eO fr svs=true→∀d∈fr,SV.c_ d svs=false
 | [],_,d,_=>rfl
 | .v _::r,h,d,hd=>by simp only[SV.c_,SV.cz,Bool.false_or];exact kP (svs:=r) (by simpa [eO]using h) d hd
 | .ptr e _::r,h,d,hd=>by
  simp only[eO,Zj,Bool.not_eq_true',List.contains_eq_mem,decide_eq_false_iff_not]at h;simp only[SV.c_,SV.cz,Bool.or_eq_false_iff,beq_eq_false_iff_ne];exact⟨fun e=>h.1 (e▸hd),kP h.2 d hd⟩
 | .el e _ _::r,h,d,hd=>by
  simp only[eO,Zj,Bool.not_eq_true',List.contains_eq_mem,decide_eq_false_iff_not]at h;simp only[SV.c_,SV.cz,Bool.or_eq_false_iff,beq_eq_false_iff_ne];exact⟨fun e=>h.1 (e▸hd),kP h.2 d hd⟩
 | .mp e::r,h,d,hd=>by
  simp only[eO,Zj,Bool.not_eq_true',List.contains_eq_mem,decide_eq_false_iff_not]at h;simp only[SV.c_,SV.cz,Bool.or_eq_false_iff,beq_eq_false_iff_ne];exact⟨fun e=>h.1 (e▸hd),kP h.2 d hd⟩
 | .own _::r,h,_,_=>by simp[eO]at h
 | .clo ..::r,h,_,_=>by simp[eO]at h
 | .tup _::r,h,_,_=>by simp[eO]at h
 | .yl _::r,h,_,_=>by simp[eO]at h
def DM (S:Sys) (ops:List Oper) (place:Option (Nat×Nat)) (dr:Bool) (F:Frame) (op:Op) (dst:Option Nat) (ν:Nu) (Z:Nat→Prop) (st:St) (H:an) (sv:SV) (st':St):Prop:=
 ∃n y H' ν' Z',(∀k,n≤k→dL S.E (run S.E k) ops place F H op=some (y,H'))∧R ν' Z' st' F H'∧cZ ν' st'.m H' Z' sv y∧Ev (fun id=>∃b j,place=some (b,j)∧id=b+j) ν Z st H ν' Z' st' H' ∧
  (dr=true→Z'=Z∧Kept dst ν st.m ν' st'.m)
theorem Gl (gd:Good X S) {ops:List Oper} {place:Option (Nat×Nat)} {dr:Bool} {op:Op} {dst:Option Nat} {p:qH} {svs:List SV} {ys:List V} (hk:qW (.p p)=true) (r:R ν Z st F H) (rs:bF ν st.m H Z svs ys)
 (hres:DW X.E S.N F op ys (.p p)) {sv:SV} (h:(hY S.N st.m p svs).map (fun x=>(x,st))=some (sv,st')):DM S ops place dr F op dst ν Z st H sv st':=by
 obtain⟨x,hx,e⟩:=Zh.1 h;simp only[Zd]at e;obtain⟨rfl,rfl⟩:=e;obtain⟨y,hy,hyy⟩:=Iu (N:=S.N) (fun zero pl e=>by subst e;simpa [qW]using hk) r.obj rs hx
 obtain⟨h1,h2⟩:=hres;exact⟨0,y,H,ν,Z,fun q _=>by unfold dL;rw[h1];simp only[←gd.E,h2 y hy,Option.map_some],r,hyy,.refl,fun _=>⟨rfl,.refl⟩⟩
theorem zl:∀{l1 l2:List Operand} {vs:List V},fP F (l1++l2)=some vs→∃v1 v2,fP F l1=some v1∧fP F l2=some v2∧vs=v1++v2
 | [],l2,vs,h=>⟨[],vs,rfl,h,rfl⟩
 | x::l1,l2,vs,h=>by
  obtain⟨a,as,h1,h2,rfl⟩:=hG h;obtain⟨v1,v2,g1,g2,rfl⟩:=zl h2;exact⟨a::v1,v2,by simp only[fP,h1,g1],g2,rfl⟩
theorem Cy:∀{l:List Nat} {vs:List V},fP F (l.map Operand.tmp)=some vs→vs=l.map (get F)
 | [],vs,h=>nW h
 | x::l,vs,h=>by
  obtain⟨a,as,h1,h2,rfl⟩:=hG h;simp only[ev,Za]at h1;subst h1;rw[Cy h2];rfl
theorem Lf (gd:Good X S) {call:dN} {ops:List Oper} {b j n a:Nat} {l:List Nat} {o:Oper} {os':List Operand} {ys:List V} {y:V} (hr:resolve X.E X.nm o.op=some (.l (.store n),.tmp a::os')) (hys:fP F ((.tmp a::os')++l.map Operand.tmp)=some ys)
 (hfs:xe ops j=some (a,l)) (hnl:eJ ops j=false) (e1:gA H (.storeF n) ys=some (y,H')):dL S.E call ops (some (b,j)) F H o.op=some (y,H'):=by
 obtain⟨v1,v2,h1,h2,rfl⟩:=zl hys;obtain⟨g1,g2⟩:=nL gd.N hr h1;obtain⟨w,ws,h3,h4,rfl⟩:=hG h1;simp only[ev,Za]at h3;have hone:∃v,ws=[v]:=by
  have hos:∃x,os'=[x]:=by
   unfold resolve at hr
   (repeat' split at hr) <;> first|(simp at hr;done)|skip
   all_goals (try (obtain⟨_,_,e⟩:=Zh.1 hr;simp only[Zd,K.l.injEq,Du.store.injEq,List.cons.injEq,reduceCtorEq,false_and,and_false]at e))
   all_goals (try exact⟨_,e.2.2.symm⟩)
  obtain⟨x,rfl⟩:=hos;obtain⟨v,vs,_,h5,rfl⟩:=hG h4;rw[nW h5];exact⟨v,rfl⟩
 obtain⟨v,rfl⟩:=hone;rw[Cy h2,←h3]at e1;simp only[List.cons_append,List.nil_append]at e1
 cases hw:get F a with
 | hptr id el off=>
  rw[hw]at e1;simp only[gA]at e1;split at e1
  ·rename_i hap;have hf:oa ops j F=true:=by
    unfold oa;rw[hfs];simp only[hw];rw[List.all_map]at hap;exact hap
   unfold dL;rw[g1];simp only[hf,Bool.or_true,if_true,←gd.E];refine g2 _ _ ?_;rw[←h3,hw];exact e1
  ·simp at e1
 | _=>rw[hw]at e1;simp[gA]at e1
theorem Li (gd:Good X S) (hS:iH S c) {ops:List Oper} {place:Option (Nat×Nat)} {dr:Bool} {fr:List Nat} {i:Nat} (hdr:dr=place.isSome) (hi:∀b j,place=some (b,j)→j=i)
 (hold:∀b j,place=some (b,j)→b≤H.length∧Old b fr ν Z st.m)
 {o:Oper} {ro:RO} (hc:j7 X dr ops i o=some ro) (hfree:∀b j,place=some (b,j)→eG o.op=.alloc→H[b+j]? = some .free)
 (r:R ν Z st F H) {sv:SV} (h:kJ S c dr fr ro st=some (sv,st')) :
 DM S ops place dr F o.op (sO ro) ν Z st H sv st':=by
 unfold j7 at hc;split at hc
 ·split at hc
  ·rename_i g k os hg hr;split at hc
   ·rename_i hk;rcases tg dr ops i k os with hq|⟨hdt,hnl,n,a,l,os',rfl,rfl,hfs,hq⟩
    rotate_left
    ·rw[hq]at hc;obtain⟨as,ha,rfl⟩:=Zh.1 hc;unfold kJ at h;split at h
     ·rename_i svs hsv;obtain⟨ys,hys,rs⟩:=sX gd.N r.slot ha hsv;simp only[hdt,Bool.not_true,Bool.false_or,if_true]at h;obtain⟨y,H',ν',e1,e2,e3,e4,e5⟩:=BQ r rs h;refine⟨0,y,H',ν',Z,fun q _ => ?_,e2,e3,e4.weak (fun _ h=>h.elim),fun _=>⟨rfl,e5⟩⟩
      cases place with
      | none=>rw[hdr]at hdt;cases hdt
      | some bi=>
       obtain⟨b,j⟩:=bi;have hji:=hi b j rfl;subst hji;exact Lf gd hr hys hfs hnl e1
     ·simp at h
    rw[hq]at hc;obtain⟨as,ha,rfl⟩:=Zh.1 hc;unfold kJ at h;split at h
    ·rename_i svs hsv;obtain⟨ys,hys,rs⟩:=sX gd.N r.slot ha hsv;have hres:=nL gd.N hr hys;simp only at h
     cases k with
     | p p=>
      cases p with
      | slice size lo hi=>
       simp only at h;split at h
       ·rename_i d bs;split at h
        ·simp at h
        ·rename_i hnd;obtain⟨y,ν',h1,h2,h3,h4⟩:=FN (N:=S.N) (Rv:=fun id=>∃b j,place=some (b,j)∧id=b+j) r rs h
         obtain⟨g1,g2⟩:=hres;exact⟨0,y,H,ν',Z,fun q _=>by unfold dL;rw[g1];simp only[←gd.E,g2 y h1,Option.map_some],h2,h3,h4,fun hd=>absurd hd hnd⟩
       ·exact Gl gd hk r rs hres h
      | _=>exact Gl gd hk r rs hres h
     | r q=>
      simp only at h;split at h
      ·rename_i hnow;obtain⟨x,hx,e⟩:=Zh.1 h;simp only[Zd]at e;obtain⟨rfl,rfl⟩:=e;obtain⟨g1,g2⟩:=hres;have hzc:∀kk z ok,q=.lookup kk z ok→z.bg=true:=fun kk z ok e=>by subst e;simpa [qW]using hk
       cases place with
       | none=>
        obtain⟨y,hy,hyy⟩:=tB hzc rs (fun d _ ob hd=>r.obj d ob hd) hx
        exact⟨0,y,H,ν,Z,fun q _=>by unfold dL;rw[g1];simp only[←gd.E,g2 H y hy,Option.map_some],r,hyy,.refl,fun _=>⟨rfl,.refl⟩⟩
       | some bi=>
        obtain⟨b,j⟩:=bi;obtain⟨hbl,ho1,ho2⟩:=hold b j rfl;have hdt:dr=true:=hdr;subst hdt;have hji:=hi b j rfl;subst hji;simp only[Bool.not_true,Bool.false_or,Bool.true_and]at hnow
        by_cases hlo:eJ ops j=true
        ·obtain⟨y,hy,hyy⟩:=tB hzc rs (fun d _ ob hd=>r.obj d ob hd) hx
         have hH:=g2 H y hy;refine⟨0,y,H,ν,Z,fun q _ => ?_,r,hyy,.refl,fun _=>⟨rfl,.refl⟩⟩
         unfold dL;rw[g1];simp only[←gd.E];split
         ·rename_i v hv;have:=tE hv;rw[hH]at this;cases this;rfl
         ·rw[if_pos hlo,hH];rfl
        ·have hol:eO fr svs=true:=by simpa [hlo]using hnow
         have hzr:∀id,Z id→Z id∧aq (H.take b) id=aq H id:=fun id h=>⟨h,oB (ho2 id h)⟩
         have hzr':∀id,Z id→Z id∧aq H id=aq (H.take b) id:=fun id h=>⟨h,(oB (ho2 id h)).symm⟩
         obtain⟨y,hy,hyy⟩:=tB (H:=H.take b) hzc (rs.mono hzr fun e _=>jz ν st.m e) (fun d hd ob hob=>by
          have hnf:d∉fr:=fun hf=>by rw[kP hol d hf]at hd;cases hd
          exact en.mono hzr rfl (fun hb=>by rw[List.getElem?_take,if_pos (ho1 d ob hob hb hnf)]) (fun e _=>jz ν st.m e) (r.obj d ob hob)) hx
         refine⟨0,y,H,ν,Z,fun q _ => ?_,r,hyy.mono hzr' (fun e _=>jz ν st.m e),.refl,fun _=>⟨rfl,.refl⟩⟩
         unfold dL;rw[g1];simp only[←gd.E,g2 (H.take b) y hy]
      ·simp at h
     | a q=>
      simp only at h;split at h
      ·rename_i d hd;split at h
       ·rename_i hnew;obtain⟨⟨ob,x⟩,hx,e⟩:=Zh.1 h;simp only[Zd]at e;obtain⟨rfl,rfl⟩:=e;obtain⟨obv,mk,e1,e2,e3,e4⟩:=E6 hk rs hx;obtain⟨g1,g2⟩:=hres;obtain⟨n1,n2,n3,n4⟩:=mI hnew;have hsame:∀p:Nat×Nat,∀e,SV.c_ e svs=true→∀ob',ak (bl st.m d ob) e=some ob'→∃ob,ak st.m e=some ob∧iN ν d p e=ν e∧sameShape ob ob':=fun p e he=>by
         refine nX ?_;rintro rfl;have:∀{xs:List Arg} {vs:List SV},bu S.N st.g xs=some vs→SV.c_ e vs=false:=by
          intro xs
          induction xs with
          | nil=>intro vs h;simp only[bu,Za]at h;subst h;rfl
          | cons a xs ih=>
           intro vs h;simp only[bu]at h;split at h
           ·rename_i v vs' h1 h2;simp only[Za]at h;subst h;simp only[SV.c_,Bool.or_eq_false_iff];refine⟨?_,ih h2⟩
            cases a with
            | s n=>exact sW n3 h1
            | k c=>simp only[mD,Za]at h1;subst h1;rfl
            | f s=>simp only[mD,Za]at h1;subst h1;rfl
           ·simp at h
         rw[this hsv]at he;cases he
        have fin:∀(id:Nat) (Hn:an),H.length≤Hn.length→Hn[id]? = some obv→(∀k,k<H.length→k≠id→Hn[k]? = H[k]?)→(∀k,eP ν st.m k→k≠id)→(∀k,Z k→k≠id) →
         R (iN ν d (id,0)) Z { st with m:=bl st.m d ob } F Hn∧cZ (iN ν d (id,0)) (bl st.m d ob) Hn Z x (mk.val id)∧(∀k,Z k→aq Hn k=aq H k):=fun id Hn hl hid hk' ho hz=>by
         have hzr:∀k,Z k→aq Hn k=aq H k:=fun k hk=>by unfold aq;rw[hk' k (r.q9 hk) (hz k hk)]
         obtain⟨a1,a2⟩:=e4 id (iN ν d (id,0)) (bl st.m d ob) Hn (iV _ _ _) (cm _ _ _) hid hzr (hsame _);have r2:R ν Z st F Hn:=r.heap (fun k hk=>hk' k (r.lt hk) (ho k hk)) hzr
         exact⟨r2.add hnew (fun _=>⟨fun h=>ho _ h rfl,fun h=>hz _ h rfl⟩) a1,a2,hzr⟩
        have hdst:o.dst=some d:=hd
        cases place with
        | none=>
         obtain⟨f1,f2,f3⟩:=fin H.length (H++[obv]) (by simp) (by simp) (fun k hk _=>List.getElem?_append_left hk) (fun k hk=>Nat.ne_of_lt (r.lt hk)) (fun k hk=>Nat.ne_of_lt (r.q9 hk))
         refine⟨0,mk.val H.length,H++[obv],iN ν d (H.length,0),Z,fun q _ => ?_,f1,f2,Ev.add hnew (by simp) (fun k hk _=>List.getElem?_append_left hk) f3 (fun _=>.inr (Nat.le_refl _)),fun hh => ?_⟩
         ·unfold dL;rw[g1];simp only[←gd.E,g2 _ e1]
         ·rw[hdr]at hh;cases hh
        | some bi=>
         obtain⟨b,j⟩:=bi;have hf:=hfree b j rfl g1;have hlt:=(Zf.1 hf).1;have nf:∀k,eP ν st.m k→k≠b+j:=fun k hk e=>by
          subst e;obtain⟨d',ob',w1,w2,w3⟩:=hk;have:=r.obj d' ob' w1
          cases ob' with
          | sl fl es xs=>
           simp only[cH]at w2;simp only[en,w2,if_true]at this;obtain⟨_,hr',_⟩:=this;rw[w3,hf]at hr';cases hr'
          | box cs=>obtain⟨_,_,hr',_⟩:=this;rw[w3,hf]at hr';cases hr'
          | mp kvs=>obtain⟨_,hr',_⟩:=this;rw[w3,hf]at hr';cases hr'
         have nz:∀k,Z k→k≠b+j:=fun k hk e=>by
          subst e;have:=r.zrow _ hk;unfold aq at this;rw[hf]at this;simp[Ob.rows]at this
         obtain⟨f1,f2,f3⟩:=fin (b+j) (H.set (b+j) obv) (by simp) (by rw[List.getElem?_set_self hlt]) (fun k _ hk=>by rw[List.getElem?_set,if_neg (Ne.symm hk)]) nf nz
         refine⟨0,mk.val (b+j),H.set (b+j) obv,iN ν d (b+j,0),Z,fun q _ => ?_,f1,f2,Ev.add hnew (by simp) (fun k _ hk => ?_) f3 (fun _=>.inl ⟨b,j,rfl,rfl⟩),fun _=>⟨rfl,?_⟩⟩
         ·unfold dL;rw[g1];simp only[←gd.E,g2 _ e1,hf]
         ·rw[List.getElem?_set,if_neg fun e=>hk ⟨b,j,rfl,e.symm⟩]
         ·have:sO ⟨o.dst,g,dr&&eJ ops j,.a q,as,[],[]⟩=some d:=hdst;have hji:=hi b j rfl;subst hji;rw[this];exact Kept.add fun _ _ h=>h
       ·simp at h
      ·simp at h
     | l q=>
      simp only at h;split at h
      ·rename_i hnow;obtain⟨y,H',ν',e1,e2,e3,e4,e5⟩:=BQ r rs h;obtain⟨g1,g2⟩:=hres;refine⟨0,y,H',ν',Z,fun q _ => ?_,e2,e3,e4.weak (fun _ h=>h.elim),fun _=>⟨rfl,e5⟩⟩
       unfold dL;rw[g1];simp only[←gd.E]
       cases place with
       | none=>exact g2 _ _ e1
       | some bi=>
        obtain⟨b,j⟩:=bi;have hdt:dr=true:=hdr;subst hdt;have hji:=hi b j rfl;subst hji;have hlo:eJ ops j=true:=by simpa using hnow
        simp only[hlo,if_true];exact g2 _ _ e1
      ·simp at h
     | c=>
      simp only at h;obtain⟨g1,f',as',e1,e2⟩:=hres;have go:∀(f:FuncId) (args:List SV) (ys2:List V),bF ν st.m H Z args ys2→gR F o.op=some (.fn f,ys2)→iq S c o.dst dr (!dr||(dr&&eJ ops i)) (gY st.m fr) f args st=some (sv,st') →
       DM S ops place dr F o.op (sO ⟨o.dst,g,dr&&eJ ops i,.c,as,[],[]⟩) ν Z st H sv st':=fun f args ys2 hrl hcal hcs=>by
       obtain⟨n,y,H',ν',Z',p1,p2,p3,p4,p5,p6⟩:=HS (ops:=ops) (Rv:=fun id=>∃b j,place=some (b,j)∧id=b+j) hS hdr (fun b j hp hn=>by
        have:=hi b j hp;subst this;simp only[Zj]at hn;exact hn.2) (fun b j hp=>(hold b j hp).2) r hrl hcs
       refine⟨n,y,H',ν',Z',fun q hq => ?_,p2,p3,p4,fun hd=>⟨p5 hd,p6⟩⟩
       unfold dL;rw[g1];simp only[hcal];exact p1 q hq
      split at h
      ·rename_i f a b vs;obtain⟨w,ws,ew,r1,r2⟩:=rs.inv;rw[ew]at e1;simp only[List.cons.injEq]at e1;obtain⟨rfl,rfl⟩:=e1;obtain⟨a',b',rfl,ra,rb⟩:=r1.iW;exact go f _ _ ((ra.append r2).append rb) e2 h
      ·rename_i f a b vs;obtain⟨w,ws,ew,r1,r2⟩:=rs.inv;rw[ew]at e1;simp only[List.cons.injEq]at e1;obtain⟨rfl,rfl⟩:=e1;obtain⟨a',b',rfl,ra,rb⟩:=r1.fr.iW;exact go f _ _ (((bF.oG ra).append r2).append (bF.oG rb)) e2 h
      ·simp at h
    ·simp at h
   ·simp at hc
  ·simp at hc
 ·simp at hc
end
end Go.VE
namespace Go.VE
def eY (N:Nat→FuncId) (g:Tb SV) (o:RO):Option (Nat×List SV):=
 match o.k,bu N g o.as with
 | .c,some (.yl id::vs)=>some (id,vs)
 | _,_=>none
open Classical in
noncomputable def eR (S:Sys) (c:ck) (dr:Bool) (fr:List Nat) (o:RO) (st:St):Option St:=
 match wanted st.g o.gd with
 | some true=>match eY S.N st.g o with
  | some (id,vs)=>if dr then none else match d_ vs,st.want with
   | some xs,w::ws=>if xs=w∧id=st.yid then some (cO { st with want:=ws } o.dst (.v (.bool (st.more || !ws.isEmpty))))else none
   | _,_=>none
  | none=>(kJ S c dr fr o st).map fun (x,st')=>cO st' o.dst x
 | some false=>some (cO st o.dst (.v .undef))
 | none=>none
def RO.strip (o:RO):RO:={ o with dead:=[],pre:=[] }
def m_:List Gh→St→Option St
 | [],st=>some st
 | x::r,st=>(ghost x st).bind (m_ r)
def xd (dr:Bool) (l:List Gh) (st:St):Option St:=if dr then(if l.isEmpty then some st else none)else m_ l st
def kL (ds:List Nat) (st:St):St:={ st with g:=tq ds st.g }
noncomputable def jH (S:Sys) (c:ck) (dr:Bool):List Nat→List RO→St→Option St
 | _,[],st=>some st
 | fr,o::r,st=>match (xd dr o.pre st).bind (eR S c dr fr o.strip)with
  | some st'=>jH S c dr (if dr then mq fr o.strip else fr) r (kL o.dead st')
  | none=>none
abbrev JT:=List (List V)→(Nat→Prop)→(Nat→Prop)→an→Prop
structure Yc (S:Sys) (J:JT) (more:Bool) (yid:Nat):Prop where
 rK:∀w O Z H O' Z' H',J w O Z H→H.length≤H'.length→(∀i,i<H.length→¬O i→¬Z i→H'[i]? = H[i]?)→(∀i,Z i→Z' i∧aq H' i=aq H i) →
  (∀i,O' i→O i∨H.length≤i)→(∀i,Z' i→Z i∨O i∨H.length≤i)→J w O' Z' H'
 yield:∀x ws O Z H args,J (x::ws) O Z H→cW H Z x args→(∀i,Z i→(aq H i).isSome=true)→pA H Z→(∀i,O i→¬Z i∧i<H.length) →
  ∃n H',run S.E n (.yld yid) args H=some (.bool (more || !ws.isEmpty),H')∧J ws O Z H'∧H.length≤H'.length∧(∀i,O i→H'[i]? = H[i]?)∧(∀i,Z i→aq H' i=aq H i)
structure Fix (ν:Nu) (st:St) (ν':Nu) (st':St):Prop where
 pin:∀d∈st.pin,∀ob',ak st'.m d=some ob'→∃ob,ak st.m d=some ob∧ν' d=ν d∧sameShape ob ob'
 pins:st'.pin=st.pin
 more:st'.more=st.more
 yid:st'.yid=st.yid
section
variable {Rv:Nat→Prop} {ν ν' ν2:Nu} {Z Z':Nat→Prop} {st st' st2:St} {m m':Tb aL} {F F':Frame} {H H' H1:an} {S:Sys} {c:ck} {X:CX} {J:JT}
theorem Fix.refl:Fix ν st ν st:=⟨fun _ _ ob' h=>⟨ob',h,rfl,.refl _⟩,rfl,rfl,rfl⟩
theorem Fix.trans (a:Fix ν st ν' st') (b:Fix ν' st' ν2 st2):Fix ν st ν2 st2:=
 ⟨fun d hd ob2 h=>by
  obtain⟨ob1,h1,h2,h3⟩:=b.pin d (by rw[a.pins];exact hd) ob2 h
  obtain⟨ob,k1,k2,k3⟩:=a.pin d hd ob1 h1;exact⟨ob,k1,by rw[h2,k2],k3.trans h3⟩,by rw[b.pins,a.pins],by rw[b.more,a.more],by rw[b.yid,a.yid]⟩
theorem Ev.beside (y:Yc S J st.more st.yid) (a:Ev (fun _=>False) ν Z st H ν' Z' st' H') (hw:st'.want=st.want) (j:J st.want (eP ν st.m) Z H):J st'.want (eP ν' st'.m) Z' H':=by
 rw[hw];exact y.rK _ _ _ _ _ _ _ j a.len (fun i h1 h2 h3=>a.same i h1 h2 h3 (fun h=>h)) a.rows (fun i h=>(a.own i h).imp (fun h=>h) (fun h=>h.elim (fun h=>h.elim) (fun h=>h)))
  (fun i h=>(a.frz i h).imp (fun h=>h) (fun h=>h.imp (fun h=>h) (fun h=>h.elim (fun h=>h.elim) (fun h=>h))))
theorem pT (hs:∀s sv,ak st.g s=some sv→cZ ν m H Z sv (get F s)) {ops:List Oper} {o:Oper} {gd:Option (Nat×Bool)} (hg:Eh ops o=some gd) {t:Bool} (hw:wanted st.g gd=some t):eZ ops F o=t:=by
 unfold Eh at hg;unfold eZ
 cases hgd:o.guard with
 | none=>
  rw[hgd]at hg;simp only[Za]at hg;subst hg;simp only[wanted,Za]at hw;subst hw;rfl
 | some jb=>
  obtain⟨j,b⟩:=jb;rw[hgd]at hg;simp only at hg;obtain⟨d,hd,rfl⟩:=Zh.1 hg;simp only[hd];simp only[wanted]at hw;split at hw
  ·rename_i c hc;simp only[Za]at hw;subst hw;rw[(hs d _ hc).fr.bool]
  ·rename_i x hx hc;simp only[Za]at hw;subst hw;have hfr:=(hs d _ hc).fr;split
   ·rename_i c hcc;rw[hcc]at hfr;cases hfr;exact absurd rfl (hx c)
   ·rfl
  ·simp at hw
theorem HP {dr:Bool} {fr:List Nat} {ro:RO} {sv:SV} (h:kJ S c dr fr ro st=some (sv,st')):st'.want=st.want∧st'.pin=st.pin∧st'.more=st.more∧st'.yid=st.yid:=by
 unfold kJ at h;split at h
 ·split at h
  ·split at h
   ·split at h
    ·simp at h
    ·unfold uF at h;split at h
     ·split at h
      ·obtain⟨_,_,h⟩:=Zi.1 h;obtain⟨_,_,h⟩:=Zi.1 h;dsimp only at h;split at h
       ·simp only[Za,Zd]at h;obtain⟨_,rfl⟩:=h;exact⟨rfl,rfl,rfl,rfl⟩
       ·simp at h
      ·simp at h
     ·simp at h
   ·obtain⟨_,_,e⟩:=Zh.1 h;simp only[Zd]at e;obtain⟨_,rfl⟩:=e;exact⟨rfl,rfl,rfl,rfl⟩
  ·obtain⟨_,_,e⟩:=Zh.1 h;simp only[Zd]at e;obtain⟨_,rfl⟩:=e;exact⟨rfl,rfl,rfl,rfl⟩
  ·split at h
   ·obtain⟨_,_,e⟩:=Zh.1 h;simp only[Zd]at e;obtain⟨_,rfl⟩:=e;exact⟨rfl,rfl,rfl,rfl⟩
   ·simp at h
  ·split at h
   ·split at h
    ·obtain⟨_,_,e⟩:=Zh.1 h;simp only[Zd]at e;obtain⟨_,rfl⟩:=e;exact⟨rfl,rfl,rfl,rfl⟩
    ·simp at h
   ·simp at h
  ·split at h
   ·unfold kI at h
    (repeat' split at h) <;> first|(simp at h;done)|(simp only[Za,Zd]at h;obtain⟨_,rfl⟩:=h;exact⟨rfl,rfl,rfl,rfl⟩)|(obtain⟨_,_,e⟩:=Zh.1 h;simp only[Zd]at e;obtain⟨_,rfl⟩:=e;exact⟨rfl,rfl,rfl,rfl⟩)|skip
    ·dsimp only at h
     (repeat' split at h) <;> first|(simp at h;done)|(simp only[Za,Zd]at h;obtain⟨_,rfl⟩:=h;exact⟨rfl,rfl,rfl,rfl⟩)
   ·simp at h
  ·have hc:∀{dst dr now old f args},iq S c dst dr now old f args st=some (sv,st')→st'.want=st.want∧st'.pin=st.pin∧st'.more=st.more∧st'.yid=st.yid:=by
    intro dst dr now old f args h;unfold iq at h
    (repeat' split at h) <;> first|(simp at h;done)|(simp only[Za,Zd]at h;obtain⟨_,rfl⟩:=h;exact⟨rfl,rfl,rfl,rfl⟩)
   split at h
   ·exact hc h
   ·exact hc h
   ·simp at h
 ·simp at h
theorem vc (r:R ν Z st F H) {nt:Nat} {dst:Option Nat} (hd:u_ nt dst=true) {sv:SV} {y:V} (h:cZ ν st.m H Z sv y):∃F',g9 nt F dst y=some F'∧R ν Z (cO st dst sv) F' H:=by
 cases dst with
 | none=>exact⟨F,rfl,r⟩
 | some d=>
  have:d<nt:=by simpa [u_]using hd
  exact⟨set F d y,by simp only[g9,if_pos this],r.put h⟩
theorem y9 (st:St) (dst:Option Nat) (sv:SV):(cO st dst sv).m=st.m∧(cO st dst sv).want=st.want∧(cO st dst sv).pin=st.pin∧(cO st dst sv).more=st.more∧(cO st dst sv).yid=st.yid:=by
 cases dst <;> exact⟨rfl,rfl,rfl,rfl,rfl⟩
theorem Dc (gd:Good X S) (hS:iH S c) {ops:List Oper} {place:Option (Nat×Nat)} {dr:Bool} {fr:List Nat} {i:Nat} (hdr:dr=place.isSome) (hi:∀b j,place=some (b,j)→j=i)
 (hold:∀b j,place=some (b,j)→b≤H.length∧Old b fr ν Z st.m)
 {o:Oper} {ro:RO} (hc:j7 X dr ops i o=some ro) (hfree:∀b j,place=some (b,j)→eG o.op=.alloc→H[b+j]? = some .free)
 (r:R ν Z st F H) (hny:eY S.N st.g ro=none∨dr=true) (h:eR S c dr fr ro st=some st') :
 ∃n F' H' ν' Z',(∀k,n≤k→eW S.E (run S.E k) X.nt ops place o F H=some (F',H'))∧R ν' Z' st' F' H'∧Ev (fun id=>∃b j,place=some (b,j)∧id=b+j) ν Z st H ν' Z' st' H' ∧
  (dr=true→Z'=Z∧Kept (sO ro) ν st.m ν' st'.m)∧st'.want=st.want∧Fix ν st ν' st':=by
 have hc0:=hc;unfold j7 at hc;split at hc
 ·rename_i hdst;split at hc
  ·rename_i g k os hg hr;split at hc
   ·obtain⟨as,ha,rfl⟩:=Zh.1 hc;unfold eR at h;split at h
    ·rename_i hw;have hwv:=pT r.slot hg hw;have h2:(kJ S c dr fr ⟨o.dst,g,(rG dr ops i k os).2.2,(rG dr ops i k os).1,as,[],[]⟩ st).map (fun (x,st')=>cO st' o.dst x)=some st':=by
      split at h
      ·rename_i id vs hya;rcases hny with hny|hny
       ·rw[hny]at hya;cases hya
       ·subst hny;simp at h
      ·exact h
     obtain⟨⟨x,st1⟩,hd,rfl⟩:=Zh.1 h2;obtain⟨n,y,H',ν',Z',e1,e2,e3,e4,e5⟩:=Li gd hS hdr hi hold hc0 hfree r hd;obtain⟨w1,w2,w3,w4⟩:=HP hd;obtain⟨F',f1,f2⟩:=vc e2 hdst e3;obtain⟨p1,p2,p3,p4,p5⟩:=y9 st1 o.dst x;refine⟨n,F',H',ν',Z',fun k hk => ?_,f2,?_,fun hd=>⟨(e5 hd).1,by rw[p1];exact(e5 hd).2⟩,by rw[p2,w1],⟨fun d hd=>by rw[p1];exact e4.pin d hd,by rw[p3,w2],by rw[p4,w3],by rw[p5,w4]⟩⟩
     ·unfold eW;simp only[hwv,if_true,e1 k hk,f1,Option.map_some]
     ·exact⟨e4.len,e4.same,e4.rows,fun id h=>e4.own id (by rw[p1]at h;exact h),e4.frz,fun d hd=>by rw[p1];exact e4.pin d hd,by rw[p3,w2]⟩
    ·rename_i hw;have hwv:=pT r.slot hg hw;simp only[Za]at h;subst h;obtain⟨F',f1,f2⟩:=vc r hdst (.v V.undef V.undef (.same _ rfl));obtain⟨p1,p2,p3,p4,p5⟩:=y9 st o.dst (.v .undef);refine⟨0,F',H,ν,Z,fun k _ => ?_,f2,?_,fun _=>⟨rfl,by rw[p1];exact .refl⟩,p2,⟨fun d hd=>by rw[p1];exact fun ob' h=>⟨ob',h,rfl,.refl _⟩,p3,p4,p5⟩⟩
     ·unfold eW;simp only[hwv,Bool.false_eq_true,if_false,f1,Option.map_some]
     ·exact⟨Nat.le_refl _,fun _ _ _ _ _=>rfl,fun _ h=>⟨h,rfl⟩,fun _ h=>.inl (by rw[p1]at h;exact h),fun _ h=>.inl h,fun d hd=>by rw[p1];exact fun ob' h=>⟨ob',h,rfl,.refl _⟩,p3⟩
    ·simp at h
   ·simp at hc
  ·simp at hc
 ·simp at hc
theorem HM (gd:Good X S) (y:Yc S J st.more st.yid) {ops:List Oper} {fr:List Nat} {i:Nat} {o:Oper} {ro:RO} (hc:j7 X false ops i o=some ro)
 (r:R ν Z st F H) (j:J st.want (eP ν st.m) Z H) {id:Nat} {vs:List SV} (hya:eY S.N st.g ro=some (id,vs)) (hw0:wanted st.g ro.gd=some true) (h:eR S c false fr ro st=some st') :
 ∃n F' H',(∀k,n≤k→eW S.E (run S.E k) X.nt ops none o F H=some (F',H'))∧R ν Z st' F' H'∧J st'.want (eP ν st'.m) Z H'∧Fix ν st ν st':=by
 unfold j7 at hc;split at hc
 ·rename_i hdst;split at hc
  ·rename_i g k os hg hr;split at hc
   ·obtain⟨as,ha,rfl⟩:=Zh.1 hc;unfold eR at h;simp only at hw0;have hwv:=pT r.slot hg hw0;rw[hw0]at h;simp only[hya,Bool.false_eq_true,if_false]at h;unfold eY at hya;split at hya
    ·rename_i id' vs' hk hsa;simp only[Za,Zd]at hya;obtain⟨rfl,rfl⟩:=hya;simp only at hk hsa;subst hk;obtain⟨ys,hys,rs⟩:=sX gd.N r.slot ha hsa;obtain⟨g1,f',as',e1,e2⟩:=nL gd.N hr hys;obtain⟨w,ws,ew,r1,r2⟩:=rs.inv;rw[ew]at e1;simp only[List.cons.injEq]at e1;obtain⟨rfl,rfl⟩:=e1;cases r1;simp only at e2;split at h
     ·rename_i xs x wl hx hwant;split at h
      ·rename_i hcond;obtain⟨rfl,rfl⟩:=hcond;simp only[Za]at h;subst h;rw[hwant]at j;obtain⟨n,H',p1,p2,p3,p4,p5⟩:=y.yield _ _ _ _ _ _ j (r2.d_ hx) r.zrow r.deep (fun i hi=>⟨by obtain⟨d,ob,h1,h2,rfl⟩:=hi;exact r.apart d ob h1 h2,r.lt hi⟩)
       have r3:R ν Z st F H':=r.heap p4 p5;have r4:R ν Z { st with want:=wl } F H':=⟨r3.slot,r3.obj,r3.inj,r3.apart,r3.zrow,r3.deep⟩;obtain⟨F',f1,f2⟩:=vc (st:={ st with want:=wl }) r4 hdst (sv:=.v (.bool (st.more || !wl.isEmpty))) (.v _ _ (.same _ rfl));obtain⟨q1,q2,q3,q4,q5⟩:=y9 { st with want:=wl } o.dst (.v (.bool (st.more || !wl.isEmpty)));refine⟨n,F',H',fun k hk => ?_,f2,by rw[q1,q2];exact p2,⟨fun d hd=>by rw[q1];exact fun ob' h=>⟨ob',h,rfl,.refl _⟩,q3,q4,q5⟩⟩
       unfold eW dL;rw[g1,e2];simp only[hwv,if_true,oM S.E hk _ _ _ _ p1,f1,Option.map_some]
      ·simp at h
     ·simp at h
    ·simp at hya
   ·simp at hc
  ·simp at hc
 ·simp at hc
def jn (X:CX) (draw:Bool) (ops:List Oper):Nat→List Oper→Option (List RO)
 | _,[]=>some []
 | i,o::r=>match j7 X draw ops i o,jn X draw ops (i+1) r with
  | some ro,some rs=>some (ro::rs)
  | _,_=>none
theorem R.sN (r:R ν Z st F H) (ds:List Nat):R ν Z (kL ds st) F H:=r.less (g:=tq ds st.g) (m':=st.m) (fun s sv hs=>sP hs) (fun d ob hd=>hd)
theorem Fix.sN {ds:List Nat} (f:Fix ν (kL ds st) ν' st'):Fix ν st ν' st':=⟨f.pin,f.pins,f.more,f.yid⟩
theorem Fix.ghost (r:R ν Z st F H) (y:Yc S J st.more st.yid) (j:J st.want (eP ν st.m) Z H) {x:Gh} (h:ghost x st=some st'):∃ν' Z',R ν' Z' st' F H∧J st'.want (eP ν' st'.m) Z' H∧Fix ν st ν' st':=by
 obtain⟨ν',Z',h1,h2⟩:=Is (Rv:=fun _=>False) r h
 have hf:st'.want=st.want∧st'.more=st.more∧st'.yid=st.yid:=by
  unfold Go.VE.ghost uE at h
  (repeat' split at h) <;> first|(simp at h;done)|(simp only[Za]at h;subst h;exact⟨rfl,rfl,rfl⟩)
 exact⟨ν',Z',h1,h2.beside y hf.1 j,⟨h2.pin,h2.pins,hf.2.1,hf.2.2⟩⟩
theorem Fix.m_:∀{l:List Gh} {ν:Nu} {Z:Nat→Prop} {st st':St},R ν Z st F H→Yc S J st.more st.yid→J st.want (eP ν st.m) Z H→m_ l st=some st'→∃ν' Z',R ν' Z' st' F H∧J st'.want (eP ν' st'.m) Z' H∧Fix ν st ν' st'
 | [],ν,Z,st,st',r,y,j,h=>by simp only[Go.VE.m_,Za]at h;subst h;exact⟨ν,Z,r,j,.refl⟩
 | x::l,ν,Z,st,st',r,y,j,h=>by
  simp only[Go.VE.m_]at h;obtain⟨st1,h1,h2⟩:=Zi.1 h;obtain⟨ν1,Z1,r1,j1,f1⟩:=Fix.ghost r y j h1;obtain⟨ν2,Z2,r2,j2,f2⟩:=Fix.m_ r1 (by rw[f1.more,f1.yid];exact y) j1 h2
  exact⟨ν2,Z2,r2,j2,f1.trans f2⟩
theorem HT (gd:Good X S) (hS:iH S c) {ops:List Oper} {fr:List Nat} {i:Nat} {o:Oper} {ro:RO} {st1:St} (h1:j7 X false ops i o=some ro) (y:Yc S J st.more st.yid) (r:R ν Z st F H) (j:J st.want (eP ν st.m) Z H) (hs:eR S c false fr ro st=some st1) :
 ∃n F' H' ν' Z',(∀k,n≤k→eW S.E (run S.E k) X.nt ops none o F H=some (F',H'))∧R ν' Z' st1 F' H'∧J st1.want (eP ν' st1.m) Z' H'∧Fix ν st ν' st1:=by
 by_cases hw:wanted st.g ro.gd=some true
 ·cases hya:eY S.N st.g ro with
  | none=>
   obtain⟨n,F',H',ν',Z',e1,e2,e3,e4,e5,e6⟩:=Dc gd hS (place:=none) rfl (fun b j h=>by cases h) (fun b j h=>by cases h) h1 (fun b j h=>by cases h) r (.inl hya) hs
   exact⟨n,F',H',ν',Z',e1,e2,(e3.weak (fun id ⟨b,j,h,_⟩=>by cases h)).beside y e5 j,e6⟩
  | some p=>
   obtain⟨id,vs⟩:=p;obtain⟨n,F',H',e1,e2,e3,e4⟩:=HM gd y h1 r j hya hw hs;exact⟨n,F',H',ν,Z,e1,e2,e3,e4⟩
 ·have hs':eR S c false fr ro st=some st1:=hs;have hny:eY S.N st.g { ro with as:=[] }=none:=by
   unfold eY;simp[bu]
  obtain⟨n,F',H',ν',Z',e1,e2,e3,e4,e5,e6⟩:∃n F' H' ν' Z',(∀k,n≤k→eW S.E (run S.E k) X.nt ops none o F H=some (F',H'))∧R ν' Z' st1 F' H'∧Ev (fun _=>False) ν Z st H ν' Z' st1 H'∧True∧st1.want=st.want∧Fix ν st ν' st1:=by
   unfold eR at hs';split at hs'
   ·rename_i hw2;exact absurd hw2 hw
   ·rename_i hw2;simp only[Za]at hs';subst hs';unfold j7 at h1;split at h1
    ·rename_i hdst;split at h1
     ·rename_i g k os hg hr;split at h1
      ·obtain⟨as,ha,rfl⟩:=Zh.1 h1;have hwv:=pT r.slot hg hw2;obtain⟨F',f1,f2⟩:=vc r hdst (.v V.undef V.undef (.same _ rfl));obtain⟨p1,p2,p3,p4,p5⟩:=y9 st o.dst (.v .undef);refine⟨0,F',H,ν,Z,fun k _ => ?_,f2,?_,trivial,p2,⟨fun d hd=>by rw[p1];exact fun ob' h=>⟨ob',h,rfl,.refl _⟩,p3,p4,p5⟩⟩
       ·unfold eW;simp only[hwv,Bool.false_eq_true,if_false,f1,Option.map_some]
       ·exact⟨Nat.le_refl _,fun _ _ _ _ _=>rfl,fun _ h=>⟨h,rfl⟩,fun _ h=>.inl (by rw[p1]at h;exact h),fun _ h=>.inl h,fun d hd=>by rw[p1];exact fun ob' h=>⟨ob',h,rfl,.refl _⟩,p3⟩
      ·simp at h1
     ·simp at h1
    ·simp at h1
   ·simp at hs'
  exact⟨n,F',H',ν',Z',e1,e2,e3.beside y e5 j,e6⟩
theorem E3 (gd:Good X S) (hS:iH S c) {ops:List Oper} {fr:List Nat}:∀(rest:List Oper) {i:Nat} {ros:List RO} {ν:Nu} {Z:Nat→Prop} {st st':St} {F:Frame} {H:an},jn X false ops i rest=some (ros.map RO.strip)→jH S c false fr ros st=some st' →
 Yc S J st.more st.yid→R ν Z st F H→J st.want (eP ν st.m) Z H →
 ∃n F' H' ν' Z',(∀k,n≤k→i_ S.E (run S.E k) X.nt ops rest F H=some (F',H'))∧R ν' Z' st' F' H'∧J st'.want (eP ν' st'.m) Z' H'∧Fix ν st ν' st'
 | [],i,ros,ν,Z,st,st',F,H,hc,h,y,r,j=>by
  simp only[jn,Za]at hc;have:ros=[]:=List.map_eq_nil_iff.1 hc.symm;subst this;simp only[jH,Za]at h;subst h;exact⟨0,F,H,ν,Z,fun _ _=>rfl,r,j,.refl⟩
 | o::rest,i,ros,ν,Z,st,st',F,H,hc,h,y,r,j=>by
  simp only[jn]at hc;split at hc
  ·rename_i ro rs h1 h2;simp only[Za]at hc;obtain⟨ro0,rs0,rfl,hro,hrs⟩:∃ro0 rs0,ros=ro0::rs0∧ro=ro0.strip∧rs=rs0.map RO.strip:=by
    cases ros with
    | nil=>simp at hc
    | cons a b=>simp only[List.map_cons,List.cons.injEq]at hc;exact⟨a,b,rfl,hc.1,hc.2⟩
   subst hrs;simp only[jH,←hro]at h;split at h
   ·rename_i st1 hs;simp only[Bool.false_eq_true,if_false]at h;obtain⟨stg,hgh,hs⟩:=Zi.1 hs;simp only[xd,Bool.false_eq_true,if_false]at hgh;obtain⟨νg,Zg,rg,jg,fg⟩:=Fix.m_ r y j hgh;obtain⟨n1,F1,H1,ν1,Z1,a1,a2,a3,a4'⟩:=HT gd hS h1 (by rw[fg.more,fg.yid];exact y) rg jg hs
    have a4:=fg.trans a4';obtain⟨n2,F2,H2,ν2,Z2,b1,b2,b3,b4⟩:=E3 gd hS rest h2 h (by show Yc S J st1.more st1.yid;rw[a4.more,a4.yid];exact y) (R.sN a2 ro0.dead) a3
    refine⟨max n1 n2,F2,H2,ν2,Z2,fun k hk => ?_,b2,b3,a4.trans (Fix.sN b4)⟩
    simp only[i_,a1 k (Nat.le_trans (Nat.le_max_left _ _) hk),b1 k (Nat.le_trans (Nat.le_max_right _ _) hk)]
   ·simp at h
  ·simp at hc
theorem Old.next {b:Nat} {fr:List Nat} {o:RO} (h:Old b fr ν Z m) (hk:Kept (sO o) ν m ν' m'):Old b (mq fr o) ν' Z m':=by
 refine⟨fun d ob hd hb hnf => ?_,h.2⟩
 have hsub:d∉fr:=fun hm=>hnf (by
  unfold mq;split
  ·exact List.mem_cons_of_mem _ hm
  ·exact hm)
 have hne:sO o≠some d:=fun e=>hnf (by unfold mq;rw[e];exact List.mem_cons_self)
 obtain⟨ob0,h1,h2,hs⟩:=hk d ob hne hd;have hb0:cH ob0=true:=by
  cases ob0 <;> cases ob <;> simp only[sameShape]at hs <;> first|rfl|(simp only[cH]at hb ⊢;rw[←hs.1];exact hb)
 rw[h2];exact h.1 d ob0 h1 hb0 hsub
theorem zM (r:R ν Z st F H) {id:Nat} (h:eP ν st.m id):H[id]? ≠ some .free:=by
 obtain⟨d,ob,h1,h2,rfl⟩:=h;have:=r.obj d ob h1
 cases ob with
 | sl k es xs=>
  simp only[cH]at h2;simp only[en,h2,if_true]at this;obtain⟨ys,hr,_⟩:=this;rw[hr];simp
 | box cs=>obtain⟨es,cs',hr,_⟩:=this;rw[hr];simp
 | mp kvs=>obtain⟨kvs',hr,_⟩:=this;rw[hr];simp
theorem DQ (r:R ν Z st F H) {id:Nat} (h:Z id):H[id]? ≠ some .free:=fun e=>by
 have:=r.zrow id h;unfold aq at this;rw[e]at this;simp[Ob.rows]at this
theorem Ev.sN {ds:List Nat} (e:Ev Rv ν Z (kL ds st) H ν' Z' st' H'):Ev Rv ν Z st H ν' Z' st' H':=⟨e.len,e.same,e.rows,e.own,e.frz,e.pin,e.pins⟩
theorem Fa (gd:Good X S) (hS:iH S c) {ops:List Oper} {b k:Nat} (hall:mK ops=true→k=ops.length):∀(len:Nat) {i:Nat} {ros:List RO} {fr:List Nat} {ν:Nu} {Z:Nat→Prop} {st st':St} {F:Frame} {H:an},
 i+len=ops.length→jn X true ops i (ops.drop i)=some (ros.map RO.strip)→jH S c true fr ros st=some st'→R ν Z st F H→b≤H.length→Old b fr ν Z st.m→(∀j,i≤j→j<k→H[b+j]? = some .free) →
 ∃n F' H' ν',(∀q,n≤q→gE S.E (run S.E q) X.nt ops b (List.range' i len) F H=some (F',H'))∧R ν' Z st' F' H'∧Ev (fun id=>b≤id) ν Z st H ν' Z st' H'∧st'.want=st.want∧Fix ν st ν' st'
 | 0,i,ros,fr,ν,Z,st,st',F,H,hl,hc,h,r,hb,ho,hf=>by
  rw[List.drop_of_length_le (by omega)]at hc
  simp only[jn,Za]at hc;have:ros=[]:=List.map_eq_nil_iff.1 hc.symm;subst this;simp only[jH,Za]at h;subst h;exact⟨0,F,H,ν,fun _ _=>rfl,r,.refl,rfl,.refl⟩
 | len+1,i,ros,fr,ν,Z,st,st',F,H,hl,hc,h,r,hb,ho,hf=>by
  have hi:i<ops.length:=by omega
  have hg:ops[i]? = some ops[i]:=Ze hi;rw[List.drop_eq_getElem_cons hi]at hc;simp only[jn]at hc;split at hc
  ·rename_i ro rs h1 h2;simp only[Za]at hc;obtain⟨ro0,rs0,rfl,hro,hrs⟩:∃ro0 rs0,ros=ro0::rs0∧ro=ro0.strip∧rs=rs0.map RO.strip:=by
    cases ros with
    | nil=>simp at hc
    | cons a b=>simp only[List.map_cons,List.cons.injEq]at hc;exact⟨a,b,rfl,hc.1,hc.2⟩
   subst hrs;simp only[jH,←hro]at h;split at h
   ·rename_i st1 hs;simp only[if_true]at h;obtain⟨stg,hgh,hs⟩:=Zi.1 hs;have hst:st=stg:=by
     simp only[xd,if_true]at hgh;split at hgh
     ·simp only[Za]at hgh;exact hgh
     ·simp at hgh
    subst hst;obtain⟨n1,F1,H1,ν1,Z1,a1,a2,a3,a4,a5,a6⟩:=Dc gd hS (place:=some (b,i)) (fr:=fr) rfl (fun b' j e=>by cases e;rfl) (fun b' j e=>by cases e;exact⟨hb,ho⟩) h1 (fun b' j e hcl=>by
     cases e;have:mK ops=true:=by
      unfold mK;rw[List.any_eq_true];exact⟨ops[i],List.getElem_mem hi,by simp[hcl]⟩
     exact hf i (Nat.le_refl _) (by rw[hall this];exact hi)) r (.inr rfl) hs
    obtain⟨rfl,hkept⟩:=a4 rfl;have a3':Ev (fun id=>id=b+i) ν Z1 st H ν1 Z1 st1 H1:=a3.weak fun id ⟨b',j,e,h⟩=>by cases e;exact h
    obtain⟨n2,F2,H2,ν2,b1,b2,b3,b4,b5⟩:=Fa gd hS hall len (by omega) h2 h (R.sN a2 ro0.dead) (Nat.le_trans hb a3.len) (ho.next hkept) (fun j hij hjk=>by
     have hfr:=hf j (by omega) hjk
     have hlt:=(Zf.1 hfr).1;rw[a3'.same (b+j) hlt (fun h=>zM r h hfr) (fun h=>DQ r h hfr) (by omega)]
     exact hfr)
    refine⟨max n1 n2,F2,H2,ν2,fun q hq => ?_,b2,(a3'.weak fun id e=>by subst e;omega).trans (Ev.sN b3),by rw[b4];exact a5,a6.trans (Fix.sN b5)⟩
    simp only[List.range'_succ,gE,hg,a1 q (Nat.le_trans (Nat.le_max_left _ _) hq),b1 q (Nat.le_trans (Nat.le_max_right _ _) hq)]
   ·simp at h
  ·simp at hc
end
end Go.VE
namespace Go.VE
def aP (X:CX):Bool→Code→Option RC
 | _,.skip=>some .skip
 | _,.label _=>some .skip
 | _,.region _ ops draw=>
  if draw then(if qg ops.toList&&uu ops.toList then(jn X true ops.toList 0 ops.toList).map .gb else none)
  else(jn X false ops.toList 0 ops.toList).map .ops
 | ro,.seq a b=>match aP X ro a,aP X ro b with
  | some a,some b=>some (.seq a b)
  | _,_=>none
 | ro,.cond c a b=>match lZ X.nm c,aP X ro a,aP X ro b with
  | some x,some a,some b=>some (.cond x a b)
  | _,_,_=>none
 | ro,.block id c=>(aP X ro c).map (.block id)
 | ro,.loop c=>(aP X ro c).map .loop
 | ro,.rangeFunc g ps aw bw=>
  if ro || !(ps.toList.all (·<X.nt))then none else
  match lZ X.nm g,aP X true aw,aP X true bw with
  | some x,some a,some b=>some (.each x ps.toList a b)
  | _,_,_=>none
 | _,.exit id=>some (.exit id)
 | _,.ret=>some .ret
 | _,_=>none
def erase:RC→RC
 | .seq a b=>.seq (erase a) (erase b)
 | .cond x a b=>.cond x (erase a) (erase b)
 | .block id c=>.block id (erase c)
 | .loop c=>.loop (erase c)
 | .each g ps a b=>.each g ps (erase a) (erase b)
 | .gh _ c=>erase c
 | .hg c _=>erase c
 | .ops l=>.ops (l.map RO.strip)
 | .gb l=>.gb (l.map RO.strip)
 | c=>c
def gB (step:St→Option (Out×St)):Nat→St→Option (Out×St)
 | 0,_=>none
 | k+1,st=>match step st with
  | some (.norm,st')=>gB step k st'
  | r=>r
open Classical in
noncomputable def kf (step:St→Option (Out×St)) (st:St):Option (Out×St):=
 if h:∃k r,gB step k st=some r then some (Classical.choose (Classical.choose_spec h))else none
theorem tA {step:St→Option (Out×St)}:∀{k k':Nat} {st:St} {r:Out×St},k≤k'→gB step k st=some r→gB step k' st=some r
 | 0,_,_,_,_,h=>by simp[gB]at h
 | k+1,0,_,_,hk,_=>by omega
 | k+1,k'+1,st,r,hk,h=>by
  simp only[gB]at h ⊢;split at h
  ·rename_i st' hs;rw[tA (Nat.le_of_succ_le_succ hk) h]
  ·exact h
theorem jy {step:St→Option (Out×St)} {st:St} {r:Out×St}:kf step st=some r↔∃k,gB step k st=some r:=by
 unfold kf;constructor
 ·intro h;split at h
  ·rename_i hx;simp only[Za]at h;exact⟨_,by rw[←h];exact Classical.choose_spec (Classical.choose_spec hx)⟩
  ·simp at h
 ·rintro⟨k,hk⟩;have hx:∃k r,gB step k st=some r:=⟨k,r,hk⟩;rw[dif_pos hx];have h2:=Classical.choose_spec (Classical.choose_spec hx);have h3:=tA (Nat.le_max_left (Classical.choose hx) k) h2;have h4:=tA (Nat.le_max_right (Classical.choose hx) k) hk;rw[h3]at h4;exact h4
def gi (ps:List Nat) (A B:St→Option (Out×St)) (st:St) (x:List V) (m:Tb aL):Option (Out×Tb aL):=
 if x.length=ps.length then
  match A { g:=ri st.g ps (x.map .v),m:=m,pin:=st.pin++kU st.g,want:=[],more:=true,yid:=0 } with
  | some (.norm,st1)=>(B st1).map fun (o,st2)=>(o,st2.m)
  | _=>none
 else none
def kK (step:List V→Tb aL→Option (Out×Tb aL)):List (List V)→Tb aL→Option (Out×Tb aL)
 | [],m=>some (.norm,m)
 | x::xs,m=>match step x m with
  | some (.norm,m')=>kK step xs m'
  | r=>r
noncomputable def bG (S:Sys) (c:ck):RC→St→Option (Out×St)
 | .skip,st=>some (.norm,st)
 | .ops l,st=>(jH S c false [] l st).map fun st=>(.norm,st)
 | .gb l,st=>(jH S c true [] l st).map fun st=>(.norm,st)
 | .seq a b,st=>match bG S c a st with
  | some (.norm,st')=>bG S c b st'
  | r=>r
 | .cond x a b,st=>match mD S.N st.g x with
  | some (.v (.bool t))=>if t then bG S c a st else bG S c b st
  | _=>none
 | .block id a,st=>match bG S c a st with
  | some (.exit id',st')=>if id'=id then some (.norm,st')else some (.exit id',st')
  | r=>r
 | .loop a,st=>kf (bG S c a) st
 | .each g ps a b,st=>match mD S.N st.g g with
  | some (.v (.clo f x y))=>match S.items f x y with
   | some xs=>(kK (gi ps (bG S c a) (bG S c b) st) xs st.m).map fun (o,m)=>(o,{ st with m:=m })
   | none=>none
  | _=>none
 | .exit id,st=>some (.exit id,st)
 | .ret,st=>some (.ret,st)
 | .gh x a,st=>(ghost x st).bind (bG S c a)
 | .hg a x,st=>match bG S c a st with
  | some (.norm,st')=>(ghost x st').map fun st=>(.norm,st)
  | r=>r
def gk (S:Sys) (f:FuncId) (a b:List V) (xs:List (List V)):Prop:=
 ∀ws more,(more=true∧ws=xs∨more=false∧ws≠[]∧∃r,xs=ws++r)→∀yid J,Yc S J more yid→∀Z a' b' H,cW H Z a a'→cW H Z b b'→(∀i,Z i→(aq H i).isSome=true)→pA H Z→J ws (fun _=>False) Z H →
  ∃n y H' O' Z',(∀k,n≤k→run S.E k (.fn f) (a'++.yld yid::b') H=some (y,H'))∧J [] O' Z' H'
section
variable {ν ν' ν2:Nu} {Z Z':Nat→Prop} {st st' st2:St} {m m':Tb aL} {F F':Frame} {H H' H1:an} {S:Sys} {c:ck} {X:CX} {J:JT}
end
end Go.VE
namespace Go.VE
inductive qQ (step:List V→Tb aL→Option (Out×Tb aL)) (o:Out) (mf:Tb aL):List (List V)→Bool→Tb aL→Prop
 | nil (h:o=.norm):qQ step o mf [] true mf
 | next (x:List V) (ws:List (List V)) (more:Bool) (m m1:Tb aL) (h:step x m=some (.norm,m1)) (r:qQ step o mf ws more m1):qQ step o mf (x::ws) more m
 | last (x:List V) (m:Tb aL) (h:step x m=some (o,mf)) (ho:o≠.norm):qQ step o mf [x] false m
theorem yC {step:List V→Tb aL→Option (Out×Tb aL)} {o:Out} {mf:Tb aL}:∀{xs:List (List V)} {m:Tb aL},kK step xs m=some (o,mf) →
 ∃ws more,(more=true∧ws=xs∨more=false∧ws≠[]∧∃r,xs=ws++r)∧qQ step o mf ws more m
 | [],m,h=>by
  simp only[kK,Za,Zd]at h;obtain⟨rfl,rfl⟩:=h;exact⟨[],true,.inl ⟨rfl,rfl⟩,.nil rfl⟩
 | x::xs,m,h=>by
  simp only[kK]at h;split at h
  ·rename_i m' hs;obtain⟨ws,more,hc,hr⟩:=yC h;refine⟨x::ws,more,?_,.next x ws more m m' hs hr⟩;rcases hc with⟨h1,h2⟩|⟨h1,h2,r,h3⟩
   ·exact .inl ⟨h1,by rw[h2]⟩
   ·exact .inr ⟨h1,by simp,r,by rw[h3];rfl⟩
  ·rename_i hs;refine⟨[x],false,.inr ⟨rfl,by simp,xs,rfl⟩,.last x m h fun e => ?_⟩
   subst e;exact hs mf h
def oU (O0 Z0:Nat→Prop) (H0:an):JT:=fun w O Z H=>w=[]∧H0.length≤H.length∧(∀i,i<H0.length→¬O0 i→¬Z0 i→H[i]? = H0[i]?)∧(∀i,Z0 i→Z i∧aq H i=aq H0 i) ∧
 (∀i,O i→O0 i∨H0.length≤i)∧(∀i,Z i→Z0 i∨O0 i∨H0.length≤i)
section
variable {ν ν' ν2:Nu} {Z Z':Nat→Prop} {st st' st2:St} {m m':Tb aL} {F F':Frame} {H H' H1:an} {S:Sys} {c:ck} {X:CX} {J:JT} {O0 Z0:Nat→Prop} {H0:an}
theorem oU.rK {w:List (List V)} {O Z O' Z':Nat→Prop} {H H':an} (j:oU O0 Z0 H0 w O Z H) (hl:H.length≤H'.length) (hs:∀i,i<H.length→¬O i→¬Z i→H'[i]? = H[i]?) (hr:∀i,Z i→Z' i∧aq H' i=aq H i)
 (ho:∀i,O' i→O i∨H.length≤i) (hz:∀i,Z' i→Z i∨O i∨H.length≤i):oU O0 Z0 H0 w O' Z' H':=by
 obtain⟨j1,j2,j3,j4,j5,j6⟩:=j;refine⟨j1,Nat.le_trans j2 hl,fun i h1 h2 h3 => ?_,fun i h=>⟨(hr i (j4 i h).1).1,by rw[(hr i (j4 i h).1).2,(j4 i h).2]⟩,fun i h => ?_,fun i h => ?_⟩
 ·rw[hs i (Nat.lt_of_lt_of_le h1 j2) (fun h=>by rcases j5 i h with h|h;exact h2 h;omega) (fun h=>by rcases j6 i h with h|h|h;exact h3 h;exact h2 h;omega),j3 i h1 h2 h3]
 ·rcases ho i h with h|h
  ·exact j5 i h
  ·exact .inr (Nat.le_trans j2 h)
 ·rcases hz i h with h|h|h
  ·exact j6 i h
  ·rcases j5 i h with h|h
   ·exact .inr (.inl h)
   ·exact .inr (.inr h)
  ·exact .inr (.inr (Nat.le_trans j2 h))
theorem oU.yc {more:Bool} {yid:Nat}:Yc S (oU O0 Z0 H0) more yid where
 rK:=fun _ _ _ _ _ _ _ j h1 h2 h3 h4 h5=>j.rK h1 h2 h3 h4 h5
 yield:=fun x ws O Z H args j=>by obtain⟨h,_⟩:=j;cases h
theorem oU.refl (r:R ν Z st F H):oU (eP ν st.m) Z H [] (eP ν st.m) Z H:=⟨rfl,Nat.le_refl _,fun _ _ _ _=>rfl,fun i h=>⟨h,rfl⟩,fun i h=>.inl h,fun i h=>.inl h⟩
mutual
theorem yY {d:Nat}:∀{sv:SV},sv.cz d=true→d∈sv.names
 | .v _,h=>by simp[SV.cz]at h
 | .own e,h=>by simp[SV.cz]at h;simp[SV.names,h]
 | .ptr e _,h=>by simp[SV.cz]at h;simp[SV.names,h]
 | .el e _ _,h=>by simp[SV.cz]at h;simp[SV.names,h]
 | .mp e,h=>by simp[SV.cz]at h;simp[SV.names,h]
 | .clo f a b,h=>by
  simp only[SV.cz,Bool.or_eq_true]at h;simp only[SV.names,List.mem_append];exact h.imp oA oA
 | .tup l,h=>by simp only[SV.cz]at h;simp only[SV.names];exact oA h
 | .yl _,h=>by simp[SV.cz]at h
theorem oA {d:Nat}:∀{l:List SV},SV.c_ d l=true→d∈SV.sA l
 | [],h=>by simp[SV.c_]at h
 | x::r,h=>by
  simp only[SV.c_,Bool.or_eq_true]at h;simp only[SV.sA,List.mem_append];exact h.imp yY oA
end
theorem vU {d:Nat}:∀{g:Tb SV} {s:Nat} {sv:SV},ak g s=some sv→sv.cz d=true→d∈kU g
 | [],s,sv,h,_=>by simp[ak]at h
 | (k,x)::r,s,sv,h,hs=>by
  simp only[ak]at h;simp only[kU,List.mem_append];split at h
  ·simp only[Za]at h;subst h;exact .inl (yY hs)
  ·exact .inr (vU h hs)
theorem R.QT (r:R ν Z st F H) {Z2:Nat→Prop} (h1:∀i,Z2 i→¬eP ν st.m i) (h2:∀i,Z2 i→(aq H i).isSome=true) (h3:pA H Z2):R ν (fun i=>Z i∨Z2 i) st F H:=by
 have hz:∀i,Z i→(Z i∨Z2 i)∧aq H i=aq H i:=fun i h=>⟨.inl h,rfl⟩
 have hz2:∀i,Z2 i→(Z i∨Z2 i)∧aq H i=aq H i:=fun i h=>⟨.inr h,rfl⟩
 refine⟨fun s sv hs=>(r.slot s sv hs).mono hz fun e _=>jz ν st.m e,fun d ob hd=>en.mono hz rfl (fun _=>rfl) (fun e _=>jz ν st.m e) (r.obj d ob hd),r.inj,fun d ob hd hb hh => ?_,fun i hi => ?_,⟨fun id es ys hi hr c hc u hu => ?_⟩⟩
 ·rcases hh with hh|hh
  ·exact r.apart d ob hd hb hh
  ·exact h1 _ hh ⟨d,ob,hd,hb,rfl⟩
 ·exact hi.elim (r.zrow i) (h2 i)
 ·rcases hi with hi|hi
  ·obtain⟨x,hx⟩:=r.deep.row id es ys hi hr c hc u hu;exact⟨x,hx.mono hz⟩
  ·obtain⟨x,hx⟩:=h3.row id es ys hi hr c hc u hu;exact⟨x,hx.mono hz2⟩
theorem R.MA:∀{ps:List Nat} {xs:List V} {vs:List V} {g:Tb SV} {F:Frame},R ν Z { st with g:=g } F H→cW H Z xs vs→xs.length=ps.length→R ν Z { st with g:=ri g ps (xs.map .v) } (o0 ps vs F) H
 | [],xs,vs,g,F,r,h,hl=>by
  have:xs=[]:=List.length_eq_zero_iff.1 hl;subst this;rw[h.cS];exact r
 | p::ps,[],vs,g,F,r,h,hl=>by simp at hl
 | p::ps,x::xs,vs,g,F,r,h,hl=>by
  obtain⟨w,ws,rfl,h1,h2⟩:=h.inv;exact R.MA (ps:=ps) (r.put (st:={ st with g:=g }) (.v _ _ h1)) h2 (by simpa using hl)
def nh (X:CX) (S:Sys) (ro:Bool) (code:Code) (run':St→Option (Out×St)):Prop:=
 ∀st o st',run' st=some (o,st')→∀(J:JT) ν Z F H,Yc S J st.more st.yid→R ν Z st F H→J st.want (eP ν st.m) Z H →
  ∃n F' H' ν' Z',(∀k,n≤k→exec S.E (run S.E k) k ro X.nt code F H=some (o,F',H'))∧R ν' Z' st' F' H'∧J st'.want (eP ν' st'.m) Z' H'∧Fix ν st ν' st'
def xx (st:St) (m:Tb aL):St:={ g:=st.g,m:=m,pin:=st.pin++kU st.g,want:=[],more:=true,yid:=0 }
def JI (X:CX) (st:St) (F:Frame) (ν:Nu) (O0 Z0:Nat→Prop) (H0:an) (idl:Nat) (ps:List Nat) (aw bw:Code) (step:List V→Tb aL→Option (Out×Tb aL)) (o:Out) (mf:Tb aL) (more:Bool):JT:=fun w O Z H=>
 ∃m νb Zb lr,R νb Zb (xx st m) F H∧oU O0 Z0 H0 [] (eP νb m) Zb H∧(∀i,O i→¬eP νb m i∧¬Zb i∧i≠idl∧H0.length≤i)∧(∀i,Z i→¬eP νb m i∧i≠idl∧(Z0 i∨H0.length≤i)) ∧
  ¬eP νb m idl∧¬Zb idl∧H0.length≤idl∧H[idl]? = some (.loop lr)∧(lr.frame=F∧lr.nt=X.nt∧lr.params=ps∧lr.assign=aw∧lr.body=bw) ∧
  (∀d∈st.pin++kU st.g,∀ob',ak m d=some ob'→∃ob,ak st.m d=some ob∧νb d=ν d∧sameShape ob ob') ∧
  ((qQ step o mf w more m∧lr.st=.ready∧lr.pend=none)∨(w=[]∧m=mf∧lr.st=.done∧lr.pend=some o))
theorem JI.rK {w:List (List V)} {O Z O' Z':Nat→Prop} {H H':an} {idl:Nat} {ps:List Nat} {aw bw:Code} {step:List V→Tb aL→Option (Out×Tb aL)} {o:Out} {mf:Tb aL} {more:Bool}
 (j:JI X st F ν O0 Z0 H0 idl ps aw bw step o mf more w O Z H) (hl:H.length≤H'.length) (hs:∀i,i<H.length→¬O i→¬Z i→H'[i]? = H[i]?) (hr:∀i,Z i→Z' i∧aq H' i=aq H i)
 (ho:∀i,O' i→O i∨H.length≤i) (hz:∀i,Z' i→Z i∨O i∨H.length≤i):JI X st F ν O0 Z0 H0 idl ps aw bw step o mf more w O' Z' H':=by
 obtain⟨m,νb,Zb,lr,r,ej,d1,d2,l1,l2,l3,l4,l5,l6,l7⟩:=j;have hown:∀i,eP νb m i→H'[i]? = H[i]? := fun i hi=>hs i (r.lt (st:=xx st m) hi) (fun h=>(d1 i h).1 hi) (fun h=>(d2 i h).1 hi)
 have hzb:∀i,Zb i→aq H' i=aq H i:=fun i hi=>by
  by_cases hzi:Z i
  ·exact(hr i hzi).2
  ·unfold aq;rw[hs i (r.q9 hi) (fun h=>(d1 i h).2.1 hi) hzi]
 have hll:idl<H.length:=(Zf.1 l4).1;have h0l:H0.length≤H.length:=ej.2.1;refine⟨m,νb,Zb,lr,r.heap hown hzb,?_,fun i h => ?_,fun i h => ?_,l1,l2,l3,?_,l5,l6,l7⟩
 ·obtain⟨j1,j2,j3,j4,j5,j6⟩:=ej;refine⟨j1,Nat.le_trans j2 hl,fun i h1 h2 h3 => ?_,fun i h=>⟨(j4 i h).1,by rw[hzb i (j4 i h).1,(j4 i h).2]⟩,j5,j6⟩
  rw[hs i (Nat.lt_of_lt_of_le h1 j2) (fun h=>by have:=(d1 i h).2.2.2;omega) (fun h=>by rcases (d2 i h).2.2 with h|h;exact h3 h;omega),j3 i h1 h2 h3]
 ·rcases ho i h with h|h
  ·exact d1 i h
  ·exact⟨fun hi=>absurd (r.lt (st:=xx st m) hi) (by omega),fun hi=>absurd (r.q9 hi) (by omega),by omega,by omega⟩
 ·rcases hz i h with h|h|h
  ·exact d2 i h
  ·exact⟨(d1 i h).1,(d1 i h).2.2.1,.inr (d1 i h).2.2.2⟩
  ·exact⟨fun hi=>absurd (r.lt (st:=xx st m) hi) (by omega),by omega,.inr (by omega)⟩
 ·rw[hs idl hll (fun h=>(d1 idl h).2.2.1 rfl) (fun h=>(d2 idl h).2.1 rfl)];exact l4
theorem JI.yield (S:Sys) {A B:St→Option (Out×St)} {aw bw:Code} (hA:nh X S true aw A) (hB:nh X S true bw B) {idl:Nat} {ps:List Nat} (hps:ps.all (·<X.nt)=true) {o:Out} {mf:Tb aL} {more:Bool}
 {x:List V} {ws:List (List V)} {O Z:Nat→Prop} {H:an} {args:List V} (j:JI X st F ν O0 Z0 H0 idl ps aw bw (gi ps A B st) o mf more (x::ws) O Z H)
 (hx:cW H Z x args) (hzr:∀i,Z i→(aq H i).isSome=true) (hzd:pA H Z) (hoz:∀i,O i→¬Z i∧i<H.length) :
 ∃n H',run S.E n (.yld idl) args H=some (.bool (more || !ws.isEmpty),H')∧JI X st F ν O0 Z0 H0 idl ps aw bw (gi ps A B st) o mf more ws O Z H'∧H.length≤H'.length∧(∀i,O i→H'[i]? = H[i]?)∧(∀i,Z i→aq H' i=aq H i):=by
 obtain⟨m,νb,Zb,lr,r,ej,d1,d2,l1,l2,l3,l4,⟨q1,q2,q3,q4,q5⟩,l6,l7⟩:=j;have l7':qQ (gi ps A B st) o mf (x::ws) more m∧lr.st=.ready∧lr.pend=none:=by
  rcases l7 with h|⟨h,_⟩
  ·exact h
  ·cases h
 obtain⟨hE,hready,hpend⟩:=l7';have hround:∃oo m1,gi ps A B st x m=some (oo,m1)∧(oo=.norm∧qQ (gi ps A B st) o mf ws more m1∧(more || !ws.isEmpty)=true∨oo≠.norm∧oo=o∧m1=mf∧ws=[]∧more=false):=by
  cases hE with
  | next _ _ _ _ m1 h hr=>
   refine⟨.norm,m1,h,.inl ⟨rfl,hr,?_⟩⟩;cases hr <;> simp
  | last _ _ h ho=>exact⟨o,mf,h,.inr ⟨ho,rfl,rfl,rfl,rfl⟩⟩
 obtain⟨oo,m1,hstep,hout⟩:=hround;unfold gi at hstep;split at hstep
 ·rename_i hlen;split at hstep
  ·rename_i st1 hAs;obtain⟨⟨oo',st2⟩,hBs,e⟩:=Zh.1 hstep;simp only[Zd]at e;obtain⟨rfl,rfl⟩:=e;have hll:idl<H.length:=(Zf.1 l4).1;have h0l:H0.length≤H.length:=ej.2.1;have r1:R νb (fun i=>Zb i∨Z i) (xx st m) F H:=r.QT (fun i hi=>(d2 i hi).1) hzr hzd
   have hxx:cW H (fun i=>Zb i∨Z i) x args:=hx.mono fun i hi=>⟨.inr hi,rfl⟩
   have r2:=R.MA (st:=xx st m) r1 hxx hlen;obtain⟨nA,F2,H2,ν2,Z2,a1,a2,a3,a4⟩:=hA _ _ _ hAs (oU (eP νb m) (fun i=>Zb i∨Z i) H) νb _ _ H oU.yc r2 (oU.refl (st:=xx st m) r1)
   obtain⟨b1,b2,b3,b4,b5,b6⟩:=a3;have hnz:¬(Zb idl∨Z idl):=fun h=>h.elim l2 fun h=>(d2 idl h).2.1 rfl
   have hlo2:H2[idl]? = some (.loop lr):=by rw[b3 idl hll l1 hnz];exact l4
   have hll2:idl<H2.length:=by omega
   have no2:¬eP ν2 st1.m idl:=fun h=>(b5 idl h).elim l1 fun h=>by omega
   have nz2:¬Z2 idl:=fun h=>by rcases b6 idl h with h|h|h;exact hnz h;exact l1 h;omega
   have hset:∀(ob:Ob) (Hh:an) (i:Nat),i≠idl→(Hh.set idl ob)[i]? = Hh[i]? := fun ob Hh i hne=>by rw[List.getElem?_set,if_neg (Ne.symm hne)]
   have r3:R ν2 Z2 st1 F2 (H2.set idl (.loop { lr with st:=.busy })):=a2.heap (fun i hi=>hset _ _ i fun e=>no2 (e▸hi)) (fun i hi=>by unfold aq;rw[hset _ _ i fun e=>nz2 (e▸hi)])
   obtain⟨nB,F4,H4,ν4,Z4,c1,c2,c3,c4⟩:=hB _ _ _ hBs (oU (eP ν2 st1.m) Z2 (H2.set idl (.loop { lr with st:=.busy }))) ν2 Z2 F2 _ oU.yc r3 (by
    rw[b1];exact oU.refl r3)
   obtain⟨_,g2,g3,g4,g5,g6⟩:=c3;simp only[List.length_set]at g2 g3 g5 g6;have hlo4:H4[idl]? = some (.loop { lr with st:=.busy }):=by rw[g3 idl hll2 no2 nz2,List.getElem?_set_self hll2]
   have hll4:idl<H4.length:=by omega
   have no4:¬eP ν4 st2.m idl:=fun h=>(g5 idl h).elim no2 fun h=>by omega
   have nz4:¬Z4 idl:=fun h=>by rcases g6 idl h with h|h|h;exact nz2 h;exact no2 h;omega
   generalize hlr:({ lr with st:=(if oo'==.norm then vB.ready else vB.done),pend:=(if oo'==.norm then none else some oo') }:p_)=lr5;have r5:R ν4 Z4 st2 F4 (H4.set idl (.loop lr5)):=c2.heap (fun i hi=>hset _ _ i fun e=>no4 (e▸hi)) (fun i hi=>by unfold aq;rw[hset _ _ i fun e=>nz4 (e▸hi)])
   have hlen5:H.length≤(H4.set idl (.loop lr5)).length:=by simp only[List.length_set];omega
   have same5:∀i,i<H.length→i≠idl→¬eP νb m i→¬(Zb i∨Z i)→(H4.set idl (.loop lr5))[i]? = H[i]? := fun i h1 h2 h3 h4=>by
    rw[hset _ _ i h2,g3 i (by omega) (fun h=>(b5 i h).elim h3 fun h=>by omega) (fun h=>by rcases b6 i h with h|h|h;exact h4 h;exact h3 h;omega),hset _ _ i h2,b3 i h1 h3 h4]
   have rows5:∀i,(Zb i∨Z i)→Z4 i∧aq (H4.set idl (.loop lr5)) i=aq H i:=fun i hi=>by
    have hne:i≠idl:=fun e=>hnz (e▸hi)
    obtain⟨t1,t2⟩:=b4 i hi;obtain⟨t3,t4⟩:=g4 i t1;refine⟨t3,?_⟩;rw[←t2];have:aq (H2.set idl (.loop { lr with st:=.busy })) i=aq H2 i:=by unfold aq;rw[hset _ _ i hne]
    rw[←this,←t4];unfold aq;rw[hset _ _ i hne]
   have own5:∀i,eP ν4 st2.m i→eP νb m i∨H.length≤i:=fun i hi=>by
    rcases g5 i hi with h|h
    ·exact b5 i h
    ·exact .inr (by omega)
   have frz5:∀i,Z4 i→(Zb i∨Z i)∨eP νb m i∨H.length≤i:=fun i hi=>by
    rcases g6 i hi with h|h|h
    ·exact b6 i h
    ·rcases b5 i h with h|h
     ·exact .inr (.inl h)
     ·exact .inr (.inr h)
    ·exact .inr (.inr (by omega))
   have fx:=a4.trans c4;have r6:R ν4 Z4 (xx st st2.m) F (H4.set idl (.loop lr5)):=⟨fun s sv hs=>(r.slot s sv hs).mono (fun i hi=>rows5 i (.inl hi)) fun d hd ob' hob=>fx.pin d (List.mem_append_right _ (vU hs hd)) ob' hob,r5.obj,r5.inj,r5.apart,r5.zrow,r5.deep⟩
   have hrun:run S.E (max nA nB+1) (.yld idl) args H=some (.bool (oo'==.norm),H4.set idl (.loop lr5)):=by
    simp only[run,l4,hready];rw[if_pos (by rw[q3];exact⟨by rw[←hx.1];exact hlen,by rw[q2];exact hps⟩)]
    rw[q1,q2,q3,q4,q5];rw[a1 _ (Nat.le_max_left _ _)];simp only[hlo2,hready];rw[c1 _ (Nat.le_max_right _ _)];simp only[hlo4];rw[←hlr]
   refine⟨max nA nB+1,H4.set idl (.loop lr5),?_,⟨st2.m,ν4,Z4,lr5,r6,?_,fun i hi => ?_,fun i hi => ?_,no4,nz4,l3,?_,?_,fun d hd ob' hob => ?_,?_⟩,hlen5,fun i hi => ?_,fun i hi=>(rows5 i (.inr hi)).2⟩
   ·rw[hrun];rcases hout with⟨h1,_,h3⟩|⟨h1,_,_,h4,h5⟩
    ·rw[h1,h3];rfl
    ·rw[h4,h5]
     cases hoo:oo' with
     | norm=>exact absurd hoo h1
     | _=>rfl
   ·obtain⟨j1,j2,j3,j4,j5,j6⟩:=ej;refine⟨rfl,Nat.le_trans j2 hlen5,fun i h1 h2 h3 => ?_,fun i h=>⟨(rows5 i (.inl (j4 i h).1)).1,by rw[(rows5 i (.inl (j4 i h).1)).2,(j4 i h).2]⟩,fun i h => ?_,fun i h => ?_⟩
    ·rw[same5 i (by omega) (by omega) (fun h=>by rcases j5 i h with h|h;exact h2 h;omega) (fun h=>by
      rcases h with h|h
      ·rcases j6 i h with h|h|h;exact h3 h;exact h2 h;omega
      ·rcases (d2 i h).2.2 with h|h;exact h3 h;omega),j3 i h1 h2 h3]
    ·rcases own5 i h with h|h
     ·exact j5 i h
     ·exact .inr (by omega)
    ·rcases frz5 i h with (h|h)|h|h
     ·exact j6 i h
     ·rcases (d2 i h).2.2 with h|h;exact .inl h;exact .inr (.inr h)
     ·rcases j5 i h with h|h;exact .inr (.inl h);exact .inr (.inr h)
     ·exact .inr (.inr (by omega))
   ·obtain⟨t1,t2⟩:=hoz i hi;obtain⟨t3,t4,t5,t6⟩:=d1 i hi;refine⟨fun h=>(own5 i h).elim t3 fun h=>by omega,fun h => ?_,t5,t6⟩
    rcases frz5 i h with (h|h)|h|h
    ·exact t4 h
    ·exact t1 h
    ·exact t3 h
    ·omega
   ·obtain⟨t1,t2,t3⟩:=d2 i hi;have hlt:i<H.length:=by
     have:=hzr i hi;unfold aq at this
     cases hh:H[i]? with
     | none=>rw[hh]at this;simp at this
     | some _=>exact(Zf.1 hh).1
    exact⟨fun h=>(own5 i h).elim t1 fun h=>by omega,t2,t3⟩
   ·rw[List.getElem?_set_self hll4]
   ·subst hlr;exact⟨q1,q2,q3,q4,q5⟩
   ·obtain⟨ob1,h1,h2,h3⟩:=fx.pin d hd ob' hob;obtain⟨ob,k1,k2,k3⟩:=l6 d hd ob1 h1;exact⟨ob,k1,by rw[h2,k2],k3.trans h3⟩
   ·rcases hout with⟨h1,h2,h3⟩|⟨h1,h2,h3,h4,h5⟩
    ·left;subst h1;subst hlr;exact⟨h2,rfl,rfl⟩
    ·right;subst hlr;have hb:¬(oo'==Out.norm)=true:=by simpa using h1
     refine⟨h4,h3,?_,?_⟩
     ·show (if(oo'==Out.norm)=true then vB.ready else vB.done)=vB.done;rw[if_neg hb]
     ·show (if(oo'==Out.norm)=true then none else some oo')=some o;rw[if_neg hb,h2]
   ·obtain⟨t1,t2⟩:=hoz i hi;obtain⟨t3,t4,t5,t6⟩:=d1 i hi;exact same5 i t2 t5 t3 fun h=>h.elim t4 t1
  ·simp at hstep
 ·simp at hstep
end
end Go.VE
namespace Go.VE
section
variable {ν ν' ν2:Nu} {Z Z':Nat→Prop} {st st' st2:St} {m m':Tb aL} {F F':Frame} {H H' H1:an} {S:Sys} {c:ck} {X:CX} {J:JT}
theorem Fu (gd:Good X S) (hS:iH S c) {ro:Bool} {id:Nat} {ops:Array Oper} {l:List RO} (hc:jn X true ops.toList 0 ops.toList=some (l.map RO.strip)) (hd:(qg ops.toList&&uu ops.toList)=true) :
 nh X S ro (.region id ops true) (fun st=>(jH S c true [] l st).map fun st=>(.norm,st)):=by
 intro st o st' h J ν Z F H y r j;obtain⟨st1,h1,e⟩:=Zh.1 h;simp only[Zd]at e;obtain⟨rfl,rfl⟩:=e;generalize hH0:(if mK ops.toList then H++List.replicate ops.toList.length .free else H)=H0;generalize hk:(if mK ops.toList then ops.toList.length else 0)=k;have hget:∀i,i<H.length→H0[i]? = H[i]? := fun i hi=>by
  rw[←hH0];split
  ·exact List.getElem?_append_left hi
  ·rfl
 have hlen:H.length≤H0.length:=by rw[←hH0];split <;> simp
 have r0:R ν Z st F H0:=r.heap (fun i hi=>hget i (r.lt hi)) (fun i hi=>by unfold aq;rw[hget i (r.q9 hi)])
 have hfree:∀q,0≤q→q<k→H0[H.length+q]? = some .free:=fun q _ hq=>by
  rw[←hk]at hq;split at hq
  ·rename_i ha;rw[←hH0,if_pos ha,List.getElem?_append_right (by omega)]
   simp only[Nat.add_sub_cancel_left];rw[List.getElem?_replicate,if_pos hq]
  ·omega
 obtain⟨n,F',H',ν',e1,e2,e3,e4,e5⟩:=Fa gd hS (ops:=ops.toList) (b:=H.length) (k:=k) (fun ha=>by rw[←hk,if_pos ha]) ops.toList.length (i:=0) (fr:=[]) (by omega) (by simpa using hc) h1 r0 hlen
  ⟨fun d ob hd hb _=>r.lt ⟨d,ob,hd,hb,rfl⟩,fun i hi=>r.q9 hi⟩ hfree
 refine⟨n,F',H',ν',Z,fun q hq => ?_,e2,?_,e5⟩
 ·simp only[exec,gG,if_true,hd,Zh,Zd,true_and];refine⟨(F',H'),?_,rfl,rfl⟩;rw[hH0];have:=e1 q hq;rw[List.range_eq_range'];exact this
 ·rw[e4];refine y.rK _ _ _ _ _ _ _ j (Nat.le_trans hlen e3.len) (fun i h1 h2 h3=>by rw[e3.same i (by omega) h2 h3 (by omega),hget i h1]) (fun i hi=>⟨hi,by rw[(e3.rows i hi).2];unfold aq;rw[hget i (r.q9 hi)]⟩) (fun i hi => ?_) (fun i hi=>.inl hi)
  rcases e3.own i hi with h|h|h
  ·exact .inl h
  ·exact .inr h
  ·exact .inr (by omega)
theorem Jp {ro:Bool} {code:Code} {f:St→Option (Out×St)} (hf:nh X S ro code f):nh X S ro (.loop code) (kf f):=by
 intro st o st' h J ν Z F H y r j;obtain⟨k,hk⟩:=jy.1 h;have key:∀k st ν Z F H,gB f k st=some (o,st')→Yc S J st.more st.yid→R ν Z st F H→J st.want (eP ν st.m) Z H →
  ∃n F' H' ν' Z',(∀q,n≤q→∀lf,k≤lf→iu (exec S.E (run S.E q) q ro X.nt code) lf F H=some (o,F',H'))∧R ν' Z' st' F' H'∧J st'.want (eP ν' st'.m) Z' H'∧Fix ν st ν' st':=by
  intro k
  induction k with
  | zero=>intro st ν Z F H h;simp[gB]at h
  | succ k ih=>
   intro st ν Z F H h y r j;simp only[gB]at h;split at h
   ·rename_i st1 hs;obtain⟨n1,F1,H1,ν1,Z1,a1,a2,a3,a4⟩:=hf st .norm st1 hs J ν Z F H y r j;obtain⟨n2,F2,H2,ν2,Z2,b1,b2,b3,b4⟩:=ih st1 ν1 Z1 F1 H1 h (by rw[a4.more,a4.yid];exact y) a2 a3
    refine⟨max n1 n2,F2,H2,ν2,Z2,fun q hq lf hlf => ?_,b2,b3,a4.trans b4⟩
    cases lf with
    | zero=>omega
    | succ lf=>
     simp only[iu,a1 q (Nat.le_trans (Nat.le_max_left _ _) hq)];exact b1 q (Nat.le_trans (Nat.le_max_right _ _) hq) lf (by omega)
   ·rename_i hs;obtain⟨n1,F1,H1,ν1,Z1,a1,a2,a3,a4⟩:=hf st o st' h J ν Z F H y r j;have ho:o≠.norm:=fun e=>by subst e;exact hs st' h
    refine⟨n1,F1,H1,ν1,Z1,fun q hq lf hlf => ?_,a2,a3,a4⟩
    cases lf with
    | zero=>omega
    | succ lf=>
     simp only[iu,a1 q hq];cases o <;> first|exact absurd rfl ho|rfl
 obtain⟨n,F',H',ν',Z',e1,e2,e3,e4⟩:=key k st ν Z F H hk y r j;refine⟨max n k,F',H',ν',Z',fun q hq => ?_,e2,e3,e4⟩
 simp only[exec];exact e1 q (Nat.le_trans (Nat.le_max_left _ _) hq) q (Nat.le_trans (Nat.le_max_right _ _) hq)
theorem JW (gd:Good X S) (hI:∀f a b xs,S.items f a b=some xs→gk S f a b xs) {g:Operand} {ps:Array Tmp} {aw bw:Code} {x:Arg} {A B:St→Option (Out×St)}
 (hps:ps.toList.all (·<X.nt)=true) (hx:lZ X.nm g=some x) (hA:nh X S true aw A) (hB:nh X S true bw B) :
 nh X S false (.rangeFunc g ps aw bw) (fun st=>match mD S.N st.g x with
 | some (.v (.clo f x y))=>match S.items f x y with
  | some xs=>(kK (gi ps.toList A B st) xs st.m).map fun (o,m)=>(o,{ st with m:=m })
  | none=>none
 | _=>none):=by
 intro st o st' h J ν Z F H y r j;dsimp only at h;split at h
 ·rename_i f a b hsv;split at h
  ·rename_i xs hit;obtain⟨⟨oo,mf⟩,hE,e⟩:=Zh.1 h;simp only[Zd]at e;obtain⟨rfl,rfl⟩:=e;obtain⟨yv,hy,ry⟩:=zp gd.N r.slot hx hsv;obtain⟨a',b',rfl,ra,rb⟩:=ry.fr.iW;obtain⟨ws,more,hcond,hR⟩:=yC hE;generalize hlr:(⟨.ready,none,F,X.nt,ps.toList,aw,bw⟩:p_)=lr0;have hgetH:∀i,i<H.length→(H++[Ob.loop lr0])[i]? = H[i]? := fun i hi=>List.getElem?_append_left hi
   have hzr:∀i,Z i→aq (H++[Ob.loop lr0]) i=aq H i:=fun i hi=>by unfold aq;rw[hgetH i (r.q9 hi)]
   have r0:R ν Z (xx st st.m) F (H++[Ob.loop lr0]):=by
    have:=r.heap (H':=H++[Ob.loop lr0]) (fun i hi=>hgetH i (r.lt hi)) hzr
    exact⟨this.slot,this.obj,this.inj,this.apart,this.zrow,this.deep⟩
   have hmono:∀i,Z i→Z i∧aq (H++[Ob.loop lr0]) i=aq H i:=fun i hi=>⟨hi,hzr i hi⟩
   have j0:JI X st F ν (eP ν st.m) Z H H.length ps.toList aw bw (gi ps.toList A B st) oo mf more ws (fun _=>False) Z (H++[Ob.loop lr0]):=by
    refine⟨st.m,ν,Z,lr0,r0,⟨rfl,by simp,fun i h1 _ _=>hgetH i h1,fun i hi=>⟨hi,hzr i hi⟩,fun i hi=>.inl hi,fun i hi=>.inl hi⟩,fun i hi=>hi.elim,fun i hi=>⟨fun ho => ?_,Nat.ne_of_lt (r.q9 hi),.inl hi⟩,fun ho=>absurd (r.lt ho) (by simp),fun hz=>absurd (r.q9 hz) (by simp),Nat.le_refl _,by simp,?_,fun d _ ob' h=>⟨ob',h,rfl,.refl _⟩,.inl ⟨hR,?_,?_⟩⟩
    ·obtain⟨d,ob,g1,g2,rfl⟩:=ho;exact r.apart d ob g1 g2 hi
    ·subst hlr;exact⟨rfl,rfl,rfl,rfl,rfl⟩
    ·subst hlr;rfl
    ·subst hlr;rfl
   have hyc:Yc S (JI X st F ν (eP ν st.m) Z H H.length ps.toList aw bw (gi ps.toList A B st) oo mf more) more H.length:=
    ⟨fun w O Z1 H1 O' Z' H' jj h1 h2 h3 h4 h5=>JI.rK jj h1 h2 h3 h4 h5,fun x1 ws1 O Z1 H1 args jj h1 h2 h3 h4=>JI.yield S hA hB hps jj h1 h2 h3 h4⟩
   obtain⟨n,yy,H',O',Z',e1,e2⟩:=hI f a b xs hit ws more hcond H.length _ hyc Z a' b' (H++[Ob.loop lr0]) (ra.mono hmono) (rb.mono hmono) (fun i hi=>by rw[hzr i hi];exact r.zrow i hi) (r.deep.mono hzr) j0
   obtain⟨m1,νb,Zb,lr,r1,⟨_,k2,k3,k4,k5,k6⟩,_,_,l1,l2,l3,l4,_,l6,l7⟩:=e2;have hfin:m1=mf∧(lr.st=.ready∨lr.st=.done)∧lr.pend.getD .norm=oo:=by
    rcases l7 with⟨g1,g2,g3⟩|⟨_,g1,g2,g3⟩
    ·cases g1 with
     | nil hn=>
      exact⟨rfl,.inl g2,by rw[g3,hn];rfl⟩
    ·exact⟨g1,.inr g2,by rw[g3];rfl⟩
   obtain⟨rfl,hst,hpend⟩:=hfin;have hll:H.length<H'.length:=(Zf.1 l4).1;have hset:∀i,i≠H.length→(H'.set H.length .dead)[i]? = H'[i]? := fun i hne=>by rw[List.getElem?_set,if_neg (Ne.symm hne)]
   have hzr2:∀i,Zb i→aq (H'.set H.length .dead) i=aq H' i:=fun i hi=>by unfold aq;rw[hset i fun e=>l2 (e▸hi)]
   have r2:=r1.heap (H':=H'.set H.length .dead) (fun i hi=>hset i fun e=>l1 (e▸hi)) hzr2
   refine⟨n,F,H'.set H.length .dead,νb,Zb,fun q hq => ?_,⟨r2.slot,r2.obj,r2.inj,r2.apart,r2.zrow,r2.deep⟩,?_,⟨fun d hd=>l6 d (List.mem_append_left _ hd),rfl,rfl,rfl⟩⟩
   ·simp only[exec,hy];rw[hlr,e1 q hq];simp only[l4];rcases hst with hst|hst <;> rw[hst] <;> simp only[hpend]
   ·refine y.rK _ _ _ _ _ _ _ j (by simp only[List.length_set];omega) (fun i h1 h2 h3=>by rw[hset i (by omega),k3 i h1 h2 h3]) (fun i hi=>⟨(k4 i hi).1,by rw[hzr2 i (k4 i hi).1,(k4 i hi).2]⟩) k5 k6
  ·simp at h
 ·simp at h
end
end Go.VE
namespace Go.VE
def lX (st:St):List RV→Option (List SV)
 | []=>some []
 | .s n::r=>match ak st.g n,lX st r with
  | some x,some l=>some (x::l)
  | _,_=>none
 | .ld n size agg::r=>match (ak st.g n).bind fun p=>lQ st.m (.load size agg) [p],lX st r with
  | some x,some l=>some (x::l)
  | _,_=>none
noncomputable def mB (S:Sys) (c:ck) (rf:RF) (svs:List SV) (m0:gq):Option (List SV×gq):=
 if svs.length≤rf.na then
  match bG S c rf.body (start svs m0)with
  | some (.exit _,_)=>none
  | some (_,st)=>(lX st rf.rs).map fun rs=>(rs,st.m)
  | none=>none
 else none
def xS (E:Env):ResultVar→Option RV
 | .tmp t=>some (.s t)
 | .cell a t=>(E.tt t).map fun d=>.ld a d.size d.agg
def bf (E:Env) (nm:FuncId→Option Nat) (fi:FI) (rf:RF):Prop:=
 aP ⟨E,nm,fi.ntmps⟩ false fi.body=some (erase rf.body)∧fi.results.mapM (xS E)=some rf.rs∧rf.na=fi.ntmps
section
variable {ν ν' ν2:Nu} {Z Z':Nat→Prop} {st st' st2:St} {m m':Tb aL} {F F':Frame} {H H' H1:an} {S:Sys} {c:ck} {X:CX} {J:JT}
theorem C_ (gd:Good X S) (hS:iH S c) (hI:∀f a b xs,S.items f a b=some xs→gk S f a b xs):∀(rc:RC) (ro:Bool) (code:Code),aP X ro code=some (erase rc)→nh X S ro code (bG S c rc):=by
 intro rc
 induction rc with
 | skip=>
  intro ro code hc st o st' h J ν Z F H y r j;simp only[bG,Za,Zd]at h;obtain⟨rfl,rfl⟩:=h;simp only[erase]at hc;have:∀k,exec S.E (run S.E k) k ro X.nt code F H=some (.norm,F,H):=fun k=>by
   cases code with
   | skip=>rfl
   | label _=>rfl
   | region id ops draw=>
    simp only[aP]at hc;split at hc
    ·split at hc
     ·obtain⟨_,_,e⟩:=Zh.1 hc;cases e
     ·simp at hc
    ·obtain⟨_,_,e⟩:=Zh.1 hc;cases e
   | seq a b=>simp only[aP]at hc;split at hc <;> simp at hc
   | cond x a b=>simp only[aP]at hc;split at hc <;> simp at hc
   | block id b=>simp only[aP]at hc;obtain⟨_,_,e⟩:=Zh.1 hc;cases e
   | loop b=>simp only[aP]at hc;obtain⟨_,_,e⟩:=Zh.1 hc;cases e
   | rangeFunc g ps aw bw=>
    simp only[aP]at hc;split at hc
    ·simp at hc
    ·split at hc <;> simp at hc
   | _=>simp[aP]at hc
  exact⟨0,F,H,ν,Z,fun k _=>this k,r,j,.refl⟩
 | ops l=>
  intro ro code hc;simp only[erase]at hc
  cases code with
  | region id ops draw=>
   simp only[aP]at hc;split at hc
   ·split at hc
    ·obtain⟨_,_,e⟩:=Zh.1 hc;cases e
    ·simp at hc
   ·rename_i hd;obtain⟨l',hl,e⟩:=Zh.1 hc;cases e;intro st o st' h J ν Z F H y r j;simp only[bG]at h;obtain⟨st1,h1,e⟩:=Zh.1 h;simp only[Zd]at e;obtain⟨rfl,rfl⟩:=e;obtain⟨n,F',H',ν',Z',e1,e2,e3,e4⟩:=E3 gd hS _ hl h1 y r j;refine⟨n,F',H',ν',Z',fun k hk => ?_,e2,e3,e4⟩
    simp only[exec,gG,hd,Bool.false_eq_true,if_false,e1 k hk,Option.map_some]
  | seq a b=>simp only[aP]at hc;split at hc <;> simp at hc
  | cond x a b=>simp only[aP]at hc;split at hc <;> simp at hc
  | block id b=>simp only[aP]at hc;obtain⟨_,_,e⟩:=Zh.1 hc;cases e
  | loop b=>simp only[aP]at hc;obtain⟨_,_,e⟩:=Zh.1 hc;cases e
  | rangeFunc g ps aw bw=>
   simp only[aP]at hc;split at hc
   ·simp at hc
   ·split at hc <;> simp at hc
  | _=>simp[aP]at hc
 | gb l=>
  intro ro code hc;simp only[erase]at hc
  cases code with
  | region id ops draw=>
   simp only[aP]at hc;split at hc
   ·rename_i hd;subst hd;split at hc
    ·rename_i hok;obtain⟨l',hl,e⟩:=Zh.1 hc;cases e;have:=Fu (ro:=ro) (id:=id) gd hS hl hok;intro st o st' h;simp only[bG]at h;exact this st o st' h
    ·simp at hc
   ·obtain⟨_,_,e⟩:=Zh.1 hc;cases e
  | seq a b=>simp only[aP]at hc;split at hc <;> simp at hc
  | cond x a b=>simp only[aP]at hc;split at hc <;> simp at hc
  | block id b=>simp only[aP]at hc;obtain⟨_,_,e⟩:=Zh.1 hc;cases e
  | loop b=>simp only[aP]at hc;obtain⟨_,_,e⟩:=Zh.1 hc;cases e
  | rangeFunc g ps aw bw=>
   simp only[aP]at hc;split at hc
   ·simp at hc
   ·split at hc <;> simp at hc
  | _=>simp[aP]at hc
 | seq a b iha ihb=>
  intro ro code hc;simp only[erase]at hc
  cases code with
  | seq ca cb=>
   simp only[aP]at hc;split at hc
   ·rename_i xa xb ha hb;simp only[Za,RC.seq.injEq]at hc;obtain⟨rfl,rfl⟩:=hc;intro st o st' h J ν Z F H y r j;simp only[bG]at h;split at h
    ·rename_i st1 hs;obtain⟨n1,F1,H1,ν1,Z1,a1,a2,a3,a4⟩:=iha ro ca ha st .norm st1 hs J ν Z F H y r j;obtain⟨n2,F2,H2,ν2,Z2,b1,b2,b3,b4⟩:=ihb ro cb hb st1 o st' h J ν1 Z1 F1 H1 (by rw[a4.more,a4.yid];exact y) a2 a3
     refine⟨max n1 n2,F2,H2,ν2,Z2,fun q hq => ?_,b2,b3,a4.trans b4⟩
     simp only[exec,a1 q (Nat.le_trans (Nat.le_max_left _ _) hq)];exact b1 q (Nat.le_trans (Nat.le_max_right _ _) hq)
    ·rename_i hs;obtain⟨n1,F1,H1,ν1,Z1,a1,a2,a3,a4⟩:=iha ro ca ha st o st' h J ν Z F H y r j;refine⟨n1,F1,H1,ν1,Z1,fun q hq => ?_,a2,a3,a4⟩
     simp only[exec,a1 q hq];cases o <;> first|exact absurd h (hs st')|rfl
   ·simp at hc
  | region id ops draw=>
   simp only[aP]at hc;split at hc
   ·split at hc
    ·obtain⟨_,_,e⟩:=Zh.1 hc;cases e
    ·simp at hc
   ·obtain⟨_,_,e⟩:=Zh.1 hc;cases e
  | cond x a b=>simp only[aP]at hc;split at hc <;> simp at hc
  | block id b=>simp only[aP]at hc;obtain⟨_,_,e⟩:=Zh.1 hc;cases e
  | loop b=>simp only[aP]at hc;obtain⟨_,_,e⟩:=Zh.1 hc;cases e
  | rangeFunc g ps aw bw=>
   simp only[aP]at hc;split at hc
   ·simp at hc
   ·split at hc <;> simp at hc
  | _=>simp[aP]at hc
 | cond x a b iha ihb=>
  intro ro code hc;simp only[erase]at hc
  cases code with
  | cond g ca cb=>
   simp only[aP]at hc;split at hc
   ·rename_i xg xa xb hg ha hb;simp only[Za,RC.cond.injEq]at hc;obtain⟨rfl,rfl,rfl⟩:=hc;intro st o st' h J ν Z F H y r j;simp only[bG]at h;split at h
    ·rename_i t ht;obtain⟨yv,hy,ry⟩:=zp gd.N r.slot hg ht;rw[ry.fr.bool]at hy;split at h
     ·rename_i hb;obtain⟨n1,F1,H1,ν1,Z1,a1,a2,a3,a4⟩:=iha ro ca ha st o st' h J ν Z F H y r j;refine⟨n1,F1,H1,ν1,Z1,fun q hq => ?_,a2,a3,a4⟩
      simp only[exec,hy,hb,if_true];exact a1 q hq
     ·rename_i hb;obtain⟨n1,F1,H1,ν1,Z1,a1,a2,a3,a4⟩:=ihb ro cb (by assumption) st o st' h J ν Z F H y r j
      refine⟨n1,F1,H1,ν1,Z1,fun q hq => ?_,a2,a3,a4⟩
      simp only[exec,hy,hb];exact a1 q hq
    ·simp at h
   ·simp at hc
  | region id ops draw=>
   simp only[aP]at hc;split at hc
   ·split at hc
    ·obtain⟨_,_,e⟩:=Zh.1 hc;cases e
    ·simp at hc
   ·obtain⟨_,_,e⟩:=Zh.1 hc;cases e
  | seq a b=>simp only[aP]at hc;split at hc <;> simp at hc
  | block id b=>simp only[aP]at hc;obtain⟨_,_,e⟩:=Zh.1 hc;cases e
  | loop b=>simp only[aP]at hc;obtain⟨_,_,e⟩:=Zh.1 hc;cases e
  | rangeFunc g ps aw bw=>
   simp only[aP]at hc;split at hc
   ·simp at hc
   ·split at hc <;> simp at hc
  | _=>simp[aP]at hc
 | block id a iha=>
  intro ro code hc;simp only[erase]at hc
  cases code with
  | block id' ca=>
   simp only[aP]at hc;obtain⟨xa,ha,e⟩:=Zh.1 hc;simp only[RC.block.injEq]at e;obtain⟨rfl,rfl⟩:=e;intro st o st' h J ν Z F H y r j;simp only[bG]at h;split at h
   ·rename_i id2 st1 hs;obtain⟨n1,F1,H1,ν1,Z1,a1,a2,a3,a4⟩:=iha ro ca ha st (.exit id2) st1 hs J ν Z F H y r j;split at h
    ·rename_i e;simp only[Za,Zd]at h;obtain⟨rfl,rfl⟩:=h;refine⟨n1,F1,H1,ν1,Z1,fun q hq => ?_,a2,a3,a4⟩
     simp only[exec,a1 q hq,if_pos e]
    ·rename_i e;simp only[Za,Zd]at h;obtain⟨rfl,rfl⟩:=h;refine⟨n1,F1,H1,ν1,Z1,fun q hq => ?_,a2,a3,a4⟩
     simp only[exec,a1 q hq,if_neg e]
   ·rename_i hs;obtain⟨n1,F1,H1,ν1,Z1,a1,a2,a3,a4⟩:=iha ro ca ha st o st' h J ν Z F H y r j;refine⟨n1,F1,H1,ν1,Z1,fun q hq => ?_,a2,a3,a4⟩
    simp only[exec,a1 q hq];cases o <;> first|exact absurd h (hs _ st')|rfl
  | region id ops draw=>
   simp only[aP]at hc;split at hc
   ·split at hc
    ·obtain⟨_,_,e⟩:=Zh.1 hc;cases e
    ·simp at hc
   ·obtain⟨_,_,e⟩:=Zh.1 hc;cases e
  | seq a b=>simp only[aP]at hc;split at hc <;> simp at hc
  | cond x a b=>simp only[aP]at hc;split at hc <;> simp at hc
  | loop b=>simp only[aP]at hc;obtain⟨_,_,e⟩:=Zh.1 hc;cases e
  | rangeFunc g ps aw bw=>
   simp only[aP]at hc;split at hc
   ·simp at hc
   ·split at hc <;> simp at hc
  | _=>simp[aP]at hc
 | loop a iha=>
  intro ro code hc;simp only[erase]at hc
  cases code with
  | loop ca=>
   simp only[aP]at hc;obtain⟨xa,ha,e⟩:=Zh.1 hc;simp only[RC.loop.injEq]at e;subst e;have:=Jp (iha ro ca ha);intro st o st' h;simp only[bG]at h;exact this st o st' h
  | region id ops draw=>
   simp only[aP]at hc;split at hc
   ·split at hc
    ·obtain⟨_,_,e⟩:=Zh.1 hc;cases e
    ·simp at hc
   ·obtain⟨_,_,e⟩:=Zh.1 hc;cases e
  | seq a b=>simp only[aP]at hc;split at hc <;> simp at hc
  | cond x a b=>simp only[aP]at hc;split at hc <;> simp at hc
  | block id b=>simp only[aP]at hc;obtain⟨_,_,e⟩:=Zh.1 hc;cases e
  | rangeFunc g ps aw bw=>
   simp only[aP]at hc;split at hc
   ·simp at hc
   ·split at hc <;> simp at hc
  | _=>simp[aP]at hc
 | each x ps a b iha ihb=>
  intro ro code hc;simp only[erase]at hc
  cases code with
  | rangeFunc g ps' aw bw=>
   simp only[aP]at hc;split at hc
   ·simp at hc
   ·rename_i hro;simp only[Bool.or_eq_true,not_or,Bool.not_eq_true,Bool.not_eq_false']at hro;obtain⟨rfl,hps⟩:=hro;split at hc
    ·rename_i xg xa xb hg ha hb;simp only[Za,RC.each.injEq]at hc;obtain⟨rfl,rfl,rfl,rfl⟩:=hc;have:=JW gd hI hps hg (iha true aw ha) (ihb true bw hb);intro st o st' h;simp only[bG]at h;exact this st o st' h
    ·simp at hc
  | region id ops draw=>
   simp only[aP]at hc;split at hc
   ·split at hc
    ·obtain⟨_,_,e⟩:=Zh.1 hc;cases e
    ·simp at hc
   ·obtain⟨_,_,e⟩:=Zh.1 hc;cases e
  | seq a b=>simp only[aP]at hc;split at hc <;> simp at hc
  | cond x a b=>simp only[aP]at hc;split at hc <;> simp at hc
  | block id b=>simp only[aP]at hc;obtain⟨_,_,e⟩:=Zh.1 hc;cases e
  | loop b=>simp only[aP]at hc;obtain⟨_,_,e⟩:=Zh.1 hc;cases e
  | _=>simp[aP]at hc
 | exit id=>
  intro ro code hc st o st' h J ν Z F H y r j;simp only[bG,Za,Zd]at h;obtain⟨rfl,rfl⟩:=h;simp only[erase]at hc;have:∀k,exec S.E (run S.E k) k ro X.nt code F H=some (.exit id,F,H):=fun k=>by
   cases code with
   | exit id'=>simp only[aP,Za,RC.exit.injEq]at hc;subst hc;rfl
   | region id ops draw=>
    simp only[aP]at hc;split at hc
    ·split at hc
     ·obtain⟨_,_,e⟩:=Zh.1 hc;cases e
     ·simp at hc
    ·obtain⟨_,_,e⟩:=Zh.1 hc;cases e
   | seq a b=>simp only[aP]at hc;split at hc <;> simp at hc
   | cond x a b=>simp only[aP]at hc;split at hc <;> simp at hc
   | block id b=>simp only[aP]at hc;obtain⟨_,_,e⟩:=Zh.1 hc;cases e
   | loop b=>simp only[aP]at hc;obtain⟨_,_,e⟩:=Zh.1 hc;cases e
   | rangeFunc g ps aw bw=>
    simp only[aP]at hc;split at hc
    ·simp at hc
    ·split at hc <;> simp at hc
   | _=>simp[aP]at hc
  exact⟨0,F,H,ν,Z,fun k _=>this k,r,j,.refl⟩
 | ret=>
  intro ro code hc st o st' h J ν Z F H y r j;simp only[bG,Za,Zd]at h;obtain⟨rfl,rfl⟩:=h;simp only[erase]at hc;have:∀k,exec S.E (run S.E k) k ro X.nt code F H=some (.ret,F,H):=fun k=>by
   cases code with
   | ret=>rfl
   | region id ops draw=>
    simp only[aP]at hc;split at hc
    ·split at hc
     ·obtain⟨_,_,e⟩:=Zh.1 hc;cases e
     ·simp at hc
    ·obtain⟨_,_,e⟩:=Zh.1 hc;cases e
   | seq a b=>simp only[aP]at hc;split at hc <;> simp at hc
   | cond x a b=>simp only[aP]at hc;split at hc <;> simp at hc
   | block id b=>simp only[aP]at hc;obtain⟨_,_,e⟩:=Zh.1 hc;cases e
   | loop b=>simp only[aP]at hc;obtain⟨_,_,e⟩:=Zh.1 hc;cases e
   | rangeFunc g ps aw bw=>
    simp only[aP]at hc;split at hc
    ·simp at hc
    ·split at hc <;> simp at hc
   | _=>simp[aP]at hc
  exact⟨0,F,H,ν,Z,fun k _=>this k,r,j,.refl⟩
 | gh x a iha=>
  intro ro code hc;simp only[erase]at hc;intro st o st' h J ν Z F H y r j;simp only[bG]at h;obtain⟨st1,h1,h2⟩:=Zi.1 h;obtain⟨ν1,Z1,g1,g2,g3⟩:=Fix.ghost r y j h1;obtain⟨n,F',H',ν',Z',e1,e2,e3,e4⟩:=iha ro code hc st1 o st' h2 J ν1 Z1 F H (by rw[g3.more,g3.yid];exact y) g1 g2
  exact⟨n,F',H',ν',Z',e1,e2,e3,g3.trans e4⟩
 | hg a x iha=>
  intro ro code hc;simp only[erase]at hc;intro st o st' h J ν Z F H y r j;simp only[bG]at h;split at h
  ·rename_i st1 hs;obtain⟨st2,h1,e⟩:=Zh.1 h;simp only[Zd]at e;obtain⟨rfl,rfl⟩:=e;obtain⟨n,F',H',ν',Z',e1,e2,e3,e4⟩:=iha ro code hc st .norm st1 hs J ν Z F H y r j;obtain⟨ν1,Z1,g1,g2,g3⟩:=Fix.ghost e2 (by rw[e4.more,e4.yid];exact y) e3 h1
   exact⟨n,F',H',ν1,Z1,e1,g1,g2,e4.trans g3⟩
  ·exact iha ro code hc st o st' h J ν Z F H y r j
end
end Go.VE
namespace Go.VE
abbrev ql:=FuncId→Option RF
def wz (E:Env) (f:FuncId) (as:List V) (y:V):Prop:=∃n z H' Z,run E n (.fn f) as []=some (z,H')∧FR H' Z y z∧(∀id,Z id→(aq H' id).isSome=true)∧pA H' Z
structure sE (S:Sys) (T:ql):Prop where
 fn:∀f rf,T f=some rf→∃fi nm,S.E.ft f=some fi∧(∀g s,nm g=some s→S.N s=g)∧bf S.E nm fi rf
 tI:∀f as y,S.tI f as=some y→wz S.E f as y
def Ia (S:Sys) (f:FuncId) (svs:List SV) (m0:gq):Option (List SV×gq):=
 if S.E.keep f then none else match d_ svs,m0 with
  | some as,[]=>(S.tI f as).map fun y=>([.v y],[])
  | _,_=>none
noncomputable def iQ (S:Sys) (T:ql):Nat→ck
 | 0=>fun _ _ _=>none
 | n+1=>fun f svs m0=>match T f with
  | some rf=>mB S (iQ S T n) rf svs m0
  | none=>Ia S f svs m0
section
variable {ν ν' ν2:Nu} {Z Z':Nat→Prop} {st st' st2:St} {m m':Tb aL} {F F':Frame} {H H' H1:an} {S:Sys} {c c':ck} {X:CX} {J:JT} {T:ql}
theorem vg (r:R ν Z st F H) {nm:FuncId→Option Nat}:∀{rvs:List ResultVar} {rs:List RV} {l:List SV},rvs.mapM (xS S.E)=some rs→lX st rs=some l→∃ys,gD S.E F H rvs=some ys∧bF ν st.m H Z l ys
 | [],rs,l,hc,h=>by
  simp only[List.mapM_nil,Option.pure_def,Za]at hc;subst hc;simp only[lX,Za]at h;subst h;exact⟨[],rfl,.nil⟩
 | rv::rvs,rs,l,hc,h=>by
  simp only[List.mapM_cons,Option.pure_def,Option.bind_eq_bind,Zi,Za]at hc;obtain⟨x,hx,ys,hy,rfl⟩:=hc
  cases rv with
  | tmp t=>
   simp only[xS,Za]at hx;subst hx;simp only[lX]at h;split at h
   ·rename_i v vs h1 h2;simp only[Za]at h;subst h;obtain⟨zs,e1,e2⟩:=vg r (nm:=nm) hy h2;exact⟨get F t::zs,by simp only[gD,e1,Option.map_some],.cons (r.slot t v h1) e2⟩
   ·simp at h
  | cell a t=>
   simp only[xS,Zh]at hx;obtain⟨d,hd,rfl⟩:=hx;simp only[lX]at h;split at h
   ·rename_i v vs h1 h2;simp only[Za]at h;subst h;obtain⟨p,hp,h1⟩:=Zi.1 h1;obtain⟨zs,e1,e2⟩:=vg r (nm:=nm) hy h2;obtain⟨y,g1,g2⟩:=tB (fun kk z ok e=>by cases e) (bF.cons (r.slot a p hp) .nil) (fun d' _ ob hob=>r.obj d' ob hob) h1
    simp only[fu]at g1;exact⟨y::zs,by simp only[gD,hd,e1,g1,Option.map_some],.cons g2 e2⟩
   ·simp at h
theorem CY (hS:iH S c) (hI:∀f a b xs,S.items f a b=some xs→gk S f a b xs) {f:FuncId} {fi:FI} {nm:FuncId→Option Nat} {rf:RF} (hft:S.E.ft f=some fi) (hN:∀g s,nm g=some s→S.N s=g) (hr:bf S.E nm fi rf)
 {svs:List SV} {m0:gq} {rs:List SV} {m1:gq} (h:mB S c rf svs m0=some (rs,m1)) {args:List V} (r:R ν Z (start svs m0) args H) (hl:bF ν m0 H Z svs args) :
 ∃n y H' ν' Z' st' F' ys,run S.E n (.fn f) args H=some (y,H')∧y=result ys∧st'.m=m1∧bF ν' m1 H' Z' rs ys∧R ν' Z' st' F' H'∧Ev (fun _=>False) ν Z (start svs m0) H ν' Z' st' H':=by
 obtain⟨hc,hrs,hna⟩:=hr;unfold mB at h;split at h
 ·rename_i hlen;have key:∀o st',bG S c rf.body (start svs m0)=some (o,st')→(∀id,o≠.exit id)→(lX st' rf.rs).map (fun rs=>(rs,st'.m))=some (rs,m1) →
   ∃n y H' ν' Z' st' F' ys,run S.E n (.fn f) args H=some (y,H')∧y=result ys∧st'.m=m1∧bF ν' m1 H' Z' rs ys∧R ν' Z' st' F' H'∧Ev (fun _=>False) ν Z (start svs m0) H ν' Z' st' H':=fun o st' hs ho hres=>by
   obtain⟨l,h1,e⟩:=Zh.1 hres;simp only[Zd]at e;obtain⟨rfl,rfl⟩:=e;obtain⟨n,F',H',ν',Z',e1,e2,e3,e4⟩:=C_ (X:=⟨S.E,nm,fi.ntmps⟩) ⟨rfl,hN⟩ hS hI rf.body false fi.body hc _ _ _ hs (oU (eP ν (start svs m0).m) Z H) ν Z args H oU.yc r (oU.refl r);obtain⟨ys,p1,p2⟩:=vg (nm:=nm) e2 hrs h1;obtain⟨_,q2,q3,q4,q5,q6⟩:=e3;refine⟨n+1,result ys,H',ν',Z',st',F',ys,?_,rfl,rfl,p2,e2,⟨q2,fun i h1 h2 h3 _=>q3 i h1 h2 h3,q4,fun i h=>(q5 i h).imp (fun h=>h) .inr,fun i h=>(q6 i h).imp (fun h=>h) (.imp (fun h=>h) .inr),e4.pin,e4.pins⟩⟩
   have hargs:args.length≤fi.ntmps:=by rw[←hl.1,←hna];exact hlen
   simp only[run,hft,if_pos hargs,e1 n (Nat.le_refl _)]
   cases o with
   | exit id=>exact absurd rfl (ho id)
   | norm=>simp only[p1,Option.map_some]
   | ret=>simp only[p1,Option.map_some]
  split at h
  ·simp at h
  ·rename_i o st' hne hs;exact key o st' hs (fun id e=>by subst e;exact hne id rfl) h
  ·simp at h
 ·simp at h
theorem FR.emp {x y:V} (hz:∀id,¬Z id) (r:FR H Z x y):x=y:=by
 have hl:∀{a a':List V},a.length=a'.length→(∀(j:Nat) u v,a[j]? = some u→a'[j]? = some v→u=v)→a=a':=fun {a a'} h1 h2=>by
  apply List.ext_getElem h1;intro i p q;exact h2 i _ _ (Ze p) (Ze q)
 induction r with
 | same x h=>rfl
 | fsl es xs id off ys h=>exact absurd h (hz _)
 | fptr xs id el off es ys cs h=>exact absurd h (hz _)
 | clo f a b a' b' h1 h2 _ _ i1 i2=>rw[hl h1 i1,hl h2 i2]
 | agg a a' h1 _ i1=>rw[hl h1 i1]
 | tup a a' h1 _ i1=>rw[hl h1 i1]
theorem bF.emp (hz:∀id,¬Z id):∀{xs ys:List V},bF ν m H Z (xs.map .v) ys→xs=ys
 | [],ys,h=>h.cS.symm
 | x::xs,ys,h=>by
  obtain⟨y,ys,rfl,h1,h2⟩:=h.inv;rw[FR.emp hz h1.fr,bF.emp hz h2]
theorem vY (hT:sE S T) (hI:∀f a b xs,S.items f a b=some xs→gk S f a b xs):∀n,iH S (iQ S T n)
 | 0=>fun f svs m0 rs m1 h=>by simp[iQ]at h
 | n+1=>fun f svs m0 rs m1 h ν Z args H hH r hl=>by
  simp only[iQ]at h;split at h
  ·rename_i rf hrf;obtain⟨fi,nm,h1,h2,h3⟩:=hT.fn f rf hrf;exact CY (vY hT hI n) hI h1 h2 h3 h r hl
  ·unfold Ia at h;split at h
   ·simp at h
   ·rename_i hk;split at h
    ·rename_i as ha;obtain⟨y,hy,e⟩:=Zh.1 h;simp only[Zd]at e;obtain⟨rfl,rfl⟩:=e;obtain⟨k,z,H',Z1,hrun,hfr,hz1,hd1⟩:=hT.tI f as y hy;rcases hH with hH|rfl
     ·exact absurd hH hk
     have hz:∀id,¬Z id:=fun id hid=>by have:=r.zrow id hid;simp[aq]at this
     have hargs:args=as:=by
      rw[oO ha]at hl;exact(bF.emp hz hl).symm
     subst hargs;refine⟨k,z,H',fun _=>(0,0),Z1,⟨[],[],[],[],true,0⟩,[],[z],hrun,rfl,rfl,bF.cons (.v y z hfr) .nil,?_,?_⟩
     ·exact⟨fun s sv h=>by simp[ak]at h,fun d ob h=>by simp[ak]at h,fun d d' ob ob' h=>by simp[ak]at h,fun d ob h=>by simp[ak]at h,hz1,hd1⟩
     ·exact⟨Nat.zero_le _,fun id h=>by simp at h,fun id h=>absurd h (hz id),fun id h=>by obtain⟨d,ob,h,_⟩:=h;simp[ak]at h,fun id h=>.inr (.inr (.inr (Nat.zero_le _))),fun d h=>by simp[start]at h,rfl⟩
    ·simp at h
abbrev DO:=List ((FuncId×List SV×gq)×(List SV×gq))
def xu (c:ck) (L:DO):Prop:=∀p∈L,c p.1.1 p.1.2.1 p.1.2.2=some p.2
def Fin {α:Type} (c:ck) (f:ck→Option α) (r:α):Prop:=∃L:DO,xu c L∧∀c',xu c' L→f c'=some r
theorem Fin.pure {α:Type} {f:ck→Option α} {r:α} (h:∀c',f c'=some r):Fin c f r:=⟨[],fun p hp=>by simp at hp,fun c' _=>h c'⟩
theorem Fin.bind {α β:Type} {f:ck→Option α} {r:α} {g:ck→Option β} {q:β} (h1:Fin c f r) (g':ck→α→Option β) (h2:Fin c (fun c=>g' c r) q) (hg:∀c',f c'=some r→g c'=g' c' r):Fin c g q:=by
 obtain⟨L1,a1,b1⟩:=h1;obtain⟨L2,a2,b2⟩:=h2;refine⟨L1++L2,fun p hp=>(List.mem_append.1 hp).elim (a1 p) (a2 p),fun c' hc => ?_⟩
 rw[hg c' (b1 c' fun p hp=>hc p (List.mem_append_left _ hp))]
 exact b2 c' fun p hp=>hc p (List.mem_append_right _ hp)
theorem Fin.call {f:FuncId} {svs:List SV} {m0:gq} {r:List SV×gq} (h:c f svs m0=some r):Fin c (fun c=>c f svs m0) r:=
 ⟨[((f,svs,m0),r)],fun p hp=>by simp at hp;subst hp;exact h,fun c' hc=>hc ((f,svs,m0),r) (by simp)⟩
theorem Aa {dst:Option Nat} {dr now:Bool} {old:List SV→Bool} {f:FuncId} {args:List SV} {r:SV×St} (h:iq S c dst dr now old f args st=some r):Fin c (fun c=>iq S c dst dr now old f args st) r:=by
 have h0:=h;unfold iq at h;split at h
 ·rename_i hk;split at h
  ·rename_i hn;split at h
   ·rename_i ho;split at h
    ·rename_i as hs;split at h
     ·rename_i hl;split at h
      ·rename_i rs m' hc;refine(Fin.call hc).bind (fun c' q=>iq S c dst dr now old f args st) (.pure fun _=>h0) (fun c' hc' => ?_)
       unfold iq;simp only[hk,hn,ho,if_true,hs,hl,hc,hc']
      ·simp at h
     ·simp at h
    ·simp at h
   ·rename_i ho;split at h
    ·simp at h
    ·rename_i hd;split at h
     ·rename_i os hh;split at h
      ·rename_i rs m' hc;refine(Fin.call hc).bind (fun c' q=>iq S c dst dr now old f args st) (.pure fun _=>h0) (fun c' hc' => ?_)
       unfold iq;simp only[hk,hn,ho,if_true,hd,hh,hc,hc',Bool.false_eq_true,if_false]
      ·simp at h
     ·simp at h
  ·simp at h
 ·rename_i hk;split at h
  ·rename_i as hs;split at h
   ·rename_i hl;split at h
    ·rename_i rs m' hc;refine(Fin.call hc).bind (fun c' q=>iq S c dst dr now old f args st) (.pure fun _=>h0) (fun c' hc' => ?_)
     unfold iq;simp only[hk,if_false,hs,hl,if_true,hc,hc',Bool.false_eq_true]
    ·simp at h
   ·simp at h
  ·simp at h
theorem JV {dr:Bool} {fr:List Nat} {o:RO} {r:SV×St} (h:kJ S c dr fr o st=some r):Fin c (fun c=>kJ S c dr fr o st) r:=by
 have h0:=h;unfold kJ at h;split at h
 ·rename_i svs hs;split at h
  ·refine .pure fun c' => ?_
   have h1:=h0;unfold kJ at h1 ⊢;rename_i hk;simp only[hs,hk]at h1 ⊢;exact h1
  ·refine .pure fun c' => ?_
   have h1:=h0;unfold kJ at h1 ⊢;rename_i hne hk;simp only[hs,hk]at h1 ⊢;exact h1
  ·refine .pure fun c' => ?_
   have h1:=h0;unfold kJ at h1 ⊢;rename_i hk;simp only[hs,hk]at h1 ⊢;exact h1
  ·refine .pure fun c' => ?_
   have h1:=h0;unfold kJ at h1 ⊢;rename_i hk;simp only[hs,hk]at h1 ⊢;exact h1
  ·refine .pure fun c' => ?_
   have h1:=h0;unfold kJ at h1 ⊢;rename_i hk;simp only[hs,hk]at h1 ⊢;exact h1
  ·rename_i hk;split at h
   ·refine(Aa h).bind (fun _ q=>some q) (.pure fun _=>rfl) (fun c' hc' => ?_)
    unfold kJ;simp only[hs,hk,hc']
   ·refine(Aa h).bind (fun _ q=>some q) (.pure fun _=>rfl) (fun c' hc' => ?_)
    unfold kJ;simp only[hs,hk,hc']
   ·simp at h
 ·simp at h
theorem JD {dr:Bool} {fr:List Nat} {o:RO} {r:St} (h:eR S c dr fr o st=some r):Fin c (fun c=>eR S c dr fr o st) r:=by
 have h0:=h;unfold eR at h;split at h
 ·rename_i hw;split at h
  ·rename_i id vs hy;refine .pure fun c' => ?_
   unfold eR;simp only[hw,hy];exact h
  ·rename_i hy;obtain⟨q,hq,e⟩:=Zh.1 h;refine(JV hq).bind (fun _ q=>some (cO q.2 o.dst q.1)) (.pure fun _=>by rw[←e]) (fun c' hc' => ?_)
   unfold eR;simp only[hw,hy,hc',Option.map_some]
 ·rename_i hw;refine .pure fun c' => ?_
  unfold eR;simp only[hw];exact h
 ·simp at h
theorem wq {dr:Bool}:∀{l:List RO} {fr:List Nat} {st r:St},jH S c dr fr l st=some r→Fin c (fun c=>jH S c dr fr l st) r
 | [],fr,st,r,h=>.pure fun _=>h
 | o::l,fr,st,r,h=>by
  simp only[jH]at h;split at h
  ·rename_i st1 hs;obtain⟨stg,hg,hs⟩:=Zi.1 hs;exact(JD hs).bind (fun c' q=>jH S c' dr (if dr then mq fr o.strip else fr) l (kL o.dead q)) (wq h) (fun c' hc'=>by simp only[jH,hg,Zc,hc'])
  ·simp at h
theorem Av {f:ck→St→Option (Out×St)} (hf:∀st r,f c st=some r→Fin c (fun c=>f c st) r):∀{k:Nat} {st:St} {r:Out×St},gB (f c) k st=some r→Fin c (fun c=>gB (f c) k st) r
 | 0,st,r,h=>by simp[gB]at h
 | k+1,st,r,h=>by
  simp only[gB]at h;split at h
  ·rename_i st1 hs;exact(hf st _ hs).bind (fun c' q=>gB (f c') k st1) (Av hf h) (fun c' hc'=>by simp only[gB,hc'])
  ·rename_i hs;refine(hf st r h).bind (fun _ q=>some q) (.pure fun _=>rfl) (fun c' hc' => ?_)
   obtain⟨o,st'⟩:=r;simp only[gB,hc'];cases o <;> first|exact absurd h (hs st')|rfl
theorem z6 {f:ck→List V→Tb aL→Option (Out×Tb aL)} (hf:∀x m r,f c x m=some r→Fin c (fun c=>f c x m) r):∀{xs:List (List V)} {m:Tb aL} {r:Out×Tb aL},kK (f c) xs m=some r→Fin c (fun c=>kK (f c) xs m) r
 | [],m,r,h=>.pure fun _=>h
 | x::xs,m,r,h=>by
  simp only[kK]at h;split at h
  ·rename_i m1 hs;exact(hf x m _ hs).bind (fun c' q=>kK (f c') xs m1) (z6 hf h) (fun c' hc'=>by simp only[kK,hc'])
  ·rename_i hs;refine(hf x m r h).bind (fun _ q=>some q) (.pure fun _=>rfl) (fun c' hc' => ?_)
   obtain⟨o,st'⟩:=r;simp only[kK,hc'];cases o <;> first|exact absurd h (hs st')|rfl
theorem Fv:∀{rc:RC} {st:St} {r:Out×St},bG S c rc st=some r→Fin c (fun c=>bG S c rc st) r:=by
 intro rc
 induction rc with
 | skip=>exact fun h=>.pure fun _=>h
 | exit id=>exact fun h=>.pure fun _=>h
 | ret=>exact fun h=>.pure fun _=>h
 | ops l=>
  intro st r h;simp only[bG]at h ⊢;obtain⟨q,hq,e⟩:=Zh.1 h;exact(wq hq).bind (fun _ q=>some (.norm,q)) (.pure fun _=>by rw[←e]) (fun c' hc'=>by simp only[hc',Option.map_some])
 | gb l=>
  intro st r h;simp only[bG]at h ⊢;obtain⟨q,hq,e⟩:=Zh.1 h;exact(wq hq).bind (fun _ q=>some (.norm,q)) (.pure fun _=>by rw[←e]) (fun c' hc'=>by simp only[hc',Option.map_some])
 | seq a b iha ihb=>
  intro st r h;simp only[bG]at h ⊢;split at h
  ·rename_i st1 hs;exact(iha hs).bind (fun c' q=>bG S c' b st1) (ihb h) (fun c' hc'=>by simp only[hc'])
  ·rename_i hs;refine(iha h).bind (fun _ q=>some q) (.pure fun _=>rfl) (fun c' hc' => ?_)
   obtain⟨o,st'⟩:=r;simp only[hc'];cases o <;> first|exact absurd h (hs st')|rfl
 | cond x a b iha ihb=>
  intro st r h;simp only[bG]at h ⊢;split at h
  ·rename_i t ht;split at h
   ·rename_i hb;simp only[hb,if_true];exact iha h
   ·rename_i hb;simp only[hb];exact ihb h
  ·simp at h
 | block id a iha=>
  intro st r h;simp only[bG]at h ⊢;split at h
  ·rename_i id2 st1 hs;exact(iha hs).bind (fun c' q=>if id2=id then some (.norm,st1)else some (.exit id2,st1)) (.pure fun _=>h) (fun c' hc'=>by simp only[hc'])
  ·rename_i hs;refine(iha h).bind (fun _ q=>some q) (.pure fun _=>rfl) (fun c' hc' => ?_)
   obtain⟨o,st'⟩:=r;simp only[hc'];cases o <;> first|exact absurd h (hs _ st')|rfl
 | loop a iha=>
  intro st r h;simp only[bG]at h ⊢;obtain⟨k,hk⟩:=jy.1 h;refine(Av (f:=fun c=>bG S c a) (fun st r h=>iha h) hk).bind (fun _ q=>some q) (.pure fun _=>rfl) (fun c' hc' => ?_)
  exact jy.2 ⟨k,hc'⟩
 | each g ps a b iha ihb=>
  intro st r h;simp only[bG]at h ⊢;split at h
  ·rename_i f x y hs;split at h
   ·rename_i xs hi;obtain⟨q,hq,e⟩:=Zh.1 h;refine(z6 (f:=fun c=>gi ps (bG S c a) (bG S c b) st) (fun z m r h => ?_) hq).bind (fun _ q=>some (q.1,{ st with m:=q.2 })) (.pure fun _=>by rw[←e]) (fun c' hc'=>by simp only[hc',Option.map_some])
    unfold gi at h;split at h
    ·rename_i hl;split at h
     ·rename_i st1 h1;obtain⟨q2,hq2,e2⟩:=Zh.1 h;refine(iha h1).bind (fun c' q=>(bG S c' b st1).map fun (o,st2)=>(o,st2.m)) ((ihb hq2).bind (fun _ q=>some (q.1,q.2.m)) (.pure fun _=>by rw[←e2]) (fun c' hc'=>by simp only[hc',Option.map_some])) (fun c' hc' => ?_)
      unfold gi;simp only[if_pos hl,hc']
     ·simp at h
    ·simp at h
   ·simp at h
  ·simp at h
 | gh x a iha=>
  intro st r h;simp only[bG]at h ⊢;obtain⟨st1,h1,h2⟩:=Zi.1 h;rw[h1];exact iha h2
 | hg a x iha=>
  intro st r h;simp only[bG]at h ⊢;split at h
  ·rename_i st1 hs;exact(iha hs).bind (fun c' q=>(ghost x st1).map fun st=>(.norm,st)) (.pure fun _=>h) (fun c' hc'=>by simp only[hc'])
  ·rename_i hs;refine(iha h).bind (fun _ q=>some q) (.pure fun _=>rfl) (fun c' hc' => ?_)
   obtain⟨o,st'⟩:=r;simp only[hc'];cases o <;> first|exact absurd h (hs st')|rfl
theorem uH {rf:RF} {svs:List SV} {m0:gq} {r:List SV×gq} (h:mB S c rf svs m0=some r):Fin c (fun c=>mB S c rf svs m0) r:=by
 have h0:=h;unfold mB at h;split at h
 ·rename_i hl;split at h
  ·simp at h
  ·rename_i o st hne hs;refine(Fv hs).bind (fun c' q=>mB S c rf svs m0) (.pure fun _=>h0) (fun c' hc' => ?_)
   unfold mB;simp only[if_pos hl,hc',hs]
  ·simp at h
 ·simp at h
theorem yD:∀{n:Nat} {f:FuncId} {svs:List SV} {m0:gq} {r:List SV×gq},iQ S T n f svs m0=some r→iQ S T (n+1) f svs m0=some r
 | 0,f,svs,m0,r,h=>by simp[iQ]at h
 | n+1,f,svs,m0,r,h=>by
  simp only[iQ]at h;rw[iQ];split at h
  ·rename_i rf hrf;obtain⟨L,h1,h2⟩:=uH h;simp only[hrf];exact h2 _ fun p hp=>yD (h1 p hp)
  ·rename_i hrf;simp only[hrf];exact h
theorem wo {n k:Nat} (h:n≤k) {f:FuncId} {svs:List SV} {m0:gq} {r:List SV×gq} (hn:iQ S T n f svs m0=some r):iQ S T k f svs m0=some r:=by
 induction h with
 | refl=>exact hn
 | step _ ih=>exact yD ih
open Classical in
noncomputable def fJ (S:Sys) (T:ql):ck:=fun f svs m0=>if h:∃n r,iQ S T n f svs m0=some r then some (Classical.choose (Classical.choose_spec h))else none
theorem m9 {f:FuncId} {svs:List SV} {m0:gq} {r:List SV×gq}:fJ S T f svs m0=some r↔∃n,iQ S T n f svs m0=some r:=by
 unfold fJ;constructor
 ·intro h;split at h
  ·rename_i hx;simp only[Za]at h;exact⟨_,by rw[←h];exact Classical.choose_spec (Classical.choose_spec hx)⟩
  ·simp at h
 ·rintro⟨k,hk⟩;have hx:∃n r,iQ S T n f svs m0=some r:=⟨k,r,hk⟩;rw[dif_pos hx];have h2:=Classical.choose_spec (Classical.choose_spec hx);have h3:=wo (Nat.le_max_left (Classical.choose hx) k) h2;have h4:=wo (Nat.le_max_right (Classical.choose hx) k) hk;rw[h3]at h4;exact h4
theorem DT {L:DO} (h:xu (fJ S T) L):∃n,∀k,n≤k→xu (iQ S T k) L:=by
 induction L with
 | nil=>exact⟨0,fun k _ p hp=>by simp at hp⟩
 | cons q L ih=>
  obtain⟨n1,h1⟩:=m9.1 (h q (by simp))
  obtain⟨n2,h2⟩:=ih fun p hp=>h p (List.mem_cons_of_mem _ hp)
  refine⟨max n1 n2,fun k hk p hp => ?_⟩
  rcases List.mem_cons.1 hp with rfl|hp
  ·exact wo (Nat.le_trans (Nat.le_max_left _ _) hk) h1
  ·exact h2 k (Nat.le_trans (Nat.le_max_right _ _) hk) p hp
theorem zW {f:FuncId} {as:List V} {y:V} (hT:T f=none) (hk:S.E.keep f=false) (h:S.tI f as=some y):fJ S T f (as.map .v) []=some ([.v y],[]):=by
 refine m9.2 ⟨1,?_⟩;have ha:d_ (as.map .v)=some as:=by
  clear h
  induction as with
  | nil=>rfl
  | cons a l ih=>simp only[List.map_cons,d_,ih];rfl
 simp only[iQ,hT,Ia,hk,ha,h];rfl
theorem Bq {f:FuncId} {rf:RF} (hT:T f=some rf) (svs:List SV) (m0:gq):fJ S T f svs m0=mB S (fJ S T) rf svs m0:=by
 cases h:mB S (fJ S T) rf svs m0 with
 | some r=>
  obtain⟨L,h1,h2⟩:=uH h;obtain⟨n,hn⟩:=DT h1;refine m9.2 ⟨n+1,?_⟩;simp only[iQ,hT];exact h2 _ (hn n (Nat.le_refl _))
 | none=>
  cases h2:fJ S T f svs m0 with
  | none=>rfl
  | some r=>
   obtain⟨n,hn⟩:=m9.1 h2
   cases n with
   | zero=>simp[iQ]at hn
   | succ n=>
    simp only[iQ,hT]at hn;obtain⟨L,h3,h4⟩:=uH hn;have h5:=h4 (fJ S T) fun p hp=>m9.2 ⟨n,h3 p hp⟩
    dsimp only at h5;rw[h5]at h;cases h
theorem wg (hT:sE S T) (hI:∀f a b xs,S.items f a b=some xs→gk S f a b xs):iH S (fJ S T):=fun f svs m0 rs m1 h=>by
 obtain⟨n,hn⟩:=m9.1 h;exact vY hT hI n f svs m0 rs m1 hn
theorem J5 (hS:iH S c) {f:FuncId} {fi:FI} {nm:FuncId→Option Nat} {rf:RF} (hI:∀f a b xs,S.items f a b=some xs→gk S f a b xs) (hft:S.E.ft f=some fi) (hN:∀g s,nm g=some s→S.N s=g) (hr:bf S.E nm fi rf) {a b:List V} {xs:List (List V)}
 (hlen:a.length+1+b.length≤rf.na) (hrs:rf.rs=[])
 (h:∀ws more,(more=true∧ws=xs∨more=false∧ws≠[]∧∃r,xs=ws++r)→∀yid,∃o st',bG S c rf.body { g:=rJ 0 (a.map .v++.yl yid::b.map .v),m:=[],pin:=[],want:=ws,more:=more,yid:=yid }=some (o,st')∧(∀id,o≠.exit id)∧st'.want=[]∧st'.m=st'.m) :
 gk S f a b xs:=by
 intro ws more hw yid J y Z a' b' H ha hb hz hd j;obtain⟨o,st',h1,h2,h3,_⟩:=h ws more hw yid;obtain⟨hc,hrr,hna⟩:=hr;have hl:bF (fun _=>(0,0)) [] H Z (a.map .v++.yl yid::b.map .v) (a'++.yld yid::b'):=(bF.oG ha).append (.cons (.yl yid) (bF.oG hb))
 have r0:R (fun _=>(0,0)) Z { g:=rJ 0 (a.map .v++.yl yid::b.map .v),m:=[],pin:=[],want:=ws,more:=more,yid:=yid } (a'++.yld yid::b') H:=
  ⟨rM hl,fun d ob h=>by simp[ak]at h,fun d d' ob ob' h=>by simp[ak]at h,fun d ob h=>by simp[ak]at h,hz,hd⟩
 obtain⟨n,F',H',ν',Z',e1,e2,e3,e4⟩:=C_ (X:=⟨S.E,nm,fi.ntmps⟩) ⟨rfl,hN⟩ hS hI rf.body false fi.body hc _ _ _ h1 J _ Z _ H y r0 (by
  refine y.rK _ _ _ _ _ _ _ j (Nat.le_refl _) (fun _ _ _ _=>rfl) (fun i hi=>⟨hi,rfl⟩) (fun i hi => ?_) (fun i hi=>.inl hi)
  obtain⟨d,ob,h,_⟩:=hi;simp[ak]at h)
 rw[h3]at e3;rw[hrs]at hrr;obtain⟨ys,p1,p2⟩:=vg (nm:=nm) (rs:=[]) (l:=[]) e2 hrr rfl;refine⟨n+1,result ys,H',_,Z',fun k hk => ?_,e3⟩
 have hargs:(a'++V.yld yid::b').length≤fi.ntmps:=by rw[←hl.1,←hna];simp;omega
 cases k with
 | zero=>omega
 | succ k=>
  simp only[run,hft,if_pos hargs,e1 k (by omega)]
  cases o with
  | exit id=>exact absurd rfl (h2 id)
  | norm=>simp only[p1,Option.map_some]
  | ret=>simp only[p1,Option.map_some]
theorem JO (hT:sE S T) (hI:∀f a b xs,S.items f a b=some xs→gk S f a b xs) {f:FuncId} {as:List V} (hg:V.bR as=true) {y:V} {m':gq} (h:fJ S T f (as.map .v) []=some ([.v y],m')) (hy:y.scalar=true) :
 ∃n H',run S.E n (.fn f) as []=some (y,H'):=by
 obtain⟨r0,r1⟩:=qT hg;obtain⟨n,y',H2,ν',Z',st',F',zs,h1,rfl,h3,h4,h5,_⟩:=wg hT hI f _ _ _ _ h _ _ as [] (.inr rfl) r0 r1;obtain⟨z,zs,rfl,e1,e2⟩:=h4.inv;rw[e2.cS]at h1;have:=(e1.fr.scalar).1 hy;subst this;exact⟨n,H2,h1⟩
end
end Go.VE
