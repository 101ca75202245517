/-
 Arrays, maps, iterators; readings; plain laws.
-/
import Derived.JoinedCond
import Derived.ReadAgain
import Derived.WalkKit
import Derived.ProofKit
import Derived.OpenShut
import Derived.ChangeSame
import Derived.RowKit3
import Derived.Test.YtnfakljmdnbipaaV2
import Derived.Test.YtnfakljmdnbipaaS1
set_option linter.all false
namespace Go.VE
structure bt (n:Nat) (α:Type) where
 l:List α
 len:l.length=n
theorem Io {α:Type} [aE α] (l:List α):(l.map (cells (α:=α))).flatten.length=l.length*aE.size α:=by
 induction l with
 | nil=>simp
 | cons a l ih=>simp only[List.map_cons,List.flatten_cons,Zk,ih,fE,List.length_cons,Nat.add_mul,Nat.one_mul,Nat.add_comm]
theorem EZ {α:Type} [aE α] (l:List α):V.bR (l.map (cells (α:=α))).flatten=true:=by
 induction l with
 | nil=>rfl
 | cons a l ih=>
  simp only[List.map_cons,List.flatten_cons];have h:∀(x y:List V),V.bR x=true→V.bR y=true→V.bR (x++y)=true:=by
   intro x
   induction x with
   | nil=>intro y _ h;exact h
   | cons b x ih2=>intro y h1 h2;simp only[V.bR,Zj,List.cons_append]at h1 ⊢;exact⟨h1.1,ih2 y h1.2 h2⟩
  exact h _ _ (aE.bg a) ih
theorem Cn {n:Nat}:∀{x y:List V},V.dc n x=true→V.dc n y=true→V.dc n (x++y)=true
 | [],_,_,h=>h
 | a::x,y,h1,h2=>by
  simp only[gH,Zj,List.cons_append]at h1 ⊢;exact⟨h1.1,Cn h1.2 h2⟩
theorem G9 {n:Nat} {α:Type} [aE α] [Lv n α] (l:List α):V.dc n (l.map (cells (α:=α))).flatten=true:=by
 induction l with
 | nil=>exact iF n
 | cons a l ih=>simp only[List.map_cons,List.flatten_cons];exact Cn (Lv.lv a) ih
instance {n:Nat} {α:Type} [aE α]:aE (bt n α) where
 cells a:=(a.l.map cells).flatten
 agg:=true
 size:=n*aE.size α
 len a:=by rw[Io,a.len]
 bg a:=EZ a.l
 one a:=by
  have:∀l:List α,(l.map (cells (α:=α))).flatten.all V.one=true:=by
   intro l
   induction l with
   | nil=>rfl
   | cons a l ih=>simp only[List.map_cons,List.flatten_cons,List.all_append,ih,mR,Bool.and_self]
  exact this a.l
 plain h:=by cases h
instance {k n:Nat} {α:Type} [aE α] [Lv k α]:Lv k (bt n α):=⟨fun a=>G9 a.l⟩
def bt.Dm (n:Nat) {α:Type} (z:α):bt n α:=⟨List.replicate n z,by simp⟩
def bt.at {n:Nat} {α:Type} (a:bt n α) (i:Int):Option α:=if 0≤i then a.l[i.toNat]? else none
def bt.set {n:Nat} {α:Type} (a:bt n α) (i:Int) (x:α):bt n α:=⟨a.l.set i.toNat x,by simp[a.len]⟩
def pa {n:Nat} {α:Type} [aE α] (a:bt n α) (i:Int):List V:=(cells a).drop (i.toNat*aE.size α)
theorem bt.sG {n:Nat} {α:Type} {a:bt n α} {i:Int} {x:α} (h:a.at i=some x):0≤i∧i.toNat<n∧a.l[i.toNat]? = some x:=by
 unfold bt.at at h;split at h
 ·rename_i hi;refine⟨hi,?_,h⟩;have:=(Zf.1 h).1;rw[←a.len];exact this
 ·cases h
theorem zS {α:Type} [aE α]:∀(l:List α) (k:Nat),((l.map (cells (α:=α))).flatten).drop (k*aE.size α)=((l.drop k).map (cells (α:=α))).flatten
 | [],k=>by simp
 | a::l,0=>by simp
 | a::l,k+1=>by
  have h:(cells a).length=aE.size α:=fE a;rw[List.map_cons,List.flatten_cons,List.drop_succ_cons,←zS l k,Nat.add_mul,Nat.one_mul,Nat.add_comm,←h,List.drop_length_add_append]
theorem uS {n:Nat} {α:Type} [aE α] {a:bt n α} {i:Int} {x:α} (h:a.at i=some x):∃r,pa a i=cells x++r:=by
 obtain⟨h1,h2,h3⟩:=bt.sG h;obtain⟨hlt,hx⟩:=Zf.1 h3;refine⟨((a.l.drop (i.toNat+1)).map cells).flatten,?_⟩;show ((a.l.map (cells (α:=α))).flatten).drop (i.toNat*aE.size α)=_;rw[zS,List.drop_eq_getElem_cons hlt,List.map_cons,List.flatten_cons,hx]
section
variable {S:Sys} {c:ck} {β γ δ α:Type} {Q:Out×St→Option β} {e:γ→Option β} {fo:Fo} {fs:List Fm} {st0:St} {l:List RO} {d:Option Nat} {gd:Option (Nat×Bool)} {now:Bool} {as:List Arg} {dd:List Nat}
section
variable {N:Nat} [aE α]
theorem Ng (n:Nat) (dr:Bool) (fr:List Nat) (q:List RO) (fs':List Fm) (st:St) (k:IntKind) {ln sz:Nat} {a:bt N α} {i:Int} {f:α→Option γ} (hq:q=⟨d,gd,now,.p (.idxA ln sz),as,dd,[]⟩::l)
 (hL:(gx S c n fo fs st0,wanted st.g gd,bu S.N st.g as,sz,ln)=(some (.ops dr fr q,fs',st),some true,some [cp a,.v (.int k i)],aE.size α,N))
 (h:∀x,a.at i=some x→Le ((f x).bind e) (nP S c Q dr fr d (.p (.idxA ln sz)) l fs' dd (cO st d (.v (.fptr (pa a i)))))):Le (((a.at i).bind f).bind e) (rn S c Q fo fs st0):=by
 simp only[Zd]at hL;obtain⟨h1,h2,h3,h4,h5⟩:=hL;subst h4 h5;refine zu h1 hq h2 (?_:Le ((a.at i).bind fun _=>some (cO st d (.v (.fptr (pa a i))))) _) h
 intro r hr;obtain⟨x,hx,hr⟩:=Zi.1 hr;obtain⟨g1,g2,_⟩:=bt.sG hx;rw[zL (v:=.v (.fptr (pa a i))) h3 rfl ?_]
 ·exact hr
 rw[th];simp only[aI,rj];have hlen:i.toNat*aE.size α≤(cells a).length:=by
  rw[fE];exact Nat.mul_le_mul_right _ (Nat.le_of_lt g2)
 rw[if_pos ⟨g1,by omega⟩,if_pos hlen]
 rfl
theorem Tw (n:Nat) (dr:Bool) (fr:List Nat) (q:List RO) (fs':List Fm) (st:St) (a:bt N α) (i:Int) (o:Nat) (x:α) (hx:a.at i=some x) {k:Nat} {m:Option β} (hq:q=⟨d,gd,now,.p (.fieldAddr k),as,dd,[]⟩::l)
 (hL:(gx S c n fo fs st0,wanted st.g gd,bu S.N st.g as,Nat.ble (o+k) (aE.size α))=(some (.ops dr fr q,fs',st),some true,some [.v (.fptr ((pa a i).drop o))],true))
 (h:Le m (nP S c Q dr fr d (.p (.fieldAddr k)) l fs' dd (cO st d (.v (.fptr ((pa a i).drop (o+k))))))):Le m (rn S c Q fo fs st0):=by
 simp only[Zd]at hL;obtain⟨h1,h2,h3,h4⟩:=hL;refine mA h1 hq h2 (zL h3 rfl ?_) h;have h9:=Nat.le_of_ble_eq_true h4;obtain⟨r,hr⟩:=uS hx;have hl:(pa a i).length≥aE.size α:=by rw[hr,Zk,fE];omega
 rw[Ce,B0,if_pos (by rw[List.length_drop];omega),List.drop_drop]
 rfl
theorem PM (n:Nat) (dr:Bool) (fr:List Nat) (q:List RO) (fs':List Fm) (st:St) (a:bt N α) (i:Int) (o:Nat) (x:α) (hx:a.at i=some x) {sz:Nat} {ag:Bool} {v:V} (hv:(cut (cells x) o sz).bind (mk ag)=some v) (v':V) {m:Option β} (hq:q=⟨d,gd,now,.r (.load sz ag),as,dd,[]⟩::l)
 (hL:(gx S c n fo fs st0,wanted st.g gd,bu S.N st.g as,v)=(some (.ops dr fr q,fs',st),some true,some [.v (.fptr ((pa a i).drop o))],v'))
 (h:Le m (nP S c Q dr fr d (.r (.load sz ag)) l fs' dd (cO st d (.v v')))):Le m (rn S c Q fo fs st0):=by
 simp only[Zd]at hL;obtain⟨h1,h2,h3,rfl⟩:=hL;refine mA h1 hq h2 ?_ h;rw[A1,h3];have hold:eO fr [SV.v (.fptr ((pa a i).drop o))]=true:=rfl;simp only[Zc,hold,Bool.or_true,if_true,FW];obtain⟨r,hr⟩:=uS hx;rw[hr];have hc:cut ((cells x++r).drop o) 0 sz=cut (cells x) o sz:=by
  cases hcc:cut (cells x) o sz with
  | none=>rw[hcc]at hv;cases hv
  | some w=>
   unfold cut at hcc ⊢;dsimp only at hcc ⊢;split at hcc
   ·rename_i hl;cases hcc;have e1:(List.drop 0 (List.drop o (cells x++r))).take sz=((cells x).drop o).take sz:=by
     rw[List.drop_zero];have ho:sz=0∨o≤(cells x).length:=by
      simp only[List.length_take,List.length_drop]at hl;omega
     rcases ho with rfl|ho
     ·simp
     ·rw[List.drop_append_of_le_length ho,List.take_append_of_le_length];simp only[List.length_take,List.length_drop]at hl ⊢;omega
    rw[e1,if_pos hl]
   ·cases hcc
 rw[hc]
 cases hcc:cut (cells x) o sz with
 | none=>rw[hcc]at hv;cases hv
 | some w=>rw[hcc]at hv;simp only[Zc]at hv ⊢;rw[hv];rfl
theorem LO (n:Nat) (dr:Bool) (fr:List Nat) (q:List RO) (fs':List Fm) (st:St) (cs:List SV) {u sz:Nat} {zero:List V} {m:Option β} (hq:q=⟨some u,gd,now,.a (.alloc sz zero),as,dd,[]⟩::l)
 (h4:st.new u=true) (hL:(gx S c n fo fs st0,wanted st.g gd,bu S.N st.g as,zero.map SV.v)=(some (.ops dr fr q,fs',st),some true,some [],cs))
 (h:Le m (nP S c Q dr fr (some u) (.a (.alloc sz zero)) l fs' dd { st with g:=bl st.g u (.ptr u 0),m:=bl st.m u (.box cs) })):Le m (rn S c Q fo fs st0):=by
 simp only[Zd]at hL;obtain⟨h1,h2,h3,h5⟩:=hL;subst h5;refine mA h1 hq h2 ?_ h;rw[yG,h3];simp only[Zc,h4,if_true,kT]
theorem nZ (d:Nat) (l:List V):SV.c_ d (l.map .v)=false:=by
 induction l with
 | nil=>rfl
 | cons a l ih=>simp only[List.map_cons,SV.c_,SV.cz,ih,Bool.or_self]
theorem nS {α:Type} [aE α] (d:Nat) (x:α):aL.cz d (bx x)=false:=nZ d (cells x)
theorem PV (n:Nat) (dr:Bool) (fr:List Nat) (q:List RO) (fs':List Fm) (st:St) (k:IntKind) (u:Nat) {ln sz:Nat} {a:bt N α} {i:Int} {f:α→Option γ} (hq:q=⟨d,gd,now,.p (.idxA ln sz),as,dd,[]⟩::l)
 (hL:(gx S c n fo fs st0,wanted st.g gd,bu S.N st.g as,sz,ln,ak st.m u)=(some (.ops dr fr q,fs',st),some true,some [.ptr u 0,.v (.int k i)],aE.size α,N,some (bx a)))
 (h:∀x,a.at i=some x→Le ((f x).bind e) (nP S c Q dr fr d (.p (.idxA ln sz)) l fs' dd (cO st d (.ptr u (i.toNat*aE.size α+0))))):Le (((a.at i).bind f).bind e) (rn S c Q fo fs st0):=by
 simp only[Zd]at hL;obtain⟨h1,h2,h3,h4,h5,h6⟩:=hL;subst h4 h5;refine zu h1 hq h2 (?_:Le ((a.at i).bind fun _=>some (cO st d (.ptr u (i.toNat*aE.size α+0)))) _) h
 intro r hr;obtain⟨x,hx,hr⟩:=Zi.1 hr;obtain⟨g1,g2,_⟩:=bt.sG hx;rw[zL (v:=.ptr u (i.toNat*aE.size α+0)) h3 rfl ?_]
 ·exact hr
 simp only[hY,d_,vn,h6];rw[if_pos ⟨g1,by omega,rfl⟩,Nat.zero_add,Nat.add_zero]
theorem P5 (n:Nat) (dr:Bool) (fr:List Nat) (q:List RO) (fs':List Fm) (st:St) (u:Nat) (a:bt N α) (i:Int) (o:Nat) (x:α) (hx:a.at i=some x) {sz:Nat} {ag:Bool} {v:V} (hv:(cut (cells x) o sz).bind (mk ag)=some v) (v':V) {m:Option β} (hq:q=⟨d,gd,now,.r (.load sz ag),as,dd,[]⟩::l)
 (hL:(gx S c n fo fs st0,wanted st.g gd,bu S.N st.g as,v,ak st.m u,(!dr||now||eO fr [.ptr u 0]))=(some (.ops dr fr q,fs',st),some true,some [.ptr u (i.toNat*aE.size α+o)],v',some (bx a),true))
 (h:Le m (nP S c Q dr fr d (.r (.load sz ag)) l fs' dd (cO st d (.v v')))):Le m (rn S c Q fo fs st0):=by
 simp only[Zd]at hL;obtain⟨h1,h2,h3,rfl,h5,h6⟩:=hL;refine mA h1 hq h2 ?_ h;rw[A1,h3];have hold:(!dr||now||eO fr [SV.ptr u (i.toNat*aE.size α+o)])=true:=h6;simp only[Zc,hold,if_true,SI,h5,Fg];obtain⟨r,hr⟩:=uS hx;have e1:(((cells a).map SV.v).drop (i.toNat*aE.size α+o)).take sz=(((cells x).drop o).take sz).map SV.v:=by
  have hcc:((cells x).drop o).take sz=((cells x++r).drop o).take sz:=by
   cases hc:cut (cells x) o sz with
   | none=>rw[hc]at hv;cases hv
   | some w=>
    unfold cut at hc;dsimp only at hc;split at hc
    ·rename_i hl;have ho:sz=0∨o≤(cells x).length:=by
      simp only[List.length_take,List.length_drop]at hl;omega
     rcases ho with rfl|ho
     ·simp
     ·rw[List.drop_append_of_le_length ho,List.take_append_of_le_length];simp only[List.length_take,List.length_drop]at hl ⊢;omega
    ·cases hc
  rw[hcc,←hr,pa,List.drop_drop,List.map_take,List.map_drop]
 rw[e1];unfold uR
 cases hc:cut (cells x) o sz with
 | none=>rw[hc]at hv;cases hv
 | some w=>
  rw[hc]at hv;unfold cut at hc;dsimp only at hc;split at hc
  ·rename_i hl;cases hc;simp only[List.length_map,hl,if_true];simp only[Zc]at hv;unfold mk at hv
   cases ag with
   | true=>
    simp only[if_true]at hv ⊢;cases hv;rw[nT];rfl
   | false=>
    simp only[Bool.false_eq_true,if_false]at hv ⊢;split at hv
    ·rename_i hw;cases hv;rw[hw];rfl
    ·cases hv
  ·cases hc
theorem Fs {N:Nat} (a:bt N α) (i:Int) (y:α) (h:i.toNat<N):cells (a.set i y)=(cells a).take (i.toNat*aE.size α)++cells y++(cells a).drop ((i.toNat+1)*aE.size α):=by
 have key:∀(l:List α) (k:Nat),k<l.length→((l.set k y).map (cells (α:=α))).flatten=(l.map (cells (α:=α))).flatten.take (k*aE.size α)++cells y++(l.map (cells (α:=α))).flatten.drop ((k+1)*aE.size α):=by
  intro l
  induction l with
  | nil=>intro k h;simp at h
  | cons b l ih=>
   intro k h;have hb:(cells b).length=aE.size α:=fE b
   cases k with
   | zero=>
    simp only[List.set_cons_zero,List.map_cons,List.flatten_cons,Nat.zero_mul,List.take_zero,List.nil_append,Nat.zero_add,Nat.one_mul];rw[←hb,List.drop_left]
   | succ k=>
    simp only[List.set_cons_succ,List.map_cons,List.flatten_cons];rw[ih k (by simpa using h)]
    have e1:(k+1)*aE.size α=(cells b).length+k*aE.size α:=by rw[hb,Nat.add_mul,Nat.one_mul,Nat.add_comm]
    have e2:(k+1+1)*aE.size α=(cells b).length+(k+1)*aE.size α:=by rw[hb,Nat.add_mul (k+1),Nat.one_mul,Nat.add_comm]
    rw[e2,List.drop_length_add_append];rw[e1,List.take_length_add_append];simp[List.append_assoc]
 exact key a.l i.toNat (by rw[a.len];exact h)
theorem Pa (n:Nat) (dr:Bool) (fr:List Nat) (q:List RO) (fs':List Fm) (st:St) (u:Nat) (a:bt N α) (i:Int) (o:Nat) (x:α) (hx:a.at i=some x) (y:α) (v:V) {sz:Nat} (hy:cells y=(cells x).take o++v.cells++(cells x).drop (o+sz)) {m:Option β} (hq:q=⟨d,gd,now,.l (.store sz),as,dd,[]⟩::l)
 (hL:(gx S c n fo fs st0,wanted st.g gd,bu S.N st.g as,ak st.m u,(!dr||now),v.cells.length,v.cells.all V.one,Nat.ble (o+sz) (aE.size α))=(some (.ops dr fr q,fs',st),some true,some [.ptr u (i.toNat*aE.size α+o),.v v],some (bx a),true,sz,true,true))
 (h:Le m (nP S c Q dr fr d (.l (.store sz)) l fs' dd (cO { st with m:=bl st.m u (bx (a.set i y)) } d (.v .undef)))):Le m (rn S c Q fo fs st0):=by
 simp only[Zd]at hL;obtain⟨h1,h2,h3,h4,h5,h6,h7,h8⟩:=hL;refine mA h1 hq h2 ?_ h;rw[s9,h3];have h9:=Nat.le_of_ble_eq_true h8;obtain⟨g1,g2,g3⟩:=bt.sG hx;have hb:i.toNat*aE.size α+o+sz≤((cells a).map SV.v).length:=by
  rw[List.length_map,fE];have:(i.toNat+1)*aE.size α≤N*aE.size α:=Nat.mul_le_mul_right _ g2;rw[Nat.add_mul,Nat.one_mul]at this;show _≤N*aE.size α;omega
 simp only[Zc,h5,if_true,kI,h4,mH,h6,h7,hb,and_self,Option.map_some];obtain⟨r,hr⟩:=uS hx;have e:((cells a).map SV.v).take (i.toNat*aE.size α+o)++v.cells.map .v++((cells a).map SV.v).drop (i.toNat*aE.size α+o+sz)=(cells (a.set i y)).map SV.v:=by
  rw[Fs a i y g2,hy];have hd:(cells a).drop (i.toNat*aE.size α)=cells x++r:=hr;have hlx:(cells x).length=aE.size α:=fE x;have e1:(cells a).take (i.toNat*aE.size α+o)=(cells a).take (i.toNat*aE.size α)++(cells x).take o:=by
   rw[List.take_add,hd,List.take_append_of_le_length (by omega)]
  have e2:(cells a).drop (i.toNat*aE.size α+o+sz)=(cells x).drop (o+sz)++(cells a).drop ((i.toNat+1)*aE.size α):=by
   have e3:(cells a).drop ((i.toNat+1)*aE.size α)=r:=by
    rw[Nat.add_mul,Nat.one_mul,←List.drop_drop,hd,←hlx,List.drop_left]
   rw[e3,Nat.add_assoc,←List.drop_drop,hd,List.drop_append_of_le_length (by omega)]
  rw[←List.map_take,←List.map_drop,e1,e2];simp[List.map_append,List.append_assoc]
 rw[e]
end
theorem JE {α:Type} [aE α] {m:Tb aL} {d:Nat} {x:α} {vs:List V} (h:ak m d=some (bx x)):kW (gT m 8) (.ptr d 0::vs.map .v)=some (.fptr (cells x)::vs):=by
 have h1:gT m 8 (.ptr d 0)=some (.fptr (cells x)):=by
  show (match ak m d with
   | some (.box cs)=>match kW (gT m 7) cs with
    | some xs=>if 0≤xs.length then some (V.fptr (xs.drop 0))else none
    | none=>none
   | _=>none)=_
  rw[h];simp only[BO,Nat.zero_le,if_true,List.drop_zero]
 simp only[kW,h1,BO,Zc]
theorem NP (n:Nat) {fo:Fo} {fs fs':List Fm} {st0 st:St} {rs:List RV} {e:γ→Option (List V)} {r:γ} (svs:List SV) {ys:List V} (h2:kW (gT st.m 8) svs=some ys) (h:(gx S c n fo fs st0,lX st rs)=(some (.rt,fs',st),some svs)) (h3:e r=some ys) :
 Le ((some r).bind e) (rn S c (c6 rs) fo fs st0):=by
 simp only[Zd]at h;rw[ko h.1];refine Le.of_eq ?_;simp only[rn,c6,h.2,Zc,h2];exact h3.symm
abbrev Mo (κ ν:Type):=List (κ×ν)
class Key (κ:Type) [aE κ] [DecidableEq κ] where
 kk:rO
 ok:∀a:κ,kV kk (enc a)=true
 eq:∀a b:κ,pW (enc a) (enc b)=some (decide (a=b))
instance:Key Int where
 kk:=.int .i64
 ok _:=rfl
 eq a b:=by
  show some (a==b)=some (decide (a=b));rw[show (a==b)=decide (a=b)from Bool.eq_iff_iff.2 (by simp)]
instance:Key aa where
 kk:=.ints 2
 ok _:=rfl
 eq a b:=by
  obtain⟨p,i⟩:=a;obtain⟨q,j⟩:=b;simp only[pW,ji,gV,L6,Option.map_some,List.length_cons,if_true,Za];rw[Bool.eq_iff_iff];simp
section
variable {κ ν:Type} [aE κ] [DecidableEq κ] [Key κ] [aE ν]
def oI (k:κ):Mo κ ν→Option ν
 | []=>none
 | (a,v)::r=>if k=a then some v else oI k r
def zj (m:Mo κ ν) (k:κ) (z:ν):ν:=(oI k m).getD z
def mO (m:Mo κ ν) (k:κ) (v:ν):Mo κ ν:=
 match m with
 | []=>[(k,v)]
 | (a,w)::r=>if k=a then(k,v)::r else(a,w)::mO r k v
def k_ (m:Mo κ ν):List (V×V):=m.map fun x=>(enc x.1,enc x.2)
def mG (m:Mo κ ν):aL:=.mp (k_ m)
theorem C7 (k:κ):∀(m:Mo κ ν) (i:Nat),(fQ (enc k) (k_ m) i).map (Option.map (·.2))=some ((oI k m).map enc)
 | [],i=>rfl
 | (a,v)::r,i=>by
  simp only[k_,List.map_cons,fQ,Key.eq,oI]
  by_cases h:k=a
  ·rw[if_pos h];simp[h]
  ·rw[if_neg h];simp only[h,decide_false];exact C7 k r (i+1)
theorem GW (k:κ) (v:ν) (m:Mo κ ν):kX (enc k) (enc v) (k_ m)=some (k_ (mO m k v)):=by
 unfold kX;have key:∀(m:Mo κ ν) (pre:List (V×V)) (i:Nat),pre.length=i→(match fQ (enc k) (k_ m) i with
  | some (some (j,_))=>some ((pre++k_ m).set j (enc k,enc v))
  | some none=>some (pre++k_ m++[(enc k,enc v)])
  | none=>none)=some (pre++k_ (mO m k v)):=by
  intro m
  induction m with
  | nil=>intro pre i h;simp[k_,fQ,mO]
  | cons x r ih=>
   obtain⟨a,w⟩:=x;intro pre i h;rw[show k_ ((a,w)::r)=(enc a,enc w)::k_ r from rfl];simp only[fQ,Key.eq,mO]
   by_cases hk:k=a
   ·subst hk h;simp[k_]
   ·simp only[hk,decide_false,if_false];rw[show k_ ((a,w)::mO r k v)=(enc a,enc w)::k_ (mO r k v)from rfl];have:=ih (pre++[(enc a,enc w)]) (i+1) (by simp[h])
    simp only[List.append_assoc,List.cons_append,List.nil_append]at this ⊢;exact this
 have:=key m [] 0 rfl
 cases hf:fQ (enc k) (k_ m) 0 with
 | none=>rw[hf]at this;cases this
 | some r=>
  rw[hf]at this
  cases r with
  | none=>simpa using this
  | some w=>obtain⟨j,w⟩:=w;simpa using this
theorem OC (n:Nat) (dr:Bool) (fr:List Nat) (q:List RO) (fs':List Fm) (st:St) (u:Nat) (mp:Mo κ ν) (k:κ) (z:ν) {kk:rO} {zv:V} {m:Option β} (hq:q=⟨d,gd,now,.r (.lookup kk zv false),as,dd,[]⟩::l)
 (hL:(gx S c n fo fs st0,wanted st.g gd,bu S.N st.g as,ak st.m u,(!dr||now||eO fr [.mp u,cv k]),zv,kk)=(some (.ops dr fr q,fs',st),some true,some [.mp u,cv k],some (mG mp),true,enc z,Key.kk κ))
 (h:Le m (nP S c Q dr fr d (.r (.lookup kk zv false)) l fs' dd (cO st d (cv (zj mp k z))))):Le m (rn S c Q fo fs st0):=by
 simp only[Zd]at hL;obtain⟨h1,h2,h3,h4,h5,h6,h7⟩:=hL;subst h6 h7;refine mA h1 hq h2 ?_ h;rw[A1,h3];simp only[Zc,h5,if_true,lQ,h4,mG,Key.ok];have:=C7 k mp 0;simp only[zj]
 cases hf:fQ (enc k) (k_ mp) 0 with
 | none=>rw[hf]at this;cases this
 | some r=>
  rw[hf]at this;simp only[Option.map_some,Za]at this
  cases r with
  | none=>
   cases hm:oI k mp with
   | none=>rfl
   | some w=>rw[hm]at this;cases this
  | some w=>
   cases hm:oI k mp with
   | none=>rw[hm]at this;cases this
   | some w2=>
    rw[hm]at this;simp only[Option.map_some,Za]at this;simp only[this];rfl
theorem Vm (n:Nat) (dr:Bool) (fr:List Nat) (q:List RO) (fs':List Fm) (st:St) (u:Nat) (mp:Mo κ ν) (k:κ) (v:ν) {kk:rO} {m:Option β} (hq:q=⟨d,gd,now,.l (.mapUp kk),as,dd,[]⟩::l)
 (hL:(gx S c n fo fs st0,wanted st.g gd,bu S.N st.g as,ak st.m u,(!dr||now),kk)=(some (.ops dr fr q,fs',st),some true,some [.mp u,cv k,cv v],some (mG mp),true,Key.kk κ))
 (h:Le m (nP S c Q dr fr d (.l (.mapUp kk)) l fs' dd (cO { st with m:=bl st.m u (mG (mO mp k v)) } d (.v .undef)))):Le m (rn S c Q fo fs st0):=by
 simp only[Zd]at hL;obtain⟨h1,h2,h3,h4,h5,h6⟩:=hL;subst h6;refine mA h1 hq h2 ?_ h;rw[s9,h3];simp only[Zc,h5,if_true,kI,h4,mG,Key.ok,GW,Option.map_some]
end
end
end Go.VE
namespace Go.VE
instance {n:Nat}:OfNat Arg n:=⟨.s n⟩
abbrev bI (o:BinOp):K:=.p (.bin (some .int) none o)
abbrev ix (n:Nat):K:=.p (.idxS n)
abbrev ld (n:Nat):K:=.r (.load n false)
abbrev lD (n:Nat):K:=.r (.load n true)
abbrev fa (n:Nat):K:=.p (.fieldAddr n)
abbrev ln:K:=.p .lenSl
abbrev su (n:Nat):K:=.l (.store n)
abbrev Iv (n:Nat) (x:Int):Nat×SV:=(n,iv x)
abbrev Bv (n:Nat) (x:Bool):Nat×SV:=(n,bv x)
abbrev Cv {α:Type} [aE α] (n:Nat) (x:α):Nat×SV:=(n,cv x)
abbrev Kv {α:Type} [aE α] (n:Nat) (x:α):Nat×SV:=(n,cp x)
abbrev Pv (n:Nat):Nat×SV:=(n,.ptr n 0)
abbrev Ov (n:Nat):Nat×SV:=(n,.own (2000+n))
abbrev Xb {α:Type} [aE α] (n:Nat) (x:α):Nat×aL:=(n,bx x)
abbrev Lb {α:Type} [aE α] (n:Nat) (x:Sl α):Nat×aL:=(n,dF x)
abbrev on (d:Nat) (k:K) (as:List Arg) (dd:List Nat):RO:=⟨some d,none,true,k,as,dd,[]⟩
abbrev oz (k:K) (as:List Arg) (dd:List Nat):RO:=⟨none,none,false,k,as,dd,[]⟩
abbrev oy (k:K) (as:List Arg) (dd:List Nat):RO:=⟨none,none,true,k,as,dd,[]⟩
theorem Fe {n:Nat} {α:Type} [aE α] [Lv n α] (a:α):V.dc n (cells a)=true:=Lv.lv a
attribute [simp] Fe Js HC gH iF lS j_ lE Kn Ko HI Jo M5 J_ Jy Km JN Kr
theorem aR.tI {S:Sys} {T:ql} {f:FuncId} {b:Bool} (hT:T f=none) (hk:S.E.keep f=false) (ho:S.tI f []=some (.bool b)) :
 aR S (fJ S T) f (fun _:Unit=>[]) (fun r:Bool=>[.bool r]) (fun _=>some b) true where
 k:=hk
 h _:=by
  have h:=zW (as:=[]) hT hk ho;intro r hr;cases hr;unfold jQ;rw[h];exact uD 8 [.bool b]
 l _:=by simp
 r _:=by simp
 s _ _:=rfl
end Go.VE
namespace Go.VE
def Wp {α:Type} (m:Option α) (P:α→Prop):Prop:=∃a,m=some a∧P a
section
variable {α β:Type} {P Q:α→Prop}
theorem af (a:α):Wp (some a) P↔P a:=⟨fun h=>by obtain⟨b,e,p⟩:=h;cases e;exact p,fun p=>⟨a,rfl,p⟩⟩
theorem JH:Wp (none:Option α) P↔False:=⟨fun h=>(by obtain⟨b,e,p⟩:=h;cases e),fun h=>False.elim h⟩
theorem dW {m:Option β} {k:β→Option α}:Wp (m.bind k) P↔Wp m fun b=>Wp (k b) P:=by
 cases m with
 | none=>simp only[Option.bind_none,JH]
 | some b=>simp only[Zc,af]
theorem aD {t:Bool} {a b:Option α}:Wp (ao t a b) P↔(t=true→Wp a P)∧(t=false→Wp b P):=by
 cases t <;> simp[ao]
theorem Wp.mono {m:Option α} (h:Wp m P) (hpq:∀a,P a→Q a):Wp m Q:=let ⟨a,e,p⟩:=h;⟨a,e,hpq a p⟩
theorem Wp.and {m:Option α} (h:Wp m P) (h2:Wp m Q):Wp m fun a=>P a∧Q a:=by
 obtain⟨a,e,p⟩:=h;obtain⟨b,e2,q⟩:=h2;rw[e]at e2;cases e2;exact⟨a,e,p,q⟩
theorem Wp.eq {m:Option α} {a:α} (h:Wp m fun x=>x=a):m=some a:=by obtain⟨b,e,rfl⟩:=h;exact e
end
section
variable {σ ε ρ:Type}
theorem ij (step:σ→Option (Fw σ ε ρ)) (s:σ):bh step s=(step s).bind fun w=>match w with
 | .n s'=>bh step s'
 | .x e=>some (.x e)
 | .r b=>some (.r b):=by
 have h1:∀r,bh step s=some r→((step s).bind fun w=>match w with
  | .n s'=>bh step s'
  | .x e=>some (.x e)
  | .r b=>some (.r b))=some r:=by
  intro r h;obtain⟨k,hk⟩:=jX.1 h
  cases k with
  | zero=>simp[gF]at hk
  | succ k=>
   simp only[gF]at hk
   cases hs:step s with
   | none=>rw[hs]at hk;cases hk
   | some w=>
    rw[hs]at hk
    cases w with
    | n s'=>exact jX.2 ⟨k,hk⟩
    | x e=>exact hk
    | r b=>exact hk
 cases hw:bh step s with
 | some r=>exact(h1 r hw).symm
 | none=>
  cases hr:((step s).bind fun w=>match w with
  | .n s'=>bh step s'
  | .x e=>some (.x e)
  | .r b=>some (.r b))with
  | none=>rfl
  | some r=>
   exfalso
   cases hs:step s with
   | none=>rw[hs]at hr;cases hr
   | some w=>
    rw[hs]at hr;simp only[Zc]at hr;have:bh step s=some r:=by
     cases w with
     | n s'=>
      obtain⟨k,hk⟩:=jX.1 hr;exact jX.2 ⟨k+1,by simp only[gF,hs];exact hk⟩
     | x e=>exact jX.2 ⟨1,by simp only[gF,hs];exact hr⟩
     | r b=>exact jX.2 ⟨1,by simp only[gF,hs];exact hr⟩
    rw[hw]at this;cases this
def Jb (I:σ→Prop) (μ:σ→Nat) (px:ε→Prop) (pr:ρ→Prop) (s:σ):Fw σ ε ρ→Prop
 | .n s'=>I s'∧μ s'<μ s
 | .x e=>px e
 | .r b=>pr b
def Ro (px:ε→Prop) (pr:ρ→Prop):Fw Empty ε ρ→Prop
 | .x e=>px e
 | .r b=>pr b
theorem Ie {step:σ→Option (Fw σ ε ρ)} (I:σ→Prop) (μ:σ→Nat) (px:ε→Prop) (pr:ρ→Prop) (h:∀s,I s→Wp (step s) (Jb I μ px pr s)) {s:σ} (hs:I s):Wp (bh step s) (Ro px pr):=by
 have key:∀n s,μ s≤n→I s→Wp (bh step s) (Ro px pr):=by
  intro n
  induction n with
  | zero=>
   intro s hm hi;obtain⟨w,hw,hr⟩:=h s hi;rw[ij,hw]
   cases w with
   | n s'=>exact absurd hr.2 (by omega)
   | x e=>exact⟨_,rfl,hr⟩
   | r b=>exact⟨_,rfl,hr⟩
  | succ n ih=>
   intro s hm hi;obtain⟨w,hw,hr⟩:=h s hi;rw[ij,hw]
   cases w with
   | n s'=>exact ih s' (by have:=hr.2;omega) hr.1
   | x e=>exact⟨_,rfl,hr⟩
   | r b=>exact⟨_,rfl,hr⟩
 exact key (μ s) s (Nat.le_refl _) hs
theorem bY {γ:Type} {step:σ→Option (Fw σ ε ρ)} {fx:ε→Option γ} {fr:ρ→Option γ} {P:γ→Prop} (I:σ→Prop) (μ:σ→Nat) {s:σ} (hs:I s)
 (h:∀s,I s→Wp (step s) (Jb I μ (fun e=>Wp (fx e) P) (fun b=>Wp (fr b) P) s)):Wp ((bh step s).bind (Fw.elim fx fr)) P:=by
 rw[dW];refine(Ie I μ _ _ h hs).mono ?_;intro w hw
 cases w with
 | n a=>cases a
 | x e=>exact hw
 | r b=>exact hw
end
end Go.VE
namespace Go.VE
theorem Ez {β γ δ:Type} {e:γ→Option β} {m:Option δ} {f:δ→Option γ} {L:Option β} (h:∀x,m=some x→Le ((f x).bind e) L):Le ((m.bind f).bind e) L:=by
 cases m with
 | none=>exact Le.none _
 | some x=>exact h x rfl
section
variable {S:Sys} {c:ck} {β:Type} {Q:Out×St→Option β} {fo:Fo} {fs:List Fm} {st0:St} {l:List RO} {d:Option Nat} {now:Bool} {as:List Arg} {dd:List Nat}
theorem Le.get {β:Type} {r:β} {L:Option β} (h:Le (some r) L):L=some r:=h r rfl
theorem Kt {n:Nat} {fo fo':Fo} {fs fs':List Fm} {st:St} (A:Bool→St) {t:Bool} {m:Option β} (ht:t=true) (h:gx S c n fo fs st=some (fo',fs',A t)) (ha:Le m (rn S c Q fo' fs' (A true))):Le m (rn S c Q fo fs st):=by
 rw[ko h,ht];exact ha
theorem Kf {n:Nat} {fo fo':Fo} {fs fs':List Fm} {st:St} (A:Bool→St) {t:Bool} {m:Option β} (ht:t=false) (h:gx S c n fo fs st=some (fo',fs',A t)) (ha:Le m (rn S c Q fo' fs' (A false))):Le m (rn S c Q fo fs st):=by
 rw[ko h,ht];exact ha
theorem Hi {α:Type} [aE α] {s:Sl α} {i:Int} {x:α} {r:β} {L:Option β} (hx:idx s i=some x) (h:Le (((idx s i).bind fun _=>some r).bind some) L):Le (some r) L:=by
 rw[hx]at h;exact h
theorem Q4 {n:Nat} {q:List RO} {fs':List Fm} {st:St} {id:Nat} {vs:List SV} {xs:List V} {ws:List (List V)} {m:Option β}
 (hL:gx S c n fo fs st0=some (.ops false [] q,fs',st)) (hq:q=⟨d,none,now,.c,as,dd,[]⟩::l) (hs:bu S.N st.g as=some (.yl id::vs)) (ha:d_ vs=some xs) (hw:st.want=xs::ws) (hi:id=st.yid)
 (h:Le m (rn S c Q (.ops false [] l) fs' (kL dd (cO { st with want:=ws } d (.v (.bool (st.more || !ws.isEmpty))))))):Le m (rn S c Q fo fs st0):=by
 refine II hL hq rfl ?_ h;unfold eR;simp only[wanted,eY,hs,ha,hw,hi,if_true,and_self,Bool.false_eq_true,if_false]
theorem uX (a:RC) (fs:List Fm) (st:St):rn S c Q (.rc (.loop a)) fs st=(kf (bG S c a) st).bind (zF (jv S c Q fs) (jF S c Q fs) (fun st=>Q (.ret,st))):=by
 show jL S c Q (.loop a) fs st=_;unfold jL;rw[xY];rfl
theorem Kg {f:St→Option (Out×St)} {st st':St} (h:f st=some (.norm,st')):kf f st=kf f st':=by
 have key:∀r,kf f st=some r↔kf f st'=some r:=fun r=>by
  constructor
  ·intro hr;obtain⟨k,hk⟩:=jy.1 hr
   cases k with
   | zero=>simp[gB]at hk
   | succ k=>simp only[gB,h]at hk;exact jy.2 ⟨k,hk⟩
  ·intro hr;obtain⟨k,hk⟩:=jy.1 hr;exact jy.2 ⟨k+1,by simp only[gB,h];exact hk⟩
 cases hx:kf f st with
 | none=>
  cases hy:kf f st' with
  | none=>rfl
  | some r=>rw[(key r).2 hy]at hx;cases hx
 | some r=>rw[(key r).1 hx]
theorem Di {f:St→Option (Out×St)} {st st':St} {o:Out} (h:f st=some (o,st')) (ho:o≠.norm):kf f st=some (o,st'):=by
 refine jy.2 ⟨1,?_⟩
 cases o with
 | norm=>exact absurd rfl ho
 | exit k=>simp only[gB,h]
 | ret=>simp only[gB,h]
theorem Ac {a:RC} {fs:List Fm} {st st':St} (h:rn S c some (.rc a) [] st=some (.norm,st')):rn S c Q (.rc (.loop a)) fs st=rn S c Q (.rc (.loop a)) fs st':=by
 rw[uX,uX,Kg (by rw[uT];exact h)]
theorem Aq {a:RC} {fs:List Fm} {st st':St} {k:Nat} (h:rn S c some (.rc a) [] st=some (.exit k,st')):rn S c Q (.rc (.loop a)) fs st=rn S c Q (.ex k) fs st':=by
 rw[uX,Di (by rw[uT];exact h) (by simp)];rfl
theorem Au {a:RC} {fs:List Fm} {st st':St} (h:rn S c some (.rc a) [] st=some (.ret,st')):rn S c Q (.rc (.loop a)) fs st=Q (.ret,st'):=by
 rw[uX,Di (by rw[uT];exact h) (by simp)];rfl
end
def Qi:Out×St→Option Unit
 | (.exit _,_)=>none
 | (_,st)=>if st.want.isEmpty then some ()else none
def Sys.bare (S:Sys):Sys:=⟨S.E,S.N,fun _ _ _=>none,fun _ _=>none⟩
def jR:ck:=fun _ _ _=>none
def x_ (ws rest:List (List V)) (more:Bool):Prop:=more=true∧ws=rest∨more=false∧ws≠[]∧∃r,rest=ws++r
theorem GX (S:Sys) {f:FuncId} {fi:FI} {nm:FuncId→Option Nat} {rf:RF} (hft:S.E.ft f=some fi) (hN:∀g s,nm g=some s→S.N s=g) (hr:bf S.E nm fi rf) {a b:List V} {xs:List (List V)} (hlen:a.length+1+b.length≤rf.na) (hrs:rf.rs=[])
 (h:∀ws more,x_ ws xs more→∀yid,rn S.bare jR Qi (.rc rf.body) [] ⟨rJ 0 (a.map .v++.yl yid::b.map .v),[],[],ws,more,yid⟩=some ()):gk S f a b xs:=by
 have k:gk S.bare f a b xs:=J5 (S:=S.bare) (c:=jR) (fi:=fi) (nm:=nm) (rf:=rf) (fun _ _ _ _ _ h=>by simp[jR]at h) (fun _ _ _ _ h=>by simp[Sys.bare]at h) hft hN hr hlen hrs (fun ws more hw yid=>by
  have h1:=h ws more hw yid;change jL S.bare jR Qi rf.body [] _=some ()at h1;rw[qd]at h1;obtain⟨⟨o,st'⟩,h2,h3⟩:=Zi.1 h1;refine⟨o,st',h2,?_,?_,rfl⟩
  ·rintro id rfl;simp[Qi]at h3
  ·cases o <;> simp[Qi]at h3 <;> exact h3)
 intro ws more hw yid J y Z a' b' H h1 h2 h3 h4 h5;exact k ws more hw yid J ⟨y.rK,y.yield⟩ Z a' b' H h1 h2 h3 h4 h5
open Classical in
noncomputable def rU (P:FuncId→List V→List V→List (List V)→Prop) (f:FuncId) (a b:List V):Option (List (List V)):=if h:∃xs,P f a b xs then some (Classical.choose h)else none
theorem D6 {P:FuncId→List V→List V→List (List V)→Prop} {f:FuncId} {a b:List V} {xs:List (List V)} (h:P f a b xs) (hu:∀ys,P f a b ys→ys=xs):rU P f a b=some xs:=by
 have h1:∃xs,P f a b xs:=⟨xs,h⟩;unfold rU;rw[dif_pos h1,hu _ (Classical.choose_spec h1)]
theorem DG {P:FuncId→List V→List V→List (List V)→Prop} {f:FuncId} {a b:List V} {xs:List (List V)} (h:rU P f a b=some xs):P f a b xs:=by
 unfold rU at h;split at h
 ·rename_i h1;cases h;exact Classical.choose_spec h1
 ·cases h
theorem DK (N:Nat→FuncId) (l:FuncId→Option Nat):∀g s,((l g).bind fun s=>bif Nat.beq (N s) g then some s else none)=some s→N s=g:=by
 intro g s h;obtain⟨x,_,h2⟩:=Zi.1 h
 cases hb:Nat.beq (N x) g with
 | true=>rw[hb]at h2;cases h2;exact Nat.eq_of_beq_eq_true hb
 | false=>rw[hb]at h2;cases h2
theorem aT {E:Env} {nm:FuncId→Option Nat} {f:FuncId} {rf:RF}
 (h:((E.ft f).bind fun fi=>(aP ⟨E,nm,fi.ntmps⟩ false fi.body).bind fun c=>(fi.results.mapM (xS E)).bind fun rs=>some (c,rs,fi.ntmps))=some (erase rf.body,rf.rs,rf.na)):∃fi,E.ft f=some fi∧bf E nm fi rf:=by
 obtain⟨fi,h1,h2⟩:=Zi.1 h;obtain⟨c,h3,h4⟩:=Zi.1 h2;obtain⟨rs,h5,h6⟩:=Zi.1 h4;simp only[Za,Zd]at h6;obtain⟨rfl,rfl,h7⟩:=h6;exact⟨fi,h1,h3,h5,h7.symm⟩
theorem tP {n m:Nat} (h:n≤m) {x:V} (hx:V.lvl n x=true):V.lvl m x=true:=by
 induction h with
 | refl=>exact hx
 | step _ ih=>exact uz ih
theorem vk {n m:Nat} (h:n≤m) {x:List V} (hx:V.dc n x=true):V.dc m x=true:=by
 induction h with
 | refl=>exact hx
 | step _ ih=>exact mU ih
theorem GZ {n m:Nat} (h:n≤m) {x:List (List V)} (hx:V.jP n x=true):V.jP m x=true:=by
 induction h with
 | refl=>exact hx
 | step _ ih=>exact wA ih
theorem Jw {n m:Nat} (h:n≤m) {x:List (V×V)} (hx:V.nv n x=true):V.nv m x=true:=by
 induction h with
 | refl=>exact hx
 | step _ ih=>exact zH ih
mutual
theorem uj:∀x:V,∃n,V.lvl n x=true
 | .fsl es xs=>let ⟨n,h⟩:=Cu xs;⟨n+1,by simp only[V.lvl];exact h⟩
 | .fptr cs=>let ⟨n,h⟩:=nQ cs;⟨n+1,by simp only[V.lvl];exact h⟩
 | .fmap kvs=>let ⟨n,h⟩:=Dl kvs;⟨n+1,by simp only[V.lvl];exact h⟩
 | .agg cs=>let ⟨n,h⟩:=nQ cs;⟨n+1,by simp only[V.lvl];exact h⟩
 | .tup cs=>let ⟨n,h⟩:=nQ cs;⟨n+1,by simp only[V.lvl];exact h⟩
 | .clo f a b=>let ⟨n,h⟩:=nQ a;let ⟨m,k⟩:=nQ b;⟨max n m+1,by simp only[V.lvl,Zj];exact⟨vk (Nat.le_max_left _ _) h,vk (Nat.le_max_right _ _) k⟩⟩
 | .bool _|.int ..|.str _|.cq|.eT|.aO|.dY|.ay|.hsl ..|.hptr ..|.yld _|.hmap _=>⟨0,rfl⟩
theorem nQ:∀x:List V,∃n,V.dc n x=true
 | []=>⟨0,by simp only[V.dc]⟩
 | a::l=>let ⟨n,h⟩:=uj a;let ⟨m,k⟩:=nQ l;⟨max n m,by simp only[V.dc,Zj];exact⟨tP (Nat.le_max_left _ _) h,vk (Nat.le_max_right _ _) k⟩⟩
theorem Cu:∀x:List (List V),∃n,V.jP n x=true
 | []=>⟨0,by simp only[V.jP]⟩
 | a::l=>let ⟨n,h⟩:=nQ a;let ⟨m,k⟩:=Cu l;⟨max n m,by simp only[V.jP,Zj];exact⟨vk (Nat.le_max_left _ _) h,GZ (Nat.le_max_right _ _) k⟩⟩
theorem Dl:∀x:List (V×V),∃n,V.nv n x=true
 | []=>⟨0,by simp only[V.nv]⟩
 | (a,b)::l=>let ⟨n,h⟩:=uj a;let ⟨m,k⟩:=uj b;let ⟨q,p⟩:=Dl l;⟨max n (max m q),by simp only[V.nv,Zj];exact⟨⟨tP (by omega) h,tP (by omega) k⟩,Jw (by omega) p⟩⟩
end
theorem FR.o_ {H:an} {Z Z':Nat→Prop} {x y z:V} (h:FR H Z x z) (k:FR H Z' y z):x=y:=by
 obtain⟨n,hn⟩:=uj x;obtain⟨m,hm⟩:=uj y;have e1:=h.borrow (max n m) (tP (Nat.le_max_left _ _) hn);have e2:=k.borrow (max n m) (tP (Nat.le_max_right _ _) hm);rw[e1]at e2;exact Option.some.inj e2
open Classical in
noncomputable def tR (E:Env) (f:FuncId) (as:List V):Option V:=if h:∃y,wz E f as y then some (Classical.choose h)else none
theorem FV {E:Env} {f:FuncId} {as:List V} {y:V} (h:tR E f as=some y):wz E f as y:=by
 unfold tR at h;split at h
 ·rename_i h1;cases h;exact Classical.choose_spec h1
 ·cases h
theorem Az {E:Env} {f:FuncId} {as:List V} {y:V} (h:wz E f as y):tR E f as=some y:=by
 have h1:∃y,wz E f as y:=⟨y,h⟩;unfold tR;rw[dif_pos h1];obtain⟨n,z,H,Z,k1,k2,_⟩:=h;obtain⟨n',z',H',Z',k3,k4,_⟩:=Classical.choose_spec h1;have e1:=oM E (Nat.le_max_left n n') _ _ _ _ k1;have e2:=oM E (Nat.le_max_right n n') _ _ _ _ k3;rw[e1]at e2;cases e2;rw[FR.o_ k4 k2]
theorem C0 {E:Env} {f:FuncId} {as:List V} {y:V} (hs:V.scalar y=true) (h:∃n H',run E n (.fn f) as []=some (y,H')):wz E f as y:=by
 obtain⟨n,H',h⟩:=h;exact⟨n,y,H',fun _=>False,h,.same _ (kD hs),fun _ h=>h.elim,⟨fun _ _ _ h=>h.elim⟩⟩
end Go.VE
namespace Go.VE
def snap (w:World):bB:=fun b=>match w.heap[b]? with
 | some (.cells c _ _)=>some (.cells c)
 | some (.map es _)=>some (.map es)
 | _=>none
theorem It (w:World):cg (snap w) (fun _=>none) [] w where
 dom _ _:=rfl
 imm b x h:=by
  unfold snap at h;split at h
  ·rename_i c el fr hh;cases h;exact⟨el,fr,hh⟩
  ·rename_i es cl hh;cases h;exact⟨cl,hh⟩
  ·cases h
 obs id ob h:=by simp at h
 inj id id' ob ob' p p' h:=by simp at h
def fc (I:bB) (xs:List V) (vs:List Value):Prop:=xs.length=vs.length∧∀(j:Nat) a b,xs[j]? = some a→vs[j]? = some b→ei I a b
theorem fc.nil {I:bB}:fc I [] []:=⟨rfl,by simp⟩
theorem fc.one {I:bB} {x:V} {v:Value} (h:ei I x v):fc I [x] [v]:=⟨rfl,fun j a b h1 h2=>by
 cases j with
 | zero=>simp at h1 h2;subst h1 h2;exact h
 | succ j=>simp at h1⟩
theorem fc.append {I:bB} {xs ys:List V} {us vs:List Value} (h:fc I xs us) (k:fc I ys vs):fc I (xs++ys) (us++vs):=by
 refine⟨by simp[h.1,k.1],fun j a b h1 h2 => ?_⟩
 by_cases hj:j<xs.length
 ·rw[List.getElem?_append_left hj]at h1;rw[List.getElem?_append_left (by rw[←h.1];exact hj)]at h2
  exact h.2 j a b h1 h2
 ·rw[List.getElem?_append_right (by omega)]at h1
  rw[List.getElem?_append_right (by rw[←h.1];omega),←h.1]at h2
  exact k.2 _ a b h1 h2
theorem wI {α β:Type} {f:α→Option β}:∀{l:List α} {r:List β},l.mapM f=some r→r.length=l.length∧∀(i:Nat) a b,l[i]? = some a→r[i]? = some b→f a=some b
 | [],r,h=>by simp only[List.mapM_nil,Option.pure_def,Za]at h;subst h;simp
 | x::l,r,h=>by
  simp only[List.mapM_cons,Option.bind_eq_bind,Option.pure_def,Zi,Za]at h;obtain⟨y,hy,ys,hys,rfl⟩:=h;obtain⟨h1,h2⟩:=wI hys;refine⟨by simp[h1],fun i a b h3 h4 => ?_⟩
  cases i with
  | zero=>simp at h3 h4;subst h3 h4;exact hy
  | succ i=>exact h2 i a b (by simpa using h3) (by simpa using h4)
structure qx {H:Type} (b:DataW H→Nat):Prop where
 lit:∀l,1≤b (.lit l)
 str:∀s,s.length+1≤b (.lit (.string s))
 nil:1≤b .nil
 slice:∀es sp,(es.map b).sum+1≤b (.slice es sp)
 agg:∀ps,(ps.map b).sum+1≤b (.agg ps)
class bN (α:Type) where
 wt:α→Nat
 ok:α→Prop
instance:bN Int where
 wt _:=1
 ok n:=-9223372036854775808≤n∧n≤9223372036854775807
instance:bN Bool where
 wt _:=1
 ok _:=True
instance:bN ByteArray where
 wt s:=s.size+1
 ok s:=s.size≤maxLen
instance {α:Type} [bN α]:bN (Sl α) where
 wt s:=(s.l.map bN.wt).sum+1
 ok s:=∀x∈s.l,bN.ok x
class Reads (P:Program) (t:TypeId) (α:Type) [aE α] [bN α]:Prop where
 size:P.cellsOf t=aE.size α
 rd:∀{H:Type} {enc:TypeId×Value→H} {w:World} {base:Nat} {spare:Nat→Bool} {held:Bool} {fuel:Nat} {cs:List Value} {d:DataW H} {ps:List MemPlace},
  DataW.trod enc P w base spare held fuel t cs=some (d,ps)→∃a:α,fc (snap w) (cells a) cs∧bN.ok a∧∀b:DataW H→Nat,qx b→bN.wt a≤b d
 shape:∀{w:World} {r:_root_.Go.Reach} {base:Nat} {v:Value},Value.okWide P w r base t v→if aE.agg α then ∃cs,v=.agg cs else v.cells=#[v]
section
variable {P:Program}
theorem oF {w:World} {r:_root_.Go.Reach} {base:Nat} {t:TypeId} {v:Value} {u:_} (hu:P.underlying t=some u) (h1:∀fs,u≠.struct fs) (h2:∀n e,u≠.array n e) (h:Value.okWide P w r base t v):v.cells=#[v]:=by
 cases v with
 | agg cs=>
  exfalso;unfold Value.okWide at h;rw[hu]at h;split at h
  ·rename_i fs heq;cases heq;exact h1 _ rfl
  ·rename_i n e heq;cases heq;exact h2 _ _ rfl
  ·unfold Cell.okWide at h;rw[hu]at h;split at h <;> first|(simp at *;done)|skip
   unfold Cell.ok at h;rw[hu]at h;cases u <;> simp at h
 | _=>rfl
theorem Reads.int {t:TypeId} (hu:P.underlying t=some (.int .i64)) (hc:P.cellsOf t=1):Reads P t Int where
 size:=hc
 rd {H enc w base spare held fuel cs d ps} h:=by
  cases fuel with
  | zero=>simp[DataW.trod]at h
  | succ fuel=>
   simp only[DataW.trod,hu]at h;split at h <;> first|(simp at h;done)|skip
   ·rename_i heq;cases heq
   ·rename_i k k' n heq;simp only[Za,TypeDesc.int.injEq]at heq;split at h
    ·rename_i hk;obtain⟨rfl,hw⟩:=hk;subst heq;cases h;exact⟨n,fc.one (.int _ n),show _∧_ by simpa [Lit.wf,IntKind.min,IntKind.max,IntKind.signed,IntKind.bits]using hw,fun b hb=>hb.lit _⟩
    ·simp at h
   all_goals (rename_i heq;cases heq)
 shape h:=by simp only[show aE.agg Int=false from rfl];exact oF hu (by simp) (by simp) h
theorem Reads.bool {t:TypeId} (hu:P.underlying t=some .bool) (hc:P.cellsOf t=1):Reads P t Bool where
 size:=hc
 rd {H enc w base spare held fuel cs d ps} h:=by
  cases fuel with
  | zero=>simp[DataW.trod]at h
  | succ fuel=>
   simp only[DataW.trod,hu]at h;split at h <;> first|(simp at h;done)|skip
   ·rename_i b _;cases h;exact⟨b,fc.one (.bool b),trivial,fun b hb=>hb.lit _⟩
   all_goals (rename_i heq;cases heq)
 shape h:=by simp only[show aE.agg Bool=false from rfl];exact oF hu (by simp) (by simp) h
theorem Reads.str {t:TypeId} (hu:P.underlying t=some .string) (hc:P.cellsOf t=1):Reads P t ByteArray where
 size:=hc
 rd {H enc w base spare held fuel cs d ps} h:=by
  cases fuel with
  | zero=>simp[DataW.trod]at h
  | succ fuel=>
   simp only[DataW.trod,hu]at h;split at h <;> first|(simp at h;done)|skip
   all_goals (first|(rename_i heq;cases heq;done)|skip)
   rename_i s _;split at h
   ·rename_i hs;cases h;exact⟨s,fc.one (.str s),hs,fun b hb=>hb.str _⟩
   ·simp at h
 shape h:=by simp only[show aE.agg ByteArray=false from rfl];exact oF hu (by simp) (by simp) h
theorem Hz {w:World} {a:Addr} {n:Nat} {v:Value} (h:w.cell? (a.add n)=some v) (hn:n=0∨True):∃c el fr,w.heap[a.block]? = some (.cells c el fr)∧c[a.off+n]? = some v∧(n=0→a.spot=none):=by
 unfold World.cell? Addr.add at h
 by_cases h0:n=0
 ·subst h0;simp only[if_true]at h;split at h
  ·rename_i c el fr hh;split at h
   ·simp at h
   ·rename_i hs;exact⟨c,el,fr,hh,h,fun _=>by simpa using hs⟩
  ·simp at h
 ·simp only[if_neg h0]at h;split at h
  ·rename_i c el fr hh;simp only[Option.isSome_none,Bool.false_eq_true,if_false]at h;exact⟨c,el,fr,hh,h,fun e=>absurd e h0⟩
  ·simp at h
theorem Reads.sl {t e:TypeId} {α:Type} [aE α] [bN α] [Reads P e α] (hu:P.underlying t=some (.slice e)) (hc:P.cellsOf t=1) (hpos:0<aE.size α):Reads P t (Sl α) where
 size:=hc
 rd {H enc w base spare held fuel cs d ps} h:=by
  cases fuel with
  | zero=>simp[DataW.trod]at h
  | succ fuel=>
   simp only[DataW.trod,hu]at h;split at h <;> first|(simp at h;done)|skip
   all_goals (first|(rename_i heq;cases heq;done)|skip)
   ·cases h;exact⟨.nil,fc.one .ay,fun x hx=>by simp[Sl.l]at hx,fun b hb=>hb.nil⟩
   ·rename_i e' a len cap heq;cases heq;split at h
    ·rename_i hcap;obtain⟨elems,hel,h⟩:=Zi.1 h;obtain⟨rest,_,h⟩:=Zh.1 h;cases h;obtain⟨hlen,hget⟩:=wI hel;simp only[List.length_range]at hlen;have hes:P.cellsOf e=aE.size α:=Reads.size (α:=α);have hx:∀i,i<len→∃x:α,∃csi:List Value,w.cells? base (a.add (i*P.cellsOf e)) (P.cellsOf e)=some csi∧fc (snap w) (cells x) csi∧bN.ok x∧∀b:DataW H→Nat,qx b→∀y,elems[i]? = some y→bN.wt x≤b y.1:=fun i hi=>by
      have:=hget i i (elems[i]'(by omega)) (by simp[hi]) (Ze (by omega))
      obtain⟨csi,h1,h2⟩:=Zi.1 this;obtain⟨x,hx,hk,hb⟩:=Reads.rd (P:=P) (t:=e) (α:=α) (d:=(elems[i]'(by omega)).1) (ps:=(elems[i]'(by omega)).2) h2
      exact⟨x,csi,h1,hx,hk,fun b bo y hy=>by
       rw[Ze (by omega)]at hy;cases hy;exact hb b bo⟩
     have hall:∀n,n≤len→∃xs:List α,xs.length=n∧(∀i x,xs[i]? = some x→∃csi:List Value,w.cells? base (a.add (i*P.cellsOf e)) (P.cellsOf e)=some csi∧fc (snap w) (cells x) csi)∧(∀x∈xs,bN.ok x)∧∀b:DataW H→Nat,qx b→(xs.map bN.wt).sum≤(((elems.take n).map (·.1)).map b).sum:=by
      intro n
      induction n with
      | zero=>intro _;exact⟨[],rfl,by simp,by simp,by simp⟩
      | succ n ih=>
       intro hn;obtain⟨xs,h1,h2,h5,h6⟩:=ih (by omega)
       obtain⟨x,csi,h3,h4,h7,h8⟩:=hx n (by omega)
       refine⟨xs++[x],by simp[h1],fun i y hy => ?_,fun y hy => ?_,fun b bo => ?_⟩
       rotate_left
       ·rcases List.mem_append.1 hy with hy|hy
        ·exact h5 y hy
        ·simp at hy;subst hy;exact h7
       ·have k1:=h6 b bo;have k2:=h8 b bo _ (Ze (by omega))
        rw[List.take_succ,Ze (by omega:n<elems.length)]
        simp only[List.map_append,List.sum_append,Option.toList_some,List.map_cons,List.map_nil,List.sum_cons,List.sum_nil];omega
       by_cases hi:i<xs.length
       ·rw[List.getElem?_append_left hi]at hy;exact h2 i y hy
       ·rw[List.getElem?_append_right (by omega)]at hy
        have:i-xs.length=0:=by
         cases hk:i-xs.length with
         | zero=>rfl
         | succ k=>rw[hk]at hy;simp at hy
        rw[this]at hy;simp at hy;subst hy;have:i=n:=by omega
        subst this;exact⟨csi,h3,h4⟩
     obtain⟨xs,hxl,hxs,hxok,hxw⟩:=hall len (Nat.le_refl _);refine⟨.row xs,fc.one ?_,hxok,fun b bo => ?_⟩
     rotate_left
     ·have k:=hxw b bo;rw[List.take_of_length_le (by omega)]at k
      have k2:=bo.slice (elems.map (·.1)) (rest.map (·.1));show (xs.map bN.wt).sum+1≤_;omega
     show ei _ (.fsl (aE.size α) (rows xs)) _
     cases hl:xs with
     | nil=>
      subst hl;simp at hxl;subst hxl;exact .fsl0 _ _ _
     | cons x0 xr=>
      rw[←hl];have hl0:0<len:=by rw[←hxl,hl];simp
      have hcell:∀i x,xs[i]? = some x→∀j y,(cells x)[j]? = some y→∃v,w.cell? ((a.add (i*aE.size α)).add j)=some v∧ei (snap w) y v:=by
       intro i x hi j y hy;obtain⟨csi,h1,h2⟩:=hxs i x hi;rw[hes]at h1;unfold World.cells? at h1;split at h1
       ·obtain⟨g1,g2⟩:=wI h1;have hj:j<aE.size α:=by rw[←fE x];exact(Zf.1 hy).1
        obtain⟨v,hv⟩:∃v,csi[j]? = some v:=⟨_,Ze (by rw[g1];simpa using hj)⟩
        exact⟨v,g2 j j v (by simp[hj]) hv,h2.2 j y v hy hv⟩
       ·simp at h1
      have hadd:∀i j,(a.add (i*aE.size α)).add j=a.add (i*aE.size α+j)∨True:=fun _ _=>.inr trivial
      have hget2:∀i x,xs[i]? = some x→∀j y,(cells x)[j]? = some y→∃c el fr v,w.heap[a.block]? = some (.cells c el fr)∧c[a.off+i*aE.size α+j]? = some v∧ei (snap w) y v∧(i=0→j=0→a.spot=none):=by
       intro i x hi j y hy;obtain⟨v,h1,h2⟩:=hcell i x hi j y hy;obtain⟨c,el,fr,g1,g2,g3⟩:=Hz h1 (.inr trivial);have hb:(a.add (i*aE.size α)).block=a.block:=by unfold Addr.add;split <;> rfl
       have ho:(a.add (i*aE.size α)).off=a.off+i*aE.size α:=by unfold Addr.add;split <;> simp_all
       rw[hb]at g1;rw[ho]at g2;refine⟨c,el,fr,v,g1,g2,h2,?_⟩;rintro rfl rfl;have:=g3 rfl;simpa [Addr.add]using this
      have h00:∃y,(cells x0)[0]? = some y:=⟨_,Ze (by rw[fE];exact hpos)⟩
      obtain⟨y0,hy0⟩:=h00;obtain⟨c,el,fr,v0,hc1,_,_,hsp⟩:=hget2 0 x0 (by rw[hl];rfl) 0 y0 hy0
      have hsp:=hsp rfl rfl;obtain⟨b,o,sp⟩:=a;simp only at hsp hc1;subst hsp;have hI:snap w b=some (.cells c):=by unfold snap;rw[hc1]
      have hrl:(rows xs).length=len:=by rw[hO,hxl]
      rw[←hrl];refine .fsl _ _ b o cap c hI (by rw[hrl];exact hcap.2.1) (fun r hr => ?_) (fun r hr y hy => ?_) ?_ (fun i j r y v hr hy hv => ?_)
      ·obtain⟨x,_,rfl⟩:=List.mem_map.1 hr;exact fE x
      ·obtain⟨x,_,rfl⟩:=List.mem_map.1 hr;exact List.all_eq_true.1 (mR x) y hy
      ·
       obtain⟨xl,hxl2⟩:∃x,xs[len-1]? = some x:=⟨_,Ze (by omega)⟩
       obtain⟨yl,hyl⟩:∃y,(cells xl)[aE.size α-1]? = some y:=⟨_,Ze (by rw[fE];omega)⟩
       obtain⟨c2,_,_,v2,k1,k2,_,_⟩:=hget2 (len-1) xl hxl2 (aE.size α-1) yl hyl;simp only at k1 k2;rw[hc1]at k1;cases k1;have:=(Array.getElem?_eq_some_iff.1 k2).1;rw[hrl];have e:len*aE.size α=(len-1)*aE.size α+aE.size α:=by
        obtain⟨m,rfl⟩:∃m,len=m+1:=⟨len-1,by omega⟩
        simp[Nat.add_mul]
       omega
      ·simp only[rows,List.getElem?_map,Zh]at hr;obtain⟨x,hx1,rfl⟩:=hr;obtain⟨c2,_,_,v2,k1,k2,k3,_⟩:=hget2 i x hx1 j y hy;simp only at k1 k2;rw[hc1]at k1;cases k1;rw[hv]at k2;cases k2;exact k3
    ·simp at h
 shape h:=by simp only[show aE.agg (Sl α)=false from rfl];exact oF hu (by simp) (by simp) h
theorem fc.seg {I:bB} {acc xs:List V} {cs:List Value} {o n:Nat} (h:fc I acc (cs.take o)) (k:fc I xs ((cs.drop o).take n)):fc I (acc++xs) (cs.take (o+n)):=by
 rw[List.take_add];exact h.append k
theorem fc.fin {I:bB} {xs:List V} {cs:List Value} {n:Nat} (h:fc I xs (cs.take n)) (hl:cs.length=n):fc I xs cs:=by
 rw[List.take_of_length_le (by omega)]at h;exact h
theorem Reads.st {t:TypeId} {fs:Array Field} {α:Type} [aE α] [bN α] (hu:P.underlying t=some (.struct fs)) (hc:P.cellsOf t=aE.size α) (ha:aE.agg α=true)
 (h:∀{H:Type} {enc:TypeId×Value→H} {w:World} {base:Nat} {spare:Nat→Bool} {held:Bool} {fuel:Nat} {cs:List Value} {l:List (DataW H×List MemPlace)},cs.length=aE.size α →
  (fs.toList.mapM fun f=>DataW.trod enc P w base spare held fuel f.type ((cs.drop f.offset).take (P.cellsOf f.type)))=some l→∃a:α,fc (snap w) (cells a) cs∧bN.ok a∧∀b:DataW H→Nat,qx b→bN.wt a≤((l.map (·.1)).map b).sum+1):Reads P t α where
 size:=hc
 rd {H enc w base spare held fuel cs d ps} hr:=by
  cases fuel with
  | zero=>simp[DataW.trod]at hr
  | succ fuel=>
   simp only[DataW.trod,hu]at hr;split at hr <;> first|(simp at hr;done)|skip
   all_goals (first|(rename_i heq;cases heq;done)|skip)
   rename_i hl;obtain⟨l,h1,h2⟩:=Zh.1 hr;cases h2;obtain⟨a,k1,k2,k3⟩:=h (by rw[hl,hc]) h1
   exact⟨a,k1,k2,fun b bo=>Nat.le_trans (k3 b bo) (bo.agg _)⟩
 shape hv:=by
  rw[if_pos ha];unfold Value.okWide at hv;rw[hu]at hv;obtain⟨cs,h1,_⟩:=hv;exact⟨cs,h1⟩
theorem Reads.arg {t:TypeId} {α:Type} [aE α] [bN α] [Reads P t α] {H:Type} {enc':TypeId×Value→H} {w:World} {base:Nat} {spare:Nat→Bool} {held:Bool} {r:_root_.Go.Reach} {b:Nat} {v:Value} {d:DataW H} {ps:List MemPlace}
 (hv:Value.okWide P w r b t v) (h:DataW.Trod enc' P w base spare held t v d ps):∃a:α,aK (snap w) (fun _=>none) (enc a) v∧bN.ok a∧∀b:DataW H→Nat,qx b→bN.wt a≤b d:=by
 obtain⟨fuel,h⟩:=h;obtain⟨a,⟨h1,h2⟩,hok,hwt⟩:=Reads.rd (P:=P) (t:=t) (α:=α) h;have hs:=Reads.shape (P:=P) (t:=t) (α:=α) hv;refine⟨a,?_,hok,hwt⟩
 cases ha:aE.agg α with
 | true=>
  rw[ha,if_pos rfl]at hs;obtain⟨cs,rfl⟩:=hs;rw[rV ha];refine .c _ _ (.agg _ _ (by simpa [Value.cells]using h1) (fun j x y hx hy=>h2 j x y hx (by simpa [Value.cells]using hy)))
 | false=>
  rw[ha]at hs;simp only[Bool.false_eq_true,if_false]at hs;rw[hs]at h2;rw[oY ha]at h2;exact .c _ _ (h2 0 _ _ rfl rfl)
end
end Go.VE
namespace Go.VE
open Go.ChangeShapes Go.WideShapes Go.ChangeAt Go.RowKit
theorem AQ {I I':bB} {μ':Mu} {H':an} {w w':World} (s:Step I (fun _=>none) [] w I' μ' H' w'):Grown w w':=by
 have hf:∀b,b<w.heap.size→w'.heap[b]? = w.heap[b]? := fun b hb=>s.frame b hb (by rintro⟨id,p,ob,h,_⟩;simp at h)
 refine⟨⟨s.os,s.out,fun i hi => ?_⟩,fun a => ?_,s.size⟩
 ·rw[hf i hi];split
  ·rename_i h1 h2;rw[h1]at h2;cases h2;exact⟨rfl,rfl,rfl,fun _ _=>rfl⟩
  ·rename_i h1 h2;rw[h1]at h2;cases h2;exact .inr ⟨rfl,rfl⟩
  ·rfl
 ·by_cases hb:a.block<w.heap.size
  ·unfold World.frozen?;rw[hf _ hb]
  ·have h0:w.frozen? a=false:=by
    unfold World.frozen?;rw[Array.getElem?_eq_none (by omega)]
   rw[h0];exact s.fz a h0
theorem Cp {P:Program} {call:dN} (hc:jw P call) {f:FuncId} {args:List V} {b:Bool} {H':an} (h:call (.fn f) args []=some (.bool b,H')) {w:World} {vs:List Value}
 (hv:bS (snap w) (fun _=>none) args vs):Calls P f vs.toArray w fun e w'=>e=.returned (.bool b)∧Grown w w':=by
 intro cs;have k:=((hc.fn f args [] _ H' h).2 (snap w) (fun _=>none) w vs (It w) hv)
 obtain⟨e,w',fr,⟨u,I',μ',rfl,hu,_,hs⟩,hcm,h1,h2⟩:=k.2 cs (by simp[Fence.room,fr])
 refine⟨_,w',fr,⟨?_,AQ hs⟩,hcm.comes,h1,h2⟩
 cases hu with
 | c _ _ hcr=>cases hcr;rfl
variable {P:Program} {H:Type} {enc:TypeId×Value→H}
theorem AN {ts:List TypeId} {vs:List Value} {ds:List (DataW H)} {ps:List MemPlace} {w w':World} (hg:Grown w w') (h:DataW.TrodAll enc P w 0 (fun _=>true) true ts vs ds ps):DataW.TrodAll enc P w' 0 (fun _=>true) true ts vs ds ps:=by
 have hcell:∀p:MemPlace,p.block<w.heap.size→w.sameAt w' p:=by
  intro p hp;have k:=hg.1.2.2 p.block hp
  cases p with
  | cell b off=>
   simp only[World.sameAt,World.cell?];simp only[MemPlace.block]at k hp;split at k
   ·rename_i c t fr c' t' fr' h1 h2;rw[h1,h2];simp only;have:=k.2.2.2 off (fun x=>x)
    simpa using this
   ·rename_i h1 h2;rw[h1,h2]
   ·rw[k]
  | map b=>
   simp only[World.sameAt];simp only[MemPlace.block]at k hp;split at k
   ·rename_i c t fr c' t' fr' h1 h2;obtain⟨rfl,rfl,h3,h4⟩:=k;rw[h1,h2];have:c'=c:=Array.ext_getElem? fun i=>h4 i (fun x=>x)
    rw[this]
   ·rename_i h1 h2;rcases k with k|⟨rfl,rfl⟩
    ·exact k.elim
    ·rw[h1,h2]
   ·exact k
 induction ts generalizing vs ds ps with
 | nil=>cases vs <;> cases ds <;> simp_all [DataW.TrodAll]
 | cons t ts ih=>
  cases vs with
  | nil=>simp[DataW.TrodAll]at h
  | cons v vs=>
   cases ds with
   | nil=>simp[DataW.TrodAll]at h
   | cons d ds=>
    obtain⟨p,q,⟨n,h1⟩,h2,rfl⟩:=h;exact⟨p,q,⟨n,DataW.trod_carry n _ _ _ h1 fun x hx=>hcell x (DataW.trod_lt n _ _ _ h1 x hx)⟩,ih h2,rfl⟩
theorem E9 {T:TypeId→Prop} (K:Kids P T) (hz:∀t e,T t→P.underlying t=some (.slice e)→0<P.cellsOf e) {f:Func} {s:ChangeSpec} {apart fresh handsOn again:Bool} {W W':World} {args:Array Value} {ds gs:List (DataW H)} {before:List MemPlace} {tb:TypeId}
 (hT:∀t∈f.params.toList,T t) (hvars:s.vars=[]) (hfn:s.fn H (ds++gs)={ results:=[.lit (.bool true)],args:=ds }) (hrt:f.resultTypes=#[tb]) (hb:P.underlying tb=some .bool)
 (hW:DataW.Whole enc P f.params.toList s.vars apart W args.toList ds gs before) (hg:Grown W W'):s.post enc P f apart fresh handsOn again W args (.bool true) W':=by
 have hW':=hW;obtain⟨p,q,hA,hV,rfl,hfz,hnd⟩:=hW;rw[hvars]at hV;obtain⟨rfl,rfl⟩:=trodVars_none hV;refine post_of_same (pa:=p) (pv:=[]) hW' (fun _ _ _ => ?_) (fun sp hsp => ?_) (fun _ _ => ?_) rfl (hg.frame _) hg.2.1 (ok_one hrt rfl (okWide_bool_mk hb _))
 ·rw[hrt,hfn];exact trodAll_cons_mk (shut_bool hb _) trodAll_mk0
 ·rw[hfn];exact DataW.TrodAll.respare K hz hT (AN hg hA) (fun x hx=>hsp x (List.mem_append_left _ hx))
 ·rw[hfn,hvars];rfl
end Go.VE
namespace Go.VE
theorem Ey {m:Tb aL} {n:Nat} {rs:List SV} {b:Bool} (h:cj m n rs=some [.bool b]):rs=[.v (.bool b)]:=by
 cases rs with
 | nil=>cases n <;> simp[cj]at h
 | cons x r=>
  have h1:dI m n x=some (.bool b)∧cj m n r=some []:=by
   unfold cj at h;split at h
   ·rename_i y s h1 h2;simp only[Za,List.cons.injEq]at h;obtain⟨rfl,rfl⟩:=h;exact⟨h1,h2⟩
   ·cases h
  have h2:r=[]:=by
   cases r with
   | nil=>rfl
   | cons y r=>
    have:=h1.2;unfold cj at this;split at this <;> simp at this
  subst h2;have h3:=h1.1
  cases x with
  | v y=>unfold dI at h3;simp only[Za]at h3;rw[h3]
  | own d=>unfold dI at h3;split at h3 <;> simp only[Za,reduceCtorEq]at h3;rename_i k es xs _;cases k <;> simp[kM]at h3
  | ptr d o=>
   cases n with
   | zero=>simp[dI]at h3
   | succ n=>
    unfold dI at h3;split at h3 <;> try cases h3
    split at h3 <;> try cases h3
    split at h3 <;> cases h3
  | mp d=>unfold dI at h3;split at h3 <;> cases h3
  | clo f a b=>
   cases n with
   | zero=>simp[dI]at h3
   | succ n=>unfold dI at h3;split at h3 <;> cases h3
  | tup l=>
   cases n with
   | zero=>simp[dI]at h3
   | succ n=>unfold dI at h3;obtain⟨_,_,hq⟩:=Zh.1 h3;cases hq
  | _=>cases n <;> simp[dI]at h3
theorem Hr {S:Sys} {T:ql} (hT:sE S T) (hI:∀f a b xs,S.items f a b=some xs→gk S f a b xs) {f:FuncId} {xs:List V} (hg:V.bR xs=true) (h:jQ (fJ S T) f xs=some [.bool true]) :
 ∃n H',run S.E n (.fn f) xs []=some (.bool true,H'):=by
 unfold jQ at h;obtain⟨⟨rs,m⟩,h1,h2⟩:=Zi.1 h;have:=Ey h2;simp only at this;subst this;exact JO hT hI hg h1 rfl
theorem DR {S:Sys} {T:ql} {P:Program} (hT:sE S T) (hI:∀f a b xs,S.items f a b=some xs→gk S f a b xs) (hc:∀n,jw P (run S.E n)) {f:FuncId} {xs:List V} (hg:V.bR xs=true) (h:jQ (fJ S T) f xs=some [.bool true])
 {w:World} {args:Array Value} (hv:bS (snap w) (fun _=>none) xs args.toList):Calls P f args w fun e w'=>e=.returned (.bool true)∧Go.RowKit.Grown w w':=by
 obtain⟨n,H',hr⟩:=Hr hT hI hg h;have:=Cp (hc n) hr hv;simpa using this
theorem Reads.AU {P:Program} {t:TypeId} {α:Type} [aE α] [bN α] [Reads P t α] {H:Type} {enc':TypeId×Value→H} {w:World} {base b:Nat} {spare:Nat→Bool} {held:Bool} {v:Value} {d:DataW H} {ps:List MemPlace} {params:Array TypeId} {args:Array Value}
 (hval:∀(j:Nat) t v,params[j]? = some t→args[j]? = some v→Value.okWide P w .any b t v) (j:Nat) (h1:params[j]? = some t) (h2:args[j]? = some v) (h:DataW.Trod enc' P w base spare held t v d ps) :
 ∃a:α,aK (snap w) (fun _=>none) (enc a) v∧bN.ok a∧∀b:DataW H→Nat,qx b→bN.wt a≤b d:=Reads.arg (hval j t v h1 h2) h
end Go.VE
namespace Go.VE
theorem cA (n:Nat) (h:n<9223372036854775807):IntKind.wrap .i64 ((n:Int)+1)=((n+1:Nat):Int):=by
 simp[IntKind.wrap,IntKind.bits,IntKind.signed];omega
theorem ke (n:Int) (h1:-9223372036854775808≤n) (h2:n≤9223372036854775807):IntKind.wrap .i64 n=n:=by
 simp[IntKind.wrap,IntKind.bits,IntKind.signed];omega
section
variable {α β:Type} {P:β→Prop}
theorem kd (s:Sl α) (i:Nat):idx s (i:Int)=s.l[i]? := by
 unfold idx;rw[if_pos (by omega)];rfl
theorem aW {s:Sl α} {i:Nat} (h:i<s.l.length):idx s (i:Int)=some s.l[i]:=by rw[kd,Ze h]
theorem MN {s:Sl α} {i:Int} (h0:0≤i):idx s i=s.l[i.toNat]? := by unfold idx;rw[if_pos h0]
theorem kS (s:Sl α) (i:Nat) (h:i≤s.l.length):∃x,g_ s none (some (i:Int))=some x∧x.l=s.l.take i:=by
 unfold g_ dR;simp only[Option.getD_none,Option.getD_some];rw[if_pos (by omega)]
 cases s <;> simp[Sl.l]at h ⊢ <;> simp[h]
theorem bU {γ:Type} {a b:γ}:ao true a b=a:=rfl
theorem eu {γ:Type} {a b:γ}:ao false a b=b:=rfl
theorem fX (a b:Bool):ao a (some b) (some false)=some (a&&b):=by cases a <;> rfl
theorem fM (a b:Bool):ao a (some true) (some b)=some (a||b):=by cases a <;> rfl
theorem gN (a:Bool) (x y:β):ao a (some x) (some y)=some (if a then x else y):=by cases a <;> rfl
end
def place {α:Type} (f:α→Bool) (l:List α):Int:=match l.findIdx? f with
 | some i=>i
 | none=>-1
theorem uP {α:Type} {f:α→Bool} {l:List α} {i:Nat} (h:∀j,j<i→∀x,l[j]? = some x→f x=false) (hi:l.length≤i):l.findIdx? f=none:=by
 rw[List.findIdx?_eq_none_iff];intro x hx;obtain⟨j,hj⟩:=List.getElem?_of_mem hx;have:j<l.length:=(Zf.1 hj).1;exact h j (by omega) x hj
theorem vO {α:Type} {f:α→Bool} {l:List α} {i:Nat} {x:α} (h:∀j,j<i→∀x,l[j]? = some x→f x=false) (hx:l[i]? = some x) (hf:f x=true):l.findIdx? f=some i:=by
 rw[List.findIdx?_eq_some_iff_getElem];obtain⟨hi,rfl⟩:=Zf.1 hx;exact⟨hi,hf,fun j hj=>by rw[h j hj _ (Ze (by omega))];simp⟩
theorem mX {α:Type} {step:Int→Option (Fw Int Unit Int)} {s:Sl α} {p:α→Option Bool} {f:α→Bool} (hp:∀x∈s.l,p x=some (f x)) (hl:s.l.length<9223372036854775807)
 (hs:∀i,step i=ao (decide (i<len s)) ((idx s i).bind fun x_1=>(p x_1).bind fun x_2=>ao x_2 (some (.r i)) (some (.n (IntKind.wrap .i64 (i+1))))) (some (.x ()))) :
 (bh step 0).bind (Fw.elim (fun _=>some (-1)) (fun e=>some e))=some (place f s.l):=by
 refine Wp.eq (bY (fun i:Int=>∃n:Nat,i=n∧n≤s.l.length∧∀j,j<n→∀x,s.l[j]? = some x→f x=false) (fun i:Int=>s.l.length-i.toNat) ⟨0,rfl,Nat.zero_le _,fun j hj=>absurd hj (by omega)⟩ ?_)
 rintro i ⟨n,rfl,hn,hb⟩;rw[hs,aD];refine⟨fun h => ?_,fun h => ?_⟩
 ·have hlt:n<s.l.length:=by simpa [len]using h
  rw[aW hlt,Zc,hp _ (List.getElem_mem hlt),Zc,aD];refine⟨fun hf => ?_,fun hf => ?_⟩
  ·rw[af];show Wp (some (n:Int)) _;rw[af];unfold place;rw[vO hb (Ze hlt) hf]
  ·rw[af];refine⟨⟨n+1,cA n (by omega),by omega,fun j hj x hx => ?_⟩,?_⟩
   ·by_cases e:j=n
    ·subst e;rw[Ze hlt]at hx;cases hx;exact hf
    ·exact hb j (by omega) x hx
   ·rw[cA n (by omega)];simp;omega
 ·have hge:s.l.length≤n:=by simpa [len]using h
  rw[af];show Wp (some (-1:Int)) _;rw[af];unfold place;rw[uP hb hge]
theorem m7 {α:Type} (f:α→Bool) (l:List α):decide (place f l≥0)=l.any f:=by
 unfold place
 cases h:l.findIdx? f with
 | none=>
  rw[List.findIdx?_eq_none_iff]at h;have:l.any f=false:=by rw[List.any_eq_false];intro x hx;simp[h x hx]
  rw[this];rfl
 | some i=>
  obtain⟨hi,hf,_⟩:=List.findIdx?_eq_some_iff_getElem.1 h;have:l.any f=true:=List.any_eq_true.2 ⟨_,List.getElem_mem hi,hf⟩;rw[this];simp
theorem GV {α:Type} (f:α→Bool) (l:List α):-1≤place f l∧place f l<l.length:=by
 unfold place
 cases h:l.findIdx? f with
 | none=>simp;omega
 | some i=>
  obtain⟨hi,_⟩:=List.findIdx?_eq_some_iff_getElem.1 h;constructor <;> simp <;> omega
theorem G3 {α σ ε ρ:Type} {step:α→σ→Option (Fw σ ε ρ)} {l:List α} (I:Nat→σ→Prop) (px:ε→Prop) (pr:ρ→Prop) {s:σ} (h0:I 0 s)
 (h:∀i a s,l[i]? = some a→I i s→Wp (step a s) fun w=>match w with|.n s'=>I (i+1) s'|.x e=>px e|.r b=>pr b) :
 Wp (jZ step l s) fun w=>match w with|.n s'=>I l.length s'|.x e=>px e|.r b=>pr b:=by
 have key:∀(r:List α) (i:Nat) (s:σ),l.drop i=r→i≤l.length→I i s→Wp (jZ step r s) fun w=>match w with|.n s'=>I l.length s'|.x e=>px e|.r b=>pr b:=by
  intro r
  induction r with
  | nil=>
   intro i s hd hi hs;have:i=l.length:=by have:=List.drop_eq_nil_iff.1 hd;omega
   subst this;exact⟨_,rfl,hs⟩
  | cons a r ih=>
   intro i s hd hi hs;have hlt:i<l.length:=by
    apply Classical.byContradiction;intro hn;rw[List.drop_eq_nil_of_le (by omega)]at hd;cases hd
   have h2:=List.drop_eq_getElem_cons hlt;rw[h2]at hd;simp only[List.cons.injEq]at hd;obtain⟨w,hw,hp⟩:=h i a s (by rw[Ze hlt,hd.1]) hs
   simp only[jZ,hw,Zc]
   cases w with
   | n s'=>exact ih (i+1) s' hd.2 (by omega) hp
   | x e=>exact⟨_,rfl,hp⟩
   | r b=>exact⟨_,rfl,hp⟩
 exact key l 0 s rfl (Nat.zero_le _) h0
theorem u5 {α σ ε ρ γ:Type} {step:α→σ→Option (Fw σ ε ρ)} {l:List α} {fn:σ→Option γ} {fx:ε→Option γ} {fr:ρ→Option γ} {P:γ→Prop} (I:Nat→σ→Prop) {s:σ} (h0:I 0 s)
 (h:∀i a s,l[i]? = some a→I i s→Wp (step a s) fun w=>match w with|.n s'=>I (i+1) s'|.x e=>Wp (fx e) P|.r b=>Wp (fr b) P)
 (hn:∀s,I l.length s→Wp (fn s) P):Wp ((jZ step l s).bind (Fw.qV fn fx fr)) P:=by
 rw[dW];refine(G3 I _ _ h0 h).mono ?_;intro w hw
 cases w with
 | n s=>exact hn s hw
 | x e=>exact hw
 | r b=>exact hw
end Go.VE
