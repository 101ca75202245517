/-
 The law in plain Lean, and the join.
-/
import Derived.Test.YtbhedaipfioknaaGreatK1
import Derived.Test.YtbhedaipfioknaaGreatG1
set_option linter.all false
open List(Nodup Pairwise all_eq_true countP_append countP_cons countP_le_length drop_eq_getElem_cons ext_getElem? finRange find?_append find?_eq_none getElem?_eq_none getElem?_map getElem?_of_mem getElem?_set getElem?_take getElem_mem length_cons length_set length_singleton length_take mapM_cons map_append map_cons map_nil mem_append mem_append_left mem_cons mem_cons_of_mem mem_cons_self mem_iff_getElem? mem_map mem_of_getElem? mem_of_mem_take mem_singleton pairwise_map range range' replicate sum_cons sum_nil take_add_one take_append_drop take_length take_of_length_le)
open Option(bind_eq_bind getD_some pure_def)
open Go.IntKind(signed wrap)
open Int(ofNat toNat toNat_natCast)
open Nat(le_refl le_trans zero_le)
open Bool(false_eq_true not_eq_true' or_eq_false_iff or_eq_true)
open ByteArray(toList)
open Relation(TransGen)
open Classical(byContradiction)
namespace Go.VE
theorem Zh{p:Prop}(h:p:=by kernel_rfl):p:=h
instance:cw Assign where
 wt x:=cw.wt x.var+cw.wt x.value+1
 ok x:=cw.ok x.var/\cw.ok x.value/\True
instance:cw Zn where
 wt x:=cw.wt x.kind+cw.wt x.peer+cw.wt x.message+cw.wt x.time+cw.wt x.assign+1
 ok x:=cw.ok x.kind/\cw.ok x.peer/\cw.ok x.message/\cw.ok x.time/\cw.ok x.assign/\True
instance:cw Var where
 wt x:=cw.wt x.name+cw.wt x.init_+1
 ok x:=cw.ok x.name/\cw.ok x.init_/\True
instance:cw cq where
 wt x:=cw.wt x.name+cw.wt x.vars+cw.wt x.events+1
 ok x:=cw.ok x.name/\cw.ok x.vars/\cw.ok x.events/\True
instance:cw Zj where
 wt x:=cw.wt x.procs+1
 ok x:=cw.ok x.procs/\True
instance:cw Slice where
 wt x:=cw.wt x.empty+cw.wt x.first+cw.wt x.last+cw.wt x.j+1
 ok x:=cw.ok x.empty/\cw.ok x.first/\cw.ok x.last/\cw.ok x.j/\True
instance:cw bL where
 wt x:=cw.wt x.p+cw.wt x.q+cw.wt x.sent+cw.wt x.received+1
 ok x:=cw.ok x.p/\cw.ok x.q/\cw.ok x.sent/\cw.ok x.received/\True
end Go.VE
namespace Go.VE.YtbhedaipfioknaaGreat
open Go.Proofs Go.Proofs.YtbhedaipfioknaaGreat
instance VF:Reads Tryz.prog 9 Zq:=Reads.str Tryz.underlying9 Zh
instance VG:Reads Tryz.prog 3 Int:=Reads.int Tryz.underlying3 Zh
instance Vs:Reads Tryz.prog 133 Var:=by refine Reads.st Tryz.underlying133 Zh rfl ?_;intro H enc w base a c u L l O h;simp only[mapM_cons,List.mapM_nil,pure_def,bind_eq_bind,ζg,ζa]at h;obtain⟨z,e,Q,⟨B,f,S,rfl,rfl⟩,rfl⟩:=h;have⟨C,D,k0,T⟩:=Reads.rd (P:=Tryz.prog) (t:=9) (α:=Zq) (d:=z.1) (ps:=z.2) e;rw[show Tryz.prog.cellsOf 9=1 from by kernel_rfl]at D;have⟨G,I,U,W⟩:=Reads.rd (P:=Tryz.prog) (t:=3) (α:=Int) (d:=B.1) (ps:=B.2) f;rw[show Tryz.prog.cellsOf 3=1 from by kernel_rfl]at I;refine⟨⟨C,G⟩,fP.fin (n:=2) (fP.seg (o:=1) (n:=1) (fP.seg (o:=0) (n:=1) (show fP (snap w) [] (L.take 0)from by simpa using fP.nil) D) I) O,⟨k0,U,trivial⟩,λb J=>?_⟩;have X:=T b J;have Y:=W b J;show cw.wt C+cw.wt G+1<=_;simp only[map_cons,map_nil,sum_cons,sum_nil];omega
instance Vx:Reads Tryz.prog 49 (Sl Var):=Reads.sl (e:=133) Tryz.underlying49 Zh (by decide)
instance Vw:Reads Tryz.prog 136 Assign:=by refine Reads.st Tryz.underlying136 Zh rfl ?_;intro H enc w base a c u L l O h;simp only[mapM_cons,List.mapM_nil,pure_def,bind_eq_bind,ζg,ζa]at h;obtain⟨z,e,Q,⟨B,f,S,rfl,rfl⟩,rfl⟩:=h;have⟨C,D,k0,T⟩:=Reads.rd (P:=Tryz.prog) (t:=3) (α:=Int) (d:=z.1) (ps:=z.2) e;rw[show Tryz.prog.cellsOf 3=1 from by kernel_rfl]at D;have⟨G,I,U,W⟩:=Reads.rd (P:=Tryz.prog) (t:=3) (α:=Int) (d:=B.1) (ps:=B.2) f;rw[show Tryz.prog.cellsOf 3=1 from by kernel_rfl]at I;refine⟨⟨C,G⟩,fP.fin (n:=2) (fP.seg (o:=1) (n:=1) (fP.seg (o:=0) (n:=1) (show fP (snap w) [] (L.take 0)from by simpa using fP.nil) D) I) O,⟨k0,U,trivial⟩,λb J=>?_⟩;have X:=T b J;have Y:=W b J;show cw.wt C+cw.wt G+1<=_;simp only[map_cons,map_nil,sum_cons,sum_nil];omega
instance VD:Reads Tryz.prog 45 (Sl Assign):=Reads.sl (e:=136) Tryz.underlying45 Zh (by decide)
instance VC:Reads Tryz.prog 47 Zn:=by refine Reads.st Tryz.underlying47 Zh rfl ?_;intro H enc w base a c z X l Y h;simp only[mapM_cons,List.mapM_nil,pure_def,bind_eq_bind,ζg,ζa]at h;obtain⟨B,e,Z,⟨C,f,A,⟨x2,g,E,⟨D,i,F,⟨x4,j,K,rfl,rfl⟩,rfl⟩,rfl⟩,rfl⟩,rfl⟩:=h;have⟨G,I,k0,k⟩:=Reads.rd (P:=Tryz.prog) (t:=3) (α:=Int) (d:=B.1) (ps:=B.2) e;rw[show Tryz.prog.cellsOf 3=1 from by kernel_rfl]at I;have⟨J,L,m,p⟩:=Reads.rd (P:=Tryz.prog) (t:=3) (α:=Int) (d:=C.1) (ps:=C.2) f;rw[show Tryz.prog.cellsOf 3=1 from by kernel_rfl]at L;have⟨O,Q,q,r⟩:=Reads.rd (P:=Tryz.prog) (t:=3) (α:=Int) (d:=x2.1) (ps:=x2.2) g;rw[show Tryz.prog.cellsOf 3=1 from by kernel_rfl]at Q;have⟨S,T,s,v⟩:=Reads.rd (P:=Tryz.prog) (t:=3) (α:=Int) (d:=D.1) (ps:=D.2) i;rw[show Tryz.prog.cellsOf 3=1 from by kernel_rfl]at T;have⟨U,W,x,y⟩:=Reads.rd (P:=Tryz.prog) (t:=45) (α:=(Sl Assign)) (d:=x4.1) (ps:=x4.2) j;rw[show Tryz.prog.cellsOf 45=1 from by kernel_rfl]at W;refine⟨⟨G,J,O,S,U⟩,fP.fin (n:=5) (fP.seg (o:=4) (n:=1) (fP.seg (o:=3) (n:=1) (fP.seg (o:=2) (n:=1) (fP.seg (o:=1) (n:=1) (fP.seg (o:=0) (n:=1) (show fP (snap w) [] (X.take 0)from by simpa using fP.nil) I) L) Q) T) W) Y,⟨k0,m,q,s,x,trivial⟩,λb u=>?_⟩;have M:=k b u;have N:=p b u;have R:=r b u;have V:=v b u;have w4:=y b u;show cw.wt G+cw.wt J+cw.wt O+cw.wt S+cw.wt U+1<=_;simp only[map_cons,map_nil,sum_cons,sum_nil];omega
instance Vz:Reads Tryz.prog 48 (Sl Zn):=Reads.sl (e:=47) Tryz.underlying48 Zh (by decide)
instance VB:Reads Tryz.prog 51 cq:=by refine Reads.st Tryz.underlying51 Zh rfl ?_;intro H enc w base a c z Q l S h;simp only[mapM_cons,List.mapM_nil,pure_def,bind_eq_bind,ζg,ζa]at h;obtain⟨B,e,T,⟨C,f,U,⟨x2,W,X,rfl,rfl⟩,rfl⟩,rfl⟩:=h;have⟨D,G,k0,Y⟩:=Reads.rd (P:=Tryz.prog) (t:=9) (α:=Zq) (d:=B.1) (ps:=B.2) e;rw[show Tryz.prog.cellsOf 9=1 from by kernel_rfl]at G;have⟨I,J,Z,g⟩:=Reads.rd (P:=Tryz.prog) (t:=49) (α:=(Sl Var)) (d:=C.1) (ps:=C.2) f;rw[show Tryz.prog.cellsOf 49=1 from by kernel_rfl]at J;have⟨L,O,i,j⟩:=Reads.rd (P:=Tryz.prog) (t:=48) (α:=(Sl Zn)) (d:=x2.1) (ps:=x2.2) W;rw[show Tryz.prog.cellsOf 48=1 from by kernel_rfl]at O;refine⟨⟨D,I,L⟩,fP.fin (n:=3) (fP.seg (o:=2) (n:=1) (fP.seg (o:=1) (n:=1) (fP.seg (o:=0) (n:=1) (show fP (snap w) [] (Q.take 0)from by simpa using fP.nil) G) J) O) S,⟨k0,Z,i,trivial⟩,λb u=>?_⟩;have k:=Y b u;have m:=g b u;have p:=j b u;show cw.wt D+cw.wt I+cw.wt L+1<=_;simp only[map_cons,map_nil,sum_cons,sum_nil];omega
instance VA:Reads Tryz.prog 22 (Sl cq):=Reads.sl (e:=51) Tryz.underlying22 Zh (by decide)
instance Vy:Reads Tryz.prog 24 Zj:=by refine Reads.st Tryz.underlying24 Zh rfl ?_;intro H enc w base a c u D l G h;simp only[mapM_cons,List.mapM_nil,pure_def,bind_eq_bind,ζg,ζa]at h;obtain⟨z,e,I,rfl,rfl⟩:=h;have⟨B,C,k0,J⟩:=Reads.rd (P:=Tryz.prog) (t:=22) (α:=(Sl cq)) (d:=z.1) (ps:=z.2) e;rw[show Tryz.prog.cellsOf 22=1 from by kernel_rfl]at C;refine⟨⟨B⟩,fP.fin (n:=1) (fP.seg (o:=0) (n:=1) (show fP (snap w) [] (D.take 0)from by simpa using fP.nil) C) G,⟨k0,trivial⟩,λb L=>?_⟩;have O:=J b L;show cw.wt B+1<=_;simp only[map_cons,map_nil,sum_cons,sum_nil];omega
instance VH:Reads Tryz.prog 5 U8:=Reads.u8 Tryz.underlying5 Zh
end Go.VE.YtbhedaipfioknaaGreat
namespace Go.VE
theorem Rh{a:Int}(b:0<=a)(c:a<4294967296):zu .u64 (wrap .u64 (wrap .i64 a)) 1=some (a / 2):=by
 have e1:wrap .i64 a=a:=gU a Za Za;have e2:wrap .u64 a=a:=by simp[wrap,IntKind.bits,signed];omega
 rw[e1,e2];unfold zu;rw[if_neg Za];show some (a.fdiv (2 ^ (min 1 64)))=_;rw[show(2:Int) ^ (min 1 64)=2 from rfl,Int.fdiv_eq_ediv_of_nonneg a Za]
def Up(l:Zy):Prop:=∀(i j:Nat)(a b:Int),i<j->l[i]?=some a->l[j]?=some b->a<b
theorem QY(a b:Int):rB a b=some (decide (a<b)):=by unfold rB kF;simp[bq]
theorem BK{l:Zy}{x:Int}{r:Nat}(d:r<=l.length)(c:∀k a,k<r->l[k]?=some a->a<=x)(B:∀k a,r<=k->l[k]?=some a->x<a):l.countP (λa=>decide (a<=x))=r:=by
 have e:l=l.take r++l.drop r:=(take_append_drop r l).symm;rw[e,countP_append];have z:(l.take r).countP (λa=>decide (a<=x))=(l.take r).length:=by rw[List.countP_eq_length];intro a u;have⟨k,b⟩:=getElem?_of_mem u;have w:k<(l.take r).length:=(ζe.1 b).1;rw[getElem?_take]at b;have t:k<r:=(by rw[length_take]at w;omega);rw[if_pos t]at b;simpa using c k a t b
 have C:(l.drop r).countP (λa=>decide (a<=x))=0:=by rw[List.countP_eq_zero];intro a u;have⟨k,b⟩:=getElem?_of_mem u;rw[List.getElem?_drop]at b;have:=B (r+k) a Za b;simp;omega
 rw[z,C,length_take];omega
theorem Af{s:Zg}(g:Up s.l)(l:s.l.length<1073741824)(x:Int):lM s x=some (ofNat (s.l.countP λa=>decide (a<=x))):=by
 have J:Wp (dL s x) λr=>∃i:Nat,r.1=i/\i<=s.l.length/\(∀k a,k<i->s.l[k]?=some a->a<x)/\(∀k a,i<=k->s.l[k]?=some a->x<=a)/\(r.2=true↔s.l[i]?=some x):=by
  unfold dL dL.W1;refine ei (λq:Int×Int=>∃i j:Nat,q.1=i/\q.2=j/\i<=j/\j<=s.l.length/\(∀k a,k<i->s.l[k]?=some a->a<x)/\(∀k a,j<=k->s.l[k]?=some a->x<=a)) (λq=>q.2.toNat-q.1.toNat)
   ⟨0,s.l.length,rfl,rfl,zero_le _,le_refl _,λk a h=>absurd h Za,λk a h d=>by have:=(ζe.1 d).1;omega⟩ ?_
  rintro⟨m,o⟩ ⟨i,j,f,D,T,I,B,C⟩;simp only at f D;subst f D;unfold dL.bt;rw[bU];constructor;intro h;have U:i<j:=by have:(i:Int)<j:=(by simpa using h);omega
  rw[Rh (by simp;omega) (by simp;omega),ζb];have W:((i:Int)+j) / 2=(((i+j) / 2:Nat):Int):=Za;show Wp ((idx s (wrap .i64 (((i:Int)+j) / 2))).bind _) _;have X:wrap .i64 (((i:Int)+j) / 2)=(((i+j) / 2:Nat):Int):=by rw[W,gU _ Za Za]
  have u:(i+j) / 2<s.l.length:=Za;rw[X,bM u,ζb,QY,ζb,bU];constructor;intro c;have c:s.l[(i+j) / 2]<x:=by simpa using c
  rw[bg];refine⟨⟨(i+j) / 2+1,j,cT _ Za,rfl,Za,I,λk a d t=>?_,C⟩,?_⟩;by_cases e:k=(i+j) / 2;subst e;rw[ζd u]at t;cases t;exact c;have:=g k ((i+j) / 2) a _ Za t (ζd u);omega;show(j:Int).toNat-(wrap .i64 ((((i+j) / 2:Nat):Int)+1)).toNat<(j:Int).toNat-(i:Int).toNat;rw[cT _ Za];simp only[toNat_natCast];omega;intro c;have c:x<=s.l[(i+j) / 2]:=by simpa using c
  rw[bg];refine⟨⟨i,(i+j) / 2,rfl,rfl,Za,Za,B,λk a d t=>?_⟩,?_⟩;by_cases e:k=(i+j) / 2;subst e;rw[ζd u]at t;cases t;exact c;have:=g ((i+j) / 2) k _ a Za (ζd u) t;omega;show(((i+j) / 2:Nat):Int).toNat-(i:Int).toNat<(j:Int).toNat-(i:Int).toNat;simp only[toNat_natCast];omega;intro h;have Y:j<=i:=by have:¬(i:Int)<j:=(by simpa using h);omega
  have G:i=j:=Za;subst G;refine(bg _).2 ?_;show Wp (Option.bind (bq (decide ((i:Int)<len s)) _ _) _) _;rw[cR,bU];constructor;intro D;have w:i<s.l.length:=by simpa[len]using D
  rw[bM w,ζb,cR];unfold nj;rw[bU];constructor;intro z;have z:s.l[i]=x:=by simpa using z
  simp only[bg,cR];exact⟨i,rfl,I,B,C,by simp[ζd w,z]⟩;intro z;have z:s.l[i]≠x:=by simpa using z
  simp only[bg,cR,ζb,beq_self_eq_true,Bool.not_true,bX];exact⟨i,rfl,I,B,C,by simp[ζd w,z]⟩;intro D;have w:s.l.length<=i:=by simpa[len]using D
  simp only[bg];exact⟨i,rfl,I,B,C,by simp[getElem?_eq_none w]⟩
 have⟨⟨i,b⟩,Z,n,f,D,z,Q,L⟩:=J;simp only at f L;subst f;unfold lM;rw[Z,ζb];cases b with|true=>have O:=L.1 rfl;have p:=(ζe.1 O).1;have c:s.l.countP (λa=>decide (a<=x))=n+1:=(by refine BK Za (λk a d t=>?_) (λk a d t=>?_);by_cases e:k=n;subst e;rw[O]at t;cases t;omega;have:=z k a Za t;omega;have:=g n k x a Za O t;omega);rw[bS,c,cT n Za];rfl|false=>have c:s.l.countP (λa=>decide (a<=x))=n:=(by refine BK D (λk a d t=>by have:=z k a d t;omega) (λk a d t=>?_);have:=Q k a d t;by_cases e:k=n;subst e;have:a≠x:=λe=>(by subst e;have:=L.2 t;cases this);omega;have S:n<s.l.length:=(by have:=(ζe.1 t).1;omega);have v:=Q n s.l[n] (le_refl _) (ζd S);have:=g n k s.l[n] a Za (ζd S) t;omega);rw[bX,c];rfl
end Go.VE
namespace Go.VE
abbrev wJ{α:Type}(m:a_ α):Prop:=Wp m λ_=>True
theorem wJ.get{α:Type}{m:a_ α}(h:wJ m):∃a,m=some a:=let⟨a,e,_⟩:=h;⟨a,e⟩
theorem wJ.ok{m:a_ Zl}(h:wJ m):m=some (m.getD false):=by have⟨a,e,_⟩:=h;rw[e];rfl
def Small(t:Zj):Prop:=t.procs.l.length<1073741824/\∀p∈t.procs.l,p.events.l.length<1073741824/\p.vars.l.length<1073741824/\p.name.size<1073741824/\(∀v∈p.vars.l,v.name.size<1073741824)/\∀e∈p.events.l,e.assign.l.length<1073741824
section
theorem Jp{s:Sl Zn}{p:Zn->a_ Zl}{f:Zn->Zl}(a:∀x∈s.l,p x=some (f x))(B:s.l.length<1073741824):fD s p=some (place f s.l):=tM a Za (λi=>rfl)
theorem LQ{s:Sl cq}{p:cq->a_ Zl}{f:cq->Zl}(a:∀x∈s.l,p x=some (f x))(B:s.l.length<1073741824):fJ s p=some (place f s.l):=tM a Za (λi=>rfl)
theorem N9{s:Sl Var}{p:Var->a_ Zl}{f:Var->Zl}(a:∀x∈s.l,p x=some (f x))(B:s.l.length<1073741824):gm s p=some (place f s.l):=tM a Za (λi=>rfl)
theorem H7{s:Sl Assign}{p:Assign->a_ Zl}{f:Assign->Zl}(a:∀x∈s.l,p x=some (f x))(B:s.l.length<1073741824):e_ s p=some (place f s.l):=tM a Za (λi=>rfl)
theorem tY{s:Sl Zn}{p:Zn->a_ Zl}{f:Zn->Zl}(a:∀x∈s.l,p x=some (f x))(B:s.l.length<1073741824):gL s p=some (s.l.any f):=by unfold gL;rw[Jp a B,ζb,tB]
theorem FK{s:Sl cq}{p:cq->a_ Zl}{f:cq->Zl}(a:∀x∈s.l,p x=some (f x))(B:s.l.length<1073741824):hG s p=some (s.l.any f):=by unfold hG;rw[LQ a B,ζb,tB]
theorem HN{s:Sl Var}{p:Var->a_ Zl}{f:Var->Zl}(a:∀x∈s.l,p x=some (f x))(B:s.l.length<1073741824):iD s p=some (s.l.any f):=by unfold iD;rw[N9 a B,ζb,tB]
theorem Dc{s:Sl Assign}{p:Assign->a_ Zl}{f:Assign->Zl}(a:∀x∈s.l,p x=some (f x))(B:s.l.length<1073741824):gy s p=some (s.l.any f):=by unfold gy;rw[H7 a B,ζb,tB]
theorem nT(x B D:Int):mD x B D=some (decide (B<=x)&&decide (x<=D)):=by unfold mD;rw[kA];rfl
theorem KC{s:Zq}{i:Nat}(h:i<s.size):∃x,j_ s (i:Int)=some x:=by unfold j_;rw[if_pos Za];exact⟨_,by rw[show(s[(i:Int).toNat]?)=some s[i]from by simp[h]];rfl⟩
def ko(n:Nat)(p:Int)(e:Zn):Prop:=e.kind=1\/((e.kind=2\/e.kind=3)/\0<=e.peer/\e.peer<n/\e.peer≠p/\0<=e.message/\e.message<=199)
end
def kJ(t:Zj)(p k:Nat)(e:Zn):Prop:=∃P,t.procs.l[p]?=some P/\P.events.l[k]?=some e
theorem s8{p:Int}{x:bf×Zn}:∀{es:aZ Zn}{j:Int},x∈iw p j es↔∃k:Nat,es[k]?=some x.2/\x.1=⟨p,j+k+1⟩
 |[],j=>by simp[iw]|e::es,j=>by simp[iw,s8];constructor;rintro(rfl|⟨k,a,B⟩);exact⟨0,rfl,Zc⟩;exact⟨k+1,Zd,Zd⟩;grind
theorem tW{x:bf×Zn}:∀{ps:aZ cq}{i:Int},x∈fm i ps↔∃(a k:Nat)(P:cq),ps[a]?=some P/\P.events.l[k]?=some x.2/\x.1=⟨i+a,k+1⟩
 |[],i=>by simp[fm]|p::ps,i=>by simp only[fm,mem_append,s8,tW];constructor;rintro(⟨k,b,B⟩|⟨a,k,P,b,B,D⟩);exact⟨0,k,p,rfl,b,Zd⟩;exact⟨a+1,k,P,Ze,B,Zd⟩;grind
abbrev bO(t:Trace):aZ (bf×Event):=fm 0 t.procs.l
theorem dI{t:Zj}{x:bf×Zn}:x∈bO t↔∃p k:Nat,kJ t p k x.2/\x.1=⟨p,k+1⟩:=by rw[tW];constructor;rintro⟨a,k,P,b,u,w⟩;exact⟨a,k,⟨P,b,u⟩,Zd⟩;rintro⟨a,k,⟨P,b,u⟩,w⟩;grind
theorem xe{t:Zj}{x y:bf×Zn}(B:x∈bO t)(D:y∈bO t)(h:x.1=y.1):x=y:=by have⟨p,k,⟨P,u,a⟩,e1⟩:=dI.1 B;have⟨q,j,⟨Q,w,z⟩,e2⟩:=dI.1 D;grind
theorem rN{t:Zj}(B:Small t):iS t=some (bO t):=by unfold iS;rw[if_pos];simp[EY];exact⟨by have:=B.1;omega,λp a=>by have:=(B.2 p a).1;omega⟩
def rU(t:Zj)(p m to:Int):Zl:=match t.procs.l[p.toNat]?with
 |some P=>P.events.l.any λe=>e.kind==2&&e.message==m&&e.peer==to|none=>false
theorem NO{t:Zj}(B:Small t){p:Int}(a:0<=p)(b:p<t.procs.l.length)(m to:Int):tc t p m to=some (rU t p m to):=by unfold tc;have u:p.toNat<t.procs.l.length:=Za;have w:=getElem_mem u;rw[NG a,ζd u,ζb,tY (f:=λe=>e.kind==2&&e.message==m&&e.peer==to) (λe _=>by unfold pI;simp[kA]) (B.2 _ w).1,ζb];unfold rU;grind
theorem xN{t:Zj}{p:Nat}{m to:Int}:rU t p m to=true↔∃k e,kJ t p k e/\e.kind=2/\e.message=m/\e.peer=to:=by unfold rU kJ;rw[show(p:Int).toNat=p from rfl];cases w:t.procs.l[p]?with|none=>simp|some P=>simp;constructor;rintro⟨e,u,h⟩;have⟨k,a⟩:=getElem?_of_mem u;grind;grind
def ag(A:cu 200 bC)(m:Int):bC:=(A.at m).getD default
theorem JX(A:cu 200 bC){m:Int}(a:0<=m)(b:m<=199):A.at m=some (ag A m):=by
 have:m.toNat<A.l.length:=by rw[A.len];omega
 unfold ag cu.at;grind
theorem p8(A:cu 200 bC){m m':Int}(x:bC)(a:0<=m)(b:m<=199)(B:0<=m'):ag (A.set m x) m'=if m'=m then x else ag A m':=by
 have:m.toNat<A.l.length:=by rw[A.len];omega
 unfold ag cu.at cu.set;grind
theorem Mf{m:Int}(a:0<=m)(b:m<=199):ag (cu.KS 200 (⟨⟨0,0⟩,⟨0,0⟩⟩:bC)) m=⟨⟨0,0⟩,⟨0,0⟩⟩:=by unfold ag cu.at cu.KS;grind
structure eT(t:Trace)(its:List (bf×Event))(A:cu 200 bC):Prop where
 snd:∀x∈its,x.2.kind=2->(ag A x.2.message).from_=x.1
 rcv:∀x∈its,x.2.kind=3->(ag A x.2.message).to_=x.1/\rU t x.2.peer x.2.message x.1.proc=true
 fr:∀m,0<=m->m<=199->(ag A m).from_.index=0\/∃e,((ag A m).from_,e)∈its/\e.kind=2/\e.message=m
 to:∀m,0<=m->m<=199->(ag A m).to_.index=0\/∃e,((ag A m).to_,e)∈its/\e.kind=3/\e.message=m
def Jx(a b:bf×Zn):Prop:=a.1.proc<b.1.proc\/a.1.proc=b.1.proc/\a.1.index<b.1.index
theorem LK{p:Int}:∀{es:aZ Zn}{j:Int},(iw p j es).Pairwise Jx
 |[],_=>Pairwise.nil|e::es,j=>by simp only[iw,List.pairwise_cons];refine⟨λb B=>?_,LK⟩;have⟨k,_,D⟩:=s8.1 B;refine .inr ⟨by rw[D],?_⟩;grind
theorem Fi:∀{ps:aZ cq}{i:Int},(fm i ps).Pairwise Jx
 |[],_=>Pairwise.nil|P::ps,i=>by simp only[fm,List.pairwise_append];refine⟨LK,Fi,λa B b D=>.inl ?_⟩;have⟨k,_,G⟩:=s8.1 B;have⟨c,j,P,_,_,t⟩:=tW.1 D;grind
theorem FA{t:Zj}{k:Nat}{x y:bf×Zn}(B:(bO t)[k]?=some x)(D:y∈(bO t).take k):y.1≠x.1:=by
 have⟨a,u⟩:=ζe.1 B;have b:((bO t).take k++(bO t).drop k).Pairwise Jx:=by rw[take_append_drop];exact Fi
 have:=(List.pairwise_append.1 b).2.2 y D x (by rw[drop_eq_getElem_cons a,u];grind);unfold Jx at this;grind
structure wK(t:Trace):Prop where
 snd:∀x∈bO t,∀y∈bO t,x.2.kind=2->y.2.kind=2->x.2.message=y.2.message->x.1=y.1
 rcv:∀x∈bO t,∀y∈bO t,x.2.kind=3->y.2.kind=3->x.2.message=y.2.message->x.1=y.1
 has:∀x∈bO t,x.2.kind=3->rU t x.2.peer x.2.message x.1.proc=true
theorem eT.zm{t:Zj}{A:cu 200 bC}(h:eT t (bO t) A):wK t:=⟨λx w y z B u C=>by rw[<-h.snd x w B,<-h.snd y z u,C],λx w y z B u C=>by rw[<-(h.rcv x w B).1,<-(h.rcv y z u).1,C],λx w k=>(h.rcv x w k).2⟩
theorem Cw{t:Zj}(l:Small t)(i:∀x∈bO t,ko t.procs.l.length x.1.proc x.2):Wp (eG t) λr=>(r.2.2=0->∃A,r.1=some A/\eT t (bO t) A)/\(wK t->r.2.2=0):=by
 unfold eG iU;rw[ζb];unfold eG.E1;rw[rN l,ζb];refine wM (λk A=>eT t ((bO t).take k) A) ⟨Zc,Zc,λm c b=>.inl (by rw[Mf c b]),λm c b=>.inl (by rw[Mf c b])⟩ ?_ ?_;intro k x A Z B;have G:=mem_of_getElem? Z;have S:(bO t).take (k+1)=(bO t).take k++[x]:=by rw[take_add_one,Z];rfl
 have⟨p,j,F,H⟩:=dI.1 G;have n:=i x G;unfold eG.qN;rw[bU];constructor;intro d;have L:x.2.kind=2:=by grind
 have u:0<=x.2.message/\x.2.message<=199:=by rcases n with h|⟨_,_,_,_,h⟩;omega;simp_all
 rw[JX A u.1 u.2,ζb,bU];refine⟨λo=>(bg _).2 ((bg _).2 ⟨λh=>(by cases h),λf=>?_⟩),λc=>?_⟩;rcases B.fr _ u.1 u.2 with X|⟨e,O,T,U⟩;grind;exact absurd (f.snd _ (mem_of_mem_take O) x G T L U) (FA Z O);rw[ζb,bg,S];have W:∀y∈(bO t).take k,y.2.kind=2->y.2.message≠x.2.message:=λy a w O=>by have:=B.snd y a w;rw[O]at this;have⟨p',q,_,Q⟩:=dI.1 (mem_of_mem_take a);grind
 have Y:∀y∈(bO t).take k,y.2.kind=2\/y.2.kind=3->0<=y.2.message:=λy a w=>by rcases i y (mem_of_mem_take a)with h|⟨_,_,_,_,h,_⟩;omega;simp_all
 refine⟨λy a w=>?_,λy a z=>?_,λm C I=>?_,λm C I=>?_⟩;rcases mem_append.1 a with a|a;rw[p8 A _ u.1 u.2 (Y y a (.inl w)),if_neg (W y a w)];exact B.snd y a w;simp at a;subst a;rw[p8 A _ u.1 u.2 u.1,if_pos rfl];rcases mem_append.1 a with a|a;rw[p8 A _ u.1 u.2 (Y y a (.inr z))];have:=B.rcv y a z;grind;grind;rw[p8 A _ u.1 u.2 C];split;next e=>exact .inr ⟨x.2,Zc,L,e.symm⟩
 exact(B.fr m C I).imp (λh=>h) λ⟨e,b,D⟩=>⟨e,mem_append_left _ b,D⟩;rw[p8 A _ u.1 u.2 C];have:=(B.to m C I).imp (λh=>h) λ⟨e,b,D⟩=>(⟨e,mem_append_left [x] b,D⟩:∃e,((ag A m).to_,e)∈(bO t).take k++[x]/\e.kind=3/\e.message=m);split;next e=>subst e;omega
 omega;intro d;have L:=by simpa using d
 rw[bU];constructor;intro d;have J:=by simpa using d
 have u:0<=x.2.message/\x.2.message<=199/\0<=x.2.peer/\x.2.peer<t.procs.l.length:=by rcases n with h|⟨_,b,D,_,v,E⟩;omega;exact⟨v,E,b,D⟩
 rw[JX A u.1 u.2.1,ζb,bU];refine⟨λo=>(bg _).2 ((bg _).2 ⟨λh=>(by cases h),λf=>?_⟩),λc=>?_⟩;rcases B.to _ u.1 u.2.1 with X|⟨e,O,T,U⟩;simp[X]at o;exact absurd (f.rcv _ (mem_of_mem_take O) x G T J U) (FA Z O);have c:¬(ag A x.2.message).to_.index>0:=by simpa using c
 rw[NO l u.2.2.1 u.2.2.2,ζb,bU];refine⟨λg=>?_,λg=>(bg _).2 ((bg _).2 ⟨λh=>(by cases h),λf=>by rw[f.has x G J]at g;cases g⟩)⟩;rw[ζb,bg,S];have W:∀y∈(bO t).take k,y.2.kind=3->y.2.message≠x.2.message:=λy a w O=>by have:=(B.rcv y a w).1;rw[O]at this;rw[this]at c;have⟨p',q,_,Q⟩:=dI.1 (mem_of_mem_take a);rw[Q]at c;exact c (by show(q:Int)+1>0;omega)
 have Y:∀y∈(bO t).take k,y.2.kind=2\/y.2.kind=3->0<=y.2.message:=λy a w=>by rcases i y (mem_of_mem_take a)with h|⟨_,_,_,_,h,_⟩;omega;exact h
 refine⟨λy a w=>?_,λy a z=>?_,λm C I=>?_,λm C I=>?_⟩;rcases mem_append.1 a with a|a;rw[p8 A _ u.1 u.2.1 (Y y a (.inl w))];have:=B.snd y a w;split;next e=>rw[e]at this;exact this
 exact this;simp at a;subst a;omega;rcases mem_append.1 a with a|a;rw[p8 A _ u.1 u.2.1 (Y y a (.inr z)),if_neg (W y a z)];exact B.rcv y a z;simp at a;subst a;rw[p8 A _ u.1 u.2.1 u.1,if_pos rfl];exact⟨rfl,g⟩;rw[p8 A _ u.1 u.2.1 C];have:=(B.fr m C I).imp (λh=>h) λ⟨e,b,D⟩=>(⟨e,mem_append_left [x] b,D⟩:∃e,((ag A m).from_,e)∈(bO t).take k++[x]/\e.kind=2/\e.message=m);split;next e=>subst e;exact this
 exact this;rw[p8 A _ u.1 u.2.1 C];split;next e=>exact .inr ⟨x.2,Zc,J,e.symm⟩
 exact(B.to m C I).imp (λh=>h) λ⟨e,b,D⟩=>⟨e,mem_append_left _ b,D⟩;intro d;have J:=by simpa using d
 rw[bg,S];refine⟨λy a w=>?_,λy a z=>?_,λm C I=>?_,λm C I=>?_⟩;rcases mem_append.1 a with a|a;exact B.snd y a w;simp at a;subst a;exact absurd w L;rcases mem_append.1 a with a|a;exact B.rcv y a z;simp at a;subst a;exact absurd z J;exact(B.fr m C I).imp (λh=>h) λ⟨e,b,D⟩=>⟨e,mem_append_left _ b,D⟩;exact(B.to m C I).imp (λh=>h) λ⟨e,b,D⟩=>⟨e,mem_append_left _ b,D⟩;intro A s;rw[take_length]at s;exact(bg _).2 ⟨λ_=>⟨A,rfl,s⟩,λ_=>rfl⟩
def iG(f:Nat->Zl)(k n:Nat):Zl:=(range' k (n-k)).any f
theorem Eo{f:Nat->Zl}{k n:Nat}(h:k<n):iG f k n=(f k||iG f (k+1) n):=by unfold iG;rw[show n-k=(n-(k+1))+1 from Za,List.range'_succ];rfl
theorem Nw{f:Nat->Zl}{k n:Nat}(h:n<=k):iG f k n=false:=by unfold iG;rw[show n-k=0 from Za];rfl
theorem NF{f:Nat->Zl}{k n:Nat}:iG f k n=true↔∃i,k<=i/\i<n/\f i=true:=by unfold iG;rw[List.any_eq_true];constructor;rintro⟨i,u,t⟩;rw[List.mem_range'_1]at u;exact⟨i,u.1,Za,t⟩;rintro⟨i,a,w,t⟩;exact⟨i,by rw[List.mem_range'_1];omega,t⟩
theorem Dn{step:Int->a_ (Fw Int Unit Unit)}{n:Nat}(f:Nat->Zl)(D:n<9223372036854775807)(a:∀i:Nat,i<n->step i=some (if f i then .r ()else .n (wrap .i64 ((i:Int)+1))))(B:step (n:Int)=some (.x ())):
 ∀m k:Nat,k+m=n->bT step (k:Int)=some (if iG f k n then .r ()else .x ()):=by
 intro m
 induction m with
 |zero=>
  intro k b;have:k=n:=Za
  subst this;rw[gI,B,Nw (le_refl _)];rfl
 |succ m t=>
  intro k b;rw[gI,a k Za,Eo Za]
  cases u:f k with
  |true=>rfl|false=>
   simp only[false_eq_true,if_false,ζb,Bool.false_or];rw[cT k Za]
   exact t (k+1) Za
def nF(g:Nat->Int)(k n:Nat):Int:=match(range' k (n-k)).find? λi=> !(g i==0)with
 |some i=>g i|none=>0
theorem Mg{g:Nat->Int}{k n:Nat}(h:k<n):nF g k n=if g k=0 then nF g (k+1) n else g k:=by unfold nF;rw[show n-k=(n-(k+1))+1 from Za,List.range'_succ,List.find?_cons];by_cases a:g k=0;simp[a];rw[if_neg a,show(!(g k==0))=true from by simp[a]]
theorem NU{g:Nat->Int}{k n:Nat}(h:n<=k):nF g k n=0:=by unfold nF;rw[show n-k=0 from Za];rfl
theorem Py{step:Int->a_ (Fw Int Unit Int)}{n:Nat}(g:Nat->Int)(D:n<9223372036854775807)(b:∀i:Nat,i<n->step i=some (if g i=0 then .n (wrap .i64 ((i:Int)+1))else .r (g i)))(B:step (n:Int)=some (.x ())):
 ∀m k:Nat,k+m=n->bT step (k:Int)=some (if nF g k n=0 then .x ()else .r (nF g k n)):=by
 intro m
 induction m with
 |zero=>
  intro k c;have:k=n:=Za
  subst this;rw[gI,B,NU (le_refl _)];rfl
 |succ m t=>
  intro k c;rw[gI,b k Za,Mg Za]
  by_cases a:g k=0
  .simp only[a,if_true,ζb];rw[cT k Za]
   exact t (k+1) Za
  simp only[a,if_false,ζb]
theorem xO{step:Int->a_ (Fw Int Unit Int)}{n:Nat}(g:Nat->Int)(B:n<9223372036854775807)(a:∀i:Nat,i<n->step i=some (if g i=0 then .n (wrap .i64 ((i:Int)+1))else .r (g i)))(D:step (n:Int)=some (.x ())):bT step 0=some (if nF g 0 n=0 then .x ()else .r (nF g 0 n)):=Py g B a D n 0 Za
theorem Bo{step:Int->a_ (Fw Int Unit Unit)}{n:Nat}(f:Nat->Zl)(B:n<9223372036854775807)(a:∀i:Nat,i<n->step i=some (if f i then .r ()else .n (wrap .i64 ((i:Int)+1))))(D:step (n:Int)=some (.x ())):bT step 0=some (if iG f 0 n then .r ()else .x ()):=Dn f B a D n 0 Za
def wo(c:Int):Zl:=decide (c>=65)&&decide (c<=90)||decide (c>=97)&&decide (c<=122)
def AY(c:Int):Zl:=decide (c>=48)&&decide (c<=57)
theorem B7(c:Int):o5 c=some (wo c):=by unfold o5 wo;simp only[kA,kI,ζb];rw[Bool.or_comm]
theorem Cj(c:Int):nO c=some (wo c):=by unfold nO wo;simp only[kA,kI,ζb]
theorem L8(c:Int):s7 c=some (AY c):=by unfold s7 AY;simp only[kA,ζb]
theorem Ml(c:Int):rL c=some (AY c):=by unfold rL AY;simp only[kA,ζb]
def vC(s:Zq)(i:Nat):Int:=(j_ s (i:Int)).getD 0
theorem Bz{s:Zq}{i:Nat}(h:i<s.size):j_ s (i:Int)=some (vC s i):=by have⟨x,t⟩:=KC h;unfold vC;rw[t];rfl
def rS(s:Zq)(i:Nat):Zl:= !wo (vC s i)&& !AY (vC s i)&& !(vC s i==95)
def kW(s:Zq):Zl:=decide (1<=s.size)&&decide (s.size<=16)&&wo (vC s 0)&& !iG (rS s) 0 s.size
theorem Kz{s:Zq}{i:Nat}(h:i<s.size):fK.bt s (s.size:Int) i=some (if rS s i then .r ()else .n (wrap .i64 ((i:Int)+1))):=by unfold fK.bt rS;rw[show decide ((i:Int)<(s.size:Int))=true from by simpa using h,bS,Bz h];simp only[ζb,B7,L8];cases wo (vC s i)<;>cases AY (vC s i)<;>cases(vC s i==95)<;>rfl
theorem JR{s:Zq}{i:Nat}(h:i<s.size):gE.bt s i=some (if rS s i then .r ()else .n (wrap .i64 ((i:Int)+1))):=by unfold gE.bt rS;rw[show decide ((i:Int)<((ByteArray.size s:Nat):Int))=true from by simpa using h,bS,Bz h];simp only[ζb,Cj,Ml];cases wo (vC s i)<;>cases AY (vC s i)<;>cases(vC s i==95)<;>rfl
theorem toList_empty{s:Zq}:(toList s==toList ByteArray.empty)=decide (s.size=0):=by
 rw[Bool.eq_iff_iff,beq_iff_eq,decide_eq_true_eq];constructor;intro h;have a:(toList s).length=s.size:=by rw[Go.ByteArray.toList_eq];simp
 rw[<-a,h];rw[Go.ByteArray.toList_eq];rfl;intro h;have:s=ByteArray.empty:=by apply ByteArray.ext;exact Array.eq_empty_of_size_eq_zero h
 rw[this]
theorem Et{s:Zq}(B:s.size<1073741824):fK s=some (kW s):=by
 unfold fK;rw[toList_empty];simp only[kI,ζb];by_cases b:s.size=0;simp[b,kW,bq];by_cases t:s.size<=16;have a:(decide (s.size=0)||decide (((ByteArray.size s:Nat):Int)>16))=false:=by simp[b];omega
 rw[a,bX,show(0:Int)=((0:Nat):Int)from rfl,Bz (show 0<s.size by omega)];simp only[ζb,B7];cases u:wo (vC s 0)with|false=>simp[kW,u,bq]|true=>simp only[Bool.not_true,bX];unfold fK.W1;rw[Dn (n:=s.size) (rS s) Za (λi w=>Kz w) (by unfold fK.bt;simp[bq]) s.size 0 Za];have:kW s= !iG (rS s) 0 s.size:=(by simp[kW,u,t];omega);rw[this];cases iG (rS s) 0 s.size<;>rfl
 have a:(decide (s.size=0)||decide (((ByteArray.size s:Nat):Int)>16))=true:=by simp;omega
 rw[a,bS];simp[kW,t,bq]
theorem F_{s:Zq}(B:s.size<1073741824):gE s=some (kW s):=by
 unfold gE;simp only[kI,ζb];by_cases c:s.size=0;simp[c,kW,bq];by_cases t:s.size<=16;have a:(decide (((ByteArray.size s:Nat):Int)<1)||decide (((ByteArray.size s:Nat):Int)>16))=false:=by simp;omega
 rw[a,bX,show(0:Int)=((0:Nat):Int)from rfl,Bz (show 0<s.size by omega)];simp only[ζb,Cj];cases u:wo (vC s 0)with|false=>simp[kW,u,bq]|true=>simp only[Bool.not_true,bX];unfold gE.W1;rw[show(1:Int)=((1:Nat):Int)from rfl,Dn (n:=s.size) (rS s) Za (λi z=>JR z) (by unfold gE.bt;simp[bq]) (s.size-1) 1 Za];have w:rS s 0=false:=(by simp[rS,u]);have:kW s= !iG (rS s) 1 s.size:=(by have b:=Eo (f:=rS s) (show 0<s.size by omega);rw[w]at b;simp[kW,u,t,b];omega);rw[this];cases iG (rS s) 1 s.size<;>rfl
 have a:(decide (((ByteArray.size s:Nat):Int)<1)||decide (((ByteArray.size s:Nat):Int)>16))=true:=by simp;omega
 rw[a,bS];simp[kW,t,bq]
def fO{α:Type}(l:aZ α)(f:α->Zl)(i:Nat):Zl:=match l[i]?with|some y=>f y|none=>false
theorem yC{α:Type}{l:aZ α}{f:α->Zl}{i:Nat}(h:i<l.length):fO l f i=f l[i]:=by unfold fO;rw[ζd h]
theorem Bc{α:Type}{l:aZ α}{f:α->Zl}{p:Nat}:(l.take p).any f=iG (fO l f) 0 p:=by
 rw[Bool.eq_iff_iff,List.any_eq_true,NF];constructor;rintro⟨x,w,t⟩;have⟨i,u⟩:=getElem?_of_mem w;have z:=(ζe.1 u).1;rw[length_take]at z;rw[getElem?_take,if_pos Za]at u;exact⟨i,zero_le _,Za,by unfold fO;rw[u];exact t⟩;rintro⟨i,_,u,t⟩;unfold fO at t;split at t;next y B=>exact⟨y,mem_of_getElem? (i:=i) (by rw[getElem?_take,if_pos u];exact B),t⟩
 cases t
def qG(a b:Zq):Zl:=toList a==toList b
def S_:Zl->Zl->Zl->Int
 |true,false,true=>0|true,false,false=>2|_,_,_=>13
def tC(P:cq)(i:Nat):Int:=match P.vars.l[i]?with
 |some v=>S_ (kW v.name) (iG (fO P.vars.l λw=>qG w.name v.name) 0 i) (decide (v.init_>=-1073741824)&&decide (v.init_<=1073741824))|none=>0
def qK(t:Zj)(p:Nat):Int:=match t.procs.l[p]?with
 |some P=>if kW P.name&& !iG (fO t.procs.l λy=>qG y.name P.name) 0 p then
  (if P.vars.l.length>8 then 5 else if nF (tC P) 0 P.vars.l.length=0 then(if P.events.l.length>64 then 5 else 0)else nF (tC P) 0 P.vars.l.length)else 13
 |none=>0
theorem EF{P:cq}{i:Nat}(h:i<P.vars.l.length):tC P i=S_ (kW P.vars.l[i].name) (iG (fO P.vars.l λw=>qG w.name P.vars.l[i].name) 0 i) (decide (P.vars.l[i].init_>=-1073741824)&&decide (P.vars.l[i].init_<=1073741824)):=by unfold tC;rw[ζd h]
theorem DF(n:Int):oI n=some (decide (n>=-1073741824)&&decide (n<=1073741824)):=by unfold oI;rw[kA];rfl
theorem OI{t:Zj}(U:Small t){p:Nat}(a:p<t.procs.l.length):eF t p=some (qK t p):=by
 have X:=U.2 _ (getElem_mem a);have g:=U.1;unfold eF qK;rw[bM a,ζb,ζd a];generalize Y:t.procs.l[p]=P at *;have⟨T,Z,Q,u,_⟩:=X;rw[Et Q,ζb];have⟨x,b,D⟩:=qY t.procs p Za;have G:hG x (λz=>jc z P)=some (iG (fO t.procs.l λy=>qG y.name P.name) 0 p):=by rw[FK (p:=λz=>jc z P) (f:=λy=>qG y.name P.name) (λy _=>rfl) (by rw[D,length_take];omega),D,Bc]
 rw[b,ζb,G,ζb];dsimp only;cases h:kW P.name with|false=>simp[bq]|true=>rw[bS,ζb,Bool.true_and];cases j:iG (fO t.procs.l λy=>qG y.name P.name) 0 p with|true=>simp[bq]|false=>rw[bX];simp only[Bool.not_false,if_true];by_cases W:P.vars.l.length>8;rw[show decide (len P.vars>8)=true from by simp[len];omega,bS,if_pos W];rw[show decide (len P.vars>8)=false from by simp[len];omega,bX,if_neg W];unfold eF.W1;rw[xO (n:=P.vars.l.length) (tC P) Za (λi L=>?_) (by unfold eF.bt;simp[bq,len])];by_cases O:nF (tC P) 0 P.vars.l.length=0;rw[if_pos O,if_pos O];show bq (decide (len P.events>64)) (some 5) (some 0)=_;rw[qC];simp only[len,decide_eq_true_eq];by_cases I:P.events.l.length>64;rw[if_pos I,if_pos Za];rw[if_neg I,if_neg Za];rw[if_neg O,if_neg O];rfl;unfold eF.bt;rw[EF L,show decide ((i:Int)<len P.vars)=true from by simp[len];exact L,bS,bM L,ζb];have c:=u _ (getElem_mem L);have⟨y,d,J⟩:=qY P.vars i Za;have S:iD y (λz=>jl z P.vars.l[i])=some (iG (fO P.vars.l λw=>qG w.name P.vars.l[i].name) 0 i):=(by rw[HN (p:=λz=>jl z P.vars.l[i]) (f:=λw=>qG w.name P.vars.l[i].name) (λw _=>rfl) (by rw[J,length_take];omega),J,Bc]);rw[Et c,ζb,d,ζb,S,ζb,nT];have e:(decide (-1073741824<=P.vars.l[i].init_)&&decide (P.vars.l[i].init_<=1073741824))=(decide (P.vars.l[i].init_>=-1073741824)&&decide (P.vars.l[i].init_<=1073741824)):=rfl;rw[e];generalize kW P.vars.l[i].name=A;generalize iG (fO P.vars.l λw=>qG w.name P.vars.l[i].name) 0 i=B;generalize(decide (P.vars.l[i].init_>=-1073741824)&&decide (P.vars.l[i].init_<=1073741824))=C;cases A<;>cases B<;>cases C<;>rfl
theorem M4{t:Zj}(O:Small t){p:Nat}(a:p<t.procs.l.length):ec t p=some (qK t p):=by have T:=O.2 _ (getElem_mem a);have b:=O.1;unfold ec qK;rw[bM a,ζb,ζd a];generalize U:t.procs.l[p]=P at *;have⟨Q,W,L,z,_⟩:=T;rw[F_ L,ζb];dsimp only;cases Z:kW P.name with|false=>simp[bq]|true=>rw[bS,Bool.true_and];unfold ec.W1;rw[Bo (n:=p) (fO t.procs.l λy=>qG y.name P.name) Za (λi u=>?_) (by unfold ec.bt;simp[bq])];(cases c:iG (fO t.procs.l λy=>qG y.name P.name) 0 p with|true=>rfl|false=>simp only[Bool.not_false,if_true];show bq (decide (len P.vars>8)) (some 5) (ec.W2 0 P)=_;by_cases S:P.vars.l.length>8;rw[show decide (len P.vars>8)=true from by simp[len];omega,bS,if_pos S];rw[show decide (len P.vars>8)=false from by simp[len];omega,bX,if_neg S];unfold ec.W2;rw[xO (n:=P.vars.l.length) (tC P) Za (λi u=>?_) (by unfold ec.cn;simp[bq,len])];by_cases J:nF (tC P) 0 P.vars.l.length=0;rw[if_pos J,if_pos J];show bq (decide (len P.events>64)) (some 5) (some 0)=_;rw[qC];simp only[len,decide_eq_true_eq];by_cases D:P.events.l.length>64;rw[if_pos D,if_pos Za];rw[if_neg D,if_neg Za];rw[if_neg J,if_neg J];rfl;unfold ec.cn;rw[EF u,show decide ((i:Int)<len P.vars)=true from by simp[len];exact u,bS,bM u,ζb];(rw[F_ (z _ (getElem_mem u)),ζb];have X:ec.W3 i 0 P=if iG (fO P.vars.l λw=>qG w.name P.vars.l[i].name) 0 i then some (.r 13)else(if decide (P.vars.l[i].init_>=-1073741824)&&decide (P.vars.l[i].init_<=1073741824)then some (.n (wrap .i64 ((i:Int)+1)))else some (.r 2)):=by unfold ec.W3;rw[Bo (n:=i) (fO P.vars.l λw=>qG w.name P.vars.l[i].name) Za (λj Y=>?_) (by unfold ec.eH;simp[bq])];(cases iG (fO P.vars.l λw=>qG w.name P.vars.l[i].name) 0 i with|true=>rfl|false=>show(idx P.vars (i:Int)).bind _=_;rw[bM u,ζb,DF,ζb];cases(decide (P.vars.l[i].init_>=-1073741824)&&decide (P.vars.l[i].init_<=1073741824))<;>rfl);unfold ec.eH;have G:j<P.vars.l.length:=Za;rw[show decide ((j:Int)<(i:Int))=true from by simpa using Y,bS,bM G,ζb,bM u,ζb,yC G,qC];rfl);rw[X];generalize kW P.vars.l[i].name=A;generalize iG (fO P.vars.l λw=>qG w.name P.vars.l[i].name) 0 i=B;generalize(decide (P.vars.l[i].init_>=-1073741824)&&decide (P.vars.l[i].init_<=1073741824))=C;cases A<;>cases B<;>cases C<;>rfl);unfold ec.bt;have I:i<t.procs.l.length:=Za;rw[show decide ((i:Int)<(p:Int))=true from by simpa using u,bS,bM I,ζb,yC I,qC];rfl
def Fv(n:Nat)(p:Int)(e:Zn):Zl:=if e.kind==1 then e.peer==0&&e.message==0 else(e.kind==2||e.kind==3)&&(decide (0<=e.peer)&&decide (e.peer<n))&& !(e.peer==p)&&(decide (0<=e.message)&&decide (e.message<=199))
theorem Mb{t:Zj}(D:Small t)(p:Int)(e:Zn):gY t p e=some (Fv t.procs.l.length p e):=by
 have a:=D.1;have w:wrap .i64 (len t.procs-1)=len t.procs-1:=gU _ (by simp[len];omega) (by simp[len];omega);have u:∀b:Zl,gY.J1 p b t e=some (b&&(decide (0<=e.peer)&&decide (e.peer<t.procs.l.length))&& !(e.peer==p)&&(decide (0<=e.message)&&decide (e.message<=199))):=by intro b;unfold gY.J1;simp only[nT,w,ζb];have:decide (e.peer<=len t.procs-1)=decide (e.peer<t.procs.l.length):=(by congr 1;apply propext;simp[len];omega);rw[this];generalize(decide (0<=e.peer)&&decide (e.peer<(t.procs.l.length:Int)))=A;generalize(e.peer==p)=B;generalize(decide (0<=e.message)&&decide (e.message<=199))=C;cases b<;>cases A<;>cases B<;>cases C<;>rfl
 unfold gY Fv;rw[u,u];cases a:e.kind==1 with|true=>rw[bS];cases e.peer==0<;>cases e.message==0<;>rfl|false=>rw[bX];simp only[false_eq_true,if_false];cases z:e.kind==2<;>simp[bq]
def BC(P:cq)(k:Nat)(e:Zn):Zl:=match k with|0=>false|j+1=>fO P.events.l (λx=>decide (e.time<x.time)) j
def tg(P:cq)(k:Nat)(e:Zn):Zl:=decide (e.time<0)||decide (e.time>1099511627776)||BC P k e
def Sk:Zl->Zl->Zl->Int
 |true,true,false=>0|true,true,true=>8|_,_,_=>2
def qe(P:cq)(e:Zn)(i:Nat):Int:=match e.assign.l[i]?with
 |some a=>Sk (decide (0<=a.var)&&decide (a.var<P.vars.l.length)) (decide (a.value>=-1073741824)&&decide (a.value<=1073741824)) (iG (fO e.assign.l λb=>b.var==a.var) 0 i)|none=>0
theorem Ey{P:cq}{e:Zn}{i:Nat}(h:i<e.assign.l.length):qe P e i=Sk (decide (0<=e.assign.l[i].var)&&decide (e.assign.l[i].var<P.vars.l.length)) (decide (e.assign.l[i].value>=-1073741824)&&decide (e.assign.l[i].value<=1073741824)) (iG (fO e.assign.l λb=>b.var==e.assign.l[i].var) 0 i):=by unfold qe;rw[ζd h]
def oh(n:Nat)(P:cq)(p k:Nat)(e:Zn):Int:=if Fv n p e then(if tg P k e then 11 else if e.assign.l.length>8 then 5 else nF (qe P e) 0 e.assign.l.length)else 3
theorem J7{P:cq}{e:Zn}(c:P.vars.l.length<1073741824)(O:e.assign.l.length<1073741824):dF.W2 e.assign (len e.assign) 0 e P=some (nF (qe P e) 0 e.assign.l.length):=by
 have I:wrap .i64 (len P.vars-1)=len P.vars-1:=gU _ (by simp[len];omega) (by simp[len];omega);unfold dF.W2;rw[xO (n:=e.assign.l.length) (qe P e) Za (λi u=>?_) (by unfold dF.cn;simp[bq,len])];by_cases D:nF (qe P e) 0 e.assign.l.length=0;rw[if_pos D,D];rfl;rw[if_neg D];rfl;unfold dF.cn;have⟨y,J,t⟩:=qY e.assign i Za;have G:gy y (λz=>jR z e.assign.l[i])=some (iG (fO e.assign.l λb=>b.var==e.assign.l[i].var) 0 i):=by rw[Dc (p:=λz=>jR z e.assign.l[i]) (f:=λb=>b.var==e.assign.l[i].var) (λw _=>rfl) (by rw[t,length_take];omega),t,Bc]
 rw[Ey u,show decide ((i:Int)<len e.assign)=true from by simp[len];exact u,bS,bM u,ζb,nT,nT,I,J,ζb,ζb,ζb,G,ζb];have a:(decide (0<=e.assign.l[i].var)&&decide (e.assign.l[i].var<=len P.vars-1))=(decide (0<=e.assign.l[i].var)&&decide (e.assign.l[i].var<P.vars.l.length)):=by congr 2;apply propext;simp[len];omega
 have L:(decide (-1073741824<=e.assign.l[i].value)&&decide (e.assign.l[i].value<=1073741824))=(decide (e.assign.l[i].value>=-1073741824)&&decide (e.assign.l[i].value<=1073741824)):=rfl;rw[a,L];generalize(decide (0<=e.assign.l[i].var)&&decide (e.assign.l[i].var<(P.vars.l.length:Int)))=A;generalize(decide (e.assign.l[i].value>=-1073741824)&&decide (e.assign.l[i].value<=1073741824))=B;generalize iG (fO e.assign.l λb=>b.var==e.assign.l[i].var) 0 i=C;cases A<;>cases B<;>cases C<;>rfl
theorem K_{t:Zj}(D:Small t){p k:Nat}{P:cq}{e:Zn}(G:t.procs.l[p]?=some P)(O:P.events.l[k]?=some e):dF t ⟨p,k+1⟩ e=some (oh t.procs.l.length P p k e):=by
 have⟨a,w⟩:=ζe.1 G;have⟨b,z⟩:=ζe.1 O;have⟨I,B,_,_,C⟩:=D.2 P (w▸getElem_mem a);have Q:=C e (z▸getElem_mem b);have J:∀last:Int,((decide (0<=e.time)&&decide (e.time<=1099511627776))&& !decide (e.time<last))=(!tg P k e)->
  dF.J1 last t ⟨p,k+1⟩ e P=some (oh t.procs.l.length P p k e):=by
  intro last S;unfold dF.J1 oh;rw[Mb D,ζb,nT,ζb,J7 B Q];dsimp only
  cases Fv t.procs.l.length p e with
  |false=>rfl|true=>
   rw[bS,if_pos rfl];have:(bq (decide (0<=e.time)&&decide (e.time<=1099511627776)) (some (decide (e.time<last))) (some true):a_ Zl)=some (tg P k e):=by
    have T:(!((decide (0<=e.time)&&decide (e.time<=1099511627776))&& !decide (e.time<last)))=tg P k e:=by rw[S,Bool.not_not]
    rw[<-T];cases(decide (0<=e.time)&&decide (e.time<=1099511627776))<;>cases decide (e.time<last)<;>rfl
   rw[this,ζb]
   cases tg P k e with
   |true=>rfl|false=>
    rw[bX];simp only[false_eq_true,if_false]
    by_cases L:e.assign.l.length>8
    .rw[show decide (len e.assign>8)=true from by simp[len];omega,bS,if_pos L]
    rw[show decide (len e.assign>8)=false from by simp[len];omega,bX,if_neg L]
 unfold dF;dsimp only;rw[show idx t.procs (p:Int)=some P from by rw[mK];exact G,ζb];cases k with|zero=>rw[show decide (((0:Nat):Int)+1>1)=false from by decide,bX];refine J 0 ?_;simp only[tg,BC,Bool.or_false];rw[Bool.eq_iff_iff];simp only[ζh,not_eq_true',decide_eq_true_eq,decide_eq_false_iff_not,or_eq_false_iff];omega|succ j=>rw[show decide ((((j+1:Nat)):Int)+1>1)=true from by simp;omega,bS];have u:j<P.events.l.length:=Za;have U:wrap .i64 ((((j+1:Nat)):Int)+1-2)=((j:Nat):Int):=(by rw[gU _ Za Za];omega);rw[U,bM u,ζb];refine J _ ?_;simp only[tg,BC,yC u];rw[Bool.eq_iff_iff];simp only[ζh,not_eq_true',decide_eq_true_eq,decide_eq_false_iff_not,or_eq_false_iff];omega
theorem Jk{t:Zj}{p:Nat}{P:cq}{e:Zn}(D:t.procs.l[p]?=some P)(J:e.assign.l.length<1073741824):en.W2 p 0 t e=some (nF (qe P e) 0 e.assign.l.length):=by
 unfold en.W2;rw[xO (n:=e.assign.l.length) (qe P e) Za (λi w=>?_) (by unfold en.cn;simp[bq,len])];by_cases z:nF (qe P e) 0 e.assign.l.length=0;rw[if_pos z,z];rfl;rw[if_neg z];rfl;unfold en.cn;have G:en.W3 p i 0 t e e.assign.l[i]=if iG (fO e.assign.l λb=>b.var==e.assign.l[i].var) 0 i then some (.r 8)else some (.n (wrap .i64 ((i:Int)+1))):=by unfold en.W3;rw[Bo (n:=i) (fO e.assign.l λb=>b.var==e.assign.l[i].var) Za (λj I=>?_) (by unfold en.eH;simp[bq])];cases iG (fO e.assign.l λb=>b.var==e.assign.l[i].var) 0 i<;>rfl;unfold en.eH;have u:j<e.assign.l.length:=Za;rw[show decide ((j:Int)<(i:Int))=true from by simpa using I,bS,bM u,ζb,yC u,qC]
 rw[Ey w,show decide ((i:Int)<len e.assign)=true from by simp[len];exact w,bS,bM w,ζb,G,DF,ζb,show idx t.procs (p:Int)=some P from by rw[mK];exact D,ζb];have a:(bq (decide (e.assign.l[i].var<0)) (some true) (some (decide (e.assign.l[i].var>=len P.vars))):a_ Zl)=some (!(decide (0<=e.assign.l[i].var)&&decide (e.assign.l[i].var<P.vars.l.length))):=by rw[kI];congr 1;rw[Bool.eq_iff_iff];simp only[or_eq_true,not_eq_true',decide_eq_true_eq,Bool.and_eq_false_iff,decide_eq_false_iff_not,len];omega
 rw[a,ζb];generalize(decide (0<=e.assign.l[i].var)&&decide (e.assign.l[i].var<(P.vars.l.length:Int)))=A;generalize(decide (e.assign.l[i].value>=-1073741824)&&decide (e.assign.l[i].value<=1073741824))=B;generalize iG (fO e.assign.l λb=>b.var==e.assign.l[i].var) 0 i=C;cases A<;>cases B<;>cases C<;>rfl
theorem ML{t:Zj}(U:Small t){p k:Nat}{P:cq}{e:Zn}(J:t.procs.l[p]?=some P)(O:P.events.l[k]?=some e):en t p k=some (oh t.procs.l.length P p k e):=by
 have⟨b,w⟩:=ζe.1 J;have⟨c,z⟩:=ζe.1 O;have⟨Q,T,_,_,I⟩:=U.2 P (w▸getElem_mem b);have W:=I e (z▸getElem_mem c);have X:en.J1 p k t e=some (if tg P k e then 11 else if e.assign.l.length>8 then 5 else nF (qe P e) 0 e.assign.l.length):=by unfold en.J1;rw[kI,ζb,Jk J W,show idx t.procs (p:Int)=some P from by rw[mK];exact J,ζb];have a:(bq (decide ((k:Int)>0)) ((idx P.events (wrap .i64 ((k:Int)-1))).bind λL=>some (decide (e.time<L.time))) (some false):a_ Zl)=some (BC P k e):=(by cases k with|zero=>rfl|succ j=>have u:j<P.events.l.length:=Za;rw[show decide ((((j+1:Nat)):Int)>0)=true from by simp only[decide_eq_true_eq];omega,bS,show wrap .i64 ((((j+1:Nat)):Int)-1)=((j:Nat):Int)from by rw[gU _ Za Za];omega,bM u,ζb];simp only[BC,yC u]);rw[a,ζb,kI,ζb];show bq (tg P k e) _ _=_;cases tg P k e with|true=>rfl|false=>rw[bX];simp only[false_eq_true,if_false];by_cases S:e.assign.l.length>8;rw[show decide (len e.assign>8)=true from by simp[len];omega,bS,if_pos S];rw[show decide (len e.assign>8)=false from by simp[len];omega,bX,if_neg S]
 unfold en oh;rw[show idx t.procs (p:Int)=some P from by rw[mK];exact J,ζb,show idx P.events (k:Int)=some e from by rw[mK];exact O,ζb,X];unfold Fv;cases a:e.kind==1 with|true=>rw[bS];simp only[if_true];cases e.peer==0<;>cases e.message==0<;>rfl|false=>rw[bX];simp only[false_eq_true,if_false];have Y:(bq (e.kind==2) (some false) (some (!(e.kind==3))):a_ Zl)=some (!(e.kind==2||e.kind==3)):=(by cases e.kind==2<;>rfl);rw[Y,ζb,kI,ζb,kI,ζb,kI,ζb,kI,ζb,kI,ζb];have d:(((((!(e.kind==2||e.kind==3))||decide (e.peer<0))||decide (e.peer>=len t.procs))||(e.peer==p))||decide (e.message<0)||decide (e.message>199))= !((e.kind==2||e.kind==3)&&(decide (0<=e.peer)&&decide (e.peer<t.procs.l.length))&& !(e.peer==p)&&(decide (0<=e.message)&&decide (e.message<=199))):=(by generalize(e.kind==2||e.kind==3)=A;have f:decide (e.peer<0)= !decide (0<=e.peer):=(by rw[Bool.eq_iff_iff];simp);have g:decide (e.peer>=len t.procs)= !decide (e.peer<t.procs.l.length):=(by rw[Bool.eq_iff_iff];simp[len]);have a3:decide (e.message<0)= !decide (0<=e.message):=(by rw[Bool.eq_iff_iff];simp);have a4:decide (e.message>199)= !decide (e.message<=199):=(by rw[Bool.eq_iff_iff];simp);rw[f,g,a3,a4];generalize decide (0<=e.peer)=B;generalize decide (e.peer<(t.procs.l.length:Int))=C;generalize(e.peer==(p:Int))=D;generalize decide (0<=e.message)=F;generalize decide (e.message<=199)=G;cases A<;>cases B<;>cases C<;>cases D<;>cases F<;>cases G<;>rfl);rw[d];generalize((e.kind==2||e.kind==3)&&(decide (0<=e.peer)&&decide (e.peer<(t.procs.l.length:Int)))&& !(e.peer==(p:Int))&&(decide (0<=e.message)&&decide (e.message<=199)))=Z;cases Z<;>rfl
theorem JL{n:Nat}{p:Int}{e:Zn}(h:Fv n p e=true):ko n p e:=by
 unfold Fv at h;split at h;next a=>left;simpa using a
 right;simp only[ζh,or_eq_true,beq_iff_eq,decide_eq_true_eq,not_eq_true',beq_eq_false_iff_ne,ne_eq]at h;have⟨⟨⟨a,t⟩,w⟩,u⟩:=h;exact⟨a,t.1,t.2,w,u.1,u.2⟩
theorem Gy{n:Nat}{P:cq}{p k:Nat}{e:Zn}(h:oh n P p k e=0):ko n p e:=by
 unfold oh at h;split at h;next a=>exact JL a
 cases h
theorem vf{α:Type}[DecidableEq α]:∀{l r:aZ α},l.Nodup->(∀x∈l,x∈r)->l.length<=r.length
 |[],_,_,_=>zero_le _|x::l,r,D,G=>by have B:=List.nodup_cons.1 D;have:=vf (r:=r.erase x) B.2 λy t=>(List.mem_erase_of_ne Zd).2 (G y (mem_cons_of_mem _ t));grind
section
variable{κ:Type}[DecidableEq κ]
theorem Ce{ν:Type}{k:κ}:∀{m:Mo κ ν},k∉m.map (·.1)->sX k m=none
 |[],_=>rfl|(a,v)::r,h=>by simp only[map_cons,mem_cons,not_or]at h;unfold sX;rw[if_neg h.1];exact Ce h.2
theorem DN{ν:Type}{k:κ}:∀{m:Mo κ ν},k∈m.map (·.1)->∃v,sX k m=some v/\(k,v)∈m
 |[],h=>Ze|(a,v)::r,h=>by unfold sX;by_cases e:k=a;grind;obtain⟨w,b,B⟩:=DN (by simpa[e]using h);grind
theorem qI{ν:Type}{k:κ}{v:ν}:∀{m:Mo κ ν},k∉m.map (·.1)->qB m k v=m++[(k,v)]
 |[],_=>rfl|(a,w)::r,h=>by simp only[map_cons,mem_cons,not_or]at h;show(if k=a then _ else _)=_;rw[if_neg h.1,qI h.2];rfl
end
def Vd(t:Zj)(y:bf):Prop:=∃e,(y,e)∈bO t
theorem Vd.at_{t:Zj}{y:bf}(h:Vd t y):∃(p k:Nat)(e:Zn),kJ t p k e/\y=⟨p,k+1⟩/\(y,e)∈bO t:=by have⟨e,u⟩:=h;have⟨p,k,a,w⟩:=dI.1 u;grind
def FJ(t:Zj)(y z:bf):Prop:=∃e f,(y,e)∈bO t/\(z,f)∈bO t/\e.kind=2/\f.kind=3/\e.message=f.message
def Edge(t:Zj)(y z:bf):Prop:=Vd t y/\Vd t z/\(z=⟨y.proc,y.index+1⟩\/FJ t y z)
abbrev Way(t:Trace):bf->bf->Prop:=TransGen (Edge t)
def Ij(t:Zj):Prop:=∃x,Way t x x
theorem Way.l{t:Zj}{x y:bf}(h:Way t x y):Vd t x:=by induction h with|single h=>exact h.1|tail _ _ u=>omega
theorem Way.r{t:Zj}{x y:bf}(h:Way t x y):Vd t y:=by cases h with|single h=>exact h.2.1|tail _ h=>exact h.2.1
theorem Ny{t:Zj}(m:Small t)(n:∀x∈bO t,ko t.procs.l.length x.1.proc x.2){A:cu 200 bC}(d:eT t (bO t) A){y:bf}(J:Vd t y):
 Wp (iO t A y) λs=>s.l.length<=2/\∀z,z∈s.l↔Edge t y z:=by
 have⟨p,k,e,O,C,u⟩:=J.at_;have⟨P,S,g⟩:=O;have T:P∈t.procs.l:=mem_of_getElem? S;have a:=(m.2 P T).1;have Z:k<P.events.l.length:=(ζe.1 g).1;have D:y.proc=p:=by rw[C]
 have U:y.index=k+1:=by rw[C]
 have j:∀s:Sl bf,s.l.length<=1->(∀z,z∈s.l↔Vd t z/\z=⟨y.proc,y.index+1⟩)->Wp (iO.J1 A s P.events y) λs=>s.l.length<=2/\∀z,z∈s.l↔Edge t y z:=by intro s E w;have l:¬(∃z,FJ t y z)->s.l.length<=2/\∀z,z∈s.l↔Edge t y z:=λo=>⟨Za,λz=>(w z).trans ⟨λh=>⟨J,h.1,.inl h.2⟩,λh=>⟨h.2.1,h.2.2.elim id λh=>(o ⟨z,h⟩).elim⟩⟩⟩;unfold iO.J1;have W:wrap .i64 (y.index-1)=((k:Nat):Int):=(by rw[U,gU _ Za Za];omega);rw[W,mK,g,ζb,cR,bU];constructor;intro B;have B:e.kind=2:=(by grind);have L:0<=e.message/\e.message<=199:=(by rcases n _ u with h|⟨_,_,_,_,h⟩;grind;omega);have b:∀z,FJ t y z->(ag A e.message).to_=z:=λz⟨X,f,Y,G,a3,a4,a5⟩=>(by cases xe Y u rfl;rw[a5];exact(d.rcv _ G a4).1);rw[JX A L.1 L.2,ζb,bg,bU];refine⟨λh=>?_,λh=>(bg _).2 (l λ⟨z,w⟩=>?_)⟩;have h:(ag A e.message).to_.index>0:=(by grind);rw[ζb];unfold gZ;rw[if_pos Za,ζb,bg];refine⟨by show(s.l++[(ag A e.message).to_]).length<=2;grind,λz=>?_⟩;have I:FJ t y (ag A e.message).to_:=(by rcases d.to e.message L.1 L.2 with F|⟨X,a,c,r⟩;omega;exact⟨e,X,u,a,B,c,r.symm⟩);show z∈s.l++[(ag A e.message).to_]↔_;rw[mem_append,mem_singleton,w];constructor;rintro(h|rfl);exact⟨J,h.1,.inl h.2⟩;exact⟨J,let⟨_,f,_,G,_⟩:=I;⟨f,G⟩,.inr I⟩;rintro⟨_,a,c|c⟩;grind;grind;rw[b z w]at h;have⟨_,f,_,G,_⟩:=w;have⟨q,i,_,v⟩:=dI.1 G;grind;intro B;rw[bg,bU];refine⟨λh=>(by cases h),λ_=>(bg _).2 (l λ⟨z,X,f,Y,_,a3,_⟩=>?_)⟩;cases xe Y u rfl;grind
 unfold iO;rw[D,mK,S,ζb,bU];rw[D]at j;constructor
 .intro h;have h:y.index<len P.events:=by grind
  have B:k+1<P.events.l.length:=Zd
  refine j _ (by simp[Sl.l]) λz=>?_
  have W:wrap .i64 (y.index+1)=y.index+1:=gU _ Za Za
  simp only[Sl.l,mem_singleton,W];refine⟨λw=>⟨⟨P.events.l[k+1],dI.2 ⟨p,k+1,⟨P,S,ζd B⟩,?_⟩⟩,w⟩,λw=>w.2⟩
  grind
 intro h;have h:¬y.index<len P.events:=Zd
 refine j _ (by simp[Sl.l]) λz=>⟨λw=>by simp[Sl.l]at w,λ⟨w,H⟩=>?_⟩
 have⟨q,i,f,⟨Q,K,v⟩,M,_⟩:=w.at_
 grind
structure F9(t:Trace)(x:bf)(rest:Sl bf)(m:Mo bf Bool)(U:bf->Prop):Prop where
 rst:∀y∈rest.l,y=x\/Way t x y
 keys:(m.map (·.1)).Nodup
 seen:∀y∈m,Way t x y.1/\y.1≠x/\y.2=true
 le:rest.l.length<=m.length+1
 done:∀y,y=x\/y∈m.map (·.1)->y∈rest.l\/U y\/∀z,Edge t y z->z∈m.map (·.1)
theorem F9.count{t:Zj}{x:bf}{rest:Sl bf}{m:Mo bf Zl}{U:bf->Prop}(h:F9 t x rest m U):m.length<=(bO t).length:=by
 have:=vf (r:=(bO t).map (·.1)) h.keys λx u=>by obtain⟨y,w,rfl⟩:=mem_map.1 u;have⟨e,z⟩:=(h.seen y w).1.r;grind
 grind
theorem KY{t:Zj}(E:Small t)(hN:(bO t).length<1073741824)(hF:∀x∈bO t,ko t.procs.l.length x.1.proc x.2){A:cu 200 bC}(hA:eT t (bO t) A):Wp (ij t A) λr=>(r.2=true↔Ij t):=by
 unfold ij iU;rw[ζb];unfold ij.E1;rw[rN E,ζb];refine wM (λk _=>∀x∈(bO t).take k,¬Way t x.1 x.1) Zc ?_ λ_ h=>(bg _).2 ⟨λh=>(by cases h),λ⟨x,g⟩=>?_⟩
 .intro i x _ g ar;have ah:x∈bO t:=mem_of_getElem? g;refine Wp.mono (P:=λw=>match w with|.n s=>¬Way t x.1 x.1|.x e=>False|.r e=>Ij t) ?_ λw j=>by cases w with|n s=>intro y d;rw[take_add_one,g]at d;grind|x e=>grind|r b=>exact(bg _).2 ⟨λ_=>j,λ_=>rfl⟩
  refine ei (λq:Sl bf×Mo bf Zl=>F9 t x.1 q.1 q.2 λ_=>False) (λq=>2*((bO t).length-q.2.length)+q.1.l.length) ⟨λy d=>.inl (by simpa[Sl.l]using d),Zc,Zc,by simp[Sl.l],λy d=>.inl ?_⟩ ?_;simpa[Sl.l]using d;rintro⟨rest,m⟩ L;unfold ij.cn;rw[bU];refine⟨λh=>?_,λh=>(bg _).2 ((bg _).2 λj=>?_)⟩
  .have G:0<rest.l.length:=by grind
   have hc:=L.count;have av:=L.le;have j:wrap .i64 ((len rest)-1)=(rest.l.length-1:Nat):=by rw[gU _ Zd Zd];grind
   have I:rest.l.length-1<rest.l.length:=Za;rw[j];have h1:Sl.lY rest (rest.l.length-1:Nat)=some (rest.l.length-1):=by unfold Sl.lY;grind
   have h2:Sl.get rest (rest.l.length-1)=some rest.l[rest.l.length-1]:=by unfold Sl.get;grind
   obtain⟨cut,h3,h4⟩:∃x,nN rest none (some ((rest.l.length-1:Nat):Int))=some x/\x.l=rest.l.take (rest.l.length-1):=by cases rest with|nil=>simp[Sl.l]at G|emp=>simp[Sl.l]at G|row l=>simp only[Sl.l]at G⊢;unfold nN dO;simp_all|part l=>simp[Sl.l]at G⊢;unfold nN dO;simp_all
   rw[h1,ζb,h2,ζb,h3,ζb,cR];generalize ai:rest.l[rest.l.length-1]=y;have aj:y∈rest.l:=ai▸getElem_mem I;have O:∀z,z∈rest.l->z∈cut.l\/z=y:=λz c=>by have:rest.l.take (rest.l.length-1)++rest.l.drop (rest.l.length-1)=rest.l:=take_append_drop ..;rw[<-this]at c;rcases mem_append.1 c with c|c;grind;rw[drop_eq_getElem_cons I,List.drop_of_length_le Za]at c;grind
   have F:=L.rst _ aj;have ak:=F.elim (λe=>⟨x.2,e▸ah⟩) Way.r;refine(Ny E hF hA ak).mono λs H=>?_;refine ei (λq:Sl bf×Int×Mo bf Zl=>∃n:Nat,q.2.1=n/\n<=s.l.length/\F9 t x.1 q.1 q.2.2 (λu=>u=y)/\(∀z∈s.l.take n,z∈q.2.2.map (·.1))/\2*((bO t).length-q.2.2.length)+q.1.l.length<2*((bO t).length-m.length)+rest.l.length) (λq=>s.l.length-q.2.1.toNat)
    ⟨0,rfl,zero_le _,⟨λz c=>L.rst z Zd,L.keys,L.seen,Zd,λu f=>?_⟩,Zc,Zd⟩ ?_
   .rcases L.done u f with h|h|h;exact(O u h).imp_right .inl;exact h.elim;exact .inr (.inr h)
   rintro⟨C,i2,W⟩ ⟨n,rfl,hn,B,J,o⟩;simp only at B o J;unfold ij.eH;rw[bU];constructor
   .intro h;have X:n<s.l.length:=(by simpa[len]using h);have K:=(H.2 s.l[n]).1 (getElem_mem X);have Q:Way t x.1 s.l[n]:=F.elim (λe=>.single (e▸K)) λh=>.tail h K;rw[bM X,ζb,bU];refine⟨λZ=>(bg _).2 ((bg _).2 ((bg _).2 ⟨x.1,?_⟩)),λS=>?_⟩;have:s.l[n]=x.1:=(by unfold Ib at Z;revert Z;cases s.l[n];cases x.1;intro Z;simpa using Z);rw[this]at Q;exact Q;have S:s.l[n]≠x.1:=λe=>(by rw[e]at S;simp[Ib]at S);have T:=cT n Za;have M:s.l.take (n+1)=s.l.take n++[s.l[n]]:=(by rw[take_add_one,ζd X];rfl);rw[bU];refine⟨λp=>(bg _).2 ⟨⟨n+1,T,Za,B,λz c=>?_,o⟩,by show _-(wrap .i64 ((n:Int)+1)).toNat<_;rw[T];simp;omega⟩,λY=>?_⟩;rw[M]at c;rcases mem_append.1 c with c|c;exact J z c;simp[mem_singleton]at c;subst c;apply byContradiction;intro hk;unfold Ds at p;rw[Ce hk]at p;cases p;have aw:=B.count;have au:=B.le;unfold gZ;rw[if_pos (show C.l.length+1<=2147483648 from Za),ζb,bg];have D:s.l[n]∉W.map (·.1):=λal=>(by have⟨v,hv,am⟩:=DN al;have:=(B.seen _ am).2.2;simp only at this;subst this;unfold Ds at Y;rw[hv]at Y;cases Y);have U:∀z,z∈(qB W s.l[n] true).map (·.1)↔z∈W.map (·.1)\/z=s.l[n]:=λz=>(by rw[qI D,map_append,mem_append];simp);have N:F9 t x.1 (.row (C.l++[s.l[n]])) (qB W s.l[n] true) (λu=>u=y):=(by refine⟨λy d=>?_,?_,λy d=>?_,?_,λu f=>?_⟩;simp[Sl.l,mem_singleton]at d;rcases d with d|rfl;exact B.rst y d;exact .inr Q;rw[qI D,map_append,List.nodup_append];refine⟨B.keys,Zc,λa ha b R=>?_⟩;simp[mem_singleton]at R;subst R;exactλe=>D (e▸ha);rw[qI D]at d;rcases mem_append.1 d with d|d;exact B.seen y d;simp[mem_singleton]at d;subst d;exact⟨Q,S,rfl⟩;rw[qI D];show(C.l++[s.l[n]]).length<=_;rw[ζi,ζi,length_singleton,length_singleton];omega;simp only[Sl.l,mem_append,mem_singleton];have V:u=x.1\/u∈W.map (·.1)->(u∈C.l\/u=s.l[n])\/u=y\/∀z,Edge t u z->z∈(qB W s.l[n] true).map (·.1):=λf=>(by rcases B.done u f with h|h|h;exact .inl (.inl h);exact .inr (.inl h);exact .inr (.inr λz c=>(U z).2 (.inl (h z c))));rcases f with f|f;exact V (.inl f);rcases(U u).1 f with f|f;exact V (.inr f);exact .inl (.inr f));have an:=N.count;refine⟨⟨n+1,T,Za,N,λz c=>?_,?_⟩,by show _-(wrap .i64 ((n)+1)).toNat<_;rw[T];simp;omega⟩;rw[M]at c;rcases mem_append.1 c with c|c;exact(U z).2 (.inl (J z c));exact(U z).2 (.inr (by simpa using c));rw[qI D,ζi,length_singleton]at an;show 2*((bO t).length-(qB W s.l[n] true).length)+(C.l++[s.l[n]]).length<_;rw[qI D,ζi,ζi,length_singleton,length_singleton];omega
   intro h;have ao:s.l.length<=n:=by simpa[len]using h
   rw[take_of_length_le ao]at J;refine(bg _).2 ((bg _).2 ⟨⟨B.rst,B.keys,B.seen,B.le,λu f=>?_⟩,o⟩);rcases B.done u f with h|h|h;exact .inl h;subst h;exact .inr (.inr λz c=>J z ((H.2 z).2 c));exact .inr (.inr h)
  have ap:rest.l=[]:=by have:¬len rest>0:=(by simpa using h);simp[len]at this;exact this
  have hd:∀y,y=x.1\/y∈m.map (·.1)->∀z,Edge t y z->z∈m.map (·.1):=λy d=>by rcases L.done y d with h|h|h;simp only[ap]at h;cases h;exact h.elim;exact h
  have key:∀z,Way t x.1 z->z∈m.map (·.1):=λz c=>by induction c with|single h=>exact hd _ (.inl rfl) _ h|tail _ h ih=>exact hd _ (.inr ih) _ h
  have⟨y,d,aq⟩:=mem_map.1 (key _ j);exact(L.seen y d).2.1 aq
 have⟨e,Z⟩:=g.l;rw[take_length]at h;exact absurd g (h _ Z)
structure Ok(t:Trace):Prop where
 one:1<=t.procs.l.length
 few:t.procs.l.length<=8
 heads:∀p,p<t.procs.l.length->qK t p=0
 fA:∀(p k:Nat)P e,t.procs.l[p]?=some P->P.events.l[k]?=some e->oh t.procs.l.length P p k e=0
 zm:wK t
 acyc:¬Ij t
theorem Ek{t:Zj}(h:∀(p k:Nat)P e,t.procs.l[p]?=some P->P.events.l[k]?=some e->oh t.procs.l.length P p k e=0):∀x∈bO t,ko t.procs.l.length x.1.proc x.2:=λx w=>by have⟨p,k,⟨P,z,B⟩,u⟩:=dI.1 w;rw[u];exact Gy (h p k P _ z B)
structure VT(t:Trace):Prop where
 formed:∀x∈bO t,ko t.procs.l.length x.1.proc x.2
 msgs:∃A i,eG t=some (some A,i,0)/\eT t (bO t) A
 few:t.procs.l.length<=8
 ok:Ok t
theorem OG{t:Zj}(B:Small t)(W:(bO t).length<1073741824):Wp (gA t) λr=>(r.2=0->VT t)/\(Ok t->r.2=0):=by
 unfold gA;rw[nT,ζb,bU];refine⟨λG=>?_,λG=>(bg _).2 ⟨λh=>Za,λh=>?_⟩⟩;rotate_left;have o:=h.one;have D:=h.few;grind;have D:1<=t.procs.l.length/\t.procs.l.length<=8:=by grind
 unfold gA.W1;refine ei (λi:Int=>∃n:Nat,i=n/\n<=t.procs.l.length/\∀p,p<n->qK t p=0) (λi:Int=>t.procs.l.length-i.toNat) ⟨0,rfl,zero_le _,λp b=>absurd b Za⟩ ?_;rintro i ⟨n,rfl,q,X⟩;unfold gA.bt;rw[bU];constructor;intro h;have u:n<t.procs.l.length:=by grind
 rw[OI B u,ζb,bU];refine⟨λa=>(bg _).2 ⟨⟨n+1,cT n Za,Za,λp b=>?_⟩,by rw[cT n Za];simp;omega⟩,λa=>(bg _).2 ((bg _).2 ⟨λh=>?_,λh=>?_⟩)⟩;grind;grind;simp[h.heads n u]at a;intro h;have Y:t.procs.l.length<=n:=Zd;rw[bg];unfold iU;rw[ζb];unfold gA.E2;rw[rN B,ζb];refine wM (λi _=>∀(p k:Nat)P e,t.procs.l[p]?=some P->P.events.l[k]?=some e->(⟨p,k+1⟩,e)∈(bO t).take i->oh t.procs.l.length P p k e=0) Zc ?_ ?_;intro i x _ T w;have I:=mem_of_getElem? T;have⟨p,j,⟨P,z,C⟩,J⟩:=dI.1 I;unfold gA.Ig;rw[J,K_ B z C,ζb,bU];refine⟨λa=>(bg _).2 λp' s v y Z E f=>?_,λa=>(bg _).2 ((bg _).2 ⟨λh=>?_,λh=>?_⟩)⟩;rw[take_add_one,T]at f;grind;grind;simp[h.fA p j P _ z C]at a;intro _ w;have w:∀(p k:Nat)P e,t.procs.l[p]?=some P->P.events.l[k]?=some e->oh t.procs.l.length P p k e=0:=λp k P e z C=>w p k P e z C (by rw[take_length];exact dI.2 ⟨p,k,⟨P,z,C⟩,rfl⟩);have L:=Ek w;have⟨r,g,l,O⟩:=Cw B L;rw[g,ζb,bU];refine⟨λa=>?_,λa=>(bg _).2 ⟨λh=>?_,λh=>O h.zm⟩⟩;have a:=by simpa using a
 have⟨A,m,Q⟩:=l a;rw[m,ζb];have⟨c,d,S⟩:=KY B W L Q;rw[d,ζb,bU];refine⟨λU=>(bg _).2 ⟨λh=>Za,λh=>absurd (S.1 U) h.acyc⟩,λU=>(bg _).2 ⟨λ_=>?_,λ_=>rfl⟩⟩;exact⟨L,⟨A,r.2.1,Zd,Q⟩,D.2,D.1,D.2,λp b=>X p Za,w,Q.zm,λd=>Zd⟩;simp_all
theorem Nc{t:Zj}(B:Small t)(D:(bO t).length<1073741824):Wp (cA t) λb=>(b=true->VT t)/\(Ok t->b=true):=by unfold cA;rw[cR];exact(OG B D).mono λr a=>(bg _).2 ⟨λh=>a.1 Zd,λh=>Zd⟩
def jO(f:Zn->Zl):Int->aZ Zn->Zy
 |_,[]=>[]|j,e::r=>if f e then(j+1)::jO f (j+1) r else jO f (j+1) r
theorem AX(f:Zn->Zl)(e:Zn):∀(l:aZ Zn)(j:Int),jO f j (l++[e])=jO f j l++(if f e then[j+l.length+1]else[])
 |[],j=>by simp[jO]|x::l,j=>by simp only[List.cons_append,jO,AX f e l (j+1),length_cons];split<;>simp<;>split<;>simp<;>omega
theorem pE(f:Zn->Zl):∀(l:aZ Zn)(j:Int),(jO f j l).length<=l.length
 |[],_=>le_refl _|x::l,j=>by have:=pE f l (j+1);simp only[jO];split<;>simp only[length_cons]<;>omega
theorem zb(f:Zn->Zl):∀(l:aZ Zn)(j:Int)(a:Int),a∈jO f j l->j<a
 |x::l,j,a,h=>by simp only[jO]at h;split at h;rcases mem_cons.1 h with rfl|h;omega;have:=zb f l (j+1) a h;omega;have:=zb f l (j+1) a h;omega
theorem vn(f:Zn->Zl):∀(l:aZ Zn)(j:Int),Up (jO f j l)
 |[],_=>λi k a b _ h=>by simp[jO]at h|x::l,j=>by intro i k a b G B D;simp only[jO]at B D;split at B;rename_i J;rw[if_pos J]at D;(cases k with|zero=>omega|succ k=>simp only[List.getElem?_cons_succ]at D;cases i with|zero=>simp only[List.getElem?_cons_zero,ζa]at B;subst B;exact zb f l (j+1) b (mem_of_getElem? D)|succ i=>simp only[List.getElem?_cons_succ]at B;exact vn f l (j+1) i k a b Za B D);rename_i J;rw[if_neg J]at D;exact vn f l (j+1) i k a b G B D
theorem tK(f:Zn->Zl):∀(l:aZ Zn)(j:Int)(x:Nat),(jO f j l).countP (λa=>decide (a<=j+x))=(l.take x).countP f
 |[],j,x=>by simp[jO]|e::l,j,0=>by rw[List.take_zero,List.countP_nil,List.countP_eq_zero];intro a B;have:=zb f (e::l) j a B;simp;omega|e::l,j,x+1=>by have t:=tK f l (j+1) x;rw[show j+1+(x:Int)=j+((x+1:Nat):Int)from by push_cast;omega]at t;simp only[jO,List.take_succ_cons,countP_cons];split;(next u=>rw[countP_cons,t];simp;omega);rename_i u;rw[t];simp
def dP(q:Int)(e:Zn):Zl:=e.kind==2&&e.peer==q
def dQ(p:Int)(e:Zn):Zl:=e.kind==3&&e.peer==p
theorem QZ{t:Zj}(U:Small t){p q:Nat}(c:p<t.procs.l.length)(d:q<t.procs.l.length):
 Wp (fT t p q) λw=>w.p=p/\w.q=q/\w.sent.l=jO (dP q) 0 t.procs.l[p].events.l/\w.received.l=jO (dQ p) 0 t.procs.l[q].events.l:=by
 have W:=(U.2 _ (getElem_mem c)).1;have X:=(U.2 _ (getElem_mem d)).1;unfold fT;rw[bM c,ζb];generalize S:t.procs.l[p]=P at *;unfold fT.W1;refine ei (λs:Int×bL×bL=>∃n:Nat,s.1=n/\n<=P.events.l.length/\s.2.2.p=p/\s.2.2.q=q/\s.2.2.sent.l=jO (dP q) 0 (P.events.l.take n)) (λs=>P.events.l.length-s.1.toNat) ⟨0,rfl,zero_le _,rfl,rfl,rfl⟩ ?_
 rintro⟨i,v,w⟩ ⟨n,J,Y,b,O,L⟩;simp only at J b O L;subst J;unfold fT.bt;rw[bU];constructor
 .intro h;have z:n<P.events.l.length:=by simpa[len]using h
  have C:=cT n Za
  have D:P.events.l.take (n+1)=P.events.l.take n++[P.events.l[n]]:=by rw[take_add_one,ζd z];rfl
  have B:P.events.l.length-(wrap .i64 ((n:Int)+1)).toNat<P.events.l.length-((n:Int)).toNat:=by rw[C];simp;omega
  have G:=pE (dP q) (P.events.l.take n) 0;rw[length_take]at G;have u:=AX (dP q) P.events.l[n] (P.events.l.take n) 0;rw[<-D,length_take,Nat.min_eq_left Za]at u
  rw[bM z,ζb,kA,ζb,bU];constructor
  .intro a;unfold gZ;rw[L,if_pos Za,ζb,bg]
   refine⟨⟨n+1,C,Za,b,O,?_⟩,B⟩
   show jO (dP q) 0 (P.events.l.take n)++[wrap .i64 ((n:Int)+1)]=_;rw[u,if_pos (show dP q P.events.l[n]=true from a),C];simp
  intro a;rw[bg];refine⟨⟨n+1,C,Za,b,O,?_⟩,B⟩
  show w.sent.l=_;rw[u,L,if_neg (show¬dP q P.events.l[n]=true from by rw[show dP q P.events.l[n]=false from a];simp)];simp
 intro h;have I:P.events.l.length<=n:=by simpa[len]using h
 rw[take_of_length_le I]at L;refine(bg _).2 ?_;show Wp ((idx t.procs q).bind _) _;rw[bM d,ζb];generalize T:t.procs.l[q]=Q at *;unfold fT.W2;refine ei (λs:Int×bL×bL=>∃n:Nat,s.1=n/\n<=Q.events.l.length/\s.2.2.p=p/\s.2.2.q=q/\s.2.2.sent.l=jO (dP q) 0 P.events.l/\s.2.2.received.l=jO (dQ p) 0 (Q.events.l.take n)) (λs=>Q.events.l.length-s.1.toNat) ⟨0,rfl,zero_le _,b,O,L,rfl⟩ ?_
 rintro⟨i,Z,w'⟩ ⟨m,J,e,g1,g2,g3,g4⟩;simp only at J g1 g2 g3 g4;subst J;unfold fT.cn;rw[bU];constructor
 .intro h;have z:m<Q.events.l.length:=by simpa[len]using h
  have C:=cT m Za
  have D:Q.events.l.take (m+1)=Q.events.l.take m++[Q.events.l[m]]:=by rw[take_add_one,ζd z];rfl
  have B:Q.events.l.length-(wrap .i64 ((m:Int)+1)).toNat<Q.events.l.length-((m:Int)).toNat:=by rw[C];simp;omega
  have G:=pE (dQ p) (Q.events.l.take m) 0;rw[length_take]at G;have u:=AX (dQ p) Q.events.l[m] (Q.events.l.take m) 0;rw[<-D,length_take,Nat.min_eq_left Za]at u
  rw[bM z,ζb,kA,ζb,bU];constructor
  .intro a;unfold gZ;rw[g4,if_pos Za,ζb,bg]
   refine⟨⟨m+1,C,Za,g1,g2,g3,?_⟩,B⟩
   show jO (dQ p) 0 (Q.events.l.take m)++[wrap .i64 ((m:Int)+1)]=_;rw[u,if_pos (show dQ p Q.events.l[m]=true from a),C];simp
  intro a;rw[bg];refine⟨⟨m+1,C,Za,g1,g2,g3,?_⟩,B⟩
  show w'.received.l=_;rw[u,g4,if_neg (show¬dQ p Q.events.l[m]=true from by rw[show dQ p Q.events.l[m]=false from a];simp)];simp
 intro h;have I:Q.events.l.length<=m:=by simpa[len]using h
 rw[take_of_length_le I]at g4;refine(bg _).2 ((bg _).2 ⟨g1,g2,g3,g4⟩)
def under(t:Zj)(c:Zy)(p q:Nat):Int:=match t.procs.l[p]?,t.procs.l[q]?,c[p]?,c[q]?with
 |some P,some Q,some a,some b=>((P.events.l.take a.toNat).countP (dP q):Int)-((Q.events.l.take b.toNat).countP (dQ p):Int)|_,_,_,_=>0
theorem Mq{t:Zj}(G:Small t){c:Zg}{p q:Nat}(b:p<t.procs.l.length)(d:q<t.procs.l.length)(J:c.l.length=t.procs.l.length)(e:∀a∈c.l,0<=a){w:bL}
 (f:w.p=p)(O:w.q=q)(B:w.sent.l=jO (dP q) 0 t.procs.l[p].events.l)(D:w.received.l=jO (dQ p) 0 t.procs.l[q].events.l):lK w c=some (under t c.l p q):=by
 have u:p<c.l.length:=Za
 have z:q<c.l.length:=Za
 have L:=(G.2 _ (getElem_mem b)).1;have Q:=(G.2 _ (getElem_mem d)).1;have S:=e _ (getElem_mem u);have T:=e _ (getElem_mem z);have U:=pE (dP q) t.procs.l[p].events.l 0;have W:=pE (dQ p) t.procs.l[q].events.l 0;unfold lK;rw[f,bM u,ζb,Af (by rw[B];exact vn _ _ _) (by rw[B];omega),ζb,O,bM z,ζb,Af (by rw[D];exact vn _ _ _) (by rw[D];omega),ζb]
 have e1:=tK (dP q) t.procs.l[p].events.l 0 c.l[p].toNat;have e2:=tK (dQ p) t.procs.l[q].events.l 0 c.l[q].toNat;rw[show(0:Int)+(c.l[p].toNat:Int)=c.l[p]from Za]at e1
 rw[show(0:Int)+(c.l[q].toNat:Int)=c.l[q]from Za]at e2
 rw[B,D,e1,e2];have C:=countP_le_length (p:=dP q) (l:=t.procs.l[p].events.l.take c.l[p].toNat);have I:=countP_le_length (p:=dQ p) (l:=t.procs.l[q].events.l.take c.l[q].toNat);rw[length_take]at C I;rw[gU _ (by simp only[Int.ofNat_eq_natCast];omega) (by simp only[Int.ofNat_eq_natCast];omega)]
 unfold under;rw[ζd b,ζd d,ζd u,ζd z];rfl
theorem DG{t:Zj}(G:Small t)(e:cA t=some true){A:cu 200 bC}(B:eT t (bO t) A){x:bf×Zn}(D:x∈bO t)(c:x.2.kind=2):oO t x.2.message=some (x.1,true):=by
 refine Wp.eq ?_;unfold oO gH;rw[e,ζb,bS];unfold iU;rw[ζb];unfold gH.E1;rw[rN G,ζb,cR];refine wM (λk _=>∀y∈(bO t).take k,¬(y.2.kind=2/\y.2.message=x.2.message)) Zc ?_ ?_;intro k y _ C u;have w:y∈bO t:=mem_of_getElem? C;unfold gH.qN;rw[kA,ζb,bU];constructor;intro a;have a:y.2.kind=2/\y.2.message=x.2.message:=by simpa using a
 refine(bg _).2 ((bg _).2 ((bg _).2 ?_));have d:=B.snd y w a.1;have I:=B.snd x D c;rw[a.2,I]at d;rw[d];intro a;have a:¬(y.2.kind=2/\y.2.message=x.2.message):=by intro h;rw[h.1,h.2]at a;simp at a
 rw[bg];intro z b;rw[take_add_one,C]at b;rcases mem_append.1 b with b|b;exact u z b;simp at b;subst b;exact a;intro _ u;rw[take_length]at u;exact absurd ⟨c,rfl⟩ (u x D)
def jS(t:Zj)(c:Zy):Prop:=c.length=t.procs.l.length/\∀(p:Nat)(a:Int)(P:cq),c[p]?=some a->t.procs.l[p]?=some P->0<=a/\a<=P.events.l.length
def lR(t:Zj)(A:cu 200 bC)(c:Zy):Prop:=∀(p k:Nat)(e:Zn)(a:Int),kJ t p k e->c[p]?=some a->(k:Int)<a->e.kind=3->∃b,c[(ag A e.message).from_.proc.toNat]?=some b/\(ag A e.message).from_.index<=b
theorem Bq{t:Zj}(J:VT t){A:cu 200 bC}(D:eT t (bO t) A){p k:Nat}{e:Zn}(O:kJ t p k e)(c:e.kind=3):
 ∃(q j:Nat)(y:Zn),kJ t q j y/\y.kind=2/\y.message=e.message/\y.peer=p/\e.peer=q/\(ag A e.message).from_=⟨q,j+1⟩:=by
 have u:((⟨p,k+1⟩:bf),e)∈bO t:=dI.2 ⟨p,k,O,rfl⟩;have z:=(D.rcv _ u c).2;have C:=J.formed _ u;simp only at z C;have B:0<=e.peer:=by rcases C with h|⟨_,h,_⟩;omega;exact h
 obtain⟨q,a⟩:∃q:Nat,e.peer=q:=⟨e.peer.toNat,Za⟩
 rw[a]at z;have⟨j,y,w,b,G,I⟩:=xN.1 z;have:=D.snd (⟨q,j+1⟩,y) (dI.2 ⟨q,j,w,rfl⟩) b;simp only at this;rw[G]at this;exact⟨q,j,y,w,b,G,I,a,this⟩
def UI(t:Zj)(A:cu 200 bC)(c:Zy)(s u:bf):Prop:=∃(p k:Nat)(e:Zn)(a:Int)(q j:Nat)(y:Zn)(b:Int),kJ t p k e/\c[p]?=some a/\(k:Int)<a/\e.kind=3/\(ag A e.message).from_=s/\s=⟨q,j+1⟩/\kJ t q j y/\c[q]?=some b/\b<(j:Int)+1/\u=⟨p,k+1⟩
theorem Di{t:Zj}(F:Small t)(V:cA t=some true)(H:VT t){A:cu 200 bC}(K:eT t (bO t) A){c:Zg}(M:jS t c.l):Wp (fZ t c) λr=>(r.2.2=false->lR t A c.l)/\(r.2.2=true->UI t A c.l r.1 r.2.1):=by
 have ah:=H.few;unfold fZ fZ.W1;refine ei (λs:Int=>∃n:Nat,s=n/\n<=c.l.length/\∀(p k:Nat)(e:Zn)(a:Int),p<n->kJ t p k e->c.l[p]?=some a->(k:Int)<a->e.kind=3->∃b,c.l[(ag A e.message).from_.proc.toNat]?=some b/\(ag A e.message).from_.index<=b) (λs:Int=>c.l.length-s.toNat) ⟨0,rfl,zero_le _,λp k e a h=>absurd h Za⟩ ?_;rintro s ⟨n,rfl,hn,N⟩;have ai:=M.1;unfold fZ.bt;rw[bU];constructor;intro h;have C:n<c.l.length:=by simpa[len]using h
 have B:n<t.procs.l.length:=Za;have hP:=(F.2 _ (getElem_mem B)).1;have⟨r1,r2⟩:=M.2 n _ _ (ζd C) (ζd B);rw[bM C,ζb,bM B,ζb];have⟨y,P,T⟩:=qY t.procs.l[n].events c.l[n].toNat Za;rw[show((c.l[n].toNat:Nat):Int)=c.l[n]from Za]at P;rw[P,ζb];unfold fZ.W2;refine ei (λs:Int=>∃m:Nat,s=m/\m<=y.l.length/\∀(k:Nat)(e:Zn),k<m->kJ t n k e->e.kind=3->∃b,c.l[(ag A e.message).from_.proc.toNat]?=some b/\(ag A e.message).from_.index<=b) (λs:Int=>y.l.length-s.toNat) ⟨0,rfl,zero_le _,λk e h=>absurd h Za⟩ ?_;rintro s ⟨m,rfl,hm,i⟩;have af:y.l.length=c.l[n].toNat:=by rw[T,length_take];omega
 unfold fZ.cn;rw[bU];constructor;intro h;have I:m<y.l.length:=by simpa[len]using h
 have D:=cT m Za;have U:y.l.length-(wrap .i64 ((m:Int)+1)).toNat<y.l.length-((m:Int)).toNat:=by rw[D];simp;omega
 have hg:y.l[m]?=t.procs.l[n].events.l[m]?:=by rw[T,getElem?_take,if_pos (show m<c.l[n].toNat from Za)]
 have u:kJ t n m y.l[m]:=⟨_,ζd B,by rw[<-hg];exact ζd I⟩;rw[bM I,ζb];generalize y.l[m]=e at u;rw[bU];constructor;intro d;have d:e.kind=3:=by simpa using d
 have⟨q,j,z,l,z1,z2,z3,z4,z5⟩:=Bq H K u d;have J:=DG F V K (x:=(⟨q,j+1⟩,z)) (dI.2 ⟨q,j,l,rfl⟩) z1;simp only at J;rw[z2]at J;have ab:=l;have⟨Q,hQ,_⟩:=l;have L:q<c.l.length:=by have:=(ζe.1 hQ).1;omega
 rw[J,ζb];simp only;rw[bM L,ζb,bU];constructor;intro W;have W:(j:Int)+1>c.l[q]:=by simpa using W
 exact(bg _).2 ((bg _).2 ((bg _).2 ⟨λh=>(by cases h),λ_=>⟨n,m,e,c.l[n],q,j,z,c.l[q],u,ζd C,Za,d,z5,rfl,ab,ζd L,Za,by simp[D]⟩⟩));intro X;have X:¬((j:Int)+1>c.l[q]):=by simpa using X
 refine(bg _).2 ⟨⟨m+1,D,Za,λk Y ad w G=>?_⟩,U⟩;by_cases o:k=m;subst o;have:Y=e:=by have⟨P1,v,E⟩:=u;have⟨P2,Z,f⟩:=w;rw[v]at Z;cases Z;rw[E]at f;cases f;rfl
 subst this;rw[z5];exact⟨c.l[q],by simp only[toNat_natCast];exact ζd L,by simp only;omega⟩;exact i k Y Za w G;intro d;have d:¬e.kind=3:=by simpa using d
 refine(bg _).2 ⟨⟨m+1,D,Za,λk Y ad w G=>?_⟩,U⟩;by_cases o:k=m;subst o;have:Y=e:=by have⟨P1,v,E⟩:=u;have⟨P2,Z,f⟩:=w;rw[v]at Z;cases Z;rw[E]at f;cases f;rfl
 subst this;exact absurd G d;exact i k Y Za w G;intro h;have ae:y.l.length<=m:=by simpa[len]using h
 have R:=cT n Za;refine(bg _).2 ((bg _).2 ⟨⟨n+1,R,Za,λp k e a hp u S O g=>?_⟩,by show _-(wrap .i64 ((n:Int)+1)).toNat<_;rw[R];simp;omega⟩);by_cases ep:p=n;subst ep;rw[ζd C]at S;cases S;exact i k e Za u g;exact N p k e a Za u S O g;intro h;have ae:c.l.length<=n:=by simpa[len]using h
 refine(bg _).2 ((bg _).2 ⟨λ_ p k e a u S O g=>N p k e a (by have:=(ζe.1 S).1;omega) u S O g,λh=>(by cases h)⟩)
theorem CM{t:Zj}(B:Small t)(f:cA t=some true)(D:VT t){A:cu 200 bC}(G:eT t (bO t) A){c:Zg}(J:jS t c.l):Wp (fZ t c) λr=>(r.2.2=false↔lR t A c.l):=by refine(Di B f D G J).mono λr d=>⟨d.1,λu=>?_⟩;cases h:r.2.2 with|false=>rfl|true=>obtain⟨p,k,e,a,q,j,y,b,g,w,z,C,I,L,_,O,Q,-⟩:=d.2 h;have⟨S,g1,g2⟩:=u p k e a g w z C;rw[I,L]at g1 g2;simp only[toNat_natCast]at g1 g2;rw[O]at g1;cases g1;omega
theorem rX{s:Zb}{p:Zg->a_ Zl}{f:Zg->Zl}(a:∀x∈s.l,p x=some (f x))(B:s.l.length<1073741824):jv s p=some (s.l.any f):=by have h:fM s p=some (place f s.l):=tM a Za (λi=>rfl);unfold jv;rw[h,ζb,tB]
theorem uC{t:Zj}(J:Small t){c:Zg}(D:c.l.length=t.procs.l.length):Wp (iQ t c) λb=>(b=true↔jS t c.l):=by
 have d:=J.1;unfold iQ iQ.W1;refine ei (λs:Int=>∃n:Nat,s=n/\n<=c.l.length/\∀(p:Nat)(a:Int)(P:cq),p<n->c.l[p]?=some a->t.procs.l[p]?=some P->0<=a/\a<=P.events.l.length) (λs:Int=>c.l.length-s.toNat) ⟨0,rfl,zero_le _,λp a P h=>absurd h Za⟩ ?_;rintro s ⟨n,rfl,Q,G⟩;unfold iQ.bt;rw[bU];constructor;intro h;have w:n<c.l.length:=by simpa[len]using h
 have u:n<t.procs.l.length:=Za;have I:=cT n Za;rw[bM w,ζb,bM u,ζb,kI,ζb,bU];constructor;intro z;have z:c.l[n]<0\/c.l[n]>t.procs.l[n].events.l.length:=by simpa[len]using z
 refine(bg _).2 ((bg _).2 ⟨λh=>(by cases h),λL=>?_⟩);have:=L.2 n _ _ (ζd w) (ζd u);omega;intro z;have z:0<=c.l[n]/\c.l[n]<=t.procs.l[n].events.l.length:=by simpa[len]using z
 refine(bg _).2 ⟨⟨n+1,I,Za,λp a P f B C=>?_⟩,by rw[I];simp;omega⟩;by_cases e:p=n;subst e;rw[ζd w]at B;cases B;rw[ζd u]at C;cases C;exact z;exact G p a P Za B C;intro h;have O:c.l.length<=n:=by simpa[len]using h
 refine(bg _).2 ((bg _).2 ⟨λ_=>⟨D,λp a P B C=>G p a P (by have:=(ζe.1 B).1;omega) B C⟩,λ_=>rfl⟩)
def Code(t:Zj)(A:cu 200 bC)(c:Zy)(r:Int):Prop:=c.length≠t.procs.l.length/\r=1\/c.length=t.procs.l.length/\¬jS t c/\r=2\/jS t c/\¬lR t A c/\r=18\/jS t c/\lR t A c/\r=0
theorem Sb{t:Zj}(J:Small t)(a:cA t=some true)(O:VT t){A:cu 200 bC}(U:eT t (bO t) A)(c:Zg):
 Wp (dg t (Sl.row [c]:Zb) (Sl.nil:Zg)) λr=>Code t A c.l r:=by
 unfold dg o7;rw[a,ζb,bS,rX (f:=λz=>(eX z t).getD false) (λz _=>wJ.ok ((bg _).2 trivial)) (by simp[Sl.l]),ζb,ζb,ζb]
 have w:(!((Sl.row [c]:Zb).l.any λz=>(eX z t).getD false))=(len c==len t.procs):=by simp[Sl.l,eX]
 rw[w,bU];constructor
 .intro h;have B:c.l.length=t.procs.l.length:=by
   have:(c.l.length:Int)=t.procs.l.length:=by simpa[len]using h
   omega
  unfold dg.W1;refine ei (λs:Int=>s=0\/s=1/\jS t c.l) (λs:Int=>1-s.toNat) (.inl rfl) ?_
  intro s D;unfold dg.bt;rcases D with rfl|⟨rfl,G⟩
  .rw[show decide ((0:Int)<len (Sl.row [c]:Zb))=true from rfl,bS,show idx (Sl.row [c]:Zb) 0=some c from rfl,ζb,cR];refine(uC J B).mono λb u=>?_
   rw[bU];exact⟨λI=>(bg _).2 ⟨.inr ⟨rfl,u.1 I⟩,by decide⟩,λC=>(bg _).2 ((bg _).2 (.inr (.inl ⟨B,λh=>(by rw[u.2 h]at C;cases C),rfl⟩)))⟩
  rw[show decide ((1:Int)<len (Sl.row [c]:Zb))=false from rfl,bX,bg];show Wp (dg.W2 (Sl.row [c]) Sl.nil 0 0 t) _;unfold dg.W2;refine ei (λs:Int=>s=0) (λ_=>0) rfl ?_
  rintro s rfl;unfold dg.cn;rw[show decide ((0:Int)<0)=false from rfl,bX,bg];show Wp (dg.W3 (Sl.row [c]) 1 0 t) _;unfold dg.W3;refine ei (λs:Int=>s=0\/s=1/\lR t A c.l) (λs:Int=>1-s.toNat) (.inl rfl) ?_
  intro s D;unfold dg.eH;rcases D with rfl|⟨rfl,L⟩
  .rw[show decide ((0:Int)<1)=true from rfl,bS,show idx (Sl.row [c]:Zb) 0=some c from rfl,ζb];unfold uz;rw[cR,cR];refine(CM J a O U G).mono λr d=>?_
   rw[bg,bU];exact⟨λu=>(bg _).2 ⟨.inr ⟨rfl,d.1 (by simpa using u)⟩,by decide⟩,λu=>(bg _).2 ((bg _).2 (.inr (.inr (.inl ⟨G,λh=>(by have:=d.2 h;simp[this]at u),rfl⟩))))⟩
  rw[show decide ((1:Int)<1)=false from rfl,bX,bg];exact(bg _).2 (.inr (.inr (.inr ⟨G,L,rfl⟩)))
 intro h;exact(bg _).2 (.inl ⟨λe=>(by simp[len,e]at h),rfl⟩)
theorem Code.zero{t:Zj}{A:cu 200 bC}{c:Zy}{r:Int}(h:Code t A c r):r=0↔jS t c/\lR t A c:=by rcases h with⟨h,rfl⟩|⟨_,h,rfl⟩|⟨_,h,rfl⟩|⟨a,w,rfl⟩;exact⟨λh=>(by cases h),λu=>absurd u.1.1 h⟩;exact⟨λh=>(by cases h),λu=>absurd u.1 h⟩;exact⟨λh=>(by cases h),λu=>absurd u.2 h⟩;exact⟨λ_=>⟨a,w⟩,λ_=>rfl⟩
theorem NQ{t:Zj}(B:Small t)(a:cA t=some true)(D:VT t){A:cu 200 bC}(G:eT t (bO t) A)(c:Zg):Wp (dg t (Sl.row [c]:Zb) (Sl.nil:Zg)) λr=>(r=0↔jS t c.l/\lR t A c.l):=(Sb B a D G c).mono λ_ h=>h.zero
def Cons(t:Zj)(A:cu 200 bC)(c:Zy):Prop:=jS t c/\lR t A c
def places{α:Type}(f:α->Zl)(l:aZ α):Zv:=(range l.length).filter λk=>match l[k]?with|some x=>f x|none=>false
theorem JQ{α:Type}{f:α->Zl}{l:aZ α}{k:Nat}:k∈places f l↔∃x,l[k]?=some x/\f x=true:=by unfold places;rw[List.mem_filter,List.mem_range];constructor;rintro⟨a,t⟩;rw[ζd a]at t;exact⟨_,ζd a,t⟩;rintro⟨x,a,t⟩;exact⟨(ζe.1 a).1,by rw[a];exact t⟩
theorem GR{α:Type}(f:α->Zl)(l:aZ α):(places f l).Nodup:=List.nodup_range.sublist (List.filter_sublist ..)
theorem B3{α:Type}(f:α->Zl):∀l:aZ α,(places f l).length=l.countP f:=by intro l;unfold places;rw[<-List.countP_eq_length_filter];induction l with|nil=>rfl|cons x l t=>rw[length_cons,List.range_succ_eq_map,countP_cons,List.countP_map,countP_cons];simp only[List.getElem?_cons_zero];rw[<-t];congr 1
theorem DM{α β:Type}{f:α->Zl}{g:β->Zl}{l:aZ α}{m:aZ β}(φ:Nat->Nat)(h:∀k∈places f l,φ k∈places g m)(D:∀k B,k∈places f l->B∈places f l->φ k=φ B->k=B):l.countP f<=m.countP g:=by
 rw[<-B3,<-B3];have u:((places f l).map φ).Nodup:=by unfold Nodup;rw[pairwise_map];exact Pairwise.imp_of_mem (λ{a b}w z t C=>t (D a b w z C)) (GR f l)
 have:=vf (r:=places g m) u λx G=>by obtain⟨k,c,rfl⟩:=mem_map.1 G;exact h k c
 simpa using this
theorem Np{t:Zj}(B:Small t):wJ (fB t):=by
 unfold fB;rw[wJ,bU];refine⟨λ_=>(bg _).2 trivial,λ_=>?_⟩;unfold fB.W1;refine ei (λq:Int×Int=>∃n:Nat,q.2=n/\n<=t.procs.l.length) (λq:Int×Int=>t.procs.l.length-q.2.toNat) ⟨0,rfl,zero_le _⟩ ?_;rintro⟨c,i⟩ ⟨n,w,C⟩;simp only at w;subst w;have a:=B.1;unfold fB.bt;rw[bU];refine⟨λh=>?_,λ_=>(bg _).2 ((bg _).2 trivial)⟩;have u:n<t.procs.l.length:=by simpa[len]using h
 rw[bM u,ζb,tY (f:=λz=>(mQ z).getD false) (λz _=>wJ.ok ((bg _).2 trivial)) (B.2 _ (getElem_mem u)).1,ζb,qC,ζb,bU];refine⟨λ_=>(bg _).2 ((bg _).2 trivial),λ_=>(bg _).2 ⟨⟨n+1,cT n Za,Za⟩,?_⟩⟩;show _-(wrap .i64 ((n:Int)+1)).toNat<_;rw[cT n Za];simp;omega
theorem N2{t:Zj}(a:cA t=some true){p q:Nat}(c:p<t.procs.l.length)(d:q<t.procs.l.length)(B:p≠q):qp t p q=some 0:=by
 unfold qp;rw[a,ζb];have b:decide ((p:Int)<0)=false:=Zc;have u:decide ((p:Int)>=len t.procs)=false:=by simp[len];omega
 have w:decide ((q:Int)<0)=false:=Zc;have z:decide ((q:Int)>=len t.procs)=false:=by simp[len];omega
 have C:((p:Int)==(q:Int))=false:=by simp;omega
 simp only[b,u,w,z,C,bS,bX,ζb]
def kg(kind m:Int)(x:bf×Zn):Zl:=x.2.kind==kind&&x.2.message==m
def gp(t:Zj)(kind m:Int):bf:=match(bO t).find? (kg kind m)with
 |some x=>x.1|none=>⟨0,0⟩
theorem JN{t:Zj}{kind m:Int}{p:Nat}{P:cq}(B:p<9223372036854775806)(D:t.procs.l[p]?=some P)(J:P.events.l.length<1073741824):∀(q i:Nat),i+q=P.events.l.length->
 bT (λq:Int=>dM.cn kind m p t ⟨0,0⟩ q) (i:Int)=some (match(iw p i (P.events.l.drop i)).find? (kg kind m)with|some x=>.r x.1|none=>.x ()):=by
 have u:idx t.procs (p:Int)=some P:=by rw[mK];exact D
 intro q
 induction q with
 |zero=>
  intro i z;rw[gI];unfold dM.cn;rw[u,ζb,show decide ((i:Int)<len P.events)=false from by simp[len];omega,bX,List.drop_of_length_le Za]
  rfl
 |succ q C=>
  intro i z;have w:i<P.events.l.length:=Za
  rw[gI];have G:dM.cn kind m p t ⟨0,0⟩ i=some (if kg kind m (⟨p,(i:Int)+1⟩,P.events.l[i])then .r ⟨p,(i:Int)+1⟩else .n ((i+1:Nat):Int)):=by unfold dM.cn;rw[u,ζb,show decide ((i:Int)<len P.events)=true from by simp[len];omega,bS,ζb,bM w,ζb,kA,ζb,cT i Za,qC];rfl
  rw[G,ζb,drop_eq_getElem_cons w];simp only[iw,List.find?_cons]
  cases I:kg kind m (⟨p,(i:Int)+1⟩,P.events.l[i])with
  |true=>rfl|false=>simp only[false_eq_true,if_false];exact C (i+1) Za
theorem JV{t:Zj}(B:Small t){kind m:Int}:∀(q p:Nat),p+q=t.procs.l.length->
 bT (λq:Int=>dM.bt kind m t ⟨0,0⟩ q) (p:Int)=some (match(fm p (t.procs.l.drop p)).find? (kg kind m)with|some x=>.r x.1|none=>.x ()):=by
 have b:=B.1;intro q
 induction q with
 |zero=>
  intro p a;rw[gI];unfold dM.bt;rw[show decide ((p:Int)<len t.procs)=false from by simp[len];omega,bX,List.drop_of_length_le Za]
  rfl
 |succ q w=>
  intro p a;have u:p<t.procs.l.length:=Za
  have z:bT (λq:Int=>dM.cn kind m p t ⟨0,0⟩ q) 0=some (match(iw p 0 t.procs.l[p].events.l).find? (kg kind m)with|some x=>.r x.1|none=>.x ()):=JN (t:=t) (kind:=kind) (m:=m) Za (ζd u) (B.2 _ (getElem_mem u)).1 (t.procs.l[p].events.l.length) 0 Za
  rw[gI];unfold dM.bt;rw[show decide ((p:Int)<len t.procs)=true from by simp[len];omega,bS]
  unfold dM.W2;rw[z,drop_eq_getElem_cons u];simp only[fm,find?_append]
  cases C:(iw p 0 t.procs.l[p].events.l).find? (kg kind m)with
  |some x=>rfl|none=>
   simp only[ζb,Fw.elim,Option.none_or];rw[cT p Za]
   exact w (p+1) Za
theorem find_eq{t:Zj}(B:Small t)(kind m:Int):dM t kind m=some (gp t kind m):=by unfold dM dM.W1;have u:bT (λq:Int=>dM.bt kind m t ⟨0,0⟩ q) 0=some (match(bO t).find? (kg kind m)with|some x=>.r x.1|none=>.x ()):=JV B (kind:=kind) (m:=m) t.procs.l.length 0 Za;rw[u];unfold gp;cases(bO t).find? (kg kind m)<;>rfl
theorem uk{t:Zj}{kind m:Int}{x:bf×Zn}(h:(bO t).find? (kg kind m)=some x):x∈bO t/\x.2.kind=kind/\x.2.message=m/\gp t kind m=x.1:=by have a:=List.find?_some h;simp only[kg,ζh,beq_iff_eq]at a;exact⟨List.mem_of_find?_eq_some h,a.1,a.2,by unfold gp;rw[h]⟩
theorem Fp{t:Zj}{kind m:Int}{x:bf×Zn}(B:x∈bO t)(a:x.2.kind=kind)(D:x.2.message=m):∃y,(bO t).find? (kg kind m)=some y:=by cases u:(bO t).find? (kg kind m)with|some y=>exact⟨y,rfl⟩|none=>rw[find?_eq_none]at u;exact absurd (u x B) (by simp[kg,a,D])
theorem I_{t:Zj}{kind m:Int}(h:∀x∈bO t,¬(x.2.kind=kind/\x.2.message=m)):gp t kind m=⟨0,0⟩:=by
 unfold gp;have:(bO t).find? (kg kind m)=none:=by rw[find?_eq_none];intro x u;simp only[kg,ζh,beq_iff_eq];exact h x u
 rw[this]
theorem Pn{t:Zj}{p k:Nat}{e:Zn}(h:kJ t p k e)(a:k<9223372036854775807):tJ t ⟨p,k+1⟩=some e:=by have⟨P,u,w⟩:=h;unfold tJ;dsimp only;rw[show idx t.procs (p:Int)=some P from by rw[mK];exact u,ζb,show wrap .i64 ((k:Int)+1-1)=(k:Int)from by rw[gU _ Za Za];omega,show idx P.events (k:Int)=some e from by rw[mK];exact w];rfl
def uq(t:Zj)(x:bf×Zn):Int:=if x.2.kind=1 then 0 else if gp t x.2.kind x.2.message=x.1 then(if x.2.kind=3 then(if rU t x.2.peer x.2.message x.1.proc then 0 else 7)else 0)else 8
theorem KX{t:Zj}(D:Small t){p k:Nat}{e:Zn}(h:kJ t p k e)(W:ko t.procs.l.length p e):iq t ⟨p,k+1⟩=some (uq t (⟨p,k+1⟩,e)):=by
 have c:k<1073741824:=by have⟨P,X,Y⟩:=h;have:=(D.2 P (mem_of_getElem? X)).1;have:=(ζe.1 Y).1;omega
 unfold iq uq;rw[Pn h Za,ζb];dsimp only;by_cases a:e.kind=1;rw[show(e.kind==1)=true from by simp[a],bS,if_pos a];rw[show(e.kind==1)=false from by simp[a],bX,if_neg a,find_eq D,ζb];have G:Ib (gp t e.kind e.message) ⟨p,(k:Int)+1⟩=decide (gp t e.kind e.message=⟨p,(k:Int)+1⟩):=by unfold Ib;rw[Bool.eq_iff_iff];cases gp t e.kind e.message;simp
 rw[G];by_cases w:gp t e.kind e.message=⟨p,(k:Int)+1⟩;rw[if_pos w,show decide (gp t e.kind e.message=⟨p,(k:Int)+1⟩)=true from by simpa using w,bS];by_cases B:e.kind=3;rw[if_pos B,show(e.kind==3)=true from by simp[B],bS];have I:0<=e.peer/\e.peer<t.procs.l.length:=by rcases W with h|⟨_,a,w,_⟩;exact absurd h a;exact⟨a,w⟩
 have b:e.peer.toNat<t.procs.l.length:=Za;have S:=ζd b;have Z:=(D.2 _ (getElem_mem b)).1;generalize d:t.procs.l[e.peer.toNat]=Q at *;have J:idx t.procs e.peer=some Q:=by rw[NG I.1];exact S
 have L:rU t e.peer e.message p=Q.events.l.any λs=>s.kind==2&&s.message==e.message&&s.peer==p:=by unfold rU;rw[S]
 unfold iq.W1;refine Wp.eq (ei (λz:Zl×Int=>∃m:Nat,z.2=m/\m<=Q.events.l.length/\z.1=(Q.events.l.take m).any λs=>s.kind==2&&s.message==e.message&&s.peer==p) (λz=>Q.events.l.length-z.2.toNat) ⟨0,rfl,zero_le _,rfl⟩ ?_);rintro⟨s,i⟩ ⟨m,T,f,C⟩;simp only at T C;subst T;unfold iq.bt;dsimp only;rw[J,ζb,bU];constructor;intro O;have u:m<Q.events.l.length:=by simpa[len]using O
 have U:=cT m Za;rw[ζb,bM u,ζb,kA,ζb,kA,ζb,kI,ζb,bg];refine⟨⟨m+1,U,Za,?_⟩,by show _-(wrap .i64 ((m:Int)+1)).toNat<_;rw[U];simp;omega⟩;show(s||_)=_;rw[take_add_one,ζd u,List.any_append,C];simp;intro O;have u:Q.events.l.length<=m:=by simpa[len]using O
 rw[take_of_length_le u]at C;refine(bg _).2 ?_;rw[L,<-C];cases s;exact(bg _).2 rfl;exact(bg _).2 rfl;rw[if_neg B,show(e.kind==3)=false from by simp[B],bX];rw[if_neg w,show decide (gp t e.kind e.message=⟨p,(k:Int)+1⟩)=false from by simpa using w,bX]
theorem KL{t:Zj}(O:∀x∈bO t,ko t.procs.l.length x.1.proc x.2):(∀x∈bO t,uq t x=0)↔wK t:=by
 constructor;intro h;have key:∀x∈bO t,x.2.kind≠1->gp t x.2.kind x.2.message=x.1:=λx u a=>by have:=h x u;unfold uq at this;rw[if_neg a]at this;split at this;assumption;cases this
 refine⟨λx u y w z B C=>?_,λx u y w z B C=>?_,λx u z=>?_⟩;rw[<-key x u Za,<-key y w Za,z,B,C];rw[<-key x u Za,<-key y w Za,z,B,C];have:=h x u;unfold uq at this;rw[if_neg Za,if_pos (key x u Za),if_pos z]at this;split at this;assumption;cases this;intro h x u;unfold uq;by_cases D:x.2.kind=1;rw[if_pos D];rw[if_neg D];have⟨y,w⟩:=Fp u rfl rfl;have⟨I,J,y3,y4⟩:=uk w;have a:x.2.kind=2\/x.2.kind=3:=by rcases O x u with h|⟨h,_⟩;exact absurd h D;exact h
 have L:gp t x.2.kind x.2.message=x.1:=by rw[y4];rcases a with a|a;exact h.snd y I x u (by rw[J,a]) a y3;exact h.rcv y I x u (by rw[J,a]) a y3
 rw[if_pos L];by_cases G:x.2.kind=3;rw[if_pos G,if_pos (h.has x u G)];rw[if_neg G]
theorem wU{t:Zj}(D:∀x∈bO t,ko t.procs.l.length x.1.proc x.2)(G:wK t){z:bf}{f:Zn}(B:(z,f)∈bO t)(a:f.kind=3):∃e,(gp t 2 f.message,e)∈bO t/\e.kind=2/\e.message=f.message:=by
 have h:=G.has _ B a;have c:0<=f.peer:=by rcases D _ B with h|⟨_,h,_⟩;grind;simp_all
 rw[show f.peer=(f.peer.toNat:Nat)from Za,xN]at h;have⟨k,e,u,b,w,_⟩:=h;have⟨y,C⟩:=Fp (dI.2 ⟨_,k,u,rfl⟩:(⟨(f.peer.toNat:Nat),k+1⟩,e)∈bO t) b w;have⟨I,J,y3,y4⟩:=uk C;grind
theorem FJ.find{t:Zj}(G:∀x∈bO t,ko t.procs.l.length x.1.proc x.2)(B:wK t){y z:bf}{f:Zn}(h:FJ t y z)(D:(z,f)∈bO t):f.kind=3/\gp t 2 f.message=y:=by have⟨e,L,a,w,C,u,O⟩:=h;cases xe w D rfl;have⟨Q,I,J,S⟩:=wU G B D u;exact⟨u,B.snd _ I _ a J C Ze⟩
theorem AJ{t:Zj}(O:Small t)(J:∀x∈bO t,ko t.procs.l.length x.1.proc x.2)(B:wK t){z:bf}(D:Vd t z):
 Wp (dJ t z) λs=>s.l.length<=2/\∀y,y∈s.l↔Edge t y z:=by
 obtain⟨p,k,f,w,rfl,u⟩:=D.at_;have c:k<1073741824:=by have⟨P,B,I⟩:=w;have:=(O.2 P (mem_of_getElem? B)).1;grind
 have j:∀s:Sl bf,s.l.length<=1->(∀y,y∈s.l↔Vd t y/\(⟨p,k+1⟩:bf)=⟨y.proc,y.index+1⟩)->Wp (dJ.J1 s t ⟨p,k+1⟩) λs=>s.l.length<=2/\∀y,y∈s.l↔Edge t y ⟨p,k+1⟩:=by intro s W C;unfold dJ.J1;rw[Pn w Za,ζb,bU];constructor;intro G;have G:f.kind=3:=(by grind);rw[find_eq O,ζb];unfold gZ;rw[if_pos Za,ζb,bg];refine⟨by show(s.l++[_]).length<=2;grind,λy=>?_⟩;show y∈s.l++[gp t 2 f.message]↔_;rw[mem_append,mem_singleton,C];have⟨e,Q,S,T⟩:=wU J B u G;constructor;rintro(h|rfl);exact⟨h.1,D,.inl h.2⟩;exact⟨⟨e,Q⟩,D,.inr ⟨e,f,Q,u,S,G,T⟩⟩;rintro⟨b,_,a|a⟩;grind;exact .inr (a.find J B u).2.symm;intro G;refine(bg _).2 ⟨Za,λy=>(C y).trans ⟨λh=>⟨h.1,D,.inl h.2⟩,λ⟨b,_,a⟩=>⟨b,a.elim id λa=>?_⟩⟩⟩;have:=(a.find J B u).1;grind
 unfold dJ;rw[bU];constructor
 .intro h;have h:k+1>1:=by grind
  refine j _ (by simp[Sl.l]) λy=>?_
  have U:wrap .i64 (k+1-1)=k:=by rw[gU _ Za Za];omega
  simp only[Sl.l,mem_singleton,U,bf.mk.injEq];constructor
  .rintro rfl;have⟨P,B,I⟩:=w;have:=(ζe.1 I).1;exact⟨⟨P.events.l[k-1],dI.2 ⟨p,k-1,⟨P,B,ζd Za⟩,by simp;omega⟩⟩,rfl,rfl⟩
  simp_all
 intro h;refine j _ (by simp[Sl.l]) λy=>⟨λL=>by simp[Sl.l]at L,λ⟨L,I⟩=>?_⟩
 obtain⟨q,i,f,_,rfl,_⟩:=L.at_
 grind
theorem S9{α:Type}{r:α->α->Prop}{x:α}(h:Acc r x):¬TransGen r x x:=by induction h with|intro x _ t=>intro h;cases h with|single h=>exact t x h (.single h)|tail h1 u=>exact t _ u (TransGen.trans (.single u) h1)
theorem Iw:∀{d:Zv}{i k:Nat},d[i]?=some k->(d.set i (k+1)).sum=d.sum+1
 |[],_,_,h=>Ze|x::d,0,k,h=>Zd|x::d,i+1,k,h=>by have:=Iw (d:=d) (i:=i) (k:=k) Zd;grind
theorem Lg:∀{d l:Zv},d.length=l.length->(∀(i a b:Nat),d[i]?=some a->l[i]?=some b->a<=b)->d.sum<=l.sum
 |[],_,_,_=>Zc|x::d,[],h,_=>Ze|x::d,y::l,h,B=>by have c:=B 0 x y rfl rfl;have t:=Lg (d:=d) (l:=l) Zd λi a b u w=>B (i+1) a b Zd Zd;simp;omega
def nI(d:Zv):Zy:=d.map ofNat
def sI(s:Zg):Nat:=(s.l.map toNat).sum
theorem EU(d:Zv):sI (.row (nI d))=d.sum:=by unfold sI nI;rw[show(Sl.row (d.map ofNat)).l=d.map ofNat from rfl,List.map_map,show(toNat ∘ ofNat)=id from rfl,List.map_id]
theorem LI(d:Zv):(nI d).length=d.length:=by simp[nI]
structure Kh(t:Trace)(d:List Nat):Prop where
 len:d.length=t.procs.l.length
 le:∀(p k:Nat)P,d[p]?=some k->t.procs.l[p]?=some P->k<=P.events.l.length
 acc:∀(p k j:Nat),d[p]?=some k->j<k->Acc (Edge t) ⟨p,j+1⟩
def kM(t:Zj):Nat:=(t.procs.l.map λP=>P.events.l.length).sum
theorem Kh.sum{t:Zj}{d:Zv}(h:Kh t d):d.sum<=kM t:=Lg (by simp[h.len]) λi a b z u=>by cases w:t.procs.l[i]?with|none=>grind|some P=>simp[w]at u;rw[<-u];exact h.le i a P z w
theorem Cq{d:Zv}{p:Nat}(h:p<d.length):Sl.lY (.row (nI d)) (p:Int)=some p:=by unfold Sl.lY;rw[if_pos ⟨Za,by simpa[Sl.l,LI]using h⟩];rfl
theorem yF{d:Zv}{p k:Nat}(h:d[p]?=some k):Sl.get (.row (nI d)) p=some (k:Int):=by unfold Sl.get nI;rw[show(Sl.row (d.map ofNat)).l=d.map ofNat from rfl,getElem?_map,h];rfl
def Mv(t:Zj)(B:Zv)(s:Zg)(b:Zl)(d:Zv):Prop:=s=.row (nI d)/\Kh t d/\B.sum<=d.sum/\(b=true->B.sum<d.sum)
def KQ(t:Zj)(B:Zv)(p:Nat)(w:Fw (Zg×Zl×Int) (Zg×Zl) Empty):Prop:=∃u z C,w=.n (u,z,((p+1:Nat):Int))/\Mv t B u z C
theorem QD{t:Zj}(c:Small t)(n:∀x∈bO t,ko t.procs.l.length x.1.proc x.2)(o:wK t){D r:Zv}{s:Zg}{b:Zl}{p:Nat}(g:p<t.procs.l.length)(A:Mv t D s b r):
 Wp (eB.W3 s b p t) (KQ t D p):=by
 have Z:=bM g;have hn:=c.1;have ah:=(c.2 _ (getElem_mem g)).1;have G:=ζd g;generalize t.procs.l[p]=P at *;refine ei (λq:Zg×Zl=>∃d,Mv t D q.1 q.2 d) (λq=>kM t-sI q.1) ⟨r,A⟩ ?_
 rintro⟨s,b⟩ ⟨d,rfl,u,E,F⟩;have w:p<d.length:=by rw[u.len];omega
 have a:=ζd w;generalize d[p]=k at a;have ai:=u.le p k P a G;have stop:∀{X:Empty->Prop},Wp (some (Fw.x (Sl.row (nI d),b))) (OS (λq:Zg×Zl=>∃d,Mv t D q.1 q.2 d) (λq=>kM t-sI q.1) (λe=>Wp (some (Fw.n (e.1,e.2,wrap .i64 (p+1)))) (KQ t D p)) X (Sl.row (nI d),b)):=by refine(bg _).2 ((bg _).2 ⟨_,_,d,?_,rfl,u,E,F⟩);rw[cT p Za]
 unfold eB.eH;rw[Cq w,ζb,yF a,ζb,Z,ζb,bU];refine⟨λh=>?_,λ_=>stop⟩
 have I:k<P.events.l.length:=Zd
 have H:kJ t p k P.events.l[k]:=⟨P,G,ζd I⟩;have z:(⟨p,k+1⟩,P.events.l[k])∈bO t:=dI.2 ⟨p,k,H,rfl⟩;have go:(P.events.l[k].kind=3->∀q j:Nat,gp t 2 P.events.l[k].message=⟨q,j+1⟩->∃Y,d[q]?=some Y/\j<Y)->∀{v:Zg×Zl->Prop}{X:Empty->Prop},Wp (eB.J4 (.row (nI d)) p t) (OS (λq:Zg×Zl=>∃d,Mv t D q.1 q.2 d) (λq=>kM t-sI q.1) v X (Sl.row (nI d),b)):=by intro K v X;unfold eB.J4;rw[Cq w,ζb,yF a,ζb,ζb];unfold Sl.put;rw[if_pos (by simpa[Sl.l,LI]using w),ζb,bg];have J:(nI d).set p (wrap .i64 ((k:Int)+1))=nI (d.set p (k+1)):=(by rw[cT k Za];unfold nI;simp_all);have L:=Iw a;have O:Kh t (d.set p (k+1)):=(by refine⟨by simp[u.len],λq i Q B l=>?_,λq i j B M=>?_⟩;rw[getElem?_set]at B;split at B;grind;exact u.le q i Q B l;rw[getElem?_set]at B;split at B;rename_i e;subst e;cases B;by_cases N:j<k;exact u.acc p k j a N;have:j=k:=Za;subst this;refine Acc.intro _ λy R=>?_;obtain⟨S,_,m|m⟩:=R;obtain⟨q,i,f,_,rfl,_⟩:=S.at_;simp[bf.mk.injEq]at m;have e1:q=p:=(by omega);subst e1;exact u.acc q j i a Za;have⟨C,V⟩:=m.find n o z;obtain⟨q,i,f,_,rfl,_⟩:=S.at_;have⟨Y,ad,ae⟩:=K C q i V;exact u.acc q Y i ad ae;exact u.acc q i j B M);have aj:=O.sum;refine⟨⟨_,Zd,O,Zd,λ_=>Zd⟩,?_⟩;show kM t-sI (.row ((nI d).set p (wrap .i64 ((k:Int)+1))))<kM t-sI (.row (nI d));rw[J,EU,EU,L];grind
 dsimp only;rw[ζb,ζb,yF a,ζb,bM I,ζb,bU];refine⟨λC=>?_,λC=>go λh=>by simp[h]at C⟩
 have C:P.events.l[k].kind=3:=by simpa using C
 have⟨e,a1,a2,a3⟩:=wU n o z C;have⟨q,j,T,U⟩:=dI.1 a1;simp only at U;have W:q<d.length:=by have⟨Q,l,_⟩:=T;rw[u.len];exact(ζe.1 l).1
 have af:=ζd W;rw[find_eq c,ζb,U,Cq W,ζb,yF af,ζb,bU];refine⟨λ_=>stop,λh=>go λ_ q' j' hh=>?_⟩
 grind
theorem Kd{t:Zj}(J:Small t)(U:∀x∈bO t,ko t.procs.l.length x.1.proc x.2)(B:wK t):Wp (eB t) λb=>b=true->¬Ij t:=by
 have m:=J.1;unfold eB nG;rw[if_pos Zd,ζb];have f:(Sl.row (replicate (len t.procs).toNat 0))=.row (nI (replicate t.procs.l.length 0)):=by simp[nI]
 rw[f];refine ei (λs:Zg=>∃d,s=.row (nI d)/\Kh t d) (λs=>kM t-sI s) ⟨_,rfl,Zc,λp k P h _=>Zd,λp k j h o=>Zd⟩ ?_;rintro s ⟨D,rfl,Q⟩;refine ei (λq:Zg×Zl×Int=>∃(n:Nat)(d:Zv),q.2.2=n/\n<=t.procs.l.length/\Mv t D q.1 q.2.1 d) (λq=>t.procs.l.length-q.2.2.toNat) ⟨0,D,rfl,zero_le _,rfl,Q,le_refl _,Zc⟩ ?_;rintro⟨s,b,i⟩ ⟨n,d,S,T,L⟩;subst S;unfold eB.cn;rw[bU];constructor;intro h;have u:n<t.procs.l.length:=by grind
 refine(QD J U B u L).mono ?_;rintro w ⟨r,v,W,rfl,G⟩;exact⟨⟨n+1,W,rfl,Za,G⟩,by simp;omega⟩;intro _;obtain⟨rfl,z,X,I⟩:=L;rw[bg];show Wp (bq b _ _) _;rw[bU];refine⟨λY=>(bg _).2 ⟨⟨d,rfl,z⟩,?_⟩,λ_=>(bg _).2 ?_⟩;show kM t-sI (.row (nI d))<kM t-sI (.row (nI D));rw[EU,EU];have:=I Y;have:=z.sum;omega;refine ei (λi:Int=>∃n:Nat,i=n/\n<=t.procs.l.length/\∀p,p<n->∀P,t.procs.l[p]?=some P->d[p]?=some P.events.l.length) (λi:Int=>t.procs.l.length-i.toNat) ⟨0,rfl,zero_le _,λp a=>absurd a Za⟩ ?_;rintro i ⟨n,rfl,Z,g⟩;unfold eB.wC;rw[bU];constructor;intro h;have u:n<t.procs.l.length:=by grind
 have C:n<d.length:=by rw[z.len];omega
 have c:=ζd C;rw[Cq C,ζb,yF c,ζb,bM u,ζb,bU];refine⟨λ_=>(bg _).2 ((bg _).2 λh=>by cases h),λh=>(bg _).2 ⟨⟨n+1,cT n Za,Za,λp a P B=>?_⟩,by rw[cT n Za];simp;omega⟩⟩;by_cases e:p=n;subst e;rw[ζd u]at B;have:=z.le p _ _ c (ζd u);grind;grind;intro h;have y:t.procs.l.length<=n:=Zd;refine(bg _).2 ((bg _).2 λ_⟨x,O⟩=>?_);obtain⟨p,k,e,⟨P,B,l⟩,rfl,_⟩:=O.l.at_;have A:=(ζe.1 B).1;exact S9 (z.acc p _ k (g p Za P B) (ζe.1 l).1) O
def pV(out:aZ (aZ Zl))(y:bf):Zl:=match out[y.proc.toNat]?with
 |some row=>row[y.index.toNat]?.getD false|none=>false
theorem za{t:Zj}{out:aZ (aZ Zl)}{p k:Nat}{row:aZ Zl}(a:out[p]?=some row)(b:k+1<row.length){z:bf}(B:Vd t z):
 pV (out.set p (row.set (k+1) true)) z=(decide (z=⟨p,k+1⟩)||pV out z):=by
 obtain⟨q,j,e,_,rfl,_⟩:=B.at_;have c:=(ζe.1 a).1;unfold pV;have e1:(⟨(q:Int),(j:Int)+1⟩:bf).proc.toNat=q:=rfl;have e2:(⟨(q:Int),(j:Int)+1⟩:bf).index.toNat=j+1:=by show((j:Int)+1).toNat=j+1;omega
 rw[e1,e2,getElem?_set]
 by_cases u:p=q
 .subst u;rw[if_pos rfl,if_pos c,a];dsimp only;rw[getElem?_set]
  by_cases w:k=j
  .subst w;simp[b]
  rw[if_neg Za,show decide ((⟨(p:Int),(j:Int)+1⟩:bf)=⟨p,k+1⟩)=false from by simp;omega,Bool.false_or]
 rw[if_neg u,show decide ((⟨(q:Int),(j:Int)+1⟩:bf)=⟨p,k+1⟩)=false from by simp;omega,Bool.false_or]
theorem zO{α:Type}{f g:α->Zl}:∀{l:aZ α},(∀z∈l,f z=true->g z=true)->(∃z∈l,f z=false/\g z=true)->l.countP f<l.countP g
 |[],_,⟨z,b,_⟩=>by simp at b|a::l,h,⟨z,b,B,hg⟩=>by simp only[countP_cons];have D:=List.countP_mono_left (l:=l) (p:=f) (q:=g) λx t=>h x (mem_cons_of_mem _ t);rcases mem_cons.1 b with rfl|b;simp[B,hg];omega;have:=zO (l:=l) (λx t=>h x (mem_cons_of_mem _ t)) ⟨z,b,B,hg⟩;have c:=h a (mem_cons_self ..);cases u:f a with|true=>simp[c u];omega|false=>simp;split<;>omega
def cnt(t:Zj)(out:aZ (aZ Zl)):Nat:=(bO t).countP λz=>pV out z.1
structure Ux(t:Trace)(x:bf)(out:List (List Bool))(rest:List bf):Prop where
 shp:∀(p:Nat)P,t.procs.l[p]?=some P->∃row,out[p]?=some row/\row.length=P.events.l.length+1
 len:out.length=t.procs.l.length
 que:∀y∈rest,Way t y x
 snd:∀y,Vd t y->pV out y=true->Way t y x
 cls:∀z,z=x\/Vd t z/\pV out z=true->∀y,Edge t y z->pV out y=true\/y∈rest
 le:rest.length<=2*cnt t out+2
theorem AG{t:Zj}{y:bf}:pV (gn t) y=false:=by
 unfold pV gn;split;rename_i row h;rw[getElem?_map]at h;cases u:t.procs.l[y.proc.toNat]?with|none=>simp[u]at h|some P=>simp[u]at h;subst h;rw[List.getElem?_replicate];split<;>rfl
 rfl
theorem Rb{t:Zj}(Y:Small t)(n:(bO t).length<1073741824)(g:∀x∈bO t,ko t.procs.l.length x.1.proc x.2)(J:wK t){x:bf}(i:Vd t x):
 Wp (mB t x) λs=>∃out,s=nested out/\Ux t x out []/\∀y,Vd t y->(pV out y=true↔Way t y x):=by
 unfold mB;rw[if_pos (by
  unfold zA;simp only[ζh,all_eq_true,decide_eq_true_eq];exact⟨by have:=Y.1;omega,λP J=>by have:=(Y.2 P J).1;omega⟩),cR]
 refine(AJ Y g J i).mono λs X=>?_
 refine ei (λq:aZ (aZ Zl)×aZ bf=>Ux t x q.1 q.2) (λq=>2*((bO t).length-cnt t q.1)+q.2.length) ⟨λp P J=>⟨replicate (P.events.l.length+1) false,by simp[gn,J],Zc⟩,by simp[gn],λy C=>.single ((X.2 y).1 C),λy _ h=>(by rw[AG]at h;cases h),λz a y C=>?_,by have:=X.1;show s.l.length<=2*cnt t (gn t)+2;omega⟩ ?_
 .rcases a with rfl|⟨_,h⟩
  .exact .inr ((X.2 y).2 C)
  rw[AG]at h;cases h
 rintro⟨out,rest⟩ u
 cases rest with
 |nil=>
  show Wp (some _) _;refine(bg _).2 ((bg _).2 ⟨out,rfl,u,λy C=>⟨u.snd y C,λD=>?_⟩⟩)
  have key:∀w,Way t y w->w=x\/Vd t w/\pV out w=true->pV out y=true:=λw D=>by induction D with|single h=>exactλD=>(u.cls _ D _ h).elim id λh=>by cases h|tail ae L ih=>exactλD=>ih (.inr ⟨L.1,(u.cls _ D _ L).elim id λh=>by cases h⟩)
  exact key x D (.inl rfl)
 |cons y rest=>
  have G:=u.que y (mem_cons_self ..);have I:=G.l;obtain⟨p,k,e,Z,rfl,O⟩:=I.at_;have⟨P,S,j⟩:=Z;have o:=(ζe.1 j).1;have⟨row,b,l⟩:=u.shp p P S;have B:k+1<row.length:=Za
  show Wp (nH _ (out,⟨p,k+1⟩::rest)) _;unfold nH;have e2:((k:Int)+1).toNat=k+1:=Za
  dsimp only;rw[if_pos ⟨Za,Za⟩,show((p:Nat):Int).toNat=p from rfl,e2,b,ζb,ζd B,ζb,bU]
  have T:pV out ⟨p,k+1⟩=row[k+1]:=by unfold pV;rw[show((⟨(p:Int),(k:Int)+1⟩:bf).proc).toNat=p from rfl,b];dsimp only;rw[e2,ζd B];rfl
  constructor
  .intro c;rw[bg];refine⟨⟨u.shp,u.len,λy C=>u.que y (mem_cons_of_mem _ C),u.snd,λz a y C=>?_,by have:=u.le;simp only[length_cons]at this;show rest.length<=2*cnt t out+2;omega⟩,Nat.add_lt_add_left (Nat.lt_succ_self _) _⟩
   rcases u.cls z a y C with h|h
   .exact .inl h
   rcases mem_cons.1 h with rfl|h
   .exact .inl (by rw[T];exact c)
   exact .inr h
  intro c;rw[cR];refine(AJ Y g J I).mono λmore d=>?_
  have m:=u.le;simp only[length_cons]at m;have v:cnt t out<=(bO t).length:=countP_le_length;have A:=d.1;have E:cnt t out<cnt t (out.set p (row.set (k+1) true)):=zO (λz a h=>by rw[za b B ⟨_,a⟩,h,Bool.or_true]) ⟨_,O,by rw[T,c],by rw[za b B I];simp⟩
  have F:cnt t (out.set p (row.set (k+1) true))<=(bO t).length:=countP_le_length;rw[if_pos Za,bg]
  refine⟨⟨λq Q f=>?_,by show(out.set _ _).length=_;rw[length_set];exact u.len,λz a=>?_,λz a h=>?_,λz a y C=>?_,by show(rest++more.l).length<=_;rw[ζi];show _<=2*cnt t (out.set p (row.set (k+1) true))+2;omega⟩,?_⟩
  .show ∃r,(out.set p (row.set (k+1) true))[q]?=some r/\_;rw[getElem?_set];split
   next e=>subst e;rw[if_pos (ζe.1 b).1];rw[S]at f;cases f;exact⟨_,rfl,by simp[l]⟩
   exact u.shp q Q f
  .rcases mem_append.1 a with a|a
   .exact u.que z (mem_cons_of_mem _ a)
   exact .trans (.single ((d.2 z).1 a)) G
  .show Way t z x;have h:pV (out.set p (row.set (k+1) true)) z=true:=h;rw[za b B a]at h;simp only[or_eq_true,decide_eq_true_eq]at h;rcases h with rfl|h
   .exact G
   exact u.snd z a h
  .show pV (out.set p (row.set (k+1) true)) y=true\/y∈rest++more.l;rw[za b B C.1];have U:z=x\/Vd t z/\pV out z=true->(decide (y=⟨p,k+1⟩)||pV out y)=true\/y∈rest++more.l:=λa=>by
    rcases u.cls z a y C with h|h
    .exact .inl (by rw[show pV out y=true from h,Bool.or_true])
    rcases mem_cons.1 h with rfl|h
    .exact .inl Zc
    exact .inr (mem_append_left _ h)
   rcases a with a|⟨W,a⟩
   .exact U (.inl a)
   have a:pV (out.set p (row.set (k+1) true)) z=true:=a;rw[za b B W]at a;simp only[or_eq_true,decide_eq_true_eq]at a;rcases a with rfl|a
   .exact .inr (List.mem_append_right _ ((d.2 y).2 C))
   exact U (.inr ⟨W,a⟩)
  show 2*((bO t).length-cnt t (out.set p (row.set (k+1) true)))+(rest++more.l).length<2*((bO t).length-cnt t out)+(_::rest).length;rw[ζi,length_cons];omega
theorem Tq{t:Zj}(G:Small t)(Y:(bO t).length<1073741824)(f:∀x∈bO t,ko t.procs.l.length x.1.proc x.2)(J:wK t):Wp (cW.W6 0 t ⟨0,0⟩) λr=>(r.2=0↔¬Ij t):=by
 have v:=G.1;unfold cW.W6;refine ei (λi:Int=>∃n:Nat,i=n/\n<=t.procs.l.length/\∀(p k:Nat)e,p<n->kJ t p k e->¬Way t ⟨p,k+1⟩ ⟨p,k+1⟩) (λi:Int=>t.procs.l.length-i.toNat) ⟨0,rfl,zero_le _,λp k e d=>absurd d Za⟩ ?_;rintro i ⟨n,rfl,Z,U⟩;unfold cW.IU;rw[bU];constructor;intro h;have w:n<t.procs.l.length:=by simpa[len]using h
 have I:=bM w;have z:=ζd w;have y:=(G.2 _ (getElem_mem w)).1;generalize t.procs.l[n]=P at *;unfold cW.W7;refine ei (λi:Int=>∃m:Nat,i=m/\m<=P.events.l.length/\∀k,k<m->¬Way t ⟨n,k+1⟩ ⟨n,k+1⟩) (λi:Int=>P.events.l.length-i.toNat) ⟨0,rfl,zero_le _,λk a=>absurd a Za⟩ ?_;rintro i ⟨m,rfl,A,a⟩;unfold cW.Is;rw[I,ζb,bU];constructor;intro h;have L:m<P.events.l.length:=by simpa[len]using h
 have O:=cT m Za;have b:Vd t ⟨n,m+1⟩:=⟨P.events.l[m],dI.2 ⟨n,m,⟨P,z,ζd L⟩,rfl⟩⟩;rw[O,show(((m+1:Nat)):Int)=(m:Int)+1 from Zc,cR];refine(Rb G Y f J b).mono ?_;rintro s ⟨out,rfl,g,B⟩;have⟨row,c,E⟩:=g.shp n P z;have S:out≠[]:=by rintro rfl;cases c
 have C:m+1<row.length:=Za;have j:idx (nested out) (n:Int)=some (.row row):=by unfold nested;rw[if_neg S,mK];show(out.map Sl.row)[n]?=_;rw[getElem?_map,c];rfl
 have l:idx (Sl.row row) ((m:Int)+1)=some row[m+1]:=by rw[show(m:Int)+1=((m+1:Nat):Int)from Zc];exact bM (s:=Sl.row row) C
 rw[j,ζb,l,ζb,bU];have o:row[m+1]=pV out ⟨n,m+1⟩:=by unfold pV;rw[show((⟨(n:Int),(m:Int)+1⟩:bf).proc).toNat=n from rfl,c];dsimp only;rw[show((m:Int)+1).toNat=m+1 from Za,ζd C];rfl
 rw[o];refine⟨λD=>(bg _).2 ((bg _).2 ((bg _).2 ⟨λh=>(by cases h),λh=>absurd ⟨_,(B _ b).1 D⟩ h⟩)),λD=>(bg _).2 ⟨⟨m+1,Zc,Za,λk F=>?_⟩,by simp;omega⟩⟩;by_cases e:k=m;subst e;exactλO=>by rw[(B _ b).2 O]at D;cases D
 exact a k Za;intro h;have T:P.events.l.length<=m:=by simpa[len]using h
 refine(bg _).2 ((bg _).2 ⟨⟨n+1,cT n Za,Za,λp k e d u=>?_⟩,by rw[cT n Za];simp;omega⟩);by_cases e:p=n;subst e;have⟨Q,W,q⟩:=u;rw[z]at W;cases W;have:=(ζe.1 q).1;exact a k Za;exact U p k _ Za u;intro h;have T:t.procs.l.length<=n:=by simpa[len]using h
 refine(bg _).2 ((bg _).2 ⟨λ_⟨x,X⟩=>?_,λ_=>rfl⟩);obtain⟨p,k,e,u,rfl,_⟩:=X.l.at_;have⟨P,J,_⟩:=id u;exact U p k e (by have:=(ζe.1 J).1;omega) u X
theorem FO{t:Zj}(B:∀x∈bO t,ko t.procs.l.length x.1.proc x.2):(∀(p k:Nat)e,kJ t p k e->uq t (⟨p,k+1⟩,e)=0)↔wK t:=Iff.trans ⟨λh x w=>by have⟨p,k,b,u⟩:=dI.1 w;have⟨a,e⟩:=x;simp only at b u;rw[u];exact h p k e b,λh p k e z=>h _ (dI.2 ⟨p,k,z,rfl⟩)⟩ (KL B)
theorem L0{t:Zj}(J:Small t)(s:(bO t).length<1073741824):Wp (cW t) λr=>(r.2=0↔Ok t):=by
 have E:=J.1;unfold cW;rw[kI,ζb,bU];refine⟨λO=>(bg _).2 ⟨λh=>(by cases h),λh=>?_⟩,λO=>?_⟩;have F:=h.one;have g:=h.few;simp only[or_eq_true,decide_eq_true_eq,len]at O;omega;have g:1<=t.procs.l.length/\t.procs.l.length<=8:=by simp only[or_eq_false_iff,decide_eq_false_iff_not,len]at O;omega
 unfold cW.W1;refine ei (λi:Int=>∃n:Nat,i=n/\n<=t.procs.l.length/\∀p,p<n->qK t p=0) (λi:Int=>t.procs.l.length-i.toNat) ⟨0,rfl,zero_le _,λp d=>absurd d Za⟩ ?_;rintro i ⟨n,rfl,H,o⟩;unfold cW.bt;rw[bU];constructor;intro h;have w:n<t.procs.l.length:=by simpa[len]using h
 rw[M4 J w,ζb,bU];refine⟨λa=>(bg _).2 ⟨⟨n+1,cT n Za,Za,λp d=>?_⟩,by rw[cT n Za];simp;omega⟩,λa=>(bg _).2 ((bg _).2 ⟨λh=>?_,λh=>?_⟩)⟩;by_cases e:p=n;subst e;simpa using a;exact o p Za;simp only at h;simp[h]at a;simp[h.heads n w]at a;intro h;have K:t.procs.l.length<=n:=by simpa[len]using h
 rw[bg];unfold cW.W2;refine ei (λi:Int=>∃n:Nat,i=n/\n<=t.procs.l.length/\∀(p k:Nat)P e,p<n->t.procs.l[p]?=some P->P.events.l[k]?=some e->oh t.procs.l.length P p k e=0) (λi:Int=>t.procs.l.length-i.toNat) ⟨0,rfl,zero_le _,λp k P e d=>absurd d Za⟩ ?_;rintro i ⟨G,rfl,M,W⟩;unfold cW.cn;rw[bU];constructor;intro h;have w:G<t.procs.l.length:=by simpa[len]using h
 have D:=bM w;have B:=ζd w;have S:=(J.2 _ (getElem_mem w)).1;generalize t.procs.l[G]=P at D B S;unfold cW.W3;refine ei (λi:Int=>∃m:Nat,i=m/\m<=P.events.l.length/\∀(k:Nat)e,k<m->P.events.l[k]?=some e->oh t.procs.l.length P G k e=0) (λi:Int=>P.events.l.length-i.toNat) ⟨0,rfl,zero_le _,λk e c=>absurd c Za⟩ ?_;rintro i ⟨m,rfl,v,c⟩;unfold cW.eH;rw[D,ζb,bU];constructor;intro h;have T:m<P.events.l.length:=by simpa[len]using h
 have C:=ζd T;have f:=cT m Za;rw[ML J B C,ζb,bU];refine⟨λa=>(bg _).2 ⟨⟨m+1,f,Za,λk e x u=>?_⟩,by rw[f];simp;omega⟩,λa=>(bg _).2 ((bg _).2 ((bg _).2 ⟨λh=>?_,λh=>?_⟩))⟩;by_cases j:k=m;subst j;rw[C]at u;cases u;simpa using a;exact c k e Za u;simp only at h;simp[h]at a;simp[h.fA G m P _ B C]at a;intro h;have I:P.events.l.length<=m:=by simpa[len]using h
 refine(bg _).2 ((bg _).2 ⟨⟨G+1,cT G Za,Za,λp k Q e d U u=>?_⟩,by rw[cT G Za];simp;omega⟩);by_cases l:p=G;subst l;rw[B]at U;cases U;exact c k e (by have:=(ζe.1 u).1;omega) u;exact W p k Q e Za U u;intro h;have I:t.procs.l.length<=G:=by simpa[len]using h
 have W:∀(p k:Nat)P e,t.procs.l[p]?=some P->P.events.l[k]?=some e->oh t.procs.l.length P p k e=0:=λp k P e L c=>W p k P e (by have:=(ζe.1 L).1;omega) L c;have X:=Ek W;rw[bg];unfold cW.W4;refine ei (λi:Int=>∃n:Nat,i=n/\n<=t.procs.l.length/\∀(p k:Nat)e,p<n->kJ t p k e->uq t (⟨p,k+1⟩,e)=0) (λi:Int=>t.procs.l.length-i.toNat) ⟨0,rfl,zero_le _,λp k e d=>absurd d Za⟩ ?_;rintro i ⟨q,rfl,N,Y⟩;unfold cW.IF;rw[bU];constructor;intro h;have w:q<t.procs.l.length:=by simpa[len]using h
 have D:=bM w;have B:=ζd w;have S:=(J.2 _ (getElem_mem w)).1;generalize t.procs.l[q]=P at D B S;unfold cW.W5;refine ei (λi:Int=>∃m:Nat,i=m/\m<=P.events.l.length/\∀(k:Nat)e,k<m->P.events.l[k]?=some e->uq t (⟨q,k+1⟩,e)=0) (λi:Int=>P.events.l.length-i.toNat) ⟨0,rfl,zero_le _,λk e c=>absurd c Za⟩ ?_;rintro i ⟨m,rfl,v,c⟩;unfold cW.wC;rw[D,ζb,bU];constructor;intro h;have T:m<P.events.l.length:=by simpa[len]using h
 have C:=ζd T;have f:=cT m Za;have z:kJ t q m P.events.l[m]:=⟨P,B,C⟩;rw[f,show(((m+1:Nat)):Int)=(m:Int)+1 from Zc,KX J z (X (⟨q,m+1⟩,P.events.l[m]) (dI.2 ⟨q,m,z,rfl⟩)),ζb,bU];refine⟨λa=>(bg _).2 ⟨⟨m+1,Zc,Za,λk e x u=>?_⟩,by simp;omega⟩,λa=>(bg _).2 ((bg _).2 ((bg _).2 ⟨λh=>?_,λh=>?_⟩))⟩;by_cases j:k=m;subst j;rw[C]at u;cases u;simpa using a;exact c k e Za u;simp only at h;simp[h]at a;simp[(FO X).2 h.zm q m _ z]at a;intro h;have I:P.events.l.length<=m:=by simpa[len]using h
 refine(bg _).2 ((bg _).2 ⟨⟨q+1,cT q Za,Za,λp k e d z=>?_⟩,by rw[cT q Za];simp;omega⟩);by_cases l:p=q;subst l;have⟨Q,U,u⟩:=z;rw[B]at U;cases U;exact c k e (by have:=(ζe.1 u).1;omega) u;exact Y p k e Za z;intro h;have R:t.procs.l.length<=q:=by simpa[len]using h
 have L:wK t:=(FO X).1 λp k e z=>Y p k e (by have⟨P,L,_⟩:=z;have:=(ζe.1 L).1;omega) z;have Z:¬Ij t↔Ok t:=⟨λh=>⟨g.1,g.2,λp d=>o p Za,W,L,h⟩,λh=>h.acyc⟩;rw[bg,cR];refine(Kd J X L).mono λb y=>?_;rw[bU];exact⟨λh=>(bg _).2 ⟨λ_=>Z.1 (y h),λ_=>rfl⟩,λ_=>(Tq J s X L).mono λr A=>A.trans Z⟩
theorem D0{t:Zj}(B:Small t)(D:(bO t).length<1073741824):∃b,cA t=some b/\oP t=some b/\(b=true->VT t):=by obtain⟨b,u,a,w⟩:=Nc B D;refine⟨b,u,?_,a⟩;unfold oP;obtain⟨r,c,z⟩:=L0 B D;rw[c,ζb];congr 1;rw[Bool.eq_iff_iff,beq_iff_eq,z];exact⟨w,λh=>(a h).ok⟩
theorem MK{t:Zj}(W:Small t){c:Zg}(D:c.l.length=t.procs.l.length){step:Int->a_ (Fw Int Unit Unit)}
 (Y:∀i,step i=bq (decide (i<(len c))) ((idx c i).bind λG=>(bq (decide (G<0)) (some true) ((idx c i).bind λJ=>(idx t.procs i).bind λO=>some (decide (J>(len O.events)))):a_ Zl).bind λU=>bq U (some (.r ())) (some (.n (wrap .i64 (i+1))))) (some (.x ()))):
 Wp ((bT step 0).bind (Fw.elim (λ_=>some true) (λ_=>some false))) λb=>(b=true↔jS t c.l):=by
 have d:=W.1;refine ei (λs:Int=>∃n:Nat,s=n/\n<=c.l.length/\∀(p:Nat)(a:Int)(P:cq),p<n->c.l[p]?=some a->t.procs.l[p]?=some P->0<=a/\a<=P.events.l.length) (λs:Int=>c.l.length-s.toNat) ⟨0,rfl,zero_le _,λp a P h=>absurd h Za⟩ ?_
 rintro s ⟨n,rfl,T,I⟩;rw[Y,bU];constructor
 .intro h;have w:n<c.l.length:=by simpa[len]using h
  have u:n<t.procs.l.length:=Za
  have L:=cT n Za
  rw[bM w,ζb,ζb,bM u,ζb,kI,ζb,bU];constructor
  .intro z;have z:c.l[n]<0\/c.l[n]>t.procs.l[n].events.l.length:=by simpa[len]using z
   refine(bg _).2 ((bg _).2 ⟨λh=>(by cases h),λQ=>?_⟩)
   have:=Q.2 n _ _ (ζd w) (ζd u);omega
  intro z;have z:0<=c.l[n]/\c.l[n]<=t.procs.l[n].events.l.length:=by simpa[len]using z
  refine(bg _).2 ⟨⟨n+1,L,Za,λp a P f B C=>?_⟩,by rw[L];simp;omega⟩
  by_cases e:p=n
  .subst e;rw[ζd w]at B;cases B;rw[ζd u]at C;cases C;exact z
  exact I p a P Za B C
 intro h;have S:c.l.length<=n:=by simpa[len]using h
 refine(bg _).2 ((bg _).2 ⟨λ_=>⟨D,λp a P B C=>I p a P (by have:=(ζe.1 B).1;omega) B C⟩,λ_=>rfl⟩)
theorem Re{t:Zj}(D:Small t){c:Zg}(B:c.l.length=t.procs.l.length):Wp (lZ t c) λb=>(b=true↔jS t c.l):=by unfold lZ;rw[show(len c==len t.procs)=true from by simp[len,B],bS];exact MK D B λi=>rfl
theorem El{t:Zj}(D:VT t){A:cu 200 bC}(G:eT t (bO t) A){p k:Nat}{e:Zn}(B:kJ t p k e)(a:e.kind=3):gp t 2 e.message=(ag A e.message).from_:=by have⟨y,b,u,w⟩:=wU D.formed D.ok.zm (dI.2 ⟨p,k,B,rfl⟩:((⟨p,k+1⟩:bf),e)∈bO t) a;have:=G.snd _ b u;simp only[w]at this;exact this.symm
theorem IA(t:Zj)(kind m:Int):gp t kind m=⟨0,0⟩/\(∀x∈bO t,¬(x.2.kind=kind/\x.2.message=m))\/∃z,(gp t kind m,z)∈bO t/\z.kind=kind/\z.message=m:=by cases h:(bO t).find? (kg kind m)with|some x=>have⟨w,B,C,D⟩:=uk h;exact .inr ⟨x.2,by rw[D];exact w,B,C⟩|none=>rw[find?_eq_none]at h;have u:∀x∈bO t,¬(x.2.kind=kind/\x.2.message=m):=λx G=>(by have:=h x G;simpa[kg]using this);exact .inl ⟨I_ u,u⟩
theorem Ih{t:Zj}(B:VT t){r s:bf}{z e:Zn}(a:(r,z)∈bO t)(G:z.kind=3)(D:(s,e)∈bO t)(J:e.kind=2)(O:e.message=z.message):e.peer=r.proc/\z.peer=s.proc:=by
 have h:=B.ok.zm.has _ a G;have c:0<=z.peer:=by rcases B.formed _ a with h|⟨_,h,_⟩;simp only at h;omega;exact h
 rw[show z.peer=((z.peer.toNat:Nat):Int)from Za,xN]at h;have⟨k,y,w,b,C,I⟩:=h;have u:((⟨(z.peer.toNat:Nat),k+1⟩:bf),y)∈bO t:=dI.2 ⟨_,k,w,rfl⟩;have:=B.ok.zm.snd _ u _ D b J (by rw[O];exact C);simp only at this;subst this;cases xe u D rfl;exact⟨I,by simp only;omega⟩
def qn(t:Zj)(c:Zy)(e:Zn):Zl:=(gp t 3 e.message).index==0||decide ((gp t 3 e.message).index>(c[(gp t 3 e.message).proc.toNat]?).getD 0)
theorem zB{α:Type}(f g:α->Zl):∀l:aZ α,l.countP f=l.countP (λx=>f x&&g x)+l.countP (λx=>f x&& !g x)
 |[]=>rfl|x::l=>by simp only[countP_cons,zB f g l];cases f x<;>cases g x<;>simp<;>omega
theorem sU{α:Type}{f:α->Zl}{l:aZ α}{n k:Nat}:k∈places f (l.take n)↔k<n/\∃x,l[k]?=some x/\f x=true:=by rw[JQ];simp only[getElem?_take];constructor;rintro⟨x,a,t⟩;split at a;exact⟨‹_›,x,a,t⟩;cases a;rintro⟨h,x,a,t⟩;exact⟨x,by rw[if_pos h];exact a,t⟩
theorem Qs{t:Zj}(G:VT t){A:cu 200 bC}(hM:eT t (bO t) A){c:Zy}(y:Cons t A c){p q:Nat}{P Q:cq}{a b:Int}(J:t.procs.l[p]?=some P)(D:t.procs.l[q]?=some Q)(M:c[p]?=some a)(r:c[q]?=some b):
 (Q.events.l.take b.toNat).countP (dQ p)=(P.events.l.take a.toNat).countP λe=>dP q e&& !qn t c e:=by
 have f:∀{p:Nat}{P:cq}{k:Nat}{e:Zn},t.procs.l[p]?=some P->P.events.l[k]?=some e->((⟨p,k+1⟩:bf),e)∈bO t:=λJ g=>dI.2 ⟨_,_,⟨_,J,g⟩,rfl⟩
 have a0:=(y.1.2 p a P M J).1;have b0:=(y.1.2 q b Q r D).1;have r1:∀k,k∈places (dQ p) (Q.events.l.take b.toNat)->∃(z:Zn)(j:Nat)(e:Zn),Q.events.l[k]?=some z/\z.kind=3/\P.events.l[j]?=some e/\e.kind=2/\e.peer=q/\e.message=z.message/\gp t 2 z.message=⟨p,j+1⟩/\(j:Int)+1<=a/\(k:Int)+1<=b:=λk g=>by have⟨aj,z,d,u⟩:=sU.1 g;have u:z.kind=3/\z.peer=p:=(by simpa[dQ]using u);have N:=f D d;have⟨e,e1,e2,e3⟩:=wU G.formed G.ok.zm N u.1;have⟨i,l⟩:=Ih G N u.1 e1 e2 e3;have⟨p',j,⟨P',R,m⟩,I⟩:=dI.1 e1;simp only at i I m;rw[I]at l;have ad:p'=p:=(by simp only at l;omega);subst ad;rw[J]at R;cases R;have⟨x,C,L⟩:=y.2 q k z b ⟨Q,D,d⟩ r Za u.1;rw[<-El G hM ⟨Q,D,d⟩ u.1,I]at C L;simp only[toNat_natCast]at C L;rw[M]at C;cases C;exact⟨z,j,e,d,u.1,m,e2,i,e3,I,L,Za⟩
 have E:∀k,k∈places (λe=>dP q e&& !qn t c e) (P.events.l.take a.toNat)->∃(e:Zn)(j:Nat)(z:Zn),P.events.l[k]?=some e/\e.kind=2/\Q.events.l[j]?=some z/\z.kind=3/\z.peer=p/\z.message=e.message/\gp t 3 e.message=⟨q,j+1⟩/\(j:Int)+1<=b:=λk g=>by have⟨ak,e,d,u⟩:=sU.1 g;simp only[ζh,not_eq_true',qn,or_eq_false_iff,dP,beq_iff_eq,beq_eq_false_iff_ne,decide_eq_false_iff_not]at u;have⟨⟨g1,g2⟩,g3,g4⟩:=u;rcases IA t 3 e.message with⟨h,_⟩|⟨z,s,v,z3⟩;rw[h]at g3;exact absurd rfl g3;have⟨i,l⟩:=Ih G s v (f J d) g1 z3.symm;have⟨q',j,⟨Q',V,m⟩,I⟩:=dI.1 s;simp only at I m i l;rw[I]at i g4;have ae:q'=q:=(by simp only at i;omega);subst ae;rw[D]at V;cases V;simp only[toNat_natCast,r,getD_some]at g4;exact⟨e,j,z,d,g1,m,v,l,z3,I,Za⟩
 apply Nat.le_antisymm
 .refine DM (λk=>match Q.events.l[k]?with|some z=>((gp t 2 z.message).index-1).toNat|none=>0) (λk g=>?_) λk F g O H=>?_
  .have⟨z,j,e,d,u,S,n,o,T,U,h8,h9⟩:=r1 k g;rw[d];simp only[U];rw[show((j:Int)+1-1).toNat=j from Za]
   refine sU.2 ⟨Za,e,S,?_⟩
   have af:gp t 3 e.message=⟨q,k+1⟩:=by rcases IA t 3 e.message with⟨_,h⟩|⟨z',s,v,z3⟩;exact absurd ⟨u,T.symm⟩ (h _ (f D d));exact G.ok.zm.rcv _ s _ (f D d) v u (by rw[z3,T])
   simp only[qn,af,dP,n,o,toNat_natCast,r,getD_some];simp;omega
  have⟨z,j,e,d,u,S,n,o,T,U,_⟩:=r1 k g;have⟨z',K,e',w,W,B,ah,ai,X,Y,_⟩:=r1 F O;simp only[d,w,U,Y]at H;have Z:j=K:=Za
  subst Z;rw[S]at B;cases B;have:=G.ok.zm.rcv _ (f D d) _ (f D w) u W (by rw[<-T,X])
  simp only[bf.mk.injEq]at this;omega
 refine DM (λk=>match P.events.l[k]?with|some e=>((gp t 3 e.message).index-1).toNat|none=>0) (λk g=>?_) λk F g O H=>?_
 .have⟨e,j,z,d,u,S,n,o,T,U,h8⟩:=E k g;rw[d];simp only[U];rw[show((j:Int)+1-1).toNat=j from Za]
  exact sU.2 ⟨Za,z,S,by simp[dQ,n,o]⟩
 have⟨e,j,z,d,u,S,n,o,T,U,_⟩:=E k g;have⟨e',K,z',w,W,B,ah,ai,X,Y,_⟩:=E F O;simp only[d,w,U,Y]at H;have Z:j=K:=Za
 subst Z;rw[S]at B;cases B;have:=G.ok.zm.snd _ (f J d) _ (f J w) u W (by rw[<-T,X])
 simp only[bf.mk.injEq]at this;omega
theorem L7{t:Zj}(O:VT t){A:cu 200 bC}(U:eT t (bO t) A){c:Zy}(W:Cons t A c){p q:Nat}{P Q:cq}{a b:Int}(B:t.procs.l[p]?=some P)(D:t.procs.l[q]?=some Q)(G:c[p]?=some a)(J:c[q]?=some b):
 under t c p q=((P.events.l.take a.toNat).countP λe=>dP q e&&qn t c e:Nat):=by
 unfold under;rw[B,D,G,J];dsimp only;rw[Qs O U W B D G J,zB (dP q) (qn t c)];omega
theorem iA{σ ε ρ γ:Type}{step:σ->a_ (Fw σ ε ρ)}{B:ε->a_ γ}{fr:ρ->a_ γ}{P:γ->Prop}(n:Nat)(I:Nat->σ->Prop){s:σ}(c:I 0 s)
 (h:∀i s,i<n->I i s->Wp (step s) λw=>match w with|.n D=>I (i+1) D|.x e=>Wp (B e) P|.r b=>Wp (fr b) P)
 (G:∀s,I n s->Wp (step s) λw=>match w with|.n _=>False|.x e=>Wp (B e) P|.r b=>Wp (fr b) P):Wp ((bT step s).bind (Fw.elim B fr)) P:=by
 have key:∀m i s,i+m=n->I i s->Wp ((bT step s).bind (Fw.elim B fr)) P:=by
  intro m
  induction m with
  |zero=>intro i s z u;have⟨w,t,a⟩:=G s Zd;rw[gI,t];cases w with|n D=>grind|x e=>exact a|r b=>exact a
  |succ m C=>intro i s z u;have⟨w,t,a⟩:=h i s Za u;rw[gI,t];cases w with|n D=>grind|x e=>exact a|r b=>exact a
 exact key n 0 s (Nat.zero_add n) c
theorem kE:∀{c:Zy}{p:Nat}{a b:Int},c[p]?=some a->(c.set p b).sum=c.sum-a+b
 |[],_,_,_,h=>Ze|x::c,0,a,b,h=>Zd|x::c,p+1,a,b,h=>by have:=kE (b:=b) (by simpa using h);grind
theorem pF:∀{c:Zy},(∀(p:Nat)a,c[p]?=some a->0<=a)->0<=c.sum
 |[],_=>Zc|x::c,h=>by have b:=h 0 x rfl;have t:=pF (c:=c) λp a u=>h (p+1) a Zd;grind
theorem G5:∀{c:Zy},(∀(p:Nat)a,c[p]?=some a->0<=a)->c.sum=0->∀(p:Nat)a,c[p]?=some a->a=0
 |[],_,_,p,a,B=>Ze|x::c,h,D,p,a,B=>by have d:=h 0 x rfl;have b:∀(p:Nat)a,c[p]?=some a->0<=a:=λp a B=>h (p+1) a Zd;have t:=pF b;simp at D;cases p with|zero=>grind|succ p=>exact G5 b Za p a Zd
theorem IW:∀{c:Zy}{l:Zv},c.length=l.length->(∀(i:Nat)a b,c[i]?=some a->l[i]?=some b->a<=(b:Nat))->c.sum<=(l.sum:Nat)
 |[],[],_,_=>Zc|x::c,y::l,B,h=>by have d:=h 0 x y rfl rfl;have t:=IW (c:=c) (l:=l) Zd λi a b u w=>h (i+1) a b Zd Zd;grind
section
variable{t:Zj}{A:cu 200 bC}{c:Zy}
theorem jS.pos(h:jS t c)(p:Nat)(a:Int)(B:c[p]?=some a):0<=a:=(h.2 p a _ B (ζd (by have:=(ζe.1 B).1;rw[<-h.1];simp_all))).1
theorem jS.at_(h:jS t c){p:Nat}(b:p<t.procs.l.length):∃a,c[p]?=some a:=⟨_,ζd (by rw[h.1];omega)⟩
theorem jS.sum(h:jS t c):0<=c.sum/\c.sum<=(kM t:Nat):=
 ⟨pF h.pos,IW (by simp[h.1]) λi a b z u=>by
  cases w:t.procs.l[i]?with
  |none=>grind|some P=>simp[w]at u;rw[<-u];exact(h.2 i a P z w).2⟩
theorem jS.set(h:jS t c){p:Nat}{b:Int}{P:cq}(B:t.procs.l[p]?=some P)(d:0<=b)(e:b<=P.events.l.length):jS t (c.set p b):=by refine⟨by simp[h.1],λq a Q u w=>?_⟩;rw[getElem?_set]at u;split at u;grind;exact h.2 q a Q u w
def M3(t:Zj)(A:cu 200 bC)(c:Zy)(p:Nat):Prop:=∃P e a,t.procs.l[p]?=some P/\c[p]?=some a/\P.events.l[a.toNat]?=some e/\(e.kind=3->∃b,c[(ag A e.message).from_.proc.toNat]?=some b/\(ag A e.message).from_.index<=b)
theorem kJ.one{p k:Nat}{e f:Zn}(h:kJ t p k e)(g:kJ t p k f):e=f:=by have⟨P,u,w⟩:=h;have⟨Q,z,B⟩:=g;grind
theorem lR.le(h:lR t A c){p:Nat}{a b:Int}(G:c[p]?=some a)(J:a<=b)(O:∀(k:Nat)e,kJ t p k e->a<=k->(k:Int)<b->e.kind=3->∃B,(c.set p b)[(ag A e.message).from_.proc.toNat]?=some B/\(ag A e.message).from_.index<=B):lR t A (c.set p b):=by
 have f:=(ζe.1 G).1;have up:∀(q:Nat)x,c[q]?=some x->∃y,(c.set p b)[q]?=some y/\x<=y:=λq x u=>by rw[getElem?_set];grind
 intro q k e x w u d I;rw[getElem?_set]at u;have C:∀x,c[q]?=some x->k<x->∃B,(c.set p b)[(ag A e.message).from_.proc.toNat]?=some B/\(ag A e.message).from_.index<=B:=λx u d=>by have⟨y,L,Q⟩:=h q k e x w u d I;have⟨z,S,T⟩:=up _ y L;exact⟨z,S,Za⟩
 split at u;rename_i U;subst U;simp[f]at u;subst u;by_cases D:k<a;exact C a G D;exact O k e w Za d I;grind
theorem xd(D:VT t)(J:eT t (bO t) A){p k:Nat}{e:Zn}(B:kJ t p k e)(G:e.kind=3):∃q j:Nat,(ag A e.message).from_=⟨q,j+1⟩/\q≠p/\FJ t ⟨q,j+1⟩ ⟨p,k+1⟩/\∃y,kJ t q j y:=by have⟨q,j,y,u,z,C,y3,y4,y5⟩:=Bq D J B G;have w:(⟨p,k+1⟩,e)∈bO t:=dI.2 ⟨p,k,B,rfl⟩;refine⟨q,j,y5,?_,⟨y,e,dI.2 ⟨q,j,u,rfl⟩,w,z,G,C⟩,y,u⟩;rcases D.formed _ w with h|⟨_,_,_,h,_⟩;grind;grind
theorem Cons.up(O:VT t)(U:eT t (bO t) A)(G:Cons t A c){p:Nat}{a:Int}{P:cq}(B:t.procs.l[p]?=some P)(D:c[p]?=some a)(Y:a<P.events.l.length):M3 t A c p↔Cons t A (c.set p (a+1)):=by have d:=G.1.pos p a D;have g:=(ζe.1 D).1;constructor;rintro⟨Q,e,x,I,J,S,w⟩;rw[B]at I;cases I;rw[D]at J;cases J;refine⟨G.1.set B Za Za,G.2.le D Za λk f z T W Z=>?_⟩;have C:k=a.toNat:=Za;subst C;cases z.one ⟨P,B,S⟩;grind;intro h;have u:a.toNat<P.events.l.length:=Za;refine⟨P,P.events.l[a.toNat],a,B,D,ζd u,λw=>?_⟩;have⟨b,L,X⟩:=h.2 p a.toNat _ (a+1) ⟨P,B,ζd u⟩ Ze Za w;rw[getElem?_set]at L;split at L;have⟨q,j,i,l,_⟩:=xd O U ⟨P,B,ζd u⟩ w;grind;grind
noncomputable def Fs (t:Trace) (x:bf):Nat:=by
 classical
 exact(bO t).countP λz=>decide (Way t z.1 x)
theorem Ie (B:VT t) {x y:bf} (h:Way t x y):Fs t x<Fs t y:=by
 classical
 refine zO (λz _ u=>?_) ?_
 .have u:Way t z.1 x:=by grind
  simpa using u.trans h
 obtain⟨e,w⟩:=h.l;exact⟨(x,e),w,by simpa using λk=>B.ok.acyc ⟨x,k⟩,by grind⟩
theorem Q7 (x:bf):Fs t x<=(bO t).length:=by
 classical
 unfold Fs;grind
theorem Vd.of{p k:Nat}{e:Zn}(h:kJ t p k e):Vd t ⟨p,k+1⟩:=⟨e,dI.2 ⟨p,k,h,rfl⟩⟩
theorem G0{p:Nat}{P:cq}(B:t.procs.l[p]?=some P):∀(d k:Nat),k+d+1<P.events.l.length->Way t ⟨p,k+1⟩ ⟨p,((k+d+1:Nat):Int)+1⟩
 |0,k,h=>.single ⟨Vd.of ⟨P,B,ζd Za⟩,Vd.of ⟨P,B,ζd h⟩,.inl Zc⟩|d+1,k,h=>(G0 B d k Za).tail ⟨Vd.of ⟨P,B,ζd (show k+d+1<_ by omega)⟩,Vd.of ⟨P,B,ζd h⟩,.inl (by simp;omega)⟩
theorem SA{q k:Nat}{b:Int}{Q:cq}{x:bf}(B:t.procs.l[q]?=some Q)(h:Way t x ⟨q,k+1⟩)(a:(k:Int)<b)(D:b<=Q.events.l.length):Way t x ⟨q,b⟩:=by by_cases e:b=k+1;grind;have:=G0 B (b.toNat-k-2) k Za;rw[show((k+(b.toNat-k-2)+1:Nat)+1)=b from Za]at this;exact h.trans this
theorem Cons.IV(d:VT t)(f:eT t (bO t) A)(B:Cons t A c){p:Nat}{a:Int}(G:c[p]?=some a)(m:0<a):Cons t A (c.set p (a-1))\/∃(q:Nat)(b:Int),c[q]?=some b/\0<b/\Way t ⟨p,a⟩ ⟨q,b⟩:=by
 have g:=(ζe.1 G).1;have O:=ζd (show p<t.procs.l.length by rw[<-B.1.1];omega);have n:=B.1.2 p a _ G O;refine byContradiction λC=>C (.inl ⟨B.1.set O Za Za,λq k e x u J o S=>?_⟩);obtain⟨z,w,Z⟩:∃z,c[q]?=some z/\x<=z:=by rw[getElem?_set]at J;split at J;(next e2=>subst e2;simp[g]at J;exact⟨a,G,Za⟩);grind
 have⟨y,I,D⟩:=B.2 q k e z u w Za S;have⟨r,j,h,s,i,_⟩:=xd d f u S;rw[h]at I D⊢;simp only[toNat_natCast]at I D⊢;by_cases e2:p=r;subst e2;rw[G]at I;cases I;refine⟨a-1,Ze,?_⟩;refine byContradiction λv=>C (.inr ⟨q,z,w,Za,?_⟩);have:a=j+1:=Za;subst this;have⟨Q,T,_⟩:=u;have L:=B.1.2 q z Q w T;have⟨U,W,X,Y,l⟩:=i;exact SA T (.single ⟨⟨U,X⟩,⟨W,Y⟩,.inr ⟨U,W,X,Y,l⟩⟩) Za L.2;simp_all
theorem Cons.Uh(B:VT t)(D:eT t (bO t) A)(G:Cons t A c):∀(n p:Nat)(a:Int),c[p]?=some a->0<a->(bO t).length-Fs t ⟨p,a⟩<=n->∃(q:Nat)(b:Int),c[q]?=some b/\0<b/\Cons t A (c.set q (b-1)):=by
 intro n
 induction n with
 |zero=>intro p a u d C;rcases G.IV B D u d with h|⟨q,b,_,_,w⟩;grind;have:=Ie B w;have:=Q7 (t:=t) ⟨q,b⟩;omega
 |succ n I=>intro p a u d C;rcases G.IV B D u d with h|⟨q,b,J,z,w⟩;grind;have:=Ie B w;exact I q b J z Za
theorem Cons.down(D:VT t)(G:eT t (bO t) A)(B:Cons t A c)(J:0<c.sum):∃(q:Nat)(b:Int),c[q]?=some b/\0<b/\Cons t A (c.set q (b-1)):=by
 obtain⟨p,a,u,d⟩:∃(p:Nat)(a:Int),c[p]?=some a/\0<a:=by refine byContradiction λw=>?_;have z:∀a∈c,a=0:=λa u=>(by have⟨p,e⟩:=mem_iff_getElem?.1 u;have:=B.1.pos p a e;grind);have:c.sum=0:=(by clear B J w;induction c with|nil=>rfl|cons x c C=>simp_all);omega
 exact B.Uh D G _ p a u d (le_refl _)
theorem Cons.Ep(G:VT t)(J:eT t (bO t) A):∀(d:Nat){c:Zy}{k:Nat},Cons t A c->c.sum=((k+d:Nat):Int)->∃c',Cons t A c'/\c'.sum=(k:Int)
 |0,c,k,B,O=>⟨c,B,Zd⟩|d+1,c,k,B,O=>by have⟨q,b,U,W,D⟩:=B.down G J Za;exact Cons.Ep G J d D (by rw[kE U];omega)
end
theorem kq{α:Type}{s:Sl α}{n:Nat}(h:n<s.l.length):decide ((n:Int)<len s)=true:=by simp[len];omega
theorem kO{α:Type}{s:Sl α}:decide ((s.l.length:Int)<len s)=false:=by simp[len]
theorem As{α:Type}{s x:Sl α}(h:s.l.length+x.l.length<=2147483648):∃r,ny s x=some r/\r.l=s.l++x.l:=by unfold ny;by_cases e:x.l=[];rw[if_pos e];exact⟨s,rfl,by rw[e,List.append_nil]⟩;rw[if_neg e,if_pos h];exact⟨_,rfl,rfl⟩
theorem n9{α:Type}{s:Sl α}{x:α}(h:s.l.length<2147483648):∃r,gZ s x=some r/\r.l=s.l++[x]:=by unfold gZ;rw[if_pos Za];exact⟨_,rfl,rfl⟩
theorem rO{α:Type}{s:Sl α}{p:Nat}(h:p<s.l.length):Sl.lY s (p:Int)=some p:=by unfold Sl.lY;rw[if_pos ⟨Za,by simpa using h⟩];rfl
theorem put_eq{α:Type}{s:Sl α}{p:Nat}{x:α}(h:p<s.l.length):∃r,Sl.put s p x=some r/\r.l=s.l.set p x:=by unfold Sl.put;rw[if_pos h];exact⟨_,rfl,by cases s<;>first|rfl|(simp[Sl.l]at h)⟩
section
variable{t:Zj}{A:cu 200 bC}
def Vq(t:Zj)(A:cu 200 bC)(c:Zy)(n:Nat):Prop:=∀(p k:Nat)(e:Zn)(a:Int),p<n->kJ t p k e->c[p]?=some a->(k:Int)<a->e.kind=3->∃b,c[(ag A e.message).from_.proc.toNat]?=some b/\(ag A e.message).from_.index<=b
theorem SY(g:Small t)(U:VT t)(i:eT t (bO t) A){c:Zg}(l:jS t c.l):Wp (dK t c) λb=>(b=true↔lR t A c.l):=by
 have F:=l.1;have H:=U.few;unfold dK dK.W1;refine iA c.l.length (λn s=>s=(n:Int)/\Vq t A c.l n) ⟨rfl,λp k e a h=>absurd h Za⟩ ?_ ?_;rintro n _ B ⟨rfl,T⟩;unfold dK.bt;rw[kq B,bS];have z:n<t.procs.l.length:=by omega
 have K:=(g.2 _ (getElem_mem z)).1;have C:=ζd z;have D:=ζd B;have⟨r1,r2⟩:=l.2 n _ _ D C;have J:=bM B;generalize c.l[n]=a at *;generalize t.procs.l[n]=P at *;unfold dK.W2;refine iA a.toNat (λm s=>s=(m:Int)/\∀(k:Nat)(e:Zn),k<m->kJ t n k e->e.kind=3->∃b,c.l[(ag A e.message).from_.proc.toNat]?=some b/\(ag A e.message).from_.index<=b) ⟨rfl,λk e h=>absurd h Za⟩ ?_ ?_;rintro m _ M ⟨rfl,W⟩;unfold dK.cn;have L:m<P.events.l.length:=by omega
 have u:kJ t n m P.events.l[m]:=⟨P,C,ζd L⟩;rw[J,ζb,show decide ((m:Int)<a)=true from by simp;omega,bS,mK,C,ζb,bM L,ζb,cT m Za];generalize P.events.l[m]=e at *;have more:(e.kind=3->∃b,c.l[(ag A e.message).from_.proc.toNat]?=some b/\(ag A e.message).from_.index<=b)->∀(k:Nat)(e:Zn),k<m+1->kJ t n k e->e.kind=3->∃b,c.l[(ag A e.message).from_.proc.toNat]?=some b/\(ag A e.message).from_.index<=b:=λh k f o Z w=>by by_cases r:k=m;subst r;cases u.one Z;exact h w;exact W k f Za Z w
 rw[bU];refine⟨λw=>?_,λw=>(bg _).2 ⟨rfl,more λk=>by simp[k]at w⟩⟩;have w:e.kind=3:=by simpa using w
 have⟨q,j,d,_,_,y,Q,v,_⟩:=xd U i u w;have G:q<c.l.length:=by have:=(ζe.1 v).1;omega
 rw[find_eq g,El U i u w,ζb,d];simp only;rw[bM G,ζb,bU];refine⟨λX=>(bg _).2 ((bg _).2 ((bg _).2 ⟨λh=>(by cases h),λE=>?_⟩)),λY=>(bg _).2 ⟨rfl,more λ_=>?_⟩⟩;have⟨b,O,S⟩:=E n m e a u D Za w;rw[d]at O S;simp only[toNat_natCast,ζd G,ζa]at O S;simp only[decide_eq_true_eq]at X;omega;rw[d];exact⟨c.l[q],by simp only[toNat_natCast];exact ζd G,by simp at Y⊢;omega⟩;rintro _ ⟨rfl,W⟩;unfold dK.cn;rw[J,ζb,show decide ((a.toNat:Int)<a)=false from by simp;omega,bX];refine(bg _).2 ((bg _).2 ⟨cT n Za,λp k e x N u I o w=>?_⟩);by_cases e2:p=n;subst e2;rw[D]at I;cases I;exact W k e Za u w;exact T p k e x Za u I o w;rintro _ ⟨rfl,T⟩;unfold dK.bt;rw[kO,bX];exact(bg _).2 ((bg _).2 ⟨λ_ p k e a u I=>T p k e a (ζe.1 I).1 u I,λ_=>rfl⟩)
theorem Uj(D:Small t)(G:VT t)(J:eT t (bO t) A){c:Zg}(B:c.l.length=t.procs.l.length):Wp (vN t c) λb=>(b=true↔Cons t A c.l):=by unfold vN;rw[cR];refine(Re D B).mono λb w=>?_;rw[cR,bU];constructor;intro h;have z:=w.1 h;rw[cR];refine(SY D G J z).mono λI u=>?_;rw[bg,bg];exact u.trans ⟨λh=>⟨z,h⟩,λh=>h.2⟩;intro h;rw[bg,bg];exact⟨λh=>(by cases h),λC=>absurd (w.2 C.1) (by simp[h])⟩
theorem step_eq{c:Zg}{p:Nat}{a:Int}(B:c.l[p]?=some a)(D:c.l.length<=1073741824)(e:0<=a)(f:a<1073741824):∃d:Zg,qa c p=some d/\d.l=c.l.set p (a+1):=by have b:=(ζe.1 B).1;unfold qa;have⟨r,u,t⟩:=As (s:=Sl.row []) (x:=c) (show 0+c.l.length<=_ by omega);have t:r.l=c.l:=t;rw[u,ζb,rO (by rw[t];exact b),ζb];unfold Sl.get;rw[t,B,ζb,ζb,gU _ Za Za];have⟨d,w,z⟩:=put_eq (s:=r) (p:=p) (x:=a+1) (by rw[t];exact b);rw[w];exact⟨d,rfl,by rw[z,t]⟩
end
def ins(s:Zb):aZ Zy:=s.l.map Sl.l
theorem D2{c:Zg}(B:c.l.length<1073741824):wJ (f_ c):=by unfold f_ f_.W1;refine iA c.l.length (λn s=>s.2=(n:Int)) rfl ?_ ?_;rintro n ⟨x,_⟩ t h;simp only at h;subst h;unfold f_.bt;rw[kq t,bS,bM t,ζb,bg];exact cT n Za;rintro⟨x,_⟩ h;simp only at h;subst h;unfold f_.bt;rw[kO,bX,bg];exact(bg _).2 trivial
theorem JS{a b:Zg}(h:a.l.length=b.l.length)(B:a.l.length<1073741824):wJ (gw a b):=by have⟨x,u⟩:=(D2 B).get;have⟨y,w⟩:=(D2 (c:=b) Za).get;unfold gw;rw[u,ζb,w,ζb,ζb,ζb];refine bU.2 ⟨λ_=>?_,λ_=>(bg _).2 trivial⟩;unfold gw.W1;refine iA a.l.length (λn s=>s=(n:Int)) rfl ?_ ?_;rintro n _ t rfl;unfold gw.bt;rw[kq t,bS,bM t,ζb,bM (show n<b.l.length by omega),ζb,ζb,ζb,bU];exact⟨λ_=>(bg _).2 (cT n Za),λ_=>(bg _).2 ((bg _).2 trivial)⟩;rintro _ rfl;unfold gw.bt;rw[kO,bX,bg];exact(bg _).2 trivial
theorem QA{a b:Zg}(D:a.l.length<1073741824):Wp (eU a b) λr=>r=true->a.l=b.l:=by
 unfold eU;rw[bU];refine⟨λh=>?_,λ_=>(bg _).2 λh=>by cases h⟩;have h:(a.l.length:Int)=b.l.length:=by simpa[len]using h
 have h:a.l.length=b.l.length:=Za;unfold eU.W1;refine iA a.l.length (λn s=>s=(n:Int)/\∀i,i<n->a.l[i]?=b.l[i]?) ⟨rfl,λi h=>absurd h Za⟩ ?_ ?_;rintro n _ t ⟨rfl,u⟩;unfold eU.bt;have w:n<b.l.length:=by omega
 rw[kq t,bS,bM t,ζb,bM w,ζb,bU];refine⟨λB=>(bg _).2 ⟨cT n Za,λi z=>?_⟩,λ_=>(bg _).2 ((bg _).2 λh=>by cases h)⟩;by_cases e:i=n;subst e;rw[ζd t,ζd w];simpa using B;exact u i Za;rintro _ ⟨rfl,u⟩;unfold eU.bt;rw[kO,bX,bg];refine(bg _).2 λ_=>ext_getElem? λi=>?_;by_cases z:i<a.l.length;exact u i z;rw[getElem?_eq_none Za,getElem?_eq_none Za]
theorem HI{α:Type}(s:Sl α)(i:Nat)(h:i<=s.l.length):∃x,fQ s (some (i:Int)) none=some x/\x.l=s.l.drop i:=by unfold fQ dO;simp only[getD_some,Option.getD_none];rw[if_pos ⟨Za,Za,Za⟩];exact⟨_,rfl,by cases s<;>simp[Sl.l]⟩
theorem Lm{l:Zb}{c:Zg}(J:∀x∈l.l,x.l.length=c.l.length)(g:c.l.length<1073741824)(k:l.l.length<1073741824):
 Wp (gu l c) λr=>r.l.length<=l.l.length+1/\∀d,d∈ins r↔d∈ins l\/d=c.l:=by
 unfold gu gu.W1;have f:∀n:Nat,n<=l.l.length->Wp ((bq (decide ((n:Int)<(len l))) ((idx l n).bind λI=>(eU I c).bind λL=>some L) (some false):a_ Zl).bind λO=>
  bq O (some l) ((fQ l none (some (n:Int))).bind λw=>(ny (Sl.row []:Zb) w).bind λz=>(gZ z (c:Zg)).bind λB=>(fQ l (some (n:Int)) none).bind λC=>(ny B C).bind λD=>some D))
  λr=>r.l.length<=l.l.length+1/\∀d,d∈ins r↔d∈ins l\/d=c.l:=by
  intro n G;have u:Wp ((fQ l none (some (n:Int))).bind λw=>(ny (Sl.row []:Zb) w).bind λz=>(gZ z (c:Zg)).bind λB=>(fQ l (some (n:Int)) none).bind λC=>(ny B C).bind λD=>some D) λr=>r.l.length<=l.l.length+1/\∀d,d∈ins r↔d∈ins l\/d=c.l:=by have⟨x4,T,e4⟩:=qY l n G;have U:x4.l.length<=l.l.length:=(by rw[e4,length_take];omega);have⟨x5,W,e5⟩:=As (s:=(Sl.row []:Zb)) (x:=x4) (show 0+x4.l.length<=_ by omega);have e5:x5.l=x4.l:=e5;have⟨x6,X,e6⟩:=n9 (s:=x5) (x:=c) (by rw[e5];omega);have⟨x7,Y,e7⟩:=HI l n G;have⟨x8,Z,i⟩:=As (s:=x6) (x:=x7) (by rw[e6,e7,e5,ζi,List.length_drop,length_singleton];omega);rw[T,ζb,W,ζb,X,ζb,Y,ζb,Z,ζb,bg];have e:x8.l=l.l.take n++[c]++l.l.drop n:=(by rw[i,e6,e7,e5,e4]);refine⟨by rw[e];simp;omega,λd=>?_⟩;unfold ins;rw[e];simp only[map_append,mem_append,map_cons,map_nil,mem_singleton];have:l.l.map Sl.l=(l.l.take n).map Sl.l++(l.l.drop n).map Sl.l:=(by rw[<-map_append,take_append_drop]);rw[this,mem_append];constructor;rintro((h|h)|h);exact .inl (.inl h);exact .inr h;exact .inl (.inr h);rintro((h|h)|h);exact .inl (.inl h);exact .inr h;exact .inl (.inr h)
  by_cases h:n<l.l.length
  .rw[kq h,bS,bM h,ζb,cR,cR];refine(QA (b:=c) (by rw[J _ (getElem_mem h)];exact g)).mono λb Q=>?_
   rw[bg,bU];refine⟨λj=>(bg _).2 ⟨Za,λd=>⟨.inl,λS=>S.elim id λS=>?_⟩⟩,λ_=>u⟩
   rw[S,<-Q j];exact List.mem_map_of_mem (getElem_mem h)
  rw[show(n:Int)=(l.l.length:Nat)from Za,kO,bX,ζb,bX,<-show(n:Int)=(l.l.length:Nat)from Za]
  exact u
 refine iA l.l.length (λn s=>s=(n:Int)) rfl ?_ ?_
 .rintro n _ t rfl;unfold gu.bt;have⟨b,Q⟩:=(JS (a:=l.l[n]) (b:=c) (J _ (getElem_mem t)) (by rw[J _ (getElem_mem t)];exact g)).get
  rw[kq t,bS,bM t,ζb,Q,ζb,ζb,bU];refine⟨λ_=>(bg _).2 (cT n Za),λ_=>(bg _).2 ?_⟩
  exact f n Za
 rintro _ rfl;unfold gu.bt;rw[kO,bX,ζb,bX,bg];exact f _ (le_refl _)
def ve(t:Zj)(A:cu 200 bC)(c d:Zy):Prop:=∃(p:Nat)(a:Int),c[p]?=some a/\d=c.set p (a+1)/\Cons t A d
section
variable{t:Zj}{A:cu 200 bC}
theorem pn{s:Zb}{d:Zy}:d∈ins s↔∃x∈s.l,x.l=d:=by unfold ins;exact mem_map
theorem IM{r s:Zb}{x:Zg}(h:r.l=s.l++[x]){d:Zy}:d∈ins r↔d∈ins s\/d=x.l:=by unfold ins;rw[h];simp
theorem PF(W:Small t)(Y:VT t)(g:eT t (bO t) A){c:Zg}(f:Cons t A c.l):Wp (iR t c) λr=>r.l.length<=8/\∀d,d∈ins r↔ve t A c.l d:=by
 have Q:=f.1.1;have Z:=Y.few;unfold iR iR.W1;refine iA c.l.length (λn s=>s.2=(n:Int)/\s.1.l.length<=n/\∀d,d∈ins s.1↔∃(p:Nat)(a:Int),p<n/\c.l[p]?=some a/\d=c.l.set p (a+1)/\Cons t A d) ⟨rfl,le_refl _,λd=>⟨λh=>by simp[ins,Sl.l]at h,λ⟨p,a,h,_⟩=>absurd h Za⟩⟩ ?_ ?_;rintro n ⟨out,_⟩ B ⟨h,u,I⟩;simp only at h u I;subst h;have w:n<t.procs.l.length:=by omega
 have m:=(W.2 _ (getElem_mem w)).1;have z:=ζd B;have i:=f.1.2 n _ _ z (ζd w);unfold iR.bt;rw[kq B,bS,bM B,ζb,bM w,ζb,cT n Za];generalize c.l[n]=a at *;have keep:¬Cons t A (c.l.set n (a+1))->∀d,d∈ins out↔∃(p:Nat)(a:Int),p<n+1/\c.l[p]?=some a/\d=c.l.set p (a+1)/\Cons t A d:=λS d=>by rw[I];refine⟨λ⟨p,b,h,k⟩=>⟨p,b,Za,k⟩,λ⟨p,b,h,D,J,O⟩=>⟨p,b,?_,D,J,O⟩⟩;refine byContradiction λo=>S ?_;have:p=n:=Za;subst this;rw[z]at D;cases D;rw[<-J];exact O
 by_cases C:a<t.procs.l[n].events.l.length;have⟨d,j,G⟩:=step_eq (c:=c) z Za i.1 Za;rw[show decide (a<(len t.procs.l[n].events))=true from by simpa[len]using C,bS,j,ζb,cR,cR];refine(Uj W Y g (c:=d) (by rw[G,length_set];exact Q)).mono λb T=>?_;rw[G]at T;rw[bg,bU];constructor;intro l;have⟨r,U,L⟩:=n9 (s:=out) (x:=d) Za;rw[ζb,U,ζb,bg];refine⟨rfl,by rw[L];simp;omega,λe=>?_⟩;rw[IM L,I,G];constructor;rintro(⟨p,b,h,k⟩|h);exact⟨p,b,Za,k⟩;exact⟨n,a,Za,z,h,by rw[h];exact T.1 l⟩;rintro⟨p,b,h,D,J,O⟩;by_cases e2:p=n;subst e2;rw[z]at D;cases D;exact .inr J;exact .inl ⟨p,b,Za,D,J,O⟩;intro X;exact(bg _).2 ⟨rfl,Nat.le_succ_of_le u,keep λh=>by rw[T.2 h]at X;cases X⟩;rw[show decide (a<(len t.procs.l[n].events))=false from by simpa[len]using C,bX,ζb,bX,bg];refine⟨rfl,Nat.le_succ_of_le u,keep λh=>?_⟩;have:=h.1.2 n (a+1) _ (by simp[getElem?_set,B]) (ζd w);omega;rintro⟨out,_⟩ ⟨h,u,I⟩;simp only at h u I;subst h;unfold iR.bt;rw[kO,bX,bg];refine(bg _).2 ⟨show out.l.length<=8 by omega,λd=>(I d).trans ⟨λ⟨p,a,_,h⟩=>⟨p,a,h⟩,λ⟨p,a,h⟩=>⟨p,a,(ζe.1 h.1).1,h⟩⟩⟩
def AU(t:Zj)(A:cu 200 bC)(k:Nat)(s:Zb):Prop:=∀d,d∈ins s↔Cons t A d/\d.sum=(k:Int)
theorem ve.iff(B:VT t)(D:eT t (bO t) A){k:Nat}{d:Zy}:(∃c,(Cons t A c/\c.sum=(k:Int))/\ve t A c d)↔Cons t A d/\d.sum=((k+1:Nat):Int):=by
 constructor;rintro⟨c,⟨z,C⟩,p,a,G,rfl,u⟩;exact⟨u,by rw[kE G];omega⟩;rintro⟨u,C⟩;have⟨q,b,w,I,z⟩:=u.down B D Za;have f:=(ζe.1 w).1;refine⟨_,⟨z,by rw[kE w];omega⟩,q,b-1,by simp[f],?_,u⟩;rw[List.set_set,show b-1+1=b from Za];refine ext_getElem? λi=>?_;rw[getElem?_set];split;next e=>subst e;simp[f,w];exact(ζe.1 w).2.symm▸rfl
 rfl
theorem u7{s:Zb}{n:Nat}(h:n<s.l.length){d:Zy}:d∈(s.l.take (n+1)).map Sl.l↔d∈(s.l.take n).map Sl.l\/d=s.l[n].l:=by rw[show s.l.take (n+1)=s.l.take n++[s.l[n]]from by rw[take_add_one,ζd h];rfl];simp only[map_append,mem_append,map_cons,map_nil,mem_singleton]
theorem IT:∀n:Nat,(replicate n (0:Int)).sum=0
 |0=>rfl|n+1=>by rw[List.replicate_succ,sum_cons,IT n];rfl
theorem xR:Cons t A (replicate t.procs.l.length 0):=by
 have w:∀(p:Nat)a,(replicate t.procs.l.length (0:Int))[p]?=some a->a=0:=λp a h=>by rw[List.getElem?_replicate]at h;split at h<;>cases h;rfl
 exact⟨⟨Zc,λp a P u _=>by rw[w p a u];omega⟩,λp k e a _ u b=>by rw[w p a u]at b;omega⟩
theorem R3{z:Zg}(B:z.l=replicate t.procs.l.length 0):AU t A 0 (Sl.row [z]):=by
 intro d;have:d∈ins (Sl.row [z])↔d=replicate t.procs.l.length 0:=by unfold ins;rw[<-B];exact mem_singleton
 rw[this];constructor;rintro rfl;exact⟨xR,by rw[IT];rfl⟩;rintro⟨u,w⟩;refine ext_getElem? λi=>?_;rw[List.getElem?_replicate,<-u.1.1];split;next C=>have h:=ζd C;rw[h,G5 u.1.pos (by simpa using w) i _ h]
 exact getElem?_eq_none Za
theorem AU.none(D:VT t)(G:eT t (bO t) A){k:Nat}{s:Zb}(h:AU t A k s)(J:s.l.length=0){d:Zy}(B:Cons t A d):d.sum<(k:Int):=by refine byContradiction λu=>?_;have a:=pF B.1.pos;have⟨c,w,z⟩:=Cons.Ep D G (d.sum.toNat-k) (k:=k) B Za;have:=(h c).2 ⟨w,z⟩;have⟨x,C,_⟩:=pn.1 this;have:=List.length_pos_of_mem C;omega
theorem AU.last{s:Zb}(h:AU t A (kM t+1) s):s.l.length=0:=by refine byContradiction λu=>?_;have w:=getElem_mem (show 0<s.l.length by omega);have:=(h s.l[0].l).1 (pn.2 ⟨_,w,rfl⟩);have:=this.1.1.sum;omega
theorem Ck{α:Type}(s:Sl α):decide ((len s)>0)= !decide (s.l.length=0):=by by_cases h:s.l.length=0;simp[len,h];simp[h,len];omega
theorem Nv(o:Small t)(J:VT t)(O:eT t (bO t) A):Wp (eS t) λr=>r.2=true->∀d,Cons t A d->d∈ins r.1:=by
 have K:=J.few;unfold eS nG;rw[if_pos ⟨by simp[len],by simp[len];omega⟩,ζb];unfold eS.W1;refine iA (kM t+1) (λk s=>AU t A k s.1/\(∀d,Cons t A d->d.sum<(k:Int)->d∈ins s.2)/\s.1.l.length<=40000/\s.2.l.length<=5000) ⟨?_,λd C h=>absurd (pF C.1.pos) (by simp at h;omega),by simp[Sl.l],by simp[Sl.l]⟩ ?_ ?_;exact R3 (by simp[Sl.l,len]);rintro k ⟨u,out⟩ M ⟨b,I,T,U⟩;simp only at b I T U;unfold eS.bt;rw[Ck];by_cases W:u.l.length=0;rw[show(!decide (u.l.length=0))=false from by simp[W],bX,bg];exact(bg _).2 λ_ d C=>I d C (b.none J O W C);rw[show(!decide (u.l.length=0))=true from by simp[W],bS];have⟨x,q,L⟩:=As (s:=out) (x:=u) Za;rw[q,ζb,bU];refine⟨λ_=>(bg _).2 ((bg _).2 λh=>by cases h),λQ=>?_⟩;have Q:x.l.length<=5000:=by simp[len]at Q;omega
 have N:u.l.length<=5000:=by rw[L,ζi]at Q;omega
 have X:∀d,d∈ins x↔d∈ins out\/d∈ins u:=λd=>by unfold ins;rw[L];simp
 unfold eS.W2;refine iA u.l.length (λn s=>s.2=(n:Int)/\s.1.l.length<=8*n/\∀d,d∈ins s.1↔∃c∈(u.l.take n).map Sl.l,ve t A c d) ⟨rfl,zero_le _,λd=>by simp[ins,Sl.l]⟩ ?_ ?_;rintro n ⟨more,_⟩ w ⟨e,g1,g2⟩;simp only at e g1 g2;subst e;unfold eS.cn;have Y:=(b u.l[n].l).1 (pn.2 ⟨_,getElem_mem w,rfl⟩);rw[kq w,bS,bM w,ζb,cR];refine(PF o J O Y.1).mono λnx S=>?_;unfold eS.W3;have B:∀d,Cons t A d->d.length=t.procs.l.length:=λd h=>h.1.1;refine iA nx.l.length (λm s=>s.2=(m:Int)/\s.1.l.length<=8*n+m/\∀d,d∈ins s.1↔d∈ins more\/d∈(nx.l.take m).map Sl.l) ⟨rfl,g1,λd=>Zc⟩ ?_ ?_;rintro m ⟨Z,_⟩ D ⟨e,i,g⟩;simp only at e i g;subst e;unfold eS.eH;rw[kq D,bS,bM D,ζb,cR];have v:nx.l[m].l.length=t.procs.l.length:=by have⟨p,a,_,_,k⟩:=(S.2 nx.l[m].l).1 (pn.2 ⟨_,getElem_mem D,rfl⟩);exact B _ k
 refine(Lm (l:=Z) (c:=nx.l[m]) (λy E=>?_) Za Za).mono λr j=>?_;rw[v];rcases(g y.l).1 (pn.2 ⟨_,E,rfl⟩)with h|h;have⟨_,_,p,a,_,_,k⟩:=(g2 y.l).1 h;exact B _ k;have⟨z,F,e⟩:=mem_map.1 h;have⟨p,a,_,_,k⟩:=(S.2 z.l).1 (pn.2 ⟨_,mem_of_mem_take F,rfl⟩);rw[<-e];exact B _ k;refine(bg _).2 ⟨cT m Za,le_trans j.1 Za,λd=>?_⟩;rw[j.2,g,u7 D,or_assoc];rintro⟨Z,_⟩ ⟨e,i,g⟩;simp only at e i g;subst e;unfold eS.eH;rw[kO,bX,bg];refine(bg _).2 ⟨cT n Za,show Z.l.length<=_ by omega,λd=>?_⟩;rw[g,take_length];constructor;rintro(h|h);have⟨c,f,G⟩:=(g2 d).1 h;exact⟨c,(u7 w).2 (.inl f),G⟩;exact⟨_,(u7 w).2 (.inr rfl),(S.2 d).1 h⟩;rintro⟨c,f,G⟩;rcases(u7 w).1 f with h|h;exact .inl ((g2 d).2 ⟨c,h,G⟩);subst h;exact .inr ((S.2 d).2 G);rintro⟨more,_⟩ ⟨e,g1,g2⟩;simp only at e g1 g2;subst e;unfold eS.cn;rw[kO,bX,bg];refine(bg _).2 ⟨λd=>?_,λd C G=>?_,show more.l.length<=_ by omega,Q⟩;rw[g2,take_length,<-ve.iff J O (k:=k)];exact⟨λ⟨c,f,G⟩=>⟨c,(b c).1 f,G⟩,λ⟨c,f,G⟩=>⟨c,(b c).2 f,G⟩⟩;rw[X];by_cases H:d.sum<(k:Int);exact .inl (I d C H);exact .inr ((b d).2 ⟨C,Za⟩);rintro⟨u,out⟩ ⟨b,I,T,U⟩;simp only at b I T U;unfold eS.bt;rw[Ck,show(!decide (u.l.length=0))=false from by simp[b.last],bX,bg];exact(bg _).2 λ_ d C=>I d C (b.none J O b.last C)
end
def iP:Zy->Zy->Int
 |[],[]=>0|[],_::_=>-1|_::_,[]=>1|x::a,y::b=>if x<y then -1 else if x>y then 1 else iP a b
theorem yE:∀a,iP a a=0
 |[]=>rfl|x::a=>by simp[iP,yE a]
theorem Dg:∀a b c,iP a b<0->iP b c<0->iP a c<0
 |[],[],_,h,_=>by simp[iP]at h|[],_::_,[],_,h=>by simp[iP]at h|[],_::_,_::_,_,_=>by simp[iP]|_::_,[],_,h,_=>by simp[iP]at h|_::_,_::_,[],_,h=>by simp[iP]at h|x::a,y::b,z::c,h1,B=>by have D:=Dg a b c;simp only[iP]at h1 B⊢;split at h1;split at B;rw[if_pos Za];omega;split at B;omega;rw[if_pos Za];omega;split at h1;omega;split at B;rw[if_pos Za];omega;split at B;omega;rw[if_neg Za,if_neg Za];exact D h1 B
theorem C4:∀a b,¬iP a b<0->¬iP b a<0->a=b
 |[],[],_,_=>rfl|[],_::_,h,_=>by simp[iP]at h|_::_,[],_,h=>by simp[iP]at h|x::a,y::b,h1,B=>by have D:=C4 a b;simp only[iP]at h1 B;split at h1;omega;split at B;omega;rw[D (by first|assumption|(split at h1<;>first|assumption|omega)) (by first|assumption|(split at B<;>first|assumption|omega)),show x=y from Za]
theorem M7(a b c:Zy)(d:¬iP a b<0)(B:¬iP b c<0):¬iP a c<0:=λh=>by by_cases t:iP b a<0;exact B (Dg b a c t h);rw[C4 a b d t]at h;exact B h
theorem NZ{α:Type}{s:Sl α}{p:α->α->Z6}{f:α->Zy}(b:∀x y,x∈s.l->y∈s.l->p x y=some (iP (f x) (f y)))(U:s.l.length<2147483648):∃r,xX s p=some r/\r.l.Perm s.l/\r.l.Pairwise λx y=>¬iP (f y) (f x)<0:=by
 unfold xX;split;next h=>exact⟨s,rfl,List.Perm.refl _,by rw[h];exact Pairwise.nil⟩
 rename_i x l h;rw[if_pos (by rw[h]at U;simp at U;omega)];simp only;have Q:∀i j:_root_.Fin (l.length+1),p (x::l)[i.1] (x::l)[j.1]=some (iP (f (x::l)[i.1]) (f (x::l)[j.1])):=λi j=>b _ _ (by rw[h];exact getElem_mem _) (by rw[h];exact getElem_mem _);have B:(oC λi j:_root_.Fin (l.length+1)=>p (x::l)[i.1] (x::l)[j.1])=λi j=>decide (iP (f (x::l)[i.1]) (f (x::l)[j.1])<0):=by funext i j;unfold oC;show decide ((p _ _).getD 0<0)=_;rw[Q];rfl
 have C:zU (λi j:_root_.Fin (l.length+1)=>p (x::l)[i.1] (x::l)[j.1])=true:=by have t:∀i j,oC (λi j:_root_.Fin (l.length+1)=>p (x::l)[i.1] (x::l)[j.1]) i j=decide (iP (f (x::l)[i.1]) (f (x::l)[j.1])<0):=λi j=>(by rw[B]);refine all_eq_true.2 λi _=>Bool.and_eq_true_iff.2 ⟨by rw[t,yE];rfl,all_eq_true.2 λj _=>Bool.and_eq_true_iff.2 ⟨by show(p _ _).isSome=true;rw[Q];rfl,all_eq_true.2 λk _=>Bool.and_eq_true_iff.2 ⟨?_,?_⟩⟩⟩;have:=Dg (f (x::l)[i.1]) (f (x::l)[j.1]) (f (x::l)[k.1]);rw[t,t,t];simp only[or_eq_true,not_eq_true',Bool.and_eq_false_iff,decide_eq_true_eq,decide_eq_false_iff_not];omega;have:=M7 (f (x::l)[i.1]) (f (x::l)[j.1]) (f (x::l)[k.1]);rw[t,t,t];simp only[or_eq_true,not_eq_true',decide_eq_true_eq,decide_eq_false_iff_not];omega
 rw[if_pos C];have D:=(pO C).2;have I:=Sort.pdq_sorts _ D (finRange (l.length+1)).toArray 0 (l.length+1) (Lib.bitLen (l.length+1)) true true (zero_le _) Zc (Or.inl rfl);rw[<-A_]at I;generalize pg l.length _=d at I;have⟨⟨w,_,u⟩,z⟩:=I;have w:d.size=l.length+1:=by simpa using w
 have G:∀y:aZ α,(s.re y).l=y:=λy=>by cases s<;>first|rfl|(simp[Sl.l]at h)
 refine⟨_,rfl,?_,?_⟩;rw[G,h];have a:d.extract 0 (l.length+1)=d:=Array.ext (by simp[w]) λi a J=>by simp
 rw[a]at u;have J:((finRange (l.length+1)).toArray.extract 0 (l.length+1)).toList=finRange (l.length+1):=by simp[take_of_length_le]
 rw[J]at u;refine(u.map _).trans ?_;rw[show(finRange (l.length+1)).map (λi=>(x::l)[i.1])=x::l from ?_];exact List.ext_getElem Zc λi a J=>Zc;rw[G,pairwise_map,List.pairwise_iff_getElem];intro i j S L O;have:=z i j (zero_le _) O (by simpa[w]using L);rw[B]at this;simp only[Array.length_toList]at S L;simp only[getElem!_pos d i S,getElem!_pos d j L,decide_eq_false_iff_not]at this;simpa using this
theorem Nr{α:Type}{s:Sl α}{p:α->α->a_ Zl}{f:α->Zy}(c:∀x y,x∈s.l->y∈s.l->p x y=some (decide (f x=f y)))(m:s.l.length<2147483648)(g:s.l.Pairwise λx y=>¬iP (f y) (f x)<0):
 ∃r,wA s p=some r/\(r.l.map f).Nodup/\(∀d,d∈r.l.map f↔d∈s.l.map f)/\r.l.length<=s.l.length:=by
 have Q:∀i,i<s.l.length->0<i->∃(a:i<s.l.length)(L:i-1<s.l.length),rY s.l p i=some (decide (f s.l[i]=f s.l[i-1])):=λi h n=>by refine⟨h,Za,?_⟩;unfold rY;rw[ζd h,ζd (show i-1<s.l.length by omega)];exact c _ _ (getElem_mem _) (getElem_mem _)
 unfold wA;rw[if_pos ⟨Za,all_eq_true.2 λi O=>by
  by_cases h:i=0
  .subst h;rfl
  have⟨_,_,e⟩:=Q i (List.mem_range.1 O) Za
  rw[e];simp⟩]
 have z:∀y:aZ α,(s.l=[]->y=[])->(s.rQ y).l=y:=λy w=>by cases s<;>first|rfl|exact(w rfl).symm
 have S:∀i,i∈kept (λi=>(rY s.l p i).getD false) s.l.length↔i<s.l.length/\(i=0\/(rY s.l p i).getD false=false):=λi=>by unfold kept;simp[List.mem_filter]
 have B:=Av (λi=>(rY s.l p i).getD false) s.l.length
 have T:(kept (λi=>(rY s.l p i).getD false) s.l.length).Pairwise (·<·):=by unfold kept;exact List.pairwise_lt_range.filter _
 generalize kept (λi=>(rY s.l p i).getD false) s.l.length=K at *
 have u:(s.rQ (K.filterMap (s.l[·]?))).l=K.filterMap (s.l[·]?):=z _ λh=>by rw[h];simp
 refine⟨_,rfl,?_,λd=>?_,?_⟩
 .rw[u,Nodup,pairwise_map,List.pairwise_filterMap];refine T.imp_of_mem ?_;intro i j O Z o x t y w C;have⟨U,D⟩:=(S j).1 Z;have⟨a,L,e⟩:=Q j U Za
  rw[e]at D;have W:¬f s.l[j]=f s.l[j-1]:=by rcases D with h|h;omega;simpa using h
  rw[ζd a]at w;cases w;have G:i<s.l.length:=Za
  rw[ζd G]at t;cases t;have I:=List.pairwise_iff_getElem.1 g;have k:=I (j-1) j L a Za
  refine W (C4 _ _ k ?_)
  by_cases e2:i=j-1
  .subst e2;rw[<-C,yE];omega
  have Y:=I i (j-1) G L Za
  rw[C]at Y;exact Y
 .rw[u];simp only[mem_map,List.mem_filterMap];constructor
  .rintro⟨x,⟨i,_,t⟩,rfl⟩;exact⟨x,mem_of_getElem? t,rfl⟩
  rintro⟨x,t,rfl⟩;have⟨i,O⟩:=mem_iff_getElem?.1 t;have key:∀(i:Nat)x,s.l[i]?=some x->∃y,(∃j,j∈K/\s.l[j]?=some y)/\f y=f x:=by intro i;induction i with|zero=>intro x t;exact⟨x,⟨0,(S 0).2 ⟨(ζe.1 t).1,.inl rfl⟩,t⟩,rfl⟩|succ i ih=>intro x t;have J:=(ζe.1 t).1;have⟨a,L,e⟩:=Q (i+1) J Za;have X:s.l[i+1]=x:=(ζe.1 t).2;by_cases b:f s.l[i+1]=f s.l[i+1-1];have⟨y,w,l⟩:=ih _ (ζd (show i<s.l.length by omega));exact⟨y,w,by rw[l,<-X];exact b.symm⟩;exact⟨x,⟨i+1,(S _).2 ⟨J,.inr (by rw[e];simpa using b)⟩,t⟩,rfl⟩
  exact key i x O
 rw[u];exact le_trans (List.length_filterMap_le ..) B
theorem Kw{a b:Zg}(J:a.l.length<1073741824):jk a b=some (iP a.l b.l):=by
 refine Wp.eq ?_;unfold jk eR eR.W1;rw[cR];refine iA a.l.length (λn s=>s=(n:Int)/\n<=b.l.length/\iP (a.l.drop n) (b.l.drop n)=iP a.l b.l) ⟨rfl,zero_le _,rfl⟩ ?_ ?_;rintro n _ u ⟨rfl,B,t⟩;unfold eR.bt;rw[kq u,bS,bM u,ζb];have G:a.l.drop n=a.l[n]::a.l.drop (n+1):=drop_eq_getElem_cons u;by_cases C:n<b.l.length;have D:b.l.drop n=b.l[n]::b.l.drop (n+1):=drop_eq_getElem_cons C;rw[show decide ((n:Int)>=len b)=false from by simp[len];omega,bX,bM C,ζb];rw[G,D]at t;simp only[iP]at t;generalize a.l[n]=x at *;generalize b.l[n]=y at *;have w:ou x y=some (if x<y then -1 else if x>y then 1 else 0):=by unfold ou kF;simp only[bne_self_eq_false,ζb,bX,bS];by_cases c:x<y;simp[c,bq];by_cases z:x>y;simp[c,z,bq];simp[c,z,bq]
 rw[w,ζb];by_cases c:x<y;rw[if_pos c]at t⊢;rw[show((-1:Int)==0)=false from rfl,bX,bg];exact(bg _).2 ((bg _).2 t);rw[if_neg c]at t⊢;by_cases z:x>y;rw[if_pos z]at t⊢;rw[show((1:Int)==0)=false from rfl,bX,bg];exact(bg _).2 ((bg _).2 t);rw[if_neg z]at t⊢;rw[show((0:Int)==0)=true from rfl,bS,bg];exact⟨cT n Za,C,t⟩;rw[show decide ((n:Int)>=len b)=true from by simp[len];omega,bS,bg];rw[G,List.drop_eq_nil_of_le (show b.l.length<=n by omega)]at t;exact(bg _).2 ((bg _).2 t);rintro _ ⟨rfl,B,t⟩;unfold eR.bt;rw[kO,bX,bg];rw[List.drop_eq_nil_of_le (le_refl _)]at t;by_cases h:a.l.length<b.l.length;rw[show decide (len a<len b)=true from by simp[len];omega,bS];rw[drop_eq_getElem_cons h]at t;exact(bg _).2 ((bg _).2 t);rw[show decide (len a<len b)=false from by simp[len];omega,bX];rw[List.drop_eq_nil_of_le (show b.l.length<=a.l.length by omega)]at t;exact(bg _).2 ((bg _).2 t)
theorem GU{a b:Zg}(D:a.l.length<1073741824):eA a b=some (decide (a.l=b.l)):=by
 refine Wp.eq ?_;unfold eA;rw[bU];refine⟨λh=>?_,λh=>(bg _).2 ?_⟩;have h:(a.l.length:Int)=b.l.length:=by simpa[len]using h
 have h:a.l.length=b.l.length:=Za;unfold eA.W1;refine iA a.l.length (λn s=>s=(n:Int)/\∀i,i<n->a.l[i]?=b.l[i]?) ⟨rfl,λi h=>absurd h Za⟩ ?_ ?_;rintro n _ t ⟨rfl,w⟩;unfold eA.bt;have z:n<b.l.length:=by omega
 rw[show decide ((n:Int)<len a)=true from kq t,bS,bM t,ζb,bM z,ζb,bU];refine⟨λu=>(bg _).2 ⟨cT n Za,λi B=>?_⟩,λu=>(bg _).2 ((bg _).2 ?_)⟩;by_cases e:i=n;subst e;rw[ζd t,ζd z];simpa using u;exact w i Za;refine(decide_eq_false λe=>?_).symm;have c:a.l[n]?=b.l[n]?:=by rw[e]
 rw[ζd t,ζd z]at c;simp at u c;exact u c;rintro _ ⟨rfl,w⟩;unfold eA.bt;rw[kO,bX,bg];refine(bg _).2 (decide_eq_true (ext_getElem? λi=>?_)).symm;by_cases B:i<a.l.length;exact w i B;rw[getElem?_eq_none Za,getElem?_eq_none Za];refine(decide_eq_false λe=>?_).symm;simp[len,e]at h
section
variable{t:Zj}{A:cu 200 bC}
def tI(A:cu 200 bC)(e:Zn):bf:=if e.kind=3 then(ag A e.message).from_ else⟨0,0⟩
structure Ph(t:Trace)(A:cu 200 bC)(n:Nat)(m:cm):Prop where
 lens:m.lengths.l=(t.procs.l.take n).map λP=>(P.events.l.length:Int)
 need:m.need.l.map Sl.l=(t.procs.l.take n).map λP=>P.events.l.map (tI A)
theorem of_wp(Y:Small t)(g:cA t=some true)(d:VT t)(f:eT t (bO t) A):Wp (jJ t) (Ph t A t.procs.l.length):=by
 have Z:=d.few;unfold jJ jJ.W1;refine iA t.procs.l.length (λn s=>s.1=(n:Int)/\s.2.1=t/\Ph t A n s.2.2.2) ⟨rfl,rfl,rfl,rfl⟩ ?_ ?_;rintro n ⟨_,_,h,I⟩ z ⟨a,B,u⟩;simp only at a B u;subst a;have B:=B.symm;subst B;unfold jJ.bt;rw[kq z,bS,bM z,ζb];have O:=ζd z;have M:=(Y.2 _ (getElem_mem z)).1;generalize N:t.procs.l[n]=P at *;unfold jJ.W2;refine iA P.events.l.length (λk s=>s.2.1=(k:Int)/\s.2.2.1=t/\s.2.2.2.2=I/\s.1.l=(P.events.l.take k).map (tI A)) ⟨rfl,rfl,rfl,rfl⟩ ?_ ?_;rintro k ⟨nd,_,_,T,_⟩ c ⟨Q,C,D,L⟩;simp only at Q C D L;subst Q;have C:=C.symm;have D:=D.symm;subst C D;unfold jJ.cn;rw[kq c,bS,bM c,ζb];have U:kJ t n k P.events.l[k]:=⟨P,O,ζd c⟩;have G:P.events.l.take (k+1)=P.events.l.take k++[P.events.l[k]]:=by rw[take_add_one,ζd c];rfl
 generalize P.events.l[k]=e at *;have fin:∀id,id=tI A e->Wp (jJ.J3 nd t.procs (len t.procs) n P.events (len P.events) k t ⟨Sl.nil,Sl.nil⟩ I P id) λw=>match w with|.n S=>S.2.1=((k+1:Nat):Int)/\S.2.2.1=t/\S.2.2.2.2=I/\S.1.l=(P.events.l.take (k+1)).map (tI A)|.x e=>False|.r b=>False:=λid W=>by unfold jJ.J3;have⟨r,i,l⟩:=n9 (s:=nd) (x:=id) (by rw[L];simp;omega);rw[i,ζb,bg];exact⟨cT k Za,rfl,rfl,by rw[l,L,G,map_append,W];rfl⟩
 rw[bU];constructor;intro u;have u:e.kind=3:=by simpa using u
 have⟨q,j,y,m,o,p,y3,y4,y5⟩:=Bq d f U u;have X:=DG Y g f (dI.2 ⟨q,j,m,rfl⟩:((⟨q,j+1⟩:bf),y)∈bO t) o;simp only at X;rw[p]at X;rw[X,ζb];refine(fin _ (by unfold tI;rw[if_pos u,y5])).mono λw J=>?_;cases w with|n s=>exact J|x e=>exact J.elim|r b=>exact J.elim
 intro u;have u:¬e.kind=3:=by simpa using u
 refine(fin _ (by unfold tI;rw[if_neg u])).mono λw J=>?_;cases w with|n s=>exact J|x e=>exact J.elim|r b=>exact J.elim
 rintro⟨nd,_,_,T,_⟩ ⟨Q,C,D,L⟩;simp only at Q C D L;subst Q;have C:=C.symm;have D:=D.symm;subst C D;unfold jJ.cn;have R:I.lengths.l.length=n:=by rw[u.lens];simp;omega
 have V:I.need.l.length=n:=by have:=congrArg List.length u.need;simp at this;omega
 have⟨v,E,F⟩:=n9 (s:=I.lengths) (x:=len P.events) Za;have⟨x2,H,K⟩:=n9 (s:=I.need) (x:=nd) Za;rw[kO,bX,bg];simp only;rw[E,ζb,H,ζb,bg];have G:t.procs.l.take (n+1)=t.procs.l.take n++[P]:=by rw[take_add_one,O];rfl
 refine⟨cT n Za,rfl,?_,?_⟩;show v.l=_;rw[F,u.lens,G,map_append];rfl;show x2.l.map Sl.l=_;rw[K,map_append,u.need,G,map_append,map_cons,L,take_length];rfl;rintro⟨_,_,h,I⟩ ⟨a,B,u⟩;simp only at a B u;subst a;have B:=B.symm;subst B;unfold jJ.bt;rw[kO,bX,bg];exact(bg _).2 u
theorem MQ(f:VT t)(g:eT t (bO t) A){m:cm}(n:Ph t A t.procs.l.length m){c:Zg}(D:Cons t A c.l){p:Nat}(o:p<t.procs.l.length):
 Wp (nk m c p) λb=>(b=true↔∃a,c.l[p]?=some a/\Cons t A (c.l.set p (a+1))):=by
 have ab:=D.1.1;have u:=ζd o;have⟨a,w⟩:=D.1.at_ o;have H:=D.1.2 p a _ w u;generalize t.procs.l[p]=P at *;have G:m.lengths.l[p]?=some (P.events.l.length:Int):=by rw[n.lens,take_length,getElem?_map,u];rfl
 have L:=(ζe.1 w).1;have O:idx c (p:Int)=some a:=by rw[mK];exact w
 unfold nk;rw[O,ζb,mK,G,ζb,bU];constructor
 .intro h;have h:a=P.events.l.length:=by simpa using h
  refine(bg _).2 ⟨λh=>(by cases h),λ⟨b,B,S⟩=>?_⟩
  rw[w]at B;cases B;have:=S.1.2 p (a+1) P (by simp[L]) u
  omega
 intro h;have h:¬a=P.events.l.length:=by simpa using h
 have T:a<P.events.l.length:=Za
 have r:=congrArg (λl=>l[p]?) n.need
 simp only[take_length,getElem?_map,u,Option.map_some]at r;have⟨nd,U,W⟩:=ζf.1 r;have z:a.toNat<P.events.l.length:=Za
 have K:idx nd a=some (tI A P.events.l[a.toNat]):=by rw[NG H.1,W,getElem?_map,ζd z];rfl
 rw[mK,U,ζb,ζb,K,ζb];have X:=D.up f g u w T;have I:(∃b,c.l[p]?=some b/\Cons t A (c.l.set p (b+1)))↔M3 t A c.l p:=by rw[X];exact⟨λ⟨b,B,k⟩=>by rw[w]at B;cases B;exact k,λk=>⟨a,w,k⟩⟩
 rw[I];have Y:kJ t p a.toNat P.events.l[a.toNat]:=⟨P,u,ζd z⟩;have Z:M3 t A c.l p↔(P.events.l[a.toNat].kind=3->∃b,c.l[(ag A P.events.l[a.toNat].message).from_.proc.toNat]?=some b/\(ag A P.events.l[a.toNat].message).from_.index<=b):=⟨λ⟨Q,e,x,v,E,C,M⟩=>by rw[u]at v;cases v;rw[w]at E;cases E;rw[ζd z]at C;cases C;exact M,λh=>⟨P,_,a,u,w,ζd z,h⟩⟩
 rw[Z];generalize P.events.l[a.toNat]=e at *;unfold tI
 by_cases C:e.kind=3
 .rw[if_pos C];have⟨q,j,N,_,_,y,Q,R,_⟩:=xd f g Y C;have d:q<c.l.length:=by have:=(ζe.1 R).1;omega
  rw[N];simp only[toNat_natCast];rw[bM d,ζb,bg];simp only[decide_eq_true_eq];exact⟨λh _=>⟨_,ζd d,h⟩,λh=>by have⟨b,B,V⟩:=h C;rw[ζd d]at B;cases B;exact V⟩
 rw[if_neg C];have F:0<c.l.length:=Za
 have J:=D.1.pos 0 _ (ζd F);have hi:idx c ((⟨0,0⟩:bf).proc)=some c.l[0]:=bM (s:=c) (i:=0) F;rw[hi,ζb,bg];exact⟨λ_ h=>absurd h C,λ_=>by simpa using J⟩
end
theorem D7{α:Type}:∀l:aZ α,(range l.length).filterMap (l[·]?)=l
 |[]=>rfl|x::l=>by rw[length_cons,List.range_succ_eq_map,List.filterMap_cons,List.filterMap_map];show x::(range l.length).filterMap (λi=>(x::l)[i+1]?)=_;simp only[List.getElem?_cons_succ];rw[D7 l]
theorem PV{α:Type}{s r:Sl α}{p:α->α->a_ Zl}(h:wA s p=some r):r.l.Sublist s.l:=by
 unfold wA at h;split at h
 .cases h;have key:((kept (λi=>(rY s.l p i).getD false) s.l.length).filterMap (s.l[·]?)).Sublist s.l:=by
   have e:=D7 s.l
   conv=>rhs;rw[<-e]
   exact List.Sublist.filterMap _ (by unfold kept;exact List.filter_sublist)
  generalize(kept (λi=>(rY s.l p i).getD false) s.l.length).filterMap (s.l[·]?)=y at *
  cases s<;>first|exact key|(simp[Sl.rQ,Sl.l])
 cases h
theorem Ba{c:Zg}(B:c.l.length<=1073741824)(a:0<c.l.length):∃d,(lF c).bind Sl.whole=some d/\d.l=c.l:=by
 unfold lF;have key:((ny (Sl.row []:Zg) c).bind λx=>some x).bind Sl.whole=some (.row ([]++c.l)):=by unfold ny;rw[if_neg (λh=>by rw[h]at a;simp at a),if_pos (show(Sl.row ([]:Zy)).l.length+c.l.length<=2147483648 from show 0+c.l.length<=_ by omega)];rfl
 cases c with|nil=>simp[Sl.l]at a|emp=>simp[Sl.l]at a|part l=>exact⟨_,key,rfl⟩|row l=>exact⟨_,key,rfl⟩
section
variable{t:Zj}{A:cu 200 bC}
theorem Od(M:Small t)(U:VT t)(q:eT t (bO t) A){m:cm}(N:Ph t A t.procs.l.length m){k:Nat}{B:Zb}(Y:AU t A k B)(hl:B.l.length<=5000):
 Wp (ez m B) λr=>AU t A (k+1) r/\(ins r).Nodup/\r.l.length<=40000/\(ins r).Pairwise λx y=>¬iP y x<0:=by
 have af:=U.few;unfold ez ez.W1;refine iA B.l.length (λn s=>s.2.1=len B/\s.2.2=(n:Int)/\s.1.l.length<=8*n/\∀d,d∈ins s.1↔∃c∈(B.l.take n).map Sl.l,ve t A c d) ⟨rfl,rfl,zero_le _,λd=>by simp[ins,Sl.l]⟩ ?_ ?_
 .rintro n ⟨out,_,_⟩ w ⟨e1,e2,g1,g2⟩;simp only at e1 e2 g1 g2;subst e1 e2;have L:=(Y B.l[n].l).1 (pn.2 ⟨_,getElem_mem w,rfl⟩);unfold ez.bt;rw[kq w,bS,bM w,ζb];have O:∀d,d∈(B.l.take (n+1)).map Sl.l↔d∈(B.l.take n).map Sl.l\/d=B.l[n].l:=λd=>u7 w
  generalize B.l[n]=c at *;have ah:=L.1.1.1;have ad:=U.ok.one;unfold ez.W2;refine iA c.l.length (λj s=>s.2=(j:Int)/\s.1.l.length<=8*n+j/\∀d,d∈ins s.1↔d∈ins out\/∃(p:Nat)(a:Int),p<j/\c.l[p]?=some a/\d=c.l.set p (a+1)/\Cons t A d) ⟨rfl,g1,λd=>⟨.inl,λh=>h.elim id λ⟨p,a,h,_⟩=>absurd h Za⟩⟩ ?_ ?_
  .rintro j ⟨o2,_⟩ T ⟨e,l,i⟩;simp only at e l i;subst e;unfold ez.cn;rw[show decide ((j:Int)<len c)=true from kq T,bS,cR];refine(MQ U q N L.1 (p:=j) Za).mono λb v=>?_
   have u:=ζd T;have hr:=L.1.1.2 j _ _ u (ζd (show j<t.procs.l.length by omega))
   have ai:=(M.2 _ (getElem_mem (show j<t.procs.l.length by omega))).1
   generalize c.l[j]=a at *;have more:∀o3:Zb,(∀d,d∈ins o3↔d∈ins o2\/d=c.l.set j (a+1)/\Cons t A d)->∀d,d∈ins o3↔d∈ins out\/∃(p:Nat)(a:Int),p<j+1/\c.l[p]?=some a/\d=c.l.set p (a+1)/\Cons t A d:=λo3 h d=>by rw[h,i];constructor;rintro((h|⟨p,b,h,k⟩)|⟨h,k⟩);exact .inl h;exact .inr ⟨p,b,Za,k⟩;exact .inr ⟨j,a,Za,u,h,k⟩;rintro(h|⟨p,b,h,X,E,F⟩);exact .inl (.inl h);by_cases e:p=j;subst e;rw[u]at X;cases X;exact .inr ⟨E,F⟩;exact .inl (.inr ⟨p,b,Za,X,E,F⟩)
   rw[bU];constructor
   .intro ht;have⟨x,C,Z⟩:=v.1 ht;rw[u]at C;cases C;have⟨d,P,z⟩:=Ba (c:=c) Za Za
    have⟨R,V,Q⟩:=put_eq (s:=d) (p:=j) (x:=a+1) (by rw[z];exact T)
    have⟨o3,ab,D⟩:=n9 (s:=o2) (x:=R) Za
    have hg:Sl.get d j=some a:=by unfold Sl.get;rw[z];exact u
    rw[P,ζb,rO (by rw[z];exact T),ζb,hg,ζb,ζb,gU _ Za Za,V,ζb,ab,ζb,bg]
    refine⟨cT j Za,by rw[D];simp;omega,more o3 λe=>?_⟩
    rw[IM D,Q,z];exact⟨λh=>h.elim .inl λh=>.inr ⟨h,by rw[h];exact Z⟩,λh=>h.elim .inl λh=>.inr h.1⟩
   intro H;refine(bg _).2 ⟨cT j Za,Nat.le_succ_of_le l,more o2 λd=>⟨.inl,λh=>h.elim id λ⟨o,W⟩=>?_⟩⟩
   rw[v.2 ⟨a,u,by rw[<-o];exact W⟩]at H;cases H
  rintro⟨o2,_⟩ ⟨e,l,i⟩;simp only at e l i;subst e;unfold ez.cn;rw[kO,bX,bg];refine(bg _).2 ⟨rfl,cT n Za,show o2.l.length<=_ by omega,λd=>?_⟩
  rw[i];constructor
  .rintro (h|⟨p,a,_,h⟩)
   .have⟨c',g,G⟩:=(g2 d).1 h;exact⟨c',(O c').2 (.inl g),G⟩
   exact⟨_,(O _).2 (.inr rfl),p,a,h⟩
  rintro⟨c',g,G⟩;rcases(O c').1 g with h|h
  .exact .inl ((g2 d).2 ⟨c',h,G⟩)
  subst h;have⟨p,a,h⟩:=G;exact .inr ⟨p,a,(ζe.1 h.1).1,h⟩
 rintro⟨out,_,_⟩ ⟨e1,e2,g1,g2⟩;simp only at e1 e2 g1 g2;subst e1 e2;unfold ez.bt;rw[kO,bX,bg];simp only;have I:AU t A (k+1) out:=λd=>by rw[g2,take_length,<-ve.iff U q (k:=k)];exact⟨λ⟨c,g,G⟩=>⟨c,(Y c).1 g,G⟩,λ⟨c,g,G⟩=>⟨c,(Y c).2 g,G⟩⟩
 have J:∀s:Zb,(∀d,d∈ins s↔d∈ins out)->∀x∈s.l,x.l.length<1073741824:=λs h x C=>by have:=((I x.l).1 ((h x.l).1 (pn.2 ⟨x,C,rfl⟩))).1.1.1;omega
 have⟨r1,o,p1,K⟩:=NZ (s:=out) (p:=jk) (f:=Sl.l) (λx y C _=>Kw (J out (λ_=>Iff.rfl) x C)) Za
 have S:∀d,d∈ins r1↔d∈ins out:=λd=>(p1.map Sl.l).mem_iff
 have ae:r1.l.length=out.l.length:=p1.length_eq;have⟨r2,W,nd,m2,l2⟩:=Nr (s:=r1) (p:=kn) (f:=Sl.l) (λx y C _=>by unfold kn;rw[GU (J r1 S x C)];rfl) Za K
 rw[o,ζb,W,ζb,bg];exact⟨λd=>(m2 d).trans ((S d).trans (I d)),nd,Za,by unfold ins;rw[pairwise_map];exact K.sublist (PV W)⟩
structure SH(t:Trace)(A:cu 200 bC)(k:Nat)(o:Sl (Sl (Sl Int))):Prop where
 nd:(o.l.flatMap ins).Nodup
 mem:∀d,d∈o.l.flatMap ins↔Cons t A d/\d.sum<(k:Int)
theorem NT(Y:Small t)(g:cA t=some true)(D:VT t)(O:eT t (bO t) A){all:aZ Zy}(G:∀d,Cons t A d->d∈all)(J:all.length<=250)(v:kM t<1073741824):
 Wp (vE t) λr=>r.2=0/\r.1.l.length<=250/\∀d,d∈ins r.1↔Cons t A d:=by
 have y:=D.few;unfold vE zi jr;rw[g,ζb,bS,cR,cR,cR];refine(of_wp Y g D O).mono λm l=>?_
 unfold nG;rw[if_pos ⟨by simp[len],by simp[len];omega⟩,ζb]
 have fin:∀(k:Nat)(out:Sl Zb),SH t A k out->(∀d,Cons t A d->d.sum<(k:Int))->out.l.length<=2147483648->(out.l.flatMap ins).length<=250->Wp ((jh out).bind λQ=>some (Q,(0:Int))) λb=>Wp (some (b.1,b.2)) λr=>r.2=0/\r.1.l.length<=250/\∀d,d∈ins r.1↔Cons t A d:=λk out z i n E=>by have w:(out.l.flatMap Sl.l).map Sl.l=out.l.flatMap ins:=(by rw[List.map_flatMap];rfl);have j:(xx out).l=out.l.flatMap Sl.l:=(by unfold xx;split;(next h=>exact(List.length_eq_zero_iff.1 h).symm);rfl);unfold jh;rw[if_pos ⟨n,by rw[<-List.length_map (f:=Sl.l),w];omega⟩,ζb,bg,bg];refine⟨rfl,show(xx out).l.length<=250 by rw[j,<-List.length_map (f:=Sl.l),w];omega,λd=>?_⟩;have:ins (xx out)=out.l.flatMap ins:=(by unfold ins at w⊢;rw[j];exact w);show d∈ins (xx out)↔_;rw[this,z.mem];exact⟨λh=>h.1,λh=>⟨h,i d h⟩⟩
 unfold jr.W1;refine iA (kM t+1) (λk s=>AU t A k s.1/\(ins s.1).Nodup/\SH t A k s.2.1/\s.2.2=((s.2.1.l.flatMap ins).length:Int)/\s.2.1.l.length=k) ⟨R3 (by simp[Sl.l,len]),by simp[ins,Sl.l],⟨by simp[Sl.l],λd=>⟨λh=>by simp[Sl.l]at h,λh=>absurd (pF h.1.1.pos) (by have:=h.2;simp at this;omega)⟩⟩,by simp[Sl.l],rfl⟩ ?_ ?_
 .rintro k ⟨u,out,S⟩ i ⟨c,C,z,I,L⟩;simp only at c C z I L;have B:(out.l.flatMap ins++ins u).Nodup/\(out.l.flatMap ins).length+u.l.length<=250:=by
   have nd:(out.l.flatMap ins++ins u).Nodup:=List.nodup_append.2 ⟨z.nd,C,λa G b o e=>by
    have p:=((z.mem a).1 G).2;have x2:=((c b).1 o).2;rw[e]at p;omega⟩
   refine⟨nd,?_⟩;have:=vf (r:=all) nd λx T=>(mem_append.1 T).elim (λh=>G x ((z.mem x).1 h).1) λh=>G x ((c x).1 h).1
   rw[ζi]at this;have e:(ins u).length=u.l.length:=by unfold ins;simp
   omega
  unfold jr.bt;rw[Ck]
  by_cases U:u.l.length=0
  .rw[show(!decide (u.l.length=0))=false from by simp[U],bX,bg]
   refine(bg _).2 ?_;exact fin k out z (λd W=>c.none D O U W) Za Za
  rw[show(!decide (u.l.length=0))=true from by simp[U],bS,I]
  have q:wrap .i64 (((out.l.flatMap ins).length:Int)+len u)=(((out.l.flatMap ins).length+u.l.length:Nat):Int):=by have e:len u=(u.l.length:Int):=rfl;rw[e,gU _ Za Za];omega
  rw[q,show decide ((((out.l.flatMap ins).length+u.l.length:Nat):Int)>5000)=false from decide_eq_false Za,bX]
  have⟨o2,g1,g2⟩:=n9 (s:=out) (x:=u) Za
  rw[g1,ζb,cR];refine(Od Y D O l c Za).mono λr⟨r1,r2,r3,_⟩=>?_
  have w:o2.l.flatMap ins=out.l.flatMap ins++ins u:=by rw[g2];simp
  refine(bg _).2 ⟨r1,r2,⟨by rw[w];exact B.1,λd=>?_⟩,by rw[w,ζi];unfold ins;simp,by rw[g2];simp[L]⟩
  rw[w,mem_append,z.mem,c];constructor
  .rintro (⟨h,Z⟩|⟨h,Z⟩)
   .exact⟨h,Za⟩
   exact⟨h,Za⟩
  rintro⟨h,Z⟩
  by_cases X:d.sum<(k:Int)
  .exact .inl ⟨h,X⟩
  exact .inr ⟨h,Za⟩
 rintro⟨u,out,S⟩ ⟨c,C,z,I,L⟩;simp only at c C z I L;unfold jr.bt;rw[Ck,show(!decide (u.l.length=0))=false from by simp[c.last],bX,bg]
 refine(bg _).2 ?_;refine fin _ out z (λd W=>c.none D O c.last W) Za ?_
 exact le_trans (vf (r:=all) z.nd λx T=>G x ((z.mem x).1 T).1) J
end
def gN(c d:Zy):Prop:=∀(p:Nat)(a b:Int),c[p]?=some a->d[p]?=some b->a<=b
theorem FU{α:Type}{m:a_ (Sl α)}{d:Sl α}(h:m.bind Sl.whole=some d):d.whole=some d:=by cases m with|none=>cases h|some s=>cases s<;>first|(cases h;rfl)|cases h
theorem FC{α:Type}{s:Sl α}(h:s.whole=some s)(l:aZ α):(s.re l).whole=some (s.re l):=by cases s<;>first|rfl|cases h
section
variable{t:Zj}{A:cu 200 bC}
theorem Q6(l:Small t)(m:cA t=some true)(Y:VT t)(E:eT t (bO t) A){c:Zg}(g:jS t c.l):
 Wp (eW t c (λs(z:bf×bf)=>s.setAt z.1.proc z.1.index)) λr=>r.2=0/\Cons t A r.1.l/\gN c.l r.1.l/\(∀d,Cons t A d->gN c.l d->gN r.1.l d)/\r.1.whole=some r.1:=by
 have P:=Y.few;have R:=Y.ok.one;have D:=g.1;unfold eW o7;rw[m,ζb,bS,rX (f:=λz=>(eX z t).getD false) (λz _=>wJ.ok ((bg _).2 trivial)) (by simp[Sl.l]),ζb,ζb,ζb]
 have G:(!((Sl.row [c]:Zb).l.any λz=>(eX z t).getD false))=true:=by simp[Sl.l,eX,len,D]<;>exact congrArg ofNat D
 rw[G,bS,cR];refine(uC l D).mono λb S=>?_
 rw[S.2 g,bS];have⟨V,n,Z⟩:=Ba (c:=c) Za Za
 rw[n,ζb];unfold eW.W1;refine ei (λs:Zg=>jS t s.l/\gN c.l s.l/\(∀d,Cons t A d->gN c.l d->gN s.l d)/\s.whole=some s) (λs:Zg=>((kM t:Int)-s.l.sum).toNat) ⟨by rw[Z];exact g,λp a b F S=>by rw[Z,F]at S;cases S;exact Int.le_refl _,λd _ h=>by rw[Z];exact h,FU n⟩ ?_
 rintro s ⟨i1,i2,i3,i4⟩;unfold eW.bt;rw[cR];refine(Di l m Y E i1).mono λr o=>?_
 rw[bU];constructor
 .intro ht;obtain⟨p,k,e,a,q,j,y,b,g1,g2,g3,g4,g5,g6,g7,T,g9,-⟩:=o.2 ht;have B:=(ζe.1 T).1;have I:Sl.setAt s r.1.proc r.1.index=some (s.re (s.l.set q ((j:Int)+1))):=by
   unfold Sl.setAt;rw[g6,if_pos ⟨Zc,by simpa using B⟩];rfl
  have C:(s.re (s.l.set q ((j:Int)+1))).l=s.l.set q ((j:Int)+1):=by cases s<;>first|rfl|(simp[Sl.l]at B)
  simp only;rw[I,ζb,bg];have⟨Q,H,K⟩:=g7;have ad:=(ζe.1 K).1;have J:=i1.set H (b:=(j:Int)+1) Za Za
  refine⟨⟨by rw[C];exact J,?_,?_,FC i4 _⟩,?_⟩
  .rw[C];intro p' U i u w;rw[getElem?_set]at w;split at w
   next e2=>subst e2;simp[B]at w;have:=i2 q U b u T;omega
   exact i2 p' U i u w
  .rw[C];intro d W L p' U i u w;rw[getElem?_set]at u;split at u
   .rename_i e2;subst e2;simp[B]at u;have⟨x,v⟩:=W.1.at_ (show p<t.procs.l.length by have:=(ζe.1 g2).1;rw[<-i1.1];exact this)
    have:=i3 d W L p a x g2 v;have⟨z,X,O⟩:=W.2 p k e x g1 v Za g4
    rw[g5,g6]at X O;simp only[toNat_natCast]at X O;rw[w]at X;cases X;omega
   exact i3 d W L p' U i u w
  show((kM t:Int)-(s.re (s.l.set q ((j:Int)+1))).l.sum).toNat<((kM t:Int)-s.l.sum).toNat;have M:=J.sum;rw[kE T]at M;rw[C,kE T];omega
 intro N;exact(bg _).2 ((bg _).2 ⟨rfl,⟨i1,o.1 N⟩,i2,i3,i4⟩)
theorem Mn(B:Small t)(b:cA t=some true)(D:VT t)(G:eT t (bO t) A){c:Zg}(J:jS t c.l):
 Wp (tv t c) λr=>r.2=0/\Cons t A r.1.l/\gN c.l r.1.l/\(∀d,Cons t A d->gN c.l d->gN r.1.l d)/\r.1.whole=some r.1:=by
 have⟨r,h,a⟩:=Q6 B b D G J;refine⟨r,?_,a⟩;unfold tv;rw[h]
 first|rfl|(simp[a.2.2.2.2,mU];done)
end
theorem S5{S:Zy}(c:Up S){i:Nat}{k x:Int}(b:S[i]?=some k):k<=x↔i<S.countP (λa=>decide (a<=x)):=by
 have B:=(ζe.1 b).1;have C:S.countP (λa=>decide (a<=x))=(S.take i).countP (λa=>decide (a<=x))+(S.drop i).countP (λa=>decide (a<=x)):=by rw[<-countP_append,take_append_drop]
 have D:S.drop i=k::S.drop (i+1):=by rw[drop_eq_getElem_cons B];congr 1;exact(ζe.1 b).2
 constructor;intro u;have d:(S.take i).countP (λa=>decide (a<=x))=i:=by rw[List.countP_eq_length.2 ?_,length_take];omega;intro a w;have⟨j,t⟩:=mem_iff_getElem?.1 w;rw[getElem?_take]at t;split at t;(next z=>have:=c j i a k z t b;simp;omega);cases t
 rw[C,d,D,countP_cons];simp[u];intro h;refine byContradiction λu=>?_;have d:(S.drop i).countP (λa=>decide (a<=x))=0:=by rw[List.countP_eq_zero];intro a w;have⟨j,t⟩:=mem_iff_getElem?.1 w;rw[List.getElem?_drop]at t;by_cases e:j=0;subst e;rw[Nat.add_zero,b]at t;cases t;simpa using u;have:=c i (i+j) k a Za b t;simp;omega
 have:=countP_le_length (p:=λa=>decide (a<=x)) (l:=S.take i);rw[length_take]at this;omega
theorem GV(f:Zn->Zl):∀(l:aZ Zn)(j:Int)(a:Int),a∈jO f j l->a<=j+l.length
 |[],j,a,h=>by simp[jO]at h|x::l,j,a,h=>by have B:=GV f l (j+1) a;simp only[jO]at h;split at h;rcases mem_cons.1 h with h|h;subst h;simp;omega;have:=B h;simp;omega;have:=B h;simp;omega
section
variable{t:Zj}{A:cu 200 bC}
theorem Mh(D:Small t)(e:cA t=some true)(G:VT t)(J:eT t (bO t) A){c:Zg}(B:Cons t A c.l){p q:Nat}(g:p<t.procs.l.length)(h:q<t.procs.l.length):
 dg t (Sl.row [c]:Zb) (Sl.row [(p:Int),(q:Int)]:Zg)=some 0:=by
 refine Wp.eq ?_;have u:=B.1.1;unfold dg o7;rw[e,ζb,bS,rX (f:=λz=>(eX z t).getD false) (λz _=>wJ.ok ((bg _).2 trivial)) (by simp[Sl.l]),ζb,ζb,ζb]
 have w:(!((Sl.row [c]:Zb).l.any λz=>(eX z t).getD false))=true:=by simp[Sl.l,eX,len,u]<;>exact congrArg ofNat u
 rw[w,bS];unfold dg.W1;refine iA 1 (λn s=>s=(n:Int)) rfl ?_ ?_
 .rintro n _ C rfl;obtain rfl:n=0:=by omega
  unfold dg.bt;rw[show decide (((0:Nat):Int)<len (Sl.row [c]:Zb))=true from rfl,bS,show idx (Sl.row [c]:Zb) ((0:Nat):Int)=some c from rfl,ζb,cR];refine(uC D u).mono λb I=>?_
  rw[I.2 B.1,bS];exact(bg _).2 rfl
 rintro _ rfl;unfold dg.bt;rw[show decide (((1:Nat):Int)<len (Sl.row [c]:Zb))=false from rfl,bX,bg];have a:∀r:Nat,r<t.procs.l.length->s_ t r=some true:=λr d=>by unfold s_;rw[show decide ((r:Int)>=0)=true from Zc,bS,kq d];rfl
 show Wp (dg.W2 (Sl.row [c]) (Sl.row [(p:Int),(q:Int)]) 2 0 t) _;unfold dg.W2;refine iA 2 (λn s=>s=(n:Int)) rfl ?_ ?_
 .rintro n _ C rfl;unfold dg.cn;rw[show decide ((n:Int)<2)=true from by simp;omega,bS]
  have L:∃r:Nat,idx (Sl.row [(p:Int),(q:Int)]) (n:Int)=some (r:Int)/\r<t.procs.l.length:=by rcases(show n=0\/n=1 by omega)with rfl|rfl;exact⟨p,rfl,g⟩;exact⟨q,rfl,h⟩
  have⟨r,i,O⟩:=L;rw[i,ζb,a r O,ζb,bS];exact(bg _).2 (cT n Za)
 rintro _ rfl;unfold dg.cn;rw[show decide (((2:Nat):Int)<2)=false from rfl,bX,bg];show Wp (dg.W3 (Sl.row [c]) 1 0 t) _;unfold dg.W3;refine iA 1 (λn s=>s=(n:Int)) rfl ?_ ?_
 .rintro n _ C rfl;obtain rfl:n=0:=by omega
  unfold dg.eH;rw[show decide (((0:Nat):Int)<1)=true from rfl,bS,show idx (Sl.row [c]:Zb) ((0:Nat):Int)=some c from rfl,ζb];unfold uz;rw[cR,cR];refine(CM D e G J B.1).mono λr d=>?_
  rw[bg,d.2 B.2];exact(bg _).2 rfl
 rintro _ rfl;unfold dg.eH;rw[show decide (((1:Nat):Int)<1)=false from rfl,bX,bg];exact(bg _).2 rfl
theorem NV(B:Small t)(b:cA t=some true)(kind m:Int):gH t kind m=some (match(bO t).find? (kg kind m)with|some x=>(x.1,true)|none=>(⟨0,0⟩,false)):=by
 refine Wp.eq ?_;unfold gH;rw[b,ζb,bS];unfold iU;rw[ζb];unfold gH.E1;rw[rN B,ζb];refine wM (λk _=>((bO t).take k).find? (kg kind m)=none) Zc ?_ ?_;intro k y _ z u;have w:(bO t).take (k+1)=(bO t).take k++[y]:=by rw[take_add_one,z];rfl
 have C:(y.2.kind==kind&&y.2.message==m)=kg kind m y:=rfl;unfold gH.qN;rw[kA,ζb,C,bU];constructor;intro a;refine(bg _).2 ((bg _).2 ?_);have:(bO t).find? (kg kind m)=some y:=by rw[<-take_append_drop (k+1) (bO t),w,find?_append,find?_append,u];simp[a]
 rw[this];intro a;rw[bg,w,find?_append,u];simp[a];intro _ u;rw[take_length]at u;exact(bg _).2 (by rw[u])
theorem MG(J:Small t)(g:cA t=some true)(Y:VT t)(h:eT t (bO t) A){c:Zg}(B:Cons t A c.l){p q:Nat}(d:p<t.procs.l.length)(f:q<t.procs.l.length):
 Wp (h_ t c p q) λr=>r.2=0/\(r.1.l.length:Int)=under t c.l p q:=by
 have L:=ζd d;have⟨a,O⟩:=B.1.at_ d;have⟨b,D⟩:=B.1.at_ f;rw[L7 Y h B L (ζd f) O D];have F:=(J.2 _ (getElem_mem d)).1;have⟨a0,H⟩:=B.1.2 p a _ O L;generalize K:t.procs.l[p]=P at *;unfold h_;rw[Mh J g Y h B d f,ζb,show((0:Int)==0)=true from rfl,bS,mK,L,ζb,show idx c (p:Int)=some a from by rw[mK];exact O,ζb]
 have⟨y,Z,G⟩:=qY P.events a.toNat Za
 rw[show((a.toNat:Nat):Int)=a from Za]at Z
 rw[Z,ζb,<-G];have M:y.l.length<=P.events.l.length:=by rw[G,length_take];omega
 unfold h_.W1;refine iA y.l.length (λn s=>s.2.1=len y/\s.2.2=(n:Int)/\s.1.l.length=(y.l.take n).countP λe=>dP q e&&qn t c.l e) ⟨rfl,rfl,rfl⟩ ?_ ?_
 .rintro n ⟨o,_,_⟩ w ⟨e1,e2,z⟩;simp only at e1 e2 z;subst e1 e2;have Q:=countP_le_length (p:=λe=>dP q e&&qn t c.l e) (l:=y.l.take n)
  rw[length_take]at Q;have u:(y.l.take (n+1)).countP (λe=>dP q e&&qn t c.l e)=o.l.length+if dP q y.l[n]&&qn t c.l y.l[n]then 1 else 0:=by rw[take_add_one,ζd w,countP_append,z];show _+List.countP _ [y.l[n]]=_;rw[countP_cons,List.countP_nil];simp
  have S:=cT n Za
  unfold h_.bt;rw[kq w,bS,bM w,ζb];generalize y.l[n]=e at u;have T:(bq (e.kind==2) (some (!(e.peer==(q:Int)))) (some true):a_ Zl)=some (!dP q e):=by unfold dP;cases e.kind==2<;>cases e.peer==(q:Int)<;>rfl
  rw[T,ζb,bU];refine⟨λC=>(bg _).2 ⟨rfl,S,by rw[u,show dP q e=false from by simpa using C];rfl⟩,λC=>?_⟩
  have C:dP q e=true:=by simpa using C
  unfold sS;rw[NV J g,ζb,ζb];have i:(bq (match(bO t).find? (kg 3 e.message)with|some x=>(x.1,true)|none=>((⟨0,0⟩:bf),false)).2 ((idx c (match(bO t).find? (kg 3 e.message)with|some x=>(x.1,true)|none=>((⟨0,0⟩:bf),false)).1.proc).bind λU=>some (decide ((match(bO t).find? (kg 3 e.message)with|some x=>(x.1,true)|none=>((⟨0,0⟩:bf),false)).1.index>U))) (some true):a_ Zl)=some (qn t c.l e):=by unfold qn gp;cases k:(bO t).find? (kg 3 e.message)with|none=>rfl|some x=>have⟨W,j,⟨N,X,_⟩,m⟩:=dI.1 (uk k).1;have I:W<c.l.length:=(by rw[B.1.1];exact(ζe.1 X).1);simp only[m,bS];rw[bM I,ζb,show((W:Nat):Int).toNat=W from rfl,ζd I,show(((j:Int)+1)==0)=false from by simp;omega,Bool.false_or];rfl
  rw[i,ζb,bU];refine⟨λD=>?_,λD=>(bg _).2 ⟨rfl,S,by rw[u,C,D];rfl⟩⟩
  have⟨r,v,E⟩:=n9 (s:=o) (x:=e.message) Za
  rw[v,ζb,bg];exact⟨rfl,S,by rw[E,u,C,D,ζi];rfl⟩
 rintro⟨o,_,_⟩ ⟨e1,e2,z⟩;simp only at e1 e2 z;subst e1 e2;unfold h_.bt;rw[kO,bX,bg];refine(bg _).2 ⟨rfl,?_⟩;rw[take_length]at z;simp only[z]
theorem o8(D:VT t){p:Nat}{P:cq}(B:t.procs.l[p]?=some P):P.events.l.length<=64:=by have h:=D.ok.heads p (ζe.1 B).1;unfold qK at h;rw[B]at h;simp only at h;split at h;split at h;cases h;split at h;split at h;cases h;omega;rename_i u;exact absurd h u;cases h
theorem P6(B:VT t):kM t<1073741824:=by
 have key:∀l:aZ cq,(∀P∈l,P.events.l.length<=64)->(l.map λP=>P.events.l.length).sum<=64*l.length:=by intro l;induction l with|nil=>intro _;simp|cons P l u=>intro h;have b:=h P (mem_cons_self ..);have C:=u λQ w=>h Q (mem_cons_of_mem _ w);simp only[map_cons,sum_cons,length_cons];omega
 have:=key t.procs.l λP z=>by have⟨p,a⟩:=mem_iff_getElem?.1 z;exact o8 B a
 have:=B.few;unfold kM;omega
theorem Ac{x:Int}{n:Nat}(a:0<=x)(B:0<n):tX x (n:Int)=some (((x.toNat % n:Nat)):Int):=by unfold tX;rw[if_neg Za,Int.tmod_eq_emod_of_nonneg a];congr 1;rw[Int.natCast_emod,Int.toNat_of_nonneg a]
theorem BI(B:Small t)(D:(bO t).length<1073741824):Wp (lg t) λr=>r.2=true->∃A,cA t=some true/\oP t=some true/\VT t/\eT t (bO t) A/\(∀d,Cons t A d->d∈ins r.1)/\r.1.l.length<=250:=by have⟨n,C⟩:=(Np B).get;have⟨v,a,w,u⟩:=D0 B D;unfold lg;rw[C,ζb,w,ζb];cases I:decide (n>24)with|true=>rw[bS,ζb,bS,bg];intro h;cases h|false=>rw[bX,ζb];cases v with|false=>rw[show(!false)=true from rfl,bS,bg];intro h;cases h|true=>have u:=u rfl;have⟨A,i,J,z⟩:=u.msgs;rw[show(!true)=false from rfl,bX,cR];unfold sP;rw[cR];refine(Nv B u z).mono λr b=>?_;rw[bg];dsimp only;cases G:r.2 with|false=>rw[bX,ζb,bg];intro h;cases h|true=>rw[bS,ζb,bg];intro h;refine⟨A,a,rfl,u,z,b G,?_⟩;have:=of_decide_eq_true h;simp only[len]at this;show r.1.l.length<=250;omega
theorem Q8(l:Small t)(m:cA t=some true)(U:VT t)(x:eT t (bO t) A){c:Zg}(Y:jS t c.l):
 Wp (eW t c (λs(z:bf×bf)=>s.setAt z.2.proc (wrap .i64 (z.2.index-1)))) λr=>r.2=0/\Cons t A r.1.l/\gN r.1.l c.l/\(∀d,Cons t A d->gN d c.l->gN d r.1.l)/\r.1.whole=some r.1:=by
 have N:=U.few;have R:=U.ok.one;have D:=Y.1;unfold eW o7;rw[m,ζb,bS,rX (f:=λz=>(eX z t).getD false) (λz _=>wJ.ok ((bg _).2 trivial)) (by simp[Sl.l]),ζb,ζb,ζb]
 have G:(!((Sl.row [c]:Zb).l.any λz=>(eX z t).getD false))=true:=by simp[Sl.l,eX,len,D]<;>exact congrArg ofNat D
 rw[G,bS,cR];refine(uC l D).mono λb X=>?_
 rw[X.2 Y,bS];have⟨V,n,Z⟩:=Ba (c:=c) Za Za
 rw[n,ζb];unfold eW.W1;refine ei (λs:Zg=>jS t s.l/\gN s.l c.l/\(∀d,Cons t A d->gN d c.l->gN d s.l)/\s.whole=some s) (λs:Zg=>s.l.sum.toNat) ⟨by rw[Z];exact Y,λp a b o X=>by rw[Z,X]at o;cases o;exact Int.le_refl _,λd _ h=>by rw[Z];exact h,FU n⟩ ?_
 rintro s ⟨i1,i2,i3,i4⟩;unfold eW.bt;rw[cR];refine(Di l m U x i1).mono λr v=>?_
 rw[bU];constructor
 .intro ht;have⟨p,k,e,a,q,j,y,b,g1,g2,g3,g4,g5,g6,g7,E,g9,F⟩:=v.2 ht;have B:=(ζe.1 g2).1;have H:wrap .i64 (((k:Int)+1)-1)=(k:Int):=by
   have⟨P,Q,S⟩:=g1;have:=o8 U Q;have:=(ζe.1 S).1;rw[gU _ Za Za];omega
  have I:Sl.setAt s r.2.1.proc (wrap .i64 (r.2.1.index-1))=some (s.re (s.l.set p (k:Int))):=by unfold Sl.setAt;rw[F];show(if _ then _ else _)=_;rw[if_pos ⟨Zc,by simpa using B⟩,H];rfl
  have C:(s.re (s.l.set p (k:Int))).l=s.l.set p (k:Int):=by cases s<;>first|rfl|(simp[Sl.l]at B)
  simp only;rw[I,ζb,bg];have⟨P,Q,S⟩:=g1;have af:=(ζe.1 S).1;have J:=i1.set Q (b:=(k:Int)) Za Za
  refine⟨⟨by rw[C];exact J,?_,?_,FC i4 _⟩,?_⟩
  .rw[C];intro p' T W u w;rw[getElem?_set]at u;split at u
   next e2=>subst e2;simp[B]at u;have:=i2 p a W g2 w;omega
   exact i2 p' T W u w
  .rw[C];intro d g L p' T W u w;rw[getElem?_set]at w;split at w
   .rename_i e2;subst e2;simp[B]at w;refine byContradiction λhn=>?_
    have⟨z,i,O⟩:=g.2 p k e T ⟨P,Q,S⟩ u Za g4
    rw[g5,g6]at i O;simp only[toNat_natCast]at i O;have:=i3 d g L q z b i E;omega
   exact i3 d g L p' T W u w
  show(s.re (s.l.set p (k:Int))).l.sum.toNat<s.l.sum.toNat;have K:=J.sum;rw[kE g2]at K;rw[C,kE g2];omega
 intro M;exact(bg _).2 ((bg _).2 ⟨rfl,⟨i1,v.1 M⟩,i2,i3,i4⟩)
theorem Ql(B:Small t)(b:cA t=some true)(D:VT t)(G:eT t (bO t) A){c:Zg}(J:jS t c.l):
 Wp (vh t c) λr=>r.2=0/\Cons t A r.1.l/\gN r.1.l c.l/\(∀d,Cons t A d->gN d c.l->gN d r.1.l)/\r.1.whole=some r.1:=by
 have⟨r,h,a⟩:=Q8 B b D G J;refine⟨r,?_,a⟩;unfold vh;rw[h]
 first|rfl|(simp[a.2.2.2.2,mU];done)
end
end Go.VE
namespace Go.VE
theorem Code.one{t:Zj}{A:cu 200 bC}{c:Zy}{r s:Int}(h:Code t A c r)(g:Code t A c s):r=s:=by rcases h with⟨h,rfl⟩|⟨a,u,rfl⟩|⟨a,u,rfl⟩|⟨a,u,rfl⟩<;>rcases g with⟨g,rfl⟩|⟨g1,g2,rfl⟩|⟨g1,g2,rfl⟩|⟨g1,g2,rfl⟩<;>first|rfl|contradiction|exact absurd ‹jS t c›.1 ‹_›
abbrev dn(m:a_ Bool)(P:Prop):Prop:=Wp m λb=>(b=true↔P)
theorem dn.eq{m:a_ Zl}{P:Prop}(h:dn m P):∃b,m=some b/\(b=true↔P):=h
theorem dn.iff{m:a_ Zl}{P Q:Prop}(h:dn m P)(e:P↔Q):dn m Q:=h.mono λb t=>t.trans e
theorem j7{b:Zl}{P:Prop}(h:b=true↔P):dn (some b) P:=(bg _).2 h
theorem dn.some{m:a_ Zl}{P:Prop}(h:dn m P):dn (m.bind λx=>Option.some x) P:=by have⟨b,t,h⟩:=h;rw[t];exact j7 h
theorem dn.same{m n:a_ Zl}{P:Prop}(h:dn m P)(k:dn n P):∃b,m=Option.some b/\n=Option.some b/\(b=true↔P):=by
 obtain⟨b,t,h⟩:=h;obtain⟨d,u,k⟩:=k;have:b=d:=by rw[Bool.eq_iff_iff,h,k]
 subst this;exact⟨b,t,u,h⟩
theorem dn.and{m n:a_ Zl}{P Q:Prop}(h:dn m P)(k:P->dn n Q){f:Zl->a_ Zl}(B:∀b,f b=bq b (n.bind λx=>Option.some x) (Option.some false)):dn (m.bind f) (P/\Q):=by have⟨b,t,h⟩:=h;rw[t,ζb,B];cases b with|true=>exact((k (h.1 rfl)).some).iff ⟨λq=>⟨h.1 rfl,q⟩,λq=>q.2⟩|false=>exact j7 ⟨λe=>(nomatch e),λq=>(h.2 q.1).symm▸rfl⟩
theorem dn.RS{m:a_ Zl}{b:Zl}{P Q:Prop}(h:dn m P)(k:P->(b=true↔Q)){f:Zl->a_ Zl}(B:∀x,f x=bq x (Option.some b) (Option.some false)):dn (m.bind f) (P/\Q):=by have⟨x,t,h⟩:=h;rw[t,ζb,B];cases x with|true=>exact j7 ((k (h.1 rfl)).trans ⟨λq=>⟨h.1 rfl,q⟩,λq=>q.2⟩)|false=>exact j7 ⟨λe=>(nomatch e),λq=>(h.2 q.1).symm▸rfl⟩
theorem dn.Ud{m n:a_ Zl}{P Q:Prop}(h:dn m (¬P))(k:P->dn n Q){f:Zl->a_ Zl}(B:∀b,f b=bq b (Option.some true) (n.bind λx=>Option.some (!x))):dn (m.bind f) (¬(P/\Q)):=by have⟨b,t,h⟩:=h;rw[t,ζb,B];cases b with|true=>exact j7 ⟨λ_ q=>(h.1 rfl) q.1,λ_=>rfl⟩|false=>have a:P:=byContradiction λu=>(nomatch h.2 u);have⟨d,w,k⟩:=k a;rw[bX,w,ζb];refine j7 ?_;cases d with|true=>exact⟨λe=>(nomatch e),λq=>absurd ⟨a,k.1 rfl⟩ q⟩|false=>exact⟨λ_ q=>(nomatch k.2 q.2),λ_=>rfl⟩
theorem dn.SF{m:a_ Zl}{b:Zl}{P Q:Prop}(h:dn m (¬P))(k:P->(b=true↔Q)){f:Zl->a_ Zl}(B:∀x,f x=bq x (Option.some true) (Option.some (!b))):dn (m.bind f) (¬(P/\Q)):=by have⟨x,t,h⟩:=h;rw[t,ζb,B];cases x with|true=>exact j7 ⟨λ_ q=>(h.1 rfl) q.1,λ_=>rfl⟩|false=>have a:P:=byContradiction λu=>(nomatch h.2 u);rw[bX];refine j7 ?_;cases b with|true=>exact⟨λe=>(nomatch e),λq=>absurd ⟨a,(k a).1 rfl⟩ q⟩|false=>exact⟨λ_ q=>(nomatch (k a).2 q.2),λ_=>rfl⟩
theorem dn.SZ{m n:a_ Zl}{P Q:Prop}(h:dn m P)(k:P->dn n Q){f:Zl->a_ Zl}(B:∀b,f b=bq b (n.bind λx=>Option.some (!x)) (Option.some true)):dn (m.bind f) (¬(P/\Q)):=by
 have⟨b,t,h⟩:=h;rw[t,ζb,B]
 cases b with
 |true=>have⟨d,u,k⟩:=k (h.1 rfl);rw[bS,u,ζb];refine j7 ?_;cases d with|true=>exact⟨λe=>(nomatch e),λq=>absurd ⟨h.1 rfl,k.1 rfl⟩ q⟩|false=>exact⟨λ_ q=>(nomatch k.2 q.2),λ_=>rfl⟩
 |false=>exact j7 ⟨λ_ q=>(nomatch h.2 q.1),λ_=>rfl⟩
theorem Gu{step:Int->a_ (Fw Int Unit Unit)}{n:Nat}{P:Nat->Prop}(h:∀i,i<n->(∀j,j<i->P j)->Wp (step (i:Int)) λw=>P i/\w=.n ((i+1:Nat):Int)\/¬P i/\w=.r ())(B:(∀j,j<n->P j)->step (n:Int)=some (.x ())):
 Wp (bT step 0) λw=>(∀i,i<n->P i)/\w=.x ()\/(¬∀i,i<n->P i)/\w=.r ():=by
 have key:∀m k,k+m=n->(∀j,j<k->P j)->Wp (bT step (k:Int)) λw=>(∀i,i<n->P i)/\w=.x ()\/(¬∀i,i<n->P i)/\w=.r ():=by intro m;induction m with|zero=>intro k c a;have:k=n:=Za;subst this;rw[gI,B a,ζb];exact(bg _).2 (.inl ⟨a,rfl⟩)|succ m u=>intro k c a;rw[gI,cR];refine(h k Za a).mono ?_;rintro w (⟨b,rfl⟩|⟨b,rfl⟩);exact u (k+1) Za λj t=>(by rcases Nat.lt_or_eq_of_le (Nat.lt_succ_iff.1 t)with t|rfl;exact a j t;exact b);exact(bg _).2 (.inr ⟨λz=>b (z k Za),rfl⟩)
 exact key n 0 Za λj t=>absurd t Za
theorem yH{step:Int->a_ (Fw Int Unit Unit)}{n:Nat}{P:Nat->Prop}(h:∀i,i<n->(∀j,j<i->P j)->Wp (step (i:Int)) λw=>P i/\w=.n ((i+1:Nat):Int)\/¬P i/\w=.r ())(B:(∀j,j<n->P j)->step (n:Int)=some (.x ())):
 dn ((bT step 0).bind (Fw.elim (λ_=>some true) (λ_=>some false))) (∀i,i<n->P i):=by
 rw[dn,cR];refine(Gu h B).mono ?_;rintro w (⟨a,rfl⟩|⟨a,rfl⟩)
 .exact j7 ⟨λ_=>a,λ_=>rfl⟩
 exact j7 ⟨λe=>(nomatch e),λt=>absurd t a⟩
theorem Ht{γ:Type}{step:Int->a_ (Fw Int Unit Unit)}{n:Nat}{P:Nat->Prop}{B:Unit->a_ γ}{fr:Unit->a_ γ}{R:γ->Prop}(h:∀i,i<n->(∀j,j<i->P j)->Wp (step (i:Int)) λw=>P i/\w=.n ((i+1:Nat):Int)\/¬P i/\w=.r ())(D:(∀j,j<n->P j)->step (n:Int)=some (.x ()))
 (G:(∀i,i<n->P i)->Wp (B ()) R)(b:(¬∀i,i<n->P i)->Wp (fr ()) R):Wp ((bT step 0).bind (Fw.elim B fr)) R:=by
 rw[cR];refine(Gu h D).mono ?_;rintro w (⟨a,rfl⟩|⟨a,rfl⟩)
 .exact G a
 exact b a
theorem NJ{m:a_ Zl}{P:Prop}{n:Int}{k:Nat}(h:dn m P)(B:n=((k+1:Nat):Int)):Wp (m.bind λx=>bq x (some (.n n)) (some (.r ()))) λw:Fw Int Unit Unit=>P/\w=.n ((k+1:Nat):Int)\/¬P/\w=.r ():=by have⟨b,t,h⟩:=h;rw[t,ζb];cases b with|true=>exact(bg _).2 (.inl ⟨h.1 rfl,by rw[B]⟩)|false=>exact(bg _).2 (.inr ⟨λq=>(nomatch h.2 q),rfl⟩)
theorem QG{b:Zl}{P:Prop}{n:Int}{k:Nat}(h:b=true↔P)(B:n=((k+1:Nat):Int)):Wp (bq b (some (.n n)) (some (.r ()))) λw:Fw Int Unit Unit=>P/\w=.n ((k+1:Nat):Int)\/¬P/\w=.r ():=by cases b with|true=>exact(bg _).2 (.inl ⟨h.1 rfl,by rw[B]⟩)|false=>exact(bg _).2 (.inr ⟨λq=>(nomatch h.2 q),rfl⟩)
theorem K9{b:Zl}{P:Prop}{n:Int}{k:Nat}(h:b=true↔¬P)(B:n=((k+1:Nat):Int)):Wp (bq b (some (.r ())) (some (.n n))) λw:Fw Int Unit Unit=>P/\w=.n ((k+1:Nat):Int)\/¬P/\w=.r ():=by cases b with|true=>exact(bg _).2 (.inr ⟨h.1 rfl,rfl⟩)|false=>exact(bg _).2 (.inl ⟨byContradiction λq=>(nomatch h.2 q),by rw[B]⟩)
def gQ(a b:Zy):Prop:=a.length=b.length/\∀(p:Nat)(x y:Int),a[p]?=some x->b[p]?=some y->x<=y
theorem SU{a b:Zy}(B:a.length=b.length):(∀i,i<a.length->∀x y,a[i]?=some x->b[i]?=some y->x<=y)↔gQ a b:=⟨λh=>⟨B,λp x y t u=>h p (ζe.1 t).1 x y t u⟩,λh i _ x y t u=>h.2 i x y t u⟩
theorem QE{a b:Zg}(J:a.l.length<1073741824){step:Int->a_ (Fw Int Unit Unit)}
 (G:∀i,step i=bq (decide (i<len a)) ((idx a i).bind λB=>(idx b i).bind λD=>bq (decide (B>D)) (some (.r ())) (some (.n (wrap .i64 (i+1))))) (some (.x ()))):
 dn (bq ((len a)==(len b)) ((bT step 0).bind (Fw.elim (λ_=>some true) (λ_=>some false))) (some false)) (gQ a.l b.l):=by
 by_cases u:a.l.length=b.l.length
 .rw[show((len a)==(len b))=true from by simp[len,u],bS]
  refine(yH (n:=a.l.length) (P:=λi=>∀x y,a.l[i]?=some x->b.l[i]?=some y->x<=y) ?_ ?_).iff (SU u)
  .intro i t _;have w:i<b.l.length:=by omega
   rw[G,kq t,bS,bM t,ζb,bM w,ζb];refine K9 ?_ (cT i Za)
   rw[decide_eq_true_eq];constructor
   .intro h k;have:=k _ _ (ζd t) (ζd w);omega
   intro h;refine byContradiction λI=>h λx y z C=>?_
   rw[ζd t]at z;rw[ζd w]at C;cases z;cases C;omega
  intro _;rw[G,kO,bX]
 rw[show((len a)==(len b))=false from by simp[len];omega,bX]
 exact j7 ⟨λe=>(nomatch e),λh=>absurd h.1 u⟩
theorem A2{a b:Zg}(B:a.l.length<1073741824):dn (gz a b) (gQ a.l b.l):=QE B λi=>rfl
theorem T_{a b:Zg}(B:a.l.length<1073741824):dn (eA a b) (a.l=b.l):=by rw[GU B];exact j7 Zc
section
variable{t:Zj}{A:cu 200 bC}
theorem E0(B:Small t)(a:cA t=some true)(D:VT t)(G:eT t (bO t) A)(c:Zg):dn (jf t c) (Cons t A c.l):=by obtain⟨r,b,h⟩:=NQ B a D G c;unfold jf;rw[b,ζb];exact j7 (by rw[beq_iff_eq,h];exact Iff.rfl)
end
def nth(l:Zy)(p:Nat):Int:=(l[p]?).getD 0
def kK(t:Zj)(p:Nat):Nat:=((t.procs.l[p]?).map λP=>P.events.l.length).getD 0
theorem qg{l:Zy}{p:Nat}(h:p<l.length):nth l p=l[p]:=by unfold nth;rw[ζd h];rfl
theorem qc{t:Zj}{p:Nat}(h:p<t.procs.l.length):kK t p=t.procs.l[p].events.l.length:=by unfold kK;rw[ζd h];rfl
section
variable{t:Zj}{A:cu 200 bC}
def qE(g:Int->Int->Int)(a b c:Zy):Prop:=c.length=a.length/\∀(p:Nat)(x y:Int),a[p]?=some x->b[p]?=some y->c[p]?=some (g x y)
def u_(x y:Int):Int:=if y>x then y else x
theorem qE.of(g:Int->Int->Int){a b:Zy}(h:a.length=b.length):qE g a b (List.zipWith g a b):=⟨by simp[h],λp x y t u=>by rw[List.getElem?_zipWith,t,u]⟩
theorem qE.at_{g:Int->Int->Int}{a b c:Zy}(h:qE g a b c)(D:a.length=b.length){p:Nat}{z:Int}(B:c[p]?=some z):∃x y,a[p]?=some x/\b[p]?=some y/\z=g x y:=by
 have d:p<a.length:=by rw[<-h.1];exact(ζe.1 B).1
 refine⟨a[p],b[p]' Za,ζd d,ζd Za,?_⟩;have:=h.2 p _ _ (ζd d) (ζd (show p<b.length by omega));rw[B]at this;cases this;rfl
theorem q9(x y:Int):(u_ x y=x/\y<=x)\/(u_ x y=y/\x<=y):=by unfold u_;split<;>omega
theorem join_cons{a b c:Zy}(B:Cons t A a)(D:Cons t A b)(h:qE u_ a b c):Cons t A c:=by have L:a.length=b.length:=B.1.1.trans D.1.1.symm;refine⟨⟨h.1.trans B.1.1,λp z P C O=>?_⟩,λp k e z Q C f w=>?_⟩;obtain⟨x,y,G,I,rfl⟩:=h.at_ L C;have j:=B.1.2 p x P G O;have T:=D.1.2 p y P I O;rcases q9 x y with⟨e,_⟩|⟨e,_⟩<;>rw[e]<;>assumption;obtain⟨x,y,G,I,rfl⟩:=h.at_ L C;rcases q9 x y with⟨S,_⟩|⟨S,_⟩<;>rw[S]at f;have⟨u,d,J⟩:=B.2 p k e x Q G f w;have i:=(ζe.1 d).1;have g:=ζd (show(ag A e.message).from_.proc.toNat<b.length by omega);exact⟨_,h.2 _ _ _ d g,by rcases q9 u b[(ag A e.message).from_.proc.toNat]with⟨e2,_⟩|⟨e2,_⟩<;>rw[e2]<;>omega⟩;have⟨u,d,J⟩:=D.2 p k e y Q I f w;have i:=(ζe.1 d).1;have g:=ζd (show(ag A e.message).from_.proc.toNat<a.length by omega);exact⟨_,h.2 _ _ _ g d,by rcases q9 a[(ag A e.message).from_.proc.toNat] u with⟨e2,_⟩|⟨e2,_⟩<;>rw[e2]<;>omega⟩
theorem gQ.trans{a b c:Zy}(h:gQ a b)(k:gQ b c):gQ a c:=by
 refine⟨h.1.trans k.1,λp x z t u=>?_⟩;have d:p<b.length:=by rw[<-h.1];exact(ζe.1 t).1
 have e:=ζd d;exact Int.le_trans (h.2 p x _ t e) (k.2 p _ z e u)
theorem gQ.refl(a:Zy):gQ a a:=⟨rfl,λp x y u t=>by rw[u]at t;cases t;exact Int.le_refl _⟩
theorem qE.le_max{a b c:Zy}(h:qE u_ a b c)(D:a.length=b.length):gQ a c/\gQ b c/\∀d,gQ a d->gQ b d->gQ c d:=by refine⟨⟨h.1.symm,λp x z C t=>?_⟩,⟨D.symm.trans h.1.symm,λp y z G t=>?_⟩,λd I L=>⟨h.1.trans I.1,λp z w t J=>?_⟩⟩;obtain⟨O,y,u,G,rfl⟩:=h.at_ D t;rw[C]at u;cases u;rcases q9 x y with⟨e2,_⟩|⟨e2,_⟩<;>rw[e2]<;>omega;obtain⟨x,Q,C,B,rfl⟩:=h.at_ D t;rw[G]at B;cases B;rcases q9 x y with⟨e2,_⟩|⟨e2,_⟩<;>rw[e2]<;>omega;obtain⟨x,y,C,G,rfl⟩:=h.at_ D t;have e:=I.2 p x w C J;have S:=L.2 p y w G J;rcases q9 x y with⟨e2,_⟩|⟨e2,_⟩<;>rw[e2]<;>assumption
theorem gQ.nth{a b:Zy}(h:gQ a b){p:Nat}(c:p<a.length):nth a p<=nth b p:=by rw[qg c,qg (by rw[<-h.1];exact c)];exact h.2 p _ _ (ζd c) (ζd (by rw[<-h.1];exact c))
theorem qE.nth{g:Int->Int->Int}{a b c:Zy}(h:qE g a b c)(B:a.length=b.length){p:Nat}(d:p<a.length):Go.VE.nth c p=g (Go.VE.nth a p) (Go.VE.nth b p):=by rw[qg d,qg (show p<b.length by omega)];have:=h.2 p _ _ (ζd d) (ζd (show p<b.length by omega));unfold Go.VE.nth;rw[this];rfl
end
def Bb(s:Slice)(p:Nat):Nat:=((s.j.l[p]?).map λr=>r.l.length).getD 0
def el(s:Slice)(p i:Nat):Zy:=match s.j.l[p]?with
 |some r=>match r.l[i]?with
  |some c=>c.l|none=>[]
 |none=>[]
theorem An{s:Slice}{p:Nat}(h:p<s.j.l.length):Bb s p=s.j.l[p].l.length:=by unfold Bb;rw[ζd h];rfl
def uP(t:Zj)(A:cu 200 bC)(s:Slice)(p i:Nat):Prop:=(nth s.last.l p<=(i:Int)/\(el s p i).length=0)\/((i:Int)<nth s.last.l p/\(((i:Int)<nth s.first.l p/\el s p i=s.first.l)\/(nth s.first.l p<=(i:Int)/\Cons t A (el s p i)/\(i:Int)<nth (el s p i) p/\gQ s.first.l (el s p i)/\gQ (el s p i) s.last.l)))
def z_(s:Slice)(c:Zy):Prop:=∀p,p<c.length->∀i:Nat,(i:Int)<nth c p->gQ (el s p i) c
def zz(t:Zj)(A:cu 200 bC)(s:Slice):Prop:=((((Cons t A s.first.l/\Cons t A s.last.l)/\gQ s.first.l s.last.l)/\s.j.l.length=t.procs.l.length)/\∀p,p<t.procs.l.length->Bb s p=kK t p)
def JC(t:Zj)(A:cu 200 bC)(s:Slice):Prop:=(zz t A s/\∀p,p<t.procs.l.length->∀i,i<kK t p->uP t A s p i)/\∀p,p<t.procs.l.length->∀i:Nat,(i:Int)<nth s.last.l p->z_ s (el s p i)
def LC(s:Slice):Prop:=(s.first.l.length=0/\s.last.l.length=0)/\s.j.l.length=0
def tO(t:Zj)(A:cu 200 bC)(s:Slice):Prop:=s.empty=true/\LC s\/s.empty=false/\JC t A s
def Dl(s:Slice)(c:Zy):Prop:=((s.empty=false/\gQ s.first.l c)/\gQ c s.last.l)/\z_ s c
structure vm(s:Slice):Prop where
 f:s.first.l.length<=60
 l:s.last.l.length<=60
 j:s.j.l.length<=60
 r:∀r∈s.j.l,r.l.length<=60/\∀c∈r.l,c.l.length<=60
section
variable{t:Zj}{A:cu 200 bC}{s:Slice}
theorem lz{c:Zy}(h:Cons t A c){p:Nat}(a:p<t.procs.l.length):0<=nth c p/\nth c p<=kK t p:=by
 have b:p<c.length:=by rw[h.1.1];exact a
 rw[qg b,qc a];exact h.1.2 p _ _ (ζd b) (ζd a)
theorem wQ{p i:Nat}(a:p<s.j.l.length)(B:i<Bb s p)(D:vm s):∃c,jK s ⟨p,((i+1:Nat):Int)⟩=some c/\c.l=el s p i/\c.l.length<=60:=by rw[An a]at B;have b:=(D.r _ (getElem_mem a));refine⟨s.j.l[p].l[i],?_,?_,b.2 _ (getElem_mem B)⟩;unfold jK;dsimp only;rw[bM a,ζb,gU _ Za Za,show((i+1:Nat):Int)-1=(i:Int)from Za,bM B,ζb];unfold el;rw[ζd a];dsimp only;rw[ζd B]
theorem rV{c:Zg}{f:bf->a_ Zl}{g:Nat->Nat->Prop}(b:c.l.length<1073741824)(B:∀p,p<c.l.length->nth c.l p<1073741824)
 (h:∀p,p<c.l.length->∀i:Nat,(i:Int)<nth c.l p->dn (f ⟨p,((i+1:Nat):Int)⟩) (g p i)):dn (dS c f) (∀p,p<c.l.length->∀i:Nat,(i:Int)<nth c.l p->g p i):=by
 unfold dS dS.W1;refine yH (n:=c.l.length) ?_ ?_
 .intro p hp _;unfold dS.bt;rw[kq hp,bS,bM hp,ζb];unfold dS.W2;have u:=qg hp;have B:=B p hp;rw[u]at B
  by_cases d:c.l[p]<=0
  .refine Ht (n:=0) (P:=λ_=>True) (λi t=>absurd t Za) (λ_=>?_) (λ_=>?_) (λk=>absurd (λi t=>absurd t Za) k)
   .unfold dS.cn;rw[show decide (((0:Nat):Int)<c.l[p])=false from by simp;omega,bX]
   exact(bg _).2 (.inl ⟨λi t=>by rw[u]at t;omega,by rw[cT p Za]⟩)
  obtain⟨k,a⟩:∃k:Nat,c.l[p]=(k:Int):=⟨c.l[p].toNat,Za⟩
  have e:(∀i,i<k->g p i)↔∀i:Nat,(i:Int)<nth c.l p->g p i:=by rw[u,a];exact⟨λh i t=>h i Za,λh i t=>h i Za⟩
  refine Ht (n:=k) (P:=g p) (λi t _=>?_) (λ_=>?_) (λq=>?_) (λq=>?_)
  .unfold dS.cn;rw[show decide ((i:Int)<c.l[p])=true from by simp;omega,bS,cT i Za]
   exact NJ (h p hp i (by rw[u];omega)) rfl
  .unfold dS.cn;rw[show decide ((k:Int)<c.l[p])=false from by simp;omega,bX]
  .exact(bg _).2 (.inl ⟨e.1 q,by rw[cT p Za]⟩)
  exact(bg _).2 (.inr ⟨λw=>q (e.2 w),rfl⟩)
 intro _;unfold dS.bt;rw[kO,bX]
theorem Bj{c:Zg}{p i:Nat}(a:p<c.l.length):oZ ⟨p,((i+1:Nat):Int)⟩ c=some (decide ((i:Int)<nth c.l p)):=by unfold oZ;rw[bM a,ζb,qg a];exact congrArg some (decide_eq_decide.2 (by dsimp only;omega))
theorem HB(U:Small t)(j:cA t=some true)(W:VT t)(Y:eT t (bO t) A)(B:vm s)(k:zz t A s){p i:Nat}(g:p<t.procs.l.length)(l:i<kK t p):
 dn (sY t s ⟨p,((i+1:Nat):Int)⟩) (uP t A s p i):=by
 have⟨⟨⟨⟨m,S⟩,F⟩,H⟩,T⟩:=k;have⟨c,o,C,X⟩:=wQ (s:=s) (p:=p) (i:=i) Za (by rw[T p g];exact l) B
 have Z:p<s.last.l.length:=by rw[S.1.1];exact g
 have q:p<s.first.l.length:=by rw[m.1.1];exact g
 have K:=B.f;have M:=B.l;unfold sY;rw[o,ζb,Bj Z,ζb];unfold uP;rw[<-C]
 by_cases u:(i:Int)<nth s.last.l p
 .rw[decide_eq_true u,bS,Bj q,ζb]
  by_cases w:(i:Int)<nth s.first.l p
  .rw[decide_eq_true w,bS];refine((T_ (a:=c) (b:=s.first) Za).some).iff ?_
   exact⟨λh=>.inr ⟨u,.inl ⟨w,h⟩⟩,λh=>by rcases h with h|⟨_,h|h⟩<;>first|exact h.2|omega⟩
  rw[decide_eq_false w,bX];have r:=E0 U j W Y c;have v:=dn.and (Q:=(i:Int)<nth c.l p) r (n:=oZ ⟨p,((i+1:Nat):Int)⟩ c) (λx=>by rw[Bj (by rw[x.1.1];exact g)];exact j7 Zc) (f:=λD=>(bq D ((oZ ⟨p,((i+1:Nat):Int)⟩ c).bind λG=>some G) (some false):a_ Zl)) (λb=>rfl)
  have y:=dn.and v (Q:=gQ s.first.l c.l) (n:=gz s.first c) (λ_=>A2 Za) (f:=λI=>(bq I ((gz s.first c).bind λJ=>some J) (some false):a_ Zl)) (λb=>rfl)
  have E:=dn.and y (Q:=gQ c.l s.last.l) (n:=gz c s.last) (λ_=>A2 Za) (f:=λL=>(bq L ((gz c s.last).bind λz=>some z) (some false):a_ Zl)) (λb=>rfl)
  have O:=E.some;simp only[Option.bind_assoc]at O⊢;refine O.iff ?_;exact⟨λ⟨⟨⟨a,b⟩,d⟩,e⟩=>.inr ⟨u,.inr ⟨Za,a,b,d,e⟩⟩,λh=>by rcases h with h|⟨_,h|⟨_,a,b,d,e⟩⟩<;>first|exact⟨⟨⟨a,b⟩,d⟩,e⟩|omega⟩
 rw[decide_eq_false u,bX];refine j7 ?_;rw[beq_iff_eq];simp only[len];exact⟨λh=>.inl ⟨Za,Za⟩,λh=>by rcases h with h|h<;>omega⟩
theorem Gz(J:Small t)(d:cA t=some true)(O:VT t)(U:eT t (bO t) A)(B:vm s):dn (ig t s) (zz t A s):=by have T:=B.f;have W:=B.l;have X:=B.j;unfold ig;have Y:=E0 J d O U s.first;have Z:=dn.SZ Y (Q:=Cons t A s.last.l) (λ_=>E0 J d O U s.last) (f:=λz=>(bq z ((jf t s.last).bind λC=>some (!C)) (some true):a_ Zl)) (λb=>rfl);have g:=dn.Ud Z (Q:=gQ s.first.l s.last.l) (λ_=>A2 (a:=s.first) (b:=s.last) Za) (f:=λD=>(bq D (some true) ((gz s.first s.last).bind λG=>some (!G)):a_ Zl)) (λb=>rfl);have L:=dn.SF g (Q:=s.j.l.length=t.procs.l.length) (b:=((len s.j)==(len t.procs))) (λ_=>by rw[beq_iff_eq];simp only[len];omega) (f:=λI=>(bq I (some true) (some (!((len s.j)==(len t.procs)))):a_ Zl)) (λb=>rfl);simp only[Option.bind_assoc]at L⊢;have⟨b,S,h⟩:=L;simp only[<-Option.bind_assoc]at S⊢;rw[S,ζb];cases b with|true=>exact j7 ⟨λe=>(nomatch e),λq=>absurd q.1 (h.1 rfl)⟩|false=>have w:((Cons t A s.first.l/\Cons t A s.last.l)/\gQ s.first.l s.last.l)/\s.j.l.length=t.procs.l.length:=byContradiction λq=>(nomatch h.2 q);rw[bX];unfold ig.W1;refine(yH (n:=s.j.l.length) (P:=λp=>Bb s p=kK t p) ?_ ?_).iff ?_;intro p c _;have u:p<t.procs.l.length:=(by rw[<-w.2];exact c);unfold ig.bt;rw[kq c,bS,bM c,ζb,bM u,ζb];refine QG ?_ (cT p Za);rw[beq_iff_eq,An c,qc u];simp only[len];omega;intro _;unfold ig.bt;rw[kO,bX];exact⟨λq=>⟨w,λp c=>q p (by rw[w.2];exact c)⟩,λq p c=>q.2 p (by rw[<-w.2];exact c)⟩
theorem Nd(D:Small t)(B:VT t):∃c,gC t=some c/\c.l.length=t.procs.l.length/\∀p,p<t.procs.l.length->nth c.l p=kK t p:=by have C:=B.few;unfold gC gC.W1;refine iA (P:=λc:Zg=>c.l.length=t.procs.l.length/\∀p,p<t.procs.l.length->nth c.l p=kK t p) t.procs.l.length (λi(s:Zg×Int)=>s.2=(i:Int)/\s.1.l.length=i/\∀p,p<i->nth s.1.l p=kK t p) ⟨rfl,rfl,λp b=>absurd b Za⟩ ?_ ?_;rintro i ⟨o,_⟩ z ⟨e,a,u⟩;simp only at e a u;subst e;unfold gC.bt;rw[kq z,bS,bM z,ζb];have⟨r,d,w⟩:=n9 (s:=o) (x:=len t.procs.l[i].events) Za;rw[d,ζb,bg];refine⟨cT i Za,by rw[w];simp[a],λp b=>?_⟩;show nth r.l p=_;rw[w];by_cases e:p=i;subst e;unfold nth;rw[List.getElem?_append_right Za,a,Nat.sub_self,qc z];rfl;unfold nth;rw[List.getElem?_append_left Za];exact u p Za;rintro⟨o,_⟩ ⟨e,a,u⟩;simp only at e a u;subst e;unfold gC.bt;rw[kO,bX,bg];exact(bg _).2 ⟨a,u⟩
theorem JU(B:zz t A s)(h:∀p,p<t.procs.l.length->∀i,i<kK t p->uP t A s p i){p i:Nat}(a:p<t.procs.l.length)(D:(i:Int)<nth s.last.l p):i<kK t p/\Cons t A (el s p i):=by have w:=lz B.1.1.1.2 a;have u:i<kK t p:=Za;refine⟨u,?_⟩;rcases h p a i u with k|⟨_,k|k⟩;omega;rw[k.2];exact B.1.1.1.1;exact k.2.1
theorem CV(O:Small t)(l:cA t=some true)(U:VT t)(o:eT t (bO t) A)(W:vm s):dn (mC t s) (tO t A s):=by
 have h8:=U.few;have G:∀p,p<t.procs.l.length->kK t p<1073741824:=λp a=>by rw[qc a];exact(O.2 _ (getElem_mem a)).1
 unfold mC;rw[l,ζb,bS];cases r:s.empty with|true=>rw[bS];have T:=dn.RS (m:=some (len s.first==0)) (P:=s.first.l.length=0) (j7 (by rw[beq_iff_eq];simp only[len];omega)) (b:=(len s.last==0)) (Q:=s.last.l.length=0) (λ_=>by rw[beq_iff_eq];simp only[len];omega) (f:=λx=>(bq x (some (len s.last==0)) (some false):a_ Zl)) (λb=>rfl);have L:=dn.RS T (b:=(len s.j==0)) (Q:=s.j.l.length=0) (λ_=>by rw[beq_iff_eq];simp only[len];omega) (f:=λx=>(bq x (some (len s.j==0)) (some false):a_ Zl)) (λb=>rfl);rw[ζb]at L;have k:=(dn.some L).iff (Q:=tO t A s) (by unfold tO LC;rw[r];simp);rw[Option.bind_assoc]at k;exact k|false=>
  rw[bX];have T:=Gz O l U o W;have⟨c,v,X,w⟩:=Nd O U;have L:=dn.SZ T (Q:=∀p,p<t.procs.l.length->∀i,i<kK t p->uP t A s p i) (n:=(gC t).bind λI=>dS I (λz=>mM z t s)) (λE=>by
   rw[v,ζb];refine(rV (g:=uP t A s) Za (λp a=>by rw[w p Za];have:=G p Za;omega) (λp a i J=>?_)).iff ?_
   .rw[w p Za]at J
    exact(HB O l U o W E Za Za).some
   rw[X];constructor
   .intro h p a i J;exact h p a i (by rw[w p a];omega)
   intro h p a i J;exact h p a i (by rw[w p a]at J;omega)) (f:=λY=>(bq Y ((gC t).bind λI=>(dS I (λz=>mM z t s)).bind λZ=>some (!Z)) (some true):a_ Zl)) (λb=>by simp only[Option.bind_assoc])
  have⟨b,F,h⟩:=L;rw[<-Option.bind_assoc,F,ζb];have C:tO t A s↔JC t A s:=by unfold tO;rw[r];simp
  cases b with|true=>exact j7 ⟨λe=>(nomatch e),λq=>absurd (C.1 q).1 (h.1 rfl)⟩|false=>have D:zz t A s/\∀p,p<t.procs.l.length->∀i,i<kK t p->uP t A s p i:=byContradiction λq=>(nomatch h.2 q);have H:s.last.l.length=t.procs.l.length:=D.1.1.1.1.2.1.1;have hj:s.j.l.length=t.procs.l.length:=D.1.1.2;rw[bX];refine((rV (g:=λp i=>z_ s (el s p i)) Za (λp a=>?_) (λp a i J=>?_)).some).iff ?_;have:=lz D.1.1.1.1.2 (p:=p) Za;have:=G p Za;omega;have⟨K,S⟩:=JU D.1 D.2 (p:=p) Za J;have⟨d,M,B,ad⟩:=wQ (s:=s) (p:=p) (i:=i) Za (by rw[D.1.2 p Za];exact K) W;unfold pH;rw[M,ζb];refine(rV (g:=λq k=>gQ (el s q k) (el s p i)) Za (λq j=>?_) (λq j k N=>?_)).some|>.iff ?_;rw[B]at j⊢;have u:q<t.procs.l.length:=(by rw[<-S.1.1];exact j);have:=lz S u;have:=G q u;omega;rw[B]at j N;have u:q<t.procs.l.length:=(by rw[<-S.1.1];exact j);have:=lz S u;unfold mH;have⟨y,R,V,ae⟩:=wQ (s:=s) (p:=q) (i:=k) Za (by rw[D.1.2 q u];omega) W;rw[R,ζb,<-V,<-B];exact(A2 Za).some;rw[B];exact Iff.rfl;rw[C,H];exact⟨λq=>⟨D,q⟩,λq=>q.2⟩
theorem Ot(U:Small t)(W:VT t)(O:vm s)(Y:tO t A s){c:Zg}(h:Cons t A c.l):dn (qZ s c) (Dl s c.l):=by
 have o:=W.few;have T:=h.1.1;have X:=O.f;have u:∀p,p<t.procs.l.length->kK t p<1073741824:=λp a=>by rw[qc a];exact(U.2 _ (getElem_mem a)).1
 unfold qZ;have Z:dn ((bq s.empty (some false) ((gz s.first c).bind λw=>some w):a_ Zl)) (s.empty=false/\gQ s.first.l c.l):=by cases B:s.empty with|true=>exact j7 ⟨λe=>(nomatch e),λq=>(nomatch q.1)⟩|false=>exact((A2 Za).some).iff ⟨λq=>⟨rfl,q⟩,λq=>q.2⟩
 have j:=dn.and Z (Q:=gQ c.l s.last.l) (n:=gz c s.last) (λ_=>A2 Za) (f:=λC=>(bq C ((gz c s.last).bind λD=>some D) (some false):a_ Zl)) (λb=>rfl);have k:=dn.and j (Q:=z_ s c.l) (n:=dS c (λz=>mO z s c)) (λl=>by
  rcases Y with⟨B,_⟩|⟨B,L⟩
  .exact absurd l.1.1 (by rw[B];decide)
  have r:s.j.l.length=t.procs.l.length:=L.1.1.1.2;refine rV (g:=λp i=>gQ (el s p i) c.l) Za (λp a=>?_) (λp a i v=>?_)
  .have:=lz h (p:=p) Za;have:=u p Za;omega
  have:=lz h (p:=p) Za
  unfold mO;have⟨d,m,G,x⟩:=wQ (s:=s) (p:=p) (i:=i) Za (by rw[L.1.1.2 p Za];omega) O
  rw[m,ζb,<-G];exact(A2 Za).some) (f:=λI=>(bq I ((dS c (λz=>mO z s c)).bind λJ=>some J) (some false):a_ Zl)) (λb=>rfl)
 have S:=k.some;simp only[Option.bind_assoc]at S⊢;exact S
end
section
variable{t:Zj}{s:Slice}
end
section
variable{t:Zj}{A:cu 200 bC}{s:Slice}
end
theorem Dw{a b:Zy}:gQ a b↔a.length=b.length/\∀p,p<a.length->nth a p<=nth b p:=by constructor;intro h;exact⟨h.1,λp c=>h.nth c⟩;rintro⟨h,k⟩;refine⟨h,λp x y t u=>?_⟩;have:=k p (ζe.1 t).1;unfold nth at this;rw[t,u]at this;exact this
theorem gQ.anti{a b:Zy}(h:gQ a b)(k:gQ b a):a=b:=by refine List.ext_getElem h.1 λp c d=>?_;have e:=h.nth c;have t:=k.nth d;rw[qg c,qg d]at e t;omega
section
variable{t:Zj}{A:cu 200 bC}{U:Zy->Prop}{b:Slice}
structure vu(t:Trace)(A:cu 200 bC)(U:List Int->Prop)(b:Slice):Prop where
 e:b.empty=false
 f:U b.first.l
 mn:∀u,U u->gQ b.first.l u
 j:b.j.l.length=t.procs.l.length
 rows:∀p,p<t.procs.l.length->Bb b p=kK t p
 elm:∀p,p<t.procs.l.length->∀i,i<kK t p->(el b p i=[]/\∀u,U u->nth u p<=(i:Int))\/(U (el b p i)/\(i:Int)<nth (el b p i) p/\∀u,U u->(i:Int)<nth u p->gQ (el b p i) u)
 lc:Cons t A b.last.l
 lf:gQ b.first.l b.last.l
 le:∀p,p<t.procs.l.length->∀i,i<kK t p->U (el b p i)->gQ (el b p i) b.last.l
 la:∀p,p<t.procs.l.length->∃v,U v/\nth b.last.l p=nth v p
theorem vu.up(h:vu t A U b)(B:∀u,U u->Cons t A u){u:Zy}(a:U u):gQ u b.last.l:=by
 have z:=B _ a;refine Dw.2 ⟨z.1.1.trans h.lc.1.1.symm,λp c=>?_⟩;have w:p<t.procs.l.length:=by rw[<-z.1.1];exact c
 have d:=lz z w;have G:=lz h.lc w;refine byContradiction λI=>?_;have C:(nth u p-1).toNat<kK t p:=Za;rcases h.elm p w _ C with⟨_,k⟩|⟨D,J,L⟩;have:=k u a;omega;have O:=(h.le p w _ C D).nth (p:=p) (by rw[(B _ D).1.1];exact w);omega
theorem vu.wX(h:vu t A U b){p i:Nat}(a:p<t.procs.l.length)(B:(i:Int)<nth b.last.l p):i<kK t p/\U (el b p i)/\(i:Int)<nth (el b p i) p/\∀u,U u->(i:Int)<nth u p->gQ (el b p i) u:=by have C:=lz h.lc a;have w:i<kK t p:=Za;have⟨v,c,z⟩:=h.la p a;rcases h.elm p a i w with⟨_,k⟩|k;have:=k v c;omega;exact⟨w,k⟩
theorem vu.form(h:vu t A U b)(D:∀u,U u->Cons t A u):JC t A b:=by
 have O:=D _ h.f;refine⟨⟨⟨⟨⟨⟨O,h.lc⟩,h.lf⟩,h.j⟩,h.rows⟩,λp a i z=>?_⟩,λp a i z q c k d=>?_⟩
 .by_cases G:(i:Int)<nth b.last.l p
  .have⟨_,w,C,I⟩:=h.wX a G;refine .inr ⟨G,?_⟩;by_cases J:(i:Int)<nth b.first.l p;exact .inl ⟨J,(I _ h.f J).anti (h.mn _ w)⟩;exact .inr ⟨Za,D _ w,C,h.mn _ w,h.le p a i z w⟩
  refine .inl ⟨Za,?_⟩;rcases h.elm p a i z with⟨k,_⟩|⟨w,C,_⟩;rw[k];rfl;have:=(h.le p a i z w).nth (p:=p) (by rw[(D _ w).1.1];exact a);omega
 have⟨_,w,C,I⟩:=h.wX a z;have L:=D _ w;have B:q<t.procs.l.length:=by rw[<-L.1.1];exact c
 have:=lz L B;rcases h.elm q B k Za with⟨_,m⟩|⟨_,_,m⟩;have:=m _ w;omega;exact m _ w d
theorem vu.valid(h:vu t A U b)(B:∀u,U u->Cons t A u):tO t A b:=.inr ⟨h.e,h.form B⟩
theorem cover(O:∀u,U u->Cons t A u)(W:∀u v w,U u->U v->qE u_ u v w->U w){c G:Zy}(Y:c.length=t.procs.l.length)(d:U G)(J:gQ G c)
 (h:∀p,p<t.procs.l.length->0<nth c p->∃u,U u/\gQ u c/\nth c p<=nth u p):U c:=by
 have key:∀k,k<=t.procs.l.length->∃u,U u/\gQ u c/\∀p,p<k->nth c p<=nth u p:=by intro k;induction k with|zero=>exactλ_=>⟨G,d,J,λp b=>absurd b Za⟩|succ k L=>intro e;have⟨u,a,B,D⟩:=L Za;by_cases b:0<nth c k;have⟨v,g1,g2,g3⟩:=h k Za b;have z:u.length=v.length:=B.1.trans g2.1.symm;have I:=qE.of u_ z;have⟨Q,S,T⟩:=I.le_max z;refine⟨_,W u v _ a g1 I,T c B g2,λp C=>?_⟩;rcases Nat.lt_or_eq_of_le (Nat.lt_succ_iff.1 C)with q|rfl;exact Int.le_trans (D p q) (Q.nth (by rw[B.1];omega));exact Int.le_trans g3 (S.nth (by rw[g2.1];omega));refine⟨u,a,B,λp C=>?_⟩;rcases Nat.lt_or_eq_of_le (Nat.lt_succ_iff.1 C)with q|rfl;exact D p q;have:=lz (O u a) (p:=p) Za;omega
 have⟨u,a,B,D⟩:=key _ (le_refl _);have:u=c:=B.anti (Dw.2 ⟨B.1.symm,λp b=>D p Za⟩)
 exact this▸a
theorem vu.has(h:vu t A U b)(G:∀u,U u->Cons t A u)(J:∀u v w,U u->U v->qE u_ u v w->U w){c:Zy}(D:Cons t A c):Dl b c↔U c:=by
 constructor;rintro⟨⟨⟨_,e⟩,C⟩,I⟩;refine cover G J D.1.1 h.f e λp a L=>?_;have z:p<c.length:=by rw[D.1.1];exact a
 have S:=C.nth z;have⟨_,O,T,_⟩:=h.wX a (i:=(nth c p-1).toNat) Za;exact⟨_,O,I p z _ Za,Za⟩;intro d;refine⟨⟨⟨h.e,h.mn _ d⟩,h.up G d⟩,λp a i Q=>?_⟩;have B:p<t.procs.l.length:=by rw[<-D.1.1];exact a
 have:=lz D B;rcases h.elm p B i Za with⟨_,k⟩|⟨_,_,k⟩;have:=k _ d;omega;exact k _ d Q
end
end Go.VE
namespace Go.VE
end Go.VE
namespace Go.VE
end Go.VE
namespace Go.VE
theorem QL{c:Zy}{q p:Nat}{v:Int}(a:p<c.length):nth (c.set q v) p=if p=q then v else nth c p:=by unfold nth;by_cases e:p=q;subst e;rw[if_pos rfl,List.getElem?_set_self a];rfl;rw[if_neg e,List.getElem?_set_ne (Ne.symm e)]
section
variable{t:Zj}{A:cu 200 bC}{s:Slice}
theorem ve.to{c d:Zy}(B:Cons t A c)(h:ve t A c d):∃p,p<t.procs.l.length/\d=c.set p (nth c p+1)/\Cons t A d:=by
 have⟨p,a,b,u,w⟩:=h;have e:=(ζe.1 b).1;have:nth c p=a:=by unfold nth;rw[b];rfl
 exact⟨p,by rw[<-B.1.1];exact e,by rw[this];exact u,w⟩
theorem ve.le{c d:Zy}(B:Cons t A c)(h:ve t A c d):gQ c d:=by
 obtain⟨p,b,rfl,_⟩:=h.to B;refine Dw.2 ⟨by rw[length_set],λq a=>?_⟩;rw[QL a];split;next e=>subst e;omega
 omega
theorem C_:∀{a b:Zy},gQ a b->a.sum<=b.sum/\(a.sum=b.sum->a=b)
 |[],[],_=>⟨Int.le_refl _,λ_=>rfl⟩|[],_::_,h=>nomatch h.1
 |_::_,[],h=>nomatch h.1
 |x::a,y::b,h=>by have f:=h.2 0 x y rfl rfl;have⟨g,t⟩:=C_ (a:=a) (b:=b) ⟨by simpa using h.1,λp u v c d=>h.2 (p+1) u v c d⟩;simp only[sum_cons];refine⟨Za,λe=>?_⟩;have:x=y:=Za;rw[this,t Za]
end
end Go.VE
