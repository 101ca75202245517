/-
 BarrierLeast says true for all arguments that together are of bulk at most 1048576, and they read behind the call as they read before: for every such argument, without a condition.
-/
import Derived.Test.YtmkkeeoahodfhaaGreatDoorRows
import Derived.Test.YtmkkeeoahodfhaaGreatDoorCards
import Derived.Test.YtmkkeeoahodfhaaGreatDoorTie
import Derived.Deep.DeepHandedRow
import Derived.Test.YtmkkeeoahodfhaaGreatDoorK1
import Derived.Test.YtmkkeeoahodfhaaGreatDoorL1
set_option linter.all false
namespace Go.VE
theorem JP {t:Trace} (B:Small t) (m:Int):∃b,ja t m=some b:=by
 refine EM.get ?_;unfold ja ja.W1;refine eV t.procs.l.length (λi q=>q.2=(i:Int)) rfl ?_ ?_
 .rintro n ⟨c,_⟩ u e;simp only at e;subst e;have h1:=B.1;unfold ja.br;rw[iT u,bS,bK u,ζb,iV,ζb,iV,ζb];rw[xo (f:=λz=>(pO z).getD false) (λz _=>EM.ok ((aZ _).2 trivial)) (B.2 _ (List.getElem_mem u)).1]
  rw[zI (f:=λz=>(pX z).getD false) (λz _=>EM.ok ((aZ _).2 trivial)) (B.2 _ (List.getElem_mem u)).2.1]
  simp only[ζb,iV];rw[bZ];exact⟨λ_=>(aZ _).2 ((aZ _).2 trivial),λ_=>(aZ _).2 (cC n (by omega))⟩
 .rintro⟨c,_⟩ e;simp only at e;subst e;unfold ja.br;rw[iS,b_,aZ];exact(aZ _).2 trivial
theorem oa {a b:Sl (Sl Int)} (h:ins a=ins b) (B:∀x∈ins a,x.length<1073741824) (D:a.l.length<1073741824):iu a b=some true:=by
 have w:b.l.length=a.l.length:=by rw[<-fM,<-h,fM]
 unfold iu;rw[show (len a==len b)=true from by simp[len,w],bS]
 refine Wp.eq ?_;unfold iu.W1;refine eV a.l.length (λi (q:Int)=>q=(i:Int)) rfl ?_ ?_
 .rintro i _ u rfl;have t:i<b.l.length:=by omega
  have e:a.l[i].l=b.l[i].l:=by
   have h1:=nv u;rw[h,nv t]at h1;exact(Option.some.inj h1).symm
  unfold iu.br;rw[iT u,bS,bK u,ζb,bK t,ζb,CQ (B _ (jP.2 ⟨_,List.getElem_mem u,rfl⟩)),ζb,decide_eq_true e,bS,aZ];exact cC i (by omega)
 .rintro _ rfl;unfold iu.br;rw[iS,b_,aZ];exact(aZ _).2 rfl
theorem wv {L:List (List Int)} {f:Nat->Bool} {c:List Int}:∀n,c∈outs L f n->c∈L
 | 0,h=>by cases h
 | n+1,h=>by
  by_cases k:Rc L f n/\f n=true
  .by_cases B:n<L.length
   .rw[Ax k.1 k.2 (ζd B)]at h;rcases List.mem_append.1 h with h|h
    .exact wv n h
    .rw[List.mem_singleton.1 h];exact List.getElem_mem B
   .have h:c∈outs L f n++_:=h;rw[if_pos k,List.getElem?_eq_none (by omega),show (none:Option (List Int)).toList=[]from rfl,List.append_nil]at h
    exact wv n h
  .rw[yS k]at h;exact wv n h
theorem Eb {L:List (List Int)} {f:Nat->Bool}:∀n,(outs L f n).length<=n
 | 0=>Nat.le_refl _
 | n+1=>by
  have:=Eb (L:=L) (f:=f) n;show (outs L f n++_).length<=_;rw[ζi];split
  .have:L[n]?.toList.length<=1:=by cases L[n]? <;> simp
   omega
  .simp;omega
section
variable {t:Trace} {A:bP 200 bz}
theorem Mf {l:Sl Bool} (J:Small t) (hN:(bQ t).length<1073741824):kS t l=some true:=by
 obtain⟨b,hb⟩:=JP J 14;obtain⟨v,hv,W,C⟩:=Km J hN;unfold kS rq;rw[ζb,bS,hb,ζb,ζb,iV,ζb]
 cases h1:(!b||decide ((len l)>500))with
 | true=>rfl
 | false=>
  rw[b_,W,ζb]
  cases v with
  | false=>
   rw[b_,ζb,ζb,ζb,b_];have X:c_ t=some (none,1):=by
    unfold c_ uJ mK iy;rw[hv];rfl
   unfold pS;rw[X];rfl
  | true=>
   have C:=C rfl;obtain⟨A,i,hA,Y⟩:=C.msgs;have h8:=C.few;rw[bS];unfold uw;rcases Jk J hv C Y with⟨L,r,s,u,B,hc,D,hr,T⟩|⟨_,D⟩
   .rw[D,ζb];simp only;rw[bS,ζb,ζb,ζb,ζb]
    cases h2:(!decide ((len s)<=400))with
    | true=>rfl
    | false=>
     rw[b_];obtain⟨q0,Z,x,U,hB⟩:=NC J C u B hc hr;subst U;have hg:=vm.of u;have hsl:s.l.length=L.length:=by rw[<-fM,T]
     have aa:x.list.l.length=L.length:=by rw[<-fM,hB.list]
     have G:0<L.length:=by
      have:=(u.mem _).2 Bk;exact List.length_pos_of_mem this
     have Q:∀c∈L,0<c.length/\c.length<=8:=λc hc=>by
      have:=u.len hc;have:=C.ok.one;omega
     unfold pS;rw[Z,ζb];simp only;rw[show ((0:Int)==0)=true from rfl,bS,ζb]
     by_cases O:l.l.length=L.length
     .rw[show (len l==len x.list)=true from by simp[len,O,aa],bS]
      obtain⟨q,hq,I⟩:=HW hB hg G B Q O;obtain⟨w,hw,ab,ad⟩:=Mw T B O;obtain⟨z,hz,S⟩:=MF J C Y u G B T ab ad;obtain⟨n,hn,ae⟩:=Nq J C Y u G B T O;rw[hq,ζb];rcases I with⟨rfl,c1,c2⟩|⟨c1,c2,c3⟩
      .simp only;rw[b_,ζb,ζb,bS,ζb];simp only;have af:z=false:=by
        cases z with
        | false=>rfl
        | true=>exact absurd ⟨c1,c2⟩ (S.1 rfl)
       rw[show (len l==len s)=true from by simp[len,O,hsl],bS,hw,ζb,hz,ζb,af];rfl
      .rw[c1,bS,ζb,ζb,bS,ζb];simp only;have ah:z=true:=S.2 c2;rw[show (len l==len s)=true from by simp[len,O,hsl],bS,hw,ζb,hz,ζb,ah,bS,hn,ζb]
       have ai:ins q.1=ins n:=c3.trans ae.symm;have aj:=Eb (L:=L) (f:=eO l) L.length;rw[<-c3,fM]at aj;rw[oa ai (λx U=>by rw[c3]at U;have:=Q _ (wv _ U);omega) (by omega),ζb];rfl
     .rw[show (len l==len x.list)=false from by simp[len];omega,b_,ζb,ζb,bS,ζb]
      simp only;rw[show (len l==len s)=false from by simp[len];omega];rfl
   .rw[D];rfl
end
end Go.VE
namespace Go.VE
theorem BA {α:Type} [cn α] {x:α}:∀{l:List α},x∈l->cn.wt x<=(l.map cn.wt).sum
 | y::l,h=>by
  simp only[List.map_cons,List.sum_cons];rcases List.mem_cons.1 h with rfl|h
  .omega
  .have:=BA h;omega
theorem vY {α:Type} [cn α] (h:∀x:α,1<=cn.wt x):∀(l:List α),l.length<=(l.map cn.wt).sum
 | []=>Nat.le_refl _
 | y::l=>by
  simp only[List.map_cons,List.sum_cons,List.length_cons];have:=vY h l;have:=h y;omega
theorem Bf {α:Type} [cn α] (s:Sl α):cn.wt s=(s.l.map cn.wt).sum+1:=rfl
theorem zK (p:Int):∀(es:List Event) (j:Int),(gP p j es).length=es.length
 | [],_=>rfl
 | _::es,j=>by simp only[gP,List.length_cons,zK p es]
theorem Ey:∀(ps:List cm) (i:Int),(eS i ps).length<=(ps.map cn.wt).sum
 | [],_=>Nat.le_refl _
 | p::ps,i=>by
  simp only[eS,ζi,zK,List.map_cons,List.sum_cons];have h1:=Ey ps (i+1);have t:=vY (α:=Event) (λx=>Nat.le_add_left ..) p.events.l
  have u:cn.wt p=cn.wt p.name+cn.wt p.vars+cn.wt p.events+1:=rfl;have w:=Bf p.events;omega
theorem L8 {t:Trace} (h:cn.wt t<=1048576):Small t/\(bQ t).length<1073741824:=by
 have h0:cn.wt t=cn.wt t.procs+1:=rfl;have h1:=Bf t.procs;have A:=vY (α:=cm) (λx=>Nat.le_add_left ..) t.procs.l
 have B:=Ey t.procs.l 0;refine⟨⟨by omega,λp u=>?_⟩,by show (eS 0 t.procs.l).length<_;omega⟩
 have C:=BA u;have D:cn.wt p=cn.wt p.name+cn.wt p.vars+cn.wt p.events+1:=rfl;have G:=Bf p.events;have I:=Bf p.vars;have J:=vY (α:=Event) (λx=>Nat.le_add_left ..) p.events.l
 have L:=vY (α:=Var) (λx=>Nat.le_add_left ..) p.vars.l
 have w:cn.wt p.name=p.name.size+1:=rfl;refine⟨by omega,by omega,by omega,λv hv=>?_,λe z=>?_⟩
 .have k1:=BA hv;have k2:cn.wt v=cn.wt v.name+cn.wt v.init_+1:=rfl;have k3:cn.wt v.name=v.name.size+1:=rfl;omega
 .have k1:=BA z;have k2:cn.wt e=cn.wt e.kind+cn.wt e.peer+cn.wt e.message+cn.wt e.time+cn.wt e.assign+1:=rfl;have k3:=Bf e.assign;have k4:=vY (α:=Assign) (λx=>Nat.le_add_left ..) e.assign.l
  omega
end Go.VE
namespace Go.Proofs.YtmkkeeoahodfhaaGreatDoor
open Go.ChangeShapes Go.WideShapes Go.ChangeAt Go.RowKit Go.VE
theorem own:ownKnob Tryz.prog.godebug=none:=by kernel_rfl
theorem kids:Kids Tryz.prog (·<Tryz.prog.types.size):=kids_rows (by kernel_rfl) (by kernel_rfl)
theorem full:∀t e,t<Tryz.prog.types.size->Tryz.prog.underlying t=some (.slice e)->0<Tryz.prog.cellsOf e:=slices_full_of Tryz.prog (by kernel_rfl)
theorem vW {H:Type}:∀l:List (DataW H),Rows.uptoBulkAll l=(l.map Rows.uptoBulk).sum
 | []=>by simp[Rows.uptoBulkAll]
 | d::r=>by simp[Rows.uptoBulkAll,vW r]
theorem Lp {H:Type}:tQ (H:=H) Rows.uptoBulk where
 lit l:=by cases l <;> simp[Rows.uptoBulk]
 str s:=by simp[Rows.uptoBulk]
 nil:=by simp[Rows.uptoBulk]
 slice es t:=by rw[Rows.uptoBulk,vW,vW];omega
 agg ps:=by rw[Rows.uptoBulk,vW];exact Nat.le_refl _
theorem Ih:Tryz.prog.globalNamed "antecede/predtype.parts" = some 0:=by kernel_rfl
theorem Nh:(Tryz.prog.globals[0]?).map (·.type)=some 244:=by kernel_rfl
theorem table {W:World} (h:laidMetH Tryz.prog Rows.barrierLeastUptoRow.laid W):Lib.TabIs Tryz.prog W "antecede/predtype.parts" .i64 DX:=
 Lib.tabIs_of_head (rest:=[]) Ih Nh Tryz.underlying244 Tryz.underlying3 (by kernel_rfl) (by kernel_rfl) h
theorem SE {W:World} (h:laidMetH Tryz.prog Rows.barrierLeastUptoRow.laid W):si (snap W):=λg t hg=>by
 change (if Nat.beq g 0 then some (DX.map (V.int .i64))else none)=some t at hg;split at hg
 .rename_i u;cases hg;have:g=0:=Nat.eq_of_beq_eq_true u;subst this;exact Ni (λi w=>(table h).cell Ih i w) (by decide)
 .cases hg
set_option maxRecDepth 100000 in
theorem GK (H:Type) (enc:TypeId×Value->H) (W:World) (base:Nat) (args:Array Value) (ds gs:List (DataW H)) (before:List MemPlace)
 (B:∀(j:Nat) t v,Tryz.f7.params[j]? = some t->args[j]? = some v->Value.okWide Tryz.prog W .any base t v)
 (D:DataW.Whole enc Tryz.prog Tryz.f7.params.toList Rows.barrierLeastSpec.vars false W args.toList ds gs before) (hk:Rows.uptoSmall H (ds++gs)=true) (O:laidMetH Tryz.prog Rows.barrierLeastUptoRow.laid W) :
 Calls Tryz.prog 7 args W λe G=>∃v,e=.returned v/\Rows.barrierLeastSpec.post enc Tryz.prog Tryz.f7 false true false false W args v G:=by
 have u:=D;obtain⟨p,q,z,Q,rfl,S,nr⟩:=D;have C:DataW.TrodAll enc Tryz.prog W 0 (λ_=>true) true Tryz.f7.params.toList args.toList ds p:=z
 rw[Tryz.params7]at C B;obtain⟨I,T,U,X,p0,q0,A,rfl,rfl,h0,Y⟩:=trodAll_cons C;obtain⟨J,Z,d1,aa,p1,q1,rfl,rfl,rfl,h1,r1⟩:=trodAll_cons Y;obtain⟨rfl,rfl,rfl⟩:=trodAll_nil r1;obtain rfl:args=#[I,J]:=by cases args;simp_all
 obtain⟨rfl,rfl⟩:=trodVars_none Q;obtain⟨a0,w0,k0,b0⟩:=Reads.N3 (t:=24) (α:=VE.Trace) B 0 rfl rfl h0;obtain⟨a1,w1,k1,b1⟩:=Reads.N3 (t:=25) (α:=Sl Bool) B 1 rfl rfl h1;have hb:cn.wt a0+cn.wt a1<=1048576:=by
  have c0:=b0 Rows.uptoBulk Lp;have c1:=b1 Rows.uptoBulk Lp;have L:Rows.uptoBulkAll ([U,d1]++[])<=1048576:=of_decide_eq_true hk;rw[vW]at L;simp only[List.append_nil,List.map_cons,List.map_nil,List.sum_cons,List.sum_nil]at L;omega
 obtain⟨hS,hN⟩:=L8 (t:=a0) (by omega)
 have hc:lW cL 7 [VE.enc a0,VE.enc a1]=some [.bool true]:=by
  have hl:(kS a0 a1).bind (λr:Bool=>some [V.bool r])=some [.bool true]:=by rw[Mf (l:=a1) hS hN];rfl
  exact(vK a0 a1).F.h () _ hl
 have:=IV (P:=Tryz.prog) DV zi calls (f:=7) (xs:=[VE.enc a0,VE.enc a1]) (by simp[V.cq,V.good,gY]) hc (w:=W) (args:=#[I,J]) (SE O) (cz.cons w0 (cz.cons w1 .nil))
 refine this.mono λe G ⟨he,hg⟩=>?_
 subst he;exact⟨_,rfl,JM kids full (by rw[Tryz.params7];decide) rfl rfl rfl Tryz.underlying4 u hg⟩
noncomputable def yG (os:Os):World:=
 { World.holding Tryz.prog os ⟨#[],#[],[]⟩with heap:=(World.holding Tryz.prog os ⟨#[],#[],[]⟩).heap.modify 0 fun
  | .cells _ t frozen=>.cells (DX.map (Value.int .i64)).toArray t frozen
  | o=>o }
theorem MM (os:Os):laidMet Tryz.prog Rows.barrierLeastUptoRow.laid ((yG os).forCall (λ_ _=>0) ⟨#[],#[.agg #[.slice none 0 0],.slice none 0 0],[]⟩).memory:=
 laidMet_of_run' 8 (by kernel_rfl) (by kernel_rfl)
theorem ML (os:Os) {H:Type} (enc:TypeId×Value->H):∃places,DataW.whole enc Tryz.prog ((yG os).forCall (λ_ _=>0) ⟨#[],#[.agg #[.slice none 0 0],.slice none 0 0],[]⟩).memory Tryz.f7.params.toList Rows.barrierLeastSpec.vars false (#[.agg #[.slice none 0 0],.slice none 0 0]:Array Value).toList 8=some ([.agg [.nil],.nil],[],places):=
 ⟨[],by kernel_rfl⟩
set_option maxRecDepth 100000 in
theorem JG (os:Os) (B:os.Started) (H:Type) (enc:TypeId×Value->H) (F:Stop.Interp) :
 ReturnsInHanded {} Tryz.checked os 7 .any ((Rows.OpenSpec.upto Rows.barrierLeastSpec).preRow enc Tryz.prog Tryz.f7 Rows.barrierLeastUptoRow.domain false Rows.barrierLeastUptoRow.laid) (((Rows.OpenSpec.upto Rows.barrierLeastSpec).at F).post enc Tryz.prog Tryz.f7 false true false false):=by
 obtain⟨places,w⟩:=ML os enc;refine returnsInHanded_of_row (C:=Tryz.checked) (s:=Rows.OpenSpec.upto Rows.barrierLeastSpec) own B (by kernel_rfl) Tryz.func7
  (witness_row_at (enc:=enc) (C:=Tryz.checked) false (yG os) #[.agg #[.slice none 0 0],.slice none 0 0] rfl (by kernel_rfl) (by kernel_rfl) (by kernel_rfl)
   (OpenSpec.preRow_of_cond 8 w (by kernel_rfl) (λk hk=>by cases hk;kernel_rfl) (by kernel_rfl) (MM os))) ?_
 intro W base args ds gs before u z _ t _ A _ _;exact GK H enc W base args ds gs before u z (t _ rfl) A
theorem Pa:Rows.BarrierLeastUptoSaid:=
 OpenClaim.holds_of_cond 7 Tryz.f7 rfl rfl rfl rfl rfl rfl rfl ⟨rfl,rfl,rfl,rfl,rfl⟩ rfl rfl rfl rfl rfl (by kernel_rfl) Tryz.func7 (by kernel_rfl)
  (of_decide_eq_true (by kernel_rfl)) (by unfold Func.isWrapper;first|(rw[if_pos (by decide +kernel)];kernel_rfl)|(rw[if_neg (by decide +kernel)];exact⟨rfl,rfl⟩))
  (λos t H enc _ F=>by rw[OpenClaim.pre_eq_preRow];exact JG os t H enc F)
theorem Mq (f:FuncId) (fn:Func) (D:Tryz.pinned.checked.prog.funcNamed "antecede/antecedelaw42.BarrierLeast" = some f) (B:Tryz.pinned.checked.prog.funcs[f]? = some fn) :
 false=Tryz.pinned.checked.prog.looks []/\∀(j:Nat) t,fn.params[j]? = some t->Tryz.pinned.checked.prog.wantsStandIn t=false:=by
 obtain rfl:f=7:=Option.some.inj ((show Tryz.prog.funcNamed "antecede/antecedelaw42.BarrierLeast" = some 7 by kernel_rfl).symm.trans D) |>.symm
 obtain rfl:fn=Tryz.f7:=(Option.some.inj (Tryz.func7.symm.trans B)).symm;refine⟨by kernel_rfl,λj t z=>?_⟩
 rw[Tryz.params7]at z;have A:t∈[24,25]:=by simpa using Array.mem_of_getElem? z
 have w:([24,25].all λu => !Tryz.prog.wantsStandIn u)=true:=by kernel_rfl
 exact(show Tryz.prog.wantsStandIn t=false by simpa using List.all_eq_true.1 w t A)
theorem barrierLeastProved:Rows.BarrierLeastUptoCardSaid:=
 Claim7.holds_tied_plain_at .later [] _ _ _ _ Pa (λ_ h=>by cases h) (by kernel_rfl) (λ_ h=>by cases h) barrierLeastUpto_row_tie rfl ⟨rfl,rfl⟩ (by kernel_rfl) rfl Mq (by kernel_rfl)
#print axioms barrierLeastProved
end Go.Proofs.YtmkkeeoahodfhaaGreatDoor
