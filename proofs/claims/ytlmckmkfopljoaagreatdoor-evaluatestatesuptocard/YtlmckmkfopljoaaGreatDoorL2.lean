/-
 EvaluateStates says true for all arguments that together are of bulk at most 1048576, and they read behind the call as they read before: for every such argument, without a condition.
-/
import Derived.Test.YtlmckmkfopljoaaGreatDoorRows
import Derived.Test.YtlmckmkfopljoaaGreatDoorCards
import Derived.Test.YtlmckmkfopljoaaGreatDoorTie
import Derived.Deep.DeepHandedRow
import Derived.Test.YtlmckmkfopljoaaGreatDoorK1
import Derived.Test.YtlmckmkfopljoaaGreatDoorL1
set_option linter.all false
namespace Go.VE
theorem zS {α:Type} [ck α] {x:α}:∀{l:List α},x∈l->ck.wt x<=(l.map ck.wt).sum
 | y::l,h=>by
  simp only[List.map_cons,List.sum_cons];rcases List.mem_cons.1 h with rfl|h
  .omega
  .have:=zS h;omega
theorem vE {α:Type} [ck α] (h:∀x:α,1<=ck.wt x):∀(l:List α),l.length<=(l.map ck.wt).sum
 | []=>Nat.le_refl _
 | y::l=>by
  simp only[List.map_cons,List.sum_cons,List.length_cons];have:=vE h l;have:=h y;omega
theorem AO {α:Type} [ck α] (s:Sl α):ck.wt s=(s.l.map ck.wt).sum+1:=rfl
theorem Bf (p:Int):∀(es:List Event) (j:Int),(iI p j es).length=es.length
 | [],_=>rfl
 | _::es,j=>by simp only[iI,List.length_cons,Bf p es]
theorem HL:∀(ps:List bQ) (i:Int),(fM i ps).length<=(ps.map ck.wt).sum
 | [],_=>Nat.le_refl _
 | p::ps,i=>by
  simp only[fM,ζi,Bf,List.map_cons,List.sum_cons];have h1:=HL ps (i+1);have u:=vE (α:=Event) (λx=>Nat.le_add_left ..) p.events.l
  have w:ck.wt p=ck.wt p.name+ck.wt p.vars+ck.wt p.events+1:=rfl;have z:=AO p.events;omega
theorem Oo {t:Trace} (h:ck.wt t<=1048576):Small t/\(cu t).length<1073741824:=by
 have h0:ck.wt t=ck.wt t.procs+1:=rfl;have h1:=AO t.procs;have C:=vE (α:=bQ) (λx=>Nat.le_add_left ..) t.procs.l
 have D:=HL t.procs.l 0;refine⟨⟨by omega,λp u=>?_⟩,by show (fM 0 t.procs.l).length<_;omega⟩
 have G:=zS u;have I:ck.wt p=ck.wt p.name+ck.wt p.vars+ck.wt p.events+1:=rfl;have J:=AO p.events;have L:=AO p.vars;have O:=vE (α:=Event) (λx=>Nat.le_add_left ..) p.events.l
 have Q:=vE (α:=Var) (λx=>Nat.le_add_left ..) p.vars.l
 have w:ck.wt p.name=p.name.size+1:=rfl;refine⟨by omega,by omega,by omega,λv hv=>?_,λe z=>?_⟩
 .have k1:=zS hv;have A:ck.wt v=ck.wt v.name+ck.wt v.init_+1:=rfl;have B:ck.wt v.name=v.name.size+1:=rfl;omega
 .have k1:=zS z;have A:ck.wt e=ck.wt e.kind+ck.wt e.peer+ck.wt e.message+ck.wt e.time+ck.wt e.assign+1:=rfl;have B:=AO e.assign;have S:=vE (α:=Assign) (λx=>Nat.le_add_left ..) e.assign.l
  omega
theorem Vv (p:Pred):ck.wt p<=1048576->p.Sm:=by
 induction p using Pred.ind with
 | h p w=>
  intro h;have h0:∃m,ck.wt p=m+Pred.Q5 p.l+1:=by cases p;exact⟨_,rfl⟩
  obtain⟨m,h0⟩:=h0;have h1:=Pred.Wb p.l;have z:=AO p.l;have A:=vE (α:=Pred) (λx=>by cases x;exact Nat.le_add_left ..) p.l.l
  unfold Pred.Sm;rw[p.hG,ζh,List.all_eq_true];refine⟨decide_eq_true (by omega),λq u=>w q u ?_⟩
  have:=zS u;omega
end Go.VE
namespace Go.Proofs.YtlmckmkfopljoaaGreatDoor
open Go.ChangeShapes Go.WideShapes Go.ChangeAt Go.RowKit Go.VE
theorem own:ownKnob Tryz.prog.godebug=none:=by kernel_rfl
theorem kids:Kids Tryz.prog (·<Tryz.prog.types.size):=kids_rows (by kernel_rfl) (by kernel_rfl)
theorem full:∀t e,t<Tryz.prog.types.size->Tryz.prog.underlying t=some (.slice e)->0<Tryz.prog.cellsOf e:=slices_full_of Tryz.prog (by kernel_rfl)
theorem xO {H:Type}:∀l:List (DataW H),Rows.uptoBulkAll l=(l.map Rows.uptoBulk).sum
 | []=>by simp[Rows.uptoBulkAll]
 | d::r=>by simp[Rows.uptoBulkAll,xO r]
theorem Cm {H:Type}:sS (H:=H) Rows.uptoBulk where
 lit l:=by cases l <;> simp[Rows.uptoBulk]
 str s:=by simp[Rows.uptoBulk]
 nil:=by simp[Rows.uptoBulk]
 slice es u:=by rw[Rows.uptoBulk,xO,xO];omega
 agg w:=by rw[Rows.uptoBulk,xO];exact Nat.le_refl _
theorem Lc:Tryz.prog.globalNamed "antecede/predtype.parts" = some 0:=by kernel_rfl
theorem OO:(Tryz.prog.globals[0]?).map (·.type)=some 183:=by kernel_rfl
theorem table {W:World} (h:laidMetH Tryz.prog Rows.evaluateStatesUptoRow.laid W):Lib.TabIs Tryz.prog W "antecede/predtype.parts" .i64 Cq:=
 Lib.tabIs_of_head (rest:=[]) Lc OO Tryz.underlying183 Tryz.underlying3 (by kernel_rfl) (by kernel_rfl) h
theorem Vw {W:World} (h:laidMetH Tryz.prog Rows.evaluateStatesUptoRow.laid W):tU (snap W):=λg cs hg=>by
 change (if Nat.beq g 0 then some (Cq.map (V.int .i64))else none)=some cs at hg;split at hg
 .rename_i u;cases hg;have:g=0:=Nat.eq_of_beq_eq_true u;subst this;exact Pp (λi hi=>(table h).cell Lc i hi) (by decide)
 .cases hg
set_option maxRecDepth 100000 in
theorem I8 (H:Type) (enc:TypeId×Value->H) (W:World) (base:Nat) (args:Array Value) (ds gs:List (DataW H)) (before:List MemPlace)
 (B:∀(j:Nat) t v,Tryz.f9.params[j]? = some t->args[j]? = some v->Value.okWide Tryz.prog W .any base t v)
 (J:DataW.Whole enc Tryz.prog Tryz.f9.params.toList Rows.evaluateStatesSpec.vars false W args.toList ds gs before) (hk:Rows.uptoSmall H (ds++gs)=true) (Y:laidMetH Tryz.prog Rows.evaluateStatesUptoRow.laid W) :
 Calls Tryz.prog 9 args W λe U=>∃v,e=.returned v/\Rows.evaluateStatesSpec.post enc Tryz.prog Tryz.f9 false true false false W args v U:=by
 have C:=J;obtain⟨p,q,D,hV,rfl,X,Z⟩:=J;have I:DataW.TrodAll enc Tryz.prog W 0 (λ_=>true) true Tryz.f9.params.toList args.toList ds p:=D
 rw[Tryz.params9]at I B;obtain⟨L,aa,d0,ab,p0,q0,G,rfl,rfl,h0,r0⟩:=trodAll_cons I;obtain⟨O,ad,d1,ae,p1,q1,rfl,rfl,rfl,h1,r1⟩:=trodAll_cons r0;obtain⟨Q,af,d2,ah,p2,q2,rfl,rfl,rfl,h2,r2⟩:=trodAll_cons r1;obtain⟨S,ai,d3,aj,p3,q3,rfl,rfl,rfl,h3,r3⟩:=trodAll_cons r2;obtain⟨rfl,rfl,rfl⟩:=trodAll_nil r3;obtain rfl:args=#[L,O,Q,S]:=by cases args;simp_all
 obtain⟨rfl,rfl⟩:=trodVars_none hV;obtain⟨a0,w0,k0,b0⟩:=Reads.FO (t:=24) (α:=VE.Trace) B 0 rfl rfl h0;obtain⟨u,w1,k1,b1⟩:=Reads.FO (t:=3) (α:=Int) B 1 rfl rfl h1;obtain⟨z,w2,k2,b2⟩:=Reads.FO (t:=3) (α:=Int) B 2 rfl rfl h2;obtain⟨A,w3,k3,b3⟩:=Reads.FO (t:=28) (α:=VE.Pred) B 3 rfl rfl h3;have hb:ck.wt a0+ck.wt u+ck.wt z+ck.wt A<=1048576:=by
  have c0:=b0 Rows.uptoBulk Cm;have c1:=b1 Rows.uptoBulk Cm;have c2:=b2 Rows.uptoBulk Cm;have c3:=b3 Rows.uptoBulk Cm;have T:Rows.uptoBulkAll ([d0,d1,d2,d3]++[])<=1048576:=of_decide_eq_true hk;rw[xO]at T;simp only[List.append_nil,List.map_cons,List.map_nil,List.sum_cons,List.sum_nil]at T;omega
 obtain⟨hS,hN⟩:=Oo (t:=a0) (by omega)
 have hc:fE cL 9 [VE.enc a0,VE.enc u,VE.enc z,VE.enc A]=some [.bool true]:=by
  have hl:(dK a0 u z A).bind (λr:Bool=>some [V.bool r])=some [.bool true]:=by rw[J_ (t:=a0) (pr:=u) (k:=z) hS hN (Vv A (by omega))];rfl
  exact(wh a0 u z A).F.h () _ hl
 have:=Lh (P:=Tryz.prog) QV JN calls (f:=9) (xs:=[VE.enc a0,VE.enc u,VE.enc z,VE.enc A]) (by simp[V.cD,V.good,lX]) hc (w:=W) (args:=#[L,O,Q,S]) (Vw Y) (cF.cons w0 (cF.cons w1 (cF.cons w2 (cF.cons w3 .nil))))
 refine this.mono λe U ⟨he,hg⟩=>?_
 subst he;exact⟨_,rfl,Mf kids full (by rw[Tryz.params9];decide) rfl rfl rfl Tryz.underlying4 C hg⟩
noncomputable def Am (os:Os):World:=
 { World.holding Tryz.prog os ⟨#[],#[],[]⟩with heap:=(World.holding Tryz.prog os ⟨#[],#[],[]⟩).heap.modify 0 fun
  | .cells _ t frozen=>.cells (Cq.map (Value.int .i64)).toArray t frozen
  | o=>o }
theorem Oc (os:Os):laidMet Tryz.prog Rows.evaluateStatesUptoRow.laid ((Am os).forCall (λ_ _=>0) ⟨#[],#[.agg #[.slice none 0 0],.int .i64 0,.int .i64 0,.agg #[.int .i64 0,.int .i64 0,.int .i64 0,.int .i64 0,.string ByteArray.empty,.slice none 0 0]],[]⟩).memory:=
 laidMet_of_run' 8 (by kernel_rfl) (by kernel_rfl)
theorem OB (os:Os) {H:Type} (enc:TypeId×Value->H):∃places,DataW.whole enc Tryz.prog ((Am os).forCall (λ_ _=>0) ⟨#[],#[.agg #[.slice none 0 0],.int .i64 0,.int .i64 0,.agg #[.int .i64 0,.int .i64 0,.int .i64 0,.int .i64 0,.string ByteArray.empty,.slice none 0 0]],[]⟩).memory Tryz.f9.params.toList Rows.evaluateStatesSpec.vars false (#[.agg #[.slice none 0 0],.int .i64 0,.int .i64 0,.agg #[.int .i64 0,.int .i64 0,.int .i64 0,.int .i64 0,.string ByteArray.empty,.slice none 0 0]]:Array Value).toList 8=some ([.agg [.nil],.lit (.int .i64 0),.lit (.int .i64 0),.agg [.lit (.int .i64 0),.lit (.int .i64 0),.lit (.int .i64 0),.lit (.int .i64 0),.lit (.string []),.nil]],[],places):=
 ⟨[],by kernel_rfl⟩
set_option maxRecDepth 100000 in
theorem Mw (os:Os) (B:os.Started) (H:Type) (enc:TypeId×Value->H) (F:Stop.Interp) :
 ReturnsInHanded {} Tryz.checked os 9 .any ((Rows.OpenSpec.upto Rows.evaluateStatesSpec).preRow enc Tryz.prog Tryz.f9 Rows.evaluateStatesUptoRow.domain false Rows.evaluateStatesUptoRow.laid) (((Rows.OpenSpec.upto Rows.evaluateStatesSpec).at F).post enc Tryz.prog Tryz.f9 false true false false):=by
 obtain⟨places,z⟩:=OB os enc;refine returnsInHanded_of_row (C:=Tryz.checked) (s:=Rows.OpenSpec.upto Rows.evaluateStatesSpec) own B (by kernel_rfl) Tryz.func9
  (witness_row_at (enc:=enc) (C:=Tryz.checked) false (Am os) #[.agg #[.slice none 0 0],.int .i64 0,.int .i64 0,.agg #[.int .i64 0,.int .i64 0,.int .i64 0,.int .i64 0,.string ByteArray.empty,.slice none 0 0]] rfl (by kernel_rfl) (by kernel_rfl) (by kernel_rfl)
   (OpenSpec.preRow_of_cond 8 z (by kernel_rfl) (λk hk=>by cases hk;kernel_rfl) (by kernel_rfl) (Oc os))) ?_
 intro W base args ds gs before w A _ u _ D _ _;exact I8 H enc W base args ds gs before w A (u _ rfl) D
theorem RH:Rows.EvaluateStatesUptoSaid:=
 OpenClaim.holds_of_cond 9 Tryz.f9 rfl rfl rfl rfl rfl rfl rfl ⟨rfl,rfl,rfl,rfl,rfl⟩ rfl rfl rfl rfl rfl (by kernel_rfl) Tryz.func9 (by kernel_rfl)
  (of_decide_eq_true (by kernel_rfl)) (by unfold Func.isWrapper;first|(rw[if_pos (by decide +kernel)];kernel_rfl)|(rw[if_neg (by decide +kernel)];exact⟨rfl,rfl⟩))
  (λos u H enc _ F=>by rw[OpenClaim.pre_eq_preRow];exact Mw os u H enc F)
theorem Ph (f:FuncId) (fn:Func) (D:Tryz.pinned.checked.prog.funcNamed "antecede/antecedelaw29.EvaluateStates" = some f) (B:Tryz.pinned.checked.prog.funcs[f]? = some fn) :
 false=Tryz.pinned.checked.prog.looks []/\∀(j:Nat) t,fn.params[j]? = some t->Tryz.pinned.checked.prog.wantsStandIn t=false:=by
 obtain rfl:f=9:=Option.some.inj ((show Tryz.prog.funcNamed "antecede/antecedelaw29.EvaluateStates" = some 9 by kernel_rfl).symm.trans D) |>.symm
 obtain rfl:fn=Tryz.f9:=(Option.some.inj (Tryz.func9.symm.trans B)).symm;refine⟨by kernel_rfl,λj t z=>?_⟩
 rw[Tryz.params9]at z;have A:t∈[24,3,3,28]:=by simpa using Array.mem_of_getElem? z
 have w:([24,3,3,28].all λu => !Tryz.prog.wantsStandIn u)=true:=by kernel_rfl
 exact(show Tryz.prog.wantsStandIn t=false by simpa using List.all_eq_true.1 w t A)
theorem evaluateStatesProved:Rows.EvaluateStatesUptoCardSaid:=
 Claim7.holds_tied_plain_at .later [] _ _ _ _ RH (λ_ h=>by cases h) (by kernel_rfl) (λ_ h=>by cases h) evaluateStatesUpto_row_tie rfl ⟨rfl,rfl⟩ (by kernel_rfl) rfl Ph (by kernel_rfl)
#print axioms evaluateStatesProved
end Go.Proofs.YtlmckmkfopljoaaGreatDoor
