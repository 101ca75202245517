/-
 EvaluateCuts says true for all arguments that together are of bulk at most 1048576, and they read behind the call as they read before: for every such argument, without a condition.
-/
import Derived.Test.YtlmckmkfopljoaaGreatDoorRows
import Derived.Test.YtlmckmkfopljoaaGreatDoorCards
import Derived.Test.YtlmckmkfopljoaaGreatDoorTie
import Derived.Deep.DeepHandedRow
import Derived.Test.YtlmckmkfopljoaaGreatDoorK1
import Derived.Test.YtlmckmkfopljoaaGreatDoorL1
set_option linter.all false
namespace Go.VE
theorem zR {α:Type} [cm α] {x:α}:∀{l:List α},x∈l->cm.wt x<=(l.map cm.wt).sum
 | y::l,h=>by
  simp only[List.map_cons,List.sum_cons];rcases List.mem_cons.1 h with rfl|h
  .omega
  .have:=zR h;omega
theorem vM {α:Type} [cm α] (h:∀x:α,1<=cm.wt x):∀(l:List α),l.length<=(l.map cm.wt).sum
 | []=>Nat.le_refl _
 | y::l=>by
  simp only[List.map_cons,List.sum_cons,List.length_cons];have:=vM h l;have:=h y;omega
theorem A4 {α:Type} [cm α] (s:Sl α):cm.wt s=(s.l.map cm.wt).sum+1:=rfl
theorem BG (p:Int):∀(es:List Event) (j:Int),(iH p j es).length=es.length
 | [],_=>rfl
 | _::es,j=>by simp only[iH,List.length_cons,BG p es]
theorem Gz:∀(ps:List bT) (i:Int),(fI i ps).length<=(ps.map cm.wt).sum
 | [],_=>Nat.le_refl _
 | p::ps,i=>by
  simp only[fI,ζi,BG,List.map_cons,List.sum_cons];have h1:=Gz ps (i+1);have u:=vM (α:=Event) (λx=>Nat.le_add_left ..) p.events.l
  have w:cm.wt p=cm.wt p.name+cm.wt p.vars+cm.wt p.events+1:=rfl;have z:=A4 p.events;omega
theorem OK {t:Trace} (h:cm.wt t<=1048576):Small t/\(bU t).length<1073741824:=by
 have h0:cm.wt t=cm.wt t.procs+1:=rfl;have h1:=A4 t.procs;have C:=vM (α:=bT) (λx=>Nat.le_add_left ..) t.procs.l
 have D:=Gz t.procs.l 0;refine⟨⟨by omega,λp u=>?_⟩,by show (fI 0 t.procs.l).length<_;omega⟩
 have G:=zR u;have I:cm.wt p=cm.wt p.name+cm.wt p.vars+cm.wt p.events+1:=rfl;have J:=A4 p.events;have L:=A4 p.vars;have O:=vM (α:=Event) (λx=>Nat.le_add_left ..) p.events.l
 have Q:=vM (α:=Var) (λx=>Nat.le_add_left ..) p.vars.l
 have w:cm.wt p.name=p.name.size+1:=rfl;refine⟨by omega,by omega,by omega,λv hv=>?_,λe z=>?_⟩
 .have k1:=zR hv;have A:cm.wt v=cm.wt v.name+cm.wt v.init_+1:=rfl;have B:cm.wt v.name=v.name.size+1:=rfl;omega
 .have k1:=zR z;have A:cm.wt e=cm.wt e.kind+cm.wt e.peer+cm.wt e.message+cm.wt e.time+cm.wt e.assign+1:=rfl;have B:=A4 e.assign;have S:=vM (α:=Assign) (λx=>Nat.le_add_left ..) e.assign.l
  omega
theorem V2 (p:Pred):cm.wt p<=1048576->p.Sm:=by
 induction p using Pred.ind with
 | h p w=>
  intro h;have h0:∃m,cm.wt p=m+Pred.QG p.l+1:=by cases p;exact⟨_,rfl⟩
  obtain⟨m,h0⟩:=h0;have h1:=Pred.Wa p.l;have z:=A4 p.l;have A:=vM (α:=Pred) (λx=>by cases x;exact Nat.le_add_left ..) p.l.l
  unfold Pred.Sm;rw[p.j_,ζh,List.all_eq_true];refine⟨decide_eq_true (by omega),λq u=>w q u ?_⟩
  have:=zR u;omega
end Go.VE
namespace Go.Proofs.YtlmckmkfopljoaaGreatDoor
open Go.ChangeShapes Go.WideShapes Go.ChangeAt Go.RowKit Go.VE
theorem own:ownKnob Tryz.prog.godebug=none:=by kernel_rfl
theorem kids:Kids Tryz.prog (·<Tryz.prog.types.size):=kids_rows (by kernel_rfl) (by kernel_rfl)
theorem full:∀t e,t<Tryz.prog.types.size->Tryz.prog.underlying t=some (.slice e)->0<Tryz.prog.cellsOf e:=slices_full_of Tryz.prog (by kernel_rfl)
theorem xG {H:Type}:∀l:List (DataW H),Rows.uptoBulkAll l=(l.map Rows.uptoBulk).sum
 | []=>by simp[Rows.uptoBulkAll]
 | d::r=>by simp[Rows.uptoBulkAll,xG r]
theorem GM {H:Type}:sM (H:=H) Rows.uptoBulk where
 lit l:=by cases l <;> simp[Rows.uptoBulk]
 str s:=by simp[Rows.uptoBulk]
 nil:=by simp[Rows.uptoBulk]
 slice es u:=by rw[Rows.uptoBulk,xG,xG];omega
 agg w:=by rw[Rows.uptoBulk,xG];exact Nat.le_refl _
theorem Ku:Tryz.prog.globalNamed "antecede/predtype.parts" = some 0:=by kernel_rfl
theorem Pf:(Tryz.prog.globals[0]?).map (·.type)=some 183:=by kernel_rfl
theorem table {W:World} (h:laidMetH Tryz.prog Rows.evaluateCutsUptoRow.laid W):Lib.TabIs Tryz.prog W "antecede/predtype.parts" .i64 CT:=
 Lib.tabIs_of_head (rest:=[]) Ku Pf Tryz.underlying183 Tryz.underlying3 (by kernel_rfl) (by kernel_rfl) h
theorem Vg {W:World} (h:laidMetH Tryz.prog Rows.evaluateCutsUptoRow.laid W):ua (snap W):=λg cs hg=>by
 change (if Nat.beq g 0 then some (CT.map (V.int .i64))else none)=some cs at hg;split at hg
 .rename_i u;cases hg;have:g=0:=Nat.eq_of_beq_eq_true u;subst this;exact Qe (λi hi=>(table h).cell Ku i hi) (by decide)
 .cases hg
set_option maxRecDepth 100000 in
theorem Jd (H:Type) (enc:TypeId×Value->H) (W:World) (base:Nat) (args:Array Value) (ds gs:List (DataW H)) (before:List MemPlace)
 (B:∀(j:Nat) t v,Tryz.f3.params[j]? = some t->args[j]? = some v->Value.okWide Tryz.prog W .any base t v)
 (G:DataW.Whole enc Tryz.prog Tryz.f3.params.toList Rows.evaluateCutsSpec.vars false W args.toList ds gs before) (hk:Rows.uptoSmall H (ds++gs)=true) (U:laidMetH Tryz.prog Rows.evaluateCutsUptoRow.laid W) :
 Calls Tryz.prog 3 args W λe J=>∃v,e=.returned v/\Rows.evaluateCutsSpec.post enc Tryz.prog Tryz.f3 false true false false W args v J:=by
 have A:=G;obtain⟨p,q,C,hV,rfl,T,X⟩:=G;have I:DataW.TrodAll enc Tryz.prog W 0 (λ_=>true) true Tryz.f3.params.toList args.toList ds p:=C
 rw[Tryz.params3]at I B;obtain⟨L,Y,Z,aa,p0,q0,D,rfl,rfl,h0,r0⟩:=trodAll_cons I;obtain⟨O,ab,d1,ad,p1,q1,rfl,rfl,rfl,h1,r1⟩:=trodAll_cons r0;obtain⟨Q,ae,d2,af,p2,q2,rfl,rfl,rfl,h2,r2⟩:=trodAll_cons r1;obtain⟨rfl,rfl,rfl⟩:=trodAll_nil r2;obtain rfl:args=#[L,O,Q]:=by cases args;simp_all
 obtain⟨rfl,rfl⟩:=trodVars_none hV;obtain⟨a0,w0,k0,b0⟩:=Reads.K0 (t:=24) (α:=VE.Trace) B 0 rfl rfl h0;obtain⟨u,w1,k1,b1⟩:=Reads.K0 (t:=25) (α:=Sl Int) B 1 rfl rfl h1;obtain⟨z,w2,k2,b2⟩:=Reads.K0 (t:=28) (α:=VE.Pred) B 2 rfl rfl h2;have hb:cm.wt a0+cm.wt u+cm.wt z<=1048576:=by
  have c0:=b0 Rows.uptoBulk GM;have c1:=b1 Rows.uptoBulk GM;have c2:=b2 Rows.uptoBulk GM;have S:Rows.uptoBulkAll ([Z,d1,d2]++[])<=1048576:=of_decide_eq_true hk;rw[xG]at S;simp only[List.append_nil,List.map_cons,List.map_nil,List.sum_cons,List.sum_nil]at S;omega
 obtain⟨hS,hN⟩:=OK (t:=a0) (by omega)
 have hc:fS cL 3 [VE.enc a0,VE.enc u,VE.enc z]=some [.bool true]:=by
  have hl:(dR a0 u z).bind (λr:Bool=>some [V.bool r])=some [.bool true]:=by rw[SR (t:=a0) (c:=u) hS hN (V2 z (by omega))];rfl
  exact(xI a0 u z).F.h () _ hl
 have:=Ks (P:=Tryz.prog) Ro JV calls (f:=3) (xs:=[VE.enc a0,VE.enc u,VE.enc z]) (by simp[V.cG,V.good,mA]) hc (w:=W) (args:=#[L,O,Q]) (Vg U) (cI.cons w0 (cI.cons w1 (cI.cons w2 .nil)))
 refine this.mono λe J ⟨he,hg⟩=>?_
 subst he;exact⟨_,rfl,NX kids full (by rw[Tryz.params3];decide) rfl rfl rfl Tryz.underlying4 A hg⟩
noncomputable def Av (os:Os):World:=
 { World.holding Tryz.prog os ⟨#[],#[],[]⟩with heap:=(World.holding Tryz.prog os ⟨#[],#[],[]⟩).heap.modify 0 fun
  | .cells _ t frozen=>.cells (CT.map (Value.int .i64)).toArray t frozen
  | o=>o }
theorem Pe (os:Os):laidMet Tryz.prog Rows.evaluateCutsUptoRow.laid ((Av os).forCall (λ_ _=>0) ⟨#[],#[.agg #[.slice none 0 0],.slice none 0 0,.agg #[.int .i64 0,.int .i64 0,.int .i64 0,.int .i64 0,.string ByteArray.empty,.slice none 0 0]],[]⟩).memory:=
 laidMet_of_run' 8 (by kernel_rfl) (by kernel_rfl)
theorem PG (os:Os) {H:Type} (enc:TypeId×Value->H):∃places,DataW.whole enc Tryz.prog ((Av os).forCall (λ_ _=>0) ⟨#[],#[.agg #[.slice none 0 0],.slice none 0 0,.agg #[.int .i64 0,.int .i64 0,.int .i64 0,.int .i64 0,.string ByteArray.empty,.slice none 0 0]],[]⟩).memory Tryz.f3.params.toList Rows.evaluateCutsSpec.vars false (#[.agg #[.slice none 0 0],.slice none 0 0,.agg #[.int .i64 0,.int .i64 0,.int .i64 0,.int .i64 0,.string ByteArray.empty,.slice none 0 0]]:Array Value).toList 8=some ([.agg [.nil],.nil,.agg [.lit (.int .i64 0),.lit (.int .i64 0),.lit (.int .i64 0),.lit (.int .i64 0),.lit (.string []),.nil]],[],places):=
 ⟨[],by kernel_rfl⟩
set_option maxRecDepth 100000 in
theorem NB (os:Os) (B:os.Started) (H:Type) (enc:TypeId×Value->H) (F:Stop.Interp) :
 ReturnsInHanded {} Tryz.checked os 3 .any ((Rows.OpenSpec.upto Rows.evaluateCutsSpec).preRow enc Tryz.prog Tryz.f3 Rows.evaluateCutsUptoRow.domain false Rows.evaluateCutsUptoRow.laid) (((Rows.OpenSpec.upto Rows.evaluateCutsSpec).at F).post enc Tryz.prog Tryz.f3 false true false false):=by
 obtain⟨places,z⟩:=PG os enc;refine returnsInHanded_of_row (C:=Tryz.checked) (s:=Rows.OpenSpec.upto Rows.evaluateCutsSpec) own B (by kernel_rfl) Tryz.func3
  (witness_row_at (enc:=enc) (C:=Tryz.checked) false (Av os) #[.agg #[.slice none 0 0],.slice none 0 0,.agg #[.int .i64 0,.int .i64 0,.int .i64 0,.int .i64 0,.string ByteArray.empty,.slice none 0 0]] rfl (by kernel_rfl) (by kernel_rfl) (by kernel_rfl)
   (OpenSpec.preRow_of_cond 8 z (by kernel_rfl) (λk hk=>by cases hk;kernel_rfl) (by kernel_rfl) (Pe os))) ?_
 intro W base args ds gs before w A _ u _ D _ _;exact Jd H enc W base args ds gs before w A (u _ rfl) D
theorem SD:Rows.EvaluateCutsUptoSaid:=
 OpenClaim.holds_of_cond 3 Tryz.f3 rfl rfl rfl rfl rfl rfl rfl ⟨rfl,rfl,rfl,rfl,rfl⟩ rfl rfl rfl rfl rfl (by kernel_rfl) Tryz.func3 (by kernel_rfl)
  (of_decide_eq_true (by kernel_rfl)) (by unfold Func.isWrapper;first|(rw[if_pos (by decide +kernel)];kernel_rfl)|(rw[if_neg (by decide +kernel)];exact⟨rfl,rfl⟩))
  (λos u H enc _ F=>by rw[OpenClaim.pre_eq_preRow];exact NB os u H enc F)
theorem Oz (f:FuncId) (fn:Func) (D:Tryz.pinned.checked.prog.funcNamed "antecede/antecedelaw29.EvaluateCuts" = some f) (B:Tryz.pinned.checked.prog.funcs[f]? = some fn) :
 false=Tryz.pinned.checked.prog.looks []/\∀(j:Nat) t,fn.params[j]? = some t->Tryz.pinned.checked.prog.wantsStandIn t=false:=by
 obtain rfl:f=3:=Option.some.inj ((show Tryz.prog.funcNamed "antecede/antecedelaw29.EvaluateCuts" = some 3 by kernel_rfl).symm.trans D) |>.symm
 obtain rfl:fn=Tryz.f3:=(Option.some.inj (Tryz.func3.symm.trans B)).symm;refine⟨by kernel_rfl,λj t z=>?_⟩
 rw[Tryz.params3]at z;have A:t∈[24,25,28]:=by simpa using Array.mem_of_getElem? z
 have w:([24,25,28].all λu => !Tryz.prog.wantsStandIn u)=true:=by kernel_rfl
 exact(show Tryz.prog.wantsStandIn t=false by simpa using List.all_eq_true.1 w t A)
theorem evaluateCutsProved:Rows.EvaluateCutsUptoCardSaid:=
 Claim7.holds_tied_plain_at .later [] _ _ _ _ SD (λ_ h=>by cases h) (by kernel_rfl) (λ_ h=>by cases h) evaluateCutsUpto_row_tie rfl ⟨rfl,rfl⟩ (by kernel_rfl) rfl Oz (by kernel_rfl)
#print axioms evaluateCutsProved
end Go.Proofs.YtlmckmkfopljoaaGreatDoor
