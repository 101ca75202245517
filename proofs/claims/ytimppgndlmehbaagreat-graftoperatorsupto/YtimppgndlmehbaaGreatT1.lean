/-
 The tables of this seat, and the law's own awakening.
-/
import Derived.Test.YtimppgndlmehbaaGreatProg
import Derived.KernelRfl
import Derived.Test.YtimppgndlmehbaaGreatV2
set_option linter.all false
namespace Go.Proofs.YtimppgndlmehbaaGreat
open Go.VE Go.Proofs
instance:bX:=⟨λ_=>none,λ_ _ h=>nomatch h⟩
noncomputable def EA:Env:=Cw Tryz.prog [0,1,132,130] [149,85,117,132,145,115,144] [149,85,117,115,144] [(84,2),(125,8)] (λf=>Nat.beq f 132) λf az=>(if Nat.beq f 130 then wS 8 az else none)
noncomputable def E:Env:=Cw Tryz.prog [0,1,132,130,7] [149,85,117,132,145] [149,85,117] [(84,2),(125,8)] (λf=>Nat.beq f 132) λf az=>if Nat.beq f 7 then(if az.isEmpty then some (.bool true)else none)else(if Nat.beq f 130 then wS 8 az else none)
theorem Vw:Ak Tryz.prog=true:=by kernel_rfl
theorem VF:ta Tryz.prog 84 2:=ta.two (i:=3) Tryz.underlying84 rfl rfl rfl rfl (by decide) (by decide) (by kernel_rfl) Tryz.underlying3 (by kernel_rfl) (by kernel_rfl)
theorem Ux:ta Tryz.prog 125 8:=ta.arr (i:=3) Tryz.underlying125 (by kernel_rfl) Tryz.underlying3 (by kernel_rfl)
theorem TC:∀p∈[(84,2),(125,8)],ta Tryz.prog p.1 p.2:=λp h=>match p,h with|_,.head _=>VF|_,.tail _ (.head _)=>Ux
theorem SC:eH Tryz.prog EA:=Fk Vw TC
theorem UZ:eH Tryz.prog E:=Fk Vw TC
theorem mixed:Tryz.prog.follows .mixedOrders=true:=by kernel_rfl
open Go.Shelf
def Tryz.zP:Go.Shelf.Ren:=⟨λ|6=>132|15=>156|14=>155|28=>181|29=>182|20=>173|21=>174|22=>175|23=>176|24=>177|25=>178|26=>179|27=>180|46=>190|47=>191|48=>192|49=>193|50=>194|57=>195|n=>n,λ|22=>36|24=>25|25=>132|3=>3|39=>160|0=>0|53=>186|55=>188|4=>4|46=>179|45=>178|50=>183|5=>5|9=>9|66=>193|70=>197|76=>199|77=>200|n=>n,λ|n=>n⟩
theorem Tryz.OR:Go.Proofs.SlLaysF.n6 Tryz.prog Tryz.zP:={
 mixed:=by kernel_rfl
 f6:=⟨Tryz.f132.name,by decide,Tryz.func132.trans (congrArg some (by kernel_rfl))⟩
 f14:=⟨Tryz.f155.name,by decide,Tryz.func155.trans (congrArg some (by kernel_rfl))⟩
 f15:=Tryz.func156.trans (congrArg some (by kernel_rfl))
 f20:=⟨Tryz.f173.name,by decide,Tryz.func173.trans (congrArg some (by kernel_rfl))⟩
 f21:=⟨Tryz.f174.name,by decide,Tryz.func174.trans (congrArg some (by kernel_rfl))⟩
 f22:=⟨Tryz.f175.name,by decide,Tryz.func175.trans (congrArg some (by kernel_rfl))⟩
 f23:=⟨Tryz.f176.name,by decide,Tryz.func176.trans (congrArg some (by kernel_rfl))⟩
 f24:=⟨Tryz.f177.name,by decide,Tryz.func177.trans (congrArg some (by kernel_rfl))⟩
 f25:=⟨Tryz.f178.name,by decide,Tryz.func178.trans (congrArg some (by kernel_rfl))⟩
 f26:=⟨Tryz.f179.name,by decide,Tryz.func179.trans (congrArg some (by kernel_rfl))⟩
 f27:=⟨Tryz.f180.name,by decide,Tryz.func180.trans (congrArg some (by kernel_rfl))⟩
 f28:=Tryz.func181.trans (congrArg some (by kernel_rfl))
 f29:=Tryz.func182.trans (congrArg some (by kernel_rfl))
 f46:=⟨Tryz.f190.name,by decide,Tryz.func190.trans (congrArg some (by kernel_rfl))⟩
 f47:=Tryz.func191.trans (congrArg some (by kernel_rfl))
 f48:=Tryz.func192.trans (congrArg some (by kernel_rfl))
 f49:=⟨Tryz.f193.name,by decide,Tryz.func193.trans (congrArg some (by kernel_rfl))⟩
 f50:=⟨Tryz.f194.name,by decide,Tryz.func194.trans (congrArg some (by kernel_rfl))⟩
 f57:=⟨Tryz.f195.name,by decide,Tryz.func195.trans (congrArg some (by kernel_rfl))⟩
 t0:=Tryz.underlying0
 a0:=Tryz.isAgg0
 z0:=Tryz.sizeOf0
 v0:=Tryz.zeroValue0
 t3:=Tryz.underlying3
 a3:=Tryz.isAgg3
 z3:=Tryz.sizeOf3
 v3:=Tryz.zeroValue3
 t4:=Tryz.underlying4
 a4:=Tryz.isAgg4
 z4:=Tryz.sizeOf4
 v4:=Tryz.zeroValue4
 t5:=Tryz.underlying5
 a5:=Tryz.isAgg5
 z5:=Tryz.sizeOf5
 v5:=Tryz.zeroValue5
 t9:=Tryz.underlying9
 a9:=Tryz.isAgg9
 z9:=Tryz.sizeOf9
 v9:=Tryz.zeroValue9
 t22:=Tryz.underlying36
 a22:=Tryz.isAgg36
 z22:=Tryz.sizeOf36
 v22:=Tryz.zeroValue36
 a24:=Tryz.isAgg25
 z24:=Tryz.sizeOf25
 t25:=Tryz.underlying132
 a25:=Tryz.isAgg132
 z25:=Tryz.sizeOf132
 v25:=Tryz.zeroValue132
 t39:=Tryz.underlying160
 a39:=Tryz.isAgg160
 z39:=Tryz.sizeOf160
 v39:=Tryz.zeroValue160
 t45:=Tryz.underlying178
 a45:=Tryz.isAgg178
 z45:=Tryz.sizeOf178
 v45:=Tryz.zeroValue178
 t46:=Tryz.underlying179
 a46:=Tryz.isAgg179
 z46:=Tryz.sizeOf179
 v46:=Tryz.zeroValue179
 t50:=Tryz.underlying183
 a50:=Tryz.isAgg183
 z50:=Tryz.sizeOf183
 v50:=Tryz.zeroValue183
 t53:=Tryz.underlying186
 a53:=Tryz.isAgg186
 z53:=Tryz.sizeOf186
 v53:=Tryz.zeroValue186
 t55:=Tryz.underlying188
 a55:=Tryz.isAgg188
 z55:=Tryz.sizeOf188
 v55:=Tryz.zeroValue188
 t66:=Tryz.underlying193
 a66:=Tryz.isAgg193
 z66:=Tryz.sizeOf193
 v66:=Tryz.zeroValue193
 t70:=Tryz.underlying197
 a70:=Tryz.isAgg197
 z70:=Tryz.sizeOf197
 v70:=Tryz.zeroValue197
 t76:=Tryz.underlying199
 a76:=Tryz.isAgg199
 z76:=Tryz.sizeOf199
 v76:=Tryz.zeroValue199
 t77:=Tryz.underlying200
 a77:=Tryz.isAgg200
 z77:=Tryz.sizeOf200
 v77:=Tryz.zeroValue200 }
theorem P0:An Tryz.prog 132 where
 ok:=⟨Tryz.f132,Tryz.func132,by kernel_rfl,by kernel_rfl⟩
 zero:=λp cap q w=>AnyF.slices_SortFunc_none (ρ:=Tryz.zP) { Tryz.OR with } p cap q w
 all:=λenc h1 cf t g cb blk off cap d w u hc z A B=>Any.slices_SortFunc_eq (ρ:=Tryz.zP) Tryz.OR enc h1 cf t g cb blk off cap d w u hc z A B
theorem O8:∀f,EA.sort f=true->An Tryz.prog f:=λf h=>by
 have:f=132:=Nat.eq_of_beq_eq_true h;subst this;exact P0
theorem wq:∀az y,wS 8 az=some y->vN Tryz.prog 130 az y:=
 Qc (f:=130) (A:=125) (S:=25) (e:=3) (n:=8) (bytes:=64) Tryz.func130 rfl rfl rfl (by kernel_rfl) Tryz.underlying125 Tryz.underlying25 (by kernel_rfl) (by kernel_rfl)
theorem Mp:∀f az y,EA.known f az=some y->vN Tryz.prog f az y:=λf az y h=>by
 change (if Nat.beq f 130 then wS 8 az else none)=some y at h;split at h
 .rename_i q;have:f=130:=Nat.eq_of_beq_eq_true q;subst this;exact wq az y h
 .cases h
theorem SE (n:Nat):kG Tryz.prog (run EA n):=DT SC mixed ⟨O8,Mp⟩ n
end Go.Proofs.YtimppgndlmehbaaGreat
namespace Go.Proofs.YtimppgndlmehbaaGreat
open Go.VE Go.Proofs
def k0:jT:=⟨113,[.agg [.fsl 3 [[.str (ByteArray.mk #[97]),.bH,.fsl 5 [[.int .i64 1,.int .i64 0,.int .i64 0,.int .i64 0,.bH]]],[.str (ByteArray.mk #[98]),.bH,.fsl 5 [[.int .i64 1,.int .i64 0,.int .i64 0,.int .i64 0,.bH]]]]]],.tup [.agg [.int .i64 0,.int .i64 0],.int .i64 0]⟩
theorem UR:lU EA k0:=pO (n:=100) (l:=[]) (by simp) (by kernel_rfl)
def k1:jT:=⟨157,[.int .i64 0],.bool false⟩
theorem E7:lU EA k1:=pO (n:=100) (l:=[]) (by simp) (by kernel_rfl)
def k2:jT:=⟨135,[.int .i64 0,.int .i64 0],.int .i64 0⟩
theorem Uc:lU EA k2:=pO (n:=100) (l:=[k1]) (by simp only[List.forall_mem_cons];exact⟨E7,by simp⟩) (by kernel_rfl)
def k3:jT:=⟨157,[.int .i64 1],.bool false⟩
theorem E8:lU EA k3:=pO (n:=100) (l:=[]) (by simp) (by kernel_rfl)
def k4:jT:=⟨135,[.int .i64 0,.int .i64 1],.int .i64 (-1)⟩
theorem T6:lU EA k4:=pO (n:=100) (l:=[k1,k3]) (by simp only[List.forall_mem_cons];exact⟨E7,E8,by simp⟩) (by kernel_rfl)
def k5:jT:=⟨135,[.int .i64 1,.int .i64 0],.int .i64 1⟩
theorem Um:lU EA k5:=pO (n:=100) (l:=[k3,k1]) (by simp only[List.forall_mem_cons];exact⟨E8,E7,by simp⟩) (by kernel_rfl)
def k6:jT:=⟨135,[.int .i64 1,.int .i64 1],.int .i64 0⟩
theorem T_:lU EA k6:=pO (n:=100) (l:=[k3]) (by simp only[List.forall_mem_cons];exact⟨E8,by simp⟩) (by kernel_rfl)
def k7:jT:=⟨112,[.agg [.bool false,.fsl 1 [[.int .i64 0],[.int .i64 0]],.fsl 1 [[.int .i64 1],[.int .i64 1]],.fsl 1 [[.fsl 1 [[.fsl 1 [[.int .i64 1],[.int .i64 0]]]]],[.fsl 1 [[.fsl 1 [[.int .i64 0],[.int .i64 1]]]]]]]],.tup [.fsl 1 [[.fsl 1 [[.int .i64 0],[.int .i64 0]]],[.fsl 1 [[.int .i64 0],[.int .i64 1]]],[.fsl 1 [[.int .i64 1],[.int .i64 0]]],[.fsl 1 [[.int .i64 1],[.int .i64 1]]]],.bool true]⟩
theorem UM:lU EA k7:=pO (n:=100) (l:=[k2,k4,k1,k5,k6,k3]) (by simp only[List.forall_mem_cons];exact⟨Uc,T6,E7,Um,T_,E8,by simp⟩) (by kernel_rfl)
theorem Kd:∃n H1,run EA n (.fn 7) [] []=some (.bool true,H1):=JA (n:=100) (l:=[k0,k7]) (by simp only[List.forall_mem_cons];exact⟨UR,UM,by simp⟩) (by kernel_rfl)
theorem calls (n:Nat):kG Tryz.prog (run E n):=DT UZ mixed ⟨O8,λf az b h=>by
 by_cases q:Nat.beq f 7=true
 .have e:E.known f az=if az.isEmpty then some (.bool true)else none:=by unfold E Cw;simp only[q,if_true]
  rw[e]at h;split at h
  .rename_i t;cases h;have:f=7:=Nat.eq_of_beq_eq_true q;subst this;have:az=[]:=List.isEmpty_iff.1 t;subst this;obtain⟨n,H1,h1⟩:=Kd;exact Lc (SE n) h1
  .cases h
 .have e:E.known f az=EA.known f az:=by unfold E EA Cw;simp only[q,if_false,Bool.false_eq_true]
  rw[e]at h;exact Mp f az b h⟩ n
end Go.Proofs.YtimppgndlmehbaaGreat
