/-
 The tables of this seat, and the law's own awakening.
-/
import Derived.Test.YtimppgndlmehbaaGreatProg
import Derived.KernelRfl
import Derived.Test.YtimppgndlmehbaaGreatV2
set_option linter.all false
namespace Go.Proofs.YtimppgndlmehbaaGreat
open Go.VE Go.Proofs
instance:aW:=⟨λ_=>none,λ_ _ h=>nomatch h⟩
noncomputable def EA:Env:=Bx Tryz.prog [0,1,132,130] [149,85,117,132,145,115,144] [149,85,117,115,144] [(84,2),(125,8)] (λf=>Nat.beq f 132) λf az=>(if Nat.beq f 130 then vG 8 az else none)
noncomputable def E:Env:=Bx Tryz.prog [0,1,132,130,7] [149,85,117,132,145] [149,85,117] [(84,2),(125,8)] (λf=>Nat.beq f 132) λf az=>if Nat.beq f 7 then(if az.isEmpty then some (.bool true)else none)else(if Nat.beq f 130 then vG 8 az else none)
theorem Tr:zc Tryz.prog=true:=by kernel_rfl
theorem TT:rY Tryz.prog 84 2:=rY.two (i:=3) Tryz.underlying84 rfl rfl rfl rfl (by decide) (by decide) (by kernel_rfl) Tryz.underlying3 (by kernel_rfl) (by kernel_rfl)
theorem Si:rY Tryz.prog 125 8:=rY.arr (i:=3) Tryz.underlying125 (by kernel_rfl) Tryz.underlying3 (by kernel_rfl)
theorem Rt:∀p∈[(84,2),(125,8)],rY Tryz.prog p.1 p.2:=λp h=>match p,h with|_,.head _=>TT|_,.tail _ (.head _)=>Si
theorem RG:dh Tryz.prog EA:=ES Tr Rt
theorem Sh:dh Tryz.prog E:=ES Tr Rt
theorem mixed:Tryz.prog.follows .mixedOrders=true:=by kernel_rfl
open Go.Shelf
def Tryz.xQ:Go.Shelf.Ren:=⟨λ|6=>132|15=>156|14=>155|28=>181|29=>182|20=>173|21=>174|22=>175|23=>176|24=>177|25=>178|26=>179|27=>180|46=>190|47=>191|48=>192|49=>193|50=>194|57=>195|n=>n,λ|22=>36|24=>25|25=>132|3=>3|39=>160|0=>0|53=>186|55=>188|4=>4|46=>179|45=>178|50=>183|5=>5|9=>9|66=>193|70=>197|76=>199|77=>200|n=>n,λ|n=>n⟩
theorem Tryz.NX:Go.Proofs.SlLaysF.n6 Tryz.prog Tryz.xQ:={
 mixed:=by kernel_rfl
 f6:=⟨Tryz.f132.name,by decide,Tryz.func132.trans (congrArg some (by kernel_rfl))⟩
 f14:=⟨Tryz.f155.name,by decide,Tryz.func155.trans (congrArg some (by kernel_rfl))⟩
 f15:=Tryz.func156.trans (congrArg some (by kernel_rfl))
 f20:=⟨Tryz.f173.name,by decide,Tryz.func173.trans (congrArg some (by kernel_rfl))⟩
 f21:=⟨Tryz.f174.name,by decide,Tryz.func174.trans (congrArg some (by kernel_rfl))⟩
 f22:=⟨Tryz.f175.name,by decide,Tryz.func175.trans (congrArg some (by kernel_rfl))⟩
 f23:=⟨Tryz.f176.name,by decide,Tryz.func176.trans (congrArg some (by kernel_rfl))⟩
 f24:=⟨Tryz.f177.name,by decide,Tryz.func177.trans (congrArg some (by kernel_rfl))⟩
 f25:=⟨Tryz.f178.name,by decide,Tryz.func178.trans (congrArg some (by kernel_rfl))⟩
 f26:=⟨Tryz.f179.name,by decide,Tryz.func179.trans (congrArg some (by kernel_rfl))⟩
 f27:=⟨Tryz.f180.name,by decide,Tryz.func180.trans (congrArg some (by kernel_rfl))⟩
 f28:=Tryz.func181.trans (congrArg some (by kernel_rfl))
 f29:=Tryz.func182.trans (congrArg some (by kernel_rfl))
 f46:=⟨Tryz.f190.name,by decide,Tryz.func190.trans (congrArg some (by kernel_rfl))⟩
 f47:=Tryz.func191.trans (congrArg some (by kernel_rfl))
 f48:=Tryz.func192.trans (congrArg some (by kernel_rfl))
 f49:=⟨Tryz.f193.name,by decide,Tryz.func193.trans (congrArg some (by kernel_rfl))⟩
 f50:=⟨Tryz.f194.name,by decide,Tryz.func194.trans (congrArg some (by kernel_rfl))⟩
 f57:=⟨Tryz.f195.name,by decide,Tryz.func195.trans (congrArg some (by kernel_rfl))⟩
 t0:=Tryz.underlying0
 a0:=Tryz.isAgg0
 z0:=Tryz.sizeOf0
 v0:=Tryz.zeroValue0
 t3:=Tryz.underlying3
 a3:=Tryz.isAgg3
 z3:=Tryz.sizeOf3
 v3:=Tryz.zeroValue3
 t4:=Tryz.underlying4
 a4:=Tryz.isAgg4
 z4:=Tryz.sizeOf4
 v4:=Tryz.zeroValue4
 t5:=Tryz.underlying5
 a5:=Tryz.isAgg5
 z5:=Tryz.sizeOf5
 v5:=Tryz.zeroValue5
 t9:=Tryz.underlying9
 a9:=Tryz.isAgg9
 z9:=Tryz.sizeOf9
 v9:=Tryz.zeroValue9
 t22:=Tryz.underlying36
 a22:=Tryz.isAgg36
 z22:=Tryz.sizeOf36
 v22:=Tryz.zeroValue36
 a24:=Tryz.isAgg25
 z24:=Tryz.sizeOf25
 t25:=Tryz.underlying132
 a25:=Tryz.isAgg132
 z25:=Tryz.sizeOf132
 v25:=Tryz.zeroValue132
 t39:=Tryz.underlying160
 a39:=Tryz.isAgg160
 z39:=Tryz.sizeOf160
 v39:=Tryz.zeroValue160
 t45:=Tryz.underlying178
 a45:=Tryz.isAgg178
 z45:=Tryz.sizeOf178
 v45:=Tryz.zeroValue178
 t46:=Tryz.underlying179
 a46:=Tryz.isAgg179
 z46:=Tryz.sizeOf179
 v46:=Tryz.zeroValue179
 t50:=Tryz.underlying183
 a50:=Tryz.isAgg183
 z50:=Tryz.sizeOf183
 v50:=Tryz.zeroValue183
 t53:=Tryz.underlying186
 a53:=Tryz.isAgg186
 z53:=Tryz.sizeOf186
 v53:=Tryz.zeroValue186
 t55:=Tryz.underlying188
 a55:=Tryz.isAgg188
 z55:=Tryz.sizeOf188
 v55:=Tryz.zeroValue188
 t66:=Tryz.underlying193
 a66:=Tryz.isAgg193
 z66:=Tryz.sizeOf193
 v66:=Tryz.zeroValue193
 t70:=Tryz.underlying197
 a70:=Tryz.isAgg197
 z70:=Tryz.sizeOf197
 v70:=Tryz.zeroValue197
 t76:=Tryz.underlying199
 a76:=Tryz.isAgg199
 z76:=Tryz.sizeOf199
 v76:=Tryz.zeroValue199
 t77:=Tryz.underlying200
 a77:=Tryz.isAgg200
 z77:=Tryz.sizeOf200
 v77:=Tryz.zeroValue200 }
theorem O9:zB Tryz.prog 132 where
 ok:=⟨Tryz.f132,Tryz.func132,by kernel_rfl,by kernel_rfl⟩
 zero:=λp cap fv w=>AnyF.slices_SortFunc_none (ρ:=Tryz.xQ) { Tryz.NX with } p cap fv w
 all:=λenc h1 cf hO g cb blk off cap d w eg hc hH hb hs=>Any.slices_SortFunc_eq (ρ:=Tryz.xQ) Tryz.NX enc h1 cf hO g cb blk off cap d w eg hc hH hb hs
theorem Od:∀f,EA.sort f=true->zB Tryz.prog f:=λf h=>by
 have:f=132:=Nat.eq_of_beq_eq_true h;subst this;exact O9
theorem vn:∀az y,vG 8 az=some y->uf Tryz.prog 130 az y:=
 O5 (f:=130) (A:=125) (S:=25) (e:=3) (n:=8) (bytes:=64) Tryz.func130 rfl rfl rfl (by kernel_rfl) Tryz.underlying125 Tryz.underlying25 (by kernel_rfl) (by kernel_rfl)
theorem K9:∀f az y,EA.known f az=some y->uf Tryz.prog f az y:=λf az y h=>by
 change (if Nat.beq f 130 then vG 8 az else none)=some y at h;split at h
 .rename_i hf;have:f=130:=Nat.eq_of_beq_eq_true hf;subst this;exact vn az y h
 .cases h
theorem QC (n:Nat):jH Tryz.prog (run EA n):=C3 RG mixed ⟨Od,K9⟩ n
end Go.Proofs.YtimppgndlmehbaaGreat
namespace Go.Proofs.YtimppgndlmehbaaGreat
open Go.VE Go.Proofs
def k0:iS:=⟨113,[.agg [.fsl 3 [[.str (ByteArray.mk #[97]),.aR,.fsl 5 [[.int .i64 1,.int .i64 0,.int .i64 0,.int .i64 0,.aR]]],[.str (ByteArray.mk #[98]),.aR,.fsl 5 [[.int .i64 1,.int .i64 0,.int .i64 0,.int .i64 0,.aR]]]]]],.tup [.agg [.int .i64 0,.int .i64 0],.int .i64 0]⟩
theorem SM:kA EA k0:=om (n:=100) (l:=[]) (by simp) (by kernel_rfl)
def k1:iS:=⟨157,[.int .i64 0],.bool false⟩
theorem DN:kA EA k1:=om (n:=100) (l:=[]) (by simp) (by kernel_rfl)
def k2:iS:=⟨135,[.int .i64 0,.int .i64 0],.int .i64 0⟩
theorem Se:kA EA k2:=om (n:=100) (l:=[k1]) (by simp only[List.forall_mem_cons];exact⟨DN,by simp⟩) (by kernel_rfl)
def k3:iS:=⟨157,[.int .i64 1],.bool false⟩
theorem DK:kA EA k3:=om (n:=100) (l:=[]) (by simp) (by kernel_rfl)
def k4:iS:=⟨135,[.int .i64 0,.int .i64 1],.int .i64 (-1)⟩
theorem Td:kA EA k4:=om (n:=100) (l:=[k1,k3]) (by simp only[List.forall_mem_cons];exact⟨DN,DK,by simp⟩) (by kernel_rfl)
def k5:iS:=⟨135,[.int .i64 1,.int .i64 0],.int .i64 1⟩
theorem Sb:kA EA k5:=om (n:=100) (l:=[k3,k1]) (by simp only[List.forall_mem_cons];exact⟨DK,DN,by simp⟩) (by kernel_rfl)
def k6:iS:=⟨135,[.int .i64 1,.int .i64 1],.int .i64 0⟩
theorem SE:kA EA k6:=om (n:=100) (l:=[k3]) (by simp only[List.forall_mem_cons];exact⟨DK,by simp⟩) (by kernel_rfl)
def k7:iS:=⟨112,[.agg [.bool false,.fsl 1 [[.int .i64 0],[.int .i64 0]],.fsl 1 [[.int .i64 1],[.int .i64 1]],.fsl 1 [[.fsl 1 [[.fsl 1 [[.int .i64 1],[.int .i64 0]]]]],[.fsl 1 [[.fsl 1 [[.int .i64 0],[.int .i64 1]]]]]]]],.tup [.fsl 1 [[.fsl 1 [[.int .i64 0],[.int .i64 0]]],[.fsl 1 [[.int .i64 0],[.int .i64 1]]],[.fsl 1 [[.int .i64 1],[.int .i64 0]]],[.fsl 1 [[.int .i64 1],[.int .i64 1]]]],.bool true]⟩
theorem SR:kA EA k7:=om (n:=100) (l:=[k2,k4,k1,k5,k6,k3]) (by simp only[List.forall_mem_cons];exact⟨Se,Td,DN,Sb,SE,DK,by simp⟩) (by kernel_rfl)
theorem Jj:∃n H1,run EA n (.fn 7) [] []=some (.bool true,H1):=Jm (n:=100) (l:=[k0,k7]) (by simp only[List.forall_mem_cons];exact⟨SM,SR,by simp⟩) (by kernel_rfl)
theorem calls (n:Nat):jH Tryz.prog (run E n):=C3 Sh mixed ⟨Od,λf az b h=>by
 by_cases hf:Nat.beq f 7=true
 .have e:E.known f az=if az.isEmpty then some (.bool true)else none:=by unfold E Bx;simp only[hf,if_true]
  rw[e]at h;split at h
  .rename_i ha;cases h;have:f=7:=Nat.eq_of_beq_eq_true hf;subst this;have:az=[]:=List.isEmpty_iff.1 ha;subst this;obtain⟨n,H1,h1⟩:=Jj;exact KB (QC n) h1
  .cases h
 .have e:E.known f az=EA.known f az:=by unfold E EA Bx;simp only[hf,if_false,Bool.false_eq_true]
  rw[e]at h;exact K9 f az b h⟩ n
end Go.Proofs.YtimppgndlmehbaaGreat
