/-
 The tables of this seat, and the law's own awakening.
-/
import Derived.Shelf.SlSortCmp.NoneTotal
import Derived.Test.YtegogepdjcdfcagGreatDoorProg
import Derived.KernelRfl
import Derived.Test.YtegogepdjcdfcagGreatDoorV2
set_option linter.all false
namespace Go.Proofs.YtegogepdjcdfcagGreatDoor
open Go.VE Go.Proofs
def EM:a_ Int:=[-1,0,0,0,0,1,2,2,2,2,2,2,2,0,0,1,2,2,1,1,1,1]
instance:bK:=⟨λg=>if Nat.beq g 0 then some (EM.map (V.int .i64))else none,λg cs h=>by
 split at h
 .cases h;exact⟨_,_,rfl⟩
 cases h⟩
noncomputable def EA:Env:=B4 Tryz.prog [0,1,67,66] [93,32,180,192,67,147,150,149,172,37,35,36,55,29,54] [93,32,180,29,54] [(73,2),(104,8)] (λf=>Nat.beq f 67) (λf az=>(if Nat.beq f 66 then vE 8 az else none)) [37]
noncomputable def E:Env:=B4 Tryz.prog [0,1,67,66,4] [93,32,180,192,67,147,150,149,172,37,35,36,55] [93,32,180] [(73,2),(104,8)] (λf=>Nat.beq f 67) (λf az=>if Nat.beq f 4 then(if az.isEmpty then some (.bool true)else none)else(if Nat.beq f 66 then vE 8 az else none)) [37]
theorem Uy:zJ Tryz.prog=true:=by kernel_rfl
theorem UN:sj Tryz.prog 73 2:=sj.two (i:=3) Tryz.underlying73 rfl rfl rfl rfl (by decide) (by decide) (by kernel_rfl) Tryz.underlying3 (by kernel_rfl) (by kernel_rfl)
theorem T3:sj Tryz.prog 104 8:=sj.arr (i:=3) Tryz.underlying104 (by kernel_rfl) Tryz.underlying3 (by kernel_rfl)
theorem RT:∀p∈[(73,2),(104,8)],sj Tryz.prog p.1 p.2:=λp h=>match p,h with|_,.head _=>UN|_,.tail _ (.head _)=>T3
theorem R_:dS Tryz.prog EA:=Fi Uy RT
theorem TL:dS Tryz.prog E:=Fi Uy RT
theorem mixed:Tryz.prog.follows .mixedOrders=true:=by kernel_rfl
open Go.Shelf
def Tryz.yd:Go.Shelf.Ren:=⟨λ|6=>67|15=>101|14=>100|28=>139|29=>140|20=>131|21=>132|22=>133|23=>134|24=>135|25=>136|26=>137|27=>138|46=>166|47=>167|48=>168|49=>169|50=>170|57=>184|n=>n,λ|22=>25|24=>29|25=>110|3=>3|39=>142|0=>0|53=>175|55=>177|4=>4|46=>168|45=>167|50=>172|5=>5|9=>9|66=>195|70=>199|76=>213|77=>214|n=>n,λ|n=>n⟩
theorem Tryz.Po:Go.Proofs.SlLaysF.n6 Tryz.prog Tryz.yd:={
 mixed:=by kernel_rfl
 f6:=⟨Tryz.f67.name,by decide,Tryz.func67.trans (congrArg some (by kernel_rfl))⟩
 f14:=⟨Tryz.f100.name,by decide,Tryz.func100.trans (congrArg some (by kernel_rfl))⟩
 f15:=Tryz.func101.trans (congrArg some (by kernel_rfl))
 f20:=⟨Tryz.f131.name,by decide,Tryz.func131.trans (congrArg some (by kernel_rfl))⟩
 f21:=⟨Tryz.f132.name,by decide,Tryz.func132.trans (congrArg some (by kernel_rfl))⟩
 f22:=⟨Tryz.f133.name,by decide,Tryz.func133.trans (congrArg some (by kernel_rfl))⟩
 f23:=⟨Tryz.f134.name,by decide,Tryz.func134.trans (congrArg some (by kernel_rfl))⟩
 f24:=⟨Tryz.f135.name,by decide,Tryz.func135.trans (congrArg some (by kernel_rfl))⟩
 f25:=⟨Tryz.f136.name,by decide,Tryz.func136.trans (congrArg some (by kernel_rfl))⟩
 f26:=⟨Tryz.f137.name,by decide,Tryz.func137.trans (congrArg some (by kernel_rfl))⟩
 f27:=⟨Tryz.f138.name,by decide,Tryz.func138.trans (congrArg some (by kernel_rfl))⟩
 f28:=Tryz.func139.trans (congrArg some (by kernel_rfl))
 f29:=Tryz.func140.trans (congrArg some (by kernel_rfl))
 f46:=⟨Tryz.f166.name,by decide,Tryz.func166.trans (congrArg some (by kernel_rfl))⟩
 f47:=Tryz.func167.trans (congrArg some (by kernel_rfl))
 f48:=Tryz.func168.trans (congrArg some (by kernel_rfl))
 f49:=⟨Tryz.f169.name,by decide,Tryz.func169.trans (congrArg some (by kernel_rfl))⟩
 f50:=⟨Tryz.f170.name,by decide,Tryz.func170.trans (congrArg some (by kernel_rfl))⟩
 f57:=⟨Tryz.f184.name,by decide,Tryz.func184.trans (congrArg some (by kernel_rfl))⟩
 t0:=Tryz.underlying0
 a0:=Tryz.isAgg0
 z0:=Tryz.sizeOf0
 v0:=Tryz.zeroValue0
 t3:=Tryz.underlying3
 a3:=Tryz.isAgg3
 z3:=Tryz.sizeOf3
 v3:=Tryz.zeroValue3
 t4:=Tryz.underlying4
 a4:=Tryz.isAgg4
 z4:=Tryz.sizeOf4
 v4:=Tryz.zeroValue4
 t5:=Tryz.underlying5
 a5:=Tryz.isAgg5
 z5:=Tryz.sizeOf5
 v5:=Tryz.zeroValue5
 t9:=Tryz.underlying9
 a9:=Tryz.isAgg9
 z9:=Tryz.sizeOf9
 v9:=Tryz.zeroValue9
 t22:=Tryz.underlying25
 a22:=Tryz.isAgg25
 z22:=Tryz.sizeOf25
 v22:=Tryz.zeroValue25
 a24:=Tryz.isAgg29
 z24:=Tryz.sizeOf29
 t25:=Tryz.underlying110
 a25:=Tryz.isAgg110
 z25:=Tryz.sizeOf110
 v25:=Tryz.zeroValue110
 t39:=Tryz.underlying142
 a39:=Tryz.isAgg142
 z39:=Tryz.sizeOf142
 v39:=Tryz.zeroValue142
 t45:=Tryz.underlying167
 a45:=Tryz.isAgg167
 z45:=Tryz.sizeOf167
 v45:=Tryz.zeroValue167
 t46:=Tryz.underlying168
 a46:=Tryz.isAgg168
 z46:=Tryz.sizeOf168
 v46:=Tryz.zeroValue168
 t50:=Tryz.underlying172
 a50:=Tryz.isAgg172
 z50:=Tryz.sizeOf172
 v50:=Tryz.zeroValue172
 t53:=Tryz.underlying175
 a53:=Tryz.isAgg175
 z53:=Tryz.sizeOf175
 v53:=Tryz.zeroValue175
 t55:=Tryz.underlying177
 a55:=Tryz.isAgg177
 z55:=Tryz.sizeOf177
 v55:=Tryz.zeroValue177
 t66:=Tryz.underlying195
 a66:=Tryz.isAgg195
 z66:=Tryz.sizeOf195
 v66:=Tryz.zeroValue195
 t70:=Tryz.underlying199
 a70:=Tryz.isAgg199
 z70:=Tryz.sizeOf199
 v70:=Tryz.zeroValue199
 t76:=Tryz.underlying213
 a76:=Tryz.isAgg213
 z76:=Tryz.sizeOf213
 v76:=Tryz.zeroValue213
 t77:=Tryz.underlying214
 a77:=Tryz.isAgg214
 z77:=Tryz.sizeOf214
 v77:=Tryz.zeroValue214 }
theorem PC:zU Tryz.prog 67 where
 ok:=⟨Tryz.f67,Tryz.func67,by kernel_rfl,by kernel_rfl⟩
 zero:=λp cap t w=>AnyF.slices_SortFunc_none (ρ:=Tryz.yd) { Tryz.Po with } p cap t w
 all:=λenc h1 cf u g cb blk off cap d w z hc B C D=>Any.slices_SortFunc_eq (ρ:=Tryz.yd) Tryz.Po enc h1 cf u g cb blk off cap d w z hc B C D
theorem Pa:∀f,EA.sort f=true->zU Tryz.prog f:=λf h=>by
 have:f=67:=Nat.eq_of_beq_eq_true h;subst this;exact PC
theorem ve:∀az y,vE 8 az=some y->uM Tryz.prog 66 az y:=
 Pu (f:=66) (A:=104) (S:=29) (e:=3) (n:=8) (bytes:=64) Tryz.func66 rfl rfl rfl (by kernel_rfl) Tryz.underlying104 Tryz.underlying29 (by kernel_rfl) (by kernel_rfl)
theorem LV:∀f az y,EA.known f az=some y->uM Tryz.prog f az y:=λf az y h=>by
 change (if Nat.beq f 66 then vE 8 az else none)=some y at h;split at h
 next t=>have:f=66:=Nat.eq_of_beq_eq_true t;subst this;exact ve az y h
 cases h
theorem SK (n:Nat):jQ Tryz.prog (run EA n):=Dy R_ mixed ⟨Pa,LV⟩ n
end Go.Proofs.YtegogepdjcdfcagGreatDoor
namespace Go.Proofs.YtegogepdjcdfcagGreatDoor
open Go.VE Go.Proofs
def a0:V:=.agg [.fsl 3 [[.str (ByteArray.mk #[112]),.bE,.fsl 5 [[.int .i64 1,.int .i64 0,.int .i64 0,.int .i64 0,.bE]]],[.str (ByteArray.mk #[113]),.bE,.fsl 5 [[.int .i64 1,.int .i64 0,.int .i64 0,.int .i64 0,.bE]]]]]
def k0:iW:=⟨53,[a0],.tup [.agg [.int .i64 0,.int .i64 0],.int .i64 0]⟩
theorem Kn:mN EA k0:=rL (n:=100) (l:=[]) Zc (by kernel_rfl)
def k1:iW:=⟨102,[.int .i64 1],.bool false⟩
theorem JP:mN EA k1:=rL (n:=100) (l:=[]) Zc (by kernel_rfl)
def k2:iW:=⟨70,[.int .i64 1,.int .i64 1],.int .i64 0⟩
theorem OD:mN EA k2:=rL (n:=100) (l:=[k1]) (by simp only[List.forall_mem_cons];exact⟨JP,by simp⟩) (by kernel_rfl)
def k3:iW:=⟨161,[a0],.tup [.fsl 1 [[.fsl 1 [[.fsl 1 [[.int .i64 0],[.int .i64 0]]]]],[.fsl 1 [[.fsl 1 [[.int .i64 0],[.int .i64 1]]],[.fsl 1 [[.int .i64 1],[.int .i64 0]]]]],[.fsl 1 [[.fsl 1 [[.int .i64 1],[.int .i64 1]]]]]],.int .i64 0]⟩
theorem TA:mN EA k3:=rL (n:=100) (l:=[k0,k2,k1]) (by simp only[List.forall_mem_cons];exact⟨Kn,OD,JP,by simp⟩) (by kernel_rfl)
def k4:iW:=⟨49,[.agg [.bool false,.fsl 1 [[.int .i64 0],[.int .i64 0]],.fsl 1 [[.int .i64 1],[.int .i64 1]],.fsl 1 [[.fsl 1 [[.fsl 1 [[.int .i64 1],[.int .i64 1]]]]],[.fsl 1 [[.fsl 1 [[.int .i64 1],[.int .i64 1]]]]]]]],.tup [.fsl 1 [[.fsl 1 [[.int .i64 0],[.int .i64 0]]],[.fsl 1 [[.int .i64 1],[.int .i64 1]]]],.bool true]⟩
theorem OL:mN EA k4:=rL (n:=100) (l:=[k1,k2]) (by simp only[List.forall_mem_cons];exact⟨JP,OD,by simp⟩) (by kernel_rfl)
def k5:iW:=⟨19,[a0,.agg [.int .i64 9,.int .i64 0,.int .i64 0,.int .i64 0,.str ByteArray.empty,.fsl 6 [[.int .i64 3,.int .i64 0,.int .i64 0,.int .i64 0,.str ByteArray.empty,.bE],[.int .i64 3,.int .i64 0,.int .i64 1,.int .i64 0,.str ByteArray.empty,.bE]]]],.tup [.agg [.bool false,.fsl 1 [[.int .i64 0],[.int .i64 0]],.fsl 1 [[.int .i64 1],[.int .i64 1]],.fsl 1 [[.fsl 1 [[.fsl 1 [[.int .i64 1],[.int .i64 1]]]]],[.fsl 1 [[.fsl 1 [[.int .i64 1],[.int .i64 1]]]]]]],.int .i64 0]⟩
theorem Tw:mN EA k5:=rL (n:=100) (l:=[k0,k3,k4]) (by simp only[List.forall_mem_cons];exact⟨Kn,TA,OL,by simp⟩) (by kernel_rfl)
theorem Jl:∃n H1,run EA n (.fn 4) [] []=some (.bool true,H1):=Kb (n:=100) (l:=[k5,k0,k4]) (by simp only[List.forall_mem_cons];exact⟨Tw,Kn,OL,by simp⟩) (by kernel_rfl)
theorem calls (n:Nat):jQ Tryz.prog (run E n):=Dy TL mixed ⟨Pa,λf az b h=>by
 by_cases t:Nat.beq f 4=true
 .have e:E.known f az=if az.isEmpty then some (.bool true)else none:=by unfold E B4;simp only[t,if_true]
  rw[e]at h;split at h
  next u=>cases h;have:f=4:=Nat.eq_of_beq_eq_true t;subst this;have:az=[]:=List.isEmpty_iff.1 u;subst this;obtain⟨n,H1,h1⟩:=Jl;exact K4 (SK n) h1
  cases h
 have e:E.known f az=EA.known f az:=by unfold E EA B4;simp only[t,if_false,Bool.false_eq_true]
 rw[e]at h;exact LV f az b h⟩ n
end Go.Proofs.YtegogepdjcdfcagGreatDoor
