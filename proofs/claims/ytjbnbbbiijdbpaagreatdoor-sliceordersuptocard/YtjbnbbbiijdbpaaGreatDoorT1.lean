/-
 The tables of this seat, and the law's own awakening.
-/
import Derived.Test.YtjbnbbbiijdbpaaGreatDoorProg
import Derived.KernelRfl
import Derived.Test.YtjbnbbbiijdbpaaGreatDoorV2
set_option linter.all false
namespace Go.Proofs.YtjbnbbbiijdbpaaGreatDoor
open Go.VE Go.Proofs
def B7:List Int:=[-1,0,0,0,0,1,2,2,2,2,2,2,2,0,0,1,2,2,1,1,1,1]
instance:aW:=⟨fun g=>if Nat.beq g 0 then some (B7.map (V.int .i64))else none,fun g cs h=>by
 split at h
 ·cases h;exact⟨_,_,rfl⟩
 ·cases h⟩
noncomputable def EA:Env:=Ap Tryz.prog [0,1,90,89] [131,72,221,232,90,102,192,194,195,213,56,75,89] [131,72,221] [(89,2),(108,8)] (fun f=>Nat.beq f 90) fun f az=>(if Nat.beq f 89 then tI 8 az else none)
noncomputable def E:Env:=Ap Tryz.prog [0,1,90,89,9] [131,72,221,232,90,102] [131,72,221] [(89,2),(108,8)] (fun f=>Nat.beq f 90) fun f az=>if Nat.beq f 9 then(if az.isEmpty then some (.bool true)else none)else(if Nat.beq f 89 then tI 8 az else none)
theorem Xm:xF Tryz.prog=true:=by kernel_rfl
theorem YR:pQ Tryz.prog 89 2:=pQ.two (i:=3) Tryz.underlying89 rfl rfl rfl rfl (by decide) (by decide) (by kernel_rfl) Tryz.underlying3 (by kernel_rfl) (by kernel_rfl)
theorem WH:pQ Tryz.prog 108 8:=pQ.arr (i:=3) Tryz.underlying108 (by kernel_rfl) Tryz.underlying3 (by kernel_rfl)
theorem T7:∀p∈[(89,2),(108,8)],pQ Tryz.prog p.1 p.2:=fun p h=>match p,h with|_,.head _=>YR|_,.tail _ (.head _)=>WH
theorem Tr:cZ Tryz.prog EA:=Dw Xm T7
theorem Wa:cZ Tryz.prog E:=Dw Xm T7
theorem mixed:Tryz.prog.follows .mixedOrders=true:=by kernel_rfl
open Go.Shelf
def Tryz.vL:Go.Shelf.Ren:=⟨fun|6=>90|15=>115|14=>114|28=>150|29=>151|20=>142|21=>143|22=>144|23=>145|24=>146|25=>147|26=>148|27=>149|46=>181|47=>182|48=>183|49=>184|50=>185|57=>211|n=>n,fun|22=>33|24=>25|25=>114|3=>3|39=>134|0=>0|53=>173|55=>175|4=>4|46=>166|45=>165|50=>170|5=>5|9=>9|66=>197|70=>201|76=>220|77=>221|n=>n,fun|n=>n⟩
theorem Tryz.L0:Go.Proofs.SlLaysF.n6 Tryz.prog Tryz.vL:={
 mixed:=by kernel_rfl
 f6:=⟨Tryz.f90.name,by decide,Tryz.func90.trans (congrArg some (by kernel_rfl))⟩
 f14:=⟨Tryz.f114.name,by decide,Tryz.func114.trans (congrArg some (by kernel_rfl))⟩
 f15:=Tryz.func115.trans (congrArg some (by kernel_rfl))
 f20:=⟨Tryz.f142.name,by decide,Tryz.func142.trans (congrArg some (by kernel_rfl))⟩
 f21:=⟨Tryz.f143.name,by decide,Tryz.func143.trans (congrArg some (by kernel_rfl))⟩
 f22:=⟨Tryz.f144.name,by decide,Tryz.func144.trans (congrArg some (by kernel_rfl))⟩
 f23:=⟨Tryz.f145.name,by decide,Tryz.func145.trans (congrArg some (by kernel_rfl))⟩
 f24:=⟨Tryz.f146.name,by decide,Tryz.func146.trans (congrArg some (by kernel_rfl))⟩
 f25:=⟨Tryz.f147.name,by decide,Tryz.func147.trans (congrArg some (by kernel_rfl))⟩
 f26:=⟨Tryz.f148.name,by decide,Tryz.func148.trans (congrArg some (by kernel_rfl))⟩
 f27:=⟨Tryz.f149.name,by decide,Tryz.func149.trans (congrArg some (by kernel_rfl))⟩
 f28:=Tryz.func150.trans (congrArg some (by kernel_rfl))
 f29:=Tryz.func151.trans (congrArg some (by kernel_rfl))
 f46:=⟨Tryz.f181.name,by decide,Tryz.func181.trans (congrArg some (by kernel_rfl))⟩
 f47:=Tryz.func182.trans (congrArg some (by kernel_rfl))
 f48:=Tryz.func183.trans (congrArg some (by kernel_rfl))
 f49:=⟨Tryz.f184.name,by decide,Tryz.func184.trans (congrArg some (by kernel_rfl))⟩
 f50:=⟨Tryz.f185.name,by decide,Tryz.func185.trans (congrArg some (by kernel_rfl))⟩
 f57:=⟨Tryz.f211.name,by decide,Tryz.func211.trans (congrArg some (by kernel_rfl))⟩
 t0:=Tryz.underlying0
 a0:=Tryz.isAgg0
 z0:=Tryz.sizeOf0
 v0:=Tryz.zeroValue0
 t3:=Tryz.underlying3
 a3:=Tryz.isAgg3
 z3:=Tryz.sizeOf3
 v3:=Tryz.zeroValue3
 t4:=Tryz.underlying4
 a4:=Tryz.isAgg4
 z4:=Tryz.sizeOf4
 v4:=Tryz.zeroValue4
 t5:=Tryz.underlying5
 a5:=Tryz.isAgg5
 z5:=Tryz.sizeOf5
 v5:=Tryz.zeroValue5
 t9:=Tryz.underlying9
 a9:=Tryz.isAgg9
 z9:=Tryz.sizeOf9
 v9:=Tryz.zeroValue9
 t22:=Tryz.underlying33
 a22:=Tryz.isAgg33
 z22:=Tryz.sizeOf33
 v22:=Tryz.zeroValue33
 a24:=Tryz.isAgg25
 z24:=Tryz.sizeOf25
 t25:=Tryz.underlying114
 a25:=Tryz.isAgg114
 z25:=Tryz.sizeOf114
 v25:=Tryz.zeroValue114
 t39:=Tryz.underlying134
 a39:=Tryz.isAgg134
 z39:=Tryz.sizeOf134
 v39:=Tryz.zeroValue134
 t45:=Tryz.underlying165
 a45:=Tryz.isAgg165
 z45:=Tryz.sizeOf165
 v45:=Tryz.zeroValue165
 t46:=Tryz.underlying166
 a46:=Tryz.isAgg166
 z46:=Tryz.sizeOf166
 v46:=Tryz.zeroValue166
 t50:=Tryz.underlying170
 a50:=Tryz.isAgg170
 z50:=Tryz.sizeOf170
 v50:=Tryz.zeroValue170
 t53:=Tryz.underlying173
 a53:=Tryz.isAgg173
 z53:=Tryz.sizeOf173
 v53:=Tryz.zeroValue173
 t55:=Tryz.underlying175
 a55:=Tryz.isAgg175
 z55:=Tryz.sizeOf175
 v55:=Tryz.zeroValue175
 t66:=Tryz.underlying197
 a66:=Tryz.isAgg197
 z66:=Tryz.sizeOf197
 v66:=Tryz.zeroValue197
 t70:=Tryz.underlying201
 a70:=Tryz.isAgg201
 z70:=Tryz.sizeOf201
 v70:=Tryz.zeroValue201
 t76:=Tryz.underlying220
 a76:=Tryz.isAgg220
 z76:=Tryz.sizeOf220
 v76:=Tryz.zeroValue220
 t77:=Tryz.underlying221
 a77:=Tryz.isAgg221
 z77:=Tryz.sizeOf221
 v77:=Tryz.zeroValue221 }
theorem Nk:xm Tryz.prog 90 where
 ok:=⟨Tryz.f90,Tryz.func90,by kernel_rfl,by kernel_rfl⟩
 zero:=fun p cap fv w=>AnyF.slices_SortFunc_none (ρ:=Tryz.vL) { Tryz.L0 with } p cap fv w
 all:=fun enc h1 cf hO g cb blk off cap d w eg hc hH hb hs=>Any.slices_SortFunc_eq (ρ:=Tryz.vL) Tryz.L0 enc h1 cf hO g cb blk off cap d w eg hc hH hb hs
theorem Mn:∀f,EA.sort f=true→xm Tryz.prog f:=fun f h=>by
 have:f=90:=Nat.eq_of_beq_eq_true h;subst this;exact Nk
theorem tf:∀az y,tI 8 az=some y→sF Tryz.prog 89 az y:=
 OD (f:=89) (A:=108) (S:=25) (e:=3) (n:=8) (bytes:=64) Tryz.func89 rfl rfl rfl (by kernel_rfl) Tryz.underlying108 Tryz.underlying25 (by kernel_rfl) (by kernel_rfl)
theorem IB:∀f az y,EA.known f az=some y→sF Tryz.prog f az y:=fun f az y h=>by
 change (if Nat.beq f 89 then tI 8 az else none)=some y at h;split at h
 ·rename_i hf;have:f=89:=Nat.eq_of_beq_eq_true hf;subst this;exact tf az y h
 ·cases h
theorem S6 (n:Nat):iD Tryz.prog (run EA n):=BU Tr mixed ⟨Mn,IB⟩ n
end Go.Proofs.YtjbnbbbiijdbpaaGreatDoor
namespace Go.Proofs.YtjbnbbbiijdbpaaGreatDoor
open Go.VE Go.Proofs
def a0:V:=.clo 154 [] [.fptr [.str (ByteArray.mk #[112]),.aF,.fsl 5 [[.int .i64 1,.int .i64 0,.int .i64 0,.int .i64 0,.aF]]]]
def a1:V:=.agg [.fsl 3 [[.str (ByteArray.mk #[112]),.aF,.fsl 5 [[.int .i64 1,.int .i64 0,.int .i64 0,.int .i64 0,.aF]]],[.str (ByteArray.mk #[113]),.aF,.fsl 5 [[.int .i64 1,.int .i64 0,.int .i64 0,.int .i64 0,.aF]]]]]
def a2:V:=.agg [.str (ByteArray.mk #[112]),.aF,.fsl 5 [[.int .i64 1,.int .i64 0,.int .i64 0,.int .i64 0,.aF]]]
def a3:V:=.fsl 3 [[.str (ByteArray.mk #[112]),.aF,.fsl 5 [[.int .i64 1,.int .i64 0,.int .i64 0,.int .i64 0,.aF]]]]
def a4:V:=.clo 154 [] [.fptr [.str (ByteArray.mk #[113]),.aF,.fsl 5 [[.int .i64 1,.int .i64 0,.int .i64 0,.int .i64 0,.aF]]]]
def a5:V:=.agg [.int .i64 1,.int .i64 0,.int .i64 0,.int .i64 0,.aF]
def a6:V:=.agg [.int .i64 0,.int .i64 1]
def a7:V:=.agg [.int .i64 1,.int .i64 1]
def a8:V:=.fptr [.int .i64 0,.int .i64 0,.int .i64 0,.int .i64 0,.int .i64 0,.int .i64 0,.int .i64 0,.int .i64 0,.int .i64 0,.int .i64 0,.int .i64 0,.int .i64 0,.int .i64 0,.int .i64 0,.int .i64 0,.int .i64 0,.int .i64 0,.int .i64 0,.int .i64 0,.int .i64 0,.int .i64 0,.int .i64 0,.int .i64 0,.int .i64 0,.int .i64 0,.int .i64 0,.int .i64 0,.int .i64 0,.int .i64 0,.int .i64 0,.int .i64 0,.int .i64 0,.int .i64 0,.int .i64 0,.int .i64 0,.int .i64 0,.int .i64 0,.int .i64 0,.int .i64 0,.int .i64 0,.int .i64 0,.int .i64 0,.int .i64 0,.int .i64 0,.int .i64 0,.int .i64 0,.int .i64 0,.int .i64 0,.int .i64 0,.int .i64 0,.int .i64 0,.int .i64 0,.int .i64 0,.int .i64 0,.int .i64 0,.int .i64 0,.int .i64 0,.int .i64 0,.int .i64 0,.int .i64 0,.int .i64 0,.int .i64 0,.int .i64 0,.int .i64 0,.int .i64 0,.int .i64 0,.int .i64 0,.int .i64 0,.int .i64 0,.int .i64 0,.int .i64 0,.int .i64 0,.int .i64 0,.int .i64 0,.int .i64 0,.int .i64 0,.int .i64 0,.int .i64 0,.int .i64 0,.int .i64 0,.int .i64 0,.int .i64 0,.int .i64 0,.int .i64 0,.int .i64 0,.int .i64 0,.int .i64 0,.int .i64 0,.int .i64 0,.int .i64 0,.int .i64 0,.int .i64 0,.int .i64 0,.int .i64 0,.int .i64 0,.int .i64 0,.int .i64 0,.int .i64 0,.int .i64 0,.int .i64 0,.int .i64 0,.int .i64 0,.int .i64 0,.int .i64 0,.int .i64 0,.int .i64 0,.int .i64 0,.int .i64 0,.int .i64 0,.int .i64 0,.int .i64 0,.int .i64 0,.int .i64 0,.int .i64 0,.int .i64 0,.int .i64 0,.int .i64 0,.int .i64 0,.int .i64 0,.int .i64 0,.int .i64 0,.int .i64 0,.int .i64 0,.int .i64 0,.int .i64 0,.int .i64 0,.int .i64 0,.int .i64 0,.int .i64 0,.int .i64 0,.int .i64 0,.int .i64 0,.int .i64 0,.int .i64 0,.int .i64 0,.int .i64 0,.int .i64 0,.int .i64 0,.int .i64 0,.int .i64 0,.int .i64 0,.int .i64 0,.int .i64 0,.int .i64 0,.int .i64 0,.int .i64 0,.int .i64 0,.int .i64 0,.int .i64 0,.int .i64 0,.int .i64 0,.int .i64 0,.int .i64 0,.int .i64 0,.int .i64 0,.int .i64 0,.int .i64 0,.int .i64 0,.int .i64 0,.int .i64 0,.int .i64 0,.int .i64 0,.int .i64 0,.int .i64 0,.int .i64 0,.int .i64 0,.int .i64 0,.int .i64 0,.int .i64 0,.int .i64 0,.int .i64 0,.int .i64 0,.int .i64 0,.int .i64 0,.int .i64 0,.int .i64 0,.int .i64 0,.int .i64 0,.int .i64 0,.int .i64 0,.int .i64 0,.int .i64 0,.int .i64 0,.int .i64 0,.int .i64 0,.int .i64 0,.int .i64 0,.int .i64 0,.int .i64 0,.int .i64 0,.int .i64 0,.int .i64 0,.int .i64 0,.int .i64 0,.int .i64 0,.int .i64 0,.int .i64 0,.int .i64 0,.int .i64 0,.int .i64 0,.int .i64 0,.int .i64 0,.int .i64 0,.int .i64 0,.int .i64 0,.int .i64 0,.int .i64 0,.int .i64 0,.int .i64 0,.int .i64 0,.int .i64 0,.int .i64 0,.int .i64 0,.int .i64 0,.int .i64 0,.int .i64 0,.int .i64 0,.int .i64 0,.int .i64 0,.int .i64 0,.int .i64 0,.int .i64 0,.int .i64 0,.int .i64 0,.int .i64 0,.int .i64 0,.int .i64 0,.int .i64 0,.int .i64 0,.int .i64 0,.int .i64 0,.int .i64 0,.int .i64 0,.int .i64 0,.int .i64 0,.int .i64 0,.int .i64 0,.int .i64 0,.int .i64 0,.int .i64 0,.int .i64 0,.int .i64 0,.int .i64 0,.int .i64 0,.int .i64 0,.int .i64 0,.int .i64 0,.int .i64 0,.int .i64 0,.int .i64 0,.int .i64 0,.int .i64 0,.int .i64 0,.int .i64 0,.int .i64 0,.int .i64 0,.int .i64 0,.int .i64 0,.int .i64 0,.int .i64 0,.int .i64 0,.int .i64 0,.int .i64 0,.int .i64 0,.int .i64 0,.int .i64 0,.int .i64 0,.int .i64 0,.int .i64 0,.int .i64 0,.int .i64 0,.int .i64 0,.int .i64 0,.int .i64 0,.int .i64 0,.int .i64 0,.int .i64 0,.int .i64 0,.int .i64 0,.int .i64 0,.int .i64 0,.int .i64 0,.int .i64 0,.int .i64 0,.int .i64 0,.int .i64 0,.int .i64 0,.int .i64 0,.int .i64 0,.int .i64 0,.int .i64 0,.int .i64 0,.int .i64 0,.int .i64 0,.int .i64 0,.int .i64 0,.int .i64 0,.int .i64 0,.int .i64 0,.int .i64 0,.int .i64 0,.int .i64 0,.int .i64 0,.int .i64 0,.int .i64 0,.int .i64 0,.int .i64 0,.int .i64 0,.int .i64 0,.int .i64 0,.int .i64 0,.int .i64 0,.int .i64 0,.int .i64 0,.int .i64 0,.int .i64 0,.int .i64 0,.int .i64 0,.int .i64 0,.int .i64 0,.int .i64 0,.int .i64 0,.int .i64 0,.int .i64 0,.int .i64 0,.int .i64 0,.int .i64 0,.int .i64 0,.int .i64 0,.int .i64 0,.int .i64 0,.int .i64 0,.int .i64 0,.int .i64 0,.int .i64 0,.int .i64 0,.int .i64 0,.int .i64 0,.int .i64 0,.int .i64 0,.int .i64 0,.int .i64 0,.int .i64 0,.int .i64 0,.int .i64 0,.int .i64 0,.int .i64 0,.int .i64 0,.int .i64 0,.int .i64 0,.int .i64 0,.int .i64 0,.int .i64 0,.int .i64 0,.int .i64 0,.int .i64 0,.int .i64 0,.int .i64 0,.int .i64 0,.int .i64 0,.int .i64 0,.int .i64 0,.int .i64 0,.int .i64 0,.int .i64 0,.int .i64 0,.int .i64 0,.int .i64 0,.int .i64 0,.int .i64 0,.int .i64 0,.int .i64 0,.int .i64 0,.int .i64 0,.int .i64 0,.int .i64 0,.int .i64 0,.int .i64 0,.int .i64 0,.int .i64 0,.int .i64 0,.int .i64 0,.int .i64 0,.int .i64 0,.int .i64 0,.int .i64 0,.int .i64 0,.int .i64 0,.int .i64 0,.int .i64 0,.int .i64 0,.int .i64 0,.int .i64 0,.int .i64 0,.int .i64 0,.int .i64 0,.int .i64 0,.int .i64 0,.int .i64 0,.int .i64 0,.int .i64 0,.int .i64 0,.int .i64 0,.int .i64 0,.int .i64 0,.int .i64 0,.int .i64 0,.int .i64 0,.int .i64 0,.int .i64 0,.int .i64 0,.int .i64 0,.int .i64 0,.int .i64 0,.int .i64 0,.int .i64 0,.int .i64 0,.int .i64 0,.int .i64 0,.int .i64 0,.int .i64 0,.int .i64 0,.int .i64 0,.int .i64 0,.int .i64 0,.int .i64 0,.int .i64 0,.int .i64 0,.int .i64 0,.int .i64 0,.int .i64 0,.int .i64 0,.int .i64 0,.int .i64 0,.int .i64 0,.int .i64 0,.int .i64 0,.int .i64 0,.int .i64 0,.int .i64 0,.int .i64 0,.int .i64 0,.int .i64 0,.int .i64 0,.int .i64 0,.int .i64 0,.int .i64 0,.int .i64 0,.int .i64 0,.int .i64 0,.int .i64 0,.int .i64 0,.int .i64 0,.int .i64 0,.int .i64 0,.int .i64 0,.int .i64 0,.int .i64 0,.int .i64 0,.int .i64 0,.int .i64 0,.int .i64 0,.int .i64 0,.int .i64 0,.int .i64 0,.int .i64 0,.int .i64 0,.int .i64 0,.int .i64 0,.int .i64 0,.int .i64 0,.int .i64 0,.int .i64 0,.int .i64 0,.int .i64 0,.int .i64 0,.int .i64 0,.int .i64 0,.int .i64 0,.int .i64 0,.int .i64 0,.int .i64 0,.int .i64 0,.int .i64 0,.int .i64 0,.int .i64 0,.int .i64 0,.int .i64 0,.int .i64 0,.int .i64 0,.int .i64 0,.int .i64 0,.int .i64 0,.int .i64 0,.int .i64 0,.int .i64 0,.int .i64 0,.int .i64 0,.int .i64 0,.int .i64 0,.int .i64 0,.int .i64 0,.int .i64 0,.int .i64 0,.int .i64 0,.int .i64 0,.int .i64 0,.int .i64 0,.int .i64 0,.int .i64 0,.int .i64 0,.int .i64 0,.int .i64 0,.int .i64 0,.int .i64 0,.int .i64 0,.int .i64 0,.int .i64 0,.int .i64 0,.int .i64 0,.int .i64 0,.int .i64 0,.int .i64 0,.int .i64 0,.int .i64 0,.int .i64 0,.int .i64 0,.int .i64 0,.int .i64 0,.int .i64 0,.int .i64 0,.int .i64 0,.int .i64 0,.int .i64 0,.int .i64 0,.int .i64 0,.int .i64 0,.int .i64 0,.int .i64 0,.int .i64 0,.int .i64 0,.int .i64 0,.int .i64 0,.int .i64 0,.int .i64 0,.int .i64 0,.int .i64 0,.int .i64 0,.int .i64 0,.int .i64 0,.int .i64 0,.int .i64 0,.int .i64 0,.int .i64 0,.int .i64 0,.int .i64 0,.int .i64 0,.int .i64 0,.int .i64 0,.int .i64 0,.int .i64 0,.int .i64 0,.int .i64 0,.int .i64 0,.int .i64 0,.int .i64 0,.int .i64 0,.int .i64 0,.int .i64 0,.int .i64 0,.int .i64 0,.int .i64 0,.int .i64 0,.int .i64 0,.int .i64 0,.int .i64 0,.int .i64 0,.int .i64 0,.int .i64 0,.int .i64 0,.int .i64 0,.int .i64 0,.int .i64 0,.int .i64 0,.int .i64 0,.int .i64 0,.int .i64 0,.int .i64 0,.int .i64 0,.int .i64 0,.int .i64 0,.int .i64 0,.int .i64 0,.int .i64 0,.int .i64 0,.int .i64 0,.int .i64 0,.int .i64 0,.int .i64 0,.int .i64 0,.int .i64 0,.int .i64 0,.int .i64 0,.int .i64 0,.int .i64 0,.int .i64 0,.int .i64 0,.int .i64 0,.int .i64 0,.int .i64 0,.int .i64 0,.int .i64 0,.int .i64 0,.int .i64 0,.int .i64 0,.int .i64 0,.int .i64 0,.int .i64 0,.int .i64 0,.int .i64 0,.int .i64 0,.int .i64 0,.int .i64 0,.int .i64 0,.int .i64 0,.int .i64 0,.int .i64 0,.int .i64 0,.int .i64 0,.int .i64 0,.int .i64 0,.int .i64 0,.int .i64 0,.int .i64 0,.int .i64 0,.int .i64 0,.int .i64 0,.int .i64 0,.int .i64 0,.int .i64 0,.int .i64 0,.int .i64 0,.int .i64 0,.int .i64 0,.int .i64 0,.int .i64 0,.int .i64 0,.int .i64 0,.int .i64 0,.int .i64 0,.int .i64 0,.int .i64 0,.int .i64 0,.int .i64 0,.int .i64 0,.int .i64 0,.int .i64 0,.int .i64 0,.int .i64 0,.int .i64 0,.int .i64 0,.int .i64 0,.int .i64 0,.int .i64 0,.int .i64 0,.int .i64 0,.int .i64 0,.int .i64 0,.int .i64 0,.int .i64 0,.int .i64 0,.int .i64 0,.int .i64 0,.int .i64 0,.int .i64 0,.int .i64 0,.int .i64 0,.int .i64 0,.int .i64 0,.int .i64 0,.int .i64 0,.int .i64 0,.int .i64 0,.int .i64 0,.int .i64 0,.int .i64 0,.int .i64 0,.int .i64 0,.int .i64 0,.int .i64 0,.int .i64 0,.int .i64 0,.int .i64 0,.int .i64 0,.int .i64 0,.int .i64 0,.int .i64 0,.int .i64 0,.int .i64 0,.int .i64 0,.int .i64 0,.int .i64 0,.int .i64 0,.int .i64 0,.int .i64 0,.int .i64 0,.int .i64 0,.int .i64 0,.int .i64 0,.int .i64 0,.int .i64 0,.int .i64 0,.int .i64 0,.int .i64 0,.int .i64 0,.int .i64 0,.int .i64 0,.int .i64 0,.int .i64 0,.int .i64 0,.int .i64 0,.int .i64 0,.int .i64 0,.int .i64 0,.int .i64 0,.int .i64 0,.int .i64 0,.int .i64 0,.int .i64 0,.int .i64 0,.int .i64 0,.int .i64 0,.int .i64 0,.int .i64 0,.int .i64 0,.int .i64 0,.int .i64 0,.int .i64 0,.int .i64 0,.int .i64 0,.int .i64 0,.int .i64 0,.int .i64 0,.int .i64 0,.int .i64 0,.int .i64 0,.int .i64 0,.int .i64 0,.int .i64 0,.int .i64 0,.int .i64 0,.int .i64 0,.int .i64 0,.int .i64 0,.int .i64 0,.int .i64 0,.int .i64 0,.int .i64 0,.int .i64 0,.int .i64 0,.int .i64 0,.int .i64 0,.int .i64 0,.int .i64 0,.int .i64 0,.int .i64 0,.int .i64 0,.int .i64 0,.int .i64 0,.int .i64 0,.int .i64 0,.int .i64 0,.int .i64 0,.int .i64 0,.int .i64 0,.int .i64 0,.int .i64 0,.int .i64 0,.int .i64 0,.int .i64 0,.int .i64 0,.int .i64 0,.int .i64 0,.int .i64 0,.int .i64 0,.int .i64 0,.int .i64 0,.int .i64 0,.int .i64 0,.int .i64 0,.int .i64 0,.int .i64 0,.int .i64 0,.int .i64 0,.int .i64 0,.int .i64 0,.int .i64 0,.int .i64 0,.int .i64 0,.int .i64 0]
def a9:V:=.agg [.int .i64 9,.int .i64 0,.int .i64 0,.int .i64 0,.str ByteArray.empty,.fsl 6 [[.int .i64 3,.int .i64 0,.int .i64 0,.int .i64 0,.str ByteArray.empty,.aF],[.int .i64 3,.int .i64 0,.int .i64 1,.int .i64 0,.str ByteArray.empty,.aF]]]
def oI:V:=.agg [.int .i64 3,.int .i64 0,.int .i64 0,.int .i64 0,.str ByteArray.empty,.aF]
def oR:V:=.agg [.int .i64 3,.int .i64 0,.int .i64 1,.int .i64 0,.str ByteArray.empty,.aF]
def a12:V:=.fptr [.fsl 3 [[.str (ByteArray.mk #[112]),.aF,.fsl 5 [[.int .i64 1,.int .i64 0,.int .i64 0,.int .i64 0,.aF]]],[.str (ByteArray.mk #[113]),.aF,.fsl 5 [[.int .i64 1,.int .i64 0,.int .i64 0,.int .i64 0,.aF]]]]]
def Ua:V:=.clo 196 [] [.fptr [.fsl 3 [[.str (ByteArray.mk #[112]),.aF,.fsl 5 [[.int .i64 1,.int .i64 0,.int .i64 0,.int .i64 0,.aF]]],[.str (ByteArray.mk #[113]),.aF,.fsl 5 [[.int .i64 1,.int .i64 0,.int .i64 0,.int .i64 0,.aF]]]]]]
def Xt:V:=.fptr [.clo 196 [] [.fptr [.fsl 3 [[.str (ByteArray.mk #[112]),.aF,.fsl 5 [[.int .i64 1,.int .i64 0,.int .i64 0,.int .i64 0,.aF]]],[.str (ByteArray.mk #[113]),.aF,.fsl 5 [[.int .i64 1,.int .i64 0,.int .i64 0,.int .i64 0,.aF]]]]]]]
def XK:V:=.fptr [.int .i64 9,.int .i64 0,.int .i64 0,.int .i64 0,.str ByteArray.empty,.fsl 6 [[.int .i64 3,.int .i64 0,.int .i64 0,.int .i64 0,.str ByteArray.empty,.aF],[.int .i64 3,.int .i64 0,.int .i64 1,.int .i64 0,.str ByteArray.empty,.aF]]]
def Yh:V:=.tup [.agg [.int .i64 0,.int .i64 1],.bool true]
def a17:V:=.agg [.fsl 1 [[.int .i64 1],[.int .i64 1]],.fsl 1 [[.fsl 2 [[.int .i64 0,.int .i64 0]]],[.fsl 2 [[.int .i64 0,.int .i64 0]]]]]
def fW:V:=.fsl 1 [[.int .i64 0],[.int .i64 0]]
def pE:V:=.fsl 1 [[.int .i64 1],[.int .i64 0]]
def a20:V:=.fsl 1 [[.int .i64 0],[.int .i64 1]]
def a21:V:=.fsl 1 [[.fsl 1 [[.int .i64 0],[.int .i64 0]]]]
def a22:V:=.fsl 1 [[.fsl 1 [[.int .i64 0],[.int .i64 1]]],[.fsl 1 [[.int .i64 1],[.int .i64 0]]]]
def a23:V:=.fsl 1 [[.int .i64 1],[.int .i64 1]]
def a24:V:=.fsl 1 [[.fsl 1 [[.int .i64 1],[.int .i64 1]]]]
def a25:V:=.tup [.fsl 1 [[.fsl 1 [[.int .i64 0],[.int .i64 0]]],[.fsl 1 [[.int .i64 0],[.int .i64 1]]],[.fsl 1 [[.int .i64 1],[.int .i64 0]]],[.fsl 1 [[.int .i64 1],[.int .i64 1]]]],.int .i64 0]
def a26:V:=.clo 162 [] [.fptr [.fsl 3 [[.str (ByteArray.mk #[112]),.aF,.fsl 5 [[.int .i64 1,.int .i64 0,.int .i64 0,.int .i64 0,.aF]]],[.str (ByteArray.mk #[113]),.aF,.fsl 5 [[.int .i64 1,.int .i64 0,.int .i64 0,.int .i64 0,.aF]]]]]]
def LH:V:=.tup [.agg [.int .i64 0,.int .i64 0],.agg [.int .i64 0,.int .i64 0],.bool false]
def a28:V:=.agg [.str (ByteArray.mk #[113]),.aF,.fsl 5 [[.int .i64 1,.int .i64 0,.int .i64 0,.int .i64 0,.aF]]]
def Mc:V:=.tup [.fsl 1 [[.aF],[.aF]],.int .i64 0]
def Sp:V:=.agg [.fsl 3 [[.str (ByteArray.mk #[112]),.aF,.fsl 5 [[.int .i64 1,.int .i64 0,.int .i64 0,.int .i64 0,.aF]]],[.str (ByteArray.mk #[113]),.aF,.fsl 5 [[.int .i64 1,.int .i64 0,.int .i64 0,.int .i64 0,.aF]]]],.fsl 1 [[.int .i64 0],[.int .i64 0]],.fsl 1 [[.aF],[.aF]]]
def a31:V:=.fsl 1 [[.fsl 1 [[.int .i64 0],[.int .i64 1]]]]
def a32:V:=.agg [.fsl 3 [[.str (ByteArray.mk #[112]),.aF,.fsl 5 [[.int .i64 1,.int .i64 0,.int .i64 0,.int .i64 0,.aF]]],[.str (ByteArray.mk #[113]),.aF,.fsl 5 [[.int .i64 1,.int .i64 0,.int .i64 0,.int .i64 0,.aF]]]],.fsl 1 [[.int .i64 0],[.int .i64 1]],.fsl 1 [[.aF],[.aF]]]
def a33:V:=.fsl 1 [[.fsl 1 [[.int .i64 1],[.int .i64 0]]]]
def T_:V:=.agg [.fsl 3 [[.str (ByteArray.mk #[112]),.aF,.fsl 5 [[.int .i64 1,.int .i64 0,.int .i64 0,.int .i64 0,.aF]]],[.str (ByteArray.mk #[113]),.aF,.fsl 5 [[.int .i64 1,.int .i64 0,.int .i64 0,.int .i64 0,.aF]]]],.fsl 1 [[.int .i64 1],[.int .i64 0]],.fsl 1 [[.aF],[.aF]]]
def a35:V:=.agg [.fsl 3 [[.str (ByteArray.mk #[112]),.aF,.fsl 5 [[.int .i64 1,.int .i64 0,.int .i64 0,.int .i64 0,.aF]]],[.str (ByteArray.mk #[113]),.aF,.fsl 5 [[.int .i64 1,.int .i64 0,.int .i64 0,.int .i64 0,.aF]]]],.fsl 1 [[.int .i64 1],[.int .i64 1]],.fsl 1 [[.aF],[.aF]]]
def Ye:V:=.tup [.fsl 1 [[.fsl 1 [[.int .i64 0],[.int .i64 0]]],[.fsl 1 [[.int .i64 1],[.int .i64 1]]]],.int .i64 0]
def a37:V:=.fsl 1 [[.fsl 1 [[.int .i64 0],[.int .i64 0]]],[.fsl 1 [[.int .i64 1],[.int .i64 1]]]]
def Ml:V:=.clo 71 [] [.fptr [.fsl 3 [[.str (ByteArray.mk #[112]),.aF,.fsl 5 [[.int .i64 1,.int .i64 0,.int .i64 0,.int .i64 0,.aF]]],[.str (ByteArray.mk #[113]),.aF,.fsl 5 [[.int .i64 1,.int .i64 0,.int .i64 0,.int .i64 0,.aF]]]]]]
def a39:V:=.tup [.agg [.bool false,.fsl 1 [[.int .i64 0],[.int .i64 0]],.fsl 1 [[.int .i64 1],[.int .i64 1]],.fsl 1 [[.fsl 1 [[.fsl 1 [[.int .i64 1],[.int .i64 1]]]]],[.fsl 1 [[.fsl 1 [[.int .i64 1],[.int .i64 1]]]]]]],.int .i64 0]
def a40:V:=.agg [.bool false,.fsl 1 [[.int .i64 0],[.int .i64 0]],.fsl 1 [[.int .i64 1],[.int .i64 1]],.fsl 1 [[.fsl 1 [[.fsl 1 [[.int .i64 1],[.int .i64 1]]]]],[.fsl 1 [[.fsl 1 [[.int .i64 1],[.int .i64 1]]]]]]]
def a41:V:=.fptr [.bool false,.fsl 1 [[.int .i64 0],[.int .i64 0]],.fsl 1 [[.int .i64 1],[.int .i64 1]],.fsl 1 [[.fsl 1 [[.fsl 1 [[.int .i64 1],[.int .i64 1]]]]],[.fsl 1 [[.fsl 1 [[.int .i64 1],[.int .i64 1]]]]]]]
def XJ:V:=.fptr [.fsl 1 [[.int .i64 1],[.int .i64 1]]]
def XW:V:=.agg [.bool false,.fsl 1 [[.int .i64 0],[.int .i64 1]],.fsl 1 [[.int .i64 0],[.int .i64 1]],.fsl 1 [[.fsl 1 [[.aF]]],[.fsl 1 [[.fsl 1 [[.int .i64 0],[.int .i64 1]]]]]]]
def k0:ak:=⟨117,[.int .i64 2,.int .i64 1,.int .i64 8],.bool true⟩
theorem Wc:ah EA k0:=af (n:=100) (l:=[]) (by simp) (by kernel_rfl)
def k1:ak:=⟨186,[.int .u8 112],.bool true⟩
theorem V7:ah EA k1:=af (n:=100) (l:=[]) (by simp) (by kernel_rfl)
def k2:ak:=⟨152,[.str (ByteArray.mk #[112])],.bool true⟩
theorem Wb:ah EA k2:=af (n:=100) (l:=[k1]) (by simp only[List.forall_mem_cons];exact⟨V7,by simp⟩) (by kernel_rfl)
def k3:ak:=⟨188,[.fsl 3 [],a0],.int .i64 (-1)⟩
theorem Wz:ah EA k3:=af (n:=100) (l:=[]) (by simp) (by kernel_rfl)
def k4:ak:=⟨153,[.fsl 3 [],a0],.bool false⟩
theorem VV:ah EA k4:=af (n:=100) (l:=[k3]) (by simp only[List.forall_mem_cons];exact⟨Wz,by simp⟩) (by kernel_rfl)
def k5:ak:=⟨118,[a1,.int .i64 0],.int .i64 0⟩
theorem VQ:ah EA k5:=af (n:=100) (l:=[k2,k4]) (by simp only[List.forall_mem_cons];exact⟨Wb,VV,by simp⟩) (by kernel_rfl)
def k6:ak:=⟨186,[.int .u8 113],.bool true⟩
theorem V5:ah EA k6:=af (n:=100) (l:=[]) (by simp) (by kernel_rfl)
def k7:ak:=⟨152,[.str (ByteArray.mk #[113])],.bool true⟩
theorem VR:ah EA k7:=af (n:=100) (l:=[k6]) (by simp only[List.forall_mem_cons];exact⟨V5,by simp⟩) (by kernel_rfl)
def k8:ak:=⟨154,[a2,.fptr [.str (ByteArray.mk #[113]),.aF,.fsl 5 [[.int .i64 1,.int .i64 0,.int .i64 0,.int .i64 0,.aF]]]],.bool false⟩
theorem We:ah EA k8:=af (n:=100) (l:=[]) (by simp) (by kernel_rfl)
def k9:ak:=⟨188,[a3,a4],.int .i64 (-1)⟩
theorem V1:ah EA k9:=af (n:=100) (l:=[k8]) (by simp only[List.forall_mem_cons];exact⟨We,by simp⟩) (by kernel_rfl)
def X4:ak:=⟨153,[a3,a4],.bool false⟩
theorem Sw:ah EA X4:=af (n:=100) (l:=[k9]) (by simp only[List.forall_mem_cons];exact⟨V1,by simp⟩) (by kernel_rfl)
def X2:ak:=⟨118,[a1,.int .i64 1],.int .i64 0⟩
theorem RG:ah EA X2:=af (n:=100) (l:=[k7,X4]) (by simp only[List.forall_mem_cons];exact⟨VR,Sw,by simp⟩) (by kernel_rfl)
def Mb:ak:=⟨119,[a1],.clo 156 [] [.fptr [.fsl 3 [[.str (ByteArray.mk #[112]),.aF,.fsl 5 [[.int .i64 1,.int .i64 0,.int .i64 0,.int .i64 0,.aF]]],[.str (ByteArray.mk #[113]),.aF,.fsl 5 [[.int .i64 1,.int .i64 0,.int .i64 0,.int .i64 0,.aF]]]]]]⟩
theorem Dl:ah EA Mb:=af (n:=100) (l:=[]) (by simp) (by kernel_rfl)
def WQ:ak:=⟨157,[a1,.int .i64 0,a5],.bool true⟩
theorem QZ:ah EA WQ:=af (n:=100) (l:=[]) (by simp) (by kernel_rfl)
def UG:ak:=⟨117,[.int .i64 0,.int .i64 0,.int .i64 1099511627776],.bool true⟩
theorem HK:ah EA UG:=af (n:=100) (l:=[]) (by simp) (by kernel_rfl)
def Yt:ak:=⟨120,[a1,a6,a5],.int .i64 0⟩
theorem RQ:ah EA Yt:=af (n:=100) (l:=[WQ,UG]) (by simp only[List.forall_mem_cons];exact⟨QZ,HK,by simp⟩) (by kernel_rfl)
def Yf:ak:=⟨157,[a1,.int .i64 1,a5],.bool true⟩
theorem TZ:ah EA Yf:=af (n:=100) (l:=[]) (by simp) (by kernel_rfl)
def Yy:ak:=⟨120,[a1,a7,a5],.int .i64 0⟩
theorem TE:ah EA Yy:=af (n:=100) (l:=[Yf,UG]) (by simp only[List.forall_mem_cons];exact⟨TZ,HK,by simp⟩) (by kernel_rfl)
def Yr:ak:=⟨121,[a1],.tup [.fptr [.int .i64 0,.int .i64 0,.int .i64 0,.int .i64 0,.int .i64 0,.int .i64 0,.int .i64 0,.int .i64 0,.int .i64 0,.int .i64 0,.int .i64 0,.int .i64 0,.int .i64 0,.int .i64 0,.int .i64 0,.int .i64 0,.int .i64 0,.int .i64 0,.int .i64 0,.int .i64 0,.int .i64 0,.int .i64 0,.int .i64 0,.int .i64 0,.int .i64 0,.int .i64 0,.int .i64 0,.int .i64 0,.int .i64 0,.int .i64 0,.int .i64 0,.int .i64 0,.int .i64 0,.int .i64 0,.int .i64 0,.int .i64 0,.int .i64 0,.int .i64 0,.int .i64 0,.int .i64 0,.int .i64 0,.int .i64 0,.int .i64 0,.int .i64 0,.int .i64 0,.int .i64 0,.int .i64 0,.int .i64 0,.int .i64 0,.int .i64 0,.int .i64 0,.int .i64 0,.int .i64 0,.int .i64 0,.int .i64 0,.int .i64 0,.int .i64 0,.int .i64 0,.int .i64 0,.int .i64 0,.int .i64 0,.int .i64 0,.int .i64 0,.int .i64 0,.int .i64 0,.int .i64 0,.int .i64 0,.int .i64 0,.int .i64 0,.int .i64 0,.int .i64 0,.int .i64 0,.int .i64 0,.int .i64 0,.int .i64 0,.int .i64 0,.int .i64 0,.int .i64 0,.int .i64 0,.int .i64 0,.int .i64 0,.int .i64 0,.int .i64 0,.int .i64 0,.int .i64 0,.int .i64 0,.int .i64 0,.int .i64 0,.int .i64 0,.int .i64 0,.int .i64 0,.int .i64 0,.int .i64 0,.int .i64 0,.int .i64 0,.int .i64 0,.int .i64 0,.int .i64 0,.int .i64 0,.int .i64 0,.int .i64 0,.int .i64 0,.int .i64 0,.int .i64 0,.int .i64 0,.int .i64 0,.int .i64 0,.int .i64 0,.int .i64 0,.int .i64 0,.int .i64 0,.int .i64 0,.int .i64 0,.int .i64 0,.int .i64 0,.int .i64 0,.int .i64 0,.int .i64 0,.int .i64 0,.int .i64 0,.int .i64 0,.int .i64 0,.int .i64 0,.int .i64 0,.int .i64 0,.int .i64 0,.int .i64 0,.int .i64 0,.int .i64 0,.int .i64 0,.int .i64 0,.int .i64 0,.int .i64 0,.int .i64 0,.int .i64 0,.int .i64 0,.int .i64 0,.int .i64 0,.int .i64 0,.int .i64 0,.int .i64 0,.int .i64 0,.int .i64 0,.int .i64 0,.int .i64 0,.int .i64 0,.int .i64 0,.int .i64 0,.int .i64 0,.int .i64 0,.int .i64 0,.int .i64 0,.int .i64 0,.int .i64 0,.int .i64 0,.int .i64 0,.int .i64 0,.int .i64 0,.int .i64 0,.int .i64 0,.int .i64 0,.int .i64 0,.int .i64 0,.int .i64 0,.int .i64 0,.int .i64 0,.int .i64 0,.int .i64 0,.int .i64 0,.int .i64 0,.int .i64 0,.int .i64 0,.int .i64 0,.int .i64 0,.int .i64 0,.int .i64 0,.int .i64 0,.int .i64 0,.int .i64 0,.int .i64 0,.int .i64 0,.int .i64 0,.int .i64 0,.int .i64 0,.int .i64 0,.int .i64 0,.int .i64 0,.int .i64 0,.int .i64 0,.int .i64 0,.int .i64 0,.int .i64 0,.int .i64 0,.int .i64 0,.int .i64 0,.int .i64 0,.int .i64 0,.int .i64 0,.int .i64 0,.int .i64 0,.int .i64 0,.int .i64 0,.int .i64 0,.int .i64 0,.int .i64 0,.int .i64 0,.int .i64 0,.int .i64 0,.int .i64 0,.int .i64 0,.int .i64 0,.int .i64 0,.int .i64 0,.int .i64 0,.int .i64 0,.int .i64 0,.int .i64 0,.int .i64 0,.int .i64 0,.int .i64 0,.int .i64 0,.int .i64 0,.int .i64 0,.int .i64 0,.int .i64 0,.int .i64 0,.int .i64 0,.int .i64 0,.int .i64 0,.int .i64 0,.int .i64 0,.int .i64 0,.int .i64 0,.int .i64 0,.int .i64 0,.int .i64 0,.int .i64 0,.int .i64 0,.int .i64 0,.int .i64 0,.int .i64 0,.int .i64 0,.int .i64 0,.int .i64 0,.int .i64 0,.int .i64 0,.int .i64 0,.int .i64 0,.int .i64 0,.int .i64 0,.int .i64 0,.int .i64 0,.int .i64 0,.int .i64 0,.int .i64 0,.int .i64 0,.int .i64 0,.int .i64 0,.int .i64 0,.int .i64 0,.int .i64 0,.int .i64 0,.int .i64 0,.int .i64 0,.int .i64 0,.int .i64 0,.int .i64 0,.int .i64 0,.int .i64 0,.int .i64 0,.int .i64 0,.int .i64 0,.int .i64 0,.int .i64 0,.int .i64 0,.int .i64 0,.int .i64 0,.int .i64 0,.int .i64 0,.int .i64 0,.int .i64 0,.int .i64 0,.int .i64 0,.int .i64 0,.int .i64 0,.int .i64 0,.int .i64 0,.int .i64 0,.int .i64 0,.int .i64 0,.int .i64 0,.int .i64 0,.int .i64 0,.int .i64 0,.int .i64 0,.int .i64 0,.int .i64 0,.int .i64 0,.int .i64 0,.int .i64 0,.int .i64 0,.int .i64 0,.int .i64 0,.int .i64 0,.int .i64 0,.int .i64 0,.int .i64 0,.int .i64 0,.int .i64 0,.int .i64 0,.int .i64 0,.int .i64 0,.int .i64 0,.int .i64 0,.int .i64 0,.int .i64 0,.int .i64 0,.int .i64 0,.int .i64 0,.int .i64 0,.int .i64 0,.int .i64 0,.int .i64 0,.int .i64 0,.int .i64 0,.int .i64 0,.int .i64 0,.int .i64 0,.int .i64 0,.int .i64 0,.int .i64 0,.int .i64 0,.int .i64 0,.int .i64 0,.int .i64 0,.int .i64 0,.int .i64 0,.int .i64 0,.int .i64 0,.int .i64 0,.int .i64 0,.int .i64 0,.int .i64 0,.int .i64 0,.int .i64 0,.int .i64 0,.int .i64 0,.int .i64 0,.int .i64 0,.int .i64 0,.int .i64 0,.int .i64 0,.int .i64 0,.int .i64 0,.int .i64 0,.int .i64 0,.int .i64 0,.int .i64 0,.int .i64 0,.int .i64 0,.int .i64 0,.int .i64 0,.int .i64 0,.int .i64 0,.int .i64 0,.int .i64 0,.int .i64 0,.int .i64 0,.int .i64 0,.int .i64 0,.int .i64 0,.int .i64 0,.int .i64 0,.int .i64 0,.int .i64 0,.int .i64 0,.int .i64 0,.int .i64 0,.int .i64 0,.int .i64 0,.int .i64 0,.int .i64 0,.int .i64 0,.int .i64 0,.int .i64 0,.int .i64 0,.int .i64 0,.int .i64 0,.int .i64 0,.int .i64 0,.int .i64 0,.int .i64 0,.int .i64 0,.int .i64 0,.int .i64 0,.int .i64 0,.int .i64 0,.int .i64 0,.int .i64 0,.int .i64 0,.int .i64 0,.int .i64 0,.int .i64 0,.int .i64 0,.int .i64 0,.int .i64 0,.int .i64 0,.int .i64 0,.int .i64 0,.int .i64 0,.int .i64 0,.int .i64 0,.int .i64 0,.int .i64 0,.int .i64 0,.int .i64 0,.int .i64 0,.int .i64 0,.int .i64 0,.int .i64 0,.int .i64 0,.int .i64 0,.int .i64 0,.int .i64 0,.int .i64 0,.int .i64 0,.int .i64 0,.int .i64 0,.int .i64 0,.int .i64 0,.int .i64 0,.int .i64 0,.int .i64 0,.int .i64 0,.int .i64 0,.int .i64 0,.int .i64 0,.int .i64 0,.int .i64 0,.int .i64 0,.int .i64 0,.int .i64 0,.int .i64 0,.int .i64 0,.int .i64 0,.int .i64 0,.int .i64 0,.int .i64 0,.int .i64 0,.int .i64 0,.int .i64 0,.int .i64 0,.int .i64 0,.int .i64 0,.int .i64 0,.int .i64 0,.int .i64 0,.int .i64 0,.int .i64 0,.int .i64 0,.int .i64 0,.int .i64 0,.int .i64 0,.int .i64 0,.int .i64 0,.int .i64 0,.int .i64 0,.int .i64 0,.int .i64 0,.int .i64 0,.int .i64 0,.int .i64 0,.int .i64 0,.int .i64 0,.int .i64 0,.int .i64 0,.int .i64 0,.int .i64 0,.int .i64 0,.int .i64 0,.int .i64 0,.int .i64 0,.int .i64 0,.int .i64 0,.int .i64 0,.int .i64 0,.int .i64 0,.int .i64 0,.int .i64 0,.int .i64 0,.int .i64 0,.int .i64 0,.int .i64 0,.int .i64 0,.int .i64 0,.int .i64 0,.int .i64 0,.int .i64 0,.int .i64 0,.int .i64 0,.int .i64 0,.int .i64 0,.int .i64 0,.int .i64 0,.int .i64 0,.int .i64 0,.int .i64 0,.int .i64 0,.int .i64 0,.int .i64 0,.int .i64 0,.int .i64 0,.int .i64 0,.int .i64 0,.int .i64 0,.int .i64 0,.int .i64 0,.int .i64 0,.int .i64 0,.int .i64 0,.int .i64 0,.int .i64 0,.int .i64 0,.int .i64 0,.int .i64 0,.int .i64 0,.int .i64 0,.int .i64 0,.int .i64 0,.int .i64 0,.int .i64 0,.int .i64 0,.int .i64 0,.int .i64 0,.int .i64 0,.int .i64 0,.int .i64 0,.int .i64 0,.int .i64 0,.int .i64 0,.int .i64 0,.int .i64 0,.int .i64 0,.int .i64 0,.int .i64 0,.int .i64 0,.int .i64 0,.int .i64 0,.int .i64 0,.int .i64 0,.int .i64 0,.int .i64 0,.int .i64 0,.int .i64 0,.int .i64 0,.int .i64 0,.int .i64 0,.int .i64 0,.int .i64 0,.int .i64 0,.int .i64 0,.int .i64 0,.int .i64 0,.int .i64 0,.int .i64 0,.int .i64 0,.int .i64 0,.int .i64 0,.int .i64 0,.int .i64 0,.int .i64 0,.int .i64 0,.int .i64 0,.int .i64 0,.int .i64 0,.int .i64 0,.int .i64 0,.int .i64 0,.int .i64 0,.int .i64 0,.int .i64 0,.int .i64 0,.int .i64 0,.int .i64 0,.int .i64 0,.int .i64 0,.int .i64 0,.int .i64 0,.int .i64 0,.int .i64 0,.int .i64 0,.int .i64 0,.int .i64 0,.int .i64 0,.int .i64 0,.int .i64 0,.int .i64 0,.int .i64 0,.int .i64 0,.int .i64 0,.int .i64 0,.int .i64 0,.int .i64 0,.int .i64 0,.int .i64 0,.int .i64 0,.int .i64 0,.int .i64 0,.int .i64 0,.int .i64 0,.int .i64 0,.int .i64 0,.int .i64 0,.int .i64 0,.int .i64 0,.int .i64 0,.int .i64 0,.int .i64 0,.int .i64 0,.int .i64 0,.int .i64 0,.int .i64 0,.int .i64 0,.int .i64 0,.int .i64 0,.int .i64 0,.int .i64 0,.int .i64 0,.int .i64 0,.int .i64 0,.int .i64 0,.int .i64 0,.int .i64 0,.int .i64 0,.int .i64 0,.int .i64 0,.int .i64 0,.int .i64 0,.int .i64 0,.int .i64 0,.int .i64 0,.int .i64 0,.int .i64 0,.int .i64 0,.int .i64 0,.int .i64 0,.int .i64 0,.int .i64 0,.int .i64 0,.int .i64 0,.int .i64 0,.int .i64 0,.int .i64 0,.int .i64 0,.int .i64 0,.int .i64 0,.int .i64 0,.int .i64 0,.int .i64 0,.int .i64 0,.int .i64 0,.int .i64 0,.int .i64 0,.int .i64 0,.int .i64 0,.int .i64 0,.int .i64 0,.int .i64 0,.int .i64 0,.int .i64 0,.int .i64 0,.int .i64 0,.int .i64 0,.int .i64 0,.int .i64 0,.int .i64 0,.int .i64 0,.int .i64 0,.int .i64 0,.int .i64 0,.int .i64 0,.int .i64 0,.int .i64 0,.int .i64 0,.int .i64 0,.int .i64 0,.int .i64 0,.int .i64 0,.int .i64 0,.int .i64 0,.int .i64 0,.int .i64 0,.int .i64 0,.int .i64 0,.int .i64 0,.int .i64 0,.int .i64 0,.int .i64 0,.int .i64 0,.int .i64 0,.int .i64 0,.int .i64 0,.int .i64 0,.int .i64 0,.int .i64 0,.int .i64 0,.int .i64 0,.int .i64 0,.int .i64 0,.int .i64 0,.int .i64 0,.int .i64 0,.int .i64 0,.int .i64 0,.int .i64 0,.int .i64 0,.int .i64 0,.int .i64 0,.int .i64 0,.int .i64 0,.int .i64 0,.int .i64 0,.int .i64 0,.int .i64 0,.int .i64 0,.int .i64 0,.int .i64 0,.int .i64 0,.int .i64 0,.int .i64 0,.int .i64 0,.int .i64 0,.int .i64 0,.int .i64 0,.int .i64 0,.int .i64 0,.int .i64 0,.int .i64 0,.int .i64 0,.int .i64 0,.int .i64 0,.int .i64 0,.int .i64 0,.int .i64 0,.int .i64 0,.int .i64 0,.int .i64 0,.int .i64 0,.int .i64 0,.int .i64 0,.int .i64 0,.int .i64 0,.int .i64 0,.int .i64 0,.int .i64 0,.int .i64 0,.int .i64 0,.int .i64 0,.int .i64 0,.int .i64 0,.int .i64 0,.int .i64 0,.int .i64 0,.int .i64 0,.int .i64 0,.int .i64 0,.int .i64 0,.int .i64 0,.int .i64 0,.int .i64 0,.int .i64 0,.int .i64 0,.int .i64 0,.int .i64 0,.int .i64 0,.int .i64 0,.int .i64 0,.int .i64 0,.int .i64 0,.int .i64 0,.int .i64 0,.int .i64 0,.int .i64 0,.int .i64 0,.int .i64 0,.int .i64 0,.int .i64 0,.int .i64 0,.int .i64 0,.int .i64 0,.int .i64 0,.int .i64 0,.int .i64 0,.int .i64 0,.int .i64 0,.int .i64 0,.int .i64 0,.int .i64 0,.int .i64 0,.int .i64 0],.agg [.int .i64 0,.int .i64 0],.int .i64 0]⟩
theorem Sb:ah EA Yr:=af (n:=100) (l:=[Mb]) (by simp only[List.forall_mem_cons];exact⟨Dl,by simp⟩) (by kernel_rfl)
def Xf:ak:=⟨161,[a1,a8,a6],.aF⟩
theorem Te:ah EA Xf:=af (n:=100) (l:=[]) (by simp) (by kernel_rfl)
def X8:ak:=⟨161,[a1,a8,a7],.aF⟩
theorem S8:ah EA X8:=af (n:=100) (l:=[]) (by simp) (by kernel_rfl)
def Ya:ak:=⟨122,[a1,a8],.tup [.agg [.int .i64 0,.int .i64 0],.bool false]⟩
theorem RI:ah EA Ya:=af (n:=100) (l:=[Mb,Xf,X8]) (by simp only[List.forall_mem_cons];exact⟨Dl,Te,S8,by simp⟩) (by kernel_rfl)
def W_:ak:=⟨96,[a1],.tup [.agg [.int .i64 0,.int .i64 0],.int .i64 0]⟩
theorem R8:ah EA W_:=af (n:=100) (l:=[k0,k5,X2,Mb,Yt,Yy,Yr,Ya]) (by simp only[List.forall_mem_cons];exact⟨Wc,VQ,RG,Dl,RQ,TE,Sb,RI,by simp⟩) (by kernel_rfl)
def xU:ak:=⟨54,[a1],.bool true⟩
theorem o7:ah EA xU:=af (n:=100) (l:=[W_]) (by simp only[List.forall_mem_cons];exact⟨R8,by simp⟩) (by kernel_rfl)
def WV:ak:=⟨212,[.int .i64 9],.bool false⟩
theorem Vs:ah EA WV:=af (n:=100) (l:=[]) (by simp) (by kernel_rfl)
def Xe:ak:=⟨193,[a9],.bool true⟩
theorem Se:ah EA Xe:=af (n:=100) (l:=[WV]) (by simp only[List.forall_mem_cons];exact⟨Vs,by simp⟩) (by kernel_rfl)
def UM:ak:=⟨212,[.int .i64 3],.bool true⟩
theorem Jb:ah EA UM:=af (n:=100) (l:=[]) (by simp) (by kernel_rfl)
def Xg:ak:=⟨193,[oI],.bool true⟩
theorem Q3:ah EA Xg:=af (n:=100) (l:=[UM]) (by simp only[List.forall_mem_cons];exact⟨Jb,by simp⟩) (by kernel_rfl)
def Yd:ak:=⟨193,[oR],.bool true⟩
theorem T6:ah EA Yd:=af (n:=100) (l:=[UM]) (by simp only[List.forall_mem_cons];exact⟨Jb,by simp⟩) (by kernel_rfl)
def LV:ak:=⟨169,[a9],.bool true⟩
theorem CZ:ah EA LV:=af (n:=100) (l:=[Xe,Xg,Yd]) (by simp only[List.forall_mem_cons];exact⟨Se,Q3,T6,by simp⟩) (by kernel_rfl)
def X9:ak:=⟨196,[a9,a12],.bool true⟩
theorem SK:ah EA X9:=af (n:=100) (l:=[]) (by simp) (by kernel_rfl)
def Yi:ak:=⟨197,[a1,.int .i64 0],.bool true⟩
theorem QC:ah EA Yi:=af (n:=100) (l:=[]) (by simp) (by kernel_rfl)
def Yg:ak:=⟨196,[oI,a12],.bool true⟩
theorem Tt:ah EA Yg:=af (n:=100) (l:=[Yi]) (by simp only[List.forall_mem_cons];exact⟨QC,by simp⟩) (by kernel_rfl)
def XZ:ak:=⟨174,[oI,Ua],.bool true⟩
theorem UJ:ah EA XZ:=af (n:=100) (l:=[Yg]) (by simp only[List.forall_mem_cons];exact⟨Tt,by simp⟩) (by kernel_rfl)
def XV:ak:=⟨205,[oI,Xt],.bool false⟩
theorem SD:ah EA XV:=af (n:=100) (l:=[XZ]) (by simp only[List.forall_mem_cons];exact⟨UJ,by simp⟩) (by kernel_rfl)
def Xx:ak:=⟨197,[a1,.int .i64 1],.bool true⟩
theorem Vw:ah EA Xx:=af (n:=100) (l:=[]) (by simp) (by kernel_rfl)
def Xa:ak:=⟨196,[oR,a12],.bool true⟩
theorem Sd:ah EA Xa:=af (n:=100) (l:=[Xx]) (by simp only[List.forall_mem_cons];exact⟨Vw,by simp⟩) (by kernel_rfl)
def XL:ak:=⟨174,[oR,Ua],.bool true⟩
theorem UU:ah EA XL:=af (n:=100) (l:=[Xa]) (by simp only[List.forall_mem_cons];exact⟨Sd,by simp⟩) (by kernel_rfl)
def Xc:ak:=⟨205,[oR,Xt],.bool false⟩
theorem QL:ah EA Xc:=af (n:=100) (l:=[XL]) (by simp only[List.forall_mem_cons];exact⟨UU,by simp⟩) (by kernel_rfl)
def Xp:ak:=⟨174,[a9,Ua],.bool true⟩
theorem Rk:ah EA Xp:=af (n:=100) (l:=[X9,XV,Xc]) (by simp only[List.forall_mem_cons];exact⟨SK,SD,QL,by simp⟩) (by kernel_rfl)
def XH:ak:=⟨170,[a1,a9],.bool true⟩
theorem Vj:ah EA XH:=af (n:=100) (l:=[Xp]) (by simp only[List.forall_mem_cons];exact⟨Rk,by simp⟩) (by kernel_rfl)
def IP:ak:=⟨201,[.int .i64 3],.int .i64 1⟩
theorem Aa:ah EA IP:=af (n:=100) (l:=[]) (by simp) (by kernel_rfl)
def TO:ak:=⟨202,[.int .i64 9],.int .i64 1⟩
theorem HV:ah EA TO:=af (n:=100) (l:=[]) (by simp) (by kernel_rfl)
def Yz:ak:=⟨200,[oI,XK],.bool false⟩
theorem Ss:ah EA Yz:=af (n:=100) (l:=[IP,TO]) (by simp only[List.forall_mem_cons];exact⟨Aa,HV,by simp⟩) (by kernel_rfl)
def XR:ak:=⟨200,[oR,XK],.bool false⟩
theorem Vx:ah EA XR:=af (n:=100) (l:=[IP,TO]) (by simp only[List.forall_mem_cons];exact⟨Aa,HV,by simp⟩) (by kernel_rfl)
def Xo:ak:=⟨199,[a9],.bool true⟩
theorem Un:ah EA Xo:=af (n:=100) (l:=[Yz,XR]) (by simp only[List.forall_mem_cons];exact⟨Ss,Vx,by simp⟩) (by kernel_rfl)
def XT:ak:=⟨199,[oI],.bool true⟩
theorem Tm:ah EA XT:=af (n:=100) (l:=[]) (by simp) (by kernel_rfl)
def WZ:ak:=⟨174,[oI,.clo 199 [] []],.bool true⟩
theorem TH:ah EA WZ:=af (n:=100) (l:=[XT]) (by simp only[List.forall_mem_cons];exact⟨Tm,by simp⟩) (by kernel_rfl)
def Yw:ak:=⟨205,[oI,.fptr [.clo 199 [] []]],.bool false⟩
theorem Rh:ah EA Yw:=af (n:=100) (l:=[WZ]) (by simp only[List.forall_mem_cons];exact⟨TH,by simp⟩) (by kernel_rfl)
def Xu:ak:=⟨199,[oR],.bool true⟩
theorem RR:ah EA Xu:=af (n:=100) (l:=[]) (by simp) (by kernel_rfl)
def XE:ak:=⟨174,[oR,.clo 199 [] []],.bool true⟩
theorem TB:ah EA XE:=af (n:=100) (l:=[Xu]) (by simp only[List.forall_mem_cons];exact⟨RR,by simp⟩) (by kernel_rfl)
def XS:ak:=⟨205,[oR,.fptr [.clo 199 [] []]],.bool false⟩
theorem TF:ah EA XS:=af (n:=100) (l:=[XE]) (by simp only[List.forall_mem_cons];exact⟨TB,by simp⟩) (by kernel_rfl)
def XI:ak:=⟨174,[a9,.clo 199 [] []],.bool true⟩
theorem SZ:ah EA XI:=af (n:=100) (l:=[Xo,Yw,XS]) (by simp only[List.forall_mem_cons];exact⟨Un,Rh,TF,by simp⟩) (by kernel_rfl)
def UX:ak:=⟨171,[a9],.bool true⟩
theorem HO:ah EA UX:=af (n:=100) (l:=[XI]) (by simp only[List.forall_mem_cons];exact⟨SZ,by simp⟩) (by kernel_rfl)
def UF:ak:=⟨201,[.int .i64 9],.int .i64 2⟩
theorem HS:ah EA UF:=af (n:=100) (l:=[]) (by simp) (by kernel_rfl)
def X0:ak:=⟨215,[a1,oI],a6⟩
theorem Rs:ah EA X0:=af (n:=100) (l:=[]) (by simp) (by kernel_rfl)
def QJ:ak:=⟨216,[a6],.bool false⟩
theorem Iy:ah EA QJ:=af (n:=100) (l:=[]) (by simp) (by kernel_rfl)
def Yq:ak:=⟨203,[a1,oI],Yh⟩
theorem Uu:ah EA Yq:=af (n:=100) (l:=[X0,QJ]) (by simp only[List.forall_mem_cons];exact⟨Rs,Iy,by simp⟩) (by kernel_rfl)
def XU:ak:=⟨172,[a1,oI],.bool true⟩
theorem UZ:ah EA XU:=af (n:=100) (l:=[IP,Yq]) (by simp only[List.forall_mem_cons];exact⟨Aa,Uu,by simp⟩) (by kernel_rfl)
def Yn:ak:=⟨204,[oI,a12],.bool false⟩
theorem Sz:ah EA Yn:=af (n:=100) (l:=[XU]) (by simp only[List.forall_mem_cons];exact⟨UZ,by simp⟩) (by kernel_rfl)
def WW:ak:=⟨215,[a1,oR],a6⟩
theorem Vl:ah EA WW:=af (n:=100) (l:=[]) (by simp) (by kernel_rfl)
def XO:ak:=⟨203,[a1,oR],Yh⟩
theorem S4:ah EA XO:=af (n:=100) (l:=[WW,QJ]) (by simp only[List.forall_mem_cons];exact⟨Vl,Iy,by simp⟩) (by kernel_rfl)
def WU:ak:=⟨172,[a1,oR],.bool true⟩
theorem Tn:ah EA WU:=af (n:=100) (l:=[IP,XO]) (by simp only[List.forall_mem_cons];exact⟨Aa,S4,by simp⟩) (by kernel_rfl)
def XB:ak:=⟨204,[oR,a12],.bool false⟩
theorem R3:ah EA XB:=af (n:=100) (l:=[WU]) (by simp only[List.forall_mem_cons];exact⟨Tn,by simp⟩) (by kernel_rfl)
def Yu:ak:=⟨172,[a1,a9],.bool true⟩
theorem QO:ah EA Yu:=af (n:=100) (l:=[UF,Yn,XB]) (by simp only[List.forall_mem_cons];exact⟨HS,Sz,R3,by simp⟩) (by kernel_rfl)
def Yp:ak:=⟨136,[a1,a9],.int .i64 0⟩
theorem UO:ah EA Yp:=af (n:=100) (l:=[xU,LV,XH,UX,Yu]) (by simp only[List.forall_mem_cons];exact⟨o7,CZ,Vj,HO,QO,by simp⟩) (by kernel_rfl)
def WR:ak:=⟨173,[a9],.tup [.int .i64 2,.int .i64 0]⟩
theorem UW:ah EA WR:=af (n:=100) (l:=[LV,UX,UF]) (by simp only[List.forall_mem_cons];exact⟨CZ,HO,HS,by simp⟩) (by kernel_rfl)
def X3:ak:=⟨137,[a9,.int .i64 2],.int .i64 0⟩
theorem Rr:ah EA X3:=af (n:=100) (l:=[WR]) (by simp only[List.forall_mem_cons];exact⟨UW,by simp⟩) (by kernel_rfl)
def Yl:ak:=⟨176,[.int .i64 9],.bool false⟩
theorem U9:ah EA Yl:=af (n:=100) (l:=[]) (by simp) (by kernel_rfl)
def XN:ak:=⟨175,[a9],.bool true⟩
theorem RH:ah EA XN:=af (n:=100) (l:=[Yl]) (by simp only[List.forall_mem_cons];exact⟨U9,by simp⟩) (by kernel_rfl)
def Rb:ak:=⟨176,[.int .i64 3],.bool false⟩
theorem Ji:ah EA Rb:=af (n:=100) (l:=[]) (by simp) (by kernel_rfl)
def Ym:ak:=⟨175,[oI],.bool true⟩
theorem RE:ah EA Ym:=af (n:=100) (l:=[Rb]) (by simp only[List.forall_mem_cons];exact⟨Ji,by simp⟩) (by kernel_rfl)
def Yj:ak:=⟨174,[oI,.clo 175 [] []],.bool true⟩
theorem VB:ah EA Yj:=af (n:=100) (l:=[Ym]) (by simp only[List.forall_mem_cons];exact⟨RE,by simp⟩) (by kernel_rfl)
def Yk:ak:=⟨205,[oI,.fptr [.clo 175 [] []]],.bool false⟩
theorem Vq:ah EA Yk:=af (n:=100) (l:=[Yj]) (by simp only[List.forall_mem_cons];exact⟨VB,by simp⟩) (by kernel_rfl)
def X5:ak:=⟨175,[oR],.bool true⟩
theorem Su:ah EA X5:=af (n:=100) (l:=[Rb]) (by simp only[List.forall_mem_cons];exact⟨Ji,by simp⟩) (by kernel_rfl)
def Yo:ak:=⟨174,[oR,.clo 175 [] []],.bool true⟩
theorem Uy:ah EA Yo:=af (n:=100) (l:=[X5]) (by simp only[List.forall_mem_cons];exact⟨Su,by simp⟩) (by kernel_rfl)
def Yb:ak:=⟨205,[oR,.fptr [.clo 175 [] []]],.bool false⟩
theorem U_:ah EA Yb:=af (n:=100) (l:=[Yo]) (by simp only[List.forall_mem_cons];exact⟨Uy,by simp⟩) (by kernel_rfl)
def XD:ak:=⟨174,[a9,.clo 175 [] []],.bool true⟩
theorem Ux:ah EA XD:=af (n:=100) (l:=[XN,Yk,Yb]) (by simp only[List.forall_mem_cons];exact⟨RH,Vq,U_,by simp⟩) (by kernel_rfl)
def Xy:ak:=⟨138,[a9],.bool false⟩
theorem RX:ah EA Xy:=af (n:=100) (l:=[LV,XD]) (by simp only[List.forall_mem_cons];exact⟨CZ,Ux,by simp⟩) (by kernel_rfl)
def Xv:ak:=⟨219,[a1],a17⟩
theorem Vb:ah EA Xv:=af (n:=100) (l:=[]) (by simp) (by kernel_rfl)
def Xi:ak:=⟨230,[a17,fW,.int .i64 0],.bool true⟩
theorem UP:ah EA Xi:=af (n:=100) (l:=[]) (by simp) (by kernel_rfl)
def Xh:ak:=⟨230,[a17,fW,.int .i64 1],.bool true⟩
theorem RM:ah EA Xh:=af (n:=100) (l:=[]) (by simp) (by kernel_rfl)
def L5:ak:=⟨116,[.int .i64 1],.bool false⟩
theorem C9:ah EA L5:=af (n:=100) (l:=[]) (by simp) (by kernel_rfl)
def Ma:ak:=⟨93,[.int .i64 1,.int .i64 1],.int .i64 0⟩
theorem C2:ah EA Ma:=af (n:=100) (l:=[L5]) (by simp only[List.forall_mem_cons];exact⟨C9,by simp⟩) (by kernel_rfl)
def EM:ak:=⟨116,[.int .i64 0],.bool false⟩
theorem wu:ah EA EM:=af (n:=100) (l:=[]) (by simp) (by kernel_rfl)
def I6:ak:=⟨93,[.int .i64 0,.int .i64 0],.int .i64 0⟩
theorem zC:ah EA I6:=af (n:=100) (l:=[EM]) (by simp only[List.forall_mem_cons];exact⟨wu,by simp⟩) (by kernel_rfl)
def W9:ak:=⟨95,[pE,pE],.int .i64 0⟩
theorem UB:ah EA W9:=af (n:=100) (l:=[Ma,I6]) (by simp only[List.forall_mem_cons];exact⟨C2,zC,by simp⟩) (by kernel_rfl)
def X6:ak:=⟨231,[pE,pE],.int .i64 0⟩
theorem Vp:ah EA X6:=af (n:=100) (l:=[W9]) (by simp only[List.forall_mem_cons];exact⟨UB,by simp⟩) (by kernel_rfl)
def SQ:ak:=⟨93,[.int .i64 1,.int .i64 0],.int .i64 1⟩
theorem I4:ah EA SQ:=af (n:=100) (l:=[L5,EM]) (by simp only[List.forall_mem_cons];exact⟨C9,wu,by simp⟩) (by kernel_rfl)
def Xj:ak:=⟨95,[pE,a20],.int .i64 1⟩
theorem Ru:ah EA Xj:=af (n:=100) (l:=[SQ]) (by simp only[List.forall_mem_cons];exact⟨I4,by simp⟩) (by kernel_rfl)
def Xn:ak:=⟨231,[pE,a20],.int .i64 1⟩
theorem SB:ah EA Xn:=af (n:=100) (l:=[Xj]) (by simp only[List.forall_mem_cons];exact⟨Ru,by simp⟩) (by kernel_rfl)
def Q4:ak:=⟨93,[.int .i64 0,.int .i64 1],.int .i64 (-1)⟩
theorem HZ:ah EA Q4:=af (n:=100) (l:=[EM,L5]) (by simp only[List.forall_mem_cons];exact⟨wu,C9,by simp⟩) (by kernel_rfl)
def XA:ak:=⟨95,[a20,pE],.int .i64 (-1)⟩
theorem R5:ah EA XA:=af (n:=100) (l:=[Q4]) (by simp only[List.forall_mem_cons];exact⟨HZ,by simp⟩) (by kernel_rfl)
def XM:ak:=⟨231,[a20,pE],.int .i64 (-1)⟩
theorem QM:ah EA XM:=af (n:=100) (l:=[XA]) (by simp only[List.forall_mem_cons];exact⟨R5,by simp⟩) (by kernel_rfl)
def Xq:ak:=⟨95,[a20,a20],.int .i64 0⟩
theorem U5:ah EA Xq:=af (n:=100) (l:=[I6,Ma]) (by simp only[List.forall_mem_cons];exact⟨zC,C2,by simp⟩) (by kernel_rfl)
def Xr:ak:=⟨231,[a20,a20],.int .i64 0⟩
theorem SJ:ah EA Xr:=af (n:=100) (l:=[Xq]) (by simp only[List.forall_mem_cons];exact⟨U5,by simp⟩) (by kernel_rfl)
def XC:ak:=⟨98,[pE,a20],.bool false⟩
theorem S7:ah EA XC:=af (n:=100) (l:=[]) (by simp) (by kernel_rfl)
def X1:ak:=⟨233,[pE,a20],.bool false⟩
theorem Sv:ah EA X1:=af (n:=100) (l:=[XC]) (by simp only[List.forall_mem_cons];exact⟨S7,by simp⟩) (by kernel_rfl)
def W8:ak:=⟨220,[a17,a21],a22⟩
theorem Us:ah EA W8:=af (n:=100) (l:=[Xi,Xh,X6,Xn,XM,Xr,X1]) (by simp only[List.forall_mem_cons];exact⟨UP,RM,Vp,SB,QM,SJ,Sv,by simp⟩) (by kernel_rfl)
def Xl:ak:=⟨230,[a17,a20,.int .i64 0],.bool true⟩
theorem Ul:ah EA Xl:=af (n:=100) (l:=[]) (by simp) (by kernel_rfl)
def SA:ak:=⟨230,[a17,a20,.int .i64 1],.bool false⟩
theorem Mz:ah EA SA:=af (n:=100) (l:=[]) (by simp) (by kernel_rfl)
def Q7:ak:=⟨230,[a17,pE,.int .i64 0],.bool false⟩
theorem On:ah EA Q7:=af (n:=100) (l:=[]) (by simp) (by kernel_rfl)
def RZ:ak:=⟨230,[a17,pE,.int .i64 1],.bool true⟩
theorem Pm:ah EA RZ:=af (n:=100) (l:=[]) (by simp) (by kernel_rfl)
def KK:ak:=⟨95,[a23,a23],.int .i64 0⟩
theorem E_:ah EA KK:=af (n:=100) (l:=[Ma]) (by simp only[List.forall_mem_cons];exact⟨C2,by simp⟩) (by kernel_rfl)
def QS:ak:=⟨231,[a23,a23],.int .i64 0⟩
theorem Oj:ah EA QS:=af (n:=100) (l:=[KK]) (by simp only[List.forall_mem_cons];exact⟨E_,by simp⟩) (by kernel_rfl)
def Tk:ak:=⟨98,[a23,a23],.bool true⟩
theorem NQ:ah EA Tk:=af (n:=100) (l:=[]) (by simp) (by kernel_rfl)
def UD:ak:=⟨233,[a23,a23],.bool true⟩
theorem O3:ah EA UD:=af (n:=100) (l:=[Tk]) (by simp only[List.forall_mem_cons];exact⟨NQ,by simp⟩) (by kernel_rfl)
def QI:ak:=⟨220,[a17,a22],a24⟩
theorem Mw:ah EA QI:=af (n:=100) (l:=[Xl,SA,Q7,RZ,QS,UD]) (by simp only[List.forall_mem_cons];exact⟨Ul,Mz,On,Pm,Oj,O3,by simp⟩) (by kernel_rfl)
def Sx:ak:=⟨230,[a17,a23,.int .i64 0],.bool false⟩
theorem Po:ah EA Sx:=af (n:=100) (l:=[]) (by simp) (by kernel_rfl)
def QH:ak:=⟨230,[a17,a23,.int .i64 1],.bool false⟩
theorem N7:ah EA QH:=af (n:=100) (l:=[]) (by simp) (by kernel_rfl)
def Uc:ak:=⟨220,[a17,a24],.aF⟩
theorem MA:ah EA Uc:=af (n:=100) (l:=[Sx,QH]) (by simp only[List.forall_mem_cons];exact⟨Po,N7,by simp⟩) (by kernel_rfl)
def Qw:ak:=⟨206,[a1],.tup [.fsl 1 [[.fsl 1 [[.fsl 1 [[.int .i64 0],[.int .i64 0]]]]],[.fsl 1 [[.fsl 1 [[.int .i64 0],[.int .i64 1]]],[.fsl 1 [[.int .i64 1],[.int .i64 0]]]]],[.fsl 1 [[.fsl 1 [[.int .i64 1],[.int .i64 1]]]]]],.int .i64 0]⟩
theorem Pp:ah EA Qw:=af (n:=100) (l:=[xU,Xv,W8,QI,Uc]) (by simp only[List.forall_mem_cons];exact⟨o7,Vb,Us,Mw,MA,by simp⟩) (by kernel_rfl)
def QT:ak:=⟨207,[.fsl 1 [[.fsl 1 [[.fsl 1 [[.int .i64 0],[.int .i64 0]]]]],[.fsl 1 [[.fsl 1 [[.int .i64 0],[.int .i64 1]]],[.fsl 1 [[.int .i64 1],[.int .i64 0]]]]],[.fsl 1 [[.fsl 1 [[.int .i64 1],[.int .i64 1]]]]]]],.fsl 1 [[.fsl 1 [[.int .i64 0],[.int .i64 0]]],[.fsl 1 [[.int .i64 0],[.int .i64 1]]],[.fsl 1 [[.int .i64 1],[.int .i64 0]]],[.fsl 1 [[.int .i64 1],[.int .i64 1]]]]⟩
theorem Nc:ah EA QT:=af (n:=100) (l:=[]) (by simp) (by kernel_rfl)
def SC:ak:=⟨177,[a1],a25⟩
theorem Pq:ah EA SC:=af (n:=100) (l:=[Qw,QT]) (by simp only[List.forall_mem_cons];exact⟨Pp,Nc,by simp⟩) (by kernel_rfl)
def SO:ak:=⟨139,[a1],a25⟩
theorem M_:ah EA SO:=af (n:=100) (l:=[SC]) (by simp only[List.forall_mem_cons];exact⟨Pq,by simp⟩) (by kernel_rfl)
def RW:ak:=⟨162,[fW,a12],.bool false⟩
theorem Pt:ah EA RW:=af (n:=100) (l:=[]) (by simp) (by kernel_rfl)
def T5:ak:=⟨80,[a21,a26],.int .i64 (-1)⟩
theorem PZ:ah EA T5:=af (n:=100) (l:=[RW]) (by simp only[List.forall_mem_cons];exact⟨Pt,by simp⟩) (by kernel_rfl)
def TV:ak:=⟨35,[a21,a26],.bool false⟩
theorem N2:ah EA TV:=af (n:=100) (l:=[T5]) (by simp only[List.forall_mem_cons];exact⟨PZ,by simp⟩) (by kernel_rfl)
def Vf:ak:=⟨123,[a1,a21],.bool true⟩
theorem Ny:ah EA Vf:=af (n:=100) (l:=[xU,TV]) (by simp only[List.forall_mem_cons];exact⟨o7,N2,by simp⟩) (by kernel_rfl)
def Rq:ak:=⟨124,[a1,fW],.bool true⟩
theorem OE:ah EA Rq:=af (n:=100) (l:=[]) (by simp) (by kernel_rfl)
def SI:ak:=⟨127,[a1,fW],LH⟩
theorem PM:ah EA SI:=af (n:=100) (l:=[]) (by simp) (by kernel_rfl)
def VA:ak:=⟨126,[a1,fW],.bool true⟩
theorem Ns:ah EA VA:=af (n:=100) (l:=[SI]) (by simp only[List.forall_mem_cons];exact⟨PM,by simp⟩) (by kernel_rfl)
def Ld:ak:=⟨99,[a1,a21,.aF],.int .i64 0⟩
theorem Eu:ah EA Ld:=af (n:=100) (l:=[Vf,Rq,VA]) (by simp only[List.forall_mem_cons];exact⟨Ny,OE,Ns,by simp⟩) (by kernel_rfl)
def SU:ak:=⟨178,[a1,fW],.tup [.aF,.int .i64 0]⟩
theorem P7:ah EA SU:=af (n:=100) (l:=[Ld]) (by simp only[List.forall_mem_cons];exact⟨Eu,by simp⟩) (by kernel_rfl)
def Lm:ak:=⟨208,[a2],.clo 222 [] [.fptr [.str (ByteArray.mk #[112]),.aF,.fsl 5 [[.int .i64 1,.int .i64 0,.int .i64 0,.int .i64 0,.aF]]]]⟩
theorem Fv:ah EA Lm:=af (n:=100) (l:=[]) (by simp) (by kernel_rfl)
def Km:ak:=⟨179,[a2,.int .i64 0],.aF⟩
theorem ET:ah EA Km:=af (n:=100) (l:=[Lm]) (by simp only[List.forall_mem_cons];exact⟨Fv,by simp⟩) (by kernel_rfl)
def KE:ak:=⟨208,[a28],.clo 222 [] [.fptr [.str (ByteArray.mk #[113]),.aF,.fsl 5 [[.int .i64 1,.int .i64 0,.int .i64 0,.int .i64 0,.aF]]]]⟩
theorem EI:ah EA KE:=af (n:=100) (l:=[]) (by simp) (by kernel_rfl)
def KP:ak:=⟨179,[a28,.int .i64 0],.aF⟩
theorem Fs:ah EA KP:=af (n:=100) (l:=[KE]) (by simp only[List.forall_mem_cons];exact⟨EI,by simp⟩) (by kernel_rfl)
def RP:ak:=⟨140,[a1,fW],Mc⟩
theorem Np:ah EA RP:=af (n:=100) (l:=[SU,Km,KP]) (by simp only[List.forall_mem_cons];exact⟨P7,ET,Fs,by simp⟩) (by kernel_rfl)
def Qx:ak:=⟨180,[Sp,oI],.int .i64 0⟩
theorem Og:ah EA Qx:=af (n:=100) (l:=[]) (by simp) (by kernel_rfl)
def Rj:ak:=⟨180,[Sp,oR],.int .i64 0⟩
theorem MS:ah EA Rj:=af (n:=100) (l:=[]) (by simp) (by kernel_rfl)
def QB:ak:=⟨141,[Sp,a9],.bool true⟩
theorem P8:ah EA QB:=af (n:=100) (l:=[Qx,Rj]) (by simp only[List.forall_mem_cons];exact⟨Og,MS,by simp⟩) (by kernel_rfl)
def Tj:ak:=⟨162,[a20,a12],.bool false⟩
theorem Oz:ah EA Tj:=af (n:=100) (l:=[]) (by simp) (by kernel_rfl)
def R7:ak:=⟨80,[a31,a26],.int .i64 (-1)⟩
theorem MF:ah EA R7:=af (n:=100) (l:=[Tj]) (by simp only[List.forall_mem_cons];exact⟨Oz,by simp⟩) (by kernel_rfl)
def Qv:ak:=⟨35,[a31,a26],.bool false⟩
theorem MQ:ah EA Qv:=af (n:=100) (l:=[R7]) (by simp only[List.forall_mem_cons];exact⟨MF,by simp⟩) (by kernel_rfl)
def RA:ak:=⟨123,[a1,a31],.bool true⟩
theorem Oo:ah EA RA:=af (n:=100) (l:=[xU,Qv]) (by simp only[List.forall_mem_cons];exact⟨o7,MQ,by simp⟩) (by kernel_rfl)
def Sf:ak:=⟨124,[a1,a20],.bool true⟩
theorem NS:ah EA Sf:=af (n:=100) (l:=[]) (by simp) (by kernel_rfl)
def Vh:ak:=⟨127,[a1,a20],LH⟩
theorem Nt:ah EA Vh:=af (n:=100) (l:=[]) (by simp) (by kernel_rfl)
def Uv:ak:=⟨126,[a1,a20],.bool true⟩
theorem Mx:ah EA Uv:=af (n:=100) (l:=[Vh]) (by simp only[List.forall_mem_cons];exact⟨Nt,by simp⟩) (by kernel_rfl)
def KS:ak:=⟨99,[a1,a31,.aF],.int .i64 0⟩
theorem Ff:ah EA KS:=af (n:=100) (l:=[RA,Sf,Uv]) (by simp only[List.forall_mem_cons];exact⟨Oo,NS,Mx,by simp⟩) (by kernel_rfl)
def S5:ak:=⟨178,[a1,a20],.tup [.fsl 2 [[.int .i64 1,.int .i64 1]],.int .i64 0]⟩
theorem Nl:ah EA S5:=af (n:=100) (l:=[KS]) (by simp only[List.forall_mem_cons];exact⟨Ff,by simp⟩) (by kernel_rfl)
def J6:ak:=⟨179,[a28,.int .i64 1],.aF⟩
theorem EP:ah EA J6:=af (n:=100) (l:=[KE]) (by simp only[List.forall_mem_cons];exact⟨EI,by simp⟩) (by kernel_rfl)
def Sn:ak:=⟨140,[a1,a20],Mc⟩
theorem OC:ah EA Sn:=af (n:=100) (l:=[S5,Km,J6]) (by simp only[List.forall_mem_cons];exact⟨Nl,ET,EP,by simp⟩) (by kernel_rfl)
def T3:ak:=⟨180,[a32,oI],.int .i64 0⟩
theorem OV:ah EA T3:=af (n:=100) (l:=[]) (by simp) (by kernel_rfl)
def RS:ak:=⟨180,[a32,oR],.int .i64 1⟩
theorem MG:ah EA RS:=af (n:=100) (l:=[]) (by simp) (by kernel_rfl)
def U6:ak:=⟨141,[a32,a9],.bool false⟩
theorem Pw:ah EA U6:=af (n:=100) (l:=[T3,RS]) (by simp only[List.forall_mem_cons];exact⟨OV,MG,by simp⟩) (by kernel_rfl)
def TT:ak:=⟨162,[pE,a12],.bool false⟩
theorem Nb:ah EA TT:=af (n:=100) (l:=[]) (by simp) (by kernel_rfl)
def Vy:ak:=⟨80,[a33,a26],.int .i64 (-1)⟩
theorem Pj:ah EA Vy:=af (n:=100) (l:=[TT]) (by simp only[List.forall_mem_cons];exact⟨Nb,by simp⟩) (by kernel_rfl)
def Sa:ak:=⟨35,[a33,a26],.bool false⟩
theorem O6:ah EA Sa:=af (n:=100) (l:=[Vy]) (by simp only[List.forall_mem_cons];exact⟨Pj,by simp⟩) (by kernel_rfl)
def SX:ak:=⟨123,[a1,a33],.bool true⟩
theorem MV:ah EA SX:=af (n:=100) (l:=[xU,Sa]) (by simp only[List.forall_mem_cons];exact⟨o7,O6,by simp⟩) (by kernel_rfl)
def R_:ak:=⟨124,[a1,pE],.bool true⟩
theorem OI:ah EA R_:=af (n:=100) (l:=[]) (by simp) (by kernel_rfl)
def Re:ak:=⟨127,[a1,pE],LH⟩
theorem PL:ah EA Re:=af (n:=100) (l:=[]) (by simp) (by kernel_rfl)
def RD:ak:=⟨126,[a1,pE],.bool true⟩
theorem OS:ah EA RD:=af (n:=100) (l:=[Re]) (by simp only[List.forall_mem_cons];exact⟨PL,by simp⟩) (by kernel_rfl)
def Si:ak:=⟨99,[a1,a33,.aF],.int .i64 0⟩
theorem Ni:ah EA Si:=af (n:=100) (l:=[SX,R_,RD]) (by simp only[List.forall_mem_cons];exact⟨MV,OI,OS,by simp⟩) (by kernel_rfl)
def Q2:ak:=⟨178,[a1,pE],.tup [.fsl 2 [[.int .i64 0,.int .i64 1]],.int .i64 0]⟩
theorem PO:ah EA Q2:=af (n:=100) (l:=[Si]) (by simp only[List.forall_mem_cons];exact⟨Ni,by simp⟩) (by kernel_rfl)
def JL:ak:=⟨179,[a2,.int .i64 1],.aF⟩
theorem Ey:ah EA JL:=af (n:=100) (l:=[Lm]) (by simp only[List.forall_mem_cons];exact⟨Fv,by simp⟩) (by kernel_rfl)
def Vv:ak:=⟨140,[a1,pE],Mc⟩
theorem Pf:ah EA Vv:=af (n:=100) (l:=[Q2,JL,KP]) (by simp only[List.forall_mem_cons];exact⟨PO,Ey,Fs,by simp⟩) (by kernel_rfl)
def Va:ak:=⟨180,[T_,oI],.int .i64 1⟩
theorem MN:ah EA Va:=af (n:=100) (l:=[]) (by simp) (by kernel_rfl)
def SS:ak:=⟨180,[T_,oR],.int .i64 0⟩
theorem Pg:ah EA SS:=af (n:=100) (l:=[]) (by simp) (by kernel_rfl)
def UA:ak:=⟨141,[T_,a9],.bool false⟩
theorem Nj:ah EA UA:=af (n:=100) (l:=[Va,SS]) (by simp only[List.forall_mem_cons];exact⟨MN,Pg,by simp⟩) (by kernel_rfl)
def Vn:ak:=⟨162,[a23,a12],.bool false⟩
theorem Nz:ah EA Vn:=af (n:=100) (l:=[]) (by simp) (by kernel_rfl)
def Tl:ak:=⟨80,[a24,a26],.int .i64 (-1)⟩
theorem MK:ah EA Tl:=af (n:=100) (l:=[Vn]) (by simp only[List.forall_mem_cons];exact⟨Nz,by simp⟩) (by kernel_rfl)
def Ve:ak:=⟨35,[a24,a26],.bool false⟩
theorem OZ:ah EA Ve:=af (n:=100) (l:=[Tl]) (by simp only[List.forall_mem_cons];exact⟨MK,by simp⟩) (by kernel_rfl)
def TU:ak:=⟨123,[a1,a24],.bool true⟩
theorem ML:ah EA TU:=af (n:=100) (l:=[xU,Ve]) (by simp only[List.forall_mem_cons];exact⟨o7,OZ,by simp⟩) (by kernel_rfl)
def Q6:ak:=⟨124,[a1,a23],.bool true⟩
theorem OP:ah EA Q6:=af (n:=100) (l:=[]) (by simp) (by kernel_rfl)
def Ti:ak:=⟨127,[a1,a23],LH⟩
theorem OF:ah EA Ti:=af (n:=100) (l:=[]) (by simp) (by kernel_rfl)
def Rf:ak:=⟨126,[a1,a23],.bool true⟩
theorem Pb:ah EA Rf:=af (n:=100) (l:=[Ti]) (by simp only[List.forall_mem_cons];exact⟨OF,by simp⟩) (by kernel_rfl)
def J_:ak:=⟨99,[a1,a24,.aF],.int .i64 0⟩
theorem Fy:ah EA J_:=af (n:=100) (l:=[TU,Q6,Rf]) (by simp only[List.forall_mem_cons];exact⟨ML,OP,Pb,by simp⟩) (by kernel_rfl)
def Sr:ak:=⟨178,[a1,a23],.tup [.fsl 2 [[.int .i64 0,.int .i64 1],[.int .i64 1,.int .i64 1]],.int .i64 0]⟩
theorem OA:ah EA Sr:=af (n:=100) (l:=[J_]) (by simp only[List.forall_mem_cons];exact⟨Fy,by simp⟩) (by kernel_rfl)
def UI:ak:=⟨140,[a1,a23],Mc⟩
theorem P5:ah EA UI:=af (n:=100) (l:=[Sr,JL,J6]) (by simp only[List.forall_mem_cons];exact⟨OA,Ey,EP,by simp⟩) (by kernel_rfl)
def Ty:ak:=⟨180,[a35,oI],.int .i64 1⟩
theorem OG:ah EA Ty:=af (n:=100) (l:=[]) (by simp) (by kernel_rfl)
def UH:ak:=⟨180,[a35,oR],.int .i64 1⟩
theorem OM:ah EA UH:=af (n:=100) (l:=[]) (by simp) (by kernel_rfl)
def Ud:ak:=⟨141,[a35,a9],.bool true⟩
theorem N3:ah EA Ud:=af (n:=100) (l:=[Ty,UH]) (by simp only[List.forall_mem_cons];exact⟨OG,OM,by simp⟩) (by kernel_rfl)
def Uq:ak:=⟨113,[a1,a9],.tup [.fsl 1 [[.fsl 1 [[.int .i64 0],[.int .i64 0]]],[.fsl 1 [[.int .i64 0],[.int .i64 1]]],[.fsl 1 [[.int .i64 1],[.int .i64 0]]],[.fsl 1 [[.int .i64 1],[.int .i64 1]]]],.fsl 1 [[.bool true],[.bool false],[.bool false],[.bool true]],.int .i64 0]⟩
theorem MB:ah EA Uq:=af (n:=100) (l:=[Yp,X3,Xy,SO,RP,QB,Sn,U6,Vv,UA,UI,Ud]) (by simp only[List.forall_mem_cons];exact⟨UO,Rr,RX,M_,Np,P8,OC,Pw,Pf,Nj,P5,N3,by simp⟩) (by kernel_rfl)
def RK:ak:=⟨85,[a1,a9],Ye⟩
theorem P0:ah EA RK:=af (n:=100) (l:=[Uq]) (by simp only[List.forall_mem_cons];exact⟨MB,by simp⟩) (by kernel_rfl)
def LG:ak:=⟨63,[a1,fW],.bool true⟩
theorem Fk:ah EA LG:=af (n:=100) (l:=[Ld]) (by simp only[List.forall_mem_cons];exact⟨Eu,by simp⟩) (by kernel_rfl)
def Rx:ak:=⟨71,[fW,a12],.bool false⟩
theorem MP:ah EA Rx:=af (n:=100) (l:=[LG]) (by simp only[List.forall_mem_cons];exact⟨Fk,by simp⟩) (by kernel_rfl)
def C7:ak:=⟨63,[a1,a23],.bool true⟩
theorem xA:ah EA C7:=af (n:=100) (l:=[J_]) (by simp only[List.forall_mem_cons];exact⟨Fy,by simp⟩) (by kernel_rfl)
def S0:ak:=⟨71,[a23,a12],.bool false⟩
theorem Pz:ah EA S0:=af (n:=100) (l:=[C7]) (by simp only[List.forall_mem_cons];exact⟨xA,by simp⟩) (by kernel_rfl)
def UY:ak:=⟨80,[a37,Ml],.int .i64 (-1)⟩
theorem PB:ah EA UY:=af (n:=100) (l:=[Rx,S0]) (by simp only[List.forall_mem_cons];exact⟨MP,Pz,by simp⟩) (by kernel_rfl)
def Rp:ak:=⟨35,[a37,Ml],.bool false⟩
theorem OK:ah EA Rp:=af (n:=100) (l:=[UY]) (by simp only[List.forall_mem_cons];exact⟨PB,by simp⟩) (by kernel_rfl)
def Kg:ak:=⟨104,[.int .i64 0,.int .i64 0],.int .i64 0⟩
theorem Fa:ah EA Kg:=af (n:=100) (l:=[]) (by simp) (by kernel_rfl)
def U4:ak:=⟨103,[fW,fW,.clo 104 [] []],fW⟩
theorem Oy:ah EA U4:=af (n:=100) (l:=[Kg]) (by simp only[List.forall_mem_cons];exact⟨Fa,by simp⟩) (by kernel_rfl)
def QY:ak:=⟨73,[fW,fW],fW⟩
theorem OX:ah EA QY:=af (n:=100) (l:=[U4]) (by simp only[List.forall_mem_cons];exact⟨Oy,by simp⟩) (by kernel_rfl)
def JD:ak:=⟨105,[.int .i64 0,.int .i64 0],.int .i64 0⟩
theorem FD:ah EA JD:=af (n:=100) (l:=[]) (by simp) (by kernel_rfl)
def SM:ak:=⟨103,[fW,fW,.clo 105 [] []],fW⟩
theorem M8:ah EA SM:=af (n:=100) (l:=[JD]) (by simp only[List.forall_mem_cons];exact⟨FD,by simp⟩) (by kernel_rfl)
def Uj:ak:=⟨74,[fW,fW],fW⟩
theorem MO:ah EA Uj:=af (n:=100) (l:=[SM]) (by simp only[List.forall_mem_cons];exact⟨M8,by simp⟩) (by kernel_rfl)
def UC:ak:=⟨104,[.int .i64 0,.int .i64 1],.int .i64 0⟩
theorem PS:ah EA UC:=af (n:=100) (l:=[]) (by simp) (by kernel_rfl)
def Sk:ak:=⟨103,[fW,a23,.clo 104 [] []],fW⟩
theorem O1:ah EA Sk:=af (n:=100) (l:=[UC]) (by simp only[List.forall_mem_cons];exact⟨PS,by simp⟩) (by kernel_rfl)
def T8:ak:=⟨73,[fW,a23],fW⟩
theorem PX:ah EA T8:=af (n:=100) (l:=[Sk]) (by simp only[List.forall_mem_cons];exact⟨O1,by simp⟩) (by kernel_rfl)
def RL:ak:=⟨105,[.int .i64 0,.int .i64 1],.int .i64 1⟩
theorem Py:ah EA RL:=af (n:=100) (l:=[]) (by simp) (by kernel_rfl)
def Ta:ak:=⟨103,[fW,a23,.clo 105 [] []],a23⟩
theorem NM:ah EA Ta:=af (n:=100) (l:=[RL]) (by simp only[List.forall_mem_cons];exact⟨Py,by simp⟩) (by kernel_rfl)
def Lq:ak:=⟨74,[fW,a23],a23⟩
theorem EC:ah EA Lq:=af (n:=100) (l:=[Ta]) (by simp only[List.forall_mem_cons];exact⟨NM,by simp⟩) (by kernel_rfl)
def SP:ak:=⟨61,[.agg [.bool false,.fsl 1 [[.int .i64 0],[.int .i64 0]],.fsl 1 [[.int .i64 1],[.int .i64 1]],.fsl 1 [[.fsl 1 [[.aF]]],[.fsl 1 [[.aF]]]]],a6],.aF⟩
theorem N0:ah EA SP:=af (n:=100) (l:=[]) (by simp) (by kernel_rfl)
def Lz:ak:=⟨104,[.int .i64 1,.int .i64 1],.int .i64 1⟩
theorem Fu:ah EA Lz:=af (n:=100) (l:=[]) (by simp) (by kernel_rfl)
def UE:ak:=⟨103,[a23,a23,.clo 104 [] []],a23⟩
theorem NC:ah EA UE:=af (n:=100) (l:=[Lz]) (by simp only[List.forall_mem_cons];exact⟨Fu,by simp⟩) (by kernel_rfl)
def Sj:ak:=⟨73,[a23,a23],a23⟩
theorem Ou:ah EA Sj:=af (n:=100) (l:=[UE]) (by simp only[List.forall_mem_cons];exact⟨NC,by simp⟩) (by kernel_rfl)
def Tg:ak:=⟨61,[.agg [.bool false,.fsl 1 [[.int .i64 0],[.int .i64 0]],.fsl 1 [[.int .i64 1],[.int .i64 1]],.fsl 1 [[.fsl 1 [[.fsl 1 [[.int .i64 1],[.int .i64 1]]]]],[.fsl 1 [[.aF]]]]],a7],.aF⟩
theorem NF:ah EA Tg:=af (n:=100) (l:=[]) (by simp) (by kernel_rfl)
def Th:ak:=⟨28,[a1,a37],a39⟩
theorem PD:ah EA Th:=af (n:=100) (l:=[xU,Rp,QY,Uj,T8,Lq,SP,Sj,Tg]) (by simp only[List.forall_mem_cons];exact⟨o7,OK,OX,MO,PX,EC,N0,Ou,NF,by simp⟩) (by kernel_rfl)
def C8:ak:=⟨61,[a40,a6],a23⟩
theorem xo:ah EA C8:=af (n:=100) (l:=[]) (by simp) (by kernel_rfl)
def DT:ak:=⟨61,[a40,a7],a23⟩
theorem xE:ah EA DT:=af (n:=100) (l:=[]) (by simp) (by kernel_rfl)
def Gd:ak:=⟨94,[fW],.int .i64 0⟩
theorem Ax:ah EA Gd:=af (n:=100) (l:=[]) (by simp) (by kernel_rfl)
def Tp:ak:=⟨95,[fW,fW],.int .i64 0⟩
theorem OR:ah EA Tp:=af (n:=100) (l:=[I6]) (by simp only[List.forall_mem_cons];exact⟨zC,by simp⟩) (by kernel_rfl)
def KC:ak:=⟨92,[fW],.int .i64 0⟩
theorem EF:ah EA KC:=af (n:=100) (l:=[]) (by simp) (by kernel_rfl)
def Vc:ak:=⟨91,[fW,fW],.int .i64 0⟩
theorem O2:ah EA Vc:=af (n:=100) (l:=[Gd,I6,Tp,KC]) (by simp only[List.forall_mem_cons];exact⟨Ax,zC,OR,EF,by simp⟩) (by kernel_rfl)
def GP:ak:=⟨94,[a23],.int .i64 2⟩
theorem AU:ah EA GP:=af (n:=100) (l:=[]) (by simp) (by kernel_rfl)
def GN:ak:=⟨116,[.int .i64 2],.bool false⟩
theorem A1:ah EA GN:=af (n:=100) (l:=[]) (by simp) (by kernel_rfl)
def Ut:ak:=⟨93,[.int .i64 0,.int .i64 2],.int .i64 (-1)⟩
theorem M9:ah EA Ut:=af (n:=100) (l:=[EM,GN]) (by simp only[List.forall_mem_cons];exact⟨wu,A1,by simp⟩) (by kernel_rfl)
def TN:ak:=⟨95,[fW,a23],.int .i64 (-1)⟩
theorem NA:ah EA TN:=af (n:=100) (l:=[Q4]) (by simp only[List.forall_mem_cons];exact⟨HZ,by simp⟩) (by kernel_rfl)
def RY:ak:=⟨92,[.fsl 1 [[.int .i64 (-1)],[.int .i64 (-1)]]],.int .i64 (-1)⟩
theorem NL:ah EA RY:=af (n:=100) (l:=[]) (by simp) (by kernel_rfl)
def Ui:ak:=⟨91,[fW,a23],.int .i64 (-1)⟩
theorem MR:ah EA Ui:=af (n:=100) (l:=[Gd,GP,Ut,TN,RY]) (by simp only[List.forall_mem_cons];exact⟨Ax,AU,M9,NA,NL,by simp⟩) (by kernel_rfl)
def UN:ak:=⟨93,[.int .i64 2,.int .i64 0],.int .i64 1⟩
theorem Of:ah EA UN:=af (n:=100) (l:=[GN,EM]) (by simp only[List.forall_mem_cons];exact⟨A1,wu,by simp⟩) (by kernel_rfl)
def Q5:ak:=⟨95,[a23,fW],.int .i64 1⟩
theorem PI:ah EA Q5:=af (n:=100) (l:=[SQ]) (by simp only[List.forall_mem_cons];exact⟨I4,by simp⟩) (by kernel_rfl)
def RT:ak:=⟨92,[a23],.int .i64 1⟩
theorem Oq:ah EA RT:=af (n:=100) (l:=[]) (by simp) (by kernel_rfl)
def Sq:ak:=⟨91,[a23,fW],.int .i64 1⟩
theorem NY:ah EA Sq:=af (n:=100) (l:=[GP,Gd,UN,Q5,RT]) (by simp only[List.forall_mem_cons];exact⟨AU,Ax,Of,PI,Oq,by simp⟩) (by kernel_rfl)
def Ts:ak:=⟨93,[.int .i64 2,.int .i64 2],.int .i64 0⟩
theorem Nn:ah EA Ts:=af (n:=100) (l:=[GN]) (by simp only[List.forall_mem_cons];exact⟨A1,by simp⟩) (by kernel_rfl)
def UR:ak:=⟨91,[a23,a23],.int .i64 0⟩
theorem MD:ah EA UR:=af (n:=100) (l:=[GP,Ts,KK,KC]) (by simp only[List.forall_mem_cons];exact⟨AU,Nn,E_,EF,by simp⟩) (by kernel_rfl)
def KL:ak:=⟨49,[a40],.tup [.fsl 1 [[.fsl 1 [[.int .i64 0],[.int .i64 0]]],[.fsl 1 [[.int .i64 1],[.int .i64 1]]]],.bool true]⟩
theorem Ft:ah EA KL:=af (n:=100) (l:=[C8,Lq,DT,Vc,Ui,Sq,UR]) (by simp only[List.forall_mem_cons];exact⟨xo,EC,xE,O2,MR,NY,MD,by simp⟩) (by kernel_rfl)
def Qz:ak:=⟨39,[a1,a9],a39⟩
theorem N1:ah EA Qz:=af (n:=100) (l:=[RK,Th,KL]) (by simp only[List.forall_mem_cons];exact⟨P0,PD,Ft,by simp⟩) (by kernel_rfl)
def GJ:ak:=⟨24,[fW,a23],.bool true⟩
theorem AA:ah EA GJ:=af (n:=100) (l:=[]) (by simp) (by kernel_rfl)
def S3:ak:=⟨55,[a1,a40],.bool true⟩
theorem OY:ah EA S3:=af (n:=100) (l:=[LG,C7,GJ]) (by simp only[List.forall_mem_cons];exact⟨Fk,xA,AA,by simp⟩) (by kernel_rfl)
def SG:ak:=⟨57,[a1],a23⟩
theorem No:ah EA SG:=af (n:=100) (l:=[]) (by simp) (by kernel_rfl)
def Qy:ak:=⟨97,[a6,a23],.bool true⟩
theorem N_:ah EA Qy:=af (n:=100) (l:=[]) (by simp) (by kernel_rfl)
def TW:ak:=⟨97,[a6,fW],.bool false⟩
theorem N9:ah EA TW:=af (n:=100) (l:=[]) (by simp) (by kernel_rfl)
def Ct:ak:=⟨24,[a23,a23],.bool true⟩
theorem xk:ah EA Ct:=af (n:=100) (l:=[]) (by simp) (by kernel_rfl)
def T9:ak:=⟨59,[a1,a40,a6],.bool true⟩
theorem PA:ah EA T9:=af (n:=100) (l:=[C8,Qy,TW,C7,GJ,Ct]) (by simp only[List.forall_mem_cons];exact⟨xo,N_,N9,xA,AA,xk,by simp⟩) (by kernel_rfl)
def TP:ak:=⟨58,[a6,a12,a41],.bool true⟩
theorem Ol:ah EA TP:=af (n:=100) (l:=[T9]) (by simp only[List.forall_mem_cons];exact⟨PA,by simp⟩) (by kernel_rfl)
def QV:ak:=⟨97,[a7,a23],.bool true⟩
theorem NX:ah EA QV:=af (n:=100) (l:=[]) (by simp) (by kernel_rfl)
def Q0:ak:=⟨97,[a7,fW],.bool false⟩
theorem O_:ah EA Q0:=af (n:=100) (l:=[]) (by simp) (by kernel_rfl)
def UT:ak:=⟨59,[a1,a40,a7],.bool true⟩
theorem N4:ah EA UT:=af (n:=100) (l:=[DT,QV,Q0,C7,GJ,Ct]) (by simp only[List.forall_mem_cons];exact⟨xE,NX,O_,xA,AA,xk,by simp⟩) (by kernel_rfl)
def Vu:ak:=⟨58,[a7,a12,a41],.bool true⟩
theorem MU:ah EA Vu:=af (n:=100) (l:=[UT]) (by simp only[List.forall_mem_cons];exact⟨N4,by simp⟩) (by kernel_rfl)
def LC:ak:=⟨62,[a6,a41,XJ],.bool true⟩
theorem EH:ah EA LC:=af (n:=100) (l:=[C8,Ct]) (by simp only[List.forall_mem_cons];exact⟨xo,xk,by simp⟩) (by kernel_rfl)
def K2:ak:=⟨62,[a7,a41,XJ],.bool true⟩
theorem E8:ah EA K2:=af (n:=100) (l:=[DT,Ct]) (by simp only[List.forall_mem_cons];exact⟨xE,xk,by simp⟩) (by kernel_rfl)
def Ra:ak:=⟨60,[a6,a41],.bool true⟩
theorem NH:ah EA Ra:=af (n:=100) (l:=[C8,LC,K2]) (by simp only[List.forall_mem_cons];exact⟨xo,EH,E8,by simp⟩) (by kernel_rfl)
def SR:ak:=⟨60,[a7,a41],.bool true⟩
theorem M7:ah EA SR:=af (n:=100) (l:=[DT,LC,K2]) (by simp only[List.forall_mem_cons];exact⟨xE,EH,E8,by simp⟩) (by kernel_rfl)
def TA:ak:=⟨17,[a1,a40],.bool true⟩
theorem MX:ah EA TA:=af (n:=100) (l:=[xU,S3,SG,TP,Vu,Ra,SR]) (by simp only[List.forall_mem_cons];exact⟨o7,OY,No,Ol,MU,NH,M7,by simp⟩) (by kernel_rfl)
def Ue:ak:=⟨13,[a1,a40],Ye⟩
theorem Nd:ah EA Ue:=af (n:=100) (l:=[TA,KL]) (by simp only[List.forall_mem_cons];exact⟨MX,Ft,by simp⟩) (by kernel_rfl)
def TQ:ak:=⟨63,[a1,a20],.bool true⟩
theorem ON:ah EA TQ:=af (n:=100) (l:=[KS]) (by simp only[List.forall_mem_cons];exact⟨Ff,by simp⟩) (by kernel_rfl)
def TS:ak:=⟨71,[a20,a12],.bool false⟩
theorem Pc:ah EA TS:=af (n:=100) (l:=[TQ]) (by simp only[List.forall_mem_cons];exact⟨ON,by simp⟩) (by kernel_rfl)
def Tz:ak:=⟨80,[a31,Ml],.int .i64 (-1)⟩
theorem Oa:ah EA Tz:=af (n:=100) (l:=[TS]) (by simp only[List.forall_mem_cons];exact⟨Pc,by simp⟩) (by kernel_rfl)
def TJ:ak:=⟨35,[a31,Ml],.bool false⟩
theorem NU:ah EA TJ:=af (n:=100) (l:=[Tz]) (by simp only[List.forall_mem_cons];exact⟨Oa,by simp⟩) (by kernel_rfl)
def Rw:ak:=⟨103,[a20,a20,.clo 104 [] []],a20⟩
theorem NP:ah EA Rw:=af (n:=100) (l:=[Kg,Lz]) (by simp only[List.forall_mem_cons];exact⟨Fa,Fu,by simp⟩) (by kernel_rfl)
def Uw:ak:=⟨73,[a20,a20],a20⟩
theorem NW:ah EA Uw:=af (n:=100) (l:=[Rw]) (by simp only[List.forall_mem_cons];exact⟨NP,by simp⟩) (by kernel_rfl)
def Ur:ak:=⟨105,[.int .i64 1,.int .i64 1],.int .i64 1⟩
theorem NB:ah EA Ur:=af (n:=100) (l:=[]) (by simp) (by kernel_rfl)
def TR:ak:=⟨103,[a20,a20,.clo 105 [] []],a20⟩
theorem M6:ah EA TR:=af (n:=100) (l:=[JD,Ur]) (by simp only[List.forall_mem_cons];exact⟨FD,NB,by simp⟩) (by kernel_rfl)
def Rz:ak:=⟨74,[a20,a20],a20⟩
theorem PK:ah EA Rz:=af (n:=100) (l:=[TR]) (by simp only[List.forall_mem_cons];exact⟨M6,by simp⟩) (by kernel_rfl)
def QK:ak:=⟨61,[.agg [.bool false,.fsl 1 [[.int .i64 0],[.int .i64 1]],.fsl 1 [[.int .i64 0],[.int .i64 1]],.fsl 1 [[.fsl 1 [[.aF]]],[.fsl 1 [[.aF]]]]],a7],.aF⟩
theorem MJ:ah EA QK:=af (n:=100) (l:=[]) (by simp) (by kernel_rfl)
def Uf:ak:=⟨28,[a1,a31],.tup [.agg [.bool false,.fsl 1 [[.int .i64 0],[.int .i64 1]],.fsl 1 [[.int .i64 0],[.int .i64 1]],.fsl 1 [[.fsl 1 [[.aF]]],[.fsl 1 [[.fsl 1 [[.int .i64 0],[.int .i64 1]]]]]]],.int .i64 0]⟩
theorem Nq:ah EA Uf:=af (n:=100) (l:=[xU,TJ,Uw,Rz,QK]) (by simp only[List.forall_mem_cons];exact⟨o7,NU,NW,PK,MJ,by simp⟩) (by kernel_rfl)
def Lh:ak:=⟨53,[fW,fW],.bool true⟩
theorem Et:ah EA Lh:=af (n:=100) (l:=[]) (by simp) (by kernel_rfl)
def Gc:ak:=⟨53,[a23,a23],.bool true⟩
theorem AD:ah EA Gc:=af (n:=100) (l:=[]) (by simp) (by kernel_rfl)
def TX:ak:=⟨16,[a24,a24],.bool true⟩
theorem NT:ah EA TX:=af (n:=100) (l:=[Gc]) (by simp only[List.forall_mem_cons];exact⟨AD,by simp⟩) (by kernel_rfl)
def Vt:ak:=⟨33,[a40,a40],.bool true⟩
theorem Pd:ah EA Vt:=af (n:=100) (l:=[Lh,Gc,TX]) (by simp only[List.forall_mem_cons];exact⟨Et,AD,NT,by simp⟩) (by kernel_rfl)
def UK:ak:=⟨16,[a37,a37],.bool true⟩
theorem Pe:ah EA UK:=af (n:=100) (l:=[Lh,Gc]) (by simp only[List.forall_mem_cons];exact⟨Et,AD,by simp⟩) (by kernel_rfl)
def KJ:ak:=⟨53,[a20,a20],.bool true⟩
theorem Fe:ah EA KJ:=af (n:=100) (l:=[]) (by simp) (by kernel_rfl)
def T0:ak:=⟨53,[.aF,.aF],.bool true⟩
theorem NN:ah EA T0:=af (n:=100) (l:=[]) (by simp) (by kernel_rfl)
def QU:ak:=⟨16,[.fsl 1 [[.aF]],.fsl 1 [[.aF]]],.bool true⟩
theorem ME:ah EA QU:=af (n:=100) (l:=[T0]) (by simp only[List.forall_mem_cons];exact⟨NN,by simp⟩) (by kernel_rfl)
def U3:ak:=⟨16,[a31,a31],.bool true⟩
theorem MI:ah EA U3:=af (n:=100) (l:=[KJ]) (by simp only[List.forall_mem_cons];exact⟨Fe,by simp⟩) (by kernel_rfl)
def Tw:ak:=⟨33,[XW,XW],.bool true⟩
theorem OJ:ah EA Tw:=af (n:=100) (l:=[KJ,QU,U3]) (by simp only[List.forall_mem_cons];exact⟨Fe,ME,MI,by simp⟩) (by kernel_rfl)
theorem Gx:∃n H1,run EA n (.fn 9) [] []=some (.bool true,H1):=FJ (n:=100) (l:=[Qz,Ue,Uf,Vt,UK,Tw]) (by simp only[List.forall_mem_cons];exact⟨N1,Nd,Nq,Pd,Pe,OJ,by simp⟩) (by kernel_rfl)
theorem calls (n:Nat):iD Tryz.prog (run E n):=BU Wa mixed ⟨Mn,fun f az b h=>by
 by_cases hf:Nat.beq f 9=true
 ·have e:E.known f az=if az.isEmpty then some (.bool true)else none:=by unfold E Ap;simp only[hf,if_true]
  rw[e]at h;split at h
  ·rename_i ha;cases h;have:f=9:=Nat.eq_of_beq_eq_true hf;subst this;have:az=[]:=List.isEmpty_iff.1 ha;subst this;obtain⟨n,H1,h1⟩:=Gx;exact Iz (S6 n) h1
  ·cases h
 ·have e:E.known f az=EA.known f az:=by unfold E EA Ap;simp only[hf,if_false,Bool.false_eq_true]
  rw[e]at h;exact IB f az b h⟩ n
end Go.Proofs.YtjbnbbbiijdbpaaGreatDoor
