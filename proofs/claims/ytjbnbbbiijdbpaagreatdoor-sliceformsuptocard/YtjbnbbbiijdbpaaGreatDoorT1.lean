/-
 The tables of this seat, and the law's own awakening.
-/
import Derived.Test.YtjbnbbbiijdbpaaGreatDoorProg
import Derived.KernelRfl
import Derived.Test.YtjbnbbbiijdbpaaGreatDoorV2
set_option linter.all false
namespace Go.Proofs.YtjbnbbbiijdbpaaGreatDoor
open Go.VE Go.Proofs
def B5:List Int:=[-1,0,0,0,0,1,2,2,2,2,2,2,2,0,0,1,2,2,1,1,1,1]
instance:aW:=⟨fun g=>if Nat.beq g 0 then some (B5.map (V.int .i64))else none,fun g cs h=>by
 split at h
 ·cases h;exact⟨_,_,rfl⟩
 ·cases h⟩
noncomputable def EA:Env:=zU Tryz.prog [0,1,90,89] [131,72,221,232,90,102,192,194,195,213,56,75,89] [131,72,221] [(89,2),(108,8)] (fun f=>Nat.beq f 90) fun f az=>(if Nat.beq f 89 then tP 8 az else none)
noncomputable def E:Env:=zU Tryz.prog [0,1,90,89,9] [131,72,221,232,90,102] [131,72,221] [(89,2),(108,8)] (fun f=>Nat.beq f 90) fun f az=>if Nat.beq f 9 then(if az.isEmpty then some (.bool true)else none)else(if Nat.beq f 89 then tP 8 az else none)
theorem WZ:xA Tryz.prog=true:=by kernel_rfl
theorem YZ:pM Tryz.prog 89 2:=pM.two (i:=3) Tryz.underlying89 rfl rfl rfl rfl (by decide) (by decide) (by kernel_rfl) Tryz.underlying3 (by kernel_rfl) (by kernel_rfl)
theorem VQ:pM Tryz.prog 108 8:=pM.arr (i:=3) Tryz.underlying108 (by kernel_rfl) Tryz.underlying3 (by kernel_rfl)
theorem SZ:∀p∈[(89,2),(108,8)],pM Tryz.prog p.1 p.2:=fun p h=>match p,h with|_,.head _=>YZ|_,.tail _ (.head _)=>VQ
theorem Q3:cZ Tryz.prog EA:=CS WZ SZ
theorem Wg:cZ Tryz.prog E:=CS WZ SZ
theorem mixed:Tryz.prog.follows .mixedOrders=true:=by kernel_rfl
open Go.Shelf
def Tryz.wh:Go.Shelf.Ren:=⟨fun|6=>90|15=>115|14=>114|28=>150|29=>151|20=>142|21=>143|22=>144|23=>145|24=>146|25=>147|26=>148|27=>149|46=>181|47=>182|48=>183|49=>184|50=>185|57=>211|n=>n,fun|22=>33|24=>25|25=>114|3=>3|39=>134|0=>0|53=>173|55=>175|4=>4|46=>166|45=>165|50=>170|5=>5|9=>9|66=>197|70=>201|76=>220|77=>221|n=>n,fun|n=>n⟩
theorem Tryz.Ml:Go.Proofs.SlLaysF.n6 Tryz.prog Tryz.wh:={
 mixed:=by kernel_rfl
 f6:=⟨Tryz.f90.name,by decide,Tryz.func90.trans (congrArg some (by kernel_rfl))⟩
 f14:=⟨Tryz.f114.name,by decide,Tryz.func114.trans (congrArg some (by kernel_rfl))⟩
 f15:=Tryz.func115.trans (congrArg some (by kernel_rfl))
 f20:=⟨Tryz.f142.name,by decide,Tryz.func142.trans (congrArg some (by kernel_rfl))⟩
 f21:=⟨Tryz.f143.name,by decide,Tryz.func143.trans (congrArg some (by kernel_rfl))⟩
 f22:=⟨Tryz.f144.name,by decide,Tryz.func144.trans (congrArg some (by kernel_rfl))⟩
 f23:=⟨Tryz.f145.name,by decide,Tryz.func145.trans (congrArg some (by kernel_rfl))⟩
 f24:=⟨Tryz.f146.name,by decide,Tryz.func146.trans (congrArg some (by kernel_rfl))⟩
 f25:=⟨Tryz.f147.name,by decide,Tryz.func147.trans (congrArg some (by kernel_rfl))⟩
 f26:=⟨Tryz.f148.name,by decide,Tryz.func148.trans (congrArg some (by kernel_rfl))⟩
 f27:=⟨Tryz.f149.name,by decide,Tryz.func149.trans (congrArg some (by kernel_rfl))⟩
 f28:=Tryz.func150.trans (congrArg some (by kernel_rfl))
 f29:=Tryz.func151.trans (congrArg some (by kernel_rfl))
 f46:=⟨Tryz.f181.name,by decide,Tryz.func181.trans (congrArg some (by kernel_rfl))⟩
 f47:=Tryz.func182.trans (congrArg some (by kernel_rfl))
 f48:=Tryz.func183.trans (congrArg some (by kernel_rfl))
 f49:=⟨Tryz.f184.name,by decide,Tryz.func184.trans (congrArg some (by kernel_rfl))⟩
 f50:=⟨Tryz.f185.name,by decide,Tryz.func185.trans (congrArg some (by kernel_rfl))⟩
 f57:=⟨Tryz.f211.name,by decide,Tryz.func211.trans (congrArg some (by kernel_rfl))⟩
 t0:=Tryz.underlying0
 a0:=Tryz.isAgg0
 z0:=Tryz.sizeOf0
 v0:=Tryz.zeroValue0
 t3:=Tryz.underlying3
 a3:=Tryz.isAgg3
 z3:=Tryz.sizeOf3
 v3:=Tryz.zeroValue3
 t4:=Tryz.underlying4
 a4:=Tryz.isAgg4
 z4:=Tryz.sizeOf4
 v4:=Tryz.zeroValue4
 t5:=Tryz.underlying5
 a5:=Tryz.isAgg5
 z5:=Tryz.sizeOf5
 v5:=Tryz.zeroValue5
 t9:=Tryz.underlying9
 a9:=Tryz.isAgg9
 z9:=Tryz.sizeOf9
 v9:=Tryz.zeroValue9
 t22:=Tryz.underlying33
 a22:=Tryz.isAgg33
 z22:=Tryz.sizeOf33
 v22:=Tryz.zeroValue33
 a24:=Tryz.isAgg25
 z24:=Tryz.sizeOf25
 t25:=Tryz.underlying114
 a25:=Tryz.isAgg114
 z25:=Tryz.sizeOf114
 v25:=Tryz.zeroValue114
 t39:=Tryz.underlying134
 a39:=Tryz.isAgg134
 z39:=Tryz.sizeOf134
 v39:=Tryz.zeroValue134
 t45:=Tryz.underlying165
 a45:=Tryz.isAgg165
 z45:=Tryz.sizeOf165
 v45:=Tryz.zeroValue165
 t46:=Tryz.underlying166
 a46:=Tryz.isAgg166
 z46:=Tryz.sizeOf166
 v46:=Tryz.zeroValue166
 t50:=Tryz.underlying170
 a50:=Tryz.isAgg170
 z50:=Tryz.sizeOf170
 v50:=Tryz.zeroValue170
 t53:=Tryz.underlying173
 a53:=Tryz.isAgg173
 z53:=Tryz.sizeOf173
 v53:=Tryz.zeroValue173
 t55:=Tryz.underlying175
 a55:=Tryz.isAgg175
 z55:=Tryz.sizeOf175
 v55:=Tryz.zeroValue175
 t66:=Tryz.underlying197
 a66:=Tryz.isAgg197
 z66:=Tryz.sizeOf197
 v66:=Tryz.zeroValue197
 t70:=Tryz.underlying201
 a70:=Tryz.isAgg201
 z70:=Tryz.sizeOf201
 v70:=Tryz.zeroValue201
 t76:=Tryz.underlying220
 a76:=Tryz.isAgg220
 z76:=Tryz.sizeOf220
 v76:=Tryz.zeroValue220
 t77:=Tryz.underlying221
 a77:=Tryz.isAgg221
 z77:=Tryz.sizeOf221
 v77:=Tryz.zeroValue221 }
theorem PK:xe Tryz.prog 90 where
 ok:=⟨Tryz.f90,Tryz.func90,by kernel_rfl,by kernel_rfl⟩
 zero:=fun p cap fv w=>AnyF.slices_SortFunc_none (ρ:=Tryz.wh) { Tryz.Ml with } p cap fv w
 all:=fun enc h1 cf hO g cb blk off cap d w eg hc hH hb hs=>Any.slices_SortFunc_eq (ρ:=Tryz.wh) Tryz.Ml enc h1 cf hO g cb blk off cap d w eg hc hH hb hs
theorem Mj:∀f,EA.sort f=true→xe Tryz.prog f:=fun f h=>by
 have:f=90:=Nat.eq_of_beq_eq_true h;subst this;exact PK
theorem tj:∀az y,tP 8 az=some y→sL Tryz.prog 89 az y:=
 MX (f:=89) (A:=108) (S:=25) (e:=3) (n:=8) (bytes:=64) Tryz.func89 rfl rfl rfl (by kernel_rfl) Tryz.underlying108 Tryz.underlying25 (by kernel_rfl) (by kernel_rfl)
theorem IS:∀f az y,EA.known f az=some y→sL Tryz.prog f az y:=fun f az y h=>by
 change (if Nat.beq f 89 then tP 8 az else none)=some y at h;split at h
 ·rename_i hf;have:f=89:=Nat.eq_of_beq_eq_true hf;subst this;exact tj az y h
 ·cases h
theorem TN (n:Nat):iE Tryz.prog (run EA n):=Be Q3 mixed ⟨Mj,IS⟩ n
end Go.Proofs.YtjbnbbbiijdbpaaGreatDoor
namespace Go.Proofs.YtjbnbbbiijdbpaaGreatDoor
open Go.VE Go.Proofs
def a0:V:=.clo 154 [] [.fptr [.str (ByteArray.mk #[112]),.aF,.fsl 5 [[.int .i64 1,.int .i64 0,.int .i64 0,.int .i64 0,.aF]]]]
def a1:V:=.agg [.fsl 3 [[.str (ByteArray.mk #[112]),.aF,.fsl 5 [[.int .i64 1,.int .i64 0,.int .i64 0,.int .i64 0,.aF]]],[.str (ByteArray.mk #[113]),.aF,.fsl 5 [[.int .i64 1,.int .i64 0,.int .i64 0,.int .i64 0,.aF]]]]]
def a2:V:=.agg [.str (ByteArray.mk #[112]),.aF,.fsl 5 [[.int .i64 1,.int .i64 0,.int .i64 0,.int .i64 0,.aF]]]
def a3:V:=.fsl 3 [[.str (ByteArray.mk #[112]),.aF,.fsl 5 [[.int .i64 1,.int .i64 0,.int .i64 0,.int .i64 0,.aF]]]]
def a4:V:=.clo 154 [] [.fptr [.str (ByteArray.mk #[113]),.aF,.fsl 5 [[.int .i64 1,.int .i64 0,.int .i64 0,.int .i64 0,.aF]]]]
def a5:V:=.agg [.int .i64 1,.int .i64 0,.int .i64 0,.int .i64 0,.aF]
def a6:V:=.agg [.int .i64 0,.int .i64 1]
def a7:V:=.agg [.int .i64 1,.int .i64 1]
def a8:V:=.fptr [.int .i64 0,.int .i64 0,.int .i64 0,.int .i64 0,.int .i64 0,.int .i64 0,.int .i64 0,.int .i64 0,.int .i64 0,.int .i64 0,.int .i64 0,.int .i64 0,.int .i64 0,.int .i64 0,.int .i64 0,.int .i64 0,.int .i64 0,.int .i64 0,.int .i64 0,.int .i64 0,.int .i64 0,.int .i64 0,.int .i64 0,.int .i64 0,.int .i64 0,.int .i64 0,.int .i64 0,.int .i64 0,.int .i64 0,.int .i64 0,.int .i64 0,.int .i64 0,.int .i64 0,.int .i64 0,.int .i64 0,.int .i64 0,.int .i64 0,.int .i64 0,.int .i64 0,.int .i64 0,.int .i64 0,.int .i64 0,.int .i64 0,.int .i64 0,.int .i64 0,.int .i64 0,.int .i64 0,.int .i64 0,.int .i64 0,.int .i64 0,.int .i64 0,.int .i64 0,.int .i64 0,.int .i64 0,.int .i64 0,.int .i64 0,.int .i64 0,.int .i64 0,.int .i64 0,.int .i64 0,.int .i64 0,.int .i64 0,.int .i64 0,.int .i64 0,.int .i64 0,.int .i64 0,.int .i64 0,.int .i64 0,.int .i64 0,.int .i64 0,.int .i64 0,.int .i64 0,.int .i64 0,.int .i64 0,.int .i64 0,.int .i64 0,.int .i64 0,.int .i64 0,.int .i64 0,.int .i64 0,.int .i64 0,.int .i64 0,.int .i64 0,.int .i64 0,.int .i64 0,.int .i64 0,.int .i64 0,.int .i64 0,.int .i64 0,.int .i64 0,.int .i64 0,.int .i64 0,.int .i64 0,.int .i64 0,.int .i64 0,.int .i64 0,.int .i64 0,.int .i64 0,.int .i64 0,.int .i64 0,.int .i64 0,.int .i64 0,.int .i64 0,.int .i64 0,.int .i64 0,.int .i64 0,.int .i64 0,.int .i64 0,.int .i64 0,.int .i64 0,.int .i64 0,.int .i64 0,.int .i64 0,.int .i64 0,.int .i64 0,.int .i64 0,.int .i64 0,.int .i64 0,.int .i64 0,.int .i64 0,.int .i64 0,.int .i64 0,.int .i64 0,.int .i64 0,.int .i64 0,.int .i64 0,.int .i64 0,.int .i64 0,.int .i64 0,.int .i64 0,.int .i64 0,.int .i64 0,.int .i64 0,.int .i64 0,.int .i64 0,.int .i64 0,.int .i64 0,.int .i64 0,.int .i64 0,.int .i64 0,.int .i64 0,.int .i64 0,.int .i64 0,.int .i64 0,.int .i64 0,.int .i64 0,.int .i64 0,.int .i64 0,.int .i64 0,.int .i64 0,.int .i64 0,.int .i64 0,.int .i64 0,.int .i64 0,.int .i64 0,.int .i64 0,.int .i64 0,.int .i64 0,.int .i64 0,.int .i64 0,.int .i64 0,.int .i64 0,.int .i64 0,.int .i64 0,.int .i64 0,.int .i64 0,.int .i64 0,.int .i64 0,.int .i64 0,.int .i64 0,.int .i64 0,.int .i64 0,.int .i64 0,.int .i64 0,.int .i64 0,.int .i64 0,.int .i64 0,.int .i64 0,.int .i64 0,.int .i64 0,.int .i64 0,.int .i64 0,.int .i64 0,.int .i64 0,.int .i64 0,.int .i64 0,.int .i64 0,.int .i64 0,.int .i64 0,.int .i64 0,.int .i64 0,.int .i64 0,.int .i64 0,.int .i64 0,.int .i64 0,.int .i64 0,.int .i64 0,.int .i64 0,.int .i64 0,.int .i64 0,.int .i64 0,.int .i64 0,.int .i64 0,.int .i64 0,.int .i64 0,.int .i64 0,.int .i64 0,.int .i64 0,.int .i64 0,.int .i64 0,.int .i64 0,.int .i64 0,.int .i64 0,.int .i64 0,.int .i64 0,.int .i64 0,.int .i64 0,.int .i64 0,.int .i64 0,.int .i64 0,.int .i64 0,.int .i64 0,.int .i64 0,.int .i64 0,.int .i64 0,.int .i64 0,.int .i64 0,.int .i64 0,.int .i64 0,.int .i64 0,.int .i64 0,.int .i64 0,.int .i64 0,.int .i64 0,.int .i64 0,.int .i64 0,.int .i64 0,.int .i64 0,.int .i64 0,.int .i64 0,.int .i64 0,.int .i64 0,.int .i64 0,.int .i64 0,.int .i64 0,.int .i64 0,.int .i64 0,.int .i64 0,.int .i64 0,.int .i64 0,.int .i64 0,.int .i64 0,.int .i64 0,.int .i64 0,.int .i64 0,.int .i64 0,.int .i64 0,.int .i64 0,.int .i64 0,.int .i64 0,.int .i64 0,.int .i64 0,.int .i64 0,.int .i64 0,.int .i64 0,.int .i64 0,.int .i64 0,.int .i64 0,.int .i64 0,.int .i64 0,.int .i64 0,.int .i64 0,.int .i64 0,.int .i64 0,.int .i64 0,.int .i64 0,.int .i64 0,.int .i64 0,.int .i64 0,.int .i64 0,.int .i64 0,.int .i64 0,.int .i64 0,.int .i64 0,.int .i64 0,.int .i64 0,.int .i64 0,.int .i64 0,.int .i64 0,.int .i64 0,.int .i64 0,.int .i64 0,.int .i64 0,.int .i64 0,.int .i64 0,.int .i64 0,.int .i64 0,.int .i64 0,.int .i64 0,.int .i64 0,.int .i64 0,.int .i64 0,.int .i64 0,.int .i64 0,.int .i64 0,.int .i64 0,.int .i64 0,.int .i64 0,.int .i64 0,.int .i64 0,.int .i64 0,.int .i64 0,.int .i64 0,.int .i64 0,.int .i64 0,.int .i64 0,.int .i64 0,.int .i64 0,.int .i64 0,.int .i64 0,.int .i64 0,.int .i64 0,.int .i64 0,.int .i64 0,.int .i64 0,.int .i64 0,.int .i64 0,.int .i64 0,.int .i64 0,.int .i64 0,.int .i64 0,.int .i64 0,.int .i64 0,.int .i64 0,.int .i64 0,.int .i64 0,.int .i64 0,.int .i64 0,.int .i64 0,.int .i64 0,.int .i64 0,.int .i64 0,.int .i64 0,.int .i64 0,.int .i64 0,.int .i64 0,.int .i64 0,.int .i64 0,.int .i64 0,.int .i64 0,.int .i64 0,.int .i64 0,.int .i64 0,.int .i64 0,.int .i64 0,.int .i64 0,.int .i64 0,.int .i64 0,.int .i64 0,.int .i64 0,.int .i64 0,.int .i64 0,.int .i64 0,.int .i64 0,.int .i64 0,.int .i64 0,.int .i64 0,.int .i64 0,.int .i64 0,.int .i64 0,.int .i64 0,.int .i64 0,.int .i64 0,.int .i64 0,.int .i64 0,.int .i64 0,.int .i64 0,.int .i64 0,.int .i64 0,.int .i64 0,.int .i64 0,.int .i64 0,.int .i64 0,.int .i64 0,.int .i64 0,.int .i64 0,.int .i64 0,.int .i64 0,.int .i64 0,.int .i64 0,.int .i64 0,.int .i64 0,.int .i64 0,.int .i64 0,.int .i64 0,.int .i64 0,.int .i64 0,.int .i64 0,.int .i64 0,.int .i64 0,.int .i64 0,.int .i64 0,.int .i64 0,.int .i64 0,.int .i64 0,.int .i64 0,.int .i64 0,.int .i64 0,.int .i64 0,.int .i64 0,.int .i64 0,.int .i64 0,.int .i64 0,.int .i64 0,.int .i64 0,.int .i64 0,.int .i64 0,.int .i64 0,.int .i64 0,.int .i64 0,.int .i64 0,.int .i64 0,.int .i64 0,.int .i64 0,.int .i64 0,.int .i64 0,.int .i64 0,.int .i64 0,.int .i64 0,.int .i64 0,.int .i64 0,.int .i64 0,.int .i64 0,.int .i64 0,.int .i64 0,.int .i64 0,.int .i64 0,.int .i64 0,.int .i64 0,.int .i64 0,.int .i64 0,.int .i64 0,.int .i64 0,.int .i64 0,.int .i64 0,.int .i64 0,.int .i64 0,.int .i64 0,.int .i64 0,.int .i64 0,.int .i64 0,.int .i64 0,.int .i64 0,.int .i64 0,.int .i64 0,.int .i64 0,.int .i64 0,.int .i64 0,.int .i64 0,.int .i64 0,.int .i64 0,.int .i64 0,.int .i64 0,.int .i64 0,.int .i64 0,.int .i64 0,.int .i64 0,.int .i64 0,.int .i64 0,.int .i64 0,.int .i64 0,.int .i64 0,.int .i64 0,.int .i64 0,.int .i64 0,.int .i64 0,.int .i64 0,.int .i64 0,.int .i64 0,.int .i64 0,.int .i64 0,.int .i64 0,.int .i64 0,.int .i64 0,.int .i64 0,.int .i64 0,.int .i64 0,.int .i64 0,.int .i64 0,.int .i64 0,.int .i64 0,.int .i64 0,.int .i64 0,.int .i64 0,.int .i64 0,.int .i64 0,.int .i64 0,.int .i64 0,.int .i64 0,.int .i64 0,.int .i64 0,.int .i64 0,.int .i64 0,.int .i64 0,.int .i64 0,.int .i64 0,.int .i64 0,.int .i64 0,.int .i64 0,.int .i64 0,.int .i64 0,.int .i64 0,.int .i64 0,.int .i64 0,.int .i64 0,.int .i64 0,.int .i64 0,.int .i64 0,.int .i64 0,.int .i64 0,.int .i64 0,.int .i64 0,.int .i64 0,.int .i64 0,.int .i64 0,.int .i64 0,.int .i64 0,.int .i64 0,.int .i64 0,.int .i64 0,.int .i64 0,.int .i64 0,.int .i64 0,.int .i64 0,.int .i64 0,.int .i64 0,.int .i64 0,.int .i64 0,.int .i64 0,.int .i64 0,.int .i64 0,.int .i64 0,.int .i64 0,.int .i64 0,.int .i64 0,.int .i64 0,.int .i64 0,.int .i64 0,.int .i64 0,.int .i64 0,.int .i64 0,.int .i64 0,.int .i64 0,.int .i64 0,.int .i64 0,.int .i64 0,.int .i64 0,.int .i64 0,.int .i64 0,.int .i64 0,.int .i64 0,.int .i64 0,.int .i64 0,.int .i64 0,.int .i64 0,.int .i64 0,.int .i64 0,.int .i64 0,.int .i64 0,.int .i64 0,.int .i64 0,.int .i64 0,.int .i64 0,.int .i64 0,.int .i64 0,.int .i64 0,.int .i64 0,.int .i64 0,.int .i64 0,.int .i64 0,.int .i64 0,.int .i64 0,.int .i64 0,.int .i64 0,.int .i64 0,.int .i64 0,.int .i64 0,.int .i64 0,.int .i64 0,.int .i64 0,.int .i64 0,.int .i64 0,.int .i64 0,.int .i64 0,.int .i64 0,.int .i64 0,.int .i64 0,.int .i64 0,.int .i64 0,.int .i64 0,.int .i64 0,.int .i64 0,.int .i64 0,.int .i64 0,.int .i64 0,.int .i64 0,.int .i64 0,.int .i64 0,.int .i64 0,.int .i64 0,.int .i64 0,.int .i64 0,.int .i64 0,.int .i64 0,.int .i64 0,.int .i64 0,.int .i64 0,.int .i64 0,.int .i64 0,.int .i64 0,.int .i64 0,.int .i64 0,.int .i64 0,.int .i64 0,.int .i64 0,.int .i64 0,.int .i64 0,.int .i64 0,.int .i64 0,.int .i64 0,.int .i64 0,.int .i64 0,.int .i64 0,.int .i64 0,.int .i64 0,.int .i64 0,.int .i64 0,.int .i64 0,.int .i64 0,.int .i64 0,.int .i64 0,.int .i64 0,.int .i64 0,.int .i64 0,.int .i64 0,.int .i64 0,.int .i64 0,.int .i64 0,.int .i64 0,.int .i64 0,.int .i64 0,.int .i64 0,.int .i64 0,.int .i64 0,.int .i64 0,.int .i64 0,.int .i64 0,.int .i64 0,.int .i64 0,.int .i64 0,.int .i64 0,.int .i64 0,.int .i64 0,.int .i64 0,.int .i64 0,.int .i64 0,.int .i64 0,.int .i64 0,.int .i64 0,.int .i64 0,.int .i64 0,.int .i64 0,.int .i64 0,.int .i64 0,.int .i64 0,.int .i64 0,.int .i64 0,.int .i64 0,.int .i64 0,.int .i64 0,.int .i64 0,.int .i64 0,.int .i64 0,.int .i64 0,.int .i64 0,.int .i64 0,.int .i64 0,.int .i64 0,.int .i64 0,.int .i64 0,.int .i64 0,.int .i64 0,.int .i64 0,.int .i64 0,.int .i64 0,.int .i64 0,.int .i64 0,.int .i64 0,.int .i64 0,.int .i64 0,.int .i64 0,.int .i64 0,.int .i64 0,.int .i64 0,.int .i64 0,.int .i64 0,.int .i64 0,.int .i64 0,.int .i64 0,.int .i64 0,.int .i64 0,.int .i64 0,.int .i64 0,.int .i64 0,.int .i64 0,.int .i64 0,.int .i64 0,.int .i64 0,.int .i64 0,.int .i64 0,.int .i64 0,.int .i64 0,.int .i64 0,.int .i64 0,.int .i64 0,.int .i64 0,.int .i64 0,.int .i64 0,.int .i64 0,.int .i64 0,.int .i64 0,.int .i64 0,.int .i64 0,.int .i64 0,.int .i64 0,.int .i64 0,.int .i64 0,.int .i64 0,.int .i64 0,.int .i64 0,.int .i64 0,.int .i64 0,.int .i64 0,.int .i64 0,.int .i64 0,.int .i64 0,.int .i64 0,.int .i64 0,.int .i64 0,.int .i64 0,.int .i64 0,.int .i64 0,.int .i64 0,.int .i64 0,.int .i64 0,.int .i64 0,.int .i64 0,.int .i64 0,.int .i64 0,.int .i64 0,.int .i64 0,.int .i64 0,.int .i64 0,.int .i64 0,.int .i64 0,.int .i64 0,.int .i64 0,.int .i64 0,.int .i64 0,.int .i64 0,.int .i64 0,.int .i64 0,.int .i64 0,.int .i64 0,.int .i64 0,.int .i64 0,.int .i64 0,.int .i64 0,.int .i64 0,.int .i64 0,.int .i64 0,.int .i64 0,.int .i64 0,.int .i64 0,.int .i64 0,.int .i64 0,.int .i64 0,.int .i64 0,.int .i64 0,.int .i64 0,.int .i64 0,.int .i64 0,.int .i64 0,.int .i64 0,.int .i64 0,.int .i64 0,.int .i64 0,.int .i64 0,.int .i64 0,.int .i64 0]
def a9:V:=.agg [.int .i64 9,.int .i64 0,.int .i64 0,.int .i64 0,.str ByteArray.empty,.fsl 6 [[.int .i64 3,.int .i64 0,.int .i64 0,.int .i64 0,.str ByteArray.empty,.aF],[.int .i64 3,.int .i64 0,.int .i64 1,.int .i64 0,.str ByteArray.empty,.aF]]]
def oN:V:=.agg [.int .i64 3,.int .i64 0,.int .i64 0,.int .i64 0,.str ByteArray.empty,.aF]
def oZ:V:=.agg [.int .i64 3,.int .i64 0,.int .i64 1,.int .i64 0,.str ByteArray.empty,.aF]
def a12:V:=.fptr [.fsl 3 [[.str (ByteArray.mk #[112]),.aF,.fsl 5 [[.int .i64 1,.int .i64 0,.int .i64 0,.int .i64 0,.aF]]],[.str (ByteArray.mk #[113]),.aF,.fsl 5 [[.int .i64 1,.int .i64 0,.int .i64 0,.int .i64 0,.aF]]]]]
def Vn:V:=.clo 196 [] [.fptr [.fsl 3 [[.str (ByteArray.mk #[112]),.aF,.fsl 5 [[.int .i64 1,.int .i64 0,.int .i64 0,.int .i64 0,.aF]]],[.str (ByteArray.mk #[113]),.aF,.fsl 5 [[.int .i64 1,.int .i64 0,.int .i64 0,.int .i64 0,.aF]]]]]]
def Yu:V:=.fptr [.clo 196 [] [.fptr [.fsl 3 [[.str (ByteArray.mk #[112]),.aF,.fsl 5 [[.int .i64 1,.int .i64 0,.int .i64 0,.int .i64 0,.aF]]],[.str (ByteArray.mk #[113]),.aF,.fsl 5 [[.int .i64 1,.int .i64 0,.int .i64 0,.int .i64 0,.aF]]]]]]]
def Xw:V:=.fptr [.int .i64 9,.int .i64 0,.int .i64 0,.int .i64 0,.str ByteArray.empty,.fsl 6 [[.int .i64 3,.int .i64 0,.int .i64 0,.int .i64 0,.str ByteArray.empty,.aF],[.int .i64 3,.int .i64 0,.int .i64 1,.int .i64 0,.str ByteArray.empty,.aF]]]
def Yv:V:=.tup [.agg [.int .i64 0,.int .i64 1],.bool true]
def a17:V:=.agg [.fsl 1 [[.int .i64 1],[.int .i64 1]],.fsl 1 [[.fsl 2 [[.int .i64 0,.int .i64 0]]],[.fsl 2 [[.int .i64 0,.int .i64 0]]]]]
def fW:V:=.fsl 1 [[.int .i64 0],[.int .i64 0]]
def pE:V:=.fsl 1 [[.int .i64 1],[.int .i64 0]]
def a20:V:=.fsl 1 [[.int .i64 0],[.int .i64 1]]
def a21:V:=.fsl 1 [[.fsl 1 [[.int .i64 0],[.int .i64 0]]]]
def a22:V:=.fsl 1 [[.fsl 1 [[.int .i64 0],[.int .i64 1]]],[.fsl 1 [[.int .i64 1],[.int .i64 0]]]]
def a23:V:=.fsl 1 [[.int .i64 1],[.int .i64 1]]
def a24:V:=.fsl 1 [[.fsl 1 [[.int .i64 1],[.int .i64 1]]]]
def a25:V:=.tup [.fsl 1 [[.fsl 1 [[.int .i64 0],[.int .i64 0]]],[.fsl 1 [[.int .i64 0],[.int .i64 1]]],[.fsl 1 [[.int .i64 1],[.int .i64 0]]],[.fsl 1 [[.int .i64 1],[.int .i64 1]]]],.int .i64 0]
def a26:V:=.clo 162 [] [.fptr [.fsl 3 [[.str (ByteArray.mk #[112]),.aF,.fsl 5 [[.int .i64 1,.int .i64 0,.int .i64 0,.int .i64 0,.aF]]],[.str (ByteArray.mk #[113]),.aF,.fsl 5 [[.int .i64 1,.int .i64 0,.int .i64 0,.int .i64 0,.aF]]]]]]
def Mc:V:=.tup [.agg [.int .i64 0,.int .i64 0],.agg [.int .i64 0,.int .i64 0],.bool false]
def a28:V:=.agg [.str (ByteArray.mk #[113]),.aF,.fsl 5 [[.int .i64 1,.int .i64 0,.int .i64 0,.int .i64 0,.aF]]]
def Mt:V:=.tup [.fsl 1 [[.aF],[.aF]],.int .i64 0]
def TG:V:=.agg [.fsl 3 [[.str (ByteArray.mk #[112]),.aF,.fsl 5 [[.int .i64 1,.int .i64 0,.int .i64 0,.int .i64 0,.aF]]],[.str (ByteArray.mk #[113]),.aF,.fsl 5 [[.int .i64 1,.int .i64 0,.int .i64 0,.int .i64 0,.aF]]]],.fsl 1 [[.int .i64 0],[.int .i64 0]],.fsl 1 [[.aF],[.aF]]]
def a31:V:=.fsl 1 [[.fsl 1 [[.int .i64 0],[.int .i64 1]]]]
def a32:V:=.agg [.fsl 3 [[.str (ByteArray.mk #[112]),.aF,.fsl 5 [[.int .i64 1,.int .i64 0,.int .i64 0,.int .i64 0,.aF]]],[.str (ByteArray.mk #[113]),.aF,.fsl 5 [[.int .i64 1,.int .i64 0,.int .i64 0,.int .i64 0,.aF]]]],.fsl 1 [[.int .i64 0],[.int .i64 1]],.fsl 1 [[.aF],[.aF]]]
def a33:V:=.fsl 1 [[.fsl 1 [[.int .i64 1],[.int .i64 0]]]]
def Rk:V:=.agg [.fsl 3 [[.str (ByteArray.mk #[112]),.aF,.fsl 5 [[.int .i64 1,.int .i64 0,.int .i64 0,.int .i64 0,.aF]]],[.str (ByteArray.mk #[113]),.aF,.fsl 5 [[.int .i64 1,.int .i64 0,.int .i64 0,.int .i64 0,.aF]]]],.fsl 1 [[.int .i64 1],[.int .i64 0]],.fsl 1 [[.aF],[.aF]]]
def a35:V:=.agg [.fsl 3 [[.str (ByteArray.mk #[112]),.aF,.fsl 5 [[.int .i64 1,.int .i64 0,.int .i64 0,.int .i64 0,.aF]]],[.str (ByteArray.mk #[113]),.aF,.fsl 5 [[.int .i64 1,.int .i64 0,.int .i64 0,.int .i64 0,.aF]]]],.fsl 1 [[.int .i64 1],[.int .i64 1]],.fsl 1 [[.aF],[.aF]]]
def Xh:V:=.tup [.fsl 1 [[.fsl 1 [[.int .i64 0],[.int .i64 0]]],[.fsl 1 [[.int .i64 1],[.int .i64 1]]]],.int .i64 0]
def a37:V:=.fsl 1 [[.fsl 1 [[.int .i64 0],[.int .i64 0]]],[.fsl 1 [[.int .i64 1],[.int .i64 1]]]]
def Md:V:=.clo 71 [] [.fptr [.fsl 3 [[.str (ByteArray.mk #[112]),.aF,.fsl 5 [[.int .i64 1,.int .i64 0,.int .i64 0,.int .i64 0,.aF]]],[.str (ByteArray.mk #[113]),.aF,.fsl 5 [[.int .i64 1,.int .i64 0,.int .i64 0,.int .i64 0,.aF]]]]]]
def a39:V:=.tup [.agg [.bool false,.fsl 1 [[.int .i64 0],[.int .i64 0]],.fsl 1 [[.int .i64 1],[.int .i64 1]],.fsl 1 [[.fsl 1 [[.fsl 1 [[.int .i64 1],[.int .i64 1]]]]],[.fsl 1 [[.fsl 1 [[.int .i64 1],[.int .i64 1]]]]]]],.int .i64 0]
def a40:V:=.agg [.bool false,.fsl 1 [[.int .i64 0],[.int .i64 0]],.fsl 1 [[.int .i64 1],[.int .i64 1]],.fsl 1 [[.fsl 1 [[.fsl 1 [[.int .i64 1],[.int .i64 1]]]]],[.fsl 1 [[.fsl 1 [[.int .i64 1],[.int .i64 1]]]]]]]
def a41:V:=.fptr [.bool false,.fsl 1 [[.int .i64 0],[.int .i64 0]],.fsl 1 [[.int .i64 1],[.int .i64 1]],.fsl 1 [[.fsl 1 [[.fsl 1 [[.int .i64 1],[.int .i64 1]]]]],[.fsl 1 [[.fsl 1 [[.int .i64 1],[.int .i64 1]]]]]]]
def X8:V:=.fptr [.fsl 1 [[.int .i64 1],[.int .i64 1]]]
def Xl:V:=.agg [.bool false,.fsl 1 [[.int .i64 0],[.int .i64 1]],.fsl 1 [[.int .i64 0],[.int .i64 1]],.fsl 1 [[.fsl 1 [[.aF]]],[.fsl 1 [[.fsl 1 [[.int .i64 0],[.int .i64 1]]]]]]]
def k0:ak:=⟨117,[.int .i64 2,.int .i64 1,.int .i64 8],.bool true⟩
theorem V4:ah EA k0:=af (n:=100) (l:=[]) (by simp) (by kernel_rfl)
def k1:ak:=⟨186,[.int .u8 112],.bool true⟩
theorem Wa:ah EA k1:=af (n:=100) (l:=[]) (by simp) (by kernel_rfl)
def k2:ak:=⟨152,[.str (ByteArray.mk #[112])],.bool true⟩
theorem WI:ah EA k2:=af (n:=100) (l:=[k1]) (by simp only[List.forall_mem_cons];exact⟨Wa,by simp⟩) (by kernel_rfl)
def k3:ak:=⟨188,[.fsl 3 [],a0],.int .i64 (-1)⟩
theorem Wc:ah EA k3:=af (n:=100) (l:=[]) (by simp) (by kernel_rfl)
def k4:ak:=⟨153,[.fsl 3 [],a0],.bool false⟩
theorem Wh:ah EA k4:=af (n:=100) (l:=[k3]) (by simp only[List.forall_mem_cons];exact⟨Wc,by simp⟩) (by kernel_rfl)
def k5:ak:=⟨118,[a1,.int .i64 0],.int .i64 0⟩
theorem WA:ah EA k5:=af (n:=100) (l:=[k2,k4]) (by simp only[List.forall_mem_cons];exact⟨WI,Wh,by simp⟩) (by kernel_rfl)
def k6:ak:=⟨186,[.int .u8 113],.bool true⟩
theorem V1:ah EA k6:=af (n:=100) (l:=[]) (by simp) (by kernel_rfl)
def k7:ak:=⟨152,[.str (ByteArray.mk #[113])],.bool true⟩
theorem WO:ah EA k7:=af (n:=100) (l:=[k6]) (by simp only[List.forall_mem_cons];exact⟨V1,by simp⟩) (by kernel_rfl)
def k8:ak:=⟨154,[a2,.fptr [.str (ByteArray.mk #[113]),.aF,.fsl 5 [[.int .i64 1,.int .i64 0,.int .i64 0,.int .i64 0,.aF]]]],.bool false⟩
theorem Wl:ah EA k8:=af (n:=100) (l:=[]) (by simp) (by kernel_rfl)
def k9:ak:=⟨188,[a3,a4],.int .i64 (-1)⟩
theorem VX:ah EA k9:=af (n:=100) (l:=[k8]) (by simp only[List.forall_mem_cons];exact⟨Wl,by simp⟩) (by kernel_rfl)
def Yl:ak:=⟨153,[a3,a4],.bool false⟩
theorem RJ:ah EA Yl:=af (n:=100) (l:=[k9]) (by simp only[List.forall_mem_cons];exact⟨VX,by simp⟩) (by kernel_rfl)
def WW:ak:=⟨118,[a1,.int .i64 1],.int .i64 0⟩
theorem T8:ah EA WW:=af (n:=100) (l:=[k7,Yl]) (by simp only[List.forall_mem_cons];exact⟨WO,RJ,by simp⟩) (by kernel_rfl)
def LZ:ak:=⟨119,[a1],.clo 156 [] [.fptr [.fsl 3 [[.str (ByteArray.mk #[112]),.aF,.fsl 5 [[.int .i64 1,.int .i64 0,.int .i64 0,.int .i64 0,.aF]]],[.str (ByteArray.mk #[113]),.aF,.fsl 5 [[.int .i64 1,.int .i64 0,.int .i64 0,.int .i64 0,.aF]]]]]]⟩
theorem DG:ah EA LZ:=af (n:=100) (l:=[]) (by simp) (by kernel_rfl)
def Yx:ak:=⟨157,[a1,.int .i64 0,a5],.bool true⟩
theorem Sc:ah EA Yx:=af (n:=100) (l:=[]) (by simp) (by kernel_rfl)
def UJ:ak:=⟨117,[.int .i64 0,.int .i64 0,.int .i64 1099511627776],.bool true⟩
theorem IP:ah EA UJ:=af (n:=100) (l:=[]) (by simp) (by kernel_rfl)
def W_:ak:=⟨120,[a1,a6,a5],.int .i64 0⟩
theorem SY:ah EA W_:=af (n:=100) (l:=[Yx,UJ]) (by simp only[List.forall_mem_cons];exact⟨Sc,IP,by simp⟩) (by kernel_rfl)
def XI:ak:=⟨157,[a1,.int .i64 1,a5],.bool true⟩
theorem Rl:ah EA XI:=af (n:=100) (l:=[]) (by simp) (by kernel_rfl)
def WX:ak:=⟨120,[a1,a7,a5],.int .i64 0⟩
theorem R_:ah EA WX:=af (n:=100) (l:=[XI,UJ]) (by simp only[List.forall_mem_cons];exact⟨Rl,IP,by simp⟩) (by kernel_rfl)
def WY:ak:=⟨121,[a1],.tup [.fptr [.int .i64 0,.int .i64 0,.int .i64 0,.int .i64 0,.int .i64 0,.int .i64 0,.int .i64 0,.int .i64 0,.int .i64 0,.int .i64 0,.int .i64 0,.int .i64 0,.int .i64 0,.int .i64 0,.int .i64 0,.int .i64 0,.int .i64 0,.int .i64 0,.int .i64 0,.int .i64 0,.int .i64 0,.int .i64 0,.int .i64 0,.int .i64 0,.int .i64 0,.int .i64 0,.int .i64 0,.int .i64 0,.int .i64 0,.int .i64 0,.int .i64 0,.int .i64 0,.int .i64 0,.int .i64 0,.int .i64 0,.int .i64 0,.int .i64 0,.int .i64 0,.int .i64 0,.int .i64 0,.int .i64 0,.int .i64 0,.int .i64 0,.int .i64 0,.int .i64 0,.int .i64 0,.int .i64 0,.int .i64 0,.int .i64 0,.int .i64 0,.int .i64 0,.int .i64 0,.int .i64 0,.int .i64 0,.int .i64 0,.int .i64 0,.int .i64 0,.int .i64 0,.int .i64 0,.int .i64 0,.int .i64 0,.int .i64 0,.int .i64 0,.int .i64 0,.int .i64 0,.int .i64 0,.int .i64 0,.int .i64 0,.int .i64 0,.int .i64 0,.int .i64 0,.int .i64 0,.int .i64 0,.int .i64 0,.int .i64 0,.int .i64 0,.int .i64 0,.int .i64 0,.int .i64 0,.int .i64 0,.int .i64 0,.int .i64 0,.int .i64 0,.int .i64 0,.int .i64 0,.int .i64 0,.int .i64 0,.int .i64 0,.int .i64 0,.int .i64 0,.int .i64 0,.int .i64 0,.int .i64 0,.int .i64 0,.int .i64 0,.int .i64 0,.int .i64 0,.int .i64 0,.int .i64 0,.int .i64 0,.int .i64 0,.int .i64 0,.int .i64 0,.int .i64 0,.int .i64 0,.int .i64 0,.int .i64 0,.int .i64 0,.int .i64 0,.int .i64 0,.int .i64 0,.int .i64 0,.int .i64 0,.int .i64 0,.int .i64 0,.int .i64 0,.int .i64 0,.int .i64 0,.int .i64 0,.int .i64 0,.int .i64 0,.int .i64 0,.int .i64 0,.int .i64 0,.int .i64 0,.int .i64 0,.int .i64 0,.int .i64 0,.int .i64 0,.int .i64 0,.int .i64 0,.int .i64 0,.int .i64 0,.int .i64 0,.int .i64 0,.int .i64 0,.int .i64 0,.int .i64 0,.int .i64 0,.int .i64 0,.int .i64 0,.int .i64 0,.int .i64 0,.int .i64 0,.int .i64 0,.int .i64 0,.int .i64 0,.int .i64 0,.int .i64 0,.int .i64 0,.int .i64 0,.int .i64 0,.int .i64 0,.int .i64 0,.int .i64 0,.int .i64 0,.int .i64 0,.int .i64 0,.int .i64 0,.int .i64 0,.int .i64 0,.int .i64 0,.int .i64 0,.int .i64 0,.int .i64 0,.int .i64 0,.int .i64 0,.int .i64 0,.int .i64 0,.int .i64 0,.int .i64 0,.int .i64 0,.int .i64 0,.int .i64 0,.int .i64 0,.int .i64 0,.int .i64 0,.int .i64 0,.int .i64 0,.int .i64 0,.int .i64 0,.int .i64 0,.int .i64 0,.int .i64 0,.int .i64 0,.int .i64 0,.int .i64 0,.int .i64 0,.int .i64 0,.int .i64 0,.int .i64 0,.int .i64 0,.int .i64 0,.int .i64 0,.int .i64 0,.int .i64 0,.int .i64 0,.int .i64 0,.int .i64 0,.int .i64 0,.int .i64 0,.int .i64 0,.int .i64 0,.int .i64 0,.int .i64 0,.int .i64 0,.int .i64 0,.int .i64 0,.int .i64 0,.int .i64 0,.int .i64 0,.int .i64 0,.int .i64 0,.int .i64 0,.int .i64 0,.int .i64 0,.int .i64 0,.int .i64 0,.int .i64 0,.int .i64 0,.int .i64 0,.int .i64 0,.int .i64 0,.int .i64 0,.int .i64 0,.int .i64 0,.int .i64 0,.int .i64 0,.int .i64 0,.int .i64 0,.int .i64 0,.int .i64 0,.int .i64 0,.int .i64 0,.int .i64 0,.int .i64 0,.int .i64 0,.int .i64 0,.int .i64 0,.int .i64 0,.int .i64 0,.int .i64 0,.int .i64 0,.int .i64 0,.int .i64 0,.int .i64 0,.int .i64 0,.int .i64 0,.int .i64 0,.int .i64 0,.int .i64 0,.int .i64 0,.int .i64 0,.int .i64 0,.int .i64 0,.int .i64 0,.int .i64 0,.int .i64 0,.int .i64 0,.int .i64 0,.int .i64 0,.int .i64 0,.int .i64 0,.int .i64 0,.int .i64 0,.int .i64 0,.int .i64 0,.int .i64 0,.int .i64 0,.int .i64 0,.int .i64 0,.int .i64 0,.int .i64 0,.int .i64 0,.int .i64 0,.int .i64 0,.int .i64 0,.int .i64 0,.int .i64 0,.int .i64 0,.int .i64 0,.int .i64 0,.int .i64 0,.int .i64 0,.int .i64 0,.int .i64 0,.int .i64 0,.int .i64 0,.int .i64 0,.int .i64 0,.int .i64 0,.int .i64 0,.int .i64 0,.int .i64 0,.int .i64 0,.int .i64 0,.int .i64 0,.int .i64 0,.int .i64 0,.int .i64 0,.int .i64 0,.int .i64 0,.int .i64 0,.int .i64 0,.int .i64 0,.int .i64 0,.int .i64 0,.int .i64 0,.int .i64 0,.int .i64 0,.int .i64 0,.int .i64 0,.int .i64 0,.int .i64 0,.int .i64 0,.int .i64 0,.int .i64 0,.int .i64 0,.int .i64 0,.int .i64 0,.int .i64 0,.int .i64 0,.int .i64 0,.int .i64 0,.int .i64 0,.int .i64 0,.int .i64 0,.int .i64 0,.int .i64 0,.int .i64 0,.int .i64 0,.int .i64 0,.int .i64 0,.int .i64 0,.int .i64 0,.int .i64 0,.int .i64 0,.int .i64 0,.int .i64 0,.int .i64 0,.int .i64 0,.int .i64 0,.int .i64 0,.int .i64 0,.int .i64 0,.int .i64 0,.int .i64 0,.int .i64 0,.int .i64 0,.int .i64 0,.int .i64 0,.int .i64 0,.int .i64 0,.int .i64 0,.int .i64 0,.int .i64 0,.int .i64 0,.int .i64 0,.int .i64 0,.int .i64 0,.int .i64 0,.int .i64 0,.int .i64 0,.int .i64 0,.int .i64 0,.int .i64 0,.int .i64 0,.int .i64 0,.int .i64 0,.int .i64 0,.int .i64 0,.int .i64 0,.int .i64 0,.int .i64 0,.int .i64 0,.int .i64 0,.int .i64 0,.int .i64 0,.int .i64 0,.int .i64 0,.int .i64 0,.int .i64 0,.int .i64 0,.int .i64 0,.int .i64 0,.int .i64 0,.int .i64 0,.int .i64 0,.int .i64 0,.int .i64 0,.int .i64 0,.int .i64 0,.int .i64 0,.int .i64 0,.int .i64 0,.int .i64 0,.int .i64 0,.int .i64 0,.int .i64 0,.int .i64 0,.int .i64 0,.int .i64 0,.int .i64 0,.int .i64 0,.int .i64 0,.int .i64 0,.int .i64 0,.int .i64 0,.int .i64 0,.int .i64 0,.int .i64 0,.int .i64 0,.int .i64 0,.int .i64 0,.int .i64 0,.int .i64 0,.int .i64 0,.int .i64 0,.int .i64 0,.int .i64 0,.int .i64 0,.int .i64 0,.int .i64 0,.int .i64 0,.int .i64 0,.int .i64 0,.int .i64 0,.int .i64 0,.int .i64 0,.int .i64 0,.int .i64 0,.int .i64 0,.int .i64 0,.int .i64 0,.int .i64 0,.int .i64 0,.int .i64 0,.int .i64 0,.int .i64 0,.int .i64 0,.int .i64 0,.int .i64 0,.int .i64 0,.int .i64 0,.int .i64 0,.int .i64 0,.int .i64 0,.int .i64 0,.int .i64 0,.int .i64 0,.int .i64 0,.int .i64 0,.int .i64 0,.int .i64 0,.int .i64 0,.int .i64 0,.int .i64 0,.int .i64 0,.int .i64 0,.int .i64 0,.int .i64 0,.int .i64 0,.int .i64 0,.int .i64 0,.int .i64 0,.int .i64 0,.int .i64 0,.int .i64 0,.int .i64 0,.int .i64 0,.int .i64 0,.int .i64 0,.int .i64 0,.int .i64 0,.int .i64 0,.int .i64 0,.int .i64 0,.int .i64 0,.int .i64 0,.int .i64 0,.int .i64 0,.int .i64 0,.int .i64 0,.int .i64 0,.int .i64 0,.int .i64 0,.int .i64 0,.int .i64 0,.int .i64 0,.int .i64 0,.int .i64 0,.int .i64 0,.int .i64 0,.int .i64 0,.int .i64 0,.int .i64 0,.int .i64 0,.int .i64 0,.int .i64 0,.int .i64 0,.int .i64 0,.int .i64 0,.int .i64 0,.int .i64 0,.int .i64 0,.int .i64 0,.int .i64 0,.int .i64 0,.int .i64 0,.int .i64 0,.int .i64 0,.int .i64 0,.int .i64 0,.int .i64 0,.int .i64 0,.int .i64 0,.int .i64 0,.int .i64 0,.int .i64 0,.int .i64 0,.int .i64 0,.int .i64 0,.int .i64 0,.int .i64 0,.int .i64 0,.int .i64 0,.int .i64 0,.int .i64 0,.int .i64 0,.int .i64 0,.int .i64 0,.int .i64 0,.int .i64 0,.int .i64 0,.int .i64 0,.int .i64 0,.int .i64 0,.int .i64 0,.int .i64 0,.int .i64 0,.int .i64 0,.int .i64 0,.int .i64 0,.int .i64 0,.int .i64 0,.int .i64 0,.int .i64 0,.int .i64 0,.int .i64 0,.int .i64 0,.int .i64 0,.int .i64 0,.int .i64 0,.int .i64 0,.int .i64 0,.int .i64 0,.int .i64 0,.int .i64 0,.int .i64 0,.int .i64 0,.int .i64 0,.int .i64 0,.int .i64 0,.int .i64 0,.int .i64 0,.int .i64 0,.int .i64 0,.int .i64 0,.int .i64 0,.int .i64 0,.int .i64 0,.int .i64 0,.int .i64 0,.int .i64 0,.int .i64 0,.int .i64 0,.int .i64 0,.int .i64 0,.int .i64 0,.int .i64 0,.int .i64 0,.int .i64 0,.int .i64 0,.int .i64 0,.int .i64 0,.int .i64 0,.int .i64 0,.int .i64 0,.int .i64 0,.int .i64 0,.int .i64 0,.int .i64 0,.int .i64 0,.int .i64 0,.int .i64 0,.int .i64 0,.int .i64 0,.int .i64 0,.int .i64 0,.int .i64 0,.int .i64 0,.int .i64 0,.int .i64 0,.int .i64 0,.int .i64 0,.int .i64 0,.int .i64 0,.int .i64 0,.int .i64 0,.int .i64 0,.int .i64 0,.int .i64 0,.int .i64 0,.int .i64 0,.int .i64 0,.int .i64 0,.int .i64 0,.int .i64 0,.int .i64 0,.int .i64 0,.int .i64 0,.int .i64 0,.int .i64 0,.int .i64 0,.int .i64 0,.int .i64 0,.int .i64 0,.int .i64 0,.int .i64 0,.int .i64 0,.int .i64 0,.int .i64 0,.int .i64 0,.int .i64 0,.int .i64 0,.int .i64 0,.int .i64 0,.int .i64 0,.int .i64 0,.int .i64 0,.int .i64 0,.int .i64 0,.int .i64 0,.int .i64 0,.int .i64 0,.int .i64 0,.int .i64 0,.int .i64 0,.int .i64 0,.int .i64 0,.int .i64 0,.int .i64 0,.int .i64 0,.int .i64 0,.int .i64 0,.int .i64 0,.int .i64 0,.int .i64 0,.int .i64 0,.int .i64 0,.int .i64 0,.int .i64 0,.int .i64 0,.int .i64 0,.int .i64 0,.int .i64 0,.int .i64 0,.int .i64 0,.int .i64 0,.int .i64 0,.int .i64 0,.int .i64 0,.int .i64 0,.int .i64 0,.int .i64 0,.int .i64 0,.int .i64 0,.int .i64 0,.int .i64 0,.int .i64 0,.int .i64 0,.int .i64 0,.int .i64 0,.int .i64 0,.int .i64 0,.int .i64 0,.int .i64 0,.int .i64 0,.int .i64 0,.int .i64 0,.int .i64 0,.int .i64 0,.int .i64 0,.int .i64 0,.int .i64 0,.int .i64 0,.int .i64 0,.int .i64 0,.int .i64 0,.int .i64 0,.int .i64 0,.int .i64 0,.int .i64 0,.int .i64 0,.int .i64 0,.int .i64 0,.int .i64 0,.int .i64 0,.int .i64 0,.int .i64 0,.int .i64 0,.int .i64 0,.int .i64 0,.int .i64 0,.int .i64 0,.int .i64 0,.int .i64 0,.int .i64 0,.int .i64 0,.int .i64 0,.int .i64 0,.int .i64 0,.int .i64 0,.int .i64 0,.int .i64 0,.int .i64 0,.int .i64 0,.int .i64 0,.int .i64 0,.int .i64 0,.int .i64 0,.int .i64 0,.int .i64 0,.int .i64 0,.int .i64 0,.int .i64 0,.int .i64 0,.int .i64 0,.int .i64 0,.int .i64 0,.int .i64 0,.int .i64 0,.int .i64 0,.int .i64 0,.int .i64 0,.int .i64 0,.int .i64 0,.int .i64 0,.int .i64 0,.int .i64 0,.int .i64 0,.int .i64 0,.int .i64 0,.int .i64 0,.int .i64 0,.int .i64 0,.int .i64 0,.int .i64 0,.int .i64 0,.int .i64 0,.int .i64 0,.int .i64 0,.int .i64 0,.int .i64 0,.int .i64 0,.int .i64 0,.int .i64 0,.int .i64 0,.int .i64 0,.int .i64 0,.int .i64 0,.int .i64 0,.int .i64 0,.int .i64 0,.int .i64 0,.int .i64 0,.int .i64 0,.int .i64 0,.int .i64 0,.int .i64 0,.int .i64 0,.int .i64 0,.int .i64 0,.int .i64 0,.int .i64 0,.int .i64 0,.int .i64 0,.int .i64 0,.int .i64 0,.int .i64 0,.int .i64 0,.int .i64 0,.int .i64 0,.int .i64 0,.int .i64 0,.int .i64 0,.int .i64 0,.int .i64 0,.int .i64 0,.int .i64 0],.agg [.int .i64 0,.int .i64 0],.int .i64 0]⟩
theorem Td:ah EA WY:=af (n:=100) (l:=[LZ]) (by simp only[List.forall_mem_cons];exact⟨DG,by simp⟩) (by kernel_rfl)
def Xz:ak:=⟨161,[a1,a8,a6],.aF⟩
theorem SS:ah EA Xz:=af (n:=100) (l:=[]) (by simp) (by kernel_rfl)
def Ys:ak:=⟨161,[a1,a8,a7],.aF⟩
theorem Sg:ah EA Ys:=af (n:=100) (l:=[]) (by simp) (by kernel_rfl)
def W9:ak:=⟨122,[a1,a8],.tup [.agg [.int .i64 0,.int .i64 0],.bool false]⟩
theorem Vw:ah EA W9:=af (n:=100) (l:=[LZ,Xz,Ys]) (by simp only[List.forall_mem_cons];exact⟨DG,SS,Sg,by simp⟩) (by kernel_rfl)
def Xm:ak:=⟨96,[a1],.tup [.agg [.int .i64 0,.int .i64 0],.int .i64 0]⟩
theorem RP:ah EA Xm:=af (n:=100) (l:=[k0,k5,WW,LZ,W_,WX,WY,W9]) (by simp only[List.forall_mem_cons];exact⟨V4,WA,T8,DG,SY,R_,Td,Vw,by simp⟩) (by kernel_rfl)
def xZ:ak:=⟨54,[a1],.bool true⟩
theorem oP:ah EA xZ:=af (n:=100) (l:=[Xm]) (by simp only[List.forall_mem_cons];exact⟨RP,by simp⟩) (by kernel_rfl)
def Xk:ak:=⟨212,[.int .i64 9],.bool false⟩
theorem UG:ah EA Xk:=af (n:=100) (l:=[]) (by simp) (by kernel_rfl)
def XV:ak:=⟨193,[a9],.bool true⟩
theorem U_:ah EA XV:=af (n:=100) (l:=[Xk]) (by simp only[List.forall_mem_cons];exact⟨UG,by simp⟩) (by kernel_rfl)
def Vc:ak:=⟨212,[.int .i64 3],.bool true⟩
theorem H9:ah EA Vc:=af (n:=100) (l:=[]) (by simp) (by kernel_rfl)
def WS:ak:=⟨193,[oN],.bool true⟩
theorem Ua:ah EA WS:=af (n:=100) (l:=[Vc]) (by simp only[List.forall_mem_cons];exact⟨H9,by simp⟩) (by kernel_rfl)
def Yk:ak:=⟨193,[oZ],.bool true⟩
theorem SB:ah EA Yk:=af (n:=100) (l:=[Vc]) (by simp only[List.forall_mem_cons];exact⟨H9,by simp⟩) (by kernel_rfl)
def Me:ak:=⟨169,[a9],.bool true⟩
theorem Di:ah EA Me:=af (n:=100) (l:=[XV,WS,Yk]) (by simp only[List.forall_mem_cons];exact⟨U_,Ua,SB,by simp⟩) (by kernel_rfl)
def XG:ak:=⟨196,[a9,a12],.bool true⟩
theorem Uf:ah EA XG:=af (n:=100) (l:=[]) (by simp) (by kernel_rfl)
def Ya:ak:=⟨197,[a1,.int .i64 0],.bool true⟩
theorem SN:ah EA Ya:=af (n:=100) (l:=[]) (by simp) (by kernel_rfl)
def XN:ak:=⟨196,[oN,a12],.bool true⟩
theorem SA:ah EA XN:=af (n:=100) (l:=[Ya]) (by simp only[List.forall_mem_cons];exact⟨SN,by simp⟩) (by kernel_rfl)
def XX:ak:=⟨174,[oN,Vn],.bool true⟩
theorem Qt:ah EA XX:=af (n:=100) (l:=[XN]) (by simp only[List.forall_mem_cons];exact⟨SA,by simp⟩) (by kernel_rfl)
def YA:ak:=⟨205,[oN,Yu],.bool false⟩
theorem Q1:ah EA YA:=af (n:=100) (l:=[XX]) (by simp only[List.forall_mem_cons];exact⟨Qt,by simp⟩) (by kernel_rfl)
def Yy:ak:=⟨197,[a1,.int .i64 1],.bool true⟩
theorem Uv:ah EA Yy:=af (n:=100) (l:=[]) (by simp) (by kernel_rfl)
def Yh:ak:=⟨196,[oZ,a12],.bool true⟩
theorem TL:ah EA Yh:=af (n:=100) (l:=[Yy]) (by simp only[List.forall_mem_cons];exact⟨Uv,by simp⟩) (by kernel_rfl)
def XF:ak:=⟨174,[oZ,Vn],.bool true⟩
theorem Tj:ah EA XF:=af (n:=100) (l:=[Yh]) (by simp only[List.forall_mem_cons];exact⟨TL,by simp⟩) (by kernel_rfl)
def X4:ak:=⟨205,[oZ,Yu],.bool false⟩
theorem U4:ah EA X4:=af (n:=100) (l:=[XF]) (by simp only[List.forall_mem_cons];exact⟨Tj,by simp⟩) (by kernel_rfl)
def Yg:ak:=⟨174,[a9,Vn],.bool true⟩
theorem U5:ah EA Yg:=af (n:=100) (l:=[XG,YA,X4]) (by simp only[List.forall_mem_cons];exact⟨Uf,Q1,U4,by simp⟩) (by kernel_rfl)
def Xp:ak:=⟨170,[a1,a9],.bool true⟩
theorem Te:ah EA Xp:=af (n:=100) (l:=[Yg]) (by simp only[List.forall_mem_cons];exact⟨U5,by simp⟩) (by kernel_rfl)
def Iu:ak:=⟨201,[.int .i64 3],.int .i64 1⟩
theorem An:ah EA Iu:=af (n:=100) (l:=[]) (by simp) (by kernel_rfl)
def RH:ak:=⟨202,[.int .i64 9],.int .i64 1⟩
theorem Ia:ah EA RH:=af (n:=100) (l:=[]) (by simp) (by kernel_rfl)
def WT:ak:=⟨200,[oN,Xw],.bool false⟩
theorem S_:ah EA WT:=af (n:=100) (l:=[Iu,RH]) (by simp only[List.forall_mem_cons];exact⟨An,Ia,by simp⟩) (by kernel_rfl)
def Yt:ak:=⟨200,[oZ,Xw],.bool false⟩
theorem Uq:ah EA Yt:=af (n:=100) (l:=[Iu,RH]) (by simp only[List.forall_mem_cons];exact⟨An,Ia,by simp⟩) (by kernel_rfl)
def Ym:ak:=⟨199,[a9],.bool true⟩
theorem QL:ah EA Ym:=af (n:=100) (l:=[WT,Yt]) (by simp only[List.forall_mem_cons];exact⟨S_,Uq,by simp⟩) (by kernel_rfl)
def Yj:ak:=⟨199,[oN],.bool true⟩
theorem QN:ah EA Yj:=af (n:=100) (l:=[]) (by simp) (by kernel_rfl)
def WQ:ak:=⟨174,[oN,.clo 199 [] []],.bool true⟩
theorem RG:ah EA WQ:=af (n:=100) (l:=[Yj]) (by simp only[List.forall_mem_cons];exact⟨QN,by simp⟩) (by kernel_rfl)
def Xi:ak:=⟨205,[oN,.fptr [.clo 199 [] []]],.bool false⟩
theorem Q8:ah EA Xi:=af (n:=100) (l:=[WQ]) (by simp only[List.forall_mem_cons];exact⟨RG,by simp⟩) (by kernel_rfl)
def WR:ak:=⟨199,[oZ],.bool true⟩
theorem S0:ah EA WR:=af (n:=100) (l:=[]) (by simp) (by kernel_rfl)
def Yp:ak:=⟨174,[oZ,.clo 199 [] []],.bool true⟩
theorem QJ:ah EA Yp:=af (n:=100) (l:=[WR]) (by simp only[List.forall_mem_cons];exact⟨S0,by simp⟩) (by kernel_rfl)
def Xr:ak:=⟨205,[oZ,.fptr [.clo 199 [] []]],.bool false⟩
theorem T7:ah EA Xr:=af (n:=100) (l:=[Yp]) (by simp only[List.forall_mem_cons];exact⟨QJ,by simp⟩) (by kernel_rfl)
def Xg:ak:=⟨174,[a9,.clo 199 [] []],.bool true⟩
theorem QX:ah EA Xg:=af (n:=100) (l:=[Ym,Xi,Xr]) (by simp only[List.forall_mem_cons];exact⟨QL,Q8,T7,by simp⟩) (by kernel_rfl)
def RA:ak:=⟨171,[a9],.bool true⟩
theorem Ic:ah EA RA:=af (n:=100) (l:=[Xg]) (by simp only[List.forall_mem_cons];exact⟨QX,by simp⟩) (by kernel_rfl)
def Ra:ak:=⟨201,[.int .i64 9],.int .i64 2⟩
theorem I6:ah EA Ra:=af (n:=100) (l:=[]) (by simp) (by kernel_rfl)
def X3:ak:=⟨215,[a1,oN],a6⟩
theorem S8:ah EA X3:=af (n:=100) (l:=[]) (by simp) (by kernel_rfl)
def UE:ak:=⟨216,[a6],.bool false⟩
theorem IA:ah EA UE:=af (n:=100) (l:=[]) (by simp) (by kernel_rfl)
def Xf:ak:=⟨203,[a1,oN],Yv⟩
theorem S7:ah EA Xf:=af (n:=100) (l:=[X3,UE]) (by simp only[List.forall_mem_cons];exact⟨S8,IA,by simp⟩) (by kernel_rfl)
def X9:ak:=⟨172,[a1,oN],.bool true⟩
theorem S9:ah EA X9:=af (n:=100) (l:=[Iu,Xf]) (by simp only[List.forall_mem_cons];exact⟨An,S7,by simp⟩) (by kernel_rfl)
def Xd:ak:=⟨204,[oN,a12],.bool false⟩
theorem UT:ah EA Xd:=af (n:=100) (l:=[X9]) (by simp only[List.forall_mem_cons];exact⟨S9,by simp⟩) (by kernel_rfl)
def XE:ak:=⟨215,[a1,oZ],a6⟩
theorem Uu:ah EA XE:=af (n:=100) (l:=[]) (by simp) (by kernel_rfl)
def XB:ak:=⟨203,[a1,oZ],Yv⟩
theorem Vu:ah EA XB:=af (n:=100) (l:=[XE,UE]) (by simp only[List.forall_mem_cons];exact⟨Uu,IA,by simp⟩) (by kernel_rfl)
def XO:ak:=⟨172,[a1,oZ],.bool true⟩
theorem Vf:ah EA XO:=af (n:=100) (l:=[Iu,XB]) (by simp only[List.forall_mem_cons];exact⟨An,Vu,by simp⟩) (by kernel_rfl)
def Ye:ak:=⟨204,[oZ,a12],.bool false⟩
theorem TC:ah EA Ye:=af (n:=100) (l:=[XO]) (by simp only[List.forall_mem_cons];exact⟨Vf,by simp⟩) (by kernel_rfl)
def XY:ak:=⟨172,[a1,a9],.bool true⟩
theorem Rf:ah EA XY:=af (n:=100) (l:=[Ra,Xd,Ye]) (by simp only[List.forall_mem_cons];exact⟨I6,UT,TC,by simp⟩) (by kernel_rfl)
def Yd:ak:=⟨136,[a1,a9],.int .i64 0⟩
theorem Sr:ah EA Yd:=af (n:=100) (l:=[xZ,Me,Xp,RA,XY]) (by simp only[List.forall_mem_cons];exact⟨oP,Di,Te,Ic,Rf,by simp⟩) (by kernel_rfl)
def Yi:ak:=⟨173,[a9],.tup [.int .i64 2,.int .i64 0]⟩
theorem Vz:ah EA Yi:=af (n:=100) (l:=[Me,RA,Ra]) (by simp only[List.forall_mem_cons];exact⟨Di,Ic,I6,by simp⟩) (by kernel_rfl)
def Yr:ak:=⟨137,[a9,.int .i64 2],.int .i64 0⟩
theorem SK:ah EA Yr:=af (n:=100) (l:=[Yi]) (by simp only[List.forall_mem_cons];exact⟨Vz,by simp⟩) (by kernel_rfl)
def XP:ak:=⟨176,[.int .i64 9],.bool false⟩
theorem QI:ah EA XP:=af (n:=100) (l:=[]) (by simp) (by kernel_rfl)
def Xc:ak:=⟨175,[a9],.bool true⟩
theorem QU:ah EA Xc:=af (n:=100) (l:=[XP]) (by simp only[List.forall_mem_cons];exact⟨QI,by simp⟩) (by kernel_rfl)
def UM:ak:=⟨176,[.int .i64 3],.bool false⟩
theorem ID:ah EA UM:=af (n:=100) (l:=[]) (by simp) (by kernel_rfl)
def W0:ak:=⟨175,[oN],.bool true⟩
theorem QY:ah EA W0:=af (n:=100) (l:=[UM]) (by simp only[List.forall_mem_cons];exact⟨ID,by simp⟩) (by kernel_rfl)
def Xx:ak:=⟨174,[oN,.clo 175 [] []],.bool true⟩
theorem VD:ah EA Xx:=af (n:=100) (l:=[W0]) (by simp only[List.forall_mem_cons];exact⟨QY,by simp⟩) (by kernel_rfl)
def X_:ak:=⟨205,[oN,.fptr [.clo 175 [] []]],.bool false⟩
theorem SL:ah EA X_:=af (n:=100) (l:=[Xx]) (by simp only[List.forall_mem_cons];exact⟨VD,by simp⟩) (by kernel_rfl)
def Xo:ak:=⟨175,[oZ],.bool true⟩
theorem U9:ah EA Xo:=af (n:=100) (l:=[UM]) (by simp only[List.forall_mem_cons];exact⟨ID,by simp⟩) (by kernel_rfl)
def XK:ak:=⟨174,[oZ,.clo 175 [] []],.bool true⟩
theorem Vj:ah EA XK:=af (n:=100) (l:=[Xo]) (by simp only[List.forall_mem_cons];exact⟨U9,by simp⟩) (by kernel_rfl)
def Yw:ak:=⟨205,[oZ,.fptr [.clo 175 [] []]],.bool false⟩
theorem R4:ah EA Yw:=af (n:=100) (l:=[XK]) (by simp only[List.forall_mem_cons];exact⟨Vj,by simp⟩) (by kernel_rfl)
def Yo:ak:=⟨174,[a9,.clo 175 [] []],.bool true⟩
theorem Qv:ah EA Yo:=af (n:=100) (l:=[Xc,X_,Yw]) (by simp only[List.forall_mem_cons];exact⟨QU,SL,R4,by simp⟩) (by kernel_rfl)
def Xu:ak:=⟨138,[a9],.bool false⟩
theorem Ui:ah EA Xu:=af (n:=100) (l:=[Me,Yo]) (by simp only[List.forall_mem_cons];exact⟨Di,Qv,by simp⟩) (by kernel_rfl)
def Xy:ak:=⟨219,[a1],a17⟩
theorem UN:ah EA Xy:=af (n:=100) (l:=[]) (by simp) (by kernel_rfl)
def Xs:ak:=⟨230,[a17,fW,.int .i64 0],.bool true⟩
theorem Rm:ah EA Xs:=af (n:=100) (l:=[]) (by simp) (by kernel_rfl)
def Yz:ak:=⟨230,[a17,fW,.int .i64 1],.bool true⟩
theorem SF:ah EA Yz:=af (n:=100) (l:=[]) (by simp) (by kernel_rfl)
def Mr:ak:=⟨116,[.int .i64 1],.bool false⟩
theorem CF:ah EA Mr:=af (n:=100) (l:=[]) (by simp) (by kernel_rfl)
def LO:ak:=⟨93,[.int .i64 1,.int .i64 1],.int .i64 0⟩
theorem Dp:ah EA LO:=af (n:=100) (l:=[Mr]) (by simp only[List.forall_mem_cons];exact⟨CF,by simp⟩) (by kernel_rfl)
def ET:ak:=⟨116,[.int .i64 0],.bool false⟩
theorem vM:ah EA ET:=af (n:=100) (l:=[]) (by simp) (by kernel_rfl)
def Jf:ak:=⟨93,[.int .i64 0,.int .i64 0],.int .i64 0⟩
theorem z7:ah EA Jf:=af (n:=100) (l:=[ET]) (by simp only[List.forall_mem_cons];exact⟨vM,by simp⟩) (by kernel_rfl)
def Xt:ak:=⟨95,[pE,pE],.int .i64 0⟩
theorem TB:ah EA Xt:=af (n:=100) (l:=[LO,Jf]) (by simp only[List.forall_mem_cons];exact⟨Dp,z7,by simp⟩) (by kernel_rfl)
def Xj:ak:=⟨231,[pE,pE],.int .i64 0⟩
theorem SR:ah EA Xj:=af (n:=100) (l:=[Xt]) (by simp only[List.forall_mem_cons];exact⟨TB,by simp⟩) (by kernel_rfl)
def Sp:ak:=⟨93,[.int .i64 1,.int .i64 0],.int .i64 1⟩
theorem HT:ah EA Sp:=af (n:=100) (l:=[Mr,ET]) (by simp only[List.forall_mem_cons];exact⟨CF,vM,by simp⟩) (by kernel_rfl)
def XJ:ak:=⟨95,[pE,a20],.int .i64 1⟩
theorem UK:ah EA XJ:=af (n:=100) (l:=[Sp]) (by simp only[List.forall_mem_cons];exact⟨HT,by simp⟩) (by kernel_rfl)
def X2:ak:=⟨231,[pE,a20],.int .i64 1⟩
theorem Ry:ah EA X2:=af (n:=100) (l:=[XJ]) (by simp only[List.forall_mem_cons];exact⟨UK,by simp⟩) (by kernel_rfl)
def SP:ak:=⟨93,[.int .i64 0,.int .i64 1],.int .i64 (-1)⟩
theorem Io:ah EA SP:=af (n:=100) (l:=[ET,Mr]) (by simp only[List.forall_mem_cons];exact⟨vM,CF,by simp⟩) (by kernel_rfl)
def WV:ak:=⟨95,[a20,pE],.int .i64 (-1)⟩
theorem UD:ah EA WV:=af (n:=100) (l:=[SP]) (by simp only[List.forall_mem_cons];exact⟨Io,by simp⟩) (by kernel_rfl)
def XC:ak:=⟨231,[a20,pE],.int .i64 (-1)⟩
theorem Tu:ah EA XC:=af (n:=100) (l:=[WV]) (by simp only[List.forall_mem_cons];exact⟨UD,by simp⟩) (by kernel_rfl)
def X0:ak:=⟨95,[a20,a20],.int .i64 0⟩
theorem Ta:ah EA X0:=af (n:=100) (l:=[Jf,LO]) (by simp only[List.forall_mem_cons];exact⟨z7,Dp,by simp⟩) (by kernel_rfl)
def XM:ak:=⟨231,[a20,a20],.int .i64 0⟩
theorem Qz:ah EA XM:=af (n:=100) (l:=[X0]) (by simp only[List.forall_mem_cons];exact⟨Ta,by simp⟩) (by kernel_rfl)
def W8:ak:=⟨98,[pE,a20],.bool false⟩
theorem QT:ah EA W8:=af (n:=100) (l:=[]) (by simp) (by kernel_rfl)
def X5:ak:=⟨233,[pE,a20],.bool false⟩
theorem Tz:ah EA X5:=af (n:=100) (l:=[W8]) (by simp only[List.forall_mem_cons];exact⟨QT,by simp⟩) (by kernel_rfl)
def XR:ak:=⟨220,[a17,a21],a22⟩
theorem Rb:ah EA XR:=af (n:=100) (l:=[Xs,Yz,Xj,X2,XC,XM,X5]) (by simp only[List.forall_mem_cons];exact⟨Rm,SF,SR,Ry,Tu,Qz,Tz,by simp⟩) (by kernel_rfl)
def Yn:ak:=⟨230,[a17,a20,.int .i64 0],.bool true⟩
theorem SG:ah EA Yn:=af (n:=100) (l:=[]) (by simp) (by kernel_rfl)
def Uz:ak:=⟨230,[a17,a20,.int .i64 1],.bool false⟩
theorem O6:ah EA Uz:=af (n:=100) (l:=[]) (by simp) (by kernel_rfl)
def UU:ak:=⟨230,[a17,pE,.int .i64 0],.bool false⟩
theorem NN:ah EA UU:=af (n:=100) (l:=[]) (by simp) (by kernel_rfl)
def TM:ak:=⟨230,[a17,pE,.int .i64 1],.bool true⟩
theorem Ot:ah EA TM:=af (n:=100) (l:=[]) (by simp) (by kernel_rfl)
def Kx:ak:=⟨95,[a23,a23],.int .i64 0⟩
theorem Ez:ah EA Kx:=af (n:=100) (l:=[LO]) (by simp only[List.forall_mem_cons];exact⟨Dp,by simp⟩) (by kernel_rfl)
def Vs:ak:=⟨231,[a23,a23],.int .i64 0⟩
theorem Of:ah EA Vs:=af (n:=100) (l:=[Kx]) (by simp only[List.forall_mem_cons];exact⟨Ez,by simp⟩) (by kernel_rfl)
def Rw:ak:=⟨98,[a23,a23],.bool true⟩
theorem MR:ah EA Rw:=af (n:=100) (l:=[]) (by simp) (by kernel_rfl)
def R9:ak:=⟨233,[a23,a23],.bool true⟩
theorem PC:ah EA R9:=af (n:=100) (l:=[Rw]) (by simp only[List.forall_mem_cons];exact⟨MR,by simp⟩) (by kernel_rfl)
def Tt:ak:=⟨220,[a17,a22],a24⟩
theorem NZ:ah EA Tt:=af (n:=100) (l:=[Yn,Uz,UU,TM,Vs,R9]) (by simp only[List.forall_mem_cons];exact⟨SG,O6,NN,Ot,Of,PC,by simp⟩) (by kernel_rfl)
def UC:ak:=⟨230,[a17,a23,.int .i64 0],.bool false⟩
theorem M4:ah EA UC:=af (n:=100) (l:=[]) (by simp) (by kernel_rfl)
def Rp:ak:=⟨230,[a17,a23,.int .i64 1],.bool false⟩
theorem P5:ah EA Rp:=af (n:=100) (l:=[]) (by simp) (by kernel_rfl)
def QE:ak:=⟨220,[a17,a24],.aF⟩
theorem MZ:ah EA QE:=af (n:=100) (l:=[UC,Rp]) (by simp only[List.forall_mem_cons];exact⟨M4,P5,by simp⟩) (by kernel_rfl)
def RE:ak:=⟨206,[a1],.tup [.fsl 1 [[.fsl 1 [[.fsl 1 [[.int .i64 0],[.int .i64 0]]]]],[.fsl 1 [[.fsl 1 [[.int .i64 0],[.int .i64 1]]],[.fsl 1 [[.int .i64 1],[.int .i64 0]]]]],[.fsl 1 [[.fsl 1 [[.int .i64 1],[.int .i64 1]]]]]],.int .i64 0]⟩
theorem Nc:ah EA RE:=af (n:=100) (l:=[xZ,Xy,XR,Tt,QE]) (by simp only[List.forall_mem_cons];exact⟨oP,UN,Rb,NZ,MZ,by simp⟩) (by kernel_rfl)
def Ug:ak:=⟨207,[.fsl 1 [[.fsl 1 [[.fsl 1 [[.int .i64 0],[.int .i64 0]]]]],[.fsl 1 [[.fsl 1 [[.int .i64 0],[.int .i64 1]]],[.fsl 1 [[.int .i64 1],[.int .i64 0]]]]],[.fsl 1 [[.fsl 1 [[.int .i64 1],[.int .i64 1]]]]]]],.fsl 1 [[.fsl 1 [[.int .i64 0],[.int .i64 0]]],[.fsl 1 [[.int .i64 0],[.int .i64 1]]],[.fsl 1 [[.int .i64 1],[.int .i64 0]]],[.fsl 1 [[.int .i64 1],[.int .i64 1]]]]⟩
theorem NG:ah EA Ug:=af (n:=100) (l:=[]) (by simp) (by kernel_rfl)
def T9:ak:=⟨177,[a1],a25⟩
theorem Pg:ah EA T9:=af (n:=100) (l:=[RE,Ug]) (by simp only[List.forall_mem_cons];exact⟨Nc,NG,by simp⟩) (by kernel_rfl)
def QS:ak:=⟨139,[a1],a25⟩
theorem OQ:ah EA QS:=af (n:=100) (l:=[T9]) (by simp only[List.forall_mem_cons];exact⟨Pg,by simp⟩) (by kernel_rfl)
def Uo:ak:=⟨162,[fW,a12],.bool false⟩
theorem PX:ah EA Uo:=af (n:=100) (l:=[]) (by simp) (by kernel_rfl)
def RK:ak:=⟨80,[a21,a26],.int .i64 (-1)⟩
theorem N6:ah EA RK:=af (n:=100) (l:=[Uo]) (by simp only[List.forall_mem_cons];exact⟨PX,by simp⟩) (by kernel_rfl)
def S6:ak:=⟨35,[a21,a26],.bool false⟩
theorem MA:ah EA S6:=af (n:=100) (l:=[RK]) (by simp only[List.forall_mem_cons];exact⟨N6,by simp⟩) (by kernel_rfl)
def TY:ak:=⟨123,[a1,a21],.bool true⟩
theorem MT:ah EA TY:=af (n:=100) (l:=[xZ,S6]) (by simp only[List.forall_mem_cons];exact⟨oP,MA,by simp⟩) (by kernel_rfl)
def Tq:ak:=⟨124,[a1,fW],.bool true⟩
theorem PR:ah EA Tq:=af (n:=100) (l:=[]) (by simp) (by kernel_rfl)
def Q_:ak:=⟨127,[a1,fW],Mc⟩
theorem Ng:ah EA Q_:=af (n:=100) (l:=[]) (by simp) (by kernel_rfl)
def RB:ak:=⟨126,[a1,fW],.bool true⟩
theorem O2:ah EA RB:=af (n:=100) (l:=[Q_]) (by simp only[List.forall_mem_cons];exact⟨Ng,by simp⟩) (by kernel_rfl)
def J8:ak:=⟨99,[a1,a21,.aF],.int .i64 0⟩
theorem Fh:ah EA J8:=af (n:=100) (l:=[TY,Tq,RB]) (by simp only[List.forall_mem_cons];exact⟨MT,PR,O2,by simp⟩) (by kernel_rfl)
def Su:ak:=⟨178,[a1,fW],.tup [.aF,.int .i64 0]⟩
theorem N_:ah EA Su:=af (n:=100) (l:=[J8]) (by simp only[List.forall_mem_cons];exact⟨Fh,by simp⟩) (by kernel_rfl)
def K3:ak:=⟨208,[a2],.clo 222 [] [.fptr [.str (ByteArray.mk #[112]),.aF,.fsl 5 [[.int .i64 1,.int .i64 0,.int .i64 0,.int .i64 0,.aF]]]]⟩
theorem E9:ah EA K3:=af (n:=100) (l:=[]) (by simp) (by kernel_rfl)
def K6:ak:=⟨179,[a2,.int .i64 0],.aF⟩
theorem EW:ah EA K6:=af (n:=100) (l:=[K3]) (by simp only[List.forall_mem_cons];exact⟨E9,by simp⟩) (by kernel_rfl)
def Ly:ak:=⟨208,[a28],.clo 222 [] [.fptr [.str (ByteArray.mk #[113]),.aF,.fsl 5 [[.int .i64 1,.int .i64 0,.int .i64 0,.int .i64 0,.aF]]]]⟩
theorem EJ:ah EA Ly:=af (n:=100) (l:=[]) (by simp) (by kernel_rfl)
def KZ:ak:=⟨179,[a28,.int .i64 0],.aF⟩
theorem Fg:ah EA KZ:=af (n:=100) (l:=[Ly]) (by simp only[List.forall_mem_cons];exact⟨EJ,by simp⟩) (by kernel_rfl)
def TZ:ak:=⟨140,[a1,fW],Mt⟩
theorem O3:ah EA TZ:=af (n:=100) (l:=[Su,K6,KZ]) (by simp only[List.forall_mem_cons];exact⟨N_,EW,Fg,by simp⟩) (by kernel_rfl)
def R2:ak:=⟨180,[TG,oN],.int .i64 0⟩
theorem OZ:ah EA R2:=af (n:=100) (l:=[]) (by simp) (by kernel_rfl)
def RZ:ak:=⟨180,[TG,oZ],.int .i64 0⟩
theorem Pf:ah EA RZ:=af (n:=100) (l:=[]) (by simp) (by kernel_rfl)
def RS:ak:=⟨141,[TG,a9],.bool true⟩
theorem No:ah EA RS:=af (n:=100) (l:=[R2,RZ]) (by simp only[List.forall_mem_cons];exact⟨OZ,Pf,by simp⟩) (by kernel_rfl)
def Sv:ak:=⟨162,[a20,a12],.bool false⟩
theorem OB:ah EA Sv:=af (n:=100) (l:=[]) (by simp) (by kernel_rfl)
def RU:ak:=⟨80,[a31,a26],.int .i64 (-1)⟩
theorem Nq:ah EA RU:=af (n:=100) (l:=[Sv]) (by simp only[List.forall_mem_cons];exact⟨OB,by simp⟩) (by kernel_rfl)
def Sh:ak:=⟨35,[a31,a26],.bool false⟩
theorem Pb:ah EA Sh:=af (n:=100) (l:=[RU]) (by simp only[List.forall_mem_cons];exact⟨Nq,by simp⟩) (by kernel_rfl)
def Va:ak:=⟨123,[a1,a31],.bool true⟩
theorem PM:ah EA Va:=af (n:=100) (l:=[xZ,Sh]) (by simp only[List.forall_mem_cons];exact⟨oP,Pb,by simp⟩) (by kernel_rfl)
def TF:ak:=⟨124,[a1,a20],.bool true⟩
theorem ND:ah EA TF:=af (n:=100) (l:=[]) (by simp) (by kernel_rfl)
def Vo:ak:=⟨127,[a1,a20],Mc⟩
theorem PL:ah EA Vo:=af (n:=100) (l:=[]) (by simp) (by kernel_rfl)
def TT:ak:=⟨126,[a1,a20],.bool true⟩
theorem PG:ah EA TT:=af (n:=100) (l:=[Vo]) (by simp only[List.forall_mem_cons];exact⟨PL,by simp⟩) (by kernel_rfl)
def KW:ak:=⟨99,[a1,a31,.aF],.int .i64 0⟩
theorem Fb:ah EA KW:=af (n:=100) (l:=[Va,TF,TT]) (by simp only[List.forall_mem_cons];exact⟨PM,ND,PG,by simp⟩) (by kernel_rfl)
def SM:ak:=⟨178,[a1,a20],.tup [.fsl 2 [[.int .i64 1,.int .i64 1]],.int .i64 0]⟩
theorem NC:ah EA SM:=af (n:=100) (l:=[KW]) (by simp only[List.forall_mem_cons];exact⟨Fb,by simp⟩) (by kernel_rfl)
def KS:ak:=⟨179,[a28,.int .i64 1],.aF⟩
theorem EX:ah EA KS:=af (n:=100) (l:=[Ly]) (by simp only[List.forall_mem_cons];exact⟨EJ,by simp⟩) (by kernel_rfl)
def TE:ak:=⟨140,[a1,a20],Mt⟩
theorem NL:ah EA TE:=af (n:=100) (l:=[SM,K6,KS]) (by simp only[List.forall_mem_cons];exact⟨NC,EW,EX,by simp⟩) (by kernel_rfl)
def TS:ak:=⟨180,[a32,oN],.int .i64 0⟩
theorem Oq:ah EA TS:=af (n:=100) (l:=[]) (by simp) (by kernel_rfl)
def QO:ak:=⟨180,[a32,oZ],.int .i64 1⟩
theorem Pj:ah EA QO:=af (n:=100) (l:=[]) (by simp) (by kernel_rfl)
def Uc:ak:=⟨141,[a32,a9],.bool false⟩
theorem Nx:ah EA Uc:=af (n:=100) (l:=[TS,QO]) (by simp only[List.forall_mem_cons];exact⟨Oq,Pj,by simp⟩) (by kernel_rfl)
def T0:ak:=⟨162,[pE,a12],.bool false⟩
theorem OM:ah EA T0:=af (n:=100) (l:=[]) (by simp) (by kernel_rfl)
def TW:ak:=⟨80,[a33,a26],.int .i64 (-1)⟩
theorem PV:ah EA TW:=af (n:=100) (l:=[T0]) (by simp only[List.forall_mem_cons];exact⟨OM,by simp⟩) (by kernel_rfl)
def Um:ak:=⟨35,[a33,a26],.bool false⟩
theorem PT:ah EA Um:=af (n:=100) (l:=[TW]) (by simp only[List.forall_mem_cons];exact⟨PV,by simp⟩) (by kernel_rfl)
def Vv:ak:=⟨123,[a1,a33],.bool true⟩
theorem N0:ah EA Vv:=af (n:=100) (l:=[xZ,Um]) (by simp only[List.forall_mem_cons];exact⟨oP,PT,by simp⟩) (by kernel_rfl)
def Qy:ak:=⟨124,[a1,pE],.bool true⟩
theorem Mw:ah EA Qy:=af (n:=100) (l:=[]) (by simp) (by kernel_rfl)
def RN:ak:=⟨127,[a1,pE],Mc⟩
theorem MI:ah EA RN:=af (n:=100) (l:=[]) (by simp) (by kernel_rfl)
def Rq:ak:=⟨126,[a1,pE],.bool true⟩
theorem Py:ah EA Rq:=af (n:=100) (l:=[RN]) (by simp only[List.forall_mem_cons];exact⟨MI,by simp⟩) (by kernel_rfl)
def Sz:ak:=⟨99,[a1,a33,.aF],.int .i64 0⟩
theorem Px:ah EA Sz:=af (n:=100) (l:=[Vv,Qy,Rq]) (by simp only[List.forall_mem_cons];exact⟨N0,Mw,Py,by simp⟩) (by kernel_rfl)
def QV:ak:=⟨178,[a1,pE],.tup [.fsl 2 [[.int .i64 0,.int .i64 1]],.int .i64 0]⟩
theorem NI:ah EA QV:=af (n:=100) (l:=[Sz]) (by simp only[List.forall_mem_cons];exact⟨Px,by simp⟩) (by kernel_rfl)
def Lu:ak:=⟨179,[a2,.int .i64 1],.aF⟩
theorem Fj:ah EA Lu:=af (n:=100) (l:=[K3]) (by simp only[List.forall_mem_cons];exact⟨E9,by simp⟩) (by kernel_rfl)
def Uk:ak:=⟨140,[a1,pE],Mt⟩
theorem M6:ah EA Uk:=af (n:=100) (l:=[QV,Lu,KZ]) (by simp only[List.forall_mem_cons];exact⟨NI,Fj,Fg,by simp⟩) (by kernel_rfl)
def Vp:ak:=⟨180,[Rk,oN],.int .i64 1⟩
theorem Od:ah EA Vp:=af (n:=100) (l:=[]) (by simp) (by kernel_rfl)
def R3:ak:=⟨180,[Rk,oZ],.int .i64 0⟩
theorem OL:ah EA R3:=af (n:=100) (l:=[]) (by simp) (by kernel_rfl)
def UZ:ak:=⟨141,[Rk,a9],.bool false⟩
theorem Pu:ah EA UZ:=af (n:=100) (l:=[Vp,R3]) (by simp only[List.forall_mem_cons];exact⟨Od,OL,by simp⟩) (by kernel_rfl)
def To:ak:=⟨162,[a23,a12],.bool false⟩
theorem Pq:ah EA To:=af (n:=100) (l:=[]) (by simp) (by kernel_rfl)
def UP:ak:=⟨80,[a24,a26],.int .i64 (-1)⟩
theorem NY:ah EA UP:=af (n:=100) (l:=[To]) (by simp only[List.forall_mem_cons];exact⟨Pq,by simp⟩) (by kernel_rfl)
def RR:ak:=⟨35,[a24,a26],.bool false⟩
theorem M9:ah EA RR:=af (n:=100) (l:=[UP]) (by simp only[List.forall_mem_cons];exact⟨NY,by simp⟩) (by kernel_rfl)
def Ss:ak:=⟨123,[a1,a24],.bool true⟩
theorem NP:ah EA Ss:=af (n:=100) (l:=[xZ,RR]) (by simp only[List.forall_mem_cons];exact⟨oP,M9,by simp⟩) (by kernel_rfl)
def Qu:ak:=⟨124,[a1,a23],.bool true⟩
theorem ML:ah EA Qu:=af (n:=100) (l:=[]) (by simp) (by kernel_rfl)
def Vy:ak:=⟨127,[a1,a23],Mc⟩
theorem MU:ah EA Vy:=af (n:=100) (l:=[]) (by simp) (by kernel_rfl)
def TQ:ak:=⟨126,[a1,a23],.bool true⟩
theorem Mx:ah EA TQ:=af (n:=100) (l:=[Vy]) (by simp only[List.forall_mem_cons];exact⟨MU,by simp⟩) (by kernel_rfl)
def Kc:ak:=⟨99,[a1,a24,.aF],.int .i64 0⟩
theorem Fz:ah EA Kc:=af (n:=100) (l:=[Ss,Qu,TQ]) (by simp only[List.forall_mem_cons];exact⟨NP,ML,Mx,by simp⟩) (by kernel_rfl)
def T_:ak:=⟨178,[a1,a23],.tup [.fsl 2 [[.int .i64 0,.int .i64 1],[.int .i64 1,.int .i64 1]],.int .i64 0]⟩
theorem O7:ah EA T_:=af (n:=100) (l:=[Kc]) (by simp only[List.forall_mem_cons];exact⟨Fz,by simp⟩) (by kernel_rfl)
def Q5:ak:=⟨140,[a1,a23],Mt⟩
theorem OI:ah EA Q5:=af (n:=100) (l:=[T_,Lu,KS]) (by simp only[List.forall_mem_cons];exact⟨O7,Fj,EX,by simp⟩) (by kernel_rfl)
def R1:ak:=⟨180,[a35,oN],.int .i64 1⟩
theorem PZ:ah EA R1:=af (n:=100) (l:=[]) (by simp) (by kernel_rfl)
def QM:ak:=⟨180,[a35,oZ],.int .i64 1⟩
theorem OX:ah EA QM:=af (n:=100) (l:=[]) (by simp) (by kernel_rfl)
def SU:ak:=⟨141,[a35,a9],.bool true⟩
theorem PN:ah EA SU:=af (n:=100) (l:=[R1,QM]) (by simp only[List.forall_mem_cons];exact⟨PZ,OX,by simp⟩) (by kernel_rfl)
def Q0:ak:=⟨113,[a1,a9],.tup [.fsl 1 [[.fsl 1 [[.int .i64 0],[.int .i64 0]]],[.fsl 1 [[.int .i64 0],[.int .i64 1]]],[.fsl 1 [[.int .i64 1],[.int .i64 0]]],[.fsl 1 [[.int .i64 1],[.int .i64 1]]]],.fsl 1 [[.bool true],[.bool false],[.bool false],[.bool true]],.int .i64 0]⟩
theorem PD:ah EA Q0:=af (n:=100) (l:=[Yd,Yr,Xu,QS,TZ,RS,TE,Uc,Uk,UZ,Q5,SU]) (by simp only[List.forall_mem_cons];exact⟨Sr,SK,Ui,OQ,O3,No,NL,Nx,M6,Pu,OI,PN,by simp⟩) (by kernel_rfl)
def Ux:ak:=⟨85,[a1,a9],Xh⟩
theorem O9:ah EA Ux:=af (n:=100) (l:=[Q0]) (by simp only[List.forall_mem_cons];exact⟨PD,by simp⟩) (by kernel_rfl)
def JC:ak:=⟨63,[a1,fW],.bool true⟩
theorem Fu:ah EA JC:=af (n:=100) (l:=[J8]) (by simp only[List.forall_mem_cons];exact⟨Fh,by simp⟩) (by kernel_rfl)
def Rj:ak:=⟨71,[fW,a12],.bool false⟩
theorem PY:ah EA Rj:=af (n:=100) (l:=[JC]) (by simp only[List.forall_mem_cons];exact⟨Fu,by simp⟩) (by kernel_rfl)
def Du:ak:=⟨63,[a1,a23],.bool true⟩
theorem w_:ah EA Du:=af (n:=100) (l:=[Kc]) (by simp only[List.forall_mem_cons];exact⟨Fz,by simp⟩) (by kernel_rfl)
def TI:ak:=⟨71,[a23,a12],.bool false⟩
theorem MB:ah EA TI:=af (n:=100) (l:=[Du]) (by simp only[List.forall_mem_cons];exact⟨w_,by simp⟩) (by kernel_rfl)
def UW:ak:=⟨80,[a37,Md],.int .i64 (-1)⟩
theorem Pz:ah EA UW:=af (n:=100) (l:=[Rj,TI]) (by simp only[List.forall_mem_cons];exact⟨PY,MB,by simp⟩) (by kernel_rfl)
def Tm:ak:=⟨35,[a37,Md],.bool false⟩
theorem Pt:ah EA Tm:=af (n:=100) (l:=[UW]) (by simp only[List.forall_mem_cons];exact⟨Pz,by simp⟩) (by kernel_rfl)
def Lt:ak:=⟨104,[.int .i64 0,.int .i64 0],.int .i64 0⟩
theorem EP:ah EA Lt:=af (n:=100) (l:=[]) (by simp) (by kernel_rfl)
def Ty:ak:=⟨103,[fW,fW,.clo 104 [] []],fW⟩
theorem OD:ah EA Ty:=af (n:=100) (l:=[Lt]) (by simp only[List.forall_mem_cons];exact⟨EP,by simp⟩) (by kernel_rfl)
def Sn:ak:=⟨73,[fW,fW],fW⟩
theorem OG:ah EA Sn:=af (n:=100) (l:=[Ty]) (by simp only[List.forall_mem_cons];exact⟨OD,by simp⟩) (by kernel_rfl)
def LD:ak:=⟨105,[.int .i64 0,.int .i64 0],.int .i64 0⟩
theorem E8:ah EA LD:=af (n:=100) (l:=[]) (by simp) (by kernel_rfl)
def Uj:ak:=⟨103,[fW,fW,.clo 105 [] []],fW⟩
theorem M_:ah EA Uj:=af (n:=100) (l:=[LD]) (by simp only[List.forall_mem_cons];exact⟨E8,by simp⟩) (by kernel_rfl)
def SD:ak:=⟨74,[fW,fW],fW⟩
theorem Pc:ah EA SD:=af (n:=100) (l:=[Uj]) (by simp only[List.forall_mem_cons];exact⟨M_,by simp⟩) (by kernel_rfl)
def SQ:ak:=⟨104,[.int .i64 0,.int .i64 1],.int .i64 0⟩
theorem OY:ah EA SQ:=af (n:=100) (l:=[]) (by simp) (by kernel_rfl)
def QB:ak:=⟨103,[fW,a23,.clo 104 [] []],fW⟩
theorem Nf:ah EA QB:=af (n:=100) (l:=[SQ]) (by simp only[List.forall_mem_cons];exact⟨OY,by simp⟩) (by kernel_rfl)
def Ul:ak:=⟨73,[fW,a23],fW⟩
theorem NH:ah EA Ul:=af (n:=100) (l:=[QB]) (by simp only[List.forall_mem_cons];exact⟨Nf,by simp⟩) (by kernel_rfl)
def Ts:ak:=⟨105,[.int .i64 0,.int .i64 1],.int .i64 1⟩
theorem Pd:ah EA Ts:=af (n:=100) (l:=[]) (by simp) (by kernel_rfl)
def Th:ak:=⟨103,[fW,a23,.clo 105 [] []],a23⟩
theorem My:ah EA Th:=af (n:=100) (l:=[Ts]) (by simp only[List.forall_mem_cons];exact⟨Pd,by simp⟩) (by kernel_rfl)
def KP:ak:=⟨74,[fW,a23],a23⟩
theorem EC:ah EA KP:=af (n:=100) (l:=[Th]) (by simp only[List.forall_mem_cons];exact⟨My,by simp⟩) (by kernel_rfl)
def Q6:ak:=⟨61,[.agg [.bool false,.fsl 1 [[.int .i64 0],[.int .i64 0]],.fsl 1 [[.int .i64 1],[.int .i64 1]],.fsl 1 [[.fsl 1 [[.aF]]],[.fsl 1 [[.aF]]]]],a6],.aF⟩
theorem NV:ah EA Q6:=af (n:=100) (l:=[]) (by simp) (by kernel_rfl)
def JD:ak:=⟨104,[.int .i64 1,.int .i64 1],.int .i64 1⟩
theorem EE:ah EA JD:=af (n:=100) (l:=[]) (by simp) (by kernel_rfl)
def T3:ak:=⟨103,[a23,a23,.clo 104 [] []],a23⟩
theorem Po:ah EA T3:=af (n:=100) (l:=[JD]) (by simp only[List.forall_mem_cons];exact⟨EE,by simp⟩) (by kernel_rfl)
def Ud:ak:=⟨73,[a23,a23],a23⟩
theorem NK:ah EA Ud:=af (n:=100) (l:=[T3]) (by simp only[List.forall_mem_cons];exact⟨Po,by simp⟩) (by kernel_rfl)
def QZ:ak:=⟨61,[.agg [.bool false,.fsl 1 [[.int .i64 0],[.int .i64 0]],.fsl 1 [[.int .i64 1],[.int .i64 1]],.fsl 1 [[.fsl 1 [[.fsl 1 [[.int .i64 1],[.int .i64 1]]]]],[.fsl 1 [[.aF]]]]],a7],.aF⟩
theorem MV:ah EA QZ:=af (n:=100) (l:=[]) (by simp) (by kernel_rfl)
def Re:ak:=⟨28,[a1,a37],a39⟩
theorem Ny:ah EA Re:=af (n:=100) (l:=[xZ,Tm,Sn,SD,Ul,KP,Q6,Ud,QZ]) (by simp only[List.forall_mem_cons];exact⟨oP,Pt,OG,Pc,NH,EC,NV,NK,MV,by simp⟩) (by kernel_rfl)
def CN:ak:=⟨61,[a40,a6],a23⟩
theorem xx:ah EA CN:=af (n:=100) (l:=[]) (by simp) (by kernel_rfl)
def CH:ak:=⟨61,[a40,a7],a23⟩
theorem xd:ah EA CH:=af (n:=100) (l:=[]) (by simp) (by kernel_rfl)
def Gl:ak:=⟨94,[fW],.int .i64 0⟩
theorem AF:ah EA Gl:=af (n:=100) (l:=[]) (by simp) (by kernel_rfl)
def Si:ak:=⟨95,[fW,fW],.int .i64 0⟩
theorem NF:ah EA Si:=af (n:=100) (l:=[Jf]) (by simp only[List.forall_mem_cons];exact⟨z7,by simp⟩) (by kernel_rfl)
def KB:ak:=⟨92,[fW],.int .i64 0⟩
theorem EL:ah EA KB:=af (n:=100) (l:=[]) (by simp) (by kernel_rfl)
def Rg:ak:=⟨91,[fW,fW],.int .i64 0⟩
theorem N8:ah EA Rg:=af (n:=100) (l:=[Gl,Jf,Si,KB]) (by simp only[List.forall_mem_cons];exact⟨AF,z7,NF,EL,by simp⟩) (by kernel_rfl)
def Ho:ak:=⟨94,[a23],.int .i64 2⟩
theorem AR:ah EA Ho:=af (n:=100) (l:=[]) (by simp) (by kernel_rfl)
def Gf:ak:=⟨116,[.int .i64 2],.bool false⟩
theorem AE:ah EA Gf:=af (n:=100) (l:=[]) (by simp) (by kernel_rfl)
def R8:ak:=⟨93,[.int .i64 0,.int .i64 2],.int .i64 (-1)⟩
theorem Ol:ah EA R8:=af (n:=100) (l:=[ET,Gf]) (by simp only[List.forall_mem_cons];exact⟨vM,AE,by simp⟩) (by kernel_rfl)
def QH:ak:=⟨95,[fW,a23],.int .i64 (-1)⟩
theorem Oz:ah EA QH:=af (n:=100) (l:=[SP]) (by simp only[List.forall_mem_cons];exact⟨Io,by simp⟩) (by kernel_rfl)
def Se:ak:=⟨92,[.fsl 1 [[.int .i64 (-1)],[.int .i64 (-1)]]],.int .i64 (-1)⟩
theorem MM:ah EA Se:=af (n:=100) (l:=[]) (by simp) (by kernel_rfl)
def Qx:ak:=⟨91,[fW,a23],.int .i64 (-1)⟩
theorem Mz:ah EA Qx:=af (n:=100) (l:=[Gl,Ho,R8,QH,Se]) (by simp only[List.forall_mem_cons];exact⟨AF,AR,Ol,Oz,MM,by simp⟩) (by kernel_rfl)
def U3:ak:=⟨93,[.int .i64 2,.int .i64 0],.int .i64 1⟩
theorem M0:ah EA U3:=af (n:=100) (l:=[Gf,ET]) (by simp only[List.forall_mem_cons];exact⟨AE,vM,by simp⟩) (by kernel_rfl)
def SC:ak:=⟨95,[a23,fW],.int .i64 1⟩
theorem Oc:ah EA SC:=af (n:=100) (l:=[Sp]) (by simp only[List.forall_mem_cons];exact⟨HT,by simp⟩) (by kernel_rfl)
def SE:ak:=⟨92,[a23],.int .i64 1⟩
theorem N2:ah EA SE:=af (n:=100) (l:=[]) (by simp) (by kernel_rfl)
def Ru:ak:=⟨91,[a23,fW],.int .i64 1⟩
theorem O5:ah EA Ru:=af (n:=100) (l:=[Ho,Gl,U3,SC,SE]) (by simp only[List.forall_mem_cons];exact⟨AR,AF,M0,Oc,N2,by simp⟩) (by kernel_rfl)
def TA:ak:=⟨93,[.int .i64 2,.int .i64 2],.int .i64 0⟩
theorem P4:ah EA TA:=af (n:=100) (l:=[Gf]) (by simp only[List.forall_mem_cons];exact⟨AE,by simp⟩) (by kernel_rfl)
def QC:ak:=⟨91,[a23,a23],.int .i64 0⟩
theorem Oa:ah EA QC:=af (n:=100) (l:=[Ho,TA,Kx,KB]) (by simp only[List.forall_mem_cons];exact⟨AR,P4,Ez,EL,by simp⟩) (by kernel_rfl)
def Jx:ak:=⟨49,[a40],.tup [.fsl 1 [[.fsl 1 [[.int .i64 0],[.int .i64 0]]],[.fsl 1 [[.int .i64 1],[.int .i64 1]]]],.bool true]⟩
theorem Fv:ah EA Jx:=af (n:=100) (l:=[CN,KP,CH,Rg,Qx,Ru,QC]) (by simp only[List.forall_mem_cons];exact⟨xx,EC,xd,N8,Mz,O5,Oa,by simp⟩) (by kernel_rfl)
def UL:ak:=⟨39,[a1,a9],a39⟩
theorem OS:ah EA UL:=af (n:=100) (l:=[Ux,Re,Jx]) (by simp only[List.forall_mem_cons];exact⟨O9,Ny,Fv,by simp⟩) (by kernel_rfl)
def GN:ak:=⟨24,[fW,a23],.bool true⟩
theorem Ax:ah EA GN:=af (n:=100) (l:=[]) (by simp) (by kernel_rfl)
def S3:ak:=⟨55,[a1,a40],.bool true⟩
theorem Ox:ah EA S3:=af (n:=100) (l:=[JC,Du,GN]) (by simp only[List.forall_mem_cons];exact⟨Fu,w_,Ax,by simp⟩) (by kernel_rfl)
def Sd:ak:=⟨57,[a1],a23⟩
theorem Nd:ah EA Sd:=af (n:=100) (l:=[]) (by simp) (by kernel_rfl)
def Tk:ak:=⟨97,[a6,a23],.bool true⟩
theorem NQ:ah EA Tk:=af (n:=100) (l:=[]) (by simp) (by kernel_rfl)
def T6:ak:=⟨97,[a6,fW],.bool false⟩
theorem Np:ah EA T6:=af (n:=100) (l:=[]) (by simp) (by kernel_rfl)
def CD:ak:=⟨24,[a23,a23],.bool true⟩
theorem xG:ah EA CD:=af (n:=100) (l:=[]) (by simp) (by kernel_rfl)
def Rz:ak:=⟨59,[a1,a40,a6],.bool true⟩
theorem MK:ah EA Rz:=af (n:=100) (l:=[CN,Tk,T6,Du,GN,CD]) (by simp only[List.forall_mem_cons];exact⟨xx,NQ,Np,w_,Ax,xG,by simp⟩) (by kernel_rfl)
def Q2:ak:=⟨58,[a6,a12,a41],.bool true⟩
theorem OE:ah EA Q2:=af (n:=100) (l:=[Rz]) (by simp only[List.forall_mem_cons];exact⟨MK,by simp⟩) (by kernel_rfl)
def Vm:ak:=⟨97,[a7,a23],.bool true⟩
theorem M7:ah EA Vm:=af (n:=100) (l:=[]) (by simp) (by kernel_rfl)
def R5:ak:=⟨97,[a7,fW],.bool false⟩
theorem O1:ah EA R5:=af (n:=100) (l:=[]) (by simp) (by kernel_rfl)
def Us:ak:=⟨59,[a1,a40,a7],.bool true⟩
theorem Ou:ah EA Us:=af (n:=100) (l:=[CH,Vm,R5,Du,GN,CD]) (by simp only[List.forall_mem_cons];exact⟨xd,M7,O1,w_,Ax,xG,by simp⟩) (by kernel_rfl)
def RY:ak:=⟨58,[a7,a12,a41],.bool true⟩
theorem OP:ah EA RY:=af (n:=100) (l:=[Us]) (by simp only[List.forall_mem_cons];exact⟨Ou,by simp⟩) (by kernel_rfl)
def Ky:ak:=⟨62,[a6,a41,X8],.bool true⟩
theorem ED:ah EA Ky:=af (n:=100) (l:=[CN,CD]) (by simp only[List.forall_mem_cons];exact⟨xx,xG,by simp⟩) (by kernel_rfl)
def JJ:ak:=⟨62,[a7,a41,X8],.bool true⟩
theorem E0:ah EA JJ:=af (n:=100) (l:=[CH,CD]) (by simp only[List.forall_mem_cons];exact⟨xd,xG,by simp⟩) (by kernel_rfl)
def Tw:ak:=⟨60,[a6,a41],.bool true⟩
theorem O_:ah EA Tw:=af (n:=100) (l:=[CN,Ky,JJ]) (by simp only[List.forall_mem_cons];exact⟨xx,ED,E0,by simp⟩) (by kernel_rfl)
def TO:ak:=⟨60,[a7,a41],.bool true⟩
theorem ME:ah EA TO:=af (n:=100) (l:=[CH,Ky,JJ]) (by simp only[List.forall_mem_cons];exact⟨xd,ED,E0,by simp⟩) (by kernel_rfl)
def Uy:ak:=⟨17,[a1,a40],.bool true⟩
theorem PO:ah EA Uy:=af (n:=100) (l:=[xZ,S3,Sd,Q2,RY,Tw,TO]) (by simp only[List.forall_mem_cons];exact⟨oP,Ox,Nd,OE,OP,O_,ME,by simp⟩) (by kernel_rfl)
def T5:ak:=⟨13,[a1,a40],Xh⟩
theorem Ni:ah EA T5:=af (n:=100) (l:=[Uy,Jx]) (by simp only[List.forall_mem_cons];exact⟨PO,Fv,by simp⟩) (by kernel_rfl)
def Rc:ak:=⟨63,[a1,a20],.bool true⟩
theorem NB:ah EA Rc:=af (n:=100) (l:=[KW]) (by simp only[List.forall_mem_cons];exact⟨Fb,by simp⟩) (by kernel_rfl)
def SO:ak:=⟨71,[a20,a12],.bool false⟩
theorem Pn:ah EA SO:=af (n:=100) (l:=[Rc]) (by simp only[List.forall_mem_cons];exact⟨NB,by simp⟩) (by kernel_rfl)
def Sk:ak:=⟨80,[a31,Md],.int .i64 (-1)⟩
theorem Ns:ah EA Sk:=af (n:=100) (l:=[SO]) (by simp only[List.forall_mem_cons];exact⟨Pn,by simp⟩) (by kernel_rfl)
def Rs:ak:=⟨35,[a31,Md],.bool false⟩
theorem Nl:ah EA Rs:=af (n:=100) (l:=[Sk]) (by simp only[List.forall_mem_cons];exact⟨Ns,by simp⟩) (by kernel_rfl)
def TR:ak:=⟨103,[a20,a20,.clo 104 [] []],a20⟩
theorem MJ:ah EA TR:=af (n:=100) (l:=[Lt,JD]) (by simp only[List.forall_mem_cons];exact⟨EP,EE,by simp⟩) (by kernel_rfl)
def QG:ak:=⟨73,[a20,a20],a20⟩
theorem OR:ah EA QG:=af (n:=100) (l:=[TR]) (by simp only[List.forall_mem_cons];exact⟨MJ,by simp⟩) (by kernel_rfl)
def Tp:ak:=⟨105,[.int .i64 1,.int .i64 1],.int .i64 1⟩
theorem M3:ah EA Tp:=af (n:=100) (l:=[]) (by simp) (by kernel_rfl)
def SJ:ak:=⟨103,[a20,a20,.clo 105 [] []],a20⟩
theorem MF:ah EA SJ:=af (n:=100) (l:=[LD,Tp]) (by simp only[List.forall_mem_cons];exact⟨E8,M3,by simp⟩) (by kernel_rfl)
def Vl:ak:=⟨74,[a20,a20],a20⟩
theorem MC:ah EA Vl:=af (n:=100) (l:=[SJ]) (by simp only[List.forall_mem_cons];exact⟨MF,by simp⟩) (by kernel_rfl)
def TV:ak:=⟨61,[.agg [.bool false,.fsl 1 [[.int .i64 0],[.int .i64 1]],.fsl 1 [[.int .i64 0],[.int .i64 1]],.fsl 1 [[.fsl 1 [[.aF]]],[.fsl 1 [[.aF]]]]],a7],.aF⟩
theorem OV:ah EA TV:=af (n:=100) (l:=[]) (by simp) (by kernel_rfl)
def Uw:ak:=⟨28,[a1,a31],.tup [.agg [.bool false,.fsl 1 [[.int .i64 0],[.int .i64 1]],.fsl 1 [[.int .i64 0],[.int .i64 1]],.fsl 1 [[.fsl 1 [[.aF]]],[.fsl 1 [[.fsl 1 [[.int .i64 0],[.int .i64 1]]]]]]],.int .i64 0]⟩
theorem MO:ah EA Uw:=af (n:=100) (l:=[xZ,Rs,QG,Vl,TV]) (by simp only[List.forall_mem_cons];exact⟨oP,Nl,OR,MC,OV,by simp⟩) (by kernel_rfl)
def KY:ak:=⟨53,[fW,fW],.bool true⟩
theorem E6:ah EA KY:=af (n:=100) (l:=[]) (by simp) (by kernel_rfl)
def Gk:ak:=⟨53,[a23,a23],.bool true⟩
theorem AP:ah EA Gk:=af (n:=100) (l:=[]) (by simp) (by kernel_rfl)
def Tg:ak:=⟨16,[a24,a24],.bool true⟩
theorem ON:ah EA Tg:=af (n:=100) (l:=[Gk]) (by simp only[List.forall_mem_cons];exact⟨AP,by simp⟩) (by kernel_rfl)
def VA:ak:=⟨33,[a40,a40],.bool true⟩
theorem Pk:ah EA VA:=af (n:=100) (l:=[KY,Gk,Tg]) (by simp only[List.forall_mem_cons];exact⟨E6,AP,ON,by simp⟩) (by kernel_rfl)
def Sw:ak:=⟨16,[a37,a37],.bool true⟩
theorem PJ:ah EA Sw:=af (n:=100) (l:=[KY,Gk]) (by simp only[List.forall_mem_cons];exact⟨E6,AP,by simp⟩) (by kernel_rfl)
def Li:ak:=⟨53,[a20,a20],.bool true⟩
theorem E4:ah EA Li:=af (n:=100) (l:=[]) (by simp) (by kernel_rfl)
def Q7:ak:=⟨53,[.aF,.aF],.bool true⟩
theorem MW:ah EA Q7:=af (n:=100) (l:=[]) (by simp) (by kernel_rfl)
def S5:ak:=⟨16,[.fsl 1 [[.aF]],.fsl 1 [[.aF]]],.bool true⟩
theorem Oe:ah EA S5:=af (n:=100) (l:=[Q7]) (by simp only[List.forall_mem_cons];exact⟨MW,by simp⟩) (by kernel_rfl)
def U7:ak:=⟨16,[a31,a31],.bool true⟩
theorem MQ:ah EA U7:=af (n:=100) (l:=[Li]) (by simp only[List.forall_mem_cons];exact⟨E4,by simp⟩) (by kernel_rfl)
def Vi:ak:=⟨33,[Xl,Xl],.bool true⟩
theorem Pp:ah EA Vi:=af (n:=100) (l:=[Li,S5,U7]) (by simp only[List.forall_mem_cons];exact⟨E4,Oe,MQ,by simp⟩) (by kernel_rfl)
theorem F_:∃n H1,run EA n (.fn 9) [] []=some (.bool true,H1):=He (n:=100) (l:=[UL,T5,Uw,VA,Sw,Vi]) (by simp only[List.forall_mem_cons];exact⟨OS,Ni,MO,Pk,PJ,Pp,by simp⟩) (by kernel_rfl)
theorem calls (n:Nat):iE Tryz.prog (run E n):=Be Wg mixed ⟨Mj,fun f az b h=>by
 by_cases hf:Nat.beq f 9=true
 ·have e:E.known f az=if az.isEmpty then some (.bool true)else none:=by unfold E zU;simp only[hf,if_true]
  rw[e]at h;split at h
  ·rename_i ha;cases h;have:f=9:=Nat.eq_of_beq_eq_true hf;subst this;have:az=[]:=List.isEmpty_iff.1 ha;subst this;obtain⟨n,H1,h1⟩:=F_;exact HZ (TN n) h1
  ·cases h
 ·have e:E.known f az=EA.known f az:=by unfold E EA zU;simp only[hf,if_false,Bool.false_eq_true]
  rw[e]at h;exact IS f az b h⟩ n
end Go.Proofs.YtjbnbbbiijdbpaaGreatDoor
