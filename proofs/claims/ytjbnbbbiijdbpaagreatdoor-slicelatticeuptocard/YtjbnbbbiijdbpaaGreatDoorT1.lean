/-
 The tables of this seat, and the law's own awakening.
-/
import Derived.Test.YtjbnbbbiijdbpaaGreatDoorProg
import Derived.KernelRfl
import Derived.Test.YtjbnbbbiijdbpaaGreatDoorV2
set_option linter.all false
namespace Go.Proofs.YtjbnbbbiijdbpaaGreatDoor
open Go.VE Go.Proofs
def Cu:List Int:=[-1,0,0,0,0,1,2,2,2,2,2,2,2,0,0,1,2,2,1,1,1,1]
instance:aX:=⟨fun g=>if Nat.beq g 0 then some (Cu.map (V.int .i64))else none,fun g cs h=>by
 split at h
 ·cases h;exact⟨_,_,rfl⟩
 ·cases h⟩
noncomputable def EA:Env:=zM Tryz.prog [0,1,90,89] [131,72,221,232,90,102,192,194,195,213,56,75,89] [131,72,221] [(89,2),(108,8)] (fun f=>Nat.beq f 90) fun f az=>(if Nat.beq f 89 then tL 8 az else none)
noncomputable def E:Env:=zM Tryz.prog [0,1,90,89,9] [131,72,221,232,90,102] [131,72,221] [(89,2),(108,8)] (fun f=>Nat.beq f 90) fun f az=>if Nat.beq f 9 then(if az.isEmpty then some (.bool true)else none)else(if Nat.beq f 89 then tL 8 az else none)
theorem Xk:xy Tryz.prog=true:=by kernel_rfl
theorem Y7:pQ Tryz.prog 89 2:=pQ.two (i:=3) Tryz.underlying89 rfl rfl rfl rfl (by decide) (by decide) (by kernel_rfl) Tryz.underlying3 (by kernel_rfl) (by kernel_rfl)
theorem Wk:pQ Tryz.prog 108 8:=pQ.arr (i:=3) Tryz.underlying108 (by kernel_rfl) Tryz.underlying3 (by kernel_rfl)
theorem Vy:∀p∈[(89,2),(108,8)],pQ Tryz.prog p.1 p.2:=fun p h=>match p,h with|_,.head _=>Y7|_,.tail _ (.head _)=>Wk
theorem TP:c7 Tryz.prog EA:=CZ Xk Vy
theorem Wo:c7 Tryz.prog E:=CZ Xk Vy
theorem mixed:Tryz.prog.follows .mixedOrders=true:=by kernel_rfl
open Go.Shelf
def Tryz.vO:Go.Shelf.Ren:=⟨fun|6=>90|15=>115|14=>114|28=>150|29=>151|20=>142|21=>143|22=>144|23=>145|24=>146|25=>147|26=>148|27=>149|46=>181|47=>182|48=>183|49=>184|50=>185|57=>211|n=>n,fun|22=>33|24=>25|25=>114|3=>3|39=>134|0=>0|53=>173|55=>175|4=>4|46=>166|45=>165|50=>170|5=>5|9=>9|66=>197|70=>201|76=>220|77=>221|n=>n,fun|n=>n⟩
theorem Tryz.L0:Go.Proofs.SlLaysF.n6 Tryz.prog Tryz.vO:={
 mixed:=by kernel_rfl
 f6:=⟨Tryz.f90.name,by decide,Tryz.func90.trans (congrArg some (by kernel_rfl))⟩
 f14:=⟨Tryz.f114.name,by decide,Tryz.func114.trans (congrArg some (by kernel_rfl))⟩
 f15:=Tryz.func115.trans (congrArg some (by kernel_rfl))
 f20:=⟨Tryz.f142.name,by decide,Tryz.func142.trans (congrArg some (by kernel_rfl))⟩
 f21:=⟨Tryz.f143.name,by decide,Tryz.func143.trans (congrArg some (by kernel_rfl))⟩
 f22:=⟨Tryz.f144.name,by decide,Tryz.func144.trans (congrArg some (by kernel_rfl))⟩
 f23:=⟨Tryz.f145.name,by decide,Tryz.func145.trans (congrArg some (by kernel_rfl))⟩
 f24:=⟨Tryz.f146.name,by decide,Tryz.func146.trans (congrArg some (by kernel_rfl))⟩
 f25:=⟨Tryz.f147.name,by decide,Tryz.func147.trans (congrArg some (by kernel_rfl))⟩
 f26:=⟨Tryz.f148.name,by decide,Tryz.func148.trans (congrArg some (by kernel_rfl))⟩
 f27:=⟨Tryz.f149.name,by decide,Tryz.func149.trans (congrArg some (by kernel_rfl))⟩
 f28:=Tryz.func150.trans (congrArg some (by kernel_rfl))
 f29:=Tryz.func151.trans (congrArg some (by kernel_rfl))
 f46:=⟨Tryz.f181.name,by decide,Tryz.func181.trans (congrArg some (by kernel_rfl))⟩
 f47:=Tryz.func182.trans (congrArg some (by kernel_rfl))
 f48:=Tryz.func183.trans (congrArg some (by kernel_rfl))
 f49:=⟨Tryz.f184.name,by decide,Tryz.func184.trans (congrArg some (by kernel_rfl))⟩
 f50:=⟨Tryz.f185.name,by decide,Tryz.func185.trans (congrArg some (by kernel_rfl))⟩
 f57:=⟨Tryz.f211.name,by decide,Tryz.func211.trans (congrArg some (by kernel_rfl))⟩
 t0:=Tryz.underlying0
 a0:=Tryz.isAgg0
 z0:=Tryz.sizeOf0
 v0:=Tryz.zeroValue0
 t3:=Tryz.underlying3
 a3:=Tryz.isAgg3
 z3:=Tryz.sizeOf3
 v3:=Tryz.zeroValue3
 t4:=Tryz.underlying4
 a4:=Tryz.isAgg4
 z4:=Tryz.sizeOf4
 v4:=Tryz.zeroValue4
 t5:=Tryz.underlying5
 a5:=Tryz.isAgg5
 z5:=Tryz.sizeOf5
 v5:=Tryz.zeroValue5
 t9:=Tryz.underlying9
 a9:=Tryz.isAgg9
 z9:=Tryz.sizeOf9
 v9:=Tryz.zeroValue9
 t22:=Tryz.underlying33
 a22:=Tryz.isAgg33
 z22:=Tryz.sizeOf33
 v22:=Tryz.zeroValue33
 a24:=Tryz.isAgg25
 z24:=Tryz.sizeOf25
 t25:=Tryz.underlying114
 a25:=Tryz.isAgg114
 z25:=Tryz.sizeOf114
 v25:=Tryz.zeroValue114
 t39:=Tryz.underlying134
 a39:=Tryz.isAgg134
 z39:=Tryz.sizeOf134
 v39:=Tryz.zeroValue134
 t45:=Tryz.underlying165
 a45:=Tryz.isAgg165
 z45:=Tryz.sizeOf165
 v45:=Tryz.zeroValue165
 t46:=Tryz.underlying166
 a46:=Tryz.isAgg166
 z46:=Tryz.sizeOf166
 v46:=Tryz.zeroValue166
 t50:=Tryz.underlying170
 a50:=Tryz.isAgg170
 z50:=Tryz.sizeOf170
 v50:=Tryz.zeroValue170
 t53:=Tryz.underlying173
 a53:=Tryz.isAgg173
 z53:=Tryz.sizeOf173
 v53:=Tryz.zeroValue173
 t55:=Tryz.underlying175
 a55:=Tryz.isAgg175
 z55:=Tryz.sizeOf175
 v55:=Tryz.zeroValue175
 t66:=Tryz.underlying197
 a66:=Tryz.isAgg197
 z66:=Tryz.sizeOf197
 v66:=Tryz.zeroValue197
 t70:=Tryz.underlying201
 a70:=Tryz.isAgg201
 z70:=Tryz.sizeOf201
 v70:=Tryz.zeroValue201
 t76:=Tryz.underlying220
 a76:=Tryz.isAgg220
 z76:=Tryz.sizeOf220
 v76:=Tryz.zeroValue220
 t77:=Tryz.underlying221
 a77:=Tryz.isAgg221
 z77:=Tryz.sizeOf221
 v77:=Tryz.zeroValue221 }
theorem NO:xC Tryz.prog 90 where
 ok:=⟨Tryz.f90,Tryz.func90,by kernel_rfl,by kernel_rfl⟩
 zero:=fun p cap fv w=>AnyF.slices_SortFunc_none (ρ:=Tryz.vO) { Tryz.L0 with } p cap fv w
 all:=fun enc h1 cf hO g cb blk off cap d w eg hc hH hb hs=>Any.slices_SortFunc_eq (ρ:=Tryz.vO) Tryz.L0 enc h1 cf hO g cb blk off cap d w eg hc hH hb hs
theorem Md:∀f,EA.sort f=true→xC Tryz.prog f:=fun f h=>by
 have:f=90:=Nat.eq_of_beq_eq_true h;subst this;exact NO
theorem tG:∀az y,tL 8 az=some y→sx Tryz.prog 89 az y:=
 N2 (f:=89) (A:=108) (S:=25) (e:=3) (n:=8) (bytes:=64) Tryz.func89 rfl rfl rfl (by kernel_rfl) Tryz.underlying108 Tryz.underlying25 (by kernel_rfl) (by kernel_rfl)
theorem IU:∀f az y,EA.known f az=some y→sx Tryz.prog f az y:=fun f az y h=>by
 change (if Nat.beq f 89 then tL 8 az else none)=some y at h;split at h
 ·rename_i hf;have:f=89:=Nat.eq_of_beq_eq_true hf;subst this;exact tG az y h
 ·cases h
theorem Sk (n:Nat):iH Tryz.prog (run EA n):=Bo TP mixed ⟨Md,IU⟩ n
end Go.Proofs.YtjbnbbbiijdbpaaGreatDoor
namespace Go.Proofs.YtjbnbbbiijdbpaaGreatDoor
open Go.VE Go.Proofs
def a0:V:=.clo 154 [] [.fptr [.str (ByteArray.mk #[112]),.aG,.fsl 5 [[.int .i64 1,.int .i64 0,.int .i64 0,.int .i64 0,.aG]]]]
def a1:V:=.agg [.fsl 3 [[.str (ByteArray.mk #[112]),.aG,.fsl 5 [[.int .i64 1,.int .i64 0,.int .i64 0,.int .i64 0,.aG]]],[.str (ByteArray.mk #[113]),.aG,.fsl 5 [[.int .i64 1,.int .i64 0,.int .i64 0,.int .i64 0,.aG]]]]]
def a2:V:=.agg [.str (ByteArray.mk #[112]),.aG,.fsl 5 [[.int .i64 1,.int .i64 0,.int .i64 0,.int .i64 0,.aG]]]
def a3:V:=.fsl 3 [[.str (ByteArray.mk #[112]),.aG,.fsl 5 [[.int .i64 1,.int .i64 0,.int .i64 0,.int .i64 0,.aG]]]]
def a4:V:=.clo 154 [] [.fptr [.str (ByteArray.mk #[113]),.aG,.fsl 5 [[.int .i64 1,.int .i64 0,.int .i64 0,.int .i64 0,.aG]]]]
def a5:V:=.agg [.int .i64 1,.int .i64 0,.int .i64 0,.int .i64 0,.aG]
def a6:V:=.agg [.int .i64 0,.int .i64 1]
def a7:V:=.agg [.int .i64 1,.int .i64 1]
def a8:V:=.fptr [.int .i64 0,.int .i64 0,.int .i64 0,.int .i64 0,.int .i64 0,.int .i64 0,.int .i64 0,.int .i64 0,.int .i64 0,.int .i64 0,.int .i64 0,.int .i64 0,.int .i64 0,.int .i64 0,.int .i64 0,.int .i64 0,.int .i64 0,.int .i64 0,.int .i64 0,.int .i64 0,.int .i64 0,.int .i64 0,.int .i64 0,.int .i64 0,.int .i64 0,.int .i64 0,.int .i64 0,.int .i64 0,.int .i64 0,.int .i64 0,.int .i64 0,.int .i64 0,.int .i64 0,.int .i64 0,.int .i64 0,.int .i64 0,.int .i64 0,.int .i64 0,.int .i64 0,.int .i64 0,.int .i64 0,.int .i64 0,.int .i64 0,.int .i64 0,.int .i64 0,.int .i64 0,.int .i64 0,.int .i64 0,.int .i64 0,.int .i64 0,.int .i64 0,.int .i64 0,.int .i64 0,.int .i64 0,.int .i64 0,.int .i64 0,.int .i64 0,.int .i64 0,.int .i64 0,.int .i64 0,.int .i64 0,.int .i64 0,.int .i64 0,.int .i64 0,.int .i64 0,.int .i64 0,.int .i64 0,.int .i64 0,.int .i64 0,.int .i64 0,.int .i64 0,.int .i64 0,.int .i64 0,.int .i64 0,.int .i64 0,.int .i64 0,.int .i64 0,.int .i64 0,.int .i64 0,.int .i64 0,.int .i64 0,.int .i64 0,.int .i64 0,.int .i64 0,.int .i64 0,.int .i64 0,.int .i64 0,.int .i64 0,.int .i64 0,.int .i64 0,.int .i64 0,.int .i64 0,.int .i64 0,.int .i64 0,.int .i64 0,.int .i64 0,.int .i64 0,.int .i64 0,.int .i64 0,.int .i64 0,.int .i64 0,.int .i64 0,.int .i64 0,.int .i64 0,.int .i64 0,.int .i64 0,.int .i64 0,.int .i64 0,.int .i64 0,.int .i64 0,.int .i64 0,.int .i64 0,.int .i64 0,.int .i64 0,.int .i64 0,.int .i64 0,.int .i64 0,.int .i64 0,.int .i64 0,.int .i64 0,.int .i64 0,.int .i64 0,.int .i64 0,.int .i64 0,.int .i64 0,.int .i64 0,.int .i64 0,.int .i64 0,.int .i64 0,.int .i64 0,.int .i64 0,.int .i64 0,.int .i64 0,.int .i64 0,.int .i64 0,.int .i64 0,.int .i64 0,.int .i64 0,.int .i64 0,.int .i64 0,.int .i64 0,.int .i64 0,.int .i64 0,.int .i64 0,.int .i64 0,.int .i64 0,.int .i64 0,.int .i64 0,.int .i64 0,.int .i64 0,.int .i64 0,.int .i64 0,.int .i64 0,.int .i64 0,.int .i64 0,.int .i64 0,.int .i64 0,.int .i64 0,.int .i64 0,.int .i64 0,.int .i64 0,.int .i64 0,.int .i64 0,.int .i64 0,.int .i64 0,.int .i64 0,.int .i64 0,.int .i64 0,.int .i64 0,.int .i64 0,.int .i64 0,.int .i64 0,.int .i64 0,.int .i64 0,.int .i64 0,.int .i64 0,.int .i64 0,.int .i64 0,.int .i64 0,.int .i64 0,.int .i64 0,.int .i64 0,.int .i64 0,.int .i64 0,.int .i64 0,.int .i64 0,.int .i64 0,.int .i64 0,.int .i64 0,.int .i64 0,.int .i64 0,.int .i64 0,.int .i64 0,.int .i64 0,.int .i64 0,.int .i64 0,.int .i64 0,.int .i64 0,.int .i64 0,.int .i64 0,.int .i64 0,.int .i64 0,.int .i64 0,.int .i64 0,.int .i64 0,.int .i64 0,.int .i64 0,.int .i64 0,.int .i64 0,.int .i64 0,.int .i64 0,.int .i64 0,.int .i64 0,.int .i64 0,.int .i64 0,.int .i64 0,.int .i64 0,.int .i64 0,.int .i64 0,.int .i64 0,.int .i64 0,.int .i64 0,.int .i64 0,.int .i64 0,.int .i64 0,.int .i64 0,.int .i64 0,.int .i64 0,.int .i64 0,.int .i64 0,.int .i64 0,.int .i64 0,.int .i64 0,.int .i64 0,.int .i64 0,.int .i64 0,.int .i64 0,.int .i64 0,.int .i64 0,.int .i64 0,.int .i64 0,.int .i64 0,.int .i64 0,.int .i64 0,.int .i64 0,.int .i64 0,.int .i64 0,.int .i64 0,.int .i64 0,.int .i64 0,.int .i64 0,.int .i64 0,.int .i64 0,.int .i64 0,.int .i64 0,.int .i64 0,.int .i64 0,.int .i64 0,.int .i64 0,.int .i64 0,.int .i64 0,.int .i64 0,.int .i64 0,.int .i64 0,.int .i64 0,.int .i64 0,.int .i64 0,.int .i64 0,.int .i64 0,.int .i64 0,.int .i64 0,.int .i64 0,.int .i64 0,.int .i64 0,.int .i64 0,.int .i64 0,.int .i64 0,.int .i64 0,.int .i64 0,.int .i64 0,.int .i64 0,.int .i64 0,.int .i64 0,.int .i64 0,.int .i64 0,.int .i64 0,.int .i64 0,.int .i64 0,.int .i64 0,.int .i64 0,.int .i64 0,.int .i64 0,.int .i64 0,.int .i64 0,.int .i64 0,.int .i64 0,.int .i64 0,.int .i64 0,.int .i64 0,.int .i64 0,.int .i64 0,.int .i64 0,.int .i64 0,.int .i64 0,.int .i64 0,.int .i64 0,.int .i64 0,.int .i64 0,.int .i64 0,.int .i64 0,.int .i64 0,.int .i64 0,.int .i64 0,.int .i64 0,.int .i64 0,.int .i64 0,.int .i64 0,.int .i64 0,.int .i64 0,.int .i64 0,.int .i64 0,.int .i64 0,.int .i64 0,.int .i64 0,.int .i64 0,.int .i64 0,.int .i64 0,.int .i64 0,.int .i64 0,.int .i64 0,.int .i64 0,.int .i64 0,.int .i64 0,.int .i64 0,.int .i64 0,.int .i64 0,.int .i64 0,.int .i64 0,.int .i64 0,.int .i64 0,.int .i64 0,.int .i64 0,.int .i64 0,.int .i64 0,.int .i64 0,.int .i64 0,.int .i64 0,.int .i64 0,.int .i64 0,.int .i64 0,.int .i64 0,.int .i64 0,.int .i64 0,.int .i64 0,.int .i64 0,.int .i64 0,.int .i64 0,.int .i64 0,.int .i64 0,.int .i64 0,.int .i64 0,.int .i64 0,.int .i64 0,.int .i64 0,.int .i64 0,.int .i64 0,.int .i64 0,.int .i64 0,.int .i64 0,.int .i64 0,.int .i64 0,.int .i64 0,.int .i64 0,.int .i64 0,.int .i64 0,.int .i64 0,.int .i64 0,.int .i64 0,.int .i64 0,.int .i64 0,.int .i64 0,.int .i64 0,.int .i64 0,.int .i64 0,.int .i64 0,.int .i64 0,.int .i64 0,.int .i64 0,.int .i64 0,.int .i64 0,.int .i64 0,.int .i64 0,.int .i64 0,.int .i64 0,.int .i64 0,.int .i64 0,.int .i64 0,.int .i64 0,.int .i64 0,.int .i64 0,.int .i64 0,.int .i64 0,.int .i64 0,.int .i64 0,.int .i64 0,.int .i64 0,.int .i64 0,.int .i64 0,.int .i64 0,.int .i64 0,.int .i64 0,.int .i64 0,.int .i64 0,.int .i64 0,.int .i64 0,.int .i64 0,.int .i64 0,.int .i64 0,.int .i64 0,.int .i64 0,.int .i64 0,.int .i64 0,.int .i64 0,.int .i64 0,.int .i64 0,.int .i64 0,.int .i64 0,.int .i64 0,.int .i64 0,.int .i64 0,.int .i64 0,.int .i64 0,.int .i64 0,.int .i64 0,.int .i64 0,.int .i64 0,.int .i64 0,.int .i64 0,.int .i64 0,.int .i64 0,.int .i64 0,.int .i64 0,.int .i64 0,.int .i64 0,.int .i64 0,.int .i64 0,.int .i64 0,.int .i64 0,.int .i64 0,.int .i64 0,.int .i64 0,.int .i64 0,.int .i64 0,.int .i64 0,.int .i64 0,.int .i64 0,.int .i64 0,.int .i64 0,.int .i64 0,.int .i64 0,.int .i64 0,.int .i64 0,.int .i64 0,.int .i64 0,.int .i64 0,.int .i64 0,.int .i64 0,.int .i64 0,.int .i64 0,.int .i64 0,.int .i64 0,.int .i64 0,.int .i64 0,.int .i64 0,.int .i64 0,.int .i64 0,.int .i64 0,.int .i64 0,.int .i64 0,.int .i64 0,.int .i64 0,.int .i64 0,.int .i64 0,.int .i64 0,.int .i64 0,.int .i64 0,.int .i64 0,.int .i64 0,.int .i64 0,.int .i64 0,.int .i64 0,.int .i64 0,.int .i64 0,.int .i64 0,.int .i64 0,.int .i64 0,.int .i64 0,.int .i64 0,.int .i64 0,.int .i64 0,.int .i64 0,.int .i64 0,.int .i64 0,.int .i64 0,.int .i64 0,.int .i64 0,.int .i64 0,.int .i64 0,.int .i64 0,.int .i64 0,.int .i64 0,.int .i64 0,.int .i64 0,.int .i64 0,.int .i64 0,.int .i64 0,.int .i64 0,.int .i64 0,.int .i64 0,.int .i64 0,.int .i64 0,.int .i64 0,.int .i64 0,.int .i64 0,.int .i64 0,.int .i64 0,.int .i64 0,.int .i64 0,.int .i64 0,.int .i64 0,.int .i64 0,.int .i64 0,.int .i64 0,.int .i64 0,.int .i64 0,.int .i64 0,.int .i64 0,.int .i64 0,.int .i64 0,.int .i64 0,.int .i64 0,.int .i64 0,.int .i64 0,.int .i64 0,.int .i64 0,.int .i64 0,.int .i64 0,.int .i64 0,.int .i64 0,.int .i64 0,.int .i64 0,.int .i64 0,.int .i64 0,.int .i64 0,.int .i64 0,.int .i64 0,.int .i64 0,.int .i64 0,.int .i64 0,.int .i64 0,.int .i64 0,.int .i64 0,.int .i64 0,.int .i64 0,.int .i64 0,.int .i64 0,.int .i64 0,.int .i64 0,.int .i64 0,.int .i64 0,.int .i64 0,.int .i64 0,.int .i64 0,.int .i64 0,.int .i64 0,.int .i64 0,.int .i64 0,.int .i64 0,.int .i64 0,.int .i64 0,.int .i64 0,.int .i64 0,.int .i64 0,.int .i64 0,.int .i64 0,.int .i64 0,.int .i64 0,.int .i64 0,.int .i64 0,.int .i64 0,.int .i64 0,.int .i64 0,.int .i64 0,.int .i64 0,.int .i64 0,.int .i64 0,.int .i64 0,.int .i64 0,.int .i64 0,.int .i64 0,.int .i64 0,.int .i64 0,.int .i64 0,.int .i64 0,.int .i64 0,.int .i64 0,.int .i64 0,.int .i64 0,.int .i64 0,.int .i64 0,.int .i64 0,.int .i64 0,.int .i64 0,.int .i64 0,.int .i64 0,.int .i64 0,.int .i64 0,.int .i64 0,.int .i64 0,.int .i64 0,.int .i64 0,.int .i64 0,.int .i64 0,.int .i64 0,.int .i64 0,.int .i64 0,.int .i64 0,.int .i64 0,.int .i64 0,.int .i64 0,.int .i64 0,.int .i64 0,.int .i64 0,.int .i64 0,.int .i64 0,.int .i64 0,.int .i64 0,.int .i64 0,.int .i64 0,.int .i64 0,.int .i64 0,.int .i64 0,.int .i64 0,.int .i64 0,.int .i64 0,.int .i64 0,.int .i64 0,.int .i64 0,.int .i64 0,.int .i64 0,.int .i64 0,.int .i64 0,.int .i64 0,.int .i64 0,.int .i64 0,.int .i64 0,.int .i64 0,.int .i64 0,.int .i64 0,.int .i64 0,.int .i64 0,.int .i64 0,.int .i64 0,.int .i64 0,.int .i64 0,.int .i64 0,.int .i64 0,.int .i64 0,.int .i64 0,.int .i64 0,.int .i64 0,.int .i64 0,.int .i64 0,.int .i64 0,.int .i64 0,.int .i64 0,.int .i64 0,.int .i64 0,.int .i64 0,.int .i64 0,.int .i64 0,.int .i64 0,.int .i64 0,.int .i64 0,.int .i64 0,.int .i64 0,.int .i64 0,.int .i64 0,.int .i64 0,.int .i64 0,.int .i64 0,.int .i64 0,.int .i64 0,.int .i64 0,.int .i64 0,.int .i64 0,.int .i64 0,.int .i64 0,.int .i64 0,.int .i64 0,.int .i64 0,.int .i64 0,.int .i64 0,.int .i64 0,.int .i64 0,.int .i64 0,.int .i64 0,.int .i64 0,.int .i64 0,.int .i64 0,.int .i64 0,.int .i64 0,.int .i64 0,.int .i64 0,.int .i64 0,.int .i64 0,.int .i64 0,.int .i64 0,.int .i64 0,.int .i64 0,.int .i64 0,.int .i64 0,.int .i64 0,.int .i64 0,.int .i64 0,.int .i64 0,.int .i64 0,.int .i64 0,.int .i64 0,.int .i64 0,.int .i64 0,.int .i64 0,.int .i64 0,.int .i64 0,.int .i64 0,.int .i64 0,.int .i64 0,.int .i64 0,.int .i64 0,.int .i64 0,.int .i64 0,.int .i64 0,.int .i64 0,.int .i64 0,.int .i64 0,.int .i64 0,.int .i64 0,.int .i64 0,.int .i64 0,.int .i64 0,.int .i64 0,.int .i64 0,.int .i64 0,.int .i64 0,.int .i64 0,.int .i64 0,.int .i64 0,.int .i64 0,.int .i64 0,.int .i64 0,.int .i64 0,.int .i64 0,.int .i64 0,.int .i64 0,.int .i64 0,.int .i64 0,.int .i64 0,.int .i64 0,.int .i64 0,.int .i64 0,.int .i64 0,.int .i64 0,.int .i64 0,.int .i64 0,.int .i64 0,.int .i64 0,.int .i64 0,.int .i64 0,.int .i64 0,.int .i64 0,.int .i64 0,.int .i64 0,.int .i64 0,.int .i64 0,.int .i64 0,.int .i64 0,.int .i64 0,.int .i64 0,.int .i64 0,.int .i64 0,.int .i64 0,.int .i64 0,.int .i64 0,.int .i64 0,.int .i64 0,.int .i64 0,.int .i64 0,.int .i64 0,.int .i64 0,.int .i64 0]
def a9:V:=.agg [.int .i64 9,.int .i64 0,.int .i64 0,.int .i64 0,.str ByteArray.empty,.fsl 6 [[.int .i64 3,.int .i64 0,.int .i64 0,.int .i64 0,.str ByteArray.empty,.aG],[.int .i64 3,.int .i64 0,.int .i64 1,.int .i64 0,.str ByteArray.empty,.aG]]]
def oJ:V:=.agg [.int .i64 3,.int .i64 0,.int .i64 0,.int .i64 0,.str ByteArray.empty,.aG]
def oO:V:=.agg [.int .i64 3,.int .i64 0,.int .i64 1,.int .i64 0,.str ByteArray.empty,.aG]
def a12:V:=.fptr [.fsl 3 [[.str (ByteArray.mk #[112]),.aG,.fsl 5 [[.int .i64 1,.int .i64 0,.int .i64 0,.int .i64 0,.aG]]],[.str (ByteArray.mk #[113]),.aG,.fsl 5 [[.int .i64 1,.int .i64 0,.int .i64 0,.int .i64 0,.aG]]]]]
def SB:V:=.clo 196 [] [.fptr [.fsl 3 [[.str (ByteArray.mk #[112]),.aG,.fsl 5 [[.int .i64 1,.int .i64 0,.int .i64 0,.int .i64 0,.aG]]],[.str (ByteArray.mk #[113]),.aG,.fsl 5 [[.int .i64 1,.int .i64 0,.int .i64 0,.int .i64 0,.aG]]]]]]
def Yf:V:=.fptr [.clo 196 [] [.fptr [.fsl 3 [[.str (ByteArray.mk #[112]),.aG,.fsl 5 [[.int .i64 1,.int .i64 0,.int .i64 0,.int .i64 0,.aG]]],[.str (ByteArray.mk #[113]),.aG,.fsl 5 [[.int .i64 1,.int .i64 0,.int .i64 0,.int .i64 0,.aG]]]]]]]
def Yn:V:=.fptr [.int .i64 9,.int .i64 0,.int .i64 0,.int .i64 0,.str ByteArray.empty,.fsl 6 [[.int .i64 3,.int .i64 0,.int .i64 0,.int .i64 0,.str ByteArray.empty,.aG],[.int .i64 3,.int .i64 0,.int .i64 1,.int .i64 0,.str ByteArray.empty,.aG]]]
def YE:V:=.tup [.agg [.int .i64 0,.int .i64 1],.bool true]
def a17:V:=.agg [.fsl 1 [[.int .i64 1],[.int .i64 1]],.fsl 1 [[.fsl 2 [[.int .i64 0,.int .i64 0]]],[.fsl 2 [[.int .i64 0,.int .i64 0]]]]]
def ga:V:=.fsl 1 [[.int .i64 0],[.int .i64 0]]
def pK:V:=.fsl 1 [[.int .i64 1],[.int .i64 0]]
def a20:V:=.fsl 1 [[.int .i64 0],[.int .i64 1]]
def a21:V:=.fsl 1 [[.fsl 1 [[.int .i64 0],[.int .i64 0]]]]
def a22:V:=.fsl 1 [[.fsl 1 [[.int .i64 0],[.int .i64 1]]],[.fsl 1 [[.int .i64 1],[.int .i64 0]]]]
def a23:V:=.fsl 1 [[.int .i64 1],[.int .i64 1]]
def a24:V:=.fsl 1 [[.fsl 1 [[.int .i64 1],[.int .i64 1]]]]
def a25:V:=.tup [.fsl 1 [[.fsl 1 [[.int .i64 0],[.int .i64 0]]],[.fsl 1 [[.int .i64 0],[.int .i64 1]]],[.fsl 1 [[.int .i64 1],[.int .i64 0]]],[.fsl 1 [[.int .i64 1],[.int .i64 1]]]],.int .i64 0]
def a26:V:=.clo 162 [] [.fptr [.fsl 3 [[.str (ByteArray.mk #[112]),.aG,.fsl 5 [[.int .i64 1,.int .i64 0,.int .i64 0,.int .i64 0,.aG]]],[.str (ByteArray.mk #[113]),.aG,.fsl 5 [[.int .i64 1,.int .i64 0,.int .i64 0,.int .i64 0,.aG]]]]]]
def L_:V:=.tup [.agg [.int .i64 0,.int .i64 0],.agg [.int .i64 0,.int .i64 0],.bool false]
def a28:V:=.agg [.str (ByteArray.mk #[113]),.aG,.fsl 5 [[.int .i64 1,.int .i64 0,.int .i64 0,.int .i64 0,.aG]]]
def My:V:=.tup [.fsl 1 [[.aG],[.aG]],.int .i64 0]
def QM:V:=.agg [.fsl 3 [[.str (ByteArray.mk #[112]),.aG,.fsl 5 [[.int .i64 1,.int .i64 0,.int .i64 0,.int .i64 0,.aG]]],[.str (ByteArray.mk #[113]),.aG,.fsl 5 [[.int .i64 1,.int .i64 0,.int .i64 0,.int .i64 0,.aG]]]],.fsl 1 [[.int .i64 0],[.int .i64 0]],.fsl 1 [[.aG],[.aG]]]
def a31:V:=.fsl 1 [[.fsl 1 [[.int .i64 0],[.int .i64 1]]]]
def a32:V:=.agg [.fsl 3 [[.str (ByteArray.mk #[112]),.aG,.fsl 5 [[.int .i64 1,.int .i64 0,.int .i64 0,.int .i64 0,.aG]]],[.str (ByteArray.mk #[113]),.aG,.fsl 5 [[.int .i64 1,.int .i64 0,.int .i64 0,.int .i64 0,.aG]]]],.fsl 1 [[.int .i64 0],[.int .i64 1]],.fsl 1 [[.aG],[.aG]]]
def a33:V:=.fsl 1 [[.fsl 1 [[.int .i64 1],[.int .i64 0]]]]
def VR:V:=.agg [.fsl 3 [[.str (ByteArray.mk #[112]),.aG,.fsl 5 [[.int .i64 1,.int .i64 0,.int .i64 0,.int .i64 0,.aG]]],[.str (ByteArray.mk #[113]),.aG,.fsl 5 [[.int .i64 1,.int .i64 0,.int .i64 0,.int .i64 0,.aG]]]],.fsl 1 [[.int .i64 1],[.int .i64 0]],.fsl 1 [[.aG],[.aG]]]
def a35:V:=.agg [.fsl 3 [[.str (ByteArray.mk #[112]),.aG,.fsl 5 [[.int .i64 1,.int .i64 0,.int .i64 0,.int .i64 0,.aG]]],[.str (ByteArray.mk #[113]),.aG,.fsl 5 [[.int .i64 1,.int .i64 0,.int .i64 0,.int .i64 0,.aG]]]],.fsl 1 [[.int .i64 1],[.int .i64 1]],.fsl 1 [[.aG],[.aG]]]
def Yy:V:=.tup [.fsl 1 [[.fsl 1 [[.int .i64 0],[.int .i64 0]]],[.fsl 1 [[.int .i64 1],[.int .i64 1]]]],.int .i64 0]
def a37:V:=.fsl 1 [[.fsl 1 [[.int .i64 0],[.int .i64 0]]],[.fsl 1 [[.int .i64 1],[.int .i64 1]]]]
def Mp:V:=.clo 71 [] [.fptr [.fsl 3 [[.str (ByteArray.mk #[112]),.aG,.fsl 5 [[.int .i64 1,.int .i64 0,.int .i64 0,.int .i64 0,.aG]]],[.str (ByteArray.mk #[113]),.aG,.fsl 5 [[.int .i64 1,.int .i64 0,.int .i64 0,.int .i64 0,.aG]]]]]]
def a39:V:=.tup [.agg [.bool false,.fsl 1 [[.int .i64 0],[.int .i64 0]],.fsl 1 [[.int .i64 1],[.int .i64 1]],.fsl 1 [[.fsl 1 [[.fsl 1 [[.int .i64 1],[.int .i64 1]]]]],[.fsl 1 [[.fsl 1 [[.int .i64 1],[.int .i64 1]]]]]]],.int .i64 0]
def a40:V:=.agg [.bool false,.fsl 1 [[.int .i64 0],[.int .i64 0]],.fsl 1 [[.int .i64 1],[.int .i64 1]],.fsl 1 [[.fsl 1 [[.fsl 1 [[.int .i64 1],[.int .i64 1]]]]],[.fsl 1 [[.fsl 1 [[.int .i64 1],[.int .i64 1]]]]]]]
def a41:V:=.fptr [.bool false,.fsl 1 [[.int .i64 0],[.int .i64 0]],.fsl 1 [[.int .i64 1],[.int .i64 1]],.fsl 1 [[.fsl 1 [[.fsl 1 [[.int .i64 1],[.int .i64 1]]]]],[.fsl 1 [[.fsl 1 [[.int .i64 1],[.int .i64 1]]]]]]]
def X4:V:=.fptr [.fsl 1 [[.int .i64 1],[.int .i64 1]]]
def X7:V:=.agg [.bool false,.fsl 1 [[.int .i64 0],[.int .i64 1]],.fsl 1 [[.int .i64 0],[.int .i64 1]],.fsl 1 [[.fsl 1 [[.aG]]],[.fsl 1 [[.fsl 1 [[.int .i64 0],[.int .i64 1]]]]]]]
def k0:ak:=⟨117,[.int .i64 2,.int .i64 1,.int .i64 8],.bool true⟩
theorem Wl:ah EA k0:=af (n:=100) (l:=[]) (by simp) (by kernel_rfl)
def k1:ak:=⟨186,[.int .u8 112],.bool true⟩
theorem Xc:ah EA k1:=af (n:=100) (l:=[]) (by simp) (by kernel_rfl)
def k2:ak:=⟨152,[.str (ByteArray.mk #[112])],.bool true⟩
theorem V6:ah EA k2:=af (n:=100) (l:=[k1]) (by simp only[List.forall_mem_cons];exact⟨Xc,by simp⟩) (by kernel_rfl)
def k3:ak:=⟨188,[.fsl 3 [],a0],.int .i64 (-1)⟩
theorem WV:ah EA k3:=af (n:=100) (l:=[]) (by simp) (by kernel_rfl)
def k4:ak:=⟨153,[.fsl 3 [],a0],.bool false⟩
theorem Wm:ah EA k4:=af (n:=100) (l:=[k3]) (by simp only[List.forall_mem_cons];exact⟨WV,by simp⟩) (by kernel_rfl)
def k5:ak:=⟨118,[a1,.int .i64 0],.int .i64 0⟩
theorem WO:ah EA k5:=af (n:=100) (l:=[k2,k4]) (by simp only[List.forall_mem_cons];exact⟨V6,Wm,by simp⟩) (by kernel_rfl)
def k6:ak:=⟨186,[.int .u8 113],.bool true⟩
theorem Wj:ah EA k6:=af (n:=100) (l:=[]) (by simp) (by kernel_rfl)
def k7:ak:=⟨152,[.str (ByteArray.mk #[113])],.bool true⟩
theorem WU:ah EA k7:=af (n:=100) (l:=[k6]) (by simp only[List.forall_mem_cons];exact⟨Wj,by simp⟩) (by kernel_rfl)
def k8:ak:=⟨154,[a2,.fptr [.str (ByteArray.mk #[113]),.aG,.fsl 5 [[.int .i64 1,.int .i64 0,.int .i64 0,.int .i64 0,.aG]]]],.bool false⟩
theorem Xd:ah EA k8:=af (n:=100) (l:=[]) (by simp) (by kernel_rfl)
def k9:ak:=⟨188,[a3,a4],.int .i64 (-1)⟩
theorem Xg:ah EA k9:=af (n:=100) (l:=[k8]) (by simp only[List.forall_mem_cons];exact⟨Xd,by simp⟩) (by kernel_rfl)
def YP:ak:=⟨153,[a3,a4],.bool false⟩
theorem Uq:ah EA YP:=af (n:=100) (l:=[k9]) (by simp only[List.forall_mem_cons];exact⟨Xg,by simp⟩) (by kernel_rfl)
def XW:ak:=⟨118,[a1,.int .i64 1],.int .i64 0⟩
theorem VB:ah EA XW:=af (n:=100) (l:=[k7,YP]) (by simp only[List.forall_mem_cons];exact⟨WU,Uq,by simp⟩) (by kernel_rfl)
def Mm:ak:=⟨119,[a1],.clo 156 [] [.fptr [.fsl 3 [[.str (ByteArray.mk #[112]),.aG,.fsl 5 [[.int .i64 1,.int .i64 0,.int .i64 0,.int .i64 0,.aG]]],[.str (ByteArray.mk #[113]),.aG,.fsl 5 [[.int .i64 1,.int .i64 0,.int .i64 0,.int .i64 0,.aG]]]]]]⟩
theorem DV:ah EA Mm:=af (n:=100) (l:=[]) (by simp) (by kernel_rfl)
def Xp:ak:=⟨157,[a1,.int .i64 0,a5],.bool true⟩
theorem Tr:ah EA Xp:=af (n:=100) (l:=[]) (by simp) (by kernel_rfl)
def Rj:ak:=⟨117,[.int .i64 0,.int .i64 0,.int .i64 1099511627776],.bool true⟩
theorem IT:ah EA Rj:=af (n:=100) (l:=[]) (by simp) (by kernel_rfl)
def X3:ak:=⟨120,[a1,a6,a5],.int .i64 0⟩
theorem Uh:ah EA X3:=af (n:=100) (l:=[Xp,Rj]) (by simp only[List.forall_mem_cons];exact⟨Tr,IT,by simp⟩) (by kernel_rfl)
def Yh:ak:=⟨157,[a1,.int .i64 1,a5],.bool true⟩
theorem TO:ah EA Yh:=af (n:=100) (l:=[]) (by simp) (by kernel_rfl)
def Xn:ak:=⟨120,[a1,a7,a5],.int .i64 0⟩
theorem T9:ah EA Xn:=af (n:=100) (l:=[Yh,Rj]) (by simp only[List.forall_mem_cons];exact⟨TO,IT,by simp⟩) (by kernel_rfl)
def XG:ak:=⟨121,[a1],.tup [.fptr [.int .i64 0,.int .i64 0,.int .i64 0,.int .i64 0,.int .i64 0,.int .i64 0,.int .i64 0,.int .i64 0,.int .i64 0,.int .i64 0,.int .i64 0,.int .i64 0,.int .i64 0,.int .i64 0,.int .i64 0,.int .i64 0,.int .i64 0,.int .i64 0,.int .i64 0,.int .i64 0,.int .i64 0,.int .i64 0,.int .i64 0,.int .i64 0,.int .i64 0,.int .i64 0,.int .i64 0,.int .i64 0,.int .i64 0,.int .i64 0,.int .i64 0,.int .i64 0,.int .i64 0,.int .i64 0,.int .i64 0,.int .i64 0,.int .i64 0,.int .i64 0,.int .i64 0,.int .i64 0,.int .i64 0,.int .i64 0,.int .i64 0,.int .i64 0,.int .i64 0,.int .i64 0,.int .i64 0,.int .i64 0,.int .i64 0,.int .i64 0,.int .i64 0,.int .i64 0,.int .i64 0,.int .i64 0,.int .i64 0,.int .i64 0,.int .i64 0,.int .i64 0,.int .i64 0,.int .i64 0,.int .i64 0,.int .i64 0,.int .i64 0,.int .i64 0,.int .i64 0,.int .i64 0,.int .i64 0,.int .i64 0,.int .i64 0,.int .i64 0,.int .i64 0,.int .i64 0,.int .i64 0,.int .i64 0,.int .i64 0,.int .i64 0,.int .i64 0,.int .i64 0,.int .i64 0,.int .i64 0,.int .i64 0,.int .i64 0,.int .i64 0,.int .i64 0,.int .i64 0,.int .i64 0,.int .i64 0,.int .i64 0,.int .i64 0,.int .i64 0,.int .i64 0,.int .i64 0,.int .i64 0,.int .i64 0,.int .i64 0,.int .i64 0,.int .i64 0,.int .i64 0,.int .i64 0,.int .i64 0,.int .i64 0,.int .i64 0,.int .i64 0,.int .i64 0,.int .i64 0,.int .i64 0,.int .i64 0,.int .i64 0,.int .i64 0,.int .i64 0,.int .i64 0,.int .i64 0,.int .i64 0,.int .i64 0,.int .i64 0,.int .i64 0,.int .i64 0,.int .i64 0,.int .i64 0,.int .i64 0,.int .i64 0,.int .i64 0,.int .i64 0,.int .i64 0,.int .i64 0,.int .i64 0,.int .i64 0,.int .i64 0,.int .i64 0,.int .i64 0,.int .i64 0,.int .i64 0,.int .i64 0,.int .i64 0,.int .i64 0,.int .i64 0,.int .i64 0,.int .i64 0,.int .i64 0,.int .i64 0,.int .i64 0,.int .i64 0,.int .i64 0,.int .i64 0,.int .i64 0,.int .i64 0,.int .i64 0,.int .i64 0,.int .i64 0,.int .i64 0,.int .i64 0,.int .i64 0,.int .i64 0,.int .i64 0,.int .i64 0,.int .i64 0,.int .i64 0,.int .i64 0,.int .i64 0,.int .i64 0,.int .i64 0,.int .i64 0,.int .i64 0,.int .i64 0,.int .i64 0,.int .i64 0,.int .i64 0,.int .i64 0,.int .i64 0,.int .i64 0,.int .i64 0,.int .i64 0,.int .i64 0,.int .i64 0,.int .i64 0,.int .i64 0,.int .i64 0,.int .i64 0,.int .i64 0,.int .i64 0,.int .i64 0,.int .i64 0,.int .i64 0,.int .i64 0,.int .i64 0,.int .i64 0,.int .i64 0,.int .i64 0,.int .i64 0,.int .i64 0,.int .i64 0,.int .i64 0,.int .i64 0,.int .i64 0,.int .i64 0,.int .i64 0,.int .i64 0,.int .i64 0,.int .i64 0,.int .i64 0,.int .i64 0,.int .i64 0,.int .i64 0,.int .i64 0,.int .i64 0,.int .i64 0,.int .i64 0,.int .i64 0,.int .i64 0,.int .i64 0,.int .i64 0,.int .i64 0,.int .i64 0,.int .i64 0,.int .i64 0,.int .i64 0,.int .i64 0,.int .i64 0,.int .i64 0,.int .i64 0,.int .i64 0,.int .i64 0,.int .i64 0,.int .i64 0,.int .i64 0,.int .i64 0,.int .i64 0,.int .i64 0,.int .i64 0,.int .i64 0,.int .i64 0,.int .i64 0,.int .i64 0,.int .i64 0,.int .i64 0,.int .i64 0,.int .i64 0,.int .i64 0,.int .i64 0,.int .i64 0,.int .i64 0,.int .i64 0,.int .i64 0,.int .i64 0,.int .i64 0,.int .i64 0,.int .i64 0,.int .i64 0,.int .i64 0,.int .i64 0,.int .i64 0,.int .i64 0,.int .i64 0,.int .i64 0,.int .i64 0,.int .i64 0,.int .i64 0,.int .i64 0,.int .i64 0,.int .i64 0,.int .i64 0,.int .i64 0,.int .i64 0,.int .i64 0,.int .i64 0,.int .i64 0,.int .i64 0,.int .i64 0,.int .i64 0,.int .i64 0,.int .i64 0,.int .i64 0,.int .i64 0,.int .i64 0,.int .i64 0,.int .i64 0,.int .i64 0,.int .i64 0,.int .i64 0,.int .i64 0,.int .i64 0,.int .i64 0,.int .i64 0,.int .i64 0,.int .i64 0,.int .i64 0,.int .i64 0,.int .i64 0,.int .i64 0,.int .i64 0,.int .i64 0,.int .i64 0,.int .i64 0,.int .i64 0,.int .i64 0,.int .i64 0,.int .i64 0,.int .i64 0,.int .i64 0,.int .i64 0,.int .i64 0,.int .i64 0,.int .i64 0,.int .i64 0,.int .i64 0,.int .i64 0,.int .i64 0,.int .i64 0,.int .i64 0,.int .i64 0,.int .i64 0,.int .i64 0,.int .i64 0,.int .i64 0,.int .i64 0,.int .i64 0,.int .i64 0,.int .i64 0,.int .i64 0,.int .i64 0,.int .i64 0,.int .i64 0,.int .i64 0,.int .i64 0,.int .i64 0,.int .i64 0,.int .i64 0,.int .i64 0,.int .i64 0,.int .i64 0,.int .i64 0,.int .i64 0,.int .i64 0,.int .i64 0,.int .i64 0,.int .i64 0,.int .i64 0,.int .i64 0,.int .i64 0,.int .i64 0,.int .i64 0,.int .i64 0,.int .i64 0,.int .i64 0,.int .i64 0,.int .i64 0,.int .i64 0,.int .i64 0,.int .i64 0,.int .i64 0,.int .i64 0,.int .i64 0,.int .i64 0,.int .i64 0,.int .i64 0,.int .i64 0,.int .i64 0,.int .i64 0,.int .i64 0,.int .i64 0,.int .i64 0,.int .i64 0,.int .i64 0,.int .i64 0,.int .i64 0,.int .i64 0,.int .i64 0,.int .i64 0,.int .i64 0,.int .i64 0,.int .i64 0,.int .i64 0,.int .i64 0,.int .i64 0,.int .i64 0,.int .i64 0,.int .i64 0,.int .i64 0,.int .i64 0,.int .i64 0,.int .i64 0,.int .i64 0,.int .i64 0,.int .i64 0,.int .i64 0,.int .i64 0,.int .i64 0,.int .i64 0,.int .i64 0,.int .i64 0,.int .i64 0,.int .i64 0,.int .i64 0,.int .i64 0,.int .i64 0,.int .i64 0,.int .i64 0,.int .i64 0,.int .i64 0,.int .i64 0,.int .i64 0,.int .i64 0,.int .i64 0,.int .i64 0,.int .i64 0,.int .i64 0,.int .i64 0,.int .i64 0,.int .i64 0,.int .i64 0,.int .i64 0,.int .i64 0,.int .i64 0,.int .i64 0,.int .i64 0,.int .i64 0,.int .i64 0,.int .i64 0,.int .i64 0,.int .i64 0,.int .i64 0,.int .i64 0,.int .i64 0,.int .i64 0,.int .i64 0,.int .i64 0,.int .i64 0,.int .i64 0,.int .i64 0,.int .i64 0,.int .i64 0,.int .i64 0,.int .i64 0,.int .i64 0,.int .i64 0,.int .i64 0,.int .i64 0,.int .i64 0,.int .i64 0,.int .i64 0,.int .i64 0,.int .i64 0,.int .i64 0,.int .i64 0,.int .i64 0,.int .i64 0,.int .i64 0,.int .i64 0,.int .i64 0,.int .i64 0,.int .i64 0,.int .i64 0,.int .i64 0,.int .i64 0,.int .i64 0,.int .i64 0,.int .i64 0,.int .i64 0,.int .i64 0,.int .i64 0,.int .i64 0,.int .i64 0,.int .i64 0,.int .i64 0,.int .i64 0,.int .i64 0,.int .i64 0,.int .i64 0,.int .i64 0,.int .i64 0,.int .i64 0,.int .i64 0,.int .i64 0,.int .i64 0,.int .i64 0,.int .i64 0,.int .i64 0,.int .i64 0,.int .i64 0,.int .i64 0,.int .i64 0,.int .i64 0,.int .i64 0,.int .i64 0,.int .i64 0,.int .i64 0,.int .i64 0,.int .i64 0,.int .i64 0,.int .i64 0,.int .i64 0,.int .i64 0,.int .i64 0,.int .i64 0,.int .i64 0,.int .i64 0,.int .i64 0,.int .i64 0,.int .i64 0,.int .i64 0,.int .i64 0,.int .i64 0,.int .i64 0,.int .i64 0,.int .i64 0,.int .i64 0,.int .i64 0,.int .i64 0,.int .i64 0,.int .i64 0,.int .i64 0,.int .i64 0,.int .i64 0,.int .i64 0,.int .i64 0,.int .i64 0,.int .i64 0,.int .i64 0,.int .i64 0,.int .i64 0,.int .i64 0,.int .i64 0,.int .i64 0,.int .i64 0,.int .i64 0,.int .i64 0,.int .i64 0,.int .i64 0,.int .i64 0,.int .i64 0,.int .i64 0,.int .i64 0,.int .i64 0,.int .i64 0,.int .i64 0,.int .i64 0,.int .i64 0,.int .i64 0,.int .i64 0,.int .i64 0,.int .i64 0,.int .i64 0,.int .i64 0,.int .i64 0,.int .i64 0,.int .i64 0,.int .i64 0,.int .i64 0,.int .i64 0,.int .i64 0,.int .i64 0,.int .i64 0,.int .i64 0,.int .i64 0,.int .i64 0,.int .i64 0,.int .i64 0,.int .i64 0,.int .i64 0,.int .i64 0,.int .i64 0,.int .i64 0,.int .i64 0,.int .i64 0,.int .i64 0,.int .i64 0,.int .i64 0,.int .i64 0,.int .i64 0,.int .i64 0,.int .i64 0,.int .i64 0,.int .i64 0,.int .i64 0,.int .i64 0,.int .i64 0,.int .i64 0,.int .i64 0,.int .i64 0,.int .i64 0,.int .i64 0,.int .i64 0,.int .i64 0,.int .i64 0,.int .i64 0,.int .i64 0,.int .i64 0,.int .i64 0,.int .i64 0,.int .i64 0,.int .i64 0,.int .i64 0,.int .i64 0,.int .i64 0,.int .i64 0,.int .i64 0,.int .i64 0,.int .i64 0,.int .i64 0,.int .i64 0,.int .i64 0,.int .i64 0,.int .i64 0,.int .i64 0,.int .i64 0,.int .i64 0,.int .i64 0,.int .i64 0,.int .i64 0,.int .i64 0,.int .i64 0,.int .i64 0,.int .i64 0,.int .i64 0,.int .i64 0,.int .i64 0,.int .i64 0,.int .i64 0,.int .i64 0,.int .i64 0,.int .i64 0,.int .i64 0,.int .i64 0,.int .i64 0,.int .i64 0,.int .i64 0,.int .i64 0,.int .i64 0,.int .i64 0,.int .i64 0,.int .i64 0,.int .i64 0,.int .i64 0,.int .i64 0,.int .i64 0,.int .i64 0,.int .i64 0,.int .i64 0,.int .i64 0,.int .i64 0,.int .i64 0,.int .i64 0,.int .i64 0,.int .i64 0,.int .i64 0,.int .i64 0,.int .i64 0,.int .i64 0,.int .i64 0,.int .i64 0,.int .i64 0,.int .i64 0,.int .i64 0,.int .i64 0,.int .i64 0,.int .i64 0,.int .i64 0,.int .i64 0,.int .i64 0,.int .i64 0,.int .i64 0,.int .i64 0,.int .i64 0,.int .i64 0,.int .i64 0,.int .i64 0,.int .i64 0,.int .i64 0,.int .i64 0,.int .i64 0,.int .i64 0,.int .i64 0,.int .i64 0,.int .i64 0,.int .i64 0,.int .i64 0,.int .i64 0,.int .i64 0,.int .i64 0,.int .i64 0,.int .i64 0,.int .i64 0,.int .i64 0,.int .i64 0,.int .i64 0,.int .i64 0,.int .i64 0,.int .i64 0,.int .i64 0,.int .i64 0,.int .i64 0,.int .i64 0,.int .i64 0,.int .i64 0,.int .i64 0,.int .i64 0,.int .i64 0,.int .i64 0,.int .i64 0,.int .i64 0,.int .i64 0,.int .i64 0,.int .i64 0,.int .i64 0,.int .i64 0,.int .i64 0,.int .i64 0,.int .i64 0,.int .i64 0,.int .i64 0,.int .i64 0,.int .i64 0,.int .i64 0,.int .i64 0,.int .i64 0,.int .i64 0,.int .i64 0,.int .i64 0,.int .i64 0,.int .i64 0,.int .i64 0,.int .i64 0,.int .i64 0,.int .i64 0,.int .i64 0,.int .i64 0,.int .i64 0,.int .i64 0,.int .i64 0,.int .i64 0,.int .i64 0,.int .i64 0,.int .i64 0,.int .i64 0,.int .i64 0,.int .i64 0,.int .i64 0,.int .i64 0,.int .i64 0,.int .i64 0,.int .i64 0,.int .i64 0,.int .i64 0,.int .i64 0,.int .i64 0,.int .i64 0,.int .i64 0,.int .i64 0,.int .i64 0,.int .i64 0,.int .i64 0,.int .i64 0,.int .i64 0,.int .i64 0,.int .i64 0,.int .i64 0,.int .i64 0,.int .i64 0,.int .i64 0,.int .i64 0,.int .i64 0,.int .i64 0,.int .i64 0,.int .i64 0,.int .i64 0,.int .i64 0,.int .i64 0,.int .i64 0,.int .i64 0,.int .i64 0,.int .i64 0,.int .i64 0,.int .i64 0,.int .i64 0,.int .i64 0,.int .i64 0,.int .i64 0,.int .i64 0,.int .i64 0,.int .i64 0,.int .i64 0,.int .i64 0,.int .i64 0,.int .i64 0,.int .i64 0,.int .i64 0,.int .i64 0,.int .i64 0,.int .i64 0,.int .i64 0,.int .i64 0,.int .i64 0,.int .i64 0,.int .i64 0,.int .i64 0,.int .i64 0,.int .i64 0,.int .i64 0,.int .i64 0,.int .i64 0],.agg [.int .i64 0,.int .i64 0],.int .i64 0]⟩
theorem Rn:ah EA XG:=af (n:=100) (l:=[Mm]) (by simp only[List.forall_mem_cons];exact⟨DV,by simp⟩) (by kernel_rfl)
def Xl:ak:=⟨161,[a1,a8,a6],.aG⟩
theorem RA:ah EA Xl:=af (n:=100) (l:=[]) (by simp) (by kernel_rfl)
def XK:ak:=⟨161,[a1,a8,a7],.aG⟩
theorem SN:ah EA XK:=af (n:=100) (l:=[]) (by simp) (by kernel_rfl)
def Xt:ak:=⟨122,[a1,a8],.tup [.agg [.int .i64 0,.int .i64 0],.bool false]⟩
theorem QV:ah EA Xt:=af (n:=100) (l:=[Mm,Xl,XK]) (by simp only[List.forall_mem_cons];exact⟨DV,RA,SN,by simp⟩) (by kernel_rfl)
def Yq:ak:=⟨96,[a1],.tup [.agg [.int .i64 0,.int .i64 0],.int .i64 0]⟩
theorem UQ:ah EA Yq:=af (n:=100) (l:=[k0,k5,XW,Mm,X3,Xn,XG,Xt]) (by simp only[List.forall_mem_cons];exact⟨Wl,WO,VB,DV,Uh,T9,Rn,QV,by simp⟩) (by kernel_rfl)
def yj:ak:=⟨54,[a1],.bool true⟩
theorem pz:ah EA yj:=af (n:=100) (l:=[Yq]) (by simp only[List.forall_mem_cons];exact⟨UQ,by simp⟩) (by kernel_rfl)
def XO:ak:=⟨212,[.int .i64 9],.bool false⟩
theorem TF:ah EA XO:=af (n:=100) (l:=[]) (by simp) (by kernel_rfl)
def YC:ak:=⟨193,[a9],.bool true⟩
theorem R8:ah EA YC:=af (n:=100) (l:=[XO]) (by simp only[List.forall_mem_cons];exact⟨TF,by simp⟩) (by kernel_rfl)
def Sf:ak:=⟨212,[.int .i64 3],.bool true⟩
theorem Jo:ah EA Sf:=af (n:=100) (l:=[]) (by simp) (by kernel_rfl)
def XR:ak:=⟨193,[oJ],.bool true⟩
theorem TB:ah EA XR:=af (n:=100) (l:=[Sf]) (by simp only[List.forall_mem_cons];exact⟨Jo,by simp⟩) (by kernel_rfl)
def Xz:ak:=⟨193,[oO],.bool true⟩
theorem UD:ah EA Xz:=af (n:=100) (l:=[Sf]) (by simp only[List.forall_mem_cons];exact⟨Jo,by simp⟩) (by kernel_rfl)
def MD:ak:=⟨169,[a9],.bool true⟩
theorem CN:ah EA MD:=af (n:=100) (l:=[YC,XR,Xz]) (by simp only[List.forall_mem_cons];exact⟨R8,TB,UD,by simp⟩) (by kernel_rfl)
def X8:ak:=⟨196,[a9,a12],.bool true⟩
theorem QO:ah EA X8:=af (n:=100) (l:=[]) (by simp) (by kernel_rfl)
def Yo:ak:=⟨197,[a1,.int .i64 0],.bool true⟩
theorem VJ:ah EA Yo:=af (n:=100) (l:=[]) (by simp) (by kernel_rfl)
def Ya:ak:=⟨196,[oJ,a12],.bool true⟩
theorem TZ:ah EA Ya:=af (n:=100) (l:=[Yo]) (by simp only[List.forall_mem_cons];exact⟨VJ,by simp⟩) (by kernel_rfl)
def X2:ak:=⟨174,[oJ,SB],.bool true⟩
theorem RX:ah EA X2:=af (n:=100) (l:=[Ya]) (by simp only[List.forall_mem_cons];exact⟨TZ,by simp⟩) (by kernel_rfl)
def XS:ak:=⟨205,[oJ,Yf],.bool false⟩
theorem SJ:ah EA XS:=af (n:=100) (l:=[X2]) (by simp only[List.forall_mem_cons];exact⟨RX,by simp⟩) (by kernel_rfl)
def Xu:ak:=⟨197,[a1,.int .i64 1],.bool true⟩
theorem Q1:ah EA Xu:=af (n:=100) (l:=[]) (by simp) (by kernel_rfl)
def YI:ak:=⟨196,[oO,a12],.bool true⟩
theorem Ve:ah EA YI:=af (n:=100) (l:=[Xu]) (by simp only[List.forall_mem_cons];exact⟨Q1,by simp⟩) (by kernel_rfl)
def YL:ak:=⟨174,[oO,SB],.bool true⟩
theorem Sw:ah EA YL:=af (n:=100) (l:=[YI]) (by simp only[List.forall_mem_cons];exact⟨Ve,by simp⟩) (by kernel_rfl)
def Yz:ak:=⟨205,[oO,Yf],.bool false⟩
theorem U_:ah EA Yz:=af (n:=100) (l:=[YL]) (by simp only[List.forall_mem_cons];exact⟨Sw,by simp⟩) (by kernel_rfl)
def YK:ak:=⟨174,[a9,SB],.bool true⟩
theorem Sv:ah EA YK:=af (n:=100) (l:=[X8,XS,Yz]) (by simp only[List.forall_mem_cons];exact⟨QO,SJ,U_,by simp⟩) (by kernel_rfl)
def Xx:ak:=⟨170,[a1,a9],.bool true⟩
theorem VI:ah EA Xx:=af (n:=100) (l:=[YK]) (by simp only[List.forall_mem_cons];exact⟨Sv,by simp⟩) (by kernel_rfl)
def ID:ak:=⟨201,[.int .i64 3],.int .i64 1⟩
theorem zp:ah EA ID:=af (n:=100) (l:=[]) (by simp) (by kernel_rfl)
def Td:ak:=⟨202,[.int .i64 9],.int .i64 1⟩
theorem Jk:ah EA Td:=af (n:=100) (l:=[]) (by simp) (by kernel_rfl)
def Yj:ak:=⟨200,[oJ,Yn],.bool false⟩
theorem Vw:ah EA Yj:=af (n:=100) (l:=[ID,Td]) (by simp only[List.forall_mem_cons];exact⟨zp,Jk,by simp⟩) (by kernel_rfl)
def XT:ak:=⟨200,[oO,Yn],.bool false⟩
theorem UR:ah EA XT:=af (n:=100) (l:=[ID,Td]) (by simp only[List.forall_mem_cons];exact⟨zp,Jk,by simp⟩) (by kernel_rfl)
def Yk:ak:=⟨199,[a9],.bool true⟩
theorem Rl:ah EA Yk:=af (n:=100) (l:=[Yj,XT]) (by simp only[List.forall_mem_cons];exact⟨Vw,UR,by simp⟩) (by kernel_rfl)
def XH:ak:=⟨199,[oJ],.bool true⟩
theorem RT:ah EA XH:=af (n:=100) (l:=[]) (by simp) (by kernel_rfl)
def XV:ak:=⟨174,[oJ,.clo 199 [] []],.bool true⟩
theorem Q4:ah EA XV:=af (n:=100) (l:=[XH]) (by simp only[List.forall_mem_cons];exact⟨RT,by simp⟩) (by kernel_rfl)
def Ye:ak:=⟨205,[oJ,.fptr [.clo 199 [] []]],.bool false⟩
theorem VS:ah EA Ye:=af (n:=100) (l:=[XV]) (by simp only[List.forall_mem_cons];exact⟨Q4,by simp⟩) (by kernel_rfl)
def XE:ak:=⟨199,[oO],.bool true⟩
theorem Su:ah EA XE:=af (n:=100) (l:=[]) (by simp) (by kernel_rfl)
def YA:ak:=⟨174,[oO,.clo 199 [] []],.bool true⟩
theorem Tm:ah EA YA:=af (n:=100) (l:=[XE]) (by simp only[List.forall_mem_cons];exact⟨Su,by simp⟩) (by kernel_rfl)
def XI:ak:=⟨205,[oO,.fptr [.clo 199 [] []]],.bool false⟩
theorem TR:ah EA XI:=af (n:=100) (l:=[YA]) (by simp only[List.forall_mem_cons];exact⟨Tm,by simp⟩) (by kernel_rfl)
def X9:ak:=⟨174,[a9,.clo 199 [] []],.bool true⟩
theorem Sz:ah EA X9:=af (n:=100) (l:=[Yk,Ye,XI]) (by simp only[List.forall_mem_cons];exact⟨Rl,VS,TR,by simp⟩) (by kernel_rfl)
def S8:ak:=⟨171,[a9],.bool true⟩
theorem Jp:ah EA S8:=af (n:=100) (l:=[X9]) (by simp only[List.forall_mem_cons];exact⟨Sz,by simp⟩) (by kernel_rfl)
def RY:ak:=⟨201,[.int .i64 9],.int .i64 2⟩
theorem IP:ah EA RY:=af (n:=100) (l:=[]) (by simp) (by kernel_rfl)
def Xi:ak:=⟨215,[a1,oJ],a6⟩
theorem SM:ah EA Xi:=af (n:=100) (l:=[]) (by simp) (by kernel_rfl)
def Rq:ak:=⟨216,[a6],.bool false⟩
theorem Ik:ah EA Rq:=af (n:=100) (l:=[]) (by simp) (by kernel_rfl)
def XX:ak:=⟨203,[a1,oJ],YE⟩
theorem UJ:ah EA XX:=af (n:=100) (l:=[Xi,Rq]) (by simp only[List.forall_mem_cons];exact⟨SM,Ik,by simp⟩) (by kernel_rfl)
def Yb:ak:=⟨172,[a1,oJ],.bool true⟩
theorem UH:ah EA Yb:=af (n:=100) (l:=[ID,XX]) (by simp only[List.forall_mem_cons];exact⟨zp,UJ,by simp⟩) (by kernel_rfl)
def YU:ak:=⟨204,[oJ,a12],.bool false⟩
theorem QS:ah EA YU:=af (n:=100) (l:=[Yb]) (by simp only[List.forall_mem_cons];exact⟨UH,by simp⟩) (by kernel_rfl)
def XQ:ak:=⟨215,[a1,oO],a6⟩
theorem TH:ah EA XQ:=af (n:=100) (l:=[]) (by simp) (by kernel_rfl)
def X_:ak:=⟨203,[a1,oO],YE⟩
theorem Vq:ah EA X_:=af (n:=100) (l:=[XQ,Rq]) (by simp only[List.forall_mem_cons];exact⟨TH,Ik,by simp⟩) (by kernel_rfl)
def Xw:ak:=⟨172,[a1,oO],.bool true⟩
theorem RZ:ah EA Xw:=af (n:=100) (l:=[ID,X_]) (by simp only[List.forall_mem_cons];exact⟨zp,Vq,by simp⟩) (by kernel_rfl)
def YF:ak:=⟨204,[oO,a12],.bool false⟩
theorem Un:ah EA YF:=af (n:=100) (l:=[Xw]) (by simp only[List.forall_mem_cons];exact⟨RZ,by simp⟩) (by kernel_rfl)
def Yi:ak:=⟨172,[a1,a9],.bool true⟩
theorem RM:ah EA Yi:=af (n:=100) (l:=[RY,YU,YF]) (by simp only[List.forall_mem_cons];exact⟨IP,QS,Un,by simp⟩) (by kernel_rfl)
def YN:ak:=⟨136,[a1,a9],.int .i64 0⟩
theorem VU:ah EA YN:=af (n:=100) (l:=[yj,MD,Xx,S8,Yi]) (by simp only[List.forall_mem_cons];exact⟨pz,CN,VI,Jp,RM,by simp⟩) (by kernel_rfl)
def Yp:ak:=⟨173,[a9],.tup [.int .i64 2,.int .i64 0]⟩
theorem SG:ah EA Yp:=af (n:=100) (l:=[MD,S8,RY]) (by simp only[List.forall_mem_cons];exact⟨CN,Jp,IP,by simp⟩) (by kernel_rfl)
def Yw:ak:=⟨137,[a9,.int .i64 2],.int .i64 0⟩
theorem QW:ah EA Yw:=af (n:=100) (l:=[Yp]) (by simp only[List.forall_mem_cons];exact⟨SG,by simp⟩) (by kernel_rfl)
def YH:ak:=⟨176,[.int .i64 9],.bool false⟩
theorem Sh:ah EA YH:=af (n:=100) (l:=[]) (by simp) (by kernel_rfl)
def YR:ak:=⟨175,[a9],.bool true⟩
theorem SD:ah EA YR:=af (n:=100) (l:=[YH]) (by simp only[List.forall_mem_cons];exact⟨Sh,by simp⟩) (by kernel_rfl)
def UF:ak:=⟨176,[.int .i64 3],.bool false⟩
theorem Im:ah EA UF:=af (n:=100) (l:=[]) (by simp) (by kernel_rfl)
def YG:ak:=⟨175,[oJ],.bool true⟩
theorem Ux:ah EA YG:=af (n:=100) (l:=[UF]) (by simp only[List.forall_mem_cons];exact⟨Im,by simp⟩) (by kernel_rfl)
def XL:ak:=⟨174,[oJ,.clo 175 [] []],.bool true⟩
theorem Rf:ah EA XL:=af (n:=100) (l:=[YG]) (by simp only[List.forall_mem_cons];exact⟨Ux,by simp⟩) (by kernel_rfl)
def XB:ak:=⟨205,[oJ,.fptr [.clo 175 [] []]],.bool false⟩
theorem Vr:ah EA XB:=af (n:=100) (l:=[XL]) (by simp only[List.forall_mem_cons];exact⟨Rf,by simp⟩) (by kernel_rfl)
def Yr:ak:=⟨175,[oO],.bool true⟩
theorem S3:ah EA Yr:=af (n:=100) (l:=[UF]) (by simp only[List.forall_mem_cons];exact⟨Im,by simp⟩) (by kernel_rfl)
def Xr:ak:=⟨174,[oO,.clo 175 [] []],.bool true⟩
theorem VQ:ah EA Xr:=af (n:=100) (l:=[Yr]) (by simp only[List.forall_mem_cons];exact⟨S3,by simp⟩) (by kernel_rfl)
def XJ:ak:=⟨205,[oO,.fptr [.clo 175 [] []]],.bool false⟩
theorem SZ:ah EA XJ:=af (n:=100) (l:=[Xr]) (by simp only[List.forall_mem_cons];exact⟨VQ,by simp⟩) (by kernel_rfl)
def XY:ak:=⟨174,[a9,.clo 175 [] []],.bool true⟩
theorem Rc:ah EA XY:=af (n:=100) (l:=[YR,XB,XJ]) (by simp only[List.forall_mem_cons];exact⟨SD,Vr,SZ,by simp⟩) (by kernel_rfl)
def YV:ak:=⟨138,[a9],.bool false⟩
theorem Rs:ah EA YV:=af (n:=100) (l:=[MD,XY]) (by simp only[List.forall_mem_cons];exact⟨CN,Rc,by simp⟩) (by kernel_rfl)
def YT:ak:=⟨219,[a1],a17⟩
theorem UE:ah EA YT:=af (n:=100) (l:=[]) (by simp) (by kernel_rfl)
def X1:ak:=⟨230,[a17,ga,.int .i64 0],.bool true⟩
theorem RK:ah EA X1:=af (n:=100) (l:=[]) (by simp) (by kernel_rfl)
def Yx:ak:=⟨230,[a17,ga,.int .i64 1],.bool true⟩
theorem Vv:ah EA Yx:=af (n:=100) (l:=[]) (by simp) (by kernel_rfl)
def Mq:ak:=⟨116,[.int .i64 1],.bool false⟩
theorem D5:ah EA Mq:=af (n:=100) (l:=[]) (by simp) (by kernel_rfl)
def Mg:ak:=⟨93,[.int .i64 1,.int .i64 1],.int .i64 0⟩
theorem DR:ah EA Mg:=af (n:=100) (l:=[Mq]) (by simp only[List.forall_mem_cons];exact⟨D5,by simp⟩) (by kernel_rfl)
def EG:ak:=⟨116,[.int .i64 0],.bool false⟩
theorem xd:ah EA EG:=af (n:=100) (l:=[]) (by simp) (by kernel_rfl)
def HU:ak:=⟨93,[.int .i64 0,.int .i64 0],.int .i64 0⟩
theorem zZ:ah EA HU:=af (n:=100) (l:=[EG]) (by simp only[List.forall_mem_cons];exact⟨xd,by simp⟩) (by kernel_rfl)
def Yt:ak:=⟨95,[pK,pK],.int .i64 0⟩
theorem UG:ah EA Yt:=af (n:=100) (l:=[Mg,HU]) (by simp only[List.forall_mem_cons];exact⟨DR,zZ,by simp⟩) (by kernel_rfl)
def YJ:ak:=⟨231,[pK,pK],.int .i64 0⟩
theorem R5:ah EA YJ:=af (n:=100) (l:=[Yt]) (by simp only[List.forall_mem_cons];exact⟨UG,by simp⟩) (by kernel_rfl)
def SY:ak:=⟨93,[.int .i64 1,.int .i64 0],.int .i64 1⟩
theorem Is:ah EA SY:=af (n:=100) (l:=[Mq,EG]) (by simp only[List.forall_mem_cons];exact⟨D5,xd,by simp⟩) (by kernel_rfl)
def Xo:ak:=⟨95,[pK,a20],.int .i64 1⟩
theorem SX:ah EA Xo:=af (n:=100) (l:=[SY]) (by simp only[List.forall_mem_cons];exact⟨Is,by simp⟩) (by kernel_rfl)
def Ym:ak:=⟨231,[pK,a20],.int .i64 1⟩
theorem Th:ah EA Ym:=af (n:=100) (l:=[Xo]) (by simp only[List.forall_mem_cons];exact⟨SX,by simp⟩) (by kernel_rfl)
def UY:ak:=⟨93,[.int .i64 0,.int .i64 1],.int .i64 (-1)⟩
theorem HS:ah EA UY:=af (n:=100) (l:=[EG,Mq]) (by simp only[List.forall_mem_cons];exact⟨xd,D5,by simp⟩) (by kernel_rfl)
def Xm:ak:=⟨95,[a20,pK],.int .i64 (-1)⟩
theorem Tv:ah EA Xm:=af (n:=100) (l:=[UY]) (by simp only[List.forall_mem_cons];exact⟨HS,by simp⟩) (by kernel_rfl)
def YS:ak:=⟨231,[a20,pK],.int .i64 (-1)⟩
theorem Tz:ah EA YS:=af (n:=100) (l:=[Xm]) (by simp only[List.forall_mem_cons];exact⟨Tv,by simp⟩) (by kernel_rfl)
def YD:ak:=⟨95,[a20,a20],.int .i64 0⟩
theorem R1:ah EA YD:=af (n:=100) (l:=[HU,Mg]) (by simp only[List.forall_mem_cons];exact⟨zZ,DR,by simp⟩) (by kernel_rfl)
def YM:ak:=⟨231,[a20,a20],.int .i64 0⟩
theorem Uj:ah EA YM:=af (n:=100) (l:=[YD]) (by simp only[List.forall_mem_cons];exact⟨R1,by simp⟩) (by kernel_rfl)
def Xh:ak:=⟨98,[pK,a20],.bool false⟩
theorem Q6:ah EA Xh:=af (n:=100) (l:=[]) (by simp) (by kernel_rfl)
def X0:ak:=⟨233,[pK,a20],.bool false⟩
theorem Ru:ah EA X0:=af (n:=100) (l:=[Xh]) (by simp only[List.forall_mem_cons];exact⟨Q6,by simp⟩) (by kernel_rfl)
def XP:ak:=⟨220,[a17,a21],a22⟩
theorem UX:ah EA XP:=af (n:=100) (l:=[X1,Yx,YJ,Ym,YS,YM,X0]) (by simp only[List.forall_mem_cons];exact⟨RK,Vv,R5,Th,Tz,Uj,Ru,by simp⟩) (by kernel_rfl)
def XC:ak:=⟨230,[a17,a20,.int .i64 0],.bool true⟩
theorem Vc:ah EA XC:=af (n:=100) (l:=[]) (by simp) (by kernel_rfl)
def Tg:ak:=⟨230,[a17,a20,.int .i64 1],.bool false⟩
theorem Qb:ah EA Tg:=af (n:=100) (l:=[]) (by simp) (by kernel_rfl)
def VG:ak:=⟨230,[a17,pK,.int .i64 0],.bool false⟩
theorem Pm:ah EA VG:=af (n:=100) (l:=[]) (by simp) (by kernel_rfl)
def TG:ak:=⟨230,[a17,pK,.int .i64 1],.bool true⟩
theorem MM:ah EA TG:=af (n:=100) (l:=[]) (by simp) (by kernel_rfl)
def KO:ak:=⟨95,[a23,a23],.int .i64 0⟩
theorem E9:ah EA KO:=af (n:=100) (l:=[Mg]) (by simp only[List.forall_mem_cons];exact⟨DR,by simp⟩) (by kernel_rfl)
def Uu:ak:=⟨231,[a23,a23],.int .i64 0⟩
theorem Pr:ah EA Uu:=af (n:=100) (l:=[KO]) (by simp only[List.forall_mem_cons];exact⟨E9,by simp⟩) (by kernel_rfl)
def TL:ak:=⟨98,[a23,a23],.bool true⟩
theorem Qe:ah EA TL:=af (n:=100) (l:=[]) (by simp) (by kernel_rfl)
def VH:ak:=⟨233,[a23,a23],.bool true⟩
theorem Pd:ah EA VH:=af (n:=100) (l:=[TL]) (by simp only[List.forall_mem_cons];exact⟨Qe,by simp⟩) (by kernel_rfl)
def Tq:ak:=⟨220,[a17,a22],a24⟩
theorem MU:ah EA Tq:=af (n:=100) (l:=[XC,Tg,VG,TG,Uu,VH]) (by simp only[List.forall_mem_cons];exact⟨Vc,Qb,Pm,MM,Pr,Pd,by simp⟩) (by kernel_rfl)
def Rg:ak:=⟨230,[a17,a23,.int .i64 0],.bool false⟩
theorem Qj:ah EA Rg:=af (n:=100) (l:=[]) (by simp) (by kernel_rfl)
def T8:ak:=⟨230,[a17,a23,.int .i64 1],.bool false⟩
theorem OF:ah EA T8:=af (n:=100) (l:=[]) (by simp) (by kernel_rfl)
def S5:ak:=⟨220,[a17,a24],.aG⟩
theorem MP:ah EA S5:=af (n:=100) (l:=[Rg,T8]) (by simp only[List.forall_mem_cons];exact⟨Qj,OF,by simp⟩) (by kernel_rfl)
def Tu:ak:=⟨206,[a1],.tup [.fsl 1 [[.fsl 1 [[.fsl 1 [[.int .i64 0],[.int .i64 0]]]]],[.fsl 1 [[.fsl 1 [[.int .i64 0],[.int .i64 1]]],[.fsl 1 [[.int .i64 1],[.int .i64 0]]]]],[.fsl 1 [[.fsl 1 [[.int .i64 1],[.int .i64 1]]]]]],.int .i64 0]⟩
theorem NG:ah EA Tu:=af (n:=100) (l:=[yj,YT,XP,Tq,S5]) (by simp only[List.forall_mem_cons];exact⟨pz,UE,UX,MU,MP,by simp⟩) (by kernel_rfl)
def T4:ak:=⟨207,[.fsl 1 [[.fsl 1 [[.fsl 1 [[.int .i64 0],[.int .i64 0]]]]],[.fsl 1 [[.fsl 1 [[.int .i64 0],[.int .i64 1]]],[.fsl 1 [[.int .i64 1],[.int .i64 0]]]]],[.fsl 1 [[.fsl 1 [[.int .i64 1],[.int .i64 1]]]]]]],.fsl 1 [[.fsl 1 [[.int .i64 0],[.int .i64 0]]],[.fsl 1 [[.int .i64 0],[.int .i64 1]]],[.fsl 1 [[.int .i64 1],[.int .i64 0]]],[.fsl 1 [[.int .i64 1],[.int .i64 1]]]]⟩
theorem PJ:ah EA T4:=af (n:=100) (l:=[]) (by simp) (by kernel_rfl)
def R2:ak:=⟨177,[a1],a25⟩
theorem OP:ah EA R2:=af (n:=100) (l:=[Tu,T4]) (by simp only[List.forall_mem_cons];exact⟨NG,PJ,by simp⟩) (by kernel_rfl)
def SS:ak:=⟨139,[a1],a25⟩
theorem N6:ah EA SS:=af (n:=100) (l:=[R2]) (by simp only[List.forall_mem_cons];exact⟨OP,by simp⟩) (by kernel_rfl)
def Sc:ak:=⟨162,[ga,a12],.bool false⟩
theorem PK:ah EA Sc:=af (n:=100) (l:=[]) (by simp) (by kernel_rfl)
def Ui:ak:=⟨80,[a21,a26],.int .i64 (-1)⟩
theorem MV:ah EA Ui:=af (n:=100) (l:=[Sc]) (by simp only[List.forall_mem_cons];exact⟨PK,by simp⟩) (by kernel_rfl)
def RW:ak:=⟨35,[a21,a26],.bool false⟩
theorem O9:ah EA RW:=af (n:=100) (l:=[Ui]) (by simp only[List.forall_mem_cons];exact⟨MV,by simp⟩) (by kernel_rfl)
def VD:ak:=⟨123,[a1,a21],.bool true⟩
theorem Oq:ah EA VD:=af (n:=100) (l:=[yj,RW]) (by simp only[List.forall_mem_cons];exact⟨pz,O9,by simp⟩) (by kernel_rfl)
def UO:ak:=⟨124,[a1,ga],.bool true⟩
theorem NH:ah EA UO:=af (n:=100) (l:=[]) (by simp) (by kernel_rfl)
def Q9:ak:=⟨127,[a1,ga],L_⟩
theorem OH:ah EA Q9:=af (n:=100) (l:=[]) (by simp) (by kernel_rfl)
def SI:ak:=⟨126,[a1,ga],.bool true⟩
theorem PX:ah EA SI:=af (n:=100) (l:=[Q9]) (by simp only[List.forall_mem_cons];exact⟨OH,by simp⟩) (by kernel_rfl)
def Ke:ak:=⟨99,[a1,a21,.aG],.int .i64 0⟩
theorem ET:ah EA Ke:=af (n:=100) (l:=[VD,UO,SI]) (by simp only[List.forall_mem_cons];exact⟨Oq,NH,PX,by simp⟩) (by kernel_rfl)
def U5:ak:=⟨178,[a1,ga],.tup [.aG,.int .i64 0]⟩
theorem Oh:ah EA U5:=af (n:=100) (l:=[Ke]) (by simp only[List.forall_mem_cons];exact⟨ET,by simp⟩) (by kernel_rfl)
def J3:ak:=⟨208,[a2],.clo 222 [] [.fptr [.str (ByteArray.mk #[112]),.aG,.fsl 5 [[.int .i64 1,.int .i64 0,.int .i64 0,.int .i64 0,.aG]]]]⟩
theorem FF:ah EA J3:=af (n:=100) (l:=[]) (by simp) (by kernel_rfl)
def KN:ak:=⟨179,[a2,.int .i64 0],.aG⟩
theorem E0:ah EA KN:=af (n:=100) (l:=[J3]) (by simp only[List.forall_mem_cons];exact⟨FF,by simp⟩) (by kernel_rfl)
def LK:ak:=⟨208,[a28],.clo 222 [] [.fptr [.str (ByteArray.mk #[113]),.aG,.fsl 5 [[.int .i64 1,.int .i64 0,.int .i64 0,.int .i64 0,.aG]]]]⟩
theorem EY:ah EA LK:=af (n:=100) (l:=[]) (by simp) (by kernel_rfl)
def JM:ak:=⟨179,[a28,.int .i64 0],.aG⟩
theorem Fa:ah EA JM:=af (n:=100) (l:=[LK]) (by simp only[List.forall_mem_cons];exact⟨EY,by simp⟩) (by kernel_rfl)
def TT:ak:=⟨140,[a1,ga],My⟩
theorem M4:ah EA TT:=af (n:=100) (l:=[U5,KN,JM]) (by simp only[List.forall_mem_cons];exact⟨Oh,E0,Fa,by simp⟩) (by kernel_rfl)
def Uc:ak:=⟨180,[QM,oJ],.int .i64 0⟩
theorem PV:ah EA Uc:=af (n:=100) (l:=[]) (by simp) (by kernel_rfl)
def S7:ak:=⟨180,[QM,oO],.int .i64 0⟩
theorem Oa:ah EA S7:=af (n:=100) (l:=[]) (by simp) (by kernel_rfl)
def S_:ak:=⟨141,[QM,a9],.bool true⟩
theorem PM:ah EA S_:=af (n:=100) (l:=[Uc,S7]) (by simp only[List.forall_mem_cons];exact⟨PV,Oa,by simp⟩) (by kernel_rfl)
def RD:ak:=⟨162,[a20,a12],.bool false⟩
theorem Oj:ah EA RD:=af (n:=100) (l:=[]) (by simp) (by kernel_rfl)
def T_:ak:=⟨80,[a31,a26],.int .i64 (-1)⟩
theorem N1:ah EA T_:=af (n:=100) (l:=[RD]) (by simp only[List.forall_mem_cons];exact⟨Oj,by simp⟩) (by kernel_rfl)
def Ra:ak:=⟨35,[a31,a26],.bool false⟩
theorem OB:ah EA Ra:=af (n:=100) (l:=[T_]) (by simp only[List.forall_mem_cons];exact⟨N1,by simp⟩) (by kernel_rfl)
def Uo:ak:=⟨123,[a1,a31],.bool true⟩
theorem P7:ah EA Uo:=af (n:=100) (l:=[yj,Ra]) (by simp only[List.forall_mem_cons];exact⟨pz,OB,by simp⟩) (by kernel_rfl)
def Tw:ak:=⟨124,[a1,a20],.bool true⟩
theorem NM:ah EA Tw:=af (n:=100) (l:=[]) (by simp) (by kernel_rfl)
def QZ:ak:=⟨127,[a1,a20],L_⟩
theorem O_:ah EA QZ:=af (n:=100) (l:=[]) (by simp) (by kernel_rfl)
def TN:ak:=⟨126,[a1,a20],.bool true⟩
theorem N9:ah EA TN:=af (n:=100) (l:=[QZ]) (by simp only[List.forall_mem_cons];exact⟨O_,by simp⟩) (by kernel_rfl)
def KH:ak:=⟨99,[a1,a31,.aG],.int .i64 0⟩
theorem FH:ah EA KH:=af (n:=100) (l:=[Uo,Tw,TN]) (by simp only[List.forall_mem_cons];exact⟨P7,NM,N9,by simp⟩) (by kernel_rfl)
def R7:ak:=⟨178,[a1,a20],.tup [.fsl 2 [[.int .i64 1,.int .i64 1]],.int .i64 0]⟩
theorem NY:ah EA R7:=af (n:=100) (l:=[KH]) (by simp only[List.forall_mem_cons];exact⟨FH,by simp⟩) (by kernel_rfl)
def JZ:ak:=⟨179,[a28,.int .i64 1],.aG⟩
theorem Fb:ah EA JZ:=af (n:=100) (l:=[LK]) (by simp only[List.forall_mem_cons];exact⟨EY,by simp⟩) (by kernel_rfl)
def UP:ak:=⟨140,[a1,a20],My⟩
theorem NJ:ah EA UP:=af (n:=100) (l:=[R7,KN,JZ]) (by simp only[List.forall_mem_cons];exact⟨NY,E0,Fb,by simp⟩) (by kernel_rfl)
def UT:ak:=⟨180,[a32,oJ],.int .i64 0⟩
theorem M_:ah EA UT:=af (n:=100) (l:=[]) (by simp) (by kernel_rfl)
def TA:ak:=⟨180,[a32,oO],.int .i64 1⟩
theorem Ql:ah EA TA:=af (n:=100) (l:=[]) (by simp) (by kernel_rfl)
def Tt:ak:=⟨141,[a32,a9],.bool false⟩
theorem MR:ah EA Tt:=af (n:=100) (l:=[UT,TA]) (by simp only[List.forall_mem_cons];exact⟨M_,Ql,by simp⟩) (by kernel_rfl)
def Sj:ak:=⟨162,[pK,a12],.bool false⟩
theorem PW:ah EA Sj:=af (n:=100) (l:=[]) (by simp) (by kernel_rfl)
def Ri:ak:=⟨80,[a33,a26],.int .i64 (-1)⟩
theorem MN:ah EA Ri:=af (n:=100) (l:=[Sj]) (by simp only[List.forall_mem_cons];exact⟨PW,by simp⟩) (by kernel_rfl)
def Sb:ak:=⟨35,[a33,a26],.bool false⟩
theorem P8:ah EA Sb:=af (n:=100) (l:=[Ri]) (by simp only[List.forall_mem_cons];exact⟨MN,by simp⟩) (by kernel_rfl)
def Ut:ak:=⟨123,[a1,a33],.bool true⟩
theorem O6:ah EA Ut:=af (n:=100) (l:=[yj,Sb]) (by simp only[List.forall_mem_cons];exact⟨pz,P8,by simp⟩) (by kernel_rfl)
def Vn:ak:=⟨124,[a1,pK],.bool true⟩
theorem Qc:ah EA Vn:=af (n:=100) (l:=[]) (by simp) (by kernel_rfl)
def Ts:ak:=⟨127,[a1,pK],L_⟩
theorem OY:ah EA Ts:=af (n:=100) (l:=[]) (by simp) (by kernel_rfl)
def SR:ak:=⟨126,[a1,pK],.bool true⟩
theorem PT:ah EA SR:=af (n:=100) (l:=[Ts]) (by simp only[List.forall_mem_cons];exact⟨OY,by simp⟩) (by kernel_rfl)
def QU:ak:=⟨99,[a1,a33,.aG],.int .i64 0⟩
theorem PS:ah EA QU:=af (n:=100) (l:=[Ut,Vn,SR]) (by simp only[List.forall_mem_cons];exact⟨O6,Qc,PT,by simp⟩) (by kernel_rfl)
def UB:ak:=⟨178,[a1,pK],.tup [.fsl 2 [[.int .i64 0,.int .i64 1]],.int .i64 0]⟩
theorem Nc:ah EA UB:=af (n:=100) (l:=[QU]) (by simp only[List.forall_mem_cons];exact⟨PS,by simp⟩) (by kernel_rfl)
def JS:ak:=⟨179,[a2,.int .i64 1],.aG⟩
theorem Fh:ah EA JS:=af (n:=100) (l:=[J3]) (by simp only[List.forall_mem_cons];exact⟨FF,by simp⟩) (by kernel_rfl)
def Sr:ak:=⟨140,[a1,pK],My⟩
theorem Na:ah EA Sr:=af (n:=100) (l:=[UB,JS,JM]) (by simp only[List.forall_mem_cons];exact⟨Nc,Fh,Fa,by simp⟩) (by kernel_rfl)
def VK:ak:=⟨180,[VR,oJ],.int .i64 1⟩
theorem Om:ah EA VK:=af (n:=100) (l:=[]) (by simp) (by kernel_rfl)
def SH:ak:=⟨180,[VR,oO],.int .i64 0⟩
theorem O8:ah EA SH:=af (n:=100) (l:=[]) (by simp) (by kernel_rfl)
def TM:ak:=⟨141,[VR,a9],.bool false⟩
theorem Qk:ah EA TM:=af (n:=100) (l:=[VK,SH]) (by simp only[List.forall_mem_cons];exact⟨Om,O8,by simp⟩) (by kernel_rfl)
def VP:ak:=⟨162,[a23,a12],.bool false⟩
theorem P6:ah EA VP:=af (n:=100) (l:=[]) (by simp) (by kernel_rfl)
def Ta:ak:=⟨80,[a24,a26],.int .i64 (-1)⟩
theorem Oi:ah EA Ta:=af (n:=100) (l:=[VP]) (by simp only[List.forall_mem_cons];exact⟨P6,by simp⟩) (by kernel_rfl)
def RG:ak:=⟨35,[a24,a26],.bool false⟩
theorem M1:ah EA RG:=af (n:=100) (l:=[Ta]) (by simp only[List.forall_mem_cons];exact⟨Oi,by simp⟩) (by kernel_rfl)
def UL:ak:=⟨123,[a1,a24],.bool true⟩
theorem Oe:ah EA UL:=af (n:=100) (l:=[yj,RG]) (by simp only[List.forall_mem_cons];exact⟨pz,M1,by simp⟩) (by kernel_rfl)
def RE:ak:=⟨124,[a1,a23],.bool true⟩
theorem Qh:ah EA RE:=af (n:=100) (l:=[]) (by simp) (by kernel_rfl)
def U0:ak:=⟨127,[a1,a23],L_⟩
theorem P9:ah EA U0:=af (n:=100) (l:=[]) (by simp) (by kernel_rfl)
def UI:ak:=⟨126,[a1,a23],.bool true⟩
theorem Ow:ah EA UI:=af (n:=100) (l:=[U0]) (by simp only[List.forall_mem_cons];exact⟨P9,by simp⟩) (by kernel_rfl)
def K9:ak:=⟨99,[a1,a24,.aG],.int .i64 0⟩
theorem E8:ah EA K9:=af (n:=100) (l:=[UL,RE,UI]) (by simp only[List.forall_mem_cons];exact⟨Oe,Qh,Ow,by simp⟩) (by kernel_rfl)
def R9:ak:=⟨178,[a1,a23],.tup [.fsl 2 [[.int .i64 0,.int .i64 1],[.int .i64 1,.int .i64 1]],.int .i64 0]⟩
theorem PN:ah EA R9:=af (n:=100) (l:=[K9]) (by simp only[List.forall_mem_cons];exact⟨E8,by simp⟩) (by kernel_rfl)
def Vu:ak:=⟨140,[a1,a23],My⟩
theorem Nk:ah EA Vu:=af (n:=100) (l:=[R9,JS,JZ]) (by simp only[List.forall_mem_cons];exact⟨PN,Fh,Fb,by simp⟩) (by kernel_rfl)
def Q3:ak:=⟨180,[a35,oJ],.int .i64 1⟩
theorem NC:ah EA Q3:=af (n:=100) (l:=[]) (by simp) (by kernel_rfl)
def Sa:ak:=⟨180,[a35,oO],.int .i64 1⟩
theorem OJ:ah EA Sa:=af (n:=100) (l:=[]) (by simp) (by kernel_rfl)
def QN:ak:=⟨141,[a35,a9],.bool true⟩
theorem PG:ah EA QN:=af (n:=100) (l:=[Q3,Sa]) (by simp only[List.forall_mem_cons];exact⟨NC,OJ,by simp⟩) (by kernel_rfl)
def Vk:ak:=⟨113,[a1,a9],.tup [.fsl 1 [[.fsl 1 [[.int .i64 0],[.int .i64 0]]],[.fsl 1 [[.int .i64 0],[.int .i64 1]]],[.fsl 1 [[.int .i64 1],[.int .i64 0]]],[.fsl 1 [[.int .i64 1],[.int .i64 1]]]],.fsl 1 [[.bool true],[.bool false],[.bool false],[.bool true]],.int .i64 0]⟩
theorem OW:ah EA Vk:=af (n:=100) (l:=[YN,Yw,YV,SS,TT,S_,UP,Tt,Sr,TM,Vu,QN]) (by simp only[List.forall_mem_cons];exact⟨VU,QW,Rs,N6,M4,PM,NJ,MR,Na,Qk,Nk,PG,by simp⟩) (by kernel_rfl)
def Sn:ak:=⟨85,[a1,a9],Yy⟩
theorem PZ:ah EA Sn:=af (n:=100) (l:=[Vk]) (by simp only[List.forall_mem_cons];exact⟨OW,by simp⟩) (by kernel_rfl)
def J9:ak:=⟨63,[a1,ga],.bool true⟩
theorem EX:ah EA J9:=af (n:=100) (l:=[Ke]) (by simp only[List.forall_mem_cons];exact⟨ET,by simp⟩) (by kernel_rfl)
def Sx:ak:=⟨71,[ga,a12],.bool false⟩
theorem Ni:ah EA Sx:=af (n:=100) (l:=[J9]) (by simp only[List.forall_mem_cons];exact⟨EX,by simp⟩) (by kernel_rfl)
def DH:ak:=⟨63,[a1,a23],.bool true⟩
theorem xR:ah EA DH:=af (n:=100) (l:=[K9]) (by simp only[List.forall_mem_cons];exact⟨E8,by simp⟩) (by kernel_rfl)
def Ua:ak:=⟨71,[a23,a12],.bool false⟩
theorem Pe:ah EA Ua:=af (n:=100) (l:=[DH]) (by simp only[List.forall_mem_cons];exact⟨xR,by simp⟩) (by kernel_rfl)
def Uy:ak:=⟨80,[a37,Mp],.int .i64 (-1)⟩
theorem OO:ah EA Uy:=af (n:=100) (l:=[Sx,Ua]) (by simp only[List.forall_mem_cons];exact⟨Ni,Pe,by simp⟩) (by kernel_rfl)
def TI:ak:=⟨35,[a37,Mp],.bool false⟩
theorem OG:ah EA TI:=af (n:=100) (l:=[Uy]) (by simp only[List.forall_mem_cons];exact⟨OO,by simp⟩) (by kernel_rfl)
def K7:ak:=⟨104,[.int .i64 0,.int .i64 0],.int .i64 0⟩
theorem EL:ah EA K7:=af (n:=100) (l:=[]) (by simp) (by kernel_rfl)
def Sp:ak:=⟨103,[ga,ga,.clo 104 [] []],ga⟩
theorem Np:ah EA Sp:=af (n:=100) (l:=[K7]) (by simp only[List.forall_mem_cons];exact⟨EL,by simp⟩) (by kernel_rfl)
def S6:ak:=⟨73,[ga,ga],ga⟩
theorem No:ah EA S6:=af (n:=100) (l:=[Sp]) (by simp only[List.forall_mem_cons];exact⟨Np,by simp⟩) (by kernel_rfl)
def LJ:ak:=⟨105,[.int .i64 0,.int .i64 0],.int .i64 0⟩
theorem EC:ah EA LJ:=af (n:=100) (l:=[]) (by simp) (by kernel_rfl)
def Us:ak:=⟨103,[ga,ga,.clo 105 [] []],ga⟩
theorem MW:ah EA Us:=af (n:=100) (l:=[LJ]) (by simp only[List.forall_mem_cons];exact⟨EC,by simp⟩) (by kernel_rfl)
def UW:ak:=⟨74,[ga,ga],ga⟩
theorem Of:ah EA UW:=af (n:=100) (l:=[Us]) (by simp only[List.forall_mem_cons];exact⟨MW,by simp⟩) (by kernel_rfl)
def Uf:ak:=⟨104,[.int .i64 0,.int .i64 1],.int .i64 0⟩
theorem Po:ah EA Uf:=af (n:=100) (l:=[]) (by simp) (by kernel_rfl)
def Vs:ak:=⟨103,[ga,a23,.clo 104 [] []],ga⟩
theorem NZ:ah EA Vs:=af (n:=100) (l:=[Uf]) (by simp only[List.forall_mem_cons];exact⟨Po,by simp⟩) (by kernel_rfl)
def UK:ak:=⟨73,[ga,a23],ga⟩
theorem MQ:ah EA UK:=af (n:=100) (l:=[Vs]) (by simp only[List.forall_mem_cons];exact⟨NZ,by simp⟩) (by kernel_rfl)
def Rx:ak:=⟨105,[.int .i64 0,.int .i64 1],.int .i64 1⟩
theorem N0:ah EA Rx:=af (n:=100) (l:=[]) (by simp) (by kernel_rfl)
def Va:ak:=⟨103,[ga,a23,.clo 105 [] []],a23⟩
theorem Og:ah EA Va:=af (n:=100) (l:=[Rx]) (by simp only[List.forall_mem_cons];exact⟨N0,by simp⟩) (by kernel_rfl)
def Lp:ak:=⟨74,[ga,a23],a23⟩
theorem EF:ah EA Lp:=af (n:=100) (l:=[Va]) (by simp only[List.forall_mem_cons];exact⟨Og,by simp⟩) (by kernel_rfl)
def QT:ak:=⟨61,[.agg [.bool false,.fsl 1 [[.int .i64 0],[.int .i64 0]],.fsl 1 [[.int .i64 1],[.int .i64 1]],.fsl 1 [[.fsl 1 [[.aG]]],[.fsl 1 [[.aG]]]]],a6],.aG⟩
theorem Ot:ah EA QT:=af (n:=100) (l:=[]) (by simp) (by kernel_rfl)
def KL:ak:=⟨104,[.int .i64 1,.int .i64 1],.int .i64 1⟩
theorem Ff:ah EA KL:=af (n:=100) (l:=[]) (by simp) (by kernel_rfl)
def RS:ak:=⟨103,[a23,a23,.clo 104 [] []],a23⟩
theorem MS:ah EA RS:=af (n:=100) (l:=[KL]) (by simp only[List.forall_mem_cons];exact⟨Ff,by simp⟩) (by kernel_rfl)
def Ud:ak:=⟨73,[a23,a23],a23⟩
theorem P_:ah EA Ud:=af (n:=100) (l:=[RS]) (by simp only[List.forall_mem_cons];exact⟨MS,by simp⟩) (by kernel_rfl)
def SF:ak:=⟨61,[.agg [.bool false,.fsl 1 [[.int .i64 0],[.int .i64 0]],.fsl 1 [[.int .i64 1],[.int .i64 1]],.fsl 1 [[.fsl 1 [[.fsl 1 [[.int .i64 1],[.int .i64 1]]]]],[.fsl 1 [[.aG]]]]],a7],.aG⟩
theorem N8:ah EA SF:=af (n:=100) (l:=[]) (by simp) (by kernel_rfl)
def VM:ak:=⟨28,[a1,a37],a39⟩
theorem Qf:ah EA VM:=af (n:=100) (l:=[yj,TI,S6,UW,UK,Lp,QT,Ud,SF]) (by simp only[List.forall_mem_cons];exact⟨pz,OG,No,Of,MQ,EF,Ot,P_,N8,by simp⟩) (by kernel_rfl)
def CD:ak:=⟨61,[a40,a6],a23⟩
theorem xu:ah EA CD:=af (n:=100) (l:=[]) (by simp) (by kernel_rfl)
def DL:ak:=⟨61,[a40,a7],a23⟩
theorem xP:ah EA DL:=af (n:=100) (l:=[]) (by simp) (by kernel_rfl)
def Gi:ak:=⟨94,[ga],.int .i64 0⟩
theorem Ba:ah EA Gi:=af (n:=100) (l:=[]) (by simp) (by kernel_rfl)
def QK:ak:=⟨95,[ga,ga],.int .i64 0⟩
theorem Nf:ah EA QK:=af (n:=100) (l:=[HU]) (by simp only[List.forall_mem_cons];exact⟨zZ,by simp⟩) (by kernel_rfl)
def Lt:ak:=⟨92,[ga],.int .i64 0⟩
theorem EK:ah EA Lt:=af (n:=100) (l:=[]) (by simp) (by kernel_rfl)
def TJ:ak:=⟨91,[ga,ga],.int .i64 0⟩
theorem Pt:ah EA TJ:=af (n:=100) (l:=[Gi,HU,QK,Lt]) (by simp only[List.forall_mem_cons];exact⟨Ba,zZ,Nf,EK,by simp⟩) (by kernel_rfl)
def Ht:ak:=⟨94,[a23],.int .i64 2⟩
theorem Bc:ah EA Ht:=af (n:=100) (l:=[]) (by simp) (by kernel_rfl)
def Hw:ak:=⟨116,[.int .i64 2],.bool false⟩
theorem AS:ah EA Hw:=af (n:=100) (l:=[]) (by simp) (by kernel_rfl)
def UU:ak:=⟨93,[.int .i64 0,.int .i64 2],.int .i64 (-1)⟩
theorem N3:ah EA UU:=af (n:=100) (l:=[EG,Hw]) (by simp only[List.forall_mem_cons];exact⟨xd,AS,by simp⟩) (by kernel_rfl)
def T3:ak:=⟨95,[ga,a23],.int .i64 (-1)⟩
theorem ML:ah EA T3:=af (n:=100) (l:=[UY]) (by simp only[List.forall_mem_cons];exact⟨HS,by simp⟩) (by kernel_rfl)
def Tk:ak:=⟨92,[.fsl 1 [[.int .i64 (-1)],[.int .i64 (-1)]]],.int .i64 (-1)⟩
theorem Nz:ah EA Tk:=af (n:=100) (l:=[]) (by simp) (by kernel_rfl)
def Rm:ak:=⟨91,[ga,a23],.int .i64 (-1)⟩
theorem OI:ah EA Rm:=af (n:=100) (l:=[Gi,Ht,UU,T3,Tk]) (by simp only[List.forall_mem_cons];exact⟨Ba,Bc,N3,ML,Nz,by simp⟩) (by kernel_rfl)
def Uv:ak:=⟨93,[.int .i64 2,.int .i64 0],.int .i64 1⟩
theorem N7:ah EA Uv:=af (n:=100) (l:=[Hw,EG]) (by simp only[List.forall_mem_cons];exact⟨AS,xd,by simp⟩) (by kernel_rfl)
def QX:ak:=⟨95,[a23,ga],.int .i64 1⟩
theorem Nt:ah EA QX:=af (n:=100) (l:=[SY]) (by simp only[List.forall_mem_cons];exact⟨Is,by simp⟩) (by kernel_rfl)
def T7:ak:=⟨92,[a23],.int .i64 1⟩
theorem N_:ah EA T7:=af (n:=100) (l:=[]) (by simp) (by kernel_rfl)
def UM:ak:=⟨91,[a23,ga],.int .i64 1⟩
theorem Ox:ah EA UM:=af (n:=100) (l:=[Ht,Gi,Uv,QX,T7]) (by simp only[List.forall_mem_cons];exact⟨Bc,Ba,N7,Nt,N_,by simp⟩) (by kernel_rfl)
def R_:ak:=⟨93,[.int .i64 2,.int .i64 2],.int .i64 0⟩
theorem OM:ah EA R_:=af (n:=100) (l:=[Hw]) (by simp only[List.forall_mem_cons];exact⟨AS,by simp⟩) (by kernel_rfl)
def T6:ak:=⟨91,[a23,a23],.int .i64 0⟩
theorem NS:ah EA T6:=af (n:=100) (l:=[Ht,R_,KO,Lt]) (by simp only[List.forall_mem_cons];exact⟨Bc,OM,E9,EK,by simp⟩) (by kernel_rfl)
def JY:ak:=⟨49,[a40],.tup [.fsl 1 [[.fsl 1 [[.int .i64 0],[.int .i64 0]]],[.fsl 1 [[.int .i64 1],[.int .i64 1]]]],.bool true]⟩
theorem FD:ah EA JY:=af (n:=100) (l:=[CD,Lp,DL,TJ,Rm,UM,T6]) (by simp only[List.forall_mem_cons];exact⟨xu,EF,xP,Pt,OI,Ox,NS,by simp⟩) (by kernel_rfl)
def QL:ak:=⟨39,[a1,a9],a39⟩
theorem Oo:ah EA QL:=af (n:=100) (l:=[Sn,VM,JY]) (by simp only[List.forall_mem_cons];exact⟨PZ,Qf,FD,by simp⟩) (by kernel_rfl)
def Gt:ak:=⟨24,[ga,a23],.bool true⟩
theorem Bb:ah EA Gt:=af (n:=100) (l:=[]) (by simp) (by kernel_rfl)
def Uz:ak:=⟨55,[a1,a40],.bool true⟩
theorem Pb:ah EA Uz:=af (n:=100) (l:=[J9,DH,Gt]) (by simp only[List.forall_mem_cons];exact⟨EX,xR,Bb,by simp⟩) (by kernel_rfl)
def US:ak:=⟨57,[a1],a23⟩
theorem Nw:ah EA US:=af (n:=100) (l:=[]) (by simp) (by kernel_rfl)
def Q5:ak:=⟨97,[a6,a23],.bool true⟩
theorem P5:ah EA Q5:=af (n:=100) (l:=[]) (by simp) (by kernel_rfl)
def Vl:ak:=⟨97,[a6,ga],.bool false⟩
theorem OV:ah EA Vl:=af (n:=100) (l:=[]) (by simp) (by kernel_rfl)
def Dx:ak:=⟨24,[a23,a23],.bool true⟩
theorem xq:ah EA Dx:=af (n:=100) (l:=[]) (by simp) (by kernel_rfl)
def Tl:ak:=⟨59,[a1,a40,a6],.bool true⟩
theorem M8:ah EA Tl:=af (n:=100) (l:=[CD,Q5,Vl,DH,Gt,Dx]) (by simp only[List.forall_mem_cons];exact⟨xu,P5,OV,xR,Bb,xq,by simp⟩) (by kernel_rfl)
def S0:ak:=⟨58,[a6,a12,a41],.bool true⟩
theorem Nr:ah EA S0:=af (n:=100) (l:=[Tl]) (by simp only[List.forall_mem_cons];exact⟨M8,by simp⟩) (by kernel_rfl)
def RN:ak:=⟨97,[a7,a23],.bool true⟩
theorem Pz:ah EA RN:=af (n:=100) (l:=[]) (by simp) (by kernel_rfl)
def SK:ak:=⟨97,[a7,ga],.bool false⟩
theorem Pf:ah EA SK:=af (n:=100) (l:=[]) (by simp) (by kernel_rfl)
def Vm:ak:=⟨59,[a1,a40,a7],.bool true⟩
theorem Pj:ah EA Vm:=af (n:=100) (l:=[DL,RN,SK,DH,Gt,Dx]) (by simp only[List.forall_mem_cons];exact⟨xP,Pz,Pf,xR,Bb,xq,by simp⟩) (by kernel_rfl)
def Ul:ak:=⟨58,[a7,a12,a41],.bool true⟩
theorem Qg:ah EA Ul:=af (n:=100) (l:=[Vm]) (by simp only[List.forall_mem_cons];exact⟨Pj,by simp⟩) (by kernel_rfl)
def K_:ak:=⟨62,[a6,a41,X4],.bool true⟩
theorem Fk:ah EA K_:=af (n:=100) (l:=[CD,Dx]) (by simp only[List.forall_mem_cons];exact⟨xu,xq,by simp⟩) (by kernel_rfl)
def J5:ak:=⟨62,[a7,a41,X4],.bool true⟩
theorem EU:ah EA J5:=af (n:=100) (l:=[DL,Dx]) (by simp only[List.forall_mem_cons];exact⟨xP,xq,by simp⟩) (by kernel_rfl)
def TE:ak:=⟨60,[a6,a41],.bool true⟩
theorem M9:ah EA TE:=af (n:=100) (l:=[CD,K_,J5]) (by simp only[List.forall_mem_cons];exact⟨xu,Fk,EU,by simp⟩) (by kernel_rfl)
def Vg:ak:=⟨60,[a7,a41],.bool true⟩
theorem Oy:ah EA Vg:=af (n:=100) (l:=[DL,K_,J5]) (by simp only[List.forall_mem_cons];exact⟨xP,Fk,EU,by simp⟩) (by kernel_rfl)
def T5:ak:=⟨17,[a1,a40],.bool true⟩
theorem PA:ah EA T5:=af (n:=100) (l:=[yj,Uz,US,S0,Ul,TE,Vg]) (by simp only[List.forall_mem_cons];exact⟨pz,Pb,Nw,Nr,Qg,M9,Oy,by simp⟩) (by kernel_rfl)
def UC:ak:=⟨13,[a1,a40],Yy⟩
theorem PU:ah EA UC:=af (n:=100) (l:=[T5,JY]) (by simp only[List.forall_mem_cons];exact⟨PA,FD,by simp⟩) (by kernel_rfl)
def TW:ak:=⟨63,[a1,a20],.bool true⟩
theorem Py:ah EA TW:=af (n:=100) (l:=[KH]) (by simp only[List.forall_mem_cons];exact⟨FH,by simp⟩) (by kernel_rfl)
def UZ:ak:=⟨71,[a20,a12],.bool false⟩
theorem Qd:ah EA UZ:=af (n:=100) (l:=[TW]) (by simp only[List.forall_mem_cons];exact⟨Py,by simp⟩) (by kernel_rfl)
def SC:ak:=⟨80,[a31,Mp],.int .i64 (-1)⟩
theorem O4:ah EA SC:=af (n:=100) (l:=[UZ]) (by simp only[List.forall_mem_cons];exact⟨Qd,by simp⟩) (by kernel_rfl)
def Vf:ak:=⟨35,[a31,Mp],.bool false⟩
theorem Ng:ah EA Vf:=af (n:=100) (l:=[SC]) (by simp only[List.forall_mem_cons];exact⟨O4,by simp⟩) (by kernel_rfl)
def SU:ak:=⟨103,[a20,a20,.clo 104 [] []],a20⟩
theorem OX:ah EA SU:=af (n:=100) (l:=[K7,KL]) (by simp only[List.forall_mem_cons];exact⟨EL,Ff,by simp⟩) (by kernel_rfl)
def U6:ak:=⟨73,[a20,a20],a20⟩
theorem OL:ah EA U6:=af (n:=100) (l:=[SU]) (by simp only[List.forall_mem_cons];exact⟨OX,by simp⟩) (by kernel_rfl)
def Sg:ak:=⟨105,[.int .i64 1,.int .i64 1],.int .i64 1⟩
theorem OT:ah EA Sg:=af (n:=100) (l:=[]) (by simp) (by kernel_rfl)
def Q2:ak:=⟨103,[a20,a20,.clo 105 [] []],a20⟩
theorem Pa:ah EA Q2:=af (n:=100) (l:=[LJ,Sg]) (by simp only[List.forall_mem_cons];exact⟨EC,OT,by simp⟩) (by kernel_rfl)
def Si:ak:=⟨74,[a20,a20],a20⟩
theorem OR:ah EA Si:=af (n:=100) (l:=[Q2]) (by simp only[List.forall_mem_cons];exact⟨Pa,by simp⟩) (by kernel_rfl)
def QY:ak:=⟨61,[.agg [.bool false,.fsl 1 [[.int .i64 0],[.int .i64 1]],.fsl 1 [[.int .i64 0],[.int .i64 1]],.fsl 1 [[.fsl 1 [[.aG]]],[.fsl 1 [[.aG]]]]],a7],.aG⟩
theorem NA:ah EA QY:=af (n:=100) (l:=[]) (by simp) (by kernel_rfl)
def Q7:ak:=⟨28,[a1,a31],.tup [.agg [.bool false,.fsl 1 [[.int .i64 0],[.int .i64 1]],.fsl 1 [[.int .i64 0],[.int .i64 1]],.fsl 1 [[.fsl 1 [[.aG]]],[.fsl 1 [[.fsl 1 [[.int .i64 0],[.int .i64 1]]]]]]],.int .i64 0]⟩
theorem MI:ah EA Q7:=af (n:=100) (l:=[yj,Vf,U6,Si,QY]) (by simp only[List.forall_mem_cons];exact⟨pz,Ng,OL,OR,NA,by simp⟩) (by kernel_rfl)
def LM:ak:=⟨53,[ga,ga],.bool true⟩
theorem Fu:ah EA LM:=af (n:=100) (l:=[]) (by simp) (by kernel_rfl)
def Gc:ak:=⟨53,[a23,a23],.bool true⟩
theorem A6:ah EA Gc:=af (n:=100) (l:=[]) (by simp) (by kernel_rfl)
def Vp:ak:=⟨16,[a24,a24],.bool true⟩
theorem OQ:ah EA Vp:=af (n:=100) (l:=[Gc]) (by simp only[List.forall_mem_cons];exact⟨A6,by simp⟩) (by kernel_rfl)
def Te:ak:=⟨33,[a40,a40],.bool true⟩
theorem PY:ah EA Te:=af (n:=100) (l:=[LM,Gc,Vp]) (by simp only[List.forall_mem_cons];exact⟨Fu,A6,OQ,by simp⟩) (by kernel_rfl)
def Rt:ak:=⟨16,[a37,a37],.bool true⟩
theorem PD:ah EA Rt:=af (n:=100) (l:=[LM,Gc]) (by simp only[List.forall_mem_cons];exact⟨Fu,A6,by simp⟩) (by kernel_rfl)
def JD:ak:=⟨53,[a20,a20],.bool true⟩
theorem FB:ah EA JD:=af (n:=100) (l:=[]) (by simp) (by kernel_rfl)
def UA:ak:=⟨53,[.aG,.aG],.bool true⟩
theorem Ol:ah EA UA:=af (n:=100) (l:=[]) (by simp) (by kernel_rfl)
def Sm:ak:=⟨16,[.fsl 1 [[.aG]],.fsl 1 [[.aG]]],.bool true⟩
theorem O1:ah EA Sm:=af (n:=100) (l:=[UA]) (by simp only[List.forall_mem_cons];exact⟨Ol,by simp⟩) (by kernel_rfl)
def Sq:ak:=⟨16,[a31,a31],.bool true⟩
theorem Oz:ah EA Sq:=af (n:=100) (l:=[JD]) (by simp only[List.forall_mem_cons];exact⟨FB,by simp⟩) (by kernel_rfl)
def RB:ak:=⟨33,[X7,X7],.bool true⟩
theorem Px:ah EA RB:=af (n:=100) (l:=[JD,Sm,Sq]) (by simp only[List.forall_mem_cons];exact⟨FB,O1,Oz,by simp⟩) (by kernel_rfl)
theorem FN:∃n H1,run EA n (.fn 9) [] []=some (.bool true,H1):=GA (n:=100) (l:=[QL,UC,Q7,Te,Rt,RB]) (by simp only[List.forall_mem_cons];exact⟨Oo,PU,MI,PY,PD,Px,by simp⟩) (by kernel_rfl)
theorem calls (n:Nat):iH Tryz.prog (run E n):=Bo Wo mixed ⟨Md,fun f az b h=>by
 by_cases hf:Nat.beq f 9=true
 ·have e:E.known f az=if az.isEmpty then some (.bool true)else none:=by unfold E zM;simp only[hf,if_true]
  rw[e]at h;split at h
  ·rename_i ha;cases h;have:f=9:=Nat.eq_of_beq_eq_true hf;subst this;have:az=[]:=List.isEmpty_iff.1 ha;subst this;obtain⟨n,H1,h1⟩:=FN;exact I4 (Sk n) h1
  ·cases h
 ·have e:E.known f az=EA.known f az:=by unfold E EA zM;simp only[hf,if_false,Bool.false_eq_true]
  rw[e]at h;exact IU f az b h⟩ n
end Go.Proofs.YtjbnbbbiijdbpaaGreatDoor
