/-
 The tables of this seat, and the law's own awakening.
-/
import Derived.Test.YtjbnbbbiijdbpaaGreatDoorProg
import Derived.KernelRfl
import Derived.Test.YtjbnbbbiijdbpaaGreatDoorV2
set_option linter.all false
namespace Go.Proofs.YtjbnbbbiijdbpaaGreatDoor
open Go.VE Go.Proofs
def Ct:List Int:=[-1,0,0,0,0,1,2,2,2,2,2,2,2,0,0,1,2,2,1,1,1,1]
instance:aV:=⟨λg=>if Nat.beq g 0 then some (Ct.map (V.int .i64))else none,λg cs h=>by
 split at h
 .cases h;exact⟨_,_,rfl⟩
 .cases h⟩
noncomputable def EA:Env:=Af Tryz.prog [0,1,90,89] [131,72,221,232,90,102,192,194,195,213,56,75,89] [131,72,221] [(89,2),(108,8)] (λf=>Nat.beq f 90) λf az=>(if Nat.beq f 89 then rR 8 az else none)
noncomputable def E:Env:=Af Tryz.prog [0,1,90,89,9] [131,72,221,232,90,102] [131,72,221] [(89,2),(108,8)] (λf=>Nat.beq f 90) λf az=>if Nat.beq f 9 then(if az.isEmpty then some (.bool true)else none)else(if Nat.beq f 89 then rR 8 az else none)
theorem Zo:ym Tryz.prog=true:=by kernel_rfl
theorem ZC:qe Tryz.prog 89 2:=qe.two (i:=3) Tryz.underlying89 rfl rfl rfl rfl (by decide) (by decide) (by kernel_rfl) Tryz.underlying3 (by kernel_rfl) (by kernel_rfl)
theorem WY:qe Tryz.prog 108 8:=qe.arr (i:=3) Tryz.underlying108 (by kernel_rfl) Tryz.underlying3 (by kernel_rfl)
theorem UQ:∀p∈[(89,2),(108,8)],qe Tryz.prog p.1 p.2:=λp h=>match p,h with|_,.head _=>ZC|_,.tail _ (.head _)=>WY
theorem VA:c6 Tryz.prog EA:=Da Zo UQ
theorem WU:c6 Tryz.prog E:=Da Zo UQ
theorem mixed:Tryz.prog.follows .mixedOrders=true:=by kernel_rfl
open Go.Shelf
def Tryz.wC:Go.Shelf.Ren:=⟨λ|6=>90|15=>115|14=>114|28=>150|29=>151|20=>142|21=>143|22=>144|23=>145|24=>146|25=>147|26=>148|27=>149|46=>181|47=>182|48=>183|49=>184|50=>185|57=>211|n=>n,λ|22=>33|24=>25|25=>114|3=>3|39=>134|0=>0|53=>173|55=>175|4=>4|46=>166|45=>165|50=>170|5=>5|9=>9|66=>197|70=>201|76=>220|77=>221|n=>n,λ|n=>n⟩
theorem Tryz.MX:Go.Proofs.SlLaysF.n6 Tryz.prog Tryz.wC:={
 mixed:=by kernel_rfl
 f6:=⟨Tryz.f90.name,by decide,Tryz.func90.trans (congrArg some (by kernel_rfl))⟩
 f14:=⟨Tryz.f114.name,by decide,Tryz.func114.trans (congrArg some (by kernel_rfl))⟩
 f15:=Tryz.func115.trans (congrArg some (by kernel_rfl))
 f20:=⟨Tryz.f142.name,by decide,Tryz.func142.trans (congrArg some (by kernel_rfl))⟩
 f21:=⟨Tryz.f143.name,by decide,Tryz.func143.trans (congrArg some (by kernel_rfl))⟩
 f22:=⟨Tryz.f144.name,by decide,Tryz.func144.trans (congrArg some (by kernel_rfl))⟩
 f23:=⟨Tryz.f145.name,by decide,Tryz.func145.trans (congrArg some (by kernel_rfl))⟩
 f24:=⟨Tryz.f146.name,by decide,Tryz.func146.trans (congrArg some (by kernel_rfl))⟩
 f25:=⟨Tryz.f147.name,by decide,Tryz.func147.trans (congrArg some (by kernel_rfl))⟩
 f26:=⟨Tryz.f148.name,by decide,Tryz.func148.trans (congrArg some (by kernel_rfl))⟩
 f27:=⟨Tryz.f149.name,by decide,Tryz.func149.trans (congrArg some (by kernel_rfl))⟩
 f28:=Tryz.func150.trans (congrArg some (by kernel_rfl))
 f29:=Tryz.func151.trans (congrArg some (by kernel_rfl))
 f46:=⟨Tryz.f181.name,by decide,Tryz.func181.trans (congrArg some (by kernel_rfl))⟩
 f47:=Tryz.func182.trans (congrArg some (by kernel_rfl))
 f48:=Tryz.func183.trans (congrArg some (by kernel_rfl))
 f49:=⟨Tryz.f184.name,by decide,Tryz.func184.trans (congrArg some (by kernel_rfl))⟩
 f50:=⟨Tryz.f185.name,by decide,Tryz.func185.trans (congrArg some (by kernel_rfl))⟩
 f57:=⟨Tryz.f211.name,by decide,Tryz.func211.trans (congrArg some (by kernel_rfl))⟩
 t0:=Tryz.underlying0
 a0:=Tryz.isAgg0
 z0:=Tryz.sizeOf0
 v0:=Tryz.zeroValue0
 t3:=Tryz.underlying3
 a3:=Tryz.isAgg3
 z3:=Tryz.sizeOf3
 v3:=Tryz.zeroValue3
 t4:=Tryz.underlying4
 a4:=Tryz.isAgg4
 z4:=Tryz.sizeOf4
 v4:=Tryz.zeroValue4
 t5:=Tryz.underlying5
 a5:=Tryz.isAgg5
 z5:=Tryz.sizeOf5
 v5:=Tryz.zeroValue5
 t9:=Tryz.underlying9
 a9:=Tryz.isAgg9
 z9:=Tryz.sizeOf9
 v9:=Tryz.zeroValue9
 t22:=Tryz.underlying33
 a22:=Tryz.isAgg33
 z22:=Tryz.sizeOf33
 v22:=Tryz.zeroValue33
 a24:=Tryz.isAgg25
 z24:=Tryz.sizeOf25
 t25:=Tryz.underlying114
 a25:=Tryz.isAgg114
 z25:=Tryz.sizeOf114
 v25:=Tryz.zeroValue114
 t39:=Tryz.underlying134
 a39:=Tryz.isAgg134
 z39:=Tryz.sizeOf134
 v39:=Tryz.zeroValue134
 t45:=Tryz.underlying165
 a45:=Tryz.isAgg165
 z45:=Tryz.sizeOf165
 v45:=Tryz.zeroValue165
 t46:=Tryz.underlying166
 a46:=Tryz.isAgg166
 z46:=Tryz.sizeOf166
 v46:=Tryz.zeroValue166
 t50:=Tryz.underlying170
 a50:=Tryz.isAgg170
 z50:=Tryz.sizeOf170
 v50:=Tryz.zeroValue170
 t53:=Tryz.underlying173
 a53:=Tryz.isAgg173
 z53:=Tryz.sizeOf173
 v53:=Tryz.zeroValue173
 t55:=Tryz.underlying175
 a55:=Tryz.isAgg175
 z55:=Tryz.sizeOf175
 v55:=Tryz.zeroValue175
 t66:=Tryz.underlying197
 a66:=Tryz.isAgg197
 z66:=Tryz.sizeOf197
 v66:=Tryz.zeroValue197
 t70:=Tryz.underlying201
 a70:=Tryz.isAgg201
 z70:=Tryz.sizeOf201
 v70:=Tryz.zeroValue201
 t76:=Tryz.underlying220
 a76:=Tryz.isAgg220
 z76:=Tryz.sizeOf220
 v76:=Tryz.zeroValue220
 t77:=Tryz.underlying221
 a77:=Tryz.isAgg221
 z77:=Tryz.sizeOf221
 v77:=Tryz.zeroValue221 }
theorem OP:xP Tryz.prog 90 where
 ok:=⟨Tryz.f90,Tryz.func90,by kernel_rfl,by kernel_rfl⟩
 zero:=λp cap fv w=>AnyF.slices_SortFunc_none (ρ:=Tryz.wC) { Tryz.MX with } p cap fv w
 all:=λenc h1 cf hO g cb blk off cap d w eg hc hH hb hs=>Any.slices_SortFunc_eq (ρ:=Tryz.wC) Tryz.MX enc h1 cf hO g cb blk off cap d w eg hc hH hb hs
theorem M_:∀f,EA.sort f=true->xP Tryz.prog f:=λf h=>by
 have:f=90:=Nat.eq_of_beq_eq_true h;subst this;exact OP
theorem tK:∀az y,rR 8 az=some y->tw Tryz.prog 89 az y:=
 Q8 (f:=89) (A:=108) (S:=25) (e:=3) (n:=8) (bytes:=64) Tryz.func89 rfl rfl rfl (by kernel_rfl) Tryz.underlying108 Tryz.underlying25 (by kernel_rfl) (by kernel_rfl)
theorem Jm:∀f az y,EA.known f az=some y->tw Tryz.prog f az y:=λf az y h=>by
 change (if Nat.beq f 89 then rR 8 az else none)=some y at h;split at h
 .rename_i hf;have:f=89:=Nat.eq_of_beq_eq_true hf;subst this;exact tK az y h
 .cases h
theorem V_ (n:Nat):iL Tryz.prog (run EA n):=BO VA mixed ⟨M_,Jm⟩ n
end Go.Proofs.YtjbnbbbiijdbpaaGreatDoor
namespace Go.Proofs.YtjbnbbbiijdbpaaGreatDoor
open Go.VE Go.Proofs
def a0:V:=.clo 154 [] [.fptr [.str (ByteArray.mk #[112]),.aF,.fsl 5 [[.int .i64 1,.int .i64 0,.int .i64 0,.int .i64 0,.aF]]]]
def a1:V:=.agg [.fsl 3 [[.str (ByteArray.mk #[112]),.aF,.fsl 5 [[.int .i64 1,.int .i64 0,.int .i64 0,.int .i64 0,.aF]]],[.str (ByteArray.mk #[113]),.aF,.fsl 5 [[.int .i64 1,.int .i64 0,.int .i64 0,.int .i64 0,.aF]]]]]
def a2:V:=.agg [.str (ByteArray.mk #[112]),.aF,.fsl 5 [[.int .i64 1,.int .i64 0,.int .i64 0,.int .i64 0,.aF]]]
def a3:V:=.fsl 3 [[.str (ByteArray.mk #[112]),.aF,.fsl 5 [[.int .i64 1,.int .i64 0,.int .i64 0,.int .i64 0,.aF]]]]
def a4:V:=.clo 154 [] [.fptr [.str (ByteArray.mk #[113]),.aF,.fsl 5 [[.int .i64 1,.int .i64 0,.int .i64 0,.int .i64 0,.aF]]]]
def a5:V:=.agg [.int .i64 1,.int .i64 0,.int .i64 0,.int .i64 0,.aF]
def a6:V:=.agg [.int .i64 0,.int .i64 1]
def a7:V:=.agg [.int .i64 1,.int .i64 1]
def a8:V:=.fptr [.int .i64 0,.int .i64 0,.int .i64 0,.int .i64 0,.int .i64 0,.int .i64 0,.int .i64 0,.int .i64 0,.int .i64 0,.int .i64 0,.int .i64 0,.int .i64 0,.int .i64 0,.int .i64 0,.int .i64 0,.int .i64 0,.int .i64 0,.int .i64 0,.int .i64 0,.int .i64 0,.int .i64 0,.int .i64 0,.int .i64 0,.int .i64 0,.int .i64 0,.int .i64 0,.int .i64 0,.int .i64 0,.int .i64 0,.int .i64 0,.int .i64 0,.int .i64 0,.int .i64 0,.int .i64 0,.int .i64 0,.int .i64 0,.int .i64 0,.int .i64 0,.int .i64 0,.int .i64 0,.int .i64 0,.int .i64 0,.int .i64 0,.int .i64 0,.int .i64 0,.int .i64 0,.int .i64 0,.int .i64 0,.int .i64 0,.int .i64 0,.int .i64 0,.int .i64 0,.int .i64 0,.int .i64 0,.int .i64 0,.int .i64 0,.int .i64 0,.int .i64 0,.int .i64 0,.int .i64 0,.int .i64 0,.int .i64 0,.int .i64 0,.int .i64 0,.int .i64 0,.int .i64 0,.int .i64 0,.int .i64 0,.int .i64 0,.int .i64 0,.int .i64 0,.int .i64 0,.int .i64 0,.int .i64 0,.int .i64 0,.int .i64 0,.int .i64 0,.int .i64 0,.int .i64 0,.int .i64 0,.int .i64 0,.int .i64 0,.int .i64 0,.int .i64 0,.int .i64 0,.int .i64 0,.int .i64 0,.int .i64 0,.int .i64 0,.int .i64 0,.int .i64 0,.int .i64 0,.int .i64 0,.int .i64 0,.int .i64 0,.int .i64 0,.int .i64 0,.int .i64 0,.int .i64 0,.int .i64 0,.int .i64 0,.int .i64 0,.int .i64 0,.int .i64 0,.int .i64 0,.int .i64 0,.int .i64 0,.int .i64 0,.int .i64 0,.int .i64 0,.int .i64 0,.int .i64 0,.int .i64 0,.int .i64 0,.int .i64 0,.int .i64 0,.int .i64 0,.int .i64 0,.int .i64 0,.int .i64 0,.int .i64 0,.int .i64 0,.int .i64 0,.int .i64 0,.int .i64 0,.int .i64 0,.int .i64 0,.int .i64 0,.int .i64 0,.int .i64 0,.int .i64 0,.int .i64 0,.int .i64 0,.int .i64 0,.int .i64 0,.int .i64 0,.int .i64 0,.int .i64 0,.int .i64 0,.int .i64 0,.int .i64 0,.int .i64 0,.int .i64 0,.int .i64 0,.int .i64 0,.int .i64 0,.int .i64 0,.int .i64 0,.int .i64 0,.int .i64 0,.int .i64 0,.int .i64 0,.int .i64 0,.int .i64 0,.int .i64 0,.int .i64 0,.int .i64 0,.int .i64 0,.int .i64 0,.int .i64 0,.int .i64 0,.int .i64 0,.int .i64 0,.int .i64 0,.int .i64 0,.int .i64 0,.int .i64 0,.int .i64 0,.int .i64 0,.int .i64 0,.int .i64 0,.int .i64 0,.int .i64 0,.int .i64 0,.int .i64 0,.int .i64 0,.int .i64 0,.int .i64 0,.int .i64 0,.int .i64 0,.int .i64 0,.int .i64 0,.int .i64 0,.int .i64 0,.int .i64 0,.int .i64 0,.int .i64 0,.int .i64 0,.int .i64 0,.int .i64 0,.int .i64 0,.int .i64 0,.int .i64 0,.int .i64 0,.int .i64 0,.int .i64 0,.int .i64 0,.int .i64 0,.int .i64 0,.int .i64 0,.int .i64 0,.int .i64 0,.int .i64 0,.int .i64 0,.int .i64 0,.int .i64 0,.int .i64 0,.int .i64 0,.int .i64 0,.int .i64 0,.int .i64 0,.int .i64 0,.int .i64 0,.int .i64 0,.int .i64 0,.int .i64 0,.int .i64 0,.int .i64 0,.int .i64 0,.int .i64 0,.int .i64 0,.int .i64 0,.int .i64 0,.int .i64 0,.int .i64 0,.int .i64 0,.int .i64 0,.int .i64 0,.int .i64 0,.int .i64 0,.int .i64 0,.int .i64 0,.int .i64 0,.int .i64 0,.int .i64 0,.int .i64 0,.int .i64 0,.int .i64 0,.int .i64 0,.int .i64 0,.int .i64 0,.int .i64 0,.int .i64 0,.int .i64 0,.int .i64 0,.int .i64 0,.int .i64 0,.int .i64 0,.int .i64 0,.int .i64 0,.int .i64 0,.int .i64 0,.int .i64 0,.int .i64 0,.int .i64 0,.int .i64 0,.int .i64 0,.int .i64 0,.int .i64 0,.int .i64 0,.int .i64 0,.int .i64 0,.int .i64 0,.int .i64 0,.int .i64 0,.int .i64 0,.int .i64 0,.int .i64 0,.int .i64 0,.int .i64 0,.int .i64 0,.int .i64 0,.int .i64 0,.int .i64 0,.int .i64 0,.int .i64 0,.int .i64 0,.int .i64 0,.int .i64 0,.int .i64 0,.int .i64 0,.int .i64 0,.int .i64 0,.int .i64 0,.int .i64 0,.int .i64 0,.int .i64 0,.int .i64 0,.int .i64 0,.int .i64 0,.int .i64 0,.int .i64 0,.int .i64 0,.int .i64 0,.int .i64 0,.int .i64 0,.int .i64 0,.int .i64 0,.int .i64 0,.int .i64 0,.int .i64 0,.int .i64 0,.int .i64 0,.int .i64 0,.int .i64 0,.int .i64 0,.int .i64 0,.int .i64 0,.int .i64 0,.int .i64 0,.int .i64 0,.int .i64 0,.int .i64 0,.int .i64 0,.int .i64 0,.int .i64 0,.int .i64 0,.int .i64 0,.int .i64 0,.int .i64 0,.int .i64 0,.int .i64 0,.int .i64 0,.int .i64 0,.int .i64 0,.int .i64 0,.int .i64 0,.int .i64 0,.int .i64 0,.int .i64 0,.int .i64 0,.int .i64 0,.int .i64 0,.int .i64 0,.int .i64 0,.int .i64 0,.int .i64 0,.int .i64 0,.int .i64 0,.int .i64 0,.int .i64 0,.int .i64 0,.int .i64 0,.int .i64 0,.int .i64 0,.int .i64 0,.int .i64 0,.int .i64 0,.int .i64 0,.int .i64 0,.int .i64 0,.int .i64 0,.int .i64 0,.int .i64 0,.int .i64 0,.int .i64 0,.int .i64 0,.int .i64 0,.int .i64 0,.int .i64 0,.int .i64 0,.int .i64 0,.int .i64 0,.int .i64 0,.int .i64 0,.int .i64 0,.int .i64 0,.int .i64 0,.int .i64 0,.int .i64 0,.int .i64 0,.int .i64 0,.int .i64 0,.int .i64 0,.int .i64 0,.int .i64 0,.int .i64 0,.int .i64 0,.int .i64 0,.int .i64 0,.int .i64 0,.int .i64 0,.int .i64 0,.int .i64 0,.int .i64 0,.int .i64 0,.int .i64 0,.int .i64 0,.int .i64 0,.int .i64 0,.int .i64 0,.int .i64 0,.int .i64 0,.int .i64 0,.int .i64 0,.int .i64 0,.int .i64 0,.int .i64 0,.int .i64 0,.int .i64 0,.int .i64 0,.int .i64 0,.int .i64 0,.int .i64 0,.int .i64 0,.int .i64 0,.int .i64 0,.int .i64 0,.int .i64 0,.int .i64 0,.int .i64 0,.int .i64 0,.int .i64 0,.int .i64 0,.int .i64 0,.int .i64 0,.int .i64 0,.int .i64 0,.int .i64 0,.int .i64 0,.int .i64 0,.int .i64 0,.int .i64 0,.int .i64 0,.int .i64 0,.int .i64 0,.int .i64 0,.int .i64 0,.int .i64 0,.int .i64 0,.int .i64 0,.int .i64 0,.int .i64 0,.int .i64 0,.int .i64 0,.int .i64 0,.int .i64 0,.int .i64 0,.int .i64 0,.int .i64 0,.int .i64 0,.int .i64 0,.int .i64 0,.int .i64 0,.int .i64 0,.int .i64 0,.int .i64 0,.int .i64 0,.int .i64 0,.int .i64 0,.int .i64 0,.int .i64 0,.int .i64 0,.int .i64 0,.int .i64 0,.int .i64 0,.int .i64 0,.int .i64 0,.int .i64 0,.int .i64 0,.int .i64 0,.int .i64 0,.int .i64 0,.int .i64 0,.int .i64 0,.int .i64 0,.int .i64 0,.int .i64 0,.int .i64 0,.int .i64 0,.int .i64 0,.int .i64 0,.int .i64 0,.int .i64 0,.int .i64 0,.int .i64 0,.int .i64 0,.int .i64 0,.int .i64 0,.int .i64 0,.int .i64 0,.int .i64 0,.int .i64 0,.int .i64 0,.int .i64 0,.int .i64 0,.int .i64 0,.int .i64 0,.int .i64 0,.int .i64 0,.int .i64 0,.int .i64 0,.int .i64 0,.int .i64 0,.int .i64 0,.int .i64 0,.int .i64 0,.int .i64 0,.int .i64 0,.int .i64 0,.int .i64 0,.int .i64 0,.int .i64 0,.int .i64 0,.int .i64 0,.int .i64 0,.int .i64 0,.int .i64 0,.int .i64 0,.int .i64 0,.int .i64 0,.int .i64 0,.int .i64 0,.int .i64 0,.int .i64 0,.int .i64 0,.int .i64 0,.int .i64 0,.int .i64 0,.int .i64 0,.int .i64 0,.int .i64 0,.int .i64 0,.int .i64 0,.int .i64 0,.int .i64 0,.int .i64 0,.int .i64 0,.int .i64 0,.int .i64 0,.int .i64 0,.int .i64 0,.int .i64 0,.int .i64 0,.int .i64 0,.int .i64 0,.int .i64 0,.int .i64 0,.int .i64 0,.int .i64 0,.int .i64 0,.int .i64 0,.int .i64 0,.int .i64 0,.int .i64 0,.int .i64 0,.int .i64 0,.int .i64 0,.int .i64 0,.int .i64 0,.int .i64 0,.int .i64 0,.int .i64 0,.int .i64 0,.int .i64 0,.int .i64 0,.int .i64 0,.int .i64 0,.int .i64 0,.int .i64 0,.int .i64 0,.int .i64 0,.int .i64 0,.int .i64 0,.int .i64 0,.int .i64 0,.int .i64 0,.int .i64 0,.int .i64 0,.int .i64 0,.int .i64 0,.int .i64 0,.int .i64 0,.int .i64 0,.int .i64 0,.int .i64 0,.int .i64 0,.int .i64 0,.int .i64 0,.int .i64 0,.int .i64 0,.int .i64 0,.int .i64 0,.int .i64 0,.int .i64 0,.int .i64 0,.int .i64 0,.int .i64 0,.int .i64 0,.int .i64 0,.int .i64 0,.int .i64 0,.int .i64 0,.int .i64 0,.int .i64 0,.int .i64 0,.int .i64 0,.int .i64 0,.int .i64 0,.int .i64 0,.int .i64 0,.int .i64 0,.int .i64 0,.int .i64 0,.int .i64 0,.int .i64 0,.int .i64 0,.int .i64 0,.int .i64 0,.int .i64 0,.int .i64 0,.int .i64 0,.int .i64 0,.int .i64 0,.int .i64 0,.int .i64 0,.int .i64 0,.int .i64 0,.int .i64 0,.int .i64 0,.int .i64 0,.int .i64 0,.int .i64 0,.int .i64 0,.int .i64 0,.int .i64 0,.int .i64 0,.int .i64 0,.int .i64 0,.int .i64 0,.int .i64 0,.int .i64 0,.int .i64 0,.int .i64 0,.int .i64 0,.int .i64 0,.int .i64 0,.int .i64 0,.int .i64 0,.int .i64 0,.int .i64 0,.int .i64 0,.int .i64 0,.int .i64 0,.int .i64 0,.int .i64 0,.int .i64 0,.int .i64 0,.int .i64 0,.int .i64 0,.int .i64 0,.int .i64 0,.int .i64 0,.int .i64 0,.int .i64 0,.int .i64 0,.int .i64 0,.int .i64 0,.int .i64 0,.int .i64 0,.int .i64 0,.int .i64 0,.int .i64 0,.int .i64 0,.int .i64 0,.int .i64 0,.int .i64 0,.int .i64 0,.int .i64 0,.int .i64 0,.int .i64 0,.int .i64 0,.int .i64 0,.int .i64 0,.int .i64 0,.int .i64 0,.int .i64 0,.int .i64 0,.int .i64 0,.int .i64 0,.int .i64 0,.int .i64 0,.int .i64 0,.int .i64 0,.int .i64 0,.int .i64 0,.int .i64 0,.int .i64 0,.int .i64 0,.int .i64 0,.int .i64 0,.int .i64 0,.int .i64 0,.int .i64 0,.int .i64 0,.int .i64 0,.int .i64 0,.int .i64 0,.int .i64 0,.int .i64 0,.int .i64 0,.int .i64 0,.int .i64 0,.int .i64 0,.int .i64 0,.int .i64 0,.int .i64 0,.int .i64 0,.int .i64 0,.int .i64 0,.int .i64 0,.int .i64 0,.int .i64 0,.int .i64 0,.int .i64 0,.int .i64 0,.int .i64 0,.int .i64 0,.int .i64 0,.int .i64 0,.int .i64 0,.int .i64 0,.int .i64 0,.int .i64 0,.int .i64 0,.int .i64 0,.int .i64 0,.int .i64 0,.int .i64 0,.int .i64 0,.int .i64 0,.int .i64 0,.int .i64 0,.int .i64 0,.int .i64 0,.int .i64 0,.int .i64 0,.int .i64 0,.int .i64 0,.int .i64 0,.int .i64 0,.int .i64 0,.int .i64 0,.int .i64 0,.int .i64 0,.int .i64 0,.int .i64 0,.int .i64 0,.int .i64 0,.int .i64 0,.int .i64 0,.int .i64 0,.int .i64 0,.int .i64 0,.int .i64 0,.int .i64 0,.int .i64 0,.int .i64 0,.int .i64 0,.int .i64 0,.int .i64 0,.int .i64 0,.int .i64 0,.int .i64 0,.int .i64 0,.int .i64 0,.int .i64 0,.int .i64 0,.int .i64 0,.int .i64 0,.int .i64 0,.int .i64 0,.int .i64 0,.int .i64 0,.int .i64 0,.int .i64 0,.int .i64 0,.int .i64 0,.int .i64 0,.int .i64 0,.int .i64 0,.int .i64 0,.int .i64 0,.int .i64 0,.int .i64 0,.int .i64 0,.int .i64 0,.int .i64 0,.int .i64 0,.int .i64 0,.int .i64 0,.int .i64 0,.int .i64 0,.int .i64 0,.int .i64 0,.int .i64 0,.int .i64 0,.int .i64 0,.int .i64 0,.int .i64 0]
def a9:V:=.agg [.int .i64 9,.int .i64 0,.int .i64 0,.int .i64 0,.str ByteArray.empty,.fsl 6 [[.int .i64 3,.int .i64 0,.int .i64 0,.int .i64 0,.str ByteArray.empty,.aF],[.int .i64 3,.int .i64 0,.int .i64 1,.int .i64 0,.str ByteArray.empty,.aF]]]
def pV:V:=.agg [.int .i64 3,.int .i64 0,.int .i64 0,.int .i64 0,.str ByteArray.empty,.aF]
def pH:V:=.agg [.int .i64 3,.int .i64 0,.int .i64 1,.int .i64 0,.str ByteArray.empty,.aF]
def a12:V:=.fptr [.fsl 3 [[.str (ByteArray.mk #[112]),.aF,.fsl 5 [[.int .i64 1,.int .i64 0,.int .i64 0,.int .i64 0,.aF]]],[.str (ByteArray.mk #[113]),.aF,.fsl 5 [[.int .i64 1,.int .i64 0,.int .i64 0,.int .i64 0,.aF]]]]]
def Vo:V:=.clo 196 [] [.fptr [.fsl 3 [[.str (ByteArray.mk #[112]),.aF,.fsl 5 [[.int .i64 1,.int .i64 0,.int .i64 0,.int .i64 0,.aF]]],[.str (ByteArray.mk #[113]),.aF,.fsl 5 [[.int .i64 1,.int .i64 0,.int .i64 0,.int .i64 0,.aF]]]]]]
def Yy:V:=.fptr [.clo 196 [] [.fptr [.fsl 3 [[.str (ByteArray.mk #[112]),.aF,.fsl 5 [[.int .i64 1,.int .i64 0,.int .i64 0,.int .i64 0,.aF]]],[.str (ByteArray.mk #[113]),.aF,.fsl 5 [[.int .i64 1,.int .i64 0,.int .i64 0,.int .i64 0,.aF]]]]]]]
def YB:V:=.fptr [.int .i64 9,.int .i64 0,.int .i64 0,.int .i64 0,.str ByteArray.empty,.fsl 6 [[.int .i64 3,.int .i64 0,.int .i64 0,.int .i64 0,.str ByteArray.empty,.aF],[.int .i64 3,.int .i64 0,.int .i64 1,.int .i64 0,.str ByteArray.empty,.aF]]]
def Yx:V:=.tup [.agg [.int .i64 0,.int .i64 1],.bool true]
def a17:V:=.agg [.fsl 1 [[.int .i64 1],[.int .i64 1]],.fsl 1 [[.fsl 2 [[.int .i64 0,.int .i64 0]]],[.fsl 2 [[.int .i64 0,.int .i64 0]]]]]
def gi:V:=.fsl 1 [[.int .i64 0],[.int .i64 0]]
def qb:V:=.fsl 1 [[.int .i64 1],[.int .i64 0]]
def a20:V:=.fsl 1 [[.int .i64 0],[.int .i64 1]]
def a21:V:=.fsl 1 [[.fsl 1 [[.int .i64 0],[.int .i64 0]]]]
def a22:V:=.fsl 1 [[.fsl 1 [[.int .i64 0],[.int .i64 1]]],[.fsl 1 [[.int .i64 1],[.int .i64 0]]]]
def a23:V:=.fsl 1 [[.int .i64 1],[.int .i64 1]]
def a24:V:=.fsl 1 [[.fsl 1 [[.int .i64 1],[.int .i64 1]]]]
def a25:V:=.tup [.fsl 1 [[.fsl 1 [[.int .i64 0],[.int .i64 0]]],[.fsl 1 [[.int .i64 0],[.int .i64 1]]],[.fsl 1 [[.int .i64 1],[.int .i64 0]]],[.fsl 1 [[.int .i64 1],[.int .i64 1]]]],.int .i64 0]
def a26:V:=.clo 162 [] [.fptr [.fsl 3 [[.str (ByteArray.mk #[112]),.aF,.fsl 5 [[.int .i64 1,.int .i64 0,.int .i64 0,.int .i64 0,.aF]]],[.str (ByteArray.mk #[113]),.aF,.fsl 5 [[.int .i64 1,.int .i64 0,.int .i64 0,.int .i64 0,.aF]]]]]]
def MB:V:=.tup [.agg [.int .i64 0,.int .i64 0],.agg [.int .i64 0,.int .i64 0],.bool false]
def a28:V:=.agg [.str (ByteArray.mk #[113]),.aF,.fsl 5 [[.int .i64 1,.int .i64 0,.int .i64 0,.int .i64 0,.aF]]]
def Nr:V:=.tup [.fsl 1 [[.aF],[.aF]],.int .i64 0]
def UU:V:=.agg [.fsl 3 [[.str (ByteArray.mk #[112]),.aF,.fsl 5 [[.int .i64 1,.int .i64 0,.int .i64 0,.int .i64 0,.aF]]],[.str (ByteArray.mk #[113]),.aF,.fsl 5 [[.int .i64 1,.int .i64 0,.int .i64 0,.int .i64 0,.aF]]]],.fsl 1 [[.int .i64 0],[.int .i64 0]],.fsl 1 [[.aF],[.aF]]]
def a31:V:=.fsl 1 [[.fsl 1 [[.int .i64 0],[.int .i64 1]]]]
def a32:V:=.agg [.fsl 3 [[.str (ByteArray.mk #[112]),.aF,.fsl 5 [[.int .i64 1,.int .i64 0,.int .i64 0,.int .i64 0,.aF]]],[.str (ByteArray.mk #[113]),.aF,.fsl 5 [[.int .i64 1,.int .i64 0,.int .i64 0,.int .i64 0,.aF]]]],.fsl 1 [[.int .i64 0],[.int .i64 1]],.fsl 1 [[.aF],[.aF]]]
def a33:V:=.fsl 1 [[.fsl 1 [[.int .i64 1],[.int .i64 0]]]]
def U0:V:=.agg [.fsl 3 [[.str (ByteArray.mk #[112]),.aF,.fsl 5 [[.int .i64 1,.int .i64 0,.int .i64 0,.int .i64 0,.aF]]],[.str (ByteArray.mk #[113]),.aF,.fsl 5 [[.int .i64 1,.int .i64 0,.int .i64 0,.int .i64 0,.aF]]]],.fsl 1 [[.int .i64 1],[.int .i64 0]],.fsl 1 [[.aF],[.aF]]]
def a35:V:=.agg [.fsl 3 [[.str (ByteArray.mk #[112]),.aF,.fsl 5 [[.int .i64 1,.int .i64 0,.int .i64 0,.int .i64 0,.aF]]],[.str (ByteArray.mk #[113]),.aF,.fsl 5 [[.int .i64 1,.int .i64 0,.int .i64 0,.int .i64 0,.aF]]]],.fsl 1 [[.int .i64 1],[.int .i64 1]],.fsl 1 [[.aF],[.aF]]]
def XY:V:=.tup [.fsl 1 [[.fsl 1 [[.int .i64 0],[.int .i64 0]]],[.fsl 1 [[.int .i64 1],[.int .i64 1]]]],.int .i64 0]
def a37:V:=.fsl 1 [[.fsl 1 [[.int .i64 0],[.int .i64 0]]],[.fsl 1 [[.int .i64 1],[.int .i64 1]]]]
def Nl:V:=.clo 71 [] [.fptr [.fsl 3 [[.str (ByteArray.mk #[112]),.aF,.fsl 5 [[.int .i64 1,.int .i64 0,.int .i64 0,.int .i64 0,.aF]]],[.str (ByteArray.mk #[113]),.aF,.fsl 5 [[.int .i64 1,.int .i64 0,.int .i64 0,.int .i64 0,.aF]]]]]]
def a39:V:=.tup [.agg [.bool false,.fsl 1 [[.int .i64 0],[.int .i64 0]],.fsl 1 [[.int .i64 1],[.int .i64 1]],.fsl 1 [[.fsl 1 [[.fsl 1 [[.int .i64 1],[.int .i64 1]]]]],[.fsl 1 [[.fsl 1 [[.int .i64 1],[.int .i64 1]]]]]]],.int .i64 0]
def a40:V:=.agg [.bool false,.fsl 1 [[.int .i64 0],[.int .i64 0]],.fsl 1 [[.int .i64 1],[.int .i64 1]],.fsl 1 [[.fsl 1 [[.fsl 1 [[.int .i64 1],[.int .i64 1]]]]],[.fsl 1 [[.fsl 1 [[.int .i64 1],[.int .i64 1]]]]]]]
def a41:V:=.fptr [.bool false,.fsl 1 [[.int .i64 0],[.int .i64 0]],.fsl 1 [[.int .i64 1],[.int .i64 1]],.fsl 1 [[.fsl 1 [[.fsl 1 [[.int .i64 1],[.int .i64 1]]]]],[.fsl 1 [[.fsl 1 [[.int .i64 1],[.int .i64 1]]]]]]]
def Yb:V:=.fptr [.fsl 1 [[.int .i64 1],[.int .i64 1]]]
def Yn:V:=.agg [.bool false,.fsl 1 [[.int .i64 0],[.int .i64 1]],.fsl 1 [[.int .i64 0],[.int .i64 1]],.fsl 1 [[.fsl 1 [[.aF]]],[.fsl 1 [[.fsl 1 [[.int .i64 0],[.int .i64 1]]]]]]]
def k0:ak:=⟨117,[.int .i64 2,.int .i64 1,.int .i64 8],.bool true⟩
theorem XN:ah EA k0:=af (n:=100) (l:=[]) (by simp) (by kernel_rfl)
def k1:ak:=⟨186,[.int .u8 112],.bool true⟩
theorem XR:ah EA k1:=af (n:=100) (l:=[]) (by simp) (by kernel_rfl)
def k2:ak:=⟨152,[.str (ByteArray.mk #[112])],.bool true⟩
theorem Xj:ah EA k2:=af (n:=100) (l:=[k1]) (by simp only[List.forall_mem_cons];exact⟨XR,by simp⟩) (by kernel_rfl)
def k3:ak:=⟨188,[.fsl 3 [],a0],.int .i64 (-1)⟩
theorem WZ:ah EA k3:=af (n:=100) (l:=[]) (by simp) (by kernel_rfl)
def k4:ak:=⟨153,[.fsl 3 [],a0],.bool false⟩
theorem Xw:ah EA k4:=af (n:=100) (l:=[k3]) (by simp only[List.forall_mem_cons];exact⟨WZ,by simp⟩) (by kernel_rfl)
def k5:ak:=⟨118,[a1,.int .i64 0],.int .i64 0⟩
theorem XH:ah EA k5:=af (n:=100) (l:=[k2,k4]) (by simp only[List.forall_mem_cons];exact⟨Xj,Xw,by simp⟩) (by kernel_rfl)
def k6:ak:=⟨186,[.int .u8 113],.bool true⟩
theorem XT:ah EA k6:=af (n:=100) (l:=[]) (by simp) (by kernel_rfl)
def k7:ak:=⟨152,[.str (ByteArray.mk #[113])],.bool true⟩
theorem WT:ah EA k7:=af (n:=100) (l:=[k6]) (by simp only[List.forall_mem_cons];exact⟨XT,by simp⟩) (by kernel_rfl)
def k8:ak:=⟨154,[a2,.fptr [.str (ByteArray.mk #[113]),.aF,.fsl 5 [[.int .i64 1,.int .i64 0,.int .i64 0,.int .i64 0,.aF]]]],.bool false⟩
theorem XG:ah EA k8:=af (n:=100) (l:=[]) (by simp) (by kernel_rfl)
def k9:ak:=⟨188,[a3,a4],.int .i64 (-1)⟩
theorem Xm:ah EA k9:=af (n:=100) (l:=[k8]) (by simp only[List.forall_mem_cons];exact⟨XG,by simp⟩) (by kernel_rfl)
def BB:ak:=⟨153,[a3,a4],.bool false⟩
theorem Ut:ah EA BB:=af (n:=100) (l:=[k9]) (by simp only[List.forall_mem_cons];exact⟨Xm,by simp⟩) (by kernel_rfl)
def Yv:ak:=⟨118,[a1,.int .i64 1],.int .i64 0⟩
theorem Uc:ah EA Yv:=af (n:=100) (l:=[k7,BB]) (by simp only[List.forall_mem_cons];exact⟨WT,Ut,by simp⟩) (by kernel_rfl)
def MP:ak:=⟨119,[a1],.clo 156 [] [.fptr [.fsl 3 [[.str (ByteArray.mk #[112]),.aF,.fsl 5 [[.int .i64 1,.int .i64 0,.int .i64 0,.int .i64 0,.aF]]],[.str (ByteArray.mk #[113]),.aF,.fsl 5 [[.int .i64 1,.int .i64 0,.int .i64 0,.int .i64 0,.aF]]]]]]⟩
theorem Eb:ah EA MP:=af (n:=100) (l:=[]) (by simp) (by kernel_rfl)
def YX:ak:=⟨157,[a1,.int .i64 0,a5],.bool true⟩
theorem TH:ah EA YX:=af (n:=100) (l:=[]) (by simp) (by kernel_rfl)
def TY:ak:=⟨117,[.int .i64 0,.int .i64 0,.int .i64 1099511627776],.bool true⟩
theorem I6:ah EA TY:=af (n:=100) (l:=[]) (by simp) (by kernel_rfl)
def YD:ak:=⟨120,[a1,a6,a5],.int .i64 0⟩
theorem RP:ah EA YD:=af (n:=100) (l:=[YX,TY]) (by simp only[List.forall_mem_cons];exact⟨TH,I6,by simp⟩) (by kernel_rfl)
def Zd:ak:=⟨157,[a1,.int .i64 1,a5],.bool true⟩
theorem Tp:ah EA Zd:=af (n:=100) (l:=[]) (by simp) (by kernel_rfl)
def X8:ak:=⟨120,[a1,a7,a5],.int .i64 0⟩
theorem WD:ah EA X8:=af (n:=100) (l:=[Zd,TY]) (by simp only[List.forall_mem_cons];exact⟨Tp,I6,by simp⟩) (by kernel_rfl)
def YA:ak:=⟨121,[a1],.tup [.fptr [.int .i64 0,.int .i64 0,.int .i64 0,.int .i64 0,.int .i64 0,.int .i64 0,.int .i64 0,.int .i64 0,.int .i64 0,.int .i64 0,.int .i64 0,.int .i64 0,.int .i64 0,.int .i64 0,.int .i64 0,.int .i64 0,.int .i64 0,.int .i64 0,.int .i64 0,.int .i64 0,.int .i64 0,.int .i64 0,.int .i64 0,.int .i64 0,.int .i64 0,.int .i64 0,.int .i64 0,.int .i64 0,.int .i64 0,.int .i64 0,.int .i64 0,.int .i64 0,.int .i64 0,.int .i64 0,.int .i64 0,.int .i64 0,.int .i64 0,.int .i64 0,.int .i64 0,.int .i64 0,.int .i64 0,.int .i64 0,.int .i64 0,.int .i64 0,.int .i64 0,.int .i64 0,.int .i64 0,.int .i64 0,.int .i64 0,.int .i64 0,.int .i64 0,.int .i64 0,.int .i64 0,.int .i64 0,.int .i64 0,.int .i64 0,.int .i64 0,.int .i64 0,.int .i64 0,.int .i64 0,.int .i64 0,.int .i64 0,.int .i64 0,.int .i64 0,.int .i64 0,.int .i64 0,.int .i64 0,.int .i64 0,.int .i64 0,.int .i64 0,.int .i64 0,.int .i64 0,.int .i64 0,.int .i64 0,.int .i64 0,.int .i64 0,.int .i64 0,.int .i64 0,.int .i64 0,.int .i64 0,.int .i64 0,.int .i64 0,.int .i64 0,.int .i64 0,.int .i64 0,.int .i64 0,.int .i64 0,.int .i64 0,.int .i64 0,.int .i64 0,.int .i64 0,.int .i64 0,.int .i64 0,.int .i64 0,.int .i64 0,.int .i64 0,.int .i64 0,.int .i64 0,.int .i64 0,.int .i64 0,.int .i64 0,.int .i64 0,.int .i64 0,.int .i64 0,.int .i64 0,.int .i64 0,.int .i64 0,.int .i64 0,.int .i64 0,.int .i64 0,.int .i64 0,.int .i64 0,.int .i64 0,.int .i64 0,.int .i64 0,.int .i64 0,.int .i64 0,.int .i64 0,.int .i64 0,.int .i64 0,.int .i64 0,.int .i64 0,.int .i64 0,.int .i64 0,.int .i64 0,.int .i64 0,.int .i64 0,.int .i64 0,.int .i64 0,.int .i64 0,.int .i64 0,.int .i64 0,.int .i64 0,.int .i64 0,.int .i64 0,.int .i64 0,.int .i64 0,.int .i64 0,.int .i64 0,.int .i64 0,.int .i64 0,.int .i64 0,.int .i64 0,.int .i64 0,.int .i64 0,.int .i64 0,.int .i64 0,.int .i64 0,.int .i64 0,.int .i64 0,.int .i64 0,.int .i64 0,.int .i64 0,.int .i64 0,.int .i64 0,.int .i64 0,.int .i64 0,.int .i64 0,.int .i64 0,.int .i64 0,.int .i64 0,.int .i64 0,.int .i64 0,.int .i64 0,.int .i64 0,.int .i64 0,.int .i64 0,.int .i64 0,.int .i64 0,.int .i64 0,.int .i64 0,.int .i64 0,.int .i64 0,.int .i64 0,.int .i64 0,.int .i64 0,.int .i64 0,.int .i64 0,.int .i64 0,.int .i64 0,.int .i64 0,.int .i64 0,.int .i64 0,.int .i64 0,.int .i64 0,.int .i64 0,.int .i64 0,.int .i64 0,.int .i64 0,.int .i64 0,.int .i64 0,.int .i64 0,.int .i64 0,.int .i64 0,.int .i64 0,.int .i64 0,.int .i64 0,.int .i64 0,.int .i64 0,.int .i64 0,.int .i64 0,.int .i64 0,.int .i64 0,.int .i64 0,.int .i64 0,.int .i64 0,.int .i64 0,.int .i64 0,.int .i64 0,.int .i64 0,.int .i64 0,.int .i64 0,.int .i64 0,.int .i64 0,.int .i64 0,.int .i64 0,.int .i64 0,.int .i64 0,.int .i64 0,.int .i64 0,.int .i64 0,.int .i64 0,.int .i64 0,.int .i64 0,.int .i64 0,.int .i64 0,.int .i64 0,.int .i64 0,.int .i64 0,.int .i64 0,.int .i64 0,.int .i64 0,.int .i64 0,.int .i64 0,.int .i64 0,.int .i64 0,.int .i64 0,.int .i64 0,.int .i64 0,.int .i64 0,.int .i64 0,.int .i64 0,.int .i64 0,.int .i64 0,.int .i64 0,.int .i64 0,.int .i64 0,.int .i64 0,.int .i64 0,.int .i64 0,.int .i64 0,.int .i64 0,.int .i64 0,.int .i64 0,.int .i64 0,.int .i64 0,.int .i64 0,.int .i64 0,.int .i64 0,.int .i64 0,.int .i64 0,.int .i64 0,.int .i64 0,.int .i64 0,.int .i64 0,.int .i64 0,.int .i64 0,.int .i64 0,.int .i64 0,.int .i64 0,.int .i64 0,.int .i64 0,.int .i64 0,.int .i64 0,.int .i64 0,.int .i64 0,.int .i64 0,.int .i64 0,.int .i64 0,.int .i64 0,.int .i64 0,.int .i64 0,.int .i64 0,.int .i64 0,.int .i64 0,.int .i64 0,.int .i64 0,.int .i64 0,.int .i64 0,.int .i64 0,.int .i64 0,.int .i64 0,.int .i64 0,.int .i64 0,.int .i64 0,.int .i64 0,.int .i64 0,.int .i64 0,.int .i64 0,.int .i64 0,.int .i64 0,.int .i64 0,.int .i64 0,.int .i64 0,.int .i64 0,.int .i64 0,.int .i64 0,.int .i64 0,.int .i64 0,.int .i64 0,.int .i64 0,.int .i64 0,.int .i64 0,.int .i64 0,.int .i64 0,.int .i64 0,.int .i64 0,.int .i64 0,.int .i64 0,.int .i64 0,.int .i64 0,.int .i64 0,.int .i64 0,.int .i64 0,.int .i64 0,.int .i64 0,.int .i64 0,.int .i64 0,.int .i64 0,.int .i64 0,.int .i64 0,.int .i64 0,.int .i64 0,.int .i64 0,.int .i64 0,.int .i64 0,.int .i64 0,.int .i64 0,.int .i64 0,.int .i64 0,.int .i64 0,.int .i64 0,.int .i64 0,.int .i64 0,.int .i64 0,.int .i64 0,.int .i64 0,.int .i64 0,.int .i64 0,.int .i64 0,.int .i64 0,.int .i64 0,.int .i64 0,.int .i64 0,.int .i64 0,.int .i64 0,.int .i64 0,.int .i64 0,.int .i64 0,.int .i64 0,.int .i64 0,.int .i64 0,.int .i64 0,.int .i64 0,.int .i64 0,.int .i64 0,.int .i64 0,.int .i64 0,.int .i64 0,.int .i64 0,.int .i64 0,.int .i64 0,.int .i64 0,.int .i64 0,.int .i64 0,.int .i64 0,.int .i64 0,.int .i64 0,.int .i64 0,.int .i64 0,.int .i64 0,.int .i64 0,.int .i64 0,.int .i64 0,.int .i64 0,.int .i64 0,.int .i64 0,.int .i64 0,.int .i64 0,.int .i64 0,.int .i64 0,.int .i64 0,.int .i64 0,.int .i64 0,.int .i64 0,.int .i64 0,.int .i64 0,.int .i64 0,.int .i64 0,.int .i64 0,.int .i64 0,.int .i64 0,.int .i64 0,.int .i64 0,.int .i64 0,.int .i64 0,.int .i64 0,.int .i64 0,.int .i64 0,.int .i64 0,.int .i64 0,.int .i64 0,.int .i64 0,.int .i64 0,.int .i64 0,.int .i64 0,.int .i64 0,.int .i64 0,.int .i64 0,.int .i64 0,.int .i64 0,.int .i64 0,.int .i64 0,.int .i64 0,.int .i64 0,.int .i64 0,.int .i64 0,.int .i64 0,.int .i64 0,.int .i64 0,.int .i64 0,.int .i64 0,.int .i64 0,.int .i64 0,.int .i64 0,.int .i64 0,.int .i64 0,.int .i64 0,.int .i64 0,.int .i64 0,.int .i64 0,.int .i64 0,.int .i64 0,.int .i64 0,.int .i64 0,.int .i64 0,.int .i64 0,.int .i64 0,.int .i64 0,.int .i64 0,.int .i64 0,.int .i64 0,.int .i64 0,.int .i64 0,.int .i64 0,.int .i64 0,.int .i64 0,.int .i64 0,.int .i64 0,.int .i64 0,.int .i64 0,.int .i64 0,.int .i64 0,.int .i64 0,.int .i64 0,.int .i64 0,.int .i64 0,.int .i64 0,.int .i64 0,.int .i64 0,.int .i64 0,.int .i64 0,.int .i64 0,.int .i64 0,.int .i64 0,.int .i64 0,.int .i64 0,.int .i64 0,.int .i64 0,.int .i64 0,.int .i64 0,.int .i64 0,.int .i64 0,.int .i64 0,.int .i64 0,.int .i64 0,.int .i64 0,.int .i64 0,.int .i64 0,.int .i64 0,.int .i64 0,.int .i64 0,.int .i64 0,.int .i64 0,.int .i64 0,.int .i64 0,.int .i64 0,.int .i64 0,.int .i64 0,.int .i64 0,.int .i64 0,.int .i64 0,.int .i64 0,.int .i64 0,.int .i64 0,.int .i64 0,.int .i64 0,.int .i64 0,.int .i64 0,.int .i64 0,.int .i64 0,.int .i64 0,.int .i64 0,.int .i64 0,.int .i64 0,.int .i64 0,.int .i64 0,.int .i64 0,.int .i64 0,.int .i64 0,.int .i64 0,.int .i64 0,.int .i64 0,.int .i64 0,.int .i64 0,.int .i64 0,.int .i64 0,.int .i64 0,.int .i64 0,.int .i64 0,.int .i64 0,.int .i64 0,.int .i64 0,.int .i64 0,.int .i64 0,.int .i64 0,.int .i64 0,.int .i64 0,.int .i64 0,.int .i64 0,.int .i64 0,.int .i64 0,.int .i64 0,.int .i64 0,.int .i64 0,.int .i64 0,.int .i64 0,.int .i64 0,.int .i64 0,.int .i64 0,.int .i64 0,.int .i64 0,.int .i64 0,.int .i64 0,.int .i64 0,.int .i64 0,.int .i64 0,.int .i64 0,.int .i64 0,.int .i64 0,.int .i64 0,.int .i64 0,.int .i64 0,.int .i64 0,.int .i64 0,.int .i64 0,.int .i64 0,.int .i64 0,.int .i64 0,.int .i64 0,.int .i64 0,.int .i64 0,.int .i64 0,.int .i64 0,.int .i64 0,.int .i64 0,.int .i64 0,.int .i64 0,.int .i64 0,.int .i64 0,.int .i64 0,.int .i64 0,.int .i64 0,.int .i64 0,.int .i64 0,.int .i64 0,.int .i64 0,.int .i64 0,.int .i64 0,.int .i64 0,.int .i64 0,.int .i64 0,.int .i64 0,.int .i64 0,.int .i64 0,.int .i64 0,.int .i64 0,.int .i64 0,.int .i64 0,.int .i64 0,.int .i64 0,.int .i64 0,.int .i64 0,.int .i64 0,.int .i64 0,.int .i64 0,.int .i64 0,.int .i64 0,.int .i64 0,.int .i64 0,.int .i64 0,.int .i64 0,.int .i64 0,.int .i64 0,.int .i64 0,.int .i64 0,.int .i64 0,.int .i64 0,.int .i64 0,.int .i64 0,.int .i64 0,.int .i64 0,.int .i64 0,.int .i64 0,.int .i64 0,.int .i64 0,.int .i64 0,.int .i64 0,.int .i64 0,.int .i64 0,.int .i64 0,.int .i64 0,.int .i64 0,.int .i64 0,.int .i64 0,.int .i64 0,.int .i64 0,.int .i64 0,.int .i64 0,.int .i64 0,.int .i64 0,.int .i64 0,.int .i64 0,.int .i64 0,.int .i64 0,.int .i64 0,.int .i64 0,.int .i64 0,.int .i64 0,.int .i64 0,.int .i64 0,.int .i64 0,.int .i64 0,.int .i64 0,.int .i64 0,.int .i64 0,.int .i64 0,.int .i64 0,.int .i64 0,.int .i64 0,.int .i64 0,.int .i64 0,.int .i64 0,.int .i64 0,.int .i64 0,.int .i64 0,.int .i64 0,.int .i64 0,.int .i64 0,.int .i64 0,.int .i64 0,.int .i64 0,.int .i64 0,.int .i64 0,.int .i64 0,.int .i64 0,.int .i64 0,.int .i64 0,.int .i64 0,.int .i64 0,.int .i64 0,.int .i64 0,.int .i64 0,.int .i64 0,.int .i64 0,.int .i64 0,.int .i64 0,.int .i64 0,.int .i64 0,.int .i64 0,.int .i64 0,.int .i64 0,.int .i64 0,.int .i64 0,.int .i64 0,.int .i64 0,.int .i64 0,.int .i64 0,.int .i64 0,.int .i64 0,.int .i64 0,.int .i64 0,.int .i64 0,.int .i64 0,.int .i64 0,.int .i64 0,.int .i64 0,.int .i64 0,.int .i64 0,.int .i64 0,.int .i64 0,.int .i64 0,.int .i64 0,.int .i64 0,.int .i64 0,.int .i64 0,.int .i64 0,.int .i64 0,.int .i64 0,.int .i64 0,.int .i64 0,.int .i64 0,.int .i64 0,.int .i64 0,.int .i64 0,.int .i64 0,.int .i64 0,.int .i64 0,.int .i64 0,.int .i64 0,.int .i64 0,.int .i64 0,.int .i64 0,.int .i64 0,.int .i64 0,.int .i64 0,.int .i64 0,.int .i64 0,.int .i64 0,.int .i64 0,.int .i64 0,.int .i64 0,.int .i64 0,.int .i64 0,.int .i64 0,.int .i64 0,.int .i64 0,.int .i64 0,.int .i64 0,.int .i64 0,.int .i64 0,.int .i64 0,.int .i64 0,.int .i64 0,.int .i64 0,.int .i64 0,.int .i64 0,.int .i64 0,.int .i64 0,.int .i64 0,.int .i64 0,.int .i64 0,.int .i64 0,.int .i64 0,.int .i64 0,.int .i64 0,.int .i64 0,.int .i64 0,.int .i64 0,.int .i64 0,.int .i64 0,.int .i64 0,.int .i64 0,.int .i64 0,.int .i64 0,.int .i64 0,.int .i64 0,.int .i64 0,.int .i64 0,.int .i64 0,.int .i64 0,.int .i64 0,.int .i64 0,.int .i64 0,.int .i64 0,.int .i64 0,.int .i64 0,.int .i64 0,.int .i64 0,.int .i64 0,.int .i64 0,.int .i64 0,.int .i64 0,.int .i64 0,.int .i64 0,.int .i64 0,.int .i64 0,.int .i64 0,.int .i64 0,.int .i64 0],.agg [.int .i64 0,.int .i64 0],.int .i64 0]⟩
theorem Te:ah EA YA:=af (n:=100) (l:=[MP]) (by simp only[List.forall_mem_cons];exact⟨Eb,by simp⟩) (by kernel_rfl)
def Yr:ak:=⟨161,[a1,a8,a6],.aF⟩
theorem Vp:ah EA Yr:=af (n:=100) (l:=[]) (by simp) (by kernel_rfl)
def YO:ak:=⟨161,[a1,a8,a7],.aF⟩
theorem WK:ah EA YO:=af (n:=100) (l:=[]) (by simp) (by kernel_rfl)
def Yq:ak:=⟨122,[a1,a8],.tup [.agg [.int .i64 0,.int .i64 0],.bool false]⟩
theorem VV:ah EA Yq:=af (n:=100) (l:=[MP,Yr,YO]) (by simp only[List.forall_mem_cons];exact⟨Eb,Vp,WK,by simp⟩) (by kernel_rfl)
def Yw:ak:=⟨96,[a1],.tup [.agg [.int .i64 0,.int .i64 0],.int .i64 0]⟩
theorem UX:ah EA Yw:=af (n:=100) (l:=[k0,k5,Yv,MP,YD,X8,YA,Yq]) (by simp only[List.forall_mem_cons];exact⟨XN,XH,Uc,Eb,RP,WD,Te,VV,by simp⟩) (by kernel_rfl)
def yG:ak:=⟨54,[a1],.bool true⟩
theorem pT:ah EA yG:=af (n:=100) (l:=[Yw]) (by simp only[List.forall_mem_cons];exact⟨UX,by simp⟩) (by kernel_rfl)
def Y8:ak:=⟨212,[.int .i64 9],.bool false⟩
theorem Wh:ah EA Y8:=af (n:=100) (l:=[]) (by simp) (by kernel_rfl)
def Yj:ak:=⟨193,[a9],.bool true⟩
theorem Wl:ah EA Yj:=af (n:=100) (l:=[Y8]) (by simp only[List.forall_mem_cons];exact⟨Wh,by simp⟩) (by kernel_rfl)
def Wf:ak:=⟨212,[.int .i64 3],.bool true⟩
theorem Ie:ah EA Wf:=af (n:=100) (l:=[]) (by simp) (by kernel_rfl)
def Yt:ak:=⟨193,[pV],.bool true⟩
theorem Wn:ah EA Yt:=af (n:=100) (l:=[Wf]) (by simp only[List.forall_mem_cons];exact⟨Ie,by simp⟩) (by kernel_rfl)
def Y_:ak:=⟨193,[pH],.bool true⟩
theorem Wo:ah EA Y_:=af (n:=100) (l:=[Wf]) (by simp only[List.forall_mem_cons];exact⟨Ie,by simp⟩) (by kernel_rfl)
def MU:ak:=⟨169,[a9],.bool true⟩
theorem DK:ah EA MU:=af (n:=100) (l:=[Yj,Yt,Y_]) (by simp only[List.forall_mem_cons];exact⟨Wl,Wn,Wo,by simp⟩) (by kernel_rfl)
def YG:ak:=⟨196,[a9,a12],.bool true⟩
theorem T0:ah EA YG:=af (n:=100) (l:=[]) (by simp) (by kernel_rfl)
def YN:ak:=⟨197,[a1,.int .i64 0],.bool true⟩
theorem Un:ah EA YN:=af (n:=100) (l:=[]) (by simp) (by kernel_rfl)
def Y7:ak:=⟨196,[pV,a12],.bool true⟩
theorem Su:ah EA Y7:=af (n:=100) (l:=[YN]) (by simp only[List.forall_mem_cons];exact⟨Un,by simp⟩) (by kernel_rfl)
def X6:ak:=⟨174,[pV,Vo],.bool true⟩
theorem V9:ah EA X6:=af (n:=100) (l:=[Y7]) (by simp only[List.forall_mem_cons];exact⟨Su,by simp⟩) (by kernel_rfl)
def Y4:ak:=⟨205,[pV,Yy],.bool false⟩
theorem Uk:ah EA Y4:=af (n:=100) (l:=[X6]) (by simp only[List.forall_mem_cons];exact⟨V9,by simp⟩) (by kernel_rfl)
def Zu:ak:=⟨197,[a1,.int .i64 1],.bool true⟩
theorem V8:ah EA Zu:=af (n:=100) (l:=[]) (by simp) (by kernel_rfl)
def YM:ak:=⟨196,[pH,a12],.bool true⟩
theorem TE:ah EA YM:=af (n:=100) (l:=[Zu]) (by simp only[List.forall_mem_cons];exact⟨V8,by simp⟩) (by kernel_rfl)
def Yl:ak:=⟨174,[pH,Vo],.bool true⟩
theorem VU:ah EA Yl:=af (n:=100) (l:=[YM]) (by simp only[List.forall_mem_cons];exact⟨TE,by simp⟩) (by kernel_rfl)
def Ys:ak:=⟨205,[pH,Yy],.bool false⟩
theorem V6:ah EA Ys:=af (n:=100) (l:=[Yl]) (by simp only[List.forall_mem_cons];exact⟨VU,by simp⟩) (by kernel_rfl)
def Zp:ak:=⟨174,[a9,Vo],.bool true⟩
theorem Ua:ah EA Zp:=af (n:=100) (l:=[YG,Y4,Ys]) (by simp only[List.forall_mem_cons];exact⟨T0,Uk,V6,by simp⟩) (by kernel_rfl)
def YT:ak:=⟨170,[a1,a9],.bool true⟩
theorem RU:ah EA YT:=af (n:=100) (l:=[Zp]) (by simp only[List.forall_mem_cons];exact⟨Ua,by simp⟩) (by kernel_rfl)
def Jl:ak:=⟨201,[.int .i64 3],.int .i64 1⟩
theorem Au:ah EA Jl:=af (n:=100) (l:=[]) (by simp) (by kernel_rfl)
def S8:ak:=⟨202,[.int .i64 9],.int .i64 1⟩
theorem HU:ah EA S8:=af (n:=100) (l:=[]) (by simp) (by kernel_rfl)
def YU:ak:=⟨200,[pV,YB],.bool false⟩
theorem Wy:ah EA YU:=af (n:=100) (l:=[Jl,S8]) (by simp only[List.forall_mem_cons];exact⟨Au,HU,by simp⟩) (by kernel_rfl)
def YE:ak:=⟨200,[pH,YB],.bool false⟩
theorem SJ:ah EA YE:=af (n:=100) (l:=[Jl,S8]) (by simp only[List.forall_mem_cons];exact⟨Au,HU,by simp⟩) (by kernel_rfl)
def Ye:ak:=⟨199,[a9],.bool true⟩
theorem TC:ah EA Ye:=af (n:=100) (l:=[YU,YE]) (by simp only[List.forall_mem_cons];exact⟨Wy,SJ,by simp⟩) (by kernel_rfl)
def YW:ak:=⟨199,[pV],.bool true⟩
theorem UG:ah EA YW:=af (n:=100) (l:=[]) (by simp) (by kernel_rfl)
def X5:ak:=⟨174,[pV,.clo 199 [] []],.bool true⟩
theorem VF:ah EA X5:=af (n:=100) (l:=[YW]) (by simp only[List.forall_mem_cons];exact⟨UG,by simp⟩) (by kernel_rfl)
def Yz:ak:=⟨205,[pV,.fptr [.clo 199 [] []]],.bool false⟩
theorem Uf:ah EA Yz:=af (n:=100) (l:=[X5]) (by simp only[List.forall_mem_cons];exact⟨VF,by simp⟩) (by kernel_rfl)
def XW:ak:=⟨199,[pH],.bool true⟩
theorem SQ:ah EA XW:=af (n:=100) (l:=[]) (by simp) (by kernel_rfl)
def YH:ak:=⟨174,[pH,.clo 199 [] []],.bool true⟩
theorem U7:ah EA YH:=af (n:=100) (l:=[XW]) (by simp only[List.forall_mem_cons];exact⟨SQ,by simp⟩) (by kernel_rfl)
def X2:ak:=⟨205,[pH,.fptr [.clo 199 [] []]],.bool false⟩
theorem Sn:ah EA X2:=af (n:=100) (l:=[YH]) (by simp only[List.forall_mem_cons];exact⟨U7,by simp⟩) (by kernel_rfl)
def Zc:ak:=⟨174,[a9,.clo 199 [] []],.bool true⟩
theorem Th:ah EA Zc:=af (n:=100) (l:=[Ye,Yz,X2]) (by simp only[List.forall_mem_cons];exact⟨TC,Uf,Sn,by simp⟩) (by kernel_rfl)
def Uw:ak:=⟨171,[a9],.bool true⟩
theorem IB:ah EA Uw:=af (n:=100) (l:=[Zc]) (by simp only[List.forall_mem_cons];exact⟨Th,by simp⟩) (by kernel_rfl)
def UN:ak:=⟨201,[.int .i64 9],.int .i64 2⟩
theorem IZ:ah EA UN:=af (n:=100) (l:=[]) (by simp) (by kernel_rfl)
def Y1:ak:=⟨215,[a1,pV],a6⟩
theorem RQ:ah EA Y1:=af (n:=100) (l:=[]) (by simp) (by kernel_rfl)
def RM:ak:=⟨216,[a6],.bool false⟩
theorem Jf:ah EA RM:=af (n:=100) (l:=[]) (by simp) (by kernel_rfl)
def YJ:ak:=⟨203,[a1,pV],Yx⟩
theorem Sv:ah EA YJ:=af (n:=100) (l:=[Y1,RM]) (by simp only[List.forall_mem_cons];exact⟨RQ,Jf,by simp⟩) (by kernel_rfl)
def YI:ak:=⟨172,[a1,pV],.bool true⟩
theorem Vf:ah EA YI:=af (n:=100) (l:=[Jl,YJ]) (by simp only[List.forall_mem_cons];exact⟨Au,Sv,by simp⟩) (by kernel_rfl)
def Zr:ak:=⟨204,[pV,a12],.bool false⟩
theorem Wc:ah EA Zr:=af (n:=100) (l:=[YI]) (by simp only[List.forall_mem_cons];exact⟨Vf,by simp⟩) (by kernel_rfl)
def Zt:ak:=⟨215,[a1,pH],a6⟩
theorem TT:ah EA Zt:=af (n:=100) (l:=[]) (by simp) (by kernel_rfl)
def X_:ak:=⟨203,[a1,pH],Yx⟩
theorem Ww:ah EA X_:=af (n:=100) (l:=[Zt,RM]) (by simp only[List.forall_mem_cons];exact⟨TT,Jf,by simp⟩) (by kernel_rfl)
def YP:ak:=⟨172,[a1,pH],.bool true⟩
theorem Uj:ah EA YP:=af (n:=100) (l:=[Jl,X_]) (by simp only[List.forall_mem_cons];exact⟨Au,Ww,by simp⟩) (by kernel_rfl)
def Zf:ak:=⟨204,[pH,a12],.bool false⟩
theorem TN:ah EA Zf:=af (n:=100) (l:=[YP]) (by simp only[List.forall_mem_cons];exact⟨Uj,by simp⟩) (by kernel_rfl)
def Zj:ak:=⟨172,[a1,a9],.bool true⟩
theorem VS:ah EA Zj:=af (n:=100) (l:=[UN,Zr,Zf]) (by simp only[List.forall_mem_cons];exact⟨IZ,Wc,TN,by simp⟩) (by kernel_rfl)
def YR:ak:=⟨136,[a1,a9],.int .i64 0⟩
theorem Vc:ah EA YR:=af (n:=100) (l:=[yG,MU,YT,Uw,Zj]) (by simp only[List.forall_mem_cons];exact⟨pT,DK,RU,IB,VS,by simp⟩) (by kernel_rfl)
def YZ:ak:=⟨173,[a9],.tup [.int .i64 2,.int .i64 0]⟩
theorem Wk:ah EA YZ:=af (n:=100) (l:=[MU,Uw,UN]) (by simp only[List.forall_mem_cons];exact⟨DK,IB,IZ,by simp⟩) (by kernel_rfl)
def XZ:ak:=⟨137,[a9,.int .i64 2],.int .i64 0⟩
theorem Wd:ah EA XZ:=af (n:=100) (l:=[YZ]) (by simp only[List.forall_mem_cons];exact⟨Wk,by simp⟩) (by kernel_rfl)
def Y5:ak:=⟨176,[.int .i64 9],.bool false⟩
theorem Sa:ah EA Y5:=af (n:=100) (l:=[]) (by simp) (by kernel_rfl)
def YK:ak:=⟨175,[a9],.bool true⟩
theorem SS:ah EA YK:=af (n:=100) (l:=[Y5]) (by simp only[List.forall_mem_cons];exact⟨Sa,by simp⟩) (by kernel_rfl)
def Sf:ak:=⟨176,[.int .i64 3],.bool false⟩
theorem Jn:ah EA Sf:=af (n:=100) (l:=[]) (by simp) (by kernel_rfl)
def XX:ak:=⟨175,[pV],.bool true⟩
theorem WL:ah EA XX:=af (n:=100) (l:=[Sf]) (by simp only[List.forall_mem_cons];exact⟨Jn,by simp⟩) (by kernel_rfl)
def X4:ak:=⟨174,[pV,.clo 175 [] []],.bool true⟩
theorem UZ:ah EA X4:=af (n:=100) (l:=[XX]) (by simp only[List.forall_mem_cons];exact⟨WL,by simp⟩) (by kernel_rfl)
def YF:ak:=⟨205,[pV,.fptr [.clo 175 [] []]],.bool false⟩
theorem WH:ah EA YF:=af (n:=100) (l:=[X4]) (by simp only[List.forall_mem_cons];exact⟨UZ,by simp⟩) (by kernel_rfl)
def X1:ak:=⟨175,[pH],.bool true⟩
theorem Sr:ah EA X1:=af (n:=100) (l:=[Sf]) (by simp only[List.forall_mem_cons];exact⟨Jn,by simp⟩) (by kernel_rfl)
def YV:ak:=⟨174,[pH,.clo 175 [] []],.bool true⟩
theorem SE:ah EA YV:=af (n:=100) (l:=[X1]) (by simp only[List.forall_mem_cons];exact⟨Sr,by simp⟩) (by kernel_rfl)
def YS:ak:=⟨205,[pH,.fptr [.clo 175 [] []]],.bool false⟩
theorem S_:ah EA YS:=af (n:=100) (l:=[YV]) (by simp only[List.forall_mem_cons];exact⟨SE,by simp⟩) (by kernel_rfl)
def Ya:ak:=⟨174,[a9,.clo 175 [] []],.bool true⟩
theorem T9:ah EA Ya:=af (n:=100) (l:=[YK,YF,YS]) (by simp only[List.forall_mem_cons];exact⟨SS,WH,S_,by simp⟩) (by kernel_rfl)
def Zl:ak:=⟨138,[a9],.bool false⟩
theorem T8:ah EA Zl:=af (n:=100) (l:=[MU,Ya]) (by simp only[List.forall_mem_cons];exact⟨DK,T9,by simp⟩) (by kernel_rfl)
def Zs:ak:=⟨219,[a1],a17⟩
theorem U4:ah EA Zs:=af (n:=100) (l:=[]) (by simp) (by kernel_rfl)
def Zi:ak:=⟨230,[a17,gi,.int .i64 0],.bool true⟩
theorem Wm:ah EA Zi:=af (n:=100) (l:=[]) (by simp) (by kernel_rfl)
def Yk:ak:=⟨230,[a17,gi,.int .i64 1],.bool true⟩
theorem Vl:ah EA Yk:=af (n:=100) (l:=[]) (by simp) (by kernel_rfl)
def Ni:ak:=⟨116,[.int .i64 1],.bool false⟩
theorem Dp:ah EA Ni:=af (n:=100) (l:=[]) (by simp) (by kernel_rfl)
def MI:ak:=⟨93,[.int .i64 1,.int .i64 1],.int .i64 0⟩
theorem CM:ah EA MI:=af (n:=100) (l:=[Ni]) (by simp only[List.forall_mem_cons];exact⟨Dp,by simp⟩) (by kernel_rfl)
def EO:ak:=⟨116,[.int .i64 0],.bool false⟩
theorem xe:ah EA EO:=af (n:=100) (l:=[]) (by simp) (by kernel_rfl)
def I9:ak:=⟨93,[.int .i64 0,.int .i64 0],.int .i64 0⟩
theorem zL:ah EA I9:=af (n:=100) (l:=[EO]) (by simp only[List.forall_mem_cons];exact⟨xe,by simp⟩) (by kernel_rfl)
def Zk:ak:=⟨95,[qb,qb],.int .i64 0⟩
theorem RT:ah EA Zk:=af (n:=100) (l:=[MI,I9]) (by simp only[List.forall_mem_cons];exact⟨CM,zL,by simp⟩) (by kernel_rfl)
def Yi:ak:=⟨231,[qb,qb],.int .i64 0⟩
theorem Ur:ah EA Yi:=af (n:=100) (l:=[Zk]) (by simp only[List.forall_mem_cons];exact⟨RT,by simp⟩) (by kernel_rfl)
def Tz:ak:=⟨93,[.int .i64 1,.int .i64 0],.int .i64 1⟩
theorem Jo:ah EA Tz:=af (n:=100) (l:=[Ni,EO]) (by simp only[List.forall_mem_cons];exact⟨Dp,xe,by simp⟩) (by kernel_rfl)
def Yp:ak:=⟨95,[qb,a20],.int .i64 1⟩
theorem US:ah EA Yp:=af (n:=100) (l:=[Tz]) (by simp only[List.forall_mem_cons];exact⟨Jo,by simp⟩) (by kernel_rfl)
def Zm:ak:=⟨231,[qb,a20],.int .i64 1⟩
theorem SH:ah EA Zm:=af (n:=100) (l:=[Yp]) (by simp only[List.forall_mem_cons];exact⟨US,by simp⟩) (by kernel_rfl)
def Uy:ak:=⟨93,[.int .i64 0,.int .i64 1],.int .i64 (-1)⟩
theorem Io:ah EA Uy:=af (n:=100) (l:=[EO,Ni]) (by simp only[List.forall_mem_cons];exact⟨xe,Dp,by simp⟩) (by kernel_rfl)
def Yh:ak:=⟨95,[a20,qb],.int .i64 (-1)⟩
theorem VM:ah EA Yh:=af (n:=100) (l:=[Uy]) (by simp only[List.forall_mem_cons];exact⟨Io,by simp⟩) (by kernel_rfl)
def Y9:ak:=⟨231,[a20,qb],.int .i64 (-1)⟩
theorem Tc:ah EA Y9:=af (n:=100) (l:=[Yh]) (by simp only[List.forall_mem_cons];exact⟨VM,by simp⟩) (by kernel_rfl)
def Y0:ak:=⟨95,[a20,a20],.int .i64 0⟩
theorem T_:ah EA Y0:=af (n:=100) (l:=[I9,MI]) (by simp only[List.forall_mem_cons];exact⟨zL,CM,by simp⟩) (by kernel_rfl)
def Yg:ak:=⟨231,[a20,a20],.int .i64 0⟩
theorem S4:ah EA Yg:=af (n:=100) (l:=[Y0]) (by simp only[List.forall_mem_cons];exact⟨T_,by simp⟩) (by kernel_rfl)
def XU:ak:=⟨98,[qb,a20],.bool false⟩
theorem SA:ah EA XU:=af (n:=100) (l:=[]) (by simp) (by kernel_rfl)
def XV:ak:=⟨233,[qb,a20],.bool false⟩
theorem UM:ah EA XV:=af (n:=100) (l:=[XU]) (by simp only[List.forall_mem_cons];exact⟨SA,by simp⟩) (by kernel_rfl)
def X9:ak:=⟨220,[a17,a21],a22⟩
theorem R6:ah EA X9:=af (n:=100) (l:=[Zi,Yk,Yi,Zm,Y9,Yg,XV]) (by simp only[List.forall_mem_cons];exact⟨Wm,Vl,Ur,SH,Tc,S4,UM,by simp⟩) (by kernel_rfl)
def Zv:ak:=⟨230,[a17,a20,.int .i64 0],.bool true⟩
theorem VK:ah EA Zv:=af (n:=100) (l:=[]) (by simp) (by kernel_rfl)
def UW:ak:=⟨230,[a17,a20,.int .i64 1],.bool false⟩
theorem PR:ah EA UW:=af (n:=100) (l:=[]) (by simp) (by kernel_rfl)
def Tw:ak:=⟨230,[a17,qb,.int .i64 0],.bool false⟩
theorem OF:ah EA Tw:=af (n:=100) (l:=[]) (by simp) (by kernel_rfl)
def TI:ak:=⟨230,[a17,qb,.int .i64 1],.bool true⟩
theorem QL:ah EA TI:=af (n:=100) (l:=[]) (by simp) (by kernel_rfl)
def K3:ak:=⟨95,[a23,a23],.int .i64 0⟩
theorem FA:ah EA K3:=af (n:=100) (l:=[MI]) (by simp only[List.forall_mem_cons];exact⟨CM,by simp⟩) (by kernel_rfl)
def Td:ak:=⟨231,[a23,a23],.int .i64 0⟩
theorem Q0:ah EA Td:=af (n:=100) (l:=[K3]) (by simp only[List.forall_mem_cons];exact⟨FA,by simp⟩) (by kernel_rfl)
def TA:ak:=⟨98,[a23,a23],.bool true⟩
theorem Pz:ah EA TA:=af (n:=100) (l:=[]) (by simp) (by kernel_rfl)
def UI:ak:=⟨233,[a23,a23],.bool true⟩
theorem Ol:ah EA UI:=af (n:=100) (l:=[TA]) (by simp only[List.forall_mem_cons];exact⟨Pz,by simp⟩) (by kernel_rfl)
def TQ:ak:=⟨220,[a17,a22],a24⟩
theorem OT:ah EA TQ:=af (n:=100) (l:=[Zv,UW,Tw,TI,Td,UI]) (by simp only[List.forall_mem_cons];exact⟨VK,PR,OF,QL,Q0,Ol,by simp⟩) (by kernel_rfl)
def VR:ak:=⟨230,[a17,a23,.int .i64 0],.bool false⟩
theorem OH:ah EA VR:=af (n:=100) (l:=[]) (by simp) (by kernel_rfl)
def Uq:ak:=⟨230,[a17,a23,.int .i64 1],.bool false⟩
theorem QN:ah EA Uq:=af (n:=100) (l:=[]) (by simp) (by kernel_rfl)
def TL:ak:=⟨220,[a17,a24],.aF⟩
theorem Pf:ah EA TL:=af (n:=100) (l:=[VR,Uq]) (by simp only[List.forall_mem_cons];exact⟨OH,QN,by simp⟩) (by kernel_rfl)
def VN:ak:=⟨206,[a1],.tup [.fsl 1 [[.fsl 1 [[.fsl 1 [[.int .i64 0],[.int .i64 0]]]]],[.fsl 1 [[.fsl 1 [[.int .i64 0],[.int .i64 1]]],[.fsl 1 [[.int .i64 1],[.int .i64 0]]]]],[.fsl 1 [[.fsl 1 [[.int .i64 1],[.int .i64 1]]]]]],.int .i64 0]⟩
theorem PX:ah EA VN:=af (n:=100) (l:=[yG,Zs,X9,TQ,TL]) (by simp only[List.forall_mem_cons];exact⟨pT,U4,R6,OT,Pf,by simp⟩) (by kernel_rfl)
def Vy:ak:=⟨207,[.fsl 1 [[.fsl 1 [[.fsl 1 [[.int .i64 0],[.int .i64 0]]]]],[.fsl 1 [[.fsl 1 [[.int .i64 0],[.int .i64 1]]],[.fsl 1 [[.int .i64 1],[.int .i64 0]]]]],[.fsl 1 [[.fsl 1 [[.int .i64 1],[.int .i64 1]]]]]]],.fsl 1 [[.fsl 1 [[.int .i64 0],[.int .i64 0]]],[.fsl 1 [[.int .i64 0],[.int .i64 1]]],[.fsl 1 [[.int .i64 1],[.int .i64 0]]],[.fsl 1 [[.int .i64 1],[.int .i64 1]]]]⟩
theorem Nz:ah EA Vy:=af (n:=100) (l:=[]) (by simp) (by kernel_rfl)
def Tf:ak:=⟨177,[a1],a25⟩
theorem N3:ah EA Tf:=af (n:=100) (l:=[VN,Vy]) (by simp only[List.forall_mem_cons];exact⟨PX,Nz,by simp⟩) (by kernel_rfl)
def WE:ak:=⟨139,[a1],a25⟩
theorem NC:ah EA WE:=af (n:=100) (l:=[Tf]) (by simp only[List.forall_mem_cons];exact⟨N3,by simp⟩) (by kernel_rfl)
def SK:ak:=⟨162,[gi,a12],.bool false⟩
theorem PV:ah EA SK:=af (n:=100) (l:=[]) (by simp) (by kernel_rfl)
def SP:ak:=⟨80,[a21,a26],.int .i64 (-1)⟩
theorem Ph:ah EA SP:=af (n:=100) (l:=[SK]) (by simp only[List.forall_mem_cons];exact⟨PV,by simp⟩) (by kernel_rfl)
def Up:ak:=⟨35,[a21,a26],.bool false⟩
theorem NY:ah EA Up:=af (n:=100) (l:=[SP]) (by simp only[List.forall_mem_cons];exact⟨Ph,by simp⟩) (by kernel_rfl)
def Tu:ak:=⟨123,[a1,a21],.bool true⟩
theorem Qc:ah EA Tu:=af (n:=100) (l:=[yG,Up]) (by simp only[List.forall_mem_cons];exact⟨pT,NY,by simp⟩) (by kernel_rfl)
def SZ:ak:=⟨124,[a1,gi],.bool true⟩
theorem Ou:ah EA SZ:=af (n:=100) (l:=[]) (by simp) (by kernel_rfl)
def Vs:ak:=⟨127,[a1,gi],MB⟩
theorem QD:ah EA Vs:=af (n:=100) (l:=[]) (by simp) (by kernel_rfl)
def T7:ak:=⟨126,[a1,gi],.bool true⟩
theorem Ra:ah EA T7:=af (n:=100) (l:=[Vs]) (by simp only[List.forall_mem_cons];exact⟨QD,by simp⟩) (by kernel_rfl)
def Ku:ak:=⟨99,[a1,a21,.aF],.int .i64 0⟩
theorem E5:ah EA Ku:=af (n:=100) (l:=[Tu,SZ,T7]) (by simp only[List.forall_mem_cons];exact⟨Qc,Ou,Ra,by simp⟩) (by kernel_rfl)
def Ug:ak:=⟨178,[a1,gi],.tup [.aF,.int .i64 0]⟩
theorem OR:ah EA Ug:=af (n:=100) (l:=[Ku]) (by simp only[List.forall_mem_cons];exact⟨E5,by simp⟩) (by kernel_rfl)
def L9:ak:=⟨208,[a2],.clo 222 [] [.fptr [.str (ByteArray.mk #[112]),.aF,.fsl 5 [[.int .i64 1,.int .i64 0,.int .i64 0,.int .i64 0,.aF]]]]⟩
theorem Fv:ah EA L9:=af (n:=100) (l:=[]) (by simp) (by kernel_rfl)
def Ka:ak:=⟨179,[a2,.int .i64 0],.aF⟩
theorem E0:ah EA Ka:=af (n:=100) (l:=[L9]) (by simp only[List.forall_mem_cons];exact⟨Fv,by simp⟩) (by kernel_rfl)
def LH:ak:=⟨208,[a28],.clo 222 [] [.fptr [.str (ByteArray.mk #[113]),.aF,.fsl 5 [[.int .i64 1,.int .i64 0,.int .i64 0,.int .i64 0,.aF]]]]⟩
theorem E9:ah EA LH:=af (n:=100) (l:=[]) (by simp) (by kernel_rfl)
def Lq:ak:=⟨179,[a28,.int .i64 0],.aF⟩
theorem Fk:ah EA Lq:=af (n:=100) (l:=[LH]) (by simp only[List.forall_mem_cons];exact⟨E9,by simp⟩) (by kernel_rfl)
def Vn:ak:=⟨140,[a1,gi],Nr⟩
theorem O9:ah EA Vn:=af (n:=100) (l:=[Ug,Ka,Lq]) (by simp only[List.forall_mem_cons];exact⟨OR,E0,Fk,by simp⟩) (by kernel_rfl)
def Sq:ak:=⟨180,[UU,pV],.int .i64 0⟩
theorem Ny:ah EA Sq:=af (n:=100) (l:=[]) (by simp) (by kernel_rfl)
def TP:ak:=⟨180,[UU,pH],.int .i64 0⟩
theorem Of:ah EA TP:=af (n:=100) (l:=[]) (by simp) (by kernel_rfl)
def R8:ak:=⟨141,[UU,a9],.bool true⟩
theorem PN:ah EA R8:=af (n:=100) (l:=[Sq,TP]) (by simp only[List.forall_mem_cons];exact⟨Ny,Of,by simp⟩) (by kernel_rfl)
def U9:ak:=⟨162,[a20,a12],.bool false⟩
theorem Nx:ah EA U9:=af (n:=100) (l:=[]) (by simp) (by kernel_rfl)
def U_:ak:=⟨80,[a31,a26],.int .i64 (-1)⟩
theorem PG:ah EA U_:=af (n:=100) (l:=[U9]) (by simp only[List.forall_mem_cons];exact⟨Nx,by simp⟩) (by kernel_rfl)
def WI:ak:=⟨35,[a31,a26],.bool false⟩
theorem OE:ah EA WI:=af (n:=100) (l:=[U_]) (by simp only[List.forall_mem_cons];exact⟨PG,by simp⟩) (by kernel_rfl)
def VG:ak:=⟨123,[a1,a31],.bool true⟩
theorem PK:ah EA VG:=af (n:=100) (l:=[yG,WI]) (by simp only[List.forall_mem_cons];exact⟨pT,OE,by simp⟩) (by kernel_rfl)
def TS:ak:=⟨124,[a1,a20],.bool true⟩
theorem QX:ah EA TS:=af (n:=100) (l:=[]) (by simp) (by kernel_rfl)
def Ue:ak:=⟨127,[a1,a20],MB⟩
theorem PF:ah EA Ue:=af (n:=100) (l:=[]) (by simp) (by kernel_rfl)
def Uu:ak:=⟨126,[a1,a20],.bool true⟩
theorem P8:ah EA Uu:=af (n:=100) (l:=[Ue]) (by simp only[List.forall_mem_cons];exact⟨PF,by simp⟩) (by kernel_rfl)
def Kn:ak:=⟨99,[a1,a31,.aF],.int .i64 0⟩
theorem FC:ah EA Kn:=af (n:=100) (l:=[VG,TS,Uu]) (by simp only[List.forall_mem_cons];exact⟨PK,QX,P8,by simp⟩) (by kernel_rfl)
def UF:ak:=⟨178,[a1,a20],.tup [.fsl 2 [[.int .i64 1,.int .i64 1]],.int .i64 0]⟩
theorem PZ:ah EA UF:=af (n:=100) (l:=[Kn]) (by simp only[List.forall_mem_cons];exact⟨FC,by simp⟩) (by kernel_rfl)
def KN:ak:=⟨179,[a28,.int .i64 1],.aF⟩
theorem EZ:ah EA KN:=af (n:=100) (l:=[LH]) (by simp only[List.forall_mem_cons];exact⟨E9,by simp⟩) (by kernel_rfl)
def Sz:ak:=⟨140,[a1,a20],Nr⟩
theorem O5:ah EA Sz:=af (n:=100) (l:=[UF,Ka,KN]) (by simp only[List.forall_mem_cons];exact⟨PZ,E0,EZ,by simp⟩) (by kernel_rfl)
def WB:ak:=⟨180,[a32,pV],.int .i64 0⟩
theorem Rc:ah EA WB:=af (n:=100) (l:=[]) (by simp) (by kernel_rfl)
def Wv:ak:=⟨180,[a32,pH],.int .i64 1⟩
theorem Qy:ah EA Wv:=af (n:=100) (l:=[]) (by simp) (by kernel_rfl)
def Tv:ak:=⟨141,[a32,a9],.bool false⟩
theorem N0:ah EA Tv:=af (n:=100) (l:=[WB,Wv]) (by simp only[List.forall_mem_cons];exact⟨Rc,Qy,by simp⟩) (by kernel_rfl)
def UL:ak:=⟨162,[qb,a12],.bool false⟩
theorem Q9:ah EA UL:=af (n:=100) (l:=[]) (by simp) (by kernel_rfl)
def RN:ak:=⟨80,[a33,a26],.int .i64 (-1)⟩
theorem OV:ah EA RN:=af (n:=100) (l:=[UL]) (by simp only[List.forall_mem_cons];exact⟨Q9,by simp⟩) (by kernel_rfl)
def Vv:ak:=⟨35,[a33,a26],.bool false⟩
theorem NW:ah EA Vv:=af (n:=100) (l:=[RN]) (by simp only[List.forall_mem_cons];exact⟨OV,by simp⟩) (by kernel_rfl)
def TW:ak:=⟨123,[a1,a33],.bool true⟩
theorem N4:ah EA TW:=af (n:=100) (l:=[yG,Vv]) (by simp only[List.forall_mem_cons];exact⟨pT,NW,by simp⟩) (by kernel_rfl)
def Ta:ak:=⟨124,[a1,qb],.bool true⟩
theorem QB:ah EA Ta:=af (n:=100) (l:=[]) (by simp) (by kernel_rfl)
def UD:ak:=⟨127,[a1,qb],MB⟩
theorem PC:ah EA UD:=af (n:=100) (l:=[]) (by simp) (by kernel_rfl)
def Wa:ak:=⟨126,[a1,qb],.bool true⟩
theorem OD:ah EA Wa:=af (n:=100) (l:=[UD]) (by simp only[List.forall_mem_cons];exact⟨PC,by simp⟩) (by kernel_rfl)
def Ts:ak:=⟨99,[a1,a33,.aF],.int .i64 0⟩
theorem OZ:ah EA Ts:=af (n:=100) (l:=[TW,Ta,Wa]) (by simp only[List.forall_mem_cons];exact⟨N4,QB,OD,by simp⟩) (by kernel_rfl)
def Vt:ak:=⟨178,[a1,qb],.tup [.fsl 2 [[.int .i64 0,.int .i64 1]],.int .i64 0]⟩
theorem PL:ah EA Vt:=af (n:=100) (l:=[Ts]) (by simp only[List.forall_mem_cons];exact⟨OZ,by simp⟩) (by kernel_rfl)
def Lw:ak:=⟨179,[a2,.int .i64 1],.aF⟩
theorem Ft:ah EA Lw:=af (n:=100) (l:=[L9]) (by simp only[List.forall_mem_cons];exact⟨Fv,by simp⟩) (by kernel_rfl)
def S0:ak:=⟨140,[a1,qb],Nr⟩
theorem Po:ah EA S0:=af (n:=100) (l:=[Vt,Lw,Lq]) (by simp only[List.forall_mem_cons];exact⟨PL,Ft,Fk,by simp⟩) (by kernel_rfl)
def RX:ak:=⟨180,[U0,pV],.int .i64 1⟩
theorem Nv:ah EA RX:=af (n:=100) (l:=[]) (by simp) (by kernel_rfl)
def TZ:ak:=⟨180,[U0,pH],.int .i64 0⟩
theorem Rh:ah EA TZ:=af (n:=100) (l:=[]) (by simp) (by kernel_rfl)
def VC:ak:=⟨141,[U0,a9],.bool false⟩
theorem OG:ah EA VC:=af (n:=100) (l:=[RX,TZ]) (by simp only[List.forall_mem_cons];exact⟨Nv,Rh,by simp⟩) (by kernel_rfl)
def Uo:ak:=⟨162,[a23,a12],.bool false⟩
theorem QZ:ah EA Uo:=af (n:=100) (l:=[]) (by simp) (by kernel_rfl)
def Wi:ak:=⟨80,[a24,a26],.int .i64 (-1)⟩
theorem P4:ah EA Wi:=af (n:=100) (l:=[Uo]) (by simp only[List.forall_mem_cons];exact⟨QZ,by simp⟩) (by kernel_rfl)
def UB:ak:=⟨35,[a24,a26],.bool false⟩
theorem OL:ah EA UB:=af (n:=100) (l:=[Wi]) (by simp only[List.forall_mem_cons];exact⟨P4,by simp⟩) (by kernel_rfl)
def R9:ak:=⟨123,[a1,a24],.bool true⟩
theorem Qx:ah EA R9:=af (n:=100) (l:=[yG,UB]) (by simp only[List.forall_mem_cons];exact⟨pT,OL,by simp⟩) (by kernel_rfl)
def R5:ak:=⟨124,[a1,a23],.bool true⟩
theorem PM:ah EA R5:=af (n:=100) (l:=[]) (by simp) (by kernel_rfl)
def Sx:ak:=⟨127,[a1,a23],MB⟩
theorem Q3:ah EA Sx:=af (n:=100) (l:=[]) (by simp) (by kernel_rfl)
def T3:ak:=⟨126,[a1,a23],.bool true⟩
theorem Pk:ah EA T3:=af (n:=100) (l:=[Sx]) (by simp only[List.forall_mem_cons];exact⟨Q3,by simp⟩) (by kernel_rfl)
def K8:ak:=⟨99,[a1,a24,.aF],.int .i64 0⟩
theorem EM:ah EA K8:=af (n:=100) (l:=[R9,R5,T3]) (by simp only[List.forall_mem_cons];exact⟨Qx,PM,Pk,by simp⟩) (by kernel_rfl)
def Wr:ak:=⟨178,[a1,a23],.tup [.fsl 2 [[.int .i64 0,.int .i64 1],[.int .i64 1,.int .i64 1]],.int .i64 0]⟩
theorem Qw:ah EA Wr:=af (n:=100) (l:=[K8]) (by simp only[List.forall_mem_cons];exact⟨EM,by simp⟩) (by kernel_rfl)
def Vg:ak:=⟨140,[a1,a23],Nr⟩
theorem Pa:ah EA Vg:=af (n:=100) (l:=[Wr,Lw,KN]) (by simp only[List.forall_mem_cons];exact⟨Qw,Ft,EZ,by simp⟩) (by kernel_rfl)
def Tg:ak:=⟨180,[a35,pV],.int .i64 1⟩
theorem Pn:ah EA Tg:=af (n:=100) (l:=[]) (by simp) (by kernel_rfl)
def Sm:ak:=⟨180,[a35,pH],.int .i64 1⟩
theorem PB:ah EA Sm:=af (n:=100) (l:=[]) (by simp) (by kernel_rfl)
def Tl:ak:=⟨141,[a35,a9],.bool true⟩
theorem Pr:ah EA Tl:=af (n:=100) (l:=[Tg,Sm]) (by simp only[List.forall_mem_cons];exact⟨Pn,PB,by simp⟩) (by kernel_rfl)
def S3:ak:=⟨113,[a1,a9],.tup [.fsl 1 [[.fsl 1 [[.int .i64 0],[.int .i64 0]]],[.fsl 1 [[.int .i64 0],[.int .i64 1]]],[.fsl 1 [[.int .i64 1],[.int .i64 0]]],[.fsl 1 [[.int .i64 1],[.int .i64 1]]]],.fsl 1 [[.bool true],[.bool false],[.bool false],[.bool true]],.int .i64 0]⟩
theorem P_:ah EA S3:=af (n:=100) (l:=[YR,XZ,Zl,WE,Vn,R8,Sz,Tv,S0,VC,Vg,Tl]) (by simp only[List.forall_mem_cons];exact⟨Vc,Wd,T8,NC,O9,PN,O5,N0,Po,OG,Pa,Pr,by simp⟩) (by kernel_rfl)
def Vx:ak:=⟨85,[a1,a9],XY⟩
theorem Pg:ah EA Vx:=af (n:=100) (l:=[S3]) (by simp only[List.forall_mem_cons];exact⟨P_,by simp⟩) (by kernel_rfl)
def J8:ak:=⟨63,[a1,gi],.bool true⟩
theorem Fj:ah EA J8:=af (n:=100) (l:=[Ku]) (by simp only[List.forall_mem_cons];exact⟨E5,by simp⟩) (by kernel_rfl)
def SX:ak:=⟨71,[gi,a12],.bool false⟩
theorem Qe:ah EA SX:=af (n:=100) (l:=[J8]) (by simp only[List.forall_mem_cons];exact⟨Fj,by simp⟩) (by kernel_rfl)
def Dy:ak:=⟨63,[a1,a23],.bool true⟩
theorem yh:ah EA Dy:=af (n:=100) (l:=[K8]) (by simp only[List.forall_mem_cons];exact⟨EM,by simp⟩) (by kernel_rfl)
def R2:ak:=⟨71,[a23,a12],.bool false⟩
theorem OM:ah EA R2:=af (n:=100) (l:=[Dy]) (by simp only[List.forall_mem_cons];exact⟨yh,by simp⟩) (by kernel_rfl)
def VP:ak:=⟨80,[a37,Nl],.int .i64 (-1)⟩
theorem Ot:ah EA VP:=af (n:=100) (l:=[SX,R2]) (by simp only[List.forall_mem_cons];exact⟨Qe,OM,by simp⟩) (by kernel_rfl)
def TJ:ak:=⟨35,[a37,Nl],.bool false⟩
theorem NF:ah EA TJ:=af (n:=100) (l:=[VP]) (by simp only[List.forall_mem_cons];exact⟨Ot,by simp⟩) (by kernel_rfl)
def Kg:ak:=⟨104,[.int .i64 0,.int .i64 0],.int .i64 0⟩
theorem EV:ah EA Kg:=af (n:=100) (l:=[]) (by simp) (by kernel_rfl)
def VH:ak:=⟨103,[gi,gi,.clo 104 [] []],gi⟩
theorem QW:ah EA VH:=af (n:=100) (l:=[Kg]) (by simp only[List.forall_mem_cons];exact⟨EV,by simp⟩) (by kernel_rfl)
def To:ak:=⟨73,[gi,gi],gi⟩
theorem Qr:ah EA To:=af (n:=100) (l:=[VH]) (by simp only[List.forall_mem_cons];exact⟨QW,by simp⟩) (by kernel_rfl)
def KU:ak:=⟨105,[.int .i64 0,.int .i64 0],.int .i64 0⟩
theorem E4:ah EA KU:=af (n:=100) (l:=[]) (by simp) (by kernel_rfl)
def U3:ak:=⟨103,[gi,gi,.clo 105 [] []],gi⟩
theorem OW:ah EA U3:=af (n:=100) (l:=[KU]) (by simp only[List.forall_mem_cons];exact⟨E4,by simp⟩) (by kernel_rfl)
def Sw:ak:=⟨74,[gi,gi],gi⟩
theorem Pc:ah EA Sw:=af (n:=100) (l:=[U3]) (by simp only[List.forall_mem_cons];exact⟨OW,by simp⟩) (by kernel_rfl)
def VW:ak:=⟨104,[.int .i64 0,.int .i64 1],.int .i64 0⟩
theorem NG:ah EA VW:=af (n:=100) (l:=[]) (by simp) (by kernel_rfl)
def V0:ak:=⟨103,[gi,a23,.clo 104 [] []],gi⟩
theorem Qt:ah EA V0:=af (n:=100) (l:=[VW]) (by simp only[List.forall_mem_cons];exact⟨NG,by simp⟩) (by kernel_rfl)
def Wq:ak:=⟨73,[gi,a23],gi⟩
theorem Pq:ah EA Wq:=af (n:=100) (l:=[V0]) (by simp only[List.forall_mem_cons];exact⟨Qt,by simp⟩) (by kernel_rfl)
def Sb:ak:=⟨105,[.int .i64 0,.int .i64 1],.int .i64 1⟩
theorem N7:ah EA Sb:=af (n:=100) (l:=[]) (by simp) (by kernel_rfl)
def TO:ak:=⟨103,[gi,a23,.clo 105 [] []],a23⟩
theorem Oq:ah EA TO:=af (n:=100) (l:=[Sb]) (by simp only[List.forall_mem_cons];exact⟨N7,by simp⟩) (by kernel_rfl)
def LO:ak:=⟨74,[gi,a23],a23⟩
theorem Fa:ah EA LO:=af (n:=100) (l:=[TO]) (by simp only[List.forall_mem_cons];exact⟨Oq,by simp⟩) (by kernel_rfl)
def Tj:ak:=⟨61,[.agg [.bool false,.fsl 1 [[.int .i64 0],[.int .i64 0]],.fsl 1 [[.int .i64 1],[.int .i64 1]],.fsl 1 [[.fsl 1 [[.aF]]],[.fsl 1 [[.aF]]]]],a6],.aF⟩
theorem OK:ah EA Tj:=af (n:=100) (l:=[]) (by simp) (by kernel_rfl)
def LC:ak:=⟨104,[.int .i64 1,.int .i64 1],.int .i64 1⟩
theorem EN:ah EA LC:=af (n:=100) (l:=[]) (by simp) (by kernel_rfl)
def UP:ak:=⟨103,[a23,a23,.clo 104 [] []],a23⟩
theorem OO:ah EA UP:=af (n:=100) (l:=[LC]) (by simp only[List.forall_mem_cons];exact⟨EN,by simp⟩) (by kernel_rfl)
def Vq:ak:=⟨73,[a23,a23],a23⟩
theorem QM:ah EA Vq:=af (n:=100) (l:=[UP]) (by simp only[List.forall_mem_cons];exact⟨OO,by simp⟩) (by kernel_rfl)
def Ui:ak:=⟨61,[.agg [.bool false,.fsl 1 [[.int .i64 0],[.int .i64 0]],.fsl 1 [[.int .i64 1],[.int .i64 1]],.fsl 1 [[.fsl 1 [[.fsl 1 [[.int .i64 1],[.int .i64 1]]]]],[.fsl 1 [[.aF]]]]],a7],.aF⟩
theorem Qk:ah EA Ui:=af (n:=100) (l:=[]) (by simp) (by kernel_rfl)
def Sk:ak:=⟨28,[a1,a37],a39⟩
theorem Ow:ah EA Sk:=af (n:=100) (l:=[yG,TJ,To,Sw,Wq,LO,Tj,Vq,Ui]) (by simp only[List.forall_mem_cons];exact⟨pT,NF,Qr,Pc,Pq,Fa,OK,QM,Qk,by simp⟩) (by kernel_rfl)
def CQ:ak:=⟨61,[a40,a6],a23⟩
theorem yg:ah EA CQ:=af (n:=100) (l:=[]) (by simp) (by kernel_rfl)
def CT:ak:=⟨61,[a40,a7],a23⟩
theorem xK:ah EA CT:=af (n:=100) (l:=[]) (by simp) (by kernel_rfl)
def Gb:ak:=⟨94,[gi],.int .i64 0⟩
theorem A_:ah EA Gb:=af (n:=100) (l:=[]) (by simp) (by kernel_rfl)
def SY:ak:=⟨95,[gi,gi],.int .i64 0⟩
theorem N2:ah EA SY:=af (n:=100) (l:=[I9]) (by simp only[List.forall_mem_cons];exact⟨zL,by simp⟩) (by kernel_rfl)
def J9:ak:=⟨92,[gi],.int .i64 0⟩
theorem ET:ah EA J9:=af (n:=100) (l:=[]) (by simp) (by kernel_rfl)
def SO:ak:=⟨91,[gi,gi],.int .i64 0⟩
theorem PA:ah EA SO:=af (n:=100) (l:=[Gb,I9,SY,J9]) (by simp only[List.forall_mem_cons];exact⟨A_,zL,N2,ET,by simp⟩) (by kernel_rfl)
def FU:ak:=⟨94,[a23],.int .i64 2⟩
theorem AT:ah EA FU:=af (n:=100) (l:=[]) (by simp) (by kernel_rfl)
def FW:ak:=⟨116,[.int .i64 2],.bool false⟩
theorem AP:ah EA FW:=af (n:=100) (l:=[]) (by simp) (by kernel_rfl)
def Tr:ak:=⟨93,[.int .i64 0,.int .i64 2],.int .i64 (-1)⟩
theorem Pm:ah EA Tr:=af (n:=100) (l:=[EO,FW]) (by simp only[List.forall_mem_cons];exact⟨xe,AP,by simp⟩) (by kernel_rfl)
def Uz:ak:=⟨95,[gi,a23],.int .i64 (-1)⟩
theorem Nw:ah EA Uz:=af (n:=100) (l:=[Uy]) (by simp only[List.forall_mem_cons];exact⟨Io,by simp⟩) (by kernel_rfl)
def Uh:ak:=⟨92,[.fsl 1 [[.int .i64 (-1)],[.int .i64 (-1)]]],.int .i64 (-1)⟩
theorem Od:ah EA Uh:=af (n:=100) (l:=[]) (by simp) (by kernel_rfl)
def Vh:ak:=⟨91,[gi,a23],.int .i64 (-1)⟩
theorem QO:ah EA Vh:=af (n:=100) (l:=[Gb,FU,Tr,Uz,Uh]) (by simp only[List.forall_mem_cons];exact⟨A_,AT,Pm,Nw,Od,by simp⟩) (by kernel_rfl)
def UO:ak:=⟨93,[.int .i64 2,.int .i64 0],.int .i64 1⟩
theorem N1:ah EA UO:=af (n:=100) (l:=[FW,EO]) (by simp only[List.forall_mem_cons];exact⟨AP,xe,by simp⟩) (by kernel_rfl)
def Ti:ak:=⟨95,[a23,gi],.int .i64 1⟩
theorem Q_:ah EA Ti:=af (n:=100) (l:=[Tz]) (by simp only[List.forall_mem_cons];exact⟨Jo,by simp⟩) (by kernel_rfl)
def Tt:ak:=⟨92,[a23],.int .i64 1⟩
theorem PS:ah EA Tt:=af (n:=100) (l:=[]) (by simp) (by kernel_rfl)
def SC:ak:=⟨91,[a23,gi],.int .i64 1⟩
theorem Ox:ah EA SC:=af (n:=100) (l:=[FU,Gb,UO,Ti,Tt]) (by simp only[List.forall_mem_cons];exact⟨AT,A_,N1,Q_,PS,by simp⟩) (by kernel_rfl)
def Uv:ak:=⟨93,[.int .i64 2,.int .i64 2],.int .i64 0⟩
theorem NU:ah EA Uv:=af (n:=100) (l:=[FW]) (by simp only[List.forall_mem_cons];exact⟨AP,by simp⟩) (by kernel_rfl)
def UT:ak:=⟨91,[a23,a23],.int .i64 0⟩
theorem PE:ah EA UT:=af (n:=100) (l:=[FU,Uv,K3,J9]) (by simp only[List.forall_mem_cons];exact⟨AT,NU,FA,ET,by simp⟩) (by kernel_rfl)
def Mj:ak:=⟨49,[a40],.tup [.fsl 1 [[.fsl 1 [[.int .i64 0],[.int .i64 0]]],[.fsl 1 [[.int .i64 1],[.int .i64 1]]]],.bool true]⟩
theorem Fq:ah EA Mj:=af (n:=100) (l:=[CQ,LO,CT,SO,Vh,SC,UT]) (by simp only[List.forall_mem_cons];exact⟨yg,Fa,xK,PA,QO,Ox,PE,by simp⟩) (by kernel_rfl)
def S9:ak:=⟨39,[a1,a9],a39⟩
theorem PD:ah EA S9:=af (n:=100) (l:=[Vx,Sk,Mj]) (by simp only[List.forall_mem_cons];exact⟨Pg,Ow,Fq,by simp⟩) (by kernel_rfl)
def HK:ak:=⟨24,[gi,a23],.bool true⟩
theorem AZ:ah EA HK:=af (n:=100) (l:=[]) (by simp) (by kernel_rfl)
def Sp:ak:=⟨55,[a1,a40],.bool true⟩
theorem Q5:ah EA Sp:=af (n:=100) (l:=[J8,Dy,HK]) (by simp only[List.forall_mem_cons];exact⟨Fj,yh,AZ,by simp⟩) (by kernel_rfl)
def WJ:ak:=⟨57,[a1],a23⟩
theorem NP:ah EA WJ:=af (n:=100) (l:=[]) (by simp) (by kernel_rfl)
def Ux:ak:=⟨97,[a6,a23],.bool true⟩
theorem QA:ah EA Ux:=af (n:=100) (l:=[]) (by simp) (by kernel_rfl)
def Vk:ak:=⟨97,[a6,gi],.bool false⟩
theorem ON:ah EA Vk:=af (n:=100) (l:=[]) (by simp) (by kernel_rfl)
def DE:ak:=⟨24,[a23,a23],.bool true⟩
theorem xV:ah EA DE:=af (n:=100) (l:=[]) (by simp) (by kernel_rfl)
def SB:ak:=⟨59,[a1,a40,a6],.bool true⟩
theorem O4:ah EA SB:=af (n:=100) (l:=[CQ,Ux,Vk,Dy,HK,DE]) (by simp only[List.forall_mem_cons];exact⟨yg,QA,ON,yh,AZ,xV,by simp⟩) (by kernel_rfl)
def Tq:ak:=⟨58,[a6,a12,a41],.bool true⟩
theorem Q6:ah EA Tq:=af (n:=100) (l:=[SB]) (by simp only[List.forall_mem_cons];exact⟨O4,by simp⟩) (by kernel_rfl)
def Sh:ak:=⟨97,[a7,a23],.bool true⟩
theorem Pd:ah EA Sh:=af (n:=100) (l:=[]) (by simp) (by kernel_rfl)
def VL:ak:=⟨97,[a7,gi],.bool false⟩
theorem N8:ah EA VL:=af (n:=100) (l:=[]) (by simp) (by kernel_rfl)
def Wu:ak:=⟨59,[a1,a40,a7],.bool true⟩
theorem Qu:ah EA Wu:=af (n:=100) (l:=[CT,Sh,VL,Dy,HK,DE]) (by simp only[List.forall_mem_cons];exact⟨xK,Pd,N8,yh,AZ,xV,by simp⟩) (by kernel_rfl)
def SU:ak:=⟨58,[a7,a12,a41],.bool true⟩
theorem Oo:ah EA SU:=af (n:=100) (l:=[Wu]) (by simp only[List.forall_mem_cons];exact⟨Qu,by simp⟩) (by kernel_rfl)
def Kl:ak:=⟨62,[a6,a41,Yb],.bool true⟩
theorem E3:ah EA Kl:=af (n:=100) (l:=[CQ,DE]) (by simp only[List.forall_mem_cons];exact⟨yg,xV,by simp⟩) (by kernel_rfl)
def LA:ak:=⟨62,[a7,a41,Yb],.bool true⟩
theorem Fu:ah EA LA:=af (n:=100) (l:=[CT,DE]) (by simp only[List.forall_mem_cons];exact⟨xK,xV,by simp⟩) (by kernel_rfl)
def RR:ak:=⟨60,[a6,a41],.bool true⟩
theorem Qj:ah EA RR:=af (n:=100) (l:=[CQ,Kl,LA]) (by simp only[List.forall_mem_cons];exact⟨yg,E3,Fu,by simp⟩) (by kernel_rfl)
def Wj:ak:=⟨60,[a7,a41],.bool true⟩
theorem OU:ah EA Wj:=af (n:=100) (l:=[CT,Kl,LA]) (by simp only[List.forall_mem_cons];exact⟨xK,E3,Fu,by simp⟩) (by kernel_rfl)
def WA:ak:=⟨17,[a1,a40],.bool true⟩
theorem Px:ah EA WA:=af (n:=100) (l:=[yG,Sp,WJ,Tq,SU,RR,Wj]) (by simp only[List.forall_mem_cons];exact⟨pT,Q5,NP,Q6,Oo,Qj,OU,by simp⟩) (by kernel_rfl)
def TX:ak:=⟨13,[a1,a40],XY⟩
theorem P5:ah EA TX:=af (n:=100) (l:=[WA,Mj]) (by simp only[List.forall_mem_cons];exact⟨Px,Fq,by simp⟩) (by kernel_rfl)
def Tm:ak:=⟨63,[a1,a20],.bool true⟩
theorem Oy:ah EA Tm:=af (n:=100) (l:=[Kn]) (by simp only[List.forall_mem_cons];exact⟨FC,by simp⟩) (by kernel_rfl)
def TG:ak:=⟨71,[a20,a12],.bool false⟩
theorem OS:ah EA TG:=af (n:=100) (l:=[Tm]) (by simp only[List.forall_mem_cons];exact⟨Oy,by simp⟩) (by kernel_rfl)
def RY:ak:=⟨80,[a31,Nl],.int .i64 (-1)⟩
theorem ND:ah EA RY:=af (n:=100) (l:=[TG]) (by simp only[List.forall_mem_cons];exact⟨OS,by simp⟩) (by kernel_rfl)
def Si:ak:=⟨35,[a31,Nl],.bool false⟩
theorem NX:ah EA Si:=af (n:=100) (l:=[RY]) (by simp only[List.forall_mem_cons];exact⟨ND,by simp⟩) (by kernel_rfl)
def VD:ak:=⟨103,[a20,a20,.clo 104 [] []],a20⟩
theorem O_:ah EA VD:=af (n:=100) (l:=[Kg,LC]) (by simp only[List.forall_mem_cons];exact⟨EV,EN,by simp⟩) (by kernel_rfl)
def Ud:ak:=⟨73,[a20,a20],a20⟩
theorem N6:ah EA Ud:=af (n:=100) (l:=[VD]) (by simp only[List.forall_mem_cons];exact⟨O_,by simp⟩) (by kernel_rfl)
def Ub:ak:=⟨105,[.int .i64 1,.int .i64 1],.int .i64 1⟩
theorem N9:ah EA Ub:=af (n:=100) (l:=[]) (by simp) (by kernel_rfl)
def TF:ak:=⟨103,[a20,a20,.clo 105 [] []],a20⟩
theorem Qq:ah EA TF:=af (n:=100) (l:=[KU,Ub]) (by simp only[List.forall_mem_cons];exact⟨E4,N9,by simp⟩) (by kernel_rfl)
def R4:ak:=⟨74,[a20,a20],a20⟩
theorem P0:ah EA R4:=af (n:=100) (l:=[TF]) (by simp only[List.forall_mem_cons];exact⟨Qq,by simp⟩) (by kernel_rfl)
def S7:ak:=⟨61,[.agg [.bool false,.fsl 1 [[.int .i64 0],[.int .i64 1]],.fsl 1 [[.int .i64 0],[.int .i64 1]],.fsl 1 [[.fsl 1 [[.aF]]],[.fsl 1 [[.aF]]]]],a7],.aF⟩
theorem Og:ah EA S7:=af (n:=100) (l:=[]) (by simp) (by kernel_rfl)
def V1:ak:=⟨28,[a1,a31],.tup [.agg [.bool false,.fsl 1 [[.int .i64 0],[.int .i64 1]],.fsl 1 [[.int .i64 0],[.int .i64 1]],.fsl 1 [[.fsl 1 [[.aF]]],[.fsl 1 [[.fsl 1 [[.int .i64 0],[.int .i64 1]]]]]]],.int .i64 0]⟩
theorem NS:ah EA V1:=af (n:=100) (l:=[yG,Si,Ud,R4,S7]) (by simp only[List.forall_mem_cons];exact⟨pT,NX,N6,P0,Og,by simp⟩) (by kernel_rfl)
def KF:ak:=⟨53,[gi,gi],.bool true⟩
theorem FK:ah EA KF:=af (n:=100) (l:=[]) (by simp) (by kernel_rfl)
def HO:ak:=⟨53,[a23,a23],.bool true⟩
theorem Bo:ah EA HO:=af (n:=100) (l:=[]) (by simp) (by kernel_rfl)
def TB:ak:=⟨16,[a24,a24],.bool true⟩
theorem QT:ah EA TB:=af (n:=100) (l:=[HO]) (by simp only[List.forall_mem_cons];exact⟨Bo,by simp⟩) (by kernel_rfl)
def RJ:ak:=⟨33,[a40,a40],.bool true⟩
theorem P6:ah EA RJ:=af (n:=100) (l:=[KF,HO,TB]) (by simp only[List.forall_mem_cons];exact⟨FK,Bo,QT,by simp⟩) (by kernel_rfl)
def RZ:ak:=⟨16,[a37,a37],.bool true⟩
theorem NJ:ah EA RZ:=af (n:=100) (l:=[KF,HO]) (by simp only[List.forall_mem_cons];exact⟨FK,Bo,by simp⟩) (by kernel_rfl)
def LV:ak:=⟨53,[a20,a20],.bool true⟩
theorem FJ:ah EA LV:=af (n:=100) (l:=[]) (by simp) (by kernel_rfl)
def RS:ak:=⟨53,[.aF,.aF],.bool true⟩
theorem Qg:ah EA RS:=af (n:=100) (l:=[]) (by simp) (by kernel_rfl)
def Vj:ak:=⟨16,[.fsl 1 [[.aF]],.fsl 1 [[.aF]]],.bool true⟩
theorem Ri:ah EA Vj:=af (n:=100) (l:=[RS]) (by simp only[List.forall_mem_cons];exact⟨Qg,by simp⟩) (by kernel_rfl)
def Vb:ak:=⟨16,[a31,a31],.bool true⟩
theorem OJ:ah EA Vb:=af (n:=100) (l:=[LV]) (by simp only[List.forall_mem_cons];exact⟨FJ,by simp⟩) (by kernel_rfl)
def SD:ak:=⟨33,[Yn,Yn],.bool true⟩
theorem Oi:ah EA SD:=af (n:=100) (l:=[LV,Vj,Vb]) (by simp only[List.forall_mem_cons];exact⟨FJ,Ri,OJ,by simp⟩) (by kernel_rfl)
theorem FX:∃n H1,run EA n (.fn 9) [] []=some (.bool true,H1):=Gk (n:=100) (l:=[S9,TX,V1,RJ,RZ,SD]) (by simp only[List.forall_mem_cons];exact⟨PD,P5,NS,P6,NJ,Oi,by simp⟩) (by kernel_rfl)
theorem calls (n:Nat):iL Tryz.prog (run E n):=BO WU mixed ⟨M_,λf az b h=>by
 by_cases hf:Nat.beq f 9=true
 .have e:E.known f az=if az.isEmpty then some (.bool true)else none:=by unfold E Af;simp only[hf,if_true]
  rw[e]at h;split at h
  .rename_i ha;cases h;have:f=9:=Nat.eq_of_beq_eq_true hf;subst this;have:az=[]:=List.isEmpty_iff.1 ha;subst this;obtain⟨n,H1,h1⟩:=FX;exact JD (V_ n) h1
  .cases h
 .have e:E.known f az=EA.known f az:=by unfold E EA Af;simp only[hf,if_false,Bool.false_eq_true]
  rw[e]at h;exact Jm f az b h⟩ n
end Go.Proofs.YtjbnbbbiijdbpaaGreatDoor
