/-
 The tables of this seat, and the law's own awakening.
-/
import Derived.Test.YtnfakljmdnbipaaGreatProg
import Derived.KernelRfl
import Derived.Test.YtnfakljmdnbipaaGreatV2
set_option linter.all false
namespace Go.Proofs.YtnfakljmdnbipaaGreat
open Go.VE Go.Proofs
noncomputable def EA:Env:=GC Tryz.prog [0,1,2,141,142,150,151,152,153,154,155,156,157,158,159,160,161,162,163,164,165,119] [92,105,97,122,119,66,101,31,65] [92,105,97,31,65] [76] (fun f=>Nat.beq f 119) fun _=>none
noncomputable def E:Env:=GC Tryz.prog [0,1,2,141,142,150,151,152,153,154,155,156,157,158,159,160,161,162,163,164,165,119,6] [92,105,97,122,119,66,101] [92,105,97] [76] (fun f=>Nat.beq f 119) fun f=>if Nat.beq f 6 then some true else none
theorem SO:xu Tryz.prog=true:=by kernel_rfl
theorem Ug:vi Tryz.prog 76 2:=vi.two (i:=3) Tryz.underlying76 rfl rfl rfl rfl (by decide) (by decide) (by kernel_rfl) Tryz.underlying3 (by kernel_rfl) (by kernel_rfl)
theorem Rh:∀t∈[76],vi Tryz.prog t 2:=by intro t h;simp only[List.mem_singleton]at h;subst h;exact Ug
theorem Oy:dm Tryz.prog EA:=Dj SO Rh
theorem Rz:dm Tryz.prog E:=Dj SO Rh
theorem mixed:Tryz.prog.follows .mixedOrders=true:=by kernel_rfl
open Go.Shelf
def Tryz.wH:Go.Shelf.Ren:=⟨fun|6=>119|15=>142|14=>141|28=>158|29=>159|20=>150|21=>151|22=>152|23=>153|24=>154|25=>155|26=>156|27=>157|46=>160|47=>161|48=>162|49=>163|50=>164|57=>165|n=>n,fun|22=>26|24=>29|25=>162|3=>3|39=>158|0=>0|53=>192|55=>194|4=>4|46=>186|45=>185|50=>130|5=>5|9=>9|66=>195|70=>199|76=>201|77=>202|n=>n,fun|n=>n⟩
theorem Tryz.Lt:Go.Proofs.SlLaysF.n6 Tryz.prog Tryz.wH:={
 mixed:=by kernel_rfl
 f6:=⟨Tryz.f119.name,by decide,Tryz.func119.trans (congrArg some (by kernel_rfl))⟩
 f14:=⟨Tryz.f141.name,by decide,Tryz.func141.trans (congrArg some (by kernel_rfl))⟩
 f15:=Tryz.func142.trans (congrArg some (by kernel_rfl))
 f20:=⟨Tryz.f150.name,by decide,Tryz.func150.trans (congrArg some (by kernel_rfl))⟩
 f21:=⟨Tryz.f151.name,by decide,Tryz.func151.trans (congrArg some (by kernel_rfl))⟩
 f22:=⟨Tryz.f152.name,by decide,Tryz.func152.trans (congrArg some (by kernel_rfl))⟩
 f23:=⟨Tryz.f153.name,by decide,Tryz.func153.trans (congrArg some (by kernel_rfl))⟩
 f24:=⟨Tryz.f154.name,by decide,Tryz.func154.trans (congrArg some (by kernel_rfl))⟩
 f25:=⟨Tryz.f155.name,by decide,Tryz.func155.trans (congrArg some (by kernel_rfl))⟩
 f26:=⟨Tryz.f156.name,by decide,Tryz.func156.trans (congrArg some (by kernel_rfl))⟩
 f27:=⟨Tryz.f157.name,by decide,Tryz.func157.trans (congrArg some (by kernel_rfl))⟩
 f28:=Tryz.func158.trans (congrArg some (by kernel_rfl))
 f29:=Tryz.func159.trans (congrArg some (by kernel_rfl))
 f46:=⟨Tryz.f160.name,by decide,Tryz.func160.trans (congrArg some (by kernel_rfl))⟩
 f47:=Tryz.func161.trans (congrArg some (by kernel_rfl))
 f48:=Tryz.func162.trans (congrArg some (by kernel_rfl))
 f49:=⟨Tryz.f163.name,by decide,Tryz.func163.trans (congrArg some (by kernel_rfl))⟩
 f50:=⟨Tryz.f164.name,by decide,Tryz.func164.trans (congrArg some (by kernel_rfl))⟩
 f57:=⟨Tryz.f165.name,by decide,Tryz.func165.trans (congrArg some (by kernel_rfl))⟩
 t0:=Tryz.underlying0
 a0:=Tryz.isAgg0
 z0:=Tryz.sizeOf0
 v0:=Tryz.zeroValue0
 t3:=Tryz.underlying3
 a3:=Tryz.isAgg3
 z3:=Tryz.sizeOf3
 v3:=Tryz.zeroValue3
 t4:=Tryz.underlying4
 a4:=Tryz.isAgg4
 z4:=Tryz.sizeOf4
 v4:=Tryz.zeroValue4
 t5:=Tryz.underlying5
 a5:=Tryz.isAgg5
 z5:=Tryz.sizeOf5
 v5:=Tryz.zeroValue5
 t9:=Tryz.underlying9
 a9:=Tryz.isAgg9
 z9:=Tryz.sizeOf9
 v9:=Tryz.zeroValue9
 t22:=Tryz.underlying26
 a22:=Tryz.isAgg26
 z22:=Tryz.sizeOf26
 v22:=Tryz.zeroValue26
 a24:=Tryz.isAgg29
 z24:=Tryz.sizeOf29
 t25:=Tryz.underlying162
 a25:=Tryz.isAgg162
 z25:=Tryz.sizeOf162
 v25:=Tryz.zeroValue162
 t39:=Tryz.underlying158
 a39:=Tryz.isAgg158
 z39:=Tryz.sizeOf158
 v39:=Tryz.zeroValue158
 t45:=Tryz.underlying185
 a45:=Tryz.isAgg185
 z45:=Tryz.sizeOf185
 v45:=Tryz.zeroValue185
 t46:=Tryz.underlying186
 a46:=Tryz.isAgg186
 z46:=Tryz.sizeOf186
 v46:=Tryz.zeroValue186
 t50:=Tryz.underlying130
 a50:=Tryz.isAgg130
 z50:=Tryz.sizeOf130
 v50:=Tryz.zeroValue130
 t53:=Tryz.underlying192
 a53:=Tryz.isAgg192
 z53:=Tryz.sizeOf192
 v53:=Tryz.zeroValue192
 t55:=Tryz.underlying194
 a55:=Tryz.isAgg194
 z55:=Tryz.sizeOf194
 v55:=Tryz.zeroValue194
 t66:=Tryz.underlying195
 a66:=Tryz.isAgg195
 z66:=Tryz.sizeOf195
 v66:=Tryz.zeroValue195
 t70:=Tryz.underlying199
 a70:=Tryz.isAgg199
 z70:=Tryz.sizeOf199
 v70:=Tryz.zeroValue199
 t76:=Tryz.underlying201
 a76:=Tryz.isAgg201
 z76:=Tryz.sizeOf201
 v76:=Tryz.zeroValue201
 t77:=Tryz.underlying202
 a77:=Tryz.isAgg202
 z77:=Tryz.sizeOf202
 v77:=Tryz.zeroValue202 }
theorem NS:xD Tryz.prog 119 where
 ok:=⟨Tryz.f119,Tryz.func119,by kernel_rfl,by kernel_rfl⟩
 zero:=fun p cap fv w=>AnyF.slices_SortFunc_none (ρ:=Tryz.wH) { Tryz.Lt with } p cap fv w
 all:=fun enc h1 cf hO g cb blk off cap d w eg hc hH hb hs=>Any.slices_SortFunc_eq (ρ:=Tryz.wH) Tryz.Lt enc h1 cf hO g cb blk off cap d w eg hc hH hb hs
theorem LC:∀f,EA.sort f=true→xD Tryz.prog f:=fun f h=>by
 have:f=119:=Nat.eq_of_beq_eq_true h;subst this;exact NS
theorem Pm (n:Nat):iP Tryz.prog (run EA n):=BN Oy mixed ⟨LC,fun _ _ h=>by cases h⟩ n
end Go.Proofs.YtnfakljmdnbipaaGreat
namespace Go.Proofs.YtnfakljmdnbipaaGreat
open Go.VE Go.Proofs
def a0:V:=.clo 132 [] [.fptr [.str (ByteArray.mk #[97]),.aF,.fsl 5 [[.int .i64 2,.int .i64 1,.int .i64 1,.int .i64 0,.aF],[.int .i64 2,.int .i64 1,.int .i64 2,.int .i64 0,.aF]]]]
def a1:V:=.agg [.fsl 3 [[.str (ByteArray.mk #[97]),.aF,.fsl 5 [[.int .i64 2,.int .i64 1,.int .i64 1,.int .i64 0,.aF],[.int .i64 2,.int .i64 1,.int .i64 2,.int .i64 0,.aF]]],[.str (ByteArray.mk #[98]),.aF,.fsl 5 [[.int .i64 3,.int .i64 0,.int .i64 1,.int .i64 0,.aF]]]]]
def a2:V:=.fsl 3 [[.str (ByteArray.mk #[97]),.aF,.fsl 5 [[.int .i64 2,.int .i64 1,.int .i64 1,.int .i64 0,.aF],[.int .i64 2,.int .i64 1,.int .i64 2,.int .i64 0,.aF]]]]
def a3:V:=.clo 132 [] [.fptr [.str (ByteArray.mk #[98]),.aF,.fsl 5 [[.int .i64 3,.int .i64 0,.int .i64 1,.int .i64 0,.aF]]]]
def a4:V:=.agg [.int .i64 2,.int .i64 1,.int .i64 1,.int .i64 0,.aF]
def a5:V:=.agg [.int .i64 0,.int .i64 1]
def a6:V:=.agg [.int .i64 2,.int .i64 1,.int .i64 2,.int .i64 0,.aF]
def a7:V:=.agg [.int .i64 0,.int .i64 2]
def a8:V:=.agg [.int .i64 3,.int .i64 0,.int .i64 1,.int .i64 0,.aF]
def a9:V:=.agg [.int .i64 1,.int .i64 1]
def TM:V:=.fsl 5 [[.int .i64 2,.int .i64 1,.int .i64 1,.int .i64 0,.aF],[.int .i64 2,.int .i64 1,.int .i64 2,.int .i64 0,.aF]]
def S8:V:=.clo 149 [] [.fptr [.int .i64 1],.fptr [.int .i64 1]]
def a12:V:=.fptr [.int .i64 0,.int .i64 0,.int .i64 0,.int .i64 0,.int .i64 0,.int .i64 1,.int .i64 1,.int .i64 1,.int .i64 0,.int .i64 2,.int .i64 0,.int .i64 0,.int .i64 0,.int .i64 0,.int .i64 0,.int .i64 0,.int .i64 0,.int .i64 0,.int .i64 0,.int .i64 0,.int .i64 0,.int .i64 0,.int .i64 0,.int .i64 0,.int .i64 0,.int .i64 0,.int .i64 0,.int .i64 0,.int .i64 0,.int .i64 0,.int .i64 0,.int .i64 0,.int .i64 0,.int .i64 0,.int .i64 0,.int .i64 0,.int .i64 0,.int .i64 0,.int .i64 0,.int .i64 0,.int .i64 0,.int .i64 0,.int .i64 0,.int .i64 0,.int .i64 0,.int .i64 0,.int .i64 0,.int .i64 0,.int .i64 0,.int .i64 0,.int .i64 0,.int .i64 0,.int .i64 0,.int .i64 0,.int .i64 0,.int .i64 0,.int .i64 0,.int .i64 0,.int .i64 0,.int .i64 0,.int .i64 0,.int .i64 0,.int .i64 0,.int .i64 0,.int .i64 0,.int .i64 0,.int .i64 0,.int .i64 0,.int .i64 0,.int .i64 0,.int .i64 0,.int .i64 0,.int .i64 0,.int .i64 0,.int .i64 0,.int .i64 0,.int .i64 0,.int .i64 0,.int .i64 0,.int .i64 0,.int .i64 0,.int .i64 0,.int .i64 0,.int .i64 0,.int .i64 0,.int .i64 0,.int .i64 0,.int .i64 0,.int .i64 0,.int .i64 0,.int .i64 0,.int .i64 0,.int .i64 0,.int .i64 0,.int .i64 0,.int .i64 0,.int .i64 0,.int .i64 0,.int .i64 0,.int .i64 0,.int .i64 0,.int .i64 0,.int .i64 0,.int .i64 0,.int .i64 0,.int .i64 0,.int .i64 0,.int .i64 0,.int .i64 0,.int .i64 0,.int .i64 0,.int .i64 0,.int .i64 0,.int .i64 0,.int .i64 0,.int .i64 0,.int .i64 0,.int .i64 0,.int .i64 0,.int .i64 0,.int .i64 0,.int .i64 0,.int .i64 0,.int .i64 0,.int .i64 0,.int .i64 0,.int .i64 0,.int .i64 0,.int .i64 0,.int .i64 0,.int .i64 0,.int .i64 0,.int .i64 0,.int .i64 0,.int .i64 0,.int .i64 0,.int .i64 0,.int .i64 0,.int .i64 0,.int .i64 0,.int .i64 0,.int .i64 0,.int .i64 0,.int .i64 0,.int .i64 0,.int .i64 0,.int .i64 0,.int .i64 0,.int .i64 0,.int .i64 0,.int .i64 0,.int .i64 0,.int .i64 0,.int .i64 0,.int .i64 0,.int .i64 0,.int .i64 0,.int .i64 0,.int .i64 0,.int .i64 0,.int .i64 0,.int .i64 0,.int .i64 0,.int .i64 0,.int .i64 0,.int .i64 0,.int .i64 0,.int .i64 0,.int .i64 0,.int .i64 0,.int .i64 0,.int .i64 0,.int .i64 0,.int .i64 0,.int .i64 0,.int .i64 0,.int .i64 0,.int .i64 0,.int .i64 0,.int .i64 0,.int .i64 0,.int .i64 0,.int .i64 0,.int .i64 0,.int .i64 0,.int .i64 0,.int .i64 0,.int .i64 0,.int .i64 0,.int .i64 0,.int .i64 0,.int .i64 0,.int .i64 0,.int .i64 0,.int .i64 0,.int .i64 0,.int .i64 0,.int .i64 0,.int .i64 0,.int .i64 0,.int .i64 0,.int .i64 0,.int .i64 0,.int .i64 0,.int .i64 0,.int .i64 0,.int .i64 0,.int .i64 0,.int .i64 0,.int .i64 0,.int .i64 0,.int .i64 0,.int .i64 0,.int .i64 0,.int .i64 0,.int .i64 0,.int .i64 0,.int .i64 0,.int .i64 0,.int .i64 0,.int .i64 0,.int .i64 0,.int .i64 0,.int .i64 0,.int .i64 0,.int .i64 0,.int .i64 0,.int .i64 0,.int .i64 0,.int .i64 0,.int .i64 0,.int .i64 0,.int .i64 0,.int .i64 0,.int .i64 0,.int .i64 0,.int .i64 0,.int .i64 0,.int .i64 0,.int .i64 0,.int .i64 0,.int .i64 0,.int .i64 0,.int .i64 0,.int .i64 0,.int .i64 0,.int .i64 0,.int .i64 0,.int .i64 0,.int .i64 0,.int .i64 0,.int .i64 0,.int .i64 0,.int .i64 0,.int .i64 0,.int .i64 0,.int .i64 0,.int .i64 0,.int .i64 0,.int .i64 0,.int .i64 0,.int .i64 0,.int .i64 0,.int .i64 0,.int .i64 0,.int .i64 0,.int .i64 0,.int .i64 0,.int .i64 0,.int .i64 0,.int .i64 0,.int .i64 0,.int .i64 0,.int .i64 0,.int .i64 0,.int .i64 0,.int .i64 0,.int .i64 0,.int .i64 0,.int .i64 0,.int .i64 0,.int .i64 0,.int .i64 0,.int .i64 0,.int .i64 0,.int .i64 0,.int .i64 0,.int .i64 0,.int .i64 0,.int .i64 0,.int .i64 0,.int .i64 0,.int .i64 0,.int .i64 0,.int .i64 0,.int .i64 0,.int .i64 0,.int .i64 0,.int .i64 0,.int .i64 0,.int .i64 0,.int .i64 0,.int .i64 0,.int .i64 0,.int .i64 0,.int .i64 0,.int .i64 0,.int .i64 0,.int .i64 0,.int .i64 0,.int .i64 0,.int .i64 0,.int .i64 0,.int .i64 0,.int .i64 0,.int .i64 0,.int .i64 0,.int .i64 0,.int .i64 0,.int .i64 0,.int .i64 0,.int .i64 0,.int .i64 0,.int .i64 0,.int .i64 0,.int .i64 0,.int .i64 0,.int .i64 0,.int .i64 0,.int .i64 0,.int .i64 0,.int .i64 0,.int .i64 0,.int .i64 0,.int .i64 0,.int .i64 0,.int .i64 0,.int .i64 0,.int .i64 0,.int .i64 0,.int .i64 0,.int .i64 0,.int .i64 0,.int .i64 0,.int .i64 0,.int .i64 0,.int .i64 0,.int .i64 0,.int .i64 0,.int .i64 0,.int .i64 0,.int .i64 0,.int .i64 0,.int .i64 0,.int .i64 0,.int .i64 0,.int .i64 0,.int .i64 0,.int .i64 0,.int .i64 0,.int .i64 0,.int .i64 0,.int .i64 0,.int .i64 0,.int .i64 0,.int .i64 0,.int .i64 0,.int .i64 0,.int .i64 0,.int .i64 0,.int .i64 0,.int .i64 0,.int .i64 0,.int .i64 0,.int .i64 0,.int .i64 0,.int .i64 0,.int .i64 0,.int .i64 0,.int .i64 0,.int .i64 0,.int .i64 0,.int .i64 0,.int .i64 0,.int .i64 0,.int .i64 0,.int .i64 0,.int .i64 0,.int .i64 0,.int .i64 0,.int .i64 0,.int .i64 0,.int .i64 0,.int .i64 0,.int .i64 0,.int .i64 0,.int .i64 0,.int .i64 0,.int .i64 0,.int .i64 0,.int .i64 0,.int .i64 0,.int .i64 0,.int .i64 0,.int .i64 0,.int .i64 0,.int .i64 0,.int .i64 0,.int .i64 0,.int .i64 0,.int .i64 0,.int .i64 0,.int .i64 0,.int .i64 0,.int .i64 0,.int .i64 0,.int .i64 0,.int .i64 0,.int .i64 0,.int .i64 0,.int .i64 0,.int .i64 0,.int .i64 0,.int .i64 0,.int .i64 0,.int .i64 0,.int .i64 0,.int .i64 0,.int .i64 0,.int .i64 0,.int .i64 0,.int .i64 0,.int .i64 0,.int .i64 0,.int .i64 0,.int .i64 0,.int .i64 0,.int .i64 0,.int .i64 0,.int .i64 0,.int .i64 0,.int .i64 0,.int .i64 0,.int .i64 0,.int .i64 0,.int .i64 0,.int .i64 0,.int .i64 0,.int .i64 0,.int .i64 0,.int .i64 0,.int .i64 0,.int .i64 0,.int .i64 0,.int .i64 0,.int .i64 0,.int .i64 0,.int .i64 0,.int .i64 0,.int .i64 0,.int .i64 0,.int .i64 0,.int .i64 0,.int .i64 0,.int .i64 0,.int .i64 0,.int .i64 0,.int .i64 0,.int .i64 0,.int .i64 0,.int .i64 0,.int .i64 0,.int .i64 0,.int .i64 0,.int .i64 0,.int .i64 0,.int .i64 0,.int .i64 0,.int .i64 0,.int .i64 0,.int .i64 0,.int .i64 0,.int .i64 0,.int .i64 0,.int .i64 0,.int .i64 0,.int .i64 0,.int .i64 0,.int .i64 0,.int .i64 0,.int .i64 0,.int .i64 0,.int .i64 0,.int .i64 0,.int .i64 0,.int .i64 0,.int .i64 0,.int .i64 0,.int .i64 0,.int .i64 0,.int .i64 0,.int .i64 0,.int .i64 0,.int .i64 0,.int .i64 0,.int .i64 0,.int .i64 0,.int .i64 0,.int .i64 0,.int .i64 0,.int .i64 0,.int .i64 0,.int .i64 0,.int .i64 0,.int .i64 0,.int .i64 0,.int .i64 0,.int .i64 0,.int .i64 0,.int .i64 0,.int .i64 0,.int .i64 0,.int .i64 0,.int .i64 0,.int .i64 0,.int .i64 0,.int .i64 0,.int .i64 0,.int .i64 0,.int .i64 0,.int .i64 0,.int .i64 0,.int .i64 0,.int .i64 0,.int .i64 0,.int .i64 0,.int .i64 0,.int .i64 0,.int .i64 0,.int .i64 0,.int .i64 0,.int .i64 0,.int .i64 0,.int .i64 0,.int .i64 0,.int .i64 0,.int .i64 0,.int .i64 0,.int .i64 0,.int .i64 0,.int .i64 0,.int .i64 0,.int .i64 0,.int .i64 0,.int .i64 0,.int .i64 0,.int .i64 0,.int .i64 0,.int .i64 0,.int .i64 0,.int .i64 0,.int .i64 0,.int .i64 0,.int .i64 0,.int .i64 0,.int .i64 0,.int .i64 0,.int .i64 0,.int .i64 0,.int .i64 0,.int .i64 0,.int .i64 0,.int .i64 0,.int .i64 0,.int .i64 0,.int .i64 0,.int .i64 0,.int .i64 0,.int .i64 0,.int .i64 0,.int .i64 0,.int .i64 0,.int .i64 0,.int .i64 0,.int .i64 0,.int .i64 0,.int .i64 0,.int .i64 0,.int .i64 0,.int .i64 0,.int .i64 0,.int .i64 0,.int .i64 0,.int .i64 0,.int .i64 0,.int .i64 0,.int .i64 0,.int .i64 0,.int .i64 0,.int .i64 0,.int .i64 0,.int .i64 0,.int .i64 0,.int .i64 0,.int .i64 0,.int .i64 0,.int .i64 0,.int .i64 0,.int .i64 0,.int .i64 0,.int .i64 0,.int .i64 0,.int .i64 0,.int .i64 0,.int .i64 0,.int .i64 0,.int .i64 0,.int .i64 0,.int .i64 0,.int .i64 0,.int .i64 0,.int .i64 0,.int .i64 0,.int .i64 0,.int .i64 0,.int .i64 0,.int .i64 0,.int .i64 0,.int .i64 0,.int .i64 0,.int .i64 0,.int .i64 0,.int .i64 0,.int .i64 0,.int .i64 0,.int .i64 0,.int .i64 0,.int .i64 0,.int .i64 0,.int .i64 0,.int .i64 0,.int .i64 0,.int .i64 0,.int .i64 0,.int .i64 0,.int .i64 0,.int .i64 0,.int .i64 0,.int .i64 0,.int .i64 0,.int .i64 0,.int .i64 0,.int .i64 0,.int .i64 0,.int .i64 0,.int .i64 0,.int .i64 0,.int .i64 0,.int .i64 0,.int .i64 0,.int .i64 0,.int .i64 0,.int .i64 0,.int .i64 0,.int .i64 0,.int .i64 0,.int .i64 0,.int .i64 0,.int .i64 0,.int .i64 0,.int .i64 0,.int .i64 0,.int .i64 0,.int .i64 0,.int .i64 0,.int .i64 0,.int .i64 0,.int .i64 0,.int .i64 0,.int .i64 0,.int .i64 0,.int .i64 0,.int .i64 0,.int .i64 0,.int .i64 0,.int .i64 0,.int .i64 0,.int .i64 0,.int .i64 0,.int .i64 0,.int .i64 0,.int .i64 0,.int .i64 0,.int .i64 0,.int .i64 0,.int .i64 0,.int .i64 0,.int .i64 0,.int .i64 0,.int .i64 0,.int .i64 0,.int .i64 0,.int .i64 0,.int .i64 0,.int .i64 0,.int .i64 0,.int .i64 0,.int .i64 0,.int .i64 0,.int .i64 0,.int .i64 0,.int .i64 0,.int .i64 0,.int .i64 0,.int .i64 0,.int .i64 0,.int .i64 0,.int .i64 0,.int .i64 0,.int .i64 0,.int .i64 0,.int .i64 0,.int .i64 0,.int .i64 0,.int .i64 0,.int .i64 0,.int .i64 0,.int .i64 0,.int .i64 0,.int .i64 0,.int .i64 0,.int .i64 0,.int .i64 0,.int .i64 0,.int .i64 0,.int .i64 0,.int .i64 0,.int .i64 0,.int .i64 0,.int .i64 0,.int .i64 0,.int .i64 0,.int .i64 0,.int .i64 0,.int .i64 0,.int .i64 0,.int .i64 0,.int .i64 0,.int .i64 0,.int .i64 0,.int .i64 0,.int .i64 0,.int .i64 0,.int .i64 0,.int .i64 0,.int .i64 0,.int .i64 0,.int .i64 0,.int .i64 0,.int .i64 0,.int .i64 0,.int .i64 0,.int .i64 0,.int .i64 0,.int .i64 0,.int .i64 0,.int .i64 0,.int .i64 0,.int .i64 0,.int .i64 0,.int .i64 0,.int .i64 0,.int .i64 0,.int .i64 0,.int .i64 0,.int .i64 0,.int .i64 0,.int .i64 0,.int .i64 0,.int .i64 0,.int .i64 0,.int .i64 0,.int .i64 0,.int .i64 0,.int .i64 0,.int .i64 0,.int .i64 0,.int .i64 0,.int .i64 0,.int .i64 0,.int .i64 0,.int .i64 0,.int .i64 0,.int .i64 0,.int .i64 0,.int .i64 0,.int .i64 0,.int .i64 0,.int .i64 0,.int .i64 0]
def zZ:V:=.agg [.int .i64 0,.int .i64 1,.fsl 1 [[.int .i64 1],[.int .i64 2]],.fsl 1 [[.int .i64 1]]]
def Ii:V:=.fsl 1 [[.int .i64 1],[.int .i64 0]]
def LR:V:=.fptr [.fsl 3 [[.str (ByteArray.mk #[97]),.aF,.fsl 5 [[.int .i64 2,.int .i64 1,.int .i64 1,.int .i64 0,.aF],[.int .i64 2,.int .i64 1,.int .i64 2,.int .i64 0,.aF]]],[.str (ByteArray.mk #[98]),.aF,.fsl 5 [[.int .i64 3,.int .i64 0,.int .i64 1,.int .i64 0,.aF]]]]]
def O5:V:=.fsl 1 [[.fsl 1 [[.int .i64 1],[.int .i64 0]]]]
def a17:V:=.clo 99 [] [.fptr [.fsl 3 [[.str (ByteArray.mk #[97]),.aF,.fsl 5 [[.int .i64 2,.int .i64 1,.int .i64 1,.int .i64 0,.aF],[.int .i64 2,.int .i64 1,.int .i64 2,.int .i64 0,.aF]]],[.str (ByteArray.mk #[98]),.aF,.fsl 5 [[.int .i64 3,.int .i64 0,.int .i64 1,.int .i64 0,.aF]]]]]]
def LZ:V:=.tup [.agg [.int .i64 0,.int .i64 0],.agg [.int .i64 0,.int .i64 0],.bool false]
def Mh:V:=.fsl 1 [[.int .i64 1],[.int .i64 2]]
def a20:V:=.tup [.int .i64 0,.bool true]
def a21:V:=.tup [.int .i64 0,.bool false]
def a22:V:=.fsl 1 [[.int .i64 2],[.int .i64 0]]
def a23:V:=.fsl 1 [[.fsl 1 [[.int .i64 2],[.int .i64 0]]]]
def a24:V:=.fsl 1 [[.int .i64 2],[.int .i64 1]]
def a25:V:=.fsl 1 [[.fsl 1 [[.int .i64 2],[.int .i64 1]]]]
def a26:V:=.tup [.agg [.int .i64 0,.int .i64 1],.bool true]
def EU:V:=.fsl 1 [[.int .i64 0],[.int .i64 1]]
def a28:V:=.fsl 1 [[.fsl 1 [[.int .i64 0],[.int .i64 1]]]]
def SD:V:=.fsl 1 [[.int .i64 1],[.int .i64 1]]
def TP:V:=.agg [.int .i64 1,.int .i64 0,.aF,.aF]
def a31:V:=.fsl 1 [[.int .i64 0],[.int .i64 0]]
def a32:V:=.fsl 1 [[.fsl 1 [[.int .i64 0],[.int .i64 1]]],[.fsl 1 [[.int .i64 0],[.int .i64 0]]]]
def k0:aN:=⟨110,[.int .i64 2,.int .i64 1,.int .i64 8],.bool true⟩
theorem Sd:aD EA k0:=aB (n:=100) (l:=[]) (by simp) (by kernel_rfl)
def k1:aN:=⟨144,[.int .u8 97],.bool true⟩
theorem RK:aD EA k1:=aB (n:=100) (l:=[]) (by simp) (by kernel_rfl)
def k2:aN:=⟨130,[.str (ByteArray.mk #[97])],.bool true⟩
theorem RR:aD EA k2:=aB (n:=100) (l:=[k1]) (by simp only[List.forall_mem_cons];exact⟨RK,by simp⟩) (by kernel_rfl)
def k3:aN:=⟨146,[.fsl 3 [],a0],.int .i64 (-1)⟩
theorem Sn:aD EA k3:=aB (n:=100) (l:=[]) (by simp) (by kernel_rfl)
def k4:aN:=⟨131,[.fsl 3 [],a0],.bool false⟩
theorem R_:aD EA k4:=aB (n:=100) (l:=[k3]) (by simp only[List.forall_mem_cons];exact⟨Sn,by simp⟩) (by kernel_rfl)
def k5:aN:=⟨111,[a1,.int .i64 0],.int .i64 0⟩
theorem RE:aD EA k5:=aB (n:=100) (l:=[k2,k4]) (by simp only[List.forall_mem_cons];exact⟨RR,R_,by simp⟩) (by kernel_rfl)
def k6:aN:=⟨144,[.int .u8 98],.bool true⟩
theorem RM:aD EA k6:=aB (n:=100) (l:=[]) (by simp) (by kernel_rfl)
def k7:aN:=⟨130,[.str (ByteArray.mk #[98])],.bool true⟩
theorem R9:aD EA k7:=aB (n:=100) (l:=[k6]) (by simp only[List.forall_mem_cons];exact⟨RM,by simp⟩) (by kernel_rfl)
def k8:aN:=⟨132,[.agg [.str (ByteArray.mk #[97]),.aF,.fsl 5 [[.int .i64 2,.int .i64 1,.int .i64 1,.int .i64 0,.aF],[.int .i64 2,.int .i64 1,.int .i64 2,.int .i64 0,.aF]]],.fptr [.str (ByteArray.mk #[98]),.aF,.fsl 5 [[.int .i64 3,.int .i64 0,.int .i64 1,.int .i64 0,.aF]]]],.bool false⟩
theorem RL:aD EA k8:=aB (n:=100) (l:=[]) (by simp) (by kernel_rfl)
def k9:aN:=⟨146,[a2,a3],.int .i64 (-1)⟩
theorem R5:aD EA k9:=aB (n:=100) (l:=[k8]) (by simp only[List.forall_mem_cons];exact⟨RL,by simp⟩) (by kernel_rfl)
def TU:aN:=⟨131,[a2,a3],.bool false⟩
theorem OK:aD EA TU:=aB (n:=100) (l:=[k9]) (by simp only[List.forall_mem_cons];exact⟨R5,by simp⟩) (by kernel_rfl)
def TJ:aN:=⟨111,[a1,.int .i64 1],.int .i64 0⟩
theorem Pc:aD EA TJ:=aB (n:=100) (l:=[k7,TU]) (by simp only[List.forall_mem_cons];exact⟨R9,OK,by simp⟩) (by kernel_rfl)
def IV:aN:=⟨100,[a1],.clo 124 [] [.fptr [.fsl 3 [[.str (ByteArray.mk #[97]),.aF,.fsl 5 [[.int .i64 2,.int .i64 1,.int .i64 1,.int .i64 0,.aF],[.int .i64 2,.int .i64 1,.int .i64 2,.int .i64 0,.aF]]],[.str (ByteArray.mk #[98]),.aF,.fsl 5 [[.int .i64 3,.int .i64 0,.int .i64 1,.int .i64 0,.aF]]]]]]⟩
theorem zA:aD EA IV:=aB (n:=100) (l:=[]) (by simp) (by kernel_rfl)
def QF:aN:=⟨110,[.int .i64 1,.int .i64 0,.int .i64 1],.bool true⟩
theorem IF:aD EA QF:=aB (n:=100) (l:=[]) (by simp) (by kernel_rfl)
def QH:aN:=⟨110,[.int .i64 1,.int .i64 0,.int .i64 199],.bool true⟩
theorem Ho:aD EA QH:=aB (n:=100) (l:=[]) (by simp) (by kernel_rfl)
def Tu:aN:=⟨135,[a1,.int .i64 0,a4],.bool true⟩
theorem Q3:aD EA Tu:=aB (n:=100) (l:=[QF,QH]) (by simp only[List.forall_mem_cons];exact⟨IF,Ho,by simp⟩) (by kernel_rfl)
def LA:aN:=⟨110,[.int .i64 0,.int .i64 0,.int .i64 1099511627776],.bool true⟩
theorem CO:aD EA LA:=aB (n:=100) (l:=[]) (by simp) (by kernel_rfl)
def TW:aN:=⟨112,[a1,a5,a4],.int .i64 0⟩
theorem OS:aD EA TW:=aB (n:=100) (l:=[Tu,LA]) (by simp only[List.forall_mem_cons];exact⟨Q3,CO,by simp⟩) (by kernel_rfl)
def S6:aN:=⟨110,[.int .i64 2,.int .i64 0,.int .i64 199],.bool true⟩
theorem Pg:aD EA S6:=aB (n:=100) (l:=[]) (by simp) (by kernel_rfl)
def TA:aN:=⟨135,[a1,.int .i64 0,a6],.bool true⟩
theorem PB:aD EA TA:=aB (n:=100) (l:=[QF,S6]) (by simp only[List.forall_mem_cons];exact⟨IF,Pg,by simp⟩) (by kernel_rfl)
def S3:aN:=⟨112,[a1,a7,a6],.int .i64 0⟩
theorem Re:aD EA S3:=aB (n:=100) (l:=[TA,LA]) (by simp only[List.forall_mem_cons];exact⟨PB,CO,by simp⟩) (by kernel_rfl)
def SN:aN:=⟨110,[.int .i64 0,.int .i64 0,.int .i64 1],.bool true⟩
theorem Q1:aD EA SN:=aB (n:=100) (l:=[]) (by simp) (by kernel_rfl)
def TH:aN:=⟨135,[a1,.int .i64 1,a8],.bool true⟩
theorem OJ:aD EA TH:=aB (n:=100) (l:=[SN,QH]) (by simp only[List.forall_mem_cons];exact⟨Q1,Ho,by simp⟩) (by kernel_rfl)
def Tk:aN:=⟨112,[a1,a9,a8],.int .i64 0⟩
theorem PX:aD EA Tk:=aB (n:=100) (l:=[TH,LA]) (by simp only[List.forall_mem_cons];exact⟨OJ,CO,by simp⟩) (by kernel_rfl)
def T5:aN:=⟨149,[a4,.fptr [.int .i64 1],.fptr [.int .i64 1]],.bool true⟩
theorem QW:aD EA T5:=aB (n:=100) (l:=[]) (by simp) (by kernel_rfl)
def SA:aN:=⟨75,[TM,S8],.int .i64 0⟩
theorem Ra:aD EA SA:=aB (n:=100) (l:=[T5]) (by simp only[List.forall_mem_cons];exact⟨QW,by simp⟩) (by kernel_rfl)
def SX:aN:=⟨36,[TM,S8],.bool true⟩
theorem QZ:aD EA SX:=aB (n:=100) (l:=[SA]) (by simp only[List.forall_mem_cons];exact⟨Ra,by simp⟩) (by kernel_rfl)
def Tz:aN:=⟨138,[a1,.int .i64 0,.int .i64 1,.int .i64 1],.bool true⟩
theorem OR:aD EA Tz:=aB (n:=100) (l:=[SX]) (by simp only[List.forall_mem_cons];exact⟨QZ,by simp⟩) (by kernel_rfl)
def Tn:aN:=⟨113,[a1],.tup [.fptr [.int .i64 0,.int .i64 0,.int .i64 0,.int .i64 0,.int .i64 0,.int .i64 1,.int .i64 1,.int .i64 1,.int .i64 0,.int .i64 2,.int .i64 0,.int .i64 0,.int .i64 0,.int .i64 0,.int .i64 0,.int .i64 0,.int .i64 0,.int .i64 0,.int .i64 0,.int .i64 0,.int .i64 0,.int .i64 0,.int .i64 0,.int .i64 0,.int .i64 0,.int .i64 0,.int .i64 0,.int .i64 0,.int .i64 0,.int .i64 0,.int .i64 0,.int .i64 0,.int .i64 0,.int .i64 0,.int .i64 0,.int .i64 0,.int .i64 0,.int .i64 0,.int .i64 0,.int .i64 0,.int .i64 0,.int .i64 0,.int .i64 0,.int .i64 0,.int .i64 0,.int .i64 0,.int .i64 0,.int .i64 0,.int .i64 0,.int .i64 0,.int .i64 0,.int .i64 0,.int .i64 0,.int .i64 0,.int .i64 0,.int .i64 0,.int .i64 0,.int .i64 0,.int .i64 0,.int .i64 0,.int .i64 0,.int .i64 0,.int .i64 0,.int .i64 0,.int .i64 0,.int .i64 0,.int .i64 0,.int .i64 0,.int .i64 0,.int .i64 0,.int .i64 0,.int .i64 0,.int .i64 0,.int .i64 0,.int .i64 0,.int .i64 0,.int .i64 0,.int .i64 0,.int .i64 0,.int .i64 0,.int .i64 0,.int .i64 0,.int .i64 0,.int .i64 0,.int .i64 0,.int .i64 0,.int .i64 0,.int .i64 0,.int .i64 0,.int .i64 0,.int .i64 0,.int .i64 0,.int .i64 0,.int .i64 0,.int .i64 0,.int .i64 0,.int .i64 0,.int .i64 0,.int .i64 0,.int .i64 0,.int .i64 0,.int .i64 0,.int .i64 0,.int .i64 0,.int .i64 0,.int .i64 0,.int .i64 0,.int .i64 0,.int .i64 0,.int .i64 0,.int .i64 0,.int .i64 0,.int .i64 0,.int .i64 0,.int .i64 0,.int .i64 0,.int .i64 0,.int .i64 0,.int .i64 0,.int .i64 0,.int .i64 0,.int .i64 0,.int .i64 0,.int .i64 0,.int .i64 0,.int .i64 0,.int .i64 0,.int .i64 0,.int .i64 0,.int .i64 0,.int .i64 0,.int .i64 0,.int .i64 0,.int .i64 0,.int .i64 0,.int .i64 0,.int .i64 0,.int .i64 0,.int .i64 0,.int .i64 0,.int .i64 0,.int .i64 0,.int .i64 0,.int .i64 0,.int .i64 0,.int .i64 0,.int .i64 0,.int .i64 0,.int .i64 0,.int .i64 0,.int .i64 0,.int .i64 0,.int .i64 0,.int .i64 0,.int .i64 0,.int .i64 0,.int .i64 0,.int .i64 0,.int .i64 0,.int .i64 0,.int .i64 0,.int .i64 0,.int .i64 0,.int .i64 0,.int .i64 0,.int .i64 0,.int .i64 0,.int .i64 0,.int .i64 0,.int .i64 0,.int .i64 0,.int .i64 0,.int .i64 0,.int .i64 0,.int .i64 0,.int .i64 0,.int .i64 0,.int .i64 0,.int .i64 0,.int .i64 0,.int .i64 0,.int .i64 0,.int .i64 0,.int .i64 0,.int .i64 0,.int .i64 0,.int .i64 0,.int .i64 0,.int .i64 0,.int .i64 0,.int .i64 0,.int .i64 0,.int .i64 0,.int .i64 0,.int .i64 0,.int .i64 0,.int .i64 0,.int .i64 0,.int .i64 0,.int .i64 0,.int .i64 0,.int .i64 0,.int .i64 0,.int .i64 0,.int .i64 0,.int .i64 0,.int .i64 0,.int .i64 0,.int .i64 0,.int .i64 0,.int .i64 0,.int .i64 0,.int .i64 0,.int .i64 0,.int .i64 0,.int .i64 0,.int .i64 0,.int .i64 0,.int .i64 0,.int .i64 0,.int .i64 0,.int .i64 0,.int .i64 0,.int .i64 0,.int .i64 0,.int .i64 0,.int .i64 0,.int .i64 0,.int .i64 0,.int .i64 0,.int .i64 0,.int .i64 0,.int .i64 0,.int .i64 0,.int .i64 0,.int .i64 0,.int .i64 0,.int .i64 0,.int .i64 0,.int .i64 0,.int .i64 0,.int .i64 0,.int .i64 0,.int .i64 0,.int .i64 0,.int .i64 0,.int .i64 0,.int .i64 0,.int .i64 0,.int .i64 0,.int .i64 0,.int .i64 0,.int .i64 0,.int .i64 0,.int .i64 0,.int .i64 0,.int .i64 0,.int .i64 0,.int .i64 0,.int .i64 0,.int .i64 0,.int .i64 0,.int .i64 0,.int .i64 0,.int .i64 0,.int .i64 0,.int .i64 0,.int .i64 0,.int .i64 0,.int .i64 0,.int .i64 0,.int .i64 0,.int .i64 0,.int .i64 0,.int .i64 0,.int .i64 0,.int .i64 0,.int .i64 0,.int .i64 0,.int .i64 0,.int .i64 0,.int .i64 0,.int .i64 0,.int .i64 0,.int .i64 0,.int .i64 0,.int .i64 0,.int .i64 0,.int .i64 0,.int .i64 0,.int .i64 0,.int .i64 0,.int .i64 0,.int .i64 0,.int .i64 0,.int .i64 0,.int .i64 0,.int .i64 0,.int .i64 0,.int .i64 0,.int .i64 0,.int .i64 0,.int .i64 0,.int .i64 0,.int .i64 0,.int .i64 0,.int .i64 0,.int .i64 0,.int .i64 0,.int .i64 0,.int .i64 0,.int .i64 0,.int .i64 0,.int .i64 0,.int .i64 0,.int .i64 0,.int .i64 0,.int .i64 0,.int .i64 0,.int .i64 0,.int .i64 0,.int .i64 0,.int .i64 0,.int .i64 0,.int .i64 0,.int .i64 0,.int .i64 0,.int .i64 0,.int .i64 0,.int .i64 0,.int .i64 0,.int .i64 0,.int .i64 0,.int .i64 0,.int .i64 0,.int .i64 0,.int .i64 0,.int .i64 0,.int .i64 0,.int .i64 0,.int .i64 0,.int .i64 0,.int .i64 0,.int .i64 0,.int .i64 0,.int .i64 0,.int .i64 0,.int .i64 0,.int .i64 0,.int .i64 0,.int .i64 0,.int .i64 0,.int .i64 0,.int .i64 0,.int .i64 0,.int .i64 0,.int .i64 0,.int .i64 0,.int .i64 0,.int .i64 0,.int .i64 0,.int .i64 0,.int .i64 0,.int .i64 0,.int .i64 0,.int .i64 0,.int .i64 0,.int .i64 0,.int .i64 0,.int .i64 0,.int .i64 0,.int .i64 0,.int .i64 0,.int .i64 0,.int .i64 0,.int .i64 0,.int .i64 0,.int .i64 0,.int .i64 0,.int .i64 0,.int .i64 0,.int .i64 0,.int .i64 0,.int .i64 0,.int .i64 0,.int .i64 0,.int .i64 0,.int .i64 0,.int .i64 0,.int .i64 0,.int .i64 0,.int .i64 0,.int .i64 0,.int .i64 0,.int .i64 0,.int .i64 0,.int .i64 0,.int .i64 0,.int .i64 0,.int .i64 0,.int .i64 0,.int .i64 0,.int .i64 0,.int .i64 0,.int .i64 0,.int .i64 0,.int .i64 0,.int .i64 0,.int .i64 0,.int .i64 0,.int .i64 0,.int .i64 0,.int .i64 0,.int .i64 0,.int .i64 0,.int .i64 0,.int .i64 0,.int .i64 0,.int .i64 0,.int .i64 0,.int .i64 0,.int .i64 0,.int .i64 0,.int .i64 0,.int .i64 0,.int .i64 0,.int .i64 0,.int .i64 0,.int .i64 0,.int .i64 0,.int .i64 0,.int .i64 0,.int .i64 0,.int .i64 0,.int .i64 0,.int .i64 0,.int .i64 0,.int .i64 0,.int .i64 0,.int .i64 0,.int .i64 0,.int .i64 0,.int .i64 0,.int .i64 0,.int .i64 0,.int .i64 0,.int .i64 0,.int .i64 0,.int .i64 0,.int .i64 0,.int .i64 0,.int .i64 0,.int .i64 0,.int .i64 0,.int .i64 0,.int .i64 0,.int .i64 0,.int .i64 0,.int .i64 0,.int .i64 0,.int .i64 0,.int .i64 0,.int .i64 0,.int .i64 0,.int .i64 0,.int .i64 0,.int .i64 0,.int .i64 0,.int .i64 0,.int .i64 0,.int .i64 0,.int .i64 0,.int .i64 0,.int .i64 0,.int .i64 0,.int .i64 0,.int .i64 0,.int .i64 0,.int .i64 0,.int .i64 0,.int .i64 0,.int .i64 0,.int .i64 0,.int .i64 0,.int .i64 0,.int .i64 0,.int .i64 0,.int .i64 0,.int .i64 0,.int .i64 0,.int .i64 0,.int .i64 0,.int .i64 0,.int .i64 0,.int .i64 0,.int .i64 0,.int .i64 0,.int .i64 0,.int .i64 0,.int .i64 0,.int .i64 0,.int .i64 0,.int .i64 0,.int .i64 0,.int .i64 0,.int .i64 0,.int .i64 0,.int .i64 0,.int .i64 0,.int .i64 0,.int .i64 0,.int .i64 0,.int .i64 0,.int .i64 0,.int .i64 0,.int .i64 0,.int .i64 0,.int .i64 0,.int .i64 0,.int .i64 0,.int .i64 0,.int .i64 0,.int .i64 0,.int .i64 0,.int .i64 0,.int .i64 0,.int .i64 0,.int .i64 0,.int .i64 0,.int .i64 0,.int .i64 0,.int .i64 0,.int .i64 0,.int .i64 0,.int .i64 0,.int .i64 0,.int .i64 0,.int .i64 0,.int .i64 0,.int .i64 0,.int .i64 0,.int .i64 0,.int .i64 0,.int .i64 0,.int .i64 0,.int .i64 0,.int .i64 0,.int .i64 0,.int .i64 0,.int .i64 0,.int .i64 0,.int .i64 0,.int .i64 0,.int .i64 0,.int .i64 0,.int .i64 0,.int .i64 0,.int .i64 0,.int .i64 0,.int .i64 0,.int .i64 0,.int .i64 0,.int .i64 0,.int .i64 0,.int .i64 0,.int .i64 0,.int .i64 0,.int .i64 0,.int .i64 0,.int .i64 0,.int .i64 0,.int .i64 0,.int .i64 0,.int .i64 0,.int .i64 0,.int .i64 0,.int .i64 0,.int .i64 0,.int .i64 0,.int .i64 0,.int .i64 0,.int .i64 0,.int .i64 0,.int .i64 0,.int .i64 0,.int .i64 0,.int .i64 0,.int .i64 0,.int .i64 0,.int .i64 0,.int .i64 0,.int .i64 0,.int .i64 0,.int .i64 0,.int .i64 0,.int .i64 0,.int .i64 0,.int .i64 0,.int .i64 0,.int .i64 0,.int .i64 0,.int .i64 0,.int .i64 0,.int .i64 0,.int .i64 0,.int .i64 0,.int .i64 0,.int .i64 0,.int .i64 0,.int .i64 0,.int .i64 0,.int .i64 0,.int .i64 0,.int .i64 0,.int .i64 0,.int .i64 0,.int .i64 0,.int .i64 0,.int .i64 0,.int .i64 0,.int .i64 0,.int .i64 0,.int .i64 0,.int .i64 0,.int .i64 0,.int .i64 0,.int .i64 0,.int .i64 0,.int .i64 0,.int .i64 0,.int .i64 0,.int .i64 0,.int .i64 0,.int .i64 0,.int .i64 0,.int .i64 0,.int .i64 0,.int .i64 0,.int .i64 0,.int .i64 0,.int .i64 0,.int .i64 0,.int .i64 0,.int .i64 0,.int .i64 0,.int .i64 0,.int .i64 0,.int .i64 0,.int .i64 0,.int .i64 0,.int .i64 0,.int .i64 0,.int .i64 0,.int .i64 0,.int .i64 0,.int .i64 0,.int .i64 0,.int .i64 0,.int .i64 0,.int .i64 0,.int .i64 0,.int .i64 0,.int .i64 0,.int .i64 0,.int .i64 0,.int .i64 0,.int .i64 0,.int .i64 0,.int .i64 0,.int .i64 0,.int .i64 0,.int .i64 0,.int .i64 0,.int .i64 0,.int .i64 0,.int .i64 0,.int .i64 0,.int .i64 0,.int .i64 0,.int .i64 0,.int .i64 0,.int .i64 0,.int .i64 0,.int .i64 0,.int .i64 0,.int .i64 0,.int .i64 0,.int .i64 0,.int .i64 0,.int .i64 0,.int .i64 0,.int .i64 0,.int .i64 0,.int .i64 0,.int .i64 0,.int .i64 0,.int .i64 0,.int .i64 0,.int .i64 0,.int .i64 0,.int .i64 0,.int .i64 0,.int .i64 0,.int .i64 0,.int .i64 0,.int .i64 0,.int .i64 0,.int .i64 0,.int .i64 0,.int .i64 0,.int .i64 0,.int .i64 0,.int .i64 0,.int .i64 0,.int .i64 0,.int .i64 0,.int .i64 0,.int .i64 0,.int .i64 0,.int .i64 0,.int .i64 0,.int .i64 0,.int .i64 0,.int .i64 0,.int .i64 0,.int .i64 0,.int .i64 0,.int .i64 0,.int .i64 0,.int .i64 0,.int .i64 0,.int .i64 0,.int .i64 0,.int .i64 0,.int .i64 0,.int .i64 0,.int .i64 0,.int .i64 0,.int .i64 0,.int .i64 0,.int .i64 0,.int .i64 0,.int .i64 0,.int .i64 0,.int .i64 0,.int .i64 0,.int .i64 0,.int .i64 0,.int .i64 0,.int .i64 0,.int .i64 0,.int .i64 0,.int .i64 0,.int .i64 0,.int .i64 0,.int .i64 0,.int .i64 0,.int .i64 0,.int .i64 0,.int .i64 0,.int .i64 0,.int .i64 0,.int .i64 0,.int .i64 0,.int .i64 0,.int .i64 0,.int .i64 0,.int .i64 0,.int .i64 0,.int .i64 0,.int .i64 0,.int .i64 0,.int .i64 0,.int .i64 0,.int .i64 0,.int .i64 0,.int .i64 0,.int .i64 0,.int .i64 0,.int .i64 0,.int .i64 0,.int .i64 0,.int .i64 0,.int .i64 0,.int .i64 0,.int .i64 0,.int .i64 0,.int .i64 0,.int .i64 0,.int .i64 0,.int .i64 0,.int .i64 0,.int .i64 0,.int .i64 0,.int .i64 0,.int .i64 0,.int .i64 0,.int .i64 0,.int .i64 0,.int .i64 0],.agg [.int .i64 0,.int .i64 0],.int .i64 0]⟩
theorem Rc:aD EA Tn:=aB (n:=100) (l:=[IV,Tz]) (by simp only[List.forall_mem_cons];exact⟨zA,OR,by simp⟩) (by kernel_rfl)
def TQ:aN:=⟨139,[a1,a12,a5],.fsl 2 [[.int .i64 0,.int .i64 2],[.int .i64 1,.int .i64 1]]⟩
theorem QL:aD EA TQ:=aB (n:=100) (l:=[]) (by simp) (by kernel_rfl)
def SJ:aN:=⟨139,[a1,a12,a9],.aF⟩
theorem On:aD EA SJ:=aB (n:=100) (l:=[]) (by simp) (by kernel_rfl)
def Ts:aN:=⟨139,[a1,a12,a7],.aF⟩
theorem Ri:aD EA Ts:=aB (n:=100) (l:=[]) (by simp) (by kernel_rfl)
def SP:aN:=⟨114,[a1,a12],.tup [.agg [.int .i64 0,.int .i64 0],.bool false]⟩
theorem OW:aD EA SP:=aB (n:=100) (l:=[IV,TQ,SJ,Ts]) (by simp only[List.forall_mem_cons];exact⟨zA,QL,On,Ri,by simp⟩) (by kernel_rfl)
def TF:aN:=⟨89,[a1],.tup [.agg [.int .i64 0,.int .i64 0],.int .i64 0]⟩
theorem PW:aD EA TF:=aB (n:=100) (l:=[k0,k5,TJ,IV,TW,S3,Tk,Tn,SP]) (by simp only[List.forall_mem_cons];exact⟨Sd,RE,Pc,zA,OS,Re,PX,Rc,OW,by simp⟩) (by kernel_rfl)
def C9:aN:=⟨53,[a1],.bool true⟩
theorem uB:aD EA C9:=aB (n:=100) (l:=[TF]) (by simp only[List.forall_mem_cons];exact⟨PW,by simp⟩) (by kernel_rfl)
def Pa:aN:=⟨29,[a1,.int .i64 0,.int .i64 1],.int .i64 0⟩
theorem Hy:aD EA Pa:=aB (n:=100) (l:=[C9]) (by simp only[List.forall_mem_cons];exact⟨uB,by simp⟩) (by kernel_rfl)
def LM:aN:=⟨30,[a1,.int .i64 0,.int .i64 1],zZ⟩
theorem C8:aD EA LM:=aB (n:=100) (l:=[]) (by simp) (by kernel_rfl)
def T0:aN:=⟨99,[Ii,LR],.bool false⟩
theorem Ou:aD EA T0:=aB (n:=100) (l:=[]) (by simp) (by kernel_rfl)
def SU:aN:=⟨76,[O5,a17],.int .i64 (-1)⟩
theorem PZ:aD EA SU:=aB (n:=100) (l:=[T0]) (by simp only[List.forall_mem_cons];exact⟨Ou,by simp⟩) (by kernel_rfl)
def Ti:aN:=⟨98,[O5,a17],.bool false⟩
theorem QC:aD EA Ti:=aB (n:=100) (l:=[SU]) (by simp only[List.forall_mem_cons];exact⟨PZ,by simp⟩) (by kernel_rfl)
def OB:aN:=⟨70,[a1,O5],.bool true⟩
theorem IA:aD EA OB:=aB (n:=100) (l:=[C9,Ti]) (by simp only[List.forall_mem_cons];exact⟨uB,QC,by simp⟩) (by kernel_rfl)
def Qc:aN:=⟨71,[a1,Ii],.bool true⟩
theorem IW:aD EA Qc:=aB (n:=100) (l:=[]) (by simp) (by kernel_rfl)
def OQ:aN:=⟨93,[a1,Ii],LZ⟩
theorem I5:aD EA OQ:=aB (n:=100) (l:=[]) (by simp) (by kernel_rfl)
def Rg:aN:=⟨140,[.int .i64 2],.bool false⟩
theorem HB:aD EA Rg:=aB (n:=100) (l:=[]) (by simp) (by kernel_rfl)
def S4:aN:=⟨116,[.int .i64 2,.int .i64 1],.bool false⟩
theorem QG:aD EA S4:=aB (n:=100) (l:=[Rg]) (by simp only[List.forall_mem_cons];exact⟨HB,by simp⟩) (by kernel_rfl)
def Lw:aN:=⟨140,[.int .i64 1],.bool false⟩
theorem Dt:aD EA Lw:=aB (n:=100) (l:=[]) (by simp) (by kernel_rfl)
def OU:aN:=⟨116,[.int .i64 1,.int .i64 1],.bool false⟩
theorem HU:aD EA OU:=aB (n:=100) (l:=[Lw]) (by simp only[List.forall_mem_cons];exact⟨Dt,by simp⟩) (by kernel_rfl)
def T8:aN:=⟨94,[Mh,.int .i64 1],a20⟩
theorem OP:aD EA T8:=aB (n:=100) (l:=[S4,OU]) (by simp only[List.forall_mem_cons];exact⟨QG,HU,by simp⟩) (by kernel_rfl)
def O8:aN:=⟨67,[Mh,.int .i64 1],.int .i64 1⟩
theorem Jf:aD EA O8:=aB (n:=100) (l:=[T8]) (by simp only[List.forall_mem_cons];exact⟨OP,by simp⟩) (by kernel_rfl)
def Tc:aN:=⟨116,[.int .i64 1,.int .i64 0],.bool false⟩
theorem PU:aD EA Tc:=aB (n:=100) (l:=[Lw]) (by simp only[List.forall_mem_cons];exact⟨Dt,by simp⟩) (by kernel_rfl)
def Tt:aN:=⟨117,[.int .i64 1],.bool false⟩
theorem Pe:aD EA Tt:=aB (n:=100) (l:=[]) (by simp) (by kernel_rfl)
def SS:aN:=⟨94,[.fsl 1 [[.int .i64 1]],.int .i64 0],a21⟩
theorem Px:aD EA SS:=aB (n:=100) (l:=[Tc,Tt]) (by simp only[List.forall_mem_cons];exact⟨PU,Pe,by simp⟩) (by kernel_rfl)
def Pq:aN:=⟨67,[.fsl 1 [[.int .i64 1]],.int .i64 0],.int .i64 0⟩
theorem HJ:aD EA Pq:=aB (n:=100) (l:=[SS]) (by simp only[List.forall_mem_cons];exact⟨Px,by simp⟩) (by kernel_rfl)
def O9:aN:=⟨32,[zZ,Ii],.int .i64 1⟩
theorem HT:aD EA O9:=aB (n:=100) (l:=[O8,Pq]) (by simp only[List.forall_mem_cons];exact⟨Jf,HJ,by simp⟩) (by kernel_rfl)
def SE:aN:=⟨99,[a22,LR],.bool false⟩
theorem PE:aD EA SE:=aB (n:=100) (l:=[]) (by simp) (by kernel_rfl)
def T6:aN:=⟨76,[a23,a17],.int .i64 (-1)⟩
theorem O2:aD EA T6:=aB (n:=100) (l:=[SE]) (by simp only[List.forall_mem_cons];exact⟨PE,by simp⟩) (by kernel_rfl)
def TZ:aN:=⟨98,[a23,a17],.bool false⟩
theorem Qe:aD EA TZ:=aB (n:=100) (l:=[T6]) (by simp only[List.forall_mem_cons];exact⟨O2,by simp⟩) (by kernel_rfl)
def OF:aN:=⟨70,[a1,a23],.bool true⟩
theorem I8:aD EA OF:=aB (n:=100) (l:=[C9,TZ]) (by simp only[List.forall_mem_cons];exact⟨uB,Qe,by simp⟩) (by kernel_rfl)
def Qj:aN:=⟨71,[a1,a22],.bool true⟩
theorem IT:aD EA Qj:=aB (n:=100) (l:=[]) (by simp) (by kernel_rfl)
def PT:aN:=⟨93,[a1,a22],LZ⟩
theorem HP:aD EA PT:=aB (n:=100) (l:=[]) (by simp) (by kernel_rfl)
def S5:aN:=⟨116,[.int .i64 2,.int .i64 2],.bool false⟩
theorem Po:aD EA S5:=aB (n:=100) (l:=[Rg]) (by simp only[List.forall_mem_cons];exact⟨HB,by simp⟩) (by kernel_rfl)
def SZ:aN:=⟨116,[.int .i64 1,.int .i64 2],.bool true⟩
theorem PK:aD EA SZ:=aB (n:=100) (l:=[Lw]) (by simp only[List.forall_mem_cons];exact⟨Dt,by simp⟩) (by kernel_rfl)
def SB:aN:=⟨94,[Mh,.int .i64 2],.tup [.int .i64 1,.bool true]⟩
theorem QB:aD EA SB:=aB (n:=100) (l:=[S5,SZ]) (by simp only[List.forall_mem_cons];exact⟨Po,PK,by simp⟩) (by kernel_rfl)
def LP:aN:=⟨67,[Mh,.int .i64 2],.int .i64 2⟩
theorem C5:aD EA LP:=aB (n:=100) (l:=[SB]) (by simp only[List.forall_mem_cons];exact⟨QB,by simp⟩) (by kernel_rfl)
def PM:aN:=⟨32,[zZ,a22],.int .i64 2⟩
theorem HO:aD EA PM:=aB (n:=100) (l:=[LP,Pq]) (by simp only[List.forall_mem_cons];exact⟨C5,HJ,by simp⟩) (by kernel_rfl)
def TL:aN:=⟨8,[a1,.int .i64 0,.int .i64 1],.tup [.int .i64 2,.fsl 1 [[.int .i64 2],[.int .i64 0]],.int .i64 0]⟩
theorem QJ:aD EA TL:=aB (n:=100) (l:=[Pa,LM,OB,Qc,OQ,O9,OF,Qj,PT,PM]) (by simp only[List.forall_mem_cons];exact⟨Hy,C8,IA,IW,I5,HT,I8,IT,HP,HO,by simp⟩) (by kernel_rfl)
def T4:aN:=⟨99,[a24,LR],.bool false⟩
theorem QS:aD EA T4:=aB (n:=100) (l:=[]) (by simp) (by kernel_rfl)
def TO:aN:=⟨76,[a25,a17],.int .i64 (-1)⟩
theorem Q0:aD EA TO:=aB (n:=100) (l:=[T4]) (by simp only[List.forall_mem_cons];exact⟨QS,by simp⟩) (by kernel_rfl)
def Tr:aN:=⟨98,[a25,a17],.bool false⟩
theorem P9:aD EA Tr:=aB (n:=100) (l:=[TO]) (by simp only[List.forall_mem_cons];exact⟨Q0,by simp⟩) (by kernel_rfl)
def LH:aN:=⟨70,[a1,a25],.bool true⟩
theorem CV:aD EA LH:=aB (n:=100) (l:=[C9,Tr]) (by simp only[List.forall_mem_cons];exact⟨uB,P9,by simp⟩) (by kernel_rfl)
def Mf:aN:=⟨71,[a1,a24],.bool true⟩
theorem DF:aD EA Mf:=aB (n:=100) (l:=[]) (by simp) (by kernel_rfl)
def TR:aN:=⟨74,[a1,.int .i64 2,.int .i64 1],a26⟩
theorem Qp:aD EA TR:=aB (n:=100) (l:=[C9,IV]) (by simp only[List.forall_mem_cons];exact⟨uB,zA,by simp⟩) (by kernel_rfl)
def LI:aN:=⟨115,[a1,.int .i64 1],a26⟩
theorem Cx:aD EA LI:=aB (n:=100) (l:=[TR]) (by simp only[List.forall_mem_cons];exact⟨Qp,by simp⟩) (by kernel_rfl)
def LF:aN:=⟨93,[a1,a24],LZ⟩
theorem DZ:aD EA LF:=aB (n:=100) (l:=[LI]) (by simp only[List.forall_mem_cons];exact⟨Cx,by simp⟩) (by kernel_rfl)
def Tp:aN:=⟨78,[a1,a24],.tup [.fsl 1 [[.int .i64 2],[.int .i64 1]],.int .i64 0]⟩
theorem Pd:aD EA Tp:=aB (n:=100) (l:=[LH,Mf,LF]) (by simp only[List.forall_mem_cons];exact⟨CV,DF,DZ,by simp⟩) (by kernel_rfl)
def TT:aN:=⟨94,[.fsl 1 [[.int .i64 1]],.int .i64 1],a20⟩
theorem Qb:aD EA TT:=aB (n:=100) (l:=[OU]) (by simp only[List.forall_mem_cons];exact⟨HU,by simp⟩) (by kernel_rfl)
def OC:aN:=⟨67,[.fsl 1 [[.int .i64 1]],.int .i64 1],.int .i64 1⟩
theorem Jd:aD EA OC:=aB (n:=100) (l:=[TT]) (by simp only[List.forall_mem_cons];exact⟨Qb,by simp⟩) (by kernel_rfl)
def LU:aN:=⟨32,[zZ,a24],.int .i64 1⟩
theorem CG:aD EA LU:=aB (n:=100) (l:=[LP,OC]) (by simp only[List.forall_mem_cons];exact⟨C5,Jd,by simp⟩) (by kernel_rfl)
def Tm:aN:=⟨42,[zZ,a1,a24,.int .i64 1],a24⟩
theorem Om:aD EA Tm:=aB (n:=100) (l:=[Tp,LU]) (by simp only[List.forall_mem_cons];exact⟨Pd,CG,by simp⟩) (by kernel_rfl)
def SK:aN:=⟨43,[zZ,a1,Ii,.int .i64 1],.tup [.fsl 1 [[.int .i64 1],[.int .i64 0]],.bool true]⟩
theorem Qt:aD EA SK:=aB (n:=100) (l:=[OB,Qc,OQ,O9]) (by simp only[List.forall_mem_cons];exact⟨IA,IW,I5,HT,by simp⟩) (by kernel_rfl)
def SM:aN:=⟨43,[zZ,a1,a22,.int .i64 1],.tup [.fsl 1 [[.int .i64 2],[.int .i64 1]],.bool true]⟩
theorem OX:aD EA SM:=aB (n:=100) (l:=[OF,Qj,PT,PM,LP,LH,Mf,LF,LU]) (by simp only[List.forall_mem_cons];exact⟨I8,IT,HP,HO,C5,CV,DF,DZ,CG,by simp⟩) (by kernel_rfl)
def Tl:aN:=⟨99,[EU,LR],.bool false⟩
theorem Pt:aD EA Tl:=aB (n:=100) (l:=[]) (by simp) (by kernel_rfl)
def TE:aN:=⟨76,[a28,a17],.int .i64 (-1)⟩
theorem Qs:aD EA TE:=aB (n:=100) (l:=[Tl]) (by simp only[List.forall_mem_cons];exact⟨Pt,by simp⟩) (by kernel_rfl)
def TN:aN:=⟨98,[a28,a17],.bool false⟩
theorem O3:aD EA TN:=aB (n:=100) (l:=[TE]) (by simp only[List.forall_mem_cons];exact⟨Qs,by simp⟩) (by kernel_rfl)
def TC:aN:=⟨70,[a1,a28],.bool true⟩
theorem P5:aD EA TC:=aB (n:=100) (l:=[C9,TN]) (by simp only[List.forall_mem_cons];exact⟨uB,O3,by simp⟩) (by kernel_rfl)
def S0:aN:=⟨71,[a1,EU],.bool true⟩
theorem Q2:aD EA S0:=aB (n:=100) (l:=[]) (by simp) (by kernel_rfl)
def TY:aN:=⟨93,[a1,EU],.tup [.agg [.int .i64 0,.int .i64 1],.agg [.int .i64 1,.int .i64 1],.bool true]⟩
theorem Qn:aD EA TY:=aB (n:=100) (l:=[LI]) (by simp only[List.forall_mem_cons];exact⟨Cx,by simp⟩) (by kernel_rfl)
def To:aN:=⟨93,[a1,SD],LZ⟩
theorem Pw:aD EA To:=aB (n:=100) (l:=[LI]) (by simp only[List.forall_mem_cons];exact⟨Cx,by simp⟩) (by kernel_rfl)
def Tj:aN:=⟨32,[zZ,SD],.int .i64 0⟩
theorem PS:aD EA Tj:=aB (n:=100) (l:=[O8,OC]) (by simp only[List.forall_mem_cons];exact⟨Jf,Jd,by simp⟩) (by kernel_rfl)
def SL:aN:=⟨43,[zZ,a1,EU,.int .i64 1],.tup [.fsl 1 [[.int .i64 1],[.int .i64 1]],.bool true]⟩
theorem P7:aD EA SL:=aB (n:=100) (l:=[TC,S0,TY,To,Tj]) (by simp only[List.forall_mem_cons];exact⟨P5,Q2,Qn,Pw,PS,by simp⟩) (by kernel_rfl)
def T3:aN:=⟨16,[a1,.int .i64 0,.int .i64 1,.int .i64 1],.tup [.agg [.bool false,.fsl 1 [[.int .i64 0],[.int .i64 0]],.fsl 1 [[.int .i64 2],[.int .i64 1]],.fsl 1 [[.fsl 1 [[.fsl 1 [[.int .i64 1],[.int .i64 0]]],[.fsl 1 [[.int .i64 2],[.int .i64 1]]]]],[.fsl 1 [[.fsl 1 [[.int .i64 1],[.int .i64 1]]]]]]],.int .i64 0]⟩
theorem Rb:aD EA T3:=aB (n:=100) (l:=[Pa,LM,Tm,SK,SM,SL]) (by simp only[List.forall_mem_cons];exact⟨Hy,C8,Om,Qt,OX,P7,by simp⟩) (by kernel_rfl)
def SY:aN:=⟨73,[a1,a24],.bool true⟩
theorem OG:aD EA SY:=aB (n:=100) (l:=[LF]) (by simp only[List.forall_mem_cons];exact⟨DZ,by simp⟩) (by kernel_rfl)
def Tq:aN:=⟨34,[a1,a25,.aF],.int .i64 0⟩
theorem O_:aD EA Tq:=aB (n:=100) (l:=[LH,Mf,SY]) (by simp only[List.forall_mem_cons];exact⟨CV,DF,OG,by simp⟩) (by kernel_rfl)
def Ta:aN:=⟨64,[a1,a24],.tup [.fsl 2 [[.int .i64 0,.int .i64 2],[.int .i64 1,.int .i64 1]],.int .i64 0]⟩
theorem Q9:aD EA Ta:=aB (n:=100) (l:=[Tq]) (by simp only[List.forall_mem_cons];exact⟨O_,by simp⟩) (by kernel_rfl)
def SC:aN:=⟨30,[a1,.int .i64 1,.int .i64 0],TP⟩
theorem OV:aD EA SC:=aB (n:=100) (l:=[]) (by simp) (by kernel_rfl)
def T7:aN:=⟨94,[.aF,.int .i64 1],a21⟩
theorem Qk:aD EA T7:=aB (n:=100) (l:=[]) (by simp) (by kernel_rfl)
def TB:aN:=⟨67,[.aF,.int .i64 1],.int .i64 0⟩
theorem OT:aD EA TB:=aB (n:=100) (l:=[T7]) (by simp only[List.forall_mem_cons];exact⟨Qk,by simp⟩) (by kernel_rfl)
def SF:aN:=⟨94,[.aF,.int .i64 2],a21⟩
theorem Q4:aD EA SF:=aB (n:=100) (l:=[]) (by simp) (by kernel_rfl)
def T_:aN:=⟨67,[.aF,.int .i64 2],.int .i64 0⟩
theorem P4:aD EA T_:=aB (n:=100) (l:=[SF]) (by simp only[List.forall_mem_cons];exact⟨Q4,by simp⟩) (by kernel_rfl)
def Te:aN:=⟨32,[TP,a24],.int .i64 0⟩
theorem O1:aD EA Te:=aB (n:=100) (l:=[TB,T_]) (by simp only[List.forall_mem_cons];exact⟨OT,P4,by simp⟩) (by kernel_rfl)
def O6:aN:=⟨28,[a1,a24],.tup [.fsl 1 [[.fsl 1 [[.int .i64 0],[.int .i64 1]]],[.fsl 1 [[.int .i64 0],[.int .i64 0]]]],.int .i64 0]⟩
theorem NC:aD EA O6:=aB (n:=100) (l:=[Ta,LM,LU,SC,Te]) (by simp only[List.forall_mem_cons];exact⟨Q9,C8,CG,OV,O1,by simp⟩) (by kernel_rfl)
def QN:aN:=⟨13,[a22,a22],.bool true⟩
theorem Nn:aD EA QN:=aB (n:=100) (l:=[]) (by simp) (by kernel_rfl)
def Q5:aN:=⟨13,[a24,a24],.bool true⟩
theorem MA:aD EA Q5:=aB (n:=100) (l:=[]) (by simp) (by kernel_rfl)
def PR:aN:=⟨48,[EU,EU],.bool true⟩
theorem NO:aD EA PR:=aB (n:=100) (l:=[]) (by simp) (by kernel_rfl)
def Pz:aN:=⟨48,[a31,a31],.bool true⟩
theorem MY:aD EA Pz:=aB (n:=100) (l:=[]) (by simp) (by kernel_rfl)
def Pb:aN:=⟨20,[a32,a32],.bool true⟩
theorem Mr:aD EA Pb:=aB (n:=100) (l:=[PR,Pz]) (by simp only[List.forall_mem_cons];exact⟨NO,MY,by simp⟩) (by kernel_rfl)
theorem F9:∃n H1,run EA n (.fn 6) [] []=some (.bool true,H1):=FZ (n:=100) (l:=[TL,T3,O6,QN,Q5,Pb]) (by simp only[List.forall_mem_cons];exact⟨QJ,Rb,NC,Nn,MA,Mr,by simp⟩) (by kernel_rfl)
theorem calls (n:Nat):iP Tryz.prog (run E n):=BN Rz mixed ⟨LC,fun f b h=>by
 change (if Nat.beq f 6 then some true else none)=some b at h;split at h
 ·rename_i hf;cases h;have:f=6:=Nat.eq_of_beq_eq_true hf;subst this;obtain⟨n,H1,h1⟩:=F9;exact Jb (Pm n) h1
 ·cases h⟩ n
end Go.Proofs.YtnfakljmdnbipaaGreat
